import Derived.Test.YtkkkfkopcfdmaaaGreatDoorC
import Derived.Test.YtkkkfkopcfdmaaaGreatDoorB
set_option linter.all false
namespace Go.Proofs.YtkkkfkopcfdmaaaGreatDoor
open Go Go.Vc Go.RowKit Go.Proofs Go.aT
abbrev gG:TypeId:=252
abbrev Ld:TypeId:=3
abbrev rv(r:Rn):LV:=[.int .i64 r.1,.int .i64 r.2]
abbrev iv(b:Int):LV:=[.int .i64 b]
abbrev k8(w:World)(s:Sl)(l:List Rn):Prop:=RdK w s 2 (l.map rv)
abbrev RJ(w:World)(s:Sl)(c:List Int):Prop:=RdK w s 1 (c.map iv)
abbrev wN(B:Nat)(w:World)(s:Sl)(l:List Rn):Prop:=aE B gG 2 w s (l.map rv)
abbrev OwC(B:Nat)(w:World)(s:Sl)(c:List Int):Prop:=aE B Ld 1 w s (c.map iv)
def wN.HQ{B:Nat}{w:World}{s:Sl}{l:List Rn}(h:wN B w s l):k8 w s l:=aE.rd h ab
def OwC.rdc{B:Nat}{w:World}{s:Sl}{c:List Int}(h:OwC B w s c):RJ w s c:=aE.rd h ab
def k8.len{w:World}{s:Sl}{l:List Rn}(h:k8 w s l):s.n=l.length:=by have:=h.n;simpa using this
def RJ.len{w:World}{s:Sl}{c:List Int}(h:RJ w s c):s.n=c.length:=by have:=h.n;simpa using this
def k8.get{w:World}{s:Sl}{l:List Rn}(_:k8 w s l){i:Nat}{r:Rn}(hi:l[i]? =some r):(l.map rv)[i]? =some (rv r):=by rw [aR,hi];rfl
def k8.c0{w:World}{s:Sl}{l:List Rn}(h:k8 w s l){i:Nat}{r:Rn}(hi:l[i]? =some r):ld w (ae (ae s.a (i*2)) 0)=some (.int .i64 r.1):=RdK.at h (k8.get h hi) (j:=0) rfl
def k8.c1{w:World}{s:Sl}{l:List Rn}(h:k8 w s l){i:Nat}{r:Rn}(hi:l[i]? =some r):ld w (ae (ae s.a (i*2)) 1)=some (.int .i64 r.2):=RdK.at h (k8.get h hi) (j:=1) rfl
def k8.ll{w:World}{s:Sl}{l:List Rn}(h:k8 w s l){i:Nat}{r:Rn}(hi:l[i]? =some r):af w (ae s.a (i*2)) 0 [r.1,r.2]:=RdK.bY h (k8.get h hi)
def RJ.c0{w:World}{s:Sl}{l:List Int}(h:RJ w s l){i:Nat}{b:Int}(hi:l[i]? =some b):ld w (ae s.a (i*1))=some (.int .i64 b):=by have:=h.rd i (iv b) (by rw [aR,hi];rfl) 0 _ rfl;simpa using this
def k8.im{w:World}{s:Sl}{l:List Rn}(h:k8 w s l){i:Nat}(hi:i<l.length):eA s.a (i:Int) s.n:=RdK.im h ab ab (by have:=k8.len h;omega)
def RJ.im{w:World}{s:Sl}{l:List Int}(h:RJ w s l){i:Nat}(hi:i<l.length):eA s.a (i:Int) s.n:=RdK.im h ab ab (by have:=RJ.len h;omega)
def k8.some{w:World}{s:Sl}{l:List Rn}(h:k8 w s l){i:Nat}(hi:i<l.length):(ae s.a (i*2)).isSome=true:=by rw [gL];exact RdK.isSome h ab (i:=i) (by simpa using hi)
def bE{α:Type}{l:List α}{i:Nat}(h:i<l.length):∃r,l[i]? =some r:=⟨_,dm h⟩
abbrev Bd(n:Nat):Prop:=n<=1099511627776
def qD(s:Sl)(l:List Rn)(w:World)(hs:k8 w s l)(hb:Bd l.length)(hl:∀r ∈ l,0<=r.1)(HN:bT l<=1099511627776):
  ah 253 #[s] w λe w'=>e=Value.int .i64 (bT l)/\Ext w w':=by
 have u9:=k8.len hs;apply aaE.vc;refine ⟨λn x y wr=>∃k:Nat,x=k/\k+n=l.length/\Ext w wr/\y=bT (l.take k),⟨l.length,0,rfl,by omega,Ext.cM w,rfl⟩,?_⟩;rintro n us x y wr ⟨k,rfl,hk,xr,rfl⟩;have hw:=aK (n:=(k:Int)+1) (by unfold bN;omega);apply Br.mk<;>intro h<;>simp at h
 ·obtain ⟨r,hr⟩:=bE (l:=l) (i:=k) ab;refine ⟨k8.im hs ab,_,_,k8.ll (hs.ext xr) hr,?_⟩;rintro w9 rfl bP rfl;have e:bT (l.take (k+1))=bT (l.take k)+r.1:=by rw [dR,hr];simp [bT]
  have h0:0<=bT (l.take k)/\0<=r.1/\bT (l.take (k+1))<=bT l:=by
   refine ⟨?_,hl r (aX hr),?_⟩
   ·rw [fe λq hq=>hl q (qd hq)];omega
   ·have:=O7 (l.take (k+1)) (l.drop (k+1));rw [qZ] at this;have h2:0<=bT (l.drop (k+1)):=by rw [fe λq hq=>hl q (zg hq)];omega
    omega
  have Cu:=aK (n:=bT (l.take k)+r.1) (by unfold bN;omega);refine ⟨n-1,by omega,k+1,by omega,by omega,((xr.tr (Ext.al _ _)).setRow xr.size _),by rw [Cu,e]⟩
 ·obtain rfl:k=l.length:=by omega
  rw [iR];exact ⟨rfl,xr⟩
abbrev ajf(s:Sl)(w w':World):Prop:=∀j,s.bf≠some j->j<w.heap.size->w'.heap[j]? =w.heap[j]?
def Gm(B:Nat)(s:Sl)(l:List Rn)(r:Rn)(w:World)(hB:B<=w)(ho:wN B w s l)(hn:Bd l.length)(hl:∀q ∈ l,0<=q.1/\q.1<=1099511627776)(hr:r.1<=1099511627776):
  ah 252 #[s,.agg #[r.1,r.2]] w λe w'=>∃s':Sl,e=s'/\wN B w' s' (jG l r)/\Below B w w'/\ajf s w w':=by
 have u9:=k8.len ho.HQ;apply WJ.vc;rintro w0 rfl;have xa:=Ext.al w (.cells #[r.1,r.2] gG);have xd:=xa.drew;have hz:(w.alloc (.cells #[r.1,r.2] gG)).drew.heap.size=w.heap.size+1:=by simp [World.drew]
 have hw:=aK (n:=((s.n:Nat):Int)-1) (by unfold bN;omega);have grow:∀(_:1<=r.1)(_:∀q,l.getLast? =some q->q.2≠r.2),(∀w4:World,w4=(w.alloc (.cells #[r.1,r.2] gG)).drew.alloc (.cells #[r.1,r.2] gG)->
   ba 16 2 w4 ⟨s.a,s.n,s.c⟩ 1 [r.1,r.2]/\∀(s5:Sl)(w6:World),aY gG 2 w4 ⟨s.a,s.n,s.c⟩ 1 [r.1,r.2] s5 w6->w6.heap[w.heap.size]? =w4.heap[w.heap.size]?/\w6.heap[(w.alloc (.cells #[r.1,r.2] gG)).drew.heap.size]? =w4.heap[(w.alloc (.cells #[r.1,r.2] gG)).drew.heap.size]?/\
   ∃s':Sl,Ending.returned (.slice s5.a s5.n s5.c)=s'/\wN B w6 s' (jG l r)/\Below B w w6/\ajf s w w6):=by
  rintro h1 h2 w4 rfl;obtain ⟨hp,bk⟩:=(aE.ext ho xd).jk (bytes:=16) (news:=rv r) (.cells #[r.1,r.2] gG) (gx hB xd.size) rfl (Bc _ _ _ _) ab ab;refine ⟨hp,λs5 w6 hr'=> ?_⟩;obtain ⟨k1,ho',hn',xb,hk,hb⟩:=bk s5 w6 hr';refine ⟨?_,k1,s5,rfl,?_,(Below.mono xd hB).trans xb,λj hj iC=> ?_⟩
  ·rw [hk _ (λhb=>absurd (ho.own.lt hb).2 (CP _)) ab];symm;exact (Ext.al _ _).heap ab
  ·rw [gD h1 h2];show aE B gG 2 w6 s5 ((l++ [r]).map rv);rw [bW];exact ho'
  ·rw [hk j hj ab];exact xd.heap iC
 apply Br.mk<;>intro h<;>simp at h
 ·exact ⟨s,rfl,by rw [lS h];exact aE.ext ho xa,Below.mono xa hB,λj _ hj=>xa.heap hj⟩
 rw [hw];refine Br.mk (λh'=> ?_) (λh'=> ?_)<;>simp at h'
 ·rcases yg l with rfl|⟨m,q,rfl⟩
  ·simp at u9;omega
  rw [dv] at u9;simp at u9;have ak4:(((s.n:Nat):Int)-1).toNat=m.length:=by omega
  have hq:(m++ [q])[m.length]? =some q:=by simp
  have pc:eA s.a (((s.n:Nat):Int)-1) s.n:=by have:=k8.im ho.HQ (i:=m.length) cp;rwa [show ((m.length:Nat):Int)=((s.n:Nat):Int)-1 from by omega] at this
  have hsome:=k8.some ho.HQ (i:=m.length) cp;rw [ak4];have r1:=RdK.ext ho.HQ xd;have r2:=RdK.ext ho.HQ xd.drew;refine ⟨pc,Ei.2 ⟨hsome,_,k8.c1 r1 hq,Br.mk (λh2=> ?_) (λh2=> ?_)⟩⟩
  ·simp at h2;obtain ⟨q1,q2,q3,q4,q5⟩:=(aE.ext ho xd.drew).set (i:=m.length) (j:=0) (r:=rv q) (v:=.int .i64 (ao (q.1+r.1))) (by rw [aR,hq];rfl) ab rfl (gx hB xd.drew.size);refine ⟨pc,Ei.2 ⟨hsome,_,k8.c0 r2 hq,pc,Ei.2 ⟨hsome,⟨q1,q2⟩,?_,?_⟩⟩⟩
   ·intro hb;have:s.bf=some w.heap.size:=by rw [c5,c5] at hb;exact hb
    exact absurd (ho.own.lt this).2 (CP _)
   ·rintro w3 rfl;have hwq:=aK (n:=q.1+r.1) (by have:=hl q cp;unfold bN;omega);rw [hwq] at q3 q4 q5 ⊢;refine ⟨s,rfl,?_,(Below.mono xd.drew hB).trans q4,λj hj iC=> ?_⟩
    ·rw [kD h h2];show aE B gG 2 _ s ((m++ [(q.1+r.1,q.2)]).map rv);have e:((m++ [q]).map rv).set m.length ((rv q).set 0 (.int .i64 (q.1+r.1)))=(m++ [(q.1+r.1,q.2)]).map rv:=by rw [bW,bW,List.set_append_right _ _ cp];simp
     rw [<-e];exact q3
    ·rw [q5 j hj];exact xd.drew.heap iC
  ·exact grow h (by intro p hp;simp at hp;subst hp;simpa using h2)
 ·have:l=[]:=by apply CI;omega
  subst this;exact grow h cp
def sN(B:Nat)(s:Sl)(c:List Int)(r:Rn)(w:World)(hB:B<=w)(ho:wN B w s (gV c))(hn:Bd c.length)(hr:r.1<=1099511627776):
  ah 252 #[s,.agg #[r.1,r.2]] w λe w'=>∃s':Sl,e=s'/\wN B w' s' (gV (c++List.replicate r.1.toNat r.2))/\Below B w w'/\ajf s w w':=by
 rw [<-O1];refine Gm B s _ r w hB ho (by have:=sB c;unfold Bd at*;omega) (λq hq=> ?_) hr;have:=oa hq;unfold Bd at hn;omega
def Gn(n b:Int)(w:World)(hn:n<=1099511627776):
  ah 320 #[n,b] w λe w'=>∃s':Sl,e=s'/\wN w w' s' (gV (List.replicate n.toNat b))/\Ext w w':=by
 apply WL.vc;refine (sN w ⟨none,0,0⟩ [] (n,b) w (aC _) aE.nil cp hn).mono ?_;rintro e w' ⟨s',rfl,ho,x,_⟩;exact ⟨s',rfl,s',rfl,by simpa using ho,x⟩
def K0(s:Sl)(c:List Int)(w:World)(hs:RJ w s c)(hn:Bd c.length):
  ah 188 #[s] w λe w'=>∃s':Sl,e=s'/\wN w w' s' (gV c)/\Ext w w':=by
 have u9:=RJ.len hs;apply aff.vc;refine ⟨λn x o wr=>∃k:Nat,x=k/\k+n=c.length/\Ext w wr/\wN w wr o (gV (c.take k)),⟨c.length,0,rfl,by omega,Ext.cM w,aE.nil⟩,?_⟩;rintro n us x o wr ⟨k,rfl,hk,xr,ho⟩;unfold Bd at hn;have hw:=aK (n:=(k:Int)+1) (by unfold bN;omega);apply Br.mk<;>intro h<;>simp at h
 ·obtain ⟨b,hb⟩:=bE (l:=c) (i:=k) ab;refine ⟨RJ.im hs ab,_,RJ.c0 (hs.ext xr) hb,?_⟩;refine (sN w o _ (1,b) wr xr.size ho (by rw [dK];unfold Bd;omega) (by show (1:Int)<=_;omega)).mono ?_;rintro e w' ⟨s',rfl,ho',x',_⟩;refine ⟨s',rfl,n-1,by omega,k+1,by omega,by omega,xr.trans x',?_⟩;rw [dR,hb];exact ho'
 ·obtain rfl:k=c.length:=by omega
  rw [iR] at ho;exact ⟨o,rfl,ho,xr⟩
def oY{l:List Rn}{k:Nat}{r:Rn}(hr:l[k]? =some r):bT (l.take (k+1))=bT (l.take k)+r.1:=by rw [dR,hr];simp [bT]
def U2{l:List Rn}(hl:∀r ∈ l,0<=r.1):0<=bT l:=by rw [fe hl];omega
def lf{l:List Rn}(hl:∀r ∈ l,0<=r.1)(k:Nat):0<=bT (l.take k)/\bT (l.take k)<=bT l:=by
 refine ⟨U2 λq hq=>hl q (qd hq),?_⟩;have:=O7 (l.take k) (l.drop k);rw [qZ] at this;have h2:=U2 (l:=l.drop k) λq hq=>hl q (zg hq)
 omega
def tB{l:List Rn}{k:Nat}{r:Rn}(hr:l[k]? =some r):cE (l.take (k+1))=cE (l.take k)++List.replicate r.1.toNat r.2:=by rw [dR,hr,gU];exact congrArg _ (jb r)
def ajn(c:List Int)(a b:Int):(Io c a b).length<=c.length:=by unfold Io;simp;omega
def wY(s:Sl)(l:List Rn)(a b:Int)(w:World)(hs:k8 w s l)(hn:Bd l.length)(hl:∀r ∈ l,0<=r.1)(HN:bT l<=1099511627776)(ha:0<=a)(hb:0<=b):
  ah 319 #[s,a,b] w λe w'=>∃s':Sl,e=s'/\wN w w' s' (gV (Io (cE l) a b))/\Ext w w':=by
 have u9:=k8.len hs;unfold Bd at hn;apply aaF.vc;refine ⟨λn x y o wr=>∃k:Nat,x=k/\k+n=l.length/\Ext w wr/\y=bT (l.take k)/\wN w wr o (gV (Io (cE (l.take k)) a b)),⟨l.length,0,rfl,by omega,Ext.cM w,rfl,?_⟩,?_⟩
 ·have:Io (cE (l.take 0)) a b=[]:=by simp [Io,cE]
  rw [this];exact aE.nil
 rintro n us x y o wr ⟨k,rfl,hk,xr,rfl,ho⟩;have hw:=aK (n:=(k:Int)+1) (by unfold bN;omega);apply Br.mk<;>intro h<;>simp at h
 ·obtain ⟨r,hr⟩:=bE (l:=l) (i:=k) ab;have e:=oY hr;have hr0:=hl r (aX hr);have b1:=lf hl k;have b2:=lf hl (k+1);have Cu:=aK (n:=bT (l.take k)+r.1) (by unfold bN;omega);have hc:((cE (l.take k)).length:Int)=bT (l.take k):=(fe λq hq=>hl q (qd hq)).symm;have aoV:Io (cE (l.take (k+1))) a b=Io (cE (l.take k)) a b++List.replicate (min b (bT (l.take k)+r.1)-max a (bT (l.take k))).toNat r.2:=by rw [tB hr,abg _ _ _ _ _ ha hb];congr 2;omega
  refine ⟨k8.im hs ab,_,_,k8.ll (hs.ext xr) hr,?_⟩;rintro w9 rfl bP rfl;rw [Cu];have bj:=((xr.tr (Ext.al _ (.cells #[aa,aa] gG))).setRow xr.size #[r.1,r.2]);have e1:(if bT (l.take k)+r.1<b then bT (l.take k)+r.1 else b)=min b (bT (l.take k)+r.1):=by split<;>omega
  have e2:(if bT (l.take k)>a then bT (l.take k) else a)=max a (bT (l.take k)):=by split<;>omega
  rw [e1,e2];have hkeep:∀g,o.bf=some g->(((wr.alloc (.cells #[aa,aa] gG)).setRow wr.heap.size #[r.1,r.2]).drew).heap[g]? =wr.heap[g]? :=by intro g hg;have:=(ho.own.lt hg).2;show ((wr.alloc _).setRow wr.heap.size _).heap[g]? =_;rw [setRow_other _ _ _ _ ab];exact (Ext.al _ _).heap this
  have AS:=aE.de ho hkeep;have dN:(Io (cE (l.take k)) a b).length<=1099511627776:=by have:=ajn (cE (l.take k)) a b;omega
  apply Br.mk<;>intro h2<;>simp only [cN,fm] at h2
  ·have Re:=aK (n:=min b (bT (l.take k)+r.1)-max a (bT (l.take k))) (by unfold bN;omega);rw [Re];refine (sN w o _ (min b (bT (l.take k)+r.1)-max a (bT (l.take k)),r.2) _ bj.drew.size AS dN (by show min b (bT (l.take k)+r.1)-max a (bT (l.take k))<=_;omega)).mono ?_;rintro e w' ⟨s',rfl,ho',x',Q0⟩;refine ⟨s',rfl,Q0 _ (λhb=>absurd (ho.own.lt hb).2 (CP _)) (by simp [World.drew,World.setRow]),n-1,by omega,k+1,by omega,by omega,bj.drew.trans x',by omega,?_⟩;rw [aoV];exact ho'
  ·refine ⟨n-1,by omega,k+1,by omega,by omega,bj.drew,by omega,?_⟩;rw [aoV,show (min b (bT (l.take k)+r.1)-max a (bT (l.take k))).toNat=0 from by omega];simpa using AS
 ·obtain rfl:k=l.length:=by omega
  rw [iR] at ho;exact ⟨o,rfl,ho,xr⟩
def lT(s:Sl)(l:List Rn)(w:World)(hs:k8 w s l)(hn:Bd l.length):
  ah 186 #[s] w λe w'=>∃s':Sl,e=s'/\wN w w' s' l/\Ext w w':=by
 have u9:=k8.len hs;unfold Bd at hn;apply Bz.vc;apply Br.mk<;>intro h
 ·have:l=[]:=by
   rcases E4 l.length with h0|h0
   ·exact CI h0
   ·have:=RdK.isSome hs ab (i:=0) (by simpa using h0)
    cases hsa:s.a<;>simp [hsa] at h this
  subst this;exact ⟨⟨none,0,0⟩,rfl,aE.nil,Ext.cM w⟩
 ·rintro w0 rfl;have xa:=Ext.al w (.cells #[] gG);have hz:Go.Vc.Own w gG 2 (w.alloc (.cells #[] gG)) ⟨aB w.heap.size,0,0⟩ []:=.row w.heap.size 0 0 [] (aC _) (Row.new w [] gG) cp (aC _);have hf:(l.map rv).flatten.length=s.n*2:=by rw [bJ hs.wd];simp [u9]
  have h1:One (l.map rv).flatten:=fX λr hr=>by obtain ⟨q,_,rfl⟩:=aW.1 hr;exact Bc _ _ _ _
  obtain ⟨hp,hr⟩:=hz.append (bytes:=16) (m:=s.n) (news:=(l.map rv).flatten) xa.size hf h1 (by simp;omega) (by simp;omega);refine ⟨(l.map rv).flatten,RdK.flat (hs.ext xa) ab,hp,λs2 w3 bk=> ?_⟩;obtain ⟨ho,Vt,xb,_,_⟩:=hr s2 w3 bk;refine ⟨pZ bk hf cp,s2,rfl,⟨by simpa using ho,hs.wd⟩,xa.trans xb⟩
def Gu(s:Sl)(ss:List Sl)(cs:List (List Int))(w:World)(hs:RdK w s 1 (ss.map λt=> [.slice t.a t.n t.c]))(dN:ss.length=cs.length)
  (hr:∀(i:Nat)(t:Sl)(c:List Int),ss[i]? =some t->cs[i]? =some c->k8 w t (gV c))(hb:Bd ss.length)(hn:Bd cs.flatten.length):
  ah 318 #[s] w λe w'=>∃s':Sl,e=s'/\wN w w' s' (gV cs.flatten)/\Ext w w':=by
 have u9:s.n=ss.length:=by have:=hs.n;simpa using this
 unfold Bd at hn hb;apply WK.vc;refine ⟨λn x o wr=>∃k:Nat,x=k/\k+n=ss.length/\Ext w wr/\wN w wr o (gV (cs.take k).flatten),⟨ss.length,0,rfl,by omega,Ext.cM w,aE.nil⟩,?_⟩;rintro n us x o wr ⟨k,rfl,hk,xr,ho⟩;have hw:=aK (n:=(k:Int)+1) (by unfold bN;omega);apply Br.mk<;>intro h<;>simp at h
 ·obtain ⟨t,ht⟩:=bE (l:=ss) (i:=k) ab;obtain ⟨c,hc⟩:=bE (l:=cs) (i:=k) ab;have hrt:=hr k t c ht hc;have htn:=k8.len hrt;have Hm:(cs.take (k+1)).flatten=(cs.take k).flatten++c:=by rw [dR,hc];simp
  have hle:(cs.take k).flatten.length+c.length<=cs.flatten.length:=by have e:=congrArg List.length (congrArg List.flatten (qZ (k+1) cs));rw [CN,Hm] at e;simp only [dv] at e;omega
  have hcl:=sB c;have kf:=hs.rd k [.slice t.a t.n t.c] (by rw [aR,ht];rfl) 0 _ rfl;refine ⟨RdK.im hs ab ab ab,t,xr.ld (by simpa using kf),?_⟩;refine ⟨λn x o wr=>∃j:Nat,x=j/\j+n=(gV c).length/\Ext w wr/\wN w wr o (gV ((cs.take k).flatten++cE ((gV c).take j))),⟨(gV c).length,0,rfl,by omega,xr,by simpa [cE] using ho⟩,?_⟩;rintro n2 yI x2 o2 w2 ⟨j,rfl,hj,x2,AS⟩;have Cu:=aK (n:=(j:Int)+1) (by unfold bN;omega);apply Br.mk<;>intro h2<;>simp at h2
  ·obtain ⟨r,hrr⟩:=bE (l:=gV c) (i:=j) ab;have hrm:=oa (aX hrr);refine ⟨k8.im hrt ab,_,_,k8.ll (hrt.ext x2) hrr,?_⟩;rintro w9 rfl bP rfl;have bj:=((x2.tr (Ext.al _ (.cells #[aa,aa] gG))).setRow x2.size #[r.1,r.2]);have ho3:=aE.de (w':=(w2.alloc (.cells #[aa,aa] gG)).setRow w2.heap.size #[r.1,r.2]) AS (by
    intro g hg;have:=(AS.own.lt hg).2;rw [setRow_other _ _ _ _ ab];exact (Ext.al _ _).heap this)
   have L8:((cs.take k).flatten++cE ((gV c).take j)).length<=1099511627776:=by rw [dv];have h3:=lf (l:=gV c) (λq hq=>by have:=oa hq;omega) j;rw [mC,fe λq hq=>by have:=oa (qd hq);omega] at h3;omega
   refine (sN w o2 _ r _ bj.size ho3 L8 ab).mono ?_;rintro e w' ⟨s',rfl,ho',x',Q0⟩;refine ⟨s',rfl,Q0 _ (λhb=>absurd (AS.own.lt hb).2 (CP _)) (by simp [World.setRow]),n2-1,by omega,j+1,by omega,by omega,bj.trans x',?_⟩;rw [tB hrr,<-gK];exact ho'
  ·obtain rfl:j=(gV c).length:=by omega
   refine ⟨n-1,by omega,k+1,by omega,by omega,x2,?_⟩;rw [iR,oz] at AS;rw [Hm];exact AS
 ·obtain rfl:k=ss.length:=by omega
  rw [dN,iR] at ho;exact ⟨o,rfl,ho,xr⟩
def G3(s:Sl)(c:List Int)(a b x:Int)(w:World)(hs:k8 w s (gV c))(hn:Bd c.length)(ha:bN a)(hb:bN b):
  ah 309 #[s,a,b,x] w λe w'=>∃s':Sl,e=s'/\wN w w' s' (gV (if cK x then Al c a b x else c))/\Ext w w':=by
 have hl:Bd (gV c).length:=gx (sB c) hn;have hp:∀r ∈ gV c,0<=r.1:=λr hr=>by have:=oa hr;omega
 have HN:bT (gV c)<=1099511627776:=by rw [mC];unfold Bd at hn;omega
 unfold Bd at hn;unfold bN at ha hb;apply WI.vc;refine (qD s _ w hs hl hp HN).mono ?_;rintro e w1 ⟨rfl,x1⟩;rw [mC];refine ⟨_,rfl,(gE x w1).mono ?_⟩;rintro e w2 ⟨rfl,x2⟩;have bV:=x1.tr x2;have e1:(if ((c.length:Nat):Int)<(if 0>a then 0 else a) then ((c.length:Nat):Int) else (if 0>a then 0 else a))=min (max a 0) (c.length:Int):=by split<;>split<;>omega
 have e2:(if ((c.length:Nat):Int)<(if 0>b then 0 else b) then ((c.length:Nat):Int) else (if 0>b then 0 else b))=min (max b 0) (c.length:Int):=by split<;>split<;>omega
 rw [e1,e2];refine ⟨_,rfl,Br.mk (λh=> ?_) (λh=>Br.mk (λh2=> ?_) (λh2=> ?_))⟩
 ·simp at h;refine (lT s _ w2 (hs.ext bV) hl).mono ?_;rintro e w3 ⟨s',rfl,ho,x3⟩;refine ⟨s',rfl,s',rfl,?_,bV.tr x3⟩;rw [h];exact aE.low ho bV.size
 ·simp at h h2;refine (lT s _ w2 (hs.ext bV) hl).mono ?_;rintro e w3 ⟨s',rfl,ho,x3⟩;refine ⟨s',rfl,s',rfl,?_,bV.tr x3⟩;rw [h,if_pos rfl,SS c a b x ab];exact aE.low ho bV.size
 ·replace h2:=nN h2;have hm:cK x=true:=by simpa using h
  have hw:=aK (n:=min (max b 0) (c.length:Int)-min (max a 0) (c.length:Int)) (by unfold bN;omega);rw [hw];refine (wY s _ 0 (min (max a 0) (c.length:Int)) w2 (hs.ext bV) hl hp HN ab ab).mono ?_;rintro e w3 ⟨s1,rfl,o1,x3⟩;refine ⟨s1,rfl,(Gn (min (max b 0) (c.length:Int)-min (max a 0) (c.length:Int)) x w3 ab).mono ?_⟩;rintro e w4 ⟨s2,rfl,o2,x4⟩;refine ⟨s2,rfl,(wY s _ (min (max b 0) (c.length:Int)) c.length w4 (((hs.ext bV).ext x3).ext x4) hl hp HN ab ab).mono ?_⟩;rintro e w5 ⟨s3,rfl,o3,x5⟩;refine ⟨s3,rfl,?_⟩;rintro w6 rfl;have x6:=Ext.al w5 (.cells #[s1,s2,s3] 173);rw [oz] at o1 o3;have dy:=Row.new w5 [s1,s2,s3] 173;have kF:RdK (w5.alloc (.cells #[s1,s2,s3] 173)) ⟨aB w5.heap.size,3,3⟩ 1 ([s1,s2,s3].map λt=> [.slice t.a t.n t.c]):=by
   refine ⟨rfl,by simp,λi r hi j v hj=> ?_⟩;show ld _ (ae (aB w5.heap.size) _)=_;rw [bh,dy.ld];rcases i with _|_|_|i<;>simp at hi
   all_goals subst hi
   all_goals rcases j with _|j<;>simp at hj
   all_goals subst hj;rfl
  refine (Gu _ [s1,s2,s3] [Io c 0 (min (max a 0) (c.length:Int)),List.replicate (min (max b 0) (c.length:Int)-min (max a 0) (c.length:Int)).toNat x,Io c (min (max b 0) (c.length:Int)) c.length] _ kF rfl ?_ cp ?_).mono ?_
  ·intro i t d ht hd;rcases i with _|_|_|i<;>simp at ht hd
   ·subst ht;subst hd;exact (((o1.ext x4).ext x5).ext x6).rd ab
   ·subst ht;subst hd;exact ((o2.ext x5).ext x6).rd ab
   ·subst ht;subst hd;exact (o3.ext x6).rd ab
  ·have e:=congrArg List.length (JX c a b x ab);rw [Xp] at e;simp only [kV,List.flatten_nil,q8,dv] at e ⊢;unfold Bd;omega
  ·rintro e w7 ⟨s',rfl,ho,x7⟩;have xx:=(((bV.tr x3).tr x4).tr x5).tr x6;refine ⟨s',rfl,s',rfl,?_,xx.tr x7⟩;rw [if_pos hm,JX c a b x ab];have ho:=aE.low ho xx.size;simpa using ho
def Yn(c:List Int)(i x:Int):List Int:=if cK x=true/\0<=i/\i<(c.length:Int) then c.set i.toNat x else c
def Iu(s:Sl)(c:List Int)(i x:Int)(w:World)(hs:k8 w s (gV c))(hn:Bd c.length)(hi:bN i):
  ah 295 #[s,i,x] w λe w'=>∃s':Sl,e=s'/\wN w w' s' (gV (Yn c i x))/\Ext w w':=by
 have hl:Bd (gV c).length:=gx (sB c) hn;have hp:∀r ∈ gV c,0<=r.1:=λr hr=>by have:=oa hr;omega
 have HN:bT (gV c)<=1099511627776:=by rw [mC];unfold Bd at hn;omega
 have hi':=hi;have hn':=hn;unfold Bd at hn';unfold bN at hi';apply aaB.vc;apply Br.mk<;>intro h<;>simp at h
 ·refine (lT s _ w hs hl).mono ?_;rintro e w3 ⟨s',rfl,ho,x3⟩;refine ⟨s',rfl,s',rfl,?_,x3⟩;unfold Yn;rw [if_neg ab];exact ho
 ·refine (qD s _ w hs hl hp HN).mono ?_;rintro e w1 ⟨rfl,x1⟩;rw [mC];refine ⟨_,rfl,Br.mk (λh2=> ?_) (λh2=> ?_)⟩<;>simp at h2
  ·refine (lT s _ w1 (hs.ext x1) hl).mono ?_;rintro e w3 ⟨s',rfl,ho,x3⟩;refine ⟨s',rfl,s',rfl,?_,x1.tr x3⟩;unfold Yn;rw [if_neg ab];exact aE.low ho x1.size
  ·have hw:=aK (n:=i+1) (by unfold bN;omega);rw [hw];refine (G3 s c i (i+1) x w1 (hs.ext x1) hn hi (by unfold bN;omega)).mono ?_;rintro e w3 ⟨s',rfl,ho,x3⟩;refine ⟨s',rfl,s',rfl,?_,x1.tr x3⟩;unfold Yn;have:=aE.low ho x1.size;rw [Xq c i x h h2] at this
   cases hm:cK x
   ·rw [hm] at this;rw [if_neg cp];exact this
   ·rw [hm] at this;rw [if_pos ⟨rfl,h,h2⟩];exact this
def acf(a b:Int):ao (ao a-b)=ao (a-b):=by unfold IntKind.wrap;simp only [IntKind.bits,IntKind.signed,pU];split<;>split<;>split<;>simp_all<;>omega
def L4(s:Sl)(l:List Rn)(i:Int)(w:World)(hs:k8 w s l)(hn:Bd l.length)(hl:∀r ∈ l,0<=r.1)(HN:bT l<=1099511627776)(hi:bN i):
  ah 194 #[s,i] w λe w'=>e=Value.int .i64 (atC (cE l) i)/\Ext w w':=by
 have u9:=k8.len hs;unfold Bd at hn;apply afe.vc;refine ⟨λn x y wr=>∃k:Nat,x=k/\k+n=l.length/\Ext w wr/\y=ao (i-bT (l.take k))/\(i<0\/bT (l.take k)<=i),⟨l.length,0,rfl,by omega,Ext.cM w,?_,?_⟩,?_⟩
 ·rw [show bT (l.take 0)=0 from rfl,Int.sub_zero,aK hi]
 ·rw [show bT (l.take 0)=0 from rfl];omega
 rintro n us x y wr ⟨k,rfl,hk,xr,rfl,mO⟩;have hw:=aK (n:=(k:Int)+1) (by unfold bN;omega);unfold bN at hi;have hc:∀k,((cE (l.take k)).length:Int)=bT (l.take k):=λk=>(fe λq hq=>hl q (qd hq)).symm
 apply Br.mk<;>intro h<;>simp at h
 ·obtain ⟨r,hr⟩:=bE (l:=l) (i:=k) ab;have e:=oY hr;have hr0:=hl r (aX hr);have b1:=lf hl k;have b2:=lf hl (k+1);refine ⟨k8.im hs ab,_,_,k8.ll (hs.ext xr) hr,?_⟩;rintro w9 rfl bP rfl;have bj:=((xr.tr (Ext.al _ (.cells #[aa,aa] gG))).setRow xr.size #[r.1,r.2]);have hwi:=abn (i-bT (l.take k));unfold bN at hwi;have ahd:i<0->(0<=ao (i-bT (l.take k))->ao (i-bT (l.take k))<r.1->False):=by intro h0 h1 h2;revert h1 h2;unfold IntKind.wrap;simp only [IntKind.bits,IntKind.signed,pU];split<;>simp_all<;>omega
  have Cd:0<=i->bT (l.take k)<=i->ao (i-bT (l.take k))=i-bT (l.take k):=λ_ _=>wI
  have nx:(i<0\/bT (l.take (k+1))<=i)->∃n6,n6<n/\∃k_1:Nat,ao ((k:Int)+1)=k_1/\k_1+n6=l.length/\Ext w ((wr.alloc (.cells #[aa,aa] gG)).setRow wr.heap.size #[r.1,r.2])/\
    ao (ao (i-bT (l.take k))-r.1)=ao (i-bT (l.take k_1))/\(i<0\/bT (l.take k_1)<=i):=
   λhh=>⟨n-1,by omega,k+1,by omega,by omega,bj,by rw [acf,e,Int.sub_sub],hh⟩
  refine Br.mk (λh1=>Br.mk (λh2=> ?_) (λh2=> ?_)) (λh1=> ?_)<;>simp only [cN,fm] at*
  ·rcases tn i 0 with h0|h0
   ·exact (ahd h0 h1 h2).elim
   ·have hle:bT (l.take k)<=i:=by omega
    have:=Cd h0 hle;have ht:l=l.take k++ [r]++l.drop (k+1):=by have:=qZ (k+1) l;rw [dR,hr] at this;exact this.symm
    refine ⟨?_,bj⟩;have hcell:cE l=cE (l.take k)++List.replicate r.1.toNat r.2++cE (l.drop (k+1)):=by rw [<-jb r,<-gU,<-gU,<-ht]
    rw [hcell,ajm _ _ _ _ _ (by rw [hc];exact hle) (by rw [hc];omega)]
  ·refine nx ?_;rcases tn i 0 with h0|h0
   ·exact .inl h0
   ·have:=Cd h0 ab;right;omega
  ·refine nx ?_;rcases tn i 0 with h0|h0
   ·exact .inl h0
   ·have:=Cd h0 ab;omega
 ·obtain rfl:k=l.length:=by omega
  refine ⟨?_,xr⟩;have:=hc l.length;rw [iR] at this mO;rw [afH _ _ ab]
def Yo(may:Int->Bool)(prev:Option Int)(left:Int)(r:Rn)(t:List Rn):vZ may prev left (r::t)=if r.1<1\/r.1>left\/may r.2=false\/prev=some r.2 then false else vZ may (some r.2) (left-r.1) t:=rfl
def xh(s:Sl)(l:List Rn)(m:Int)(w:World)(hs:k8 w s l)(hn:Bd l.length)(hm:bN m):
  ah 185 #[s,m] w λe w'=>e=Value.bool (sG cK l m)/\Ext w w':=by
 have u9:=k8.len hs;unfold Bd at hn;unfold bN at hm;apply aaD.vc;have hprev:∀k,k<l.length->(l.take k).getLast? =if k=0 then none else l[k-1]? :=by
  intro k hk;rw [List.getLast?_eq_getElem?,qX,dK,Nat.min_eq_left ab];rcases E4 k with rfl|h0
  ·simp
  ·rw [if_pos ab,if_neg ab]
 refine ⟨λn x y wr=>∃k:Nat,x=k/\k+n=l.length/\Ext w wr/\y<=max m 0/\(min m 0<=y)/\vZ cK ((l.take k).getLast?.map (·.2)) y (l.drop k)=vZ cK none m l,⟨l.length,0,rfl,by omega,Ext.cM w,by omega,by omega,rfl⟩,?_⟩;rintro n us x y wr ⟨k,rfl,hk,xr,hy,hy0,heq⟩;have hw:=aK (n:=(k:Int)+1) (by unfold bN;omega);apply Br.mk<;>intro h<;>simp at h
 ·obtain ⟨r,hr⟩:=bE (l:=l) (i:=k) ab;have hd:l.drop k=r::l.drop (k+1):=by
   rw [zU ab];rw [dm ab] at hr
   cases hr;rfl
  rw [hd] at heq;rw [Yo] at heq;refine ⟨k8.im hs ab,_,_,k8.ll (hs.ext xr) hr,?_⟩;rintro w9 rfl bP rfl;have bj:=((xr.tr (Ext.al _ (.cells #[aa,aa] gG))).setRow xr.size #[r.1,r.2]).drew;have fin:∀w',Ext w w'->(r.1<1\/r.1>y\/cK r.2=false\/(l.take k).getLast?.map (·.2)=some r.2)->Ending.returned (.bool false)=Value.bool (sG cK l m)/\Ext w w':=by intro w' x' hh;rw [if_pos hh] at heq;refine ⟨?_,x'⟩;unfold sG;rw [<-heq];simp
  refine Br.mk (λh1=> ?_) (λh1=>Br.mk (λh2=> ?_) (λh2=> ?_))<;>simp only [cN,fm] at*
  ·exact fin _ bj (.inl h1)
  ·exact fin _ bj (.inr (.inl h2))
  ·refine (gE r.2 _).mono ?_;rintro e w3 ⟨rfl,x3⟩;have x4:=bj.tr x3;have dy:Row ((wr.alloc (.cells #[aa,aa] gG)).setRow wr.heap.size #[r.1,r.2]).drew wr.heap.size [r.1,r.2] gG:=(Row.new wr [aa,aa] gG).set [r.1,r.2];have hrow3:=dy.ext x3;have hkeep:=x3.heap dy.lt;have hll:af w3 (aB wr.heap.size) 0 [r.1]:=by
    refine hrow3.bY (o:=0) λj hj=> ?_
    have:j=0:=by simpa using hj
    subst this;rfl
   have nx:((l.take k).getLast?.map (·.2)≠some r.2)->cK r.2=true->∃n6,n6<n/\∃k_1:Nat,ao ((k:Int)+1)=k_1/\k_1+n6=l.length/\Ext w w3/\ao (y-r.1)<=max m 0/\min m 0<=ao (y-r.1)/\vZ cK ((l.take k_1).getLast?.map (·.2)) (ao (y-r.1)) (l.drop k_1)=vZ cK none m l:=by
    intro jh hbm;have hwy:=aK (n:=y-r.1) (by unfold bN;omega);refine ⟨n-1,by omega,k+1,by omega,by omega,x4,by omega,by omega,?_⟩;rw [hwy];rw [if_neg (by
     rintro (h|h|h|h)
     ·omega
     ·omega
     ·rw [hbm] at h;cases h
     ·exact jh h)] at heq
    rw [<-heq,dR,hr];simp
   refine ⟨_,rfl,hkeep,hll,hll,Br.mk (λh3=> ?_) (λh3=> ?_)⟩
   ·exact fin _ x4 (.inr (.inr (.inl (by simpa using h3))))
   ·have hbm:cK r.2=true:=by simpa using h3
    apply Br.mk<;>intro h4<;>simp at h4
    ·have VD:=aK (n:=(k:Int)-1) (by unfold bN;omega);rw [VD];obtain ⟨q,hq⟩:=bE (l:=l) (i:=k-1) ab;have pc:=k8.im hs (i:=k-1) ab;rw [show ((k-1:Nat):Int)=(k:Int)-1 from by omega] at pc;have hcq:=k8.c1 (hs.ext x4) hq;have hsm:=k8.some hs (i:=k-1) ab;rw [show ((k:Int)-1).toNat=k-1 from by omega];have hlast:=hprev k ab;rw [if_neg ab,hq] at hlast;refine ⟨pc,Ei.2 ⟨hsm,_,hcq,Br.mk (λh5=> ?_) (λh5=> ?_)⟩⟩
     ·exact fin _ x4 (.inr (.inr (.inr (by rw [hlast];simpa using h5))))
     ·exact nx (by rw [hlast];simpa using h5) hbm
    ·refine nx ?_ hbm;have:k=0:=by omega
     subst this;simp
 ·obtain rfl:k=l.length:=by omega
  rw [List.drop_length] at heq;apply Br.mk<;>intro h1<;>simp at h1
  ·refine ⟨?_,xr⟩;unfold sG;rw [<-heq,decide_eq_true h1];rfl
  ·refine ⟨?_,xr⟩;unfold sG;rw [decide_eq_false ab];rfl
open Go.Code
abbrev iA:TypeId:=5
abbrev yv(b:Int):LV:=[.int .u8 b]
abbrev ij(w:World)(s:Sl)(b:List Int):Prop:=RdK w s 1 (b.map yv)
abbrev m4(B:Nat)(w:World)(s:Sl)(b:List Int):Prop:=aE B iA 1 w s (b.map yv)
abbrev InY(b:List Int):Prop:=∀c ∈ b,0<=c/\c<256
def m4.H3{B:Nat}{w:World}{s:Sl}{c:List Int}(h:m4 B w s c):ij w s c:=aE.rd h ab
def ij.len{w:World}{s:Sl}{c:List Int}(h:ij w s c):s.n=c.length:=by have:=h.n;simpa using this
def ij.c0{w:World}{s:Sl}{l:List Int}(h:ij w s l){i:Nat}{b:Int}(hi:l[i]? =some b):ld w (ae s.a (i*1))=some (.int .u8 b):=by have:=h.rd i (yv b) (by rw [aR,hi];rfl) 0 _ rfl;simpa using this
def ij.im{w:World}{s:Sl}{l:List Int}(h:ij w s l){i:Nat}(hi:i<l.length):eA s.a (i:Int) s.n:=RdK.im h ab ab (by have:=ij.len h;omega)
def ij.ll{w:World}{s:Sl}{l:List Int}(h:ij w s l):af w s.a 0 (l.map (Value.int .u8)):=
 Fh λj v hj=>by rw [aR,zD] at hj;obtain ⟨b,hb,rfl⟩:=hj;have:=ij.c0 h hb;simpa using this
def str_inj{b c:List Int}(hb:InY b)(hc:InY c):strOfNums b=strOfNums c ↔ b=c:=by
 refine ⟨λh=> ?_,λh=>by rw [h]⟩;have e:b.map (λn=>UInt8.ofNat n.toNat)=c.map λn=>UInt8.ofNat n.toNat:=by have:=congrArg (λs:ByteArray=>s.data.toList) h;simpa [strOfNums] using this
 clear h
 induction b generalizing c with
 |nil=>cases c with
  |nil=>rfl
  |cons y c=>simp at e
 |cons x b ih=>cases c with
  |nil=>simp at e
  |cons y c=>
   simp only [List.map_cons,List.cons.injEq] at e;have h1:=hb x (.head _);have h2:=hc y (.head _);have h3:=congrArg UInt8.toNat e.1;simp at h3;rw [show x=y from by omega,ih (λq hq=>hb q (.tail _ hq)) (λq hq=>hc q (.tail _ hq)) e.2]
def DV(s t:Sl)(b c:List Int)(w:World)(hs:ij w s b)(ht:ij w t c)(hb:InY b)(hc:InY c):
  ah 25 #[s,t] w λe w'=>e=Value.bool (decide (b=c))/\w'=w:=by
 apply Sb.vc;refine ⟨b,(ij.len hs).symm,ij.ll hs,c,(ij.len ht).symm,ij.ll ht,?_,rfl⟩;have:ti (strOfNums b) (strOfNums c)=decide (b=c):=by rw [Bool.eq_iff_iff,JR,str_inj hb hc,decide_eq_true_iff]
 rw [this]
def B3(n:Int)(w:World)(hi:bN n):
  ah 254 #[n] w λe w'=>∃s:Sl,e=s/\m4 w w' s (qA n)/\Ext w w':=by
 apply N9.vc;refine Br.mk (λh=> ?_) (λh=>Br.mk (λh2=> ?_) (λh2=> ?_))<;>simp only [cN,fm] at*
 ·exact ⟨⟨none,0,0⟩,rfl,by unfold qA;rw [if_pos (.inl h)];exact aE.nil,Ext.cM w⟩
 ·exact ⟨⟨none,0,0⟩,rfl,by unfold qA;rw [if_pos (.inr h2)];exact aE.nil,Ext.cM w⟩
 have e0:qA n=vS 3 n:=by unfold qA;rw [if_neg ab]
 rw [e0];refine ⟨λm x o wr=>∃(k:Nat)(b:List Int),k=m/\1<=k/\k<=3/\0<=x/\x<128 ^ k/\b.length+k=3/\Ext w wr/\m4 w wr o b/\b++vS k x=vS 3 n,⟨3,3,[],rfl,by omega,by omega,by omega,by omega,rfl,Ext.cM w,aE.nil,rfl⟩,?_⟩;rintro m us x o wr ⟨k,b,rfl,k1,k3,hx0,hx,Ma,xr,ho,heq⟩;have hon:=ij.len (m4.H3 ho);apply Br.mk<;>intro h3<;>simp only [cN,fm] at h3
 ·obtain ⟨j,rfl⟩:∃j,k=j+1:=⟨k-1,by omega⟩;rintro w7 rfl;rw [amx x hx0];obtain ⟨hp,bk⟩:=aE.jk ho (bytes:=1) (news:=yv (128+x % 128)) (.cells #[.int .u8 (128+x % 128)] iA) xr.size rfl (uu _ _) ab ab;refine ⟨hp,λHp dH hr'=> ?_⟩;obtain ⟨k1',ho',_,xb,_,_⟩:=bk Hp dH hr';have avj:x.fdiv (2 ^(min (7:Int).toNat 64))=x / 128:=by rw [show ((2:Int) ^(min (7:Int).toNat 64))=128 from by decide];exact tq _ ab
  rw [avj];have hj:1<=j:=by
   rcases E4 j with rfl|h
   ·simp at hx;omega
   ·exact h
  refine ⟨k1',j,by omega,j,b++ [128+x % 128],rfl,hj,by omega,by omega,?_,by simp;omega,xr.trans xb,?_,?_⟩
  ·rw [Int.pow_succ] at hx;omega
  ·show aE _ _ 1 _ _ ((b++ [128+x % 128]).map yv);rw [bW];exact ho'
  ·rw [<-heq];show _=b++(if x<128 then [x] else (128+x % 128)::vS j (x / 128));rw [if_neg ab];simp
 ·rintro w7 rfl;have hwx:fi x=x:=by rw [wrap_u8];omega
  rw [hwx];obtain ⟨hp,bk⟩:=aE.jk ho (bytes:=1) (news:=yv x) (.cells #[.int .u8 x] iA) xr.size rfl (uu _ _) ab ab;refine ⟨hp,λHp dH hr'=> ?_⟩;obtain ⟨k1',ho',_,xb,_,_⟩:=bk Hp dH hr';refine ⟨k1',Hp,rfl,?_,xr.trans xb⟩;rw [<-heq];obtain ⟨j,rfl⟩:∃j,k=j+1:=⟨k-1,by omega⟩;show aE _ _ 1 _ _ ((b++(if x<128 then [x] else (128+x % 128)::vS j (x / 128))).map yv);rw [if_pos ab,bW];exact ho'
def drop_cons{α:Type}{l:List α}{k:Nat}{c:α}(h:l[k]? =some c):l.drop k=c::l.drop (k+1):=by obtain ⟨h1,h2⟩:=cG.1 h;rw [zU h1,h2]
def BU(s:Sl)(b:List Int)(w:World)(hs:ij w s b)(hb:InY b)(hc:s.n<=s.c):
  ah 184 #[s] w λe w'=>e=Value.tuple #[.int .i64 (fw b).1,.int .i64 (fw b).2.1,.int .i64 (fw b).2.2]/\w'=w:=by
 have hn:=ij.len hs;apply N5.vc;have em:(if 3<((s.n:Nat):Int) then 3 else ((s.n:Nat):Int))=((min 3 s.n:Nat):Int):=by split<;>omega
 rw [em];refine ⟨by omega,by omega,?_⟩;refine ⟨λn x y wr=>∃k:Nat,x=k/\k+n=min 3 s.n/\wr=w/\0<=y/\y<128 ^ k/\sE (3-k) k y (b.drop k)=fw b,⟨min 3 s.n,0,rfl,by omega,rfl,by omega,by omega,rfl⟩,?_⟩;rintro n us x y wr ⟨k,rfl,hk,rfl,y0,y1,heq⟩;have hw:=aK (n:=(k:Int)+1) (by unfold bN;omega);apply Br.mk<;>intro h<;>simp only [cN,fm] at h
 ·obtain ⟨c,hcb⟩:=bE (l:=b) (i:=k) ab;have hci:=hb c (aX hcb);rw [drop_cons hcb,show 3-k=(2-k)+1 from by omega,zJ] at heq;have pc:=ij.im hs (i:=k) ab;obtain ⟨o1,o2⟩:=aiY k ab y c y0 y1 hci.1 hci.2;have hp:=aap k y c y1;have hp0:0<=(128:Int) ^ k:=Int.pow_nonneg ab;have hm0:0<=c % 128*128 ^ k:=Fq ab hp0;refine ⟨⟨?_,by omega,by omega⟩,c,?_,?_⟩
  ·have:=pc.1;unfold aJ;split
   ·exact this
   ·rw [Option.isSome_map];exact this
  ·rw [ux];exact ij.c0 hs hcb
  ·rw [o1,hw];refine aeL.2 ⟨o2,?_⟩;apply Br.mk<;>intro h1<;>simp only [cN,fm] at h1
   ·rw [if_pos h1] at heq;exact ⟨n-1,by omega,k+1,by omega,by omega,rfl,by omega,hp,by rw [show 3-(k+1)=2-k from by omega];exact heq⟩
   ·rw [if_neg h1] at heq;refine Br.mk (λh2=>Br.mk (λh3=> ?_) (λh3=>Br.mk (λh4=> ?_) (λh4=> ?_))) (λh2=>Br.mk (λh4=> ?_) (λh4=> ?_))<;>simp only [cN,fm,beq_iff_eq,beq_eq_false_iff_ne] at*
    ·rw [if_pos (.inl ⟨h2,by omega⟩)] at heq;exact ⟨by rw [<-heq],by first|rfl|trivial⟩
    ·rw [if_pos (.inr h4)] at heq;exact ⟨by rw [<-heq],by first|rfl|trivial⟩
    ·rw [if_neg ab] at heq;exact ⟨by rw [<-heq],by first|rfl|trivial⟩
    ·rw [if_pos (.inr h4)] at heq;exact ⟨by rw [<-heq],by first|rfl|trivial⟩
    ·rw [if_neg ab] at heq;exact ⟨by rw [<-heq],by first|rfl|trivial⟩
 ·have hkm:k=min 3 s.n:=by omega
  apply Br.mk<;>intro h2<;>simp only [cN,fm] at h2
  ·have:b.drop k=[]:=List.drop_eq_nil_of_le ab;rw [this,show 3-k=(2-k)+1 from by omega] at heq;exact ⟨by rw [<-heq];rfl,by first|rfl|trivial⟩
  ·rw [show 3-k=0 from by omega] at heq;exact ⟨by rw [<-heq];rfl,by first|rfl|trivial⟩
abbrev ahI(B:Nat)(l:List Rn)(e:Ending)(w':World):Prop:=
 ∃s:Sl,e=Value.tuple #[s,.int .i64 (if okW cK l then 0 else 1)]/\m4 B w' s (if okW cK l then sy l else [])
def X9(left:Int)(r:Rn)(t:List Rn):FN left (r::t)=if r.1<1\/r.1>left then false else FN (left-r.1) t:=rfl
def DL(s:Sl)(l:List Rn)(w:World)(hs:k8 w s l)(hb:l.length<=2000000)(hl:∀r ∈ l,bN r.1/\bN r.2):
  ah 190 #[s] w λe w'=>ahI w l e w'/\Ext w w':=by
 have u9:=k8.len hs;apply R7.vc;refine ⟨λn x y wr=>∃k:Nat,x=k/\k+n=l.length/\Ext w wr/\0<=y/\y<=1048576/\y=1048576-bT (l.take k)/\FN y (l.drop k)=FN 1048576 l,⟨l.length,0,rfl,by omega,Ext.cM w,by omega,by omega,rfl,rfl⟩,?_⟩;rintro n us x y wr ⟨k,rfl,hk,xr,y0,y1,hy,heq⟩;have hw:=aK (n:=(k:Int)+1) (by unfold bN;omega);apply Br.mk<;>intro h<;>simp only [cN,fm] at h
 ·obtain ⟨r,hr⟩:=bE (l:=l) (i:=k) ab;have hd:=drop_cons hr;rw [hd,X9] at heq;refine ⟨k8.im hs ab,_,_,k8.ll (hs.ext xr) hr,?_⟩;rintro w9 rfl bP rfl;have bj:=((xr.tr (Ext.al _ (.cells #[aa,aa] gG))).setRow xr.size #[.int .i64 r.1,.int .i64 r.2]);have bad:∀w',Ext w w'->(r.1<1\/r.1>y)->ahI w l (.returned (.tuple #[.slice none 0 0,(1:Int)])) w'/\Ext w w':=by
   intro w' x' hh;rw [if_pos hh] at heq;have:okW cK l=false:=by unfold okW;rw [<-heq];rfl
   exact ⟨⟨⟨none,0,0⟩,by rw [this];rfl,by rw [this];exact aE.nil⟩,x'⟩
  refine Br.mk (λh1=> ?_) (λh1=>Br.mk (λh2=> ?_) (λh2=> ?_))<;>simp only [cN,fm] at h1
  ·exact bad _ bj (.inl h1)
  ·replace h2:=nA h2;have v8:=hl r (aX hr);unfold bN at v8;have Cu:=aK (n:=y-r.1) (by unfold bN;omega);exact bad _ bj (.inr ab)
  ·replace h2:=nN h2;have v8:=hl r (aX hr);unfold bN at v8;have Cu:=aK (n:=y-r.1) (by unfold bN;omega);rw [if_neg ab] at heq;have e:=oY hr;refine ⟨n-1,by omega,k+1,by omega,by omega,bj,by omega,by omega,by omega,?_⟩;rw [<-heq,Cu]
 ·have QQ:k=l.length:=by omega
  subst QQ;rw [List.drop_length] at heq;rw [iR] at hy;have apO:FN 1048576 l=true:=by rw [<-heq];rfl
  have Cd:=(Ns apO).1;refine (qD s l wr (hs.ext xr) (by unfold Bd;omega) (λr hr=>by have:=Cd r hr;omega) ab).mono ?_;rintro e w0 ⟨rfl,x0⟩;refine ⟨_,rfl,(xh s l (bT l) w0 ((hs.ext xr).ext x0) (by unfold Bd;omega) (by unfold bN;omega)).mono ?_⟩;rintro e w1 ⟨rfl,x1⟩;have bn:okW cK l=sG cK l (bT l):=by unfold okW;rw [apO];rfl
  have jQ:=(xr.tr x0).tr x1;refine ⟨_,rfl,Br.mk (λh2=> ?_) (λh2=> ?_)⟩
  ·have:okW cK l=false:=by rw [bn];simpa using h2
   exact ⟨⟨⟨none,0,0⟩,by rw [this];rfl,by rw [this];exact aE.nil⟩,jQ⟩
  ·have apP:okW cK l=true:=by rw [bn];simpa using h2
   refine ⟨λn x o wr=>∃k:Nat,x=k/\k+n=l.length/\Ext w wr/\m4 w wr o (sy (l.take k)),⟨l.length,0,rfl,by omega,jQ,aE.nil⟩,?_⟩;rintro n2 yI x2 o w2 ⟨j,rfl,hj,x2,ho⟩;have hwj:=aK (n:=(j:Int)+1) (by unfold bN;omega);apply Br.mk<;>intro h<;>simp only [cN,fm] at h
   ·obtain ⟨r,hr⟩:=bE (l:=l) (i:=j) ab;have v8:=hl r (aX hr);have hon:=ij.len (m4.H3 ho);have hol:=UH (l.take j);rw [dK] at hol;refine ⟨k8.im hs ab,_,_,k8.ll (hs.ext x2) hr,?_⟩;rintro gl rfl cW alD fx rfl;have dY:Ext w cW:=by rw [alD];exact ((x2.tr (Ext.al _ (.cells #[aa,aa] gG))).setRow x2.size #[.int .i64 r.1,.int .i64 r.2])
    have dy:Row cW w2 [.int .i64 r.1,.int .i64 r.2] gG:=by rw [alD];exact (Row.new w2 [aa,aa] gG).set [.int .i64 r.1,.int .i64 r.2]
    have Zv:m4 w cW.drew o (sy (l.take j)):=by refine aE.ext (aE.de ho (w':=cW) ?_) (Ext.dr _);intro g hg;have:=(ho.own.lt hg).2;rw [alD,setRow_other _ _ _ _ ab];exact (Ext.al _ _).heap this
    have hlt25:=dy.lt;have xd:=dY.drew;have hrowd:=dy.ext (Ext.dr cW);have hz:=lE cW;rw [wrap_u8];obtain ⟨hp,bk⟩:=aE.jk Zv (bytes:=1) (news:=yv (r.2 % 256)) (.cells #[.int .u8 (r.2 % 256)] iA) xd.size rfl (uu _ _) ab ab;refine ⟨hp,λVy iw hr'=> ?_⟩;obtain ⟨k1,ho',hn',xb,Q0,Ma⟩:=bk Vy iw hr';have gm:Ext w iw:=xd.trans xb;have we:o.bf≠some w2.heap.size:=λhb=>absurd (ho.own.lt hb).2 (CP _)
    have apQ:iw.heap[w2.heap.size]? =cW.drew.heap[w2.heap.size]? :=Q0 _ we ab;have hrow28:=hrowd.same apQ;have hlt28:=hrow28.lt;have hlt28':cW.drew.heap.size<iw:=by have e:(cW.drew.alloc (.cells #[.int .u8 (r.2 % 256)] iA)).heap[cW.drew.heap.size]? =some (.cells #[.int .u8 (r.2 % 256)] iA (0,0)):=Row.new cW.drew [.int .u8 (r.2 % 256)] iA;rw [<-k1] at e;exact (tg.1 e).1
    have ll0:∀{w'},Row w' w2 [.int .i64 r.1,.int .i64 r.2] gG->af w' (aB w2.heap.size) 0 [.int .i64 r.1]:=λhh=>hh.bY (o:=0) λj hj=>by
     have:j=0:=by simpa using hj
     subst this;rfl
    have ll1:∀{w'},Row w' w2 [.int .i64 r.1,.int .i64 r.2] gG->af w' (dC w2.heap.size 1) 0 [.int .i64 r.2]:=λhh=>hh.bY (o:=1) λj hj=>by
     have:j=0:=by simpa using hj
     subst this;rfl
    refine ⟨?_,k1,ll0 hrow28,ll1 hrow28,(B3 r.1 iw v8.1).mono ?_⟩
    ·rw [apQ];symm;exact (Ext.al _ _).heap ab
    rintro e dW ⟨sn,rfl,on,gn⟩;have hnn:=ij.len (m4.H3 on);have Y0:=Nu r.1;have hrow29:=hrow28.ext gn;refine ⟨sn,rfl,gn.heap hlt28,gn.heap hlt28',ll1 hrow29,((qA r.1).map yv).flatten,RdK.flat (m4.H3 on) ab,?_⟩;have ho3:aE w iA 1 dW Vy _:=aE.ext ho' gn;obtain ⟨Zm,hres2⟩:=aE.H2 ho3 (bytes:=1) (more:=(qA r.1).map yv) (gm.tr gn).size cp (by intro q hq;obtain ⟨c,_,rfl⟩:=aW.1 hq;exact uu _ _) (by simp;omega) (by simp;omega);rw [aN] at Zm hres2;rw [hnn];refine ⟨Zm,λwA eT qM=> ?_⟩;obtain ⟨ho4,_,xb2,Hh,_⟩:=hres2 wA eT qM;have jh:Vy.bf≠some w2.heap.size:=by
     rcases Ma with h|h
     ·rw [h];exact we
     ·rw [h];intro hb;simp at hb;omega
    have hne2:Vy.bf≠some cW.drew.heap.size:=by
     rcases Ma with h|h
     ·rw [h];intro hb;exact absurd (Zv.own.lt hb).2 (CP _)
     ·rw [h];intro hb;simp at hb
    have apR:=Hh _ jh (kM hlt28 gn.size);refine ⟨apR,Hh _ hne2 (kM hlt28' gn.size),ll1 (hrow29.same apR),n2-1,by omega,j+1,by omega,by omega,(gm.tr gn).trans xb2,?_⟩;rw [aaq hr];show aE _ _ 1 _ _ ((sy (l.take j)++(r.2 % 256::qA r.1)).map yv);rw [bW,fu];have:=ho4;rw [gK] at this;exact this
   ·have:j=l.length:=by omega
    subst this;rw [iR] at ho;exact ⟨⟨o,by rw [apP];rfl,by rw [apP];exact ho⟩,x2⟩
def Z8(b:List Int):∀r ∈ b.map yv,One r:=by intro q hq;obtain ⟨c,_,rfl⟩:=aW.1 hq;exact uu _ _
abbrev acg(B:Nat)(p:List Rn × Int)(e:Ending)(w':World):Prop:=
 ∃s:Sl,e=Value.tuple #[s,p.2]/\wN B w' s p.1
def yx(may:Int->Bool)(f:Nat)(c:Int)(t:List Int)(n last:Int)(acc:List Rn):nH may (f+1) (c::t) n last acc=
  if may c=false\/c=last then ([],2)
  else if (fw t).2.2≠0 then ([],(fw t).2.2)
  else if (fw t).1=0\/(fw t).1>n then ([],2)
  else if n-(fw t).1=0 then (if t.drop (fw t).2.1.toNat=[] then (acc++ [((fw t).1,c)],0) else ([],2))
  else nH may f (t.drop (fw t).2.1.toNat) (n-(fw t).1) c (acc++ [((fw t).1,c)]):=rfl
def ach{B:Nat}{p:List Rn × Int}{q:Int}{w':World}(h:p=([],q)):acg B p (.returned (.tuple #[.slice none 0 0,q])) w':=by subst h;exact ⟨⟨none,0,0⟩,rfl,aE.nil⟩
def G6{may:Int->Bool}:∀(f g:Nat)(b:List Int) {n last:Int} {acc:List Rn} (_:b.length<f) (_:b.length<g),nH may f b n last acc=nH may g b n last acc
 |0,_,_,_,_,_,h,_=>by omega
 |_+1,0,_,_,_,_,_,h=>by omega
 |f+1,g+1,[],_,_,_,_,_=>rfl
 |f+1,g+1,c::t,n,last,acc,h1,h2=>by
  rw [yx,yx]
  have hd:=Es 3 0 0 t ab
  rw [show sE 3 0 0 t=fw t from rfl] at hd
  simp only [du] at h1 h2
  rw [G6 f g (t.drop (fw t).2.1.toNat) (by rw [Af];omega) (by rw [Af];omega)]
def G8(s:Sl)(b:List Int)(n:Int)(w:World)(hs:ij w s b)(hb:InY b)(hc:s.n<=s.c)(hl:b.length<=1099511627776)(hn:1<=n)(hn':bN n):
  ah 134 #[s,n] w λe w'=>acg w (jX cK b n) e w'/\Ext w w':=by
 unfold bN at hn';apply WB.vc;refine ⟨λm s3 last left o wr=>∃(b':List Int)(acc:List Rn),m=b'.length/\ij w s3 b'/\s3.n<=s3.c/\InY b'/\acc.length+b'.length<=b.length/\1<=left/\left<=n/\Ext w wr/\wN w wr o acc/\nH cK (b'.length+1) b' left last acc=jX cK b n,⟨b.length,b,[],rfl,hs,hc,hb,by simp,hn,by omega,Ext.cM w,aE.nil,rfl⟩,?_⟩;rintro m us s3 last left o wr ⟨b',acc,rfl,h3,h3c,hb',awD,hl1,L8,xr,ho,heq⟩;have hn3:=ij.len h3;apply Br.mk<;>intro h<;>simp only [cN,fm] at h
 ·obtain ⟨c,t,rfl⟩:∃c t,b'=c::t:=by
   cases b' with
   |nil=>simp at hn3;omega
   |cons c t=>exact ⟨c,t,rfl⟩
  have hci:=hb' c (.head _);have htI:InY t:=λq hq=>hb' q (.tail _ hq)
  simp only [du] at hn3 awD;rw [yx] at heq;have hwc:=aK (n:=c) (by unfold bN;omega);have hrt:ij wr ⟨aJ s3.a 1 s3.n 1,s3.n-1,s3.n-1⟩ t:=by have:=RdK.rest (h3.ext xr) (l:=1) (m:=s3.n) (n':=s3.n-1) (c':=s3.n-1) (by rw [aN,du];omega) (λe=>by rw [aN,du];omega);exact this
  refine ⟨ij.im h3 (i:=0) cp,c,ij.c0 (h3.ext xr) (i:=0) rfl,?_⟩;rw [hwc];rintro bP rfl bg Ug;have bu:Ext w bg:=by rw [Ug];exact ((xr.tr (Ext.al _ (.cells #[aa,aa] gG))).setRow xr.size #[aa,.int .i64 c])
  have apF:Ext wr bg:=by rw [Ug];exact ((Ext.al wr (.cells #[aa,aa] gG)).setRow (aC _) #[aa,.int .i64 c])
  have dy:Row bg wr [aa,.int .i64 c] gG:=by rw [Ug];exact (Row.new wr [aa,aa] gG).set [aa,.int .i64 c]
  have bad:∀{q:Int} {w':World},Ext w w'->jX cK b n=([],q)->acg w (jX cK b n) (.returned (.tuple #[.slice none 0 0,.int .i64 q])) w'/\Ext w w':=λx' e=>⟨ach e,x'⟩
  refine (gE c bg).mono ?_;rintro e dj ⟨rfl,bV⟩;have ig:=bu.tr bV;have hrow12:=dy.ext bV;refine ⟨_,rfl,bV.heap dy.lt,Br.mk (λh1=> ?_) (λh1=>Br.mk (λh2=> ?_) (λh2=> ?_))⟩
  ·refine bad ig ?_;rw [<-heq,if_pos (.inl (by simpa using h1))]
  ·refine bad ig ?_;rw [<-heq,if_pos (.inr (by simpa using h2))]
  have hm:cK c=true:=by simpa using h1
  have hl':c≠last:=by simpa using h2
  rw [if_neg (by rw [hm];simp [hl'])] at heq;refine ⟨by omega,by omega,by omega,by omega,by omega,by omega,?_⟩;refine (BU ⟨aJ s3.a 1 s3.n 1,s3.n-1,s3.n-1⟩ t dj ((hrt.ext apF).ext bV) htI (aC _)).mono ?_;rintro e bO ⟨rfl,rfl⟩;have apG:=Es 3 0 0 t ab;rw [show sE 3 0 0 t=fw t from rfl] at apG;generalize fw t=d at*;obtain ⟨sz,kk,er⟩:=d;simp only at*;refine ⟨_,_,_,rfl,(by first|rfl|trivial),Br.mk (λh3'=> ?_) (λh3'=> ?_)⟩
  ·refine bad ig ?_;rw [<-heq,if_pos (by simpa using h3')]
  have her:er=0:=by simpa using h3'
  subst her;have hd:=apG rfl;rw [if_neg cp] at heq;refine Br.mk (λh4=> ?_) (λh4=>Br.mk (λh5=> ?_) (λh5=> ?_))<;>simp only [beq_iff_eq,beq_eq_false_iff_ne,cN,fm] at h4
  ·refine bad ig ?_;rw [<-heq,if_pos (.inl h4)]
  ·replace h5:=nA h5;refine bad ig ?_;rw [<-heq,if_pos (.inr h5)]
  replace h5:=nN h5;rw [if_neg ab] at heq;have hwl:=aK (n:=left-sz) (by unfold bN;omega);have VD:=aK (n:=1+kk) (by unfold bN;omega);rw [hwl,VD];rintro dH ad0;have cA:Ext w dH:=by rw [ad0];exact ig.setRow xr.size _
  have agW:wN w bO o acc:=aE.ext ho (apF.tr bV);have apH:wN w dH.drew o acc:=by refine aE.ext (aE.de agW (w':=dH) ?_) (Ext.dr _);intro g hg;have:=(ho.own.lt hg).2;rw [ad0,setRow_other _ _ _ _ ab]
  have hlt18:wr.heap.size<dH:=by rw [ad0,setRow_size];exact hrow12.lt
  have xd:=cA.drew;have hz:=lE dH;have hon:=k8.len apH.HQ;refine ⟨by omega,by omega,?_⟩;rintro gg rfl;obtain ⟨hp,bk⟩:=aE.jk apH (bytes:=16) (news:=rv (sz,c)) (.cells #[sz,.int .i64 c] gG) xd.size rfl (Bc _ _ _ _) ab ab;refine ⟨hp,λvM eZ hr'=> ?_⟩;obtain ⟨k1,ho',_,xb,Q0,_⟩:=bk vM eZ hr';have db:Ext w eZ:=xd.trans xb;have apI:wN w eZ vM (acc++ [(sz,c)]):=by show aE _ _ 2 _ _ ((acc++ [(sz,c)]).map rv);rw [bW];exact ho'
  have hkeep:eZ.heap[wr.heap.size]? =(dH.drew.alloc (.cells #[sz,.int .i64 c] gG)).heap[wr.heap.size]? :=by rw [Q0 _ (λhb=>absurd (ho.own.lt hb).2 (CP _)) ab];symm;exact (Ext.al _ _).heap ab
  have Uk:(t.drop kk.toNat).length=t.length-kk.toNat:=Af;refine ⟨hkeep,k1,Br.mk (λh6=>Br.mk (λh7=> ?_) (λh7=>Br.mk (λh8=> ?_) (λh8=> ?_))) (λh6=> ?_)⟩<;>simp only [beq_iff_eq,beq_eq_false_iff_ne] at h6
  ·simp only [cN] at h7;omega
  ·replace h8:=nA h8;rw [if_pos h6,if_neg (by intro e;rw [e] at Uk;simp at Uk;omega)] at heq;exact bad db heq.symm
  ·replace h8:=nN h8;rw [if_pos h6,if_pos (CI ab)] at heq;refine ⟨⟨vM,by rw [<-heq],by rw [<-heq];exact apI⟩,db⟩
  ·rw [if_neg h6] at heq;have hrest:=RdK.rest h3 (l:=(1+kk).toNat) (m:=s3.c) (n':=s3.n-(1+kk).toNat) (c':=s3.c-(1+kk).toNat) (by rw [aN,du];omega) (λe=>by rw [aN,du];omega);rw [show (1+kk).toNat=kk.toNat+1 from by omega,fu,List.drop_succ_cons,<-List.map_drop] at hrest;rw [show (1+kk).toNat=kk.toNat+1 from by omega];refine ⟨(t.drop kk.toNat).length,by simp only [du];omega,t.drop kk.toNat,acc++ [(sz,c)],rfl,hrest,by show s3.n-(kk.toNat+1)<=s3.c-(kk.toNat+1);omega,λq hq=>htI q (zg hq),by simp only [dv,du,mH];omega,by omega,by omega,db,apI,?_⟩;rw [<-heq];exact G6 _ _ _ ab (by simp only [du];omega)
 ·have:b'=[]:=CI ab;subst this;have e:jX cK b n=([],3):=by rw [<-heq];show (if left>0 then ([],3) else (acc,0))=_;rw [if_pos ab]
  refine Br.mk (λ_=>⟨ach e,xr⟩) (λh2=> ?_);replace h2:=nN h2;omega
def aE.le{B E k:Nat}{w:World}{s:Sl}{rows:List (LV)}(h:aE B E k w s rows):s.n<=s.c:=by
 have ho:=h.own;generalize rows.flatten=xs at ho
 cases ho with
 |nil=>exact aC _
 |row g n c cs hg hr hc hn=>exact hn
def P7{b:List Int}{n:Int}(hb:InY b)(hn:1<=n)(h:(jX cK b n).2=0):sy (jX cK b n).1=b/\iY cK (-1) (jX cK b n).1/\bT (jX cK b n).1=n:=by obtain ⟨l,e1,e2,e3,e4,_⟩:=Dj (may:=cK) (b.length+1) b n (-1) [] hb hn h;rw [aac] at e1;have e:jX cK b n=nH cK (b.length+1) b n (-1) []:=rfl;rw [e,e1];exact ⟨e2,e3,e4⟩
def W6{l:List Rn}{last:Int}(h:iY cK last l):∀r ∈ l,bN r.1/\bN r.2:=by intro r hr;have:=h.mem r hr;unfold Go.Vc.bN;omega
open Go.cZ
abbrev pv(p:Po):Value:=.agg #[p.1,p.2]
abbrev eE(c:Ce):Value:=.agg #[c.1,c.2.1,c.2.2]
abbrev qL:TypeId:=41
abbrev Zz:TypeId:=40
def vm(a b:Int)(ha:bN a)(hb:0<b)(w:World):ah 192 #[a,b] w λe w'=>e=Value.int .i64 (a / b)/\w'=w:=by
 apply aag.vc;obtain ⟨h1,h2,h3,h4⟩:=tdm (a:=a) hb;have hq:=UD ha hb;have ht:=UE ha hb;refine Br.mk (λh=> ?_) (λ_=>bB.2 ⟨si.2 ab,bB.2 ⟨si.2 ab,Br.mk (λh=> ?_) (λh=> ?_)⟩⟩)
 ·simp only [cN] at h;omega
 ·replace h:=nA h;rw [aK ht,<-(h1 h).1,aK hq];exact ⟨rfl,rfl⟩
 ·replace h:=nN h;rw [aK ht,<-(h2 ab).1];exact ⟨rfl,rfl⟩
def vo(a b:Int)(hb:0<b)(hb':b<=1000000)(w:World):ah 282 #[a,b] w λe w'=>e=Value.int .i64 (a % b)/\w'=w:=by
 apply aah.vc;obtain ⟨h1,h2,h3,h4⟩:=tdm (a:=a) hb;refine Br.mk (λh=> ?_) (λ_=>bB.2 ⟨si.2 ab,Br.mk (λh=> ?_) (λh=> ?_)⟩)
 ·simp only [cN] at h;omega
 ·replace h:=nA h;rw [wI,<-(h1 h).2];exact ⟨rfl,rfl⟩
 ·replace h:=nN h;rw [<-(h2 ab).2];exact ⟨rfl,rfl⟩
def Fp(a b:Int)(ha:bN a)(hb:0<b)(w:World):ah 86 #[a,b] w λe w'=>e=Value.int .i64 (a / b)/\w'=w:=by
 apply V8.vc;obtain ⟨h1,h2,h3,h4⟩:=tdm (a:=a) hb;have hq:=UD ha hb;have ht:=UE ha hb;have hm:b*a.tdiv b+a.tmod b=a:=Int.mul_tdiv_add_tmod a b;have hsg:(0<=a->0<=a.tmod b)/\(a<=0->a.tmod b<=0):=by refine ⟨λh=>Int.tmod_nonneg b h,λh=> ?_⟩;have:=Int.tmod_nonneg (a:= -a) b ab;rw [Int.neg_tmod] at this;omega
 have ank:a.tdiv b*b=a-a.tmod b:=by rw [Int.mul_comm];omega
 have pc:bN (a.tdiv b*b):=by
  rw [ank];unfold bN at*;rcases tn a 0 with h|h
  ·have:=hsg.2 ab;have:=(tdm (a:=a) hb);have hle:a-a.tmod b<=0:=by
    rcases tn 0 (a-a.tmod b) with h5|h5
    ·exfalso;rw [<-ank] at h5;have h6:a.tdiv b<=0:=by have:=Int.tdiv_nonneg (a:= -a) (b:=b) ab ab;rw [Int.neg_tdiv] at this;omega
     have:=Int.mul_nonpos_of_nonpos_of_nonneg h6 (by omega:0<=b);omega
    ·exact h5
   omega
  ·have:=hsg.1 h;have h6:0<=a.tdiv b:=Int.tdiv_nonneg h ab;have:=Fq h6 (by omega:0<=b);omega
 rw [aK ht,aK pc];refine bB.2 ⟨si.2 ab,Br.mk (λh=> ?_) (λh=> ?_)⟩
 ·simp only [cN,gt_iff_lt] at h;rw [<-(h1 ab).1,aK hq];exact ⟨rfl,rfl⟩
 ·simp only [fm,gt_iff_lt] at h;rw [<-(h2 ab).1];exact ⟨rfl,rfl⟩
def pW(c:Ce):Prop:=bN c.1/\bN c.2.1/\bN c.2.2
def CS(c:Ce)(w:World):ah 255 #[eE c] w λe w'=>(∃i b,e=Value.tuple #[.int .i64 i,.bool b]/\((b=true/\Bi c/\i=idx c)\/(b=false/\¬Bi c/\i=0)))/\Ext w w':=by
 apply RA.vc;intro w0 e0;have x0:=aQ e0;have hb:Row w0 w [c.1,c.2.1,c.2.2] qL:=Row.nw e0;have AK:=hb.ext (Ext.dr w0);refine Br.mk (λh=> ?_) (λh=>Br.mk (λh2=> ?_) (λh2=> ?_))<;>simp only [cN,fm] at*
 ·exact ⟨⟨_,_,rfl,.inr ⟨rfl,by unfold Bi;omega,rfl⟩⟩,x0⟩
 ·exact ⟨⟨_,_,rfl,.inr ⟨rfl,by unfold Bi;omega,rfl⟩⟩,x0⟩
 ·refine (vo c.2.2 16 aF aF w0.drew).mono ?_;rintro e w1 ⟨rfl,rfl⟩;refine ⟨_,rfl,rfl,AK.bY (λj hj=>by simp at hj;subst hj;rfl),AK.bY (λj hj=>by simp at hj;subst hj;rfl),(vo c.1 16 aF aF _).mono ?_⟩;rintro e w1 ⟨rfl,rfl⟩;have e1:ao (c.2.1*16)=c.2.1*16:=wI;have e2:ao (c.2.1*16+c.2.2 % 16)=c.2.1*16+c.2.2 % 16:=wI;have e3:ao ((c.2.1*16+c.2.2 % 16)*16)=(c.2.1*16+c.2.2 % 16)*16:=wI;have e4:ao ((c.2.1*16+c.2.2 % 16)*16+c.1 % 16)=idx c:=wI;refine ⟨_,rfl,rfl,AK.bY (λj hj=>by simp at hj;subst hj;rfl),?_,x0.drew⟩;rw [e1,e2,e3,e4];exact ⟨_,_,rfl,.inl ⟨rfl,by unfold Bi;omega,rfl⟩⟩
def pX(c:Ce)(hc:pW c)(w:World):ah 139 #[eE c] w λe w'=>e=(pv (pos c))/\Ext w w':=by apply RB.vc;intro w0 e0 w1 e1;have x1:Ext w w1.drew:=((aQ e0).bF e1).drew;have z0:=eR e0;have hb:Row w1.drew w [c.1,c.2.1,c.2.2] qL:=((by rw [e0];exact Row.new w [_,_,_] _:Row w0 w [c.1,c.2.1,c.2.2] qL).ext (aQ e1)).ext (Ext.dr _);refine (vm c.1 16 hc.1 aF w1.drew).mono ?_;rintro e w2 ⟨rfl,rfl⟩;refine ⟨_,rfl,rfl,rfl,hb.bY (λj hj=>by simp at hj;subst hj;rfl),(vm c.2.2 16 hc.2.2 aF _).mono ?_⟩;rintro e w2 ⟨rfl,rfl⟩;refine ⟨_,rfl,rfl,rfl,λw6 e6=>⟨rfl,x1.ag e6 ab⟩⟩
def VW(p:Po):Prop:=(-1099511627776<=p.1/\p.1<=1099511627776)/\(-1099511627776<=p.2/\p.2<=1099511627776)
def RC(p:Po)(hp:VW p)(i:Int)(hi:0<=i/\i<8192)(w:World):ah 249 #[pv p,i] w λe w'=>e=Value.tuple #[eE (cellAt p i),true]/\Ext w w':=by apply V9.vc;obtain ⟨⟨p1,p2⟩,p3,p4⟩:=hp;intro w0 e0 w1 e1;have z0:=eR e0;have x1:Ext w w1:=(aQ e0).bF e1;have t1:Int.tmod i 16=i % 16:=CT hi.1;have t2:Int.tdiv i 256=i / 256:=rj hi.1;have t3:Int.tdiv i 16=i / 16:=rj hi.1;have t4:Int.tmod (i / 16) 16=i / 16 % 16:=CT ab;have w1':ao (i / 16)=i / 16:=wI;have w2':ao (i / 256)=i / 256:=wI;have w3':ao (p.1*16)=p.1*16:=wI;have w4':ao (p.2*16)=p.2*16:=wI;have w5':ao (p.1*16+i % 16)=p.1*16+i % 16:=wI;have w6':ao (p.2*16+i / 16 % 16)=p.2*16+i / 16 % 16:=wI;rw [t1,t2,t3,w1',w2',w3',w4',t4,w5',w6'];refine Br.mk (λh=> ?_) (λ_=>Br.mk (λh=> ?_) (λ_ w4 e4=>⟨rfl,x1.ag e4 ab⟩))<;>simp only [cN] at h<;>omega
def RQ(s x z:Int)(w:World):ah 284 #[s,x,z] w λe w'=>e=Value.int .u64 (hash s x z)/\w'=w:=by apply aan.vc;rw [arT,arU];exact ⟨rfl,rfl⟩
def ae4(s x z:Int):ao (Int.tmod (hash s x z) 9)=gR s x z:=by rw [CT (ae5 s x z)];exact wI
def nY(s x z nV:Int)(hn:0<=nV/\nV<=64){b:Nat}{w:World}(hb:Row w b [s] Ld):ah 283 #[x,z,nV,b] w λe w'=>e=Value.int .i64 (gR s x z*nV)/\w'=w:=by apply Lf.vc;refine ⟨s,by rw [hb.ld];rfl,(RQ s x z w).mono ?_⟩;rintro e w1 ⟨rfl,rfl⟩;refine ⟨_,rfl,?_⟩;rw [ae4];have hc:=jq s x z;have h1:0<=gR s x z*nV:=Fq hc.1 hn.1;have h2:gR s x z*nV<=8*64:=Int.mul_le_mul hc.2 hn.2 hn.1 aF;rw [wI];exact ⟨rfl,rfl⟩
def Lg(s x z:Int)(hx:bN x)(hz:bN z)(w:World):ah 250 #[s,x,z] w λe w'=>e=Value.int .i64 (ground s x z)/\Ext w w':=by
 apply RR.vc;intro w0 e0;have x0:=aQ e0;have hb:Row w0 w [s] Ld:=Row.nw e0;refine (vm x 8 hx aF w0).mono ?_;rintro e w1 ⟨rfl,rfl⟩;refine ⟨_,rfl,rfl,(vm z 8 hz aF w1).mono ?_⟩;rintro e w1 ⟨rfl,rfl⟩;refine ⟨_,rfl,rfl,(vo x 8 aF aF w1).mono ?_⟩;rintro e w1 ⟨rfl,rfl⟩;refine ⟨_,rfl,rfl,(vo z 8 aF aF w1).mono ?_⟩;rintro e w1 ⟨rfl,rfl⟩;refine ⟨_,rfl,rfl,?_⟩;have hdx:bN (x / 8+1):=by unfold bN at*;omega
 have hdz:bN (z / 8+1):=by unfold bN at*;omega
 have a:=uC (jq s (x / 8) (z / 8)) (u:=8-x % 8) (v:=8-z % 8) ab ab;have b:=uC (jq s (x / 8+1) (z / 8)) (u:=x % 8) (v:=8-z % 8) ab ab;have c:=uC (jq s (x / 8) (z / 8+1)) (u:=8-x % 8) (v:=z % 8) ab ab;have d:=uC (jq s (x / 8+1) (z / 8+1)) (u:=x % 8) (v:=z % 8) ab ab;have q1:ao (8-x % 8)=8-x % 8:=wI;have q2:ao (8-z % 8)=8-z % 8:=wI;rw [q1,q2,aK hdx,aK hdz,aK (n:=(8-x % 8)*(8-z % 8)) (by unfold bN;omega),aK (n:=x % 8*(8-z % 8)) (by unfold bN;omega),aK (n:=(8-x % 8)*(z % 8)) (by unfold bN;omega),aK (n:=x % 8*(z % 8)) (by unfold bN;omega)];refine (nY s _ _ _ ⟨a.1,a.2.1⟩ hb).mono ?_;rintro e w1 ⟨rfl,rfl⟩;refine ⟨_,rfl,(nY s _ _ _ ⟨b.1,b.2.1⟩ hb).mono ?_⟩;rintro e w1 ⟨rfl,rfl⟩;refine ⟨_,rfl,(nY s _ _ _ ⟨c.1,c.2.1⟩ hb).mono ?_⟩;rintro e w1 ⟨rfl,rfl⟩;refine ⟨_,rfl,(nY s _ _ _ ⟨d.1,d.2.1⟩ hb).mono ?_⟩;rintro e w1 ⟨rfl,rfl⟩;refine ⟨_,rfl,?_,x0⟩;have hg:=JB s x z;have e1:ground s x z=6+(gR s (x / 8) (z / 8)*((8-x % 8)*(8-z % 8))+gR s (x / 8+1) (z / 8)*(x % 8*(8-z % 8))+gR s (x / 8) (z / 8+1)*((8-x % 8)*(z % 8))+gR s (x / 8+1) (z / 8+1)*(x % 8*(z % 8))) / 64:=rfl;generalize gR s (x / 8) (z / 8)*((8-x % 8)*(8-z % 8))=A at*;generalize gR s (x / 8+1) (z / 8)*(x % 8*(8-z % 8))=B at*;generalize gR s (x / 8) (z / 8+1)*((8-x % 8)*(z % 8))=C at*;generalize gR s (x / 8+1) (z / 8+1)*(x % 8*(z % 8))=D at*;rw [aK (n:=A+B) (by unfold bN;omega),aK (n:=A+B+C) (by unfold bN;omega),aK (n:=A+B+C+D) (by unfold bN;omega),rj ab,aK (n:=(A+B+C+D) / 64) (by unfold bN;omega),<-e1,wI]
def aao(y g:Int)(hg:6<=g/\g<=100)(w:World):ah 251 #[y,g] w λe w'=>e=Value.int .i64 (RS y g)/\w'=w:=by
 apply aiW.vc;have q1:ao (g-3)=g-3:=wI;have q2:ao (g-1)=g-1:=wI;rw [q1,q2];have fin:∀{v:Int},RS y g=v->(Ending.returned v=Value.int .i64 (RS y g)/\w=w):=λh=>⟨by rw [h],rfl⟩
 refine Br.mk (λh1=>fin ?_) (λh1=>Br.mk (λh2=>fin ?_) (λh2=>Br.mk (λh3=>fin ?_) (λh3=>Br.mk (λh4=>fin ?_) (λh4=>Br.mk (λh5=>fin ?_) (λh5=>Br.mk (λh6=>Br.mk (λh7=>fin ?_) (λh7=>Br.mk (λh8=>fin ?_) (λh8=>Br.mk (λh9=>fin ?_) (λh9=>fin ?_)))) (λh6=>Br.mk (λh8=>fin ?_) (λh8=>Br.mk (λh9=>fin ?_) (λh9=>fin ?_))))))))
 all_goals simp only [cN,fm,beq_iff_eq,beq_eq_false_iff_ne,ne_eq] at*
 all_goals unfold RS
 all_goals (repeat' split)<;>omega
def abm(ak:Int)(p:Po){k:Nat}(hk:k<8192):(made ak p)[k]? =some (RS (cellAt p k).2.1 (ground ak (cellAt p k).1 (cellAt p k).2.2)):=by unfold made;rw [aR,Jk hk];rfl
def ajp{p:Po}(hp:VW p)(i:Int)(hi:0<=i/\i<8192):pW (cellAt p i):=by obtain ⟨⟨p1,p2⟩,p3,p4⟩:=hp;unfold pW cellAt bN;simp only;omega
def X7(ak:Int)(p:Po)(k:Nat):LV:=(List.range 256).map λi:Nat=> .int .i64 (if i<k then ground ak (cellAt p i).1 (cellAt p i).2.2 else 0)
def AB(ak:Int)(p:Po)(k:Nat):(X7 ak p k).length=256:=by simp [X7]
def Ez(ak:Int)(p:Po)(k:Nat){i:Nat}(hi:i<256):(X7 ak p k)[i]? =some (.int .i64 (if i<k then ground ak (cellAt p i).1 (cellAt p i).2.2 else 0)):=by unfold X7;rw [aR,Jk hi];rfl
def afU(ak:Int)(p:Po){k:Nat}(hk:k<256):(X7 ak p k).set k (.int .i64 (ground ak (cellAt p k).1 (cellAt p k).2.2))=X7 ak p (k+1):=by
 apply iP;intro i;rw [jR];rcases jD i 256 with h|h
 ·rw [Ez _ _ (k+1) h];split
  ·rename_i e;subst e;rw [if_pos (by rw [AB];exact h),if_pos ab]
  ·rename_i e;rw [Ez _ _ k h];congr 3;exact propext ⟨λh=>by omega,λh=>by omega⟩
 ·rw [jS (by rw [AB];exact h),jS (by rw [AB];exact h),if_neg ab]
def ab0(ak:Int)(p:Po):X7 ak p 0=List.replicate 256 (.int .i64 0):=by
 apply List.ext_getElem?;intro i;rcases Nat.lt_or_ge i 256 with h|h
 ·rw [Ez _ _ 0 h,List.getElem?_replicate,if_pos h,if_neg (by omega)]
 ·rw [List.getElem?_eq_none (by rw [AB];exact h),List.getElem?_eq_none (by rw [List.length_replicate];exact h)]
def FH(ak:Int)(p:Po):List (LV):=(made ak p).map λb=> [.int .i64 b]
def JA(ak:Int)(p:Po):(FH ak p).length=8192:=by unfold FH;rw [aN,rA]
def afV(ak:Int)(p:Po){k:Nat}(hk:k<8192):(made ak p)[k]? =some (RS ((k:Int) / 256) (ground ak (cellAt p ((k % 256:Nat):Int)).1 (cellAt p ((k % 256:Nat):Int)).2.2)):=by
 rw [abm ak p hk];have e1:(cellAt p ((k % 256:Nat):Int)).1=(cellAt p k).1:=by unfold cellAt;simp only;omega
 have e2:(cellAt p ((k % 256:Nat):Int)).2.2=(cellAt p k).2.2:=by unfold cellAt;simp only;omega
 rw [e1,e2];rfl
abbrev UJ(bp bs:Nat):Nat->Prop:=λi=>i=bp\/i=bs
abbrev ahG(bp bs:Nat):Value:=.func (.func 248) #[] #[bp,bs]
attribute [local irreducible] made X7 in
set_option maxRecDepth 100000 in
def FI(ak:Int)(p:Po)(hp:VW p)(bp bs:Nat)(W0:World)(hbp:Row W0 bp [p.1,p.2] Zz)(hbs:Row W0 bs [ak] Ld):
  Iter Tryz.prog (ahG bp bs) W0 (UJ bp bs) (FH ak p):=by
 refine ⟨⟨_,_,_,rfl,by kernel_rfl⟩,?_⟩;intro y B J Jx F0 W hB hsJ hsX AK hRd hround h0;refine cX (by kernel_rfl) (by rfl) ?_;apply N8.vc;have same:∀{w:World} {F:Nat->Prop},(∀i,UJ bp bs i->¬F i/\i<w.heap.size/\w.heap[i]? =W0.heap[i]?)->Row w bp [p.1,p.2] Zz/\Row w bs [ak] Ld:=λ{w F} h=>
  ⟨hbp.same (h bp (.inl rfl)).2.2,hbs.same (h bs (.inr rfl)).2.2⟩
 intro w0 e0;have x0:Ext W w0:=(Ext.cM W).bF e0;have z0:=eR e0;have hg0:Row w0 W.heap.size (X7 ak p 0) 311:=by rw [e0,ab0];exact Row.new W (List.replicate 256 (0:Int)) _
 clear e0;have hF0:=AK _ _ _ h0;have bel:∀{w:World},Ext W w->J 0 F0 w/\∀i,UJ bp bs i->¬F0 i/\i<w.heap.size/\w.heap[i]? =W0.heap[i]? :=λ{w} x=>
  ⟨hsJ _ _ _ _ h0 (Below.mono x hB) λi hi=>x.heap (hF0 i hi),λi hi=>by obtain ⟨h1,h2,h3⟩:=hRd i hi;exact ⟨h1,by have:=x.size;omega,(x.heap h2).trans h3⟩⟩
 refine ⟨λn x wr=>Ext W wr/\W.heap.size<wr.heap.size/\∃k:Nat,x=k/\k+n=256/\Row wr W.heap.size (X7 ak p k) 311,⟨256,x0,by omega,0,rfl,by omega,hg0⟩,?_⟩;rintro n us x wr ⟨xr,zr,k,rfl,hk,hg⟩;refine Br.mk (λhc=> ?_) (λhc=> ?_)
 ·replace hc:=nA hc;obtain ⟨HJ,kE⟩:=same (bel xr).2;refine ⟨p.1,p.2,HJ.bY (λj hj=>by rw [Nat.zero_add]),(RC p hp k (by omega) wr).mono ?_⟩;rintro e w9 ⟨rfl,x9⟩;refine ⟨_,_,_,_,rfl,?_⟩;intro bO vH dB pN;have cw:Ext w9 dB:=((Ext.cM _).bF vH).ag pN (Nat.le_refl _);have z15:dB.heap.size=w9.heap.size+1:=by rw [pN,setRow_size,vH];simp
  have z9:=x9.size;have av4:=kE.ext (x9.tr cw);refine ⟨ak,by rw [av4.ld];rfl,?_⟩;have bn:=ajp hp k ⟨by omega,by omega⟩;refine (Lg ak _ _ bn.1 bn.2.2 dB).mono ?_;rintro e cL ⟨rfl,dh⟩;have z17:=dh.size;have av5:=hg.ext ((x9.tr cw).tr dh);have Qk:((k:Int).toNat*1)=k:=by omega
  rw [Qk];obtain ⟨p1,p2⟩:=av5.kl (j:=k) (v:=.int .i64 (ground ak (cellAt p k).1 (cellAt p k).2.2)) (by rw [AB];omega) rfl;refine ⟨_,rfl,dh.k,by omega,by omega,⟨rfl,p1⟩,?_,λgg e19=> ?_⟩
  ·rw [c5];intro e;have:W.heap.size=w9.heap.size:=by simpa [bz] using e
   omega
  ·obtain ⟨q1,q2⟩:=p2 gg e19;have VD:IntKind.wrap .i64 ((k:Int)+1)=((k+1:Nat):Int):=by rw [wI];omega
   have av6:aS (X7 ak p k) k [.int .i64 (ground ak (cellAt p k).1 (cellAt p k).2.2)]=X7 ak p (k+1):=by rw [<-afU ak p (by omega)];rfl
   rw [av6] at q1;exact ⟨n-1,by omega,q2.ext (xr.tr ((x9.tr cw).tr dh)) (λi hi=>by omega),by have:=q2.size;omega,k+1,VD,by omega,q1⟩
 ·replace hc:=nN hc;have aps:k=256:=by omega
  subst aps;obtain ⟨hJr,hKr⟩:=bel xr;refine ⟨λn x wr=>∃(k:Nat)(F:Nat->Prop),x=k/\k+n=8192/\B<=wr.heap.size/\W.heap.size<wr.heap.size/\¬F W.heap.size/\J k F wr/\Row wr W.heap.size (X7 ak p 256) 311,
   ⟨8192,0,F0,rfl,by omega,by omega,zr,λhf=>by have:=hF0 _ hf;omega,hJr,hg⟩,?_⟩
  rintro n us x wq ⟨k,F,rfl,hk,hBq,hzq,hnF,hJq,hgq⟩;refine Br.mk (λhc=> ?_) (λhc=> ?_)
  ·replace hc:=nA hc;have t1:Int.tmod (k:Int) 256=((k % 256:Nat):Int):=by rw [Int.tmod_eq_emod_of_nonneg (by omega)];omega
   have t2:IntKind.wrap .i64 (Int.tdiv (k:Int) 256)=(k:Int) / 256:=by rw [Int.tdiv_eq_ediv_of_nonneg (by omega),wI]
   rw [t1,t2];have Qk:(((k % 256:Nat):Int).toNat*1)=k % 256:=by omega
   rw [Qk];have gu:=Ez ak p 256 (i:=k % 256) (by omega);rw [if_pos (by omega)] at gu;refine ⟨by omega,by omega,_,hgq.at _ gu,(aao _ _ (JB _ _ _) wq).mono ?_⟩;rintro e dX ⟨rfl,rfl⟩;refine ⟨_,rfl,?_⟩;have hx:(FH ak p)[k]? =some [.int .i64 (RS ((k:Int) / 256) (ground ak (cellAt p ((k % 256:Nat):Int)).1 (cellAt p ((k % 256:Nat):Int)).2.2))]:=by unfold FH;rw [List.getElem?_map,afV ak p (by omega)];rfl
   refine dw (hround _ _ _ _ hx hJq) ?_;have VD:IntKind.wrap .i64 ((k:Int)+1)=((k+1:Nat):Int):=by rw [wI];omega
   rintro e dW (⟨rfl,F2,Ul,gM⟩|⟨rfl,F2,Ul,gM⟩)
   ·refine ⟨true,rfl,Br.mk (λh=>by cases h) (λ_=>⟨n-1,by omega,k+1,F2,VD,by omega,by have:=gM.size;omega,by have:=gM.size;omega,λhf=> ?_,Ul,hgq.same (gM.same _ hzq hnF)⟩)⟩;rcases gM.sub _ hf with hf|hf
    ·exact hnF hf
    ·omega
   ·exact ⟨false,rfl,Br.mk (λ_=>⟨⟨_,rfl⟩,.inr ⟨F2,Ul⟩⟩) (λh=>by cases h)⟩
  ·replace hc:=nN hc;have Hj:k=8192:=by omega
   subst Hj;exact ⟨⟨_,rfl⟩,.inl ⟨F,by rw [JA];exact hJq⟩⟩
def FG(ak:Int)(p:Po)(w:World):ah 187 #[ak,pv p] w λe w'=>e=(ahG (w.heap.size+1) w.heap.size)/\Row w' (w.heap.size+1) [p.1,p.2] Zz/\Row w' w [ak] Ld/\Ext w w':=by apply WH.vc;intro w0 e0 w1 e1;have z0:=eR e0;have x1:=aQ e1;have hb:Row w0 w [ak] Ld:=Row.nw e0;refine ⟨by rw [z0],?_,hb.ext x1,(aQ e0).tr x1⟩;rw [<-z0,e1];exact Row.new w0 [_,_] _
def Wc(s:Sl)(c:List Int)(w:World)(hs:OwC 0 w s c):ah 189 #[s] w λe w'=>(∃s':Sl,e=s'/\RJ w s' c)/\w'=w:=by
 apply Dw.vc;have hn:=RJ.len hs.rdc;have YV:s.n<=s.c:=by
  rcases aE.form hs aF with ⟨h,-⟩|⟨g0,cs,ha,hg0,hr,hc,Qn,-⟩
  ·rw [h];exact aC _
  ·exact Qn
 have:=RdK.cut hs.rdc (m:=s.n) (c':=s.n) (c'':=s.n) (by rw [aN];omega);rw [fN (by rw [aN];omega)] at this;exact ⟨by omega,by omega,by omega,by omega,⟨⟨aJ s.a 0 s.n 1,s.n,s.n⟩,rfl,this⟩,rfl⟩
attribute [local irreducible] made in
set_option maxRecDepth 100000 in
def CX(ak:Int)(p:Po)(hp:VW p)(w:World):ah 136 #[ak,pv p] w λe w'=>∃s':Sl,e=s'/\wN w w' s' (gV (made ak p))/\Ext w w':=by
 apply We.vc;intro w0 e0 w1 e1;have z0:=eR e0;have z1:w1.heap.size=w.heap.size+2:=by rw [e1];simp [z0]
 have jQ:Ext w w1:=(aQ e0).bF e1;refine (FG ak p w1).mono ?_;rintro e w2 ⟨rfl,hbp,hbs,x2⟩;have iC:=hbp.lt;have xx:=jQ.tr x2;have zz:=xx.size;refine ⟨_,rfl,x2.heap ab,x2.heap ab,?_⟩;refine ⟨FH ak p,UJ (w1.heap.size+1) w1.heap.size,λ_=>False,λn F s w'=>(∀i,F i ↔ s.bf=some i)/\OwC (w2.heap.size+2) w' s ((made ak p).take n)/\Ext w w'/\w2.heap.size+2<=w'.heap.size,λ_ _ _ _=>False,
  ?_,?_,λ_ _ _ _ _ h=>h.elim,?_,λ_ _ _ _ h=>h.elim,λi hi=>⟨by rcases hi with h|h<;>omega,id,by rcases hi with h|h<;>omega,by rcases hi with h|h<;>omega,trivial⟩,?_,?_,?_,trivial⟩
 ·intro x hx;obtain ⟨b,_,rfl⟩:=aW.1 hx;exact ⟨b,rfl⟩
 ·rintro n F s w3 w4 ⟨hF,ho,lr,hz⟩ hbl2 hsame;exact ⟨hF,aE.de ho λi hi=>hsame i ((hF i).2 hi),lr.trans (Below.mono hbl2 zz),by have:=hbl2.size;omega⟩
 ·rintro n F s w3 ⟨hF,ho,lr,hz⟩ i hi;have:=ho.own.lt ((hF i).1 hi);omega
 ·intro w3 yD;have ake:Below w2 w2 w3:=yD.ext;refine ⟨FI ak p hp _ _ w3 (hbp.ext ake) (hbs.ext ake),rfl,?_,?_,xx.trans (Below.mono ake zz),by have:=yD.size;omega⟩
  ·intro i;simp [Sl.bf]
  ·rw [CO];exact aE.nil
 ·rintro n F us o y w3 hx hI;have hy:(made ak p)[n]? =some y:=by
   unfold FH at hx;rw [aR,zD] at hx;obtain ⟨b,hb,e⟩:=hx;have:b=y:=by simpa using e
   rw [<-this];exact hb
  refine ⟨Below.refl _ _,λw4 gJ hI3=> ?_⟩;obtain ⟨hF,ho,lr,hz⟩:=hI3;intro w5 e5;have x5:=aQ e5;have z5:=eR e5;have Y0:n<8192:=by have:=(cG.1 hy).1;rw [rA] at this;exact this
  have hon:=RJ.len ho.rdc;rw [dK,rA] at hon;obtain ⟨hp1,bk⟩:=(aE.ext ho x5).append (bytes:=8) (news:=iv y) ab rfl (uu _ _) ab ab;refine ⟨hp1,λs5 w6 hr=> ?_⟩;obtain ⟨ho5,hn5,xb,Q0,iG⟩:=bk s5 w6 hr;have Vx:∀i,o.bf=some i->w2.heap.size+2<=i/\i<w4.heap.size:=λi hi=>ho.own.lt hi
  have hz6:=xb.size;refine ⟨Q0 _ (λhb=>by have:=Vx _ hb;omega) ab,Q0 _ (λhb=>by have:=Vx _ hb;omega) ab,Q0 _ (λhb=>by have:=Vx _ hb;omega) ab,?_⟩;intro w7 hw7;have e7:∀i,i≠w0.heap.size->w7.heap[i]? =w6.heap[i]? :=λi hi=>by rw [hw7];exact setRow_other _ _ _ _ hi
  have z7:w7.heap.size=w6.heap.size:=by rw [hw7,setRow_size]
  have hb5:∀i,s5.bf=some i->w2.heap.size+2<=i:=λi hi=>by
   rcases iG with h|h
   ·exact (Vx i (by rw [<-h];exact hi)).1
   ·rw [h] at hi;simp at hi;omega
  refine ⟨λi=>s5.bf=some i,⟨rfl,λi=>Iff.rfl,?_,?_,by omega⟩,Step.late ⟨?_,by omega,?_⟩⟩
  ·have e:(made ak p).take (n+1)=(made ak p).take n++ [y]:=by rw [dR,hy];rfl
   rw [e];have h5:OwC (w2.heap.size+2) w6 s5 ((made ak p).take n++ [y]):=by show aE _ _ 1 _ _ (((made ak p).take n++ [y]).map iv);rw [bW];exact ho5
   exact aE.de h5 λi hi=>e7 i (by have:=hb5 i hi;omega)
  ·have h5:Ext w w6:=(lr.tr x5).trans (Below.mono xb ab);rw [hw7];exact h5.setRow ab _
  ·rintro i (hi|hi)
   ·rcases iG with h|h
    ·exact .inl (.inl ((hF i).2 (by rw [<-h];exact hi)))
    ·rw [h] at hi;simp at hi;exact .inr ab
   ·exact .inl (.inr hi)
  ·intro i hi hni;have h1:i≠w0.heap.size:=λe=>hni (.inr (by simp [e]))
   rw [e7 i h1,Q0 i (λhb=>hni (.inl ((hF i).2 hb))) ab];exact x5.heap hi
 ·rintro F us o w3 ⟨hF,ho,lr,hz⟩ hD;rw [JA,fN (by rw [rA];exact aC _)] at ho;refine (Wc o (made ak p) w3 (aE.low ho (g7 _))).mono ?_;rintro e w4 ⟨⟨s4,rfl,hs4⟩,rfl⟩;refine ⟨s4,rfl,rfl,rfl,(K0 s4 (made ak p) w4 hs4 (by rw [rA];decide)).mono ?_⟩;rintro e w5 ⟨s5,rfl,ho5,x5⟩;refine ⟨s5,rfl,x5.heap ab,x5.heap ab,(x5.heap ab).trans hD,λw6 gJ=> ?_⟩;have hz5:=x5.size;have ho6:wN w w6 s5 (gV (made ak p)):=aE.low (aE.de ho5 λi hi=>gJ.same i (by have:=(ho5.own.lt hi).1;omega)) ab;exact ⟨s5,rfl,ho6,(lr.tr x5).trans (Below.mono (gJ.below (aC _)) ab)⟩
abbrev yc:TypeId:=175
structure Ih(w:World)(g:Nat)(s:Sl)(p:Po)(C:List Int):Prop where
 row:Row w g [p.1,p.2,s] yc
 own:wN 0 w s (gV C)
 len:C.length=8192
 may:∀b ∈ C,cK b=true
def Ih.de{w w':World}{g:Nat}{s:Sl}{p:Po}{C:List Int}(h:Ih w g s p C){F:Nat->Prop}(hm:Mod F w w')(hg:¬F g)(hs:∀b,s.bf=some b->¬F b):Ih w' g s p C:=
 ⟨hm.row h.row hg,hm.iq h.own hs,h.len,h.may⟩
def Ih.ext{w w':World}{g:Nat}{s:Sl}{p:Po}{C:List Int}(h:Ih w g s p C)(x:Ext w w'):Ih w' g s p C:=⟨h.row.ext x,aE.ext h.own x,h.len,h.may⟩
def Ih.bd{w:World}{g:Nat}{s:Sl}{p:Po}{C:List Int}(h:Ih w g s p C):Bd C.length:=by rw [h.len];decide
def L6(p:Po)(c:Ce):Bool:=decide (0<=c.2.1) && decide (c.2.1<32) &&(pos c==p)
def qk(p:Po)(c:Ce):L6 p c=true ↔ Bi c/\pos c=p:=by unfold L6 Bi;simp only [fk,cN,beq_iff_eq]
def Mx(p:Po)(C:List Int)(c:Ce):Int:=if L6 p c then atC C (idx c) else 0
def lR(p:Po)(C:List Int)(c:Ce)(b:Int):List Int × Int:=if L6 p c=false then (C,5) else if cK b=false then (C,1) else (C.set (idx c).toNat b,0)
def G9(p:Po)(c:Ce)(hc:pW c)(w:World):ah 193 #[pv p,eE c] w λe w'=>(∃i,e=Value.tuple #[.int .i64 i,.bool (L6 p c)]/\(L6 p c=true->i=idx c))/\Ext w w':=by
 apply zN.vc;intro w0 e0 w1 e1;have z0:=eR e0;have z1:w1.heap.size=w.heap.size+2:=by rw [e1];simp [z0]
 have x1:Ext w w1:=(aQ e0).bF e1;have hb:Row w1 w [p.1,p.2] 172:=(by rw [e0];exact Row.new w [_,_] _:Row w0 w [p.1,p.2] 172).ext (aQ e1);refine (CS c w1).mono ?_;rintro e w2 ⟨⟨i,b,rfl,hi⟩,x2⟩;have z2:=x2.size;refine ⟨i,b,rfl,x2.heap ab,x2.heap ab,Br.mk (λhbb=> ?_) (λhbb=> ?_)⟩
 ·rcases hi with ⟨-,hy,rfl⟩|⟨h,-⟩
  ·refine (pX c hc w2.drew).mono ?_;rintro e w5 ⟨rfl,x5⟩;refine ⟨_,_,rfl,x5.heap (show w.heap.size<w2 by omega),x5.heap (show w0.heap.size<w2 by omega),((hb.ext x2).ext (Ext.dr _)|>.ext x5).bY (λj hj=>by rw [eK]),?_,(x1.tr x2).tr ((Ext.dr _).tr x5)⟩;refine ⟨_,?_,λ_=>rfl⟩;have:L6 p c=(((pos c).1==p.1) &&((pos c).2==p.2)):=by unfold L6;unfold Bi at hy;rw [decide_eq_true hy.1,decide_eq_true hy.2];rfl
   rw [this]
  ·rw [h] at hbb;cases hbb
 ·rcases hi with ⟨h,-⟩|⟨-,hy,rfl⟩
  ·rw [h] at hbb;cases hbb
  ·have:L6 p c=false:=by
    cases hk:L6 p c with
    |false=>rfl
    |true=>exact absurd ((qk p c).1 hk).1 hy
   rw [this];exact ⟨⟨_,rfl,λh=>by cases h⟩,(x1.tr x2).drew⟩
def af0(y g:Int):cK (RS y g)=true:=by rcases Xm y g with h|h|h|h|h<;>rw [h]<;>decide+kernel
def aci(ak:Int)(p:Po):∀b ∈ made ak p,cK b=true:=by intro b hb;unfold made at hb;obtain ⟨i,_,rfl⟩:=aW.1 hb;exact af0 _ _
def Sf(ak:Int)(p:Po)(hp:VW p)(w:World):ah 78 #[ak,pv p] w λe w'=>∃g s,e=Value.pointer (aB g)/\Ih w' g s p (made ak p)/\Ext w w'/\w.heap.size<=g/\∀b,s.bf=some b->w.heap.size<=b:=by
 apply Sa.vc;intro w0 e0;have x0:=aQ e0;have z0:=eR e0;have hb:Row w0 w [p.1,p.2] Zz:=Row.nw e0;have fin:∀{w1 w3:World} {s:Sl},Ext w0.drew w1->wN w0.drew.heap.size w1 s (gV (made ak p))->w3=w1.alloc (.cells #[p.1,p.2,.slice s.a s.n s.c] yc)->Ih w3 w1 s p (made ak p)/\Ext w w3/\w.heap.size<=w1/\∀b,s.bf=some b->w.heap.size<=b:=λ{w1 w3 s} x1 ho e3=>by have x3:=aQ e3;refine ⟨⟨by rw [e3];exact Row.new w1 [_,_,_] _,(aE.low ho (g7 _)).ext x3,rA _ _,aci _ _⟩,((x0.drew).tr x1).tr x3,(x0.drew.tr x1).size,λb hb=>gx x0.drew.size (ho.own.lt hb).1⟩
 refine ⟨(CX ak p hp w0.drew).mono ?_,(CX ak p hp w0.drew).mono ?_⟩
 ·rintro e w1 ⟨s,rfl,ho,x1⟩;refine ⟨s,rfl,x1.heap (show w.heap.size<w0 by omega),λw3 e3=>⟨_,s,rfl,fin x1 ho e3⟩⟩
 ·rintro e w1 ⟨s,rfl,ho,x1⟩;refine ⟨s,rfl,x1.heap (show w.heap.size<w0 by omega),((hb.ext (Ext.dr _)).ext x1).bY (λj hj=>by rw [eK]),λw3 e3=>⟨_,s,rfl,fin x1 ho e3⟩⟩
def Ih.pos{w:World}{g:Nat}{s:Sl}{p:Po}{C:List Int}(h:Ih w g s p C):af w (ae (aB g) 0) 0 [p.1,p.2]:=by
 rw [bh];exact h.row.bY (λj hj=>by
  simp at hj;rcases j with _|_|j
  ·rfl
  ·rfl
  ·omega)
def YL{C:List Int}(h:C.length=8192):(∀r ∈ gV C,0<=r.1)/\bT (gV C)<=1099511627776/\Bd (gV C).length:=by refine ⟨λr hr=>by have:=(oa hr).1;omega,by rw [mC,h];decide,?_⟩;have:=sB C;show (gV C).length<=1099511627776;omega
def Ew{w:World}{g:Nat}{s:Sl}{p:Po}{C:List Int}(h:Ih w g s p C)(c:Ce)(hc:pW c):ah 140 #[g,eE c] w λe w'=>e=Value.tuple #[(Mx p C c),.bool (L6 p c)]/\Ext w w':=by
 apply FX.vc;intro w0 e0;have x0:Ext w w0.drew:=(Ext.cM w|>.bF e0).drew;have z0:=eR e0;have h0:=h.ext x0;refine ⟨p.1,p.2,h0.pos,(G9 p c hc w0.drew).mono ?_⟩;rintro e w3 ⟨⟨i,rfl,hi⟩,x3⟩;have h3:=h0.ext x3;have z3:=x3.size;refine ⟨i,_,rfl,x3.heap (show w.heap.size<w0 by omega),Br.mk (λhb=> ?_) (λhb=> ?_)⟩
 ·have hf:L6 p c=false:=by simpa using hb
  refine ⟨?_,x0.tr x3⟩;unfold Mx;rw [hf];rfl
 ·have hk:L6 p c=true:=by simpa using hb
  have hie:=hi hk;subst hie;have jv:=BV ((qk p c).1 hk).1;obtain ⟨q1,q2,q3⟩:=YL h.len;refine ⟨s,h3.row.at 2 rfl,(L4 s (gV C) (idx c) w3 (wN.HQ h3.own) q3 q1 q2 (by unfold bN;omega)).mono ?_⟩;rintro e w7 ⟨rfl,x7⟩;refine ⟨_,rfl,x7.heap (kM (show w.heap.size<w0 by omega) z3),?_,(x0.tr x3).tr x7⟩;rw [oz];unfold Mx;rw [hk];rfl
def UP{p:Po}{C:List Int}(hl:C.length=8192)(hm:∀b ∈ C,cK b=true)(c:Ce)(b:Int):(lR p C c b).1.length=8192/\∀x ∈(lR p C c b).1,cK x=true:=by
 unfold lR;split
 ·exact ⟨hl,hm⟩
 ·split
  ·exact ⟨hl,hm⟩
  ·rename_i h;refine ⟨by rw [gW];exact hl,λx hx=> ?_⟩;rcases hX hx with h1|h1
   ·exact hm x h1
   ·subst h1;simpa using h
def aa7{w:World}{g:Nat}{s:Sl}{p:Po}{C:List Int}(h:Ih w g s p C)(c:Ce)(hc:pW c)(b:Int):
  ah 268 #[g,eE c,b] w λe w'=>e=Value.int .i64 (lR p C c b).2/\∃s',Ih w' g s' p (lR p C c b).1/\Mod (λi=>i=g) w w'/\(∀i,s'.bf=some i->s.bf=some i\/w.heap.size<=i):=by
 apply DF.vc;intro w0 e0;have x0:Ext w w0.drew:=(Ext.cM w|>.bF e0).drew;have z0:=eR e0;have hgl:=h.row.lt;have h0:=h.ext x0;refine ⟨p.1,p.2,h0.pos,(G9 p c hc w0.drew).mono ?_⟩;rintro e w3 ⟨⟨i,rfl,hi⟩,x3⟩;have h3:=h0.ext x3;have z3:=x3.size;have z3':w.heap.size<w3:=kM (show w.heap.size<w0 by omega) z3;refine ⟨i,_,rfl,x3.heap (show w.heap.size<w0 by omega),Br.mk (λhb=> ?_) (λhb=> ?_)⟩
 ·have hf:L6 p c=false:=by simpa using hb
  have e:lR p C c b=(C,5):=by unfold lR;rw [if_pos hf]
  rw [e];exact ⟨rfl,s,h3,Mod.aH (x0.tr x3),λi hi=> .inl hi⟩
 ·have hk:L6 p c=true:=by simpa using hb
  have hie:=hi hk;subst hie;have jv:=BV ((qk p c).1 hk).1;refine (gE b w3).mono ?_;rintro e w6 ⟨rfl,x6⟩;have h6:=h3.ext x6;have z6:=x6.size;refine ⟨_,rfl,x6.heap z3',Br.mk (λkE=> ?_) (λkE=> ?_)⟩
  ·have hf:cK b=false:=by simpa using kE
   have e:lR p C c b=(C,1):=by unfold lR;rw [if_neg (by simp [hk]),if_pos hf]
   rw [e];exact ⟨rfl,s,h6,Mod.aH ((x0.tr x3).tr x6),λi hi=> .inl hi⟩
  ·have hm:cK b=true:=by simpa using kE
   have e:lR p C c b=(C.set (idx c).toNat b,0):=by unfold lR;rw [if_neg (by simp [hk]),if_neg (by simp [hm])]
   refine ⟨s,h6.row.at 2 rfl,(Iu s C (idx c) b w6 (wN.HQ h6.own) h.bd (by unfold bN;omega)).mono ?_⟩;rintro e9 w9 ⟨yN,rfl,ho,x9⟩;have hs:Yn C (idx c) b=C.set (idx c).toNat b:=by unfold Yn;rw [if_pos ⟨hm,jv.1,by rw [h.len];omega⟩]
   rw [hs] at ho;obtain ⟨p1,p2⟩:=(h6.row.ext x9).kl (j:=2) (v:=.slice yN.a yN.n yN.c) cp rfl;refine ⟨yN,rfl,x9.heap ab,⟨rfl,p1⟩,?_,λbg HS=> ?_⟩
   ·rw [c5];intro e;have:g=w.heap.size:=by simpa [bz] using e
    omega
   ·obtain ⟨q1,q2⟩:=p2 bg HS;have bn:=UP (p:=p) h.len h.may c b;rw [e] at bn ⊢;refine ⟨rfl,yN,⟨q1,q2.iq (aE.low ho (g7 _)) λi hi hf=> ?_,bn.1,bn.2⟩,(Mod.aH (((x0.tr x3).tr x6).tr x9)).trans q2,λi hi=> .inr ?_⟩
    ·obtain ⟨cs,hr⟩:=bc ho aF hi;exact hr.ne (h6.row.ext x9) aF hf
    ·have:=(ho.own.lt hi).1;have:=(x0.tr x3).size;omega
def xI(p:Po)(w:World):ah 95 #[pv p] w λe w'=>e=(pv p)/\Ext w w':=by apply zM.vc;intro w0 e0 w1 e1 w2 e2;have z0:=eR e0;exact ⟨rfl,((aQ e0).bF e1).ag e2 ab⟩
def acy(w:World)(p:Po)(l:List Rn)(e:Ending)(w':World):Prop:=
 (sG cK l 8192=true/\∃g sg,e=Value.tuple #[.pointer (aB g),aa]/\Ih w' g sg p (cE l)/\w.heap.size<=g/\∀b,sg.bf=some b->w.heap.size<=b)\/
 (sG cK l 8192=false/\e=Value.tuple #[.pointer none,(1:Int)])
def Gi(p:Po)(s:Sl)(l:List Rn)(w:World)(hs:k8 w s l)(hn:Bd l.length):ah 135 #[pv p,s] w λe w'=>acy w p l e w'/\Ext w w':=by
 apply WD.vc;intro w0 e0;have z0:=eR e0;have x0:=aQ e0;have VA:Row w0 w [p.1,p.2] Zz:=Row.nw e0;refine (xh s l 8192 w0 (RdK.ext hs x0) hn (by unfold bN;omega)).mono ?_;rintro e w1 ⟨rfl,x1⟩;have z1:=x1.size;have zd:=lE w1;refine ⟨_,rfl,x1.heap ab,Br.mk (λhb=> ?_) (λhb=> ?_)⟩
 ·have hf:sG cK l 8192=false:=by simpa using hb
  exact ⟨.inr ⟨hf,rfl⟩,x0.tr x1⟩
 ·have ht:sG cK l 8192=true:=by simpa using hb
  obtain ⟨i1,i2,i3⟩:=PB ht;have xd:=(x0.tr x1).drew;have fin:∀{w3 w5:World} {s4:Sl},Ext w1.drew w3->wN w1.drew.heap.size w3 s4 l->w5=w3.alloc (.cells #[p.1,p.2,s4] yc)->acy w p l (.returned (.tuple #[w3,aa])) w5/\Ext w w5:=λ{w3 w5 s4} x3 ho e5=>by have x5:=aQ e5;have z3:=x3.size;refine ⟨.inl ⟨ht,_,s4,rfl,⟨by rw [e5];exact Row.new w3 [_,_,_] _,?_,by omega,i2⟩,by omega,λb hb=>by have:=(ho.own.lt hb).1;omega⟩,xd.tr (x3.tr x5)⟩;rw [i1];exact (aE.low ho (g7 _)).ext x5
  refine ⟨(lT s l w1.drew (RdK.ext hs xd) hn).mono ?_,(lT s l w1.drew (RdK.ext hs xd) hn).mono ?_⟩
  ·rintro e w3 ⟨s4,rfl,ho,x3⟩;exact ⟨s4,rfl,x3.heap ab,λw5 e5=>fin x3 ho e5⟩
  ·rintro e w3 ⟨s4,rfl,ho,x3⟩;exact ⟨s4,rfl,x3.heap ab,((VA.ext x1.drew).ext x3).bY (λj hj=>by rw [eK]),λw5 e5=>fin x3 ho e5⟩
def af8(w:World)(p:Po)(b:List Int)(e:Ending)(w':World):Prop:=
 ((jX cK b 8192).2=0/\∃g sg,e=Value.tuple #[.pointer (aB g),aa]/\Ih w' g sg p (cE (jX cK b 8192).1)/\w.heap.size<=g/\gV (cE (jX cK b 8192).1)=(jX cK b 8192).1/\∀b,sg.bf=some b->w.heap.size<=b)\/
 ((jX cK b 8192).2≠0/\e=Value.tuple #[.pointer none,.int .i64 (jX cK b 8192).2])
def WU(p:Po)(s:Sl)(b:List Int)(w:World)(hs:ij w s b)(hb:InY b)(hc:s.n<=s.c)(hl:b.length<=1099511627776):ah 77 #[pv p,s] w λe w'=>af8 w p b e w'/\Ext w w':=by
 apply R9.vc;intro w0 e0;have z0:=eR e0;have x0:=aQ e0;refine (G8 s b 8192 w0 (RdK.ext hs x0) hb hc hl aF (by unfold bN;omega)).mono ?_;rintro e w1 ⟨⟨s2,rfl,ho⟩,x1⟩;have z1:=x1.size;have dN:=Yl (may:=cK) b 8192;have hag:=P7 (b:=b) (n:=8192) hb aF;refine ⟨s2,_,rfl,x1.heap ab,Br.mk (λjh=> ?_) (λjh=> ?_)⟩
 ·exact ⟨.inr ⟨by simpa using jh,rfl⟩,x0.tr x1⟩
 ·have h0:=cU jh;obtain ⟨f1,f2,f3⟩:=hag h0;have hm:sG cK (jX cK b 8192).1 8192=true:=by have:=f2.sG ab;rw [f3] at this;exact this
  refine (Gi p s2 _ w1 (wN.HQ ho) (by show _<=_;omega)).mono ?_;rintro e w4 ⟨hr,x4⟩;rcases hr with ⟨-,g,sg,rfl,hk,hg,hgb⟩|⟨hf,-⟩
  ·exact ⟨_,_,rfl,x4.heap ab,.inl ⟨h0,g,sg,rfl,hk,by omega,(PB hm).1,λb hb=>by have:=hgb b hb;omega⟩,x0.tr (x1.tr x4)⟩
  ·rw [hm] at hf;cases hf
def JL{C:List Int}(hl:C.length=8192)(hm:∀b ∈ C,cK b=true):okW cK (gV C)=true/\gV C≠ []/\iY cK (-1) (gV C)/\bT (gV C)=8192:=by
 have hs:bT (gV C)=8192:=by rw [mC,hl];rfl
 have jh:gV C≠ []:=by
  intro e;rw [e] at hs
  cases hs
 have hc:∀r ∈ gV C,cK r.2=true:=λr hr=>by refine hm _ ?_;have:=W4 hr (oa hr).1;rwa [oz] at this
 refine ⟨aiZ (Ge C) hc ab jh,jh,?_,hs⟩;refine iY.of (λr hr=> ?_) (Ge C).next (λr hr=> ?_)
 ·have h1:=oa hr;have h2:=hc r hr;have h3:=h2;unfold cK at h3;simp only [fk,cN] at h3;exact ⟨h1.1,by omega,by omega,by omega,h2⟩
 ·have h2:=hc r (List.mem_of_mem_head? hr);unfold cK at h2;simp only [fk,cN] at h2;omega
def W5{C:List Int}(hl:C.length=8192)(hm:∀b ∈ C,cK b=true):∀r ∈ gV C,bN r.1/\bN r.2:=W6 (JL hl hm).2.2.1
def RI{w:World}{g:Nat}{s:Sl}{p:Po}{C:List Int}(h:Ih w g s p C):ah 137 #[g] w λe w'=>∃s':Sl,e=s'/\m4 w w' s' (sy (gV C))/\Ext w w':=by apply zO.vc;have dN:=sB C;have hl:=h.len;refine ⟨s,h.row.at 2 rfl,(DL s (gV C) w (wN.HQ h.own) ab (W5 h.len h.may)).mono ?_⟩;rintro e w1 ⟨⟨s2,rfl,ho⟩,x1⟩;rw [if_pos (JL h.len h.may).1] at ho;exact ⟨s2,_,rfl,s2,rfl,ho,x1⟩
abbrev uB:TypeId:=277
abbrev BL:TypeId:=217
abbrev BM:TypeId:=143
abbrev cJ:TypeId:=150
abbrev tPI:TypeId:=137
def CV{a:Addr}{K:Prop}(h:K):aP (dq (some a)) K:=h
def UI(p:Po)(w:World):ah 72 #[pv p] w λe w'=>e=Value.tuple #[(Du p),.bool (decide (tp p))]/\Ext w w':=by
 apply aaH.vc;intro w0 e0;have x0:=aQ e0;have no:¬tp p->Ending.returned (.tuple #[aa,false])=Ending.returned (.tuple #[(Du p),.bool (decide (tp p))])/\Ext w w0:=λh=>⟨by rw [aeY h,decide_eq_false h],x0⟩
 refine Br.mk (λh=>no ?_) (λh=>Br.mk (λh2=>no ?_) (λh2=>Br.mk (λh3=>no ?_) (λh3=>Br.mk (λh4=>no ?_) (λh4=> ?_))))<;>simp only [cN,fm] at*
 ·unfold tp;omega
 ·unfold tp;omega
 ·unfold tp;omega
 ·unfold tp;omega
 ·have pc:tp p:=by unfold tp;omega
  refine ⟨?_,x0⟩;rw [decide_eq_true pc,aK (n:=p.1+524288) (by unfold bN;omega),aK (n:=(p.1+524288)*2) (by unfold bN;omega),aK (n:=(p.1+524288)*2*524288) (by unfold bN;omega),aK (n:=(p.1+524288)*2*524288+p.2) (by unfold bN;omega),aK (n:=(p.1+524288)*2*524288+p.2+524288) (by unfold bN;omega),aK (n:=(p.1+524288)*2*524288+p.2+524288+1) (by unfold bN;omega)];unfold Du;rw [if_pos pc,show (p.1+524288)*2*524288+p.2+524288+1=(p.1+524288)*1048576+(p.2+524288)+1 by omega]
def A3(p:Po):Po:=(cm p.1 5-2,cm p.2 5-2)
def VL(p:Po)(hp:bN p.1/\bN p.2)(w:World):ah 51 #[pv p] w λe w'=>e=(pv (A3 p))/\Ext w w':=by apply WN.vc;have h1:=bM p.1 5 aF;have h2:=bM p.2 5 aF;intro w0 e0 w1 e1;have z0:=eR e0;have x1:Ext w w1.drew:=((aQ e0).bF e1).drew;have hb:Row w1.drew w [p.1,p.2] Zz:=((by rw [e0];exact Row.new w [_,_] _:Row w0 w [p.1,p.2] Zz).ext (aQ e1)).ext (Ext.dr _);refine (c8 p.1 5 w1.drew hp.1 aF (by unfold bN;omega)).mono ?_;rintro e w2 ⟨rfl,rfl⟩;refine ⟨_,rfl,rfl,rfl,hb.bY (λj hj=>by simp at hj;subst hj;rfl),(c8 p.2 5 w1.drew hp.2 aF (by unfold bN;omega)).mono ?_⟩;rintro e w2 ⟨rfl,rfl⟩;refine ⟨_,rfl,rfl,rfl,λw6 e6=>⟨?_,x1.ag e6 ab⟩⟩;have q1:ao (cm p.1 5-2)=cm p.1 5-2:=wI;have q2:ao (cm p.2 5-2)=cm p.2 5-2:=wI;rw [q1,q2];rfl
def GI(v:Value):Prop:=∃n:Int,v=.int .i64 n
def Lu:iW Tryz.prog Ld GI:=by
 refine ⟨?_,?_,?_⟩
 ·rintro x y ⟨a,rfl⟩ ⟨b,rfl⟩;refine ⟨a==b,by kernel_rfl,?_⟩;simp
 ·rintro x ⟨a,rfl⟩ b w;kernel_rfl
 ·rintro x ⟨a,rfl⟩;simp [Instr.sameBits]
def XQ{P:Program}{w:World}{r:Nat}{es:Array MapEntry}{clock:Nat}(t:TypeId)(hb:w.heap[r]? =some (.map es clock)):
  (Extern.MapsClone.clone #[.iface t (.map (some r))]).run P w=.ok (.iface t (.map (some w.heap.size))) (w.alloc (.map es clock)):=by
 have e:Extern.MapsClone.clone #[.iface t (.map (some r))]=(getObj r>>=λo=>match o with
   | .map entries clock=>(newObj (.map entries clock)>>=λn=>pure (.iface t (.map (some n))))
   |_=>stuck "maps.clone: a map expected"):=rfl
 rw [e];simp [oZ hb,kj,Result.andThen,Sem.run_bind]
def Gf{w:World}{r:Nat}{kvs:List (Value × Value)}(hm:cD GI w (some r) kvs):ah 272 #[.map (some r)] w λe w'=>e=Value.map (some w.heap.size)/\cD GI w' (some w.heap.size) kvs/\Ext w w':=by apply DH.vc;refine Br.mk (λh=>by cases h) (λ_=> ?_);obtain ⟨es,clock,hb,h2⟩:=hm;refine ⟨Extern.MapsClone.clone,⟨_,Tryz.func298,by kernel_rfl,by kernel_rfl,by kernel_rfl⟩,_,_,XQ _ hb,_,rfl,_,rfl,rfl,⟨es,clock,World.alloc_heap_new w _,h2⟩,Ext.al w _⟩
set_option maxRecDepth 100000
set_option maxHeartbeats 8000000
set_option linter.unusedVariables false
variable {R:Ending->World->Prop} {w:World} {a0 a1 a2 a3 a4 a5 a6 a7 a8 a9 aA ar au aU aV aZ bG bC bD Cf aj aq aw bt bR bH eB eO eC wh bA bQ bw wi wm vb vd wo wu wx Ch Ci Cj Ck Cm Cn Co Cp Cq Cr:Int}
def BK.vc{a0:Addr}(h:
 ∃(x0:Int),ld w (ae (some a0) 2)=some (.int .i64 x0)/\
 Br (x0>0)
 (∃(x1:Int),ld w (ae (some a0) 2)=some (.int .i64 x1)/\
 (true=true/\Wr w (ae (some a0) 2) 1)/\(∀w2,w2=aL w (ae (some a0) 2) [(ao (x1-1))]->
 R false w2))
 (∃(x3:Int),ld w (ae (some a0) 1)=some (.int .i64 x3)/\
 Br (x3>0)
 (∃(x4:Int),ld w (ae (some a0) 1)=some (.int .i64 x4)/\
 (true=true/\Wr w (ae (some a0) 1) 1)/\(∀w5,w5=aL w (ae (some a0) 1) [(ao (x4-1))]->
 R (Value.bool (decide (x3>0))) w5))
 (R (Value.bool (decide (x3>0))) w))):ah 227 #[a0] w R:=
 cq bU Tryz.func227 h
def Ik.vc{a0:Addr}{a2:Sl}(h:
 ah 227 #[a0] w (λe w0=>∃(b1:Bool),e=b1/\
 Br b1
 (R (9:Int) w0)
 (ah 228 #[a0] w0 (λe w2=>∃(m3:Option Nat),e=Value.map m3/\
 ∃(x4:Int),ld w2.drew (ae (some a0) 0)=some (.int .i64 x4)/\
 (ah 229 #[.map m3] w2.drew (λe w5=>∃(x6:Int),e=x6/\
 af w5 (ae (some a0) 0) 0 [x4]/\∃(G7:Value->Prop)(kvs8:List (Value × Value)),iW Tryz.prog 3 G7/\cD G7 w5 m3 kvs8/\G7 a1/\∃(s9:Sl),∃b10:Bool,Ie kvs8 a1 (.slice none 0 0) s9 b10/\
 af w5 (ae (some a0) 0) 0 [x4]/\Br (decide (((ao (x6-((s9.n:Nat):Int))):Int)>(ao (x4-((a2.n:Nat):Int)))))
 (R (8:Int) w5)
 (∃(Ct:Sl),ld w5.drew (ae (some a0) 4)=some (.slice Ct.a Ct.n Ct.c)/\
 ah 230 #[a2] w5.drew (λe dj=>∃(yC:Sl),e=yC/\
 af dj (ae (some a0) 4) 0 [Ct]/\Aw dj #[a1,yC] 279 λbO=>
 ba 32 2 bO Ct 1 [a1,yC]/\∀(lZ:Sl)(cF:World),aY 279 2 bO Ct 1 [a1,yC] lZ cF->Kp dj bO cF/\
 (true=true/\Wr cF (ae (some a0) 4) 1)/\bz (ae (some a0) 4)≠some dj.heap.size/\(∀cL,cL=aL cF (ae (some a0) 4) [lZ]->
 R (0:Int) cL)))))/\(∃(G18:Value->Prop)(kvs19:List (Value × Value)),iW Tryz.prog 3 G18/\cD G18 w2.drew m3 kvs19/\G18 a1/\∃(vM:Sl),∃MC:Bool,Ie kvs19 a1 (.slice none 0 0) vM MC/\
 af w2.drew (ae (some a0) 0) 0 [x4]/\ah 229 #[.map m3] w2.drew (λe dP=>∃(dG:Int),e=dG/\
 af dP (ae (some a0) 0) 0 [x4]/\Br (decide (((ao (dG-((vM.n:Nat):Int))):Int)>(ao (x4-((a2.n:Nat):Int)))))
 (R (8:Int) dP)
 (∃(wE:Sl),ld dP.drew (ae (some a0) 4)=some (.slice wE.a wE.n wE.c)/\
 ah 230 #[a2] dP.drew (λe cW=>∃(Ra:Sl),e=Ra/\
 af cW (ae (some a0) 4) 0 [wE]/\Aw cW #[a1,Ra] 279 λdX=>
 ba 32 2 dX wE 1 [a1,Ra]/\∀(Q5:Sl)(dW:World),aY 279 2 dX wE 1 [a1,Ra] Q5 dW->Kp cW dX dW/\
 (true=true/\Wr dW (ae (some a0) 4) 1)/\bz (ae (some a0) 4)≠some cW.heap.size/\(∀fE,fE=aL dW (ae (some a0) 4) [Q5]->
 R (0:Int) fE))))))))):ah 164 #[a0,a1,a2] w R:=
 cq bU Tryz.func164 h
def Gv.vc{a0:Addr}(h:
 ah 227 #[a0] w (λe w0=>∃(b1:Bool),e=b1/\
 Br b1
 (R (9:Int) w0)
 (ah 228 #[a0] w0 (λe w2=>∃(m3:Option Nat),e=Value.map m3/\
 (true=true/\Wr w2 (ae (some a0) 3) 1)/\(∀w4,w4=aL w2 (ae (some a0) 3) [.map m3]->
 (true=true/\Wr w4 (ae (some a0) 4) 1)/\(∀w5,w5=aL w4 (ae (some a0) 4) [.slice none 0 0]->
 R (0:Int) w5)))))):ah 165 #[a0] w R:=
 cq bU Tryz.func165 h
def Xt.vc{a0:Sl}(h:
 ∃I0:Nat->Int->Sl->World->Prop,
 (∃n1,I0 n1 ((ao (a2-1))) a0 w)/\
 ∀(n1:Nat)(yI:Nat->Value)(x3:Int)(s4:Sl)(w5:World),I0 n1 x3 s4 w5->
 Br (x3>=0)
 (aP (ngC (ao (8*x3))) (Aw w5 #[.int .u8 (fi ((a1:Int).fdiv (2 ^(min ((ao (8*x3)):Int).toNat 64))))] 5 λw7=>
 ba 1 1 w7 s4 1 [.int .u8 (fi ((a1:Int).fdiv (2 ^(min ((ao (8*x3)):Int).toNat 64))))]/\∀(s8:Sl)(w9:World),aY 5 1 w7 s4 1 [.int .u8 (fi ((a1:Int).fdiv (2 ^(min ((ao (8*x3)):Int).toNat 64))))] s8 w9->Kp w5 w7 w9/\
 ∃n6,n6<n1/\I0 n6 ((ao (x3-1))) s8 w9))
 (R s4 w5)):ah 224 #[a0,a1,a2] w R:=
 cq ⟨[(2,⟨[(7,.int .i64),(0,.slice)],[],[]⟩)],[],[]⟩ Tryz.func224 h
def SX.vc{a0:Sl}(h:
 ∃I0:Nat->Int->Int->World->Prop,
 (∃n1,I0 n1 (0) (0) w)/\
 ∀(n1:Nat)(yI:Nat->Value)(x3 x4:Int)(w5:World),I0 n1 x3 x4 w5->
 Br (decide (x3<((a0.n:Nat):Int)))
 (eA a0.a x3 a0.n/\∃(x7:Int),ld w5 (ae a0.a ((x3:Int).toNat*1))=some (.int .u8 x7)/\
 ∃n6,n6<n1/\I0 n6 ((ao (x3+1))) ((MM .i64 (ao (x4*2 ^(min (8:Int).toNat 64))) (ao x7))) w5)
 (R x4 w5)):ah 247 #[a0] w R:=
 cq ⟨[(3,⟨[(8,.int .i64),(3,.int .i64)],[],[]⟩)],[],[]⟩ Tryz.func247 h
def Pd.vc{a1:Sl}(h:
 Br (a0<1)
 (R (Value.tuple #[.slice none 0 0,(1:Int)]) w)
 (Br (a0>1073741824)
 (R (Value.tuple #[.slice none 0 0,(1:Int)]) w)
 (Br (decide ((((a1.n:Nat):Int):Int)>65536))
 (R (Value.tuple #[.slice none 0 0,(1:Int)]) w)
 (ah 224 #[.slice none 0 0,a0,(4:Int)] w (λe w0=>∃(s1:Sl),e=s1/\
 ah 224 #[s1,((a1.n:Nat):Int),(3:Int)] w0 (λe w2=>∃(s3:Sl),e=s3/\
 Aw w2 #[s3,a1] 62 λw4=>
 ah 226 #[.slice (aB w2) 2 2] w4 (λe w5=>∃(s6:Sl),e=s6/\
 ah 225 #[s6] w5 (λe w7=>∃(s8:Sl),e=s8/\
 R (Value.tuple #[s8,aa]) w7)))))))):ah 163 #[a0,a1] w R:=
 cq bU Tryz.func163 h
def BX.vc{a0:Addr}{a2:Sl}(h:
 ah 132 #[a1] w (λe w0=>∃(b1:Bool),e=b1/\
 Br (!b1)
 (R (1:Int) w0)
 (ah 133 #[a0,a1] w0 (λe w2=>∃(x3 x4:Int)(s5:Sl),e=Value.agg #[x3,x4,s5]/\
 Aw w2 #[aa,aa,.slice none 0 0] 202 λw6=>
 Sw w6 w2 #[x3,x4,s5] λw7=>
 ah 163 #[(ao (x4+1)),a2] w7 (λe w8=>∃(s9:Sl)(bj:Int),e=Value.tuple #[s9,bj]/\Kp w2 w7 w8/\
 Br (bj !=0)
 (R bj w8)
 (∃(Zh:Option Addr),ld w8.drew (ae (ae (some a0) 0) 0)=some (.pointer Zh)/\
 ah 164 #[Zh,(lk .i64 x3 1),s9] w8.drew (Ri λcn dj=>Kp w2 w8.drew dj/\
 af dj (aB w2) 0 [x3]/\Br (cn !=0)
 (R cn dj)
 (∃(p14:Option Addr),ld dj (ae (ae (some a0) 0) 0)=some (.pointer p14)/\
 ah 165 #[p14] dj (Ri λcH dB=>Kp w2 dj dB/\
 R cH dB))))))))):ah 115 #[a0,a1,a2] w R:=
 cq bU Tryz.func115 h
def DS.vc{a0:Addr}(h:
 Aw w #[aa,aa,.slice none 0 0] 202 λw0=>
 Aw w0 #[aa,aa,.slice none 0 0] 202 λw1=>
 Sw w1 w0 #[(ao ((ao (2*a1))+1)),aa,.slice none 0 0] λw2=>
 ∃I3:Nat->Int->Int->Int->Sl->World->Prop,
 (∃n4,aO [aa,aa,.slice none 0 0]/\I3 n4 (0) ((ao ((ao (2*a1))+1))) (0) ⟨none,0,0⟩ w2)/\
 ∀(n4:Nat)(us5:Nat->Value)(x6 x7 x8:Int)(s9:Sl)(bP:World),I3 n4 x6 x7 x8 s9 bP->
 Br (x6<2)
 (((0:Int)<=x6/\x6<((2:Nat):Int))/\∃(bV:Int),([(ao (2*a1)),(ao ((ao (2*a1))+1))]:LV)[(x6:Int).toNat*1]? =some (.int .i64 bV)/\
 ∃(QO:Option Addr),ld bP (ae (ae (some a0) 0) 0)=some (.pointer QO)/\
 ah 182 #[QO,bV] bP (λe bO=>∃(lZ:Sl)(b16:Bool),e=Value.tuple #[lZ,b16]/\K2 w w0 bP bO (
 ah 183 #[lZ] bO (λe cL=>∃(cA:Int)(YU:Sl)(di:Int),e=Value.tuple #[cA,YU,di]/\K2 w w0 bO cL (
 Br (di==0)
 (Br (cA>x8)
 (Sw cL w0 #[bV,cA,YU] λeZ=>
 ∃tG,tG<n4/\aO [aa,aa,.slice none 0 0]/\I3 tG ((ao (x6+1))) bV cA YU eZ)
 (∃tG,tG<n4/\aO [aa,aa,.slice none 0 0]/\I3 tG ((ao (x6+1))) x7 x8 s9 cL))
 (∃tG,tG<n4/\aO [aa,aa,.slice none 0 0]/\I3 tG ((ao (x6+1))) x7 x8 s9 cL))))))
 (Sw bP w #[x7,x8,s9] λdP=>
 R (Value.agg #[x7,x8,s9]) dP)):ah 133 #[a0,a1] w R:=
 cq ⟨[(3,⟨[(23,.int .i64)],[(1,[.int .i64,.int .i64,.slice])],[]⟩)],[],[]⟩ Tryz.func133 h
def aeU.vc{a0:Sl}(h:
 ah 269 #[a0] w (λe w0=>∃(x1:Int),e=Value.int .u16 x1/\
 ah 270 #[.int .u16 x1] w0 (λe w2=>∃(x3 x4:Int),e=Value.agg #[.int .u8 x3,.int .u8 x4]/\
 Aw w2 #[.int .u8 0,.int .u8 0] 321 λw5=>
 Wt w5 ⟨w2,0,none⟩ 2/\(∀w6,w6=aL w5 (aB w2) [.int .u8 x3,.int .u8 x4]->
 Aw w6 #[a0,.slice (aJ (aB w2) (0) (2) 1) (2-0) (2-0)] 62 λw7=>
 ah 226 #[.slice (aB w6) 2 2] w7 (λe w8=>∃(s9:Sl),e=s9/\
 R s9 w8))))):ah 225 #[a0] w R:=
 cq bU Tryz.func225 h
def abk.vc{a0:Sl}(h:
 Br (decide ((((a0.n:Nat):Int):Int)>=2))
 (ah 269 #[a0] w (λe w0=>∃(x1:Int),e=Value.int .u16 x1/\
 R (Value.bool (x1==0)) w0))
 (R false w)):ah 281 #[a0] w R:=
 cq bU Tryz.func281 h
def ajo.vc{a0:Sl}(h:
 ah 296 #[] w (λe w0=>∃(x1:Int),e=Value.int .u16 x1/\
 ah 297 #[.int .u16 x1,a0] w0 (λe w2=>∃(x3:Int),e=Value.int .u16 x3/\
 R (Value.int .u16 x3) w2))):ah 269 #[a0] w R:=
 cq bU Tryz.func269 h
def DT.vc(h:
 Aw w #[.int .u8 0,.int .u8 0] 321 λw0=>
 Wt w0 ⟨w,0,none⟩ 2/\(∀w1,w1=aL w0 w [.int .u8 (fi ((a0:Int).fdiv (2 ^(min (8:Int).toNat 16)))),.int .u8 (fi a0)]->
 ∃(x2 x3:Int),af w1 w 0 [.int .u8 x2,.int .u8 x3]/\
 R (Value.agg #[.int .u8 x2,.int .u8 x3]) w1)):ah 270 #[.int .u16 a0] w R:=
 cq bU Tryz.func270 h
def Xu.vc(h:
 R (Value.int .u16 65535) w):ah 296 #[] w R:=
 cq bU Tryz.func296 h
def Gw.vc{a1:Sl}(h:
 ah 310 #[] w (λe w0=>∃(x1 x2 x3 x4 x5 x6 x7 x8 x9 bj bu bV cn bI cw cH:Int),e=Value.agg #[.int .u16 x1,.int .u16 x2,.int .u16 x3,.int .u16 x4,.int .u16 x5,.int .u16 x6,.int .u16 x7,.int .u16 x8,.int .u16 x9,.int .u16 bj,.int .u16 bu,.int .u16 bV,.int .u16 cn,.int .u16 bI,.int .u16 cw,.int .u16 cH]/\
 Aw w0 #[.int .u16 0,.int .u16 0,.int .u16 0,.int .u16 0,.int .u16 0,.int .u16 0,.int .u16 0,.int .u16 0,.int .u16 0,.int .u16 0,.int .u16 0,.int .u16 0,.int .u16 0,.int .u16 0,.int .u16 0,.int .u16 0] 358 λcL=>
 Wt cL ⟨w0,0,none⟩ 16/\(∀dH,dH=aL cL (aB w0) [.int .u16 x1,.int .u16 x2,.int .u16 x3,.int .u16 x4,.int .u16 x5,.int .u16 x6,.int .u16 x7,.int .u16 x8,.int .u16 x9,.int .u16 bj,.int .u16 bu,.int .u16 bV,.int .u16 cn,.int .u16 bI,.int .u16 cw,.int .u16 cH]->
 ∃I19:Nat->Int->Int->World->Prop,
 (∃TR,I19 TR (0) a0 dH)/\
 ∀(TR:Nat)(auZ:Nat->Value)(ef dG:Int)(gl:World),I19 TR ef dG gl->
 Br (decide (ef<((a1.n:Nat):Int)))
 (eA a1.a ef a1.n/\∃(fg:Int),ld gl (ae a1.a ((ef:Int).toNat*1))=some (.int .u8 fg)/\
 (0:Int)<=(lk .u16 ((dG:Int).fdiv (2 ^(min (12:Int).toNat 16))) (mY ((fg:Int).fdiv (2 ^(min (4:Int).toNat 8)))))/\((lk .u16 ((dG:Int).fdiv (2 ^(min (12:Int).toNat 16))) (mY ((fg:Int).fdiv (2 ^(min (4:Int).toNat 8))))):Int)<((16:Nat):Int)/\∃(fO:Int),ld gl (ae (aB w0) (((lk .u16 ((dG:Int).fdiv (2 ^(min (12:Int).toNat 16))) (mY ((fg:Int).fdiv (2 ^(min (4:Int).toNat 8))))):Int).toNat*1))=some (.int .u16 fO)/\
 (0:Int)<=(lk .u16 (((lk .u16 (mY (dG*2 ^(min (4:Int).toNat 16))) fO):Int).fdiv (2 ^(min (12:Int).toNat 16))) (mY (oG .u8 fg 15)))/\((lk .u16 (((lk .u16 (mY (dG*2 ^(min (4:Int).toNat 16))) fO):Int).fdiv (2 ^(min (12:Int).toNat 16))) (mY (oG .u8 fg 15))):Int)<((16:Nat):Int)/\∃(gm:Int),ld gl (ae (aB w0) (((lk .u16 (((lk .u16 (mY (dG*2 ^(min (4:Int).toNat 16))) fO):Int).fdiv (2 ^(min (12:Int).toNat 16))) (mY (oG .u8 fg 15))):Int).toNat*1))=some (.int .u16 gm)/\
 ∃n25,n25<TR/\I19 n25 ((ao (ef+1))) ((lk .u16 (mY ((lk .u16 (mY (dG*2 ^(min (4:Int).toNat 16))) fO)*2 ^(min (4:Int).toNat 16))) gm)) gl)
 (R (Value.int .u16 dG) gl)))):ah 297 #[.int .u16 a0,a1] w R:=
 cq ⟨[(3,⟨[(11,.int .i64),(0,.int .u16)],[],[]⟩)],[],[]⟩ Tryz.func297 h
def Xv.vc(h:
 Aw w #[.int .u16 0,.int .u16 0,.int .u16 0,.int .u16 0,.int .u16 0,.int .u16 0,.int .u16 0,.int .u16 0,.int .u16 0,.int .u16 0,.int .u16 0,.int .u16 0,.int .u16 0,.int .u16 0,.int .u16 0,.int .u16 0] 358 λw0=>
 Aw w0 #[.int .u16 0,.int .u16 0,.int .u16 0,.int .u16 0,.int .u16 0,.int .u16 0,.int .u16 0,.int .u16 0,.int .u16 0,.int .u16 0,.int .u16 0,.int .u16 0,.int .u16 0,.int .u16 0,.int .u16 0,.int .u16 0] 358 λw1=>
 ∃I2:Nat->Int->World->Prop,
 (∃n3,I2 n3 (0) w1)/\
 ∀(n3:Nat)(us4:Nat->Value)(x5:Int)(w6:World),I2 n3 x5 w6->
 Br (x5<16)
 (∃I8:Nat->Int->Int->World->Prop,
 (∃n9,I8 n9 (0) ((mY ((mY x5)*2 ^(min (12:Int).toNat 16)))) w6)/\
 ∀(n9:Nat)(Zc:Nat->Value)(bu bV:Int)(bK:World),I8 n9 bu bV bK->
 Br (bu<4)
 (ah 321 #[.int .u16 bV] bK (λe dB=>∃(cH:Int),e=Value.int .u16 cH/\
 ∃HT,HT<n9/\I8 HT ((ao (bu+1))) cH dB))
 ((0:Int)<=x5/\x5<((16:Nat):Int)/\(true=true/\Wr bK (ae (aB w0) ((x5:Int).toNat*1)) 1)/\(∀cL,cL=aL bK (ae (aB w0) ((x5:Int).toNat*1)) [.int .u16 bV]->
 ∃n7,n7<n3/\I2 n7 ((ao (x5+1))) cL)))
 (∃(cA cu di db ef dG eU dY fg fO gm gn jN iD ic eL:Int),af w6 (aB w0) 0 [.int .u16 cA,.int .u16 cu,.int .u16 di,.int .u16 db,.int .u16 ef,.int .u16 dG,.int .u16 eU,.int .u16 dY,.int .u16 fg,.int .u16 fO,.int .u16 gm,.int .u16 gn,.int .u16 jN,.int .u16 iD,.int .u16 ic,.int .u16 eL]/\
 Wt w6 ⟨w,0,none⟩ 16/\(∀jf,jf=aL w6 w [.int .u16 cA,.int .u16 cu,.int .u16 di,.int .u16 db,.int .u16 ef,.int .u16 dG,.int .u16 eU,.int .u16 dY,.int .u16 fg,.int .u16 fO,.int .u16 gm,.int .u16 gn,.int .u16 jN,.int .u16 iD,.int .u16 ic,.int .u16 eL]->
 ∃(kI nh gI gk oh mP lC nj rU lD pI iz sW yL HV tc:Int),af jf w 0 [.int .u16 kI,.int .u16 nh,.int .u16 gI,.int .u16 gk,.int .u16 oh,.int .u16 mP,.int .u16 lC,.int .u16 nj,.int .u16 rU,.int .u16 lD,.int .u16 pI,.int .u16 iz,.int .u16 sW,.int .u16 yL,.int .u16 HV,.int .u16 tc]/\
 R (Value.agg #[.int .u16 kI,.int .u16 nh,.int .u16 gI,.int .u16 gk,.int .u16 oh,.int .u16 mP,.int .u16 lC,.int .u16 nj,.int .u16 rU,.int .u16 lD,.int .u16 pI,.int .u16 iz,.int .u16 sW,.int .u16 yL,.int .u16 HV,.int .u16 tc]) jf))):ah 310 #[] w R:=
 cq ⟨[(8,⟨[(11,.int .i64),(4,.int .u16)],[],[]⟩),(4,⟨[(5,.int .i64)],[],[]⟩)],[],[]⟩ Tryz.func310 h
def Pe.vc(h:
 Br (((oG .u16 a0 32768):Int) !=0)
 (R (Value.int .u16 (lk .u16 (mY (a0*2 ^(min (1:Int).toNat 16))) 4129)) w)
 (R (Value.int .u16 (mY (a0*2 ^(min (1:Int).toNat 16)))) w)):ah 321 #[.int .u16 a0] w R:=
 cq bU Tryz.func321 h
def xy.vc{a0:Sl}(h:
 ∃I0:Nat->Int->Int->World->Prop,
 (∃n1,I0 n1 (0) (0) w)/\
 ∀(n1:Nat)(yI:Nat->Value)(x3 x4:Int)(w5:World),I0 n1 x3 x4 w5->
 Br (decide (x3<((a0.n:Nat):Int)))
 (eA a0.a x3 a0.n/\∃(s7:Sl),ld w5 (ae a0.a ((x3:Int).toNat*1))=some (.slice s7.a s7.n s7.c)/\
 Br (decide (((ao (x4+((s7.n:Nat):Int))):Int)<0))
 (False)
 (∃n6,n6<n1/\I0 n6 ((ao (x3+1))) ((ao (x4+((s7.n:Nat):Int)))) w5))
 (ah 271 #[.slice none 0 0,x4] w5 (λe w8=>∃(s9:Sl),e=s9/\
 ∃Eg:Nat->Int->Sl->World->Prop,
 (∃tG,Eg tG (0) s9 w8)/\
 ∀(tG:Nat)(aj5:Nat->Value)(cn:Int)(s14:Sl)(dB:World),Eg tG cn s14 dB->
 Br (decide (cn<((a0.n:Nat):Int)))
 (eA a0.a cn a0.n/\∃(Hp:Sl),ld dB (ae a0.a ((cn:Int).toNat*1))=some (.slice Hp.a Hp.n Hp.c)/\
 ∃l18:LV,Rd dB Hp.a l18/\ba 1 1 dB s14 Hp.n l18/\∀(YU:Sl)(eW:World),aY 5 1 dB s14 Hp.n l18 YU eW->
 ∃IE,IE<tG/\Eg IE ((ao (cn+1))) YU eW)
 (R s14 dB)))):ah 226 #[a0] w R:=
 cq ⟨[(11,⟨[(27,.int .i64),(6,.slice)],[],[]⟩),(3,⟨[(11,.int .i64),(3,.int .i64)],[],[]⟩)],[],[]⟩ Tryz.func226 h
def Bb.vc{a0:Sl}(h:
 Br (a1<0)
 (False)
 (Br (decide (((ao (a1-(ao (((a0.c:Nat):Int)-((a0.n:Nat):Int))))):Int)>0))
 ((0:Int)<=((a0.c:Nat):Int)/\((a0.c:Nat):Int)<=((a0.c:Nat):Int)/\((0:Int)<=(ao (a1-(ao (((a0.c:Nat):Int)-((a0.n:Nat):Int)))))/\ao (ao (a1-(ao (((a0.c:Nat):Int)-((a0.n:Nat):Int)))))=(ao (a1-(ao (((a0.c:Nat):Int)-((a0.n:Nat):Int)))))/\((ao (a1-(ao (((a0.c:Nat):Int)-((a0.n:Nat):Int))))):Int)*1<=281474976710656)/\ba 1 1 w ⟨(aJ a0.a (0) (a0.c) 1),((((a0.c:Nat):Int):Int).toNat-0),(a0.c-0)⟩ ((ao (a1-(ao (((a0.c:Nat):Int)-((a0.n:Nat):Int))))):Int).toNat (bo [.int .u8 0] ((ao (a1-(ao (((a0.c:Nat):Int)-((a0.n:Nat):Int))))):Int).toNat)/\∀(s0:Sl)(w1:World),aY 5 1 w ⟨(aJ a0.a (0) (a0.c) 1),((((a0.c:Nat):Int):Int).toNat-0),(a0.c-0)⟩ ((ao (a1-(ao (((a0.c:Nat):Int)-((a0.n:Nat):Int))))):Int).toNat (bo [.int .u8 0] ((ao (a1-(ao (((a0.c:Nat):Int)-((a0.n:Nat):Int))))):Int).toNat) s0 w1->
 (0:Int)<=((a0.n:Nat):Int)/\((a0.n:Nat):Int)<=((s0.c:Nat):Int)/\R (Value.slice (aJ s0.a (0) (s0.c) 1) ((((a0.n:Nat):Int):Int).toNat-0) (s0.c-0)) w1)
 (R a0 w))):ah 271 #[a0,a1] w R:=
 cq bU Tryz.func271 h
def uI.vc{a0:Addr}(h:
 ∃(s0:Sl),ld w (ae (some a0) 3)=some (.slice s0.a s0.n s0.c)/\
 ∃I1:Nat->Int->Int->World->Prop,
 (∃n2,I1 n2 (0) (0) w)/\
 ∀(n2:Nat)(us3:Nat->Value)(x4 x5:Int)(w6:World),I1 n2 x4 x5 w6->
 Br (decide (x4<((s0.n:Nat):Int)))
 (eA s0.a x4 s0.n/\∃(p8:Option Addr),ld w6 (ae s0.a ((x4:Int).toNat*1))=some (.pointer p8)/\
 aP (dq p8) (aP (dq p8) (∃(b9:Bool),ld w6 (ae p8 1)=some (.bool b9)/\
 ah 79 #[a0,p8] w6 (λe bP=>∃(bu:Int),e=bu/\
 Br (bu !=0)
 (R (Value.tuple #[x5,bu]) bP)
 (Br b9
 (∃n7,n7<n2/\I1 n7 ((ao (x4+1))) ((ao (x5+1))) bP)
 (∃n7,n7<n2/\I1 n7 ((ao (x4+1))) x5 bP))))))
 (R (Value.tuple #[x5,aa]) w6)):ah 22 #[a0] w R:=
 cq ⟨[(3,⟨[(14,.int .i64),(4,.int .i64)],[],[]⟩)],[],[]⟩ Tryz.func22 h
def Ag.vc{a0:Addr}(h:
 Aw w #[aj,aq] 40 λw0=>
 ah 73 #[a0,.agg #[aj,aq]] w0 (Ri λx2 w1=>Kp w w0 w1/\
 Br (x2<0)
 (R (6:Int) w1)
 (∃(s3:Sl),ld w1 (ae (some a0) 3)=some (.slice s3.a s3.n s3.c)/\
 eA s3.a x2 s3.n/\∃(p4:Option Addr),ld w1 (ae s3.a ((x2:Int).toNat*1))=some (.pointer p4)/\
 ah 79 #[a0,p4] w1 (Ri λx6 w5=>Kp w w1 w5/\
 R x6 w5)))):ah 23 #[a0,.agg #[aj,aq]] w R:=
 cq bU Tryz.func23 h
def BN.vc{a0:Addr}{a1:Sl}(h:
 ∃(p0:Option Addr),ld w (ae (some a0) 0)=some (.pointer p0)/\
 ah 115 #[p0,aa,a1] w (λe w1=>∃(x2:Int),e=x2/\
 R x2 w1)):ah 61 #[a0,a1] w R:=
 cq bU Tryz.func61 h
end Go.Proofs.YtkkkfkopcfdmaaaGreatDoor
