import Derived.Test.YtalpkjfpmdpbiaaGreatDoorGQ
import Derived.Test.YtalpkjfpmdpbiaaGreatDoorLib
import Derived.Test.YtalpkjfpmdpbiaaGreatDoorP
set_option linter.all false
namespace Go.Proofs.YtalpkjfpmdpbiaaGreatDoor.Q
open Go Go.Vc Go.RowKit Go.Proofs Go.km
set_option maxRecDepth 100000
abbrev mo:TypeId:=23
abbrev bT:TypeId:=120
abbrev ig:TypeId:=158
def GC(v:Value):Prop:=∃c:Cl,v=cv c
def uf:gQ Tryz.prog mo GC:=by
 refine ⟨?_,?_,?_⟩
 ·rintro x y ⟨a,rfl⟩ ⟨b,rfl⟩;refine ⟨a.1==b.1 &&(a.2.1==b.2.1 && a.2.2==b.2.2),by kernel_rfl,?_⟩;simp only [gr,beq_iff_eq];constructor
  ·rintro ⟨h1,h2,h3⟩;unfold cv;rw [h1,h2,h3]
  ·intro h;rw [At h];simp
 ·rintro x ⟨a,rfl⟩ b w;kernel_rfl
 ·rintro x ⟨a,rfl⟩;simp [cv,Instr.sameBits]
def A2(a:Int)(w:World):ah 221 #[a] w λe w'=>e=false/\w'=w:=by apply Ct.vc;simp
def Fh(a b:Int)(w:World):ah 182 #[a,b] w λe w'=>e=Value.int .i64 (if a<b then -1 else if b<a then 1 else 0)/\w'=w:=by
 apply ye.vc;refine (A2 a w).mono ?_;rintro e w1 ⟨rfl,rfl⟩;refine ⟨_,rfl,(A2 b w1).mono ?_⟩;rintro e w2 ⟨rfl,rfl⟩;refine ⟨_,rfl,Br.mk (λh=>by cases h) (λ_=>Br.mk (λh=>by cases h) (λ_=>Br.mk (λh=> ?_) (λh=>Br.mk (λh2=> ?_) (λh2=> ?_))))⟩
 ·replace h:=fe h;rw [if_pos h];exact ⟨rfl,rfl⟩
 ·simp only [bA,bV] at h h2;rw [if_neg h,if_pos h2];exact ⟨rfl,rfl⟩
 ·simp only [bV] at h h2;rw [if_neg h,if_neg h2];exact ⟨rfl,rfl⟩
def TJ(a b:Int)(g:Nat)(w:World)(hr:Row w g [a,b] 3):
  ah 181 #[.slice (bu g) 2 2] w λe w'=>e=Value.int .i64 (if a=0 then b else a)/\w'=w:=by
 apply (L3.vc (a0:=⟨bu g,2,2⟩));refine ⟨λn x wr=>wr=w/\∃k:Nat,x=k/\k+n=2/\(1<=k->a=0)/\(2<=k->b=0),⟨2,rfl,0,rfl,rfl,by omega,by omega⟩,?_⟩;rintro n us x wr ⟨rfl,k,rfl,hk,h1,h2⟩;have hw:=az (n:=(k:Int)+1) (by unfold inI;omega);rw [hw];apply Br.mk<;>intro h<;>simp only [bA,bV] at h
 ·refine ⟨⟨rfl,by omega,by omega⟩,if k=0 then a else b,?_,Br.mk (λh3=> ?_) (λh3=> ?_)⟩
  ·show ld wr (ae (bu g) _)=_;rw [bZ,hr.ld];have:k=0\/k=1:=by simp at h;omega
   rcases this with rfl|rfl<;>rfl
  ·simp only [bne_iff_ne,ne_eq] at h3;have:k=0\/k=1:=by simp at h;omega
   rcases this with rfl|rfl
   ·rw [if_pos rfl] at h3 ⊢;rw [if_neg h3];exact ⟨rfl,rfl⟩
   ·rw [if_neg (show ¬((1:Nat)=0) by omega)] at h3 ⊢;rw [if_pos (h1 aa)];exact ⟨rfl,rfl⟩
  ·simp only [bne_eq_false_iff_eq] at h3;have:k=0\/k=1:=by simp at h;omega
   rcases this with rfl|rfl
   ·rw [if_pos rfl] at h3;exact ⟨n-1,by omega,rfl,1,by omega,by omega,λ_=>h3,by omega⟩
   ·rw [if_neg (show ¬((1:Nat)=0) by omega)] at h3;exact ⟨n-1,by omega,rfl,2,by omega,by omega,λ_=>h1 aa,λ_=>h3⟩
 ·have:k=2:=by simp at h;omega
  subst this;rw [if_pos (h1 aa),h2 aa];exact ⟨rfl,rfl⟩
def A0(x y:It)(w:World):ah 180 #[.agg (cN x).toArray,.agg (cN y).toArray] w λe w'=>(∃z:Int,e=z/\(z<0 ↔ x.1<=y.1))/\Ext w w':=by
 apply sC.vc;intro w0 e0 w1 e1;have x1:Ext w w1:=by rw [e1,e0];exact (Ext.al _ _).tr (Ext.al _ _)
 refine (Fh x.1 y.1 _).mono ?_;intro e w2 hh;obtain ⟨rfl,ew⟩:=hh;have x2:Ext w w2:=by rw [ew];exact x1
 refine ⟨_,rfl,by rw [ew],by rw [ew],?_⟩;intro w4 e4;have x4:Ext w w4:=x2.ay e4;have jx:Row w4 w2 [.int .i64 (if x.1<y.1 then -1 else if y.1<x.1 then 1 else 0),(-1:Int)] 3:=by rw [e4];exact Row.new w2 [_,_] _
 refine (TJ _ _ _ _ jx).mono ?_;intro e w5 hh;obtain ⟨rfl,ew5⟩:=hh;refine ⟨_,rfl,by rw [ew5],by rw [ew5],⟨_,rfl,?_⟩,by rw [ew5];exact x4⟩;by_cases h1:x.1<y.1
 ·rw [if_pos h1];simp;omega
 ·by_cases h2:y.1<x.1
  ·rw [if_neg h1,if_pos h2];simp;omega
  ·rw [if_neg h1,if_neg h2];simp;omega
end Go.Proofs.YtalpkjfpmdpbiaaGreatDoor.Q
namespace Go.Proofs.YtalpkjfpmdpbiaaGreatDoor.Q
open Go Go.Vc Go.RowKit Go.Proofs Go.km
set_option maxRecDepth 100000
def ei(l:List It):∀r ∈ l.map cN,r.length=4:=by intro r hr;obtain ⟨x,_,rfl⟩:=aS.1 hr;rfl
def gN(l:List It):∀r ∈ l.map cN,One r:=by intro r hr;obtain ⟨x,_,rfl⟩:=aS.1 hr;intro u hu;simp at hu;rcases hu with rfl|rfl|rfl|rfl<;>rfl
def jr(x:It):One (cN x):=by intro u hu;simp at hu;rcases hu with rfl|rfl|rfl|rfl<;>rfl
def C3(l:List It)(i:Nat):(l.map cN).flatten.take (i*4)=((l.take i).map cN).flatten:=by
 have hw:=ei (l.take i);rcases fz i l.length with h|h
 ·conv=>lhs;rw [<-jK i l,aT,C4]
  rw [zG (by rw [bK hw];simp;omega)]
 ·rw [cZ h,cZ];rw [bK (ei l)];simp;omega
def C5(l:List It)(i:Nat):(l.map cN).flatten.drop (i*4)=((l.drop i).map cN).flatten:=by
 rcases fz i l.length with h|h
 ·conv=>lhs;rw [<-jK i l,aT,C4]
  rw [List.drop_left' (by rw [bK (ei _)];simp;omega)]
 ·rw [zI h,zI]
  ·rfl
  ·rw [bK (ei l)];simp;omega
def zJ{cs:LV}{l:List It}{n:Nat}(ht:cs.take (n*4)=(l.map cN).flatten)(hn:n=l.length)(i j:Nat)(hj:j<((l.drop i).map cN).flatten.length):cs[i*4+j]? =((l.drop i).map cN).flatten[j]? :=by rw [<-C5,th,<-ht,mW,if_pos];rw [bK (ei _)] at hj;simp at hj;omega
set_option maxRecDepth 100000 in
def Cc{w:World}{g g':Nat}{x cs:LV}(hx:Row w g x bT)(hr:Row w g' cs bT)(dN:g≠g')(hc:cs.length≠0)(o:Nat)(la ca lb cb:Nat){R:Ending->World->Prop}(h:R (.returned (.bool false)) w):
  R6 Tryz.prog 222 [.slice (bu g) la ca,.slice (lX g' o) lb cb] w R:=by
 refine ⟨_,⟨_,rfl,by kernel_rfl,by kernel_rfl,by kernel_rfl⟩,_,_,Lib.run_overlaps_apart w 61 0 bT (by kernel_rfl) 4 (λw=>by kernel_rfl) ⟨g,0,none⟩ ⟨g',o,none⟩ la ca lb cb dN bT bT x.length cs.length ?_ ?_ hc ?_ ?_,h⟩
 ·simp [World.shape?,show w.heap[g]? =_ from hx]
 ·simp [World.shape?,show w.heap[g']? =_ from hr]
 ·simp [World.frozen?,show w.heap[g]? =_ from hx]
 ·simp [World.frozen?,show w.heap[g]? =_ from hx]
def Aq{w:World}{g g':Nat}{x cs:LV}(hx:Row w g x bT)(hr:Row w g' cs bT)(dN:g≠g')(hc:cs.length≠0){p:Option Addr}{o:Nat}(hp:p=some ⟨g',o,none⟩)(la ca lb cb:Nat){R:Ending->World->Prop}(h:R (.returned (.bool false)) w):
  R6 Tryz.prog 222 [.slice (bu g) la ca,.slice p lb cb] w R:=by
 subst hp;exact Cc hx hr dN hc o la ca lb cb h
end Go.Proofs.YtalpkjfpmdpbiaaGreatDoor.Q
namespace Go.Proofs.YtalpkjfpmdpbiaaGreatDoor.Q
open Go Go.Vc Go.RowKit Go.Proofs Go.km
set_option maxRecDepth 100000
def wO(n:Nat):br [af,af,af,af] n=((List.replicate n ((0,0,0,0):It)).map cN).flatten:=by unfold br;simp
def HQ{w:World}{s:Sl}{l:List It}{i g:Nat}{x:It}(ho:aj 0 bT 4 w s (l.map cN))(hx:Row w g (cN x) bT)(hi:i<=l.length)(hl:l.length<=5000)(dN:s.bj≠some g):
  ah 183 #[s,(i:Int),.slice (bu g) 1 1] w λe w'=>∃s':Sl,e=Value.slice s'.a s'.n s'.c/\aj 0 bT 4 w' s' ((l.take i++x::l.drop i).map cN)/\Mod (λb=>s.bj=some b) w w'/\(∀b,s'.bj=some b->s.bj=some b\/w.heap.size<=b):=by
 have hn:s.n=l.length:=by rw [(ho.rd aC).n,aB]
 apply sD.vc (a2:=⟨bu g,1,1⟩);have Xo:ai (((s.n:Nat):Int)+((1:Nat):Int))=((s.n+1:Nat):Int):=by rw [wI];omega
 have yE:ai ((i:Int)+((1:Nat):Int))=((i+1:Nat):Int):=by rw [wI];omega
 have J1:ai (((s.n+1:Nat):Int)-(i:Int))=((s.n+1-i:Nat):Int):=by rw [wI];omega
 have hw4:ai ((s.n+1-i:Nat):Int)=((s.n+1-i:Nat):Int):=wI;have hrx:Rd w (bu g) (cN x):=hx.ZQ λj hj=>rfl
 dsimp only;rw [Xo,yE,J1,hw4];simp only [jt,Nat.sub_zero,eJ];refine ⟨by omega,by omega,Br.mk (λh=>by cases h) (λ_=>Br.mk (λh=> ?_) (λh=> ?_))⟩
 ·
  have he:i=l.length:=by simp at h;omega
  obtain ⟨hp,hr⟩:=ho.append (bytes:=32) (news:=cN x) (eC _) rfl (jr x) aa aa;refine ⟨cN x,hrx,hp,λs' w' aR=> ?_⟩;obtain ⟨h1,h2,h3,h4,h5⟩:=hr s' w' aR;refine ⟨s',rfl,?_,Mod.rK h3 h4,?_⟩
  ·rw [he,ko,List.drop_length,aT];exact h1
  ·intro b hb;rcases h5 with h5|h5
   ·exact .inl (h5▸hb)
   ·rw [h5] at hb;cases hb;exact .inr (ax _)
 ·have fH:i<l.length:=by
   have:i≠l.length:=λe=>by subst e;simp [hn] at h
   omega
  rcases ho.form aC with ⟨hs,Ji⟩|⟨g0,cs,ha,Ua,hr,hc,Gb,ht,hn'⟩
  ·have:l=[]:=by simpa using Ji
   subst this;simp at fH
  have XZ:g0≠g:=λe=>dN (by unfold Sl.bj;rw [ha,e];rfl)
  have hM:s.bj=some g0:=by unfold Sl.bj;rw [ha];rfl
  have j2:cs.take (i*4)=((l.take i).map cN).flatten:=by rw [<-C3,<-ht,List.take_take,Nat.min_eq_left aa]
  rw [ha];apply Br.mk<;>intro h2
  ·
   replace h2:=fe h2;have oC:aj 0 bT 4 w ⟨bu g0,i,s.c⟩ ((l.take i).map cN):=aj.gm (eC _) hr hc aa j2 (ei _);obtain ⟨hp,-⟩:=oC.kl (bytes:=32) (more:=(List.replicate (s.n+1-i) ((0,0,0,0):It)).map cN) (eC _) (ei _) (gN _) (by simp;omega) (by simp;omega);have ed:((List.replicate (s.n+1-i) ((0,0,0,0):It)).map cN).length=s.n+1-i:=by simp
   rw [ed] at hp;rw [wO];refine ⟨by omega,by omega,⟨by omega,trivial,by omega⟩,hp,λs3 w4 aR=> ?_⟩;generalize hz:((List.replicate (s.n+1-i) ((0,0,0,0):It)).map cN).flatten=zs at aR;have JS:zs.length=(s.n+1-i)*4:=by rw [<-hz,bK (ei _)];simp
   cases aR with
   |fits hf=>simp only at hf;omega
   |wJ hg eU rest cap q1 q2 q3 q4=>
    simp only at q1 q2 q3;have Bg:eU=cs.take (i*4):=by
     refine Og q2 (hr.ZQ (vs:=cs.take (i*4)) λj hj=> ?_) ?_
     ·rw [bF] at hj;rw [mW,if_pos aa]
     ·rw [q1,bF];omega
    have hR:Row (w.drew.alloc (.cells (eU++zs++rest).toArray bT)) w.heap.size (eU++zs++rest) bT:=Row.new w.drew _ _;generalize ame:w.drew.alloc (.cells (eU++zs++rest).toArray bT)=w4 at hR;have x4:Ext w w4:=by rw [<-ame];exact (Ext.dr w).tr (Ext.al _ _)
    have hr4:=hr.ext x4;have hlt0:=hr.lt;have XN:i+(s.n+1-i)=s.n+1:=by omega
    have hCl:(s.n+1)*4<=(eU++zs++rest).length:=by rw [q4];exact tw _ aa
    dsimp only;rw [XN];have hx4:=hx.ext x4;have j1:((l.drop i).map cN).flatten.length=(s.n-i)*4:=by rw [bK (ei _)];simp;omega
    have hm1:min 1 (s.n+1-i)*4=4:=by
     have:min 1 (s.n+1-i)=1:=by omega
     rw [this]
    have mN:min (s.n-i) (s.n+1-(i+1))=s.n-i:=by omega
    obtain ⟨p1,p2,p3⟩:=hR.Rj (vs:=cN x) (l:=i) (m:=cap) (size:=4) (by intro e;omega) (by simp;omega) (jr x);refine ⟨by omega,by omega,cN x,⟨hm1.symm,hx4.ZQ λj hj=>rfl,jr x,p1⟩,?_⟩;intro w6 e6;rw [<-e6] at p2 p3;have hr6:Row w6.drew g0 cs bT:=(p3.row hr4 aa).ext (Ext.dr _);have p2':Row w6.drew w _ bT:=p2.ext (Ext.dr _);obtain ⟨u1,u2,u3⟩:=p2'.Rj (vs:=((l.drop i).map cN).flatten) (l:=i+1) (m:=cap) (size:=4) (by intro e;rw [zI aa];rfl) (by rw [j1,Go.Vc.cJ];omega) (fi (gN _));refine ⟨by omega,by omega,by omega,by omega,((l.drop i).map cN).flatten,⟨by rw [mN,j1],hr6.ZD (by intro e;rw [zI aa];rfl) (zJ ht hn i),fi (gN _),u1⟩,?_⟩;intro w8 e8;rw [<-e8] at u2 u3;refine ⟨⟨bu w.heap.size,s.n+1,cap⟩,rfl,aj.gm (eC _) u2 (by rw [Go.Vc.cJ,Go.Vc.cJ,q4];exact ax _) aa ?_ (ei _),?_,?_⟩
    ·rw [TC (by simp;omega) (by rw [j1];omega) hCl,mX,mX,zG (by rw [q1]),Bg,j2];simp
    ·refine ((Mod.aN x4).tr p3 (λb hb=> .inr aa)).tr (F':=λb=>b=w.heap.size) ?_ (λb hb=> .inr aa);exact (Mod.aN (Ext.dr _)).trans u3
    ·intro b hb;have:w.heap.size=b:=by simpa [Sl.bj] using hb
     exact .inr aa
  ·
   replace h2:=eX h2;have hCl:(s.n+1)*4<=cs.length:=fA (tw _ aa) hc;have j1:((l.drop i).map cN).flatten.length=(s.n-i)*4:=by rw [bK (ei _)];simp;omega
   refine ⟨by omega,by omega,by omega,by omega,?_⟩;refine Aq hx hr (Ne.symm XZ) aa (by rw [nR,if_neg aa]) _ _ _ _ ⟨_,rfl,Br.mk (λ_=> ?_) (λh=>by cases h)⟩;have mN:min (s.n+1-i) (s.n+1-(i+1))=s.n-i:=by omega
   have hm1:min 1 (s.n+1-i)*4=4:=by
    have:min 1 (s.n+1-i)=1:=by omega
    rw [this]
   have hr':=hr.ext (Ext.dr w);obtain ⟨u1,u2,u3⟩:=hr'.Rj (vs:=((l.drop i).map cN).flatten) (l:=i+1) (m:=s.c) (size:=4) (by intro e;omega) (by rw [j1];omega) (fi (gN _));refine ⟨by omega,by omega,by omega,by omega,((l.drop i).map cN).flatten,⟨by rw [mN,j1],hr'.ZD (by intro e;omega) (zJ ht hn i),fi (gN _),u1⟩,?_⟩;intro bS BW;rw [<-BW] at u2 u3;obtain ⟨p1,p2,p3⟩:=u2.Rj (vs:=cN x) (l:=i) (m:=s.c) (size:=4) (by intro e;omega) (by rw [Go.Vc.cJ];simp;omega) (jr x);have amf:Row bS g (cN x) bT:=u3.row (hx.ext (Ext.dr w)) (Ne.symm XZ);refine ⟨by omega,by omega,cN x,⟨hm1.symm,amf.ZQ λj hj=>rfl,jr x,p1⟩,?_⟩;intro bY mB;rw [<-mB] at p2 p3;refine ⟨⟨bu g0,s.n+1,s.c⟩,rfl,aj.gm (eC _) p2 (by rw [Go.Vc.cJ,Go.Vc.cJ];exact hc) aa ?_ (ei _),?_,?_⟩
   ·rw [PM (by simp;omega) (by rw [j1];omega) hCl,j2];simp
   ·refine (((Mod.aN (Ext.dr w)).trans u3).trans p3).mono λb _ hb=> ?_
    rw [hM,hb]
   ·intro b hb;exact .inl (hM.trans hb)
end Go.Proofs.YtalpkjfpmdpbiaaGreatDoor.Q
namespace Go.Proofs.YtalpkjfpmdpbiaaGreatDoor.Q
open Go Go.Vc Go.RowKit Go.Proofs Go.km
set_option maxRecDepth 100000
def RdK.item{w:World}{s:Sl}{l:List It}(h:RdK w s 4 (l.map cN)){i:Nat}{x:It}(hi:l[i]? =some x):au w (ae s.a (i*4)) 0 (cN x):=
 h.aY (by rw [aV,hi];rfl)
def Sz{w:World}{s:Sl}{l:List It}(x:It)(h:RdK w s 4 (l.map cN))(hs:l.Pairwise λa b=>a.1<=b.1)(hl:l.length<=5000):
  ah 179 #[s,.agg (cN x).toArray,.func (.func 180) #[] #[]] w λe w'=>(∃b,e=Value.tuple #[.int .i64 ((l.takeWhile λy=>y.1<=x.1).length:Nat),.bool b])/\Ext w w':=by
 have hn:s.n=l.length:=by rw [h.n,aB]
 apply kN.vc;intro w0 e0;have x0:=bo e0;have mC:w0.heap.size=w.heap.size+1:=by rw [e0];simp [World.alloc_eq]
 have hk:(l.takeWhile λy=>decide (y.1<=x.1)).length<=l.length:=(List.takeWhile_sublist _).length_le;generalize hkk:(l.takeWhile λy=>decide (y.1<=x.1)).length=k at hk;have Mg:∀{i:Nat} {y:It},l[i]? =some y->(i<k ↔ y.1<=x.1):=λhi=>by rw [<-hkk];exact jw hs x.1 hi
 refine ⟨λn a b wr=>Ext w0 wr/\∃lo hi:Nat,a=lo/\b=hi/\lo<=k/\k<=hi/\hi<=l.length/\n=hi-lo,⟨_,rfl,Ext.bX _,0,s.n,rfl,rfl,eC _,by omega,by omega,rfl⟩,?_⟩;rintro n us a b wr ⟨xr,lo,hi,rfl,rfl,h1,h2,h3,rfl⟩;refine Br.mk (λfH=> ?_) (λMe=> ?_)<;>simp only [bA,bV] at*
 ·rw [aat aa];have CK:(lo+hi) / 2<l.length:=by omega
  have dC:l[(lo+hi) / 2]? =some l[(lo+hi) / 2]:=cy CK;generalize l[(lo+hi) / 2]=y at dC;have hr:=(h.ext (x0.tr xr)).ext (Ext.dr wr);have QJ:=xr.size;refine ⟨⟨?_,by omega,by omega⟩,y.1,y.2.1,y.2.2.1,y.2.2.2,RdK.item hr dC,?_⟩
  ·exact h.isSome aC (i:=(lo+hi) / 2) (by simpa using CK)
  refine iA (by kernel_rfl) rfl ((A0 y x _).mono ?_);rintro e w2 ⟨⟨z,rfl,hz⟩,x2⟩;have hz':=(Mg dC).trans hz.symm;have x3:=(xr.tr (Ext.dr wr)).tr x2;refine ⟨z,rfl,(x2.heap ?_),Br.mk (λhb=> ?_) (λhb=> ?_)⟩
  ·show w.heap.size<wr.heap.size;omega
  ·replace hb:=fe hb;have:=hz'.2 hb;have hw:ai ((((lo+hi) / 2:Nat):Int)+1)=(((lo+hi) / 2+1:Nat):Int):=by rw [wI];omega
   rw [hw];exact ⟨_,by omega,trivial,x3,(lo+hi) / 2+1,hi,rfl,rfl,by omega,h2,h3,rfl⟩
  ·replace hb:=eX hb;have:¬(lo+hi) / 2<k:=λh=>hb (hz'.1 h)
   exact ⟨_,by omega,trivial,x3,lo,(lo+hi) / 2,rfl,rfl,h1,by omega,by omega,rfl⟩
 ·have:lo=k:=by omega
  subst this;have hr:=(h.ext (x0.tr xr)).ext (Ext.dr wr);have QJ:=xr.size;refine Br.mk (λhb=> ?_) (λhb=>⟨⟨_,rfl⟩,x0.tr (xr.tr (Ext.dr _))⟩);replace hb:=fe hb;have dC:l[lo]? =some (l[lo]'aa):=cy aa;generalize l[lo]'aa=y at dC;refine ⟨⟨h.isSome aC (i:=lo) (by simp;omega),by omega,by omega⟩,y.1,y.2.1,y.2.2.1,y.2.2.2,RdK.item hr dC,?_⟩;refine iA (by kernel_rfl) rfl ((A0 y x _).mono ?_);rintro e w2 ⟨⟨z,rfl,hz⟩,x2⟩;refine ⟨z,rfl,x2.heap (show w.heap.size<wr by omega),⟨_,rfl⟩,(x0.tr (xr.tr (Ext.dr wr))).tr x2⟩
def zH(x:It){b:Nat}{c:Cl}{w:World}(hb:Row w b (dn c) mo):ah 178 #[.agg (cN x).toArray,b] w λe w'=>e=Value.bool (x.2==c)/\Ext w w':=by apply sB.vc;intro w0 e0;have x0:=bo e0;exact ⟨c.1,c.2.1,c.2.2,(hb.ext x0).aY (λj hj=>by rw [cP]),rfl,x0⟩
def Kk{w:World}{s:Sl}{l:List It}{b:Nat}{c:Cl}(h:RdK w s 4 (l.map cN))(hb:Row w b (dn c) mo)(hl:l.length<=5000):
  ah 220 #[s,.func (.func 178) #[] #[b]] w λe w'=>(∃i:Int,e=i/\((i= -1/\∀x ∈ l,x.2≠c)\/∃k:Nat,i=k/\k<l.length/\(∀x ∈ l.take k,x.2≠c)/\∀x,l[k]? =some x->x.2=c))/\Ext w w':=by
 have hn:s.n=l.length:=by rw [h.n,aB]
 apply pf.vc;refine ⟨λn a wr=>Ext w wr/\∃k:Nat,a=k/\k+n=l.length/\(∀x ∈ l.take k,x.2≠c),⟨l.length,Ext.bX _,0,rfl,by omega,by simp⟩,?_⟩;rintro n us a wr ⟨xr,k,rfl,h1,h2⟩;refine Br.mk (λfH=> ?_) (λMe=> ?_)<;>simp only [bA,bV] at*
 ·have dC:l[k]? =some (l[k]'aa):=cy aa;generalize l[k]'aa=y at dC;refine ⟨⟨h.isSome aC (i:=k) (by simp;omega),by omega,by omega⟩,y.1,y.2.1,y.2.2.1,y.2.2.2,RdK.item (h.ext xr) dC,?_⟩;refine iA (by kernel_rfl) rfl ((zH y (hb.ext xr)).mono ?_);rintro e w2 ⟨rfl,x2⟩;refine ⟨_,rfl,Br.mk (λhb=> ?_) (λhb=> ?_)⟩
  ·refine ⟨⟨_,rfl,.inr ⟨k,rfl,by omega,h2,λx hx=> ?_⟩⟩,xr.tr x2⟩;rw [dC] at hx;cases hx;simpa using hb
  ·have hw:=kK (j:=k);rw [hw];refine ⟨n-1,by omega,xr.tr x2,k+1,rfl,by omega,λx hx=> ?_⟩;rw [cm,dC] at hx;rcases cu.1 hx with hx|hx
   ·exact h2 x hx
   ·simp at hx;subst hx;simpa using hb
 ·refine ⟨⟨_,rfl,.inl ⟨rfl,?_⟩⟩,xr⟩;rw [cZ aa] at h2;exact h2
end Go.Proofs.YtalpkjfpmdpbiaaGreatDoor.Q
namespace Go.Proofs.YtalpkjfpmdpbiaaGreatDoor.Q
open Go Go.Vc Go.RowKit Go.Proofs Go.km
set_option maxRecDepth 100000
def zF{w:World}{s:Sl}{l:List It}(ho:aj 0 bT 4 w s (l.map cN)){i:Nat}(hi:i<=l.length):
  Wr w (aA s.a i s.c 4) ((s.n-i)*4)/\∀w',w'=bc w (aA s.a i s.c 4) (br [af,af,af,af] (s.n-i))->
   aj 0 bT 4 w' ⟨s.a,i,s.c⟩ ((l.take i).map cN)/\Mod (λb=>s.bj=some b) w w':=by
 have hn:s.n=l.length:=by rw [(ho.rd aC).n,aB]
 rw [wO];rcases ho.form aC with ⟨hs,Ji⟩|⟨g0,cs,ha,Ua,hr,hc,Gb,ht,hn'⟩
 ·have:l=[]:=by simpa using Ji
  subst this;have:i=0:=by simpa using hi
  subst this;subst hs;refine ⟨λj hj=>by simp at hj,λw' e=> ?_⟩;have:w'=w:=by rw [e];rfl
  subst this;exact ⟨aj.nil,Mod.refl _ _⟩
 ·have hM:s.bj=some g0:=by unfold Sl.bj;rw [ha];rfl
  have JS:((List.replicate (s.n-i) ((0,0,0,0):It)).map cN).flatten.length=(s.n-i)*4:=by rw [bK (ei _)];simp
  have P7:s.n*4<=cs.length:=fA (tw _ Gb) hc;rw [ha];have hz0:s.c=i->((List.replicate (s.n-i) ((0,0,0,0):It)).map cN).flatten=[]:=λe=>by
   have:s.n-i=0:=by omega
   rw [this];rfl
  obtain ⟨p1,p2,p3⟩:=hr.Rj (l:=i) (m:=s.c) (size:=4) hz0 (by rw [JS];omega) (fi (gN _));rw [JS] at p1;refine ⟨p1,λw' e=> ?_⟩;rw [<-e] at p2 p3;refine ⟨aj.gm (eC _) p2 (by rw [Go.Vc.cJ];exact hc) aa ?_ (ei _),p3.mono λb _ hb=>by rw [hM,hb]⟩;rw [dE _ _ _ (by rw [JS];omega),mX,zG (by rw [bF];omega),<-C3,<-ht,List.take_take,Nat.min_eq_left aa]
def Rk{w:World}{s:Sl}{l:List It}(ho:aj 0 bT 4 w s (l.map cN)){i:Nat}(hi:i<l.length)(x:It):
  (ae s.a (i*4)).isSome=true/\Wr w (ae s.a (i*4)) 4/\∀w',w'=bc w (ae s.a (i*4)) (cN x)->aj 0 bT 4 w' s ((l.set i x).map cN)/\Mod (λb=>s.bj=some b) w w':=by
 obtain ⟨h1,h2,h3,h4,h5⟩:=ho.put (i:=i) (r:=cN x) (by simpa using hi) aC rfl (jr x);refine ⟨h1,h2,λw' e=> ?_⟩;subst e;exact ⟨by rw [mP];exact h3,h4.os,h4.tape,h4.output,h4.size,λj _ hn=>h5 j hn⟩
def xG{w:World}{s:Sl}{l:List It}{b:Nat}{c:Cl}(ho:aj 0 bT 4 w s (l.map cN))(hb:Row w b (dn c) mo)(hl:l.length<=5000):
  ah 177 #[s,.func (.func 178) #[] #[.pointer (some ⟨b,0,none⟩)]] w λe w'=>∃s':Sl,e=s'/\aj 0 bT 4 w' s' ((bP l c).map cN)/\Mod (λb=>s.bj=some b) w w'/\s'.bj=s.bj:=by
 have hn:s.n=l.length:=by rw [(ho.rd aC).n,aB]
 have Ft:s.bj≠some b:=λe=>by
  rcases ho.form aC with ⟨hs,Ji⟩|⟨g0,cs,ha,Ua,hr,hc,Gb,ht,hn'⟩
  ·rw [hs] at e;cases e
  ·have:g0=b:=by unfold Sl.bj at e;rw [ha] at e;simpa using e
   exact hr.ne hb aC this
 apply nP.vc;refine (Kk (ho.rd aC) hb hl).mono ?_;rintro e w1 ⟨⟨i,rfl,hi⟩,x1⟩;refine ⟨i,rfl,Br.mk (λh=> ?_) (λh=> ?_)⟩
 ·have hm:i= -1:=by simpa using h
  rcases hi with ⟨-,jG⟩|⟨k,hk,-⟩
  ·refine ⟨s,rfl,?_,Mod.aN x1,rfl⟩;have:bP l c=l:=by unfold bP;rw [wL];intro x hx;simpa using jG x hx
   rw [this];exact ho.ext x1
  ·omega
 ·have hm:i≠-1:=by simpa using h
  rcases hi with ⟨hi,-⟩|⟨k,rfl,hk,ah3,hkc⟩
  ·exact absurd hi hm
  have hw:=kK (j:=k);have hq:bP (l.take (k+1)) c=l.take k:=by
   unfold bP;rw [cm,tz];have e1:(l.take k).filter (λx=>x.2 !=c)=l.take k:=by rw [wL];intro x hx;simpa using ah3 x hx
   have dC:l[k]? =some (l[k]'hk):=cy hk;have:=hkc _ dC;rw [e1,dC];simp [this]
  refine ⟨λn a d wr=>Mod (λb=>s.bj=some b) w wr/\∃(j m:Nat)(l':List It),a=j/\d=m/\j+n=l.length/\m<j/\m=(bP (l.take j) c).length/\aj 0 bT 4 wr s (l'.map cN)/\l'.length=l.length/\l'.take m=bP (l.take j) c/\l'.drop j=l.drop j,⟨l.length-(k+1),Mod.aN x1,k+1,k,l,hw,rfl,by omega,by omega,?_,ho.ext x1,rfl,hq.symm,rfl⟩,?_⟩
  ·rw [hq,bF];omega
  rintro n us a d wr ⟨uG,j,m,l',rfl,rfl,h1,h2,h3,ho',h4,h5,h6⟩;have hbr:Row wr b (dn c) mo:=uG.row hb Ft;refine Br.mk (λfH=> ?_) (λMe=> ?_)
  ·replace fH:=fe fH;have dC:l[j]? =some (l[j]'aa):=cy aa;generalize l[j]'aa=y at dC;have ad9:l'[j]? =some y:=by have:=congrArg (λq:List It=>q[0]?) h6;simpa [th,dC] using this
   refine ⟨⟨(ho'.rd aC).isSome aC (i:=j) (by simp;omega),by omega,by omega⟩,y.1,y.2.1,y.2.2.1,y.2.2.2,RdK.item (ho'.rd aC) ad9,?_⟩;intro cC qX bY mB;have bW:Ext wr bY:=(Ext.bX wr|>.ay qX).ab mB (ax _);have aaG:wr.heap.size<bY:=by rw [mB,setRow_size,qX];simp
   refine iA (by kernel_rfl) rfl ((zH y (hbr.ext bW)).mono ?_);rintro e w2 ⟨rfl,x2⟩;have x3:=bW.tr x2;have Xe:=kK (j:=j);have hwm:=kK (j:=m);have Qa:bP (l.take (j+1)) c=bP (l.take j) c++(if y.2=c then [] else [y]):=by unfold bP;rw [cm,dC,tz];congr 1;by_cases hy:y.2=c<;>simp [hy]
   refine ⟨_,rfl,x2.heap aaG,Br.mk (λeF=> ?_) (λeF=> ?_)⟩
   ·have hy:y.2≠c:=by simpa using eF
    obtain ⟨p1,p2,p3⟩:=Rk (ho'.ext x3) (i:=m) aa y;refine ⟨⟨(ho'.rd aC).isSome aC (i:=m) (by simp;omega),by omega,by omega⟩,⟨p1,p2⟩,?_,?_⟩
    ·rw [dj];intro e;have:=ho'.own.lt (g:=wr.heap.size) e;omega
    ·intro cE qk;obtain ⟨q1,q2⟩:=p3 cE qk;rw [Xe,hwm];refine ⟨n-1,by omega,(uG.trans (Mod.aN x3)).trans q2,j+1,m+1,l'.set m y,rfl,rfl,by omega,by omega,?_,q1,by rw [MO,h4],?_,?_⟩
     ·rw [Qa,if_neg hy,eP,<-h3];rfl
     ·rw [Qa,if_neg hy,<-h5,cm,List.take_set_of_le (ax _),Rl aa];rfl
     ·rw [List.drop_set_of_lt aa];have:=congrArg (List.drop 1) h6;simpa [List.drop_drop] using this
   ·have hy:y.2=c:=by simpa using eF
    rw [Xe];refine ⟨n-1,by omega,uG.trans (Mod.aN x3),j+1,m,l',rfl,rfl,by omega,by omega,?_,ho'.ext x3,h4,?_,?_⟩
    ·rw [Qa,if_pos hy,GJ];exact h3
    ·rw [Qa,if_pos hy,GJ];exact h5
    ·have:=congrArg (List.drop 1) h6;simpa [List.drop_drop] using this
  ·replace Me:=eX Me;have hj:j=l.length:=by omega
   have uH:=(ho'.form aC);have Gb:s.n<=s.c:=by
    rcases uH with ⟨hs,-⟩|⟨g0,cs,ha,Ua,hr,hc,Gb,ht,hn'⟩
    ·rw [hs];exact ax _
    ·exact Gb
   obtain ⟨p1,p2⟩:=zF ho' (i:=m) aa;refine ⟨by omega,by omega,p1,λdA JT=> ?_⟩;obtain ⟨q1,q2⟩:=p2 dA JT;refine ⟨by omega,by omega,⟨s.a,m,s.c⟩,?_,?_,uG.trans q2,rfl⟩
   ·rw [eJ];rfl
   ·rw [h5,hj,ko] at q1;exact q1
def GK{w:World}{s:Sl}{l:List It}{n:Nat}(ho:aj 0 bT 4 w s (l.map cN))(hi:n<=l.length)(hl:l.length<=5000):
  ah 90 #[s,af,(n:Int)] w λe w'=>∃s':Sl,e=s'/\aj 0 bT 4 w' s' ((l.drop n).map cN)/\Mod (λb=>s.bj=some b) w w'/\s'.bj=s.bj:=by
 have hn:s.n=l.length:=by rw [(ho.rd aC).n,aB]
 have Gb:s.n<=s.c:=by
  rcases ho.form aC with ⟨hs,-⟩|⟨g0,cs,ha,Ua,hr,hc,Gb,ht,hn'⟩
  ·rw [hs];exact ax _
  ·exact Gb
 apply rO.vc;refine ⟨by omega,by omega,by omega,by omega,by omega,by omega,Br.mk (λh=> ?_) (λh=> ?_)⟩
 ·have:n=0:=by
   have:(0:Int)=n:=by simpa using h
   omega
  subst this;exact ⟨s,rfl,ho,Mod.refl _ _,rfl⟩
 ·have Mj:0<n:=by
   have:(0:Int)≠n:=by simpa using h
   omega
  rcases ho.form aC with ⟨hs,Ji⟩|⟨g0,cs,ha,Ua,hr,hc,Gb,ht,hn'⟩
  ·have:l=[]:=by simpa using Ji
   subst this;simp at hi;omega
  have hM:s.bj=some g0:=by unfold Sl.bj;rw [ha];rfl
  have j1:((l.drop n).map cN).flatten.length=(s.n-n)*4:=by rw [bK (ei _)];simp;omega
  have P7:s.n*4<=cs.length:=fA (tw _ Gb) hc;have hr':=hr.ext (Ext.dr w);simp only [jt,Nat.sub_zero,eJ,Int.toNat_zero];rw [ha];refine ⟨by omega,by omega,by omega,by omega,((l.drop n).map cN).flatten,?_,?_,?_⟩
  ·exact hr'.ZD (by intro e;rw [zI aa];rfl) (zJ ht hn n)
  ·refine ⟨λ_=> ?_,λh=> ?_,λh=> ?_,j1,fi (gN _)⟩
   ·show Wr _ (ae (bu g0) (0*4)) _;rw [bZ];exact hr'.wr (by rw [j1];omega)
   ·simp only at h;omega
   ·simp only at h;omega
  ·intro s1 w2 aR
   cases aR with
   |wJ hg=>simp only at hg;omega
   |fits hf=>
    dsimp only;have e0:ae (some (⟨g0,0,none⟩:Addr)) (0*4)=bu g0:=by rw [bZ]
    rw [e0];have Mk:=hr'.bc (o:=0) (vs:=((l.drop n).map cN).flatten) (by rw [j1];omega) (fi (gN _));have mM:Row (Go.Vc.bc w.drew (bu g0) ((l.drop n).map cN).flatten) g0 (aW cs 0 ((l.drop n).map cN).flatten) bT:=by rw [Mk];exact hr'.set _
    have mN:Mod (λi=>i=g0) w (Go.Vc.bc w.drew (bu g0) ((l.drop n).map cN).flatten):=by rw [Mk];exact (Mod.aN (Ext.dr w)).trans ⟨rfl,rfl,rfl,by rw [setRow_size];exact ax _,λi _ hn=>setRow_other _ _ _ _ hn⟩
    generalize Go.Vc.bc w.drew (bu g0) ((l.drop n).map cN).flatten=w2 at mM mN;have hz:0+(s.n-n)=s.n-n:=by omega
    rw [hz];have sG:aj 0 bT 4 w2 ⟨bu g0,s.n,s.c⟩ ((l.drop n++l.drop (l.length-n)).map cN):=by refine aj.gm (eC _) mM (by rw [Go.Vc.cJ];exact hc) Gb ?_ (ei _);rw [dE _ _ _ (by rw [j1];omega),aT,C4,MP,X4];rw [List.take_append,cZ (by rw [j1];omega),j1,cP,<-C5 l (l.length-n),<-ht];congr 1;rw [List.drop_take,hn]
    obtain ⟨p1,p2⟩:=zF sG (i:=s.n-n) (by simp;omega);have Vv:((s.n:Nat):Int).toNat-(((s.n-n:Nat):Nat):Int).toNat=s.n-(s.n-n):=by omega
    refine ⟨by omega,by omega,by omega,by omega,p1,λw3 e3=> ?_⟩;obtain ⟨q1,q2⟩:=p2 w3 e3;refine ⟨⟨bu g0,s.n-n,s.c⟩,rfl,?_,?_,hM.symm⟩
    ·rw [zG (by simp;omega)] at q1;exact q1
    ·refine (mN.mono λb _ hb=>by rw [hM,hb]).trans (q2.mono λb _ hb=> ?_);have:g0=b:=by simpa [Sl.bj] using hb
     rw [hM,this]
end Go.Proofs.YtalpkjfpmdpbiaaGreatDoor.Q
namespace Go.Proofs.YtalpkjfpmdpbiaaGreatDoor.Q
open Go Go.Vc Go.RowKit Go.Proofs Go.km
set_option maxRecDepth 100000
def gW(g m:Nat)(s:Sl):Nat->Prop:=λi=>i=g\/i=m\/s.bj=some i
abbrev vQ(q:QS)(s:Sl)(m:Nat):LV:=[.int .i64 q.room,.int .i64 q.lost,.slice s.a s.n s.c,.map (some m)]
def mw(kvs:List (Value × Value))(l:List It):Prop:=(∀c t,(cv c,tv t) ∈ kvs ↔(t,c) ∈ l)/\∀e ∈ kvs,∃c t,e=(cv c,tv t)
structure qU(w:World)(g m:Nat)(s:Sl)(q:QS):Prop where
 row:Row w g (vQ q s m) ig
 own:aj 0 bT 4 w s (q.l.map cN)
 map:∃kvs,bN GC w (some m) kvs/\mw kvs q.l
def qU.cF{w:World}{g m:Nat}{s:Sl}{q:QS}(h:qU w g m s q){b:Nat}{cs:LV}{E:TypeId}(hb:Row w b cs E)(h1:E≠ig)(h2:E≠bT):¬gW g m s b:=by
 rintro (rfl|rfl|e)
 ·exact hb.ne h.row h1 rfl
 ·obtain ⟨kvs,hm,-⟩:=h.map;exact hb.ic hm rfl
 ·obtain ⟨cs',hr⟩:=aM h.own aC e;exact hb.ne hr h2 rfl
def qU.S6{w:World}{g m:Nat}{s:Sl}{q:QS}(h:qU w g m s q){B E k:Nat}{s':Sl}{rows:List (LV)}(ho:aj B E k w s' rows)(hk:0<k)(h1:E≠ig)(h2:E≠bT):∀b,s'.bj=some b->¬gW g m s b:=λb hb=>by
 obtain ⟨cs,hr⟩:=aM ho hk hb
 exact h.cF hr h1 h2
def qU.lt{w:World}{g m:Nat}{s:Sl}{q:QS}(h:qU w g m s q):∀i,gW g m s i->i<w.heap.size:=by
 rintro i (rfl|rfl|e)
 ·exact h.row.lt
 ·obtain ⟨kvs,hm,-⟩:=h.map;exact hm.lt
 ·exact (h.own.own.lt e).2
def qU.bM{w w':World}{g m:Nat}{s:Sl}{q:QS}(h:qU w g m s q){F:Nat->Prop}(hm:Mod F w w')(hn:∀i,gW g m s i->¬F i):qU w' g m s q:=by obtain ⟨kvs,h1,h2⟩:=h.map;exact ⟨hm.row h.row (hn g (.inl rfl)),hm.gK h.own λb hb=>hn b (.inr (.inr hb)),kvs,hm.map h1 (hn m (.inr (.inl rfl))),h2⟩
def qU.ext{w w':World}{g m:Nat}{s:Sl}{q:QS}(h:qU w g m s q)(x:Ext w w'):qU w' g m s q:=
 h.bM (F:=λ_=>False) ⟨x.os,x.tape,x.output,x.size,λi hi _=>x.heap hi⟩ λ_ _ hf=>hf
def qU.su{w:World}{g m:Nat}{s:Sl}{q:QS}(h:qU w g m s q):g≠m:=by obtain ⟨kvs,hm,-⟩:=h.map;exact h.row.ic hm
def qU.vR{w:World}{g m:Nat}{s:Sl}{q:QS}(h:qU w g m s q):s.bj≠some m:=λe=>by
 obtain ⟨kvs,hm,-⟩:=h.map
 obtain ⟨cs,hr⟩:=aM h.own aC e
 exact hr.ic hm rfl
def qU.EJ{w:World}{g m:Nat}{s:Sl}{q:QS}(h:qU w g m s q):s.bj≠some g:=λe=>by
 obtain ⟨cs,hr⟩:=aM h.own aC e
 exact hr.ne h.row aC rfl
def mw.look{kvs:List (Value × Value)}{l:List It}(h:mw kvs l)(hn:(l.map (·.2)).Nodup)(c:Cl):B5 kvs (cv c) (tv 0) (tv ((iD l c).getD 0)) (iD l c).isSome:=by
 cases hq:iD l c with
 |some t=>exact .inl ⟨rfl,(h.1 c t).2 (Au hq)⟩
 |none=>
  refine .inr ⟨rfl,rfl,λe he hk=> ?_⟩;obtain ⟨c',t,rfl⟩:=h.2 e he;exact nX hq (t,c') ((h.1 _ _).1 he) (At hk)
open Classical in
def mw.del{kvs:List (Value × Value)}{l:List It}(h:mw kvs l)(c:Cl):mw (AH kvs (cv c)) (bP l c):=by
 refine ⟨λc' t=> ?_,λe he=>h.2 e (jJ.1 he).1⟩;unfold AH bP;rw [jJ,jJ,h.1];refine and_congr_right λ_=> ?_
 rw [bne_iff_ne];refine decide_eq_true_iff.trans ?_;exact not_congr ⟨λe=>At e,λe=>by rw [show c'=c from e]⟩
def mw.ins{kvs:List (Value × Value)}{l:List It}(h:mw kvs l){x:It}(hx:∀y ∈ l,y.2≠x.2):mw (rX kvs (cv x.2) (tv x.1)) (pR l x):=by
 unfold rX;rw [if_neg]
 ·refine ⟨λc t=> ?_,λe he=> ?_⟩
  ·rw [cu,h.1,Av,fB];constructor
   ·rintro (h1|h1)
    ·exact .inr h1
    ·obtain ⟨e1,e2⟩:=Prod.mk.inj h1;have:=At e1;have h2:t=x.1:=by unfold tv at e2;injection e2
     left;rw [this,h2]
   ·rintro (h1|h1)
    ·right;rw [<-h1]
    ·exact .inl h1
  ·rcases cu.1 he with he|he
   ·exact h.2 e he
   ·rw [fB] at he;exact ⟨_,_,he⟩
 ·rintro ⟨e,he,hk⟩;obtain ⟨c',t,rfl⟩:=h.2 e he;exact hx (t,c') ((h.1 _ _).1 he) (At hk)
def mw.perm{kvs:List (Value × Value)}{l l':List It}(h:mw kvs l)(hl:∀x,x ∈ l ↔ x ∈ l'):mw kvs l':=⟨λc t=>(h.1 c t).trans (hl _),h.2⟩
def Al(room:Int)(w:World):ah 60 #[room] w λe w'=>∃g m,e=Value.pointer (bu g)/\qU w' g m ⟨none,0,0⟩ ⟨min (max room 1) 4096,0,[]⟩/\Ext w w'/\w.heap.size<=g/\w.heap.size<=m:=by
 apply Pv.vc;intro w0 e0 w1 e1;have hm:bN GC w0 (some w.heap.size) []:=by rw [e0];exact bN.new
 have x1:=bo e1;refine ⟨w0.heap.size,w.heap.size,rfl,⟨?_,aj.nil,[],?_,by simp [mw]⟩,(bo e0).tr x1,?_,ax _⟩
 ·have:(min (max room 1) 4096)=(if 4096<(if 1>room then 1 else room) then 4096 else (if 1>room then 1 else room)):=by split<;>split<;>omega
  rw [e1,this];exact Row.new w0 [_,_,_,_] _
 ·exact hm.same (x1.heap hm.lt)
 ·rw [e0];simp
def yS{w:World}{g m:Nat}{s:Sl}{q:QS}(h:qU w g m s q)(hq:xR q)(c:Cl):ah 131 #[g,cv c] w λe w'=>e=Value.tuple #[.int .i64 ((iD q.l c).getD 0),.bool (iD q.l c).isSome]/\Ext w w':=by apply AI.vc;intro w0 e0;have x0:Ext w w0.drew:=(Ext.bX w|>.ay e0).drew;have h0:=h.ext x0;obtain ⟨kvs,hm,ht⟩:=h0.map;exact ⟨some m,h0.row.at 3 rfl,GC,kvs,uf,hm,⟨c,rfl⟩,_,_,ht.look hq.nodup c,rfl,x0⟩
def S7{w:World}{g m:Nat}{s:Sl}{q:QS}(h:qU w g m s q):Calls Tryz.prog 48 #[.pointer (some ⟨g,0,none⟩)] w λe w'=>e=.returned (.int .i64 q.l.length)/\Ext w w':=by
 apply xZ.vc;have hn:s.n=q.l.length:=by rw [(h.own.rd (by decide)).n,List.length_map]
 refine ⟨s,h.row.at 2 rfl,?_⟩;rw [hn];exact ⟨rfl,Ext.bX _⟩
end Go.Proofs.YtalpkjfpmdpbiaaGreatDoor.Q
namespace Go.Proofs.YtalpkjfpmdpbiaaGreatDoor.Q
open Go Go.Vc Go.RowKit Go.Proofs Go.km
set_option maxRecDepth 100000
def gW.iT{g m:Nat}{s s':Sl}{w w':World}(hm:Mod (gW g m s) w w')(hs:∀b,s'.bj=some b->s.bj=some b\/w.heap.size<=b):aG (gW g m s) (gW g m s') w w':=
 ⟨hm,λi hi=>by
  rcases hi with h|h|h
  ·exact .inl (.inl h)
  ·exact .inl (.inr (.inl h))
  ·rcases hs i h with h|h
   ·exact .inl (.inr (.inr h))
   ·exact .inr h⟩
def Dl{w:World}{g m:Nat}{s:Sl}{q:QS}(h:qU w g m s q)(hsort:q.l.Pairwise λa b=>a.1<=b.1)(hl:q.l.length<=4998){x:It}(hx:∀y ∈ q.l,y.2≠x.2):
  ah 133 #[g,.agg (cN x).toArray] w λe w'=>e=FX/\∃s',qU w' g m s' {q with l:=pR q.l x}/\aG (gW g m s) (gW g m s') w w':=by
 apply vP.vc;intro w0 e0;have x0:=bo e0;have mC:=dt e0;have h0:=h.ext (x0.drew);refine ⟨s,h0.row.at 2 rfl,?_⟩;refine (Sz x (h0.own.rd aC) hsort aa).mono ?_;rintro e w2 ⟨⟨b,rfl⟩,x2⟩;refine ⟨_,b,rfl,x2.heap (show w.heap.size<w0 by omega),?_⟩;have h2:=(h0.ext x2).ext (Ext.dr _);refine ⟨s,h2.row.at 2 rfl,?_⟩;intro w6 e6;have x6:=bo e6;have h6:=h2.ext x6;have jx:Row w6 w2.drew.heap.size (cN x) bT:=by rw [e6];exact Row.new _ _ _
 have QQ:=x2.size;have QJ:w.heap.size<w2.drew.heap.size:=kR (show w.heap.size<w0 by omega) QQ;have hk:=(List.takeWhile_sublist (λy:It=>decide (y.1<=x.1)) (l:=q.l)).length_le;have Ft:s.bj≠some w2.drew.heap.size:=λe=>by have:=h2.lt _ (.inr (.inr e));omega
 refine (HQ h6.own jx hk aa Ft).mono ?_;rintro e w7 ⟨s8,rfl,xt,hm8,hs8⟩;have aby:s.bj≠some w.heap.size:=λe=>by have:=h.lt _ (.inr (.inr e));omega
 have vg:Ext w w6:=((x0.drew).tr x2).tr ((Ext.dr _).tr x6);refine ⟨s8,rfl,hm8.same _ (by have:=x6.size;omega) aby,?_⟩;have hr7:Row w7 g (vQ q s m) ig:=hm8.row h6.row h6.EJ;obtain ⟨p1,p2⟩:=hr7.jR (j:=2) (v:=.slice s8.a s8.n s8.c) cx rfl;refine ⟨⟨rfl,p1⟩,?_,?_⟩
 ·rw [dj];intro e;have:=h.row.lt;have:g=w.heap.size:=by simpa [cS] using e
  omega
 intro w9 e9;obtain ⟨q1,q2⟩:=p2 w9 e9;have x9:=Ext.dr w9;have VR:=q1.ext x9;refine ⟨some m,VR.at 3 rfl,?_⟩;obtain ⟨kvs,UE,ht⟩:=h6.map;have hmap9:bN GC w9.drew (some m) kvs:=(Mod.aN (F:=λ_=>False) x9).map (q2.map (hm8.map UE h6.vR) (Ne.symm h.su)) cx;refine ⟨GC,kvs,uf,rfl,hmap9,⟨x.2,rfl⟩,?_⟩;intro cC j3 hmap13;have abA:=Mod.ED j3;refine ⟨rfl,s8,⟨?_,?_,_,hmap13,ht.ins hx⟩,gW.iT ?_ ?_⟩
 ·exact abA.row VR h.su
 ·have he:=ug q.l x;rw [he] at xt;have hrow8:=λb hb=>aM xt aC (b:=b) hb
  refine abA.gK ((q2.gK xt λb hb hf=> ?_).ext x9) λb hb hf=> ?_
  ·obtain ⟨cs,hr⟩:=hrow8 b hb;exact hr.ne hr7 aC hf
  ·obtain ⟨cs,hr⟩:=hrow8 b hb;exact hr.ic (hm8.map UE h6.vR) hf
 ·refine ((((Mod.aN vg).trans (hm8.mono λb _ hb=> .inr (.inr hb))).trans (q2.mono λb _ hb=> .inl hb)).trans (Mod.aN x9)).trans (abA.mono λb _ hb=> .inr (.inl hb))
 ·intro b hb;rcases hs8 b hb with h1|h1
  ·exact .inl h1
  ·exact .inr (fA vg.size h1)
def O9{w:World}{g m:Nat}{s:Sl}{q:QS}(h:qU w g m s q)(hq:xR q)(c:Cl):
  ah 132 #[g,cv c] w λe w'=>e=Value.bool (iD q.l c).isSome/\∃s',qU w' g m s' {q with l:=bP q.l c}/\aG (gW g m s) (gW g m s') w w':=by
 apply vS.vc;intro w0 e0;have x0:=bo e0;have hbox0:Row w0 w (dn c) mo:=by rw [e0];exact Row.new _ _ _
 have h0:=h.ext x0.drew;obtain ⟨kvs,hm,ht⟩:=h0.map;refine ⟨some m,h0.row.at 3 rfl,GC,kvs,uf,hm,⟨c,rfl⟩,_,_,ht.look hq.nodup c,Br.mk (λhb=> ?_) (λhb=> ?_)⟩
 ·have hn:iD q.l c=none:=by simpa using hb
  refine ⟨by rw [hn];rfl,s,?_,aG.aN x0.drew⟩;have:bP q.l c=q.l:=by unfold bP;rw [wL];intro y hy;simpa using nX hn y hy
  rw [this];exact h0
 ·have hsome:(iD q.l c).isSome=true:=by simpa using hb
  have h1:=h0.ext (Ext.dr _);refine ⟨some m,h1.row.at 3 rfl,GC,kvs,uf,rfl,(Mod.aN (F:=λ_=>False) (Ext.dr _)).map hm cx,⟨c,rfl⟩,?_⟩;intro w9 j3 hmap9;have hm9:=Mod.ED j3;have VR:Row w9 g (vQ q s m) ig:=hm9.row h1.row h.su;refine ⟨s,VR.at 2 rfl,?_⟩;have ed:=hq.len;have hroom:=hq.room;have hbox9:Row w9 w (dn c) mo:=hm9.row (hbox0.ext (Ext.dr _|>.tr (Ext.dr _))) (λe=>by have:w.heap.size=m:=e;have:=h.lt m (.inr (.inl rfl));omega);have P9:aj 0 bT 4 w9 s (q.l.map cN):=hm9.gK h1.own λb hb hf=>h1.vR (by rw [hb];exact congrArg some hf)
  refine (xG P9 hbox9 aa).mono ?_;rintro e cB ⟨eM,rfl,Qy,abB,aa0⟩;have rD:s.bj≠some m:=h.vR;have XJ:Row cB g (vQ q s m) ig:=abB.row VR h.EJ;obtain ⟨p1,p2⟩:=XJ.jR (j:=2) (v:=.slice eM.a eM.n eM.c) cx rfl;refine ⟨eM,rfl,⟨rfl,p1⟩,λcC qX=> ?_⟩;obtain ⟨q1,q2⟩:=p2 cC qX;refine ⟨by rw [hsome],eM,⟨q1,?_,_,q2.map (abB.map hmap9 rD) (Ne.symm h.su),ht.del c⟩,gW.iT ?_ ?_⟩
  ·refine q2.gK Qy λb hb hf=> ?_
   obtain ⟨cs,hr⟩:=aM Qy aC hb;exact hr.ne XJ aC hf
  ·exact (((Mod.aN (x0.drew.drew)).trans (hm9.mono λb _ hb=> .inr (.inl hb))).trans (abB.mono λb _ hb=> .inr (.inr hb))).trans (q2.mono λb _ hb=> .inl hb)
  ·intro b hb;exact .inl (aa0▸hb)
end Go.Proofs.YtalpkjfpmdpbiaaGreatDoor.Q
namespace Go.Proofs.YtalpkjfpmdpbiaaGreatDoor.Q
open Go Go.Vc Go.RowKit Go.Proofs Go.km
set_option maxRecDepth 100000
def HH{w:World}{g m:Nat}{s:Sl}{q:QS}(h:qU w g m s q)(hq:xR q)(hl:0<=q.lost/\q.lost<=1000000)(c:Cl)(t:Int):
  ah 88 #[g,cv c,t] w λe w'=>e=Value.bool (fc q c t).2/\∃s',qU w' g m s' (fc q c t).1/\aG (gW g m s) (gW g m s') w w':=by
 apply yb.vc;intro w0 e0;have x0:=bo e0;have mC:=dt e0;have h0:=h.ext x0;have hn:s.n=q.l.length:=by rw [(h.own.rd aC).n,aB]
 have ed:=hq.len;have hroom:=hq.room;have hbg:g<w:=h.row.lt;have hbf:∀{s':Sl} {w1 w':World},w.heap.size<w1->aG (gW g m s) (gW g m s') w1 w'->w'.heap[w.heap.size]? =w1.heap[w.heap.size]? :=λfH ht=>
  ht.mod.same _ fH λhf=>by have:=h.lt _ hf;omega
 refine (yS h0 hq c).mono ?_;rintro e w1 ⟨rfl,x1⟩;have h1:=h0.ext x1;have oU:=x0.tr x1;have Zd:w.heap.size<w1:=by have:=x1.size;omega
 refine ⟨_,_,rfl,x1.heap (show w.heap.size<w0 by omega),Br.mk (λhb=> ?_) (λhb=> ?_)⟩
 ·obtain ⟨was,hw⟩:=kS.1 hb;have hg:(iD q.l c).getD 0=was:=by rw [hw];rfl
  rw [hg];refine Br.mk (λhc=> ?_) (λhc=>Br.mk (λ_=> ?_) (λhn=>by rw [hb] at hn;cases hn))
  ·replace hc:=fe hc;have e:fc q c t=(q,false):=by unfold fc;rw [hw];simp [hc]
   rw [e];exact ⟨rfl,s,h1,aG.aN oU⟩
  ·replace hc:=eX hc;have e:fc q c t=({q with l:=pR (bP q.l c) (t,c)},true):=by unfold fc;rw [hw];simp [hc]
   rw [e];refine (O9 h1 hq c).mono ?_;rintro e w4 ⟨rfl,s4,h4,t4⟩;refine ⟨_,rfl,hbf Zd t4,?_⟩;have hq4:=hq.drop c;have hl4:=hq4.len;have hz4:=t4.mod.size;refine (Dl (x:=(t,c)) h4 hq4.sorted (by simp only at hl4 ⊢;omega) (λy hy=>by have:=(jJ.1 hy).2;simpa using this)).mono ?_;rintro e w6 ⟨rfl,s6,h6,t6⟩;refine ⟨rfl,t6.mod.same _ aa (λhf=> ?_),rfl,s6,h6,((aG.aN oU).trans t4).trans t6⟩;rcases t4.sub _ hf with hf|hf
   ·have:=h.lt _ hf;omega
   ·omega
 ·refine Br.mk (λhb'=>by rw [hb] at hb';cases hb') (λ_=> ?_);have hw:iD q.l c=none:=by simpa using hb
  have h1d:=h1.ext (Ext.dr w1);refine ⟨s,h1d.row.at 2 rfl,q.room,h1d.row.at 0 rfl,?_⟩;rw [hn];apply Br.mk<;>intro hc
  ·have hc':((q.l.length:Nat):Int)=q.room:=by simpa using hc
   have e:fc q c t=({q with lost:=q.lost+1},false):=by unfold fc;rw [hw];simp [hc']
   rw [e];obtain ⟨p1,p2⟩:=h1d.row.jR (j:=1) (v:=.int .i64 (ai (q.lost+1))) cx rfl;refine ⟨q.lost,h1d.row.at 1 rfl,⟨rfl,p1⟩,?_,λbL wA=> ?_⟩
   ·rw [dj];intro e;have:g=w.heap.size:=by simpa [cS] using e
    omega
   ·obtain ⟨q1,q2⟩:=p2 bL wA;rw [wI] at q1;obtain ⟨kvs,hm,ht⟩:=h1d.map;refine ⟨rfl,s,⟨q1,q2.gK h1d.own λb hb hf=>h.EJ (by rw [hb];exact congrArg some hf),kvs,q2.map hm (Ne.symm h.su),ht⟩,(aG.aN oU.drew).trans (gW.iT (q2.mono λb _ hb=> .inl hb) λb hb=> .inl hb)⟩
  ·have hc':((q.l.length:Nat):Int)≠q.room:=by simpa using hc
   have e:fc q c t=({q with l:=pR q.l (t,c)},true):=by
    unfold fc;rw [hw];have:¬(q.l.length:Int)>=q.room:=by omega
    simp only;rw [if_neg this]
   rw [e];refine (Dl (x:=(t,c)) h1d hq.sorted aa (nX hw)).mono ?_;rintro e w6 ⟨rfl,s6,h6,t6⟩;exact ⟨rfl,hbf Zd t6,rfl,s6,h6,(aG.aN oU.drew).trans t6⟩
end Go.Proofs.YtalpkjfpmdpbiaaGreatDoor.Q
namespace Go.Proofs.YtalpkjfpmdpbiaaGreatDoor.Q
open Go Go.Vc Go.RowKit Go.Proofs Go.km
set_option maxRecDepth 100000
def LG{w:World}{s:Sl}{l:List It}(ho:aj 0 bT 4 w s (l.map cN))(hl:l.length<=5000):
  ah 98 #[s] w λe w'=>∃s':Sl,e=s'/\aj w bT 4 w' s' (l.map cN)/\Ext w w':=by
 apply uk.vc;have hn:s.n=l.length:=by rw [(ho.rd aC).n,aB]
 apply Br.mk<;>intro h
 ·rcases ho.form aC with ⟨hs,Ji⟩|⟨g0,cs,ha,-⟩
  ·exact ⟨⟨none,0,0⟩,rfl,by rw [Ji];exact aj.nil,Ext.bX _⟩
  ·rw [ha] at h;cases h
 ·intro w0 e0;have x0:=bo e0;have mC:=dt e0;have hr0:Row w0 w [] bT:=by rw [e0];exact Row.new _ _ _
  have sG:aj w bT 4 w0 ⟨bu w.heap.size,0,0⟩ []:=aj.gm (ax _) hr0 cx (ax _) rfl cx;obtain ⟨hp,hr⟩:=sG.kl (bytes:=32) (more:=l.map cN) x0.size (ei _) (gN _) (by simp;omega) (by simp;omega);rw [aB,<-hn] at hp hr;refine ⟨(l.map cN).flatten,((ho.ext x0).rd aC).flat aC,hp,λs2 w3 aR=> ?_⟩;obtain ⟨h1,h2,h3,h4,h5⟩:=hr s2 w3 aR;refine ⟨pB aR (by rw [bK (ei _),aB,hn]) aa,s2,rfl,h1,x0.trans h3⟩
def Sp{w:World}{g m:Nat}{s:Sl}{q:QS}(h:qU w g m s q)(hq:xR q):ah 52 #[g] w λe w'=>∃s':Sl,e=s'/\aj w bT 4 w' s' (q.l.map cN)/\Ext w w':=by apply xV.vc;have:=hq.len;have:=hq.room;refine ⟨s,h.row.at 2 rfl,(LG h.own aa).mono ?_⟩;rintro e w1 ⟨s',rfl,h1,x1⟩;exact ⟨s',rfl,s',rfl,h1,x1⟩
def late{F G M:Prop}(main:(F->G)->M)(fin:F->G):M:=main fin
def S4{w:World}{g m:Nat}{s:Sl}{q:QS}(h:qU w g m s q)(hq:xR q)(now many:Int):
  ah 46 #[g,now,many] w λe w'=>∃so:Sl,e=Value.slice so.a so.n so.c/\∃s',aj w mo 3 w' so ((ue q now many).2.map dn)/\qU w' g m s' (ue q now many).1/\aG (gW g m s) (gW g m s') w w':=by
 have hn:s.n=q.l.length:=by rw [(h.own.rd aC).n,aB]
 have ed:=hq.len;have hroom:=hq.room;have uH:s.n<=s.c:=by
  rcases h.own.form aC with ⟨hs,-⟩|⟨g0,cs,ha,Ua,hr,hc,Gb,-⟩
  ·rw [hs];exact ax _
  ·exact Gb
 have hql:=Dr q.l now many;apply xW.vc;refine ⟨λn x wr=>w=wr/\∃k:Nat,x=k/\k+n=fR q.l now many,⟨fR q.l now many,rfl,0,rfl,by omega⟩,?_⟩;rintro n0 us x wr ⟨rfl,k,rfl,hk⟩;have rF:k<=q.l.length:=by omega
 apply late (F:=k=fR q.l now many)
 ·intro fin;refine ⟨s,h.row.at 2 rfl,Br.mk (λhc=> ?_) (λhc=> ?_)⟩
  ·replace hc:=fe hc;have dC:q.l[k]? =some (q.l[k]'aa):=cy aa;have Mg:=Pd hq now many dC;generalize q.l[k]'aa=y at dC Mg;apply Br.mk<;>intro jH
   ·replace jH:=fe jH;have fq:=h.own.rd aC;refine ⟨s,h.row.at 2 rfl,⟨fq.isSome aC (i:=k) (by simp;omega),by omega,by omega⟩,?_⟩;have rD:(ae s.a ((k:Int).toNat*4)).isSome=true:=by rw [ea];exact fq.isSome aC (i:=k) (by simp;omega)
    refine bn.2 ⟨gq.2 rD,y.1,?_,Br.mk (λY8=> ?_) (λY8=> ?_)⟩
    ·exact fq.at (i:=k) (r:=cN y) (by rw [aV,dC];rfl) rfl
    ·replace Y8:=fe Y8;have:=Mg.2 ⟨jH,Y8⟩;have hw:=kK (j:=k);exact ⟨n0-1,by omega,rfl,k+1,hw,by omega⟩
    ·replace Y8:=eX Y8;have Zc:k=fR q.l now many:=by
      have:¬k<fR q.l now many:=λfH=>Y8 (Mg.1 fH).2
      omega
     exact fin Zc
   ·replace jH:=eX jH;have Zc:k=fR q.l now many:=by
     have:¬k<fR q.l now many:=λfH=>jH (Mg.1 fH).1
     omega
    exact fin Zc
  ·replace hc:=eX hc;have Zc:k=fR q.l now many:=by omega
   exact fin Zc
 ·intro Zc;refine ⟨s,h.row.at 2 rfl,by omega,by omega,by omega,by omega,λn x so wr=>∃j:Nat,x=j/\j+n=k/\Go.Vc.Mod (λi=>i=m) w wr/\aj w mo 3 wr so ((q.l.take j).map λy=>dn y.2)/\∃kvs,bN GC wr (some m) kvs/\mw kvs (q.l.drop j),⟨k,0,rfl,by omega,Go.Vc.Mod.refl _ _,aj.nil,by simpa using h.map⟩,?_⟩;rintro n us x so wr ⟨j,rfl,hj,uG,nA,kvs,UE,j2⟩;have jx:Row wr g (vQ q s m) ig:=uG.row h.row h.su;have sG:aj 0 bT 4 wr s (q.l.map cN):=uG.gK h.own λb hb hf=>h.vR (by rw [hb];exact congrArg some hf)
  apply Br.mk<;>intro hc
  ·replace hc:=fe hc;have NG:j<q.l.length:=by omega
   have dC:q.l[j]? =some (q.l[j]'NG):=cy NG;generalize q.l[j]'NG=y at dC;have fq:=sG.rd aC;refine ⟨⟨?_,by omega,by omega⟩,y.1,y.2.1,y.2.2.1,y.2.2.2,?_,?_⟩
   ·have:=fq.isSome aC (i:=j) (by simp;omega);unfold aA;split<;>simpa using this
   ·rw [pG];exact RdK.item fq dC
   intro ef uP ct Bq gp JY;have fT:=bo uP;have eK:Ext wr ct:=fT.ab Bq (ax _);have dc:Ext wr gp:=eK.ay JY;have aqs:ct.heap.size=wr.heap.size+1:=by rw [Bq,setRow_size,uP];simp
   have aqt:=dt JY;have BO:so.n=j:=by rw [(nA.rd aC).n,aB,bF];omega
   have hzw:=uG.size;obtain ⟨hp,hr⟩:=(nA.ext dc).append (bytes:=24) (news:=dn y.2) aa rfl (by intro u hu;simp at hu;rcases hu with rfl|rfl|rfl<;>rfl) aa aa;refine ⟨hp,λkO eh aR=> ?_⟩;obtain ⟨h1,h2,h3,h4,h5⟩:=hr kO eh aR;have Ft:∀b,so.bj=some b->b<wr.heap.size:=λb hb=>(nA.own.lt hb).2
   have akq:Go.Vc.Mod (λi=>so.bj=some i) gp eh:=⟨h3.os,h3.tape,h3.output,h3.size,λi hi hn=>h4 i hn hi⟩;have rD:so.bj≠some m:=λe=>by have h1:=(nA.own.lt e).1;have h2:=h.lt m (.inr (.inl rfl));omega
   refine ⟨h4 _ (λe=>by have:=Ft _ e;omega) aa,h4 _ (λe=>by have:=Ft _ e;omega) aa,?_⟩;have mN:Go.Vc.Mod (λi=>so.bj=some i) wr eh.drew:=((Go.Vc.Mod.aN dc).trans akq).trans (Go.Vc.Mod.aN (Ext.dr _));have hsg:so.bj≠some g:=λe=>by have h1:=(nA.own.lt e).1;have h2:=h.lt g (.inl rfl);omega
   refine ⟨some m,(mN.row jx hsg).at 3 rfl,GC,kvs,uf,rfl,mN.map UE rD,⟨y.2,rfl⟩,?_⟩;intro fP j3 hmap29;have afb:=Go.Vc.Mod.ED j3;have Xe:=kK (j:=j);rw [Xe];refine ⟨n-1,by omega,j+1,rfl,by omega,(uG.tr mN (λi hi=> .inr (nA.own.lt hi).1)).trans afb,?_,_,hmap29,?_⟩
   ·have e:(q.l.take (j+1)).map (λy=>dn y.2)=(q.l.take j).map (λy=>dn y.2)++ [dn y.2]:=by rw [cm,dC,aT];rfl
    rw [e];refine afb.gK (h1.ext (Ext.dr _)) λb hb hf=> ?_
    have hb':kO.bj=some m:=by rw [hb];exact congrArg some hf
    have:=h.lt m (.inr (.inl rfl));rcases h5 with h5|h5
    ·exact rD (h5▸hb')
    ·rw [h5] at hb';have:gp.heap.size=m:=by simpa using hb'
     omega
   ·have hd:=j2.del y.2;refine hd.perm λz=> ?_
    have hcons:q.l.drop j=y::q.l.drop (j+1):=by obtain ⟨fH,he⟩:=bH.1 dC;rw [kW fH,he]
    have hnd:((y::q.l.drop (j+1)).map (·.2)).Nodup:=by rw [<-hcons];exact ((List.drop_sublist j q.l).map _).nodup hq.nodup
    rw [hcons];unfold bP;rw [dG,lE] at hnd;constructor
    ·intro hz;obtain ⟨Zd,QQ⟩:=jJ.1 hz;rcases bJ.1 Zd with rfl|Zd
     ·simp at QQ
     ·exact Zd
    ·intro hz;refine jJ.2 ⟨Dt _ hz,?_⟩;have:z.2≠y.2:=λe=>hnd.1 (e▸List.mem_map_of_mem hz)
     simpa using this
  ·replace hc:=eX hc;have Yy:j=k:=by omega
   subst Yy;refine ⟨s,jx.at 2 rfl,(GK sG rF aa).mono ?_⟩;rintro e ik ⟨iW,rfl,afc,XQ,akr⟩;have afd:Row ik g (vQ q s m) ig:=XQ.row jx h.EJ;obtain ⟨p1,p2⟩:=afd.jR (j:=2) (v:=.slice iW.a iW.n iW.c) cx rfl;refine ⟨iW,rfl,⟨rfl,p1⟩,λlz wF=> ?_⟩;obtain ⟨q1,q2⟩:=p2 lz wF;have lA:∀b,so.bj=some b->w.heap.size<=b:=λb hb=>(nA.own.lt hb).1
   refine ⟨so,rfl,iW,?_,?_,?_⟩
   ·unfold ue;rw [<-Zc,kj];refine q2.gK (XQ.gK nA λb hb hf=> ?_) λb hb hf=> ?_
    ·have:=lA b hb;have:=h.lt b (.inr (.inr hf));omega
    ·have:=lA b hb;have:=h.lt b (.inl hf);omega
   ·unfold ue;rw [<-Zc];refine ⟨q1,q2.gK afc λb hb hf=> ?_,kvs,q2.map (XQ.map UE h.vR) (Ne.symm h.su),j2⟩;obtain ⟨cs,hr⟩:=aM afc aC hb;exact hr.ne afd aC hf
   ·refine gW.iT (((uG.mono λb _ hb=> .inr (.inl hb)).trans (XQ.mono λb _ hb=> .inr (.inr hb))).trans (q2.mono λb _ hb=> .inl hb)) λb hb=> .inl (akr▸hb)
end Go.Proofs.YtalpkjfpmdpbiaaGreatDoor.Q
