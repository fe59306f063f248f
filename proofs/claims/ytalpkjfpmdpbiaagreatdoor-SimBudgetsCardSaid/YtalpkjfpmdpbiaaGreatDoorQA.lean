import Derived.Test.YtalpkjfpmdpbiaaGreatDoorGQ
import Derived.Test.YtalpkjfpmdpbiaaGreatDoorLib
import Derived.Test.YtalpkjfpmdpbiaaGreatDoorP
set_option linter.all false
namespace Go.Proofs.YtalpkjfpmdpbiaaGreatDoor.Q
open Go Go.Vc Go.RowKit Go.Proofs Go.ks
set_option maxRecDepth 100000
abbrev ml:TypeId:=23
abbrev bS:TypeId:=120
abbrev jw:TypeId:=158
def GC(v:Value):Prop:=∃c:Cl,v=cv c
def tB:gF Tryz.prog ml GC:=by
 refine ⟨?_,?_,?_⟩
 ·rintro x y ⟨a,rfl⟩ ⟨b,rfl⟩;refine ⟨a.1==b.1 &&(a.2.1==b.2.1 && a.2.2==b.2.2),by kernel_rfl,?_⟩;simp only [gy,beq_iff_eq];constructor
  ·rintro ⟨h1,h2,h3⟩;unfold cv;rw [h1,h2,h3]
  ·intro h;rw [zX h];simp
 ·rintro x ⟨a,rfl⟩ b w;kernel_rfl
 ·rintro x ⟨a,rfl⟩;simp [cv,Instr.sameBits]
def AH(a:Int)(w:World):ah 221 #[a] w λe w'=>e=false/\w'=w:=by apply BZ.vc;simp
def ER(a b:Int)(w:World):ah 182 #[a,b] w λe w'=>e=Value.int .i64 (if a<b then -1 else if b<a then 1 else 0)/\w'=w:=by
 apply xI.vc;refine (AH a w).mono ?_;rintro e w1 ⟨rfl,rfl⟩;refine ⟨_,rfl,(AH b w1).mono ?_⟩;rintro e w2 ⟨rfl,rfl⟩;refine ⟨_,rfl,Br.mk (λh=>by cases h) (λ_=>Br.mk (λh=>by cases h) (λ_=>Br.mk (λh=> ?_) (λh=>Br.mk (λh2=> ?_) (λh2=> ?_))))⟩
 ·replace h:=fj h;rw [if_pos h];exact ⟨rfl,rfl⟩
 ·simp only [bB,bQ] at h h2;rw [if_neg h,if_pos h2];exact ⟨rfl,rfl⟩
 ·simp only [bQ] at h h2;rw [if_neg h,if_neg h2];exact ⟨rfl,rfl⟩
def Td(a b:Int)(g:Nat)(w:World)(hr:Row w g [a,b] 3):
  ah 181 #[.slice (bu g) 2 2] w λe w'=>e=Value.int .i64 (if a=0 then b else a)/\w'=w:=by
 apply (Lj.vc (a0:=⟨bu g,2,2⟩));refine ⟨λn x wr=>wr=w/\∃k:Nat,x=k/\k+n=2/\(1<=k->a=0)/\(2<=k->b=0),⟨2,rfl,0,rfl,rfl,by omega,by omega⟩,?_⟩;rintro n us x wr ⟨rfl,k,rfl,hk,h1,h2⟩;have hw:=az (n:=(k:Int)+1) (by unfold inI;omega);rw [hw];apply Br.mk<;>intro h<;>simp only [bB,bQ] at h
 ·refine ⟨⟨rfl,by omega,by omega⟩,if k=0 then a else b,?_,Br.mk (λh3=> ?_) (λh3=> ?_)⟩
  ·show ld wr (ae (bu g) _)=_;rw [bW,hr.ld];have:k=0\/k=1:=by simp at h;omega
   rcases this with rfl|rfl<;>rfl
  ·simp only [bne_iff_ne,ne_eq] at h3;have:k=0\/k=1:=by simp at h;omega
   rcases this with rfl|rfl
   ·rw [if_pos rfl] at h3 ⊢;rw [if_neg h3];exact ⟨rfl,rfl⟩
   ·rw [if_neg (show ¬((1:Nat)=0) by omega)] at h3 ⊢;rw [if_pos (h1 aa)];exact ⟨rfl,rfl⟩
  ·simp only [bne_eq_false_iff_eq] at h3;have:k=0\/k=1:=by simp at h;omega
   rcases this with rfl|rfl
   ·rw [if_pos rfl] at h3;exact ⟨n-1,by omega,rfl,1,by omega,by omega,λ_=>h3,by omega⟩
   ·rw [if_neg (show ¬((1:Nat)=0) by omega)] at h3;exact ⟨n-1,by omega,rfl,2,by omega,by omega,λ_=>h1 aa,λ_=>h3⟩
 ·have:k=2:=by simp at h;omega
  subst this;rw [if_pos (h1 aa),h2 aa];exact ⟨rfl,rfl⟩
def AF(x y:It)(w:World):ah 180 #[.agg (cM x).toArray,.agg (cM y).toArray] w λe w'=>(∃z:Int,e=z/\(z<0 ↔ x.1<=y.1))/\Ext w w':=by
 apply rR.vc;intro w0 e0 w1 e1;have x1:Ext w w1:=by rw [e1,e0];exact (Ext.al _ _).tr (Ext.al _ _)
 refine (ER x.1 y.1 _).mono ?_;intro e w2 hh;obtain ⟨rfl,ew⟩:=hh;have x2:Ext w w2:=by rw [ew];exact x1
 refine ⟨_,rfl,by rw [ew],by rw [ew],?_⟩;intro w4 e4;have x4:Ext w w4:=x2.ay e4;have jx:Row w4 w2 [.int .i64 (if x.1<y.1 then -1 else if y.1<x.1 then 1 else 0),(-1:Int)] 3:=by rw [e4];exact Row.new w2 [_,_] _
 refine (Td _ _ _ _ jx).mono ?_;intro e w5 hh;obtain ⟨rfl,ew5⟩:=hh;refine ⟨_,rfl,by rw [ew5],by rw [ew5],⟨_,rfl,?_⟩,by rw [ew5];exact x4⟩;by_cases h1:x.1<y.1
 ·rw [if_pos h1];simp;omega
 ·by_cases h2:y.1<x.1
  ·rw [if_neg h1,if_pos h2];simp;omega
  ·rw [if_neg h1,if_neg h2];simp;omega
end Go.Proofs.YtalpkjfpmdpbiaaGreatDoor.Q
namespace Go.Proofs.YtalpkjfpmdpbiaaGreatDoor.Q
open Go Go.Vc Go.RowKit Go.Proofs Go.ks
set_option maxRecDepth 100000
def eh(l:List It):∀r ∈ l.map cM,r.length=4:=by intro r hr;obtain ⟨x,_,rfl⟩:=aR.1 hr;rfl
def gB(l:List It):∀r ∈ l.map cM,One r:=by intro r hr;obtain ⟨x,_,rfl⟩:=aR.1 hr;intro u hu;simp at hu;rcases hu with rfl|rfl|rfl|rfl<;>rfl
def jr(x:It):One (cM x):=by intro u hu;simp at hu;rcases hu with rfl|rfl|rfl|rfl<;>rfl
def CB(l:List It)(i:Nat):(l.map cM).flatten.take (i*4)=((l.take i).map cM).flatten:=by
 have hw:=eh (l.take i);rcases fx i l.length with h|h
 ·conv=>lhs;rw [<-kf i l,aT,CC]
  rw [zg (by rw [bJ hw];simp;omega)]
 ·rw [dn h,dn];rw [bJ (eh l)];simp;omega
def CD(l:List It)(i:Nat):(l.map cM).flatten.drop (i*4)=((l.drop i).map cM).flatten:=by
 rcases fx i l.length with h|h
 ·conv=>lhs;rw [<-kf i l,aT,CC]
  rw [List.drop_left' (by rw [bJ (eh _)];simp;omega)]
 ·rw [zi h,zi]
  ·rfl
  ·rw [bJ (eh l)];simp;omega
def zk{cs:LV}{l:List It}{n:Nat}(ht:cs.take (n*4)=(l.map cM).flatten)(hn:n=l.length)(i j:Nat)(hj:j<((l.drop i).map cM).flatten.length):cs[i*4+j]? =((l.drop i).map cM).flatten[j]? :=by rw [<-CD,sG,<-ht,mT,if_pos];rw [bJ (eh _)] at hj;simp at hj;omega
set_option maxRecDepth 100000 in
def BM{w:World}{g g':Nat}{x cs:LV}(hx:Row w g x bS)(hr:Row w g' cs bS)(dI:g≠g')(hc:cs.length≠0)(o:Nat)(la ca lb cb:Nat){R:Ending->World->Prop}(h:R (.returned (.bool false)) w):
  Ra Tryz.prog 222 [.slice (bu g) la ca,.slice (pd g' o) lb cb] w R:=by
 refine ⟨_,⟨_,rfl,by kernel_rfl,by kernel_rfl,by kernel_rfl⟩,_,_,Lib.run_overlaps_apart w 61 0 bS (by kernel_rfl) 4 (λw=>by kernel_rfl) ⟨g,0,none⟩ ⟨g',o,none⟩ la ca lb cb dI bS bS x.length cs.length ?_ ?_ hc ?_ ?_,h⟩
 ·simp [World.shape?,show w.heap[g]? =_ from hx]
 ·simp [World.shape?,show w.heap[g']? =_ from hr]
 ·simp [World.frozen?,show w.heap[g]? =_ from hx]
 ·simp [World.frozen?,show w.heap[g]? =_ from hx]
def zU{w:World}{g g':Nat}{x cs:LV}(hx:Row w g x bS)(hr:Row w g' cs bS)(dI:g≠g')(hc:cs.length≠0){p:Option Addr}{o:Nat}(hp:p=some ⟨g',o,none⟩)(la ca lb cb:Nat){R:Ending->World->Prop}(h:R (.returned (.bool false)) w):
  Ra Tryz.prog 222 [.slice (bu g) la ca,.slice p lb cb] w R:=by
 subst hp;exact BM hx hr dI hc o la ca lb cb h
end Go.Proofs.YtalpkjfpmdpbiaaGreatDoor.Q
namespace Go.Proofs.YtalpkjfpmdpbiaaGreatDoor.Q
open Go Go.Vc Go.RowKit Go.Proofs Go.ks
set_option maxRecDepth 100000
def v7(n:Nat):bo [af,af,af,af] n=((List.replicate n ((0,0,0,0):It)).map cM).flatten:=by unfold bo;simp
def Hn{w:World}{s:Sl}{l:List It}{i g:Nat}{x:It}(ho:ak 0 bS 4 w s (l.map cM))(hx:Row w g (cM x) bS)(hi:i<=l.length)(hl:l.length<=5000)(dI:s.bg≠some g):
  ah 183 #[s,(i:Int),.slice (bu g) 1 1] w λe w'=>∃s':Sl,e=Value.slice s'.a s'.n s'.c/\ak 0 bS 4 w' s' ((l.take i++x::l.drop i).map cM)/\Mod (λb=>s.bg=some b) w w'/\(∀b,s'.bg=some b->s.bg=some b\/w.heap.size<=b):=by
 have hn:s.n=l.length:=by rw [(ho.rd aE).n,aB]
 apply rS.vc (a2:=⟨bu g,1,1⟩);have WK:ai (((s.n:Nat):Int)+((1:Nat):Int))=((s.n+1:Nat):Int):=by rw [wI];omega
 have yd:ai ((i:Int)+((1:Nat):Int))=((i+1:Nat):Int):=by rw [wI];omega
 have Jo:ai (((s.n+1:Nat):Int)-(i:Int))=((s.n+1-i:Nat):Int):=by rw [wI];omega
 have hw4:ai ((s.n+1-i:Nat):Int)=((s.n+1-i:Nat):Int):=wI;have hrx:Rd w (bu g) (cM x):=hx.Y9 λj hj=>rfl
 dsimp only;rw [WK,yd,Jo,hw4];simp only [ju,Nat.sub_zero,eE];refine ⟨by omega,by omega,Br.mk (λh=>by cases h) (λ_=>Br.mk (λh=> ?_) (λh=> ?_))⟩
 ·
  have he:i=l.length:=by simp at h;omega
  obtain ⟨hp,hr⟩:=ho.append (bytes:=32) (news:=cM x) (fm _) rfl (jr x) aa aa;refine ⟨cM x,hrx,hp,λs' w' aS=> ?_⟩;obtain ⟨h1,h2,h3,h4,h5⟩:=hr s' w' aS;refine ⟨s',rfl,?_,Mod.ri h3 h4,?_⟩
  ·rw [he,kg,List.drop_length,aT];exact h1
  ·intro b hb;rcases h5 with h5|h5
   ·exact .inl (h5▸hb)
   ·rw [h5] at hb;cases hb;exact .inr (ax _)
 ·have ft:i<l.length:=by
   have:i≠l.length:=λe=>by subst e;simp [hn] at h
   omega
  rcases ho.form aE with ⟨hs,IF⟩|⟨g0,cs,ha,TA,hr,hc,Fv,ht,hn'⟩
  ·have:l=[]:=by simpa using IF
   subst this;simp at ft
  have Xo:g0≠g:=λe=>dI (by unfold Sl.bg;rw [ha,e];rfl)
  have gX:s.bg=some g0:=by unfold Sl.bg;rw [ha];rfl
  have kJ:cs.take (i*4)=((l.take i).map cM).flatten:=by rw [<-CB,<-ht,List.take_take,Nat.min_eq_left aa]
  rw [ha];apply Br.mk<;>intro h2
  ·
   replace h2:=fj h2;have lh:ak 0 bS 4 w ⟨bu g0,i,s.c⟩ ((l.take i).map cM):=ak.gg (fm _) hr hc aa kJ (eh _);obtain ⟨hp,-⟩:=lh.ke (bytes:=32) (more:=(List.replicate (s.n+1-i) ((0,0,0,0):It)).map cM) (fm _) (eh _) (gB _) (by simp;omega) (by simp;omega);have dY:((List.replicate (s.n+1-i) ((0,0,0,0):It)).map cM).length=s.n+1-i:=by simp
   rw [dY] at hp;rw [v7];refine ⟨by omega,by omega,⟨by omega,trivial,by omega⟩,hp,λs3 w4 aS=> ?_⟩;generalize hz:((List.replicate (s.n+1-i) ((0,0,0,0):It)).map cM).flatten=zs at aS;have Jf:zs.length=(s.n+1-i)*4:=by rw [<-hz,bJ (eh _)];simp
   cases aS with
   |fits hf=>simp only at hf;omega
   |vV hg eP rest cap q1 q2 q3 q4=>
    simp only at q1 q2 q3;have AT:eP=cs.take (i*4):=by
     refine Nz q2 (hr.Y9 (vs:=cs.take (i*4)) λj hj=> ?_) ?_
     ·rw [bG] at hj;rw [mT,if_pos aa]
     ·rw [q1,bG];omega
    have hR:Row (w.drew.alloc (.cells (eP++zs++rest).toArray bS)) w.heap.size (eP++zs++rest) bS:=Row.new w.drew _ _;generalize alx:w.drew.alloc (.cells (eP++zs++rest).toArray bS)=w4 at hR;have x4:Ext w w4:=by rw [<-alx];exact (Ext.dr w).tr (Ext.al _ _)
    have hr4:=hr.ext x4;have hlt0:=hr.lt;have Xc:i+(s.n+1-i)=s.n+1:=by omega
    have hCl:(s.n+1)*4<=(eP++zs++rest).length:=by rw [q4];exact sO _ aa
    dsimp only;rw [Xc];have hx4:=hx.ext x4;have kI:((l.drop i).map cM).flatten.length=(s.n-i)*4:=by rw [bJ (eh _)];simp;omega
    have hm1:min 1 (s.n+1-i)*4=4:=by
     have:min 1 (s.n+1-i)=1:=by omega
     rw [this]
    have rU:min (s.n-i) (s.n+1-(i+1))=s.n-i:=by omega
    obtain ⟨p1,p2,p3⟩:=hR.QK (vs:=cM x) (l:=i) (m:=cap) (size:=4) (by intro e;omega) (by simp;omega) (jr x);refine ⟨by omega,by omega,cM x,⟨hm1.symm,hx4.Y9 λj hj=>rfl,jr x,p1⟩,?_⟩;intro w6 e6;rw [<-e6] at p2 p3;have hr6:Row w6.drew g0 cs bS:=(p3.row hr4 aa).ext (Ext.dr _);have p2':Row w6.drew w _ bS:=p2.ext (Ext.dr _);obtain ⟨u1,u2,u3⟩:=p2'.QK (vs:=((l.drop i).map cM).flatten) (l:=i+1) (m:=cap) (size:=4) (by intro e;rw [zi aa];rfl) (by rw [kI,Go.Vc.cG];omega) (fc (gB _));refine ⟨by omega,by omega,by omega,by omega,((l.drop i).map cM).flatten,⟨by rw [rU,kI],hr6.Y6 (by intro e;rw [zi aa];rfl) (zk ht hn i),fc (gB _),u1⟩,?_⟩;intro w8 e8;rw [<-e8] at u2 u3;refine ⟨⟨bu w.heap.size,s.n+1,cap⟩,rfl,ak.gg (fm _) u2 (by rw [Go.Vc.cG,Go.Vc.cG,q4];exact ax _) aa ?_ (eh _),?_,?_⟩
    ·rw [S6 (by simp;omega) (by rw [kI];omega) hCl,mU,mU,zg (by rw [q1]),AT,kJ];simp
    ·refine ((Mod.aM x4).tr p3 (λb hb=> .inr aa)).tr (F':=λb=>b=w.heap.size) ?_ (λb hb=> .inr aa);exact (Mod.aM (Ext.dr _)).trans u3
    ·intro b hb;have:w.heap.size=b:=by simpa [Sl.bg] using hb
     exact .inr aa
  ·
   replace h2:=fh h2;have hCl:(s.n+1)*4<=cs.length:=fy (sO _ aa) hc;have kI:((l.drop i).map cM).flatten.length=(s.n-i)*4:=by rw [bJ (eh _)];simp;omega
   refine ⟨by omega,by omega,by omega,by omega,?_⟩;refine zU hx hr (Ne.symm Xo) aa (by rw [nL,if_neg aa]) _ _ _ _ ⟨_,rfl,Br.mk (λ_=> ?_) (λh=>by cases h)⟩;have rU:min (s.n+1-i) (s.n+1-(i+1))=s.n-i:=by omega
   have hm1:min 1 (s.n+1-i)*4=4:=by
    have:min 1 (s.n+1-i)=1:=by omega
    rw [this]
   have hr':=hr.ext (Ext.dr w);obtain ⟨u1,u2,u3⟩:=hr'.QK (vs:=((l.drop i).map cM).flatten) (l:=i+1) (m:=s.c) (size:=4) (by intro e;omega) (by rw [kI];omega) (fc (gB _));refine ⟨by omega,by omega,by omega,by omega,((l.drop i).map cM).flatten,⟨by rw [rU,kI],hr'.Y6 (by intro e;omega) (zk ht hn i),fc (gB _),u1⟩,?_⟩;intro bR Bv;rw [<-Bv] at u2 u3;obtain ⟨p1,p2,p3⟩:=u2.QK (vs:=cM x) (l:=i) (m:=s.c) (size:=4) (by intro e;omega) (by rw [Go.Vc.cG];simp;omega) (jr x);have aly:Row bR g (cM x) bS:=u3.row (hx.ext (Ext.dr w)) (Ne.symm Xo);refine ⟨by omega,by omega,cM x,⟨hm1.symm,aly.Y9 λj hj=>rfl,jr x,p1⟩,?_⟩;intro cm nu;rw [<-nu] at p2 p3;refine ⟨⟨bu g0,s.n+1,s.c⟩,rfl,ak.gg (fm _) p2 (by rw [Go.Vc.cG,Go.Vc.cG];exact hc) aa ?_ (eh _),?_,?_⟩
   ·rw [O5 (by simp;omega) (by rw [kI];omega) hCl,kJ];simp
   ·refine (((Mod.aM (Ext.dr w)).trans u3).trans p3).mono λb _ hb=> ?_
    rw [gX,hb]
   ·intro b hb;exact .inl (gX.trans hb)
end Go.Proofs.YtalpkjfpmdpbiaaGreatDoor.Q
namespace Go.Proofs.YtalpkjfpmdpbiaaGreatDoor.Q
open Go Go.Vc Go.RowKit Go.Proofs Go.ks
set_option maxRecDepth 100000
def RdK.item{w:World}{s:Sl}{l:List It}(h:RdK w s 4 (l.map cM)){i:Nat}{x:It}(hi:l[i]? =some x):av w (ae s.a (i*4)) 0 (cM x):=
 h.bk (by rw [aX,hi];rfl)
def R1{w:World}{s:Sl}{l:List It}(x:It)(h:RdK w s 4 (l.map cM))(hs:l.Pairwise λa b=>a.1<=b.1)(hl:l.length<=5000):
  ah 179 #[s,.agg (cM x).toArray,.func (.func 180) #[] #[]] w λe w'=>(∃b,e=Value.tuple #[.int .i64 ((l.takeWhile λy=>y.1<=x.1).length:Nat),.bool b])/\Ext w w':=by
 have hn:s.n=l.length:=by rw [h.n,aB]
 apply kH.vc;intro w0 e0;have x0:=bq e0;have mL:w0.heap.size=w.heap.size+1:=by rw [e0];simp [World.alloc_eq]
 have hk:(l.takeWhile λy=>decide (y.1<=x.1)).length<=l.length:=(List.takeWhile_sublist _).length_le;generalize hkk:(l.takeWhile λy=>decide (y.1<=x.1)).length=k at hk;have Ly:∀{i:Nat} {y:It},l[i]? =some y->(i<k ↔ y.1<=x.1):=λhi=>by rw [<-hkk];exact gT hs x.1 hi
 refine ⟨λn a b wr=>Ext w0 wr/\∃lo hi:Nat,a=lo/\b=hi/\lo<=k/\k<=hi/\hi<=l.length/\n=hi-lo,⟨_,rfl,Ext.ck _,0,s.n,rfl,rfl,fm _,by omega,by omega,rfl⟩,?_⟩;rintro n us a b wr ⟨xr,lo,hi,rfl,rfl,h1,h2,h3,rfl⟩;refine Br.mk (λft=> ?_) (λLv=> ?_)<;>simp only [bB,bQ] at*
 ·rw [ZT aa];have Cj:(lo+hi) / 2<l.length:=by omega
  have dw:l[(lo+hi) / 2]? =some l[(lo+hi) / 2]:=cr Cj;generalize l[(lo+hi) / 2]=y at dw;have hr:=(h.ext (x0.tr xr)).ext (Ext.dr wr);have Qf:=xr.size;refine ⟨⟨?_,by omega,by omega⟩,y.1,y.2.1,y.2.2.1,y.2.2.2,RdK.item hr dw,?_⟩
  ·exact h.isSome aE (i:=(lo+hi) / 2) (by simpa using Cj)
  refine jt (by kernel_rfl) rfl ((AF y x _).mono ?_);rintro e w2 ⟨⟨z,rfl,hz⟩,x2⟩;have hz':=(Ly dw).trans hz.symm;have x3:=(xr.tr (Ext.dr wr)).tr x2;refine ⟨z,rfl,(x2.heap ?_),Br.mk (λhb=> ?_) (λhb=> ?_)⟩
  ·show w.heap.size<wr.heap.size;omega
  ·replace hb:=fj hb;have:=hz'.2 hb;have hw:ai ((((lo+hi) / 2:Nat):Int)+1)=(((lo+hi) / 2+1:Nat):Int):=by rw [wI];omega
   rw [hw];exact ⟨_,by omega,trivial,x3,(lo+hi) / 2+1,hi,rfl,rfl,by omega,h2,h3,rfl⟩
  ·replace hb:=fh hb;have:¬(lo+hi) / 2<k:=λh=>hb (hz'.1 h)
   exact ⟨_,by omega,trivial,x3,lo,(lo+hi) / 2,rfl,rfl,h1,by omega,by omega,rfl⟩
 ·have:lo=k:=by omega
  subst this;have hr:=(h.ext (x0.tr xr)).ext (Ext.dr wr);have Qf:=xr.size;refine Br.mk (λhb=> ?_) (λhb=>⟨⟨_,rfl⟩,x0.tr (xr.tr (Ext.dr _))⟩);replace hb:=fj hb;have dw:l[lo]? =some (l[lo]'aa):=cr aa;generalize l[lo]'aa=y at dw;refine ⟨⟨h.isSome aE (i:=lo) (by simp;omega),by omega,by omega⟩,y.1,y.2.1,y.2.2.1,y.2.2.2,RdK.item hr dw,?_⟩;refine jt (by kernel_rfl) rfl ((AF y x _).mono ?_);rintro e w2 ⟨⟨z,rfl,hz⟩,x2⟩;refine ⟨z,rfl,x2.heap (show w.heap.size<wr by omega),⟨_,rfl⟩,(x0.tr (xr.tr (Ext.dr wr))).tr x2⟩
def zh(x:It){b:Nat}{c:Cl}{w:World}(hb:Row w b (ef c) ml):ah 178 #[.agg (cM x).toArray,b] w λe w'=>e=Value.bool (x.2==c)/\Ext w w':=by apply rP.vc;intro w0 e0;have x0:=bq e0;exact ⟨c.1,c.2.1,c.2.2,(hb.ext x0).bk (λj hj=>by rw [cO]),rfl,x0⟩
def JI{w:World}{s:Sl}{l:List It}{b:Nat}{c:Cl}(h:RdK w s 4 (l.map cM))(hb:Row w b (ef c) ml)(hl:l.length<=5000):
  ah 220 #[s,.func (.func 178) #[] #[b]] w λe w'=>(∃i:Int,e=i/\((i= -1/\∀x ∈ l,x.2≠c)\/∃k:Nat,i=k/\k<l.length/\(∀x ∈ l.take k,x.2≠c)/\∀x,l[k]? =some x->x.2=c))/\Ext w w':=by
 have hn:s.n=l.length:=by rw [h.n,aB]
 apply oV.vc;refine ⟨λn a wr=>Ext w wr/\∃k:Nat,a=k/\k+n=l.length/\(∀x ∈ l.take k,x.2≠c),⟨l.length,Ext.ck _,0,rfl,by omega,by simp⟩,?_⟩;rintro n us a wr ⟨xr,k,rfl,h1,h2⟩;refine Br.mk (λft=> ?_) (λLv=> ?_)<;>simp only [bB,bQ] at*
 ·have dw:l[k]? =some (l[k]'aa):=cr aa;generalize l[k]'aa=y at dw;refine ⟨⟨h.isSome aE (i:=k) (by simp;omega),by omega,by omega⟩,y.1,y.2.1,y.2.2.1,y.2.2.2,RdK.item (h.ext xr) dw,?_⟩;refine jt (by kernel_rfl) rfl ((zh y (hb.ext xr)).mono ?_);rintro e w2 ⟨rfl,x2⟩;refine ⟨_,rfl,Br.mk (λhb=> ?_) (λhb=> ?_)⟩
  ·refine ⟨⟨_,rfl,.inr ⟨k,rfl,by omega,h2,λx hx=> ?_⟩⟩,xr.tr x2⟩;rw [dw] at hx;cases hx;simpa using hb
  ·have hw:=lD (j:=k);rw [hw];refine ⟨n-1,by omega,xr.tr x2,k+1,rfl,by omega,λx hx=> ?_⟩;rw [cu,dw] at hx;rcases ct.1 hx with hx|hx
   ·exact h2 x hx
   ·simp at hx;subst hx;simpa using hb
 ·refine ⟨⟨_,rfl,.inl ⟨rfl,?_⟩⟩,xr⟩;rw [dn aa] at h2;exact h2
end Go.Proofs.YtalpkjfpmdpbiaaGreatDoor.Q
namespace Go.Proofs.YtalpkjfpmdpbiaaGreatDoor.Q
open Go Go.Vc Go.RowKit Go.Proofs Go.ks
set_option maxRecDepth 100000
def zf{w:World}{s:Sl}{l:List It}(ho:ak 0 bS 4 w s (l.map cM)){i:Nat}(hi:i<=l.length):
  Wr w (aA s.a i s.c 4) ((s.n-i)*4)/\∀w',w'=aZ w (aA s.a i s.c 4) (bo [af,af,af,af] (s.n-i))->
   ak 0 bS 4 w' ⟨s.a,i,s.c⟩ ((l.take i).map cM)/\Mod (λb=>s.bg=some b) w w':=by
 have hn:s.n=l.length:=by rw [(ho.rd aE).n,aB]
 rw [v7];rcases ho.form aE with ⟨hs,IF⟩|⟨g0,cs,ha,TA,hr,hc,Fv,ht,hn'⟩
 ·have:l=[]:=by simpa using IF
  subst this;have:i=0:=by simpa using hi
  subst this;subst hs;refine ⟨λj hj=>by simp at hj,λw' e=> ?_⟩;have:w'=w:=by rw [e];rfl
  subst this;exact ⟨ak.nil,Mod.refl _ _⟩
 ·have gX:s.bg=some g0:=by unfold Sl.bg;rw [ha];rfl
  have Jf:((List.replicate (s.n-i) ((0,0,0,0):It)).map cM).flatten.length=(s.n-i)*4:=by rw [bJ (eh _)];simp
  have Pp:s.n*4<=cs.length:=fy (sO _ Fv) hc;rw [ha];have hz0:s.c=i->((List.replicate (s.n-i) ((0,0,0,0):It)).map cM).flatten=[]:=λe=>by
   have:s.n-i=0:=by omega
   rw [this];rfl
  obtain ⟨p1,p2,p3⟩:=hr.QK (l:=i) (m:=s.c) (size:=4) hz0 (by rw [Jf];omega) (fc (gB _));rw [Jf] at p1;refine ⟨p1,λw' e=> ?_⟩;rw [<-e] at p2 p3;refine ⟨ak.gg (fm _) p2 (by rw [Go.Vc.cG];exact hc) aa ?_ (eh _),p3.mono λb _ hb=>by rw [gX,hb]⟩;rw [dA _ _ _ (by rw [Jf];omega),mU,zg (by rw [bG];omega),<-CB,<-ht,List.take_take,Nat.min_eq_left aa]
def QL{w:World}{s:Sl}{l:List It}(ho:ak 0 bS 4 w s (l.map cM)){i:Nat}(hi:i<l.length)(x:It):
  (ae s.a (i*4)).isSome=true/\Wr w (ae s.a (i*4)) 4/\∀w',w'=aZ w (ae s.a (i*4)) (cM x)->ak 0 bS 4 w' s ((l.set i x).map cM)/\Mod (λb=>s.bg=some b) w w':=by
 obtain ⟨h1,h2,h3,h4,h5⟩:=ho.put (i:=i) (r:=cM x) (by simpa using hi) aE rfl (jr x);refine ⟨h1,h2,λw' e=> ?_⟩;subst e;exact ⟨by rw [mM];exact h3,h4.os,h4.tape,h4.output,h4.size,λj _ hn=>h5 j hn⟩
def xh{w:World}{s:Sl}{l:List It}{b:Nat}{c:Cl}(ho:ak 0 bS 4 w s (l.map cM))(hb:Row w b (ef c) ml)(hl:l.length<=5000):
  ah 177 #[s,.func (.func 178) #[] #[.pointer (some ⟨b,0,none⟩)]] w λe w'=>∃s':Sl,e=s'/\ak 0 bS 4 w' s' ((bN l c).map cM)/\Mod (λb=>s.bg=some b) w w'/\s'.bg=s.bg:=by
 have hn:s.n=l.length:=by rw [(ho.rd aE).n,aB]
 have EX:s.bg≠some b:=λe=>by
  rcases ho.form aE with ⟨hs,IF⟩|⟨g0,cs,ha,TA,hr,hc,Fv,ht,hn'⟩
  ·rw [hs] at e;cases e
  ·have:g0=b:=by unfold Sl.bg at e;rw [ha] at e;simpa using e
   exact hr.ne hb aE this
 apply nJ.vc;refine (JI (ho.rd aE) hb hl).mono ?_;rintro e w1 ⟨⟨i,rfl,hi⟩,x1⟩;refine ⟨i,rfl,Br.mk (λh=> ?_) (λh=> ?_)⟩
 ·have hm:i= -1:=by simpa using h
  rcases hi with ⟨-,jD⟩|⟨k,hk,-⟩
  ·refine ⟨s,rfl,?_,Mod.aM x1,rfl⟩;have:bN l c=l:=by unfold bN;rw [vY];intro x hx;simpa using jD x hx
   rw [this];exact ho.ext x1
  ·omega
 ·have hm:i≠-1:=by simpa using h
  rcases hi with ⟨hi,-⟩|⟨k,rfl,hk,ahr,hkc⟩
  ·exact absurd hi hm
  have hw:=lD (j:=k);have hq:bN (l.take (k+1)) c=l.take k:=by
   unfold bN;rw [cu,sP];have e1:(l.take k).filter (λx=>x.2 !=c)=l.take k:=by rw [vY];intro x hx;simpa using ahr x hx
   have dw:l[k]? =some (l[k]'hk):=cr hk;have:=hkc _ dw;rw [e1,dw];simp [this]
  refine ⟨λn a d wr=>Mod (λb=>s.bg=some b) w wr/\∃(j m:Nat)(l':List It),a=j/\d=m/\j+n=l.length/\m<j/\m=(bN (l.take j) c).length/\ak 0 bS 4 wr s (l'.map cM)/\l'.length=l.length/\l'.take m=bN (l.take j) c/\l'.drop j=l.drop j,⟨l.length-(k+1),Mod.aM x1,k+1,k,l,hw,rfl,by omega,by omega,?_,ho.ext x1,rfl,hq.symm,rfl⟩,?_⟩
  ·rw [hq,bG];omega
  rintro n us a d wr ⟨uc,j,m,l',rfl,rfl,h1,h2,h3,ho',h4,h5,h6⟩;have hbr:Row wr b (ef c) ml:=uc.row hb EX;refine Br.mk (λft=> ?_) (λLv=> ?_)
  ·replace ft:=fj ft;have dw:l[j]? =some (l[j]'aa):=cr aa;generalize l[j]'aa=y at dw;have ado:l'[j]? =some y:=by have:=congrArg (λq:List It=>q[0]?) h6;simpa [sG,dw] using this
   refine ⟨⟨(ho'.rd aE).isSome aE (i:=j) (by simp;omega),by omega,by omega⟩,y.1,y.2.1,y.2.2.1,y.2.2.2,RdK.item (ho'.rd aE) ado,?_⟩;intro cA ud cm nu;have cl:Ext wr cm:=(Ext.ck wr|>.ay ud).ab nu (ax _);have Z7:wr.heap.size<cm:=by rw [nu,setRow_size,ud];simp
   refine jt (by kernel_rfl) rfl ((zh y (hbr.ext cl)).mono ?_);rintro e w2 ⟨rfl,x2⟩;have x3:=cl.tr x2;have Wv:=lD (j:=j);have hwm:=lD (j:=m);have Pt:bN (l.take (j+1)) c=bN (l.take j) c++(if y.2=c then [] else [y]):=by unfold bN;rw [cu,dw,sP];congr 1;by_cases hy:y.2=c<;>simp [hy]
   refine ⟨_,rfl,x2.heap Z7,Br.mk (λfi=> ?_) (λfi=> ?_)⟩
   ·have hy:y.2≠c:=by simpa using fi
    obtain ⟨p1,p2,p3⟩:=QL (ho'.ext x3) (i:=m) aa y;refine ⟨⟨(ho'.rd aE).isSome aE (i:=m) (by simp;omega),by omega,by omega⟩,⟨p1,p2⟩,?_,?_⟩
    ·rw [da];intro e;have:=ho'.own.lt (g:=wr.heap.size) e;omega
    ·intro cC pX;obtain ⟨q1,q2⟩:=p3 cC pX;rw [Wv,hwm];refine ⟨n-1,by omega,(uc.trans (Mod.aM x3)).trans q2,j+1,m+1,l'.set m y,rfl,rfl,by omega,by omega,?_,q1,by rw [L6,h4],?_,?_⟩
     ·rw [Pt,if_neg hy,eK,<-h3];rfl
     ·rw [Pt,if_neg hy,<-h5,cu,List.take_set_of_le (ax _),QM aa];rfl
     ·rw [List.drop_set_of_lt aa];have:=congrArg (List.drop 1) h6;simpa [List.drop_drop] using this
   ·have hy:y.2=c:=by simpa using fi
    rw [Wv];refine ⟨n-1,by omega,uc.trans (Mod.aM x3),j+1,m,l',rfl,rfl,by omega,by omega,?_,ho'.ext x3,h4,?_,?_⟩
    ·rw [Pt,if_pos hy,F9];exact h3
    ·rw [Pt,if_pos hy,F9];exact h5
    ·have:=congrArg (List.drop 1) h6;simpa [List.drop_drop] using this
  ·replace Lv:=fh Lv;have hj:j=l.length:=by omega
   have ue:=(ho'.form aE);have Fv:s.n<=s.c:=by
    rcases ue with ⟨hs,-⟩|⟨g0,cs,ha,TA,hr,hc,Fv,ht,hn'⟩
    ·rw [hs];exact ax _
    ·exact Fv
   obtain ⟨p1,p2⟩:=zf ho' (i:=m) aa;refine ⟨by omega,by omega,p1,λdJ Jg=> ?_⟩;obtain ⟨q1,q2⟩:=p2 dJ Jg;refine ⟨by omega,by omega,⟨s.a,m,s.c⟩,?_,?_,uc.trans q2,rfl⟩
   ·rw [eE];rfl
   ·rw [h5,hj,kg] at q1;exact q1
def Ga{w:World}{s:Sl}{l:List It}{n:Nat}(ho:ak 0 bS 4 w s (l.map cM))(hi:n<=l.length)(hl:l.length<=5000):
  ah 90 #[s,af,(n:Int)] w λe w'=>∃s':Sl,e=s'/\ak 0 bS 4 w' s' ((l.drop n).map cM)/\Mod (λb=>s.bg=some b) w w'/\s'.bg=s.bg:=by
 have hn:s.n=l.length:=by rw [(ho.rd aE).n,aB]
 have Fv:s.n<=s.c:=by
  rcases ho.form aE with ⟨hs,-⟩|⟨g0,cs,ha,TA,hr,hc,Fv,ht,hn'⟩
  ·rw [hs];exact ax _
  ·exact Fv
 apply rp.vc;refine ⟨by omega,by omega,by omega,by omega,by omega,by omega,Br.mk (λh=> ?_) (λh=> ?_)⟩
 ·have:n=0:=by
   have:(0:Int)=n:=by simpa using h
   omega
  subst this;exact ⟨s,rfl,ho,Mod.refl _ _,rfl⟩
 ·have LB:0<n:=by
   have:(0:Int)≠n:=by simpa using h
   omega
  rcases ho.form aE with ⟨hs,IF⟩|⟨g0,cs,ha,TA,hr,hc,Fv,ht,hn'⟩
  ·have:l=[]:=by simpa using IF
   subst this;simp at hi;omega
  have gX:s.bg=some g0:=by unfold Sl.bg;rw [ha];rfl
  have kI:((l.drop n).map cM).flatten.length=(s.n-n)*4:=by rw [bJ (eh _)];simp;omega
  have Pp:s.n*4<=cs.length:=fy (sO _ Fv) hc;have hr':=hr.ext (Ext.dr w);simp only [ju,Nat.sub_zero,eE,Int.toNat_zero];rw [ha];refine ⟨by omega,by omega,by omega,by omega,((l.drop n).map cM).flatten,?_,?_,?_⟩
  ·exact hr'.Y6 (by intro e;rw [zi aa];rfl) (zk ht hn n)
  ·refine ⟨λ_=> ?_,λh=> ?_,λh=> ?_,kI,fc (gB _)⟩
   ·show Wr _ (ae (bu g0) (0*4)) _;rw [bW];exact hr'.wr (by rw [kI];omega)
   ·simp only at h;omega
   ·simp only at h;omega
  ·intro s1 w2 aS
   cases aS with
   |vV hg=>simp only at hg;omega
   |fits hf=>
    dsimp only;have e0:ae (some (⟨g0,0,none⟩:Addr)) (0*4)=bu g0:=by rw [bW]
    rw [e0];have LC:=hr'.aZ (o:=0) (vs:=((l.drop n).map cM).flatten) (by rw [kI];omega) (fc (gB _));have mK:Row (Go.Vc.aZ w.drew (bu g0) ((l.drop n).map cM).flatten) g0 (aV cs 0 ((l.drop n).map cM).flatten) bS:=by rw [LC];exact hr'.set _
    have rU:Mod (λi=>i=g0) w (Go.Vc.aZ w.drew (bu g0) ((l.drop n).map cM).flatten):=by rw [LC];exact (Mod.aM (Ext.dr w)).trans ⟨rfl,rfl,rfl,by rw [setRow_size];exact ax _,λi _ hn=>setRow_other _ _ _ _ hn⟩
    generalize Go.Vc.aZ w.drew (bu g0) ((l.drop n).map cM).flatten=w2 at mK rU;have hz:0+(s.n-n)=s.n-n:=by omega
    rw [hz];have rV:ak 0 bS 4 w2 ⟨bu g0,s.n,s.c⟩ ((l.drop n++l.drop (l.length-n)).map cM):=by refine ak.gg (fm _) mK (by rw [Go.Vc.cG];exact hc) Fv ?_ (eh _);rw [dA _ _ _ (by rw [kI];omega),aT,CC,L7,Xw];rw [List.take_append,dn (by rw [kI];omega),kI,cO,<-CD l (l.length-n),<-ht];congr 1;rw [List.drop_take,hn]
    obtain ⟨p1,p2⟩:=zf rV (i:=s.n-n) (by simp;omega);have UQ:((s.n:Nat):Int).toNat-(((s.n-n:Nat):Nat):Int).toNat=s.n-(s.n-n):=by omega
    refine ⟨by omega,by omega,by omega,by omega,p1,λw3 e3=> ?_⟩;obtain ⟨q1,q2⟩:=p2 w3 e3;refine ⟨⟨bu g0,s.n-n,s.c⟩,rfl,?_,?_,gX.symm⟩
    ·rw [zg (by simp;omega)] at q1;exact q1
    ·refine (rU.mono λb _ hb=>by rw [gX,hb]).trans (q2.mono λb _ hb=> ?_);have:g0=b:=by simpa [Sl.bg] using hb
     rw [gX,this]
end Go.Proofs.YtalpkjfpmdpbiaaGreatDoor.Q
namespace Go.Proofs.YtalpkjfpmdpbiaaGreatDoor.Q
open Go Go.Vc Go.RowKit Go.Proofs Go.ks
set_option maxRecDepth 100000
def gJ(g m:Nat)(s:Sl):Nat->Prop:=λi=>i=g\/i=m\/s.bg=some i
abbrev vk(q:QS)(s:Sl)(m:Nat):LV:=[.int .i64 q.room,.int .i64 q.lost,.slice s.a s.n s.c,.map (some m)]
def mu(kvs:List (Value × Value))(l:List It):Prop:=(∀c t,(cv c,tv t) ∈ kvs ↔(t,c) ∈ l)/\∀e ∈ kvs,∃c t,e=(cv c,tv t)
structure qD(w:World)(g m:Nat)(s:Sl)(q:QS):Prop where
 row:Row w g (vk q s m) jw
 own:ak 0 bS 4 w s (q.l.map cM)
 map:∃kvs,bK GC w (some m) kvs/\mu kvs q.l
def qD.cX{w:World}{g m:Nat}{s:Sl}{q:QS}(h:qD w g m s q){b:Nat}{cs:LV}{E:TypeId}(hb:Row w b cs E)(h1:E≠jw)(h2:E≠bS):¬gJ g m s b:=by
 rintro (rfl|rfl|e)
 ·exact hb.ne h.row h1 rfl
 ·obtain ⟨kvs,hm,-⟩:=h.map;exact hb.hZ hm rfl
 ·obtain ⟨cs',hr⟩:=aN h.own aE e;exact hb.ne hr h2 rfl
def qD.Sg{w:World}{g m:Nat}{s:Sl}{q:QS}(h:qD w g m s q){B E k:Nat}{s':Sl}{rows:List (LV)}(ho:ak B E k w s' rows)(hk:0<k)(h1:E≠jw)(h2:E≠bS):∀b,s'.bg=some b->¬gJ g m s b:=λb hb=>by
 obtain ⟨cs,hr⟩:=aN ho hk hb
 exact h.cX hr h1 h2
def qD.lt{w:World}{g m:Nat}{s:Sl}{q:QS}(h:qD w g m s q):∀i,gJ g m s i->i<w.heap.size:=by
 rintro i (rfl|rfl|e)
 ·exact h.row.lt
 ·obtain ⟨kvs,hm,-⟩:=h.map;exact hm.lt
 ·exact (h.own.own.lt e).2
def qD.bP{w w':World}{g m:Nat}{s:Sl}{q:QS}(h:qD w g m s q){F:Nat->Prop}(hm:Mod F w w')(hn:∀i,gJ g m s i->¬F i):qD w' g m s q:=by obtain ⟨kvs,h1,h2⟩:=h.map;exact ⟨hm.row h.row (hn g (.inl rfl)),hm.gQ h.own λb hb=>hn b (.inr (.inr hb)),kvs,hm.map h1 (hn m (.inr (.inl rfl))),h2⟩
def qD.ext{w w':World}{g m:Nat}{s:Sl}{q:QS}(h:qD w g m s q)(x:Ext w w'):qD w' g m s q:=
 h.bP (F:=λ_=>False) ⟨x.os,x.tape,x.output,x.size,λi hi _=>x.heap hi⟩ λ_ _ hf=>hf
def qD.rM{w:World}{g m:Nat}{s:Sl}{q:QS}(h:qD w g m s q):g≠m:=by obtain ⟨kvs,hm,-⟩:=h.map;exact h.row.hZ hm
def qD.vm{w:World}{g m:Nat}{s:Sl}{q:QS}(h:qD w g m s q):s.bg≠some m:=λe=>by
 obtain ⟨kvs,hm,-⟩:=h.map
 obtain ⟨cs,hr⟩:=aN h.own aE e
 exact hr.hZ hm rfl
def qD.El{w:World}{g m:Nat}{s:Sl}{q:QS}(h:qD w g m s q):s.bg≠some g:=λe=>by
 obtain ⟨cs,hr⟩:=aN h.own aE e
 exact hr.ne h.row aE rfl
def mu.look{kvs:List (Value × Value)}{l:List It}(h:mu kvs l)(hn:(l.map (·.2)).Nodup)(c:Cl):BF kvs (cv c) (tv 0) (tv ((iA l c).getD 0)) (iA l c).isSome:=by
 cases hq:iA l c with
 |some t=>exact .inl ⟨rfl,(h.1 c t).2 (zY hq)⟩
 |none=>
  refine .inr ⟨rfl,rfl,λe he hk=> ?_⟩;obtain ⟨c',t,rfl⟩:=h.2 e he;exact nQ hq (t,c') ((h.1 _ _).1 he) (zX hk)
open Classical in
def mu.del{kvs:List (Value × Value)}{l:List It}(h:mu kvs l)(c:Cl):mu (Aj kvs (cv c)) (bN l c):=by
 refine ⟨λc' t=> ?_,λe he=>h.2 e (jH.1 he).1⟩;unfold Aj bN;rw [jH,jH,h.1];refine and_congr_right λ_=> ?_
 rw [bne_iff_ne];refine decide_eq_true_iff.trans ?_;exact not_congr ⟨λe=>zX e,λe=>by rw [show c'=c from e]⟩
def mu.ins{kvs:List (Value × Value)}{l:List It}(h:mu kvs l){x:It}(hx:∀y ∈ l,y.2≠x.2):mu (rE kvs (cv x.2) (tv x.1)) (pJ l x):=by
 unfold rE;rw [if_neg]
 ·refine ⟨λc t=> ?_,λe he=> ?_⟩
  ·rw [ct,h.1,zZ,fH];constructor
   ·rintro (h1|h1)
    ·exact .inr h1
    ·obtain ⟨e1,e2⟩:=Prod.mk.inj h1;have:=zX e1;have h2:t=x.1:=by unfold tv at e2;injection e2
     left;rw [this,h2]
   ·rintro (h1|h1)
    ·right;rw [<-h1]
    ·exact .inl h1
  ·rcases ct.1 he with he|he
   ·exact h.2 e he
   ·rw [fH] at he;exact ⟨_,_,he⟩
 ·rintro ⟨e,he,hk⟩;obtain ⟨c',t,rfl⟩:=h.2 e he;exact hx (t,c') ((h.1 _ _).1 he) (zX hk)
def mu.perm{kvs:List (Value × Value)}{l l':List It}(h:mu kvs l)(hl:∀x,x ∈ l ↔ x ∈ l'):mu kvs l':=⟨λc t=>(h.1 c t).trans (hl _),h.2⟩
def zQ(room:Int)(w:World):ah 60 #[room] w λe w'=>∃g m,e=Value.pointer (bu g)/\qD w' g m ⟨none,0,0⟩ ⟨min (max room 1) 4096,0,[]⟩/\Ext w w'/\w.heap.size<=g/\w.heap.size<=m:=by
 apply OO.vc;intro w0 e0 w1 e1;have hm:bK GC w0 (some w.heap.size) []:=by rw [e0];exact bK.new
 have x1:=bq e1;refine ⟨w0.heap.size,w.heap.size,rfl,⟨?_,ak.nil,[],?_,by simp [mu]⟩,(bq e0).tr x1,?_,ax _⟩
 ·have:(min (max room 1) 4096)=(if 4096<(if 1>room then 1 else room) then 4096 else (if 1>room then 1 else room)):=by split<;>split<;>omega
  rw [e1,this];exact Row.new w0 [_,_,_,_] _
 ·exact hm.same (x1.heap hm.lt)
 ·rw [e0];simp
def yz{w:World}{g m:Nat}{s:Sl}{q:QS}(h:qD w g m s q)(hq:wC q)(c:Cl):ah 131 #[g,cv c] w λe w'=>e=Value.tuple #[.int .i64 ((iA q.l c).getD 0),.bool (iA q.l c).isSome]/\Ext w w':=by apply Ak.vc;intro w0 e0;have x0:Ext w w0.drew:=(Ext.ck w|>.ay e0).drew;have h0:=h.ext x0;obtain ⟨kvs,hm,ht⟩:=h0.map;exact ⟨some m,h0.row.at 3 rfl,GC,kvs,tB,hm,⟨c,rfl⟩,_,_,ht.look hq.nodup c,rfl,x0⟩
def Sh{w:World}{g m:Nat}{s:Sl}{q:QS}(h:qD w g m s q):Calls Tryz.prog 48 #[.pointer (some ⟨g,0,none⟩)] w λe w'=>e=.returned (.int .i64 q.l.length)/\Ext w w':=by
 apply xE.vc;have hn:s.n=q.l.length:=by rw [(h.own.rd (by decide)).n,List.length_map]
 refine ⟨s,h.row.at 2 rfl,?_⟩;rw [hn];exact ⟨rfl,Ext.ck _⟩
end Go.Proofs.YtalpkjfpmdpbiaaGreatDoor.Q
namespace Go.Proofs.YtalpkjfpmdpbiaaGreatDoor.Q
open Go Go.Vc Go.RowKit Go.Proofs Go.ks
set_option maxRecDepth 100000
def gJ.ib{g m:Nat}{s s':Sl}{w w':World}(hm:Mod (gJ g m s) w w')(hs:∀b,s'.bg=some b->s.bg=some b\/w.heap.size<=b):aG (gJ g m s) (gJ g m s') w w':=
 ⟨hm,λi hi=>by
  rcases hi with h|h|h
  ·exact .inl (.inl h)
  ·exact .inl (.inr (.inl h))
  ·rcases hs i h with h|h
   ·exact .inl (.inr (.inr h))
   ·exact .inr h⟩
def CT{w:World}{g m:Nat}{s:Sl}{q:QS}(h:qD w g m s q)(hsort:q.l.Pairwise λa b=>a.1<=b.1)(hl:q.l.length<=4998){x:It}(hx:∀y ∈ q.l,y.2≠x.2):
  ah 133 #[g,.agg (cM x).toArray] w λe w'=>e=Fl/\∃s',qD w' g m s' {q with l:=pJ q.l x}/\aG (gJ g m s) (gJ g m s') w w':=by
 apply vj.vc;intro w0 e0;have x0:=bq e0;have mL:=du e0;have h0:=h.ext (x0.drew);refine ⟨s,h0.row.at 2 rfl,?_⟩;refine (R1 x (h0.own.rd aE) hsort aa).mono ?_;rintro e w2 ⟨⟨b,rfl⟩,x2⟩;refine ⟨_,b,rfl,x2.heap (show w.heap.size<w0 by omega),?_⟩;have h2:=(h0.ext x2).ext (Ext.dr _);refine ⟨s,h2.row.at 2 rfl,?_⟩;intro w6 e6;have x6:=bq e6;have h6:=h2.ext x6;have jx:Row w6 w2.drew.heap.size (cM x) bS:=by rw [e6];exact Row.new _ _ _
 have Ve:=x2.size;have Qf:w.heap.size<w2.drew.heap.size:=kN (show w.heap.size<w0 by omega) Ve;have hk:=(List.takeWhile_sublist (λy:It=>decide (y.1<=x.1)) (l:=q.l)).length_le;have EX:s.bg≠some w2.drew.heap.size:=λe=>by have:=h2.lt _ (.inr (.inr e));omega
 refine (Hn h6.own jx hk aa EX).mono ?_;rintro e w7 ⟨s8,rfl,wO,hm8,hs8⟩;have aaV:s.bg≠some w.heap.size:=λe=>by have:=h.lt _ (.inr (.inr e));omega
 have uF:Ext w w6:=((x0.drew).tr x2).tr ((Ext.dr _).tr x6);refine ⟨s8,rfl,hm8.same _ (by have:=x6.size;omega) aaV,?_⟩;have hr7:Row w7 g (vk q s m) jw:=hm8.row h6.row h6.El;obtain ⟨p1,p2⟩:=hr7.kE (j:=2) (v:=.slice s8.a s8.n s8.c) cy rfl;refine ⟨⟨rfl,p1⟩,?_,?_⟩
 ·rw [da];intro e;have:=h.row.lt;have:g=w.heap.size:=by simpa [cQ] using e
  omega
 intro w9 e9;obtain ⟨q1,q2⟩:=p2 w9 e9;have x9:=Ext.dr w9;have Vf:=q1.ext x9;refine ⟨some m,Vf.at 3 rfl,?_⟩;obtain ⟨kvs,Ud,ht⟩:=h6.map;have hmap9:bK GC w9.drew (some m) kvs:=(Mod.aM (F:=λ_=>False) x9).map (q2.map (hm8.map Ud h6.vm) (Ne.symm h.rM)) cy;refine ⟨GC,kvs,tB,rfl,hmap9,⟨x.2,rfl⟩,?_⟩;intro cA jX hmap13;have aaX:=Mod.Ec jX;refine ⟨rfl,s8,⟨?_,?_,_,hmap13,ht.ins hx⟩,gJ.ib ?_ ?_⟩
 ·exact aaX.row Vf h.rM
 ·have he:=tC q.l x;rw [he] at wO;have hrow8:=λb hb=>aN wO aE (b:=b) hb
  refine aaX.gQ ((q2.gQ wO λb hb hf=> ?_).ext x9) λb hb hf=> ?_
  ·obtain ⟨cs,hr⟩:=hrow8 b hb;exact hr.ne hr7 aE hf
  ·obtain ⟨cs,hr⟩:=hrow8 b hb;exact hr.hZ (hm8.map Ud h6.vm) hf
 ·refine ((((Mod.aM uF).trans (hm8.mono λb _ hb=> .inr (.inr hb))).trans (q2.mono λb _ hb=> .inl hb)).trans (Mod.aM x9)).trans (aaX.mono λb _ hb=> .inr (.inl hb))
 ·intro b hb;rcases hs8 b hb with h1|h1
  ·exact .inl h1
  ·exact .inr (fy uF.size h1)
def Ou{w:World}{g m:Nat}{s:Sl}{q:QS}(h:qD w g m s q)(hq:wC q)(c:Cl):
  ah 132 #[g,cv c] w λe w'=>e=Value.bool (iA q.l c).isSome/\∃s',qD w' g m s' {q with l:=bN q.l c}/\aG (gJ g m s) (gJ g m s') w w':=by
 apply vo.vc;intro w0 e0;have x0:=bq e0;have hbox0:Row w0 w (ef c) ml:=by rw [e0];exact Row.new _ _ _
 have h0:=h.ext x0.drew;obtain ⟨kvs,hm,ht⟩:=h0.map;refine ⟨some m,h0.row.at 3 rfl,GC,kvs,tB,hm,⟨c,rfl⟩,_,_,ht.look hq.nodup c,Br.mk (λhb=> ?_) (λhb=> ?_)⟩
 ·have hn:iA q.l c=none:=by simpa using hb
  refine ⟨by rw [hn];rfl,s,?_,aG.aM x0.drew⟩;have:bN q.l c=q.l:=by unfold bN;rw [vY];intro y hy;simpa using nQ hn y hy
  rw [this];exact h0
 ·have hsome:(iA q.l c).isSome=true:=by simpa using hb
  have h1:=h0.ext (Ext.dr _);refine ⟨some m,h1.row.at 3 rfl,GC,kvs,tB,rfl,(Mod.aM (F:=λ_=>False) (Ext.dr _)).map hm cy,⟨c,rfl⟩,?_⟩;intro w9 jX hmap9;have hm9:=Mod.Ec jX;have Vf:Row w9 g (vk q s m) jw:=hm9.row h1.row h.rM;refine ⟨s,Vf.at 2 rfl,?_⟩;have dY:=hq.len;have hroom:=hq.room;have hbox9:Row w9 w (ef c) ml:=hm9.row (hbox0.ext (Ext.dr _|>.tr (Ext.dr _))) (λe=>by have:w.heap.size=m:=e;have:=h.lt m (.inr (.inl rfl));omega);have Pr:ak 0 bS 4 w9 s (q.l.map cM):=hm9.gQ h1.own λb hb hf=>h1.vm (by rw [hb];exact congrArg some hf)
  refine (xh Pr hbox9 aa).mono ?_;rintro e cH ⟨eH,rfl,PY,aaY,aar⟩;have q7:s.bg≠some m:=h.vm;have W9:Row cH g (vk q s m) jw:=aaY.row Vf h.El;obtain ⟨p1,p2⟩:=W9.kE (j:=2) (v:=.slice eH.a eH.n eH.c) cy rfl;refine ⟨eH,rfl,⟨rfl,p1⟩,λcA ud=> ?_⟩;obtain ⟨q1,q2⟩:=p2 cA ud;refine ⟨by rw [hsome],eH,⟨q1,?_,_,q2.map (aaY.map hmap9 q7) (Ne.symm h.rM),ht.del c⟩,gJ.ib ?_ ?_⟩
  ·refine q2.gQ PY λb hb hf=> ?_
   obtain ⟨cs,hr⟩:=aN PY aE hb;exact hr.ne W9 aE hf
  ·exact (((Mod.aM (x0.drew.drew)).trans (hm9.mono λb _ hb=> .inr (.inl hb))).trans (aaY.mono λb _ hb=> .inr (.inr hb))).trans (q2.mono λb _ hb=> .inl hb)
  ·intro b hb;exact .inl (aar▸hb)
end Go.Proofs.YtalpkjfpmdpbiaaGreatDoor.Q
namespace Go.Proofs.YtalpkjfpmdpbiaaGreatDoor.Q
open Go Go.Vc Go.RowKit Go.Proofs Go.ks
set_option maxRecDepth 100000
def He{w:World}{g m:Nat}{s:Sl}{q:QS}(h:qD w g m s q)(hq:wC q)(hl:0<=q.lost/\q.lost<=1000000)(c:Cl)(t:Int):
  ah 88 #[g,cv c,t] w λe w'=>e=Value.bool (eX q c t).2/\∃s',qD w' g m s' (eX q c t).1/\aG (gJ g m s) (gJ g m s') w w':=by
 apply xG.vc;intro w0 e0;have x0:=bq e0;have mL:=du e0;have h0:=h.ext x0;have hn:s.n=q.l.length:=by rw [(h.own.rd aE).n,aB]
 have dY:=hq.len;have hroom:=hq.room;have hbg:g<w:=h.row.lt;have hbf:∀{s':Sl} {w1 w':World},w.heap.size<w1->aG (gJ g m s) (gJ g m s') w1 w'->w'.heap[w.heap.size]? =w1.heap[w.heap.size]? :=λft ht=>
  ht.mod.same _ ft λhf=>by have:=h.lt _ hf;omega
 refine (yz h0 hq c).mono ?_;rintro e w1 ⟨rfl,x1⟩;have h1:=h0.ext x1;have oN:=x0.tr x1;have Yq:w.heap.size<w1:=by have:=x1.size;omega
 refine ⟨_,_,rfl,x1.heap (show w.heap.size<w0 by omega),Br.mk (λhb=> ?_) (λhb=> ?_)⟩
 ·obtain ⟨was,hw⟩:=kO.1 hb;have hg:(iA q.l c).getD 0=was:=by rw [hw];rfl
  rw [hg];refine Br.mk (λhc=> ?_) (λhc=>Br.mk (λ_=> ?_) (λhn=>by rw [hb] at hn;cases hn))
  ·replace hc:=fj hc;have e:eX q c t=(q,false):=by unfold eX;rw [hw];simp [hc]
   rw [e];exact ⟨rfl,s,h1,aG.aM oN⟩
  ·replace hc:=fh hc;have e:eX q c t=({q with l:=pJ (bN q.l c) (t,c)},true):=by unfold eX;rw [hw];simp [hc]
   rw [e];refine (Ou h1 hq c).mono ?_;rintro e w4 ⟨rfl,s4,h4,t4⟩;refine ⟨_,rfl,hbf Yq t4,?_⟩;have hq4:=hq.drop c;have hl4:=hq4.len;have hz4:=t4.mod.size;refine (CT (x:=(t,c)) h4 hq4.sorted (by simp only at hl4 ⊢;omega) (λy hy=>by have:=(jH.1 hy).2;simpa using this)).mono ?_;rintro e w6 ⟨rfl,s6,h6,t6⟩;refine ⟨rfl,t6.mod.same _ aa (λhf=> ?_),rfl,s6,h6,((aG.aM oN).trans t4).trans t6⟩;rcases t4.sub _ hf with hf|hf
   ·have:=h.lt _ hf;omega
   ·omega
 ·refine Br.mk (λhb'=>by rw [hb] at hb';cases hb') (λ_=> ?_);have hw:iA q.l c=none:=by simpa using hb
  have h1d:=h1.ext (Ext.dr w1);refine ⟨s,h1d.row.at 2 rfl,q.room,h1d.row.at 0 rfl,?_⟩;rw [hn];apply Br.mk<;>intro hc
  ·have hc':((q.l.length:Nat):Int)=q.room:=by simpa using hc
   have e:eX q c t=({q with lost:=q.lost+1},false):=by unfold eX;rw [hw];simp [hc']
   rw [e];obtain ⟨p1,p2⟩:=h1d.row.kE (j:=1) (v:=.int .i64 (ai (q.lost+1))) cy rfl;refine ⟨q.lost,h1d.row.at 1 rfl,⟨rfl,p1⟩,?_,λbL A4=> ?_⟩
   ·rw [da];intro e;have:g=w.heap.size:=by simpa [cQ] using e
    omega
   ·obtain ⟨q1,q2⟩:=p2 bL A4;rw [wI] at q1;obtain ⟨kvs,hm,ht⟩:=h1d.map;refine ⟨rfl,s,⟨q1,q2.gQ h1d.own λb hb hf=>h.El (by rw [hb];exact congrArg some hf),kvs,q2.map hm (Ne.symm h.rM),ht⟩,(aG.aM oN.drew).trans (gJ.ib (q2.mono λb _ hb=> .inl hb) λb hb=> .inl hb)⟩
  ·have hc':((q.l.length:Nat):Int)≠q.room:=by simpa using hc
   have e:eX q c t=({q with l:=pJ q.l (t,c)},true):=by
    unfold eX;rw [hw];have:¬(q.l.length:Int)>=q.room:=by omega
    simp only;rw [if_neg this]
   rw [e];refine (CT (x:=(t,c)) h1d hq.sorted aa (nQ hw)).mono ?_;rintro e w6 ⟨rfl,s6,h6,t6⟩;exact ⟨rfl,hbf Yq t6,rfl,s6,h6,(aG.aM oN.drew).trans t6⟩
end Go.Proofs.YtalpkjfpmdpbiaaGreatDoor.Q
namespace Go.Proofs.YtalpkjfpmdpbiaaGreatDoor.Q
open Go Go.Vc Go.RowKit Go.Proofs Go.ks
set_option maxRecDepth 100000
def KS{w:World}{s:Sl}{l:List It}(ho:ak 0 bS 4 w s (l.map cM))(hl:l.length<=5000):
  ah 98 #[s] w λe w'=>∃s':Sl,e=s'/\ak w bS 4 w' s' (l.map cM)/\Ext w w':=by
 apply tF.vc;have hn:s.n=l.length:=by rw [(ho.rd aE).n,aB]
 apply Br.mk<;>intro h
 ·rcases ho.form aE with ⟨hs,IF⟩|⟨g0,cs,ha,-⟩
  ·exact ⟨⟨none,0,0⟩,rfl,by rw [IF];exact ak.nil,Ext.ck _⟩
  ·rw [ha] at h;cases h
 ·intro w0 e0;have x0:=bq e0;have mL:=du e0;have hr0:Row w0 w [] bS:=by rw [e0];exact Row.new _ _ _
  have rV:ak w bS 4 w0 ⟨bu w.heap.size,0,0⟩ []:=ak.gg (ax _) hr0 cy (ax _) rfl cy;obtain ⟨hp,hr⟩:=rV.ke (bytes:=32) (more:=l.map cM) x0.size (eh _) (gB _) (by simp;omega) (by simp;omega);rw [aB,<-hn] at hp hr;refine ⟨(l.map cM).flatten,((ho.ext x0).rd aE).flat aE,hp,λs2 w3 aS=> ?_⟩;obtain ⟨h1,h2,h3,h4,h5⟩:=hr s2 w3 aS;refine ⟨po aS (by rw [bJ (eh _),aB,hn]) aa,s2,rfl,h1,x0.trans h3⟩
def Rz{w:World}{g m:Nat}{s:Sl}{q:QS}(h:qD w g m s q)(hq:wC q):ah 52 #[g] w λe w'=>∃s':Sl,e=s'/\ak w bS 4 w' s' (q.l.map cM)/\Ext w w':=by apply xA.vc;have:=hq.len;have:=hq.room;refine ⟨s,h.row.at 2 rfl,(KS h.own aa).mono ?_⟩;rintro e w1 ⟨s',rfl,h1,x1⟩;exact ⟨s',rfl,s',rfl,h1,x1⟩
def late{F G M:Prop}(main:(F->G)->M)(fin:F->G):M:=main fin
def Se{w:World}{g m:Nat}{s:Sl}{q:QS}(h:qD w g m s q)(hq:wC q)(now many:Int):
  ah 46 #[g,now,many] w λe w'=>∃so:Sl,e=Value.slice so.a so.n so.c/\∃s',ak w ml 3 w' so ((rK q now many).2.map ef)/\qD w' g m s' (rK q now many).1/\aG (gJ g m s) (gJ g m s') w w':=by
 have hn:s.n=q.l.length:=by rw [(h.own.rd aE).n,aB]
 have dY:=hq.len;have hroom:=hq.room;have ue:s.n<=s.c:=by
  rcases h.own.form aE with ⟨hs,-⟩|⟨g0,cs,ha,TA,hr,hc,Fv,-⟩
  ·rw [hs];exact ax _
  ·exact Fv
 have hql:=CX q.l now many;apply xB.vc;refine ⟨λn x wr=>w=wr/\∃k:Nat,x=k/\k+n=fC q.l now many,⟨fC q.l now many,rfl,0,rfl,by omega⟩,?_⟩;rintro n0 us x wr ⟨rfl,k,rfl,hk⟩;have q9:k<=q.l.length:=by omega
 apply late (F:=k=fC q.l now many)
 ·intro fin;refine ⟨s,h.row.at 2 rfl,Br.mk (λhc=> ?_) (λhc=> ?_)⟩
  ·replace hc:=fj hc;have dw:q.l[k]? =some (q.l[k]'aa):=cr aa;have Ly:=Oy hq now many dw;generalize q.l[k]'aa=y at dw Ly;apply Br.mk<;>intro jE
   ·replace jE:=fj jE;have eZ:=h.own.rd aE;refine ⟨s,h.row.at 2 rfl,⟨eZ.isSome aE (i:=k) (by simp;omega),by omega,by omega⟩,?_⟩;have q7:(ae s.a ((k:Int).toNat*4)).isSome=true:=by rw [dX];exact eZ.isSome aE (i:=k) (by simp;omega)
    refine bj.2 ⟨gj.2 q7,y.1,?_,Br.mk (λYl=> ?_) (λYl=> ?_)⟩
    ·exact eZ.at (i:=k) (r:=cM y) (by rw [aX,dw];rfl) rfl
    ·replace Yl:=fj Yl;have:=Ly.2 ⟨jE,Yl⟩;have hw:=lD (j:=k);exact ⟨n0-1,by omega,rfl,k+1,hw,by omega⟩
    ·replace Yl:=fh Yl;have Yp:k=fC q.l now many:=by
      have:¬k<fC q.l now many:=λft=>Yl (Ly.1 ft).2
      omega
     exact fin Yp
   ·replace jE:=fh jE;have Yp:k=fC q.l now many:=by
     have:¬k<fC q.l now many:=λft=>jE (Ly.1 ft).1
     omega
    exact fin Yp
  ·replace hc:=fh hc;have Yp:k=fC q.l now many:=by omega
   exact fin Yp
 ·intro Yp;refine ⟨s,h.row.at 2 rfl,by omega,by omega,by omega,by omega,λn x so wr=>∃j:Nat,x=j/\j+n=k/\Go.Vc.Mod (λi=>i=m) w wr/\ak w ml 3 wr so ((q.l.take j).map λy=>ef y.2)/\∃kvs,bK GC wr (some m) kvs/\mu kvs (q.l.drop j),⟨k,0,rfl,by omega,Go.Vc.Mod.refl _ _,ak.nil,by simpa using h.map⟩,?_⟩;rintro n us x so wr ⟨j,rfl,hj,uc,nr,kvs,Ud,kJ⟩;have jx:Row wr g (vk q s m) jw:=uc.row h.row h.rM;have rV:ak 0 bS 4 wr s (q.l.map cM):=uc.gQ h.own λb hb hf=>h.vm (by rw [hb];exact congrArg some hf)
  apply Br.mk<;>intro hc
  ·replace hc:=fj hc;have Pw:j<q.l.length:=by omega
   have dw:q.l[j]? =some (q.l[j]'Pw):=cr Pw;generalize q.l[j]'Pw=y at dw;have eZ:=rV.rd aE;refine ⟨⟨?_,by omega,by omega⟩,y.1,y.2.1,y.2.2.1,y.2.2.2,?_,?_⟩
   ·have:=eZ.isSome aE (i:=j) (by simp;omega);unfold aA;split<;>simpa using this
   ·rw [pz];exact RdK.item eZ dw
   intro ea uq cx A3 gi Jk;have fW:=bq uq;have eY:Ext wr cx:=fW.ab A3 (ax _);have de:Ext wr gi:=eY.ay Jk;have apU:cx.heap.size=wr.heap.size+1:=by rw [A3,setRow_size,uq];simp
   have apV:=du Jk;have Bm:so.n=j:=by rw [(nr.rd aE).n,aB,bG];omega
   have hzw:=uc.size;obtain ⟨hp,hr⟩:=(nr.ext de).append (bytes:=24) (news:=ef y.2) aa rfl (by intro u hu;simp at hu;rcases hu with rfl|rfl|rfl<;>rfl) aa aa;refine ⟨hp,λkL eg aS=> ?_⟩;obtain ⟨h1,h2,h3,h4,h5⟩:=hr kL eg aS;have EX:∀b,so.bg=some b->b<wr.heap.size:=λb hb=>(nr.own.lt hb).2
   have ajL:Go.Vc.Mod (λi=>so.bg=some i) gi eg:=⟨h3.os,h3.tape,h3.output,h3.size,λi hi hn=>h4 i hn hi⟩;have q7:so.bg≠some m:=λe=>by have h1:=(nr.own.lt e).1;have h2:=h.lt m (.inr (.inl rfl));omega
   refine ⟨h4 _ (λe=>by have:=EX _ e;omega) aa,h4 _ (λe=>by have:=EX _ e;omega) aa,?_⟩;have rU:Go.Vc.Mod (λi=>so.bg=some i) wr eg.drew:=((Go.Vc.Mod.aM de).trans ajL).trans (Go.Vc.Mod.aM (Ext.dr _));have hsg:so.bg≠some g:=λe=>by have h1:=(nr.own.lt e).1;have h2:=h.lt g (.inl rfl);omega
   refine ⟨some m,(rU.row jx hsg).at 3 rfl,GC,kvs,tB,rfl,rU.map Ud q7,⟨y.2,rfl⟩,?_⟩;intro fJ jX hmap29;have aeA:=Go.Vc.Mod.Ec jX;have Wv:=lD (j:=j);rw [Wv];refine ⟨n-1,by omega,j+1,rfl,by omega,(uc.tr rU (λi hi=> .inr (nr.own.lt hi).1)).trans aeA,?_,_,hmap29,?_⟩
   ·have e:(q.l.take (j+1)).map (λy=>ef y.2)=(q.l.take j).map (λy=>ef y.2)++ [ef y.2]:=by rw [cu,dw,aT];rfl
    rw [e];refine aeA.gQ (h1.ext (Ext.dr _)) λb hb hf=> ?_
    have hb':kL.bg=some m:=by rw [hb];exact congrArg some hf
    have:=h.lt m (.inr (.inl rfl));rcases h5 with h5|h5
    ·exact q7 (h5▸hb')
    ·rw [h5] at hb';have:gi.heap.size=m:=by simpa using hb'
     omega
   ·have hd:=kJ.del y.2;refine hd.perm λz=> ?_
    have hcons:q.l.drop j=y::q.l.drop (j+1):=by obtain ⟨ft,he⟩:=bF.1 dw;rw [kT ft,he]
    have hnd:((y::q.l.drop (j+1)).map (·.2)).Nodup:=by rw [<-hcons];exact ((List.drop_sublist j q.l).map _).nodup hq.nodup
    rw [hcons];unfold bN;rw [dE,lF] at hnd;constructor
    ·intro hz;obtain ⟨Yq,Ve⟩:=jH.1 hz;rcases bI.1 Yq with rfl|Yq
     ·simp at Ve
     ·exact Yq
    ·intro hz;refine jH.2 ⟨CZ _ hz,?_⟩;have:z.2≠y.2:=λe=>hnd.1 (e▸List.mem_map_of_mem hz)
     simpa using this
  ·replace hc:=fh hc;have XW:j=k:=by omega
   subst XW;refine ⟨s,jx.at 2 rfl,(Ga rV q9 aa).mono ?_⟩;rintro e ig ⟨iR,rfl,aeB,Xf,ajM⟩;have aeC:Row ig g (vk q s m) jw:=Xf.row jx h.El;obtain ⟨p1,p2⟩:=aeC.kE (j:=2) (v:=.slice iR.a iR.n iR.c) cy rfl;refine ⟨iR,rfl,⟨rfl,p1⟩,λlz vS=> ?_⟩;obtain ⟨q1,q2⟩:=p2 lz vS;have mz:∀b,so.bg=some b->w.heap.size<=b:=λb hb=>(nr.own.lt hb).1
   refine ⟨so,rfl,iR,?_,?_,?_⟩
   ·unfold rK;rw [<-Yp,kd];refine q2.gQ (Xf.gQ nr λb hb hf=> ?_) λb hb hf=> ?_
    ·have:=mz b hb;have:=h.lt b (.inr (.inr hf));omega
    ·have:=mz b hb;have:=h.lt b (.inl hf);omega
   ·unfold rK;rw [<-Yp];refine ⟨q1,q2.gQ aeB λb hb hf=> ?_,kvs,q2.map (Xf.map Ud h.vm) (Ne.symm h.rM),kJ⟩;obtain ⟨cs,hr⟩:=aN aeB aE hb;exact hr.ne aeC aE hf
   ·refine gJ.ib (((uc.mono λb _ hb=> .inr (.inl hb)).trans (Xf.mono λb _ hb=> .inr (.inr hb))).trans (q2.mono λb _ hb=> .inl hb)) λb hb=> .inl (ajM▸hb)
end Go.Proofs.YtalpkjfpmdpbiaaGreatDoor.Q
