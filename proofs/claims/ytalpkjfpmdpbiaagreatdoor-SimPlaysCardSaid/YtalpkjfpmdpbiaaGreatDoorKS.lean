import Derived.Test.YtalpkjfpmdpbiaaGreatDoorKB
import Derived.Test.YtalpkjfpmdpbiaaGreatDoorGS
import Derived.Test.YtalpkjfpmdpbiaaGreatDoorP
import Derived.Laws.IdiomRangeMap
import Derived.LoopTactic
set_option linter.all false
namespace Go.Proofs.YtalpkjfpmdpbiaaGreatDoor
open Go Go.Vc Go.RowKit Go.Proofs Go.dS Go.bh Go.Code
def E8(v:jh)(w:World):ah 263 #[.int .u16 (cI v)] w λe w'=>e=Value.int .u16 (cI (E9 v))/\w'=w:=by
 apply H9.vc;have e1:kI (cI v*2 ^(min (1:Int).toNat 16))=cI (v<<<1):=Nv v 1;have e2:BX .u16 (cI v) 32768=cI (v &&& 0x8000#16):=aap v 0x8000#16;have e3:gI .u16 (cI (v<<<1)) 4129=cI ((v<<<1) ^^^ 0x1021#16):=AY _ 0x1021#16;apply Br.mk<;>intro h
 ·rw [e2] at h;have hm:v.msb=true:=by
   cases q:v.msb with
   |true=>rfl
   |false=>rw [(Nw v).2 q] at h;simp at h
  rw [e1,e3];unfold E9;rw [if_pos hm];exact ⟨rfl,rfl⟩
 ·rw [e2] at h;have hm:v.msb=false:=(Nw v).1 (by simpa using h);rw [e1];unfold E9;rw [hm];exact ⟨rfl,rfl⟩
abbrev IH:TypeId:=314
abbrev tA2:TypeId:=296
def itS:Nat->jh->jh
 |0,v=>v
 |k+1,v=>E9 (itS k v)
def Cq(w:World):ah 257 #[] w λe w'=>e=Value.agg tS.toArray/\Ext w w':=by
 apply Ps.vc;intro w0 e0 w1 e1;have z0:=dt e0;have x1:Ext w w1:=(bo e0).ay e1;have ha:Row w1 w (tT 0) IH:=(by rw [e0];exact Row.new w (tT 0) _:Row w0 w (tT 0) IH).ext (bo e1);have hb:Row w1 w0 (tT 0) IH:=by rw [e1];exact Row.new w0 (tT 0) _
 refine ⟨λn i wr=>∃k:Nat,i=k/\k+n=16/\Row wr w (tT 0) IH/\Row wr w0 (tT k) IH/\Ext w wr,⟨16,0,rfl,rfl,ha,hb,x1⟩,?_⟩;rintro n3 VH x5 w6 ⟨k,rfl,hk,ha6,hb6,x6⟩;apply Br.mk<;>intro hc
 ·replace hc:=fe hc;have ek:kI (kI (k:Int)*2 ^(min (12:Int).toNat 16))=cI (ke (k:Int)<<<12):=by
   have:kI (k:Int)=cI (ke (k:Int)):=by rw [Fa aa,wrap_u16];omega
   rw [this];exact Nv _ 12
  rw [ek];refine ⟨λn j c wr=>∃m:Nat,j=m/\m+n=4/\c=cI (itS m (ke (k:Int)<<<12))/\wr=w6,⟨4,0,rfl,rfl,rfl,rfl⟩,?_⟩;rintro n9 Xm bR bU cC ⟨m,rfl,hm,rfl,rfl⟩;apply Br.mk<;>intro jH
  ·replace jH:=fe jH;have wk:=kK (j:=m);refine (E8 _ _).mono ?_;rintro e cU ⟨rfl,hw⟩;exact ⟨_,rfl,n9-1,by omega,m+1,wk,by omega,rfl,hw⟩
  ·replace jH:=eX jH;have hm4:m=4:=by omega
   subst hm4;have wk:=kK (j:=k);have ed:(tT k).length=16:=by unfold tT;rw [eP,bF,tE];simp [tS];omega
   obtain ⟨p1,p2⟩:=hb6.jR (j:=k) (v:=tv k) aa rfl;have hj:((k:Int)).toNat*1=k:=by omega
   rw [hj];refine ⟨by omega,by omega,⟨rfl,p1⟩,λcE qk=> ?_⟩;obtain ⟨q1,q2⟩:=p2 cE qk;rw [show aW (tT k) k [tv k]=(tT k).set k (tv k) from rfl,aaq aa] at q1;exact ⟨n3-1,by omega,k+1,wk,by omega,q2.row ha6 (by have:=x1.size;omega),q1,q2.ext x6 (by intro i hi;omega)⟩
 ·replace hc:=eX hc;have:k=16:=by omega
  subst this;have hl:au w6 (bu w0.heap.size) 0 tS:=hb6.aY λj hj=>by rw [cP];rfl
  have hs:=ha6.bc (o:=0) (vs:=tS) aC (by intro v hv;simp only [tS,bJ,fY,or_false] at hv;rcases hv with rfl|rfl|rfl|rfl|rfl|rfl|rfl|rfl|rfl|rfl|rfl|rfl|rfl|rfl|rfl|rfl<;>rfl);refine ⟨_,_,_,_,_,_,_,_,_,_,_,_,_,_,_,_,hl,⟨rfl,ha6.wr (o:=0) (n:=16) aC⟩,λly CL=> ?_⟩;have afk:ly=w6.setRow w tS.toArray:=CL.trans hs;have hr:Row ly w tS IH:=by rw [afk];exact ha6.set tS
  have FQ:au ly (bu w.heap.size) 0 tS:=hr.aY λj hj=>by rw [cP]
  exact ⟨_,_,_,_,_,_,_,_,_,_,_,_,_,_,_,_,FQ,rfl,x6.ab afk (ax _)⟩
def Fb(v:jh)(s:Sl)(b:List Int)(w:World)(hs:eZ w s b)(hb:lR b)(hn:(b.length:Int)<=1099511627776):ah 252 #[.int .u16 (cI v),s] w λe w'=>e=Value.int .u16 (cI (qW v b))/\Ext w w':=by
 apply (AG.vc (a1:=s));refine (Cq w).mono ?_;rintro e w0 ⟨rfl,x0⟩;refine ⟨_,_,_,_,_,_,_,_,_,_,_,_,_,_,_,_,rfl,λcE qk=> ?_⟩;have UB:Row cE w0 (tT 0) IH:=by rw [qk];exact Row.new w0 (tT 0) _
 have hS:=UB.bc (o:=0) (vs:=tS) aC (by intro v hv;simp only [tS,bJ,fY,or_false] at hv;rcases hv with rfl|rfl|rfl|rfl|rfl|rfl|rfl|rfl|rfl|rfl|rfl|rfl|rfl|rfl|rfl|rfl<;>rfl);refine ⟨⟨rfl,UB.wr (o:=0) (n:=16) aC⟩,λdA JT=> ?_⟩;have afl:dA=cE.setRow w0 tS.toArray:=JT.trans hS;have hr:Row dA w0 tS IH:=by rw [afl];exact UB.set tS
 have cf:Ext w dA:=x0.tr ((bo qk).ab afl (ax _));have afm:=hs.ext cf;have kf:=hs.n;rw [aB] at kf;refine ⟨λn i c wr=>∃k:Nat,i=k/\k+n=b.length/\c=cI (qW v (b.take k))/\wr=dA,⟨b.length,0,rfl,by omega,rfl,rfl⟩,?_⟩;rintro n us i c wr ⟨k,rfl,hk,rfl,rfl⟩;apply Br.mk<;>intro hc
 ·replace hc:=fe hc;obtain ⟨x,hx⟩:=aZ (l:=b) (i:=k) aa;have XX:=hb x (bf hx);have hm:(b.map yv)[k]? =some [.int .u8 x]:=by rw [aV,hx];rfl
  have mA:=afm.at hm (j:=0) rfl;rw [ck] at mA;have wk:=kK (j:=k);have ht:b.take (k+1)=b.take k++ [x]:=by rw [cm,hx];rfl
  generalize hu:qW v (b.take k)=u;refine ⟨afm.fp aC aa hc,x,mA,?_⟩;have m1:(min (12:Int).toNat 16)=12:=rfl;have m2:(min (4:Int).toNat 8)=4:=rfl;have m3:(min (4:Int).toNat 16)=4:=rfl;rw [m1,m2,m3,Tw,ahD XX,AY,ahE XX,Nv];have l1:=Tx (Tz u) (Yn XX);have g1:=Yo l1;have c1:=oS ((u>>>12) ^^^(ke x>>>4));have c1':cI ((u>>>12) ^^^(ke x>>>4))<16:=by unfold cI;omega
  refine ⟨by omega,by omega,_,(by rw [bZ,cP,hr.ld,M9];exact g1),?_⟩;rw [AY,Tw,AY,Nv];have l2:=Tx (Tz ((u<<<4) ^^^ Cr (((u>>>12) ^^^(ke x>>>4))<<<12))) (Yp (ke x));have g2:=Yo l2;have c2:=oS ((((u<<<4) ^^^ Cr (((u>>>12) ^^^(ke x>>>4))<<<12))>>>12) ^^^(ke x &&& 15#16));have c2':cI ((((u<<<4) ^^^ Cr (((u>>>12) ^^^(ke x>>>4))<<<12))>>>12) ^^^(ke x &&& 15#16))<16:=by unfold cI;omega
  refine ⟨by omega,by omega,_,(by rw [bZ,cP,hr.ld,M9];exact g2),n-1,by omega,k+1,wk,by omega,?_,rfl⟩;rw [AY,PL u XX,ht,qe,hu];rfl
 ·replace hc:=eX hc;rw [cZ aa];exact ⟨rfl,cf⟩
def zB(s:Sl)(b:List Int)(w:World)(hs:eZ w s b)(hb:lR b)(hn:(b.length:Int)<=1099511627776):ah 244 #[s] w λe w'=>e=Value.int .u16 (cI (jg b))/\Ext w w':=by
 apply (aac.vc (a0:=s));have st:ah 251 #[] w λe w'=>e=Value.int .u16 (cI 0xFFFF#16)/\w'=w:=by apply Pr.vc;exact ⟨rfl,rfl⟩
 refine st.mono ?_;rintro e w0 ⟨rfl,rfl⟩;refine ⟨_,rfl,(Fb _ s b w0 hs hb hn).mono ?_⟩;rintro e w2 ⟨rfl,x2⟩;exact ⟨_,rfl,rfl,x2⟩
def Ed(s:Sl)(b:List Int)(w:World)(hs:eZ w s b)(hb:lR b)(hn:(b.length:Int)<=1099511627776):ah 237 #[s] w λe w'=>e=Value.bool (decide (2<=b.length/\jg b=0#16))/\Ext w w':=by
 apply (S5.vc (a0:=s));have kf:=hs.n;rw [aB] at kf;apply Br.mk<;>intro h
 ·simp only [ge_iff_le,bA] at h;refine (zB s b w hs hb hn).mono ?_;rintro e w0 ⟨rfl,x0⟩;refine ⟨_,rfl,?_,x0⟩;have:(cI (jg b)==0)=decide (2<=b.length/\jg b=0#16):=by
   rw [Bool.eq_iff_iff];simp only [beq_iff_eq,bA];constructor
   ·intro q;exact ⟨by omega,LX.1 (q.trans rfl)⟩
   ·rintro ⟨-,q⟩;rw [q];rfl
  rw [this]
 ·simp only [ge_iff_le,bV] at h;rw [decide_eq_false aa];exact ⟨rfl,Ext.bX _⟩
def B0(v:jh)(w:World):ah 245 #[.int .u16 (cI v)] w λe w'=>e=Value.agg #[.int .u8 (cI v / 256),.int .u8 (cI v % 256)]/\Ext w w':=by
 apply xY.vc;intro w0 e0;have hb:=oS v;have h0:Row w0 w [.int .u8 0,.int .u8 0] tA2:=Row.nw e0;have e1:mg ((cI v).fdiv (2 ^(min (8:Int).toNat 16)))=cI v / 256:=by show mg ((cI v).fdiv (2 ^ 8))=_;rw [Tw,LY,wrap_u8];simp only [show (2:Int) ^ 8=256 from rfl];omega
 have e2:mg (cI v)=cI v % 256:=wrap_u8 _;rw [e1,e2];have hS:=h0.bc (o:=0) (vs:=[.int .u8 (cI v / 256),.int .u8 (cI v % 256)]) (ax 2) (nO _ _ _ _);refine ⟨⟨rfl,h0.wr (o:=0) (n:=2) aC⟩,λw1 e1=> ?_⟩;have e1':w1=w0.setRow w #[.int .u8 (cI v / 256),.int .u8 (cI v % 256)]:=e1.trans hS;have h1:Row w1 w [.int .u8 (cI v / 256),.int .u8 (cI v % 256)] tA2:=by rw [e1'];exact h0.set _
 exact ⟨_,_,h1.aY (λj hj=>by rw [cP]),rfl,(bo e0).ab e1' (ax _)⟩
end Go.Proofs.YtalpkjfpmdpbiaaGreatDoor
namespace Go.Proofs.YtalpkjfpmdpbiaaGreatDoor
open Go Go.Vc Go.RowKit Go.Proofs Go.dS Go.bh Go.Code
abbrev tSB:TypeId:=132
def eZ.n{w:World}{s:Sl}{b:List Int}(h:eZ w s b):s.n=b.length:=by have:=RdK.n h;rwa [aB] at this
def wM{b:List Int}:∀r ∈ b.map yv,r.length=1:=λr hr=>by obtain ⟨x,_,rfl⟩:=aS.1 hr;rfl
def mn(s:Sl)(b:List Int)(w:World)(hs:eZ w s b)(hn:b.length<=1099511627776):
  ah 203 #[s] w λe w'=>∃s':Sl,e=s'/\iP w w' s' b/\Ext w w':=by
 have kf:=eZ.n hs;apply (tp.vc (a0:=s));apply Br.mk<;>intro h
 ·have:b=[]:=by
   rcases tk b.length with h0|h0
   ·exact tu h0
   ·have:=RdK.isSome hs aa (i:=0) (by simpa using h0)
    cases hsa:s.a<;>simp [hsa] at h this
  subst this;exact ⟨⟨none,0,0⟩,rfl,aj.nil,Ext.bX w⟩
 ·rintro w0 rfl;have xa:=Ext.al w (.cells #[] fh);have hz:aj w fh 1 (w.alloc (.cells #[] fh)) ⟨bu w.heap.size,0,0⟩ []:=aj.gm (ax _) (Row.new w [] fh) cx (ax _) rfl (λr hr=>by cases hr);have hb:=hz.kl (bytes:=1) (more:=b.map yv) xa.size wM (vp _) (by simp only [aB];omega) (by simp only [aB];omega);rw [aB,<-kf] at hb;obtain ⟨hp,hr⟩:=hb;refine ⟨(b.map yv).flatten,RdK.flat (hs.ext xa) aa,hp,λs2 w3 aR=> ?_⟩;obtain ⟨ho,Ga,xb,_,_⟩:=hr s2 w3 aR;exact ⟨pB aR (by rw [bK wM,aB,kf]) cx,s2,rfl,ho,xa.trans xb⟩
def Eb(n:Nat)(w:World)(hn:n<=1099511627776):Calls Tryz.prog 246 #[.slice none 0 0,.int .i64 n] w λe w'=>∃s':Sl,e=.returned (.slice s'.a s'.n s'.c)/\iP w.heap.size w' s' []/\Ext w w':=by
 apply (vq.vc (a0:=⟨none,0,0⟩));have e1:IntKind.wrap .i64 ((n:Int)-IntKind.wrap .i64 (((0:Nat):Int)-((0:Nat):Int)))=n:=by rw [az (n:=((0:Nat):Int)-((0:Nat):Int)) (by unfold inI;omega),wI];omega
 refine Br.mk (λh=>by simp at h;omega) (λ_=> ?_);rw [e1];refine Br.mk (λh=> ?_) (λh=> ?_)
 ·have h0:aj w.heap.size fh 1 w ⟨none,0,0⟩ []:=aj.nil;have hb:=h0.kl (bytes:=1) (more:=(List.replicate n (yv 0))) (Nat.le_refl _) (λr hr=>by rw [(List.mem_replicate.1 hr).2];rfl) (λr hr=>by rw [(List.mem_replicate.1 hr).2];exact lF _ _) (by simp only [List.length_replicate];omega) (by simp only [List.length_replicate];omega);rw [List.length_replicate] at hb;obtain ⟨hp,hr⟩:=hb;refine ⟨by omega,by omega,⟨by omega,wI,by omega⟩,hp,λs0 w1 aR=> ?_⟩;obtain ⟨ho,Ga,xb,_,_⟩:=hr s0 w1 aR;have hle:=aj.le ho;refine ⟨by omega,by omega,⟨s0.a,0,s0.c⟩,by rw [eJ];rfl,?_,xb⟩;rcases ho.form (by decide) with ⟨rfl,-⟩|⟨g,cs,ha,hg,jx,hc,Vv,ht,hl⟩
  ·exact aj.nil
  ·rw [ha];exact aj.gm hg jx hc (Nat.zero_le _) (by simp) (λr hr=>by cases hr)
 ·exact ⟨⟨none,0,0⟩,rfl,aj.nil,Ext.bX _⟩
abbrev o4(xs:List (Sl × List Int)):List Int:=xs.flatMap (·.2)
def C2(xs:List (Sl × List Int)){k:Nat}{x:Sl × List Int}(h:xs[k]? =some x):o4 (xs.take (k+1))=o4 (xs.take k)++x.2:=by rw [cm,h];simp [o4]
def MN(xs:List (Sl × List Int))(k:Nat):(o4 (xs.take k)).length<=(o4 xs).length:=by have e:=congrArg (λl=>(o4 l).length) (jK k xs);simp only [List.flatMap_append,eP] at e;have h1:(o4 (xs.take k)).length=(List.flatMap (λx=>x.2) (xs.take k)).length:=rfl;have h2:(o4 xs).length=(List.flatMap (λx=>x.2) xs).length:=rfl;omega
def wN(s:Sl)(xs:List (Sl × List Int))(w:World)(hs:RdK w s 1 (xs.map λx=> [.slice x.1.a x.1.n x.1.c]))(hr:∀x ∈ xs,eZ w x.1 x.2)(hl:xs.length<=1000)(hn:(o4 xs).length<=1099511627776):
  Calls Tryz.prog 231 #[.slice s.a s.n s.c] w λe w'=>∃s':Sl,e=.returned (.slice s'.a s'.n s'.c)/\iP w.heap.size w' s' (o4 xs)/\Ext w w':=by
 apply (rL.vc (a0:=s));have kf:=hs.n;rw [List.length_map] at kf;have row:∀{k:Nat} {w':World},Ext w w'->k<xs.length->∃x,xs[k]? =some x/\cA s.a (k:Int) s.n/\ld w' (ae s.a (((k:Nat):Int).toNat*1))=some (.slice x.1.a x.1.n x.1.c)/\eZ w' x.1 x.2:=λ{k w'} x' hk=>by
  obtain ⟨x,hx⟩:=aZ (l:=xs) (i:=k) hk;have hs':=hs.ext x';have hm:(xs.map λx=> [Value.slice x.1.a x.1.n x.1.c])[k]? =some [.slice x.1.a x.1.n x.1.c]:=by rw [List.getElem?_map,hx];rfl
  have mA:=hs'.at hm (j:=0) rfl;rw [ck] at mA;exact ⟨x,hx,hs'.fp (by decide) (by omega) (by omega),mA,(hr x (List.mem_of_getElem? hx)).ext x'⟩
 refine ⟨λn i z wr=>∃k:Nat,i=k/\k+n=xs.length/\z=((o4 (xs.take k)).length:Nat)/\wr=w,⟨xs.length,0,rfl,by omega,rfl,rfl⟩,?_⟩;rintro n us i z wr ⟨k,rfl,hk,rfl,rfl⟩;refine Br.mk (λhc=> ?_) (λhc=> ?_)
 ·simp only [decide_eq_true_eq] at hc;obtain ⟨x,hx,cX,mA,hrx⟩:=row (k:=k) (Ext.bX _) (by omega);have h1:=MN xs (k+1);have ht:=C2 xs hx;have Xc:=eZ.n hrx;have wz:IntKind.wrap .i64 (((o4 (xs.take k)).length:Int)+((x.1.n:Nat):Int))=((o4 (xs.take (k+1))).length:Nat):=by rw [ht,List.length_append];rw [ht,List.length_append] at h1;rw [az (by unfold inI;omega)];omega
  have wk:IntKind.wrap .i64 ((k:Int)+1)=((k+1:Nat):Int):=by rw [az (by unfold inI;omega)];omega
  refine ⟨cX,x.1,mA,?_⟩;rw [wz];refine Br.mk (λh=>by simp at h;omega) (λ_=>⟨n-1,by omega,k+1,wk,by omega,rfl,rfl⟩)
 ·simp only [decide_eq_false_iff_not] at hc;rw [List.take_of_length_le (by omega)];refine (Eb _ _ hn).mono ?_;rintro e w8 ⟨s9,rfl,ho,x8⟩;refine ⟨s9,rfl,λn i s Vw=>∃k:Nat,i=k/\k+n=xs.length/\iP wr.heap.size Vw s (o4 (xs.take k))/\Ext wr Vw,⟨xs.length,0,rfl,by omega,ho,x8⟩,?_⟩;rintro xq aaE i sX cU ⟨k2,rfl,BN,Jh,bw⟩;refine Br.mk (λjH=> ?_) (λjH=> ?_)
  ·simp only [decide_eq_true_eq] at jH;obtain ⟨x,hx,cX,mA,hrx⟩:=row (k:=k2) bw (by omega);have h1:=MN xs (k2+1);have ht:=C2 xs hx;have Xc:=eZ.n hrx;have BO:=eZ.n (iP.rM Jh);rw [ht,List.length_append] at h1;have wk:IntKind.wrap .i64 ((k2:Int)+1)=((k2+1:Nat):Int):=by rw [az (by unfold inI;omega)];omega
   have hb:=aj.kl Jh (bytes:=1) (more:=x.2.map yv) bw.size wM (vp _) (by simp only [List.length_map];omega) (by simp only [List.length_map];omega);rw [List.length_map,<-Xc] at hb;obtain ⟨hp,aR⟩:=hb;refine ⟨cX,x.1,mA,(x.2.map yv).flatten,RdK.flat hrx (by omega),hp,λpg dY aaF=> ?_⟩;obtain ⟨Xd,_,xb,_,_⟩:=aR pg dY aaF;refine ⟨xq-1,by omega,k2+1,wk,by omega,?_,bw.trans xb⟩;rw [ht];show aj _ _ _ _ _ _;rw [List.map_append];exact Xd
  ·simp only [decide_eq_false_iff_not] at jH;rw [List.take_of_length_le (by omega)] at Jh;exact ⟨sX,rfl,Jh,bw⟩
def GG(s:Sl)(b:List Int)(w:World)(hs:eZ w s b)(hb:lR b)(hn:b.length+2<=1099511627776):ah 230 #[s] w λe w'=>∃s':Sl,e=s'/\iP w w' s' (pC b)/\Ext w w':=by
 apply (V9.vc (a0:=s));refine (zB s b w hs hb aa).mono ?_;rintro e w0 ⟨rfl,x0⟩;refine ⟨_,rfl,(B0 _ w0).mono ?_⟩;rintro e w2 ⟨rfl,x2⟩;refine ⟨_,_,rfl,λw5 e5=> ?_⟩;have h5:Row w5 w2 [.int .u8 0,.int .u8 0] tA2:=Row.nw e5;have hS:=h5.bc (o:=0) (vs:=[.int .u8 (cI (jg b) / 256),.int .u8 (cI (jg b) % 256)]) (ax 2) (nO _ _ _ _);refine ⟨⟨rfl,h5.wr (o:=0) (n:=2) aC⟩,λw6 e6 w7 e7=> ?_⟩;have e6':w6=w5.setRow w2 #[.int .u8 (cI (jg b) / 256),.int .u8 (cI (jg b) % 256)]:=e6.trans hS;have h6:Row w6 w2 [.int .u8 (cI (jg b) / 256),.int .u8 (cI (jg b) % 256)] tA2:=by rw [e6'];exact h5.set _
 have dp:Ext w2 w6:=(bo e5).ab e6' (ax _);have qO:=bo e7;have x7:=x0.tr (x2.tr (dp.tr qO));have hc:eZ w7 ⟨bu w2.heap.size,2,2⟩ (B1 b):=by
  refine ⟨rfl,wM,λi r hi j v hj=> ?_⟩;have h7:=h6.ext qO;rw [bZ,cP,h7.ld]
  match i,hi with
  |0,hi=>cases hi;match j,hj with
   |0,hj=>cases hj;rfl
  |1,hi=>cases hi;match j,hj with
   |0,hj=>cases hj;rfl
  |i+2,hi=>simp [B1] at hi
 have hl:RdK w7 ⟨bu w6.heap.size,2,2⟩ 1 ([(s,b),(⟨bu w2.heap.size,2,2⟩,B1 b)].map λx=> [.slice x.1.a x.1.n x.1.c]):=by
  have h7:Row w7 w6 [s,.slice (bu w2.heap.size) 2 2] tSB:=by rw [e7,eJ];exact Row.new w6 [_,_] _
  refine ⟨rfl,λr hr=>by simp at hr;rcases hr with rfl|rfl<;>rfl,λi r hi j v hj=> ?_⟩;rw [bZ,cP,h7.ld]
  match i,hi with
  |0,hi=>cases hi;match j,hj with
   |0,hj=>cases hj;rfl
  |1,hi=>cases hi;match j,hj with
   |0,hj=>cases hj;rfl
  |i+2,hi=>simp at hi
 have Mi:o4 [(s,b),(⟨bu w2.heap.size,2,2⟩,B1 b)]=pC b:=by simp [o4,pC]
 refine (wN ⟨bu w6.heap.size,2,2⟩ [(s,b),(⟨bu w2.heap.size,2,2⟩,B1 b)] w7 hl (λx hx=>by
  simp at hx;rcases hx with rfl|rfl
  ·exact hs.ext x7
  ·exact hc) (show 2<=1000 by decide) (by rw [Mi,vr];exact hn)).mono ?_
 rintro e w8 ⟨s9,rfl,ho,x8⟩;rw [Mi] at ho;exact ⟨s9,rfl,s9,rfl,aj.low ho x7.size,x7.tr x8⟩
def Ec(s:Sl)(b:List Int)(w:World)(hs:eZ w s b)(hb:lR b)(hc:s.n<=s.c)(hn:b.length<=1099511627776):ah 204 #[s] w λe w'=>∃s':Sl,e=Value.tuple #[s',.int .i64 (kV b).2]/\iP w w' s' (kV b).1/\Ext w w':=by
 apply (Rh.vc (a0:=s));have kf:=eZ.n hs;apply Br.mk<;>intro h
 ·replace h:=fe h;have e:kV b=([],3):=by unfold kV;rw [if_pos aa]
  rw [e];exact ⟨⟨none,0,0⟩,rfl,aj.nil,Ext.bX _⟩
 ·replace h:=eX h;refine (Ed s b w hs hb aa).mono ?_;rintro e w0 ⟨rfl,x0⟩;refine ⟨_,rfl,Br.mk (λh2=> ?_) (λh2=> ?_)⟩
  ·have e:kV b=([],4):=by unfold kV;rw [if_neg aa,if_neg];intro q;rw [decide_eq_true ⟨by omega,q⟩] at h2;cases h2
   rw [e];exact ⟨⟨none,0,0⟩,rfl,aj.nil,x0⟩
  ·have q:jg b=0#16:=by simp at h2;exact h2.2
   have e:kV b=(b.take (b.length-2),0):=by unfold kV;rw [if_neg aa,if_pos q]
   have wk:ai (((s.n:Nat):Int)-2)=((b.length-2:Nat):Int):=by rw [wI];omega
   rw [wk,e];have jF:eZ w0 ⟨aA s.a 0 s.c 1,b.length-2,s.c-0⟩ (b.take (b.length-2)):=by have:=(hs.ext x0).cut (m:=b.length-2) (c':=s.c) (c'':=s.c-0) (by rw [aB];omega);rw [<-List.map_take] at this;exact this
   refine ⟨by omega,by omega,(mn ⟨aA s.a 0 s.c 1,b.length-2,s.c-0⟩ _ w0 jF (by rw [bF];omega)).mono ?_⟩;rintro e w2 ⟨s3,rfl,ho,x2⟩;exact ⟨s3,rfl,s3,rfl,aj.low ho x0.size,x0.tr x2⟩
end Go.Proofs.YtalpkjfpmdpbiaaGreatDoor
namespace Go.Proofs.YtalpkjfpmdpbiaaGreatDoor
open Go Go.Vc Go.RowKit Go.Proofs Go.dS Go.bh Go.Code
def ahG(n:Int){k:Nat}(hk:k<=4):n.fdiv (2 ^(min ((8*(k:Int))).toNat 64))=n / 256 ^ k:=by
 have e:(2:Int) ^(min ((8*(k:Int))).toNat 64)=256 ^ k:=by
  rcases k with _|_|_|_|_|k
  ·rfl
  ·rfl
  ·rfl
  ·rfl
  ·rfl
  ·omega
 rw [e,Az];exact Int.le_of_lt (Int.pow_pos aC)
def IN(B:Nat)(s:Sl)(b:List Int)(n:Int)(m:Nat)(hm:m<=4)(w:World)(hB:B<=w.heap.size)(ho:iP B w s b)(hb:b.length<=1000):
  Calls Tryz.prog 229 #[.slice s.a s.n s.c,.int .i64 n,.int .i64 m] w λe w'=>∃s':Sl,e=.returned (.slice s'.a s'.n s'.c)/\iP B w' s' (b++be m n)/\Below B w w':=by
 apply (Pq.vc (a0:=s));have w1:IntKind.wrap .i64 ((m:Int)-1)=(m:Int)-1:=wI;refine ⟨λl x o wr=>∃k:Nat,l=k/\x=(k:Int)-1/\k<=m/\∃pre,pre++be k n=be m n/\iP B wr o (b++pre)/\Below B w wr,⟨m,m,rfl,w1,Nat.le_refl _,[],rfl,by rw [List.append_nil];exact ho,Below.refl _ _⟩,?_⟩;rintro k us x s4 w5 ⟨k',rfl,rfl,hk,pre,hp,u9,x5⟩;have ed:=congrArg List.length hp;rw [List.length_append,kM,kM] at ed;have BO:=eZ.n (iP.rM u9);rw [List.length_append] at BO;refine Br.mk (λhc=> ?_) (λhc=> ?_)
 ·simp only [ge_iff_le,decide_eq_true_eq] at hc;obtain ⟨j,rfl⟩:∃j,k=j+1:=⟨k-1,by omega⟩;have e8:IntKind.wrap .i64 (8*(((j+1:Nat):Int)-1))=8*(j:Int):=by rw [wI];omega
  rw [e8,ahG n (by omega),wrap_u8];refine bn.2 ⟨DX.2 (by omega),λw7 e7=> ?_⟩;subst e7;obtain ⟨oC,aR⟩:=aj.kJ u9 (bytes:=1) (news:=yv (n / 256 ^ j % 256)) (.cells #[.int .u8 (n / 256 ^ j % 256)] fh) (by have:=x5.size;omega) rfl (lF _ _) (by omega) (by omega);refine ⟨oC,λs8 w9 hr=> ?_⟩;obtain ⟨f1,P9,hn9,xb,-,-⟩:=aR s8 w9 hr;refine ⟨f1,j,by omega,j,rfl,by rw [wI];omega,by omega,pre++ [n / 256 ^ j % 256],?_,?_,x5.trans xb⟩
  ·rw [<-hp,List.append_assoc];rfl
  ·rw [<-List.append_assoc];show aj _ _ _ _ _ _;rw [List.map_append];exact P9
 ·simp only [ge_iff_le,decide_eq_false_iff_not] at hc;have:k=0:=by omega
  subst this;have hp':pre=be m n:=by simpa [be] using hp
  rw [hp'] at u9;exact ⟨s4,rfl,u9,x5⟩
def DD(s:Sl)(b:List Int)(w:World)(hs:eZ w s b)(hb:lR b)(hn:b.length<=4):ah 205 #[s] w λe w'=>e=Value.int .i64 (dX b)/\w'=w:=by
 apply (LH.vc (a0:=s));have kf:=eZ.n hs;refine ⟨λl i n wr=>∃k:Nat,i=k/\k+l=b.length/\n=dX (b.take k)/\wr=w,⟨b.length,0,rfl,by omega,rfl,rfl⟩,?_⟩;rintro l us i n wr ⟨k,rfl,hk,rfl,rfl⟩;apply Br.mk<;>intro hc
 ·replace hc:=fe hc;obtain ⟨x,hx⟩:=aZ (l:=b) (i:=k) aa;have XX:=hb x (bf hx);have hm:(b.map yv)[k]? =some [.int .u8 x]:=by rw [aV,hx];rfl
  have mA:=hs.at hm (j:=0) rfl;rw [ck] at mA;have wk:=kK (j:=k);have rD:=AV hb (k:=k) aa;have ht:b.take (k+1)=b.take k++ [x]:=by rw [cm,hx];rfl
  refine ⟨RdK.fp hs aC aa hc,x,mA,l-1,by omega,k+1,wk,by omega,?_,rfl⟩;have e1:ai (dX (b.take k)*2 ^(min (8:Int).toNat 64))=dX (b.take k)*256:=by show ai (dX (b.take k)*256)=_;exact wI
  have e2:ai x=x:=wI;rw [e1,e2,TD aa XX,ht,AW]
 ·replace hc:=eX hc;rw [cZ aa];exact ⟨rfl,rfl⟩
def IP(v:Int)(s:Sl)(b:List Int)(w:World)(hs:eZ w s b)(hb:lR b)(hn:b.length<=1099511627776):
  Calls Tryz.prog 193 #[.int .i64 v,.slice s.a s.n s.c] w λe w'=>∃s':Sl,e=.returned (.tuple #[.slice s'.a s'.n s'.c,.int .i64 (lZ v b).2])/\iP w.heap.size w' s' (lZ v b).1/\Ext w w':=by
 apply (H8.vc (a1:=s));have kf:=eZ.n hs;have no:(v<1\/v>1073741824\/(b.length:Int)>65536)->∃s':Sl,Ending.returned (.tuple #[.slice none 0 0,.int .i64 1])=.returned (.tuple #[.slice s'.a s'.n s'.c,.int .i64 (lZ v b).2])/\iP w.heap.size w s' (lZ v b).1/\Ext w w:=λh=>by
  have e:lZ v b=([],1):=by unfold lZ;rw [if_pos h]
  rw [e];exact ⟨⟨none,0,0⟩,rfl,aj.nil,Ext.bX _⟩
 refine Br.mk (λh=> ?_) (λh1=>Br.mk (λh=> ?_) (λh2=>Br.mk (λh=> ?_) (λh3=> ?_)))
 ·simp only [decide_eq_true_eq] at h;exact no (.inl h)
 ·simp only [gt_iff_lt,decide_eq_true_eq] at h;exact no (.inr (.inl h))
 ·simp only [gt_iff_lt,decide_eq_true_eq] at h;exact no (.inr (.inr (by omega)))
 ·simp only [gt_iff_lt,decide_eq_false_iff_not] at h1 h2 h3;have e:lZ v b=(pC (yc v b),0):=by unfold lZ;rw [if_neg (by omega)]
  rw [e];have p4:=IN w.heap.size ⟨none,0,0⟩ [] v 4 (by decide) w (Nat.le_refl _) aj.nil (by simp);refine p4.mono ?_;rintro e w0 ⟨s1,rfl,o1,x0⟩;have p3:=IN w.heap.size s1 ([]++be 4 v) ((s.n:Nat):Int) 3 (by decide) w0 x0.size o1 (by simp [kM]);refine ⟨s1,rfl,p3.mono ?_⟩;rintro e w2 ⟨s3,rfl,o3,x2⟩;refine ⟨s3,rfl,λw4 e4=> ?_⟩;have DP:Ext w w2:=x0.trans x2;have de:Ext w2 w4:=(Ext.bX _).ay e4;have x4:=DP.tr de;have r4:Row w4 w2.heap.size [.slice s3.a s3.n s3.c,.slice s.a s.n s.c] tSB:=by rw [e4];exact Row.new w2 [_,_] _
  have hl:RdK w4 ⟨some ⟨w2.heap.size,0,none⟩,2,2⟩ 1 ([(s3,[]++be 4 v++be 3 ((s.n:Nat):Int)),(s,b)].map λx=> [.slice x.1.a x.1.n x.1.c]):=by
   refine ⟨rfl,λr hr=>by simp at hr;rcases hr with rfl|rfl<;>rfl,λi r hi j v hj=> ?_⟩;rw [bZ,Nat.zero_add,r4.ld]
   match i,hi with
   |0,hi=>cases hi;match j,hj with
    |0,hj=>cases hj;rfl
   |1,hi=>cases hi;match j,hj with
    |0,hj=>cases hj;rfl
   |i+2,hi=>simp at hi
  have Mi:o4 [(s3,[]++be 4 v++be 3 ((s.n:Nat):Int)),(s,b)]=yc v b:=by simp [o4,yc,kf]
  have hrl:=tU v b;refine (wN ⟨some ⟨w2.heap.size,0,none⟩,2,2⟩ [(s3,[]++be 4 v++be 3 ((s.n:Nat):Int)),(s,b)] w4 hl (λx hx=>by
   simp only [List.mem_cons,List.not_mem_nil,or_false] at hx;rcases hx with rfl|rfl
   ·exact RdK.ext (iP.rM o3) de
   ·exact hs.ext x4) (show 2<=1000 by decide) (by rw [Mi];omega)).mono ?_
  rintro e w5 ⟨s6,rfl,o6,x5⟩;rw [Mi] at o6;refine ⟨s6,rfl,(GG s6 (yc v b) w5 (iP.rM o6) (E7 hb) (by omega)).mono ?_⟩;rintro e w7 ⟨s8,rfl,o8,x7⟩;have lp:=x4.tr x5;exact ⟨s8,rfl,s8,rfl,aj.low o8 lp.size,lp.tr x7⟩
def TE{b:List Int}(h:lR b):lR (kV b).1:=by
 unfold kV;split
 ·intro c hc;cases hc
 ·split
  ·exact λc hc=>h c (kq hc)
  ·intro c hc;cases hc
def TG(b:List Int):(kV b).1.length<=b.length:=by
 unfold kV;split
 ·simp
 ·split
  ·simp only [bF];omega
  ·simp
def aau{b:List Int}(h:lR b):lR (iH b).2.1:=by
 unfold iH;split
 ·intro c hc;cases hc
 ·split
  ·intro c hc;cases hc
  ·split
   ·intro c hc;cases hc
   ·exact λc hc=>TE h c (oE hc)
def LZ(b:List Int):(iH b).2.1.length<=b.length:=by
 have:=TG b;unfold iH;split
 ·simp
 ·split
  ·simp
  ·split
   ·simp
   ·simp only [iC];omega
def L0(s:Sl)(b:List Int)(w:World)(hs:eZ w s b)(hb:lR b)(hc:s.n<=s.c)(hn:b.length<=1099511627776):
  ah 159 #[s] w λe w'=>∃s':Sl,e=Value.tuple #[.int .i64 (iH b).1,s',.int .i64 (iH b).2.2]/\eZ w' s' (iH b).2.1/\s'.n<=s'.c/\(∀g,s'.bj=some g->w.heap.size<=g)/\Ext w w':=by
 apply (KK.vc (a0:=s));refine (Ec s b w hs hb hc hn).mono ?_;rintro e w0 ⟨s1,rfl,o1,x0⟩;have hi:=TE hb;have hle:=TG b;have nil:eZ w0 ⟨none,0,0⟩ []:=iP.rM (aj.nil (B:=0));have h1:iH b=if (kV b).2≠0 then (0,[],(kV b).2) else if (kV b).1.length<7 then (0,[],3) else if dX ((kV b).1.take 4)<1\/dX ((kV b).1.take 4)>1073741824\/dX (((kV b).1.drop 4).take 3)>65536\/dX (((kV b).1.drop 4).take 3)≠(((kV b).1.drop 7).length:Int) then (0,[],2) else (dX ((kV b).1.take 4),(kV b).1.drop 7,0):=rfl;rw [h1];generalize kV b=t at*;obtain ⟨t1,t2⟩:=t;simp only at*;have BO:=eZ.n (iP.rM o1);have Qi:=aj.le o1;refine ⟨s1,_,rfl,Br.mk (λh=> ?_) (λh=> ?_)⟩
 ·have:t2≠0:=by simpa using h
  rw [if_pos this];exact ⟨⟨none,0,0⟩,rfl,nil,ax _,(λg hg=>by cases hg),x0⟩
 ·have:t2=0:=by simpa using h
  subst this;rw [if_neg cx];apply Br.mk<;>intro h
  ·replace h:=fe h;rw [if_pos aa];exact ⟨⟨none,0,0⟩,rfl,nil,ax _,(λg hg=>by cases hg),x0⟩
  ·replace h:=eX h;rw [if_neg aa];have rd:=RdK.ext (iP.rM o1) (Ext.dr w0);have c4:eZ w0.drew ⟨aA s1.a 0 s1.c 1,4-0,s1.c-0⟩ (t1.take 4):=by have:=RdK.cut rd (m:=4) (c':=s1.c) (c'':=s1.c-0) (by rw [aB];omega);rw [<-List.map_take] at this;exact this
   have c3:eZ w0.drew ⟨aA s1.a 4 s1.c 1,7-4,s1.c-4⟩ ((t1.drop 4).take 3):=by have r4:=RdK.rest rd (l:=4) (m:=s1.c) (n':=t1.length-4) (c':=s1.c-4) (by rw [aB]) (by rw [aB];omega);have:=RdK.cut r4 (m:=3) (c':=7) (c'':=s1.c-4) (by rw [iC,aB];omega);rw [eJ,<-List.map_drop,<-List.map_take] at this;exact this
   have c7:∀w',Ext w0 w'->eZ w' ⟨aA s1.a 7 s1.c 1,s1.n-7,s1.c-7⟩ (t1.drop 7):=λw' x'=>by have:=RdK.rest (RdK.ext (iP.rM o1) x') (l:=7) (m:=s1.c) (n':=s1.n-7) (c':=s1.c-7) (by rw [aB];omega) (by rw [aB];omega);rw [<-List.map_drop] at this;exact this
   refine ⟨by omega,by omega,by omega,by omega,by omega,by omega,by omega,by omega,(DD ⟨aA s1.a 0 s1.c 1,4-0,s1.c-0⟩ _ w0.drew c4 (λc hc=>hi c (kq hc)) (by rw [bF];omega)).mono ?_⟩;rintro e w3 ⟨rfl,hw⟩;subst hw;refine ⟨_,rfl,(DD ⟨aA s1.a 4 s1.c 1,7-4,s1.c-4⟩ _ w0.drew c3 (λc hc=>hi c (oE (kq hc))) (by rw [bF];omega)).mono ?_⟩;rintro e w5 ⟨rfl,hw⟩;subst hw;have Jj:∀g,(Sl.mk (aA s1.a 7 s1.c 1) (s1.n-7) (s1.c-7)).bj=some g->w.heap.size<=g:=λg hg=>by
    have:s1.bj=some g:=by
     unfold Sl.bj at hg ⊢;simp only [aA] at hg;split at hg
     ·exact hg
     ·cases ha:s1.a with
      |none=>rw [ha] at hg;cases hg
      |some a=>
       rw [ha] at hg;simp only [mj,Option.some.injEq,Addr.add] at hg ⊢;rw [<-hg];split<;>rfl
    exact (o1.own.lt this).1
   have xd:=x0.tr (Ext.dr w0);have nil':eZ w0.drew ⟨none,0,0⟩ []:=iP.rM (aj.nil (B:=0));have Qj:(t1.drop 7).length=s1.n-7:=by rw [iC];omega
   have no:(dX (t1.take 4)<1\/dX (t1.take 4)>1073741824\/dX ((t1.drop 4).take 3)>65536\/dX ((t1.drop 4).take 3)≠((t1.drop 7).length:Int))->∃s':Sl,Ending.returned (.tuple #[af,.slice none 0 0,(2:Int)])=Value.tuple #[.int .i64 (if dX (t1.take 4)<1\/dX (t1.take 4)>1073741824\/dX ((t1.drop 4).take 3)>65536\/dX ((t1.drop 4).take 3)≠((t1.drop 7).length:Int) then ((0:Int),([]:List Int),(2:Int)) else (dX (t1.take 4),t1.drop 7,0)).1,s',.int .i64 (if dX (t1.take 4)<1\/dX (t1.take 4)>1073741824\/dX ((t1.drop 4).take 3)>65536\/dX ((t1.drop 4).take 3)≠((t1.drop 7).length:Int) then ((0:Int),([]:List Int),(2:Int)) else (dX (t1.take 4),t1.drop 7,0)).2.2]/\
     eZ w0.drew s' (if dX (t1.take 4)<1\/dX (t1.take 4)>1073741824\/dX ((t1.drop 4).take 3)>65536\/dX ((t1.drop 4).take 3)≠((t1.drop 7).length:Int) then ((0:Int),([]:List Int),(2:Int)) else (dX (t1.take 4),t1.drop 7,0)).2.1/\s'.n<=s'.c/\(∀g,s'.bj=some g->w.heap.size<=g)/\Ext w w0.drew:=λh=>by
    rw [if_pos h];exact ⟨⟨none,0,0⟩,rfl,nil',ax _,(λg hg=>by cases hg),xd⟩
   refine ⟨_,rfl,Br.mk (λh=>no ?_) (λq1=>Br.mk (λh=>no ?_) (λq2=>Br.mk (λh=>no ?_) (λq3=>Br.mk (λh=>no ?_) (λq4=> ?_))))⟩
   ·exact .inl (by simpa using h)
   ·exact .inr (.inl (by simpa using h))
   ·exact .inr (.inr (.inl (by simpa using h)))
   ·refine .inr (.inr (.inr ?_));rw [Qj];simpa using h
   ·simp only [gt_iff_lt,bV,bne_eq_false_iff_eq] at q1 q2 q3 q4;rw [if_neg (by
     rw [Qj];simp only [not_or];exact ⟨q1,q2,q3,by rw [q4];simp⟩)]
    exact ⟨_,rfl,c7 _ (Ext.dr w0),by simp only;omega,Jj,xd⟩
end Go.Proofs.YtalpkjfpmdpbiaaGreatDoor
namespace Go.Proofs.YtalpkjfpmdpbiaaGreatDoor
open Go Go.Vc Go.RowKit Go.Proofs Go.dS Go.bh Go.Code
def OO{P:Program}{m since c0 clock r:Nat}{seen:Array Nat}{es:Array MapEntry}{w:World}{ty:TypeId}{v:Value}{w':World}(hr:w.heap[r]? =some (.mapIter (some m) since seen c0))(hm:w.heap[m]? =some (.map es clock))
  (h:(Instr.next (.pointer (bu r)) false ty).run P w=.ok v w'):w'.tape=w.tape:=by
 simp only [Instr.next,getObj,Sem.run_bind,Sem.run,hr,hm,Result.andThen] at h;split at h
 ·cases h
 ·generalize (Array.filter (λe=> !seen.contains e.born) es)=L at h;generalize (if (Array.filter (λx=>decide (x.born<since)) L).isEmpty=true then #[none] else #[])++Array.map some (Array.filter (λx=>decide (x.born<since)) L++Array.filter (λx=>decide (x.born>=since)) L)=C at h;have hch:∀j w1,(choose (Question.mapNext C.size)).run P w=.ok j w1->w1.tape=w.tape:=λj w1 h1=>by
   by_cases hf:C.size<=1
   ·simp only [choose,Sem.run,Question.forced,bA,hf,if_true] at h1
    cases h1;rfl
   ·simp only [choose,Sem.run,Question.forced,bA,hf,if_false,Question.cut] at h1
    cases h1;rfl
  rw [Sem.run_bind] at h
  cases hc:(choose (Question.mapNext C.size)).run P w with
  |ok j w1=>
   have ht:=hch j w1 hc;rw [hc] at h;simp only [Result.andThen] at h;split at h
   ·rw [Sem.run_bind] at h;simp only [setObj,Sem.run] at h;split at h
    all_goals first
     |(simp [Result.andThen] at h;done)
     |(simp only [Result.andThen,Sem.run_pure] at h;cases h;exact ht)
   ·rw [Sem.run_pure] at h;cases h;exact ht
   ·cases h
  |_=>rw [hc] at h;cases h
def Sg:Value->Int| .slice _ n _=>(n:Int)|_=>0
def dP:List MapEntry->Array Nat->Int
 | [],_=>0
 |x::l,seen=>(if seen.contains x.born then Sg x.val else 0)+dP l seen
def rk(seen:Array Nat)(b:Nat):∀(es:List MapEntry),b ∉ es.map (·.born)->dP es (seen.push b)=dP es seen
 | [],_=>rfl
 |x::l,h=>by
  have hx:(x.born==b)=false:=by
   cases hc:x.born==b with
   |false=>rfl
   |true=>exact absurd (bJ.2 (Or.inl (beq_iff_eq.1 hc).symm)) h
  have ih:=rk seen b l (λe=>h (bJ.2 (Or.inr e)));simp only [dP,contains_push,hx,Bool.or_false,ih]
def tY(seen:Array Nat)(e:MapEntry)(hs:seen.contains e.born=false):∀(es:List MapEntry),(es.map (·.born)).Nodup->e ∈ es->dP es (seen.push e.born)=dP es seen+Sg e.val
 |x::l,hn,he=>by
  have hn':x.born ∉ l.map (·.born)/\(l.map (·.born)).Nodup:=lE.1 hn
  rcases bJ.1 he with rfl|h
  ·rw [dP,dP,rk seen _ l hn'.1,contains_push,beq_self_eq_true,Bool.or_true,hs]
   simp;omega
  ·have hx:(x.born==e.born)=false:=by
    cases hc:x.born==e.born with
    |false=>rfl
    |true=>exact absurd (aS.2 ⟨e,h,(beq_iff_eq.1 hc).symm⟩) hn'.1
   rw [dP,dP,tY seen e hs l hn'.2 h,contains_push,hx,Bool.or_false];omega
def tZ:∀es:List MapEntry,dP es #[]=0
 | []=>rfl
 |x::l=>by rw [dP,tZ l];simp
def KZ{es:List MapEntry}(hv:∀x ∈ es,0<=Sg x.val)(seen:Array Nat):0<=dP es seen/\dP es seen<=(es.map λx=>Sg x.val).sum:=by
 induction es with
 |nil=>exact ⟨mu _,mu _⟩
 |cons x l ih=>
  have h1:=ih λy hy=>hv y (.tail _ hy)
  have h2:=hv x (.head _);rw [dP,dG,List.sum_cons];split<;>omega
def Hz(es:Array MapEntry)(seen:Array Nat)(h:(leftOf es seen).size=0):dP es.toList seen=(es.toList.map λx=>Sg x.val).sum:=by
 have jG:∀x ∈ es.toList,seen.contains x.born=true:=by
  intro x hx
  cases hc:seen.contains x.born with
  |true=>rfl
  |false=>
   have:x ∈ leftOf es seen:=Array.mem_filter.2 ⟨Array.mem_toList_iff.1 hx,by rw [hc];rfl⟩;have h0:=Array.eq_empty_of_size_eq_zero h;rw [h0] at this;simp at this
 generalize es.toList=l at jG
 induction l with
 |nil=>rfl
 |cons x l ih=>
  rw [dP,jG x (.head _),dG,List.sum_cons,ih λy hy=>jG y (.tail _ hy)];simp
set_option maxRecDepth 1000000 in
def K0(bm:Nat)(es:Array MapEntry)(clock:Nat)(w:World)(hb:w.heap[bm]? =some (.map es clock))(lT:MapKept.Stamped es clock)(hv:∀x ∈ es.toList,∃a n c,x.val=.slice a n c)(hs:(es.toList.map λx=>Sg x.val).sum<=1099511627776):
  ah 233 #[.map (some bm)] w λe w'=>e=Value.int .i64 ((es.toList.map λx=>Sg x.val).sum)/\∃(w1:World)(seen:Array Nat),w1.Alike w/\w1.tape=w.tape/\w'=w1.alloc (.mapIter (some bm) clock seen clock):=by
 have hrg:=run_range_map (P:=Tryz.prog) w 259 qT 132 bm es clock Tryz.underlying259 hb;have Vv:∀x ∈ es.toList,0<=Sg x.val:=λx hx=>by obtain ⟨a,n,c,e⟩:=hv x hx;rw [e];exact Int.natCast_nonneg n
 go_enter Tryz.func233,Tryz.ntmps233;go_wp2;go_loopw [3] (λs w'=>∃(w1:World)(seen:Array Nat),w1.Alike w/\w1.tape=w.tape/\w'=w1.alloc (.mapIter (some bm) clock seen clock)/\s=.int .i64 (dP es.toList seen)) (λ_ w'=>(leftOf es (w'.iterSeen w)).size)
 case atStart=>exact ⟨w,#[],⟨rfl,rfl,rfl⟩,rfl,rfl,by rw [tZ]⟩
 case round=>
  obtain ⟨w1,seen,hal,htp,rfl,rfl⟩:=hrel;have QJ:w1.heap.size=w.heap.size:=by rw [hal.1]
  have Bm:w1.heap[bm]? =some (.map es clock):=by rw [hal.1];exact hb
  have law:=run_next_map (P:=Tryz.prog) w1 0 bm clock clock seen es clock Bm lT.1 (ax _);rw [QJ] at law;rcases law with ⟨h0,oA⟩|⟨e,he,w2,hal2,oA⟩
  ·have hnx:∀ty,(Instr.next (.pointer (bu w.heap.size)) false ty).run Tryz.prog (w1.alloc (.mapIter (some bm) clock seen clock))=_:=λ_=>oA
   go_wp2;go_ret;rw [Hz es seen h0];exact ⟨rfl,w1,seen,hal,htp,rfl⟩
  ·obtain ⟨va,vn,vc,hval⟩:=hv e (mem_left he).1;have hr1:(w1.alloc (.mapIter (some bm) clock seen clock)).heap[w.heap.size]? =some (.mapIter (some bm) clock seen clock):=by rw [<-QJ];exact heap_alloc_new w1 _
   have hm1:(w1.alloc (.mapIter (some bm) clock seen clock)).heap[bm]? =some (.map es clock):=by rw [heap_alloc_old w1 _ (by have:=(mQ.1 Bm).1;omega)];exact Bm
   have htp2:w2.tape=w1.tape:=by have:=OO hr1 hm1 oA;exact this
   rw [hval] at oA;have hnx:∀ty,(Instr.next (.pointer (bu w.heap.size)) false ty).run Tryz.prog (w1.alloc (.mapIter (some bm) clock seen clock))=_:=λ_=>oA
   have hsz2:w2.heap.size=w.heap.size:=by rw [hal2.1,hal.1]
   have eF:w2.heap[bm]? =some (.map es clock):=by rw [hal2.1];exact Bm
   have hen:=run_entry_map (P:=Tryz.prog) w2 bm clock seen es clock e eF (mem_left he).1 lT.2.1;rw [hsz2,hval] at hen;go_wp2;go_roundw
   case rel=>
    refine ⟨w2,seen.push e.born,⟨hal2.1.trans hal.1,hal2.2.1.trans hal.2.1,hal2.2.2.trans hal.2.2⟩,htp2.trans htp,rfl,?_⟩;have hp:=tY seen e (mem_left he).2 es.toList lT.2.1 (mem_left he).1;have uI:=KZ Vv (seen.push e.born);rw [hval] at hp;have hp:dP es.toList (seen.push e.born)=dP es.toList seen+(vn:Int):=hp;have hw:Go.RowKit.wrap64 (dP es.toList seen+(vn:Int))=dP es.toList (seen.push e.born):=by unfold Go.RowKit.wrap64;omega
    exact congrArg _ hw
   case measure=>
    rw [<-hsz2,World.iterSeen_alloc,hsz2,<-QJ,World.iterSeen_alloc];exact left_shrinks es seen e he
end Go.Proofs.YtalpkjfpmdpbiaaGreatDoor
namespace Go.Proofs.YtalpkjfpmdpbiaaGreatDoor
open Go Go.Vc Go.RowKit Go.Proofs Go.dS Go.bh Go.Code
abbrev tW:TypeId:=289
abbrev Bl:=Int × Sl × List Int
def mJ(x:Bl):Value × Value:=(x.1,.slice x.2.1.a x.2.1.n x.2.1.c)
abbrev wV(x:Bl):LV:=[.int .i64 x.1,.slice x.2.1.a x.2.1.n x.2.1.c]
abbrev kb(x:Bl):kU:=(x.1,x.2.2)
structure Lg(w:World)(x:Bl):Prop where
 o:iP 0 w x.2.1 x.2.2
 b:lR x.2.2
structure Dm where
 r:Nat
 ls:Sl
 E:List Bl
 W:List Bl
structure DO(w:World)(d:Nat)(m:Dm)(D:Dk):Prop where
 rd:Row w d [D.room,D.c9,D.wait,.map (some m.r),.slice m.ls.a m.ls.n m.ls.c] pH
 rm:bN GI w (some m.r) (m.E.map mJ)
 ol:aj 0 tW 2 w m.ls (m.W.map wV)
 sf:(m.E.map kb).Perm D.safe
 sl:m.W.map kb=D.l
 bl:∀x ∈ m.E++m.W,Lg w x
 ok:iu D
def dF(d:Nat)(m:Dm)(i:Nat):Prop:=i=d\/i=m.r\/m.ls.bj=some i\/∃x ∈ m.E++m.W,x.2.1.bj=some i
def DO.lt{w:World}{d:Nat}{m:Dm}{D:Dk}(h:DO w d m D){i:Nat}(hi:dF d m i):i<w:=by
 rcases hi with rfl|rfl|e|⟨x,hx,e⟩
 ·exact h.rd.lt
 ·exact h.rm.lt
 ·exact (h.ol.own.lt e).2
 ·exact ((h.bl x hx).o.own.lt e).2
def DO.same{w w':World}{d:Nat}{m:Dm}{D:Dk}(h:DO w d m D)(hs:∀i,dF d m i->w'.heap[i]? =w.heap[i]?):DO w' d m D:=
 ⟨h.rd.same (hs _ (.inl rfl)),h.rm.same (hs _ (.inr (.inl rfl))),aj.bM h.ol λb hb=>hs b (.inr (.inr (.inl hb))),h.sf,h.sl,λx hx=>⟨aj.bM (h.bl x hx).o λb hb=>hs b (.inr (.inr (.inr ⟨x,hx,hb⟩))),(h.bl x hx).b⟩,h.ok⟩
def DO.ext{w w':World}{d:Nat}{m:Dm}{D:Dk}(h:DO w d m D)(x:Ext w w'):DO w' d m D:=h.same λi hi=>x.heap (h.lt hi)
def DO.nW{w:World}{d:Nat}{m:Dm}{D:Dk}(h:DO w d m D):m.ls.n=m.W.length/\m.W.length=D.l.length:=by have h1:=(h.ol.rd aC).n;rw [aB] at h1;exact ⟨h1,by rw [<-h.sl,aB]⟩
def DO.kind{w:World}{d:Nat}{m:Dm}{D:Dk}(h:DO w d m D){i:Nat}(hi:dF d m i):bN GI w (some i) (m.E.map mJ)\/∃cs τ,Row w i cs τ/\(τ=pH\/τ=tW\/τ=fh):=by
 rcases hi with e|e|e|⟨x,hx,e⟩
 ·exact .inr ⟨_,_,e▸h.rd,.inl rfl⟩
 ·exact .inl (e▸h.rm)
 ·obtain ⟨cs,hr⟩:=aM h.ol aC e;exact .inr ⟨_,_,hr,.inr (.inl rfl)⟩
 ·obtain ⟨cs,hr⟩:=aM (h.bl x hx).o aC e;exact .inr ⟨_,_,hr,.inr (.inr rfl)⟩
def Sk(E:List Bl)(x:Bl):rX (E.map mJ) (x.1) (.slice x.2.1.a x.2.1.n x.2.1.c)=(Ea (λy:Bl=>y.1) E x).map mJ:=by
 have key:∀y:Bl,(mJ y).1=.int .i64 x.1 ↔ y.1=x.1:=λy=>by unfold mJ;simp
 have ex:(∃e ∈ E.map mJ,e.1=Value.int .i64 x.1) ↔ ∃y ∈ E,y.1=x.1:=by
  constructor
  ·rintro ⟨e,he,q⟩;obtain ⟨y,hy,rfl⟩:=aS.1 he;exact ⟨y,hy,(key y).1 q⟩
  ·rintro ⟨y,hy,q⟩;exact ⟨_,aS.2 ⟨y,hy,rfl⟩,(key y).2 q⟩
 unfold rX Ea;by_cases h:∃y ∈ E,y.1=x.1
 ·rw [if_pos (ex.2 h),if_pos h,kj,kj];refine wH λy _=> ?_
  simp only [Function.comp];by_cases q:y.1=x.1
  ·rw [if_pos ((key y).2 q),if_pos q];unfold mJ;rw [q]
  ·rw [if_neg λq'=>q ((key y).1 q'),if_neg q]
 ·rw [if_neg λq=>h (ex.1 q),if_neg h,aT];rfl
def Lh{l s:List kU}{k:Nat}{x:kU}(h:l[k]? =some x):(l.take (k+1)).foldl lay s=lay ((l.take k).foldl lay s) x:=by rw [cm,h,jc];rfl
set_option maxRecDepth 100000 in
def vI{w:World}{d:Nat}{m:Dm}{D:Dk}(h:DO w d m D)(hW:D.l.length<=1000000000):ah 202 #[d] w λe w'=>∃(r':Nat)(E':List Bl),e=Value.map (some r')/\bN GI w' (some r') (E'.map mJ)/\(E'.map kb).Perm (gd D)/\(∀x ∈ E',x ∈ m.E++m.W)/\Ext w w'/\w.heap.size<=r':=by
 apply B6.vc;obtain ⟨n1,n2⟩:=h.nW;refine ⟨some m.r,h.rd.at 3 rfl,(Ak h.rm).mono ?_⟩;rintro e w1 ⟨rfl,hm,x1⟩;refine ⟨_,rfl,m.ls,(h.ext x1).rd.at 4 rfl,λn i wr=>∃(k:Nat)(E':List Bl),i=k/\k+n=m.W.length/\bN GI wr (some w.heap.size) (E'.map mJ)/\(E'.map kb).Perm ((D.l.take k).foldl lay D.safe)/\(∀x ∈ E',x ∈ m.E++m.W)/\Ext w wr,
  ⟨m.W.length,0,m.E,rfl,by omega,hm,h.sf,λx hx=>cu.2 (.inl hx),x1⟩,?_⟩
 rintro n us i wr ⟨k,E',rfl,hk,hm,hp,eI,xr⟩;apply Br.mk<;>intro hc
 ·replace hc:=fe hc;obtain ⟨x,hx⟩:=aZ (l:=m.W) (i:=k) aa;have hr:=(h.ext xr).ol.rd (show 0<2 by decide);have mN:(m.W.map wV)[k]? =some (wV x):=by rw [aV,hx];rfl
  have wk:=kK (j:=k);have hl:D.l[k]? =some (kb x):=by rw [<-h.sl,aV,hx];rfl
  refine ⟨RdK.fp hr aC aa hc,x.1,x.2.1,RdK.aY hr mN,λbS BW cC qX=> ?_⟩;have cz:Ext wr cC:=(bo BW).ab qX (ax _);refine ⟨GI,E'.map mJ,EC,rfl,hm.same (cz.heap hm.lt),⟨_,rfl⟩,λcY j3 aey=> ?_⟩;rw [Sk] at aey;refine ⟨n-1,by omega,k+1,_,wk,by omega,aey,?_,λy hy=> ?_,(Mod.ED j3).ext (xr.tr cz) λi hi=>by rw [hi];exact ax _⟩
  ·rw [Lh hl];exact Ra (f:=λy:Bl=>y.1) (g:=λy:Bl=>y.2.2) x hp (pM _ h.ok.nd)
  ·rcases Q9 hy with rfl|hy
   ·exact cu.2 (.inr (bf hx))
   ·exact eI y hy
 ·replace hc:=eX hc;rw [cZ aa] at hp;exact ⟨w.heap.size,E',rfl,hm,hp,eI,xr,ax _⟩
def Sn(E:List Bl):((fK (E.map kb):Nat):Int)=(E.map λx=>(x.2.2.length:Int)).sum:=by
 induction E with
 |nil=>rfl
 |cons x t ih=>
  rw [dG,ni,dG,List.sum_cons,<-ih];have:(kb x).2.length=x.2.2.length:=rfl;omega
def HE{w:World}{r:Nat}{E:List Bl}(hm:bN GI w (some r) (E.map mJ))(hb:∀x ∈ E,Lg w x)(hn:fK (E.map kb)<=1099511627776):ah 233 #[.map (some r)] w λe w'=>e=Value.int .i64 (fK (E.map kb):Nat)/\Ext w w':=by
 obtain ⟨es,clock,h1,h2,h3,h4,h5,h6⟩:=hm;have hk:es.toList.map (·.key)=(E.map mJ).map (·.1):=by rw [<-h2,kj];rfl
 have hv:∀x ∈ es.toList,∃y ∈ E,x.val=.slice y.2.1.a y.2.1.n y.2.1.c:=λx hx=>by
  have:(x.key,x.val) ∈ E.map mJ:=by rw [<-h2];exact aS.2 ⟨x,hx,rfl⟩
  obtain ⟨y,hy,e⟩:=aS.1 this;refine ⟨y,hy,?_⟩;have:=congrArg Prod.snd e;exact this.symm
 have hs:(es.toList.map λx=>Sg x.val).sum=(fK (E.map kb):Nat):=by
  rw [Sn];have e1:(es.toList.map λx=>Sg x.val)=(E.map mJ).map λe=>Sg e.2:=by rw [<-h2,kj];rfl
  rw [e1,kj];congr 1;refine wH λx hx=> ?_
  show ((x.2.1.n:Nat):Int)=_;rw [eZ.n (iP.rM (hb x hx).o)]
 have lT:MapKept.Stamped es clock:=⟨h6,h5.imp λh=>Nat.ne_of_lt h,by rw [hk];exact h4⟩;refine (K0 r es clock w h1 lT (λx hx=>by obtain ⟨y,_,e⟩:=hv x hx;exact ⟨_,_,_,e⟩) (by rw [hs];omega)).mono ?_;rintro e w' ⟨rfl,w1,seen,⟨a1,a2,a3⟩,a4,rfl⟩;refine ⟨by rw [hs],?_⟩;have x1:Ext w w1:=⟨a2,a4,a3,by rw [a1];exact ax _,λi _=>by rw [a1]⟩;exact x1.ay rfl
def HF{E:List Bl}{s:List kU}(hp:(E.map kb).Perm s)(hn:(gL s).Nodup)(k:Int)(w:World)(hb:∀x ∈ E,Lg w x):∃(t:Sl)(b:Bool),B5 (E.map mJ) (k) (.slice none 0 0) (t) b/\iP 0 w t ((lg s k).getD [])/\lR ((lg s k).getD [])/\b=(lg s k).isSome:=by
 have dN:(gL (E.map kb)).Nodup:=(hp.map λx:kU=>x.1).nodup_iff.2 hn;rw [<-O2 hp dN]
 cases q:lg (E.map kb) k with
 |none=>
  refine ⟨⟨none,0,0⟩,false,.inr ⟨rfl,rfl,λe he=> ?_⟩,aj.nil,(λc hc=>by cases hc),rfl⟩;obtain ⟨x,hx,rfl⟩:=aS.1 he;have:=vJ.1 q (kb x) (aS.2 ⟨x,hx,rfl⟩);unfold mJ;simpa using this
 |some b=>
  obtain ⟨x,hx,e⟩:=aS.1 ((vK dN).1 q);have e1:x.1=k:=congrArg Prod.fst e;have e2:x.2.2=b:=congrArg Prod.snd e;refine ⟨x.2.1,true,.inl ⟨rfl,aS.2 ⟨x,hx,by unfold mJ;rw [e1]⟩⟩,?_,?_,rfl⟩
  ·have:=(hb x hx).o;rw [e2] at this;exact this
  ·have:=(hb x hx).b;rw [e2] at this;exact this
def EE{s:List kU}(hn:(gL s).Nodup)(k:Int):((lg s k).getD []).length<=fK s:=by have:=wX hn k;omega
def O3{w:World}{d:Nat}{m:Dm}{D:Dk}(h:DO w d m D)(hW:D.l.length<=1000000000)(k:Int):ah 158 #[d,k] w λe w'=>∃(s:Sl)(b:Bool),e=Value.tuple #[s,b]/\iP w w' s (getD D k)/\lR (getD D k)/\(getD D k).length<=1048576/\Ext w w':=by
 apply B4.vc;refine (vI h hW).mono ?_;rintro e w0 ⟨r',E',rfl,hm,hp,eI,x0,hr⟩;have hb:∀x ∈ E',Lg w0 x:=λx hx=>(h.ext x0).bl x (eI x hx)
 obtain ⟨t,b,hl,ho,Xp,-⟩:=HF hp h.ok.now k w0 hb;have hle:=EE h.ok.now k;have Jl:=h.ok.So;have hrm:=h.ok.r;refine ⟨_,rfl,GI,_,EC,hm,⟨k,rfl⟩,t,b,hl,(mn t _ w0 (iP.rM ho) aa).mono ?_⟩;rintro e w6 ⟨s7,rfl,o7,x6⟩;refine ⟨s7,rfl,s7,b,rfl,aj.low o7 x0.size,Xp,?_,x0.tr x6⟩;show ((lg (gd D) k).getD []).length<=_;omega
def DO.row{w w':World}{d:Nat}{m:Dm}{D:Dk}(h:DO w d m D){F W:Int}(hm:Mod (λi=>i=d) w w')(hr:Row w' d [D.room,F,W,.map (some m.r),.slice m.ls.a m.ls.n m.ls.c] pH)(aU:iu {D with c9:=F,wait:=W}):DO w' d m {D with c9:=F,wait:=W}:=by
 refine ⟨hr,hm.map h.rm λe=>h.rd.ic h.rm e.symm,hm.gK h.ol λb hb e=> ?_,h.sf,h.sl,λx hx=>⟨hm.gK (h.bl x hx).o λb hb e=> ?_,(h.bl x hx).b⟩,aU⟩
 ·obtain ⟨cs,hr'⟩:=aM h.ol aC hb;exact hr'.ne h.rd aC e
 ·obtain ⟨cs,hr'⟩:=aM (h.bl x hx).o aC hb;exact hr'.ne h.rd aC e
def wY{w:World}{d:Nat}{m:Dm}{D:Dk}(h:DO w d m D):ah 232 #[d] w λe w'=>e=Value.bool (eg D).2/\DO w' d m (eg D).1/\Mod (λi=>i=d) w w':=by
 apply vL.vc;have aU:=h.ok.ask;have hw:=h.ok.w;have hf:=h.ok.f;refine ⟨D.wait,h.rd.at 2 rfl,Br.mk (λhc=> ?_) (λhc=> ?_)⟩
 ·simp only [gt_iff_lt,bA] at hc;have e:eg D=({D with wait:=0},false):=by unfold eg;rw [if_pos hc]
  have e1:ai (D.wait-1)=0:=by rw [wI];omega
  rw [e] at aU ⊢;obtain ⟨p1,p2⟩:=h.rd.jR (j:=2) (v:=.int .i64 0) cx rfl;refine ⟨_,h.rd.at 2 rfl,?_⟩;rw [e1];refine ⟨⟨rfl,p1⟩,λw2 e2=>⟨rfl,?_⟩⟩;obtain ⟨q1,q2⟩:=p2 w2 e2;exact ⟨h.row q2 q1 aU,q2⟩
 ·simp only [gt_iff_lt,bV] at hc;refine ⟨D.c9,h.rd.at 1 rfl,Br.mk (λjH=> ?_) (λjH=> ?_)⟩
  ·simp only [gt_iff_lt,bA] at jH;have e:eg D=({D with c9:=D.c9-1},true):=by unfold eg;rw [if_neg hc,if_pos jH]
   rw [e] at aU ⊢;obtain ⟨p1,p2⟩:=h.rd.jR (j:=1) (v:=.int .i64 (ai (D.c9-1))) cx rfl;refine ⟨_,h.rd.at 1 rfl,⟨rfl,p1⟩,λw2 e2=>⟨by rw [decide_eq_true jH],?_⟩⟩;obtain ⟨q1,q2⟩:=p2 w2 e2;have e1:ai (D.c9-1)=D.c9-1:=wI;rw [e1] at q1;exact ⟨h.row q2 q1 aU,q2⟩
  ·simp only [gt_iff_lt,bV] at jH;have e:eg D=(D,false):=by unfold eg;rw [if_neg hc,if_neg jH]
   rw [e];exact ⟨by rw [decide_eq_false jH],h,Mod.refl _ _⟩
end Go.Proofs.YtalpkjfpmdpbiaaGreatDoor
namespace Go.Proofs.YtalpkjfpmdpbiaaGreatDoor
open Go Go.Vc Go.RowKit Go.Proofs Go.dS Go.bh Go.Code
def tD{w:World}{p:Option Addr}{v:Value}(h:ld w p=some v):au w p 0 [v]:=by show ld w (ae p 0)=_;rw [ck];exact h
def Ap(k:Int)(a:Option Addr)(n c:Nat):One [Value.int .i64 k,Value.slice a n c]:=by intro v hv;simp at hv;rcases hv with rfl|rfl<;>rfl
def Na(D:Dk):gd (eg D).1=gd D:=by obtain ⟨e1,e2,-⟩:=fE D;unfold gd;rw [e1,e2]
def DO.Yc{w:World}{d:Nat}{m:Dm}{D:Dk}(h:DO w d m D):∀b,m.ls.bj=some b->b≠d:=λb hb=>by
 obtain ⟨cs,hr⟩:=aM h.ol aC hb
 exact hr.ne h.rd aC
def Z5(w:World)(d:Nat)(m:Dm)(D:Dk)(w':World):Prop:=∃m',DO w' d m' D/\Mod (λi=>i=d\/m.ls.bj=some i) w w'/\(∀i,dF d m' i->dF d m i\/w.heap.size<=i)/\∀i,m'.ls.bj=some i->m.ls.bj=some i\/w.heap.size<=i
set_option maxRecDepth 100000 in
def Pb{w:World}{d:Nat}{m:Dm}{D:Dk}(h:DO w d m D)(hW:D.l.length<=1000000000)(key:Int)(s:Sl)(b:List Int)(hs:eZ w s b)(hb:lR b)(hn:b.length<=1099511627776)(hsd:s.bj≠some d):
  ah 194 #[d,key,s] w λe w'=>e=Value.int .i64 (fZ D key b).2/\Z5 w d m (fZ D key b).1 w':=by
 apply (Cb.vc (a2:=s));have kf:=eZ.n hs;refine (wY h).mono ?_;rintro e w0 ⟨rfl,h0,m0⟩;have z0:=m0.size;have Y5:Mod (λi=>i=d\/m.ls.bj=some i) w w0:=m0.mono λi _ hi=> .inl hi
 refine ⟨_,rfl,Br.mk (λhf=> ?_) (λhf=> ?_)⟩
 ·have e:fZ D key b=((eg D).1,9):=by unfold fZ;rw [if_pos hf]
  rw [e];exact ⟨rfl,m,h0,Y5,λi hi=> .inl hi,λi hi=> .inl hi⟩
 obtain ⟨e1,e2,e3⟩:=fE D;have mC:eZ w0 s b:=m0.rdK aC hs λ_ g hg e=>hsd (e▸hg)
 refine (vI h0 (by rw [e2];exact hW)).mono ?_;rintro e w2 ⟨r',E',rfl,mN,hp,eI,x2,hr'⟩;rw [Na] at hp;have hnd:=h.ok.now;have Jl:=h.ok.So;have hrm:=h.ok.r;have hbE:∀x ∈ E',Lg w2.drew x:=λx hx=>(h0.ext (x2.tr (Ext.dr w2))).bl x (eI x hx)
 have XK:bN GI w2.drew (some r') (E'.map mJ):=mN.same ((Ext.dr w2).heap mN.lt);obtain ⟨t,tb,hl,hto,htb,-⟩:=HF hp hnd key w2.drew hbE;have htn:=eZ.n (iP.rM hto);have NU:=HR hnd (key,b);have hlE:fK (E'.map kb)=fK (gd D):=Dn hp;simp only at NU;have hg:((lg (gd D) key).getD []).length<=fK (gd D):=EE hnd key;rw [<-htn] at NU hg;have wl:ai (((fK (E'.map kb):Nat):Int)-((t.n:Nat):Int))=((fK (gd D):Nat):Int)-t.n:=by rw [hlE,wI]
 have wr:ai (D.room-((s.n:Nat):Int))=D.room-s.n:=wI;have hd0:∀{v:World},Ext w0 v->ld v (ae (bu d) 0)=some (.int .i64 D.room):=λx=>by have:=(h0.ext x).rd.at 0 rfl;rw [e3] at this;exact this
 have x2d:=x2.tr (Ext.dr w2);have Xp:=HE (w:=w2.drew) XK hbE (by rw [hlE];omega);refine ⟨_,rfl,D.room,hd0 x2d,?_,?_⟩
 ·refine Xp.mono ?_;rintro e v ⟨rfl,xv⟩;have J7:=x2d.tr xv;refine ⟨_,rfl,tD (hd0 J7),GI,_,EC,XK.same (xv.heap XK.lt),⟨key,rfl⟩,t,tb,hl,tD (hd0 J7),?_⟩;rw [wl,wr];apply Br.mk<;>intro hc
  ·simp only [gt_iff_lt,bA] at hc;have e:fZ D key b=((eg D).1,8):=by unfold fZ;rw [if_neg (by rw [hf];decide),if_pos aa]
   rw [e];have zv:=J7.size;exact ⟨rfl,m,h0.ext J7,Y5.trans (Mod.aN J7),λi hi=> .inl hi,λi hi=> .inl hi⟩
  ·simp only [gt_iff_lt,bV] at hc;have e:fZ D key b=({(eg D).1 with l:=D.l++ [(key,b)]},0):=by unfold fZ;rw [if_neg (by rw [hf];decide),if_neg aa]
   have aU:=h.ok.put key b;rw [e] at aU ⊢;have xvd:=J7.tr (Ext.dr v);refine ⟨m.ls,(h0.ext xvd).rd.at 4 rfl,(mn s b v.drew (mC.ext xvd) hn).mono ?_⟩;rintro e bS ⟨gl,rfl,o13,bU⟩;have Bj:=xvd.tr bU;have nE:=h0.ext Bj;obtain ⟨n1,n2⟩:=nE.nW;rw [e2] at n2;refine ⟨gl,rfl,tD (nE.rd.at 4 rfl),λbY mB=> ?_⟩;subst mB;obtain ⟨VS,aR⟩:=aj.kJ nE.ol (bytes:=32) (news:=wV (key,gl,b)) (.cells #[key,gl] tW) (eC _) rfl (Ap _ _ _ _) aa aa;refine ⟨VS,λji cY hr=> ?_⟩;obtain ⟨f1,UF,ajO,xb,abC,hM⟩:=aR ji cY hr;have m16:Mod (λj=>m.ls.bj=some j) bS cY:=Mod.rK xb abC;have UG:=m16.row nE.rd λq=>nE.Yc _ q rfl
   obtain ⟨p1,p2⟩:=UG.jR (j:=4) (v:=.slice ji.a ji.n ji.c) cx rfl;have VA:=Bj.size;have Qj:=h.rd.lt;refine ⟨f1,⟨rfl,p1⟩,λq=> ?_,λcE qk=>⟨rfl,{m with ls:=ji,W:=m.W++ [(key,gl,b)]},?_,?_,?_,?_⟩⟩
   ·rw [dj] at q;have:d=bS.heap.size:=by simpa [cS] using q
    omega
   ·obtain ⟨q1,q2⟩:=p2 cE qk;have mm:Mod (λj=>j=d\/m.ls.bj=some j) bS cE:=(m16.mono λi _ hi=> .inr hi).trans (q2.mono λi _ hi=> .inl hi);have off:∀{g:Nat} {cs:LV} {τ:TypeId},Row bS g cs τ->τ≠pH->τ≠tW->¬(g=d\/m.ls.bj=some g):=λhr' t1 t2 q=>by
     rcases q with q|q
     ·exact hr'.ne nE.rd t1 q
     ·obtain ⟨cs',mM⟩:=aM nE.ol aC q;exact hr'.ne mM t2 rfl
    refine ⟨q1,mm.map nE.rm λq=> ?_,?_,nE.sf,?_,λx hx=> ?_,aU⟩
    ·rcases q with q|q
     ·exact nE.rd.ic nE.rm q.symm
     ·obtain ⟨cs',mM⟩:=aM nE.ol aC q;exact mM.ic nE.rm rfl
    ·show aj 0 tW 2 cE ji ((m.W++ [(key,gl,b)]).map wV);rw [aT];refine q2.gK UF λg hg=> ?_
     obtain ⟨cs',mM⟩:=aM UF aC hg;exact mM.ne UG aC
    ·show (m.W++ [(key,gl,b)]).map kb=D.l++ [(key,b)];rw [aT,h.sl];rfl
    ·have hx:x ∈ m.E++m.W\/x=(key,gl,b):=by
      simp only [cu,bJ,fY,or_false] at hx ⊢;rcases hx with hx|hx|hx
      ·exact .inl (.inl hx)
      ·exact .inl (.inr hx)
      ·exact .inr hx
     have JF:Lg bS x:=by
      rcases hx with hx|rfl
      ·exact nE.bl x hx
      ·exact ⟨aj.low o13 (eC _),hb⟩
     refine ⟨mm.gK JF.o λg hg=> ?_,JF.b⟩;obtain ⟨cs',mM⟩:=aM JF.o aC hg;exact off mM aC aC
   ·obtain ⟨q1,q2⟩:=p2 cE qk;refine (Y5.trans (Mod.aN Bj)).trans ((m16.mono λi _ hi=> .inr hi).trans (q2.mono λi _ hi=> .inl hi))
   ·rintro i (q|q|q|⟨x,hx,q⟩)
    ·exact .inl (.inl q)
    ·exact .inl (.inr (.inl q))
    ·rcases hM with q'|q'
     ·exact .inl (.inr (.inr (.inl (by rw [<-q'];exact q))))
     ·rw [q'] at q;cases q;exact .inr aa
    ·simp only [cu,bJ,fY,or_false] at hx;rcases hx with hx|hx|rfl
     ·exact .inl (.inr (.inr (.inr ⟨x,cu.2 (.inl hx),q⟩)))
     ·exact .inl (.inr (.inr (.inr ⟨x,cu.2 (.inr hx),q⟩)))
     ·have:=(o13.own.lt q).1;have zv:=xvd.size;exact .inr aa
   ·intro i q;rcases hM with q'|q'
    ·exact .inl (by rw [<-q'];exact q)
    ·have q:ji.bj=some i:=q;rw [q'] at q;cases q;exact .inr aa
 ·refine ⟨GI,_,EC,XK,⟨key,rfl⟩,t,tb,hl,tD (hd0 x2d),Xp.mono ?_⟩;rintro e v ⟨rfl,xv⟩;have J7:=x2d.tr xv;refine ⟨_,rfl,tD (hd0 J7),?_⟩;rw [wl,wr];apply Br.mk<;>intro hc
  ·simp only [gt_iff_lt,bA] at hc;have e:fZ D key b=((eg D).1,8):=by unfold fZ;rw [if_neg (by rw [hf];decide),if_pos aa]
   rw [e];have zv:=J7.size;exact ⟨rfl,m,h0.ext J7,Y5.trans (Mod.aN J7),λi hi=> .inl hi,λi hi=> .inl hi⟩
  ·simp only [gt_iff_lt,bV] at hc;have e:fZ D key b=({(eg D).1 with l:=D.l++ [(key,b)]},0):=by unfold fZ;rw [if_neg (by rw [hf];decide),if_neg aa]
   have aU:=h.ok.put key b;rw [e] at aU ⊢;have xvd:=J7.tr (Ext.dr v);refine ⟨m.ls,(h0.ext xvd).rd.at 4 rfl,(mn s b v.drew (mC.ext xvd) hn).mono ?_⟩;rintro e bS ⟨gl,rfl,o13,bU⟩;have Bj:=xvd.tr bU;have nE:=h0.ext Bj;obtain ⟨n1,n2⟩:=nE.nW;rw [e2] at n2;refine ⟨gl,rfl,tD (nE.rd.at 4 rfl),λbY mB=> ?_⟩;subst mB;obtain ⟨VS,aR⟩:=aj.kJ nE.ol (bytes:=32) (news:=wV (key,gl,b)) (.cells #[key,gl] tW) (eC _) rfl (Ap _ _ _ _) aa aa;refine ⟨VS,λji cY hr=> ?_⟩;obtain ⟨f1,UF,ajO,xb,abC,hM⟩:=aR ji cY hr;have m16:Mod (λj=>m.ls.bj=some j) bS cY:=Mod.rK xb abC;have UG:=m16.row nE.rd λq=>nE.Yc _ q rfl
   obtain ⟨p1,p2⟩:=UG.jR (j:=4) (v:=.slice ji.a ji.n ji.c) cx rfl;have VA:=Bj.size;have Qj:=h.rd.lt;refine ⟨f1,⟨rfl,p1⟩,λq=> ?_,λcE qk=>⟨rfl,{m with ls:=ji,W:=m.W++ [(key,gl,b)]},?_,?_,?_,?_⟩⟩
   ·rw [dj] at q;have:d=bS.heap.size:=by simpa [cS] using q
    omega
   ·obtain ⟨q1,q2⟩:=p2 cE qk;have mm:Mod (λj=>j=d\/m.ls.bj=some j) bS cE:=(m16.mono λi _ hi=> .inr hi).trans (q2.mono λi _ hi=> .inl hi);have off:∀{g:Nat} {cs:LV} {τ:TypeId},Row bS g cs τ->τ≠pH->τ≠tW->¬(g=d\/m.ls.bj=some g):=λhr' t1 t2 q=>by
     rcases q with q|q
     ·exact hr'.ne nE.rd t1 q
     ·obtain ⟨cs',mM⟩:=aM nE.ol aC q;exact hr'.ne mM t2 rfl
    refine ⟨q1,mm.map nE.rm λq=> ?_,?_,nE.sf,?_,λx hx=> ?_,aU⟩
    ·rcases q with q|q
     ·exact nE.rd.ic nE.rm q.symm
     ·obtain ⟨cs',mM⟩:=aM nE.ol aC q;exact mM.ic nE.rm rfl
    ·show aj 0 tW 2 cE ji ((m.W++ [(key,gl,b)]).map wV);rw [aT];refine q2.gK UF λg hg=> ?_
     obtain ⟨cs',mM⟩:=aM UF aC hg;exact mM.ne UG aC
    ·show (m.W++ [(key,gl,b)]).map kb=D.l++ [(key,b)];rw [aT,h.sl];rfl
    ·have hx:x ∈ m.E++m.W\/x=(key,gl,b):=by
      simp only [cu,bJ,fY,or_false] at hx ⊢;rcases hx with hx|hx|hx
      ·exact .inl (.inl hx)
      ·exact .inl (.inr hx)
      ·exact .inr hx
     have JF:Lg bS x:=by
      rcases hx with hx|rfl
      ·exact nE.bl x hx
      ·exact ⟨aj.low o13 (eC _),hb⟩
     refine ⟨mm.gK JF.o λg hg=> ?_,JF.b⟩;obtain ⟨cs',mM⟩:=aM JF.o aC hg;exact off mM aC aC
   ·obtain ⟨q1,q2⟩:=p2 cE qk;refine (Y5.trans (Mod.aN Bj)).trans ((m16.mono λi _ hi=> .inr hi).trans (q2.mono λi _ hi=> .inl hi))
   ·rintro i (q|q|q|⟨x,hx,q⟩)
    ·exact .inl (.inl q)
    ·exact .inl (.inr (.inl q))
    ·rcases hM with q'|q'
     ·exact .inl (.inr (.inr (.inl (by rw [<-q'];exact q))))
     ·rw [q'] at q;cases q;exact .inr aa
    ·simp only [cu,bJ,fY,or_false] at hx;rcases hx with hx|hx|rfl
     ·exact .inl (.inr (.inr (.inr ⟨x,cu.2 (.inl hx),q⟩)))
     ·exact .inl (.inr (.inr (.inr ⟨x,cu.2 (.inr hx),q⟩)))
     ·have:=(o13.own.lt q).1;have zv:=xvd.size;exact .inr aa
   ·intro i q;rcases hM with q'|q'
    ·exact .inl (by rw [<-q'];exact q)
    ·have q:ji.bj=some i:=q;rw [q'] at q;cases q;exact .inr aa
end Go.Proofs.YtalpkjfpmdpbiaaGreatDoor
namespace Go.Proofs.YtalpkjfpmdpbiaaGreatDoor
open Go Go.Vc Go.RowKit Go.Proofs Go.dS Go.bh Go.Code
set_option maxRecDepth 100000 in
def Ma{w:World}{d:Nat}{m:Dm}{D:Dk}(h:DO w d m D)(hW:D.l.length<=1000000000):
  ah 195 #[d] w λe w'=>e=Value.int .i64 (iX D).2/\Z5 w d m (iX D).1 w':=by
 apply AF.vc;refine (wY h).mono ?_;rintro e w0 ⟨rfl,h0,m0⟩;have z0:=m0.size;have Y5:Mod (λi=>i=d\/m.ls.bj=some i) w w0:=m0.mono λi _ hi=> .inl hi
 have aU:=h.ok.sync;obtain ⟨e1,e2,e3⟩:=fE D;refine ⟨_,rfl,Br.mk (λhf=> ?_) (λhf=> ?_)⟩
 ·have e:iX D=((eg D).1,9):=by unfold iX;rw [if_pos hf]
  rw [e];exact ⟨rfl,m,h0,Y5,λi hi=> .inl hi,λi hi=> .inl hi⟩
 ·have e:iX D=({(eg D).1 with safe:=gd D,l:=[]},0):=by unfold iX;rw [if_neg (by rw [hf];decide)]
  rw [e] at aU ⊢;refine (vI h0 (by rw [e2];exact hW)).mono ?_;rintro e w2 ⟨r',E',rfl,mN,hp,eI,x2,hr'⟩;rw [Na] at hp;have h2:=h0.ext x2;have z2:=x2.size;have Qj:=h.rd.lt;obtain ⟨p1,p2⟩:=h2.rd.jR (j:=3) (v:=.map (some r')) cx rfl;refine ⟨_,rfl,⟨rfl,p1⟩,λw4 e4=> ?_⟩;obtain ⟨q1,q2⟩:=p2 w4 e4;obtain ⟨p3,p4⟩:=q1.jR (j:=4) (v:=.slice none 0 0) (show 4<5 by decide) rfl;refine ⟨⟨rfl,p3⟩,λw5 e5=>⟨rfl,⟨r',⟨none,0,0⟩,E',[]⟩,?_,?_,?_,λi q=>by cases q⟩⟩
  ·obtain ⟨q3,q4⟩:=p4 w5 e5;have mm:=q2.trans q4;refine ⟨q3,mm.map mN λq=>h2.rd.ic mN q.symm,aj.nil,hp,rfl,λx hx=> ?_,aU⟩;have hx':x ∈ E':=by simpa using hx
   have JF:=h2.bl x (eI x hx');refine ⟨mm.gK JF.o λg hg=> ?_,JF.b⟩;obtain ⟨cs',mM⟩:=aM JF.o aC hg;exact mM.ne h2.rd aC
  ·obtain ⟨q3,q4⟩:=p4 w5 e5;exact (Y5.trans (Mod.aN x2)).trans ((q2.trans q4).mono λi _ hi=> .inl hi)
  ·rintro i (q|q|q|⟨x,hx,q⟩)
   ·exact .inl (.inl q)
   ·exact .inr (by rw [q];show _<=r';omega)
   ·cases q
   ·have hx':x ∈ E':=by simpa using hx
    exact .inl (.inr (.inr (.inr ⟨x,eI x hx',q⟩)))
end Go.Proofs.YtalpkjfpmdpbiaaGreatDoor
namespace Go.Proofs.YtalpkjfpmdpbiaaGreatDoor
open Go Go.Vc Go.RowKit Go.Proofs Go.dS Go.bh Go.Code
abbrev adY:TypeId:=186
structure SO(w:World)(st d:Nat)(m:Dm)(D:Dk):Prop where
 rs:Row w st [d] vN
 dk:DO w d m D
def sF(st d:Nat)(m:Dm)(i:Nat):Prop:=i=st\/dF d m i
def SO.lt{w:World}{st d:Nat}{m:Dm}{D:Dk}(h:SO w st d m D){i:Nat}(hi:sF st d m i):i<w:=by
 rcases hi with rfl|hi
 ·exact h.rs.lt
 ·exact h.dk.lt hi
def SO.same{w w':World}{st d:Nat}{m:Dm}{D:Dk}(h:SO w st d m D)(hs:∀i,sF st d m i->w'.heap[i]? =w.heap[i]?):SO w' st d m D:=⟨h.rs.same (hs _ (.inl rfl)),h.dk.same λi hi=>hs i (.inr hi)⟩
def SO.ext{w w':World}{st d:Nat}{m:Dm}{D:Dk}(h:SO w st d m D)(x:Ext w w'):SO w' st d m D:=h.same λi hi=>x.heap (h.lt hi)
def SO.ptr{w:World}{st d:Nat}{m:Dm}{D:Dk}(h:SO w st d m D):ld w (ae (ae (bu st) 0) 0)=some (.pointer (bu d)):=by rw [bZ,bZ,h.rs.ld];rfl
def PX(room:Int)(w:World):ah 157 #[room] w λe w'=>∃d m,e=Value.pointer (bu d)/\DO w' d m ⟨min (max room 0) 1048576,0,0,[],[]⟩/\Ext w w'/\∀i,dF d m i->w.heap.size<=i:=by
 apply R1.vc;intro w0 e0 w1 e1;have z0:=dt e0;have x1:=bo e1;have hm:bN GI w0 (some w.heap.size) []:=by rw [e0];exact bN.new
 have er:(if 1048576<(if 0>room then 0 else room) then 1048576 else (if 0>room then 0 else room))=min (max room 0) 1048576:=by split<;>split<;>omega
 rw [er] at e1;refine ⟨w0.heap.size,⟨w.heap.size,⟨none,0,0⟩,[],[]⟩,rfl,⟨by rw [e1];exact Row.new w0 [_,_,_,_,_] _,hm.same (x1.heap hm.lt),aj.nil,.refl _,rfl,(λx hx=>by cases hx),⟨List.nodup_nil,λk=>by simp [fK];omega,by simp,by simp,by simp only;omega⟩⟩,(bo e0).tr x1,λi hi=> ?_⟩;rcases hi with q|q|q|⟨x,hx,-⟩
 ·omega
 ·rw [q];exact ax _
 ·cases q
 ·cases hx
def PW(room:Int)(w:World):ah 111 #[room] w λe w'=>∃st d m,e=Value.pointer (bu st)/\SO w' st d m ⟨min (max room 0) 1048576,0,0,[],[]⟩/\Ext w w'/\∀i,sF st d m i->w.heap.size<=i:=by
 apply On.vc;refine (PX room w).mono ?_;rintro e w0 ⟨d,m,rfl,hd,x0,hf⟩;refine ⟨_,rfl,λw2 e2=> ?_⟩;have x2:=bo e2;have z:=x0.size;refine ⟨_,d,m,rfl,⟨by rw [e2];exact Row.new w0 [_] _,hd.ext x2⟩,x0.tr x2,λi hi=> ?_⟩;rcases hi with q|q
 ·omega
 ·exact hf i q
def yR{D:Dk}(h:iu D)(k:Int):(getD D k).length<=1048576:=by have h1:=EE h.now k;have h2:=h.So;have h3:=h.r;show ((lg (gd D) k).getD []).length<=_;omega
set_option maxRecDepth 100000 in
def Jb{w:World}{st d:Nat}{m:Dm}{D:Dk}(h:SO w st d m D)(hW:D.l.length<=1000000000){id:Int}(hid:0<=id/\id<=1099511627776):
  ah 118 #[st,id] w λe w'=>∃s:Sl,e=Value.agg #[.int .i64 (fU D id).1,.int .i64 (fU D id).2.1,.slice s.a s.n s.c]/\eZ w' s (fU D id).2.2/\lR (fU D id).2.2/\(fU D id).2.2.length<=1048576/\s.n<=s.c/\(∀g,s.bj=some g->w.heap.size<=g)/\Ext w w':=by
 apply xX.vc;intro w0 e0 w1 e1 w2 e2;have z0:=dt e0;have z1:w1.heap.size=w.heap.size+2:=by rw [e1];simp [z0]
 have z2:w2.heap.size=w.heap.size+2:=by rw [e2,setRow_size,z1]
 have x2:Ext w w2:=((bo e0).ay e1).ab e2 aa;have k0:ai (2*id)=2*id:=wI;have k1:ai (2*id+1)=2*id+1:=wI;rw [k0,k1];obtain ⟨best,hbest⟩:∃best:Nat->Rc,best=λk=>if k=0 then (2*id+1,0,[]) else if k=1 then fD (2*id+1,0,[]) (2*id) (iH (getD D (2*id))) else fU D id:=⟨_,rfl⟩
 have b0:best 0=(2*id+1,0,[]):=by rw [hbest];rfl
 have b1:best 1=fD (best 0) (2*id) (iH (getD D (2*id))):=by rw [b0,hbest];rfl
 have b2:best 2=fD (best 1) (2*id+1) (iH (getD D (2*id+1))):=by rw [b1,b0,hbest];rfl
 have b3:best 2=fU D id:=by rw [hbest];rfl
 refine ⟨λn i sl v s wr=>∃k:Nat,i=k/\k+n=2/\sl=(best k).1/\v=(best k).2.1/\eZ wr s (best k).2.2/\lR (best k).2.2/\(best k).2.2.length<=1048576/\s.n<=s.c/\(∀g,s.bj=some g->w2.heap.size<=g)/\Ext w wr/\w2.heap.size<=wr,
  ⟨2,rfl,0,rfl,rfl,by rw [b0],by rw [b0],by rw [b0];exact iP.rM (aj.nil (B:=0)),by rw [b0];exact (λc hc=>by cases hc),by rw [b0];simp,ax _,(λg hg=>by cases hg),x2,ax _⟩,?_⟩
 rintro n4 us i sl v s bL ⟨k,rfl,hk,rfl,rfl,hs,Ft,j1,hsc,hsf,bq,z10⟩;apply Br.mk<;>intro hc
 ·replace hc:=fe hc;have BR:=kK (j:=k);obtain ⟨slot,hslot,hnext⟩:∃slot,([.int .i64 (2*id),.int .i64 (2*id+1)]:LV)[((k:Nat):Int).toNat*1]? =some (.int .i64 slot)/\best (k+1)=fD (best k) slot (iH (getD D slot)):=by
   rcases k with _|_|k
   ·exact ⟨_,rfl,b1⟩
   ·exact ⟨_,rfl,b2⟩
   ·omega
  have h10:=h.ext bq;refine ⟨⟨by omega,by omega⟩,slot,hslot,_,h10.ptr,(O3 h10.dk hW slot).mono ?_⟩;rintro e bY ⟨t,tb,rfl,ot,Xp,hle,bW⟩;have Vx:=bW.size;refine ⟨t,tb,rfl,bW.heap aa,bW.heap aa,(L0 t (getD D slot) bY (iP.rM ot) Xp (aj.le ot) aa).mono ?_⟩;rintro e cE ⟨u,rfl,hu,huc,hub,cR⟩;have z17:=cR.size;have Vh:=bW.tr cR;have hui:=aau Xp;have hul:=LZ (getD D slot);have bM:fD (best k) slot (iH (getD D slot))=best k->∃xq,xq<n4/\aP [af,af,.slice none 0 0]/\∃k':Nat,ai ((k:Int)+1)=(k':Int)/\k'+xq=2/\(best k).1=(best k').1/\(best k).2.1=(best k').2.1/\eZ cE s (best k').2.2/\lR (best k').2.2/\(best k').2.2.length<=1048576/\s.n<=s.c/\(∀g,s.bj=some g->w2.heap.size<=g)/\Ext w cE/\w2.heap.size<=cE:=λq=>by rw [q] at hnext;exact ⟨n4-1,by omega,rfl,k+1,BR,by omega,by rw [hnext],by rw [hnext],by rw [hnext];exact hs.ext Vh,by rw [hnext];exact Ft,by rw [hnext];exact j1,hsc,hsf,bq.tr Vh,by omega⟩
  refine ⟨_,u,_,rfl,cR.heap aa,cR.heap aa,Br.mk (λhb=>Br.mk (λeF=> ?_) (λeF=> ?_)) (λhb=> ?_)⟩
  ·have q1:=kX hb;have q2:=kX eF;have e:fD (best k) slot (iH (getD D slot))=(slot,(iH (getD D slot)).1,(iH (getD D slot)).2.1):=by unfold fD;rw [if_pos ⟨q1,q2⟩]
   rw [e] at hnext;intro ef uP;have fT:Ext w ef:=(bq.tr Vh).ab uP aa;have alF:eZ ef u (iH (getD D slot)).2.1:=hu.same λg hg=>by rw [uP];exact setRow_other _ _ _ _ (by have:=hub g hg;omega)
   have z21:ef.heap.size=cE.heap.size:=by rw [uP,setRow_size]
   exact ⟨n4-1,by omega,rfl,k+1,BR,by omega,by rw [hnext],by rw [hnext],by rw [hnext];exact alF,by rw [hnext];exact hui,by rw [hnext];simp only;omega,huc,(λg hg=>by have:=hub g hg;omega),fT,by omega⟩
  ·have q2:=kX eF;exact bM (by unfold fD;rw [if_neg λq=>q2 q.2])
  ·have q1:=kX hb;exact bM (by unfold fD;rw [if_neg λq=>q1 q.1])
 ·replace hc:=eX hc;have BN:k=2:=by omega
  subst BN;rw [b3] at hs Ft j1 ⊢;intro ct Bq;refine ⟨s,rfl,hs.same λg hg=> ?_,Ft,j1,hsc,λg hg=>by have:=hsf g hg;omega,bq.ab Bq (ax _)⟩;rw [Bq];exact setRow_other _ _ _ _ (by have:=hsf g hg;omega)
def DM(id:Int)(w:World):ah 117 #[id] w λe w'=>e=Value.bool (nN id)/\w'=w:=by
 apply Oo.vc;unfold nN;apply Br.mk<;>intro h
 ·simp only [ge_iff_le,bA] at h;rw [decide_eq_true h];exact ⟨rfl,rfl⟩
 ·simp only [ge_iff_le,bV] at h;rw [decide_eq_false h];exact ⟨rfl,rfl⟩
def Jc{id:Int}:nN id=true ↔ 0<=id/\id<=1099511627776:=by unfold nN;simp
def Hq{w:World}{st d:Nat}{m:Dm}{D:Dk}(h:SO w st d m D)(hW:D.l.length<=1000000000)(id:Int):
  ah 73 #[st,id] w λe w'=>∃s:Sl,e=Value.tuple #[s,.int .i64 (qA D id).2.1,.bool (qA D id).2.2]/\eZ w' s (qA D id).1/\lR (qA D id).1/\(qA D id).1.length<=1048576/\s.n<=s.c/\(∀g,s.bj=some g->w.heap.size<=g)/\Ext w w':=by
 apply vE.vc;refine (DM id w).mono ?_;rintro e w0 ⟨rfl,rfl⟩;refine ⟨_,rfl,Br.mk (λhb=> ?_) (λhb=> ?_)⟩
 ·have q:¬nN id=true:=by simpa using hb
  have e:qA D id=([],0,false):=by unfold qA;rw [if_neg q]
  rw [e];exact ⟨⟨none,0,0⟩,rfl,iP.rM (aj.nil (B:=0)),(λc hc=>by cases hc),by simp,ax _,(λg hg=>by cases hg),Ext.bX _⟩
 ·have q:nN id=true:=by simpa using hb
  have e:qA D id=((fU D id).2.2,(fU D id).2.1,decide ((fU D id).2.1>0)):=by unfold qA;rw [if_pos q]
  rw [e];refine (Jb h hW (Jc.1 q)).mono ?_;rintro e w2 ⟨s,rfl,hs,Ft,j1,hsc,hsf,x2⟩;refine ⟨_,_,s,rfl,λw6 e6 w7 e7=> ?_⟩;have x7:Ext w2 w7.drew:=((bo e6).ab e7 (ax _)).drew;exact ⟨s,rfl,hs.ext x7,Ft,j1,hsc,hsf,x2.tr x7⟩
def yi(w:World)(st d:Nat)(m:Dm)(D:Dk)(w':World):Prop:=∃m',SO w' st d m' D/\Mod (λi=>i=d\/m.ls.bj=some i) w w'/\(∀i,dF d m' i->dF d m i\/w.heap.size<=i)/\∀i,m'.ls.bj=some i->m.ls.bj=some i\/w.heap.size<=i
def SO.off{w:World}{st d:Nat}{m:Dm}{D:Dk}(h:SO w st d m D):¬(st=d\/m.ls.bj=some st):=by
 rintro (q|q)
 ·exact h.rs.ne h.dk.rd aC q
 ·obtain ⟨cs',mM⟩:=aM h.dk.ol aC q;exact h.rs.ne mM aC rfl
def SO.res{w w':World}{st d:Nat}{m:Dm}{D D':Dk}(h:SO w st d m D)(hr:Z5 w d m D' w'):yi w st d m D' w':=by obtain ⟨m',h1,h2,h3,h4⟩:=hr;exact ⟨m',⟨h2.row h.rs h.off,h1⟩,h2,h3,h4⟩
def yi.aN{w0 w w':World}{st d:Nat}{m:Dm}{D':Dk}(x:Ext w0 w)(hr:yi w st d m D' w'):yi w0 st d m D' w':=by obtain ⟨m',h1,h2,h3,h4⟩:=hr;have z:=x.size;exact ⟨m',h1,(Mod.aN x).trans h2,λi hi=>(h3 i hi).imp id λq=>by omega,λi hi=>(h4 i hi).imp id λq=>by omega⟩
def yi.trans{w w1 w2:World}{st d:Nat}{m m1:Dm}{D1 D2:Dk}(h1:SO w1 st d m1 D1/\Mod (λi=>i=d\/m.ls.bj=some i) w w1/\(∀i,dF d m1 i->dF d m i\/w.heap.size<=i)/\∀i,m1.ls.bj=some i->m.ls.bj=some i\/w.heap.size<=i)(h2:yi w1 st d m1 D2 w2):yi w st d m D2 w2:=by
 obtain ⟨a1,a2,a3,a4⟩:=h1;obtain ⟨m2,b1,b2,b3,b4⟩:=h2;have z:=a2.size;refine ⟨m2,b1,a2.tr b2 λi hi=> ?_,λi hi=> ?_,λi hi=> ?_⟩
 ·rcases hi with q|q
  ·exact .inl (.inl q)
  ·exact (a4 i q).imp .inr id
 ·rcases b3 i hi with q|q
  ·exact a3 i q
  ·exact .inr aa
 ·rcases b4 i hi with q|q
  ·exact a4 i q
  ·exact .inr aa
set_option maxRecDepth 100000 in
def GS{w:World}{st d:Nat}{m:Dm}{D:Dk}(h:SO w st d m D)(hW:D.l.length<=1000000)(id:Int)(s:Sl)(b:List Int)(hs:eZ w s b)(hb:lR b)(hn:b.length<=1099511627776):
  ah 151 #[st,id,s] w λe w'=>e=Value.int .i64 (oD D id b).2/\yi w st d m (oD D id b).1 w':=by
 apply (vY.vc (a2:=s));have same:∀{w':World},Ext w w'->yi w st d m D w':=λx=>⟨m,h.ext x,Mod.aN x,λi hi=> .inl hi,λi hi=> .inl hi⟩
 refine (DM id w).mono ?_;rintro e w0 ⟨rfl,rfl⟩;refine ⟨_,rfl,Br.mk (λBm=> ?_) (λBm=> ?_)⟩
 ·have q:¬nN id=true:=by simpa using Bm
  have e:oD D id b=(D,1):=by unfold oD;rw [if_neg q]
  rw [e];exact ⟨rfl,same (Ext.bX _)⟩
 ·have q:nN id=true:=by simpa using Bm
  have hid:=Jc.1 q;refine (Jb h aa hid).mono ?_;rintro e w2 ⟨s5,rfl,-,-,-,-,-,x2⟩;refine ⟨_,_,s5,rfl,λw6 e6 w7 e7=> ?_⟩;have r7:Row w7 w2 [.int .i64 (fU D id).1,.int .i64 (fU D id).2.1,s5] adY:=by rw [e7];exact Row.set (by rw [e6];exact Row.new w2 [_,_,_] _) _
  have dp:Ext w2 w7:=(bo e6).ab e7 (ax _);have x7:=x2.tr dp;have hv:=X3 D id;have wv:ai ((fU D id).2.1+1)=(fU D id).2.1+1:=wI;rw [wv];have j1:=Gz D id;have hto:gI .i64 (fU D id).1 1=4*id+1-(fU D id).1:=by
   obtain ⟨t1,t2⟩:=Re hid;rcases j1 with q|q
   ·rw [q,t1];omega
   ·rw [q,t2];omega
  rw [hto];have hsv:oD D id b=if (lZ ((fU D id).2.1+1) b).2≠0 then (D,(lZ ((fU D id).2.1+1) b).2)
   else if (fZ D (4*id+1-(fU D id).1) (lZ ((fU D id).2.1+1) b).1).2≠0 then fZ D (4*id+1-(fU D id).1) (lZ ((fU D id).2.1+1) b).1
   else iX (fZ D (4*id+1-(fU D id).1) (lZ ((fU D id).2.1+1) b).1).1:=by unfold oD;rw [if_pos q]
  rw [hsv];refine (IP ((fU D id).2.1+1) s b w7 (hs.ext x7) hb hn).mono ?_;rintro e w8 ⟨s9,rfl,o9,x8⟩;have hwb:lR (lZ ((fU D id).2.1+1) b).1:=Se hb;have hwn:(lZ ((fU D id).2.1+1) b).1.length<=1099511627776:=by
   unfold lZ;split
   ·simp
   ·rename_i q3;rw [vr,tU];omega
  generalize lZ ((fU D id).2.1+1) b=wr at*;generalize 4*id+1-(fU D id).1=slot at*;have z8:=x8.size;have z2:=dp.size;have hlt7:=r7.lt;refine ⟨s9,_,rfl,x8.heap hlt7,Br.mk (λeF=> ?_) (λeF=> ?_)⟩
  ·have q2:wr.2≠0:=by simpa using eF
   rw [if_pos q2];exact ⟨rfl,same (x7.tr x8)⟩
  ·have q2:wr.2=0:=by simpa using eF
   rw [if_neg (by rw [q2];simp)];have x8d:=(x7.tr x8).tr (Ext.dr w8);have h8:=h.ext x8d;have Qj:=h.dk.rd.lt;have z7:=x7.size;refine ⟨_,h8.ptr,(Pb h8.dk aa slot s9 wr.1 (RdK.ext (iP.rM o9) (Ext.dr w8)) hwb hwn λhg=>by have:=(o9.own.lt hg).1;omega).mono ?_⟩;rintro e bS ⟨rfl,alG⟩;have afU:=h8.res alG;have Jj:∀{v:World},Mod (λi=>i=d\/m.ls.bj=some i) w8.drew v->v.heap[w2.heap.size]? =w8.drew.heap[w2.heap.size]? :=λhm=>hm.same _ (by show w2.heap.size<w8.heap.size;omega) (by
    have:=x2.size;rintro (q|q)
    ·omega
    ·have:=(h.dk.ol.own.lt q).2;omega)
   obtain ⟨m1,g1,g2,g3,g4⟩:=afU;have r12:Row bS w2 [.int .i64 (fU D id).1,.int .i64 (fU D id).2.1,s5] adY:=((r7.ext x8).ext (Ext.dr w8)).same (Jj g2);refine ⟨_,rfl,Jj g2,r12.aY (λj hj=>by simp at hj;subst hj;rfl),Br.mk (λY6=> ?_) (λY6=> ?_)⟩
   ·have q3:(fZ D slot wr.1).2≠0:=by simpa using Y6
    rw [if_pos q3];exact ⟨rfl,yi.aN x8d ⟨m1,g1,g2,g3,g4⟩⟩
   ·have q3:(fZ D slot wr.1).2=0:=by simpa using Y6
    rw [if_neg (by rw [q3];simp)];have hpl:=GA D slot wr.1;refine ⟨_,g1.ptr,(Ma g1.dk aa).mono ?_⟩;rintro e cU ⟨rfl,afV⟩;have afW:=g1.res afV;have aR:=yi.trans ⟨g1,g2,g3,g4⟩ afW;have VA:=g2.size;obtain ⟨m2,f1,f2,f3,f4⟩:=afV;refine ⟨_,rfl,f2.same _ r12.lt ?_,rfl,yi.aN x8d aR⟩;rintro (q|q)
    ·have:=x2.size;omega
    ·obtain ⟨cs',mM⟩:=aM g1.dk.ol aC q;exact r12.ne mM aC rfl
end Go.Proofs.YtalpkjfpmdpbiaaGreatDoor
