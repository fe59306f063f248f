import Derived.Test.YtalpkjfpmdpbiaaGreatDoorKB
import Derived.Test.YtalpkjfpmdpbiaaGreatDoorGS
import Derived.Test.YtalpkjfpmdpbiaaGreatDoorP
import Derived.Laws.IdiomRangeMap
import Derived.LoopTactic
set_option linter.all false
namespace Go.Proofs.YtalpkjfpmdpbiaaGreatDoor
open Go Go.Vc Go.RowKit Go.Proofs Go.dQ Go.bf Go.Code
def EJ(v:jf)(w:World):ah 263 #[.int .u16 (cI v)] w λe w'=>e=Value.int .u16 (cI (EK v))/\w'=w:=by
 apply HI.vc;have e1:kA (cI v*2 ^(min (1:Int).toNat 16))=cI (v<<<1):=MG v 1;have e2:Bw .u16 (cI v) 32768=cI (v &&& 0x8000#16):=ZM v 0x8000#16;have e3:gw .u16 (cI (v<<<1)) 4129=cI ((v<<<1) ^^^ 0x1021#16):=AB _ 0x1021#16;apply Br.mk<;>intro h
 ·rw [e2] at h;have hm:v.msb=true:=by
   cases q:v.msb with
   |true=>rfl
   |false=>rw [(MH v).2 q] at h;simp at h
  rw [e1,e3];unfold EK;rw [if_pos hm];exact ⟨rfl,rfl⟩
 ·rw [e2] at h;have hm:v.msb=false:=(MH v).1 (by simpa using h);rw [e1];unfold EK;rw [hm];exact ⟨rfl,rfl⟩
abbrev Ic:TypeId:=314
abbrev tA2:TypeId:=296
def itS:Nat->jf->jf
 |0,v=>v
 |k+1,v=>EK (itS k v)
def BW(w:World):ah 257 #[] w λe w'=>e=Value.agg tS.toArray/\Ext w w':=by
 apply OL.vc;intro w0 e0 w1 e1;have z0:=du e0;have x1:Ext w w1:=(bq e0).ay e1;have ha:Row w1 w (tT 0) Ic:=(by rw [e0];exact Row.new w (tT 0) _:Row w0 w (tT 0) Ic).ext (bq e1);have hb:Row w1 w0 (tT 0) Ic:=by rw [e1];exact Row.new w0 (tT 0) _
 refine ⟨λn i wr=>∃k:Nat,i=k/\k+n=16/\Row wr w (tT 0) Ic/\Row wr w0 (tT k) Ic/\Ext w wr,⟨16,0,rfl,rfl,ha,hb,x1⟩,?_⟩;rintro n3 U3 x5 w6 ⟨k,rfl,hk,ha6,hb6,x6⟩;apply Br.mk<;>intro hc
 ·replace hc:=fj hc;have ek:kA (kA (k:Int)*2 ^(min (12:Int).toNat 16))=cI (j5 (k:Int)<<<12):=by
   have:kA (k:Int)=cI (j5 (k:Int)):=by rw [EL aa,wrap_u16];omega
   rw [this];exact MG _ 12
  rw [ek];refine ⟨λn j c wr=>∃m:Nat,j=m/\m+n=4/\c=cI (itS m (j5 (k:Int)<<<12))/\wr=w6,⟨4,0,rfl,rfl,rfl,rfl⟩,?_⟩;rintro n9 WI bV bT cA ⟨m,rfl,hm,rfl,rfl⟩;apply Br.mk<;>intro jE
  ·replace jE:=fj jE;have wk:=lD (j:=m);refine (EJ _ _).mono ?_;rintro e cS ⟨rfl,hw⟩;exact ⟨_,rfl,n9-1,by omega,m+1,wk,by omega,rfl,hw⟩
  ·replace jE:=fh jE;have hm4:m=4:=by omega
   subst hm4;have wk:=lD (j:=k);have dY:(tT k).length=16:=by unfold tT;rw [eK,bG,sU];simp [tS];omega
   obtain ⟨p1,p2⟩:=hb6.kE (j:=k) (v:=tv k) aa rfl;have hj:((k:Int)).toNat*1=k:=by omega
   rw [hj];refine ⟨by omega,by omega,⟨rfl,p1⟩,λcC pX=> ?_⟩;obtain ⟨q1,q2⟩:=p2 cC pX;rw [show aV (tT k) k [tv k]=(tT k).set k (tv k) from rfl,ZQ aa] at q1;exact ⟨n3-1,by omega,k+1,wk,by omega,q2.row ha6 (by have:=x1.size;omega),q1,q2.ext x6 (by intro i hi;omega)⟩
 ·replace hc:=fh hc;have:k=16:=by omega
  subst this;have hl:av w6 (bu w0.heap.size) 0 tS:=hb6.bk λj hj=>by rw [cO];rfl
  have hs:=ha6.aZ (o:=0) (vs:=tS) aE (by intro v hv;simp only [tS,bI,fS,or_false] at hv;rcases hv with rfl|rfl|rfl|rfl|rfl|rfl|rfl|rfl|rfl|rfl|rfl|rfl|rfl|rfl|rfl|rfl<;>rfl);refine ⟨_,_,_,_,_,_,_,_,_,_,_,_,_,_,_,_,hl,⟨rfl,ha6.wr (o:=0) (n:=16) aE⟩,λly Ck=> ?_⟩;have aeJ:ly=w6.setRow w tS.toArray:=Ck.trans hs;have hr:Row ly w tS Ic:=by rw [aeJ];exact ha6.set tS
  have Fe:av ly (bu w.heap.size) 0 tS:=hr.bk λj hj=>by rw [cO]
  exact ⟨_,_,_,_,_,_,_,_,_,_,_,_,_,_,_,_,Fe,rfl,x6.ab aeJ (ax _)⟩
def EM(v:jf)(s:Sl)(b:List Int)(w:World)(hs:eU w s b)(hb:lR b)(hn:(b.length:Int)<=1099511627776):ah 252 #[.int .u16 (cI v),s] w λe w'=>e=Value.int .u16 (cI (qF v b))/\Ext w w':=by
 apply (Ai.vc (a1:=s));refine (BW w).mono ?_;rintro e w0 ⟨rfl,x0⟩;refine ⟨_,_,_,_,_,_,_,_,_,_,_,_,_,_,_,_,rfl,λcC pX=> ?_⟩;have Ub:Row cC w0 (tT 0) Ic:=by rw [pX];exact Row.new w0 (tT 0) _
 have hS:=Ub.aZ (o:=0) (vs:=tS) aE (by intro v hv;simp only [tS,bI,fS,or_false] at hv;rcases hv with rfl|rfl|rfl|rfl|rfl|rfl|rfl|rfl|rfl|rfl|rfl|rfl|rfl|rfl|rfl|rfl<;>rfl);refine ⟨⟨rfl,Ub.wr (o:=0) (n:=16) aE⟩,λdJ Jg=> ?_⟩;have aeK:dJ=cC.setRow w0 tS.toArray:=Jg.trans hS;have hr:Row dJ w0 tS Ic:=by rw [aeK];exact Ub.set tS
 have cn:Ext w dJ:=x0.tr ((bq pX).ab aeK (ax _));have aeL:=hs.ext cn;have j6:=hs.n;rw [aB] at j6;refine ⟨λn i c wr=>∃k:Nat,i=k/\k+n=b.length/\c=cI (qF v (b.take k))/\wr=dJ,⟨b.length,0,rfl,by omega,rfl,rfl⟩,?_⟩;rintro n us i c wr ⟨k,rfl,hk,rfl,rfl⟩;apply Br.mk<;>intro hc
 ·replace hc:=fj hc;obtain ⟨x,hx⟩:=bh (l:=b) (i:=k) aa;have Xm:=hb x (bc hx);have hm:(b.map yv)[k]? =some [.int .u8 x]:=by rw [aX,hx];rfl
  have mH:=aeL.at hm (j:=0) rfl;rw [bZ] at mH;have wk:=lD (j:=k);have ht:b.take (k+1)=b.take k++ [x]:=by rw [cu,hx];rfl
  generalize hu:qF v (b.take k)=u;refine ⟨aeL.fN aE aa hc,x,mH,?_⟩;have m1:(min (12:Int).toNat 16)=12:=rfl;have m2:(min (4:Int).toNat 8)=4:=rfl;have m3:(min (4:Int).toNat 16)=4:=rfl;rw [m1,m2,m3,S1,ag1 Xm,AB,ag2 Xm,MG];have l1:=S2 (S3 u) (XM Xm);have g1:=XN l1;have c1:=oK ((u>>>12) ^^^(j5 x>>>4));have c1':cI ((u>>>12) ^^^(j5 x>>>4))<16:=by unfold cI;omega
  refine ⟨by omega,by omega,_,(by rw [bW,cO,hr.ld,Mo];exact g1),?_⟩;rw [AB,S1,AB,MG];have l2:=S2 (S3 ((u<<<4) ^^^ BX (((u>>>12) ^^^(j5 x>>>4))<<<12))) (XO (j5 x));have g2:=XN l2;have c2:=oK ((((u<<<4) ^^^ BX (((u>>>12) ^^^(j5 x>>>4))<<<12))>>>12) ^^^(j5 x &&& 15#16));have c2':cI ((((u<<<4) ^^^ BX (((u>>>12) ^^^(j5 x>>>4))<<<12))>>>12) ^^^(j5 x &&& 15#16))<16:=by unfold cI;omega
  refine ⟨by omega,by omega,_,(by rw [bW,cO,hr.ld,Mo];exact g2),n-1,by omega,k+1,wk,by omega,?_,rfl⟩;rw [AB,O4 u Xm,ht,pT,hu];rfl
 ·replace hc:=fh hc;rw [dn aa];exact ⟨rfl,cn⟩
def za(s:Sl)(b:List Int)(w:World)(hs:eU w s b)(hb:lR b)(hn:(b.length:Int)<=1099511627776):ah 244 #[s] w λe w'=>e=Value.int .u16 (cI (jc b))/\Ext w w':=by
 apply (Zr.vc (a0:=s));have st:ah 251 #[] w λe w'=>e=Value.int .u16 (cI 0xFFFF#16)/\w'=w:=by apply OK.vc;exact ⟨rfl,rfl⟩
 refine st.mono ?_;rintro e w0 ⟨rfl,rfl⟩;refine ⟨_,rfl,(EM _ s b w0 hs hb hn).mono ?_⟩;rintro e w2 ⟨rfl,x2⟩;exact ⟨_,rfl,rfl,x2⟩
def DK(s:Sl)(b:List Int)(w:World)(hs:eU w s b)(hb:lR b)(hn:(b.length:Int)<=1099511627776):ah 237 #[s] w λe w'=>e=Value.bool (decide (2<=b.length/\jc b=0#16))/\Ext w w':=by
 apply (Sf.vc (a0:=s));have j6:=hs.n;rw [aB] at j6;apply Br.mk<;>intro h
 ·simp only [ge_iff_le,bB] at h;refine (za s b w hs hb hn).mono ?_;rintro e w0 ⟨rfl,x0⟩;refine ⟨_,rfl,?_,x0⟩;have:(cI (jc b)==0)=decide (2<=b.length/\jc b=0#16):=by
   rw [Bool.eq_iff_iff];simp only [beq_iff_eq,bB];constructor
   ·intro q;exact ⟨by omega,Ld.1 (q.trans rfl)⟩
   ·rintro ⟨-,q⟩;rw [q];rfl
  rw [this]
 ·simp only [ge_iff_le,bQ] at h;rw [decide_eq_false aa];exact ⟨rfl,Ext.ck _⟩
def BA(v:jf)(w:World):ah 245 #[.int .u16 (cI v)] w λe w'=>e=Value.agg #[.int .u8 (cI v / 256),.int .u8 (cI v % 256)]/\Ext w w':=by
 apply xD.vc;intro w0 e0;have hb:=oK v;have h0:Row w0 w [.int .u8 0,.int .u8 0] tA2:=Row.nw e0;have e1:me ((cI v).fdiv (2 ^(min (8:Int).toNat 16)))=cI v / 256:=by show me ((cI v).fdiv (2 ^ 8))=_;rw [S1,Le,wrap_u8];simp only [show (2:Int) ^ 8=256 from rfl];omega
 have e2:me (cI v)=cI v % 256:=wrap_u8 _;rw [e1,e2];have hS:=h0.aZ (o:=0) (vs:=[.int .u8 (cI v / 256),.int .u8 (cI v % 256)]) (ax 2) (nI _ _ _ _);refine ⟨⟨rfl,h0.wr (o:=0) (n:=2) aE⟩,λw1 e1=> ?_⟩;have e1':w1=w0.setRow w #[.int .u8 (cI v / 256),.int .u8 (cI v % 256)]:=e1.trans hS;have h1:Row w1 w [.int .u8 (cI v / 256),.int .u8 (cI v % 256)] tA2:=by rw [e1'];exact h0.set _
 exact ⟨_,_,h1.bk (λj hj=>by rw [cO]),rfl,(bq e0).ab e1' (ax _)⟩
end Go.Proofs.YtalpkjfpmdpbiaaGreatDoor
namespace Go.Proofs.YtalpkjfpmdpbiaaGreatDoor
open Go Go.Vc Go.RowKit Go.Proofs Go.dQ Go.bf Go.Code
abbrev tSB:TypeId:=132
def eU.n{w:World}{s:Sl}{b:List Int}(h:eU w s b):s.n=b.length:=by have:=RdK.n h;rwa [aB] at this
def vZ{b:List Int}:∀r ∈ b.map yv,r.length=1:=λr hr=>by obtain ⟨x,_,rfl⟩:=aR.1 hr;rfl
def mj(s:Sl)(b:List Int)(w:World)(hs:eU w s b)(hn:b.length<=1099511627776):
  ah 203 #[s] w λe w'=>∃s':Sl,e=s'/\iM w w' s' b/\Ext w w':=by
 have j6:=eU.n hs;apply (sM.vc (a0:=s));apply Br.mk<;>intro h
 ·have:b=[]:=by
   rcases sJ b.length with h0|h0
   ·exact sN h0
   ·have:=RdK.isSome hs aa (i:=0) (by simpa using h0)
    cases hsa:s.a<;>simp [hsa] at h this
  subst this;exact ⟨⟨none,0,0⟩,rfl,ak.nil,Ext.ck w⟩
 ·rintro w0 rfl;have xa:=Ext.al w (.cells #[] fb);have hz:ak w fb 1 (w.alloc (.cells #[] fb)) ⟨bu w.heap.size,0,0⟩ []:=ak.gg (ax _) (Row.new w [] fb) cy (ax _) rfl (λr hr=>by cases hr);have hb:=hz.ke (bytes:=1) (more:=b.map yv) xa.size vZ (uO _) (by simp only [aB];omega) (by simp only [aB];omega);rw [aB,<-j6] at hb;obtain ⟨hp,hr⟩:=hb;refine ⟨(b.map yv).flatten,RdK.flat (hs.ext xa) aa,hp,λs2 w3 aS=> ?_⟩;obtain ⟨ho,Fu,xb,_,_⟩:=hr s2 w3 aS;exact ⟨po aS (by rw [bJ vZ,aB,j6]) cy,s2,rfl,ho,xa.trans xb⟩
def DI(n:Nat)(w:World)(hn:n<=1099511627776):Calls Tryz.prog 246 #[.slice none 0 0,.int .i64 n] w λe w'=>∃s':Sl,e=.returned (.slice s'.a s'.n s'.c)/\iM w.heap.size w' s' []/\Ext w w':=by
 apply (uP.vc (a0:=⟨none,0,0⟩));have e1:IntKind.wrap .i64 ((n:Int)-IntKind.wrap .i64 (((0:Nat):Int)-((0:Nat):Int)))=n:=by rw [az (n:=((0:Nat):Int)-((0:Nat):Int)) (by unfold inI;omega),wI];omega
 refine Br.mk (λh=>by simp at h;omega) (λ_=> ?_);rw [e1];refine Br.mk (λh=> ?_) (λh=> ?_)
 ·have h0:ak w.heap.size fb 1 w ⟨none,0,0⟩ []:=ak.nil;have hb:=h0.ke (bytes:=1) (more:=(List.replicate n (yv 0))) (Nat.le_refl _) (λr hr=>by rw [(List.mem_replicate.1 hr).2];rfl) (λr hr=>by rw [(List.mem_replicate.1 hr).2];exact lG _ _) (by simp only [List.length_replicate];omega) (by simp only [List.length_replicate];omega);rw [List.length_replicate] at hb;obtain ⟨hp,hr⟩:=hb;refine ⟨by omega,by omega,⟨by omega,wI,by omega⟩,hp,λs0 w1 aS=> ?_⟩;obtain ⟨ho,Fu,xb,_,_⟩:=hr s0 w1 aS;have hle:=ak.le ho;refine ⟨by omega,by omega,⟨s0.a,0,s0.c⟩,by rw [eE];rfl,?_,xb⟩;rcases ho.form (by decide) with ⟨rfl,-⟩|⟨g,cs,ha,hg,jx,hc,UQ,ht,hl⟩
  ·exact ak.nil
  ·rw [ha];exact ak.gg hg jx hc (Nat.zero_le _) (by simp) (λr hr=>by cases hr)
 ·exact ⟨⟨none,0,0⟩,rfl,ak.nil,Ext.ck _⟩
abbrev oS(xs:List (Sl × List Int)):List Int:=xs.flatMap (·.2)
def CA(xs:List (Sl × List Int)){k:Nat}{x:Sl × List Int}(h:xs[k]? =some x):oS (xs.take (k+1))=oS (xs.take k)++x.2:=by rw [cu,h];simp [oS]
def L5(xs:List (Sl × List Int))(k:Nat):(oS (xs.take k)).length<=(oS xs).length:=by have e:=congrArg (λl=>(oS l).length) (kf k xs);simp only [List.flatMap_append,eK] at e;have h1:(oS (xs.take k)).length=(List.flatMap (λx=>x.2) (xs.take k)).length:=rfl;have h2:(oS xs).length=(List.flatMap (λx=>x.2) xs).length:=rfl;omega
def v5(s:Sl)(xs:List (Sl × List Int))(w:World)(hs:RdK w s 1 (xs.map λx=> [.slice x.1.a x.1.n x.1.c]))(hr:∀x ∈ xs,eU w x.1 x.2)(hl:xs.length<=1000)(hn:(oS xs).length<=1099511627776):
  Calls Tryz.prog 231 #[.slice s.a s.n s.c] w λe w'=>∃s':Sl,e=.returned (.slice s'.a s'.n s'.c)/\iM w.heap.size w' s' (oS xs)/\Ext w w':=by
 apply (rj.vc (a0:=s));have j6:=hs.n;rw [List.length_map] at j6;have row:∀{k:Nat} {w':World},Ext w w'->k<xs.length->∃x,xs[k]? =some x/\cB s.a (k:Int) s.n/\ld w' (ae s.a (((k:Nat):Int).toNat*1))=some (.slice x.1.a x.1.n x.1.c)/\eU w' x.1 x.2:=λ{k w'} x' hk=>by
  obtain ⟨x,hx⟩:=bh (l:=xs) (i:=k) hk;have hs':=hs.ext x';have hm:(xs.map λx=> [Value.slice x.1.a x.1.n x.1.c])[k]? =some [.slice x.1.a x.1.n x.1.c]:=by rw [List.getElem?_map,hx];rfl
  have mH:=hs'.at hm (j:=0) rfl;rw [bZ] at mH;exact ⟨x,hx,hs'.fN (by decide) (by omega) (by omega),mH,(hr x (List.mem_of_getElem? hx)).ext x'⟩
 refine ⟨λn i z wr=>∃k:Nat,i=k/\k+n=xs.length/\z=((oS (xs.take k)).length:Nat)/\wr=w,⟨xs.length,0,rfl,by omega,rfl,rfl⟩,?_⟩;rintro n us i z wr ⟨k,rfl,hk,rfl,rfl⟩;refine Br.mk (λhc=> ?_) (λhc=> ?_)
 ·simp only [decide_eq_true_eq] at hc;obtain ⟨x,hx,cV,mH,hrx⟩:=row (k:=k) (Ext.ck _) (by omega);have h1:=L5 xs (k+1);have ht:=CA xs hx;have Ws:=eU.n hrx;have wz:IntKind.wrap .i64 (((oS (xs.take k)).length:Int)+((x.1.n:Nat):Int))=((oS (xs.take (k+1))).length:Nat):=by rw [ht,List.length_append];rw [ht,List.length_append] at h1;rw [az (by unfold inI;omega)];omega
  have wk:IntKind.wrap .i64 ((k:Int)+1)=((k+1:Nat):Int):=by rw [az (by unfold inI;omega)];omega
  refine ⟨cV,x.1,mH,?_⟩;rw [wz];refine Br.mk (λh=>by simp at h;omega) (λ_=>⟨n-1,by omega,k+1,wk,by omega,rfl,rfl⟩)
 ·simp only [decide_eq_false_iff_not] at hc;rw [List.take_of_length_le (by omega)];refine (DI _ _ hn).mono ?_;rintro e w8 ⟨s9,rfl,ho,x8⟩;refine ⟨s9,rfl,λn i s UR=>∃k:Nat,i=k/\k+n=xs.length/\iM wr.heap.size UR s (oS (xs.take k))/\Ext wr UR,⟨xs.length,0,rfl,by omega,ho,x8⟩,?_⟩;rintro wM Z5 i sw cS ⟨k2,rfl,Bk,Ps,bA⟩;refine Br.mk (λjE=> ?_) (λjE=> ?_)
  ·simp only [decide_eq_true_eq] at jE;obtain ⟨x,hx,cV,mH,hrx⟩:=row (k:=k2) bA (by omega);have h1:=L5 xs (k2+1);have ht:=CA xs hx;have Ws:=eU.n hrx;have Bm:=eU.n (iM.rk Ps);rw [ht,List.length_append] at h1;have wk:IntKind.wrap .i64 ((k2:Int)+1)=((k2+1:Nat):Int):=by rw [az (by unfold inI;omega)];omega
   have hb:=ak.ke Ps (bytes:=1) (more:=x.2.map yv) bA.size vZ (uO _) (by simp only [List.length_map];omega) (by simp only [List.length_map];omega);rw [List.length_map,<-Ws] at hb;obtain ⟨hp,aS⟩:=hb;refine ⟨cV,x.1,mH,(x.2.map yv).flatten,RdK.flat hrx (by omega),hp,λoW eC Z6=> ?_⟩;obtain ⟨Wu,_,xb,_,_⟩:=aS oW eC Z6;refine ⟨wM-1,by omega,k2+1,wk,by omega,?_,bA.trans xb⟩;rw [ht];show ak _ _ _ _ _ _;rw [List.map_append];exact Wu
  ·simp only [decide_eq_false_iff_not] at jE;rw [List.take_of_length_le (by omega)] at Ps;exact ⟨sw,rfl,Ps,bA⟩
def F7(s:Sl)(b:List Int)(w:World)(hs:eU w s b)(hb:lR b)(hn:b.length+2<=1099511627776):ah 230 #[s] w λe w'=>∃s':Sl,e=s'/\iM w w' s' (pq b)/\Ext w w':=by
 apply (Vu.vc (a0:=s));refine (za s b w hs hb aa).mono ?_;rintro e w0 ⟨rfl,x0⟩;refine ⟨_,rfl,(BA _ w0).mono ?_⟩;rintro e w2 ⟨rfl,x2⟩;refine ⟨_,_,rfl,λw5 e5=> ?_⟩;have h5:Row w5 w2 [.int .u8 0,.int .u8 0] tA2:=Row.nw e5;have hS:=h5.aZ (o:=0) (vs:=[.int .u8 (cI (jc b) / 256),.int .u8 (cI (jc b) % 256)]) (ax 2) (nI _ _ _ _);refine ⟨⟨rfl,h5.wr (o:=0) (n:=2) aE⟩,λw6 e6 w7 e7=> ?_⟩;have e6':w6=w5.setRow w2 #[.int .u8 (cI (jc b) / 256),.int .u8 (cI (jc b) % 256)]:=e6.trans hS;have h6:Row w6 w2 [.int .u8 (cI (jc b) / 256),.int .u8 (cI (jc b) % 256)] tA2:=by rw [e6'];exact h5.set _
 have dc:Ext w2 w6:=(bq e5).ab e6' (ax _);have wN:=bq e7;have x7:=x0.tr (x2.tr (dc.tr wN));have hc:eU w7 ⟨bu w2.heap.size,2,2⟩ (BB b):=by
  refine ⟨rfl,vZ,λi r hi j v hj=> ?_⟩;have h7:=h6.ext wN;rw [bW,cO,h7.ld]
  match i,hi with
  |0,hi=>cases hi;match j,hj with
   |0,hj=>cases hj;rfl
  |1,hi=>cases hi;match j,hj with
   |0,hj=>cases hj;rfl
  |i+2,hi=>simp [BB] at hi
 have hl:RdK w7 ⟨bu w6.heap.size,2,2⟩ 1 ([(s,b),(⟨bu w2.heap.size,2,2⟩,BB b)].map λx=> [.slice x.1.a x.1.n x.1.c]):=by
  have h7:Row w7 w6 [s,.slice (bu w2.heap.size) 2 2] tSB:=by rw [e7,eE];exact Row.new w6 [_,_] _
  refine ⟨rfl,λr hr=>by simp at hr;rcases hr with rfl|rfl<;>rfl,λi r hi j v hj=> ?_⟩;rw [bW,cO,h7.ld]
  match i,hi with
  |0,hi=>cases hi;match j,hj with
   |0,hj=>cases hj;rfl
  |1,hi=>cases hi;match j,hj with
   |0,hj=>cases hj;rfl
  |i+2,hi=>simp at hi
 have LA:oS [(s,b),(⟨bu w2.heap.size,2,2⟩,BB b)]=pq b:=by simp [oS,pq]
 refine (v5 ⟨bu w6.heap.size,2,2⟩ [(s,b),(⟨bu w2.heap.size,2,2⟩,BB b)] w7 hl (λx hx=>by
  simp at hx;rcases hx with rfl|rfl
  ·exact hs.ext x7
  ·exact hc) (show 2<=1000 by decide) (by rw [LA,uQ];exact hn)).mono ?_
 rintro e w8 ⟨s9,rfl,ho,x8⟩;rw [LA] at ho;exact ⟨s9,rfl,s9,rfl,ak.low ho x7.size,x7.tr x8⟩
def DJ(s:Sl)(b:List Int)(w:World)(hs:eU w s b)(hb:lR b)(hc:s.n<=s.c)(hn:b.length<=1099511627776):ah 204 #[s] w λe w'=>∃s':Sl,e=Value.tuple #[s',.int .i64 (kR b).2]/\iM w w' s' (kR b).1/\Ext w w':=by
 apply (QJ.vc (a0:=s));have j6:=eU.n hs;apply Br.mk<;>intro h
 ·replace h:=fj h;have e:kR b=([],3):=by unfold kR;rw [if_pos aa]
  rw [e];exact ⟨⟨none,0,0⟩,rfl,ak.nil,Ext.ck _⟩
 ·replace h:=fh h;refine (DK s b w hs hb aa).mono ?_;rintro e w0 ⟨rfl,x0⟩;refine ⟨_,rfl,Br.mk (λh2=> ?_) (λh2=> ?_)⟩
  ·have e:kR b=([],4):=by unfold kR;rw [if_neg aa,if_neg];intro q;rw [decide_eq_true ⟨by omega,q⟩] at h2;cases h2
   rw [e];exact ⟨⟨none,0,0⟩,rfl,ak.nil,x0⟩
  ·have q:jc b=0#16:=by simp at h2;exact h2.2
   have e:kR b=(b.take (b.length-2),0):=by unfold kR;rw [if_neg aa,if_pos q]
   have wk:ai (((s.n:Nat):Int)-2)=((b.length-2:Nat):Int):=by rw [wI];omega
   rw [wk,e];have jC:eU w0 ⟨aA s.a 0 s.c 1,b.length-2,s.c-0⟩ (b.take (b.length-2)):=by have:=(hs.ext x0).cut (m:=b.length-2) (c':=s.c) (c'':=s.c-0) (by rw [aB];omega);rw [<-List.map_take] at this;exact this
   refine ⟨by omega,by omega,(mj ⟨aA s.a 0 s.c 1,b.length-2,s.c-0⟩ _ w0 jC (by rw [bG];omega)).mono ?_⟩;rintro e w2 ⟨s3,rfl,ho,x2⟩;exact ⟨s3,rfl,s3,rfl,ak.low ho x0.size,x0.tr x2⟩
end Go.Proofs.YtalpkjfpmdpbiaaGreatDoor
namespace Go.Proofs.YtalpkjfpmdpbiaaGreatDoor
open Go Go.Vc Go.RowKit Go.Proofs Go.dQ Go.bf Go.Code
def ag4(n:Int){k:Nat}(hk:k<=4):n.fdiv (2 ^(min ((8*(k:Int))).toNat 64))=n / 256 ^ k:=by
 have e:(2:Int) ^(min ((8*(k:Int))).toNat 64)=256 ^ k:=by
  rcases k with _|_|_|_|_|k
  ·rfl
  ·rfl
  ·rfl
  ·rfl
  ·rfl
  ·omega
 rw [e,Ac];exact Int.le_of_lt (Int.pow_pos aE)
def Ik(B:Nat)(s:Sl)(b:List Int)(n:Int)(m:Nat)(hm:m<=4)(w:World)(hB:B<=w.heap.size)(ho:iM B w s b)(hb:b.length<=1000):
  Calls Tryz.prog 229 #[.slice s.a s.n s.c,.int .i64 n,.int .i64 m] w λe w'=>∃s':Sl,e=.returned (.slice s'.a s'.n s'.c)/\iM B w' s' (b++be m n)/\Below B w w':=by
 apply (OJ.vc (a0:=s));have w1:IntKind.wrap .i64 ((m:Int)-1)=(m:Int)-1:=wI;refine ⟨λl x o wr=>∃k:Nat,l=k/\x=(k:Int)-1/\k<=m/\∃pre,pre++be k n=be m n/\iM B wr o (b++pre)/\Below B w wr,⟨m,m,rfl,w1,Nat.le_refl _,[],rfl,by rw [List.append_nil];exact ho,Below.refl _ _⟩,?_⟩;rintro k us x s4 w5 ⟨k',rfl,rfl,hk,pre,hp,uB,x5⟩;have dY:=congrArg List.length hp;rw [List.length_append,kG,kG] at dY;have Bm:=eU.n (iM.rk uB);rw [List.length_append] at Bm;refine Br.mk (λhc=> ?_) (λhc=> ?_)
 ·simp only [ge_iff_le,decide_eq_true_eq] at hc;obtain ⟨j,rfl⟩:∃j,k=j+1:=⟨k-1,by omega⟩;have e8:IntKind.wrap .i64 (8*(((j+1:Nat):Int)-1))=8*(j:Int):=by rw [wI];omega
  rw [e8,ag4 n (by omega),wrap_u8];refine bj.2 ⟨Dx.2 (by omega),λw7 e7=> ?_⟩;subst e7;obtain ⟨lh,aS⟩:=ak.kD uB (bytes:=1) (news:=yv (n / 256 ^ j % 256)) (.cells #[.int .u8 (n / 256 ^ j % 256)] fb) (by have:=x5.size;omega) rfl (lG _ _) (by omega) (by omega);refine ⟨lh,λs8 w9 hr=> ?_⟩;obtain ⟨f1,Pr,hn9,xb,-,-⟩:=aS s8 w9 hr;refine ⟨f1,j,by omega,j,rfl,by rw [wI];omega,by omega,pre++ [n / 256 ^ j % 256],?_,?_,x5.trans xb⟩
  ·rw [<-hp,List.append_assoc];rfl
  ·rw [<-List.append_assoc];show ak _ _ _ _ _ _;rw [List.map_append];exact Pr
 ·simp only [ge_iff_le,decide_eq_false_iff_not] at hc;have:k=0:=by omega
  subst this;have hp':pre=be m n:=by simpa [be] using hp
  rw [hp'] at uB;exact ⟨s4,rfl,uB,x5⟩
def C9(s:Sl)(b:List Int)(w:World)(hs:eU w s b)(hb:lR b)(hn:b.length<=4):ah 205 #[s] w λe w'=>e=Value.int .i64 (dT b)/\w'=w:=by
 apply (KT.vc (a0:=s));have j6:=eU.n hs;refine ⟨λl i n wr=>∃k:Nat,i=k/\k+l=b.length/\n=dT (b.take k)/\wr=w,⟨b.length,0,rfl,by omega,rfl,rfl⟩,?_⟩;rintro l us i n wr ⟨k,rfl,hk,rfl,rfl⟩;apply Br.mk<;>intro hc
 ·replace hc:=fj hc;obtain ⟨x,hx⟩:=bh (l:=b) (i:=k) aa;have Xm:=hb x (bc hx);have hm:(b.map yv)[k]? =some [.int .u8 x]:=by rw [aX,hx];rfl
  have mH:=hs.at hm (j:=0) rfl;rw [bZ] at mH;have wk:=lD (j:=k);have q7:=Ay hb (k:=k) aa;have ht:b.take (k+1)=b.take k++ [x]:=by rw [cu,hx];rfl
  refine ⟨RdK.fN hs aE aa hc,x,mH,l-1,by omega,k+1,wk,by omega,?_,rfl⟩;have e1:ai (dT (b.take k)*2 ^(min (8:Int).toNat 64))=dT (b.take k)*256:=by show ai (dT (b.take k)*256)=_;exact wI
  have e2:ai x=x:=wI;rw [e1,e2,S7 aa Xm,ht,Az]
 ·replace hc:=fh hc;rw [dn aa];exact ⟨rfl,rfl⟩
def Il(v:Int)(s:Sl)(b:List Int)(w:World)(hs:eU w s b)(hb:lR b)(hn:b.length<=1099511627776):
  Calls Tryz.prog 193 #[.int .i64 v,.slice s.a s.n s.c] w λe w'=>∃s':Sl,e=.returned (.tuple #[.slice s'.a s'.n s'.c,.int .i64 (lX v b).2])/\iM w.heap.size w' s' (lX v b).1/\Ext w w':=by
 apply (HH.vc (a1:=s));have j6:=eU.n hs;have no:(v<1\/v>1073741824\/(b.length:Int)>65536)->∃s':Sl,Ending.returned (.tuple #[.slice none 0 0,.int .i64 1])=.returned (.tuple #[.slice s'.a s'.n s'.c,.int .i64 (lX v b).2])/\iM w.heap.size w s' (lX v b).1/\Ext w w:=λh=>by
  have e:lX v b=([],1):=by unfold lX;rw [if_pos h]
  rw [e];exact ⟨⟨none,0,0⟩,rfl,ak.nil,Ext.ck _⟩
 refine Br.mk (λh=> ?_) (λh1=>Br.mk (λh=> ?_) (λh2=>Br.mk (λh=> ?_) (λh3=> ?_)))
 ·simp only [decide_eq_true_eq] at h;exact no (.inl h)
 ·simp only [gt_iff_lt,decide_eq_true_eq] at h;exact no (.inr (.inl h))
 ·simp only [gt_iff_lt,decide_eq_true_eq] at h;exact no (.inr (.inr (by omega)))
 ·simp only [gt_iff_lt,decide_eq_false_iff_not] at h1 h2 h3;have e:lX v b=(pq (xH v b),0):=by unfold lX;rw [if_neg (by omega)]
  rw [e];have p4:=Ik w.heap.size ⟨none,0,0⟩ [] v 4 (by decide) w (Nat.le_refl _) ak.nil (by simp);refine p4.mono ?_;rintro e w0 ⟨s1,rfl,o1,x0⟩;have p3:=Ik w.heap.size s1 ([]++be 4 v) ((s.n:Nat):Int) 3 (by decide) w0 x0.size o1 (by simp [kG]);refine ⟨s1,rfl,p3.mono ?_⟩;rintro e w2 ⟨s3,rfl,o3,x2⟩;refine ⟨s3,rfl,λw4 e4=> ?_⟩;have Dl:Ext w w2:=x0.trans x2;have di:Ext w2 w4:=(Ext.ck _).ay e4;have x4:=Dl.tr di;have r4:Row w4 w2.heap.size [.slice s3.a s3.n s3.c,.slice s.a s.n s.c] tSB:=by rw [e4];exact Row.new w2 [_,_] _
  have hl:RdK w4 ⟨some ⟨w2.heap.size,0,none⟩,2,2⟩ 1 ([(s3,[]++be 4 v++be 3 ((s.n:Nat):Int)),(s,b)].map λx=> [.slice x.1.a x.1.n x.1.c]):=by
   refine ⟨rfl,λr hr=>by simp at hr;rcases hr with rfl|rfl<;>rfl,λi r hi j v hj=> ?_⟩;rw [bW,Nat.zero_add,r4.ld]
   match i,hi with
   |0,hi=>cases hi;match j,hj with
    |0,hj=>cases hj;rfl
   |1,hi=>cases hi;match j,hj with
    |0,hj=>cases hj;rfl
   |i+2,hi=>simp at hi
  have LA:oS [(s3,[]++be 4 v++be 3 ((s.n:Nat):Int)),(s,b)]=xH v b:=by simp [oS,xH,j6]
  have hrl:=tk v b;refine (v5 ⟨some ⟨w2.heap.size,0,none⟩,2,2⟩ [(s3,[]++be 4 v++be 3 ((s.n:Nat):Int)),(s,b)] w4 hl (λx hx=>by
   simp only [List.mem_cons,List.not_mem_nil,or_false] at hx;rcases hx with rfl|rfl
   ·exact RdK.ext (iM.rk o3) di
   ·exact hs.ext x4) (show 2<=1000 by decide) (by rw [LA];omega)).mono ?_
  rintro e w5 ⟨s6,rfl,o6,x5⟩;rw [LA] at o6;refine ⟨s6,rfl,(F7 s6 (xH v b) w5 (iM.rk o6) (EI hb) (by omega)).mono ?_⟩;rintro e w7 ⟨s8,rfl,o8,x7⟩;have lj:=x4.tr x5;exact ⟨s8,rfl,s8,rfl,ak.low o8 lj.size,lj.tr x7⟩
def S8{b:List Int}(h:lR b):lR (kR b).1:=by
 unfold kR;split
 ·intro c hc;cases hc
 ·split
  ·exact λc hc=>h c (kh hc)
  ·intro c hc;cases hc
def S9(b:List Int):(kR b).1.length<=b.length:=by
 unfold kR;split
 ·simp
 ·split
  ·simp only [bG];omega
  ·simp
def ZU{b:List Int}(h:lR b):lR (iD b).2.1:=by
 unfold iD;split
 ·intro c hc;cases hc
 ·split
  ·intro c hc;cases hc
  ·split
   ·intro c hc;cases hc
   ·exact λc hc=>S8 h c (ow hc)
def Lf(b:List Int):(iD b).2.1.length<=b.length:=by
 have:=S9 b;unfold iD;split
 ·simp
 ·split
  ·simp
  ·split
   ·simp
   ·simp only [iw];omega
def Lg(s:Sl)(b:List Int)(w:World)(hs:eU w s b)(hb:lR b)(hc:s.n<=s.c)(hn:b.length<=1099511627776):
  ah 159 #[s] w λe w'=>∃s':Sl,e=Value.tuple #[.int .i64 (iD b).1,s',.int .i64 (iD b).2.2]/\eU w' s' (iD b).2.1/\s'.n<=s'.c/\(∀g,s'.bg=some g->w.heap.size<=g)/\Ext w w':=by
 apply (J9.vc (a0:=s));refine (DJ s b w hs hb hc hn).mono ?_;rintro e w0 ⟨s1,rfl,o1,x0⟩;have hi:=S8 hb;have hle:=S9 b;have nil:eU w0 ⟨none,0,0⟩ []:=iM.rk (ak.nil (B:=0));have h1:iD b=if (kR b).2≠0 then (0,[],(kR b).2) else if (kR b).1.length<7 then (0,[],3) else if dT ((kR b).1.take 4)<1\/dT ((kR b).1.take 4)>1073741824\/dT (((kR b).1.drop 4).take 3)>65536\/dT (((kR b).1.drop 4).take 3)≠(((kR b).1.drop 7).length:Int) then (0,[],2) else (dT ((kR b).1.take 4),(kR b).1.drop 7,0):=rfl;rw [h1];generalize kR b=t at*;obtain ⟨t1,t2⟩:=t;simp only at*;have Bm:=eU.n (iM.rk o1);have WO:=ak.le o1;refine ⟨s1,_,rfl,Br.mk (λh=> ?_) (λh=> ?_)⟩
 ·have:t2≠0:=by simpa using h
  rw [if_pos this];exact ⟨⟨none,0,0⟩,rfl,nil,ax _,(λg hg=>by cases hg),x0⟩
 ·have:t2=0:=by simpa using h
  subst this;rw [if_neg cy];apply Br.mk<;>intro h
  ·replace h:=fj h;rw [if_pos aa];exact ⟨⟨none,0,0⟩,rfl,nil,ax _,(λg hg=>by cases hg),x0⟩
  ·replace h:=fh h;rw [if_neg aa];have rd:=RdK.ext (iM.rk o1) (Ext.dr w0);have c4:eU w0.drew ⟨aA s1.a 0 s1.c 1,4-0,s1.c-0⟩ (t1.take 4):=by have:=RdK.cut rd (m:=4) (c':=s1.c) (c'':=s1.c-0) (by rw [aB];omega);rw [<-List.map_take] at this;exact this
   have c3:eU w0.drew ⟨aA s1.a 4 s1.c 1,7-4,s1.c-4⟩ ((t1.drop 4).take 3):=by have r4:=RdK.rest rd (l:=4) (m:=s1.c) (n':=t1.length-4) (c':=s1.c-4) (by rw [aB]) (by rw [aB];omega);have:=RdK.cut r4 (m:=3) (c':=7) (c'':=s1.c-4) (by rw [iw,aB];omega);rw [eE,<-List.map_drop,<-List.map_take] at this;exact this
   have c7:∀w',Ext w0 w'->eU w' ⟨aA s1.a 7 s1.c 1,s1.n-7,s1.c-7⟩ (t1.drop 7):=λw' x'=>by have:=RdK.rest (RdK.ext (iM.rk o1) x') (l:=7) (m:=s1.c) (n':=s1.n-7) (c':=s1.c-7) (by rw [aB];omega) (by rw [aB];omega);rw [<-List.map_drop] at this;exact this
   refine ⟨by omega,by omega,by omega,by omega,by omega,by omega,by omega,by omega,(C9 ⟨aA s1.a 0 s1.c 1,4-0,s1.c-0⟩ _ w0.drew c4 (λc hc=>hi c (kh hc)) (by rw [bG];omega)).mono ?_⟩;rintro e w3 ⟨rfl,hw⟩;subst hw;refine ⟨_,rfl,(C9 ⟨aA s1.a 4 s1.c 1,7-4,s1.c-4⟩ _ w0.drew c3 (λc hc=>hi c (ow (kh hc))) (by rw [bG];omega)).mono ?_⟩;rintro e w5 ⟨rfl,hw⟩;subst hw;have IG:∀g,(Sl.mk (aA s1.a 7 s1.c 1) (s1.n-7) (s1.c-7)).bg=some g->w.heap.size<=g:=λg hg=>by
    have:s1.bg=some g:=by
     unfold Sl.bg at hg ⊢;simp only [aA] at hg;split at hg
     ·exact hg
     ·cases ha:s1.a with
      |none=>rw [ha] at hg;cases hg
      |some a=>
       rw [ha] at hg;simp only [mh,Option.some.injEq,Addr.add] at hg ⊢;rw [<-hg];split<;>rfl
    exact (o1.own.lt this).1
   have xd:=x0.tr (Ext.dr w0);have nil':eU w0.drew ⟨none,0,0⟩ []:=iM.rk (ak.nil (B:=0));have PE:(t1.drop 7).length=s1.n-7:=by rw [iw];omega
   have no:(dT (t1.take 4)<1\/dT (t1.take 4)>1073741824\/dT ((t1.drop 4).take 3)>65536\/dT ((t1.drop 4).take 3)≠((t1.drop 7).length:Int))->∃s':Sl,Ending.returned (.tuple #[af,.slice none 0 0,(2:Int)])=Value.tuple #[.int .i64 (if dT (t1.take 4)<1\/dT (t1.take 4)>1073741824\/dT ((t1.drop 4).take 3)>65536\/dT ((t1.drop 4).take 3)≠((t1.drop 7).length:Int) then ((0:Int),([]:List Int),(2:Int)) else (dT (t1.take 4),t1.drop 7,0)).1,s',.int .i64 (if dT (t1.take 4)<1\/dT (t1.take 4)>1073741824\/dT ((t1.drop 4).take 3)>65536\/dT ((t1.drop 4).take 3)≠((t1.drop 7).length:Int) then ((0:Int),([]:List Int),(2:Int)) else (dT (t1.take 4),t1.drop 7,0)).2.2]/\
     eU w0.drew s' (if dT (t1.take 4)<1\/dT (t1.take 4)>1073741824\/dT ((t1.drop 4).take 3)>65536\/dT ((t1.drop 4).take 3)≠((t1.drop 7).length:Int) then ((0:Int),([]:List Int),(2:Int)) else (dT (t1.take 4),t1.drop 7,0)).2.1/\s'.n<=s'.c/\(∀g,s'.bg=some g->w.heap.size<=g)/\Ext w w0.drew:=λh=>by
    rw [if_pos h];exact ⟨⟨none,0,0⟩,rfl,nil',ax _,(λg hg=>by cases hg),xd⟩
   refine ⟨_,rfl,Br.mk (λh=>no ?_) (λq1=>Br.mk (λh=>no ?_) (λq2=>Br.mk (λh=>no ?_) (λq3=>Br.mk (λh=>no ?_) (λq4=> ?_))))⟩
   ·exact .inl (by simpa using h)
   ·exact .inr (.inl (by simpa using h))
   ·exact .inr (.inr (.inl (by simpa using h)))
   ·refine .inr (.inr (.inr ?_));rw [PE];simpa using h
   ·simp only [gt_iff_lt,bQ,bne_eq_false_iff_eq] at q1 q2 q3 q4;rw [if_neg (by
     rw [PE];simp only [not_or];exact ⟨q1,q2,q3,by rw [q4];simp⟩)]
    exact ⟨_,rfl,c7 _ (Ext.dr w0),by simp only;omega,IG,xd⟩
end Go.Proofs.YtalpkjfpmdpbiaaGreatDoor
namespace Go.Proofs.YtalpkjfpmdpbiaaGreatDoor
open Go Go.Vc Go.RowKit Go.Proofs Go.dQ Go.bf Go.Code
def N4{P:Program}{m since c0 clock r:Nat}{seen:Array Nat}{es:Array MapEntry}{w:World}{ty:TypeId}{v:Value}{w':World}(hr:w.heap[r]? =some (.mapIter (some m) since seen c0))(hm:w.heap[m]? =some (.map es clock))
  (h:(Instr.next (.pointer (bu r)) false ty).run P w=.ok v w'):w'.tape=w.tape:=by
 simp only [Instr.next,getObj,Sem.run_bind,Sem.run,hr,hm,Result.andThen] at h;split at h
 ·cases h
 ·generalize (Array.filter (λe=> !seen.contains e.born) es)=L at h;generalize (if (Array.filter (λx=>decide (x.born<since)) L).isEmpty=true then #[none] else #[])++Array.map some (Array.filter (λx=>decide (x.born<since)) L++Array.filter (λx=>decide (x.born>=since)) L)=C at h;have hch:∀j w1,(choose (Question.mapNext C.size)).run P w=.ok j w1->w1.tape=w.tape:=λj w1 h1=>by
   by_cases hf:C.size<=1
   ·simp only [choose,Sem.run,Question.forced,bB,hf,if_true] at h1
    cases h1;rfl
   ·simp only [choose,Sem.run,Question.forced,bB,hf,if_false,Question.cut] at h1
    cases h1;rfl
  rw [Sem.run_bind] at h
  cases hc:(choose (Question.mapNext C.size)).run P w with
  |ok j w1=>
   have ht:=hch j w1 hc;rw [hc] at h;simp only [Result.andThen] at h;split at h
   ·rw [Sem.run_bind] at h;simp only [setObj,Sem.run] at h;split at h
    all_goals first
     |(simp [Result.andThen] at h;done)
     |(simp only [Result.andThen,Sem.run_pure] at h;cases h;exact ht)
   ·rw [Sem.run_pure] at h;cases h;exact ht
   ·cases h
  |_=>rw [hc] at h;cases h
def Rp:Value->Int| .slice _ n _=>(n:Int)|_=>0
def dD:List MapEntry->Array Nat->Int
 | [],_=>0
 |x::l,seen=>(if seen.contains x.born then Rp x.val else 0)+dD l seen
def qT(seen:Array Nat)(b:Nat):∀(es:List MapEntry),b ∉ es.map (·.born)->dD es (seen.push b)=dD es seen
 | [],_=>rfl
 |x::l,h=>by
  have hx:(x.born==b)=false:=by
   cases hc:x.born==b with
   |false=>rfl
   |true=>exact absurd (bI.2 (Or.inl (beq_iff_eq.1 hc).symm)) h
  have ih:=qT seen b l (λe=>h (bI.2 (Or.inr e)));simp only [dD,contains_push,hx,Bool.or_false,ih]
def tn(seen:Array Nat)(e:MapEntry)(hs:seen.contains e.born=false):∀(es:List MapEntry),(es.map (·.born)).Nodup->e ∈ es->dD es (seen.push e.born)=dD es seen+Rp e.val
 |x::l,hn,he=>by
  have hn':x.born ∉ l.map (·.born)/\(l.map (·.born)).Nodup:=lF.1 hn
  rcases bI.1 he with rfl|h
  ·rw [dD,dD,qT seen _ l hn'.1,contains_push,beq_self_eq_true,Bool.or_true,hs]
   simp;omega
  ·have hx:(x.born==e.born)=false:=by
    cases hc:x.born==e.born with
    |false=>rfl
    |true=>exact absurd (aR.2 ⟨e,h,(beq_iff_eq.1 hc).symm⟩) hn'.1
   rw [dD,dD,tn seen e hs l hn'.2 h,contains_push,hx,Bool.or_false];omega
def tp:∀es:List MapEntry,dD es #[]=0
 | []=>rfl
 |x::l=>by rw [dD,tp l];simp
def Ko{es:List MapEntry}(hv:∀x ∈ es,0<=Rp x.val)(seen:Array Nat):0<=dD es seen/\dD es seen<=(es.map λx=>Rp x.val).sum:=by
 induction es with
 |nil=>exact ⟨oF _,oF _⟩
 |cons x l ih=>
  have h1:=ih λy hy=>hv y (.tail _ hy)
  have h2:=hv x (.head _);rw [dD,dE,List.sum_cons];split<;>omega
def G3(es:Array MapEntry)(seen:Array Nat)(h:(leftOf es seen).size=0):dD es.toList seen=(es.toList.map λx=>Rp x.val).sum:=by
 have jD:∀x ∈ es.toList,seen.contains x.born=true:=by
  intro x hx
  cases hc:seen.contains x.born with
  |true=>rfl
  |false=>
   have:x ∈ leftOf es seen:=Array.mem_filter.2 ⟨Array.mem_toList_iff.1 hx,by rw [hc];rfl⟩;have h0:=Array.eq_empty_of_size_eq_zero h;rw [h0] at this;simp at this
 generalize es.toList=l at jD
 induction l with
 |nil=>rfl
 |cons x l ih=>
  rw [dD,jD x (.head _),dE,List.sum_cons,ih λy hy=>jD y (.tail _ hy)];simp
set_option maxRecDepth 1000000 in
def Kq(bm:Nat)(es:Array MapEntry)(clock:Nat)(w:World)(hb:w.heap[bm]? =some (.map es clock))(lT:MapKept.Stamped es clock)(hv:∀x ∈ es.toList,∃a n c,x.val=.slice a n c)(hs:(es.toList.map λx=>Rp x.val).sum<=1099511627776):
  ah 233 #[.map (some bm)] w λe w'=>e=Value.int .i64 ((es.toList.map λx=>Rp x.val).sum)/\∃(w1:World)(seen:Array Nat),w1.Alike w/\w1.tape=w.tape/\w'=w1.alloc (.mapIter (some bm) clock seen clock):=by
 have hrg:=run_range_map (P:=Tryz.prog) w 259 qC 132 bm es clock Tryz.underlying259 hb;have UQ:∀x ∈ es.toList,0<=Rp x.val:=λx hx=>by obtain ⟨a,n,c,e⟩:=hv x hx;rw [e];exact Int.natCast_nonneg n
 go_enter Tryz.func233,Tryz.ntmps233;go_wp2;go_loopw [3] (λs w'=>∃(w1:World)(seen:Array Nat),w1.Alike w/\w1.tape=w.tape/\w'=w1.alloc (.mapIter (some bm) clock seen clock)/\s=.int .i64 (dD es.toList seen)) (λ_ w'=>(leftOf es (w'.iterSeen w)).size)
 case atStart=>exact ⟨w,#[],⟨rfl,rfl,rfl⟩,rfl,rfl,by rw [tp]⟩
 case round=>
  obtain ⟨w1,seen,hal,htp,rfl,rfl⟩:=hrel;have Qf:w1.heap.size=w.heap.size:=by rw [hal.1]
  have Fz:w1.heap[bm]? =some (.map es clock):=by rw [hal.1];exact hb
  have law:=run_next_map (P:=Tryz.prog) w1 0 bm clock clock seen es clock Fz lT.1 (ax _);rw [Qf] at law;rcases law with ⟨h0,oo⟩|⟨e,he,w2,hal2,oo⟩
  ·have hnx:∀ty,(Instr.next (.pointer (bu w.heap.size)) false ty).run Tryz.prog (w1.alloc (.mapIter (some bm) clock seen clock))=_:=λ_=>oo
   go_wp2;go_ret;rw [G3 es seen h0];exact ⟨rfl,w1,seen,hal,htp,rfl⟩
  ·obtain ⟨va,vn,vc,hval⟩:=hv e (mem_left he).1;have hr1:(w1.alloc (.mapIter (some bm) clock seen clock)).heap[w.heap.size]? =some (.mapIter (some bm) clock seen clock):=by rw [<-Qf];exact heap_alloc_new w1 _
   have hm1:(w1.alloc (.mapIter (some bm) clock seen clock)).heap[bm]? =some (.map es clock):=by rw [heap_alloc_old w1 _ (by have:=(mN.1 Fz).1;omega)];exact Fz
   have htp2:w2.tape=w1.tape:=by have:=N4 hr1 hm1 oo;exact this
   rw [hval] at oo;have hnx:∀ty,(Instr.next (.pointer (bu w.heap.size)) false ty).run Tryz.prog (w1.alloc (.mapIter (some bm) clock seen clock))=_:=λ_=>oo
   have hsz2:w2.heap.size=w.heap.size:=by rw [hal2.1,hal.1]
   have fi:w2.heap[bm]? =some (.map es clock):=by rw [hal2.1];exact Fz
   have hen:=run_entry_map (P:=Tryz.prog) w2 bm clock seen es clock e fi (mem_left he).1 lT.2.1;rw [hsz2,hval] at hen;go_wp2;go_roundw
   case rel=>
    refine ⟨w2,seen.push e.born,⟨hal2.1.trans hal.1,hal2.2.1.trans hal.2.1,hal2.2.2.trans hal.2.2⟩,htp2.trans htp,rfl,?_⟩;have hp:=tn seen e (mem_left he).2 es.toList lT.2.1 (mem_left he).1;have uf:=Ko UQ (seen.push e.born);rw [hval] at hp;have hp:dD es.toList (seen.push e.born)=dD es.toList seen+(vn:Int):=hp;have hw:Go.RowKit.wrap64 (dD es.toList seen+(vn:Int))=dD es.toList (seen.push e.born):=by unfold Go.RowKit.wrap64;omega
    exact congrArg _ hw
   case measure=>
    rw [<-hsz2,World.iterSeen_alloc,hsz2,<-Qf,World.iterSeen_alloc];exact left_shrinks es seen e he
end Go.Proofs.YtalpkjfpmdpbiaaGreatDoor
namespace Go.Proofs.YtalpkjfpmdpbiaaGreatDoor
open Go Go.Vc Go.RowKit Go.Proofs Go.dQ Go.bf Go.Code
abbrev tW:TypeId:=289
abbrev Bl:=Int × Sl × List Int
def mF(x:Bl):Value × Value:=(x.1,.slice x.2.1.a x.2.1.n x.2.1.c)
abbrev wV(x:Bl):LV:=[.int .i64 x.1,.slice x.2.1.a x.2.1.n x.2.1.c]
abbrev kb(x:Bl):kQ:=(x.1,x.2.2)
structure Kz(w:World)(x:Bl):Prop where
 o:iM 0 w x.2.1 x.2.2
 b:lR x.2.2
structure Dm where
 r:Nat
 ls:Sl
 E:List Bl
 W:List Bl
structure DO(w:World)(d:Nat)(m:Dm)(D:Dk):Prop where
 rd:Row w d [D.room,D.dt,D.wait,.map (some m.r),.slice m.ls.a m.ls.n m.ls.c] pA
 rm:bK GI w (some m.r) (m.E.map mF)
 ol:ak 0 tW 2 w m.ls (m.W.map wV)
 sf:(m.E.map kb).Perm D.safe
 sl:m.W.map kb=D.l
 bl:∀x ∈ m.E++m.W,Kz w x
 ok:iq D
def dF(d:Nat)(m:Dm)(i:Nat):Prop:=i=d\/i=m.r\/m.ls.bg=some i\/∃x ∈ m.E++m.W,x.2.1.bg=some i
def DO.lt{w:World}{d:Nat}{m:Dm}{D:Dk}(h:DO w d m D){i:Nat}(hi:dF d m i):i<w:=by
 rcases hi with rfl|rfl|e|⟨x,hx,e⟩
 ·exact h.rd.lt
 ·exact h.rm.lt
 ·exact (h.ol.own.lt e).2
 ·exact ((h.bl x hx).o.own.lt e).2
def DO.same{w w':World}{d:Nat}{m:Dm}{D:Dk}(h:DO w d m D)(hs:∀i,dF d m i->w'.heap[i]? =w.heap[i]?):DO w' d m D:=
 ⟨h.rd.same (hs _ (.inl rfl)),h.rm.same (hs _ (.inr (.inl rfl))),ak.bP h.ol λb hb=>hs b (.inr (.inr (.inl hb))),h.sf,h.sl,λx hx=>⟨ak.bP (h.bl x hx).o λb hb=>hs b (.inr (.inr (.inr ⟨x,hx,hb⟩))),(h.bl x hx).b⟩,h.ok⟩
def DO.ext{w w':World}{d:Nat}{m:Dm}{D:Dk}(h:DO w d m D)(x:Ext w w'):DO w' d m D:=h.same λi hi=>x.heap (h.lt hi)
def DO.nW{w:World}{d:Nat}{m:Dm}{D:Dk}(h:DO w d m D):m.ls.n=m.W.length/\m.W.length=D.l.length:=by have h1:=(h.ol.rd aE).n;rw [aB] at h1;exact ⟨h1,by rw [<-h.sl,aB]⟩
def DO.kind{w:World}{d:Nat}{m:Dm}{D:Dk}(h:DO w d m D){i:Nat}(hi:dF d m i):bK GI w (some i) (m.E.map mF)\/∃cs τ,Row w i cs τ/\(τ=pA\/τ=tW\/τ=fb):=by
 rcases hi with e|e|e|⟨x,hx,e⟩
 ·exact .inr ⟨_,_,e▸h.rd,.inl rfl⟩
 ·exact .inl (e▸h.rm)
 ·obtain ⟨cs,hr⟩:=aN h.ol aE e;exact .inr ⟨_,_,hr,.inr (.inl rfl)⟩
 ·obtain ⟨cs,hr⟩:=aN (h.bl x hx).o aE e;exact .inr ⟨_,_,hr,.inr (.inr rfl)⟩
def Rw(E:List Bl)(x:Bl):rE (E.map mF) (x.1) (.slice x.2.1.a x.2.1.n x.2.1.c)=(DH (λy:Bl=>y.1) E x).map mF:=by
 have key:∀y:Bl,(mF y).1=.int .i64 x.1 ↔ y.1=x.1:=λy=>by unfold mF;simp
 have ex:(∃e ∈ E.map mF,e.1=Value.int .i64 x.1) ↔ ∃y ∈ E,y.1=x.1:=by
  constructor
  ·rintro ⟨e,he,q⟩;obtain ⟨y,hy,rfl⟩:=aR.1 he;exact ⟨y,hy,(key y).1 q⟩
  ·rintro ⟨y,hy,q⟩;exact ⟨_,aR.2 ⟨y,hy,rfl⟩,(key y).2 q⟩
 unfold rE DH;by_cases h:∃y ∈ E,y.1=x.1
 ·rw [if_pos (ex.2 h),if_pos h,kd,kd];refine vU λy _=> ?_
  simp only [Function.comp];by_cases q:y.1=x.1
  ·rw [if_pos ((key y).2 q),if_pos q];unfold mF;rw [q]
  ·rw [if_neg λq'=>q ((key y).1 q'),if_neg q]
 ·rw [if_neg λq=>h (ex.1 q),if_neg h,aT];rfl
def KA{l s:List kQ}{k:Nat}{x:kQ}(h:l[k]? =some x):(l.take (k+1)).foldl lay s=lay ((l.take k).foldl lay s) x:=by rw [cu,h,iY];rfl
set_option maxRecDepth 100000 in
def vb{w:World}{d:Nat}{m:Dm}{D:Dk}(h:DO w d m D)(hW:D.l.length<=1000000000):ah 202 #[d] w λe w'=>∃(r':Nat)(E':List Bl),e=Value.map (some r')/\bK GI w' (some r') (E'.map mF)/\(E'.map kb).Perm (fV D)/\(∀x ∈ E',x ∈ m.E++m.W)/\Ext w w'/\w.heap.size<=r':=by
 apply BG.vc;obtain ⟨n1,n2⟩:=h.nW;refine ⟨some m.r,h.rd.at 3 rfl,(zP h.rm).mono ?_⟩;rintro e w1 ⟨rfl,hm,x1⟩;refine ⟨_,rfl,m.ls,(h.ext x1).rd.at 4 rfl,λn i wr=>∃(k:Nat)(E':List Bl),i=k/\k+n=m.W.length/\bK GI wr (some w.heap.size) (E'.map mF)/\(E'.map kb).Perm ((D.l.take k).foldl lay D.safe)/\(∀x ∈ E',x ∈ m.E++m.W)/\Ext w wr,
  ⟨m.W.length,0,m.E,rfl,by omega,hm,h.sf,λx hx=>ct.2 (.inl hx),x1⟩,?_⟩
 rintro n us i wr ⟨k,E',rfl,hk,hm,hp,eG,xr⟩;apply Br.mk<;>intro hc
 ·replace hc:=fj hc;obtain ⟨x,hx⟩:=bh (l:=m.W) (i:=k) aa;have hr:=(h.ext xr).ol.rd (show 0<2 by decide);have rU:(m.W.map wV)[k]? =some (wV x):=by rw [aX,hx];rfl
  have wk:=lD (j:=k);have hl:D.l[k]? =some (kb x):=by rw [<-h.sl,aX,hx];rfl
  refine ⟨RdK.fN hr aE aa hc,x.1,x.2.1,RdK.bk hr rU,λbR Bv cA ud=> ?_⟩;have cD:Ext wr cA:=(bq Bv).ab ud (ax _);refine ⟨GI,E'.map mF,Eb,rfl,hm.same (cD.heap hm.lt),⟨_,rfl⟩,λdy jX adP=> ?_⟩;rw [Rw] at adP;refine ⟨n-1,by omega,k+1,_,wk,by omega,adP,?_,λy hy=> ?_,(Mod.Ec jX).ext (xr.tr cD) λi hi=>by rw [hi];exact ax _⟩
  ·rw [KA hl];exact QF (f:=λy:Bl=>y.1) (g:=λy:Bl=>y.2.2) x hp (pF _ h.ok.nd)
  ·rcases QE hy with rfl|hy
   ·exact ct.2 (.inr (bc hx))
   ·exact eG y hy
 ·replace hc:=fh hc;rw [dn aa] at hp;exact ⟨w.heap.size,E',rfl,hm,hp,eG,xr,ax _⟩
def Rx(E:List Bl):((fE (E.map kb):Nat):Int)=(E.map λx=>(x.2.2.length:Int)).sum:=by
 induction E with
 |nil=>rfl
 |cons x t ih=>
  rw [dE,na,dE,List.sum_cons,<-ih];have:(kb x).2.length=x.2.2.length:=rfl;omega
def G9{w:World}{r:Nat}{E:List Bl}(hm:bK GI w (some r) (E.map mF))(hb:∀x ∈ E,Kz w x)(hn:fE (E.map kb)<=1099511627776):ah 233 #[.map (some r)] w λe w'=>e=Value.int .i64 (fE (E.map kb):Nat)/\Ext w w':=by
 obtain ⟨es,clock,h1,h2,h3,h4,h5,h6⟩:=hm;have hk:es.toList.map (·.key)=(E.map mF).map (·.1):=by rw [<-h2,kd];rfl
 have hv:∀x ∈ es.toList,∃y ∈ E,x.val=.slice y.2.1.a y.2.1.n y.2.1.c:=λx hx=>by
  have:(x.key,x.val) ∈ E.map mF:=by rw [<-h2];exact aR.2 ⟨x,hx,rfl⟩
  obtain ⟨y,hy,e⟩:=aR.1 this;refine ⟨y,hy,?_⟩;have:=congrArg Prod.snd e;exact this.symm
 have hs:(es.toList.map λx=>Rp x.val).sum=(fE (E.map kb):Nat):=by
  rw [Rx];have e1:(es.toList.map λx=>Rp x.val)=(E.map mF).map λe=>Rp e.2:=by rw [<-h2,kd];rfl
  rw [e1,kd];congr 1;refine vU λx hx=> ?_
  show ((x.2.1.n:Nat):Int)=_;rw [eU.n (iM.rk (hb x hx).o)]
 have lT:MapKept.Stamped es clock:=⟨h6,h5.imp λh=>Nat.ne_of_lt h,by rw [hk];exact h4⟩;refine (Kq r es clock w h1 lT (λx hx=>by obtain ⟨y,_,e⟩:=hv x hx;exact ⟨_,_,_,e⟩) (by rw [hs];omega)).mono ?_;rintro e w' ⟨rfl,w1,seen,⟨a1,a2,a3⟩,a4,rfl⟩;refine ⟨by rw [hs],?_⟩;have x1:Ext w w1:=⟨a2,a4,a3,by rw [a1];exact ax _,λi _=>by rw [a1]⟩;exact x1.ay rfl
def Ha{E:List Bl}{s:List kQ}(hp:(E.map kb).Perm s)(hn:(gz s).Nodup)(k:Int)(w:World)(hb:∀x ∈ E,Kz w x):∃(t:Sl)(b:Bool),BF (E.map mF) (k) (.slice none 0 0) (t) b/\iM 0 w t ((k8 s k).getD [])/\lR ((k8 s k).getD [])/\b=(k8 s k).isSome:=by
 have dI:(gz (E.map kb)).Nodup:=(hp.map λx:kQ=>x.1).nodup_iff.2 hn;rw [<-Oj hp dI]
 cases q:k8 (E.map kb) k with
 |none=>
  refine ⟨⟨none,0,0⟩,false,.inr ⟨rfl,rfl,λe he=> ?_⟩,ak.nil,(λc hc=>by cases hc),rfl⟩;obtain ⟨x,hx,rfl⟩:=aR.1 he;have:=vd.1 q (kb x) (aR.2 ⟨x,hx,rfl⟩);unfold mF;simpa using this
 |some b=>
  obtain ⟨x,hx,e⟩:=aR.1 ((ve dI).1 q);have e1:x.1=k:=congrArg Prod.fst e;have e2:x.2.2=b:=congrArg Prod.snd e;refine ⟨x.2.1,true,.inl ⟨rfl,aR.2 ⟨x,hx,by unfold mF;rw [e1]⟩⟩,?_,?_,rfl⟩
  ·have:=(hb x hx).o;rw [e2] at this;exact this
  ·have:=(hb x hx).b;rw [e2] at this;exact this
def Ed{s:List kQ}(hn:(gz s).Nodup)(k:Int):((k8 s k).getD []).length<=fE s:=by have:=wA hn k;omega
def Ol{w:World}{d:Nat}{m:Dm}{D:Dk}(h:DO w d m D)(hW:D.l.length<=1000000000)(k:Int):ah 158 #[d,k] w λe w'=>∃(s:Sl)(b:Bool),e=Value.tuple #[s,b]/\iM w w' s (getD D k)/\lR (getD D k)/\(getD D k).length<=1048576/\Ext w w':=by
 apply BE.vc;refine (vb h hW).mono ?_;rintro e w0 ⟨r',E',rfl,hm,hp,eG,x0,hr⟩;have hb:∀x ∈ E',Kz w0 x:=λx hx=>(h.ext x0).bl x (eG x hx)
 obtain ⟨t,b,hl,ho,WM,-⟩:=Ha hp h.ok.now k w0 hb;have hle:=Ed h.ok.now k;have II:=h.ok.Ry;have hrm:=h.ok.r;refine ⟨_,rfl,GI,_,Eb,hm,⟨k,rfl⟩,t,b,hl,(mj t _ w0 (iM.rk ho) aa).mono ?_⟩;rintro e w6 ⟨s7,rfl,o7,x6⟩;refine ⟨s7,rfl,s7,b,rfl,ak.low o7 x0.size,WM,?_,x0.tr x6⟩;show ((k8 (fV D) k).getD []).length<=_;omega
def DO.row{w w':World}{d:Nat}{m:Dm}{D:Dk}(h:DO w d m D){F W:Int}(hm:Mod (λi=>i=d) w w')(hr:Row w' d [D.room,F,W,.map (some m.r),.slice m.ls.a m.ls.n m.ls.c] pA)(aU:iq {D with dt:=F,wait:=W}):DO w' d m {D with dt:=F,wait:=W}:=by
 refine ⟨hr,hm.map h.rm λe=>h.rd.hZ h.rm e.symm,hm.gQ h.ol λb hb e=> ?_,h.sf,h.sl,λx hx=>⟨hm.gQ (h.bl x hx).o λb hb e=> ?_,(h.bl x hx).b⟩,aU⟩
 ·obtain ⟨cs,hr'⟩:=aN h.ol aE hb;exact hr'.ne h.rd aE e
 ·obtain ⟨cs,hr'⟩:=aN (h.bl x hx).o aE hb;exact hr'.ne h.rd aE e
def wB{w:World}{d:Nat}{m:Dm}{D:Dk}(h:DO w d m D):ah 232 #[d] w λe w'=>e=Value.bool (ed D).2/\DO w' d m (ed D).1/\Mod (λi=>i=d) w w':=by
 apply vf.vc;have aU:=h.ok.ask;have hw:=h.ok.w;have hf:=h.ok.f;refine ⟨D.wait,h.rd.at 2 rfl,Br.mk (λhc=> ?_) (λhc=> ?_)⟩
 ·simp only [gt_iff_lt,bB] at hc;have e:ed D=({D with wait:=0},false):=by unfold ed;rw [if_pos hc]
  have e1:ai (D.wait-1)=0:=by rw [wI];omega
  rw [e] at aU ⊢;obtain ⟨p1,p2⟩:=h.rd.kE (j:=2) (v:=.int .i64 0) cy rfl;refine ⟨_,h.rd.at 2 rfl,?_⟩;rw [e1];refine ⟨⟨rfl,p1⟩,λw2 e2=>⟨rfl,?_⟩⟩;obtain ⟨q1,q2⟩:=p2 w2 e2;exact ⟨h.row q2 q1 aU,q2⟩
 ·simp only [gt_iff_lt,bQ] at hc;refine ⟨D.dt,h.rd.at 1 rfl,Br.mk (λjE=> ?_) (λjE=> ?_)⟩
  ·simp only [gt_iff_lt,bB] at jE;have e:ed D=({D with dt:=D.dt-1},true):=by unfold ed;rw [if_neg hc,if_pos jE]
   rw [e] at aU ⊢;obtain ⟨p1,p2⟩:=h.rd.kE (j:=1) (v:=.int .i64 (ai (D.dt-1))) cy rfl;refine ⟨_,h.rd.at 1 rfl,⟨rfl,p1⟩,λw2 e2=>⟨by rw [decide_eq_true jE],?_⟩⟩;obtain ⟨q1,q2⟩:=p2 w2 e2;have e1:ai (D.dt-1)=D.dt-1:=wI;rw [e1] at q1;exact ⟨h.row q2 q1 aU,q2⟩
  ·simp only [gt_iff_lt,bQ] at jE;have e:ed D=(D,false):=by unfold ed;rw [if_neg hc,if_neg jE]
   rw [e];exact ⟨by rw [decide_eq_false jE],h,Mod.refl _ _⟩
end Go.Proofs.YtalpkjfpmdpbiaaGreatDoor
namespace Go.Proofs.YtalpkjfpmdpbiaaGreatDoor
open Go Go.Vc Go.RowKit Go.Proofs Go.dQ Go.bf Go.Code
def sT{w:World}{p:Option Addr}{v:Value}(h:ld w p=some v):av w p 0 [v]:=by show ld w (ae p 0)=_;rw [bZ];exact h
def zT(k:Int)(a:Option Addr)(n c:Nat):One [Value.int .i64 k,Value.slice a n c]:=by intro v hv;simp at hv;rcases hv with rfl|rfl<;>rfl
def Mp(D:Dk):fV (ed D).1=fV D:=by obtain ⟨e1,e2,-⟩:=fB D;unfold fV;rw [e1,e2]
def DO.XD{w:World}{d:Nat}{m:Dm}{D:Dk}(h:DO w d m D):∀b,m.ls.bg=some b->b≠d:=λb hb=>by
 obtain ⟨cs,hr⟩:=aN h.ol aE hb
 exact hr.ne h.rd aE
def Zl(w:World)(d:Nat)(m:Dm)(D:Dk)(w':World):Prop:=∃m',DO w' d m' D/\Mod (λi=>i=d\/m.ls.bg=some i) w w'/\(∀i,dF d m' i->dF d m i\/w.heap.size<=i)/\∀i,m'.ls.bg=some i->m.ls.bg=some i\/w.heap.size<=i
set_option maxRecDepth 100000 in
def Ow{w:World}{d:Nat}{m:Dm}{D:Dk}(h:DO w d m D)(hW:D.l.length<=1000000000)(key:Int)(s:Sl)(b:List Int)(hs:eU w s b)(hb:lR b)(hn:b.length<=1099511627776)(hsd:s.bg≠some d):
  ah 194 #[d,key,s] w λe w'=>e=Value.int .i64 (fT D key b).2/\Zl w d m (fT D key b).1 w':=by
 apply (BL.vc (a2:=s));have j6:=eU.n hs;refine (wB h).mono ?_;rintro e w0 ⟨rfl,h0,m0⟩;have z0:=m0.size;have Yf:Mod (λi=>i=d\/m.ls.bg=some i) w w0:=m0.mono λi _ hi=> .inl hi
 refine ⟨_,rfl,Br.mk (λhf=> ?_) (λhf=> ?_)⟩
 ·have e:fT D key b=((ed D).1,9):=by unfold fT;rw [if_pos hf]
  rw [e];exact ⟨rfl,m,h0,Yf,λi hi=> .inl hi,λi hi=> .inl hi⟩
 obtain ⟨e1,e2,e3⟩:=fB D;have mL:eU w0 s b:=m0.rdK aE hs λ_ g hg e=>hsd (e▸hg)
 refine (vb h0 (by rw [e2];exact hW)).mono ?_;rintro e w2 ⟨r',E',rfl,rU,hp,eG,x2,hr'⟩;rw [Mp] at hp;have hnd:=h.ok.now;have II:=h.ok.Ry;have hrm:=h.ok.r;have hbE:∀x ∈ E',Kz w2.drew x:=λx hx=>(h0.ext (x2.tr (Ext.dr w2))).bl x (eG x hx)
 have Xa:bK GI w2.drew (some r') (E'.map mF):=rU.same ((Ext.dr w2).heap rU.lt);obtain ⟨t,tb,hl,hto,htb,-⟩:=Ha hp hnd key w2.drew hbE;have htn:=eU.n (iM.rk hto);have M6:=Ho hnd (key,b);have hlE:fE (E'.map kb)=fE (fV D):=CU hp;simp only at M6;have hg:((k8 (fV D) key).getD []).length<=fE (fV D):=Ed hnd key;rw [<-htn] at M6 hg;have wl:ai (((fE (E'.map kb):Nat):Int)-((t.n:Nat):Int))=((fE (fV D):Nat):Int)-t.n:=by rw [hlE,wI]
 have wr:ai (D.room-((s.n:Nat):Int))=D.room-s.n:=wI;have hd0:∀{v:World},Ext w0 v->ld v (ae (bu d) 0)=some (.int .i64 D.room):=λx=>by have:=(h0.ext x).rd.at 0 rfl;rw [e3] at this;exact this
 have x2d:=x2.tr (Ext.dr w2);have WM:=G9 (w:=w2.drew) Xa hbE (by rw [hlE];omega);refine ⟨_,rfl,D.room,hd0 x2d,?_,?_⟩
 ·refine WM.mono ?_;rintro e v ⟨rfl,xv⟩;have Jv:=x2d.tr xv;refine ⟨_,rfl,sT (hd0 Jv),GI,_,Eb,Xa.same (xv.heap Xa.lt),⟨key,rfl⟩,t,tb,hl,sT (hd0 Jv),?_⟩;rw [wl,wr];apply Br.mk<;>intro hc
  ·simp only [gt_iff_lt,bB] at hc;have e:fT D key b=((ed D).1,8):=by unfold fT;rw [if_neg (by rw [hf];decide),if_pos aa]
   rw [e];have zv:=Jv.size;exact ⟨rfl,m,h0.ext Jv,Yf.trans (Mod.aM Jv),λi hi=> .inl hi,λi hi=> .inl hi⟩
  ·simp only [gt_iff_lt,bQ] at hc;have e:fT D key b=({(ed D).1 with l:=D.l++ [(key,b)]},0):=by unfold fT;rw [if_neg (by rw [hf];decide),if_neg aa]
   have aU:=h.ok.put key b;rw [e] at aU ⊢;have xvd:=Jv.tr (Ext.dr v);refine ⟨m.ls,(h0.ext xvd).rd.at 4 rfl,(mj s b v.drew (mL.ext xvd) hn).mono ?_⟩;rintro e bR ⟨gf,rfl,o13,bT⟩;have AW:=xvd.tr bT;have ny:=h0.ext AW;obtain ⟨n1,n2⟩:=ny.nW;rw [e2] at n2;refine ⟨gf,rfl,sT (ny.rd.at 4 rfl),λcm nu=> ?_⟩;subst nu;obtain ⟨Vg,aS⟩:=ak.kD ny.ol (bytes:=32) (news:=wV (key,gf,b)) (.cells #[key,gf] tW) (fm _) rfl (zT _ _ _ _) aa aa;refine ⟨Vg,λjG dy hr=> ?_⟩;obtain ⟨f1,Ue,ai7,xb,aaZ,gX⟩:=aS jG dy hr;have m16:Mod (λj=>m.ls.bg=some j) bR dy:=Mod.ri xb aaZ;have Uf:=m16.row ny.rd λq=>ny.XD _ q rfl
   obtain ⟨p1,p2⟩:=Uf.kE (j:=4) (v:=.slice jG.a jG.n jG.c) cy rfl;have UU:=AW.size;have PE:=h.rd.lt;refine ⟨f1,⟨rfl,p1⟩,λq=> ?_,λcC pX=>⟨rfl,{m with ls:=jG,W:=m.W++ [(key,gf,b)]},?_,?_,?_,?_⟩⟩
   ·rw [da] at q;have:d=bR.heap.size:=by simpa [cQ] using q
    omega
   ·obtain ⟨q1,q2⟩:=p2 cC pX;have mm:Mod (λj=>j=d\/m.ls.bg=some j) bR cC:=(m16.mono λi _ hi=> .inr hi).trans (q2.mono λi _ hi=> .inl hi);have off:∀{g:Nat} {cs:LV} {τ:TypeId},Row bR g cs τ->τ≠pA->τ≠tW->¬(g=d\/m.ls.bg=some g):=λhr' t1 t2 q=>by
     rcases q with q|q
     ·exact hr'.ne ny.rd t1 q
     ·obtain ⟨cs',mK⟩:=aN ny.ol aE q;exact hr'.ne mK t2 rfl
    refine ⟨q1,mm.map ny.rm λq=> ?_,?_,ny.sf,?_,λx hx=> ?_,aU⟩
    ·rcases q with q|q
     ·exact ny.rd.hZ ny.rm q.symm
     ·obtain ⟨cs',mK⟩:=aN ny.ol aE q;exact mK.hZ ny.rm rfl
    ·show ak 0 tW 2 cC jG ((m.W++ [(key,gf,b)]).map wV);rw [aT];refine q2.gQ Ue λg hg=> ?_
     obtain ⟨cs',mK⟩:=aN Ue aE hg;exact mK.ne Uf aE
    ·show (m.W++ [(key,gf,b)]).map kb=D.l++ [(key,b)];rw [aT,h.sl];rfl
    ·have hx:x ∈ m.E++m.W\/x=(key,gf,b):=by
      simp only [ct,bI,fS,or_false] at hx ⊢;rcases hx with hx|hx|hx
      ·exact .inl (.inl hx)
      ·exact .inl (.inr hx)
      ·exact .inr hx
     have I5:Kz bR x:=by
      rcases hx with hx|rfl
      ·exact ny.bl x hx
      ·exact ⟨ak.low o13 (fm _),hb⟩
     refine ⟨mm.gQ I5.o λg hg=> ?_,I5.b⟩;obtain ⟨cs',mK⟩:=aN I5.o aE hg;exact off mK aE aE
   ·obtain ⟨q1,q2⟩:=p2 cC pX;refine (Yf.trans (Mod.aM AW)).trans ((m16.mono λi _ hi=> .inr hi).trans (q2.mono λi _ hi=> .inl hi))
   ·rintro i (q|q|q|⟨x,hx,q⟩)
    ·exact .inl (.inl q)
    ·exact .inl (.inr (.inl q))
    ·rcases gX with q'|q'
     ·exact .inl (.inr (.inr (.inl (by rw [<-q'];exact q))))
     ·rw [q'] at q;cases q;exact .inr aa
    ·simp only [ct,bI,fS,or_false] at hx;rcases hx with hx|hx|rfl
     ·exact .inl (.inr (.inr (.inr ⟨x,ct.2 (.inl hx),q⟩)))
     ·exact .inl (.inr (.inr (.inr ⟨x,ct.2 (.inr hx),q⟩)))
     ·have:=(o13.own.lt q).1;have zv:=xvd.size;exact .inr aa
   ·intro i q;rcases gX with q'|q'
    ·exact .inl (by rw [<-q'];exact q)
    ·have q:jG.bg=some i:=q;rw [q'] at q;cases q;exact .inr aa
 ·refine ⟨GI,_,Eb,Xa,⟨key,rfl⟩,t,tb,hl,sT (hd0 x2d),WM.mono ?_⟩;rintro e v ⟨rfl,xv⟩;have Jv:=x2d.tr xv;refine ⟨_,rfl,sT (hd0 Jv),?_⟩;rw [wl,wr];apply Br.mk<;>intro hc
  ·simp only [gt_iff_lt,bB] at hc;have e:fT D key b=((ed D).1,8):=by unfold fT;rw [if_neg (by rw [hf];decide),if_pos aa]
   rw [e];have zv:=Jv.size;exact ⟨rfl,m,h0.ext Jv,Yf.trans (Mod.aM Jv),λi hi=> .inl hi,λi hi=> .inl hi⟩
  ·simp only [gt_iff_lt,bQ] at hc;have e:fT D key b=({(ed D).1 with l:=D.l++ [(key,b)]},0):=by unfold fT;rw [if_neg (by rw [hf];decide),if_neg aa]
   have aU:=h.ok.put key b;rw [e] at aU ⊢;have xvd:=Jv.tr (Ext.dr v);refine ⟨m.ls,(h0.ext xvd).rd.at 4 rfl,(mj s b v.drew (mL.ext xvd) hn).mono ?_⟩;rintro e bR ⟨gf,rfl,o13,bT⟩;have AW:=xvd.tr bT;have ny:=h0.ext AW;obtain ⟨n1,n2⟩:=ny.nW;rw [e2] at n2;refine ⟨gf,rfl,sT (ny.rd.at 4 rfl),λcm nu=> ?_⟩;subst nu;obtain ⟨Vg,aS⟩:=ak.kD ny.ol (bytes:=32) (news:=wV (key,gf,b)) (.cells #[key,gf] tW) (fm _) rfl (zT _ _ _ _) aa aa;refine ⟨Vg,λjG dy hr=> ?_⟩;obtain ⟨f1,Ue,ai7,xb,aaZ,gX⟩:=aS jG dy hr;have m16:Mod (λj=>m.ls.bg=some j) bR dy:=Mod.ri xb aaZ;have Uf:=m16.row ny.rd λq=>ny.XD _ q rfl
   obtain ⟨p1,p2⟩:=Uf.kE (j:=4) (v:=.slice jG.a jG.n jG.c) cy rfl;have UU:=AW.size;have PE:=h.rd.lt;refine ⟨f1,⟨rfl,p1⟩,λq=> ?_,λcC pX=>⟨rfl,{m with ls:=jG,W:=m.W++ [(key,gf,b)]},?_,?_,?_,?_⟩⟩
   ·rw [da] at q;have:d=bR.heap.size:=by simpa [cQ] using q
    omega
   ·obtain ⟨q1,q2⟩:=p2 cC pX;have mm:Mod (λj=>j=d\/m.ls.bg=some j) bR cC:=(m16.mono λi _ hi=> .inr hi).trans (q2.mono λi _ hi=> .inl hi);have off:∀{g:Nat} {cs:LV} {τ:TypeId},Row bR g cs τ->τ≠pA->τ≠tW->¬(g=d\/m.ls.bg=some g):=λhr' t1 t2 q=>by
     rcases q with q|q
     ·exact hr'.ne ny.rd t1 q
     ·obtain ⟨cs',mK⟩:=aN ny.ol aE q;exact hr'.ne mK t2 rfl
    refine ⟨q1,mm.map ny.rm λq=> ?_,?_,ny.sf,?_,λx hx=> ?_,aU⟩
    ·rcases q with q|q
     ·exact ny.rd.hZ ny.rm q.symm
     ·obtain ⟨cs',mK⟩:=aN ny.ol aE q;exact mK.hZ ny.rm rfl
    ·show ak 0 tW 2 cC jG ((m.W++ [(key,gf,b)]).map wV);rw [aT];refine q2.gQ Ue λg hg=> ?_
     obtain ⟨cs',mK⟩:=aN Ue aE hg;exact mK.ne Uf aE
    ·show (m.W++ [(key,gf,b)]).map kb=D.l++ [(key,b)];rw [aT,h.sl];rfl
    ·have hx:x ∈ m.E++m.W\/x=(key,gf,b):=by
      simp only [ct,bI,fS,or_false] at hx ⊢;rcases hx with hx|hx|hx
      ·exact .inl (.inl hx)
      ·exact .inl (.inr hx)
      ·exact .inr hx
     have I5:Kz bR x:=by
      rcases hx with hx|rfl
      ·exact ny.bl x hx
      ·exact ⟨ak.low o13 (fm _),hb⟩
     refine ⟨mm.gQ I5.o λg hg=> ?_,I5.b⟩;obtain ⟨cs',mK⟩:=aN I5.o aE hg;exact off mK aE aE
   ·obtain ⟨q1,q2⟩:=p2 cC pX;refine (Yf.trans (Mod.aM AW)).trans ((m16.mono λi _ hi=> .inr hi).trans (q2.mono λi _ hi=> .inl hi))
   ·rintro i (q|q|q|⟨x,hx,q⟩)
    ·exact .inl (.inl q)
    ·exact .inl (.inr (.inl q))
    ·rcases gX with q'|q'
     ·exact .inl (.inr (.inr (.inl (by rw [<-q'];exact q))))
     ·rw [q'] at q;cases q;exact .inr aa
    ·simp only [ct,bI,fS,or_false] at hx;rcases hx with hx|hx|rfl
     ·exact .inl (.inr (.inr (.inr ⟨x,ct.2 (.inl hx),q⟩)))
     ·exact .inl (.inr (.inr (.inr ⟨x,ct.2 (.inr hx),q⟩)))
     ·have:=(o13.own.lt q).1;have zv:=xvd.size;exact .inr aa
   ·intro i q;rcases gX with q'|q'
    ·exact .inl (by rw [<-q'];exact q)
    ·have q:jG.bg=some i:=q;rw [q'] at q;cases q;exact .inr aa
end Go.Proofs.YtalpkjfpmdpbiaaGreatDoor
namespace Go.Proofs.YtalpkjfpmdpbiaaGreatDoor
open Go Go.Vc Go.RowKit Go.Proofs Go.dQ Go.bf Go.Code
set_option maxRecDepth 100000 in
def Lq{w:World}{d:Nat}{m:Dm}{D:Dk}(h:DO w d m D)(hW:D.l.length<=1000000000):
  ah 195 #[d] w λe w'=>e=Value.int .i64 (iT D).2/\Zl w d m (iT D).1 w':=by
 apply Ah.vc;refine (wB h).mono ?_;rintro e w0 ⟨rfl,h0,m0⟩;have z0:=m0.size;have Yf:Mod (λi=>i=d\/m.ls.bg=some i) w w0:=m0.mono λi _ hi=> .inl hi
 have aU:=h.ok.sync;obtain ⟨e1,e2,e3⟩:=fB D;refine ⟨_,rfl,Br.mk (λhf=> ?_) (λhf=> ?_)⟩
 ·have e:iT D=((ed D).1,9):=by unfold iT;rw [if_pos hf]
  rw [e];exact ⟨rfl,m,h0,Yf,λi hi=> .inl hi,λi hi=> .inl hi⟩
 ·have e:iT D=({(ed D).1 with safe:=fV D,l:=[]},0):=by unfold iT;rw [if_neg (by rw [hf];decide)]
  rw [e] at aU ⊢;refine (vb h0 (by rw [e2];exact hW)).mono ?_;rintro e w2 ⟨r',E',rfl,rU,hp,eG,x2,hr'⟩;rw [Mp] at hp;have h2:=h0.ext x2;have z2:=x2.size;have PE:=h.rd.lt;obtain ⟨p1,p2⟩:=h2.rd.kE (j:=3) (v:=.map (some r')) cy rfl;refine ⟨_,rfl,⟨rfl,p1⟩,λw4 e4=> ?_⟩;obtain ⟨q1,q2⟩:=p2 w4 e4;obtain ⟨p3,p4⟩:=q1.kE (j:=4) (v:=.slice none 0 0) (show 4<5 by decide) rfl;refine ⟨⟨rfl,p3⟩,λw5 e5=>⟨rfl,⟨r',⟨none,0,0⟩,E',[]⟩,?_,?_,?_,λi q=>by cases q⟩⟩
  ·obtain ⟨q3,q4⟩:=p4 w5 e5;have mm:=q2.trans q4;refine ⟨q3,mm.map rU λq=>h2.rd.hZ rU q.symm,ak.nil,hp,rfl,λx hx=> ?_,aU⟩;have hx':x ∈ E':=by simpa using hx
   have I5:=h2.bl x (eG x hx');refine ⟨mm.gQ I5.o λg hg=> ?_,I5.b⟩;obtain ⟨cs',mK⟩:=aN I5.o aE hg;exact mK.ne h2.rd aE
  ·obtain ⟨q3,q4⟩:=p4 w5 e5;exact (Yf.trans (Mod.aM x2)).trans ((q2.trans q4).mono λi _ hi=> .inl hi)
  ·rintro i (q|q|q|⟨x,hx,q⟩)
   ·exact .inl (.inl q)
   ·exact .inr (by rw [q];show _<=r';omega)
   ·cases q
   ·have hx':x ∈ E':=by simpa using hx
    exact .inl (.inr (.inr (.inr ⟨x,eG x hx',q⟩)))
end Go.Proofs.YtalpkjfpmdpbiaaGreatDoor
namespace Go.Proofs.YtalpkjfpmdpbiaaGreatDoor
open Go Go.Vc Go.RowKit Go.Proofs Go.dQ Go.bf Go.Code
abbrev adb:TypeId:=186
structure SO(w:World)(st d:Nat)(m:Dm)(D:Dk):Prop where
 rs:Row w st [d] vh
 dk:DO w d m D
def sF(st d:Nat)(m:Dm)(i:Nat):Prop:=i=st\/dF d m i
def SO.lt{w:World}{st d:Nat}{m:Dm}{D:Dk}(h:SO w st d m D){i:Nat}(hi:sF st d m i):i<w:=by
 rcases hi with rfl|hi
 ·exact h.rs.lt
 ·exact h.dk.lt hi
def SO.same{w w':World}{st d:Nat}{m:Dm}{D:Dk}(h:SO w st d m D)(hs:∀i,sF st d m i->w'.heap[i]? =w.heap[i]?):SO w' st d m D:=⟨h.rs.same (hs _ (.inl rfl)),h.dk.same λi hi=>hs i (.inr hi)⟩
def SO.ext{w w':World}{st d:Nat}{m:Dm}{D:Dk}(h:SO w st d m D)(x:Ext w w'):SO w' st d m D:=h.same λi hi=>x.heap (h.lt hi)
def SO.ptr{w:World}{st d:Nat}{m:Dm}{D:Dk}(h:SO w st d m D):ld w (ae (ae (bu st) 0) 0)=some (.pointer (bu d)):=by rw [bW,bW,h.rs.ld];rfl
def Pe(room:Int)(w:World):ah 157 #[room] w λe w'=>∃d m,e=Value.pointer (bu d)/\DO w' d m ⟨min (max room 0) 1048576,0,0,[],[]⟩/\Ext w w'/\∀i,dF d m i->w.heap.size<=i:=by
 apply Q5.vc;intro w0 e0 w1 e1;have z0:=du e0;have x1:=bq e1;have hm:bK GI w0 (some w.heap.size) []:=by rw [e0];exact bK.new
 have er:(if 1048576<(if 0>room then 0 else room) then 1048576 else (if 0>room then 0 else room))=min (max room 0) 1048576:=by split<;>split<;>omega
 rw [er] at e1;refine ⟨w0.heap.size,⟨w.heap.size,⟨none,0,0⟩,[],[]⟩,rfl,⟨by rw [e1];exact Row.new w0 [_,_,_,_,_] _,hm.same (x1.heap hm.lt),ak.nil,.refl _,rfl,(λx hx=>by cases hx),⟨List.nodup_nil,λk=>by simp [fE];omega,by simp,by simp,by simp only;omega⟩⟩,(bq e0).tr x1,λi hi=> ?_⟩;rcases hi with q|q|q|⟨x,hx,-⟩
 ·omega
 ·rw [q];exact ax _
 ·cases q
 ·cases hx
def Pd(room:Int)(w:World):ah 111 #[room] w λe w'=>∃st d m,e=Value.pointer (bu st)/\SO w' st d m ⟨min (max room 0) 1048576,0,0,[],[]⟩/\Ext w w'/\∀i,sF st d m i->w.heap.size<=i:=by
 apply NG.vc;refine (Pe room w).mono ?_;rintro e w0 ⟨d,m,rfl,hd,x0,hf⟩;refine ⟨_,rfl,λw2 e2=> ?_⟩;have x2:=bq e2;have z:=x0.size;refine ⟨_,d,m,rfl,⟨by rw [e2];exact Row.new w0 [_] _,hd.ext x2⟩,x0.tr x2,λi hi=> ?_⟩;rcases hi with q|q
 ·omega
 ·exact hf i q
def yy{D:Dk}(h:iq D)(k:Int):(getD D k).length<=1048576:=by have h1:=Ed h.now k;have h2:=h.Ry;have h3:=h.r;show ((k8 (fV D) k).getD []).length<=_;omega
set_option maxRecDepth 100000 in
def IA{w:World}{st d:Nat}{m:Dm}{D:Dk}(h:SO w st d m D)(hW:D.l.length<=1000000000){id:Int}(hid:0<=id/\id<=1099511627776):
  ah 118 #[st,id] w λe w'=>∃s:Sl,e=Value.agg #[.int .i64 (fO D id).1,.int .i64 (fO D id).2.1,.slice s.a s.n s.c]/\eU w' s (fO D id).2.2/\lR (fO D id).2.2/\(fO D id).2.2.length<=1048576/\s.n<=s.c/\(∀g,s.bg=some g->w.heap.size<=g)/\Ext w w':=by
 apply xC.vc;intro w0 e0 w1 e1 w2 e2;have z0:=du e0;have z1:w1.heap.size=w.heap.size+2:=by rw [e1];simp [z0]
 have z2:w2.heap.size=w.heap.size+2:=by rw [e2,setRow_size,z1]
 have x2:Ext w w2:=((bq e0).ay e1).ab e2 aa;have k0:ai (2*id)=2*id:=wI;have k1:ai (2*id+1)=2*id+1:=wI;rw [k0,k1];obtain ⟨best,hbest⟩:∃best:Nat->Rc,best=λk=>if k=0 then (2*id+1,0,[]) else if k=1 then fA (2*id+1,0,[]) (2*id) (iD (getD D (2*id))) else fO D id:=⟨_,rfl⟩
 have b0:best 0=(2*id+1,0,[]):=by rw [hbest];rfl
 have b1:best 1=fA (best 0) (2*id) (iD (getD D (2*id))):=by rw [b0,hbest];rfl
 have b2:best 2=fA (best 1) (2*id+1) (iD (getD D (2*id+1))):=by rw [b1,b0,hbest];rfl
 have b3:best 2=fO D id:=by rw [hbest];rfl
 refine ⟨λn i sl v s wr=>∃k:Nat,i=k/\k+n=2/\sl=(best k).1/\v=(best k).2.1/\eU wr s (best k).2.2/\lR (best k).2.2/\(best k).2.2.length<=1048576/\s.n<=s.c/\(∀g,s.bg=some g->w2.heap.size<=g)/\Ext w wr/\w2.heap.size<=wr,
  ⟨2,rfl,0,rfl,rfl,by rw [b0],by rw [b0],by rw [b0];exact iM.rk (ak.nil (B:=0)),by rw [b0];exact (λc hc=>by cases hc),by rw [b0];simp,ax _,(λg hg=>by cases hg),x2,ax _⟩,?_⟩
 rintro n4 us i sl v s bL ⟨k,rfl,hk,rfl,rfl,hs,EX,kI,hsc,hsf,br,z10⟩;apply Br.mk<;>intro hc
 ·replace hc:=fj hc;have Bp:=lD (j:=k);obtain ⟨slot,hslot,hnext⟩:∃slot,([.int .i64 (2*id),.int .i64 (2*id+1)]:LV)[((k:Nat):Int).toNat*1]? =some (.int .i64 slot)/\best (k+1)=fA (best k) slot (iD (getD D slot)):=by
   rcases k with _|_|k
   ·exact ⟨_,rfl,b1⟩
   ·exact ⟨_,rfl,b2⟩
   ·omega
  have h10:=h.ext br;refine ⟨⟨by omega,by omega⟩,slot,hslot,_,h10.ptr,(Ol h10.dk hW slot).mono ?_⟩;rintro e cm ⟨t,tb,rfl,ot,WM,hle,cl⟩;have Wx:=cl.size;refine ⟨t,tb,rfl,cl.heap aa,cl.heap aa,(Lg t (getD D slot) cm (iM.rk ot) WM (ak.le ot) aa).mono ?_⟩;rintro e cC ⟨u,rfl,hu,huc,hub,cP⟩;have z17:=cP.size;have UD:=cl.tr cP;have hui:=ZU WM;have hul:=Lf (getD D slot);have bP:fA (best k) slot (iD (getD D slot))=best k->∃wM,wM<n4/\aP [af,af,.slice none 0 0]/\∃k':Nat,ai ((k:Int)+1)=(k':Int)/\k'+wM=2/\(best k).1=(best k').1/\(best k).2.1=(best k').2.1/\eU cC s (best k').2.2/\lR (best k').2.2/\(best k').2.2.length<=1048576/\s.n<=s.c/\(∀g,s.bg=some g->w2.heap.size<=g)/\Ext w cC/\w2.heap.size<=cC:=λq=>by rw [q] at hnext;exact ⟨n4-1,by omega,rfl,k+1,Bp,by omega,by rw [hnext],by rw [hnext],by rw [hnext];exact hs.ext UD,by rw [hnext];exact EX,by rw [hnext];exact kI,hsc,hsf,br.tr UD,by omega⟩
  refine ⟨_,u,_,rfl,cP.heap aa,cP.heap aa,Br.mk (λhb=>Br.mk (λfi=> ?_) (λfi=> ?_)) (λhb=> ?_)⟩
  ·have q1:=kB hb;have q2:=kB fi;have e:fA (best k) slot (iD (getD D slot))=(slot,(iD (getD D slot)).1,(iD (getD D slot)).2.1):=by unfold fA;rw [if_pos ⟨q1,q2⟩]
   rw [e] at hnext;intro ea uq;have fW:Ext w ea:=(br.tr UD).ab uq aa;have ak8:eU ea u (iD (getD D slot)).2.1:=hu.same λg hg=>by rw [uq];exact setRow_other _ _ _ _ (by have:=hub g hg;omega)
   have z21:ea.heap.size=cC.heap.size:=by rw [uq,setRow_size]
   exact ⟨n4-1,by omega,rfl,k+1,Bp,by omega,by rw [hnext],by rw [hnext],by rw [hnext];exact ak8,by rw [hnext];exact hui,by rw [hnext];simp only;omega,huc,(λg hg=>by have:=hub g hg;omega),fW,by omega⟩
  ·have q2:=kB fi;exact bP (by unfold fA;rw [if_neg λq=>q2 q.2])
  ·have q1:=kB hb;exact bP (by unfold fA;rw [if_neg λq=>q1 q.1])
 ·replace hc:=fh hc;have Bk:k=2:=by omega
  subst Bk;rw [b3] at hs EX kI ⊢;intro cx A3;refine ⟨s,rfl,hs.same λg hg=> ?_,EX,kI,hsc,λg hg=>by have:=hsf g hg;omega,br.ab A3 (ax _)⟩;rw [A3];exact setRow_other _ _ _ _ (by have:=hsf g hg;omega)
def Di(id:Int)(w:World):ah 117 #[id] w λe w'=>e=Value.bool (nH id)/\w'=w:=by
 apply NH.vc;unfold nH;apply Br.mk<;>intro h
 ·simp only [ge_iff_le,bB] at h;rw [decide_eq_true h];exact ⟨rfl,rfl⟩
 ·simp only [ge_iff_le,bQ] at h;rw [decide_eq_false h];exact ⟨rfl,rfl⟩
def IB{id:Int}:nH id=true ↔ 0<=id/\id<=1099511627776:=by unfold nH;simp
def GP{w:World}{st d:Nat}{m:Dm}{D:Dk}(h:SO w st d m D)(hW:D.l.length<=1000000000)(id:Int):
  ah 73 #[st,id] w λe w'=>∃s:Sl,e=Value.tuple #[s,.int .i64 (qh D id).2.1,.bool (qh D id).2.2]/\eU w' s (qh D id).1/\lR (qh D id).1/\(qh D id).1.length<=1048576/\s.n<=s.c/\(∀g,s.bg=some g->w.heap.size<=g)/\Ext w w':=by
 apply u5.vc;refine (Di id w).mono ?_;rintro e w0 ⟨rfl,rfl⟩;refine ⟨_,rfl,Br.mk (λhb=> ?_) (λhb=> ?_)⟩
 ·have q:¬nH id=true:=by simpa using hb
  have e:qh D id=([],0,false):=by unfold qh;rw [if_neg q]
  rw [e];exact ⟨⟨none,0,0⟩,rfl,iM.rk (ak.nil (B:=0)),(λc hc=>by cases hc),by simp,ax _,(λg hg=>by cases hg),Ext.ck _⟩
 ·have q:nH id=true:=by simpa using hb
  have e:qh D id=((fO D id).2.2,(fO D id).2.1,decide ((fO D id).2.1>0)):=by unfold qh;rw [if_pos q]
  rw [e];refine (IA h hW (IB.1 q)).mono ?_;rintro e w2 ⟨s,rfl,hs,EX,kI,hsc,hsf,x2⟩;refine ⟨_,_,s,rfl,λw6 e6 w7 e7=> ?_⟩;have x7:Ext w2 w7.drew:=((bq e6).ab e7 (ax _)).drew;exact ⟨s,rfl,hs.ext x7,EX,kI,hsc,hsf,x2.tr x7⟩
def xK(w:World)(st d:Nat)(m:Dm)(D:Dk)(w':World):Prop:=∃m',SO w' st d m' D/\Mod (λi=>i=d\/m.ls.bg=some i) w w'/\(∀i,dF d m' i->dF d m i\/w.heap.size<=i)/\∀i,m'.ls.bg=some i->m.ls.bg=some i\/w.heap.size<=i
def SO.off{w:World}{st d:Nat}{m:Dm}{D:Dk}(h:SO w st d m D):¬(st=d\/m.ls.bg=some st):=by
 rintro (q|q)
 ·exact h.rs.ne h.dk.rd aE q
 ·obtain ⟨cs',mK⟩:=aN h.dk.ol aE q;exact h.rs.ne mK aE rfl
def SO.res{w w':World}{st d:Nat}{m:Dm}{D D':Dk}(h:SO w st d m D)(hr:Zl w d m D' w'):xK w st d m D' w':=by obtain ⟨m',h1,h2,h3,h4⟩:=hr;exact ⟨m',⟨h2.row h.rs h.off,h1⟩,h2,h3,h4⟩
def xK.aM{w0 w w':World}{st d:Nat}{m:Dm}{D':Dk}(x:Ext w0 w)(hr:xK w st d m D' w'):xK w0 st d m D' w':=by obtain ⟨m',h1,h2,h3,h4⟩:=hr;have z:=x.size;exact ⟨m',h1,(Mod.aM x).trans h2,λi hi=>(h3 i hi).imp id λq=>by omega,λi hi=>(h4 i hi).imp id λq=>by omega⟩
def xK.trans{w w1 w2:World}{st d:Nat}{m m1:Dm}{D1 D2:Dk}(h1:SO w1 st d m1 D1/\Mod (λi=>i=d\/m.ls.bg=some i) w w1/\(∀i,dF d m1 i->dF d m i\/w.heap.size<=i)/\∀i,m1.ls.bg=some i->m.ls.bg=some i\/w.heap.size<=i)(h2:xK w1 st d m1 D2 w2):xK w st d m D2 w2:=by
 obtain ⟨a1,a2,a3,a4⟩:=h1;obtain ⟨m2,b1,b2,b3,b4⟩:=h2;have z:=a2.size;refine ⟨m2,b1,a2.tr b2 λi hi=> ?_,λi hi=> ?_,λi hi=> ?_⟩
 ·rcases hi with q|q
  ·exact .inl (.inl q)
  ·exact (a4 i q).imp .inr id
 ·rcases b3 i hi with q|q
  ·exact a3 i q
  ·exact .inr aa
 ·rcases b4 i hi with q|q
  ·exact a4 i q
  ·exact .inr aa
set_option maxRecDepth 100000 in
def Gg{w:World}{st d:Nat}{m:Dm}{D:Dk}(h:SO w st d m D)(hW:D.l.length<=1000000)(id:Int)(s:Sl)(b:List Int)(hs:eU w s b)(hb:lR b)(hn:b.length<=1099511627776):
  ah 151 #[st,id,s] w λe w'=>e=Value.int .i64 (ov D id b).2/\xK w st d m (ov D id b).1 w':=by
 apply (vv.vc (a2:=s));have same:∀{w':World},Ext w w'->xK w st d m D w':=λx=>⟨m,h.ext x,Mod.aM x,λi hi=> .inl hi,λi hi=> .inl hi⟩
 refine (Di id w).mono ?_;rintro e w0 ⟨rfl,rfl⟩;refine ⟨_,rfl,Br.mk (λFz=> ?_) (λFz=> ?_)⟩
 ·have q:¬nH id=true:=by simpa using Fz
  have e:ov D id b=(D,1):=by unfold ov;rw [if_neg q]
  rw [e];exact ⟨rfl,same (Ext.ck _)⟩
 ·have q:nH id=true:=by simpa using Fz
  have hid:=IB.1 q;refine (IA h aa hid).mono ?_;rintro e w2 ⟨s5,rfl,-,-,-,-,-,x2⟩;refine ⟨_,_,s5,rfl,λw6 e6 w7 e7=> ?_⟩;have r7:Row w7 w2 [.int .i64 (fO D id).1,.int .i64 (fO D id).2.1,s5] adb:=by rw [e7];exact Row.set (by rw [e6];exact Row.new w2 [_,_,_] _) _
  have dc:Ext w2 w7:=(bq e6).ab e7 (ax _);have x7:=x2.tr dc;have hv:=Xv D id;have wv:ai ((fO D id).2.1+1)=(fO D id).2.1+1:=wI;rw [wv];have kI:=FY D id;have hto:gw .i64 (fO D id).1 1=4*id+1-(fO D id).1:=by
   obtain ⟨t1,t2⟩:=QG hid;rcases kI with q|q
   ·rw [q,t1];omega
   ·rw [q,t2];omega
  rw [hto];have hsv:ov D id b=if (lX ((fO D id).2.1+1) b).2≠0 then (D,(lX ((fO D id).2.1+1) b).2)
   else if (fT D (4*id+1-(fO D id).1) (lX ((fO D id).2.1+1) b).1).2≠0 then fT D (4*id+1-(fO D id).1) (lX ((fO D id).2.1+1) b).1
   else iT (fT D (4*id+1-(fO D id).1) (lX ((fO D id).2.1+1) b).1).1:=by unfold ov;rw [if_pos q]
  rw [hsv];refine (Il ((fO D id).2.1+1) s b w7 (hs.ext x7) hb hn).mono ?_;rintro e w8 ⟨s9,rfl,o9,x8⟩;have hwb:lR (lX ((fO D id).2.1+1) b).1:=Rm hb;have hwn:(lX ((fO D id).2.1+1) b).1.length<=1099511627776:=by
   unfold lX;split
   ·simp
   ·rename_i q3;rw [uQ,tk];omega
  generalize lX ((fO D id).2.1+1) b=wr at*;generalize 4*id+1-(fO D id).1=slot at*;have z8:=x8.size;have z2:=dc.size;have hlt7:=r7.lt;refine ⟨s9,_,rfl,x8.heap hlt7,Br.mk (λfi=> ?_) (λfi=> ?_)⟩
  ·have q2:wr.2≠0:=by simpa using fi
   rw [if_pos q2];exact ⟨rfl,same (x7.tr x8)⟩
  ·have q2:wr.2=0:=by simpa using fi
   rw [if_neg (by rw [q2];simp)];have x8d:=(x7.tr x8).tr (Ext.dr w8);have h8:=h.ext x8d;have PE:=h.dk.rd.lt;have z7:=x7.size;refine ⟨_,h8.ptr,(Ow h8.dk aa slot s9 wr.1 (RdK.ext (iM.rk o9) (Ext.dr w8)) hwb hwn λhg=>by have:=(o9.own.lt hg).1;omega).mono ?_⟩;rintro e bR ⟨rfl,ak9⟩;have afq:=h8.res ak9;have IG:∀{v:World},Mod (λi=>i=d\/m.ls.bg=some i) w8.drew v->v.heap[w2.heap.size]? =w8.drew.heap[w2.heap.size]? :=λhm=>hm.same _ (by show w2.heap.size<w8.heap.size;omega) (by
    have:=x2.size;rintro (q|q)
    ·omega
    ·have:=(h.dk.ol.own.lt q).2;omega)
   obtain ⟨m1,g1,g2,g3,g4⟩:=afq;have r12:Row bR w2 [.int .i64 (fO D id).1,.int .i64 (fO D id).2.1,s5] adb:=((r7.ext x8).ext (Ext.dr w8)).same (IG g2);refine ⟨_,rfl,IG g2,r12.bk (λj hj=>by simp at hj;subst hj;rfl),Br.mk (λYg=> ?_) (λYg=> ?_)⟩
   ·have q3:(fT D slot wr.1).2≠0:=by simpa using Yg
    rw [if_pos q3];exact ⟨rfl,xK.aM x8d ⟨m1,g1,g2,g3,g4⟩⟩
   ·have q3:(fT D slot wr.1).2=0:=by simpa using Yg
    rw [if_neg (by rw [q3];simp)];have hpl:=FZ D slot wr.1;refine ⟨_,g1.ptr,(Lq g1.dk aa).mono ?_⟩;rintro e cS ⟨rfl,afr⟩;have afs:=g1.res afr;have aS:=xK.trans ⟨g1,g2,g3,g4⟩ afs;have UU:=g2.size;obtain ⟨m2,f1,f2,f3,f4⟩:=afr;refine ⟨_,rfl,f2.same _ r12.lt ?_,rfl,xK.aM x8d aS⟩;rintro (q|q)
    ·have:=x2.size;omega
    ·obtain ⟨cs',mK⟩:=aN g1.dk.ol aE q;exact r12.ne mK aE rfl
end Go.Proofs.YtalpkjfpmdpbiaaGreatDoor
