import Derived.Test.YtkkkfkopcfdmaaaGreatDoorE
import Derived.Test.YtkkkfkopcfdmaaaGreatDoorD
import Derived.Laws.IdiomRangeMap
import Derived.LoopTactic
import Derived.Test.YtkkkfkopcfdmaaaGreatDoorF
set_option linter.all false
namespace Go.Proofs.YtkkkfkopcfdmaaaGreatDoor
open Go Go.Vc Go.RowKit Go.Proofs Go.cg Go.aR Go.Code
set_option maxRecDepth 100000
set_option maxHeartbeats 8000000
def Nj(v:nt)(w:World):ae 321 #[.int .u16 (cI v)] w λe w'=>e=Value.int .u16 (cI (S9 v))/\w'=w:=by
 apply QU.vc;have e1:qW (cI v*2 ^(min (1:Int).toNat 16))=cI (v<<<1):=Xk v 1;have e2:uy .u16 (cI v) 32768=cI (v &&& 0x8000#16):=al0 v 0x8000#16;have e3:mf .u16 (cI (v<<<1)) 4129=cI ((v<<<1) ^^^ 0x1021#16):=H8 _ 0x1021#16;apply Br.mk<;>intro h
 ·rw [e2] at h;have hm:v.msb=true:=by
   cases q:v.msb with
   |true=>rfl
   |false=>rw [(Xl v).2 q] at h;simp at h
  rw [e1,e3];unfold S9;rw [if_pos hm];exact ⟨rfl,rfl⟩
 ·rw [e2] at h;have hm:v.msb=false:=(Xl v).1 (by simpa using h);rw [e1];unfold S9;rw [hm];exact ⟨rfl,rfl⟩
abbrev Rx:TypeId:=358
abbrev tA2:TypeId:=321
def itS:Nat->nt->nt
 |0,v=>v
 |k+1,v=>S9 (itS k v)
def JS(w:World):ae 310 #[] w λe w'=>e=Value.agg tS.toArray/\Ext w w':=by
 apply ZC.vc;intro w0 e0 w1 e1;have z0:=fj e0;have x1:Ext w w1:=(aQ e0).br e1;have ha:Row w1 w (tT 0) Rx:=(by rw [e0];exact Row.new w (tT 0) _:Row w0 w (tT 0) Rx).ext (aQ e1);have hb:Row w1 w0 (tT 0) Rx:=by rw [e1];exact Row.new w0 (tT 0) _
 refine ⟨λn i wr=>∃k:Nat,i=k/\k+n=16/\Row wr w (tT 0) Rx/\Row wr w0 (tT k) Rx/\Ext w wr,⟨16,0,rfl,rfl,ha,hb,x1⟩,?_⟩;rintro n3 us4 x5 w6 ⟨k,rfl,hk,ha6,hb6,x6⟩;apply Br.mk<;>intro hc
 ·replace hc:=nh hc;have ek:qW (qW (k:Int)*2 ^(min (12:Int).toNat 16))=cI (pE (k:Int)<<<12):=by
   have:qW (k:Int)=cI (pE (k:Int)):=by rw [Vd aa,wrap_u16];omega
   rw [this];exact Xk _ 12
  rw [ek];refine ⟨λn j c wr=>∃m:Nat,j=m/\m+n=4/\c=cI (itS m (pE (k:Int)<<<12))/\wr=w6,⟨4,0,rfl,rfl,rfl,rfl⟩,?_⟩;rintro n9 abr bK bW bP ⟨m,rfl,hm,rfl,rfl⟩;apply Br.mk<;>intro ky
  ·replace ky:=nh ky;have wk:=ov (j:=m);refine (Nj _ _).mono ?_;rintro e ee ⟨rfl,hw⟩;exact ⟨_,rfl,n9-1,aa,m+1,wk,aa,rfl,hw⟩
  ·replace ky:=nC ky;have hm4:m=4:=by omega
   subst hm4;have wk:=ov (j:=k);have dp:(tT k).length=16:=by unfold tT;rw [bQ,cY,HP];simp [tS];omega
   obtain ⟨p1,p2⟩:=hb6.ic (j:=k) (v:=tv k) aa rfl;have hj:((k:Int)).toNat*1=k:=by omega
   rw [hj];refine ⟨aa,aa,⟨rfl,p1⟩,λcL BX=> ?_⟩;obtain ⟨q1,q2⟩:=p2 cL BX;rw [show aP (tT k) k [tv k]=(tT k).set k (tv k) from rfl,al1 aa] at q1;exact ⟨n3-1,aa,k+1,wk,aa,q2.row ha6 (by have:=x1.size;omega),q1,q2.ext x6 (by intro i hi;omega)⟩
 ·replace hc:=nC hc;have:k=16:=by omega
  subst this;have hl:ah w6 (aD w0.heap.size) 0 tS:=hb6.bI λj hj=>by rw [eC];rfl
  have hs:=ha6.bF (o:=0) (vs:=tS) aA (by intro v hv;simp only [tS,cp,lJ,or_false] at hv;rcases hv with rfl|rfl|rfl|rfl|rfl|rfl|rfl|rfl|rfl|rfl|rfl|rfl|rfl|rfl|rfl|rfl<;>rfl);refine ⟨_,_,_,_,_,_,_,_,_,_,_,_,_,_,_,_,hl,⟨rfl,ha6.wr (o:=0) (n:=16) aA⟩,λlq e34=> ?_⟩;have atA:lq=w6.setRow w tS.toArray:=e34.trans hs;have hr:Row lq w tS Rx:=by rw [atA];exact ha6.set tS
  have N6:ah lq (aD w.heap.size) 0 tS:=hr.bI λj hj=>by rw [eC]
  exact ⟨_,_,_,_,_,_,_,_,_,_,_,_,_,_,_,_,N6,rfl,x6.ab atA (ak _)⟩
def Nk(v:nt)(s:Sl)(b:List Int)(w:World)(hs:iA w s b)(hb:mM b)(hn:(b.length:Int)<=1099511627776):ae 297 #[.int .u16 (cI v),s] w λe w'=>e=Value.int .u16 (cI (Ry v b))/\Ext w w':=by
 apply (HS.vc (a1:=s));refine (JS w).mono ?_;rintro e w0 ⟨rfl,x0⟩;refine ⟨_,_,_,_,_,_,_,_,_,_,_,_,_,_,_,_,rfl,λcL BX=> ?_⟩;have afX:Row cL w0 (tT 0) Rx:=by rw [BX];exact Row.new w0 (tT 0) _
 have hS:=afX.bF (o:=0) (vs:=tS) aA (by intro v hv;simp only [tS,cp,lJ,or_false] at hv;rcases hv with rfl|rfl|rfl|rfl|rfl|rfl|rfl|rfl|rfl|rfl|rfl|rfl|rfl|rfl|rfl|rfl<;>rfl);refine ⟨⟨rfl,afX.wr (o:=0) (n:=16) aA⟩,λdI e18=> ?_⟩;have atB:dI=cL.setRow w0 tS.toArray:=e18.trans hS;have hr:Row dI w0 tS Rx:=by rw [atB];exact afX.set tS
 have dc:Ext w dI:=x0.tr ((aQ BX).ab atB (ak _));have atD:=hs.ext dc;have uT:=hs.n;rw [aL] at uT;refine ⟨λn i c wr=>∃k:Nat,i=k/\k+n=b.length/\c=cI (Ry v (b.take k))/\wr=dI,⟨b.length,0,rfl,aa,rfl,rfl⟩,?_⟩;rintro n us i c wr ⟨k,rfl,hk,rfl,rfl⟩;apply Br.mk<;>intro hc
 ·replace hc:=nh hc;obtain ⟨x,hx⟩:=bq (l:=b) (i:=k) aa;have hxb:=hb x (aO hx);have hm:(b.map yv)[k]? =some [.int .u8 x]:=by rw [aS,hx];rfl
  have ko:=atD.at hm (j:=0) rfl;rw [fI] at ko;have wk:=ov (j:=k);have ht:b.take (k+1)=b.take k++ [x]:=by rw [dy,hx];rfl
  generalize hu:Ry v (b.take k)=u;refine ⟨atD.jd aA aa hc,x,ko,?_⟩;have m1:(min (12:Int).toNat 16)=12:=rfl;have m2:(min (4:Int).toNat 8)=4:=rfl;have m3:(min (4:Int).toNat 16)=4:=rfl;rw [m1,m2,m3,aen,aws hxb,H8,awt hxb,Xk];have l1:=aeo (aep u) (ajY hxb);have g1:=ajZ l1;have c1:=Bs ((u>>>12) ^^^(pE x>>>4));have c1':cI ((u>>>12) ^^^(pE x>>>4))<16:=by unfold cI;omega
  refine ⟨aa,aa,_,(by rw [aV,eC,hr.ld,As];exact g1),?_⟩;rw [H8,aen,H8,Xk];have l2:=aeo (aep ((u<<<4) ^^^ JT (((u>>>12) ^^^(pE x>>>4))<<<12))) (aj0 (pE x));have g2:=ajZ l2;have c2:=Bs ((((u<<<4) ^^^ JT (((u>>>12) ^^^(pE x>>>4))<<<12))>>>12) ^^^(pE x &&& 15#16));have c2':cI ((((u<<<4) ^^^ JT (((u>>>12) ^^^(pE x>>>4))<<<12))>>>12) ^^^(pE x &&& 15#16))<16:=by unfold cI;omega
  refine ⟨aa,aa,_,(by rw [aV,eC,hr.ld,As];exact g2),n-1,aa,k+1,wk,aa,?_,rfl⟩;rw [H8,Z7 u hxb,ht,Ed,hu];rfl
 ·replace hc:=nC hc;rw [fl aa];exact ⟨rfl,dc⟩
def Gx(s:Sl)(b:List Int)(w:World)(hs:iA w s b)(hb:mM b)(hn:(b.length:Int)<=1099511627776):ae 269 #[s] w λe w'=>e=Value.int .u16 (cI (sY b))/\Ext w w':=by
 apply (alL.vc (a0:=s));have st:ae 296 #[] w λe w'=>e=Value.int .u16 (cI 0xFFFF#16)/\w'=w:=by apply ZB.vc;exact ⟨rfl,rfl⟩
 refine st.mono ?_;rintro e w0 ⟨rfl,rfl⟩;refine ⟨_,rfl,(Nk _ s b w0 hs hb hn).mono ?_⟩;rintro e w2 ⟨rfl,x2⟩;exact ⟨_,rfl,rfl,x2⟩
def Mn(s:Sl)(b:List Int)(w:World)(hs:iA w s b)(hb:mM b)(hn:(b.length:Int)<=1099511627776):ae 281 #[s] w λe w'=>e=Value.bool (decide (2<=b.length/\sY b=0#16))/\Ext w w':=by
 apply (adS.vc (a0:=s));have uT:=hs.n;rw [aL] at uT;apply Br.mk<;>intro h
 ·simp only [ge_iff_le,cJ] at h;refine (Gx s b w hs hb hn).mono ?_;rintro e w0 ⟨rfl,x0⟩;refine ⟨_,rfl,?_,x0⟩;have:(cI (sY b)==0)=decide (2<=b.length/\sY b=0#16):=by
   rw [Bool.eq_iff_iff];simp only [beq_iff_eq,cJ];constructor
   ·intro q;exact ⟨aa,Ve.1 (q.trans rfl)⟩
   ·rintro ⟨-,q⟩;rw [q];rfl
  rw [this]
 ·simp only [ge_iff_le,fA] at h;rw [decide_eq_false aa];exact ⟨rfl,Ext.cG _⟩
def Jr(v:nt)(w:World):ae 270 #[.int .u16 (cI v)] w λe w'=>e=Value.agg #[.int .u8 (cI v / 256),.int .u8 (cI v % 256)]/\Ext w w':=by
 apply E5.vc;intro w0 e0;have hb:=Bs v;have h0:Row w0 w [.int .u8 0,.int .u8 0] tA2:=Row.nw e0;have e1:jn ((cI v).fdiv (2 ^(min (8:Int).toNat 16)))=cI v / 256:=by show jn ((cI v).fdiv (2 ^ 8))=_;rw [aen,Vf,wrap_u8];simp only [show (2:Int) ^ 8=256 from rfl];omega
 have e2:jn (cI v)=cI v % 256:=wrap_u8 _;rw [e1,e2];have hS:=h0.bF (o:=0) (vs:=[.int .u8 (cI v / 256),.int .u8 (cI v % 256)]) (ak 2) (B9 _ _ _ _);refine ⟨⟨rfl,h0.wr (o:=0) (n:=2) aA⟩,λw1 e1=> ?_⟩;have e1':w1=w0.setRow w #[.int .u8 (cI v / 256),.int .u8 (cI v % 256)]:=e1.trans hS;have h1:Row w1 w [.int .u8 (cI v / 256),.int .u8 (cI v % 256)] tA2:=by rw [e1'];exact h0.set _
 exact ⟨_,_,h1.bI (λj hj=>by rw [eC]),rfl,(aQ e0).ab e1' (ak _)⟩
abbrev tSB:TypeId:=62
def iA.n{w:World}{s:Sl}{b:List Int}(h:iA w s b):s.n=b.length:=by have:=RdK.n h;rwa [aL] at this
def Ws{b:List Int}:∀r ∈ b.map yv,r.length=1:=λr hr=>by obtain ⟨x,_,rfl⟩:=aU.1 hr;rfl
def qK(s:Sl)(b:List Int)(w:World)(hs:iA w s b)(hn:b.length<=1099511627776):
  ae 230 #[s] w λe w'=>∃s':Sl,e=s'/\mh w w' s' b/\Ext w w':=by
 have uT:=iA.n hs;apply (zY.vc (a0:=s));apply Br.mk<;>intro h
 ·have:b=[]:=by
   rcases Ds b.length with h0|h0
   ·exact Dw h0
   ·have:=RdK.isSome hs aa (i:=0) (by simpa using h0)
    cases hsa:s.a<;>simp [hsa] at h this
  subst this;exact ⟨⟨none,0,0⟩,rfl,ar.nil,Ext.cG w⟩
 ·rintro w0 rfl;have xa:=Ext.al w (.cells #[] je);have hz:ar w je 1 (w.alloc (.cells #[] je)) ⟨aD w.heap.size,0,0⟩ []:=ar.jA (ak _) (Row.new w [] je) bg (ak _) rfl (λr hr=>by cases hr);have hb:=hz.Jq (bytes:=1) (more:=b.map yv) xa.size Ws (acz _) (by simp only [aL];omega) (by simp only [aL];omega);rw [aL,<-uT] at hb;obtain ⟨hp,hr⟩:=hb;refine ⟨(b.map yv).flatten,RdK.flat (hs.ext xa) aa,hp,λs2 w3 bf=> ?_⟩;obtain ⟨ho,VM,xb,_,_⟩:=hr s2 w3 bf;exact ⟨qL bf (by rw [bA Ws,aL,uT]) bg,s2,rfl,ho,xa.trans xb⟩
def Mj(n:Nat)(w:World)(hn:n<=1099511627776):Calls Tryz.prog 271 #[.slice none 0 0,.int .i64 n] w λe w'=>∃s':Sl,e=.returned (.slice s'.a s'.n s'.c)/\mh w.heap.size w' s' []/\Ext w w':=by
 apply (B8.vc (a0:=⟨none,0,0⟩));have e1:IntKind.wrap .i64 ((n:Int)-IntKind.wrap .i64 (((0:Nat):Int)-((0:Nat):Int)))=n:=by rw [aK (n:=((0:Nat):Int)-((0:Nat):Int)) gA,wI];omega
 refine Br.mk (λh=>by simp at h;omega) (λ_=> ?_);rw [e1];refine Br.mk (λh=> ?_) (λh=> ?_)
 ·have h0:ar w.heap.size je 1 w ⟨none,0,0⟩ []:=ar.nil;have hb:=h0.Jq (bytes:=1) (more:=(List.replicate n (yv 0))) (Nat.le_refl _) (λr hr=>by rw [(List.mem_replicate.1 hr).2];rfl) (λr hr=>by rw [(List.mem_replicate.1 hr).2];exact vd _ _) (by simp only [List.length_replicate];omega) (by simp only [List.length_replicate];omega);rw [List.length_replicate] at hb;obtain ⟨hp,hr⟩:=hb;refine ⟨aa,aa,⟨aa,wI,aa⟩,hp,λs0 w1 bf=> ?_⟩;obtain ⟨ho,VM,xb,_,_⟩:=hr s0 w1 bf;have hle:=ar.le ho;refine ⟨aa,aa,⟨s0.a,0,s0.c⟩,by rw [dz];rfl,?_,xb⟩;rcases ho.form (by decide) with ⟨rfl,-⟩|⟨g,cs,ha,hg,c9,hc,hnn,ht,hl⟩
  ·exact ar.nil
  ·rw [ha];exact ar.jA hg c9 hc (Nat.zero_le _) (by simp) (λr hr=>by cases hr)
 ·exact ⟨⟨none,0,0⟩,rfl,ar.nil,Ext.cG _⟩
abbrev uz(xs:List (Sl × List Int)):List Int:=xs.flatMap (·.2)
def KG(xs:List (Sl × List Int)){k:Nat}{x:Sl × List Int}(h:xs[k]? =some x):uz (xs.take (k+1))=uz (xs.take k)++x.2:=by rw [dy,h];simp [uz]
def Wu(xs:List (Sl × List Int))(k:Nat):(uz (xs.take k)).length<=(uz xs).length:=by have e:=congrArg (λl=>(uz l).length) (qM k xs);simp only [List.flatMap_append,bQ] at e;have h1:(uz (xs.take k)).length=(List.flatMap (λx=>x.2) (xs.take k)).length:=rfl;have h2:(uz xs).length=(List.flatMap (λx=>x.2) xs).length:=rfl;omega
def Dx(s:Sl)(xs:List (Sl × List Int))(w:World)(hs:RdK w s 1 (xs.map λx=> [.slice x.1.a x.1.n x.1.c]))(hr:∀x ∈ xs,iA w x.1 x.2)(hl:xs.length<=1000)(hn:(uz xs).length<=1099511627776):
  Calls Tryz.prog 226 #[.slice s.a s.n s.c] w λe w'=>∃s':Sl,e=.returned (.slice s'.a s'.n s'.c)/\mh w.heap.size w' s' (uz xs)/\Ext w w':=by
 apply (yc.vc (a0:=s));have uT:=hs.n;rw [List.length_map] at uT;have row:∀{k:Nat} {w':World},Ext w w'->k<xs.length->∃x,xs[k]? =some x/\eL s.a (k:Int) s.n/\ld w' (af s.a (((k:Nat):Int).toNat*1))=some (.slice x.1.a x.1.n x.1.c)/\iA w' x.1 x.2:=λ{k w'} x' hk=>by
  obtain ⟨x,hx⟩:=bq (l:=xs) (i:=k) hk;have hs':=hs.ext x';have hm:(xs.map λx=> [Value.slice x.1.a x.1.n x.1.c])[k]? =some [.slice x.1.a x.1.n x.1.c]:=by rw [List.getElem?_map,hx];rfl
  have ko:=hs'.at hm (j:=0) rfl;rw [fI] at ko;exact ⟨x,hx,hs'.jd (by decide) (by omega) (by omega),ko,(hr x (List.mem_of_getElem? hx)).ext x'⟩
 refine ⟨λn i z wr=>∃k:Nat,i=k/\k+n=xs.length/\z=((uz (xs.take k)).length:Nat)/\wr=w,⟨xs.length,0,rfl,aa,rfl,rfl⟩,?_⟩;rintro n us i z wr ⟨k,rfl,hk,rfl,rfl⟩;refine Br.mk (λhc=> ?_) (λhc=> ?_)
 ·replace hc:=nh hc;obtain ⟨x,hx,oh,ko,hrx⟩:=row (k:=k) (Ext.cG _) (by omega);have h1:=Wu xs (k+1);have ht:=KG xs hx;have hxn:=iA.n hrx;have wz:IntKind.wrap .i64 (((uz (xs.take k)).length:Int)+((x.1.n:Nat):Int))=((uz (xs.take (k+1))).length:Nat):=by rw [ht,List.length_append];rw [ht,List.length_append] at h1;rw [wI];omega
  have wk:IntKind.wrap .i64 ((k:Int)+1)=((k+1:Nat):Int):=by rw [wI];omega
  refine ⟨oh,x.1,ko,?_⟩;dsimp only;rw [wz];refine Br.mk (λh=>by simp at h;omega) (λ_=>⟨n-1,aa,k+1,wk,aa,rfl,rfl⟩)
 ·replace hc:=nC hc;rw [List.take_of_length_le (by omega)];refine (Mj _ _ hn).mono ?_;rintro e w8 ⟨s9,rfl,ho,x8⟩;refine ⟨s9,rfl,λn i s VN=>∃k:Nat,i=k/\k+n=xs.length/\mh wr.heap.size VN s (uz (xs.take k))/\Ext wr VN,⟨xs.length,0,rfl,aa,ho,x8⟩,?_⟩;rintro tN amk i s14 ee ⟨k2,rfl,BW,aa2,cW⟩;refine Br.mk (λky=> ?_) (λky=> ?_)
  ·replace ky:=nh ky;obtain ⟨x,hx,oh,ko,hrx⟩:=row (k:=k2) cW (by omega);have h1:=Wu xs (k2+1);have ht:=KG xs hx;have hxn:=iA.n hrx;have hon:=iA.n (mh.Gw aa2);rw [ht,List.length_append] at h1;have wk:IntKind.wrap .i64 ((k2:Int)+1)=((k2+1:Nat):Int):=by rw [wI];omega
   have hb:=ar.Jq aa2 (bytes:=1) (more:=x.2.map yv) cW.size Ws (acz _) (by simp only [List.length_map];omega) (by simp only [List.length_map];omega);rw [List.length_map,<-hxn] at hb;obtain ⟨hp,bf⟩:=hb;refine ⟨oh,x.1,ko,(x.2.map yv).flatten,RdK.flat hrx (by omega),hp,λs19 fx awL=> ?_⟩;obtain ⟨awM,_,xb,_,_⟩:=bf s19 fx awL;refine ⟨tN-1,aa,k2+1,wk,aa,?_,cW.trans xb⟩;rw [ht];show ar _ _ _ _ _ _;rw [List.map_append];exact awM
  ·replace ky:=nC ky;rw [List.take_of_length_le (by omega)] at aa2;exact ⟨s14,rfl,aa2,cW⟩
def Ph(s:Sl)(b:List Int)(w:World)(hs:iA w s b)(hb:mM b)(hn:b.length+2<=1099511627776):ae 225 #[s] w λe w'=>∃s':Sl,e=s'/\mh w w' s' (dB b)/\Ext w w':=by
 apply (agZ.vc (a0:=s));refine (Gx s b w hs hb aa).mono ?_;rintro e w0 ⟨rfl,x0⟩;refine ⟨_,rfl,(Jr _ w0).mono ?_⟩;rintro e w2 ⟨rfl,x2⟩;refine ⟨_,_,rfl,λw5 e5=> ?_⟩;have h5:Row w5 w2 [.int .u8 0,.int .u8 0] tA2:=Row.nw e5;have hS:=h5.bF (o:=0) (vs:=[.int .u8 (cI (sY b) / 256),.int .u8 (cI (sY b) % 256)]) (ak 2) (B9 _ _ _ _);refine ⟨⟨rfl,h5.wr (o:=0) (n:=2) aA⟩,λw6 e6 w7 e7=> ?_⟩;have e6':w6=w5.setRow w2 #[.int .u8 (cI (sY b) / 256),.int .u8 (cI (sY b) % 256)]:=e6.trans hS;have h6:Row w6 w2 [.int .u8 (cI (sY b) / 256),.int .u8 (cI (sY b) % 256)] tA2:=by rw [e6'];exact h5.set _
 have jm:Ext w2 w6:=(aQ e5).ab e6' (ak _);have oT:=aQ e7;have x7:=x0.tr (x2.tr (jm.tr oT));have hc:iA w7 ⟨aD w2.heap.size,2,2⟩ (Mk b):=by
  refine ⟨rfl,Ws,λi r hi j v hj=> ?_⟩;have h7:=h6.ext oT;rw [aV,eC,h7.ld]
  match i,hi with
  |0,hi=>cases hi;match j,hj with
   |0,hj=>cases hj;rfl
  |1,hi=>cases hi;match j,hj with
   |0,hj=>cases hj;rfl
  |i+2,hi=>simp [Mk] at hi
 have hl:RdK w7 ⟨aD w6.heap.size,2,2⟩ 1 ([(s,b),(⟨aD w2.heap.size,2,2⟩,Mk b)].map λx=> [.slice x.1.a x.1.n x.1.c]):=by
  have h7:Row w7 w6 [s,.slice (aD w2.heap.size) 2 2] tSB:=by rw [e7,dz];exact Row.new w6 [_,_] _
  refine ⟨rfl,λr hr=>by simp at hr;rcases hr with rfl|rfl<;>rfl,λi r hi j v hj=> ?_⟩;rw [aV,eC,h7.ld]
  match i,hi with
  |0,hi=>cases hi;match j,hj with
   |0,hj=>cases hj;rfl
  |1,hi=>cases hi;match j,hj with
   |0,hj=>cases hj;rfl
  |i+2,hi=>simp at hi
 have aeY:uz [(s,b),(⟨aD w2.heap.size,2,2⟩,Mk b)]=dB b:=by simp [uz,dB]
 refine (Dx ⟨aD w6.heap.size,2,2⟩ [(s,b),(⟨aD w2.heap.size,2,2⟩,Mk b)] w7 hl (λx hx=>by
  simp at hx;rcases hx with rfl|rfl
  ·exact hs.ext x7
  ·exact hc) (show 2<=1000 by decide) (by rw [aeY,B7];exact hn)).mono ?_
 rintro e w8 ⟨s9,rfl,ho,x8⟩;rw [aeY] at ho;exact ⟨s9,rfl,s9,rfl,ar.low ho x7.size,x7.tr x8⟩
def Ml(s:Sl)(b:List Int)(w:World)(hs:iA w s b)(hb:mM b)(hc:s.n<=s.c)(hn:b.length<=1099511627776):ae 246 #[s] w λe w'=>∃s':Sl,e=Value.tuple #[s',.int .i64 (ve b).2]/\mh w w' s' (ve b).1/\Ext w w':=by
 apply (acA.vc (a0:=s));have uT:=iA.n hs;apply Br.mk<;>intro h
 ·replace h:=nh h;have e:ve b=([],3):=by unfold ve;rw [if_pos aa]
  rw [e];exact ⟨⟨none,0,0⟩,rfl,ar.nil,Ext.cG _⟩
 ·replace h:=nC h;refine (Mn s b w hs hb aa).mono ?_;rintro e w0 ⟨rfl,x0⟩;refine ⟨_,rfl,Br.mk (λh2=> ?_) (λh2=> ?_)⟩
  ·have e:ve b=([],4):=by unfold ve;rw [if_neg aa,if_neg];intro q;rw [decide_eq_true ⟨aa,q⟩] at h2;cases h2
   rw [e];exact ⟨⟨none,0,0⟩,rfl,ar.nil,x0⟩
  ·have q:sY b=0#16:=by simp at h2;exact h2.2
   have e:ve b=(b.take (b.length-2),0):=by unfold ve;rw [if_neg aa,if_pos q]
   have wk:aw (((s.n:Nat):Int)-2)=((b.length-2:Nat):Int):=by rw [wI];omega
   rw [wk,e];have mZ:iA w0 ⟨aI s.a 0 s.c 1,b.length-2,s.c-0⟩ (b.take (b.length-2)):=by have:=(hs.ext x0).cut (m:=b.length-2) (c':=s.c) (c'':=s.c-0) (by rw [aL];omega);rw [<-List.map_take] at this;exact this
   refine ⟨aa,aa,(qK ⟨aI s.a 0 s.c 1,b.length-2,s.c-0⟩ _ w0 mZ (by rw [cY];omega)).mono ?_⟩;rintro e w2 ⟨s3,rfl,ho,x2⟩;exact ⟨s3,rfl,s3,rfl,ar.low ho x0.size,x0.tr x2⟩
def awu(n:Int){k:Nat}(hk:k<=4):n.fdiv (2 ^(min ((8*(k:Int))).toNat 64))=n / 256 ^ k:=by
 have e:(2:Int) ^(min ((8*(k:Int))).toNat 64)=256 ^ k:=by
  rcases k with _|_|_|_|_|k
  ·rfl
  ·rfl
  ·rfl
  ·rfl
  ·rfl
  ·omega
 rw [e,ud];exact Int.le_of_lt (Int.pow_pos aA)
def RJ(B:Nat)(s:Sl)(b:List Int)(n:Int)(m:Nat)(hm:m<=4)(w:World)(hB:B<=w.heap.size)(ho:mh B w s b)(hb:b.length<=1000):
  Calls Tryz.prog 224 #[.slice s.a s.n s.c,.int .i64 n,.int .i64 m] w λe w'=>∃s':Sl,e=.returned (.slice s'.a s'.n s'.c)/\mh B w' s' (b++be m n)/\Below B w w':=by
 apply (ZA.vc (a0:=s));have w1:IntKind.wrap .i64 ((m:Int)-1)=(m:Int)-1:=wI;refine ⟨λl x o wr=>∃k:Nat,l=k/\x=(k:Int)-1/\k<=m/\∃pre,pre++be k n=be m n/\mh B wr o (b++pre)/\Below B w wr,⟨m,m,rfl,w1,Nat.le_refl _,[],rfl,by rw [List.append_nil];exact ho,Below.refl _ _⟩,?_⟩;rintro k us x s4 w5 ⟨k',rfl,rfl,hk,pre,hp,ho5,x5⟩;have dp:=congrArg List.length hp;rw [List.length_append,yU,yU] at dp;have hon:=iA.n (mh.Gw ho5);rw [List.length_append] at hon;refine Br.mk (λhc=> ?_) (λhc=> ?_)
 ·simp only [ge_iff_le,decide_eq_true_eq] at hc;obtain ⟨j,rfl⟩:∃j,k=j+1:=⟨k-1,aa⟩;have e8:IntKind.wrap .i64 (8*(((j+1:Nat):Int)-1))=8*(j:Int):=by rw [wI];omega
  rw [e8,awu n (by omega),wrap_u8];refine bz.2 ⟨FB.2 (by omega),λw7 e7=> ?_⟩;subst e7;obtain ⟨aox,bf⟩:=ar.j9 ho5 (bytes:=1) (news:=yv (n / 256 ^ j % 256)) (.cells #[.int .u8 (n / 256 ^ j % 256)] je) (by have:=x5.size;omega) rfl (vd _ _) (by omega) (by omega);refine ⟨aox,λs8 w9 hr=> ?_⟩;obtain ⟨f1,ho9,hn9,xb,-,-⟩:=bf s8 w9 hr;refine ⟨f1,j,aa,j,rfl,by rw [wI];omega,aa,pre++ [n / 256 ^ j % 256],?_,?_,x5.trans xb⟩
  ·rw [<-hp,List.append_assoc];rfl
  ·rw [<-List.append_assoc];show ar _ _ _ _ _ _;rw [List.map_append];exact ho9
 ·simp only [ge_iff_le,decide_eq_false_iff_not] at hc;have:k=0:=by omega
  subst this;have hp':pre=be m n:=by simpa [be] using hp
  rw [hp'] at ho5;exact ⟨s4,rfl,ho5,x5⟩
def LD(s:Sl)(b:List Int)(w:World)(hs:iA w s b)(hb:mM b)(hn:b.length<=4):ae 247 #[s] w λe w'=>e=Value.int .i64 (eF b)/\w'=w:=by
 apply (UP.vc (a0:=s));have uT:=iA.n hs;refine ⟨λl i n wr=>∃k:Nat,i=k/\k+l=b.length/\n=eF (b.take k)/\wr=w,⟨b.length,0,rfl,aa,rfl,rfl⟩,?_⟩;rintro l us i n wr ⟨k,rfl,hk,rfl,rfl⟩;apply Br.mk<;>intro hc
 ·replace hc:=nh hc;obtain ⟨x,hx⟩:=bq (l:=b) (i:=k) aa;have hxb:=hb x (aO hx);have hm:(b.map yv)[k]? =some [.int .u8 x]:=by rw [aS,hx];rfl
  have ko:=hs.at hm (j:=0) rfl;rw [fI] at ko;have wk:=ov (j:=k);have hsm:=Vp hb (k:=k) aa;have ht:b.take (k+1)=b.take k++ [x]:=by rw [dy,hx];rfl
  refine ⟨RdK.jd hs aA aa hc,x,ko,l-1,aa,k+1,wk,aa,?_,rfl⟩;have e1:aw (eF (b.take k)*2 ^(min (8:Int).toNat 64))=eF (b.take k)*256:=by show aw (eF (b.take k)*256)=_;exact wI
  have e2:aw x=x:=wI;rw [e1,e2,RK aa hxb,ht,H9]
 ·replace hc:=nC hc;rw [fl aa];exact ⟨rfl,rfl⟩
def RL(v:Int)(s:Sl)(b:List Int)(w:World)(hs:iA w s b)(hb:mM b)(hn:b.length<=1099511627776):
  Calls Tryz.prog 163 #[.int .i64 v,.slice s.a s.n s.c] w λe w'=>∃s':Sl,e=.returned (.tuple #[.slice s'.a s'.n s'.c,.int .i64 (zG v b).2])/\mh w.heap.size w' s' (zG v b).1/\Ext w w':=by
 apply (QT.vc (a1:=s));have uT:=iA.n hs;have no:(v<1\/v>1073741824\/(b.length:Int)>65536)->∃s':Sl,Ending.returned (.tuple #[.slice none 0 0,.int .i64 1])=.returned (.tuple #[.slice s'.a s'.n s'.c,.int .i64 (zG v b).2])/\mh w.heap.size w s' (zG v b).1/\Ext w w:=λh=>by
  have e:zG v b=([],1):=by unfold zG;rw [if_pos h]
  rw [e];exact ⟨⟨none,0,0⟩,rfl,ar.nil,Ext.cG _⟩
 refine Br.mk (λh=> ?_) (λh1=>Br.mk (λh=> ?_) (λh2=>Br.mk (λh=> ?_) (λh3=> ?_)))
 ·simp only [decide_eq_true_eq] at h;exact no (.inl h)
 ·simp only [gt_iff_lt,decide_eq_true_eq] at h;exact no (.inr (.inl h))
 ·simp only [gt_iff_lt,decide_eq_true_eq] at h;exact no (.inr (.inr (by omega)))
 ·simp only [gt_iff_lt,decide_eq_false_iff_not] at h1 h2 h3;have e:zG v b=(dB (cr v b),0):=by unfold zG;rw [if_neg (by omega)]
  rw [e];have p4:=RJ w.heap.size ⟨none,0,0⟩ [] v 4 (by decide) w (Nat.le_refl _) ar.nil (by simp);refine p4.mono ?_;rintro e w0 ⟨s1,rfl,o1,x0⟩;have p3:=RJ w.heap.size s1 ([]++be 4 v) ((s.n:Nat):Int) 3 (by decide) w0 x0.size o1 (by simp [yU]);refine ⟨s1,rfl,p3.mono ?_⟩;rintro e w2 ⟨s3,rfl,o3,x2⟩;refine ⟨s3,rfl,λw4 e4=> ?_⟩;have xh:Ext w w2:=x0.trans x2;have gW:Ext w2 w4:=(Ext.cG _).br e4;have x4:=xh.tr gW;have r4:Row w4 w2.heap.size [.slice s3.a s3.n s3.c,.slice s.a s.n s.c] tSB:=by rw [e4];exact Row.new w2 [_,_] _
  have hl:RdK w4 ⟨some ⟨w2.heap.size,0,none⟩,2,2⟩ 1 ([(s3,[]++be 4 v++be 3 ((s.n:Nat):Int)),(s,b)].map λx=> [.slice x.1.a x.1.n x.1.c]):=by
   refine ⟨rfl,λr hr=>by simp at hr;rcases hr with rfl|rfl<;>rfl,λi r hi j v hj=> ?_⟩;rw [aV,Nat.zero_add,r4.ld]
   match i,hi with
   |0,hi=>cases hi;match j,hj with
    |0,hj=>cases hj;rfl
   |1,hi=>cases hi;match j,hj with
    |0,hj=>cases hj;rfl
   |i+2,hi=>simp at hi
  have aeY:uz [(s3,[]++be 4 v++be 3 ((s.n:Nat):Int)),(s,b)]=cr v b:=by simp [uz,cr,uT]
  have hrl:=zX v b;refine (Dx ⟨some ⟨w2.heap.size,0,none⟩,2,2⟩ [(s3,[]++be 4 v++be 3 ((s.n:Nat):Int)),(s,b)] w4 hl (λx hx=>by
   simp only [List.mem_cons,List.not_mem_nil,or_false] at hx;rcases hx with rfl|rfl
   ·exact RdK.ext (mh.Gw o3) gW
   ·exact hs.ext x4) (show 2<=1000 by decide) (by rw [aeY];omega)).mono ?_
  rintro e w5 ⟨s6,rfl,o6,x5⟩;rw [aeY] at o6;refine ⟨s6,rfl,(Ph s6 (cr v b) w5 (mh.Gw o6) (Xs hb) (by omega)).mono ?_⟩;rintro e w7 ⟨s8,rfl,o8,x7⟩;have uN:=x4.tr x5;exact ⟨s8,rfl,s8,rfl,ar.low o8 uN.size,uN.tr x7⟩
def aev{b:List Int}(h:mM b):mM (ve b).1:=by
 unfold ve;split
 ·intro c hc;cases hc
 ·split
  ·exact λc hc=>h c (mB hc)
  ·intro c hc;cases hc
def aew(b:List Int):(ve b).1.length<=b.length:=by
 unfold ve;split
 ·simp
 ·split
  ·simp only [cY];omega
  ·simp
def al5{b:List Int}(h:mM b):mM (nJ b).2.1:=by
 unfold nJ;split
 ·intro c hc;cases hc
 ·split
  ·intro c hc;cases hc
  ·split
   ·intro c hc;cases hc
   ·exact λc hc=>aev h c (Ar hc)
def al6(b:List Int):(nJ b).2.1.length<=b.length:=by
 have:=aew b;unfold nJ;split
 ·simp
 ·split
  ·simp
  ·split
   ·simp
   ·simp only [A6];omega
def Vq(s:Sl)(b:List Int)(w:World)(hs:iA w s b)(hb:mM b)(hc:s.n<=s.c)(hn:b.length<=1099511627776):
  ae 183 #[s] w λe w'=>∃s':Sl,e=Value.tuple #[.int .i64 (nJ b).1,s',.int .i64 (nJ b).2.2]/\iA w' s' (nJ b).2.1/\s'.n<=s'.c/\(∀g,s'.aZ=some g->w.heap.size<=g)/\Ext w w':=by
 apply (Uk.vc (a0:=s));refine (Ml s b w hs hb hc hn).mono ?_;rintro e w0 ⟨s1,rfl,o1,x0⟩;have hi:=aev hb;have hle:=aew b;have nil:iA w0 ⟨none,0,0⟩ []:=mh.Gw (ar.nil (B:=0));have h1:nJ b=if (ve b).2≠0 then (0,[],(ve b).2) else if (ve b).1.length<7 then (0,[],3) else if eF ((ve b).1.take 4)<1\/eF ((ve b).1.take 4)>1073741824\/eF (((ve b).1.drop 4).take 3)>65536\/eF (((ve b).1.drop 4).take 3)≠(((ve b).1.drop 7).length:Int) then (0,[],2) else (eF ((ve b).1.take 4),(ve b).1.drop 7,0):=rfl;rw [h1];generalize ve b=t at*;obtain ⟨t1,t2⟩:=t;simp only at*;have hon:=iA.n (mh.Gw o1);have hoc:=ar.le o1;refine ⟨s1,_,rfl,Br.mk (λh=> ?_) (λh=> ?_)⟩
 ·have:t2≠0:=by simpa using h
  rw [if_pos this];exact ⟨⟨none,0,0⟩,rfl,nil,ak _,(λg hg=>by cases hg),x0⟩
 ·have:t2=0:=by simpa using h
  subst this;rw [if_neg bg];apply Br.mk<;>intro h
  ·replace h:=nh h;rw [if_pos aa];exact ⟨⟨none,0,0⟩,rfl,nil,ak _,(λg hg=>by cases hg),x0⟩
  ·replace h:=nC h;rw [if_neg aa];have rd:=RdK.ext (mh.Gw o1) (Ext.dr w0);have c4:iA w0.drew ⟨aI s1.a 0 s1.c 1,4-0,s1.c-0⟩ (t1.take 4):=by have:=RdK.cut rd (m:=4) (c':=s1.c) (c'':=s1.c-0) (by rw [aL];omega);rw [<-List.map_take] at this;exact this
   have c3:iA w0.drew ⟨aI s1.a 4 s1.c 1,7-4,s1.c-4⟩ ((t1.drop 4).take 3):=by have r4:=RdK.rest rd (l:=4) (m:=s1.c) (n':=t1.length-4) (c':=s1.c-4) (by rw [aL]) (by rw [aL];omega);have:=RdK.cut r4 (m:=3) (c':=7) (c'':=s1.c-4) (by rw [A6,aL];omega);rw [dz,<-List.map_drop,<-List.map_take] at this;exact this
   have c7:∀w',Ext w0 w'->iA w' ⟨aI s1.a 7 s1.c 1,s1.n-7,s1.c-7⟩ (t1.drop 7):=λw' x'=>by have:=RdK.rest (RdK.ext (mh.Gw o1) x') (l:=7) (m:=s1.c) (n':=s1.n-7) (c':=s1.c-7) (by rw [aL];omega) (by rw [aL];omega);rw [<-List.map_drop] at this;exact this
   refine ⟨aa,aa,aa,aa,aa,aa,aa,aa,(LD ⟨aI s1.a 0 s1.c 1,4-0,s1.c-0⟩ _ w0.drew c4 (λc hc=>hi c (mB hc)) (by rw [cY];omega)).mono ?_⟩;rintro e w3 ⟨rfl,hw⟩;subst hw;refine ⟨_,rfl,(LD ⟨aI s1.a 4 s1.c 1,7-4,s1.c-4⟩ _ w0.drew c3 (λc hc=>hi c (Ar (mB hc))) (by rw [cY];omega)).mono ?_⟩;rintro e w5 ⟨rfl,hw⟩;subst hw;have Jf:∀g,(Sl.mk (aI s1.a 7 s1.c 1) (s1.n-7) (s1.c-7)).aZ=some g->w.heap.size<=g:=λg hg=>by
    have:s1.aZ=some g:=by
     unfold Sl.aZ at hg ⊢;simp only [aI] at hg;split at hg
     ·exact hg
     ·cases ha:s1.a with
      |none=>rw [ha] at hg;cases hg
      |some a=>
       rw [ha] at hg;simp only [oK,Option.some.injEq,Addr.add] at hg ⊢;rw [<-hg];split<;>rfl
    exact (o1.own.lt this).1
   have xd:=x0.tr (Ext.dr w0);have nil':iA w0.drew ⟨none,0,0⟩ []:=mh.Gw (ar.nil (B:=0));have Tr:(t1.drop 7).length=s1.n-7:=by rw [A6];omega
   have no:(eF (t1.take 4)<1\/eF (t1.take 4)>1073741824\/eF ((t1.drop 4).take 3)>65536\/eF ((t1.drop 4).take 3)≠((t1.drop 7).length:Int))->∃s':Sl,Ending.returned (.tuple #[ai,.slice none 0 0,(2:Int)])=Value.tuple #[.int .i64 (if eF (t1.take 4)<1\/eF (t1.take 4)>1073741824\/eF ((t1.drop 4).take 3)>65536\/eF ((t1.drop 4).take 3)≠((t1.drop 7).length:Int) then ((0:Int),([]:List Int),(2:Int)) else (eF (t1.take 4),t1.drop 7,0)).1,s',.int .i64 (if eF (t1.take 4)<1\/eF (t1.take 4)>1073741824\/eF ((t1.drop 4).take 3)>65536\/eF ((t1.drop 4).take 3)≠((t1.drop 7).length:Int) then ((0:Int),([]:List Int),(2:Int)) else (eF (t1.take 4),t1.drop 7,0)).2.2]/\
     iA w0.drew s' (if eF (t1.take 4)<1\/eF (t1.take 4)>1073741824\/eF ((t1.drop 4).take 3)>65536\/eF ((t1.drop 4).take 3)≠((t1.drop 7).length:Int) then ((0:Int),([]:List Int),(2:Int)) else (eF (t1.take 4),t1.drop 7,0)).2.1/\s'.n<=s'.c/\(∀g,s'.aZ=some g->w.heap.size<=g)/\Ext w w0.drew:=λh=>by
    rw [if_pos h];exact ⟨⟨none,0,0⟩,rfl,nil',ak _,(λg hg=>by cases hg),xd⟩
   refine ⟨_,rfl,Br.mk (λh=>no ?_) (λq1=>Br.mk (λh=>no ?_) (λq2=>Br.mk (λh=>no ?_) (λq3=>Br.mk (λh=>no ?_) (λq4=> ?_))))⟩
   ·exact .inl (by simpa using h)
   ·exact .inr (.inl (by simpa using h))
   ·exact .inr (.inr (.inl (by simpa using h)))
   ·refine .inr (.inr (.inr ?_));rw [Tr];simpa using h
   ·simp only [gt_iff_lt,fA,bne_eq_false_iff_eq] at q1 q2 q3 q4;rw [if_neg (by
     rw [Tr];simp only [not_or];exact ⟨q1,q2,q3,by rw [q4];simp⟩)]
    exact ⟨_,rfl,c7 _ (Ext.dr w0),by simp only;omega,Jf,xd⟩
def Y8{P:Program}{m since c0 clock r:Nat}{seen:Array Nat}{es:Array MapEntry}{w:World}{ty:TypeId}{v:Value}{w':World}(hr:w.heap[r]? =some (.mapIter (some m) since seen c0))(hm:w.heap[m]? =some (.map es clock))
  (h:(Instr.next (.pointer (aD r)) false ty).run P w=.ok v w'):w'.tape=w.tape:=by
 simp only [Instr.next,getObj,Sem.run_bind,Sem.run,hr,hm,Result.andThen] at h;split at h
 ·cases h
 ·generalize (Array.filter (λe=> !seen.contains e.born) es)=L at h;generalize (if (Array.filter (λx=>decide (x.born<since)) L).isEmpty=true then #[none] else #[])++Array.map some (Array.filter (λx=>decide (x.born<since)) L++Array.filter (λx=>decide (x.born>=since)) L)=C at h;have hch:∀j w1,(choose (Question.mapNext C.size)).run P w=.ok j w1->w1.tape=w.tape:=λj w1 h1=>by
   by_cases hf:C.size<=1
   ·simp only [choose,Sem.run,Question.forced,cJ,hf,if_true] at h1
    cases h1;rfl
   ·simp only [choose,Sem.run,Question.forced,cJ,hf,if_false,Question.cut] at h1
    cases h1;rfl
  rw [Sem.run_bind] at h
  cases hc:(choose (Question.mapNext C.size)).run P w with
  |ok j w1=>
   have ht:=hch j w1 hc;rw [hc] at h;simp only [Result.andThen] at h;split at h
   ·rw [Sem.run_bind] at h;simp only [setObj,Sem.run] at h;split at h
    all_goals first
     |(simp [Result.andThen] at h;done)
     |(simp only [Result.andThen,Sem.run_pure] at h;cases h;exact ht)
   ·rw [Sem.run_pure] at h;cases h;exact ht
   ·cases h
  |_=>rw [hc] at h;cases h
def nOf:Value->Int| .slice _ n _=>(n:Int)|_=>0
def eA:List MapEntry->Array Nat->Int
 | [],_=>0
 |x::l,seen=>(if seen.contains x.born then nOf x.val else 0)+eA l seen
def xJ(seen:Array Nat)(b:Nat):∀(es:List MapEntry),b ∉ es.map (·.born)->eA es (seen.push b)=eA es seen
 | [],_=>rfl
 |x::l,h=>by
  have hx:(x.born==b)=false:=by
   cases hc:x.born==b with
   |false=>rfl
   |true=>exact absurd (cp.2 (Or.inl (beq_iff_eq.1 hc).symm)) h
  have ih:=xJ seen b l (λe=>h (cp.2 (Or.inr e)));simp only [eA,contains_push,hx,Bool.or_false,ih]
def AX(seen:Array Nat)(e:MapEntry)(hs:seen.contains e.born=false):∀(es:List MapEntry),(es.map (·.born)).Nodup->e ∈ es->eA es (seen.push e.born)=eA es seen+nOf e.val
 |x::l,hn,he=>by
  have hn':x.born ∉ l.map (·.born)/\(l.map (·.born)).Nodup:=oL.1 hn
  rcases cp.1 he with rfl|h
  ·rw [eA,eA,xJ seen _ l hn'.1,contains_push,beq_self_eq_true,Bool.or_true,hs]
   simp;omega
  ·have hx:(x.born==e.born)=false:=by
    cases hc:x.born==e.born with
    |false=>rfl
    |true=>exact absurd (aU.2 ⟨e,h,(beq_iff_eq.1 hc).symm⟩) hn'.1
   rw [eA,eA,AX seen e hs l hn'.2 h,contains_push,hx,Bool.or_false];omega
def AY:∀es:List MapEntry,eA es #[]=0
 | []=>rfl
 |x::l=>by rw [eA,AY l];simp
def UC{es:List MapEntry}(hv:∀x ∈ es,0<=nOf x.val)(seen:Array Nat):0<=eA es seen/\eA es seen<=(es.map λx=>nOf x.val).sum:=by
 induction es with
 |nil=>exact ⟨lL _,lL _⟩
 |cons x l ih=>
  have h1:=ih λy hy=>hv y (.tail _ hy)
  have h2:=hv x (.head _);rw [eA,eQ,List.sum_cons];split<;>omega
def Qp(es:Array MapEntry)(seen:Array Nat)(h:(leftOf es seen).size=0):eA es.toList seen=(es.toList.map λx=>nOf x.val).sum:=by
 have m4:∀x ∈ es.toList,seen.contains x.born=true:=by
  intro x hx
  cases hc:seen.contains x.born with
  |true=>rfl
  |false=>
   have:x ∈ leftOf es seen:=Array.mem_filter.2 ⟨Array.mem_toList_iff.1 hx,by rw [hc];rfl⟩;have h0:=Array.eq_empty_of_size_eq_zero h;rw [h0] at this;simp at this
 generalize es.toList=l at m4
 induction l with
 |nil=>rfl
 |cons x l ih=>
  rw [eA,m4 x (.head _),eQ,List.sum_cons,ih λy hy=>m4 y (.tail _ hy)];simp
set_option maxRecDepth 1000000 in
def UD(bm:Nat)(es:Array MapEntry)(clock:Nat)(w:World)(hb:w.heap[bm]? =some (.map es clock))(iC:MapKept.Stamped es clock)(hv:∀x ∈ es.toList,∃a n c,x.val=.slice a n c)(hs:(es.toList.map λx=>nOf x.val).sum<=1099511627776):
  ae 229 #[.map (some bm)] w λe w'=>e=Value.int .i64 ((es.toList.map λx=>nOf x.val).sum)/\∃(w1:World)(seen:Array Nat),w1.Alike w/\w1.tape=w.tape/\w'=w1.alloc (.mapIter (some bm) clock seen clock):=by
 have hrg:=run_range_map (P:=Tryz.prog) w 274 My 62 bm es clock Tryz.underlying274 hb;have hnn:∀x ∈ es.toList,0<=nOf x.val:=λx hx=>by obtain ⟨a,n,c,e⟩:=hv x hx;rw [e];exact Int.natCast_nonneg n
 go_enter Tryz.func229,Tryz.ntmps229;go_wp2;go_loopw [3] (λs w'=>∃(w1:World)(seen:Array Nat),w1.Alike w/\w1.tape=w.tape/\w'=w1.alloc (.mapIter (some bm) clock seen clock)/\s=.int .i64 (eA es.toList seen)) (λ_ w'=>(leftOf es (w'.iterSeen w)).size)
 case atStart=>exact ⟨w,#[],⟨rfl,rfl,rfl⟩,rfl,rfl,by rw [AY]⟩
 case round=>
  obtain ⟨w1,seen,hal,htp,rfl,rfl⟩:=hrel;have hsz:w1.heap.size=w.heap.size:=by rw [hal.1]
  have Ks:w1.heap[bm]? =some (.map es clock):=by rw [hal.1];exact hb
  have law:=run_next_map (P:=Tryz.prog) w1 0 bm clock clock seen es clock Ks iC.1 (ak _);rw [hsz] at law;rcases law with ⟨h0,vW⟩|⟨e,he,w2,hal2,vW⟩
  ·have F8:∀ty,(Instr.next (.pointer (aD w.heap.size)) false ty).run Tryz.prog (w1.alloc (.mapIter (some bm) clock seen clock))=_:=λ_=>vW
   go_wp2;go_ret;rw [Qp es seen h0];exact ⟨rfl,w1,seen,hal,htp,rfl⟩
  ·obtain ⟨va,vn,vc,hval⟩:=hv e (mem_left he).1;have hr1:(w1.alloc (.mapIter (some bm) clock seen clock)).heap[w.heap.size]? =some (.mapIter (some bm) clock seen clock):=by rw [<-hsz];exact heap_alloc_new w1 _
   have hm1:(w1.alloc (.mapIter (some bm) clock seen clock)).heap[bm]? =some (.map es clock):=by rw [heap_alloc_old w1 _ (by have:=(tQ.1 Ks).1;omega)];exact Ks
   have htp2:w2.tape=w1.tape:=by have:=Y8 hr1 hm1 vW;exact this
   rw [hval] at vW;have F8:∀ty,(Instr.next (.pointer (aD w.heap.size)) false ty).run Tryz.prog (w1.alloc (.mapIter (some bm) clock seen clock))=_:=λ_=>vW
   have hsz2:w2.heap.size=w.heap.size:=by rw [hal2.1,hal.1]
   have j8:w2.heap[bm]? =some (.map es clock):=by rw [hal2.1];exact Ks
   have hen:=run_entry_map (P:=Tryz.prog) w2 bm clock seen es clock e j8 (mem_left he).1 iC.2.1;rw [hsz2,hval] at hen;go_wp2;go_roundw
   case rel=>
    refine ⟨w2,seen.push e.born,⟨hal2.1.trans hal.1,hal2.2.1.trans hal.2.1,hal2.2.2.trans hal.2.2⟩,htp2.trans htp,rfl,?_⟩;have hp:=AX seen e (mem_left he).2 es.toList iC.2.1 (mem_left he).1;have zo:=UC hnn (seen.push e.born);rw [hval] at hp;have hp:eA es.toList (seen.push e.born)=eA es.toList seen+(vn:Int):=hp;have hw:Go.RowKit.wrap64 (eA es.toList seen+(vn:Int))=eA es.toList (seen.push e.born):=by unfold Go.RowKit.wrap64;omega
    exact congrArg _ hw
   case measure=>
    rw [<-hsz2,World.iterSeen_alloc,hsz2,<-hsz,World.iterSeen_alloc];exact left_shrinks es seen e he
abbrev tW:TypeId:=279
abbrev Bl:=Int × Sl × List Int
def mT(x:Bl):Value × Value:=(x.1,.slice x.2.1.a x.2.1.n x.2.1.c)
abbrev wV(x:Bl):LV:=[.int .i64 x.1,.slice x.2.1.a x.2.1.n x.2.1.c]
abbrev kb(x:Bl):mc:=(x.1,x.2.2)
structure EY(w:World)(x:Bl):Prop where
 o:mh 0 w x.2.1 x.2.2
 b:mM x.2.2
structure Dm where
 r:Nat
 ls:Sl
 E:List Bl
 W:List Bl
structure DO(w:World)(d:Nat)(m:Dm)(D:Dk):Prop where
 rd:Row w d [D.room,D.nT,D.wait,.map (some m.r),.slice m.ls.a m.ls.n m.ls.c] tZ
 rm:bS GI w (some m.r) (m.E.map mT)
 ol:ar 0 tW 2 w m.ls (m.W.map wV)
 sf:(m.E.map kb).Perm D.safe
 sl:m.W.map kb=D.l
 bl:∀x ∈ m.E++m.W,EY w x
 ok:pN D
def dF(d:Nat)(m:Dm)(i:Nat):Prop:=i=d\/i=m.r\/m.ls.aZ=some i\/∃x ∈ m.E++m.W,x.2.1.aZ=some i
def DO.lt{w:World}{d:Nat}{m:Dm}{D:Dk}(h:DO w d m D){i:Nat}(hi:dF d m i):i<w:=by
 rcases hi with rfl|rfl|e|⟨x,hx,e⟩
 ·exact h.rd.lt
 ·exact h.rm.lt
 ·exact (h.ol.own.lt e).2
 ·exact ((h.bl x hx).o.own.lt e).2
def DO.same{w w':World}{d:Nat}{m:Dm}{D:Dk}(h:DO w d m D)(hs:∀i,dF d m i->w'.heap[i]? =w.heap[i]?):DO w' d m D:=
 ⟨h.rd.same (hs _ (.inl rfl)),h.rm.same (hs _ (.inr (.inl rfl))),ar.aW h.ol λb hb=>hs b (.inr (.inr (.inl hb))),h.sf,h.sl,λx hx=>⟨ar.aW (h.bl x hx).o λb hb=>hs b (.inr (.inr (.inr ⟨x,hx,hb⟩))),(h.bl x hx).b⟩,h.ok⟩
def DO.ext{w w':World}{d:Nat}{m:Dm}{D:Dk}(h:DO w d m D)(x:Ext w w'):DO w' d m D:=h.same λi hi=>x.heap (h.lt hi)
def DO.nW{w:World}{d:Nat}{m:Dm}{D:Dk}(h:DO w d m D):m.ls.n=m.W.length/\m.W.length=D.l.length:=by have h1:=(h.ol.rd aA).n;rw [aL] at h1;exact ⟨h1,by rw [<-h.sl,aL]⟩
def DO.kind{w:World}{d:Nat}{m:Dm}{D:Dk}(h:DO w d m D){i:Nat}(hi:dF d m i):bS GI w (some i) (m.E.map mT)\/∃cs τ,Row w i cs τ/\(τ=tZ\/τ=tW\/τ=je):=by
 rcases hi with e|e|e|⟨x,hx,e⟩
 ·exact .inr ⟨_,_,e▸h.rd,.inl rfl⟩
 ·exact .inl (e▸h.rm)
 ·obtain ⟨cs,hr⟩:=aY h.ol aA e;exact .inr ⟨_,_,hr,.inr (.inl rfl)⟩
 ·obtain ⟨cs,hr⟩:=aY (h.bl x hx).o aA e;exact .inr ⟨_,_,hr,.inr (.inr rfl)⟩
def Qw(E:List Bl)(x:Bl):vo (E.map mT) (x.1) (.slice x.2.1.a x.2.1.n x.2.1.c)=(Ew (λy:Bl=>y.1) E x).map mT:=by
 have key:∀y:Bl,(mT y).1=.int .i64 x.1 ↔ y.1=x.1:=λy=>by unfold mT;simp
 have ex:(∃e ∈ E.map mT,e.1=Value.int .i64 x.1) ↔ ∃y ∈ E,y.1=x.1:=by
  constructor
  ·rintro ⟨e,he,q⟩;obtain ⟨y,hy,rfl⟩:=aU.1 he;exact ⟨y,hy,(key y).1 q⟩
  ·rintro ⟨y,hy,q⟩;exact ⟨_,aU.2 ⟨y,hy,rfl⟩,(key y).2 q⟩
 unfold vo Ew;by_cases h:∃y ∈ E,y.1=x.1
 ·rw [if_pos (ex.2 h),if_pos h,pM,pM];refine zP λy _=> ?_
  simp only [Function.comp];by_cases q:y.1=x.1
  ·rw [if_pos ((key y).2 q),if_pos q];unfold mT;rw [q]
  ·rw [if_neg λq'=>q ((key y).1 q'),if_neg q]
 ·rw [if_neg λq=>h (ex.1 q),if_neg h,bJ];rfl
def UF{l s:List mc}{k:Nat}{x:mc}(h:l[k]? =some x):(l.take (k+1)).foldl lay s=lay ((l.take k).foldl lay s) x:=by rw [dy,h,pW];rfl
def CD{w:World}{d:Nat}{m:Dm}{D:Dk}(h:DO w d m D)(hW:D.l.length<=1000000000):ae 228 #[d] w λe w'=>∃(r':Nat)(E':List Bl),e=Value.map (some r')/\bS GI w' (some r') (E'.map mT)/\(E'.map kb).Perm (uH D)/\(∀x ∈ E',x ∈ m.E++m.W)/\Ext w w'/\w.heap.size<=r':=by
 apply JE.vc;obtain ⟨n1,n2⟩:=h.nW;refine ⟨some m.r,h.rd.at 3 rfl,(Hx h.rm).mono ?_⟩;rintro e w1 ⟨rfl,hm,x1⟩;refine ⟨_,rfl,m.ls,(h.ext x1).rd.at 4 rfl,λn i wr=>∃(k:Nat)(E':List Bl),i=k/\k+n=m.W.length/\bS GI wr (some w.heap.size) (E'.map mT)/\(E'.map kb).Perm ((D.l.take k).foldl lay D.safe)/\(∀x ∈ E',x ∈ m.E++m.W)/\Ext w wr,
  ⟨m.W.length,0,m.E,rfl,aa,hm,h.sf,λx hx=>bX.2 (.inl hx),x1⟩,?_⟩
 rintro n us i wr ⟨k,E',rfl,hk,hm,hp,fa,xr⟩;apply Br.mk<;>intro hc
 ·replace hc:=nh hc;obtain ⟨x,hx⟩:=bq (l:=m.W) (i:=k) aa;have hr:=(h.ext xr).ol.rd (show 0<2 by decide);have Je:(m.W.map wV)[k]? =some (wV x):=by rw [aS,hx];rfl
  have wk:=ov (j:=k);have hl:D.l[k]? =some (kb x):=by rw [<-h.sl,aS,hx];rfl
  refine ⟨RdK.jd hr aA aa hc,x.1,x.2.1,RdK.bI hr Je,λcC Fy bP Fj=> ?_⟩;have cR:Ext wr bP:=(aQ Fy).ab Fj (ak _);refine ⟨GI,E'.map mT,Hy,rfl,hm.same (cR.heap hm.lt),⟨_,rfl⟩,λcD g8 asH=> ?_⟩;rw [Qw] at asH;refine ⟨n-1,aa,k+1,_,wk,aa,asH,?_,λy hy=> ?_,(Mod.q9 g8).ext (xr.tr cR) λi hi=>by rw [hi];exact ak _⟩
  ·rw [UF hl];exact Pc (f:=λy:Bl=>y.1) (g:=λy:Bl=>y.2.2) x hp (vB _ h.ok.nd)
  ·rcases Pb hy with rfl|hy
   ·exact bX.2 (.inr (aO hx))
   ·exact fa y hy
 ·replace hc:=nC hc;rw [fl aa] at hp;exact ⟨w.heap.size,E',rfl,hm,hp,fa,xr,ak _⟩
def adx(E:List Bl):((eo (E.map kb):Nat):Int)=(E.map λx=>(x.2.2.length:Int)).sum:=by
 induction E with
 |nil=>rfl
 |cons x t ih=>
  rw [eQ,py,eQ,List.sum_cons,<-ih];have:(kb x).2.length=x.2.2.length:=rfl;omega
def Qx{w:World}{r:Nat}{E:List Bl}(hm:bS GI w (some r) (E.map mT))(hb:∀x ∈ E,EY w x)(hn:eo (E.map kb)<=1099511627776):ae 229 #[.map (some r)] w λe w'=>e=Value.int .i64 (eo (E.map kb):Nat)/\Ext w w':=by
 obtain ⟨es,clock,h1,h2,h3,h4,h5,h6⟩:=hm;have hk:es.toList.map (·.key)=(E.map mT).map (·.1):=by rw [<-h2,pM];rfl
 have hv:∀x ∈ es.toList,∃y ∈ E,x.val=.slice y.2.1.a y.2.1.n y.2.1.c:=λx hx=>by
  have:(x.key,x.val) ∈ E.map mT:=by rw [<-h2];exact aU.2 ⟨x,hx,rfl⟩
  obtain ⟨y,hy,e⟩:=aU.1 this;refine ⟨y,hy,?_⟩;have:=congrArg Prod.snd e;exact this.symm
 have hs:(es.toList.map λx=>nOf x.val).sum=(eo (E.map kb):Nat):=by
  rw [adx];have e1:(es.toList.map λx=>nOf x.val)=(E.map mT).map λe=>nOf e.2:=by rw [<-h2,pM];rfl
  rw [e1,pM];congr 1;refine zP λx hx=> ?_
  show ((x.2.1.n:Nat):Int)=_;rw [iA.n (mh.Gw (hb x hx).o)]
 have iC:MapKept.Stamped es clock:=⟨h6,h5.imp λh=>Nat.ne_of_lt h,by rw [hk];exact h4⟩;refine (UD r es clock w h1 iC (λx hx=>by obtain ⟨y,_,e⟩:=hv x hx;exact ⟨_,_,_,e⟩) (by rw [hs];omega)).mono ?_;rintro e w' ⟨rfl,w1,seen,⟨a1,a2,a3⟩,a4,rfl⟩;refine ⟨by rw [hs],?_⟩;have x1:Ext w w1:=⟨a2,a4,a3,by rw [a1];exact ak _,λi _=>by rw [a1]⟩;exact x1.br rfl
def Qy{E:List Bl}{s:List mc}(hp:(E.map kb).Perm s)(hn:(fX s).Nodup)(k:Int)(w:World)(hb:∀x ∈ E,EY w x):∃(t:Sl)(b:Bool),JD (E.map mT) (k) (.slice none 0 0) (t) b/\mh 0 w t ((lK s k).getD [])/\mM ((lK s k).getD [])/\b=(lK s k).isSome:=by
 have hZ:(fX (E.map kb)).Nodup:=(hp.map λx:mc=>x.1).nodup_iff.2 hn;rw [<-KZ hp hZ]
 cases q:lK (E.map kb) k with
 |none=>
  refine ⟨⟨none,0,0⟩,false,.inr ⟨rfl,rfl,λe he=> ?_⟩,ar.nil,(λc hc=>by cases hc),rfl⟩;obtain ⟨x,hx,rfl⟩:=aU.1 he;have:=CE.1 q (kb x) (aU.2 ⟨x,hx,rfl⟩);unfold mT;simpa using this
 |some b=>
  obtain ⟨x,hx,e⟩:=aU.1 ((CF hZ).1 q);have e1:x.1=k:=congrArg Prod.fst e;have e2:x.2.2=b:=congrArg Prod.snd e;refine ⟨x.2.1,true,.inl ⟨rfl,aU.2 ⟨x,hx,by unfold mT;rw [e1]⟩⟩,?_,?_,rfl⟩
  ·have:=(hb x hx).o;rw [e2] at this;exact this
  ·have:=(hb x hx).b;rw [e2] at this;exact this
def WZ{s:List mc}(hn:(fX s).Nodup)(k:Int):((lK s k).getD []).length<=eo s:=by have:=D3 hn k;omega
def Zd{w:World}{d:Nat}{m:Dm}{D:Dk}(h:DO w d m D)(hW:D.l.length<=1000000000)(k:Int):ae 182 #[d,k] w λe w'=>∃(s:Sl)(b:Bool),e=Value.tuple #[s,b]/\mh w w' s (getD D k)/\mM (getD D k)/\(getD D k).length<=1048576/\Ext w w':=by
 apply JC.vc;refine (CD h hW).mono ?_;rintro e w0 ⟨r',E',rfl,hm,hp,fa,x0,hr⟩;have hb:∀x ∈ E',EY w0 x:=λx hx=>(h.ext x0).bl x (fa x hx)
 obtain ⟨t,b,hl,ho,hby,-⟩:=Qy hp h.ok.now k w0 hb;have hle:=WZ h.ok.now k;have hnl:=h.ok.alx;have hrm:=h.ok.r;refine ⟨_,rfl,GI,_,Hy,hm,⟨k,rfl⟩,t,b,hl,(qK t _ w0 (mh.Gw ho) aa).mono ?_⟩;rintro e w6 ⟨s7,rfl,o7,x6⟩;refine ⟨s7,rfl,s7,b,rfl,ar.low o7 x0.size,hby,?_,x0.tr x6⟩;show ((lK (uH D) k).getD []).length<=_;omega
def DO.row{w w':World}{d:Nat}{m:Dm}{D:Dk}(h:DO w d m D){F W:Int}(hm:Mod (λi=>i=d) w w')(hr:Row w' d [D.room,F,W,.map (some m.r),.slice m.ls.a m.ls.n m.ls.c] tZ)(bc:pN {D with nT:=F,wait:=W}):DO w' d m {D with nT:=F,wait:=W}:=by
 refine ⟨hr,hm.map h.rm λe=>h.rd.fY h.rm e.symm,hm.gU h.ol λb hb e=> ?_,h.sf,h.sl,λx hx=>⟨hm.gU (h.bl x hx).o λb hb e=> ?_,(h.bl x hx).b⟩,bc⟩
 ·obtain ⟨cs,hr'⟩:=aY h.ol aA hb;exact hr'.ne h.rd aA e
 ·obtain ⟨cs,hr'⟩:=aY (h.bl x hx).o aA hb;exact hr'.ne h.rd aA e
def D4{w:World}{d:Nat}{m:Dm}{D:Dk}(h:DO w d m D):ae 227 #[d] w λe w'=>e=Value.bool (jw D).2/\DO w' d m (jw D).1/\Mod (λi=>i=d) w w':=by
 apply CG.vc;have bc:=h.ok.ask;have hw:=h.ok.w;have hf:=h.ok.f;refine ⟨D.wait,h.rd.at 2 rfl,Br.mk (λhc=> ?_) (λhc=> ?_)⟩
 ·simp only [gt_iff_lt,cJ] at hc;have e:jw D=({D with wait:=0},false):=by unfold jw;rw [if_pos hc]
  have e1:aw (D.wait-1)=0:=by rw [wI];omega
  rw [e] at bc ⊢;obtain ⟨p1,p2⟩:=h.rd.ic (j:=2) (v:=.int .i64 0) bg rfl;refine ⟨_,h.rd.at 2 rfl,?_⟩;dsimp only;rw [e1];refine ⟨⟨rfl,p1⟩,λw2 e2=>⟨rfl,?_⟩⟩;obtain ⟨q1,q2⟩:=p2 w2 e2;exact ⟨h.row q2 q1 bc,q2⟩
 ·simp only [gt_iff_lt,fA] at hc;refine ⟨D.nT,h.rd.at 1 rfl,Br.mk (λky=> ?_) (λky=> ?_)⟩
  ·simp only [gt_iff_lt,cJ] at ky;have e:jw D=({D with nT:=D.nT-1},true):=by unfold jw;rw [if_neg hc,if_pos ky]
   rw [e] at bc ⊢;obtain ⟨p1,p2⟩:=h.rd.ic (j:=1) (v:=.int .i64 (aw (D.nT-1))) bg rfl;refine ⟨_,h.rd.at 1 rfl,⟨rfl,p1⟩,λw2 e2=>⟨by rw [decide_eq_true ky],?_⟩⟩;obtain ⟨q1,q2⟩:=p2 w2 e2;have e1:aw (D.nT-1)=D.nT-1:=wI;rw [e1] at q1;exact ⟨h.row q2 q1 bc,q2⟩
  ·simp only [gt_iff_lt,fA] at ky;have e:jw D=(D,false):=by unfold jw;rw [if_neg hc,if_neg ky]
   rw [e];exact ⟨by rw [decide_eq_false ky],h,Mod.refl _ _⟩
def GW{w:World}{p:Option Addr}{v:Value}(h:ld w p=some v):ah w p 0 [v]:=by show ld w (af p 0)=_;rw [fI];exact h
def adH(k:Int)(a:Option Addr)(n c:Nat):One [Value.int .i64 k,Value.slice a n c]:=by intro v hv;simp at hv;rcases hv with rfl|rfl<;>rfl
def W3(D:Dk):uH (jw D).1=uH D:=by obtain ⟨e1,e2,-⟩:=mL D;unfold uH;rw [e1,e2]
def DO.ajO{w:World}{d:Nat}{m:Dm}{D:Dk}(h:DO w d m D):∀b,m.ls.aZ=some b->b≠d:=λb hb=>by
 obtain ⟨cs,hr⟩:=aY h.ol aA hb
 exact hr.ne h.rd aA
def alE(w:World)(d:Nat)(m:Dm)(D:Dk)(w':World):Prop:=∃m',DO w' d m' D/\Mod (λi=>i=d\/m.ls.aZ=some i) w w'/\(∀i,dF d m' i->dF d m i\/w.heap.size<=i)/\∀i,m'.ls.aZ=some i->m.ls.aZ=some i\/w.heap.size<=i
def Zp{w:World}{d:Nat}{m:Dm}{D:Dk}(h:DO w d m D)(hW:D.l.length<=1000000000)(key:Int)(s:Sl)(b:List Int)(hs:iA w s b)(hb:mM b)(hn:b.length<=1099511627776)(hsd:s.aZ≠some d):
  ae 164 #[d,key,s] w λe w'=>e=Value.int .i64 (mg D key b).2/\alE w d m (mg D key b).1 w':=by
 apply (JN.vc (a2:=s));have uT:=iA.n hs;refine (D4 h).mono ?_;rintro e w0 ⟨rfl,h0,m0⟩;have z0:=m0.size;have m0':Mod (λi=>i=d\/m.ls.aZ=some i) w w0:=m0.mono λi _ hi=> .inl hi
 refine ⟨_,rfl,Br.mk (λhf=> ?_) (λhf=> ?_)⟩
 ·have e:mg D key b=((jw D).1,9):=by unfold mg;rw [if_pos hf]
  rw [e];exact ⟨rfl,m,h0,m0',λi hi=> .inl hi,λi hi=> .inl hi⟩
 obtain ⟨e1,e2,e3⟩:=mL D;have Dp:iA w0 s b:=m0.rdK aA hs λ_ g hg e=>hsd (e▸hg)
 refine (CD h0 (by rw [e2];exact hW)).mono ?_;rintro e w2 ⟨r',E',rfl,Je,hp,fa,x2,hr'⟩;rw [W3] at hp;have hnd:=h.ok.now;have hnl:=h.ok.alx;have hrm:=h.ok.r;have hbE:∀x ∈ E',EY w2.drew x:=λx hx=>(h0.ext (x2.tr (Ext.dr w2))).bl x (fa x hx)
 have ajj:bS GI w2.drew (some r') (E'.map mT):=Je.same ((Ext.dr w2).heap Je.lt);obtain ⟨t,tb,hl,hto,htb,-⟩:=Qy hp hnd key w2.drew hbE;have htn:=iA.n (mh.Gw hto);have hll:=HH hnd (key,b);have hlE:eo (E'.map kb)=eo (uH D):=Lb hp;simp only at hll;have hg:((lK (uH D) key).getD []).length<=eo (uH D):=WZ hnd key;rw [<-htn] at hll hg;have wl:aw (((eo (E'.map kb):Nat):Int)-((t.n:Nat):Int))=((eo (uH D):Nat):Int)-t.n:=by rw [hlE,wI]
 have wr:aw (D.room-((s.n:Nat):Int))=D.room-s.n:=wI;have hd0:∀{v:World},Ext w0 v->ld v (af (aD d) 0)=some (.int .i64 D.room):=λx=>by have:=(h0.ext x).rd.at 0 rfl;rw [e3] at this;exact this
 have x2d:=x2.tr (Ext.dr w2);have hby:=Qx (w:=w2.drew) ajj hbE (by rw [hlE];omega);refine ⟨_,rfl,D.room,hd0 x2d,?_,?_⟩
 ·refine hby.mono ?_;rintro e v ⟨rfl,xv⟩;have xv0:=x2d.tr xv;refine ⟨_,rfl,GW (hd0 xv0),GI,_,Hy,ajj.same (xv.heap ajj.lt),⟨key,rfl⟩,t,tb,hl,GW (hd0 xv0),?_⟩;rw [wl,wr];apply Br.mk<;>intro hc
  ·simp only [gt_iff_lt,cJ] at hc;have e:mg D key b=((jw D).1,8):=by unfold mg;rw [if_neg (by rw [hf];decide),if_pos aa]
   rw [e];have zv:=xv0.size;exact ⟨rfl,m,h0.ext xv0,m0'.trans (Mod.aC xv0),λi hi=> .inl hi,λi hi=> .inl hi⟩
  ·simp only [gt_iff_lt,fA] at hc;have e:mg D key b=({(jw D).1 with l:=D.l++ [(key,b)]},0):=by unfold mg;rw [if_neg (by rw [hf];decide),if_neg aa]
   have bc:=h.ok.put key b;rw [e] at bc ⊢;have xvd:=xv0.tr (Ext.dr v);refine ⟨m.ls,(h0.ext xvd).rd.at 4 rfl,(qK s b v.drew (Dp.ext xvd) hn).mono ?_⟩;rintro e cC ⟨pn,rfl,o13,bW⟩;have IK:=xvd.tr bW;have xp:=h0.ext IK;obtain ⟨n1,n2⟩:=xp.nW;rw [e2] at n2;refine ⟨pn,rfl,GW (xp.rd.at 4 rfl),λbH uU=> ?_⟩;subst uU;obtain ⟨V8,bf⟩:=ar.j9 xp.ol (bytes:=32) (news:=wV (key,pn,b)) (.cells #[key,pn] tW) (gV _) rfl (adH _ _ _ _) aa aa;refine ⟨V8,λpr cD hr=> ?_⟩;obtain ⟨f1,af1,azI,xb,xk,iX⟩:=bf pr cD hr;have m16:Mod (λj=>m.ls.aZ=some j) cC cD:=Mod.yb xb xk;have N7:=m16.row xp.rd λq=>xp.ajO _ q rfl
   obtain ⟨p1,p2⟩:=N7.ic (j:=4) (v:=.slice pr.a pr.n pr.c) bg rfl;have z12:=IK.size;have Tr:=h.rd.lt;refine ⟨f1,⟨rfl,p1⟩,λq=> ?_,λcL BX=>⟨rfl,{m with ls:=pr,W:=m.W++ [(key,pn,b)]},?_,?_,?_,?_⟩⟩
   ·rw [cP] at q;have:d=cC.heap.size:=by simpa [bk] using q
    omega
   ·obtain ⟨q1,q2⟩:=p2 cL BX;have mm:Mod (λj=>j=d\/m.ls.aZ=some j) cC cL:=(m16.mono λi _ hi=> .inr hi).trans (q2.mono λi _ hi=> .inl hi);have off:∀{g:Nat} {cs:LV} {τ:TypeId},Row cC g cs τ->τ≠tZ->τ≠tW->¬(g=d\/m.ls.aZ=some g):=λhr' t1 t2 q=>by
     rcases q with q|q
     ·exact hr'.ne xp.rd t1 q
     ·obtain ⟨cs',oS⟩:=aY xp.ol aA q;exact hr'.ne oS t2 rfl
    refine ⟨q1,mm.map xp.rm λq=> ?_,?_,xp.sf,?_,λx hx=> ?_,bc⟩
    ·rcases q with q|q
     ·exact xp.rd.fY xp.rm q.symm
     ·obtain ⟨cs',oS⟩:=aY xp.ol aA q;exact oS.fY xp.rm rfl
    ·show ar 0 tW 2 cL pr ((m.W++ [(key,pn,b)]).map wV);rw [bJ];refine q2.gU af1 λg hg=> ?_
     obtain ⟨cs',oS⟩:=aY af1 aA hg;exact oS.ne N7 aA
    ·show (m.W++ [(key,pn,b)]).map kb=D.l++ [(key,b)];rw [bJ,h.sl];rfl
    ·have hx:x ∈ m.E++m.W\/x=(key,pn,b):=by
      simp only [bX,cp,lJ,or_false] at hx ⊢;rcases hx with hx|hx|hx
      ·exact .inl (.inl hx)
      ·exact .inl (.inr hx)
      ·exact .inr hx
     have FA:EY cC x:=by
      rcases hx with hx|rfl
      ·exact xp.bl x hx
      ·exact ⟨ar.low o13 (gV _),hb⟩
     refine ⟨mm.gU FA.o λg hg=> ?_,FA.b⟩;obtain ⟨cs',oS⟩:=aY FA.o aA hg;exact off oS aA aA
   ·obtain ⟨q1,q2⟩:=p2 cL BX;refine (m0'.trans (Mod.aC IK)).trans ((m16.mono λi _ hi=> .inr hi).trans (q2.mono λi _ hi=> .inl hi))
   ·rintro i (q|q|q|⟨x,hx,q⟩)
    ·exact .inl (.inl q)
    ·exact .inl (.inr (.inl q))
    ·rcases iX with q'|q'
     ·exact .inl (.inr (.inr (.inl (by rw [<-q'];exact q))))
     ·rw [q'] at q;cases q;exact .inr aa
    ·simp only [bX,cp,lJ,or_false] at hx;rcases hx with hx|hx|rfl
     ·exact .inl (.inr (.inr (.inr ⟨x,bX.2 (.inl hx),q⟩)))
     ·exact .inl (.inr (.inr (.inr ⟨x,bX.2 (.inr hx),q⟩)))
     ·have:=(o13.own.lt q).1;have zv:=xvd.size;exact .inr aa
   ·intro i q;rcases iX with q'|q'
    ·exact .inl (by rw [<-q'];exact q)
    ·have q:pr.aZ=some i:=q;rw [q'] at q;cases q;exact .inr aa
 ·refine ⟨GI,_,Hy,ajj,⟨key,rfl⟩,t,tb,hl,GW (hd0 x2d),hby.mono ?_⟩;rintro e v ⟨rfl,xv⟩;have xv0:=x2d.tr xv;refine ⟨_,rfl,GW (hd0 xv0),?_⟩;rw [wl,wr];apply Br.mk<;>intro hc
  ·simp only [gt_iff_lt,cJ] at hc;have e:mg D key b=((jw D).1,8):=by unfold mg;rw [if_neg (by rw [hf];decide),if_pos aa]
   rw [e];have zv:=xv0.size;exact ⟨rfl,m,h0.ext xv0,m0'.trans (Mod.aC xv0),λi hi=> .inl hi,λi hi=> .inl hi⟩
  ·simp only [gt_iff_lt,fA] at hc;have e:mg D key b=({(jw D).1 with l:=D.l++ [(key,b)]},0):=by unfold mg;rw [if_neg (by rw [hf];decide),if_neg aa]
   have bc:=h.ok.put key b;rw [e] at bc ⊢;have xvd:=xv0.tr (Ext.dr v);refine ⟨m.ls,(h0.ext xvd).rd.at 4 rfl,(qK s b v.drew (Dp.ext xvd) hn).mono ?_⟩;rintro e cC ⟨pn,rfl,o13,bW⟩;have IK:=xvd.tr bW;have xp:=h0.ext IK;obtain ⟨n1,n2⟩:=xp.nW;rw [e2] at n2;refine ⟨pn,rfl,GW (xp.rd.at 4 rfl),λbH uU=> ?_⟩;subst uU;obtain ⟨V8,bf⟩:=ar.j9 xp.ol (bytes:=32) (news:=wV (key,pn,b)) (.cells #[key,pn] tW) (gV _) rfl (adH _ _ _ _) aa aa;refine ⟨V8,λpr cD hr=> ?_⟩;obtain ⟨f1,af1,azI,xb,xk,iX⟩:=bf pr cD hr;have m16:Mod (λj=>m.ls.aZ=some j) cC cD:=Mod.yb xb xk;have N7:=m16.row xp.rd λq=>xp.ajO _ q rfl
   obtain ⟨p1,p2⟩:=N7.ic (j:=4) (v:=.slice pr.a pr.n pr.c) bg rfl;have z12:=IK.size;have Tr:=h.rd.lt;refine ⟨f1,⟨rfl,p1⟩,λq=> ?_,λcL BX=>⟨rfl,{m with ls:=pr,W:=m.W++ [(key,pn,b)]},?_,?_,?_,?_⟩⟩
   ·rw [cP] at q;have:d=cC.heap.size:=by simpa [bk] using q
    omega
   ·obtain ⟨q1,q2⟩:=p2 cL BX;have mm:Mod (λj=>j=d\/m.ls.aZ=some j) cC cL:=(m16.mono λi _ hi=> .inr hi).trans (q2.mono λi _ hi=> .inl hi);have off:∀{g:Nat} {cs:LV} {τ:TypeId},Row cC g cs τ->τ≠tZ->τ≠tW->¬(g=d\/m.ls.aZ=some g):=λhr' t1 t2 q=>by
     rcases q with q|q
     ·exact hr'.ne xp.rd t1 q
     ·obtain ⟨cs',oS⟩:=aY xp.ol aA q;exact hr'.ne oS t2 rfl
    refine ⟨q1,mm.map xp.rm λq=> ?_,?_,xp.sf,?_,λx hx=> ?_,bc⟩
    ·rcases q with q|q
     ·exact xp.rd.fY xp.rm q.symm
     ·obtain ⟨cs',oS⟩:=aY xp.ol aA q;exact oS.fY xp.rm rfl
    ·show ar 0 tW 2 cL pr ((m.W++ [(key,pn,b)]).map wV);rw [bJ];refine q2.gU af1 λg hg=> ?_
     obtain ⟨cs',oS⟩:=aY af1 aA hg;exact oS.ne N7 aA
    ·show (m.W++ [(key,pn,b)]).map kb=D.l++ [(key,b)];rw [bJ,h.sl];rfl
    ·have hx:x ∈ m.E++m.W\/x=(key,pn,b):=by
      simp only [bX,cp,lJ,or_false] at hx ⊢;rcases hx with hx|hx|hx
      ·exact .inl (.inl hx)
      ·exact .inl (.inr hx)
      ·exact .inr hx
     have FA:EY cC x:=by
      rcases hx with hx|rfl
      ·exact xp.bl x hx
      ·exact ⟨ar.low o13 (gV _),hb⟩
     refine ⟨mm.gU FA.o λg hg=> ?_,FA.b⟩;obtain ⟨cs',oS⟩:=aY FA.o aA hg;exact off oS aA aA
   ·obtain ⟨q1,q2⟩:=p2 cL BX;refine (m0'.trans (Mod.aC IK)).trans ((m16.mono λi _ hi=> .inr hi).trans (q2.mono λi _ hi=> .inl hi))
   ·rintro i (q|q|q|⟨x,hx,q⟩)
    ·exact .inl (.inl q)
    ·exact .inl (.inr (.inl q))
    ·rcases iX with q'|q'
     ·exact .inl (.inr (.inr (.inl (by rw [<-q'];exact q))))
     ·rw [q'] at q;cases q;exact .inr aa
    ·simp only [bX,cp,lJ,or_false] at hx;rcases hx with hx|hx|rfl
     ·exact .inl (.inr (.inr (.inr ⟨x,bX.2 (.inl hx),q⟩)))
     ·exact .inl (.inr (.inr (.inr ⟨x,bX.2 (.inr hx),q⟩)))
     ·have:=(o13.own.lt q).1;have zv:=xvd.size;exact .inr aa
   ·intro i q;rcases iX with q'|q'
    ·exact .inl (by rw [<-q'];exact q)
    ·have q:pr.aZ=some i:=q;rw [q'] at q;cases q;exact .inr aa
def VB{w:World}{d:Nat}{m:Dm}{D:Dk}(h:DO w d m D)(hW:D.l.length<=1000000000):
  ae 165 #[d] w λe w'=>e=Value.int .i64 (rW D).2/\alE w d m (rW D).1 w':=by
 apply HR.vc;refine (D4 h).mono ?_;rintro e w0 ⟨rfl,h0,m0⟩;have z0:=m0.size;have m0':Mod (λi=>i=d\/m.ls.aZ=some i) w w0:=m0.mono λi _ hi=> .inl hi
 have bc:=h.ok.sync;obtain ⟨e1,e2,e3⟩:=mL D;refine ⟨_,rfl,Br.mk (λhf=> ?_) (λhf=> ?_)⟩
 ·have e:rW D=((jw D).1,9):=by unfold rW;rw [if_pos hf]
  rw [e];exact ⟨rfl,m,h0,m0',λi hi=> .inl hi,λi hi=> .inl hi⟩
 ·have e:rW D=({(jw D).1 with safe:=uH D,l:=[]},0):=by unfold rW;rw [if_neg (by rw [hf];decide)]
  rw [e] at bc ⊢;refine (CD h0 (by rw [e2];exact hW)).mono ?_;rintro e w2 ⟨r',E',rfl,Je,hp,fa,x2,hr'⟩;rw [W3] at hp;have h2:=h0.ext x2;have z2:=x2.size;have Tr:=h.rd.lt;obtain ⟨p1,p2⟩:=h2.rd.ic (j:=3) (v:=.map (some r')) bg rfl;refine ⟨_,rfl,⟨rfl,p1⟩,λw4 e4=> ?_⟩;obtain ⟨q1,q2⟩:=p2 w4 e4;obtain ⟨p3,p4⟩:=q1.ic (j:=4) (v:=.slice none 0 0) (show 4<5 by decide) rfl;refine ⟨⟨rfl,p3⟩,λw5 e5=>⟨rfl,⟨r',⟨none,0,0⟩,E',[]⟩,?_,?_,?_,λi q=>by cases q⟩⟩
  ·obtain ⟨q3,q4⟩:=p4 w5 e5;have mm:=q2.trans q4;refine ⟨q3,mm.map Je λq=>h2.rd.fY Je q.symm,ar.nil,hp,rfl,λx hx=> ?_,bc⟩;have hx':x ∈ E':=by simpa using hx
   have FA:=h2.bl x (fa x hx');refine ⟨mm.gU FA.o λg hg=> ?_,FA.b⟩;obtain ⟨cs',oS⟩:=aY FA.o aA hg;exact oS.ne h2.rd aA
  ·obtain ⟨q3,q4⟩:=p4 w5 e5;exact (m0'.trans (Mod.aC x2)).trans ((q2.trans q4).mono λi _ hi=> .inl hi)
  ·rintro i (q|q|q|⟨x,hx,q⟩)
   ·exact .inl (.inl q)
   ·exact .inr (by rw [q];show _<=r';omega)
   ·cases q
   ·have hx':x ∈ E':=by simpa using hx
    exact .inl (.inr (.inr (.inr ⟨x,fa x hx',q⟩)))
def Np(l:List mc)(k:Nat):eo (l.take k)<=eo l:=by have:=RV (l.take k) (l.drop k);rw [qM] at this;omega
def aaI{l:List mc}{k:Nat}{x:mc}(h:l[k]? =some x):eo (l.take (k+1))=eo (l.take k)+x.2.length:=by rw [dy,h,RV];rfl
def Io{w:World}{d:Nat}{m:Dm}{D:Dk}(h:DO w d m D)(hW:D.l.length<=1000000000)(hL:eo D.l<=1099511627776):
  ae 206 #[d] w λe w'=>e=Value.int .i64 (eo D.l:Nat)/\Ext w w':=by
 apply HT.vc;obtain ⟨n1,n2⟩:=h.nW;refine ⟨m.ls,h.rd.at 4 rfl,λn i c wr=>∃k:Nat,i=k/\k+n=m.W.length/\c=(eo (D.l.take k):Nat)/\Ext w wr,⟨m.W.length,0,rfl,aa,rfl,Ext.cG _⟩,?_⟩;rintro n us i c wr ⟨k,rfl,hk,rfl,xr⟩;apply Br.mk<;>intro hc
 ·replace hc:=nh hc;obtain ⟨x,hx⟩:=bq (l:=m.W) (i:=k) aa;have hr:=(h.ext xr).ol.rd (show 0<2 by decide);have Je:(m.W.map wV)[k]? =some (wV x):=by rw [aS,hx];rfl
  have wk:=ov (j:=k);have hl:D.l[k]? =some (kb x):=by rw [<-h.sl,aS,hx];rfl
  have hxn:=iA.n (mh.Gw (h.bl x (bX.2 (.inr (aO hx)))).o);have iC:=aaI hl;have hle:=Np D.l (k+1);have e2:(kb x).2.length=x.2.2.length:=rfl;refine ⟨RdK.jd hr aA aa hc,x.1,x.2.1,RdK.bI hr Je,λcC Fy bP Fj=> ?_⟩;have cR:Ext wr bP:=(aQ Fy).ab Fj (ak _);refine ⟨n-1,aa,k+1,wk,aa,?_,xr.tr cR⟩;rw [wI];omega
 ·replace hc:=nC hc;rw [fl aa];exact ⟨rfl,xr⟩
def ar.aww{B E k:Nat}{w:World}{s:Sl}{rows:List (LV)}(h:ar B E k w s rows)(hk:0<k){m:Nat}(hm:m<=rows.length)(c':Nat):ar B E k w ⟨aI s.a 0 c' k,m,s.c⟩ (rows.take m):=by
 rw [dz];rcases h.form hk with ⟨rfl,rfl⟩|⟨g,cs,ha,hg,hr,hc,hn,ht,hl⟩
 ·have:m=0:=by simpa using hm
  subst this;exact .nil
 ·rw [ha];have h1:m*k<=s.n*k:=vg _ aa;refine ar.jA hg hr hc aa ?_ (λr hr=>h.wd r (mB hr));have e1:cs.take (m*k)=(cs.take (s.n*k)).take (m*k):=by rw [List.take_take,Nat.min_eq_left h1]
  rw [e1,ht,tg m h.wd]
def VC{n:Int}{s:List mc}{l:List mc}{k:Nat}{x:mc}(h:l[k]? =some x):qn n s (l.drop k)=if (x.2.length:Int)<=n then qn (n-x.2.length) (lay s x) (l.drop (k+1)) else lay s (x.1,x.2.take n.toNat):=by have hk:=(bZ.1 h);rw [ue hk.1,hk.2];rfl
def QF{w:World}{d:Nat}{m:Dm}{D:Dk}(h:DO w d m D)(hW:D.l.length<=1000000000)(hL:eo D.l<=1099511627776)(aW:Int):
  ae 146 #[d,aW] w λe w'=>e=Value.int .i64 (dv D aW).2/\∃m',DO w' d m' (dv D aW).1/\Mod (λi=>i=d\/i=m.r) w w'/\(∀i,dF d m' i->dF d m i\/w.heap.size<=i):=by
 apply E6.vc;have bc:=h.ok.Pg aW;refine (Io h hW hL).mono ?_;rintro e w0 ⟨rfl,x0⟩;refine ⟨_,rfl,(Io (h.ext x0) hW hL).mono ?_⟩;rintro e w2 ⟨rfl,x2⟩;have xh:=x0.tr x2;have h2:=h.ext xh;obtain ⟨n1,n2⟩:=h.nW;have Om:(if ((eo D.l:Nat):Int)<(if 0>aW then 0 else aW) then ((eo D.l:Nat):Int) else (if 0>aW then 0 else aW))=ql D aW:=by unfold ql;split<;>split<;>omega
 have Ts:0<=ql D aW/\ql D aW<=eo D.l:=by unfold ql;omega
 have hlost:aw (((eo D.l:Nat):Int)-ql D aW)=(dv D aW).2:=by unfold dv;rw [wI]
 have Tr:=h.rd.lt;have hrl:=h.rm.lt;have jj:m.r≠d:=λq=>h.rd.fY h.rm q.symm
 refine ⟨_,rfl,m.ls,h2.rd.at 4 rfl,?_⟩;rw [Om,hlost];refine ⟨λn i c wr=>∃(k:Nat)(E':List Bl)(s:List mc),i=k/\k+n=m.W.length/\0<=c/\c<=eo D.l/\bS GI wr (some m.r) (E'.map mT)/\(E'.map kb).Perm s/\(fX s).Nodup/\qn c s (D.l.drop k)=qn (ql D aW) D.safe D.l/\
  (∀x ∈ E',EY wr x/\∀b,x.2.1.aZ=some b->∃y ∈ m.E++m.W,y.2.1.aZ=some b)/\Mod (λi=>i=m.r) w2 wr,
  ⟨m.W.length,0,m.E,D.safe,rfl,aa,Ts.1,Ts.2,h2.rm,h.sf,h.ok.nd,by rw [List.drop_zero],λx hx=>⟨h2.bl x (bX.2 (.inl hx)),λb hb=>⟨x,bX.2 (.inl hx),hb⟩⟩,Mod.refl _ _⟩,?_⟩
 rintro n6 us i c bo ⟨k,E',s,rfl,hk,um,Ta,hm,hp,hnd,V9,lj,mr⟩;have z2:=xh.size;have XB:=mr.size;have off:∀{u v:World} {g:Nat} {cs:LV} {τ:TypeId},bS GI u (some m.r) (E'.map mT)->Row u g cs τ->¬g=m.r:=λhm' hr' q=>hr'.fY hm' q
 have aBc:=mr.row h2.rd (λq=>jj q.symm);have aBd:∀b,m.ls.aZ=some b->¬b=m.r:=λb hb q=>by obtain ⟨cs',oS⟩:=aY h.ol aA hb;exact oS.fY h.rm q
 have aBe:ar 0 tW 2 bo m.ls (m.W.map wV):=mr.gU h2.ol aBd;have fin:∀{u:World} {E1:List Bl} {s1:List mc},Mod (λi=>i=m.r) w2 u->bS GI u (some m.r) (E1.map mT)->(E1.map kb).Perm s1->s1=qn (ql D aW) D.safe D.l->(∀x ∈ E1,EY u x/\∀b,x.2.1.aZ=some b->∃y ∈ m.E++m.W,y.2.1.aZ=some b)->
   Wr u (af (aD d) 4) 1/\∀u1,u1=bF u (af (aD d) 4) [.slice none 0 0]->Wr u1 (af (aD d) 1) 1/\∀u2,u2=bF u1 (af (aD d) 1) [ai]->Wr u2 (af (aD d) 2) 1/\∀u3,u3=bF u2 (af (aD d) 2) [ai]->
    Ending.returned (.int .i64 (dv D aW).2)=Value.int .i64 (dv D aW).2/\∃m',DO u3 d m' (dv D aW).1/\Mod (λi=>i=d\/i=m.r) w u3/\(∀i,dF d m' i->dF d m i\/w.heap.size<=i):=by
  intro u E1 s1 mu hmu hpu hsu hbu;have rdu:=mu.row h2.rd (λq=>jj q.symm);obtain ⟨p1,p2⟩:=rdu.ic (j:=4) (v:=.slice none 0 0) bg rfl;refine ⟨p1,λu1 eu1=> ?_⟩;obtain ⟨q1,q2⟩:=p2 u1 eu1;obtain ⟨p3,p4⟩:=q1.ic (j:=1) (v:=.int .i64 0) (show 1<5 by decide) rfl;refine ⟨p3,λu2 eu2=> ?_⟩;obtain ⟨q3,q4⟩:=p4 u2 eu2;obtain ⟨p5,p6⟩:=q3.ic (j:=2) (v:=.int .i64 0) (show 2<5 by decide) rfl;refine ⟨p5,λu3 eu3=>⟨rfl,⟨m.r,⟨none,0,0⟩,E1,[]⟩,?_,?_,?_⟩⟩
  ·obtain ⟨q5,q6⟩:=p6 u3 eu3;have mm:=(q2.trans q4).trans q6;refine ⟨q5,mm.map hmu jj,ar.nil,(by rw [hsu] at hpu;exact hpu),rfl,λx hx=> ?_,bc⟩;have hx':x ∈ E1:=by simpa using hx
   have FA:=(hbu x hx').1;refine ⟨mm.gU FA.o λg hg=> ?_,FA.b⟩;obtain ⟨cs',oS⟩:=aY FA.o aA hg;exact oS.ne rdu aA
  ·obtain ⟨q5,q6⟩:=p6 u3 eu3;exact ((Mod.aC xh).trans (mu.mono λi _ hi=> .inr hi)).trans (((q2.trans q4).trans q6).mono λi _ hi=> .inl hi)
  ·rintro i (q|q|q|⟨x,hx,q⟩)
   ·exact .inl (.inl q)
   ·exact .inl (.inr (.inl q))
   ·cases q
   ·have hx':x ∈ E1:=by simpa using hx
    obtain ⟨y,hy,qy⟩:=(hbu x hx').2 i q;exact .inl (.inr (.inr (.inr ⟨y,hy,qy⟩)))
 apply Br.mk<;>intro hc
 ·replace hc:=nh hc;obtain ⟨x,hx⟩:=bq (l:=m.W) (i:=k) aa;have hr:=aBe.rd (show 0<2 by decide);have Je:(m.W.map wV)[k]? =some (wV x):=by rw [aS,hx];rfl
  have wk:=ov (j:=k);have hl:D.l[k]? =some (kb x):=by rw [<-h.sl,aS,hx];rfl
  have hxm:x ∈ m.E++m.W:=bX.2 (.inr (aO hx));have FA:=h2.bl x hxm;have hbx10:mh 0 bo x.2.1 x.2.2:=mr.gU FA.o λb hb q=>by obtain ⟨cs',oS⟩:=aY FA.o aA hb;exact oS.fY h2.rm q
  have hxn:=iA.n (mh.Gw FA.o);have hxc:=ar.le FA.o;have uu:=VC (n:=c) (s:=s) hl;have e2:(kb x).2=x.2.2:=rfl;have e3:(kb x).1=x.1:=rfl;rw [e2,e3] at uu;refine ⟨RdK.jd hr aA aa hc,x.1,x.2.1,RdK.bI hr Je,λbH uU ee qu=> ?_⟩;have cW:Ext bo ee.drew:=((aQ uU).ab qu (ak _)).drew;have atW:=hm.same (cW.heap hm.lt);have hbl15:∀y ∈ E',EY ee.drew y/\∀b,y.2.1.aZ=some b->∃z ∈ m.E++m.W,z.2.1.aZ=some b:=λy hy=>⟨⟨(lj y hy).1.o.ext cW,(lj y hy).1.b⟩,(lj y hy).2⟩
  have aBf:=mr.trans (Mod.aC cW:Mod (λi=>i=m.r) bo ee.drew);obtain ⟨q,hq,hqn⟩:∃q:Nat,(if c<((x.2.1.n:Nat):Int) then c else ((x.2.1.n:Nat):Int))=q/\q=min c.toNat x.2.2.length:=by refine ⟨min c.toNat x.2.2.length,?_,rfl⟩;split<;>omega
  rw [hq];refine ⟨_,(aBc.ext cW).at 3 rfl,aa,aa,GI,E'.map mT,Hy,rfl,atW,⟨_,rfl⟩,λfK g8 agb=> ?_⟩;have ecut:(Value.slice (aI x.2.1.a 0 x.2.1.c 1) (((q:Nat):Int).toNat-0) (x.2.1.c-0))=.slice (aI x.2.1.a 0 x.2.1.c 1) q x.2.1.c:=rfl;rw [ecut] at agb;have hE:vo (E'.map mT) (.int .i64 x.1) (.slice (aI x.2.1.a 0 x.2.1.c 1) q x.2.1.c)=(Ew (λy:Bl=>y.1) E' (x.1,⟨aI x.2.1.a 0 x.2.1.c 1,q,x.2.1.c⟩,x.2.2.take q)).map mT:=Qw E' (x.1,⟨aI x.2.1.a 0 x.2.1.c 1,q,x.2.1.c⟩,x.2.2.take q);rw [hE] at agb;have m19:Mod (λi=>i=m.r) ee.drew fK:=Mod.q9 g8;have atX:=aBf.trans m19
  have aoJ:((Ew (λy:Bl=>y.1) E' (x.1,⟨aI x.2.1.a 0 x.2.1.c 1,q,x.2.1.c⟩,x.2.2.take q)).map kb).Perm (lay s (x.1,x.2.2.take q)):=
   Pc (f:=λy:Bl=>y.1) (g:=λy:Bl=>y.2.2) (x.1,⟨aI x.2.1.a 0 x.2.1.c 1,q,x.2.1.c⟩,x.2.2.take q) hp hnd
  have iX:(Sl.mk (aI x.2.1.a 0 x.2.1.c 1) q x.2.1.c).aZ=x.2.1.aZ:=by rw [dz];rfl
  have hbl19:∀y ∈ Ew (λy:Bl=>y.1) E' (x.1,⟨aI x.2.1.a 0 x.2.1.c 1,q,x.2.1.c⟩,x.2.2.take q),EY fK y/\∀b,y.2.1.aZ=some b->∃z ∈ m.E++m.W,z.2.1.aZ=some b:=λy hy=>by
   have aju:EY ee.drew y/\∀b,y.2.1.aZ=some b->∃z ∈ m.E++m.W,z.2.1.aZ=some b:=by
    rcases Pb hy with rfl|hy
    ·refine ⟨⟨?_,λc hc=>FA.b c (mB hc)⟩,λb hb=>⟨x,hxm,by rw [<-iX];exact hb⟩⟩;have:=ar.aww (hbx10.ext cW) aA (m:=q) (by rw [aL];omega) x.2.1.c;rw [<-List.map_take] at this;exact this
    ·exact hbl15 y hy
   refine ⟨⟨m19.gU aju.1.o λb hb e=> ?_,aju.1.b⟩,aju.2⟩;obtain ⟨cs',oS⟩:=aY aju.1.o aA hb;exact oS.fY atW e
  have pb:∀j,bk (af (aD d) j)≠some bo.heap.size:=λj q=>by
   rw [cP] at q;have:d=bo.heap.size:=by simpa [bk] using q
   omega
  apply Br.mk<;>intro hb
  ·replace hb:=nh hb;rw [if_neg aa] at uu;have hqc:q=c.toNat:=by omega
   obtain ⟨f1,f2⟩:=fin atX agb aoJ (by rw [hqc,<-V9,uu]) hbl19;refine ⟨⟨rfl,f1⟩,pb _,λfx Nz=> ?_⟩;obtain ⟨f3,f4⟩:=f2 fx Nz;refine ⟨⟨rfl,f3⟩,pb _,λdU zh=> ?_⟩;obtain ⟨f5,f6⟩:=f4 dU zh;exact ⟨⟨rfl,f5⟩,pb _,λdm zi=>f6 dm zi⟩
  ·replace hb:=nC hb;rw [if_pos aa] at uu;have hqx:x.2.2.take q=x.2.2:=fl aa;have hqx2:q=x.2.2.length:=by omega
   rw [hqx] at aoJ hbl19 agb;refine ⟨n6-1,aa,k+1,_,lay s (kb x),wk,aa,?_,?_,agb,aoJ,pz hnd,?_,hbl19,atX⟩
   ·rw [wI];omega
   ·rw [wI];omega
   ·rw [wI,hqx2,<-V9,uu]
 ·replace hc:=nC hc;have BW:k=m.W.length:=by omega
  have hcr2:s=qn (ql D aW) D.safe D.l:=by rw [<-V9,Aq aa];rfl
  obtain ⟨f1,f2⟩:=fin mr hm hp hcr2 lj;refine ⟨⟨rfl,f1⟩,λfx Nz=> ?_⟩;obtain ⟨f3,f4⟩:=f2 fx Nz;refine ⟨⟨rfl,f3⟩,λdU zh=> ?_⟩;obtain ⟨f5,f6⟩:=f4 dU zh;exact ⟨⟨rfl,f5⟩,λdm zi=>f6 dm zi⟩
abbrev aqG:TypeId:=202
structure SO(w:World)(st d:Nat)(m:Dm)(D:Dk):Prop where
 rs:Row w st [d] CI
 dk:DO w d m D
def sF(st d:Nat)(m:Dm)(i:Nat):Prop:=i=st\/dF d m i
def SO.lt{w:World}{st d:Nat}{m:Dm}{D:Dk}(h:SO w st d m D){i:Nat}(hi:sF st d m i):i<w:=by
 rcases hi with rfl|hi
 ·exact h.rs.lt
 ·exact h.dk.lt hi
def SO.same{w w':World}{st d:Nat}{m:Dm}{D:Dk}(h:SO w st d m D)(hs:∀i,sF st d m i->w'.heap[i]? =w.heap[i]?):SO w' st d m D:=⟨h.rs.same (hs _ (.inl rfl)),h.dk.same λi hi=>hs i (.inr hi)⟩
def SO.ext{w w':World}{st d:Nat}{m:Dm}{D:Dk}(h:SO w st d m D)(x:Ext w w'):SO w' st d m D:=h.same λi hi=>x.heap (h.lt hi)
def SO.ptr{w:World}{st d:Nat}{m:Dm}{D:Dk}(h:SO w st d m D):ld w (af (af (aD st) 0) 0)=some (.pointer (aD d)):=by rw [aV,aV,h.rs.ld];rfl
def aaS(room:Int)(w:World):ae 212 #[room] w λe w'=>∃d m,e=Value.pointer (aD d)/\DO w' d m ⟨min (max room 0) 1048576,0,0,[],[]⟩/\Ext w w'/\∀i,dF d m i->w.heap.size<=i:=by
 apply ac9.vc;intro w0 e0 w1 e1;have z0:=fj e0;have x1:=aQ e1;have hm:bS GI w0 (some w.heap.size) []:=by rw [e0];exact bS.new
 have er:(if 1048576<(if 0>room then 0 else room) then 1048576 else (if 0>room then 0 else room))=min (max room 0) 1048576:=by split<;>split<;>omega
 rw [er] at e1;refine ⟨w0.heap.size,⟨w.heap.size,⟨none,0,0⟩,[],[]⟩,rfl,⟨by rw [e1];exact Row.new w0 [_,_,_,_,_] _,hm.same (x1.heap hm.lt),ar.nil,.refl _,rfl,(λx hx=>by cases hx),⟨List.nodup_nil,λk=>by simp [eo];omega,bg,bg,by simp only;omega⟩⟩,(aQ e0).tr x1,λi hi=> ?_⟩;rcases hi with q|q|q|⟨x,hx,-⟩
 ·omega
 ·rw [q];exact ak _
 ·cases q
 ·cases hx
def aaR(room:Int)(w:World):ae 149 #[room] w λe w'=>∃st d m,e=Value.pointer (aD st)/\SO w' st d m ⟨min (max room 0) 1048576,0,0,[],[]⟩/\Ext w w'/\∀i,sF st d m i->w.heap.size<=i:=by
 apply Yy.vc;refine (aaS room w).mono ?_;rintro e w0 ⟨d,m,rfl,hd,x0,hf⟩;refine ⟨_,rfl,λw2 e2=> ?_⟩;have x2:=aQ e2;have z:=x0.size;refine ⟨_,d,m,rfl,⟨by rw [e2];exact Row.new w0 [_] _,hd.ext x2⟩,x0.tr x2,λi hi=> ?_⟩;rcases hi with q|q
 ·omega
 ·exact hf i q
def R7{w:World}{st d:Nat}{m:Dm}{D:Dk}(h:SO w st d m D)(hW:D.l.length<=1000000000){id:Int}(Td:0<=id/\id<=1099511627776):
  ae 133 #[st,id] w λe w'=>∃s:Sl,e=Value.agg #[.int .i64 (dt D id).1,.int .i64 (dt D id).2.1,.slice s.a s.n s.c]/\iA w' s (dt D id).2.2/\mM (dt D id).2.2/\(dt D id).2.2.length<=1048576/\s.n<=s.c/\(∀g,s.aZ=some g->w.heap.size<=g)/\Ext w w':=by
 apply E4.vc;intro w0 e0 w1 e1 w2 e2;have z0:=fj e0;have z1:w1.heap.size=w.heap.size+2:=by rw [e1];simp [z0]
 have z2:w2.heap.size=w.heap.size+2:=by rw [e2,setRow_size,z1]
 have x2:Ext w w2:=((aQ e0).br e1).ab e2 aa;have k0:aw (2*id)=2*id:=wI;have k1:aw (2*id+1)=2*id+1:=wI;rw [k0,k1];obtain ⟨best,hbest⟩:∃best:Nat->Rc,best=λk=>if k=0 then (2*id+1,0,[]) else if k=1 then dP (2*id+1,0,[]) (2*id) (nJ (getD D (2*id))) else dt D id:=⟨_,rfl⟩
 have b0:best 0=(2*id+1,0,[]):=by rw [hbest];rfl
 have b1:best 1=dP (best 0) (2*id) (nJ (getD D (2*id))):=by rw [b0,hbest];rfl
 have b2:best 2=dP (best 1) (2*id+1) (nJ (getD D (2*id+1))):=by rw [b1,b0,hbest];rfl
 have b3:best 2=dt D id:=by rw [hbest];rfl
 refine ⟨λn i sl v s wr=>∃k:Nat,i=k/\k+n=2/\sl=(best k).1/\v=(best k).2.1/\iA wr s (best k).2.2/\mM (best k).2.2/\(best k).2.2.length<=1048576/\s.n<=s.c/\(∀g,s.aZ=some g->w2.heap.size<=g)/\Ext w wr/\w2.heap.size<=wr,
  ⟨2,rfl,0,rfl,rfl,by rw [b0],by rw [b0],by rw [b0];exact mh.Gw (ar.nil (B:=0)),by rw [b0];exact (λc hc=>by cases hc),by rw [b0];simp,ak _,(λg hg=>by cases hg),x2,ak _⟩,?_⟩
 rintro n4 us i sl v s bo ⟨k,rfl,hk,rfl,rfl,hs,Tf,ow,hsc,hsf,bE,XB⟩;apply Br.mk<;>intro hc
 ·replace hc:=nh hc;have Tq:=ov (j:=k);obtain ⟨slot,hslot,hnext⟩:∃slot,([.int .i64 (2*id),.int .i64 (2*id+1)]:LV)[((k:Nat):Int).toNat*1]? =some (.int .i64 slot)/\best (k+1)=dP (best k) slot (nJ (getD D slot)):=by
   rcases k with _|_|k
   ·exact ⟨_,rfl,b1⟩
   ·exact ⟨_,rfl,b2⟩
   ·omega
  have h10:=h.ext bE;refine ⟨⟨aa,aa⟩,slot,hslot,_,h10.ptr,(Zd h10.dk hW slot).mono ?_⟩;rintro e bH ⟨t,tb,rfl,ot,hby,hle,cB⟩;have z14:=cB.size;refine ⟨t,tb,rfl,cB.heap aa,cB.heap aa,(Vq t (getD D slot) bH (mh.Gw ot) hby (ar.le ot) aa).mono ?_⟩;rintro e cL ⟨u,rfl,hu,huc,hub,dH⟩;have z17:=dH.size;have agh:=cB.tr dH;have hui:=al5 hby
  have hul:=al6 (getD D slot);have aW:dP (best k) slot (nJ (getD D slot))=best k->∃tN,tN<n4/\aN [ai,ai,.slice none 0 0]/\∃k':Nat,aw ((k:Int)+1)=(k':Int)/\k'+tN=2/\(best k).1=(best k').1/\(best k).2.1=(best k').2.1/\iA cL s (best k').2.2/\mM (best k').2.2/\(best k').2.2.length<=1048576/\s.n<=s.c/\(∀g,s.aZ=some g->w2.heap.size<=g)/\Ext w cL/\w2.heap.size<=cL:=λq=>by rw [q] at hnext;exact ⟨n4-1,aa,rfl,k+1,Tq,aa,by rw [hnext],by rw [hnext],by rw [hnext];exact hs.ext agh,by rw [hnext];exact Tf,by rw [hnext];exact ow,hsc,hsf,bE.tr agh,aa⟩
  refine ⟨_,u,_,rfl,dH.heap aa,dH.heap aa,Br.mk (λhb=>Br.mk (λj8=> ?_) (λj8=> ?_)) (λhb=> ?_)⟩
  ·have q1:=cS hb;have q2:=cS j8;have e:dP (best k) slot (nJ (getD D slot))=(slot,(nJ (getD D slot)).1,(nJ (getD D slot)).2.1):=by unfold dP;rw [if_pos ⟨q1,q2⟩]
   rw [e] at hnext;intro dU zh;have eO:Ext w dU:=(bE.tr agh).ab zh aa;have aBJ:iA dU u (nJ (getD D slot)).2.1:=hu.same λg hg=>by rw [zh];exact setRow_other _ _ _ _ (by have:=hub g hg;omega)
   have z21:dU.heap.size=cL.heap.size:=by rw [zh,setRow_size]
   exact ⟨n4-1,aa,rfl,k+1,Tq,aa,by rw [hnext],by rw [hnext],by rw [hnext];exact aBJ,by rw [hnext];exact hui,by rw [hnext];simp only;omega,huc,(λg hg=>by have:=hub g hg;omega),eO,aa⟩
  ·have q2:=cS j8;exact aW (by unfold dP;rw [if_neg λq=>q2 q.2])
  ·have q1:=cS hb;exact aW (by unfold dP;rw [if_neg λq=>q1 q.1])
 ·replace hc:=nC hc;have BW:k=2:=by omega
  subst BW;rw [b3] at hs Tf ow ⊢;intro dm zi;refine ⟨s,rfl,hs.same λg hg=> ?_,Tf,ow,hsc,λg hg=>by have:=hsf g hg;omega,bE.ab zi (ak _)⟩;rw [zi];exact setRow_other _ _ _ _ (by have:=hsf g hg;omega)
def LQ(id:Int)(w:World):ae 132 #[id] w λe w'=>e=Value.bool (rV id)/\w'=w:=by
 apply Yz.vc;unfold rV;apply Br.mk<;>intro h
 ·simp only [ge_iff_le,cJ] at h;rw [decide_eq_true h];exact ⟨rfl,rfl⟩
 ·simp only [ge_iff_le,fA] at h;rw [decide_eq_false h];exact ⟨rfl,rfl⟩
def R8{id:Int}:rV id=true ↔ 0<=id/\id<=1099511627776:=by unfold rV;simp
def DW{w:World}{st d:Nat}{m:Dm}{D:Dk}(h:SO w st d m D)(hW:D.l.length<=1000000000)(id:Int):
  ae 76 #[st,id] w λe w'=>∃s:Sl,e=Value.tuple #[s,.int .i64 (lu D id).2.1,.bool (lu D id).2.2]/\iA w' s (lu D id).1/\mM (lu D id).1/\(lu D id).1.length<=1048576/\s.n<=s.c/\(∀g,s.aZ=some g->w.heap.size<=g)/\Ext w w':=by
 apply CA.vc;refine (LQ id w).mono ?_;rintro e w0 ⟨rfl,rfl⟩;refine ⟨_,rfl,Br.mk (λhb=> ?_) (λhb=> ?_)⟩
 ·have q:¬rV id=true:=by simpa using hb
  have e:lu D id=([],0,false):=by unfold lu;rw [if_neg q]
  rw [e];exact ⟨⟨none,0,0⟩,rfl,mh.Gw (ar.nil (B:=0)),(λc hc=>by cases hc),bg,ak _,(λg hg=>by cases hg),Ext.cG _⟩
 ·have q:rV id=true:=by simpa using hb
  have e:lu D id=((dt D id).2.2,(dt D id).2.1,decide ((dt D id).2.1>0)):=by unfold lu;rw [if_pos q]
  rw [e];refine (R7 h hW (R8.1 q)).mono ?_;rintro e w2 ⟨s,rfl,hs,Tf,ow,hsc,hsf,x2⟩;refine ⟨_,_,s,rfl,λw6 e6 w7 e7=> ?_⟩;have x7:Ext w2 w7.drew:=((aQ e6).ab e7 (ak _)).drew;exact ⟨s,rfl,hs.ext x7,Tf,ow,hsc,hsf,x2.tr x7⟩
def Fh(w:World)(st d:Nat)(m:Dm)(D:Dk)(w':World):Prop:=∃m',SO w' st d m' D/\Mod (λi=>i=d\/m.ls.aZ=some i) w w'/\(∀i,dF d m' i->dF d m i\/w.heap.size<=i)/\∀i,m'.ls.aZ=some i->m.ls.aZ=some i\/w.heap.size<=i
def SO.off{w:World}{st d:Nat}{m:Dm}{D:Dk}(h:SO w st d m D):¬(st=d\/m.ls.aZ=some st):=by
 rintro (q|q)
 ·exact h.rs.ne h.dk.rd aA q
 ·obtain ⟨cs',oS⟩:=aY h.dk.ol aA q;exact h.rs.ne oS aA rfl
def SO.res{w w':World}{st d:Nat}{m:Dm}{D D':Dk}(h:SO w st d m D)(hr:alE w d m D' w'):Fh w st d m D' w':=by obtain ⟨m',h1,h2,h3,h4⟩:=hr;exact ⟨m',⟨h2.row h.rs h.off,h1⟩,h2,h3,h4⟩
def Fh.aC{w0 w w':World}{st d:Nat}{m:Dm}{D':Dk}(x:Ext w0 w)(hr:Fh w st d m D' w'):Fh w0 st d m D' w':=by obtain ⟨m',h1,h2,h3,h4⟩:=hr;have z:=x.size;exact ⟨m',h1,(Mod.aC x).trans h2,λi hi=>(h3 i hi).imp id λq=>by omega,λi hi=>(h4 i hi).imp id λq=>by omega⟩
def Fh.trans{w w1 w2:World}{st d:Nat}{m m1:Dm}{D1 D2:Dk}(h1:SO w1 st d m1 D1/\Mod (λi=>i=d\/m.ls.aZ=some i) w w1/\(∀i,dF d m1 i->dF d m i\/w.heap.size<=i)/\∀i,m1.ls.aZ=some i->m.ls.aZ=some i\/w.heap.size<=i)(h2:Fh w1 st d m1 D2 w2):Fh w st d m D2 w2:=by
 obtain ⟨a1,a2,a3,a4⟩:=h1;obtain ⟨m2,b1,b2,b3,b4⟩:=h2;have z:=a2.size;refine ⟨m2,b1,a2.tr b2 λi hi=> ?_,λi hi=> ?_,λi hi=> ?_⟩
 ·rcases hi with q|q
  ·exact .inl (.inl q)
  ·exact (a4 i q).imp .inr id
 ·rcases b3 i hi with q|q
  ·exact a3 i q
  ·exact .inr aa
 ·rcases b4 i hi with q|q
  ·exact a4 i q
  ·exact .inr aa
def DK{w:World}{st d:Nat}{m:Dm}{D:Dk}(h:SO w st d m D)(hW:D.l.length<=1000000)(id:Int)(s:Sl)(b:List Int)(hs:iA w s b)(hb:mM b)(hn:b.length<=1099511627776):
  ae 115 #[st,id,s] w λe w'=>e=Value.int .i64 (lk D id b).2/\Fh w st d m (lk D id b).1 w':=by
 apply (CW.vc (a2:=s));have same:∀{w':World},Ext w w'->Fh w st d m D w':=λx=>⟨m,h.ext x,Mod.aC x,λi hi=> .inl hi,λi hi=> .inl hi⟩
 refine (LQ id w).mono ?_;rintro e w0 ⟨rfl,rfl⟩;refine ⟨_,rfl,Br.mk (λKs=> ?_) (λKs=> ?_)⟩
 ·have q:¬rV id=true:=by simpa using Ks
  have e:lk D id b=(D,1):=by unfold lk;rw [if_neg q]
  rw [e];exact ⟨rfl,same (Ext.cG _)⟩
 ·have q:rV id=true:=by simpa using Ks
  have Td:=R8.1 q;refine (R7 h aa Td).mono ?_;rintro e w2 ⟨s5,rfl,-,-,-,-,-,x2⟩;refine ⟨_,_,s5,rfl,λw6 e6 w7 e7=> ?_⟩;have r7:Row w7 w2 [.int .i64 (dt D id).1,.int .i64 (dt D id).2.1,s5] aqG:=by rw [e7];exact Row.set (by rw [e6];exact Row.new w2 [_,_,_] _) _
  have jm:Ext w2 w7:=(aQ e6).ab e7 (ak _);have x7:=x2.tr jm;have hv:=Wo D id;have wv:aw ((dt D id).2.1+1)=(dt D id).2.1+1:=wI;rw [wv];have ow:=Gv D id;have hto:mf .i64 (dt D id).1 1=4*id+1-(dt D id).1:=by
   obtain ⟨t1,t2⟩:=acu Td;rcases ow with q|q
   ·rw [q,t1];omega
   ·rw [q,t2];omega
  rw [hto];have hsv:lk D id b=if (zG ((dt D id).2.1+1) b).2≠0 then (D,(zG ((dt D id).2.1+1) b).2)
   else if (mg D (4*id+1-(dt D id).1) (zG ((dt D id).2.1+1) b).1).2≠0 then mg D (4*id+1-(dt D id).1) (zG ((dt D id).2.1+1) b).1
   else rW (mg D (4*id+1-(dt D id).1) (zG ((dt D id).2.1+1) b).1).1:=by unfold lk;rw [if_pos q]
  rw [hsv];refine (RL ((dt D id).2.1+1) s b w7 (hs.ext x7) hb hn).mono ?_;rintro e w8 ⟨s9,rfl,o9,x8⟩;have hwb:mM (zG ((dt D id).2.1+1) b).1:=amc hb;have hwn:(zG ((dt D id).2.1+1) b).1.length<=1099511627776:=by
   unfold zG;split
   ·simp
   ·rename_i q3;rw [B7,zX];omega
  generalize zG ((dt D id).2.1+1) b=wr at*;generalize 4*id+1-(dt D id).1=slot at*;have z8:=x8.size;have z2:=jm.size;have hlt7:=r7.lt;refine ⟨s9,_,rfl,x8.heap hlt7,Br.mk (λj8=> ?_) (λj8=> ?_)⟩
  ·have q2:wr.2≠0:=by simpa using j8
   rw [if_pos q2];exact ⟨rfl,same (x7.tr x8)⟩
  ·have q2:wr.2=0:=by simpa using j8
   rw [if_neg (by rw [q2];simp)];have x8d:=(x7.tr x8).tr (Ext.dr w8);have h8:=h.ext x8d;have Tr:=h.dk.rd.lt;have z7:=x7.size;refine ⟨_,h8.ptr,(Zp h8.dk aa slot s9 wr.1 (RdK.ext (mh.Gw o9) (Ext.dr w8)) hwb hwn λhg=>by have:=(o9.own.lt hg).1;omega).mono ?_⟩;rintro e cC ⟨rfl,aBK⟩;have at7:=h8.res aBK;have Jf:∀{v:World},Mod (λi=>i=d\/m.ls.aZ=some i) w8.drew v->v.heap[w2.heap.size]? =w8.drew.heap[w2.heap.size]? :=λhm=>hm.same _ (by show w2.heap.size<w8.heap.size;omega) (by
    have:=x2.size;rintro (q|q)
    ·omega
    ·have:=(h.dk.ol.own.lt q).2;omega)
   obtain ⟨m1,g1,g2,g3,g4⟩:=at7;have r12:Row cC w2 [.int .i64 (dt D id).1,.int .i64 (dt D id).2.1,s5] aqG:=((r7.ext x8).ext (Ext.dr w8)).same (Jf g2);refine ⟨_,rfl,Jf g2,r12.bI (λj hj=>by simp at hj;subst hj;rfl),Br.mk (λhb3=> ?_) (λhb3=> ?_)⟩
   ·have q3:(mg D slot wr.1).2≠0:=by simpa using hb3
    rw [if_pos q3];exact ⟨rfl,Fh.aC x8d ⟨m1,g1,g2,g3,g4⟩⟩
   ·have q3:(mg D slot wr.1).2=0:=by simpa using hb3
    rw [if_neg (by rw [q3];simp)];have hpl:=acw D slot wr.1;refine ⟨_,g1.ptr,(VB g1.dk aa).mono ?_⟩;rintro e ee ⟨rfl,at8⟩;have at9:=g1.res at8;have bf:=Fh.trans ⟨g1,g2,g3,g4⟩ at9;have z12:=g2.size;obtain ⟨m2,f1,f2,f3,f4⟩:=at8;refine ⟨_,rfl,f2.same _ r12.lt ?_,rfl,Fh.aC x8d bf⟩;rintro (q|q)
    ·have:=x2.size;omega
    ·obtain ⟨cs',oS⟩:=aY g1.dk.ol aA q;exact r12.ne oS aA rfl
structure It where
 x:Nat
 g:Nat
 s:Sl
 p:Po
 C:List Int
 pT:Bool
 pins:Int
structure wQ(w:World)(i:It):Prop where
 r:Row w i.x [.pointer (aD i.g),.bool i.pT,i.pins] cF
 k:JI w i.g i.s i.p i.C
def wQ.ext{w w':World}{i:It}(h:wQ w i)(x:Ext w w'):wQ w' i:=⟨h.r.ext x,h.k.ext x⟩
def wQ.aW{w w':World}{i:It}(h:wQ w i){F:Nat->Prop}(hm:Mod F w w')(h1:¬F i.x)(h2:¬F i.g)(h3:∀b,i.s.aZ=some b->¬F b):wQ w' i:=⟨hm.row h.r h1,h.k.aW hm h2 h3⟩
abbrev Ez(its:List It):List (LV):=its.map λi=> [.pointer (aD i.x)]
structure TO(w:World)(t st d:Nat)(r:Dm)(sl:Sl)(D:Dk)(ag limit:Int)(its:List It):Prop where
 rt:Row w t [st,ag,limit,sl] CJ
 so:SO w st d r D
 ol:ar 0 tPI 1 w sl (Ez its)
 it:∀i ∈ its,wQ w i
 dx:(its.map (·.x)).Nodup
 dg:(its.map (·.g)).Nodup
 Wz:1<=limit/\limit<=16
 len:(its.length:Int)<=limit
def dM(m:Dm)(i:Nat):Prop:=i=m.r\/m.ls.aZ=some i\/∃x ∈ m.E++m.W,x.2.1.aZ=some i
def aq(t st d:Nat)(r:Dm)(sl:Sl)(its:List It)(i:Nat):Prop:=i=t\/i=st\/i=d\/dM r i\/sl.aZ=some i\/∃y ∈ its,i=y.x\/i=y.g\/y.s.aZ=some i
def TO.lt{w:World}{t st d:Nat}{r:Dm}{sl:Sl}{D:Dk}{ag limit:Int}{its:List It}(h:TO w t st d r sl D ag limit its){i:Nat}(hi:aq t st d r sl its i):i<w:=by
 rcases hi with rfl|e|e|e|e|⟨y,hy,e|e|e⟩
 ·exact h.rt.lt
 ·exact h.so.lt (.inl e)
 ·exact h.so.lt (.inr (.inl e))
 ·exact h.so.lt (.inr (.inr e))
 ·exact (h.ol.own.lt e).2
 ·exact e▸(h.it y hy).r.lt
 ·exact e▸(h.it y hy).k.row.lt
 ·exact ((h.it y hy).k.own.own.lt e).2
def TO.same{w w':World}{t st d:Nat}{r:Dm}{sl:Sl}{D:Dk}{ag limit:Int}{its:List It}(h:TO w t st d r sl D ag limit its)(hs:∀i,aq t st d r sl its i->w'.heap[i]? =w.heap[i]?):TO w' t st d r sl D ag limit its:=by
 refine ⟨h.rt.same (hs _ (.inl rfl)),h.so.same λi hi=>hs i ?_,ar.aW h.ol λb hb=>hs b (.inr (.inr (.inr (.inr (.inl hb))))),λy hy=> ?_,h.dx,h.dg,h.Wz,h.len⟩
 ·rcases hi with e|e|e
  ·exact .inr (.inl e)
  ·exact .inr (.inr (.inl e))
  ·exact .inr (.inr (.inr (.inl e)))
 ·have f:∀i,(i=y.x\/i=y.g\/y.s.aZ=some i)->w'.heap[i]? =w.heap[i]? :=λi hi=>hs i (.inr (.inr (.inr (.inr (.inr ⟨y,hy,hi⟩)))))
  have hi:=h.it y hy;exact ⟨hi.r.same (f _ (.inl rfl)),hi.k.row.same (f _ (.inr (.inl rfl))),ar.aW hi.k.own λb hb=>f b (.inr (.inr hb)),hi.k.len,hi.k.may⟩
def TO.ext{w w':World}{t st d:Nat}{r:Dm}{sl:Sl}{D:Dk}{ag limit:Int}{its:List It}(h:TO w t st d r sl D ag limit its)(x:Ext w w'):TO w' t st d r sl D ag limit its:=h.same λi hi=>x.heap (h.lt hi)
def TO.kind{w:World}{t st d:Nat}{r:Dm}{sl:Sl}{D:Dk}{ag limit:Int}{its:List It}(h:TO w t st d r sl D ag limit its){i:Nat}(hi:aq t st d r sl its i):
  bS GI w (some i) (r.E.map mT)\/∃cs τ,Row w i cs τ/\(τ=CJ\/τ=CI\/τ=tZ\/τ=tPI\/τ=cF\/τ=yG\/τ=iB\/τ=tW\/τ=je):=by
 rcases hi with e|e|e|e|e|⟨y,hy,e|e|e⟩
 ·exact .inr ⟨_,_,e▸h.rt,.inl rfl⟩
 ·exact .inr ⟨_,_,e▸h.so.rs,.inr (.inl rfl)⟩
 ·exact .inr ⟨_,_,e▸h.so.dk.rd,.inr (.inr (.inl rfl))⟩
 ·rcases h.so.dk.kind (.inr e) with q|⟨cs,τ,q1,q2⟩
  ·exact .inl q
  ·refine .inr ⟨cs,τ,q1,?_⟩;rcases q2 with rfl|rfl|rfl
   ·exact .inr (.inr (.inl rfl))
   ·exact .inr (.inr (.inr (.inr (.inr (.inr (.inr (.inl rfl)))))))
   ·exact .inr (.inr (.inr (.inr (.inr (.inr (.inr (.inr rfl)))))))
 ·obtain ⟨cs,hr⟩:=aY h.ol aA e;exact .inr ⟨_,_,hr,.inr (.inr (.inr (.inl rfl)))⟩
 ·exact .inr ⟨_,_,e▸(h.it y hy).r,.inr (.inr (.inr (.inr (.inl rfl))))⟩
 ·exact .inr ⟨_,_,e▸(h.it y hy).k.row,.inr (.inr (.inr (.inr (.inr (.inl rfl)))))⟩
 ·obtain ⟨cs,hr⟩:=aY (h.it y hy).k.own aA e;exact .inr ⟨_,_,hr,.inr (.inr (.inr (.inr (.inr (.inr (.inl rfl))))))⟩
def TO.dA{w:World}{t st d:Nat}{r:Dm}{sl:Sl}{D:Dk}{ag limit:Int}{its:List It}(h:TO w t st d r sl D ag limit its){j:Nat}{cs:LV}{τ:TypeId}(hr:Row w j cs τ)(hτ:τ≠CJ/\τ≠CI/\τ≠tZ/\τ≠tPI/\τ≠cF/\τ≠yG/\τ≠iB/\τ≠tW/\τ≠je):¬aq t st d r sl its j:=λhf=>by
 rcases h.kind hf with hm|⟨cs',τ',hr',ht⟩
 ·exact hr.fY hm rfl
 ·obtain ⟨h1,h2,h3,h4,h5,h6,h7,h8,h9⟩:=hτ
  rcases ht with rfl|rfl|rfl|rfl|rfl|rfl|rfl|rfl|rfl
  ·exact hr.ne hr' h1 rfl
  ·exact hr.ne hr' h2 rfl
  ·exact hr.ne hr' h3 rfl
  ·exact hr.ne hr' h4 rfl
  ·exact hr.ne hr' h5 rfl
  ·exact hr.ne hr' h6 rfl
  ·exact hr.ne hr' h7 rfl
  ·exact hr.ne hr' h8 rfl
  ·exact hr.ne hr' h9 rfl
def TO.n{w:World}{t st d:Nat}{r:Dm}{sl:Sl}{D:Dk}{ag limit:Int}{its:List It}(h:TO w t st d r sl D ag limit its):sl.n=its.length:=by have:=(h.ol.rd aA).n;rwa [aL] at this
def TO.at{w:World}{t st d:Nat}{r:Dm}{sl:Sl}{D:Dk}{ag limit:Int}{its:List It}(h:TO w t st d r sl D ag limit its){i:Nat}{y:It}(hi:its[i]? =some y):eL sl.a (i:Int) sl.n/\ld w (af sl.a (((i:Nat):Int).toNat*1))=some (.pointer (aD y.x)):=by have iQ:=(bZ.1 hi).1;have jj:=h.ol.rd (show 0<1 by decide);refine ⟨RdK.jd jj aA aa (by rw [h.n];omega),?_⟩;have:=jj.rd i [.pointer (aD y.x)] (by rw [aS,hi];rfl) 0 _ rfl;exact this
def Mh(room:Int):Dk:=⟨min (max room 0) 1048576,0,0,[],[]⟩
def aaQ(ag limit room:Int)(w:World):ae 96 #[ag,limit,room] w λe w'=>∃t st d r,e=Value.pointer (aD t)/\TO w' t st d r ⟨none,0,0⟩ (Mh room) ag (min (max limit 1) 16) []/\Ext w w'/\∀i,aq t st d r ⟨none,0,0⟩ [] i->w.heap.size<=i:=by
 apply YR.vc;refine (aaR room w).mono ?_;rintro e w0 ⟨st,d,m,rfl,hs,x0,hf⟩;refine ⟨_,rfl,λw2 e2=> ?_⟩;have x2:=aQ e2;have z0:=x0.size;have hl:(if 16<(if 1>limit then 1 else limit) then 16 else (if 1>limit then 1 else limit))=min (max limit 1) 16:=by split<;>split<;>omega
 rw [hl] at e2;refine ⟨_,st,d,m,rfl,⟨by rw [e2];exact Row.new w0 [_,_,_,_] _,hs.ext x2,ar.nil,bg,bg,bg,aa,by simp;omega⟩,x0.tr x2,λi hi=> ?_⟩;rcases hi with rfl|e|e|e|e|⟨y,hy,-⟩
 ·exact z0
 ·exact hf i (.inl e)
 ·exact hf i (.inr (.inl e))
 ·exact hf i (.inr (.inr e))
 ·cases e
 ·cases hy
def vr{α:Type}(s:Sl)(l:List α)(ad:α->Nat)(fv:Value)(q:α->Bool)(w:World)(hs:RdK w s 1 (l.map λi=> [.pointer (some ⟨ad i,0,none⟩)]))(hb:l.length<=1000)
  (hf:∀i ∈ l,∀w',Ext w w'->bB Tryz.prog fv [.pointer (some ⟨ad i,0,none⟩)] w' λe w''=>e=Value.bool (q i)/\Ext w' w''):
  ae 129 #[s,fv] w λe w'=>e=Value.int .i64 (bU q l)/\Ext w w':=by
 apply uF.vc;have hn:s.n=l.length:=by have:=hs.n;rwa [aL] at this
 refine ⟨λn i wr=>∃k:Nat,i=k/\k+n=l.length/\Ext w wr/\∀j,j<k->∀y,l[j]? =some y->q y=false,⟨l.length,0,rfl,aa,Ext.cG _,λj hj=>by omega⟩,?_⟩;rintro n us i wr ⟨k,rfl,hk,xr,l8⟩;have Tq:=ov (j:=k);apply Br.mk<;>intro hc
 ·replace hc:=nh hc;obtain ⟨y,hy⟩:=bq (l:=l) (i:=k) aa;have hsr:=RdK.ext hs xr;have ko:=hsr.rd k [.pointer (some ⟨ad y,0,none⟩)] (by rw [aS,hy];rfl) 0 _ rfl;refine ⟨RdK.jd hsr aA aa aa,_,ko,bV (hf y (aO hy) wr xr) ?_⟩;rintro e w7 ⟨rfl,x7⟩;refine ⟨_,rfl,Br.mk (λh=> ?_) (λh=> ?_)⟩
  ·exact ⟨by rw [pB hy h l8],xr.tr x7⟩
  ·refine ⟨n-1,aa,k+1,Tq,aa,xr.tr x7,λj hj z hz=> ?_⟩;by_cases e:j=k
   ·subst e;rw [hy] at hz;cases hz;exact h
   ·exact l8 j aa z hz
 ·replace hc:=nC hc;refine ⟨?_,xr⟩;rw [jE];intro y hy;obtain ⟨j,hj⟩:=tU hy;exact l8 j (by have:=(bZ.1 hj).1;omega) y hj
def find_spec{w:World}{t st d:Nat}{r:Dm}{sl:Sl}{D:Dk}{ag limit:Int}{its:List It}(h:TO w t st d r sl D ag limit its)(p:Po):
  ae 73 #[t,pv p] w λe w'=>e=Value.int .i64 (bU (λi=>i.p==p) its)/\Ext w w':=by
 apply Cy.vc;intro w0 e0;have x0:=aQ e0;have hb:Row w0 w [p.1,p.2] tPo:=Row.nw e0;have h0:=h.ext x0;have dp:=h.len;have afT:=h.Wz;refine ⟨sl,h0.rt.at 3 rfl,(vr sl its (·.x) _ (λi=>i.p==p) w0 (h0.ol.rd aA) aa ?_).mono ?_⟩
 ·intro y hy w' x';refine cH (by kernel_rfl) (by rfl) ?_;apply yq.vc;have hy':=((h0.it y hy).ext x').ext (Ext.dr w');have hb':=(hb.ext x').ext (Ext.dr w');refine ⟨_,by rw [aV,hy'.r.ld];rfl,Az (Az ⟨_,_,hy'.k.pos,_,_,hb'.bI (λj hj=>by rw [eC]),(yl y.p w'.drew).mono ?_⟩)⟩;rintro e w5 ⟨rfl,x5⟩;refine ⟨_,_,rfl,(hb'.ext x5).bI (λj hj=>by rw [eC]),?_,rfl,(Ext.dr w').tr x5⟩;rw [aV];exact (hy'.ext x5).r.bI (λj hj=>by simp at hj;subst hj;rfl)
 ·rintro e w2 ⟨rfl,x2⟩;exact ⟨_,rfl,rfl,x0.tr x2⟩
def SO.kind{w:World}{st d:Nat}{m:Dm}{D:Dk}(h:SO w st d m D){i:Nat}(hi:sF st d m i):bS GI w (some i) (m.E.map mT)\/∃cs τ,Row w i cs τ/\(τ=CI\/τ=tZ\/τ=tW\/τ=je):=by
 rcases hi with e|hi
 ·exact .inr ⟨_,_,e▸h.rs,.inl rfl⟩
 ·rcases h.dk.kind hi with q|⟨cs,τ,q1,q2⟩
  ·exact .inl q
  ·exact .inr ⟨cs,τ,q1,.inr q2⟩
def SO.aW{w w':World}{st d:Nat}{m:Dm}{D:Dk}(h:SO w st d m D){F:Nat->Prop}(hm:Mod F w w')(hr:∀{j:Nat} {cs:LV} {τ:TypeId},Row w j cs τ->(τ=CI\/τ=tZ\/τ=tW\/τ=je)->¬F j)(hmp:∀{j:Nat} {kvs:List (Value × Value)},bS GI w (some j) kvs->¬F j):SO w' st d m D:=
 h.same λi hi=>hm.same i (h.lt hi) (by
  rcases h.kind hi with q|⟨cs,τ,q1,q2⟩
  ·exact hmp q
  ·exact hr q1 q2)
abbrev slF(t:Nat)(sl:Sl):Nat->Prop:=λj=>j=t\/sl.aZ=some j
def TO.off{w:World}{t st d:Nat}{r:Dm}{sl:Sl}{D:Dk}{ag limit:Int}{its:List It}(h:TO w t st d r sl D ag limit its){j:Nat}{cs:LV}{τ:TypeId}(hr:Row w j cs τ)(h1:τ≠CJ)(h2:τ≠tPI):¬slF t sl j:=by
 rintro (e|e)
 ·exact hr.ne h.rt h1 e
 ·obtain ⟨cs',hr'⟩:=aY h.ol aA e;exact hr.ne hr' h2 rfl
def TO.item{w w':World}{t st d:Nat}{r:Dm}{sl:Sl}{D:Dk}{ag limit:Int}{its:List It}(h:TO w t st d r sl D ag limit its)(hm:Mod (slF t sl) w w'){y:It}(hy:wQ w y):wQ w' y:=
 hy.aW hm (h.off hy.r aA aA) (h.off hy.k.row aA aA) (λb hb=>by obtain ⟨cs',hr'⟩:=aY hy.k.own aA hb;exact h.off hr' aA aA)
def TO.QD{w w':World}{t st d:Nat}{r:Dm}{sl sl':Sl}{D:Dk}{ag limit:Int}{its its':List It}(h:TO w t st d r sl D ag limit its)(hm:Mod (slF t sl) w w')
  (rt:Row w' t [st,ag,limit,sl'] CJ)(ol:ar 0 tPI 1 w' sl' (Ez its'))(hit:∀y ∈ its',y ∈ its\/wQ w y)
  (dx:(its'.map (·.x)).Nodup)(dg:(its'.map (·.g)).Nodup)(len:(its'.length:Int)<=limit):TO w' t st d r sl' D ag limit its':=by
 refine ⟨rt,h.so.aW hm (λhr hτ=> ?_) (λhmp=> ?_),ol,λy hy=>h.item hm ?_,dx,dg,h.Wz,len⟩
 ·rcases hτ with rfl|rfl|rfl|rfl<;>exact h.off hr aA aA
 ·rintro (e|e)
  ·exact h.rt.fY hmp e.symm
  ·obtain ⟨cs',hr'⟩:=aY h.ol aA e;exact hr'.fY hmp rfl
 ·rcases hit y hy with h1|h1
  ·exact h.it y h1
  ·exact h1
def Ho{w:World}{t st d:Nat}{r:Dm}{sl sl':Sl}{its its':List It}(hb:∀b,sl'.aZ=some b->sl.aZ=some b\/w.heap.size<=b)(hi:∀y ∈ its',y ∈ its\/(w.heap.size<=y.x/\w.heap.size<=y.g/\∀b,y.s.aZ=some b->w.heap.size<=b)):
  ∀i,aq t st d r sl' its' i->aq t st d r sl its i\/w.heap.size<=i:=by
 rintro i (e|e|e|e|e|⟨y,hy,e⟩)
 ·exact .inl (.inl e)
 ·exact .inl (.inr (.inl e))
 ·exact .inl (.inr (.inr (.inl e)))
 ·exact .inl (.inr (.inr (.inr (.inl e))))
 ·rcases hb i e with h|h
  ·exact .inl (.inr (.inr (.inr (.inr (.inl h)))))
  ·exact .inr h
 ·rcases hi y hy with h|⟨h1,h2,h3⟩
  ·exact .inl (.inr (.inr (.inr (.inr (.inr ⟨y,h,e⟩)))))
  ·rcases e with e|e|e
   ·exact .inr aa
   ·exact .inr aa
   ·exact .inr (h3 i e)
def AT{t st d:Nat}{r:Dm}{sl:Sl}{its:List It}:∀i,slF t sl i->aq t st d r sl its i:=by
 rintro i (e|e)
 ·exact .inl e
 ·exact .inr (.inr (.inr (.inr (.inl e))))
def ajN(a:Addr):One [Value.pointer (some a)]:=by intro v hv;simp at hv;subst hv;rfl
def TO.push{w:World}{t st d:Nat}{r:Dm}{sl:Sl}{D:Dk}{ag limit:Int}{its:List It}(h:TO w t st d r sl D ag limit its)(y:It)(hy:wQ w y)(hx:y.x ∉ its.map (·.x))(hg:y.g ∉ its.map (·.g))(hl:(its.length:Int)+1<=limit):
  ba 8 1 w sl 1 [.pointer (aD y.x)]/\∀(s4:Sl)(w5:World),aX tPI 1 w sl 1 [.pointer (aD y.x)] s4 w5->
   Mod (λj=>sl.aZ=some j) w w5/\Wr w5 (af (aD t) 3) 1/\∀w6,w6=bF w5 (af (aD t) 3) [.slice s4.a s4.n s4.c]->
    TO w6 t st d r s4 D ag limit (its++ [y])/\Mod (slF t sl) w w6/\∀b,s4.aZ=some b->sl.aZ=some b\/w.heap.size<=b:=by
 have hn:=h.n;have afT:=h.Wz;obtain ⟨hp,hr⟩:=h.ol.append (bytes:=8) (news:=[.pointer (aD y.x)]) (gV _) rfl (ajN _) aa aa;refine ⟨hp,λs4 w5 bf=> ?_⟩;obtain ⟨ho,hn4,lj,hk,iX⟩:=hr s4 w5 bf;have hm5:Mod (λj=>sl.aZ=some j) w w5:=Mod.yb lj hk;have hnt:¬sl.aZ=some t:=λe=>by obtain ⟨cs',hr'⟩:=aY h.ol aA e;exact hr'.ne h.rt aA rfl
 have rt5:=hm5.row h.rt hnt;obtain ⟨p1,p2⟩:=rt5.ic (j:=3) (v:=.slice s4.a s4.n s4.c) bg rfl;refine ⟨hm5,p1,λw6 e6=> ?_⟩;obtain ⟨q1,q2⟩:=p2 w6 e6;have hm6:Mod (slF t sl) w w6:=(hm5.mono λi _ hi=> .inr hi).trans (q2.mono λi _ hi=> .inl hi);have h4t:∀b,s4.aZ=some b->b≠t:=λb hb=>by obtain ⟨cs',hr'⟩:=aY ho aA hb;exact hr'.ne rt5 aA
 refine ⟨h.QD hm6 q1 ?_ (λz hz=> ?_) ?_ ?_ tP,hm6,λb hb=> ?_⟩
 ·have:=q2.gU ho h4t;show ar 0 tPI 1 w6 s4 ((its++ [y]).map _);rw [bJ];exact this
 ·rcases bX.1 hz with hz|hz
  ·exact .inl hz
  ·simp at hz;subst hz;exact .inr hy
 ·rw [bJ];refine sh.2 ⟨h.dx,bg,?_⟩;intro a ha b hb e;simp at hb;subst hb;subst e;exact hx ha
 ·rw [bJ];refine sh.2 ⟨h.dg,bg,?_⟩;intro a ha b hb e;simp at hb;subst hb;subst e;exact hg ha
 ·rcases iX with e|e
  ·exact .inl (by rw [<-e];exact hb)
  ·rw [e] at hb;cases hb;exact .inr (ak _)
def Hp{w:World}{t st d:Nat}{r:Dm}{sl:Sl}{D:Dk}{ag limit:Int}{its:List It}(h:TO w t st d r sl D ag limit its){i:Nat}{y:It}(hi:its[i]? =some y):
  ae 80 #[t,.int .i64 (i:Nat)] w λe w'=>e=Value.pointer (aD y.x)/\∃sl',TO w' t st d r sl' D ag limit (its.eraseIdx i)/\Mod (slF t sl) w w'/\∀b,sl'.aZ=some b->sl.aZ=some b\/w.heap.size<=b:=by
 apply EP.vc;have hn:=h.n;have afT:=h.Wz;have dp:=h.len;have FV:=(bZ.1 hi).1;obtain ⟨a1,a2⟩:=h.at hi;have hd:=h.ext (Ext.dr w);have hle:=ar.le h.ol;have w1:=ov (j:=i);refine ⟨sl,h.rt.at 3 rfl,a1,_,a2,sl,hd.rt.at 3 rfl,aa,aa,aa,aa,sl,hd.rt.at 3 rfl,?_⟩;rw [w1];have mZ:=hd.ol.cut aA (m:=i) (by rw [aL];omega);have hrest:=RdK.rest (hd.ol.rd aA) (l:=i+1) (m:=sl.c) (n':=sl.n-(i+1)) (c':=sl.c-(i+1)) (by rw [aL];omega) (by rw [aL];omega);have hml:((Ez its).drop (i+1)).length=sl.n-(i+1):=by rw [A6,aL];omega
 have hwd:∀q ∈(Ez its).drop (i+1),q.length=1/\One q:=λq hq=>by obtain ⟨z,_,rfl⟩:=aU.1 (Ar hq);exact ⟨rfl,ajN _⟩
 obtain ⟨hp,bf⟩:=mZ.Jq (bytes:=8) (more:=(Ez its).drop (i+1)) (gV _) (λq hq=>(hwd q hq).1) (λq hq=>(hwd q hq).2) (by rw [hml];show (i+_)*8<=_;omega) (by rw [hml];show i+_<=_;omega);rw [hml] at hp bf;refine ⟨aa,aa,((Ez its).drop (i+1)).flatten,hrest.flat aA,hp,λs5 w6 hr=> ?_⟩;obtain ⟨ho,hn5,lj,hk,iX⟩:=bf s5 w6 hr;have Tf:(Sl.mk (aI sl.a 0 i 1) i i).aZ=sl.aZ:=by rw [dz];rfl
 rw [Tf] at hk iX;have hm6:Mod (λj=>sl.aZ=some j) w w6:=(Mod.aC (Ext.dr w)).trans (Mod.yb lj hk);have hnt:¬sl.aZ=some t:=λe=>by obtain ⟨cs',hr'⟩:=aY h.ol aA e;exact hr'.ne h.rt aA rfl
 have rt6:=hm6.row h.rt hnt;obtain ⟨p1,p2⟩:=rt6.ic (j:=3) (v:=.slice s5.a s5.n s5.c) bg rfl;have ko:ah w6 (af (aD t) 3) 0 [sl]:=by show ld w6 (af _ 0)=_;rw [fI];exact rt6.at 3 rfl
 refine ⟨ko,ko,⟨rfl,p1⟩,λw7 e7=>⟨rfl,s5,?_⟩⟩;obtain ⟨q1,q2⟩:=p2 w7 e7;have hm7:Mod (slF t sl) w w7:=(hm6.mono λi _ hi=> .inr hi).trans (q2.mono λi _ hi=> .inl hi);have h5t:∀b,s5.aZ=some b->b≠t:=λb hb=>by obtain ⟨cs',hr'⟩:=aY ho aA hb;exact hr'.ne rt6 aA
 have fa:List.Sublist (its.eraseIdx i) its:=xG ..;refine ⟨h.QD hm7 q1 ?_ (λz hz=> .inl (fa.subset hz)) (h.dx.sublist (fa.map _)) (h.dg.sublist (fa.map _)) ?_,hm7,λb hb=> ?_⟩
 ·have:=q2.gU ho h5t;show ar 0 tPI 1 w7 s5 ((its.eraseIdx i).map _);rw [KK,bJ,List.map_take,List.map_drop];exact this
 ·have:=fa.length_le;omega
 ·rcases iX with e|e
  ·exact .inl (by rw [<-e];exact hb)
  ·rw [e] at hb;cases hb;exact .inr (ak _)
def K1{α:Type}{f:α->Nat}{l:List α}{i:Nat}{y:α}(hd:(l.map f).Nodup)(hi:l[i]? =some y):f y ∉(l.eraseIdx i).map f:=by
 rw [KK,bJ];have e:l=l.take i++y::l.drop (i+1):=by have:=qM i l;rw [ue (bZ.1 hi).1] at this;rw [<-(bZ.1 hi).2];exact this.symm
 rw [e,bJ,eQ] at hd;obtain ⟨h1,h2,h3⟩:=sh.1 hd;intro hm;rcases bX.1 hm with hm|hm
 ·exact h3 _ hm _ (.head _) rfl
 ·exact (oL.1 h2).1 hm
def Hq{w:World}{t st d:Nat}{r:Dm}{sl:Sl}{D:Dk}{ag limit:Int}{its:List It}(h:TO w t st d r sl D ag limit its){i:Nat}{y:It}(hi:its[i]? =some y):
  ae 74 #[t,.int .i64 (i:Nat)] w λe w'=>e=Value.pointer (aD y.x)/\∃sl',TO w' t st d r sl' D ag limit (its.eraseIdx i++ [y])/\aJ (aq t st d r sl its) (aq t st d r sl' (its.eraseIdx i++ [y])) w w':=by
 apply AM.vc;have FV:=(bZ.1 hi).1;have hym:y ∈ its:=aO hi;have dp:=h.len;refine (Hp h hi).mono ?_;rintro e w0 ⟨rfl,sl0,h0,m0,b0⟩;have hy0:=h.item m0 (h.it y hym);refine ⟨_,rfl,sl0,h0.rt.at 3 rfl,λw3 e3=> ?_⟩;have x3:=aQ e3;have h3:=h0.ext x3;have fa:List.Sublist (its.eraseIdx i) its:=xG ..;have kq:(its.eraseIdx i).length=its.length-1:=by rw [List.length_eraseIdx,if_pos FV]
 obtain ⟨hp,hr⟩:=h3.push y (hy0.ext x3) (K1 h.dx hi) (K1 h.dg hi) aa;refine ⟨hp,λs4 w5 bf=> ?_⟩;obtain ⟨m5,p1,p2⟩:=hr s4 w5 bf;have ht0:=h0.rt.lt;have z3:=fj e3;refine ⟨m5.same _ aa λe=>by have:=(h0.ol.own.lt e).2;omega,⟨rfl,p1⟩,λe=> ?_,λw6 e6=>⟨rfl,s4,?_⟩⟩
 ·rw [cP] at e;have:t=w0.heap.size:=by simpa [bk] using e
  omega
 ·obtain ⟨q1,q2,q3⟩:=p2 w6 e6;have z0:=m0.size;refine ⟨q1,⟨?_,?_⟩⟩
  ·have a1:Mod (aq t st d r sl its) w w3:=(m0.mono λi _ hi=>AT i hi).trans (Mod.aC x3);refine a1.tr q2 λj hj=> ?_
   rcases hj with e|e
   ·exact .inl (.inl e)
   ·rcases b0 j e with e|e
    ·exact .inl (.inr (.inr (.inr (.inr (.inl e)))))
    ·exact .inr e
  ·refine Ho (w:=w) (λb hb=> ?_) (λz hz=> .inl ?_)
   ·rcases q3 b hb with e|e
    ·exact b0 b e
    ·exact .inr aa
   ·rcases bX.1 hz with hz|hz
    ·exact fa.subset hz
    ·simp at hz;subst hz;exact hym
def TO.put{w w':World}{t st d:Nat}{r:Dm}{sl:Sl}{D:Dk}{ag limit:Int}{its:List It}(h:TO w t st d r sl D ag limit its){i:Nat}{y y':It}(hi:its[i]? =some y)(hx:y'.x=y.x)(hg:y'.g=y.g)(hm:Mod (λj=>j=y.x) w w')(hy:wQ w' y'):TO w' t st d r sl D ag limit (its.set i y'):=by
 have FV:=(bZ.1 hi).1;have hr:=(h.it y (aO hi)).r;have off:∀{j:Nat} {cs:LV} {τ:TypeId},Row w j cs τ->τ≠cF->¬j=y.x:=λhr' ht e=>hr'.ne hr ht e
 have hpx:Ez (its.set i y')=Ez its:=by
  unfold Ez;rw [jY,hx];apply jt;intro j;rw [iD];split
  ·rename_i e;subst e;rw [if_pos (by rw [aL];exact FV),aS,hi];rfl
  ·rfl
 have hmx:(its.set i y').map (·.x)=its.map (·.x):=by
  rw [jY,hx];apply jt;intro j;rw [iD];split
  ·rename_i e;subst e;rw [if_pos (by rw [aL];exact FV),aS,hi];rfl
  ·rfl
 have hmg:(its.set i y').map (·.g)=its.map (·.g):=by
  rw [jY,hg];apply jt;intro j;rw [iD];split
  ·rename_i e;subst e;rw [if_pos (by rw [aL];exact FV),aS,hi];rfl
  ·rfl
 refine ⟨hm.row h.rt (off h.rt aA),h.so.aW hm (λhr' hτ=>by rcases hτ with rfl|rfl|rfl|rfl<;>exact off hr' aA) (λhmp e=>hr.fY hmp e.symm),?_,λz hz=> ?_,by rw [hmx];exact h.dx,by rw [hmg];exact h.dg,h.Wz,by rw [iE];exact h.len⟩
 ·rw [hpx];exact hm.gU h.ol λb hb=>by obtain ⟨cs',hr'⟩:=aY h.ol aA hb;exact off hr' aA
 ·obtain ⟨j,hj⟩:=tU hz;rw [iD] at hj;split at hj
  ·cases hj;exact hy
  ·rename_i hZ;have hzj:=h.it z (aO hj);refine hzj.aW hm (λe=> ?_) (off hzj.k.row aA) (λb hb=> ?_)
   ·
    have h1:(its.map (·.x))[i]? =some y.x:=by rw [aS,hi];rfl
    have h2:(its.map (·.x))[j]? =some z.x:=by rw [aS,hj];rfl
    have hjl:=(bZ.1 hj).1;rw [e,<-h1] at h2;exact hZ ((List.getElem?_inj (by rw [aL];exact hjl) h.dx).1 h2).symm
   ·obtain ⟨cs',hr'⟩:=aY hzj.k.own aA hb;exact off hr' aA
def acJ{t st d:Nat}{r:Dm}{sl:Sl}{its:List It}{i:Nat}{y y':It}(hi:its[i]? =some y)(hx:y'.x=y.x)(hg:y'.g=y.g)(hs:y'.s=y.s):∀j,aq t st d r sl (its.set i y') j->aq t st d r sl its j:=by
 rintro j (e|e|e|e|e|⟨z,hz,e⟩)
 ·exact .inl e
 ·exact .inr (.inl e)
 ·exact .inr (.inr (.inl e))
 ·exact .inr (.inr (.inr (.inl e)))
 ·exact .inr (.inr (.inr (.inr (.inl e))))
 ·rcases iV hz with hz|hz
  ·exact .inr (.inr (.inr (.inr (.inr ⟨z,hz,e⟩))))
  ·subst hz;rw [hx,hg,hs] at e;exact .inr (.inr (.inr (.inr (.inr ⟨y,aO hi,e⟩))))
abbrev En:=Po × List Int × Bool × Int
def It.ob(i:It):En:=(i.p,i.C,i.pT,i.pins)
abbrev gQ(its:List It):List En:=its.map It.ob
def wm(its:List It)(i:Nat):gQ (its.eraseIdx i)=(gQ its).eraseIdx i:=by unfold gQ;rw [KK,KK,bJ,List.map_take,List.map_drop]
def Pz(its:List It)(p:Po):bU (λe:En=>e.1==p) (gQ its)=bU (λi:It=>i.p==p) its:=mP It.ob _ its
abbrev Tb:=Dk × List En
def bu(D:Dk)(e:En):Dk × En × Int:=
 if e.2.2.1=true then ((lk D (lO e.1) (lP (gP e.2.1))).1,(e.1,e.2.1,decide ((lk D (lO e.1) (lP (gP e.2.1))).2≠0),e.2.2.2),(lk D (lO e.1) (lP (gP e.2.1))).2) else (D,e,0)
def Ey(D:Dk)(l:List En)(i:Nat):Tb × Int:=
 match l[i]? with
 |none=>((D,l),0)
 |some e=>if (bu D e).2.2=0 then (((bu D e).1,l.eraseIdx i),0) else (((bu D e).1,l.set i (bu D e).2.1),(bu D e).2.2)
def dC(limit:Int)(D:Dk)(l:List En):Tb × Int:=
 if (l.length:Int)<limit then ((D,l),0) else if bU (λe:En=>e.2.2.2==0) l<0 then ((D,l),8) else Ey D l (bU (λe:En=>e.2.2.2==0) l).toNat
def TO.acK{w:World}{t st d:Nat}{r:Dm}{sl:Sl}{D:Dk}{ag limit:Int}{its:List It}(h:TO w t st d r sl D ag limit its){j:Nat}{cs:LV}{τ:TypeId}(hr:Row w j cs τ)(h1:τ≠tZ)(h2:τ≠tW):¬(j=d\/r.ls.aZ=some j):=by
 rintro (e|e)
 ·exact hr.ne h.so.dk.rd h1 e
 ·obtain ⟨cs',hr'⟩:=aY h.so.dk.ol aA e;exact hr.ne hr' h2 rfl
def TO.store{w w':World}{t st d:Nat}{r r':Dm}{sl:Sl}{D D':Dk}{ag limit:Int}{its:List It}(h:TO w t st d r sl D ag limit its)(hm:Mod (λi=>i=d\/r.ls.aZ=some i) w w')(hs:SO w' st d r' D'):TO w' t st d r' sl D' ag limit its:=by
 refine ⟨hm.row h.rt (h.acK h.rt aA aA),hs,hm.gU h.ol λb hb=> ?_,λy hy=> ?_,h.dx,h.dg,h.Wz,h.len⟩
 ·obtain ⟨cs',hr'⟩:=aY h.ol aA hb;exact h.acK hr' aA aA
 ·have hy':=h.it y hy;refine hy'.aW hm (h.acK hy'.r aA aA) (h.acK hy'.k.row aA aA) λb hb=> ?_
  obtain ⟨cs',hr'⟩:=aY hy'.k.own aA hb;exact h.acK hr' aA aA
def GV{n:Nat}{t st d:Nat}{r r':Dm}{sl:Sl}{its:List It}(hs:∀i,dF d r' i->dF d r i\/n<=i):∀i,aq t st d r' sl its i->aq t st d r sl its i\/n<=i:=by
 rintro i (e|e|e|e|e|e)
 ·exact .inl (.inl e)
 ·exact .inl (.inr (.inl e))
 ·exact .inl (.inr (.inr (.inl e)))
 ·rcases hs i (.inr e) with q|q
  ·rcases q with q|q
   ·exact .inl (.inr (.inr (.inl q)))
   ·exact .inl (.inr (.inr (.inr (.inl q))))
  ·exact .inr q
 ·exact .inl (.inr (.inr (.inr (.inr (.inl e)))))
 ·exact .inl (.inr (.inr (.inr (.inr (.inr e)))))
def WB{t st d:Nat}{r:Dm}{sl:Sl}{its:List It}:∀i,(i=d\/r.ls.aZ=some i)->aq t st d r sl its i:=by
 rintro i (e|e)
 ·exact .inr (.inr (.inl e))
 ·exact .inr (.inr (.inr (.inl (.inr (.inl e)))))
def ag6{C:List Int}:mM (lP (gP C)):=ak8 _
def ak9{C:List Int}(hl:C.length=8192):(lP (gP C)).length<=65536:=by have h1:=WD (gP C);have h2:=te C;omega
def Cm{w:World}{t st d:Nat}{r:Dm}{sl:Sl}{D:Dk}{ag limit:Int}{its:List It}(h:TO w t st d r sl D ag limit its)(hW:D.l.length<=1000000){i:Nat}{y:It}(hi:its[i]? =some y):
  ae 79 #[t,.pointer (some ⟨y.x,0,none⟩)] w λe w'=>e=Value.int .i64 (bu D y.ob).2.2/\∃r' y',TO w' t st d r' sl (bu D y.ob).1 ag limit (its.set i y')/\y'.ob=(bu D y.ob).2.1/\aJ (aq t st d r sl its) (aq t st d r' sl (its.set i y')) w w':=by
 apply Cn.vc;have hym:=aO hi;have hy:=h.it y hym;have ph:its.set i y=its:=by obtain ⟨hl,he⟩:=bZ.1 hi;rw [<-he];exact List.set_getElem_self hl
 refine ⟨_,hy.r.at 1 rfl,Br.mk (λhb=> ?_) (λhb=> ?_)⟩
 ·have hd:y.pT=false:=by simpa using hb
  have e:bu D y.ob=(D,y.ob,0):=by unfold bu;rw [if_neg (by show ¬y.pT=true;rw [hd];decide)]
  rw [e];exact ⟨rfl,r,y,by rw [ph];exact h,rfl,by rw [ph];exact aJ.refl _ _⟩
 ·have hd:y.pT=true:=by simpa using hb
  have e:bu D y.ob=((lk D (lO y.p) (lP (gP y.C))).1,(y.p,y.C,decide ((lk D (lO y.p) (lP (gP y.C))).2≠0),y.pins),(lk D (lO y.p) (lP (gP y.C))).2):=by unfold bu;rw [if_pos (by show y.pT=true;exact hd)];rfl
  rw [e];refine ⟨_,hy.r.at 0 rfl,Az (Az ⟨_,_,hy.k.pos,(yl y.p w).mono ?_⟩)⟩;rintro e w4 ⟨rfl,x4⟩;refine ⟨_,_,rfl,(WE y.p w4).mono ?_⟩;rintro e w7 ⟨rfl,x7⟩;have x07:=(x4.tr x7).tr (Ext.dr w7);have h7:=h.ext x07;have hy7:=h7.it y hym;refine ⟨_,_,rfl,_,h7.rt.at 0 rfl,_,hy7.r.at 0 rfl,(TS hy7.k).mono ?_⟩;rintro e cC ⟨pn,rfl,o13,bW⟩;have IK:=x07.tr bW;have xp:=h.ext IK;have hk:=hy.k;refine ⟨pn,rfl,GW (xp.rt.at 0 rfl),(DK xp.so hW (lO y.p) pn (lP (gP y.C)) (mh.Gw o13) ag6 (gG (ak9 hk.len) aA)).mono ?_⟩;rintro e bH ⟨rfl,r',amp,m14,f14,-⟩;have h14:=xp.store m14 amp;have BK:=h14.it y hym;obtain ⟨p1,p2⟩:=BK.r.ic (j:=1) (v:=.bool ((lk D (lO y.p) (lP (gP y.C))).2 !=0)) bg rfl;refine ⟨_,rfl,⟨rfl,p1⟩,λcD FY=> ?_⟩;obtain ⟨q1,q2⟩:=p2 cD FY;have zo:((lk D (lO y.p) (lP (gP y.C))).2 !=0)=decide ((lk D (lO y.p) (lP (gP y.C))).2≠0):=by rw [Bool.eq_iff_iff];simp
  rw [zo] at q1;have hy':wQ cD {y with pT:=decide ((lk D (lO y.p) (lP (gP y.C))).2≠0)}:=⟨q1,BK.k.aW q2 (λe=>BK.k.row.ne BK.r aA e) λb hb=>by obtain ⟨cs',hr'⟩:=aY BK.k.own aA hb;exact hr'.ne BK.r aA⟩;have z12:=IK.size;have z14:=m14.size;refine ⟨rfl,r',{y with pT:=decide ((lk D (lO y.p) (lP (gP y.C))).2≠0)},h14.put hi rfl rfl q2 hy',rfl,?_⟩;have t1:aJ (aq t st d r sl its) (aq t st d r' sl its) cC bH:=⟨m14.mono λi _ hi=>WB i hi,GV f14⟩;have t2:aJ (aq t st d r' sl its) (aq t st d r' sl (its.set i {y with pT:=decide ((lk D (lO y.p) (lP (gP y.C))).2≠0)})) bH cD:=⟨q2.mono λj _ hj=> .inr (.inr (.inr (.inr (.inr ⟨y,hym,.inl hj⟩)))),λj hj=> .inl (acJ (y':={y with pT:=decide ((lk D (lO y.p) (lP (gP y.C))).2≠0)}) hi rfl rfl rfl j hj)⟩;exact (aJ.aC IK).trans (t1.trans t2)
abbrev xH(w:World)(t st d:Nat)(r:Dm)(sl:Sl)(ag limit:Int)(its:List It)(T:Tb)(w':World):Prop:=
 ∃r' sl' its',TO w' t st d r' sl' T.1 ag limit its'/\gQ its'=T.2/\aJ (aq t st d r sl its) (aq t st d r' sl' its') w w'
def Ut{its:List It}{i:Nat}{y:It}(h:its[i]? =some y):(gQ its)[i]? =some y.ob:=by rw [aS,h];rfl
def ML{its:List It}{i:Nat}{y':It}{e:En}(h:y'.ob=e):gQ (its.set i y')=(gQ its).set i e:=by unfold gQ;rw [jY,h]
def adl{D:Dk}{l:List En}{i:Nat}{e:En}(h:l[i]? =some e):Ey D l i=if (bu D e).2.2=0 then (((bu D e).1,l.eraseIdx i),0) else (((bu D e).1,l.set i (bu D e).2.1),(bu D e).2.2):=by unfold Ey;rw [h]
def Qj{w w':World}{t st d:Nat}{r:Dm}{sl sl':Sl}{its its':List It}(hm:Mod (slF t sl) w w')(hb:∀b,sl'.aZ=some b->sl.aZ=some b\/w.heap.size<=b)(hs:∀y ∈ its',y ∈ its):aJ (aq t st d r sl its) (aq t st d r sl' its') w w':=
 ⟨hm.mono λi _ hi=>AT i hi,Ho hb λy hy=> .inl (hs y hy)⟩
def YX{w:World}{t st d:Nat}{r:Dm}{sl:Sl}{D:Dk}{ag limit:Int}{its:List It}(h:TO w t st d r sl D ag limit its)(hW:D.l.length<=1000000):
  ae 75 #[t] w λe w'=>e=Value.int .i64 (dC limit D (gQ its)).2/\xH w t st d r sl ag limit its (dC limit D (gQ its)).1 w'/\((dC limit D (gQ its)).2=0->((dC limit D (gQ its)).1.2.length:Int)+1<=limit):=by
 apply Cz.vc;have hd:=h.ext (Ext.dr w);have hn:=h.n;have hol:(gQ its).length=its.length:=by rw [aL]
 have dp:=h.len;have afT:=h.Wz;refine ⟨sl,hd.rt.at 3 rfl,limit,hd.rt.at 2 rfl,Br.mk (λhb=> ?_) (λhb=> ?_)⟩
 ·replace hb:=nh hb;have e:dC limit D (gQ its)=((D,gQ its),0):=by unfold dC;rw [if_pos aa]
  rw [e];exact ⟨rfl,⟨r,sl,its,hd,rfl,aJ.aC (Ext.dr w)⟩,λ_=>by simp only;omega⟩
 ·replace hb:=nC hb;refine ⟨sl,hd.rt.at 3 rfl,(vr sl its (·.x) _ (λi=>i.pins==0) w.drew (hd.ol.rd aA) aa ?_).mono ?_⟩
  ·intro y hy w' x';refine cH (by kernel_rfl) (by rfl) ?_;apply yr.vc;have hy':=(hd.it y hy).ext x';exact ⟨_,hy'.r.at 2 rfl,rfl,Ext.cG _⟩
  ·rintro e w3 ⟨rfl,x3⟩;have h3:=hd.ext x3;have hfm:bU (λe:En=>e.2.2.2==0) (gQ its)=bU (λi:It=>i.pins==0) its:=mP It.ob _ its;have Da:Ext w w3:=(Ext.dr w).tr x3;refine ⟨_,rfl,Br.mk (λj8=> ?_) (λj8=> ?_)⟩
   ·replace j8:=nh j8;have e:dC limit D (gQ its)=((D,gQ its),8):=by unfold dC;rw [if_neg aa,if_pos aa]
    rw [e];exact ⟨rfl,⟨r,sl,its,h3,rfl,aJ.aC Da⟩,λh=>by simp at h⟩
   ·replace j8:=nC j8;rcases eM (λi:It=>i.pins==0) its with ⟨h1,-⟩|⟨k,y,hk,-,hfk,-⟩
    ·omega
    ·have e:dC limit D (gQ its)=Ey D (gQ its) k:=by unfold dC;rw [if_neg aa,if_neg aa,hfm,hfk];rfl
     rw [hfk,e,adl (Ut hk)];obtain ⟨a1,a2⟩:=h3.at hk;have SY:=(bZ.1 hk).1;refine ⟨sl,h3.rt.at 3 rfl,a1,_,a2,(Cm h3 hW hk).mono ?_⟩;rintro e w7 ⟨rfl,r',y',h7,hob,t7⟩;refine ⟨_,rfl,Br.mk (λhz=> ?_) (λhz=> ?_)⟩
     ·have hz:=cS hz;have hk':(its.set k y')[k]? =some y':=oM SY;refine (Hp h7 hk').mono ?_;rintro e w9 ⟨rfl,sl',h9,m9,b9⟩;rw [List.eraseIdx_set_eq] at h9;refine ⟨_,rfl,?_⟩;rw [if_pos hz];refine ⟨by rw [hz],⟨r',sl',_,h9,wm _ _,(aJ.aC Da).trans (t7.trans (Qj m9 b9 λz hz=> ?_))⟩,λ_=> ?_⟩
      ·rw [<-List.eraseIdx_set_eq (l:=its) (i:=k) (a:=y')] at hz;exact (xG ..).subset hz
      ·simp only [List.length_eraseIdx];split<;>omega
     ·have hz:=cS hz;rw [if_neg hz];exact ⟨rfl,⟨r',sl,_,h7,ML hob,(aJ.aC Da).trans t7⟩,λq=>absurd q hz⟩
def MM(D:Dk)(e:En):(bu D e).1.l.length<=D.l.length+1:=by
 unfold bu;split
 ·exact acx _ _ _
 ·exact pO _
def ajI(D:Dk)(l:List En)(i:Nat):(Ey D l i).1.1.l.length<=D.l.length+1:=by
 unfold Ey;split
 ·exact pO _
 ·split<;>exact MM _ _
def MN(limit:Int)(D:Dk)(l:List En):(dC limit D l).1.1.l.length<=D.l.length+1:=by
 unfold dC;split
 ·exact pO _
 ·split
  ·exact pO _
  ·exact ajI _ _ _
def ahn{p:Po}(h:oN p):X2 p:=by unfold oN at h;unfold X2;omega
def kM(ag:Int)(p:Po)(b:List Int):List Int:=if (jZ cE b 8192).2=0 then cn (jZ cE b 8192).1 else made ag p
def yh(ag limit:Int)(D:Dk)(l:List En)(p:Po):Tb × Int:=
 if ¬oN p then ((D,l),5)
 else if 0<=bU (λe:En=>e.1==p) l then ((D,l.eraseIdx (bU (λe:En=>e.1==p) l).toNat++l[(bU (λe:En=>e.1==p) l).toNat]?.toList),0)
 else if (dC limit D l).2≠0 then dC limit D l
 else (((dC limit D l).1.1,(dC limit D l).1.2++ [(p,kM ag p (lu (dC limit D l).1.1 (lO p)).1,false,0)]),0)
def ir{w v:World}{t st d:Nat}{r:Dm}{sl:Sl}{D:Dk}{ag limit:Int}{its:List It}(h:TO v t st d r sl D ag limit its)(hw:w.heap.size<v.heap.size)(hwf:¬aq t st d r sl its w)(htw:t<w)(hr:(its.length:Int)+1<=limit){g:Nat}{s:Sl}{p:Po}{C:List Int}(hk:JI v g s p C)(hg:g ∉ its.map (·.g))(u:World)(hn:u.heap.size<=v.heap.size)(hgn:u.heap.size<=g)(uT:∀b,s.aZ=some b->u.heap.size<=b)
  {K:World->Prop}(hK:∀w',(∃s' y,TO w' t st d r s' D ag limit (its++ [y])/\y.ob=(p,C,false,0)/\(∀i,aq t st d r s' (its++ [y]) i->aq t st d r sl its i\/u.heap.size<=i)/\Mod (aq t st d r sl its) v w')->K w'):
  ∃(s21:Sl),ld v (af (aD t) 3)=some (.slice s21.a s21.n s21.c)/\
   ∀dm:World,dm=v.alloc (.cells #[g,false,ai] cF)->
   ∀fQ:World,fQ=dm.alloc (.cells #[v] tPI)->
   ba 8 1 fQ ⟨s21.a,s21.n,s21.c⟩ 1 [v]/\∀(zM:Sl)(cZ:World),aX tPI 1 fQ ⟨s21.a,s21.n,s21.c⟩ 1 [v] zM cZ->cZ.heap[w.heap.size]? =fQ.heap[w.heap.size]?/\cZ.heap[dm.heap.size]? =fQ.heap[dm.heap.size]?/\
    (true=true/\Wr cZ (af (aD t) 3) 1)/\bk (af (aD t) 3)≠some w.heap.size/\bk (af (aD t) 3)≠some dm.heap.size/\(∀gx:World,gx=bF cZ (af (aD t) 3) [.slice zM.a zM.n zM.c]->K gx):=by
 refine ⟨sl,h.rt.at 3 rfl,λdm zi fQ XK=> ?_⟩;have fN:=aQ zi;have fC:=aQ XK;have z22:=fj zi;have z23:fQ.heap.size=v.heap.size+2:=by rw [XK];simp [z22]
 have hy:wQ fQ ⟨v.heap.size,g,s,p,C,false,0⟩:=⟨(by rw [zi];exact Row.new v [_,_,_] _:Row dm v.heap.size [g,false,ai] cF).ext fC,(hk.ext fN).ext fC⟩;have h23:=(h.ext fN).ext fC;have hxn:v.heap.size ∉ its.map (·.x):=λhm=>by obtain ⟨z,hz,e⟩:=aU.1 hm;have:=(h.it z hz).r.lt;omega
 obtain ⟨hp,bf⟩:=h23.push _ hy hxn hg hr;refine ⟨hp,λzM cZ ai0=> ?_⟩;obtain ⟨m25,p1,p2⟩:=bf zM cZ ai0;have pb:∀j:Nat,t<j->bk (af (aD t) 3)≠some j:=λj hj e=>by
  rw [cP] at e;have:t=j:=by simpa [bk] using e
  omega
 have htl:=h.rt.lt;refine ⟨m25.same _ aa λe=>hwf (.inr (.inr (.inr (.inr (.inl e))))),m25.same _ aa λe=>by have:=(h.ol.own.lt e).2;omega,⟨rfl,p1⟩,pb _ htw,pb _ aa,λgx BZ=>hK gx ⟨zM,⟨v.heap.size,g,s,p,C,false,0⟩,?_,rfl,?_,?_⟩⟩
 ·exact (p2 gx BZ).1
 ·obtain ⟨-,q2,q3⟩:=p2 gx BZ;rintro i hi;exact Ho (w:=u) (sl:=sl) (its:=its) (λb hb=>(q3 b hb).imp id λe=>by omega) (λz hz=>by
   rcases bX.1 hz with hz|hz
   ·exact .inl hz
   ·simp at hz;subst hz;exact .inr ⟨hn,hgn,uT⟩) i hi
 ·obtain ⟨-,q2,q3⟩:=p2 gx BZ;exact (Mod.aC (fN.tr fC)).trans (q2.mono λi _ hi=>AT i hi)
def YY{w:World}{t st d:Nat}{r:Dm}{sl:Sl}{D:Dk}{ag limit:Int}{its:List It}(h:TO w t st d r sl D ag limit its)(hW:D.l.length<=1000000)(p:Po):
  ae 20 #[t,pv p] w λe w'=>e=Value.int .i64 (yh ag limit D (gQ its) p).2/\xH w t st d r sl ag limit its (yh ag limit D (gQ its) p).1 w':=by
 apply Cw.vc;intro w0 e0;have z0:=fj e0;have x0:=aQ e0;refine (WE p w0).mono ?_;rintro e w1 ⟨rfl,x1⟩;have z1:=x1.size;have lg:=x0.tr x1;refine ⟨_,_,rfl,x1.heap aa,?_⟩;by_cases oh:oN p
 ·rw [decide_eq_true oh];refine Br.mk (λh=>by cases h) (λ_=> ?_);have h1:=h.ext lg;refine (find_spec h1 p).mono ?_;rintro e w4 ⟨rfl,x4⟩;have z4:=x4.size;have El:=lg.tr x4;have h4:=h.ext El;have hfm:bU (λe:En=>e.1==p) (gQ its)=bU (λi:It=>i.p==p) its:=mP It.ob _ its;have bx:¬aq t st d r sl its w:=λhf=>by have:=h.lt hf;omega
  refine ⟨_,rfl,x4.heap aa,?_⟩;rcases eM (λi:It=>i.p==p) its with ⟨hf,-⟩|⟨k,y,hk,-,hf,-⟩
  ·rw [hf];refine Br.mk (λh=>by simp at h) (λ_=> ?_);have hE:yh ag limit D (gQ its) p=if (dC limit D (gQ its)).2≠0 then dC limit D (gQ its) else (((dC limit D (gQ its)).1.1,(dC limit D (gQ its)).1.2++ [(p,kM ag p (lu (dC limit D (gQ its)).1.1 (lO p)).1,false,0)]),0):=by unfold yh;rw [if_neg (by simpa using oh),hfm,hf,if_neg aA]
   rw [hE];refine (YX h4 hW).mono ?_;rintro e w8 ⟨rfl,⟨r8,sl8,its8,h8,FW,t8⟩,hl8⟩;have hWl:((dC limit D (gQ its)).1.1).l.length<=1000001:=by have:=MN limit D (gQ its);omega
   generalize dC limit D (gQ its)=R at*;have z8:=t8.mod.size;have t08:aJ (aq t st d r sl its) (aq t st d r8 sl8 its8) w w8:=(aJ.aC El).trans t8;refine ⟨_,rfl,t8.mod.same _ aa bx,Br.mk (λhb=> ?_) (λhb=> ?_)⟩
   ·have hZ:=cS hb;rw [if_pos hZ];exact ⟨rfl,r8,sl8,its8,h8,FW,t08⟩
   ·have he:=cS hb;rw [if_neg (by rw [he];decide)];have hroom:=hl8 he;rw [<-FW,aL] at hroom;refine ⟨_,h8.rt.at 0 rfl,(DW h8.so aa _).mono ?_⟩;rintro e bw ⟨pj,rfl,afU,hby,lj,hsc,-,bK⟩;have z11:=bK.size;have bx8:¬aq t st d r8 sl8 its8 w:=λhf=>by
     rcases t8.sub _ hf with q|q
     ·exact bx q
     ·have:=El.size;omega
    refine ⟨pj,_,_,rfl,bK.heap aa,?_⟩;refine (YZ p pj (lu R.1.1 (lO p)).1 bw afU hby hsc aa).mono ?_;rintro e ee ⟨bf,cW⟩;have z15:=cW.size;have htw:=h.rt.lt;have fin:∀{w' v:World} {C:List Int},Ext w8 v->(∃s' y,TO w' t st d r8 s' R.1.1 ag limit (its8++ [y])/\y.ob=(p,C,false,0)/\(∀i,aq t st d r8 s' (its8++ [y]) i->aq t st d r8 sl8 its8 i\/w8.heap.size<=i)/\Mod (aq t st d r8 sl8 its8) v w')->C=kM ag p (lu R.1.1 (lO p)).1->
      Ending.returned (0:Int)=(0:Int)/\xH w t st d r sl ag limit its (R.1.1,R.1.2++ [(p,kM ag p (lu R.1.1 (lO p)).1,false,0)]) w':=by
     rintro w' v C xv ⟨s',y,hT,hob,fa,hm⟩ rfl;refine ⟨rfl,r8,s',_,hT,?_,t08.trans ⟨(Mod.aC xv).trans hm,fa⟩⟩;unfold gQ;rw [bJ];change gQ its8++ [y.ob]=_;rw [FW,hob]
    rcases bf with ⟨hz,g,sg,rfl,hk,hg,-,hgb⟩|⟨hz,rfl⟩
    ·refine ⟨_,_,rfl,cW.heap aa,Br.mk (λq=>by simp at q) (λ_=> ?_)⟩;have afV:=bK.tr cW;have h15:=h8.ext afV;have hgn:g ∉ its8.map (·.g):=λhm=>by obtain ⟨z,hz,e⟩:=aU.1 hm;have:=(h8.it z hz).k.row.lt;omega
     refine ir (w:=w) h15 aa bx8 htw hroom hk hgn w8 aa aa (λb hb=>by have:=hgb b hb;omega) λw' hw'=>fin afV hw' ?_
     unfold kM;rw [if_pos hz]
    ·refine ⟨_,_,rfl,cW.heap aa,Br.mk (λ_=> ?_) (λq=>by simp at q;exact absurd q hz)⟩;have afV:=bK.tr cW.drew;have h15:=h8.ext afV;refine ⟨ag,h15.rt.at 1 rfl,(Uu ag p (ahn oh) ee.drew).mono ?_⟩;rintro e fK ⟨g,sg,rfl,hk,db,hg,Tf⟩;have z19:=db.size;have zd:=m7 ee;have h19:=h15.ext db;have hgn:g ∉ its8.map (·.g):=λhm=>by obtain ⟨z,hz,e⟩:=aU.1 hm;have:=(h15.it z hz).k.row.lt;omega
     refine ⟨_,rfl,db.heap aa,ir (w:=w) h19 aa bx8 htw hroom hk hgn w8 aa aa (λb hb=>by have:=Tf b hb;omega) λw' hw'=>fin (afV.tr db) hw' ?_⟩;unfold kM;rw [if_neg hz]
  ·rw [hf];refine Br.mk (λ_=> ?_) (λh=>by simp at h);have hE:yh ag limit D (gQ its) p=((D,(gQ its).eraseIdx k++ [y.ob]),0):=by unfold yh;rw [if_neg (by simpa using oh),hfm,hf,if_pos aa,dQ,aS,hk];rfl
   rw [hE];refine (Hq h4 hk).mono ?_;rintro e w6 ⟨rfl,sl6,h6,t6⟩;have z6:=t6.mod.size;refine ⟨_,rfl,t6.mod.same _ aa bx,rfl,r,sl6,_,h6,?_,(aJ.aC El).trans t6⟩;unfold gQ;rw [bJ];change gQ _++_=_;rw [wm];rfl
 ·rw [decide_eq_false oh];refine Br.mk (λ_=> ?_) (λh=>by cases h);have hE:yh ag limit D (gQ its) p=((D,gQ its),5):=by unfold yh;rw [if_pos oh]
  rw [hE];exact ⟨rfl,r,sl,its,h.ext lg,rfl,aJ.aC lg⟩
def yes{b:Bool}{A B:Prop}(hb:b=true)(h:A):Br b A B:=by subst hb;exact h
def gd{b:Bool}{A B:Prop}(hb:b=false)(h:B):Br b A B:=by subst hb;exact h
def iF(D:Dk)(l:List En)(p:Po):Tb × Int:=
 if 0<=bU (λe:En=>e.1==p) l then
  (if 0<(l[(bU (λe:En=>e.1==p) l).toNat]?.map (·.2.2.2)).getD 0 then ((D,l),10) else Ey D l (bU (λe:En=>e.1==p) l).toNat) else ((D,l),6)
def QE{w:World}{t st d:Nat}{r:Dm}{sl:Sl}{D:Dk}{ag limit:Int}{its:List It}(h:TO w t st d r sl D ag limit its)(hW:D.l.length<=1000000)(p:Po):
  ae 21 #[t,pv p] w λe w'=>e=Value.int .i64 (iF D (gQ its) p).2/\xH w t st d r sl ag limit its (iF D (gQ its) p).1 w':=by
 apply yt.vc;intro w0 e0;have z0:=fj e0;have x0:=aQ e0;have h0:=h.ext x0;refine (find_spec h0 p).mono ?_;rintro e w1 ⟨rfl,x1⟩;have z1:=x1.size;have lg:=x0.tr x1;have h1:=h.ext lg;have bx:¬aq t st d r sl its w:=λhf=>by have:=h.lt hf;omega
 refine ⟨_,rfl,x1.heap aa,?_⟩;rcases eM (λi:It=>i.p==p) its with ⟨hf,-⟩|⟨k,y,hk,hyp,hf,-⟩
 ·have hE:iF D (gQ its) p=((D,gQ its),6):=by unfold iF;rw [Pz,hf,if_neg aA]
  rw [hf,hE];exact Br.mk (λ_=>⟨rfl,r,sl,its,h1,rfl,aJ.aC lg⟩) (λh=>by simp at h)
 ·have hob:(gQ its)[k]?.map (·.2.2.2)=some y.pins:=by rw [aS,hk];rfl
  have hE:iF D (gQ its) p=if 0<y.pins then ((D,gQ its),10) else Ey D (gQ its) k:=by unfold iF;rw [Pz,hf,if_pos aa,dQ,hob];rfl
  rw [hf,hE];refine Br.mk (λh=>by simp at h;omega) (λ_=> ?_);have hym:=aO hk;have hy:=h1.it y hym;have SY:=(bZ.1 hk).1;obtain ⟨a1,a2⟩:=h1.at hk;refine ⟨sl,h1.rt.at 3 rfl,a1,_,a2,Az (Az ⟨y.pins,hy.r.at 2 rfl,Br.mk (λhb=> ?_) (λhb=> ?_)⟩)⟩
  ·have hz:=cS hb;rw [if_pos hz];exact ⟨rfl,r,sl,its,h1,rfl,aJ.aC lg⟩
  ·have hz:=cS hb;rw [if_neg hz,adl (Ut hk)];refine ⟨sl,h1.rt.at 3 rfl,a1,_,a2,(Cm h1 hW hk).mono ?_⟩;rintro e w8 ⟨rfl,r',y',h8,hob8,t8⟩;have z8:=t8.mod.size;refine ⟨_,rfl,t8.mod.same _ aa bx,Br.mk (λhz=> ?_) (λhz=> ?_)⟩
   ·have hz:=cS hz;have hk':(its.set k y')[k]? =some y':=oM SY;refine (Hp h8 hk').mono ?_;rintro e w9 ⟨rfl,sl',h9,m9,b9⟩;rw [List.eraseIdx_set_eq] at h9;have bx8:¬slF t sl w:=λq=>bx (AT _ q)
    refine ⟨_,rfl,m9.same _ aa bx8,?_⟩;rw [if_pos hz];refine ⟨by rw [hz],r',sl',_,h9,wm _ _,(aJ.aC lg).trans (t8.trans (Qj m9 b9 λz hz=> ?_))⟩;rw [<-List.eraseIdx_set_eq (l:=its) (i:=k) (a:=y')] at hz;exact (xG ..).subset hz
   ·have hz:=cS hz;rw [if_neg hz];exact ⟨rfl,r',sl,_,h8,ML hob8,(aJ.aC lg).trans t8⟩
def BU(D:Dk)(pre:List En):List En->Int->Tb × Int × Int
 | [],n=>((D,pre),n,0)
 |e::t,n=>if (bu D e).2.2=0 then BU (bu D e).1 (pre++ [(bu D e).2.1]) t (if e.2.2.1=true then n+1 else n) else (((bu D e).1,pre++(bu D e).2.1::t),n,(bu D e).2.2)
def ie(D:Dk)(l:List En):Tb × Int × Int:=BU D [] l 0
def alC{D:Dk}{l pre:List En}{n:Int}{k:Nat}{e:En}(h:l[k]? =some e):BU D pre (l.drop k) n=if (bu D e).2.2=0 then BU (bu D e).1 (pre++ [(bu D e).2.1]) (l.drop (k+1)) (if e.2.2.1=true then n+1 else n) else (((bu D e).1,pre++(bu D e).2.1::l.drop (k+1)),n,(bu D e).2.2):=by have hk:=bZ.1 h;rw [ue hk.1,hk.2];rfl
def JM{w:World}{t st d:Nat}{r:Dm}{sl:Sl}{D:Dk}{ag limit:Int}{its:List It}(h:TO w t st d r sl D ag limit its)(hW:D.l.length<=900000):
  ae 22 #[t] w λe w'=>e=Value.tuple #[.int .i64 (ie D (gQ its)).2.1,.int .i64 (ie D (gQ its)).2.2]/\xH w t st d r sl ag limit its (ie D (gQ its)).1 w':=by
 apply vE.vc;have hn:=h.n;have dp:=h.len;have afT:=h.Wz;refine ⟨sl,h.rt.at 3 rfl,λn i c wr=>∃(k:Nat)(D':Dk)(r':Dm)(its':List It),i=k/\k+n=its.length/\0<=c/\c<=k/\D'.l.length<=D.l.length+k/\TO wr t st d r' sl D' ag limit its'/\its'.length=its.length/\its'.drop k=its.drop k/\BU D' ((gQ its').take k) ((gQ its').drop k) c=ie D (gQ its)/\aJ (aq t st d r sl its) (aq t st d r' sl its') w wr,
  ⟨its.length,0,D,r,its,rfl,aa,lL 0,lL 0,aa,h,rfl,rfl,rfl,aJ.refl _ _⟩,?_⟩
 rintro n us i c wr ⟨k,D',r',its',rfl,hk,c0,ck,hl,hT,XJ,hdr,IH,ht⟩;have aHh:(gQ its').length=its'.length:=by rw [aL]
 apply Br.mk<;>intro hc
 ·replace hc:=nh hc;obtain ⟨y,hy⟩:=bq (l:=its') (i:=k) aa;have hyr:=hT.it y (aO hy);obtain ⟨a1,a2⟩:=hT.at hy;have SY:k<its'.length:=by omega
  have hn':=hT.n;have wk:=ov (j:=k);have wc:aw (c+1)=c+1:=wI;rw [alC (Ut hy)] at IH;have ow:=MM D' y.ob;refine ⟨a1,_,a2,Az (Az ⟨_,hyr.r.at 1 rfl,(Cm hT aa hy).mono ?_⟩)⟩;rintro e bo ⟨rfl,r2,y',h10,hob,t10⟩;have ph:gQ (its'.set k y')=(gQ its').set k (bu D' y.ob).2.1:=ML hob;have hln2:(its'.set k y').length=its'.length:=iE;have xU:(gQ (its'.set k y')).take (k+1)=(gQ its').take k++ [(bu D' y.ob).2.1]:=by rw [ph,dy,oM aa,List.take_set_of_le (ak _)];rfl
  have hdk:(gQ (its'.set k y')).drop (k+1)=(gQ its').drop (k+1):=by rw [ph,List.drop_set_of_lt aa]
  refine ⟨_,rfl,Br.mk (λhb=> ?_) (λhb=> ?_)⟩
  ·have hz:=cS hb;rw [if_neg hz] at IH;rw [<-IH];refine ⟨rfl,r2,sl,_,h10,?_,ht.trans t10⟩;rw [ph];show _=(gQ its').take k++(bu D' y.ob).2.1::(gQ its').drop (k+1);rw [List.set_eq_take_append_cons_drop,if_pos aa]
  ·have hz:=cS hb;rw [if_pos hz] at IH;have hdd:(its'.set k y').drop (k+1)=its.drop (k+1):=by rw [List.drop_set_of_lt aa];have:=congrArg (List.drop 1) hdr;rwa [List.drop_drop,List.drop_drop] at this
   apply Br.mk<;>intro hd
   ·have hd':y.ob.2.2.1=true:=hd;rw [if_pos hd'] at IH;exact ⟨n-1,aa,k+1,_,r2,_,wk,aa,by rw [wc];omega,by rw [wc];omega,aa,h10,by rw [hln2,XJ],hdd,by rw [wc,xU,hdk];exact IH,ht.trans t10⟩
   ·have hd':¬y.ob.2.2.1=true:=by show ¬y.pT=true;rw [hd];decide
    rw [if_neg hd'] at IH;exact ⟨n-1,aa,k+1,_,r2,_,wk,aa,c0,aa,aa,h10,by rw [hln2,XJ],hdd,by rw [xU,hdk];exact IH,ht.trans t10⟩
 ·replace hc:=nC hc;rw [Aq aa,fl aa] at IH;rw [<-IH];exact ⟨rfl,r',sl,its',hT,rfl,ht⟩
def UJ{w:World}{t st d:Nat}{r:Dm}{sl:Sl}{D:Dk}{ag limit:Int}{its:List It}(h:TO w t st d r sl D ag limit its)(hW:D.l.length<=1000000)(hL:eo D.l<=1099511627776)(aW:Int):
  ae 91 #[t,aW] w λe w'=>e=Value.int .i64 (dv D aW).2/\xH w t st d r sl ag limit its ((dv D aW).1,[]) w':=by
 apply A7.vc;obtain ⟨p1,p2⟩:=h.rt.ic (j:=3) (v:=.slice none 0 0) bg rfl;refine ⟨⟨rfl,p1⟩,λw0 e0=> ?_⟩;obtain ⟨q1,q2⟩:=p2 w0 e0;have Dp:SO w0 st d r D:=h.so.aW q2 (λhr hτ=>by rcases hτ with rfl|rfl|rfl|rfl<;>exact hr.ne h.rt aA) (λhm e=>h.rt.fY hm e.symm);refine ⟨_,q1.at 0 rfl,Az (Az (Az ⟨_,Dp.ptr,(QF Dp.dk aa hL aW).mono ?_⟩))⟩;rintro e w3 ⟨rfl,r',h3,m3,f3⟩;have offd:∀{j:Nat} {cs:LV} {τ:TypeId},Row w0 j cs τ->τ≠tZ->¬(j=d\/j=r.r):=λhr ht e=>by
  rcases e with e|e
  ·exact hr.ne Dp.dk.rd ht e
  ·exact hr.fY Dp.dk.rm e
 refine ⟨_,rfl,rfl,r',⟨none,0,0⟩,[],⟨m3.row q1 (offd q1 aA),⟨m3.row Dp.rs (offd Dp.rs aA),h3⟩,ar.nil,(λy hy=>by cases hy),bg,bg,h.Wz,by simp;have:=h.Wz;omega⟩,rfl,?_,?_⟩
 ·refine (q2.mono λi _ hi=> .inl hi).trans (m3.mono λi _ hi=> ?_);rcases hi with e|e
  ·exact .inr (.inr (.inl e))
  ·exact .inr (.inr (.inr (.inl (.inl e))))
 ·have z0:=q2.size;rintro i (e|e|e|e|e|⟨y,hy,-⟩)
  ·exact .inl (.inl e)
  ·exact .inl (.inr (.inl e))
  ·exact .inl (.inr (.inr (.inl e)))
  ·rcases f3 i (.inr e) with q|q
   ·rcases q with q|q
    ·exact .inl (.inr (.inr (.inl q)))
    ·exact .inl (.inr (.inr (.inr (.inl q))))
   ·exact .inr aa
  ·cases e
  ·cases hy
def Zj{w:World}{t st d:Nat}{r:Dm}{sl:Sl}{D:Dk}{ag limit:Int}{its:List It}(h:TO w t st d r sl D ag limit its)(hW:D.l.length<=1000000)(s:Sl)(b:List Int)(hs:iA w s b)(hb:mM b)(hn:b.length<=1099511627776):
  ae 61 #[t,s] w λe w'=>e=Value.int .i64 (lk D 0 b).2/\xH w t st d r sl ag limit its ((lk D 0 b).1,gQ its) w':=by
 apply (CK.vc (a1:=s));refine ⟨_,h.rt.at 0 rfl,(DK h.so hW 0 s b hs hb hn).mono ?_⟩;rintro e w1 ⟨rfl,r',h1,m1,f1,-⟩;exact ⟨_,rfl,rfl,r',sl,its,h.store m1 h1,rfl,m1.mono λi _ hi=>WB i hi,GV f1⟩
def Zk{w:World}{t st d:Nat}{r:Dm}{sl:Sl}{D:Dk}{ag limit:Int}{its:List It}(h:TO w t st d r sl D ag limit its)(hW:D.l.length<=1000000):
  ae 92 #[t] w λe w'=>∃s:Sl,e=Value.tuple #[s,.bool (lu D 0).2.2]/\iA w' s (lu D 0).1/\mM (lu D 0).1/\(lu D 0).1.length<=1048576/\s.n<=s.c/\(∀g,s.aZ=some g->w.heap.size<=g)/\Ext w w':=by
 apply CL.vc;refine ⟨_,h.rt.at 0 rfl,(DW h.so aa 0).mono ?_⟩;rintro e w1 ⟨s,rfl,hs,hb,hl,hc,hf,x1⟩;exact ⟨s,_,_,rfl,s,rfl,hs,hb,hl,hc,hf,x1⟩
def Zl{w:World}{t st d:Nat}{r:Dm}{sl:Sl}{D:Dk}{ag limit:Int}{its:List It}(h:TO w t st d r sl D ag limit its):
  ae 37 #[t] w λe w'=>∃s':Sl,e=s'/\ar w tPo 2 w' s' ((gQ its).map λe=> [.int .i64 e.1.1,.int .i64 e.1.2])/\Ext w w':=by
 apply Cu.vc;have hn:=h.n;have dp:=h.len;have afT:=h.Wz;refine ⟨sl,h.rt.at 3 rfl,λn i so wr=>∃k:Nat,i=k/\k+n=its.length/\Ext w wr/\ar w tPo 2 wr so (((gQ its).take k).map λe=> [.int .i64 e.1.1,.int .i64 e.1.2]),⟨its.length,0,rfl,aa,Ext.cG _,ar.nil⟩,?_⟩;rintro n us i so wr ⟨k,rfl,hk,xr,ho⟩;have Tq:=ov (j:=k);have hol:(gQ its).length=its.length:=by rw [aL]
 apply Br.mk<;>intro hc
 ·replace hc:=nh hc;obtain ⟨y,hy⟩:=bq (l:=its) (i:=k) aa;have hr:=h.ext xr;obtain ⟨a1,a2⟩:=hr.at hy;have hyr:=hr.it y (aO hy);refine ⟨a1,_,a2,Az (Az ⟨_,hyr.r.at 0 rfl,Az (Az ⟨_,_,hyr.k.pos,(yl y.p wr).mono ?_⟩)⟩)⟩;rintro e cC ⟨rfl,bW⟩;refine ⟨_,_,rfl,λee qu=> ?_⟩;have cW:=aQ qu;have z12:=bW.size;have zr:=xr.size;have z15:=fj qu;have aa2:=(ho.ext bW).ext cW;have hso:=(ho.rd (show 0<2 by decide)).n;rw [aL,cY] at hso;obtain ⟨hp,bf⟩:=aa2.append (bytes:=16) (news:=[.int .i64 y.p.1,.int .i64 y.p.2]) aa rfl (B9 _ _ _ _) aa aa;refine ⟨hp,λs16 cL afX=> ?_⟩;obtain ⟨azA,aHi,xb,Om,-⟩:=bf s16 cL afX;refine ⟨Om _ (λe=>by have:=(ho.own.lt e).2;omega) aa,n-1,aa,k+1,Tq,aa,(xr.tr (bW.tr cW)).trans xb,?_⟩;have:(gQ its).take (k+1)=(gQ its).take k++ [y.ob]:=by rw [dy,aS,hy];rfl
  rw [this,bJ];exact azA
 ·replace hc:=nC hc;rw [fl aa] at ho;exact ⟨so,rfl,ho,xr⟩
def qd{w:World}{p:Option Addr}{v:Value}(h:ld w p=some v):ah w p 0 [v]:=by show ld w (af p 0)=_;rw [fI];exact h
def TO.ahE{w w':World}{t st d:Nat}{r:Dm}{sl:Sl}{D:Dk}{ag limit:Int}{its:List It}(h:TO w t st d r sl D ag limit its){i:Nat}{y y':It}(hi:its[i]? =some y)(hx:y'.x=y.x)(hg:y'.g=y.g)(hm:Mod (λj=>j=y.x\/j=y.g) w w')(hy:wQ w' y'):TO w' t st d r sl D ag limit (its.set i y'):=by
 have FV:=(bZ.1 hi).1;have hr:=(h.it y (aO hi)).r;have hrg:=(h.it y (aO hi)).k.row;have off:∀{j:Nat} {cs:LV} {τ:TypeId},Row w j cs τ->τ≠cF->τ≠yG->¬(j=y.x\/j=y.g):=λhr' ht hc e=>by
  rcases e with e|e
  ·exact hr'.ne hr ht e
  ·exact hr'.ne hrg hc e
 have hpx:Ez (its.set i y')=Ez its:=by
  unfold Ez;rw [jY,hx];apply jt;intro j;rw [iD];split
  ·rename_i e;subst e;rw [if_pos (by rw [aL];exact FV),aS,hi];rfl
  ·rfl
 have hmx:(its.set i y').map (·.x)=its.map (·.x):=by
  rw [jY,hx];apply jt;intro j;rw [iD];split
  ·rename_i e;subst e;rw [if_pos (by rw [aL];exact FV),aS,hi];rfl
  ·rfl
 have hmg:(its.set i y').map (·.g)=its.map (·.g):=by
  rw [jY,hg];apply jt;intro j;rw [iD];split
  ·rename_i e;subst e;rw [if_pos (by rw [aL];exact FV),aS,hi];rfl
  ·rfl
 refine ⟨hm.row h.rt (off h.rt aA aA),h.so.aW hm (λhr' hτ=>by rcases hτ with rfl|rfl|rfl|rfl<;>exact off hr' aA aA) (λhmp e=>by
   rcases e with e|e
   ·exact hr.fY hmp e.symm
   ·exact hrg.fY hmp e.symm),?_,λz hz=> ?_,by rw [hmx];exact h.dx,by rw [hmg];exact h.dg,h.Wz,by rw [iE];exact h.len⟩
 ·rw [hpx];exact hm.gU h.ol λb hb=>by obtain ⟨cs',hr'⟩:=aY h.ol aA hb;exact off hr' aA aA
 ·obtain ⟨j,hj⟩:=tU hz;rw [iD] at hj;split at hj
  ·cases hj;exact hy
  ·rename_i hZ;have hzj:=h.it z (aO hj);have hjl:=(bZ.1 hj).1;refine hzj.aW hm ?_ ?_ (λb hb=> ?_)
   ·rintro (e|e)
    ·have h1:(its.map (·.x))[i]? =some y.x:=by rw [aS,hi];rfl
     have h2:(its.map (·.x))[j]? =some z.x:=by rw [aS,hj];rfl
     rw [e,<-h1] at h2;exact hZ ((List.getElem?_inj (by rw [aL];exact hjl) h.dx).1 h2).symm
    ·exact hzj.r.ne hrg aA e
   ·rintro (e|e)
    ·exact hzj.k.row.ne hr aA e
    ·have h1:(its.map (·.g))[i]? =some y.g:=by rw [aS,hi];rfl
     have h2:(its.map (·.g))[j]? =some z.g:=by rw [aS,hj];rfl
     rw [e,<-h1] at h2;exact hZ ((List.getElem?_inj (by rw [aL];exact hjl) h.dg).1 h2).symm
   ·obtain ⟨cs',hr'⟩:=aY hzj.k.own aA hb;exact off hr' aA aA
def Zm{t st d:Nat}{r:Dm}{sl:Sl}{its:List It}{i n:Nat}{y y':It}(hi:its[i]? =some y)(hx:y'.x=y.x)(hg:y'.g=y.g)(hs:∀b,y'.s.aZ=some b->y.s.aZ=some b\/n<=b):∀j,aq t st d r sl (its.set i y') j->aq t st d r sl its j\/n<=j:=by
 rintro j (e|e|e|e|e|⟨z,hz,e⟩)
 ·exact .inl (.inl e)
 ·exact .inl (.inr (.inl e))
 ·exact .inl (.inr (.inr (.inl e)))
 ·exact .inl (.inr (.inr (.inr (.inl e))))
 ·exact .inl (.inr (.inr (.inr (.inr (.inl e)))))
 ·have hy:∀i,(i=y.x\/i=y.g\/y.s.aZ=some i)->aq t st d r sl its i:=λi e=> .inr (.inr (.inr (.inr (.inr ⟨y,aO hi,e⟩))))
  rcases iV hz with hz|hz
  ·exact .inl (.inr (.inr (.inr (.inr (.inr ⟨z,hz,e⟩)))))
  ·subst hz;rw [hx,hg] at e;rcases e with e|e|e
   ·exact .inl (hy j (.inl e))
   ·exact .inl (hy j (.inr (.inl e)))
   ·rcases hs j e with e|e
    ·exact .inl (hy j (.inr (.inr e)))
    ·exact .inr e
instance (c:Ce):Decidable (FH c):=by unfold FH;exact inferInstance
def gz(l:List En)(c:Ce):Int:=
 if bU (λe:En=>e.1==pos c) l<0 then -1 else if c.2.1<0 then 1 else ((l[(bU (λe:En=>e.1==pos c) l).toNat]?).map λe=>HG e.1 e.2.1 c).getD 0
def fb(l:List En)(c:Ce)(b:Int):List En × Int:=
 if bU (λe:En=>e.1==pos c) l<0 then (l,11) else if ¬FH c then (l,5) else if cE b=false then (l,1) else
  (l.eraseIdx (bU (λe:En=>e.1==pos c) l).toNat++((l[(bU (λe:En=>e.1==pos c) l).toNat]?).map λe=>(e.1,(kO e.1 e.2.1 c b).1,e.2.2.1||(HG e.1 e.2.1 c !=b),e.2.2.2)).toList,0)
def adD{w:World}{t st d:Nat}{r:Dm}{sl:Sl}{D:Dk}{ag limit:Int}{its:List It}(h:TO w t st d r sl D ag limit its)(c:Ce)(hc:rT c):
  ae 83 #[t,eg c] w λe w'=>e=Value.int .i64 (gz (gQ its) c)/\Ext w w':=by
 apply Hg.vc;intro w0 e0;have z0:=fj e0;have x0:=aQ e0;refine (qJ c hc w0).mono ?_;rintro e w1 ⟨rfl,x1⟩;have lg:=x0.tr x1;have z1:=x1.size;refine ⟨_,_,rfl,x1.heap aa,(find_spec (h.ext lg) (pos c)).mono ?_⟩;rintro e w4 ⟨rfl,x4⟩;have z4:=x4.size;have El:=lg.tr x4;have hfm:bU (λe:En=>e.1==pos c) (gQ its)=bU (λi:It=>i.p==pos c) its:=mP It.ob _ its;refine ⟨_,rfl,x4.heap aa,?_⟩;rcases eM (λi:It=>i.p==pos c) its with ⟨hf,-⟩|⟨k,y,hk,hyp,hf,-⟩
 ·rw [hf];refine Br.mk (λ_=>⟨?_,El⟩) (λh=>by simp at h);unfold gz;rw [hfm,hf,if_pos aA]
 ·rw [hf];refine Br.mk (λh=>by simp at h;omega) (λ_=>Br.mk (λhb=> ?_) (λhb=> ?_))
  ·replace hb:=nh hb;refine ⟨?_,El⟩;unfold gz;rw [hfm,hf,if_neg aa,if_pos hb]
  ·replace hb:=nC hb;have hd:=(h.ext El).ext (Ext.dr w4);obtain ⟨a1,a2⟩:=hd.at hk;have hyr:=hd.it y (aO hk);refine ⟨sl,hd.rt.at 3 rfl,a1,_,a2,Az (Az ⟨_,hyr.r.at 0 rfl,(FN hyr.k c hc).mono ?_⟩)⟩;rintro e w9 ⟨rfl,x9⟩;have h9:=hd.ext x9;obtain ⟨-,b2⟩:=h9.at hk;refine ⟨_,_,rfl,x9.heap (show w.heap.size<w4 by omega),qd b2,qd (h9.rt.at 3 rfl),?_,El.tr ((Ext.dr _).tr x9)⟩;unfold gz;rw [hfm,hf,if_neg aa,if_neg hb,dQ,aS,hk];rfl
def ahF{p:Po}{C:List Int}{c:Ce}{b:Int}(hp:p=pos c)(hy:FH c)(hb:cE b=true):(kO p C c b).2=0:=by unfold kO;rw [if_neg (by rw [(pd p c).2 ⟨hy,hp.symm⟩];decide),if_neg (by rw [hb];decide)]
def Zn{w:World}{t st d:Nat}{r:Dm}{sl:Sl}{D:Dk}{ag limit:Int}{its:List It}(h:TO w t st d r sl D ag limit its)(c:Ce)(hc:rT c)(b:Int):
  ae 221 #[t,eg c,.int .i64 b] w λe w'=>e=Value.int .i64 (fb (gQ its) c b).2/\xH w t st d r sl ag limit its (D,(fb (gQ its) c b).1) w':=by
 apply ES.vc;intro w0 e0;have z0:=fj e0;have x0:=aQ e0;refine (qJ c hc w0).mono ?_;rintro e w1 ⟨rfl,x1⟩;have lg:=x0.tr x1;have z1:=x1.size;refine ⟨_,_,rfl,x1.heap aa,(find_spec (h.ext lg) (pos c)).mono ?_⟩;rintro e w4 ⟨rfl,x4⟩;have z4:=x4.size;have El:=lg.tr x4;have hfm:bU (λe:En=>e.1==pos c) (gQ its)=bU (λi:It=>i.p==pos c) its:=mP It.ob _ its;refine ⟨_,rfl,x4.heap aa,(DG c w4).mono ?_⟩;rintro e w6 ⟨⟨ix,iy,rfl,hiy⟩,x6⟩;have z6:=x6.size;have x06:=El.tr x6;have h6:=h.ext x06;refine ⟨_,_,rfl,x6.heap aa,?_⟩;have same:∀{w'},Ext w w'->xH w t st d r sl ag limit its (D,gQ its) w':=λx=>⟨r,sl,its,h.ext x,rfl,aJ.aC x⟩
 rcases eM (λi:It=>i.p==pos c) its with ⟨hf,-⟩|⟨k,y,hk,hyp,hf,-⟩
 ·rw [hf];refine Br.mk (λ_=> ?_) (λh=>by simp at h);have e:fb (gQ its) c b=(gQ its,11):=by unfold fb;rw [hfm,hf,if_pos aA]
  rw [e];exact ⟨rfl,same x06⟩
 ·rw [hf];have hyc:y.p=pos c:=by simpa using hyp
  refine Br.mk (λh=>by simp at h;omega) (λ_=> ?_);rcases hiy with ⟨rfl,hY,-⟩|⟨rfl,hY,-⟩
  ·refine gd rfl ((iu b w6).mono ?_);rintro e w9 ⟨rfl,x9⟩;have z9:=x9.size;have Sx:=x06.tr x9;refine ⟨_,rfl,x9.heap aa,Br.mk (λhb=> ?_) (λhb=> ?_)⟩
   ·have hb':cE b=false:=by simpa using hb
    have e:fb (gQ its) c b=(gQ its,1):=by unfold fb;rw [hfm,hf,if_neg aa,if_neg (by simpa using hY),if_pos hb']
    rw [e];exact ⟨rfl,same Sx⟩
   ·have hb':cE b=true:=by simpa using hb
    have he:fb (gQ its) c b=((gQ its).eraseIdx k++ [(y.p,(kO y.p y.C c b).1,y.pT||(HG y.p y.C c !=b),y.pins)],0):=by unfold fb;rw [hfm,hf,if_neg aa,if_neg (by simpa using hY),if_neg (by rw [hb'];decide),dQ,aS,hk];rfl
    have h0:=ahF (C:=y.C) hyc hY hb';rw [he];have h9:=h.ext Sx;refine (Hq h9 hk).mono ?_;rintro e bw ⟨rfl,azB,h11,t11⟩;have azC:=(aJ.aC Sx).trans t11;have z11:=t11.mod.size;have bx:∀{F:Nat->Prop},(∀i,F i->aq t st d r sl its i)->¬F w:=λhF hf=>by have:=h.lt (hF _ hf);omega
    have hi':(its.eraseIdx k++ [y])[(its.eraseIdx k).length]? =some y:=by rw [qH (ak _),Nat.sub_self];rfl
    have hd:=h11.ext (Ext.dr bw);have hyd:=hd.it y (aO hi');have hxw:y.x<w:=(h.it y (aO hk)).r.lt;have hgw:y.g<w:=(h.it y (aO hk)).k.row.lt;refine ⟨_,rfl,t11.mod.same _ aa (bx λi hi=>hi),Az (Az ⟨_,hyd.r.at 0 rfl,(FN hyd.k c hc).mono ?_⟩)⟩;rintro e bH ⟨rfl,cB⟩;have afY:Ext bw bH:=(Ext.dr _).tr cB;have z14:=afY.size;have h14:=h11.ext afY;have BK:=h14.it y (aO hi');have pt:∀v:Bool,_:=λv=>BK.r.ic (j:=1) (v:=.bool v) bg rfl
    refine ⟨_,_,rfl,cB.heap (show w.heap.size<bw by omega),Az (Az ⟨_,BK.r.at 1 rfl,Br.mk (λhb=>Az (Az ⟨⟨rfl,(pt true).1⟩,λe=> ?_,λdI e18=>Az (Az ?_)⟩)) (λhb=>Az (Az ⟨⟨rfl,(pt true).1⟩,λe=> ?_,λdI e18=>Az (Az ?_)⟩))⟩)⟩
    case refine_1|refine_3=>
     rw [cP] at e;have:y.x=w.heap.size:=by simpa [bk] using e
     omega
    all_goals
     obtain ⟨q1,q2⟩:=(pt _).2 dI e18
     have z18:=q2.size
     have asR:JI dI y.g y.s y.p y.C:=BK.k.aW q2 (λe=>BK.k.row.ne BK.r aA e) (λb hb=>by obtain ⟨cs',hr'⟩:=aY BK.k.own aA hb;exact hr'.ne BK.r aA)
     refine ⟨_,(q1.ext (Ext.dr _)).at 0 rfl,(adE (asR.ext (Ext.dr dI)) c hc b).mono ?_⟩;rintro e fx ⟨rfl,s',azD,m20,b20⟩;have q1d:=q1.ext (Ext.dr dI);refine ⟨_,rfl,m20.same _ (show w.heap.size<dI by omega) (λe=>by omega),congrArg _ (congrArg _ h0),?_⟩;have hm:Mod (λj=>j=y.x\/j=y.g) bH fx:=((q2.mono λi _ hi=> .inl hi).trans (Mod.aC (Ext.dr _))).trans (m20.mono λi _ hi=> .inr hi);have azF:wQ fx ⟨y.x,y.g,s',y.p,(kO y.p y.C c b).1,y.pT||(HG y.p y.C c !=b),y.pins⟩:=by refine ⟨?_,azD⟩;have:=m20.row q1d (λe=>q1d.ne (asR.ext (Ext.dr dI)).row aA e);rw [hb];exact this
     have h20:=h14.ahE hi' (y':=⟨y.x,y.g,s',y.p,(kO y.p y.C c b).1,y.pT||(HG y.p y.C c !=b),y.pins⟩) rfl rfl hm azF;refine ⟨r,azB,_,h20,?_,azC.trans ⟨(Mod.aC afY).trans (hm.mono λi _ hi=> ?_),λj hj=> ?_⟩⟩
     ·unfold gQ;rw [List.set_append_right _ _ (ak _),Nat.sub_self,bJ];have:=wm its k;unfold gQ at this;rw [this];rfl
     ·exact .inr (.inr (.inr (.inr (.inr ⟨y,aO hi',hi.elim .inl λe=> .inr (.inl e)⟩))))
     ·exact Zm (y':=⟨y.x,y.g,s',y.p,(kO y.p y.C c b).1,y.pT||(HG y.p y.C c !=b),y.pins⟩) hi' rfl rfl (λb hb=>(b20 b hb).imp id λe=>gG (gG z14 z18) e) j hj
  ·have e:fb (gQ its) c b=(gQ its,5):=by unfold fb;rw [hfm,hf,if_neg aa,if_pos hY]
   refine yes rfl ?_;rw [e];exact ⟨rfl,same x06⟩
def fV(l:List En):Prop:=∀e ∈ l,e.2.1.length=8192/\∀b ∈ e.2.1,cE b=true
def aaU{c d:Ce}(hc:FH c)(hd:FH d)(hp:pos c=pos d)(hi:(idx c).toNat=(idx d).toNat):c=d:=by
 have h1:=yK hc;have h2:=yK hd;have hi':idx c=idx d:=by omega
 obtain ⟨a,b,e⟩:=c;obtain ⟨a',b',e'⟩:=d;unfold idx at hi';unfold pos at hp;simp only [Prod.mk.injEq] at hp ⊢;simp only at hi';omega
def lZ(l:List En)(p:Po):Prop:=∃e ∈ l,e.1=p
def jT(l:List En):Prop:=(l.map (·.1)).Nodup
def Nu{l:List En}{c:Ce}(h:¬lZ l (pos c)):gz l c= -1:=by
 unfold gz;rw [jE λy hy=> ?_,if_pos aA]
 cases hb:(y.1==pos c) with
 |false=>rfl
 |true=>exact absurd ⟨y,hy,by simpa using hb⟩ h
def yZ{l:List En}(hn:jT l){e:En}(he:e ∈ l):∃k:Nat,l[k]? =some e/\bU (λx:En=>x.1==e.1) l=k:=by
 obtain ⟨k,hk⟩:=tU he;refine ⟨k,hk,pB hk bg λj hj y hy=> ?_⟩
 cases hb:(y.1==e.1) with
 |false=>rfl
 |true=>
  have h1:(l.map (·.1))[k]? =some e.1:=by rw [aS,hk];rfl
  have h2:(l.map (·.1))[j]? =some e.1:=by rw [aS,hy];simpa using hb
  have SY:=(bZ.1 h1).1;have:=(List.getElem?_inj (show j<_ by omega) hn).1 (h2.trans h1.symm);omega
def Bz{l:List En}(hn:jT l){e:En}(he:e ∈ l){c:Ce}(hp:e.1=pos c):gz l c=if c.2.1<0 then 1 else HG e.1 e.2.1 c:=by obtain ⟨k,hk,hf⟩:=yZ hn he;unfold gz;rw [<-hp,hf,if_neg aa,dQ,hk];rfl
def aeV{p:Po}{C:List Int}(hl:C.length=8192){c:Ce}(hy:FH c)(hp:p=pos c){b:Int}(hb:cE b=true)(c':Ce)(hp':p=pos c'):HG p (kO p C c b).1 c'=if c'=c then b else HG p C c':=by
 have e:(kO p C c b).1=C.set (idx c).toNat b:=by unfold kO;rw [if_neg (by rw [(pd p c).2 ⟨hy,hp.symm⟩];decide),if_neg (by rw [hb];decide)]
 rw [e];have hi:=yK hy;by_cases hcc:c'=c
 ·subst hcc;rw [if_pos rfl];have hk:LN p c'=true:=(pd p c').2 ⟨hy,hp'.symm⟩;unfold HG;rw [hk,if_pos rfl];unfold atC;rw [if_neg aa,dO,iD,if_pos rfl,if_pos aa];rfl
 ·rw [if_neg hcc];by_cases hy':FH c'
  ·have hk:LN p c'=true:=(pd p c').2 ⟨hy',hp'.symm⟩;have hi':=yK hy';have h0:¬idx c'<0:=by omega
   unfold HG;rw [hk,if_pos rfl,if_pos rfl];unfold atC;rw [if_neg h0,if_neg h0,dO,dO,iD,if_neg (λh=>hcc (aaU hy hy' (hp.symm.trans hp') h).symm)]
  ·have hk:LN p c'=false:=by
    cases h:LN p c' with
    |false=>rfl
    |true=>exact absurd ((pd p c').1 h).1 hy'
   unfold HG;rw [hk,if_neg aA,if_neg aA]
def aeL{l:List En}(hn:jT l)(hg:fV l){c:Ce}(hh:lZ l (pos c))(hy:FH c){b:Int}(hb:cE b=true):
  (fb l c b).2=0/\jT (fb l c b).1/\(∀p,lZ (fb l c b).1 p ↔ lZ l p)/\∀c',gz (fb l c b).1 c'=if c'=c then b else gz l c':=by
 obtain ⟨e,he,hp⟩:=hh;obtain ⟨k,hk,hf⟩:=yZ hn he;have hs:fb l c b=(l.eraseIdx k++ [(e.1,(kO e.1 e.2.1 c b).1,e.2.2.1||(HG e.1 e.2.1 c !=b),e.2.2.2)],0):=by unfold fb;rw [<-hp,hf,if_neg aa,if_neg (by simpa using hy),if_neg (by rw [hb];decide),dQ,hk];rfl
 generalize hd:(e.2.2.1||(HG e.1 e.2.1 c !=b))=d at hs;obtain ⟨A,B,N6,hkA⟩:∃A B,l=A++e::B/\k=A.length:=by obtain ⟨SY,he⟩:=bZ.1 hk;exact ⟨l.take k,l.drop (k+1),by rw [<-he,<-ue SY,qM],by rw [cY];omega⟩
 subst hkA;rw [N6,List.eraseIdx_append_of_length_le (ak _),Nat.sub_self] at hs;have fj:fb l c b=(A++B++ [(e.1,(kO e.1 e.2.1 c b).1,d,e.2.2.2)],0):=by rw [N6];exact hs
 rw [fj];have fw:∀x,x ∈ l ↔ x ∈ A++B\/x=e:=λx=>by
  rw [N6];simp only [bX,cp];constructor
  ·rintro (h|h|h)
   ·exact .inl (.inl h)
   ·exact .inr h
   ·exact .inl (.inr h)
  ·rintro ((h|h)|h)
   ·exact .inl h
   ·exact .inr (.inr h)
   ·exact .inr (.inl h)
 have hn':jT (A++B++ [(e.1,(kO e.1 e.2.1 c b).1,d,e.2.2.2)]):=by
  have hnl:jT (A++e::B):=by rw [<-N6];exact hn
  unfold jT at hnl ⊢;rw [bJ,eQ] at hnl;obtain ⟨n1,n2,n3⟩:=sh.1 hnl;obtain ⟨n4,n5⟩:=oL.1 n2;rw [bJ,bJ];refine sh.2 ⟨sh.2 ⟨n1,n5,λa ha b hb=>n3 a ha b (.tail _ hb)⟩,bg,λa ha b hb=> ?_⟩;simp only [eQ,List.map_nil,fT] at hb;subst hb;rcases bX.1 ha with ha|ha
  ·exact n3 a ha _ (.head _)
  ·exact λh=>n4 (h▸ha)
 have xg:∀x ∈ A++B,x.1≠e.1:=λx hx h=>by
  have hnl:jT (A++e::B):=by rw [<-N6];exact hn
  unfold jT at hnl;rw [bJ,eQ] at hnl;obtain ⟨n1,n2,n3⟩:=sh.1 hnl;obtain ⟨n4,n5⟩:=oL.1 n2;rcases bX.1 hx with hx|hx
  ·exact n3 _ (aU.2 ⟨x,hx,rfl⟩) _ (.head _) h
  ·exact n4 (by rw [<-h];exact aU.2 ⟨x,hx,rfl⟩)
 refine ⟨rfl,hn',λp=>⟨?_,?_⟩,λc'=> ?_⟩
 ·rintro ⟨x,hx,XT⟩;rcases bX.1 hx with hx|hx
  ·exact ⟨x,(fw x).2 (.inl hx),XT⟩
  ·simp only [fT] at hx;subst hx;exact ⟨e,he,XT⟩
 ·rintro ⟨x,hx,XT⟩;rcases (fw x).1 hx with hx|hx
  ·exact ⟨x,xC _ hx,XT⟩
  ·subst hx;exact ⟨_,r6 _ (.head _),XT⟩
 ·show gz (A++B++ [(e.1,(kO e.1 e.2.1 c b).1,d,e.2.2.2)]) c'=_;by_cases hpc:e.1=pos c'
  ·rw [Bz hn' (r6 _ (.head _)) (e:=(e.1,(kO e.1 e.2.1 c b).1,d,e.2.2.2)) hpc,Bz hn he hpc];show (if c'.2.1<0 then 1 else HG e.1 (kO e.1 e.2.1 c b).1 c')=_;rw [aeV (hg e he).1 hy hp hb c' hpc];by_cases hcc:c'=c
   ·subst hcc;rw [if_pos rfl,if_pos rfl,if_neg (by unfold FH at hy;omega)]
   ·rw [if_neg hcc,if_neg hcc]
  ·have hcc:c'≠c:=λh=>hpc (by rw [h];exact hp)
   rw [if_neg hcc];by_cases hx:∃x ∈ A++B,x.1=pos c'
   ·obtain ⟨x,hx,XT⟩:=hx;rw [Bz hn' (xC _ hx) XT,Bz hn ((fw x).2 (.inl hx)) XT]
   ·rw [Nu,Nu]
    ·rintro ⟨x,Wc,XT⟩;rcases (fw x).1 Wc with h|h
     ·exact hx ⟨x,h,XT⟩
     ·subst h;exact hpc XT
    ·rintro ⟨x,Wc,XT⟩;rcases bX.1 Wc with h|h
     ·exact hx ⟨x,h,XT⟩
     ·simp only [fT] at h;subst h;exact hpc XT
def TF(F:Nat->Prop)(w:World)(t:Nat)(ag limit:Int)(T:Tb):Prop:=
 ∃st d r sl its,TO w t st d r sl T.1 ag limit its/\gQ its=T.2/\F=aq t st d r sl its
def TF.lt{F:Nat->Prop}{w:World}{t:Nat}{ag limit:Int}{T:Tb}(h:TF F w t ag limit T){i:Nat}(hi:F i):i<w:=by obtain ⟨st,d,r,sl,its,h1,h2,rfl⟩:=h;exact h1.lt hi
def TF.same{F:Nat->Prop}{w w':World}{t:Nat}{ag limit:Int}{T:Tb}(h:TF F w t ag limit T)(hs:∀i,F i->w'.heap[i]? =w.heap[i]?):TF F w' t ag limit T:=by obtain ⟨st,d,r,sl,its,h1,h2,rfl⟩:=h;exact ⟨st,d,r,sl,its,h1.same hs,h2,rfl⟩
def TF.ext{F:Nat->Prop}{w w':World}{t:Nat}{ag limit:Int}{T:Tb}(h:TF F w t ag limit T)(x:Ext w w'):TF F w' t ag limit T:=h.same λ_ hi=>x.heap (h.lt hi)
def TF.aW{F G:Nat->Prop}{w w':World}{t:Nat}{ag limit:Int}{T:Tb}(h:TF F w t ag limit T)(hm:Mod G w w')(hn:∀i,F i->¬G i):TF F w' t ag limit T:=h.same λi hi=>hm.same i (h.lt hi) (hn i hi)
abbrev Gq(τ:TypeId):Prop:=τ≠CJ/\τ≠CI/\τ≠tZ/\τ≠tPI/\τ≠cF/\τ≠yG/\τ≠iB/\τ≠tW/\τ≠je
def TF.dA{F:Nat->Prop}{w:World}{t:Nat}{ag limit:Int}{T:Tb}(h:TF F w t ag limit T){j:Nat}{cs:LV}{τ:TypeId}(hr:Row w j cs τ)(hτ:Gq τ):¬F j:=by obtain ⟨st,d,r,sl,its,h1,h2,rfl⟩:=h;exact h1.dA hr hτ
def TF.len{F:Nat->Prop}{w:World}{t:Nat}{ag limit:Int}{T:Tb}(h:TF F w t ag limit T):(T.2.length:Int)<=limit/\1<=limit/\limit<=16:=by obtain ⟨st,d,r,sl,its,h1,e,rfl⟩:=h;have:=h1.len;have:=h1.Wz;rw [<-e];unfold gQ;rw [aL];omega
def TF.B3{F:Nat->Prop}{w:World}{t:Nat}{ag limit:Int}{T:Tb}(h:TF F w t ag limit T):fV T.2:=by obtain ⟨st,d,r,sl,its,h1,e,rfl⟩:=h;rw [<-e];intro e he;obtain ⟨y,hy,rfl⟩:=aU.1 he;exact ⟨(h1.it y hy).k.len,(h1.it y hy).k.may⟩
abbrev O8(F:Nat->Prop)(w:World)(t:Nat)(ag limit:Int)(T:Tb)(w':World):Prop:=∃F',TF F' w' t ag limit T/\aJ F F' w w'
def LR{w w':World}{t st d:Nat}{r:Dm}{sl:Sl}{ag limit:Int}{its:List It}{T:Tb}(hl:xH w t st d r sl ag limit its T w'):O8 (aq t st d r sl its) w t ag limit T w':=by obtain ⟨r',sl',its',h',ho,ht⟩:=hl;exact ⟨_,⟨st,d,r',sl',its',h',ho,rfl⟩,ht⟩
def TA(ag limit room:Int)(w:World):ae 96 #[ag,limit,room] w λe w'=>∃t F,e=Value.pointer (aD t)/\TF F w' t ag (min (max limit 1) 16) (Mh room,[])/\Ext w w'/\∀i,F i->w.heap.size<=i:=by refine (aaQ ag limit room w).mono ?_;rintro e w' ⟨t,st,d,r,rfl,h,x,hf⟩;exact ⟨t,_,rfl,⟨st,d,r,_,[],h,rfl,rfl⟩,x,hf⟩
section
variable {F:Nat->Prop} {w:World} {t:Nat} {ag limit:Int} {T:Tb}
def QI(h:TF F w t ag limit T)(hW:T.1.l.length<=1000000)(p:Po):
  ae 20 #[t,pv p] w λe w'=>e=Value.int .i64 (yh ag limit T.1 T.2 p).2/\O8 F w t ag limit (yh ag limit T.1 T.2 p).1 w':=by
 obtain ⟨st,d,r,sl,its,h1,e,rfl⟩:=h;rw [<-e];refine (YY h1 hW p).mono ?_;rintro e w' ⟨rfl,hl⟩;exact ⟨rfl,LR hl⟩
def JP(h:TF F w t ag limit T)(hW:T.1.l.length<=1000000)(p:Po):
  ae 21 #[t,pv p] w λe w'=>e=Value.int .i64 (iF T.1 T.2 p).2/\O8 F w t ag limit (iF T.1 T.2 p).1 w':=by
 obtain ⟨st,d,r,sl,its,h1,e,rfl⟩:=h;rw [<-e];refine (QE h1 hW p).mono ?_;rintro e w' ⟨rfl,hl⟩;exact ⟨rfl,LR hl⟩
def Fg(h:TF F w t ag limit T)(hW:T.1.l.length<=900000):
  ae 22 #[t] w λe w'=>e=Value.tuple #[.int .i64 (ie T.1 T.2).2.1,.int .i64 (ie T.1 T.2).2.2]/\O8 F w t ag limit (ie T.1 T.2).1 w':=by
 obtain ⟨st,d,r,sl,its,h1,e,rfl⟩:=h;rw [<-e];refine (JM h1 hW).mono ?_;rintro e w' ⟨rfl,hl⟩;exact ⟨rfl,LR hl⟩
def Nl(h:TF F w t ag limit T)(hW:T.1.l.length<=1000000)(hL:eo T.1.l<=1099511627776)(aW:Int):
  ae 91 #[t,aW] w λe w'=>e=Value.int .i64 (dv T.1 aW).2/\O8 F w t ag limit ((dv T.1 aW).1,[]) w':=by
 obtain ⟨st,d,r,sl,its,h1,e,rfl⟩:=h;refine (UJ h1 hW hL aW).mono ?_;rintro e w' ⟨rfl,hl⟩;exact ⟨rfl,LR hl⟩
def RT(h:TF F w t ag limit T)(hW:T.1.l.length<=1000000)(s:Sl)(b:List Int)(hs:iA w s b)(hb:mM b)(hn:b.length<=1099511627776):
  ae 61 #[t,s] w λe w'=>e=Value.int .i64 (lk T.1 0 b).2/\O8 F w t ag limit ((lk T.1 0 b).1,T.2) w':=by
 obtain ⟨st,d,r,sl,its,h1,e,rfl⟩:=h;rw [<-e];refine (Zj h1 hW s b hs hb hn).mono ?_;rintro e w' ⟨rfl,hl⟩;exact ⟨rfl,LR hl⟩
def RA(h:TF F w t ag limit T)(hW:T.1.l.length<=1000000):
  ae 92 #[t] w λe w'=>∃s:Sl,e=Value.tuple #[s,.bool (lu T.1 0).2.2]/\iA w' s (lu T.1 0).1/\mM (lu T.1 0).1/\(lu T.1 0).1.length<=1048576/\s.n<=s.c/\(∀g,s.aZ=some g->w.heap.size<=g)/\Ext w w':=by
 obtain ⟨st,d,r,sl,its,h1,e,rfl⟩:=h;exact Zk h1 hW
def KE(h:TF F w t ag limit T)(c:Ce)(hc:rT c):
  ae 83 #[t,eg c] w λe w'=>e=Value.int .i64 (gz T.2 c)/\Ext w w':=by
 obtain ⟨st,d,r,sl,its,h1,e,rfl⟩:=h;rw [<-e];exact adD h1 c hc
def TB(h:TF F w t ag limit T)(c:Ce)(hc:rT c)(b:Int):
  ae 221 #[t,eg c,b] w λe w'=>e=Value.int .i64 (fb T.2 c b).2/\O8 F w t ag limit (T.1,(fb T.2 c b).1) w':=by
 obtain ⟨st,d,r,sl,its,h1,e,rfl⟩:=h;rw [<-e];refine (Zn h1 c hc b).mono ?_;rintro e w' ⟨rfl,hl⟩;exact ⟨rfl,LR hl⟩
end
def ah2{l:List Rn}(h:∀r ∈ l,1<=r.1):((lP l).length:Int)<=2*bt l:=by
 induction l with
 |nil=>exact lL 0
 |cons r t ih=>
  have h1:=h r (.head _);have h2:=ih λq hq=>h q (.tail _ hq)
  have e1:(lP (r::t)).length=1+(ja r.1).length+(lP t).length:=by show (List.flatMap _ (r::t)).length=_;rw [List.flatMap_cons,bQ,bR];show (ja r.1).length+1+(lP t).length=_;omega
  have e2:bt (r::t)=r.1+bt t:=by unfold bt;rw [eQ,List.sum_cons]
  have h3:=G6 r.1;have h4:r.1<128->(ja r.1).length<=1:=λq=>by
   unfold ja;split
   ·simp
   ·unfold oA;rw [if_pos q];simp
  by_cases q:r.1<128
  ·have:=h4 q;omega
  ·omega
def GK{C:List Int}(hl:C.length=8192)(hm:∀b ∈ C,cE b=true):(lP (gP C)).length<=16384:=by
 obtain ⟨-,-,hf,hs⟩:=wC hl hm;have h1:∀r ∈ gP C,1<=r.1:=λr hr=>(np hr).1
 have:=ah2 h1;omega
def Zz(ag:Int)(p:Po){C:List Int}(hl:C.length=8192)(hm:∀b ∈ C,cE b=true):kM ag p (lP (gP C))=C:=by obtain ⟨-,hZ,hf,hs⟩:=wC hl hm;have:=aao hf hZ;rw [hs] at this;unfold kM;rw [this,if_pos rfl,mS]
def Vs(ag:Int)(p:Po):kM ag p []=made ag p:=rfl
def ajQ{p q:Po}(hq:oN q)(h:p≠q):lO p≠lO q:=by
 by_cases hp:oN p
 ·exact λe=>h ((ag2 hp hq).1 e)
 ·rw [Wy hp];have:=we hq;omega
def vH{l:List En}(hn:jT l){p:Po}{e:En}:l.find? (λx=>x.1==p)=some e ↔ e ∈ l/\e.1=p:=by
 induction l with
 |nil=>simp
 |cons x t ih=>
  have hn':=oL.1 (show (x.1::t.map (·.1)).Nodup from hn);rw [List.find?_cons];by_cases q:x.1=p
  ·rw [show (x.1==p)=true by simpa using q];simp only [Option.some.injEq,cp];constructor
   ·rintro rfl;exact ⟨.inl rfl,q⟩
   ·rintro ⟨q2|q2,q3⟩
    ·exact q2.symm
    ·exact absurd (aU.2 ⟨e,q2,q3.trans q.symm⟩) hn'.1
  ·rw [show (x.1==p)=false by simpa using q,ih hn'.2];simp only [cp];constructor
   ·rintro ⟨a,b⟩;exact ⟨.inr a,b⟩
   ·rintro ⟨a|a,b⟩
    ·subst a;exact absurd b q
    ·exact ⟨a,b⟩
def aap{l:List En}{p:Po}:l.find? (λx=>x.1==p)=none ↔ ¬lZ l p:=by
 rw [DV];constructor
 ·rintro h ⟨x,hx,q⟩;exact h x hx (by simpa using q)
 ·intro h x hx q;exact h ⟨x,hx,by simpa using q⟩
def Zy(ag:Int)(T:Tb)(p:Po):List Int:=match T.2.find? (λx=>x.1==p) with|some e=>e.2.1|none=>kM ag p (lu T.1 (lO p)).1
def gO{ag:Int}{T:Tb}(hn:jT T.2){e:En}(he:e ∈ T.2):Zy ag T e.1=e.2.1:=by unfold Zy;rw [(vH hn).2 ⟨he,rfl⟩]
def kE{ag:Int}{T:Tb}{p:Po}(h:¬lZ T.2 p):Zy ag T p=kM ag p (lu T.1 (lO p)).1:=by unfold Zy;rw [aap.2 h]
def mem_set{l:List En}(hn:jT l){i:Nat}{e e':En}(hi:l[i]? =some e)(h1:e'.1=e.1)(x:En):x ∈ l.set i e' ↔ x=e'\/(x ∈ l/\x.1≠e.1):=by
 have FV:=(bZ.1 hi).1;have key:∀j y,l[j]? =some y->y.1=e.1->j=i:=λj y hj hy=>by
  have a1:(l.map (·.1))[i]? =some e.1:=by rw [aS,hi];rfl
  have a2:(l.map (·.1))[j]? =some e.1:=by rw [aS,hj];simpa using hy
  exact (List.getElem?_inj (by rw [aL];exact (bZ.1 hj).1) hn).1 (a2.trans a1.symm)
 constructor
 ·intro hx;obtain ⟨j,hj⟩:=tU hx;rw [iD] at hj;split at hj
  ·exact .inl (Option.some.inj hj).symm
  ·rename_i hZ;exact .inr ⟨aO hj,λq=>hZ (key j x hj q).symm⟩
 ·rintro (rfl|⟨hx,hZ⟩)
  ·exact aO (i:=i) (oM FV)
  ·obtain ⟨j,hj⟩:=tU hx;refine aO (i:=j) ?_;rw [xK]
   ·exact hj
   ·rintro rfl;rw [hi] at hj;cases hj;exact hZ rfl
def W8{l:List En}(hn:jT l){i:Nat}{e e':En}(hi:l[i]? =some e)(h1:e'.1=e.1):jT (l.set i e'):=by
 unfold jT;rw [jY,h1];have:(l.map (·.1)).set i e.1=l.map (·.1):=by
  have hk:(l.map (·.1))[i]? =some e.1:=by rw [aS,hi];rfl
  obtain ⟨hl,he⟩:=bZ.1 hk;rw [<-he];exact List.set_getElem_self hl
 rw [this];exact hn
def Vt{l:List En}{i:Nat}{e:En}(hd:jT l)(hi:l[i]? =some e):e.1 ∉(l.eraseIdx i).map (·.1):=by
 rw [KK,bJ];have e1:l=l.take i++e::l.drop (i+1):=by have:=qM i l;rw [ue (bZ.1 hi).1] at this;rw [<-(bZ.1 hi).2];exact this.symm
 unfold jT at hd;rw [e1,bJ,eQ] at hd;obtain ⟨h1,h2,h3⟩:=sh.1 hd;intro hm;rcases bX.1 hm with hm|hm
 ·exact h3 _ hm _ (.head _) rfl
 ·exact (oL.1 h2).1 hm
def mem_erase{l:List En}(hn:jT l){i:Nat}{e:En}(hi:l[i]? =some e)(x:En):x ∈ l.eraseIdx i ↔ x ∈ l/\x.1≠e.1:=by
 have l8:e.1 ∉(l.eraseIdx i).map (·.1):=Vt hn hi;have FV:=bZ.1 hi;have e1:l=l.take i++e::l.drop (i+1):=by have:=qM i l;rw [ue FV.1,FV.2] at this;exact this.symm
 have e2:x ∈ l ↔ x ∈ l.eraseIdx i\/x=e:=by
  rw [KK];conv=>lhs;rw [e1]
  simp only [bX,cp];constructor
  ·rintro (h|h|h)
   ·exact .inl (.inl h)
   ·exact .inr h
   ·exact .inl (.inr h)
  ·rintro ((h|h)|h)
   ·exact .inl h
   ·exact .inr (.inr h)
   ·exact .inr (.inl h)
 constructor
 ·intro hx;exact ⟨e2.2 (.inl hx),λq=>l8 (aU.2 ⟨x,hx,q⟩)⟩
 ·rintro ⟨hx,hZ⟩;rcases e2.1 hx with h|h
  ·exact h
  ·exact absurd (by rw [h]) hZ
def CV{l:List En}(hn:jT l)(i:Nat):jT (l.eraseIdx i):=hn.sublist ((xG ..).map _)
def QR{l:List En}(hn:jT l){e:En}(h:¬lZ l e.1):jT (l++ [e]):=by unfold jT;rw [bJ];refine sh.2 ⟨hn,bg,?_⟩;intro a ha b hb q;simp at hb;obtain ⟨x,hx,rfl⟩:=aU.1 ha;exact h ⟨x,hx,q.trans hb⟩
def ahQ{ag:Int}{D:Dk}{l l':List En}(hn:jT l)(hn':jT l')(hm:∀x,x ∈ l' ↔ x ∈ l)(p:Po):Zy ag (D,l') p=Zy ag (D,l) p:=by
 by_cases hp:lZ l p
 ·obtain ⟨x,hx,rfl⟩:=hp;rw [gO (T:=(D,l)) hn hx,gO (T:=(D,l')) hn' ((hm x).2 hx)]
 ·rw [kE (T:=(D,l)) hp,kE (T:=(D,l')) λ⟨x,hx,e⟩=>hp ⟨x,(hm x).1 hx,e⟩]
def iS{p:Option Addr}{K:Prop}(hp:p.isSome=true)(h:K):aT (fq p) K:=bz.2 ⟨lC.2 hp,h⟩
def aqn:Gq rF/\Gq tPo:=by decide
def Du{F:Nat->Prop}{w:World}{t:Nat}{ag cap:Int}{T:Tb}(h:TF F w t ag cap T):ae 37 #[t] w λe w'=>∃s':Sl,e=s'/\ar w tPo 2 w' s' (T.2.map λe=> [.int .i64 e.1.1,.int .i64 e.1.2])/\Ext w w':=by obtain ⟨st,d,r,sl,its,g1,e,rfl⟩:=h;rw [<-e];exact Zl g1
abbrev sW:TypeId:=133
abbrev lI:TypeId:=289
abbrev Cg:=Ce × Int
abbrev cgv(x:Cg):LV:=[.int .i64 x.1.1,.int .i64 x.1.2.1,.int .i64 x.1.2.2,.int .i64 x.2]
def WF(F:Nat->Prop)(w:World)(o t:Nat)(ag limit:Int)(T:Tb)(ch:List Cg):Prop:=
 ∃F1 sc,TF F1 w t ag limit T/\Row w o [t,.slice sc.a sc.n sc.c] sW/\ar 0 lI 4 w sc (ch.map cgv)/\F=λi=>F1 i\/i=o\/sc.aZ=some i
def WF.lt{F:Nat->Prop}{w:World}{o t:Nat}{ag limit:Int}{T:Tb}{ch:List Cg}(h:WF F w o t ag limit T ch){i:Nat}(hi:F i):i<w:=by
 obtain ⟨F1,sc,h1,h2,h3,rfl⟩:=h;rcases hi with hi|rfl|hi
 ·exact h1.lt hi
 ·exact h2.lt
 ·exact (h3.own.lt hi).2
def WF.same{F:Nat->Prop}{w w':World}{o t:Nat}{ag limit:Int}{T:Tb}{ch:List Cg}(h:WF F w o t ag limit T ch)(hs:∀i,F i->w'.heap[i]? =w.heap[i]?):WF F w' o t ag limit T ch:=by obtain ⟨F1,sc,h1,h2,h3,rfl⟩:=h;exact ⟨F1,sc,h1.same λi hi=>hs i (.inl hi),h2.same (hs o (.inr (.inl rfl))),ar.aW h3 λb hb=>hs b (.inr (.inr hb)),rfl⟩
def WF.ext{F:Nat->Prop}{w w':World}{o t:Nat}{ag limit:Int}{T:Tb}{ch:List Cg}(h:WF F w o t ag limit T ch)(x:Ext w w'):WF F w' o t ag limit T ch:=h.same λ_ hi=>x.heap (h.lt hi)
def WF.aW{F G:Nat->Prop}{w w':World}{o t:Nat}{ag limit:Int}{T:Tb}{ch:List Cg}(h:WF F w o t ag limit T ch)(hm:Mod G w w')(hn:∀i,F i->¬G i):WF F w' o t ag limit T ch:=h.same λi hi=>hm.same i (h.lt hi) (hn i hi)
def WF.dA{F:Nat->Prop}{w:World}{o t:Nat}{ag limit:Int}{T:Tb}{ch:List Cg}(h:WF F w o t ag limit T ch){j:Nat}{cs:LV}{τ:TypeId}(hr:Row w j cs τ)(hτ:Gq τ)(hw:τ≠sW)(hc:τ≠lI):¬F j:=by
 obtain ⟨F1,sc,h1,h2,h3,rfl⟩:=h;rintro (hi|rfl|hi)
 ·exact h1.dA hr hτ hi
 ·exact hr.ne h2 hw rfl
 ·obtain ⟨cs',hr'⟩:=aY h3 aA hi;exact hr.ne hr' hc rfl
def WF.len{F:Nat->Prop}{w:World}{o t:Nat}{ag limit:Int}{T:Tb}{ch:List Cg}(h:WF F w o t ag limit T ch):(T.2.length:Int)<=limit/\1<=limit/\limit<=16:=by obtain ⟨F1,sc,h1,h2,h3,rfl⟩:=h;exact h1.len
def WF.B3{F:Nat->Prop}{w:World}{o t:Nat}{ag limit:Int}{T:Tb}{ch:List Cg}(h:WF F w o t ag limit T ch):fV T.2:=by obtain ⟨F1,sc,h1,h2,h3,rfl⟩:=h;exact h1.B3
abbrev Gr(F:Nat->Prop)(w:World)(o t:Nat)(ag limit:Int)(T:Tb)(ch:List Cg)(w':World):Prop:=∃F',WF F' w' o t ag limit T ch/\aJ F F' w w'
def WF.table{F:Nat->Prop}{w:World}{o t:Nat}{ag limit:Int}{T:Tb}{ch:List Cg}(h:WF F w o t ag limit T ch):∃F1,TF F1 w t ag limit T/\(∀i,F1 i->F i)/\∀{w':World} {T':Tb},O8 F1 w t ag limit T' w'->Gr F w o t ag limit T' ch w':=by
 obtain ⟨F1,sc,h1,h2,h3,rfl⟩:=h;refine ⟨F1,h1,λi hi=> .inl hi,?_⟩;rintro w' T' ⟨F',h',ht⟩;have n2:=h1.dA h2 aA;have n3:∀b,sc.aZ=some b->¬F1 b:=λb hb=>by obtain ⟨cs',hr'⟩:=aY h3 aA hb;exact h1.dA hr' aA
 refine ⟨_,⟨F',sc,h',ht.mod.row h2 n2,ht.mod.gU h3 n3,rfl⟩,ht.mod.mono λi _ hi=> .inl hi,λi hi=> ?_⟩;rcases hi with hi|hi|hi
 ·exact (ht.sub i hi).imp .inl id
 ·exact .inl (.inr (.inl hi))
 ·exact .inl (.inr (.inr hi))
def KD(ag limit room:Int)(w:World):ae 39 #[ag,limit,room] w λe w'=>∃o t F,e=Value.pointer (aD o)/\WF F w' o t ag (min (max limit 1) 16) (Mh room,[]) []/\Ext w w'/\∀i,F i->w.heap.size<=i:=by
 apply X0.vc;refine (TA ag limit room w).mono ?_;rintro e w0 ⟨t,F1,rfl,h0,x0,f0⟩;refine ⟨_,rfl,λw2 e2=>⟨w0.heap.size,t,_,rfl,⟨F1,⟨none,0,0⟩,h0.ext (aQ e2),?_,ar.nil,rfl⟩,x0.br e2,λi hi=> ?_⟩⟩
 ·rw [e2];exact Row.new w0 [_,_] _
 ·rcases hi with hi|hi|hi
  ·exact f0 i hi
  ·have:=x0.size;omega
  ·cases hi
def kU{F:Nat->Prop}{w:World}{o t:Nat}{ag limit:Int}{T:Tb}{ch:List Cg}(h:WF F w o t ag limit T ch):ae 19 #[o] w λe w'=>e=Value.pointer (aD t)/\w'=w:=by obtain ⟨F1,sc,h1,h2,h3,rfl⟩:=h;apply zT.vc;exact ⟨_,h2.at 0 rfl,rfl,rfl⟩
def iH{F:Nat->Prop}{w:World}{o t:Nat}{ag limit:Int}{T:Tb}{ch:List Cg}(h:WF F w o t ag limit T ch):ae 27 #[o] w λe w'=>e=Value.func (.func 83) #[t] #[]/\w'=w:=by obtain ⟨F1,sc,h1,h2,h3,rfl⟩:=h;apply B4.vc;exact ⟨_,h2.at 0 rfl,rfl,rfl⟩
def wsC(l:List En)(ch:List Cg)(c:Ce)(b:Int):List Cg:=if (fb l c b).2=0/\gz l c≠b then ch++ [(c,b)] else ch
def ap3(a b c d:Int):One [Value.int .i64 a,b,c,d]:=by intro v hv;simp at hv;rcases hv with rfl|rfl|rfl|rfl<;>rfl
def X1{F:Nat->Prop}{w:World}{o t:Nat}{ag limit:Int}{T:Tb}{ch:List Cg}(h:WF F w o t ag limit T ch)(c:Ce)(hc:rT c)(b:Int)(hn:ch.length<=1000000):
  ae 161 #[o,eg c,.int .i64 b] w λe w'=>e=Value.int .i64 (fb T.2 c b).2/\Gr F w o t ag limit (T.1,(fb T.2 c b).1) (wsC T.2 ch c b) w':=by
 have hF:=λ{i}=>h.lt (i:=i)
 have hh:=h;obtain ⟨F1,sc,h1,h2,h3,rfl⟩:=h;apply Ev.vc;intro w0 e0;have z0:=fj e0;have x0:Ext w w0.drew:=(aQ e0).drew;have zd:=m7 w0;refine ⟨_,(h2.ext x0).at 0 rfl,(KE (h1.ext x0) c hc).mono ?_⟩;rintro e w2 ⟨rfl,x2⟩;have z2:=x2.size;have xh:=(x0.tr x2).drew;have zd2:=m7 w2;refine ⟨_,rfl,x2.heap aa,_,(h2.ext xh).at 0 rfl,(TB (h1.ext xh) c hc b).mono ?_⟩;rintro e w5 ⟨rfl,hT⟩;obtain ⟨F',hF',ht'⟩:=hT;have z5:=ht'.mod.size;have n2:=(h1.ext xh).dA (h2.ext xh) aA;have n3:∀b,sc.aZ=some b->¬F1 b:=λb hb=>by obtain ⟨cs',hr'⟩:=aY (h3.ext xh) aA hb;exact (h1.ext xh).dA hr' aA
 have h2':=ht'.mod.row (h2.ext xh) n2;have h3':ar 0 lI 4 w5 sc (ch.map cgv):=ht'.mod.gU (h3.ext xh) n3;have nb:¬F1 w:=λhf=>by have:=hF (.inl hf);omega
 have tt:aJ (λi=>F1 i\/i=o\/sc.aZ=some i) (λi=>F' i\/i=o\/sc.aZ=some i) w w5:=by
  refine (aJ.aC xh).trans ⟨ht'.mod.mono λi _ hi=> .inl hi,λi hi=> ?_⟩;rcases hi with hi|hi|hi
  ·exact (ht'.sub i hi).imp .inl id
  ·exact .inl (.inr (.inl hi))
  ·exact .inl (.inr (.inr hi))
 refine ⟨_,rfl,ht'.mod.same _ aa nb,Br.mk (λhb=>Br.mk (λj8=> ?_) (λj8=> ?_)) (λhb=> ?_)⟩
 ·simp only [beq_iff_eq] at hb;simp only [bne_iff_ne] at j8;have ec:wsC T.2 ch c b=ch++ [(c,b)]:=by unfold wsC;rw [if_pos ⟨hb,j8⟩]
  rw [ec];have h2d:=h2'.ext (Ext.dr w5);have uT:sc.n=ch.length:=by have:=(h3.rd (show 0<4 by decide)).n;rwa [aL] at this
  refine ⟨sc,h2d.at 1 rfl,λw8 e8=> ?_⟩;subst e8;obtain ⟨hp,bf⟩:=(h3'.ext (Ext.dr w5)).j9 (bytes:=32) (news:=cgv (c,b)) (.cells #[c.1,c.2.1,c.2.2,.int .i64 b] lI) (gV _) rfl (ap3 _ _ _ _) aa aa;refine ⟨hp,λs9 bo hr=> ?_⟩;obtain ⟨f1,aqP,aFe,xb,VK,iX⟩:=bf s9 bo hr;have zd5:=m7 w5;have hol:=h2.lt;have awH:∀b,sc.aZ=some b->b<w.heap.size:=λb hb=>(h3.own.lt hb).2
  have VL:Mod (λj=>sc.aZ=some j) w5 bo:=(Mod.aC (Ext.dr w5)).trans (Mod.yb xb VK);have no:¬sc.aZ=some o:=λe=>by obtain ⟨cs',hr'⟩:=aY h3 aA e;exact hr'.ne h2 aA rfl
  have aqQ:=VL.row h2' no;obtain ⟨p1,p2⟩:=aqQ.ic (j:=1) (v:=.slice s9.a s9.n s9.c) bg rfl;have XB:=VL.size;have pb:∀j:Nat,o<j->bk (af (aD o) 1)≠some j:=λj hj e=>by
   rw [cP] at e;have:o=j:=by simpa [bk] using e
   omega
  refine ⟨(VL.same w aa (λe=>by have:=awH _ e;omega)).trans ((Ext.al w5.drew _).heap (show w.heap.size<w5 by omega)).symm,f1,⟨rfl,p1⟩,pb _ aa,pb _ (show o<w5 by omega),λbw BG=>⟨rfl,?_⟩⟩;obtain ⟨q1,q2⟩:=p2 bw BG;have ho9:∀b,s9.aZ=some b->b≠o:=λb hb=>by obtain ⟨cs',hr'⟩:=aY aqP aA hb;exact hr'.ne aqQ aA
  have m11:Mod (λj=>j=o\/sc.aZ=some j) w5 bw:=(VL.mono λi _ hi=> .inr hi).trans (q2.mono λi _ hi=> .inl hi);have awI:TF F' bw t ag limit (T.1,(fb T.2 c b).1):=hF'.aW m11 λi hi e=>by
   rcases e with e|e
   ·exact hF'.dA h2' aA (e▸hi)
   ·obtain ⟨cs',hr'⟩:=aY h3' aA e;exact hF'.dA hr' aA hi
  refine ⟨_,⟨F',s9,awI,q1,?_,rfl⟩,tt.trans ⟨m11.mono λi _ hi=> .inr hi,λi hi=> ?_⟩⟩
  ·rw [bJ];exact q2.gU aqP ho9
  ·rcases hi with hi|hi|hi
   ·exact .inl (.inl hi)
   ·exact .inl (.inr (.inl hi))
   ·rcases iX with e|e
    ·exact .inl (.inr (.inr (by rw [<-e];exact hi)))
    ·rw [e] at hi;cases hi;exact .inr (show w5.heap.size<=w5.heap.size+1 by omega)
 ·simp only [bne_eq_false_iff_eq] at j8;have ec:wsC T.2 ch c b=ch:=by unfold wsC;rw [if_neg λh=>h.2 j8]
  rw [ec];exact ⟨rfl,_,⟨F',sc,hF',h2',h3',rfl⟩,tt⟩
 ·simp only [beq_eq_false_iff_ne] at hb;have ec:wsC T.2 ch c b=ch:=by unfold wsC;rw [if_neg λh=>hb h.1]
  rw [ec];exact ⟨rfl,_,⟨F',sc,hF',h2',h3',rfl⟩,tt⟩
def agW(l:List En)(ch:List Cg)(c:Ce)(b:Int):(wsC l ch c b).length<=ch.length+1:=by
 unfold wsC;split
 ·simp
 ·omega
abbrev rQ(q:Po):LV:=[.int .i64 q.1,.int .i64 q.2]
def sX(p:Po):List Po:=[p,(p.1-1,p.2),(p.1+1,p.2),(p.1,p.2-1),(p.1,p.2+1)]
def Mi(p:Po)(hp:X2 p)(w:World):ae 150 #[pv p] w λe w'=>e=Value.agg #[p.1,p.2,.int .i64 (p.1-1),p.2,.int .i64 (p.1+1),p.2,p.1,.int .i64 (p.2-1),p.1,.int .i64 (p.2+1)]/\Ext w w':=by
 apply O9.vc;obtain ⟨⟨p1,p2⟩,p3,p4⟩:=hp;have q1:aw (p.1-1)=p.1-1:=wI;have q2:aw (p.1+1)=p.1+1:=wI;have q3:aw (p.2-1)=p.2-1:=wI;have q4:aw (p.2+1)=p.2+1:=wI;rw [q1,q2,q3,q4];intro w0 e0 w1 e1;have z0:=fj e0;have x1:Ext w w1:=(aQ e0).br e1;have hr:Row w1 w0 [ai,ai,ai,ai,ai,ai,ai,ai,ai,ai] 227:=Row.nw e1;refine ⟨⟨rfl,hr.wr bg⟩,λe=>by
  have:w0.heap.size=w.heap.size:=by simpa [bk] using e
  omega,λw2 e2=> ?_⟩
 have h1:One [Value.int .i64 p.1,p.2,.int .i64 (p.1-1),p.2,.int .i64 (p.1+1),p.2,p.1,.int .i64 (p.2-1),p.1,.int .i64 (p.2+1)]:=by intro v hv;simp only [cp,lJ,or_false] at hv;rcases hv with rfl|rfl|rfl|rfl|rfl|rfl|rfl|rfl|rfl|rfl<;>rfl
 rw [hr.bF bg h1] at e2;have oS:Row w2 w0 [p.1,p.2,.int .i64 (p.1-1),p.2,.int .i64 (p.1+1),p.2,p.1,.int .i64 (p.2-1),p.1,.int .i64 (p.2+1)] 227:=hr.st e2;exact ⟨_,_,_,_,_,_,_,_,_,_,oS.bI (λj hj=>by rw [eC]),rfl,x1.ab e2 aa⟩
def Jp(s:Sl)(ps:List Po)(p:Po)(w:World)(hs:RdK w s 2 (ps.map rQ))(hn:ps.length<=1000):
  ae 213 #[s,pv p] w λe w'=>(∃r:Int,e=r/\(0<=r ↔ p ∈ ps))/\Ext w w':=by
 apply B5.vc;have uT:=hs.n;rw [aL] at uT;intro w0 e0;have x0:=aQ e0;refine ⟨λn x w'=>∃j:Nat,x=j/\j+n=ps.length/\Ext w w'/\p ∉ ps.take j,⟨ps.length,rfl,0,rfl,aa,x0,bg⟩,?_⟩;rintro n us x w5 ⟨j,rfl,hj,x5,hnp⟩;apply Br.mk<;>intro hb
 ·replace hb:=nh hb;obtain ⟨y,hy⟩:=bq (l:=ps) (i:=j) aa;have jj:=hs.ext (x5.tr (Ext.dr _));refine ⟨hs.jd (i:=(j:Int)) aA aa hb,y.1,y.2,jj.bI (i:=j) (r:=rQ y) (by rw [aS,hy];rfl),Br.mk (λh1=> ?_) (λh1=> ?_)⟩
  ·simp only [fk,beq_iff_eq] at h1;have:p=y:=Prod.ext h1.1 h1.2;exact ⟨⟨_,rfl,λ_=>by rw [this];exact aO hy,λ_=>by omega⟩,x5.tr (Ext.dr _)⟩
  ·have wk:=ov (j:=j);refine ⟨n-1,aa,rfl,j+1,wk,aa,x5.tr (Ext.dr _),?_⟩;rw [dy,hy];intro hm;rcases bX.1 hm with hm|hm
   ·exact hnp hm
   ·simp only [Option.toList_some,fT] at hm;subst hm;simp at h1
 ·replace hb:=nC hb;rw [fl aa] at hnp;exact ⟨⟨-1,rfl,λh=>by omega,λh=>absurd h hnp⟩,x5⟩
def B6(s:Sl)(ps:List Po)(p:Po)(w:World)(hs:RdK w s 2 (ps.map rQ))(hn:ps.length<=1000):
  ae 151 #[s,pv p] w λe w'=>e=Value.bool (decide (p ∈ ps))/\Ext w w':=by
 apply wP.vc;intro w0 e0;have z0:=fj e0;have x0:=aQ e0;refine (Jp s ps p w0 (hs.ext x0) hn).mono ?_;rintro e w1 ⟨⟨r,rfl,hr⟩,x1⟩;refine ⟨r,rfl,x1.heap aa,?_,x0.tr x1⟩;have:decide (r>=0)=decide (p ∈ ps):=by rw [decide_eq_decide];exact hr
 rw [this]
def agX{c:Ce}(hc: -1000000000<=c.1/\c.1<=1000000000)(hz: -1000000000<=c.2.2/\c.2.2<=1000000000):X2 (pos c):=by unfold X2 pos;simp only;omega
def Gs(l:List En)(c:Ce):Bool:=(sX (pos c)).all λq=>decide (q ∈ l.map (·.1))
def vb{F:Nat->Prop}{w:World}{o t:Nat}{ag limit:Int}{T:Tb}{ch:List Cg}(h:WF F w o t ag limit T ch)(c:Ce)(hc:rT c)(hp:X2 (pos c)):
  ae 100 #[o,eg c] w λe w'=>e=Value.bool (Gs T.2 c)/\Ext w w':=by
 obtain ⟨F1,sc,hT,hR,hO,rfl⟩:=h;apply zU.vc;have dp:=hT.len;intro w1 e1;have z1:=fj e1;have x1:=aQ e1;refine ⟨_,(hR.ext x1).at 0 rfl,(Du (hT.ext x1)).mono ?_⟩;rintro e w2 ⟨s',rfl,ho,x2⟩;have z2:=x2.size;have jj:RdK w2 s' 2 ((T.2.map (·.1)).map rQ):=by rw [pM];exact ho.rd (show 0<2 by decide)
 refine ⟨s',rfl,x2.heap aa,(qJ c hc w2).mono ?_⟩;rintro e w4 ⟨rfl,x4⟩;have z4:=x4.size;refine ⟨_,_,rfl,x4.heap aa,(Mi (pos c) hp w4).mono ?_⟩;rintro e w7 ⟨rfl,x7⟩;have z7:=x7.size;have dH:=x1.tr (x2.tr (x4.tr x7));unfold Gs;generalize pos c=p at*;have hpl:(T.2.map (·.1)).length<=1000:=by rw [aL];omega
 generalize T.2.map (·.1)=ps at*;refine ⟨_,_,_,_,_,_,_,_,_,_,rfl,x7.heap aa,λn x w'=>∃j:Nat,x=j/\j+n=5/\Ext w7 w'/\∀q ∈(sX p).take j,q ∈ ps,⟨5,rfl,0,rfl,rfl,Ext.cG _,bg⟩,?_⟩;rintro n us x cZ ⟨j,rfl,hj,eZ,m4⟩;have z25:=eZ.size;apply Br.mk<;>intro hb
 ·replace hb:=nh hb;have hex:∃q:Po,(([p.1,p.2,.int .i64 (p.1-1),p.2,.int .i64 (p.1+1),p.2,p.1,.int .i64 (p.2-1),p.1,.int .i64 (p.2+1)]:LV).drop (((j:Nat):Int).toNat*2)).take 2=[.int .i64 q.1,.int .i64 q.2]/\(sX p)[j]? =some q:=by
   have:j=0\/j=1\/j=2\/j=3\/j=4:=by omega
   rcases this with rfl|rfl|rfl|rfl|rfl
   ·exact ⟨p,rfl,rfl⟩
   ·exact ⟨(p.1-1,p.2),rfl,rfl⟩
   ·exact ⟨(p.1+1,p.2),rfl,rfl⟩
   ·exact ⟨(p.1,p.2-1),rfl,rfl⟩
   ·exact ⟨(p.1,p.2+1),rfl,rfl⟩
  obtain ⟨q,hq1,XC⟩:=hex;refine ⟨⟨aa,aa⟩,q.1,q.2,hq1,λeG Se gR XD=> ?_⟩;have nu:Ext cZ gR:=(aQ Se).ab XD (ak _);have z30:gR.heap.size=cZ.heap.size+1:=by rw [XD,setRow_size,Se];simp
  have xx:Ext w2 gR:=x4.tr (x7.tr (eZ.tr nu));refine (B6 s' ps q gR (jj.ext xx) hpl).mono ?_;rintro e gS ⟨rfl,lp⟩;have wk:=ov (j:=j);refine ⟨_,rfl,lp.heap aa,lp.heap aa,Br.mk (λh1=> ?_) (λh1=> ?_)⟩
  ·refine ⟨?_,dH.tr ((eZ.tr nu).tr lp)⟩;have hnq:q ∉ ps:=by simpa using h1
   have:((sX p).all λq=>decide (q ∈ ps))=false:=by rw [List.all_eq_false];exact ⟨q,aO XC,by simpa using hnq⟩
   rw [this]
  ·have hyq:q ∈ ps:=by simpa using h1
   refine ⟨n-1,aa,rfl,j+1,wk,aa,(eZ.tr nu).tr lp,?_⟩;rw [dy,XC];intro y hy;rcases bX.1 hy with hy|hy
   ·exact m4 y hy
   ·simp only [Option.toList_some,fT] at hy;subst hy;exact hyq
 ·replace hb:=nC hb;refine ⟨?_,dH.tr eZ⟩;rw [fl (show (sX p).length<=j by unfold sX;simp;omega)] at m4;have:((sX p).all λq=>decide (q ∈ ps))=true:=by rw [Gt];exact λq hq=>by simpa using m4 q hq
  rw [this]
section
variable {N F F':Nat->Prop} {w w' v v':World} {s1 s2 s3 s4:Sl} {T T':Tb} {ch ch':List Cg} {ag cap limit:Int} {o t a b m n k:Nat}
def vG(h:WF F w o t ag limit T ch)(hW:T.1.l.length<=1000000)(p:Po):
  ae 20 #[t,pv p] w λe w'=>e=Value.int .i64 (yh ag limit T.1 T.2 p).2/\Gr F w o t ag limit (yh ag limit T.1 T.2 p).1 ch w':=by
 obtain ⟨F1,hT,-,bf⟩:=h.table;refine (QI hT hW p).mono ?_;rintro e w' ⟨rfl,hr⟩;exact ⟨rfl,bf hr⟩
def xM(h:WF F w o t ag limit T ch)(hW:T.1.l.length<=1000000)(p:Po):
  ae 21 #[t,pv p] w λe w'=>e=Value.int .i64 (iF T.1 T.2 p).2/\Gr F w o t ag limit (iF T.1 T.2 p).1 ch w':=by
 obtain ⟨F1,hT,-,bf⟩:=h.table;refine (JP hT hW p).mono ?_;rintro e w' ⟨rfl,hr⟩;exact ⟨rfl,bf hr⟩
def Zq(h:WF F w o t ag limit T ch)(c:Ce)(hc:rT c):
  ae 83 #[t,eg c] w λe w'=>e=Value.int .i64 (gz T.2 c)/\Ext w w':=by
 obtain ⟨F1,hT,-⟩:=h.table;exact KE hT c hc
def WF.aqk{F:Nat->Prop}{w:World}{T:Tb}{ch:List Cg}{ag limit:Int}{o t:Nat}(h:WF F w o t ag limit T ch){w':World}(hk:∀i,F i->w'.heap[i]? =w.heap[i]?)(c:Ce)(hc:rT c):
  bB Tryz.prog (.func (.func 83) #[t] #[]) [eg c] w' λe w''=>e=Value.int .i64 (gz T.2 c)/\Ext w' w'':=
 cH (by kernel_rfl) rfl (Zq (h.same hk) c hc)
end
def Lo.wv{w:World}{g:Nat}{cs:LV}{τ:TypeId}(h:Row w g cs τ):ah w (aD g) 0 cs:=h.bI (λj hj=>by rw [eC])
end Go.Proofs.YtkkkfkopcfdmaaaGreatDoor
