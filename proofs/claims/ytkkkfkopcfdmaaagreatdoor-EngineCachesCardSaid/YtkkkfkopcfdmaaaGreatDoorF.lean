import Derived.Test.YtkkkfkopcfdmaaaGreatDoorD
import Derived.Test.YtkkkfkopcfdmaaaGreatDoorC
import Derived.Laws.IdiomRangeMap
import Derived.LoopTactic
import Derived.Test.YtkkkfkopcfdmaaaGreatDoorE
set_option linter.all false
namespace Go.Proofs.YtkkkfkopcfdmaaaGreatDoor
open Go Go.Vc Go.RowKit Go.Proofs Go.cZ Go.aT Go.Code
def LW(v:pr)(w:World):ah 321 #[.int .u16 (cI v)] w λe w'=>e=Value.int .u16 (cI (Ve v))/\w'=w:=by
 apply Pe.vc;have e1:mY (cI v*2 ^(min (1:Int).toNat 16))=cI (v<<<1):=Vf v 1;have e2:oG .u16 (cI v) 32768=cI (v &&& 0x8000#16):=ajB v 0x8000#16;have e3:lk .u16 (cI (v<<<1)) 4129=cI ((v<<<1) ^^^ 0x1021#16):=GO _ 0x1021#16;apply Br.mk<;>intro h
 ·rw [e2] at h;have hm:v.msb=true:=by
   cases q:v.msb with
   |true=>rfl
   |false=>rw [(Vg v).2 q] at h;simp at h
  rw [e1,e3];unfold Ve;rw [if_pos hm];exact ⟨rfl,rfl⟩
 ·rw [e2] at h;have hm:v.msb=false:=(Vg v).1 (by simpa using h);rw [e1];unfold Ve;rw [hm];exact ⟨rfl,rfl⟩
abbrev PF:TypeId:=358
abbrev tA2:TypeId:=321
def itS:Nat->pr->pr
 |0,v=>v
 |k+1,v=>Ve (itS k v)
def Ip(w:World):ah 310 #[] w λe w'=>e=Value.agg tS.toArray/\Ext w w':=by
 apply Xv.vc;intro w0 e0 w1 e1;have z0:=eR e0;have x1:Ext w w1:=(aQ e0).bF e1;have ha:Row w1 w (tT 0) PF:=(by rw [e0];exact Row.new w (tT 0) _:Row w0 w (tT 0) PF).ext (aQ e1);have hb:Row w1 w0 (tT 0) PF:=by rw [e1];exact Row.new w0 (tT 0) _
 refine ⟨λn i wr=>∃k:Nat,i=k/\k+n=16/\Row wr w (tT 0) PF/\Row wr w0 (tT k) PF/\Ext w wr,⟨16,0,rfl,rfl,ha,hb,x1⟩,?_⟩;rintro n3 us4 x5 w6 ⟨k,rfl,hk,ha6,hb6,x6⟩;apply Br.mk<;>intro hc
 ·replace hc:=nA hc;have ek:mY (mY (k:Int)*2 ^(min (12:Int).toNat 16))=cI (Ay (k:Int)<<<12):=by
   have:mY (k:Int)=cI (Ay (k:Int)):=by rw [Tc ab,wrap_u16];omega
   rw [this];exact Vf _ 12
  rw [ek];refine ⟨λn j c wr=>∃m:Nat,j=m/\m+n=4/\c=cI (itS m (Ay (k:Int)<<<12))/\wr=w6,⟨4,0,rfl,rfl,rfl,rfl⟩,?_⟩;rintro n9 Zc bu bV bK ⟨m,rfl,hm,rfl,rfl⟩;apply Br.mk<;>intro oC
  ·replace oC:=nA oC;have wk:=nS (j:=m);refine (LW _ _).mono ?_;rintro e dB ⟨rfl,hw⟩;exact ⟨_,rfl,n9-1,by omega,m+1,wk,by omega,rfl,hw⟩
  ·replace oC:=nN oC;have hm4:m=4:=by omega
   subst hm4;have wk:=nS (j:=k);have dN:(tT k).length=16:=by unfold tT;rw [dv,dK,Gt];simp [tS];omega
   obtain ⟨p1,p2⟩:=hb6.kl (j:=k) (v:=tv k) ab rfl;have hj:((k:Int)).toNat*1=k:=by omega
   rw [hj];refine ⟨by omega,by omega,⟨rfl,p1⟩,λcL AZ=> ?_⟩;obtain ⟨q1,q2⟩:=p2 cL AZ;rw [show aS (tT k) k [tv k]=(tT k).set k (tv k) from rfl,ajC ab] at q1;exact ⟨n3-1,by omega,k+1,wk,by omega,q2.row ha6 (by have:=x1.size;omega),q1,q2.ext x6 (by intro i hi;omega)⟩
 ·replace hc:=nN hc;have:k=16:=by omega
  subst this;have hl:af w6 (aB w0.heap.size) 0 tS:=hb6.bY λj hj=>by rw [eK];rfl
  have hs:=ha6.aL (o:=0) (vs:=tS) aF (by intro v hv;simp only [tS,cB,iJ,or_false] at hv;rcases hv with rfl|rfl|rfl|rfl|rfl|rfl|rfl|rfl|rfl|rfl|rfl|rfl|rfl|rfl|rfl|rfl<;>rfl);refine ⟨_,_,_,_,_,_,_,_,_,_,_,_,_,_,_,_,hl,⟨rfl,ha6.wr (o:=0) (n:=16) aF⟩,λjf e34=> ?_⟩;have ao9:jf=w6.setRow w tS.toArray:=e34.trans hs;have hr:Row jf w tS PF:=by rw [ao9];exact ha6.set tS
  have L8:af jf (aB w.heap.size) 0 tS:=hr.bY λj hj=>by rw [eK]
  exact ⟨_,_,_,_,_,_,_,_,_,_,_,_,_,_,_,_,L8,rfl,x6.ag ao9 (aC _)⟩
def LX(v:pr)(s:Sl)(b:List Int)(w:World)(hs:ij w s b)(hb:nC b)(hn:(b.length:Int)<=1099511627776):ah 297 #[.int .u16 (cI v),s] w λe w'=>e=Value.int .u16 (cI (Td v b))/\Ext w w':=by
 apply (Gw.vc (a1:=s));refine (Ip w).mono ?_;rintro e w0 ⟨rfl,x0⟩;refine ⟨_,_,_,_,_,_,_,_,_,_,_,_,_,_,_,_,rfl,λcL AZ=> ?_⟩;have adH:Row cL w0 (tT 0) PF:=by rw [AZ];exact Row.new w0 (tT 0) _
 have hS:=adH.aL (o:=0) (vs:=tS) aF (by intro v hv;simp only [tS,cB,iJ,or_false] at hv;rcases hv with rfl|rfl|rfl|rfl|rfl|rfl|rfl|rfl|rfl|rfl|rfl|rfl|rfl|rfl|rfl|rfl<;>rfl);refine ⟨⟨rfl,adH.wr (o:=0) (n:=16) aF⟩,λdH YX=> ?_⟩;have apa:dH=cL.setRow w0 tS.toArray:=YX.trans hS;have hr:Row dH w0 tS PF:=by rw [apa];exact adH.set tS
 have cA:Ext w dH:=x0.tr ((aQ AZ).ag apa (aC _));have apb:=hs.ext cA;have u9:=hs.n;rw [aN] at u9;refine ⟨λn i c wr=>∃k:Nat,i=k/\k+n=b.length/\c=cI (Td v (b.take k))/\wr=dH,⟨b.length,0,rfl,by omega,rfl,rfl⟩,?_⟩;rintro n us i c wr ⟨k,rfl,hk,rfl,rfl⟩;apply Br.mk<;>intro hc
 ·replace hc:=nA hc;obtain ⟨x,hx⟩:=bE (l:=b) (i:=k) ab;have hxb:=hb x (aX hx);have hm:(b.map yv)[k]? =some [.int .u8 x]:=by rw [aR,hx];rfl
  have kf:=apb.at hm (j:=0) rfl;rw [ik] at kf;have wk:=nS (j:=k);have ht:b.take (k+1)=b.take k++ [x]:=by rw [dR,hx];rfl
  generalize hu:Td v (b.take k)=u;refine ⟨apb.im aF ab hc,x,kf,?_⟩;have m1:(min (12:Int).toNat 16)=12:=rfl;have m2:(min (4:Int).toNat 8)=4:=rfl;have m3:(min (4:Int).toNat 16)=4:=rfl;rw [m1,m2,m3,abK,ar9 hxb,GO,asa hxb,Vf];have l1:=abL (abM u) (ahC hxb);have g1:=ahD l1;have c1:=De ((u>>>12) ^^^(Ay x>>>4));have c1':cI ((u>>>12) ^^^(Ay x>>>4))<16:=by unfold cI;omega
  refine ⟨by omega,by omega,_,(by rw [bh,eK,hr.ld,zh];exact g1),?_⟩;rw [GO,abK,GO,Vf];have l2:=abL (abM ((u<<<4) ^^^ Kc (((u>>>12) ^^^(Ay x>>>4))<<<12))) (ahE (Ay x));have g2:=ahD l2;have c2:=De ((((u<<<4) ^^^ Kc (((u>>>12) ^^^(Ay x>>>4))<<<12))>>>12) ^^^(Ay x &&& 15#16));have c2':cI ((((u<<<4) ^^^ Kc (((u>>>12) ^^^(Ay x>>>4))<<<12))>>>12) ^^^(Ay x &&& 15#16))<16:=by unfold cI;omega
  refine ⟨by omega,by omega,_,(by rw [bh,eK,hr.ld,zh];exact g2),n-1,by omega,k+1,wk,by omega,?_,rfl⟩;rw [GO,XS u hxb,ht,PG,hu];rfl
 ·replace hc:=nN hc;rw [fN ab];exact ⟨rfl,cA⟩
def Fb(s:Sl)(b:List Int)(w:World)(hs:ij w s b)(hb:nC b)(hn:(b.length:Int)<=1099511627776):ah 269 #[s] w λe w'=>e=Value.int .u16 (cI (xz b))/\Ext w w':=by
 apply (ajo.vc (a0:=s));have st:ah 296 #[] w λe w'=>e=Value.int .u16 (cI 0xFFFF#16)/\w'=w:=by apply Xu.vc;exact ⟨rfl,rfl⟩
 refine st.mono ?_;rintro e w0 ⟨rfl,rfl⟩;refine ⟨_,rfl,(LX _ s b w0 hs hb hn).mono ?_⟩;rintro e w2 ⟨rfl,x2⟩;exact ⟨_,rfl,rfl,x2⟩
def KV(s:Sl)(b:List Int)(w:World)(hs:ij w s b)(hb:nC b)(hn:(b.length:Int)<=1099511627776):ah 281 #[s] w λe w'=>e=Value.bool (decide (2<=b.length/\xz b=0#16))/\Ext w w':=by
 apply (abk.vc (a0:=s));have u9:=hs.n;rw [aN] at u9;apply Br.mk<;>intro h
 ·simp only [ge_iff_le,cN] at h;refine (Fb s b w hs hb hn).mono ?_;rintro e w0 ⟨rfl,x0⟩;refine ⟨_,rfl,?_,x0⟩;have:(cI (xz b)==0)=decide (2<=b.length/\xz b=0#16):=by
   rw [Bool.eq_iff_iff];simp only [beq_iff_eq,cN];constructor
   ·intro q;exact ⟨by omega,Te.1 (q.trans rfl)⟩
   ·rintro ⟨-,q⟩;rw [q];rfl
  rw [this]
 ·simp only [ge_iff_le,fm] at h;rw [decide_eq_false ab];exact ⟨rfl,Ext.cM _⟩
def H4(v:pr)(w:World):ah 270 #[.int .u16 (cI v)] w λe w'=>e=Value.agg #[.int .u8 (cI v / 256),.int .u8 (cI v % 256)]/\Ext w w':=by
 apply DT.vc;intro w0 e0;have hb:=De v;have h0:Row w0 w [.int .u8 0,.int .u8 0] tA2:=Row.nw e0;have e1:fi ((cI v).fdiv (2 ^(min (8:Int).toNat 16)))=cI v / 256:=by show fi ((cI v).fdiv (2 ^ 8))=_;rw [abK,Tf,wrap_u8];simp only [show (2:Int) ^ 8=256 from rfl];omega
 have e2:fi (cI v)=cI v % 256:=wrap_u8 _;rw [e1,e2];have hS:=h0.aL (o:=0) (vs:=[.int .u8 (cI v / 256),.int .u8 (cI v % 256)]) (aC 2) (Bc _ _ _ _);refine ⟨⟨rfl,h0.wr (o:=0) (n:=2) aF⟩,λw1 e1=> ?_⟩;have e1':w1=w0.setRow w #[.int .u8 (cI v / 256),.int .u8 (cI v % 256)]:=e1.trans hS;have h1:Row w1 w [.int .u8 (cI v / 256),.int .u8 (cI v % 256)] tA2:=by rw [e1'];exact h0.set _
 exact ⟨_,_,h1.bY (λj hj=>by rw [eK]),rfl,(aQ e0).ag e1' (aC _)⟩
abbrev tSB:TypeId:=62
def ij.n{w:World}{s:Sl}{b:List Int}(h:ij w s b):s.n=b.length:=by have:=RdK.n h;rwa [aN] at this
def Uz{b:List Int}:∀r ∈ b.map yv,r.length=1:=λr hr=>by obtain ⟨x,_,rfl⟩:=aW.1 hr;rfl
def pY(s:Sl)(b:List Int)(w:World)(hs:ij w s b)(hn:b.length<=1099511627776):
  ah 230 #[s] w λe w'=>∃s':Sl,e=s'/\m4 w w' s' b/\Ext w w':=by
 have u9:=ij.n hs;apply (zc.vc (a0:=s));apply Br.mk<;>intro h
 ·have:b=[]:=by
   rcases E4 b.length with h0|h0
   ·exact CI h0
   ·have:=RdK.isSome hs ab (i:=0) (by simpa using h0)
    cases hsa:s.a<;>simp [hsa] at h this
  subst this;exact ⟨⟨none,0,0⟩,rfl,aE.nil,Ext.cM w⟩
 ·rintro w0 rfl;have xa:=Ext.al w (.cells #[] iA);have hz:aE w iA 1 (w.alloc (.cells #[] iA)) ⟨aB w.heap.size,0,0⟩ []:=aE.jI (aC _) (Row.new w [] iA) cp (aC _) rfl (λr hr=>by cases hr);have hb:=hz.H2 (bytes:=1) (more:=b.map yv) xa.size Uz (Z8 _) (by simp only [aN];omega) (by simp only [aN];omega);rw [aN,<-u9] at hb;obtain ⟨hp,hr⟩:=hb;refine ⟨(b.map yv).flatten,RdK.flat (hs.ext xa) ab,hp,λs2 w3 bk=> ?_⟩;obtain ⟨ho,Vt,xb,_,_⟩:=hr s2 w3 bk;exact ⟨pZ bk (by rw [bJ Uz,aN,u9]) cp,s2,rfl,ho,xa.trans xb⟩
def KS(n:Nat)(w:World)(hn:n<=1099511627776):Calls Tryz.prog 271 #[.slice none 0 0,.int .i64 n] w λe w'=>∃s':Sl,e=.returned (.slice s'.a s'.n s'.c)/\m4 w.heap.size w' s' []/\Ext w w':=by
 apply (Bb.vc (a0:=⟨none,0,0⟩));have e1:IntKind.wrap .i64 ((n:Int)-IntKind.wrap .i64 (((0:Nat):Int)-((0:Nat):Int)))=n:=by rw [aK (n:=((0:Nat):Int)-((0:Nat):Int)) (by unfold bN;omega),wI];omega
 refine Br.mk (λh=>by simp at h;omega) (λ_=> ?_);rw [e1];refine Br.mk (λh=> ?_) (λh=> ?_)
 ·have h0:aE w.heap.size iA 1 w ⟨none,0,0⟩ []:=aE.nil;have hb:=h0.H2 (bytes:=1) (more:=(List.replicate n (yv 0))) (Nat.le_refl _) (λr hr=>by rw [(List.mem_replicate.1 hr).2];rfl) (λr hr=>by rw [(List.mem_replicate.1 hr).2];exact uu _ _) (by simp only [List.length_replicate];omega) (by simp only [List.length_replicate];omega);rw [List.length_replicate] at hb;obtain ⟨hp,hr⟩:=hb;refine ⟨by omega,by omega,⟨by omega,wI,by omega⟩,hp,λs0 w1 bk=> ?_⟩;obtain ⟨ho,Vt,xb,_,_⟩:=hr s0 w1 bk;have hle:=aE.le ho;refine ⟨by omega,by omega,⟨s0.a,0,s0.c⟩,by rw [eF];rfl,?_,xb⟩;rcases ho.form (by decide) with ⟨rfl,-⟩|⟨g,cs,ha,hg,dy,hc,hnn,ht,hl⟩
  ·exact aE.nil
  ·rw [ha];exact aE.jI hg dy hc (Nat.zero_le _) (by simp) (λr hr=>by cases hr)
 ·exact ⟨⟨none,0,0⟩,rfl,aE.nil,Ext.cM _⟩
abbrev tU(xs:List (Sl × List Int)):List Int:=xs.flatMap (·.2)
def Jp(xs:List (Sl × List Int)){k:Nat}{x:Sl × List Int}(h:xs[k]? =some x):tU (xs.take (k+1))=tU (xs.take k)++x.2:=by rw [dR,h];simp [tU]
def UA(xs:List (Sl × List Int))(k:Nat):(tU (xs.take k)).length<=(tU xs).length:=by have e:=congrArg (λl=>(tU l).length) (qZ k xs);simp only [List.flatMap_append,dv] at e;have h1:(tU (xs.take k)).length=(List.flatMap (λx=>x.2) (xs.take k)).length:=rfl;have h2:(tU xs).length=(List.flatMap (λx=>x.2) xs).length:=rfl;omega
def CJ(s:Sl)(xs:List (Sl × List Int))(w:World)(hs:RdK w s 1 (xs.map λx=> [.slice x.1.a x.1.n x.1.c]))(hr:∀x ∈ xs,ij w x.1 x.2)(hl:xs.length<=1000)(hn:(tU xs).length<=1099511627776):
  Calls Tryz.prog 226 #[.slice s.a s.n s.c] w λe w'=>∃s':Sl,e=.returned (.slice s'.a s'.n s'.c)/\m4 w.heap.size w' s' (tU xs)/\Ext w w':=by
 apply (xy.vc (a0:=s));have u9:=hs.n;rw [List.length_map] at u9;have row:∀{k:Nat} {w':World},Ext w w'->k<xs.length->∃x,xs[k]? =some x/\eA s.a (k:Int) s.n/\ld w' (ae s.a (((k:Nat):Int).toNat*1))=some (.slice x.1.a x.1.n x.1.c)/\ij w' x.1 x.2:=λ{k w'} x' hk=>by
  obtain ⟨x,hx⟩:=bE (l:=xs) (i:=k) hk;have hs':=hs.ext x';have hm:(xs.map λx=> [Value.slice x.1.a x.1.n x.1.c])[k]? =some [.slice x.1.a x.1.n x.1.c]:=by rw [List.getElem?_map,hx];rfl
  have kf:=hs'.at hm (j:=0) rfl;rw [ik] at kf;exact ⟨x,hx,hs'.im (by decide) (by omega) (by omega),kf,(hr x (List.mem_of_getElem? hx)).ext x'⟩
 refine ⟨λn i z wr=>∃k:Nat,i=k/\k+n=xs.length/\z=((tU (xs.take k)).length:Nat)/\wr=w,⟨xs.length,0,rfl,by omega,rfl,rfl⟩,?_⟩;rintro n us i z wr ⟨k,rfl,hk,rfl,rfl⟩;refine Br.mk (λhc=> ?_) (λhc=> ?_)
 ·replace hc:=nA hc;obtain ⟨x,hx,pc,kf,hrx⟩:=row (k:=k) (Ext.cM _) (by omega);have h1:=UA xs (k+1);have ht:=Jp xs hx;have hxn:=ij.n hrx;have wz:IntKind.wrap .i64 (((tU (xs.take k)).length:Int)+((x.1.n:Nat):Int))=((tU (xs.take (k+1))).length:Nat):=by rw [ht,List.length_append];rw [ht,List.length_append] at h1;rw [wI];omega
  have wk:IntKind.wrap .i64 ((k:Int)+1)=((k+1:Nat):Int):=by rw [wI];omega
  refine ⟨pc,x.1,kf,?_⟩;rw [wz];refine Br.mk (λh=>by simp at h;omega) (λ_=>⟨n-1,by omega,k+1,wk,by omega,rfl,rfl⟩)
 ·replace hc:=nN hc;rw [List.take_of_length_le (by omega)];refine (KS _ _ hn).mono ?_;rintro e w8 ⟨s9,rfl,ho,x8⟩;refine ⟨s9,rfl,λn i s TM=>∃k:Nat,i=k/\k+n=xs.length/\m4 wr.heap.size TM s (tU (xs.take k))/\Ext wr TM,⟨xs.length,0,rfl,by omega,ho,x8⟩,?_⟩;rintro tG aj5 i s14 dB ⟨k2,rfl,Hh,YT,cw⟩;refine Br.mk (λoC=> ?_) (λoC=> ?_)
  ·replace oC:=nA oC;obtain ⟨x,hx,pc,kf,hrx⟩:=row (k:=k2) cw (by omega);have h1:=UA xs (k2+1);have ht:=Jp xs hx;have hxn:=ij.n hrx;have hon:=ij.n (m4.H3 YT);rw [ht,List.length_append] at h1;have wk:IntKind.wrap .i64 ((k2:Int)+1)=((k2+1:Nat):Int):=by rw [wI];omega
   have hb:=aE.H2 YT (bytes:=1) (more:=x.2.map yv) cw.size Uz (Z8 _) (by simp only [List.length_map];omega) (by simp only [List.length_map];omega);rw [List.length_map,<-hxn] at hb;obtain ⟨hp,bk⟩:=hb;refine ⟨pc,x.1,kf,(x.2.map yv).flatten,RdK.flat hrx (by omega),hp,λYU eW asB=> ?_⟩;obtain ⟨asC,_,xb,_,_⟩:=bk YU eW asB;refine ⟨tG-1,by omega,k2+1,wk,by omega,?_,cw.trans xb⟩;rw [ht];show aE _ _ _ _ _ _;rw [List.map_append];exact asC
  ·replace oC:=nN oC;rw [List.take_of_length_le (by omega)] at YT;exact ⟨s14,rfl,YT,cw⟩
def M1(s:Sl)(b:List Int)(w:World)(hs:ij w s b)(hb:nC b)(hn:b.length+2<=1099511627776):ah 225 #[s] w λe w'=>∃s':Sl,e=s'/\m4 w w' s' (CK b)/\Ext w w':=by
 apply (aeU.vc (a0:=s));refine (Fb s b w hs hb ab).mono ?_;rintro e w0 ⟨rfl,x0⟩;refine ⟨_,rfl,(H4 _ w0).mono ?_⟩;rintro e w2 ⟨rfl,x2⟩;refine ⟨_,_,rfl,λw5 e5=> ?_⟩;have h5:Row w5 w2 [.int .u8 0,.int .u8 0] tA2:=Row.nw e5;have hS:=h5.aL (o:=0) (vs:=[.int .u8 (cI (xz b) / 256),.int .u8 (cI (xz b) % 256)]) (aC 2) (Bc _ _ _ _);refine ⟨⟨rfl,h5.wr (o:=0) (n:=2) aF⟩,λw6 e6 w7 e7=> ?_⟩;have e6':w6=w5.setRow w2 #[.int .u8 (cI (xz b) / 256),.int .u8 (cI (xz b) % 256)]:=e6.trans hS;have h6:Row w6 w2 [.int .u8 (cI (xz b) / 256),.int .u8 (cI (xz b) % 256)] tA2:=by rw [e6'];exact h5.set _
 have fO:Ext w2 w6:=(aQ e5).ag e6' (aC _);have pd:=aQ e7;have x7:=x0.tr (x2.tr (fO.tr pd));have hc:ij w7 ⟨aB w2.heap.size,2,2⟩ (KT b):=by
  refine ⟨rfl,Uz,λi r hi j v hj=> ?_⟩;have h7:=h6.ext pd;rw [bh,eK,h7.ld]
  match i,hi with
  |0,hi=>cases hi;match j,hj with
   |0,hj=>cases hj;rfl
  |1,hi=>cases hi;match j,hj with
   |0,hj=>cases hj;rfl
  |i+2,hi=>simp [KT] at hi
 have hl:RdK w7 ⟨aB w6.heap.size,2,2⟩ 1 ([(s,b),(⟨aB w2.heap.size,2,2⟩,KT b)].map λx=> [.slice x.1.a x.1.n x.1.c]):=by
  have h7:Row w7 w6 [s,.slice (aB w2.heap.size) 2 2] tSB:=by rw [e7,eF];exact Row.new w6 [_,_] _
  refine ⟨rfl,λr hr=>by simp at hr;rcases hr with rfl|rfl<;>rfl,λi r hi j v hj=> ?_⟩;rw [bh,eK,h7.ld]
  match i,hi with
  |0,hi=>cases hi;match j,hj with
   |0,hj=>cases hj;rfl
  |1,hi=>cases hi;match j,hj with
   |0,hj=>cases hj;rfl
  |i+2,hi=>simp at hi
 have acC:tU [(s,b),(⟨aB w2.heap.size,2,2⟩,KT b)]=CK b:=by simp [tU,CK]
 refine (CJ ⟨aB w6.heap.size,2,2⟩ [(s,b),(⟨aB w2.heap.size,2,2⟩,KT b)] w7 hl (λx hx=>by
  simp at hx;rcases hx with rfl|rfl
  ·exact hs.ext x7
  ·exact hc) (show 2<=1000 by decide) (by rw [acC,Jq];exact hn)).mono ?_
 rintro e w8 ⟨s9,rfl,ho,x8⟩;rw [acC] at ho;exact ⟨s9,rfl,s9,rfl,aE.low ho x7.size,x7.tr x8⟩
def KU(s:Sl)(b:List Int)(w:World)(hs:ij w s b)(hb:nC b)(hc:s.n<=s.c)(hn:b.length<=1099511627776):ah 246 #[s] w λe w'=>∃s':Sl,e=Value.tuple #[s',.int .i64 (vP b).2]/\m4 w w' s' (vP b).1/\Ext w w':=by
 apply (Z9.vc (a0:=s));have u9:=ij.n hs;apply Br.mk<;>intro h
 ·replace h:=nA h;have e:vP b=([],3):=by unfold vP;rw [if_pos ab]
  rw [e];exact ⟨⟨none,0,0⟩,rfl,aE.nil,Ext.cM _⟩
 ·replace h:=nN h;refine (KV s b w hs hb ab).mono ?_;rintro e w0 ⟨rfl,x0⟩;refine ⟨_,rfl,Br.mk (λh2=> ?_) (λh2=> ?_)⟩
  ·have e:vP b=([],4):=by unfold vP;rw [if_neg ab,if_neg];intro q;rw [decide_eq_true ⟨by omega,q⟩] at h2;cases h2
   rw [e];exact ⟨⟨none,0,0⟩,rfl,aE.nil,x0⟩
  ·have q:xz b=0#16:=by simp at h2;exact h2.2
   have e:vP b=(b.take (b.length-2),0):=by unfold vP;rw [if_neg ab,if_pos q]
   have wk:ao (((s.n:Nat):Int)-2)=((b.length-2:Nat):Int):=by rw [wI];omega
   rw [wk,e];have og:ij w0 ⟨aJ s.a 0 s.c 1,b.length-2,s.c-0⟩ (b.take (b.length-2)):=by have:=(hs.ext x0).cut (m:=b.length-2) (c':=s.c) (c'':=s.c-0) (by rw [aN];omega);rw [<-List.map_take] at this;exact this
   refine ⟨by omega,by omega,(pY ⟨aJ s.a 0 s.c 1,b.length-2,s.c-0⟩ _ w0 og (by rw [dK];omega)).mono ?_⟩;rintro e w2 ⟨s3,rfl,ho,x2⟩;exact ⟨s3,rfl,s3,rfl,aE.low ho x0.size,x0.tr x2⟩
def asb(n:Int){k:Nat}(hk:k<=4):n.fdiv (2 ^(min ((8*(k:Int))).toNat 64))=n / 256 ^ k:=by
 have e:(2:Int) ^(min ((8*(k:Int))).toNat 64)=256 ^ k:=by
  rcases k with _|_|_|_|_|k
  ·rfl
  ·rfl
  ·rfl
  ·rfl
  ·rfl
  ·omega
 rw [e,tq];exact Int.le_of_lt (Int.pow_pos aF)
def PN(B:Nat)(s:Sl)(b:List Int)(n:Int)(m:Nat)(hm:m<=4)(w:World)(hB:B<=w.heap.size)(ho:m4 B w s b)(hb:b.length<=1000):
  Calls Tryz.prog 224 #[.slice s.a s.n s.c,.int .i64 n,.int .i64 m] w λe w'=>∃s':Sl,e=.returned (.slice s'.a s'.n s'.c)/\m4 B w' s' (b++be m n)/\Below B w w':=by
 apply (Xt.vc (a0:=s));have w1:IntKind.wrap .i64 ((m:Int)-1)=(m:Int)-1:=wI;refine ⟨λl x o wr=>∃k:Nat,l=k/\x=(k:Int)-1/\k<=m/\∃pre,pre++be k n=be m n/\m4 B wr o (b++pre)/\Below B w wr,⟨m,m,rfl,w1,Nat.le_refl _,[],rfl,by rw [List.append_nil];exact ho,Below.refl _ _⟩,?_⟩;rintro k us x s4 w5 ⟨k',rfl,rfl,hk,pre,hp,ho5,x5⟩;have dN:=congrArg List.length hp;rw [List.length_append,GR,GR] at dN;have hon:=ij.n (m4.H3 ho5);rw [List.length_append] at hon;refine Br.mk (λhc=> ?_) (λhc=> ?_)
 ·simp only [ge_iff_le,decide_eq_true_eq] at hc;obtain ⟨j,rfl⟩:∃j,k=j+1:=⟨k-1,by omega⟩;have e8:IntKind.wrap .i64 (8*(((j+1:Nat):Int)-1))=8*(j:Int):=by rw [wI];omega
  rw [e8,asb n (by omega),wrap_u8];refine bB.2 ⟨Eh.2 (by omega),λw7 e7=> ?_⟩;subst e7;obtain ⟨alk,bk⟩:=aE.jk ho5 (bytes:=1) (news:=yv (n / 256 ^ j % 256)) (.cells #[.int .u8 (n / 256 ^ j % 256)] iA) (by have:=x5.size;omega) rfl (uu _ _) (by omega) (by omega);refine ⟨alk,λs8 w9 hr=> ?_⟩;obtain ⟨f1,ho9,hn9,xb,-,-⟩:=bk s8 w9 hr;refine ⟨f1,j,by omega,j,rfl,by rw [wI];omega,by omega,pre++ [n / 256 ^ j % 256],?_,?_,x5.trans xb⟩
  ·rw [<-hp,List.append_assoc];rfl
  ·rw [<-List.append_assoc];show aE _ _ _ _ _ _;rw [List.map_append];exact ho9
 ·simp only [ge_iff_le,decide_eq_false_iff_not] at hc;have:k=0:=by omega
  subst this;have hp':pre=be m n:=by simpa [be] using hp
  rw [hp'] at ho5;exact ⟨s4,rfl,ho5,x5⟩
def Kf(s:Sl)(b:List Int)(w:World)(hs:ij w s b)(hb:nC b)(hn:b.length<=4):ah 247 #[s] w λe w'=>e=Value.int .i64 (gF b)/\w'=w:=by
 apply (SX.vc (a0:=s));have u9:=ij.n hs;refine ⟨λl i n wr=>∃k:Nat,i=k/\k+l=b.length/\n=gF (b.take k)/\wr=w,⟨b.length,0,rfl,by omega,rfl,rfl⟩,?_⟩;rintro l us i n wr ⟨k,rfl,hk,rfl,rfl⟩;apply Br.mk<;>intro hc
 ·replace hc:=nA hc;obtain ⟨x,hx⟩:=bE (l:=b) (i:=k) ab;have hxb:=hb x (aX hx);have hm:(b.map yv)[k]? =some [.int .u8 x]:=by rw [aR,hx];rfl
  have kf:=hs.at hm (j:=0) rfl;rw [ik] at kf;have wk:=nS (j:=k);have hsm:=Tq hb (k:=k) ab;have ht:b.take (k+1)=b.take k++ [x]:=by rw [dR,hx];rfl
  refine ⟨RdK.im hs aF ab hc,x,kf,l-1,by omega,k+1,wk,by omega,?_,rfl⟩;have e1:ao (gF (b.take k)*2 ^(min (8:Int).toNat 64))=gF (b.take k)*256:=by show ao (gF (b.take k)*256)=_;exact wI
  have e2:ao x=x:=wI;rw [e1,e2,abS ab hxb,ht,PO]
 ·replace hc:=nN hc;rw [fN ab];exact ⟨rfl,rfl⟩
def PQ(v:Int)(s:Sl)(b:List Int)(w:World)(hs:ij w s b)(hb:nC b)(hn:b.length<=1099511627776):
  Calls Tryz.prog 163 #[.int .i64 v,.slice s.a s.n s.c] w λe w'=>∃s':Sl,e=.returned (.tuple #[.slice s'.a s'.n s'.c,.int .i64 (Ek v b).2])/\m4 w.heap.size w' s' (Ek v b).1/\Ext w w':=by
 apply (Pd.vc (a1:=s));have u9:=ij.n hs;have no:(v<1\/v>1073741824\/(b.length:Int)>65536)->∃s':Sl,Ending.returned (.tuple #[.slice none 0 0,.int .i64 1])=.returned (.tuple #[.slice s'.a s'.n s'.c,.int .i64 (Ek v b).2])/\m4 w.heap.size w s' (Ek v b).1/\Ext w w:=λh=>by
  have e:Ek v b=([],1):=by unfold Ek;rw [if_pos h]
  rw [e];exact ⟨⟨none,0,0⟩,rfl,aE.nil,Ext.cM _⟩
 refine Br.mk (λh=> ?_) (λh1=>Br.mk (λh=> ?_) (λh2=>Br.mk (λh=> ?_) (λh3=> ?_)))
 ·simp only [decide_eq_true_eq] at h;exact no (.inl h)
 ·simp only [gt_iff_lt,decide_eq_true_eq] at h;exact no (.inr (.inl h))
 ·simp only [gt_iff_lt,decide_eq_true_eq] at h;exact no (.inr (.inr (by omega)))
 ·simp only [gt_iff_lt,decide_eq_false_iff_not] at h1 h2 h3;have e:Ek v b=(CK (mX v b),0):=by unfold Ek;rw [if_neg (by omega)]
  rw [e];have p4:=PN w.heap.size ⟨none,0,0⟩ [] v 4 (by decide) w (Nat.le_refl _) aE.nil (by simp);refine p4.mono ?_;rintro e w0 ⟨s1,rfl,o1,x0⟩;have p3:=PN w.heap.size s1 ([]++be 4 v) ((s.n:Nat):Int) 3 (by decide) w0 x0.size o1 (by simp [GR]);refine ⟨s1,rfl,p3.mono ?_⟩;rintro e w2 ⟨s3,rfl,o3,x2⟩;refine ⟨s3,rfl,λw4 e4=> ?_⟩;have AI:Ext w w2:=x0.trans x2;have eU:Ext w2 w4:=(Ext.cM _).bF e4;have x4:=AI.tr eU;have r4:Row w4 w2.heap.size [.slice s3.a s3.n s3.c,.slice s.a s.n s.c] tSB:=by rw [e4];exact Row.new w2 [_,_] _
  have hl:RdK w4 ⟨some ⟨w2.heap.size,0,none⟩,2,2⟩ 1 ([(s3,[]++be 4 v++be 3 ((s.n:Nat):Int)),(s,b)].map λx=> [.slice x.1.a x.1.n x.1.c]):=by
   refine ⟨rfl,λr hr=>by simp at hr;rcases hr with rfl|rfl<;>rfl,λi r hi j v hj=> ?_⟩;rw [bh,Nat.zero_add,r4.ld]
   match i,hi with
   |0,hi=>cases hi;match j,hj with
    |0,hj=>cases hj;rfl
   |1,hi=>cases hi;match j,hj with
    |0,hj=>cases hj;rfl
   |i+2,hi=>simp at hi
  have acC:tU [(s3,[]++be 4 v++be 3 ((s.n:Nat):Int)),(s,b)]=mX v b:=by simp [tU,mX,u9]
  have hrl:=PR v b;refine (CJ ⟨some ⟨w2.heap.size,0,none⟩,2,2⟩ [(s3,[]++be 4 v++be 3 ((s.n:Nat):Int)),(s,b)] w4 hl (λx hx=>by
   simp only [List.mem_cons,List.not_mem_nil,or_false] at hx;rcases hx with rfl|rfl
   ·exact RdK.ext (m4.H3 o3) eU
   ·exact hs.ext x4) (show 2<=1000 by decide) (by rw [acC];omega)).mono ?_
  rintro e w5 ⟨s6,rfl,o6,x5⟩;rw [acC] at o6;refine ⟨s6,rfl,(M1 s6 (mX v b) w5 (m4.H3 o6) (Vl hb) (by omega)).mono ?_⟩;rintro e w7 ⟨s8,rfl,o8,x7⟩;have pI:=x4.tr x5;exact ⟨s8,rfl,s8,rfl,aE.low o8 pI.size,pI.tr x7⟩
def abT{b:List Int}(h:nC b):nC (vP b).1:=by
 unfold vP;split
 ·intro c hc;cases hc
 ·split
  ·exact λc hc=>h c (qd hc)
  ·intro c hc;cases hc
def abU(b:List Int):(vP b).1.length<=b.length:=by
 unfold vP;split
 ·simp
 ·split
  ·simp only [dK];omega
  ·simp
def ajF{b:List Int}(h:nC b):nC (ur b).2.1:=by
 unfold ur;split
 ·intro c hc;cases hc
 ·split
  ·intro c hc;cases hc
  ·split
   ·intro c hc;cases hc
   ·exact λc hc=>abT h c (zg hc)
def ajG(b:List Int):(ur b).2.1.length<=b.length:=by
 have:=abU b;unfold ur;split
 ·simp
 ·split
  ·simp
  ·split
   ·simp
   ·simp only [Af];omega
def Tr(s:Sl)(b:List Int)(w:World)(hs:ij w s b)(hb:nC b)(hc:s.n<=s.c)(hn:b.length<=1099511627776):
  ah 183 #[s] w λe w'=>∃s':Sl,e=Value.tuple #[.int .i64 (ur b).1,s',.int .i64 (ur b).2.2]/\ij w' s' (ur b).2.1/\s'.n<=s'.c/\(∀g,s'.bf=some g->w.heap.size<=g)/\Ext w w':=by
 apply (R6.vc (a0:=s));refine (KU s b w hs hb hc hn).mono ?_;rintro e w0 ⟨s1,rfl,o1,x0⟩;have hi:=abT hb;have hle:=abU b;have nil:ij w0 ⟨none,0,0⟩ []:=m4.H3 (aE.nil (B:=0));have h1:ur b=if (vP b).2≠0 then (0,[],(vP b).2) else if (vP b).1.length<7 then (0,[],3) else if gF ((vP b).1.take 4)<1\/gF ((vP b).1.take 4)>1073741824\/gF (((vP b).1.drop 4).take 3)>65536\/gF (((vP b).1.drop 4).take 3)≠(((vP b).1.drop 7).length:Int) then (0,[],2) else (gF ((vP b).1.take 4),(vP b).1.drop 7,0):=rfl;rw [h1];generalize vP b=t at*;obtain ⟨t1,t2⟩:=t;simp only at*;have hon:=ij.n (m4.H3 o1);have hoc:=aE.le o1;refine ⟨s1,_,rfl,Br.mk (λh=> ?_) (λh=> ?_)⟩
 ·have:t2≠0:=by simpa using h
  rw [if_pos this];exact ⟨⟨none,0,0⟩,rfl,nil,aC _,(λg hg=>by cases hg),x0⟩
 ·have:t2=0:=by simpa using h
  subst this;rw [if_neg cp];apply Br.mk<;>intro h
  ·replace h:=nA h;rw [if_pos ab];exact ⟨⟨none,0,0⟩,rfl,nil,aC _,(λg hg=>by cases hg),x0⟩
  ·replace h:=nN h;rw [if_neg ab];have rd:=RdK.ext (m4.H3 o1) (Ext.dr w0);have c4:ij w0.drew ⟨aJ s1.a 0 s1.c 1,4-0,s1.c-0⟩ (t1.take 4):=by have:=RdK.cut rd (m:=4) (c':=s1.c) (c'':=s1.c-0) (by rw [aN];omega);rw [<-List.map_take] at this;exact this
   have c3:ij w0.drew ⟨aJ s1.a 4 s1.c 1,7-4,s1.c-4⟩ ((t1.drop 4).take 3):=by have r4:=RdK.rest rd (l:=4) (m:=s1.c) (n':=t1.length-4) (c':=s1.c-4) (by rw [aN]) (by rw [aN];omega);have:=RdK.cut r4 (m:=3) (c':=7) (c'':=s1.c-4) (by rw [Af,aN];omega);rw [eF,<-List.map_drop,<-List.map_take] at this;exact this
   have c7:∀w',Ext w0 w'->ij w' ⟨aJ s1.a 7 s1.c 1,s1.n-7,s1.c-7⟩ (t1.drop 7):=λw' x'=>by have:=RdK.rest (RdK.ext (m4.H3 o1) x') (l:=7) (m:=s1.c) (n':=s1.n-7) (c':=s1.c-7) (by rw [aN];omega) (by rw [aN];omega);rw [<-List.map_drop] at this;exact this
   refine ⟨by omega,by omega,by omega,by omega,by omega,by omega,by omega,by omega,(Kf ⟨aJ s1.a 0 s1.c 1,4-0,s1.c-0⟩ _ w0.drew c4 (λc hc=>hi c (qd hc)) (by rw [dK];omega)).mono ?_⟩;rintro e w3 ⟨rfl,hw⟩;subst hw;refine ⟨_,rfl,(Kf ⟨aJ s1.a 4 s1.c 1,7-4,s1.c-4⟩ _ w0.drew c3 (λc hc=>hi c (zg (qd hc))) (by rw [dK];omega)).mono ?_⟩;rintro e w5 ⟨rfl,hw⟩;subst hw;have Ma:∀g,(Sl.mk (aJ s1.a 7 s1.c 1) (s1.n-7) (s1.c-7)).bf=some g->w.heap.size<=g:=λg hg=>by
    have:s1.bf=some g:=by
     unfold Sl.bf at hg ⊢;simp only [aJ] at hg;split at hg
     ·exact hg
     ·cases ha:s1.a with
      |none=>rw [ha] at hg;cases hg
      |some a=>
       rw [ha] at hg;simp only [nB,Option.some.injEq,Addr.add] at hg ⊢;rw [<-hg];split<;>rfl
    exact (o1.own.lt this).1
   have xd:=x0.tr (Ext.dr w0);have nil':ij w0.drew ⟨none,0,0⟩ []:=m4.H3 (aE.nil (B:=0));have Uk:(t1.drop 7).length=s1.n-7:=by rw [Af];omega
   have no:(gF (t1.take 4)<1\/gF (t1.take 4)>1073741824\/gF ((t1.drop 4).take 3)>65536\/gF ((t1.drop 4).take 3)≠((t1.drop 7).length:Int))->∃s':Sl,Ending.returned (.tuple #[aa,.slice none 0 0,(2:Int)])=Value.tuple #[.int .i64 (if gF (t1.take 4)<1\/gF (t1.take 4)>1073741824\/gF ((t1.drop 4).take 3)>65536\/gF ((t1.drop 4).take 3)≠((t1.drop 7).length:Int) then ((0:Int),([]:List Int),(2:Int)) else (gF (t1.take 4),t1.drop 7,0)).1,s',.int .i64 (if gF (t1.take 4)<1\/gF (t1.take 4)>1073741824\/gF ((t1.drop 4).take 3)>65536\/gF ((t1.drop 4).take 3)≠((t1.drop 7).length:Int) then ((0:Int),([]:List Int),(2:Int)) else (gF (t1.take 4),t1.drop 7,0)).2.2]/\
     ij w0.drew s' (if gF (t1.take 4)<1\/gF (t1.take 4)>1073741824\/gF ((t1.drop 4).take 3)>65536\/gF ((t1.drop 4).take 3)≠((t1.drop 7).length:Int) then ((0:Int),([]:List Int),(2:Int)) else (gF (t1.take 4),t1.drop 7,0)).2.1/\s'.n<=s'.c/\(∀g,s'.bf=some g->w.heap.size<=g)/\Ext w w0.drew:=λh=>by
    rw [if_pos h];exact ⟨⟨none,0,0⟩,rfl,nil',aC _,(λg hg=>by cases hg),xd⟩
   refine ⟨_,rfl,Br.mk (λh=>no ?_) (λq1=>Br.mk (λh=>no ?_) (λq2=>Br.mk (λh=>no ?_) (λq3=>Br.mk (λh=>no ?_) (λq4=> ?_))))⟩
   ·exact .inl (by simpa using h)
   ·exact .inr (.inl (by simpa using h))
   ·exact .inr (.inr (.inl (by simpa using h)))
   ·refine .inr (.inr (.inr ?_));rw [Uk];simpa using h
   ·simp only [gt_iff_lt,fm,bne_eq_false_iff_eq] at q1 q2 q3 q4;rw [if_neg (by
     rw [Uk];simp only [not_or];exact ⟨q1,q2,q3,by rw [q4];simp⟩)]
    exact ⟨_,rfl,c7 _ (Ext.dr w0),by simp only;omega,Ma,xd⟩
def W3{P:Program}{m since c0 clock r:Nat}{seen:Array Nat}{es:Array MapEntry}{w:World}{ty:TypeId}{v:Value}{w':World}(hr:w.heap[r]? =some (.mapIter (some m) since seen c0))(hm:w.heap[m]? =some (.map es clock))
  (h:(Instr.next (.pointer (aB r)) false ty).run P w=.ok v w'):w'.tape=w.tape:=by
 simp only [Instr.next,getObj,Sem.run_bind,Sem.run,hr,hm,Result.andThen] at h;split at h
 ·cases h
 ·generalize (Array.filter (λe=> !seen.contains e.born) es)=L at h;generalize (if (Array.filter (λx=>decide (x.born<since)) L).isEmpty=true then #[none] else #[])++Array.map some (Array.filter (λx=>decide (x.born<since)) L++Array.filter (λx=>decide (x.born>=since)) L)=C at h;have hch:∀j w1,(choose (Question.mapNext C.size)).run P w=.ok j w1->w1.tape=w.tape:=λj w1 h1=>by
   by_cases hf:C.size<=1
   ·simp only [choose,Sem.run,Question.forced,cN,hf,if_true] at h1
    cases h1;rfl
   ·simp only [choose,Sem.run,Question.forced,cN,hf,if_false,Question.cut] at h1
    cases h1;rfl
  rw [Sem.run_bind] at h
  cases hc:(choose (Question.mapNext C.size)).run P w with
  |ok j w1=>
   have ht:=hch j w1 hc;rw [hc] at h;simp only [Result.andThen] at h;split at h
   ·rw [Sem.run_bind] at h;simp only [setObj,Sem.run] at h;split at h
    all_goals first
     |(simp [Result.andThen] at h;done)
     |(simp only [Result.andThen,Sem.run_pure] at h;cases h;exact ht)
   ·rw [Sem.run_pure] at h;cases h;exact ht
   ·cases h
  |_=>rw [hc] at h;cases h
def nOf:Value->Int| .slice _ n _=>(n:Int)|_=>0
def eJ:List MapEntry->Array Nat->Int
 | [],_=>0
 |x::l,seen=>(if seen.contains x.born then nOf x.val else 0)+eJ l seen
def wU(seen:Array Nat)(b:Nat):∀(es:List MapEntry),b ∉ es.map (·.born)->eJ es (seen.push b)=eJ es seen
 | [],_=>rfl
 |x::l,h=>by
  have hx:(x.born==b)=false:=by
   cases hc:x.born==b with
   |false=>rfl
   |true=>exact absurd (cB.2 (Or.inl (beq_iff_eq.1 hc).symm)) h
  have ih:=wU seen b l (λe=>h (cB.2 (Or.inr e)));simp only [eJ,contains_push,hx,Bool.or_false,ih]
def zY(seen:Array Nat)(e:MapEntry)(hs:seen.contains e.born=false):∀(es:List MapEntry),(es.map (·.born)).Nodup->e ∈ es->eJ es (seen.push e.born)=eJ es seen+nOf e.val
 |x::l,hn,he=>by
  have hn':x.born ∉ l.map (·.born)/\(l.map (·.born)).Nodup:=oL.1 hn
  rcases cB.1 he with rfl|h
  ·rw [eJ,eJ,wU seen _ l hn'.1,contains_push,beq_self_eq_true,Bool.or_true,hs]
   simp;omega
  ·have hx:(x.born==e.born)=false:=by
    cases hc:x.born==e.born with
    |false=>rfl
    |true=>exact absurd (aW.2 ⟨e,h,(beq_iff_eq.1 hc).symm⟩) hn'.1
   rw [eJ,eJ,zY seen e hs l hn'.2 h,contains_push,hx,Bool.or_false];omega
def zZ:∀es:List MapEntry,eJ es #[]=0
 | []=>rfl
 |x::l=>by rw [eJ,zZ l];simp
def Sk{es:List MapEntry}(hv:∀x ∈ es,0<=nOf x.val)(seen:Array Nat):0<=eJ es seen/\eJ es seen<=(es.map λx=>nOf x.val).sum:=by
 induction es with
 |nil=>exact ⟨oP _,oP _⟩
 |cons x l ih=>
  have h1:=ih λy hy=>hv y (.tail _ hy)
  have h2:=hv x (.head _);rw [eJ,fu,List.sum_cons];split<;>omega
def Oq(es:Array MapEntry)(seen:Array Nat)(h:(leftOf es seen).size=0):eJ es.toList seen=(es.toList.map λx=>nOf x.val).sum:=by
 have rO:∀x ∈ es.toList,seen.contains x.born=true:=by
  intro x hx
  cases hc:seen.contains x.born with
  |true=>rfl
  |false=>
   have:x ∈ leftOf es seen:=Array.mem_filter.2 ⟨Array.mem_toList_iff.1 hx,by rw [hc];rfl⟩;have h0:=Array.eq_empty_of_size_eq_zero h;rw [h0] at this;simp at this
 generalize es.toList=l at rO
 induction l with
 |nil=>rfl
 |cons x l ih=>
  rw [eJ,rO x (.head _),fu,List.sum_cons,ih λy hy=>rO y (.tail _ hy)];simp
set_option maxRecDepth 1000000 in
def Sn(bm:Nat)(es:Array MapEntry)(clock:Nat)(w:World)(hb:w.heap[bm]? =some (.map es clock))(gM:MapKept.Stamped es clock)(hv:∀x ∈ es.toList,∃a n c,x.val=.slice a n c)(hs:(es.toList.map λx=>nOf x.val).sum<=1099511627776):
  ah 229 #[.map (some bm)] w λe w'=>e=Value.int .i64 ((es.toList.map λx=>nOf x.val).sum)/\∃(w1:World)(seen:Array Nat),w1.Alike w/\w1.tape=w.tape/\w'=w1.alloc (.mapIter (some bm) clock seen clock):=by
 have hrg:=run_range_map (P:=Tryz.prog) w 274 Ld 62 bm es clock Tryz.underlying274 hb;have hnn:∀x ∈ es.toList,0<=nOf x.val:=λx hx=>by obtain ⟨a,n,c,e⟩:=hv x hx;rw [e];exact Int.natCast_nonneg n
 go_enter Tryz.func229,Tryz.ntmps229;go_wp2;go_loopw [3] (λs w'=>∃(w1:World)(seen:Array Nat),w1.Alike w/\w1.tape=w.tape/\w'=w1.alloc (.mapIter (some bm) clock seen clock)/\s=.int .i64 (eJ es.toList seen)) (λ_ w'=>(leftOf es (w'.iterSeen w)).size)
 case atStart=>exact ⟨w,#[],⟨rfl,rfl,rfl⟩,rfl,rfl,by rw [zZ]⟩
 case round=>
  obtain ⟨w1,seen,hal,htp,rfl,rfl⟩:=hrel;have YQ:w1.heap.size=w.heap.size:=by rw [hal.1]
  have HJ:w1.heap[bm]? =some (.map es clock):=by rw [hal.1];exact hb
  have law:=run_next_map (P:=Tryz.prog) w1 0 bm clock clock seen es clock HJ gM.1 (aC _);rw [YQ] at law;rcases law with ⟨h0,uZ⟩|⟨e,he,w2,hal2,uZ⟩
  ·have hnx:∀ty,(Instr.next (.pointer (aB w.heap.size)) false ty).run Tryz.prog (w1.alloc (.mapIter (some bm) clock seen clock))=_:=λ_=>uZ
   go_wp2;go_ret;rw [Oq es seen h0];exact ⟨rfl,w1,seen,hal,htp,rfl⟩
  ·obtain ⟨va,vn,vc,hval⟩:=hv e (mem_left he).1;have hr1:(w1.alloc (.mapIter (some bm) clock seen clock)).heap[w.heap.size]? =some (.mapIter (some bm) clock seen clock):=by rw [<-YQ];exact heap_alloc_new w1 _
   have hm1:(w1.alloc (.mapIter (some bm) clock seen clock)).heap[bm]? =some (.map es clock):=by rw [heap_alloc_old w1 _ (by have:=(tg.1 HJ).1;omega)];exact HJ
   have htp2:w2.tape=w1.tape:=by have:=W3 hr1 hm1 uZ;exact this
   rw [hval] at uZ;have hnx:∀ty,(Instr.next (.pointer (aB w.heap.size)) false ty).run Tryz.prog (w1.alloc (.mapIter (some bm) clock seen clock))=_:=λ_=>uZ
   have hsz2:w2.heap.size=w.heap.size:=by rw [hal2.1,hal.1]
   have kE:w2.heap[bm]? =some (.map es clock):=by rw [hal2.1];exact HJ
   have hen:=run_entry_map (P:=Tryz.prog) w2 bm clock seen es clock e kE (mem_left he).1 gM.2.1;rw [hsz2,hval] at hen;go_wp2;go_roundw
   case rel=>
    refine ⟨w2,seen.push e.born,⟨hal2.1.trans hal.1,hal2.2.1.trans hal.2.1,hal2.2.2.trans hal.2.2⟩,htp2.trans htp,rfl,?_⟩;have hp:=zY seen e (mem_left he).2 es.toList gM.2.1 (mem_left he).1;have AK:=Sk hnn (seen.push e.born);rw [hval] at hp;have hp:eJ es.toList (seen.push e.born)=eJ es.toList seen+(vn:Int):=hp;have hw:Go.RowKit.wrap64 (eJ es.toList seen+(vn:Int))=eJ es.toList (seen.push e.born):=by unfold Go.RowKit.wrap64;omega
    exact congrArg _ hw
   case measure=>
    rw [<-hsz2,World.iterSeen_alloc,hsz2,<-YQ,World.iterSeen_alloc];exact left_shrinks es seen e he
abbrev tW:TypeId:=279
abbrev Bl:=Int × Sl × List Int
def qC(x:Bl):Value × Value:=(x.1,.slice x.2.1.a x.2.1.n x.2.1.c)
abbrev wV(x:Bl):LV:=[.int .i64 x.1,.slice x.2.1.a x.2.1.n x.2.1.c]
abbrev kb(x:Bl):qY:=(x.1,x.2.2)
structure Sp(w:World)(x:Bl):Prop where
 o:m4 0 w x.2.1 x.2.2
 b:nC x.2.2
structure Dm where
 r:Nat
 ls:Sl
 E:List Bl
 W:List Bl
structure DO(w:World)(d:Nat)(m:Dm)(D:Dk):Prop where
 rd:Row w d [D.room,D.qi,D.wait,.map (some m.r),.slice m.ls.a m.ls.n m.ls.c] uB
 rm:cD GI w (some m.r) (m.E.map qC)
 ol:aE 0 tW 2 w m.ls (m.W.map wV)
 sf:(m.E.map kb).Perm D.safe
 sl:m.W.map kb=D.l
 bl:∀x ∈ m.E++m.W,Sp w x
 ok:ya D
def dF(d:Nat)(m:Dm)(i:Nat):Prop:=i=d\/i=m.r\/m.ls.bf=some i\/∃x ∈ m.E++m.W,x.2.1.bf=some i
def DO.lt{w:World}{d:Nat}{m:Dm}{D:Dk}(h:DO w d m D){i:Nat}(hi:dF d m i):i<w:=by
 rcases hi with rfl|rfl|e|⟨x,hx,e⟩
 ·exact h.rd.lt
 ·exact h.rm.lt
 ·exact (h.ol.own.lt e).2
 ·exact ((h.bl x hx).o.own.lt e).2
def DO.same{w w':World}{d:Nat}{m:Dm}{D:Dk}(h:DO w d m D)(hs:∀i,dF d m i->w'.heap[i]? =w.heap[i]?):DO w' d m D:=
 ⟨h.rd.same (hs _ (.inl rfl)),h.rm.same (hs _ (.inr (.inl rfl))),aE.de h.ol λb hb=>hs b (.inr (.inr (.inl hb))),h.sf,h.sl,λx hx=>⟨aE.de (h.bl x hx).o λb hb=>hs b (.inr (.inr (.inr ⟨x,hx,hb⟩))),(h.bl x hx).b⟩,h.ok⟩
def DO.ext{w w':World}{d:Nat}{m:Dm}{D:Dk}(h:DO w d m D)(x:Ext w w'):DO w' d m D:=h.same λi hi=>x.heap (h.lt hi)
def DO.nW{w:World}{d:Nat}{m:Dm}{D:Dk}(h:DO w d m D):m.ls.n=m.W.length/\m.W.length=D.l.length:=by have h1:=(h.ol.rd aF).n;rw [aN] at h1;exact ⟨h1,by rw [<-h.sl,aN]⟩
def DO.kind{w:World}{d:Nat}{m:Dm}{D:Dk}(h:DO w d m D){i:Nat}(hi:dF d m i):cD GI w (some i) (m.E.map qC)\/∃cs τ,Row w i cs τ/\(τ=uB\/τ=tW\/τ=iA):=by
 rcases hi with e|e|e|⟨x,hx,e⟩
 ·exact .inr ⟨_,_,e▸h.rd,.inl rfl⟩
 ·exact .inl (e▸h.rm)
 ·obtain ⟨cs,hr⟩:=bc h.ol aF e;exact .inr ⟨_,_,hr,.inr (.inl rfl)⟩
 ·obtain ⟨cs,hr⟩:=bc (h.bl x hx).o aF e;exact .inr ⟨_,_,hr,.inr (.inr rfl)⟩
def aaZ(E:List Bl)(x:Bl):xQ (E.map qC) (x.1) (.slice x.2.1.a x.2.1.n x.2.1.c)=(KR (λy:Bl=>y.1) E x).map qC:=by
 have key:∀y:Bl,(qC y).1=.int .i64 x.1 ↔ y.1=x.1:=λy=>by unfold qC;simp
 have ex:(∃e ∈ E.map qC,e.1=Value.int .i64 x.1) ↔ ∃y ∈ E,y.1=x.1:=by
  constructor
  ·rintro ⟨e,he,q⟩;obtain ⟨y,hy,rfl⟩:=aW.1 he;exact ⟨y,hy,(key y).1 q⟩
  ·rintro ⟨y,hy,q⟩;exact ⟨_,aW.2 ⟨y,hy,rfl⟩,(key y).2 q⟩
 unfold xQ KR;by_cases h:∃y ∈ E,y.1=x.1
 ·rw [if_pos (ex.2 h),if_pos h,kS,kS];refine wG λy _=> ?_
  simp only [Function.comp];by_cases q:y.1=x.1
  ·rw [if_pos ((key y).2 q),if_pos q];unfold qC;rw [q]
  ·rw [if_neg λq'=>q ((key y).1 q'),if_neg q]
 ·rw [if_neg λq=>h (ex.1 q),if_neg h,bW];rfl
def Sq{l s:List qY}{k:Nat}{x:qY}(h:l[k]? =some x):(l.take (k+1)).foldl lay s=lay ((l.take k).foldl lay s) x:=by rw [dR,h,oT];rfl
set_option maxRecDepth 100000 in
def BH{w:World}{d:Nat}{m:Dm}{D:Dk}(h:DO w d m D)(hW:D.l.length<=1000000000):ah 228 #[d] w λe w'=>∃(r':Nat)(E':List Bl),e=Value.map (some r')/\cD GI w' (some r') (E'.map qC)/\(E'.map kb).Perm (vX D)/\(∀x ∈ E',x ∈ m.E++m.W)/\Ext w w'/\w.heap.size<=r':=by
 apply Ig.vc;obtain ⟨n1,n2⟩:=h.nW;refine ⟨some m.r,h.rd.at 3 rfl,(Gf h.rm).mono ?_⟩;rintro e w1 ⟨rfl,hm,x1⟩;refine ⟨_,rfl,m.ls,(h.ext x1).rd.at 4 rfl,λn i wr=>∃(k:Nat)(E':List Bl),i=k/\k+n=m.W.length/\cD GI wr (some w.heap.size) (E'.map qC)/\(E'.map kb).Perm ((D.l.take k).foldl lay D.safe)/\(∀x ∈ E',x ∈ m.E++m.W)/\Ext w wr,
  ⟨m.W.length,0,m.E,rfl,by omega,hm,h.sf,λx hx=>cV.2 (.inl hx),x1⟩,?_⟩
 rintro n us i wr ⟨k,E',rfl,hk,hm,hp,eX,xr⟩;apply Br.mk<;>intro hc
 ·replace hc:=nA hc;obtain ⟨x,hx⟩:=bE (l:=m.W) (i:=k) ab;have hr:=(h.ext xr).ol.rd (show 0<2 by decide);have Mz:(m.W.map wV)[k]? =some (wV x):=by rw [aR,hx];rfl
  have wk:=nS (j:=k);have hl:D.l[k]? =some (kb x):=by rw [<-h.sl,aR,hx];rfl
  refine ⟨RdK.im hr aF ab hc,x.1,x.2.1,RdK.bY hr Mz,λdj Q9 bK Hl=> ?_⟩;have cn:Ext wr bK:=(aQ Q9).ag Hl (aC _);refine ⟨GI,E'.map qC,Lu,rfl,hm.same (cn.heap hm.lt),⟨_,rfl⟩,λcF gJ aox=> ?_⟩;rw [aaZ] at aox;refine ⟨n-1,by omega,k+1,_,wk,by omega,aox,?_,λy hy=> ?_,(Mod.sI gJ).ext (xr.tr cn) λi hi=>by rw [hi];exact aC _⟩
  ·rw [Sq hl];exact Z2 (f:=λy:Bl=>y.1) (g:=λy:Bl=>y.2.2) x hp (uH _ h.ok.nd)
  ·rcases Z1 hy with rfl|hy
   ·exact cV.2 (.inr (aX hx))
   ·exact eX y hy
 ·replace hc:=nN hc;rw [fN ab] at hp;exact ⟨w.heap.size,E',rfl,hm,hp,eX,xr,aC _⟩
def aa0(E:List Bl):((oV (E.map kb):Nat):Int)=(E.map λx=>(x.2.2.length:Int)).sum:=by
 induction E with
 |nil=>rfl
 |cons x t ih=>
  rw [fu,rF,fu,List.sum_cons,<-ih];have:(kb x).2.length=x.2.2.length:=rfl;omega
def Ou{w:World}{r:Nat}{E:List Bl}(hm:cD GI w (some r) (E.map qC))(hb:∀x ∈ E,Sp w x)(hn:oV (E.map kb)<=1099511627776):ah 229 #[.map (some r)] w λe w'=>e=Value.int .i64 (oV (E.map kb):Nat)/\Ext w w':=by
 obtain ⟨es,clock,h1,h2,h3,h4,h5,h6⟩:=hm;have hk:es.toList.map (·.key)=(E.map qC).map (·.1):=by rw [<-h2,kS];rfl
 have hv:∀x ∈ es.toList,∃y ∈ E,x.val=.slice y.2.1.a y.2.1.n y.2.1.c:=λx hx=>by
  have:(x.key,x.val) ∈ E.map qC:=by rw [<-h2];exact aW.2 ⟨x,hx,rfl⟩
  obtain ⟨y,hy,e⟩:=aW.1 this;refine ⟨y,hy,?_⟩;have:=congrArg Prod.snd e;exact this.symm
 have hs:(es.toList.map λx=>nOf x.val).sum=(oV (E.map kb):Nat):=by
  rw [aa0];have e1:(es.toList.map λx=>nOf x.val)=(E.map qC).map λe=>nOf e.2:=by rw [<-h2,kS];rfl
  rw [e1,kS];congr 1;refine wG λx hx=> ?_
  show ((x.2.1.n:Nat):Int)=_;rw [ij.n (m4.H3 (hb x hx).o)]
 have gM:MapKept.Stamped es clock:=⟨h6,h5.imp λh=>Nat.ne_of_lt h,by rw [hk];exact h4⟩;refine (Sn r es clock w h1 gM (λx hx=>by obtain ⟨y,_,e⟩:=hv x hx;exact ⟨_,_,_,e⟩) (by rw [hs];omega)).mono ?_;rintro e w' ⟨rfl,w1,seen,⟨a1,a2,a3⟩,a4,rfl⟩;refine ⟨by rw [hs],?_⟩;have x1:Ext w w1:=⟨a2,a4,a3,by rw [a1];exact aC _,λi _=>by rw [a1]⟩;exact x1.bF rfl
def Ov{E:List Bl}{s:List qY}(hp:(E.map kb).Perm s)(hn:(iQ s).Nodup)(k:Int)(w:World)(hb:∀x ∈ E,Sp w x):∃(t:Sl)(b:Bool),Ie (E.map qC) (k) (.slice none 0 0) (t) b/\m4 0 w t ((pE s k).getD [])/\nC ((pE s k).getD [])/\b=(pE s k).isSome:=by
 have jh:(iQ (E.map kb)).Nodup:=(hp.map λx:qY=>x.1).nodup_iff.2 hn;rw [<-W9 hp jh]
 cases q:pE (E.map kb) k with
 |none=>
  refine ⟨⟨none,0,0⟩,false,.inr ⟨rfl,rfl,λe he=> ?_⟩,aE.nil,(λc hc=>by cases hc),rfl⟩;obtain ⟨x,hx,rfl⟩:=aW.1 he;have:=BI.1 q (kb x) (aW.2 ⟨x,hx,rfl⟩);unfold qC;simpa using this
 |some b=>
  obtain ⟨x,hx,e⟩:=aW.1 ((BJ jh).1 q);have e1:x.1=k:=congrArg Prod.fst e;have e2:x.2.2=b:=congrArg Prod.snd e;refine ⟨x.2.1,true,.inl ⟨rfl,aW.2 ⟨x,hx,by unfold qC;rw [e1]⟩⟩,?_,?_,rfl⟩
  ·have:=(hb x hx).o;rw [e2] at this;exact this
  ·have:=(hb x hx).b;rw [e2] at this;exact this
def UW{s:List qY}(hn:(iQ s).Nodup)(k:Int):((pE s k).getD []).length<=oV s:=by have:=C8 hn k;omega
def Xa{w:World}{d:Nat}{m:Dm}{D:Dk}(h:DO w d m D)(hW:D.l.length<=1000000000)(k:Int):ah 182 #[d,k] w λe w'=>∃(s:Sl)(b:Bool),e=Value.tuple #[s,b]/\m4 w w' s (getD D k)/\nC (getD D k)/\(getD D k).length<=1048576/\Ext w w':=by
 apply Ic.vc;refine (BH h hW).mono ?_;rintro e w0 ⟨r',E',rfl,hm,hp,eX,x0,hr⟩;have hb:∀x ∈ E',Sp w0 x:=λx hx=>(h.ext x0).bl x (eX x hx)
 obtain ⟨t,b,hl,ho,hby,-⟩:=Ov hp h.ok.now k w0 hb;have hle:=UW h.ok.now k;have Y0:=h.ok.ajb;have hrm:=h.ok.r;refine ⟨_,rfl,GI,_,Lu,hm,⟨k,rfl⟩,t,b,hl,(pY t _ w0 (m4.H3 ho) ab).mono ?_⟩;rintro e w6 ⟨s7,rfl,o7,x6⟩;refine ⟨s7,rfl,s7,b,rfl,aE.low o7 x0.size,hby,?_,x0.tr x6⟩;show ((pE (vX D) k).getD []).length<=_;omega
def DO.row{w w':World}{d:Nat}{m:Dm}{D:Dk}(h:DO w d m D){F W:Int}(hm:Mod (λi=>i=d) w w')(hr:Row w' d [D.room,F,W,.map (some m.r),.slice m.ls.a m.ls.n m.ls.c] uB)(bn:ya {D with qi:=F,wait:=W}):DO w' d m {D with qi:=F,wait:=W}:=by
 refine ⟨hr,hm.map h.rm λe=>h.rd.jK h.rm e.symm,hm.iq h.ol λb hb e=> ?_,h.sf,h.sl,λx hx=>⟨hm.iq (h.bl x hx).o λb hb e=> ?_,(h.bl x hx).b⟩,bn⟩
 ·obtain ⟨cs,hr'⟩:=bc h.ol aF hb;exact hr'.ne h.rd aF e
 ·obtain ⟨cs,hr'⟩:=bc (h.bl x hx).o aF hb;exact hr'.ne h.rd aF e
def C9{w:World}{d:Nat}{m:Dm}{D:Dk}(h:DO w d m D):ah 227 #[d] w λe w'=>e=Value.bool (km D).2/\DO w' d m (km D).1/\Mod (λi=>i=d) w w':=by
 apply BK.vc;have bn:=h.ok.ask;have hw:=h.ok.w;have hf:=h.ok.f;refine ⟨D.wait,h.rd.at 2 rfl,Br.mk (λhc=> ?_) (λhc=> ?_)⟩
 ·simp only [gt_iff_lt,cN] at hc;have e:km D=({D with wait:=0},false):=by unfold km;rw [if_pos hc]
  have e1:ao (D.wait-1)=0:=by rw [wI];omega
  rw [e] at bn ⊢;obtain ⟨p1,p2⟩:=h.rd.kl (j:=2) (v:=.int .i64 0) cp rfl;refine ⟨_,h.rd.at 2 rfl,?_⟩;rw [e1];refine ⟨⟨rfl,p1⟩,λw2 e2=>⟨rfl,?_⟩⟩;obtain ⟨q1,q2⟩:=p2 w2 e2;exact ⟨h.row q2 q1 bn,q2⟩
 ·simp only [gt_iff_lt,fm] at hc;refine ⟨D.qi,h.rd.at 1 rfl,Br.mk (λoC=> ?_) (λoC=> ?_)⟩
  ·simp only [gt_iff_lt,cN] at oC;have e:km D=({D with qi:=D.qi-1},true):=by unfold km;rw [if_neg hc,if_pos oC]
   rw [e] at bn ⊢;obtain ⟨p1,p2⟩:=h.rd.kl (j:=1) (v:=.int .i64 (ao (D.qi-1))) cp rfl;refine ⟨_,h.rd.at 1 rfl,⟨rfl,p1⟩,λw2 e2=>⟨by rw [decide_eq_true oC],?_⟩⟩;obtain ⟨q1,q2⟩:=p2 w2 e2;have e1:ao (D.qi-1)=D.qi-1:=wI;rw [e1] at q1;exact ⟨h.row q2 q1 bn,q2⟩
  ·simp only [gt_iff_lt,fm] at oC;have e:km D=(D,false):=by unfold km;rw [if_neg hc,if_neg oC]
   rw [e];exact ⟨by rw [decide_eq_false oC],h,Mod.refl _ _⟩
def FE{w:World}{p:Option Addr}{v:Value}(h:ld w p=some v):af w p 0 [v]:=by show ld w (ae p 0)=_;rw [ik];exact h
def aba(k:Int)(a:Option Addr)(n c:Nat):One [Value.int .i64 k,Value.slice a n c]:=by intro v hv;simp at hv;rcases hv with rfl|rfl<;>rfl
def UZ(D:Dk):vX (km D).1=vX D:=by obtain ⟨e1,e2,-⟩:=lI D;unfold vX;rw [e1,e2]
def DO.ahu{w:World}{d:Nat}{m:Dm}{D:Dk}(h:DO w d m D):∀b,m.ls.bf=some b->b≠d:=λb hb=>by
 obtain ⟨cs,hr⟩:=bc h.ol aF hb
 exact hr.ne h.rd aF
def aje(w:World)(d:Nat)(m:Dm)(D:Dk)(w':World):Prop:=∃m',DO w' d m' D/\Mod (λi=>i=d\/m.ls.bf=some i) w w'/\(∀i,dF d m' i->dF d m i\/w.heap.size<=i)/\∀i,m'.ls.bf=some i->m.ls.bf=some i\/w.heap.size<=i
set_option maxRecDepth 100000 in
def Xi{w:World}{d:Nat}{m:Dm}{D:Dk}(h:DO w d m D)(hW:D.l.length<=1000000000)(key:Int)(s:Sl)(b:List Int)(hs:ij w s b)(hb:nC b)(hn:b.length<=1099511627776)(hsd:s.bf≠some d):
  ah 164 #[d,key,s] w λe w'=>e=Value.int .i64 (nT D key b).2/\aje w d m (nT D key b).1 w':=by
 apply (Ik.vc (a2:=s));have u9:=ij.n hs;refine (C9 h).mono ?_;rintro e w0 ⟨rfl,h0,m0⟩;have z0:=m0.size;have m0':Mod (λi=>i=d\/m.ls.bf=some i) w w0:=m0.mono λi _ hi=> .inl hi
 refine ⟨_,rfl,Br.mk (λhf=> ?_) (λhf=> ?_)⟩
 ·have e:nT D key b=((km D).1,9):=by unfold nT;rw [if_pos hf]
  rw [e];exact ⟨rfl,m,h0,m0',λi hi=> .inl hi,λi hi=> .inl hi⟩
 obtain ⟨e1,e2,e3⟩:=lI D;have QY:ij w0 s b:=m0.rdK aF hs λ_ g hg e=>hsd (e▸hg)
 refine (BH h0 (by rw [e2];exact hW)).mono ?_;rintro e w2 ⟨r',E',rfl,Mz,hp,eX,x2,hr'⟩;rw [UZ] at hp;have hnd:=h.ok.now;have Y0:=h.ok.ajb;have hrm:=h.ok.r;have hbE:∀x ∈ E',Sp w2.drew x:=λx hx=>(h0.ext (x2.tr (Ext.dr w2))).bl x (eX x hx)
 have agX:cD GI w2.drew (some r') (E'.map qC):=Mz.same ((Ext.dr w2).heap Mz.lt);obtain ⟨t,tb,hl,hto,htb,-⟩:=Ov hp hnd key w2.drew hbE;have htn:=ij.n (m4.H3 hto);have hll:=abb hnd (key,b);have hlE:oV (E'.map kb)=oV (vX D):=JS hp;simp only at hll;have hg:((pE (vX D) key).getD []).length<=oV (vX D):=UW hnd key;rw [<-htn] at hll hg;have wl:ao (((oV (E'.map kb):Nat):Int)-((t.n:Nat):Int))=((oV (vX D):Nat):Int)-t.n:=by rw [hlE,wI]
 have wr:ao (D.room-((s.n:Nat):Int))=D.room-s.n:=wI;have hd0:∀{v:World},Ext w0 v->ld v (ae (aB d) 0)=some (.int .i64 D.room):=λx=>by have:=(h0.ext x).rd.at 0 rfl;rw [e3] at this;exact this
 have x2d:=x2.tr (Ext.dr w2);have hby:=Ou (w:=w2.drew) agX hbE (by rw [hlE];omega);refine ⟨_,rfl,D.room,hd0 x2d,?_,?_⟩
 ·refine hby.mono ?_;rintro e v ⟨rfl,xv⟩;have ZM:=x2d.tr xv;refine ⟨_,rfl,FE (hd0 ZM),GI,_,Lu,agX.same (xv.heap agX.lt),⟨key,rfl⟩,t,tb,hl,FE (hd0 ZM),?_⟩;rw [wl,wr];apply Br.mk<;>intro hc
  ·simp only [gt_iff_lt,cN] at hc;have e:nT D key b=((km D).1,8):=by unfold nT;rw [if_neg (by rw [hf];decide),if_pos ab]
   rw [e];have zv:=ZM.size;exact ⟨rfl,m,h0.ext ZM,m0'.trans (Mod.aH ZM),λi hi=> .inl hi,λi hi=> .inl hi⟩
  ·simp only [gt_iff_lt,fm] at hc;have e:nT D key b=({(km D).1 with l:=D.l++ [(key,b)]},0):=by unfold nT;rw [if_neg (by rw [hf];decide),if_neg ab]
   have bn:=h.ok.put key b;rw [e] at bn ⊢;have xvd:=ZM.tr (Ext.dr v);refine ⟨m.ls,(h0.ext xvd).rd.at 4 rfl,(pY s b v.drew (QY.ext xvd) hn).mono ?_⟩;rintro e dj ⟨yC,rfl,o13,bV⟩;have Hr:=xvd.tr bV;have wB:=h0.ext Hr;obtain ⟨n1,n2⟩:=wB.nW;rw [e2] at n2;refine ⟨yC,rfl,FE (wB.rd.at 4 rfl),λbO vH=> ?_⟩;subst vH;obtain ⟨Zm,bk⟩:=aE.jk wB.ol (bytes:=32) (news:=wV (key,yC,b)) (.cells #[key,yC] tW) (g7 _) rfl (aba _ _ _ _) ab ab;refine ⟨Zm,λlZ cF hr=> ?_⟩;obtain ⟨f1,adL,auz,xb,wg,iG⟩:=bk lZ cF hr;have m16:Mod (λj=>m.ls.bf=some j) dj cF:=Mod.xt xb wg;have Mp:=m16.row wB.rd λq=>wB.ahu _ q rfl
   obtain ⟨p1,p2⟩:=Mp.kl (j:=4) (v:=.slice lZ.a lZ.n lZ.c) cp rfl;have z12:=Hr.size;have Uk:=h.rd.lt;refine ⟨f1,⟨rfl,p1⟩,λq=> ?_,λcL AZ=>⟨rfl,{m with ls:=lZ,W:=m.W++ [(key,yC,b)]},?_,?_,?_,?_⟩⟩
   ·rw [c5] at q;have:d=dj.heap.size:=by simpa [bz] using q
    omega
   ·obtain ⟨q1,q2⟩:=p2 cL AZ;have mm:Mod (λj=>j=d\/m.ls.bf=some j) dj cL:=(m16.mono λi _ hi=> .inr hi).trans (q2.mono λi _ hi=> .inl hi);have off:∀{g:Nat} {cs:LV} {τ:TypeId},Row dj g cs τ->τ≠uB->τ≠tW->¬(g=d\/m.ls.bf=some g):=λhr' t1 t2 q=>by
     rcases q with q|q
     ·exact hr'.ne wB.rd t1 q
     ·obtain ⟨cs',qM⟩:=bc wB.ol aF q;exact hr'.ne qM t2 rfl
    refine ⟨q1,mm.map wB.rm λq=> ?_,?_,wB.sf,?_,λx hx=> ?_,bn⟩
    ·rcases q with q|q
     ·exact wB.rd.jK wB.rm q.symm
     ·obtain ⟨cs',qM⟩:=bc wB.ol aF q;exact qM.jK wB.rm rfl
    ·show aE 0 tW 2 cL lZ ((m.W++ [(key,yC,b)]).map wV);rw [bW];refine q2.iq adL λg hg=> ?_
     obtain ⟨cs',qM⟩:=bc adL aF hg;exact qM.ne Mp aF
    ·show (m.W++ [(key,yC,b)]).map kb=D.l++ [(key,b)];rw [bW,h.sl];rfl
    ·have hx:x ∈ m.E++m.W\/x=(key,yC,b):=by
      simp only [cV,cB,iJ,or_false] at hx ⊢;rcases hx with hx|hx|hx
      ·exact .inl (.inl hx)
      ·exact .inl (.inr hx)
      ·exact .inr hx
     have ZN:Sp dj x:=by
      rcases hx with hx|rfl
      ·exact wB.bl x hx
      ·exact ⟨aE.low o13 (g7 _),hb⟩
     refine ⟨mm.iq ZN.o λg hg=> ?_,ZN.b⟩;obtain ⟨cs',qM⟩:=bc ZN.o aF hg;exact off qM aF aF
   ·obtain ⟨q1,q2⟩:=p2 cL AZ;refine (m0'.trans (Mod.aH Hr)).trans ((m16.mono λi _ hi=> .inr hi).trans (q2.mono λi _ hi=> .inl hi))
   ·rintro i (q|q|q|⟨x,hx,q⟩)
    ·exact .inl (.inl q)
    ·exact .inl (.inr (.inl q))
    ·rcases iG with q'|q'
     ·exact .inl (.inr (.inr (.inl (by rw [<-q'];exact q))))
     ·rw [q'] at q;cases q;exact .inr ab
    ·simp only [cV,cB,iJ,or_false] at hx;rcases hx with hx|hx|rfl
     ·exact .inl (.inr (.inr (.inr ⟨x,cV.2 (.inl hx),q⟩)))
     ·exact .inl (.inr (.inr (.inr ⟨x,cV.2 (.inr hx),q⟩)))
     ·have:=(o13.own.lt q).1;have zv:=xvd.size;exact .inr ab
   ·intro i q;rcases iG with q'|q'
    ·exact .inl (by rw [<-q'];exact q)
    ·have q:lZ.bf=some i:=q;rw [q'] at q;cases q;exact .inr ab
 ·refine ⟨GI,_,Lu,agX,⟨key,rfl⟩,t,tb,hl,FE (hd0 x2d),hby.mono ?_⟩;rintro e v ⟨rfl,xv⟩;have ZM:=x2d.tr xv;refine ⟨_,rfl,FE (hd0 ZM),?_⟩;rw [wl,wr];apply Br.mk<;>intro hc
  ·simp only [gt_iff_lt,cN] at hc;have e:nT D key b=((km D).1,8):=by unfold nT;rw [if_neg (by rw [hf];decide),if_pos ab]
   rw [e];have zv:=ZM.size;exact ⟨rfl,m,h0.ext ZM,m0'.trans (Mod.aH ZM),λi hi=> .inl hi,λi hi=> .inl hi⟩
  ·simp only [gt_iff_lt,fm] at hc;have e:nT D key b=({(km D).1 with l:=D.l++ [(key,b)]},0):=by unfold nT;rw [if_neg (by rw [hf];decide),if_neg ab]
   have bn:=h.ok.put key b;rw [e] at bn ⊢;have xvd:=ZM.tr (Ext.dr v);refine ⟨m.ls,(h0.ext xvd).rd.at 4 rfl,(pY s b v.drew (QY.ext xvd) hn).mono ?_⟩;rintro e dj ⟨yC,rfl,o13,bV⟩;have Hr:=xvd.tr bV;have wB:=h0.ext Hr;obtain ⟨n1,n2⟩:=wB.nW;rw [e2] at n2;refine ⟨yC,rfl,FE (wB.rd.at 4 rfl),λbO vH=> ?_⟩;subst vH;obtain ⟨Zm,bk⟩:=aE.jk wB.ol (bytes:=32) (news:=wV (key,yC,b)) (.cells #[key,yC] tW) (g7 _) rfl (aba _ _ _ _) ab ab;refine ⟨Zm,λlZ cF hr=> ?_⟩;obtain ⟨f1,adL,auz,xb,wg,iG⟩:=bk lZ cF hr;have m16:Mod (λj=>m.ls.bf=some j) dj cF:=Mod.xt xb wg;have Mp:=m16.row wB.rd λq=>wB.ahu _ q rfl
   obtain ⟨p1,p2⟩:=Mp.kl (j:=4) (v:=.slice lZ.a lZ.n lZ.c) cp rfl;have z12:=Hr.size;have Uk:=h.rd.lt;refine ⟨f1,⟨rfl,p1⟩,λq=> ?_,λcL AZ=>⟨rfl,{m with ls:=lZ,W:=m.W++ [(key,yC,b)]},?_,?_,?_,?_⟩⟩
   ·rw [c5] at q;have:d=dj.heap.size:=by simpa [bz] using q
    omega
   ·obtain ⟨q1,q2⟩:=p2 cL AZ;have mm:Mod (λj=>j=d\/m.ls.bf=some j) dj cL:=(m16.mono λi _ hi=> .inr hi).trans (q2.mono λi _ hi=> .inl hi);have off:∀{g:Nat} {cs:LV} {τ:TypeId},Row dj g cs τ->τ≠uB->τ≠tW->¬(g=d\/m.ls.bf=some g):=λhr' t1 t2 q=>by
     rcases q with q|q
     ·exact hr'.ne wB.rd t1 q
     ·obtain ⟨cs',qM⟩:=bc wB.ol aF q;exact hr'.ne qM t2 rfl
    refine ⟨q1,mm.map wB.rm λq=> ?_,?_,wB.sf,?_,λx hx=> ?_,bn⟩
    ·rcases q with q|q
     ·exact wB.rd.jK wB.rm q.symm
     ·obtain ⟨cs',qM⟩:=bc wB.ol aF q;exact qM.jK wB.rm rfl
    ·show aE 0 tW 2 cL lZ ((m.W++ [(key,yC,b)]).map wV);rw [bW];refine q2.iq adL λg hg=> ?_
     obtain ⟨cs',qM⟩:=bc adL aF hg;exact qM.ne Mp aF
    ·show (m.W++ [(key,yC,b)]).map kb=D.l++ [(key,b)];rw [bW,h.sl];rfl
    ·have hx:x ∈ m.E++m.W\/x=(key,yC,b):=by
      simp only [cV,cB,iJ,or_false] at hx ⊢;rcases hx with hx|hx|hx
      ·exact .inl (.inl hx)
      ·exact .inl (.inr hx)
      ·exact .inr hx
     have ZN:Sp dj x:=by
      rcases hx with hx|rfl
      ·exact wB.bl x hx
      ·exact ⟨aE.low o13 (g7 _),hb⟩
     refine ⟨mm.iq ZN.o λg hg=> ?_,ZN.b⟩;obtain ⟨cs',qM⟩:=bc ZN.o aF hg;exact off qM aF aF
   ·obtain ⟨q1,q2⟩:=p2 cL AZ;refine (m0'.trans (Mod.aH Hr)).trans ((m16.mono λi _ hi=> .inr hi).trans (q2.mono λi _ hi=> .inl hi))
   ·rintro i (q|q|q|⟨x,hx,q⟩)
    ·exact .inl (.inl q)
    ·exact .inl (.inr (.inl q))
    ·rcases iG with q'|q'
     ·exact .inl (.inr (.inr (.inl (by rw [<-q'];exact q))))
     ·rw [q'] at q;cases q;exact .inr ab
    ·simp only [cV,cB,iJ,or_false] at hx;rcases hx with hx|hx|rfl
     ·exact .inl (.inr (.inr (.inr ⟨x,cV.2 (.inl hx),q⟩)))
     ·exact .inl (.inr (.inr (.inr ⟨x,cV.2 (.inr hx),q⟩)))
     ·have:=(o13.own.lt q).1;have zv:=xvd.size;exact .inr ab
   ·intro i q;rcases iG with q'|q'
    ·exact .inl (by rw [<-q'];exact q)
    ·have q:lZ.bf=some i:=q;rw [q'] at q;cases q;exact .inr ab
set_option maxRecDepth 100000 in
def TC{w:World}{d:Nat}{m:Dm}{D:Dk}(h:DO w d m D)(hW:D.l.length<=1000000000):
  ah 165 #[d] w λe w'=>e=Value.int .i64 (tj D).2/\aje w d m (tj D).1 w':=by
 apply Gv.vc;refine (C9 h).mono ?_;rintro e w0 ⟨rfl,h0,m0⟩;have z0:=m0.size;have m0':Mod (λi=>i=d\/m.ls.bf=some i) w w0:=m0.mono λi _ hi=> .inl hi
 have bn:=h.ok.sync;obtain ⟨e1,e2,e3⟩:=lI D;refine ⟨_,rfl,Br.mk (λhf=> ?_) (λhf=> ?_)⟩
 ·have e:tj D=((km D).1,9):=by unfold tj;rw [if_pos hf]
  rw [e];exact ⟨rfl,m,h0,m0',λi hi=> .inl hi,λi hi=> .inl hi⟩
 ·have e:tj D=({(km D).1 with safe:=vX D,l:=[]},0):=by unfold tj;rw [if_neg (by rw [hf];decide)]
  rw [e] at bn ⊢;refine (BH h0 (by rw [e2];exact hW)).mono ?_;rintro e w2 ⟨r',E',rfl,Mz,hp,eX,x2,hr'⟩;rw [UZ] at hp;have h2:=h0.ext x2;have z2:=x2.size;have Uk:=h.rd.lt;obtain ⟨p1,p2⟩:=h2.rd.kl (j:=3) (v:=.map (some r')) cp rfl;refine ⟨_,rfl,⟨rfl,p1⟩,λw4 e4=> ?_⟩;obtain ⟨q1,q2⟩:=p2 w4 e4;obtain ⟨p3,p4⟩:=q1.kl (j:=4) (v:=.slice none 0 0) (show 4<5 by decide) rfl;refine ⟨⟨rfl,p3⟩,λw5 e5=>⟨rfl,⟨r',⟨none,0,0⟩,E',[]⟩,?_,?_,?_,λi q=>by cases q⟩⟩
  ·obtain ⟨q3,q4⟩:=p4 w5 e5;have mm:=q2.trans q4;refine ⟨q3,mm.map Mz λq=>h2.rd.jK Mz q.symm,aE.nil,hp,rfl,λx hx=> ?_,bn⟩;have hx':x ∈ E':=by simpa using hx
   have ZN:=h2.bl x (eX x hx');refine ⟨mm.iq ZN.o λg hg=> ?_,ZN.b⟩;obtain ⟨cs',qM⟩:=bc ZN.o aF hg;exact qM.ne h2.rd aF
  ·obtain ⟨q3,q4⟩:=p4 w5 e5;exact (m0'.trans (Mod.aH x2)).trans ((q2.trans q4).mono λi _ hi=> .inl hi)
  ·rintro i (q|q|q|⟨x,hx,q⟩)
   ·exact .inl (.inl q)
   ·exact .inr (by rw [q];show _<=r';omega)
   ·cases q
   ·have hx':x ∈ E':=by simpa using hx
    exact .inl (.inr (.inr (.inr ⟨x,eX x hx',q⟩)))
abbrev amX:TypeId:=202
structure SO(w:World)(st d:Nat)(m:Dm)(D:Dk):Prop where
 rs:Row w st [d] BL
 dk:DO w d m D
def sF(st d:Nat)(m:Dm)(i:Nat):Prop:=i=st\/dF d m i
def SO.lt{w:World}{st d:Nat}{m:Dm}{D:Dk}(h:SO w st d m D){i:Nat}(hi:sF st d m i):i<w:=by
 rcases hi with rfl|hi
 ·exact h.rs.lt
 ·exact h.dk.lt hi
def SO.same{w w':World}{st d:Nat}{m:Dm}{D:Dk}(h:SO w st d m D)(hs:∀i,sF st d m i->w'.heap[i]? =w.heap[i]?):SO w' st d m D:=⟨h.rs.same (hs _ (.inl rfl)),h.dk.same λi hi=>hs i (.inr hi)⟩
def SO.ext{w w':World}{st d:Nat}{m:Dm}{D:Dk}(h:SO w st d m D)(x:Ext w w'):SO w' st d m D:=h.same λi hi=>x.heap (h.lt hi)
def SO.ptr{w:World}{st d:Nat}{m:Dm}{D:Dk}(h:SO w st d m D):ld w (ae (ae (aB st) 0) 0)=some (.pointer (aB d)):=by rw [bh,bh,h.rs.ld];rfl
def Yu(room:Int)(w:World):ah 212 #[room] w λe w'=>∃d m,e=Value.pointer (aB d)/\DO w' d m ⟨min (max room 0) 1048576,0,0,[],[]⟩/\Ext w w'/\∀i,dF d m i->w.heap.size<=i:=by
 apply aaC.vc;intro w0 e0 w1 e1;have z0:=eR e0;have x1:=aQ e1;have hm:cD GI w0 (some w.heap.size) []:=by rw [e0];exact cD.new
 have er:(if 1048576<(if 0>room then 0 else room) then 1048576 else (if 0>room then 0 else room))=min (max room 0) 1048576:=by split<;>split<;>omega
 rw [er] at e1;refine ⟨w0.heap.size,⟨w.heap.size,⟨none,0,0⟩,[],[]⟩,rfl,⟨by rw [e1];exact Row.new w0 [_,_,_,_,_] _,hm.same (x1.heap hm.lt),aE.nil,.refl _,rfl,(λx hx=>by cases hx),⟨List.nodup_nil,λk=>by simp [oV];omega,by simp,by simp,by simp only;omega⟩⟩,(aQ e0).tr x1,λi hi=> ?_⟩;rcases hi with q|q|q|⟨x,hx,-⟩
 ·omega
 ·rw [q];exact aC _
 ·cases q
 ·cases hx
def Yt(room:Int)(w:World):ah 149 #[room] w λe w'=>∃st d m,e=Value.pointer (aB st)/\SO w' st d m ⟨min (max room 0) 1048576,0,0,[],[]⟩/\Ext w w'/\∀i,sF st d m i->w.heap.size<=i:=by
 apply Wy.vc;refine (Yu room w).mono ?_;rintro e w0 ⟨d,m,rfl,hd,x0,hf⟩;refine ⟨_,rfl,λw2 e2=> ?_⟩;have x2:=aQ e2;have z:=x0.size;refine ⟨_,d,m,rfl,⟨by rw [e2];exact Row.new w0 [_] _,hd.ext x2⟩,x0.tr x2,λi hi=> ?_⟩;rcases hi with q|q
 ·omega
 ·exact hf i q
set_option maxRecDepth 100000 in
def Qb{w:World}{st d:Nat}{m:Dm}{D:Dk}(h:SO w st d m D)(hW:D.l.length<=1000000000){id:Int}(hid:0<=id/\id<=1099511627776):
  ah 133 #[st,id] w λe w'=>∃s:Sl,e=Value.agg #[.int .i64 (oM D id).1,.int .i64 (oM D id).2.1,.slice s.a s.n s.c]/\ij w' s (oM D id).2.2/\nC (oM D id).2.2/\(oM D id).2.2.length<=1048576/\s.n<=s.c/\(∀g,s.bf=some g->w.heap.size<=g)/\Ext w w':=by
 apply DS.vc;intro w0 e0 w1 e1 w2 e2;have z0:=eR e0;have z1:w1.heap.size=w.heap.size+2:=by rw [e1];simp [z0]
 have z2:w2.heap.size=w.heap.size+2:=by rw [e2,setRow_size,z1]
 have x2:Ext w w2:=((aQ e0).bF e1).ag e2 ab;have k0:ao (2*id)=2*id:=wI;have k1:ao (2*id+1)=2*id+1:=wI;rw [k0,k1];obtain ⟨best,hbest⟩:∃best:Nat->Rc,best=λk=>if k=0 then (2*id+1,0,[]) else if k=1 then lv (2*id+1,0,[]) (2*id) (ur (getD D (2*id))) else oM D id:=⟨_,rfl⟩
 have b0:best 0=(2*id+1,0,[]):=by rw [hbest];rfl
 have b1:best 1=lv (best 0) (2*id) (ur (getD D (2*id))):=by rw [b0,hbest];rfl
 have b2:best 2=lv (best 1) (2*id+1) (ur (getD D (2*id+1))):=by rw [b1,b0,hbest];rfl
 have b3:best 2=oM D id:=by rw [hbest];rfl
 refine ⟨λn i sl v s wr=>∃k:Nat,i=k/\k+n=2/\sl=(best k).1/\v=(best k).2.1/\ij wr s (best k).2.2/\nC (best k).2.2/\(best k).2.2.length<=1048576/\s.n<=s.c/\(∀g,s.bf=some g->w2.heap.size<=g)/\Ext w wr/\w2.heap.size<=wr,
  ⟨2,rfl,0,rfl,rfl,by rw [b0],by rw [b0],by rw [b0];exact m4.H3 (aE.nil (B:=0)),by rw [b0];exact (λc hc=>by cases hc),by rw [b0];simp,aC _,(λg hg=>by cases hg),x2,aC _⟩,?_⟩
 rintro n4 us i sl v s bP ⟨k,rfl,hk,rfl,rfl,hs,Q3,pw,hsc,hsf,bj,YS⟩;apply Br.mk<;>intro hc
 ·replace hc:=nA hc;have VD:=nS (j:=k);obtain ⟨slot,hslot,hnext⟩:∃slot,([.int .i64 (2*id),.int .i64 (2*id+1)]:LV)[((k:Nat):Int).toNat*1]? =some (.int .i64 slot)/\best (k+1)=lv (best k) slot (ur (getD D slot)):=by
   rcases k with _|_|k
   ·exact ⟨_,rfl,b1⟩
   ·exact ⟨_,rfl,b2⟩
   ·omega
  have h10:=h.ext bj;refine ⟨⟨by omega,by omega⟩,slot,hslot,_,h10.ptr,(Xa h10.dk hW slot).mono ?_⟩;rintro e bO ⟨t,tb,rfl,ot,hby,hle,bI⟩;have ZD:=bI.size;refine ⟨t,tb,rfl,bI.heap ab,bI.heap ab,(Tr t (getD D slot) bO (m4.H3 ot) hby (aE.le ot) ab).mono ?_⟩;rintro e cL ⟨u,rfl,hu,huc,hub,dh⟩;have z17:=dh.size;have ad5:=bI.tr dh;have hui:=ajF hby
  have hul:=ajG (getD D slot);have de:lv (best k) slot (ur (getD D slot))=best k->∃tG,tG<n4/\aO [aa,aa,.slice none 0 0]/\∃k':Nat,ao ((k:Int)+1)=(k':Int)/\k'+tG=2/\(best k).1=(best k').1/\(best k).2.1=(best k').2.1/\ij cL s (best k').2.2/\nC (best k').2.2/\(best k').2.2.length<=1048576/\s.n<=s.c/\(∀g,s.bf=some g->w2.heap.size<=g)/\Ext w cL/\w2.heap.size<=cL:=λq=>by rw [q] at hnext;exact ⟨n4-1,by omega,rfl,k+1,VD,by omega,by rw [hnext],by rw [hnext],by rw [hnext];exact hs.ext ad5,by rw [hnext];exact Q3,by rw [hnext];exact pw,hsc,hsf,bj.tr ad5,by omega⟩
  refine ⟨_,u,_,rfl,dh.heap ab,dh.heap ab,Br.mk (λhb=>Br.mk (λkE=> ?_) (λkE=> ?_)) (λhb=> ?_)⟩
  ·have q1:=cU hb;have q2:=cU kE;have e:lv (best k) slot (ur (getD D slot))=(slot,(ur (getD D slot)).1,(ur (getD D slot)).2.1):=by unfold lv;rw [if_pos ⟨q1,q2⟩]
   rw [e] at hnext;intro eZ HL;have db:Ext w eZ:=(bj.tr ad5).ag HL ab;have awG:ij eZ u (ur (getD D slot)).2.1:=hu.same λg hg=>by rw [HL];exact setRow_other _ _ _ _ (by have:=hub g hg;omega)
   have z21:eZ.heap.size=cL.heap.size:=by rw [HL,setRow_size]
   exact ⟨n4-1,by omega,rfl,k+1,VD,by omega,by rw [hnext],by rw [hnext],by rw [hnext];exact awG,by rw [hnext];exact hui,by rw [hnext];simp only;omega,huc,(λg hg=>by have:=hub g hg;omega),db,by omega⟩
  ·have q2:=cU kE;exact de (by unfold lv;rw [if_neg λq=>q2 q.2])
  ·have q1:=cU hb;exact de (by unfold lv;rw [if_neg λq=>q1 q.1])
 ·replace hc:=nN hc;have Hh:k=2:=by omega
  subst Hh;rw [b3] at hs Q3 pw ⊢;intro dP HI;refine ⟨s,rfl,hs.same λg hg=> ?_,Q3,pw,hsc,λg hg=>by have:=hsf g hg;omega,bj.ag HI (aC _)⟩;rw [HI];exact setRow_other _ _ _ _ (by have:=hsf g hg;omega)
def Kr(id:Int)(w:World):ah 132 #[id] w λe w'=>e=Value.bool (H0 id)/\w'=w:=by
 apply Wz.vc;unfold H0;apply Br.mk<;>intro h
 ·simp only [ge_iff_le,cN] at h;rw [decide_eq_true h];exact ⟨rfl,rfl⟩
 ·simp only [ge_iff_le,fm] at h;rw [decide_eq_false h];exact ⟨rfl,rfl⟩
def Qc{id:Int}:H0 id=true ↔ 0<=id/\id<=1099511627776:=by unfold H0;simp
def Om{w:World}{st d:Nat}{m:Dm}{D:Dk}(h:SO w st d m D)(hW:D.l.length<=1000000000)(id:Int):
  ah 76 #[st,id] w λe w'=>∃s:Sl,e=Value.tuple #[s,.int .i64 (Jo D id).2.1,.bool (Jo D id).2.2]/\ij w' s (Jo D id).1/\nC (Jo D id).1/\(Jo D id).1.length<=1048576/\s.n<=s.c/\(∀g,s.bf=some g->w.heap.size<=g)/\Ext w w':=by
 apply BD.vc;refine (Kr id w).mono ?_;rintro e w0 ⟨rfl,rfl⟩;refine ⟨_,rfl,Br.mk (λhb=> ?_) (λhb=> ?_)⟩
 ·have q:¬H0 id=true:=by simpa using hb
  have e:Jo D id=([],0,false):=by unfold Jo;rw [if_neg q]
  rw [e];exact ⟨⟨none,0,0⟩,rfl,m4.H3 (aE.nil (B:=0)),(λc hc=>by cases hc),by simp,aC _,(λg hg=>by cases hg),Ext.cM _⟩
 ·have q:H0 id=true:=by simpa using hb
  have e:Jo D id=((oM D id).2.2,(oM D id).2.1,decide ((oM D id).2.1>0)):=by unfold Jo;rw [if_pos q]
  rw [e];refine (Qb h hW (Qc.1 q)).mono ?_;rintro e w2 ⟨s,rfl,hs,Q3,pw,hsc,hsf,x2⟩;refine ⟨_,_,s,rfl,λw6 e6 w7 e7=> ?_⟩;have x7:Ext w2 w7.drew:=((aQ e6).ag e7 (aC _)).drew;exact ⟨s,rfl,hs.ext x7,Q3,pw,hsc,hsf,x2.tr x7⟩
def D5(w:World)(st d:Nat)(m:Dm)(D:Dk)(w':World):Prop:=∃m',SO w' st d m' D/\Mod (λi=>i=d\/m.ls.bf=some i) w w'/\(∀i,dF d m' i->dF d m i\/w.heap.size<=i)/\∀i,m'.ls.bf=some i->m.ls.bf=some i\/w.heap.size<=i
def SO.off{w:World}{st d:Nat}{m:Dm}{D:Dk}(h:SO w st d m D):¬(st=d\/m.ls.bf=some st):=by
 rintro (q|q)
 ·exact h.rs.ne h.dk.rd aF q
 ·obtain ⟨cs',qM⟩:=bc h.dk.ol aF q;exact h.rs.ne qM aF rfl
def SO.res{w w':World}{st d:Nat}{m:Dm}{D D':Dk}(h:SO w st d m D)(hr:aje w d m D' w'):D5 w st d m D' w':=by obtain ⟨m',h1,h2,h3,h4⟩:=hr;exact ⟨m',⟨h2.row h.rs h.off,h1⟩,h2,h3,h4⟩
def D5.aH{w0 w w':World}{st d:Nat}{m:Dm}{D':Dk}(x:Ext w0 w)(hr:D5 w st d m D' w'):D5 w0 st d m D' w':=by obtain ⟨m',h1,h2,h3,h4⟩:=hr;have z:=x.size;exact ⟨m',h1,(Mod.aH x).trans h2,λi hi=>(h3 i hi).imp id λq=>by omega,λi hi=>(h4 i hi).imp id λq=>by omega⟩
def D5.trans{w w1 w2:World}{st d:Nat}{m m1:Dm}{D1 D2:Dk}(h1:SO w1 st d m1 D1/\Mod (λi=>i=d\/m.ls.bf=some i) w w1/\(∀i,dF d m1 i->dF d m i\/w.heap.size<=i)/\∀i,m1.ls.bf=some i->m.ls.bf=some i\/w.heap.size<=i)(h2:D5 w1 st d m1 D2 w2):D5 w st d m D2 w2:=by
 obtain ⟨a1,a2,a3,a4⟩:=h1;obtain ⟨m2,b1,b2,b3,b4⟩:=h2;have z:=a2.size;refine ⟨m2,b1,a2.tr b2 λi hi=> ?_,λi hi=> ?_,λi hi=> ?_⟩
 ·rcases hi with q|q
  ·exact .inl (.inl q)
  ·exact (a4 i q).imp .inr id
 ·rcases b3 i hi with q|q
  ·exact a3 i q
  ·exact .inr ab
 ·rcases b4 i hi with q|q
  ·exact a4 i q
  ·exact .inr ab
set_option maxRecDepth 100000 in
def CW{w:World}{st d:Nat}{m:Dm}{D:Dk}(h:SO w st d m D)(hW:D.l.length<=1000000)(id:Int)(s:Sl)(b:List Int)(hs:ij w s b)(hb:nC b)(hn:b.length<=1099511627776):
  ah 115 #[st,id,s] w λe w'=>e=Value.int .i64 (yZ D id b).2/\D5 w st d m (yZ D id b).1 w':=by
 apply (BX.vc (a2:=s));have same:∀{w':World},Ext w w'->D5 w st d m D w':=λx=>⟨m,h.ext x,Mod.aH x,λi hi=> .inl hi,λi hi=> .inl hi⟩
 refine (Kr id w).mono ?_;rintro e w0 ⟨rfl,rfl⟩;refine ⟨_,rfl,Br.mk (λHJ=> ?_) (λHJ=> ?_)⟩
 ·have q:¬H0 id=true:=by simpa using HJ
  have e:yZ D id b=(D,1):=by unfold yZ;rw [if_neg q]
  rw [e];exact ⟨rfl,same (Ext.cM _)⟩
 ·have q:H0 id=true:=by simpa using HJ
  have hid:=Qc.1 q;refine (Qb h ab hid).mono ?_;rintro e w2 ⟨s5,rfl,-,-,-,-,-,x2⟩;refine ⟨_,_,s5,rfl,λw6 e6 w7 e7=> ?_⟩;have r7:Row w7 w2 [.int .i64 (oM D id).1,.int .i64 (oM D id).2.1,s5] amX:=by rw [e7];exact Row.set (by rw [e6];exact Row.new w2 [_,_,_] _) _
  have fO:Ext w2 w7:=(aQ e6).ag e7 (aC _);have x7:=x2.tr fO;have hv:=amt D id;have wv:ao ((oM D id).2.1+1)=(oM D id).2.1+1:=wI;rw [wv];have pw:=Z4 D id;have hto:lk .i64 (oM D id).1 1=4*id+1-(oM D id).1:=by
   obtain ⟨t1,t2⟩:=Z3 hid;rcases pw with q|q
   ·rw [q,t1];omega
   ·rw [q,t2];omega
  rw [hto];have hsv:yZ D id b=if (Ek ((oM D id).2.1+1) b).2≠0 then (D,(Ek ((oM D id).2.1+1) b).2)
   else if (nT D (4*id+1-(oM D id).1) (Ek ((oM D id).2.1+1) b).1).2≠0 then nT D (4*id+1-(oM D id).1) (Ek ((oM D id).2.1+1) b).1
   else tj (nT D (4*id+1-(oM D id).1) (Ek ((oM D id).2.1+1) b).1).1:=by unfold yZ;rw [if_pos q]
  rw [hsv];refine (PQ ((oM D id).2.1+1) s b w7 (hs.ext x7) hb hn).mono ?_;rintro e w8 ⟨s9,rfl,o9,x8⟩;have hwb:nC (Ek ((oM D id).2.1+1) b).1:=ajN hb;have hwn:(Ek ((oM D id).2.1+1) b).1.length<=1099511627776:=by
   unfold Ek;split
   ·simp
   ·rename_i q3;rw [Jq,PR];omega
  generalize Ek ((oM D id).2.1+1) b=wr at*;generalize 4*id+1-(oM D id).1=slot at*;have z8:=x8.size;have z2:=fO.size;have hlt7:=r7.lt;refine ⟨s9,_,rfl,x8.heap hlt7,Br.mk (λkE=> ?_) (λkE=> ?_)⟩
  ·have q2:wr.2≠0:=by simpa using kE
   rw [if_pos q2];exact ⟨rfl,same (x7.tr x8)⟩
  ·have q2:wr.2=0:=by simpa using kE
   rw [if_neg (by rw [q2];simp)];have x8d:=(x7.tr x8).tr (Ext.dr w8);have h8:=h.ext x8d;have Uk:=h.dk.rd.lt;have z7:=x7.size;refine ⟨_,h8.ptr,(Xi h8.dk ab slot s9 wr.1 (RdK.ext (m4.H3 o9) (Ext.dr w8)) hwb hwn λhg=>by have:=(o9.own.lt hg).1;omega).mono ?_⟩;rintro e dj ⟨rfl,awH⟩;have apL:=h8.res awH;have Ma:∀{v:World},Mod (λi=>i=d\/m.ls.bf=some i) w8.drew v->v.heap[w2.heap.size]? =w8.drew.heap[w2.heap.size]? :=λhm=>hm.same _ (by show w2.heap.size<w8.heap.size;omega) (by
    have:=x2.size;rintro (q|q)
    ·omega
    ·have:=(h.dk.ol.own.lt q).2;omega)
   obtain ⟨m1,g1,g2,g3,g4⟩:=apL;have r12:Row dj w2 [.int .i64 (oM D id).1,.int .i64 (oM D id).2.1,s5] amX:=((r7.ext x8).ext (Ext.dr w8)).same (Ma g2);refine ⟨_,rfl,Ma g2,r12.bY (λj hj=>by simp at hj;subst hj;rfl),Br.mk (λhb3=> ?_) (λhb3=> ?_)⟩
   ·have q3:(nT D slot wr.1).2≠0:=by simpa using hb3
    rw [if_pos q3];exact ⟨rfl,D5.aH x8d ⟨m1,g1,g2,g3,g4⟩⟩
   ·have q3:(nT D slot wr.1).2=0:=by simpa using hb3
    rw [if_neg (by rw [q3];simp)];have hpl:=Z6 D slot wr.1;refine ⟨_,g1.ptr,(TC g1.dk ab).mono ?_⟩;rintro e dB ⟨rfl,apM⟩;have apN:=g1.res apM;have bk:=D5.trans ⟨g1,g2,g3,g4⟩ apN;have z12:=g2.size;obtain ⟨m2,f1,f2,f3,f4⟩:=apM;refine ⟨_,rfl,f2.same _ r12.lt ?_,rfl,D5.aH x8d bk⟩;rintro (q|q)
    ·have:=x2.size;omega
    ·obtain ⟨cs',qM⟩:=bc g1.dk.ol aF q;exact r12.ne qM aF rfl
structure It where
 x:Nat
 g:Nat
 s:Sl
 p:Po
 C:List Int
 oR:Bool
 pins:Int
structure vQ(w:World)(i:It):Prop where
 r:Row w i.x [.pointer (aB i.g),.bool i.oR,i.pins] cJ
 k:Ih w i.g i.s i.p i.C
def vQ.ext{w w':World}{i:It}(h:vQ w i)(x:Ext w w'):vQ w' i:=⟨h.r.ext x,h.k.ext x⟩
def vQ.de{w w':World}{i:It}(h:vQ w i){F:Nat->Prop}(hm:Mod F w w')(h1:¬F i.x)(h2:¬F i.g)(h3:∀b,i.s.bf=some b->¬F b):vQ w' i:=⟨hm.row h.r h1,h.k.de hm h2 h3⟩
abbrev Dv(its:List It):List (LV):=its.map λi=> [.pointer (aB i.x)]
structure TO(w:World)(t st d:Nat)(r:Dm)(sl:Sl)(D:Dk)(ak limit:Int)(its:List It):Prop where
 rt:Row w t [st,ak,limit,sl] BM
 so:SO w st d r D
 ol:aE 0 tPI 1 w sl (Dv its)
 it:∀i ∈ its,vQ w i
 dx:(its.map (·.x)).Nodup
 dg:(its.map (·.g)).Nodup
 ZA:1<=limit/\limit<=16
 len:(its.length:Int)<=limit
def dM(m:Dm)(i:Nat):Prop:=i=m.r\/m.ls.bf=some i\/∃x ∈ m.E++m.W,x.2.1.bf=some i
def aD(t st d:Nat)(r:Dm)(sl:Sl)(its:List It)(i:Nat):Prop:=i=t\/i=st\/i=d\/dM r i\/sl.bf=some i\/∃y ∈ its,i=y.x\/i=y.g\/y.s.bf=some i
def TO.lt{w:World}{t st d:Nat}{r:Dm}{sl:Sl}{D:Dk}{ak limit:Int}{its:List It}(h:TO w t st d r sl D ak limit its){i:Nat}(hi:aD t st d r sl its i):i<w:=by
 rcases hi with rfl|e|e|e|e|⟨y,hy,e|e|e⟩
 ·exact h.rt.lt
 ·exact h.so.lt (.inl e)
 ·exact h.so.lt (.inr (.inl e))
 ·exact h.so.lt (.inr (.inr e))
 ·exact (h.ol.own.lt e).2
 ·exact e▸(h.it y hy).r.lt
 ·exact e▸(h.it y hy).k.row.lt
 ·exact ((h.it y hy).k.own.own.lt e).2
def TO.same{w w':World}{t st d:Nat}{r:Dm}{sl:Sl}{D:Dk}{ak limit:Int}{its:List It}(h:TO w t st d r sl D ak limit its)(hs:∀i,aD t st d r sl its i->w'.heap[i]? =w.heap[i]?):TO w' t st d r sl D ak limit its:=by
 refine ⟨h.rt.same (hs _ (.inl rfl)),h.so.same λi hi=>hs i ?_,aE.de h.ol λb hb=>hs b (.inr (.inr (.inr (.inr (.inl hb))))),λy hy=> ?_,h.dx,h.dg,h.ZA,h.len⟩
 ·rcases hi with e|e|e
  ·exact .inr (.inl e)
  ·exact .inr (.inr (.inl e))
  ·exact .inr (.inr (.inr (.inl e)))
 ·have f:∀i,(i=y.x\/i=y.g\/y.s.bf=some i)->w'.heap[i]? =w.heap[i]? :=λi hi=>hs i (.inr (.inr (.inr (.inr (.inr ⟨y,hy,hi⟩)))))
  have hi:=h.it y hy;exact ⟨hi.r.same (f _ (.inl rfl)),hi.k.row.same (f _ (.inr (.inl rfl))),aE.de hi.k.own λb hb=>f b (.inr (.inr hb)),hi.k.len,hi.k.may⟩
def TO.ext{w w':World}{t st d:Nat}{r:Dm}{sl:Sl}{D:Dk}{ak limit:Int}{its:List It}(h:TO w t st d r sl D ak limit its)(x:Ext w w'):TO w' t st d r sl D ak limit its:=h.same λi hi=>x.heap (h.lt hi)
def TO.kind{w:World}{t st d:Nat}{r:Dm}{sl:Sl}{D:Dk}{ak limit:Int}{its:List It}(h:TO w t st d r sl D ak limit its){i:Nat}(hi:aD t st d r sl its i):
  cD GI w (some i) (r.E.map qC)\/∃cs τ,Row w i cs τ/\(τ=BM\/τ=BL\/τ=uB\/τ=tPI\/τ=cJ\/τ=yc\/τ=gG\/τ=tW\/τ=iA):=by
 rcases hi with e|e|e|e|e|⟨y,hy,e|e|e⟩
 ·exact .inr ⟨_,_,e▸h.rt,.inl rfl⟩
 ·exact .inr ⟨_,_,e▸h.so.rs,.inr (.inl rfl)⟩
 ·exact .inr ⟨_,_,e▸h.so.dk.rd,.inr (.inr (.inl rfl))⟩
 ·rcases h.so.dk.kind (.inr e) with q|⟨cs,τ,q1,q2⟩
  ·exact .inl q
  ·refine .inr ⟨cs,τ,q1,?_⟩;rcases q2 with rfl|rfl|rfl
   ·exact .inr (.inr (.inl rfl))
   ·exact .inr (.inr (.inr (.inr (.inr (.inr (.inr (.inl rfl)))))))
   ·exact .inr (.inr (.inr (.inr (.inr (.inr (.inr (.inr rfl)))))))
 ·obtain ⟨cs,hr⟩:=bc h.ol aF e;exact .inr ⟨_,_,hr,.inr (.inr (.inr (.inl rfl)))⟩
 ·exact .inr ⟨_,_,e▸(h.it y hy).r,.inr (.inr (.inr (.inr (.inl rfl))))⟩
 ·exact .inr ⟨_,_,e▸(h.it y hy).k.row,.inr (.inr (.inr (.inr (.inr (.inl rfl)))))⟩
 ·obtain ⟨cs,hr⟩:=bc (h.it y hy).k.own aF e;exact .inr ⟨_,_,hr,.inr (.inr (.inr (.inr (.inr (.inr (.inl rfl))))))⟩
def TO.dU{w:World}{t st d:Nat}{r:Dm}{sl:Sl}{D:Dk}{ak limit:Int}{its:List It}(h:TO w t st d r sl D ak limit its){j:Nat}{cs:LV}{τ:TypeId}(hr:Row w j cs τ)(hτ:τ≠BM/\τ≠BL/\τ≠uB/\τ≠tPI/\τ≠cJ/\τ≠yc/\τ≠gG/\τ≠tW/\τ≠iA):¬aD t st d r sl its j:=λhf=>by
 rcases h.kind hf with hm|⟨cs',τ',hr',ht⟩
 ·exact hr.jK hm rfl
 ·obtain ⟨h1,h2,h3,h4,h5,h6,h7,h8,h9⟩:=hτ
  rcases ht with rfl|rfl|rfl|rfl|rfl|rfl|rfl|rfl|rfl
  ·exact hr.ne hr' h1 rfl
  ·exact hr.ne hr' h2 rfl
  ·exact hr.ne hr' h3 rfl
  ·exact hr.ne hr' h4 rfl
  ·exact hr.ne hr' h5 rfl
  ·exact hr.ne hr' h6 rfl
  ·exact hr.ne hr' h7 rfl
  ·exact hr.ne hr' h8 rfl
  ·exact hr.ne hr' h9 rfl
def TO.n{w:World}{t st d:Nat}{r:Dm}{sl:Sl}{D:Dk}{ak limit:Int}{its:List It}(h:TO w t st d r sl D ak limit its):sl.n=its.length:=by have:=(h.ol.rd aF).n;rwa [aN] at this
def TO.at{w:World}{t st d:Nat}{r:Dm}{sl:Sl}{D:Dk}{ak limit:Int}{its:List It}(h:TO w t st d r sl D ak limit its){i:Nat}{y:It}(hi:its[i]? =some y):eA sl.a (i:Int) sl.n/\ld w (ae sl.a (((i:Nat):Int).toNat*1))=some (.pointer (aB y.x)):=by have iC:=(cG.1 hi).1;have kF:=h.ol.rd (show 0<1 by decide);refine ⟨RdK.im kF aF ab (by rw [h.n];omega),?_⟩;have:=kF.rd i [.pointer (aB y.x)] (by rw [aR,hi];rfl) 0 _ rfl;exact this
def Mu(room:Int):Dk:=⟨min (max room 0) 1048576,0,0,[],[]⟩
def Ys(ak limit room:Int)(w:World):ah 96 #[ak,limit,room] w λe w'=>∃t st d r,e=Value.pointer (aB t)/\TO w' t st d r ⟨none,0,0⟩ (Mu room) ak (min (max limit 1) 16) []/\Ext w w'/\∀i,aD t st d r ⟨none,0,0⟩ [] i->w.heap.size<=i:=by
 apply WM.vc;refine (Yt room w).mono ?_;rintro e w0 ⟨st,d,m,rfl,hs,x0,hf⟩;refine ⟨_,rfl,λw2 e2=> ?_⟩;have x2:=aQ e2;have z0:=x0.size;have hl:(if 16<(if 1>limit then 1 else limit) then 16 else (if 1>limit then 1 else limit))=min (max limit 1) 16:=by split<;>split<;>omega
 rw [hl] at e2;refine ⟨_,st,d,m,rfl,⟨by rw [e2];exact Row.new w0 [_,_,_,_] _,hs.ext x2,aE.nil,by simp,by simp,by simp,by omega,by simp;omega⟩,x0.tr x2,λi hi=> ?_⟩;rcases hi with rfl|e|e|e|e|⟨y,hy,-⟩
 ·exact z0
 ·exact hf i (.inl e)
 ·exact hf i (.inr (.inl e))
 ·exact hf i (.inr (.inr e))
 ·cases e
 ·cases hy
def uF{α:Type}(s:Sl)(l:List α)(ad:α->Nat)(fv:Value)(q:α->Bool)(w:World)(hs:RdK w s 1 (l.map λi=> [.pointer (some ⟨ad i,0,none⟩)]))(hb:l.length<=1000)
  (hf:∀i ∈ l,∀w',Ext w w'->cC Tryz.prog fv [.pointer (some ⟨ad i,0,none⟩)] w' λe w''=>e=Value.bool (q i)/\Ext w' w''):
  ah 129 #[s,fv] w λe w'=>e=Value.int .i64 (bX q l)/\Ext w w':=by
 apply tY.vc;have hn:s.n=l.length:=by have:=hs.n;rwa [aN] at this
 refine ⟨λn i wr=>∃k:Nat,i=k/\k+n=l.length/\Ext w wr/\∀j,j<k->∀y,l[j]? =some y->q y=false,⟨l.length,0,rfl,by omega,Ext.cM _,λj hj=>by omega⟩,?_⟩;rintro n us i wr ⟨k,rfl,hk,xr,mO⟩;have VD:=nS (j:=k);apply Br.mk<;>intro hc
 ·replace hc:=nA hc;obtain ⟨y,hy⟩:=bE (l:=l) (i:=k) ab;have hsr:=RdK.ext hs xr;have kf:=hsr.rd k [.pointer (some ⟨ad y,0,none⟩)] (by rw [aR,hy];rfl) 0 _ rfl;refine ⟨RdK.im hsr aF ab ab,_,kf,dw (hf y (aX hy) wr xr) ?_⟩;rintro e w7 ⟨rfl,x7⟩;refine ⟨_,rfl,Br.mk (λh=> ?_) (λh=> ?_)⟩
  ·exact ⟨by rw [oy hy h mO],xr.tr x7⟩
  ·refine ⟨n-1,by omega,k+1,VD,by omega,xr.tr x7,λj hj z hz=> ?_⟩;by_cases e:j=k
   ·subst e;rw [hy] at hz;cases hz;exact h
   ·exact mO j ab z hz
 ·replace hc:=nN hc;refine ⟨?_,xr⟩;rw [iT];intro y hy;obtain ⟨j,hj⟩:=wF hy;exact mO j (by have:=(cG.1 hj).1;omega) y hj
set_option maxRecDepth 100000 in
def find_spec{w:World}{t st d:Nat}{r:Dm}{sl:Sl}{D:Dk}{ak limit:Int}{its:List It}(h:TO w t st d r sl D ak limit its)(p:Po):
  ah 73 #[t,pv p] w λe w'=>e=Value.int .i64 (bX (λi=>i.p==p) its)/\Ext w w':=by
 apply BB.vc;intro w0 e0;have x0:=aQ e0;have hb:Row w0 w [p.1,p.2] Zz:=Row.nw e0;have h0:=h.ext x0;have dN:=h.len;have adC:=h.ZA;refine ⟨sl,h0.rt.at 3 rfl,(uF sl its (·.x) _ (λi=>i.p==p) w0 (h0.ol.rd aF) ab ?_).mono ?_⟩
 ·intro y hy w' x';refine cX (by kernel_rfl) (by rfl) ?_;apply xO.vc;have hy':=((h0.it y hy).ext x').ext (Ext.dr w');have hb':=(hb.ext x').ext (Ext.dr w');refine ⟨_,by rw [bh,hy'.r.ld];rfl,CV (CV ⟨_,_,hy'.k.pos,_,_,hb'.bY (λj hj=>by rw [eK]),(xI y.p w'.drew).mono ?_⟩)⟩;rintro e w5 ⟨rfl,x5⟩;refine ⟨_,_,rfl,(hb'.ext x5).bY (λj hj=>by rw [eK]),?_,rfl,(Ext.dr w').tr x5⟩;rw [bh];exact (hy'.ext x5).r.bY (λj hj=>by simp at hj;subst hj;rfl)
 ·rintro e w2 ⟨rfl,x2⟩;exact ⟨_,rfl,rfl,x0.tr x2⟩
def SO.kind{w:World}{st d:Nat}{m:Dm}{D:Dk}(h:SO w st d m D){i:Nat}(hi:sF st d m i):cD GI w (some i) (m.E.map qC)\/∃cs τ,Row w i cs τ/\(τ=BL\/τ=uB\/τ=tW\/τ=iA):=by
 rcases hi with e|hi
 ·exact .inr ⟨_,_,e▸h.rs,.inl rfl⟩
 ·rcases h.dk.kind hi with q|⟨cs,τ,q1,q2⟩
  ·exact .inl q
  ·exact .inr ⟨cs,τ,q1,.inr q2⟩
def SO.de{w w':World}{st d:Nat}{m:Dm}{D:Dk}(h:SO w st d m D){F:Nat->Prop}(hm:Mod F w w')(hr:∀{j:Nat} {cs:LV} {τ:TypeId},Row w j cs τ->(τ=BL\/τ=uB\/τ=tW\/τ=iA)->¬F j)(hmp:∀{j:Nat} {kvs:List (Value × Value)},cD GI w (some j) kvs->¬F j):SO w' st d m D:=
 h.same λi hi=>hm.same i (h.lt hi) (by
  rcases h.kind hi with q|⟨cs,τ,q1,q2⟩
  ·exact hmp q
  ·exact hr q1 q2)
abbrev slF(t:Nat)(sl:Sl):Nat->Prop:=λj=>j=t\/sl.bf=some j
def TO.off{w:World}{t st d:Nat}{r:Dm}{sl:Sl}{D:Dk}{ak limit:Int}{its:List It}(h:TO w t st d r sl D ak limit its){j:Nat}{cs:LV}{τ:TypeId}(hr:Row w j cs τ)(h1:τ≠BM)(h2:τ≠tPI):¬slF t sl j:=by
 rintro (e|e)
 ·exact hr.ne h.rt h1 e
 ·obtain ⟨cs',hr'⟩:=bc h.ol aF e;exact hr.ne hr' h2 rfl
def TO.item{w w':World}{t st d:Nat}{r:Dm}{sl:Sl}{D:Dk}{ak limit:Int}{its:List It}(h:TO w t st d r sl D ak limit its)(hm:Mod (slF t sl) w w'){y:It}(hy:vQ w y):vQ w' y:=
 hy.de hm (h.off hy.r aF aF) (h.off hy.k.row aF aF) (λb hb=>by obtain ⟨cs',hr'⟩:=bc hy.k.own aF hb;exact h.off hr' aF aF)
def TO.aa5{w w':World}{t st d:Nat}{r:Dm}{sl sl':Sl}{D:Dk}{ak limit:Int}{its its':List It}(h:TO w t st d r sl D ak limit its)(hm:Mod (slF t sl) w w')
  (rt:Row w' t [st,ak,limit,sl'] BM)(ol:aE 0 tPI 1 w' sl' (Dv its'))(ZI:∀y ∈ its',y ∈ its\/vQ w y)
  (dx:(its'.map (·.x)).Nodup)(dg:(its'.map (·.g)).Nodup)(len:(its'.length:Int)<=limit):TO w' t st d r sl' D ak limit its':=by
 refine ⟨rt,h.so.de hm (λhr hτ=> ?_) (λhmp=> ?_),ol,λy hy=>h.item hm ?_,dx,dg,h.ZA,len⟩
 ·rcases hτ with rfl|rfl|rfl|rfl<;>exact h.off hr aF aF
 ·rintro (e|e)
  ·exact h.rt.jK hmp e.symm
  ·obtain ⟨cs',hr'⟩:=bc h.ol aF e;exact hr'.jK hmp rfl
 ·rcases ZI y hy with h1|h1
  ·exact h.it y h1
  ·exact h1
def Gb{w:World}{t st d:Nat}{r:Dm}{sl sl':Sl}{its its':List It}(hb:∀b,sl'.bf=some b->sl.bf=some b\/w.heap.size<=b)(hi:∀y ∈ its',y ∈ its\/(w.heap.size<=y.x/\w.heap.size<=y.g/\∀b,y.s.bf=some b->w.heap.size<=b)):
  ∀i,aD t st d r sl' its' i->aD t st d r sl its i\/w.heap.size<=i:=by
 rintro i (e|e|e|e|e|⟨y,hy,e⟩)
 ·exact .inl (.inl e)
 ·exact .inl (.inr (.inl e))
 ·exact .inl (.inr (.inr (.inl e)))
 ·exact .inl (.inr (.inr (.inr (.inl e))))
 ·rcases hb i e with h|h
  ·exact .inl (.inr (.inr (.inr (.inr (.inl h)))))
  ·exact .inr h
 ·rcases hi y hy with h|⟨h1,h2,h3⟩
  ·exact .inl (.inr (.inr (.inr (.inr (.inr ⟨y,h,e⟩)))))
  ·rcases e with e|e|e
   ·exact .inr ab
   ·exact .inr ab
   ·exact .inr (h3 i e)
def zV{t st d:Nat}{r:Dm}{sl:Sl}{its:List It}:∀i,slF t sl i->aD t st d r sl its i:=by
 rintro i (e|e)
 ·exact .inl e
 ·exact .inr (.inr (.inr (.inr (.inl e))))
def aht(a:Addr):One [Value.pointer (some a)]:=by intro v hv;simp at hv;subst hv;rfl
def TO.push{w:World}{t st d:Nat}{r:Dm}{sl:Sl}{D:Dk}{ak limit:Int}{its:List It}(h:TO w t st d r sl D ak limit its)(y:It)(hy:vQ w y)(hx:y.x ∉ its.map (·.x))(hg:y.g ∉ its.map (·.g))(hl:(its.length:Int)+1<=limit):
  ba 8 1 w sl 1 [.pointer (aB y.x)]/\∀(s4:Sl)(w5:World),aY tPI 1 w sl 1 [.pointer (aB y.x)] s4 w5->
   Mod (λj=>sl.bf=some j) w w5/\Wr w5 (ae (aB t) 3) 1/\∀w6,w6=aL w5 (ae (aB t) 3) [.slice s4.a s4.n s4.c]->
    TO w6 t st d r s4 D ak limit (its++ [y])/\Mod (slF t sl) w w6/\∀b,s4.bf=some b->sl.bf=some b\/w.heap.size<=b:=by
 have hn:=h.n;have adC:=h.ZA;obtain ⟨hp,hr⟩:=h.ol.append (bytes:=8) (news:=[.pointer (aB y.x)]) (g7 _) rfl (aht _) ab ab;refine ⟨hp,λs4 w5 bk=> ?_⟩;obtain ⟨ho,hn4,lr,hk,iG⟩:=hr s4 w5 bk;have hm5:Mod (λj=>sl.bf=some j) w w5:=Mod.xt lr hk;have hnt:¬sl.bf=some t:=λe=>by obtain ⟨cs',hr'⟩:=bc h.ol aF e;exact hr'.ne h.rt aF rfl
 have rt5:=hm5.row h.rt hnt;obtain ⟨p1,p2⟩:=rt5.kl (j:=3) (v:=.slice s4.a s4.n s4.c) cp rfl;refine ⟨hm5,p1,λw6 e6=> ?_⟩;obtain ⟨q1,q2⟩:=p2 w6 e6;have hm6:Mod (slF t sl) w w6:=(hm5.mono λi _ hi=> .inr hi).trans (q2.mono λi _ hi=> .inl hi);have h4t:∀b,s4.bf=some b->b≠t:=λb hb=>by obtain ⟨cs',hr'⟩:=bc ho aF hb;exact hr'.ne rt5 aF
 refine ⟨h.aa5 hm6 q1 ?_ (λz hz=> ?_) ?_ ?_ (by simp;omega),hm6,λb hb=> ?_⟩
 ·have:=q2.iq ho h4t;show aE 0 tPI 1 w6 s4 ((its++ [y]).map _);rw [bW];exact this
 ·rcases cV.1 hz with hz|hz
  ·exact .inl hz
  ·simp at hz;subst hz;exact .inr hy
 ·rw [bW];refine tA.2 ⟨h.dx,by simp,?_⟩;intro a ha b hb e;simp at hb;subst hb;subst e;exact hx ha
 ·rw [bW];refine tA.2 ⟨h.dg,by simp,?_⟩;intro a ha b hb e;simp at hb;subst hb;subst e;exact hg ha
 ·rcases iG with e|e
  ·exact .inl (by rw [<-e];exact hb)
  ·rw [e] at hb;cases hb;exact .inr (aC _)
def Gc{w:World}{t st d:Nat}{r:Dm}{sl:Sl}{D:Dk}{ak limit:Int}{its:List It}(h:TO w t st d r sl D ak limit its){i:Nat}{y:It}(hi:its[i]? =some y):
  ah 80 #[t,.int .i64 (i:Nat)] w λe w'=>e=Value.pointer (aB y.x)/\∃sl',TO w' t st d r sl' D ak limit (its.eraseIdx i)/\Mod (slF t sl) w w'/\∀b,sl'.bf=some b->sl.bf=some b\/w.heap.size<=b:=by
 apply DG.vc;have hn:=h.n;have adC:=h.ZA;have dN:=h.len;have Ku:=(cG.1 hi).1;obtain ⟨a1,a2⟩:=h.at hi;have hd:=h.ext (Ext.dr w);have hle:=aE.le h.ol;have w1:=nS (j:=i);refine ⟨sl,h.rt.at 3 rfl,a1,_,a2,sl,hd.rt.at 3 rfl,by omega,by omega,by omega,by omega,sl,hd.rt.at 3 rfl,?_⟩;rw [w1];have og:=hd.ol.cut aF (m:=i) (by rw [aN];omega);have hrest:=RdK.rest (hd.ol.rd aF) (l:=i+1) (m:=sl.c) (n':=sl.n-(i+1)) (c':=sl.c-(i+1)) (by rw [aN];omega) (by rw [aN];omega);have hml:((Dv its).drop (i+1)).length=sl.n-(i+1):=by rw [Af,aN];omega
 have hwd:∀q ∈(Dv its).drop (i+1),q.length=1/\One q:=λq hq=>by obtain ⟨z,_,rfl⟩:=aW.1 (zg hq);exact ⟨rfl,aht _⟩
 obtain ⟨hp,bk⟩:=og.H2 (bytes:=8) (more:=(Dv its).drop (i+1)) (g7 _) (λq hq=>(hwd q hq).1) (λq hq=>(hwd q hq).2) (by rw [hml];show (i+_)*8<=_;omega) (by rw [hml];show i+_<=_;omega);rw [hml] at hp bk;refine ⟨by omega,by omega,((Dv its).drop (i+1)).flatten,hrest.flat aF,hp,λs5 w6 hr=> ?_⟩;obtain ⟨ho,hn5,lr,hk,iG⟩:=bk s5 w6 hr;have Q3:(Sl.mk (aJ sl.a 0 i 1) i i).bf=sl.bf:=by rw [eF];rfl
 rw [Q3] at hk iG;have hm6:Mod (λj=>sl.bf=some j) w w6:=(Mod.aH (Ext.dr w)).trans (Mod.xt lr hk);have hnt:¬sl.bf=some t:=λe=>by obtain ⟨cs',hr'⟩:=bc h.ol aF e;exact hr'.ne h.rt aF rfl
 have rt6:=hm6.row h.rt hnt;obtain ⟨p1,p2⟩:=rt6.kl (j:=3) (v:=.slice s5.a s5.n s5.c) cp rfl;have kf:af w6 (ae (aB t) 3) 0 [sl]:=by show ld w6 (ae _ 0)=_;rw [ik];exact rt6.at 3 rfl
 refine ⟨kf,kf,⟨rfl,p1⟩,λw7 e7=>⟨rfl,s5,?_⟩⟩;obtain ⟨q1,q2⟩:=p2 w7 e7;have hm7:Mod (slF t sl) w w7:=(hm6.mono λi _ hi=> .inr hi).trans (q2.mono λi _ hi=> .inl hi);have h5t:∀b,s5.bf=some b->b≠t:=λb hb=>by obtain ⟨cs',hr'⟩:=bc ho aF hb;exact hr'.ne rt6 aF
 have eX:List.Sublist (its.eraseIdx i) its:=wP ..;refine ⟨h.aa5 hm7 q1 ?_ (λz hz=> .inl (eX.subset hz)) (h.dx.sublist (eX.map _)) (h.dg.sublist (eX.map _)) ?_,hm7,λb hb=> ?_⟩
 ·have:=q2.iq ho h5t;show aE 0 tPI 1 w7 s5 ((its.eraseIdx i).map _);rw [Jz,bW,List.map_take,List.map_drop];exact this
 ·have:=eX.length_le;omega
 ·rcases iG with e|e
  ·exact .inl (by rw [<-e];exact hb)
  ·rw [e] at hb;cases hb;exact .inr (aC _)
def JP{α:Type}{f:α->Nat}{l:List α}{i:Nat}{y:α}(hd:(l.map f).Nodup)(hi:l[i]? =some y):f y ∉(l.eraseIdx i).map f:=by
 rw [Jz,bW];have e:l=l.take i++y::l.drop (i+1):=by have:=qZ i l;rw [zU (cG.1 hi).1] at this;rw [<-(cG.1 hi).2];exact this.symm
 rw [e,bW,fu] at hd;obtain ⟨h1,h2,h3⟩:=tA.1 hd;intro hm;rcases cV.1 hm with hm|hm
 ·exact h3 _ hm _ (.head _) rfl
 ·exact (oL.1 h2).1 hm
def Gd{w:World}{t st d:Nat}{r:Dm}{sl:Sl}{D:Dk}{ak limit:Int}{its:List It}(h:TO w t st d r sl D ak limit its){i:Nat}{y:It}(hi:its[i]? =some y):
  ah 74 #[t,.int .i64 (i:Nat)] w λe w'=>e=Value.pointer (aB y.x)/\∃sl',TO w' t st d r sl' D ak limit (its.eraseIdx i++ [y])/\aM (aD t st d r sl its) (aD t st d r sl' (its.eraseIdx i++ [y])) w w':=by
 apply zP.vc;have Ku:=(cG.1 hi).1;have hym:y ∈ its:=aX hi;have dN:=h.len;refine (Gc h hi).mono ?_;rintro e w0 ⟨rfl,sl0,h0,m0,b0⟩;have hy0:=h.item m0 (h.it y hym);refine ⟨_,rfl,sl0,h0.rt.at 3 rfl,λw3 e3=> ?_⟩;have x3:=aQ e3;have h3:=h0.ext x3;have eX:List.Sublist (its.eraseIdx i) its:=wP ..;have kH:(its.eraseIdx i).length=its.length-1:=by rw [List.length_eraseIdx,if_pos Ku]
 obtain ⟨hp,hr⟩:=h3.push y (hy0.ext x3) (JP h.dx hi) (JP h.dg hi) ab;refine ⟨hp,λs4 w5 bk=> ?_⟩;obtain ⟨m5,p1,p2⟩:=hr s4 w5 bk;have ht0:=h0.rt.lt;have z3:=eR e3;refine ⟨m5.same _ ab λe=>by have:=(h0.ol.own.lt e).2;omega,⟨rfl,p1⟩,λe=> ?_,λw6 e6=>⟨rfl,s4,?_⟩⟩
 ·rw [c5] at e;have:t=w0.heap.size:=by simpa [bz] using e
  omega
 ·obtain ⟨q1,q2,q3⟩:=p2 w6 e6;have z0:=m0.size;refine ⟨q1,⟨?_,?_⟩⟩
  ·have a1:Mod (aD t st d r sl its) w w3:=(m0.mono λi _ hi=>zV i hi).trans (Mod.aH x3);refine a1.tr q2 λj hj=> ?_
   rcases hj with e|e
   ·exact .inl (.inl e)
   ·rcases b0 j e with e|e
    ·exact .inl (.inr (.inr (.inr (.inr (.inl e)))))
    ·exact .inr e
  ·refine Gb (w:=w) (λb hb=> ?_) (λz hz=> .inl ?_)
   ·rcases q3 b hb with e|e
    ·exact b0 b e
    ·exact .inr ab
   ·rcases cV.1 hz with hz|hz
    ·exact eX.subset hz
    ·simp at hz;subst hz;exact hym
def TO.put{w w':World}{t st d:Nat}{r:Dm}{sl:Sl}{D:Dk}{ak limit:Int}{its:List It}(h:TO w t st d r sl D ak limit its){i:Nat}{y y':It}(hi:its[i]? =some y)(hx:y'.x=y.x)(hg:y'.g=y.g)(hm:Mod (λj=>j=y.x) w w')(hy:vQ w' y'):TO w' t st d r sl D ak limit (its.set i y'):=by
 have Ku:=(cG.1 hi).1;have hr:=(h.it y (aX hi)).r;have off:∀{j:Nat} {cs:LV} {τ:TypeId},Row w j cs τ->τ≠cJ->¬j=y.x:=λhr' ht e=>hr'.ne hr ht e
 have hpx:Dv (its.set i y')=Dv its:=by
  unfold Dv;rw [jC,hx];apply iP;intro j;rw [jR];split
  ·rename_i e;subst e;rw [if_pos (by rw [aN];exact Ku),aR,hi];rfl
  ·rfl
 have hmx:(its.set i y').map (·.x)=its.map (·.x):=by
  rw [jC,hx];apply iP;intro j;rw [jR];split
  ·rename_i e;subst e;rw [if_pos (by rw [aN];exact Ku),aR,hi];rfl
  ·rfl
 have hmg:(its.set i y').map (·.g)=its.map (·.g):=by
  rw [jC,hg];apply iP;intro j;rw [jR];split
  ·rename_i e;subst e;rw [if_pos (by rw [aN];exact Ku),aR,hi];rfl
  ·rfl
 refine ⟨hm.row h.rt (off h.rt aF),h.so.de hm (λhr' hτ=>by rcases hτ with rfl|rfl|rfl|rfl<;>exact off hr' aF) (λhmp e=>hr.jK hmp e.symm),?_,λz hz=> ?_,by rw [hmx];exact h.dx,by rw [hmg];exact h.dg,h.ZA,by rw [gW];exact h.len⟩
 ·rw [hpx];exact hm.iq h.ol λb hb=>by obtain ⟨cs',hr'⟩:=bc h.ol aF hb;exact off hr' aF
 ·obtain ⟨j,hj⟩:=wF hz;rw [jR] at hj;split at hj
  ·cases hj;exact hy
  ·rename_i jh;have hzj:=h.it z (aX hj);refine hzj.de hm (λe=> ?_) (off hzj.k.row aF) (λb hb=> ?_)
   ·
    have h1:(its.map (·.x))[i]? =some y.x:=by rw [aR,hi];rfl
    have h2:(its.map (·.x))[j]? =some z.x:=by rw [aR,hj];rfl
    have hjl:=(cG.1 hj).1;rw [e,<-h1] at h2;exact jh ((List.getElem?_inj (by rw [aN];exact hjl) h.dx).1 h2).symm
   ·obtain ⟨cs',hr'⟩:=bc hzj.k.own aF hb;exact off hr' aF
def aaj{t st d:Nat}{r:Dm}{sl:Sl}{its:List It}{i:Nat}{y y':It}(hi:its[i]? =some y)(hx:y'.x=y.x)(hg:y'.g=y.g)(hs:y'.s=y.s):∀j,aD t st d r sl (its.set i y') j->aD t st d r sl its j:=by
 rintro j (e|e|e|e|e|⟨z,hz,e⟩)
 ·exact .inl e
 ·exact .inr (.inl e)
 ·exact .inr (.inr (.inl e))
 ·exact .inr (.inr (.inr (.inl e)))
 ·exact .inr (.inr (.inr (.inr (.inl e))))
 ·rcases hX hz with hz|hz
  ·exact .inr (.inr (.inr (.inr (.inr ⟨z,hz,e⟩))))
  ·subst hz;rw [hx,hg,hs] at e;exact .inr (.inr (.inr (.inr (.inr ⟨y,aX hi,e⟩))))
abbrev En:=Po × List Int × Bool × Int
def It.ob(i:It):En:=(i.p,i.C,i.oR,i.pins)
abbrev fH(its:List It):List En:=its.map It.ob
def vp(its:List It)(i:Nat):fH (its.eraseIdx i)=(fH its).eraseIdx i:=by unfold fH;rw [Jz,Jz,bW,List.map_take,List.map_drop]
def zC(its:List It)(p:Po):bX (λe:En=>e.1==p) (fH its)=bX (λi:It=>i.p==p) its:=lL It.ob _ its
abbrev Tb:=Dk × List En
def da(D:Dk)(e:En):Dk × En × Int:=
 if e.2.2.1=true then ((yZ D (Du e.1) (sy (gV e.2.1))).1,(e.1,e.2.1,decide ((yZ D (Du e.1) (sy (gV e.2.1))).2≠0),e.2.2.2),(yZ D (Du e.1) (sy (gV e.2.1))).2) else (D,e,0)
def Mv(D:Dk)(l:List En)(i:Nat):Tb × Int:=
 match l[i]? with
 |none=>((D,l),0)
 |some e=>if (da D e).2.2=0 then (((da D e).1,l.eraseIdx i),0) else (((da D e).1,l.set i (da D e).2.1),(da D e).2.2)
def fo(limit:Int)(D:Dk)(l:List En):Tb × Int:=
 if (l.length:Int)<limit then ((D,l),0) else if bX (λe:En=>e.2.2.2==0) l<0 then ((D,l),8) else Mv D l (bX (λe:En=>e.2.2.2==0) l).toNat
def TO.aak{w:World}{t st d:Nat}{r:Dm}{sl:Sl}{D:Dk}{ak limit:Int}{its:List It}(h:TO w t st d r sl D ak limit its){j:Nat}{cs:LV}{τ:TypeId}(hr:Row w j cs τ)(h1:τ≠uB)(h2:τ≠tW):¬(j=d\/r.ls.bf=some j):=by
 rintro (e|e)
 ·exact hr.ne h.so.dk.rd h1 e
 ·obtain ⟨cs',hr'⟩:=bc h.so.dk.ol aF e;exact hr.ne hr' h2 rfl
def TO.store{w w':World}{t st d:Nat}{r r':Dm}{sl:Sl}{D D':Dk}{ak limit:Int}{its:List It}(h:TO w t st d r sl D ak limit its)(hm:Mod (λi=>i=d\/r.ls.bf=some i) w w')(hs:SO w' st d r' D'):TO w' t st d r' sl D' ak limit its:=by
 refine ⟨hm.row h.rt (h.aak h.rt aF aF),hs,hm.iq h.ol λb hb=> ?_,λy hy=> ?_,h.dx,h.dg,h.ZA,h.len⟩
 ·obtain ⟨cs',hr'⟩:=bc h.ol aF hb;exact h.aak hr' aF aF
 ·have hy':=h.it y hy;refine hy'.de hm (h.aak hy'.r aF aF) (h.aak hy'.k.row aF aF) λb hb=> ?_
  obtain ⟨cs',hr'⟩:=bc hy'.k.own aF hb;exact h.aak hr' aF aF
def FD{n:Nat}{t st d:Nat}{r r':Dm}{sl:Sl}{its:List It}(hs:∀i,dF d r' i->dF d r i\/n<=i):∀i,aD t st d r' sl its i->aD t st d r sl its i\/n<=i:=by
 rintro i (e|e|e|e|e|e)
 ·exact .inl (.inl e)
 ·exact .inl (.inr (.inl e))
 ·exact .inl (.inr (.inr (.inl e)))
 ·rcases hs i (.inr e) with q|q
  ·rcases q with q|q
   ·exact .inl (.inr (.inr (.inl q)))
   ·exact .inl (.inr (.inr (.inr (.inl q))))
  ·exact .inr q
 ·exact .inl (.inr (.inr (.inr (.inr (.inl e)))))
 ·exact .inl (.inr (.inr (.inr (.inr (.inr e)))))
def UG{t st d:Nat}{r:Dm}{sl:Sl}{its:List It}:∀i,(i=d\/r.ls.bf=some i)->aD t st d r sl its i:=by
 rintro i (e|e)
 ·exact .inr (.inr (.inl e))
 ·exact .inr (.inr (.inr (.inl (.inr (.inl e)))))
def ae2{C:List Int}:nC (sy (gV C)):=aiT _
def aiU{C:List Int}(hl:C.length=8192):(sy (gV C)).length<=65536:=by have h1:=UH (gV C);have h2:=sB C;omega
set_option maxRecDepth 100000 in
def vq{w:World}{t st d:Nat}{r:Dm}{sl:Sl}{D:Dk}{ak limit:Int}{its:List It}(h:TO w t st d r sl D ak limit its)(hW:D.l.length<=1000000){i:Nat}{y:It}(hi:its[i]? =some y):
  ah 79 #[t,.pointer (some ⟨y.x,0,none⟩)] w λe w'=>e=Value.int .i64 (da D y.ob).2.2/\∃r' y',TO w' t st d r' sl (da D y.ob).1 ak limit (its.set i y')/\y'.ob=(da D y.ob).2.1/\aM (aD t st d r sl its) (aD t st d r' sl (its.set i y')) w w':=by
 apply Bq.vc;have hym:=aX hi;have hy:=h.it y hym;have pH:its.set i y=its:=by obtain ⟨hl,he⟩:=cG.1 hi;rw [<-he];exact List.set_getElem_self hl
 refine ⟨_,hy.r.at 1 rfl,Br.mk (λhb=> ?_) (λhb=> ?_)⟩
 ·have hd:y.oR=false:=by simpa using hb
  have e:da D y.ob=(D,y.ob,0):=by unfold da;rw [if_neg (by show ¬y.oR=true;rw [hd];decide)]
  rw [e];exact ⟨rfl,r,y,by rw [pH];exact h,rfl,by rw [pH];exact aM.refl _ _⟩
 ·have hd:y.oR=true:=by simpa using hb
  have e:da D y.ob=((yZ D (Du y.p) (sy (gV y.C))).1,(y.p,y.C,decide ((yZ D (Du y.p) (sy (gV y.C))).2≠0),y.pins),(yZ D (Du y.p) (sy (gV y.C))).2):=by unfold da;rw [if_pos (by show y.oR=true;exact hd)];rfl
  rw [e];refine ⟨_,hy.r.at 0 rfl,CV (CV ⟨_,_,hy.k.pos,(xI y.p w).mono ?_⟩)⟩;rintro e w4 ⟨rfl,x4⟩;refine ⟨_,_,rfl,(UI y.p w4).mono ?_⟩;rintro e w7 ⟨rfl,x7⟩;have x07:=(x4.tr x7).tr (Ext.dr w7);have h7:=h.ext x07;have hy7:=h7.it y hym;refine ⟨_,_,rfl,_,h7.rt.at 0 rfl,_,hy7.r.at 0 rfl,(RI hy7.k).mono ?_⟩;rintro e dj ⟨yC,rfl,o13,bV⟩;have Hr:=x07.tr bV;have wB:=h.ext Hr;have hk:=hy.k;refine ⟨yC,rfl,FE (wB.rt.at 0 rfl),(CW wB.so hW (Du y.p) yC (sy (gV y.C)) (m4.H3 o13) ae2 (gx (aiU hk.len) aF)).mono ?_⟩;rintro e bO ⟨rfl,r',aj7,m14,f14,-⟩;have h14:=wB.store m14 aj7;have AN:=h14.it y hym;obtain ⟨p1,p2⟩:=AN.r.kl (j:=1) (v:=.bool ((yZ D (Du y.p) (sy (gV y.C))).2 !=0)) cp rfl;refine ⟨_,rfl,⟨rfl,p1⟩,λcF HU=> ?_⟩;obtain ⟨q1,q2⟩:=p2 cF HU;have AK:((yZ D (Du y.p) (sy (gV y.C))).2 !=0)=decide ((yZ D (Du y.p) (sy (gV y.C))).2≠0):=by rw [Bool.eq_iff_iff];simp
  rw [AK] at q1;have hy':vQ cF {y with oR:=decide ((yZ D (Du y.p) (sy (gV y.C))).2≠0)}:=⟨q1,AN.k.de q2 (λe=>AN.k.row.ne AN.r aF e) λb hb=>by obtain ⟨cs',hr'⟩:=bc AN.k.own aF hb;exact hr'.ne AN.r aF⟩;have z12:=Hr.size;have ZD:=m14.size;refine ⟨rfl,r',{y with oR:=decide ((yZ D (Du y.p) (sy (gV y.C))).2≠0)},h14.put hi rfl rfl q2 hy',rfl,?_⟩;have t1:aM (aD t st d r sl its) (aD t st d r' sl its) dj bO:=⟨m14.mono λi _ hi=>UG i hi,FD f14⟩;have t2:aM (aD t st d r' sl its) (aD t st d r' sl (its.set i {y with oR:=decide ((yZ D (Du y.p) (sy (gV y.C))).2≠0)})) bO cF:=⟨q2.mono λj _ hj=> .inr (.inr (.inr (.inr (.inr ⟨y,hym,.inl hj⟩)))),λj hj=> .inl (aaj (y':={y with oR:=decide ((yZ D (Du y.p) (sy (gV y.C))).2≠0)}) hi rfl rfl rfl j hj)⟩;exact (aM.aH Hr).trans (t1.trans t2)
abbrev wS(w:World)(t st d:Nat)(r:Dm)(sl:Sl)(ak limit:Int)(its:List It)(T:Tb)(w':World):Prop:=
 ∃r' sl' its',TO w' t st d r' sl' T.1 ak limit its'/\fH its'=T.2/\aM (aD t st d r sl its) (aD t st d r' sl' its') w w'
def Lq{its:List It}{i:Nat}{y:It}(h:its[i]? =some y):(fH its)[i]? =some y.ob:=by rw [aR,h];rfl
def Eu{its:List It}{i:Nat}{y':It}{e:En}(h:y'.ob=e):fH (its.set i y')=(fH its).set i e:=by unfold fH;rw [jC,h]
def aaO{D:Dk}{l:List En}{i:Nat}{e:En}(h:l[i]? =some e):Mv D l i=if (da D e).2.2=0 then (((da D e).1,l.eraseIdx i),0) else (((da D e).1,l.set i (da D e).2.1),(da D e).2.2):=by unfold Mv;rw [h]
def Ol{w w':World}{t st d:Nat}{r:Dm}{sl sl':Sl}{its its':List It}(hm:Mod (slF t sl) w w')(hb:∀b,sl'.bf=some b->sl.bf=some b\/w.heap.size<=b)(hs:∀y ∈ its',y ∈ its):aM (aD t st d r sl its) (aD t st d r sl' its') w w':=
 ⟨hm.mono λi _ hi=>zV i hi,Gb hb λy hy=> .inl (hs y hy)⟩
set_option maxRecDepth 100000 in
def WS{w:World}{t st d:Nat}{r:Dm}{sl:Sl}{D:Dk}{ak limit:Int}{its:List It}(h:TO w t st d r sl D ak limit its)(hW:D.l.length<=1000000):
  ah 75 #[t] w λe w'=>e=Value.int .i64 (fo limit D (fH its)).2/\wS w t st d r sl ak limit its (fo limit D (fH its)).1 w'/\((fo limit D (fH its)).2=0->((fo limit D (fH its)).1.2.length:Int)+1<=limit):=by
 apply BC.vc;have hd:=h.ext (Ext.dr w);have hn:=h.n;have hol:(fH its).length=its.length:=by rw [aN]
 have dN:=h.len;have adC:=h.ZA;refine ⟨sl,hd.rt.at 3 rfl,limit,hd.rt.at 2 rfl,Br.mk (λhb=> ?_) (λhb=> ?_)⟩
 ·replace hb:=nA hb;have e:fo limit D (fH its)=((D,fH its),0):=by unfold fo;rw [if_pos ab]
  rw [e];exact ⟨rfl,⟨r,sl,its,hd,rfl,aM.aH (Ext.dr w)⟩,λ_=>by simp only;omega⟩
 ·replace hb:=nN hb;refine ⟨sl,hd.rt.at 3 rfl,(uF sl its (·.x) _ (λi=>i.pins==0) w.drew (hd.ol.rd aF) ab ?_).mono ?_⟩
  ·intro y hy w' x';refine cX (by kernel_rfl) (by rfl) ?_;apply xP.vc;have hy':=(hd.it y hy).ext x';exact ⟨_,hy'.r.at 2 rfl,rfl,Ext.cM _⟩
  ·rintro e w3 ⟨rfl,x3⟩;have h3:=hd.ext x3;have Zj:bX (λe:En=>e.2.2.2==0) (fH its)=bX (λi:It=>i.pins==0) its:=lL It.ob _ its;have Cc:Ext w w3:=(Ext.dr w).tr x3;refine ⟨_,rfl,Br.mk (λkE=> ?_) (λkE=> ?_)⟩
   ·replace kE:=nA kE;have e:fo limit D (fH its)=((D,fH its),8):=by unfold fo;rw [if_neg ab,if_pos ab]
    rw [e];exact ⟨rfl,⟨r,sl,its,h3,rfl,aM.aH Cc⟩,λh=>by simp at h⟩
   ·replace kE:=nN kE;rcases dD (λi:It=>i.pins==0) its with ⟨h1,-⟩|⟨k,y,hk,-,hfk,-⟩
    ·omega
    ·have e:fo limit D (fH its)=Mv D (fH its) k:=by unfold fo;rw [if_neg ab,if_neg ab,Zj,hfk];rfl
     rw [hfk,e,aaO (Lq hk)];obtain ⟨a1,a2⟩:=h3.at hk;have QQ:=(cG.1 hk).1;refine ⟨sl,h3.rt.at 3 rfl,a1,_,a2,(vq h3 hW hk).mono ?_⟩;rintro e w7 ⟨rfl,r',y',h7,Vx,t7⟩;refine ⟨_,rfl,Br.mk (λhz=> ?_) (λhz=> ?_)⟩
     ·have hz:=cU hz;have hk':(its.set k y')[k]? =some y':=pR QQ;refine (Gc h7 hk').mono ?_;rintro e w9 ⟨rfl,sl',h9,m9,b9⟩;rw [List.eraseIdx_set_eq] at h9;refine ⟨_,rfl,?_⟩;rw [if_pos hz];refine ⟨by rw [hz],⟨r',sl',_,h9,vp _ _,(aM.aH Cc).trans (t7.trans (Ol m9 b9 λz hz=> ?_))⟩,λ_=> ?_⟩
      ·rw [<-List.eraseIdx_set_eq (l:=its) (i:=k) (a:=y')] at hz;exact (wP ..).subset hz
      ·simp only [List.length_eraseIdx];split<;>omega
     ·have hz:=cU hz;rw [if_neg hz];exact ⟨rfl,⟨r',sl,_,h7,Eu Vx,(aM.aH Cc).trans t7⟩,λq=>absurd q hz⟩
def Ev(D:Dk)(e:En):(da D e).1.l.length<=D.l.length+1:=by
 unfold da;split
 ·exact Z7 _ _ _
 ·exact oN _
def ahp(D:Dk)(l:List En)(i:Nat):(Mv D l i).1.1.l.length<=D.l.length+1:=by
 unfold Mv;split
 ·exact oN _
 ·split<;>exact Ev _ _
def Lr(limit:Int)(D:Dk)(l:List En):(fo limit D l).1.1.l.length<=D.l.length+1:=by
 unfold fo;split
 ·exact oN _
 ·split
  ·exact oN _
  ·exact ahp _ _ _
def afg{p:Po}(h:tp p):VW p:=by unfold tp at h;unfold VW;omega
def xV(ak:Int)(p:Po)(b:List Int):List Int:=if (jX cK b 8192).2=0 then cE (jX cK b 8192).1 else made ak p
def DK(ak limit:Int)(D:Dk)(l:List En)(p:Po):Tb × Int:=
 if ¬tp p then ((D,l),5)
 else if 0<=bX (λe:En=>e.1==p) l then ((D,l.eraseIdx (bX (λe:En=>e.1==p) l).toNat++l[(bX (λe:En=>e.1==p) l).toNat]?.toList),0)
 else if (fo limit D l).2≠0 then fo limit D l
 else (((fo limit D l).1.1,(fo limit D l).1.2++ [(p,xV ak p (Jo (fo limit D l).1.1 (Du p)).1,false,0)]),0)
set_option maxRecDepth 100000 in
def gD{w v:World}{t st d:Nat}{r:Dm}{sl:Sl}{D:Dk}{ak limit:Int}{its:List It}(h:TO v t st d r sl D ak limit its)(hw:w.heap.size<v.heap.size)(hwf:¬aD t st d r sl its w)(htw:t<w)(hr:(its.length:Int)+1<=limit){g:Nat}{s:Sl}{p:Po}{C:List Int}(hk:Ih v g s p C)(hg:g ∉ its.map (·.g))(u:World)(hn:u.heap.size<=v.heap.size)(hgn:u.heap.size<=g)(u9:∀b,s.bf=some b->u.heap.size<=b)
  {K:World->Prop}(hK:∀w',(∃s' y,TO w' t st d r s' D ak limit (its++ [y])/\y.ob=(p,C,false,0)/\(∀i,aD t st d r s' (its++ [y]) i->aD t st d r sl its i\/u.heap.size<=i)/\Mod (aD t st d r sl its) v w')->K w'):
  ∃(Uf:Sl),ld v (ae (aB t) 3)=some (.slice Uf.a Uf.n Uf.c)/\
   ∀dP:World,dP=v.alloc (.cells #[g,false,aa] cJ)->
   ∀eP:World,eP=dP.alloc (.cells #[v] tPI)->
   ba 8 1 eP ⟨Uf.a,Uf.n,Uf.c⟩ 1 [v]/\∀(wE:Sl)(cW:World),aY tPI 1 eP ⟨Uf.a,Uf.n,Uf.c⟩ 1 [v] wE cW->cW.heap[w.heap.size]? =eP.heap[w.heap.size]?/\cW.heap[dP.heap.size]? =eP.heap[dP.heap.size]?/\
    (true=true/\Wr cW (ae (aB t) 3) 1)/\bz (ae (aB t) 3)≠some w.heap.size/\bz (ae (aB t) 3)≠some dP.heap.size/\(∀fx:World,fx=aL cW (ae (aB t) 3) [.slice wE.a wE.n wE.c]->K fx):=by
 refine ⟨sl,h.rt.at 3 rfl,λdP HI eP VC=> ?_⟩;have ef:=aQ HI;have dG:=aQ VC;have z22:=eR HI;have z23:eP.heap.size=v.heap.size+2:=by rw [VC];simp [z22]
 have hy:vQ eP ⟨v.heap.size,g,s,p,C,false,0⟩:=⟨(by rw [HI];exact Row.new v [_,_,_] _:Row dP v.heap.size [g,false,aa] cJ).ext dG,(hk.ext ef).ext dG⟩;have h23:=(h.ext ef).ext dG;have hxn:v.heap.size ∉ its.map (·.x):=λhm=>by obtain ⟨z,hz,e⟩:=aW.1 hm;have:=(h.it z hz).r.lt;omega
 obtain ⟨hp,bk⟩:=h23.push _ hy hxn hg hr;refine ⟨hp,λwE cW agN=> ?_⟩;obtain ⟨m25,p1,p2⟩:=bk wE cW agN;have pb:∀j:Nat,t<j->bz (ae (aB t) 3)≠some j:=λj hj e=>by
  rw [c5] at e;have:t=j:=by simpa [bz] using e
  omega
 have htl:=h.rt.lt;refine ⟨m25.same _ ab λe=>hwf (.inr (.inr (.inr (.inr (.inl e))))),m25.same _ ab λe=>by have:=(h.ol.own.lt e).2;omega,⟨rfl,p1⟩,pb _ htw,pb _ ab,λfx A1=>hK fx ⟨wE,⟨v.heap.size,g,s,p,C,false,0⟩,?_,rfl,?_,?_⟩⟩
 ·exact (p2 fx A1).1
 ·obtain ⟨-,q2,q3⟩:=p2 fx A1;rintro i hi;exact Gb (w:=u) (sl:=sl) (its:=its) (λb hb=>(q3 b hb).imp id λe=>by omega) (λz hz=>by
   rcases cV.1 hz with hz|hz
   ·exact .inl hz
   ·simp at hz;subst hz;exact .inr ⟨hn,hgn,u9⟩) i hi
 ·obtain ⟨-,q2,q3⟩:=p2 fx A1;exact (Mod.aH (ef.tr dG)).trans (q2.mono λi _ hi=>zV i hi)
set_option maxRecDepth 100000 in
def WT{w:World}{t st d:Nat}{r:Dm}{sl:Sl}{D:Dk}{ak limit:Int}{its:List It}(h:TO w t st d r sl D ak limit its)(hW:D.l.length<=1000000)(p:Po):
  ah 20 #[t,pv p] w λe w'=>e=Value.int .i64 (DK ak limit D (fH its) p).2/\wS w t st d r sl ak limit its (DK ak limit D (fH its) p).1 w':=by
 apply BA.vc;intro w0 e0;have z0:=eR e0;have x0:=aQ e0;refine (UI p w0).mono ?_;rintro e w1 ⟨rfl,x1⟩;have z1:=x1.size;have jQ:=x0.tr x1;refine ⟨_,_,rfl,x1.heap ab,?_⟩;by_cases pc:tp p
 ·rw [decide_eq_true pc];refine Br.mk (λh=>by cases h) (λ_=> ?_);have h1:=h.ext jQ;refine (find_spec h1 p).mono ?_;rintro e w4 ⟨rfl,x4⟩;have z4:=x4.size;have Dp:=jQ.tr x4;have h4:=h.ext Dp;have Zj:bX (λe:En=>e.1==p) (fH its)=bX (λi:It=>i.p==p) its:=lL It.ob _ its;have bx:¬aD t st d r sl its w:=λhf=>by have:=h.lt hf;omega
  refine ⟨_,rfl,x4.heap ab,?_⟩;rcases dD (λi:It=>i.p==p) its with ⟨hf,-⟩|⟨k,y,hk,-,hf,-⟩
  ·rw [hf];refine Br.mk (λh=>by simp at h) (λ_=> ?_);have hE:DK ak limit D (fH its) p=if (fo limit D (fH its)).2≠0 then fo limit D (fH its) else (((fo limit D (fH its)).1.1,(fo limit D (fH its)).1.2++ [(p,xV ak p (Jo (fo limit D (fH its)).1.1 (Du p)).1,false,0)]),0):=by unfold DK;rw [if_neg (by simpa using pc),Zj,hf,if_neg aF]
   rw [hE];refine (WS h4 hW).mono ?_;rintro e w8 ⟨rfl,⟨r8,sl8,its8,h8,yM,t8⟩,hl8⟩;have hWl:((fo limit D (fH its)).1.1).l.length<=1000001:=by have:=Lr limit D (fH its);omega
   generalize fo limit D (fH its)=R at*;have z8:=t8.mod.size;have t08:aM (aD t st d r sl its) (aD t st d r8 sl8 its8) w w8:=(aM.aH Dp).trans t8;refine ⟨_,rfl,t8.mod.same _ ab bx,Br.mk (λhb=> ?_) (λhb=> ?_)⟩
   ·have jh:=cU hb;rw [if_pos jh];exact ⟨rfl,r8,sl8,its8,h8,yM,t08⟩
   ·have he:=cU hb;rw [if_neg (by rw [he];decide)];have hroom:=hl8 he;rw [<-yM,aN] at hroom;refine ⟨_,h8.rt.at 0 rfl,(Om h8.so ab _).mono ?_⟩;rintro e bg ⟨kg,rfl,akU,hby,lr,hsc,-,bu⟩;have z11:=bu.size;have bx8:¬aD t st d r8 sl8 its8 w:=λhf=>by
     rcases t8.sub _ hf with q|q
     ·exact bx q
     ·have:=Dp.size;omega
    refine ⟨kg,_,_,rfl,bu.heap ab,?_⟩;refine (WU p kg (Jo R.1.1 (Du p)).1 bg akU hby hsc ab).mono ?_;rintro e dB ⟨bk,cw⟩;have z15:=cw.size;have htw:=h.rt.lt;have fin:∀{w' v:World} {C:List Int},Ext w8 v->(∃s' y,TO w' t st d r8 s' R.1.1 ak limit (its8++ [y])/\y.ob=(p,C,false,0)/\(∀i,aD t st d r8 s' (its8++ [y]) i->aD t st d r8 sl8 its8 i\/w8.heap.size<=i)/\Mod (aD t st d r8 sl8 its8) v w')->C=xV ak p (Jo R.1.1 (Du p)).1->
      Ending.returned (0:Int)=(0:Int)/\wS w t st d r sl ak limit its (R.1.1,R.1.2++ [(p,xV ak p (Jo R.1.1 (Du p)).1,false,0)]) w':=by
     rintro w' v C xv ⟨s',y,hT,Vx,eX,hm⟩ rfl;refine ⟨rfl,r8,s',_,hT,?_,t08.trans ⟨(Mod.aH xv).trans hm,eX⟩⟩;unfold fH;rw [bW];change fH its8++ [y.ob]=_;rw [yM,Vx]
    rcases bk with ⟨hz,g,sg,rfl,hk,hg,-,hgb⟩|⟨hz,rfl⟩
    ·refine ⟨_,_,rfl,cw.heap ab,Br.mk (λq=>by simp at q) (λ_=> ?_)⟩;have adD:=bu.tr cw;have h15:=h8.ext adD;have hgn:g ∉ its8.map (·.g):=λhm=>by obtain ⟨z,hz,e⟩:=aW.1 hm;have:=(h8.it z hz).k.row.lt;omega
     refine gD (w:=w) h15 ab bx8 htw hroom hk hgn w8 ab ab (λb hb=>by have:=hgb b hb;omega) λw' hw'=>fin adD hw' ?_
     unfold xV;rw [if_pos hz]
    ·refine ⟨_,_,rfl,cw.heap ab,Br.mk (λ_=> ?_) (λq=>by simp at q;exact absurd q hz)⟩;have adD:=bu.tr cw.drew;have h15:=h8.ext adD;refine ⟨ak,h15.rt.at 1 rfl,(Sf ak p (afg pc) dB.drew).mono ?_⟩;rintro e gg ⟨g,sg,rfl,hk,cu,hg,Q3⟩;have z19:=cu.size;have zd:=lE dB;have h19:=h15.ext cu;have hgn:g ∉ its8.map (·.g):=λhm=>by obtain ⟨z,hz,e⟩:=aW.1 hm;have:=(h15.it z hz).k.row.lt;omega
     refine ⟨_,rfl,cu.heap ab,gD (w:=w) h19 ab bx8 htw hroom hk hgn w8 ab ab (λb hb=>by have:=Q3 b hb;omega) λw' hw'=>fin (adD.tr cu) hw' ?_⟩;unfold xV;rw [if_neg hz]
  ·rw [hf];refine Br.mk (λ_=> ?_) (λh=>by simp at h);have hE:DK ak limit D (fH its) p=((D,(fH its).eraseIdx k++ [y.ob]),0):=by unfold DK;rw [if_neg (by simpa using pc),Zj,hf,if_pos ab,dQ,aR,hk];rfl
   rw [hE];refine (Gd h4 hk).mono ?_;rintro e w6 ⟨rfl,sl6,h6,t6⟩;have z6:=t6.mod.size;refine ⟨_,rfl,t6.mod.same _ ab bx,rfl,r,sl6,_,h6,?_,(aM.aH Dp).trans t6⟩;unfold fH;rw [bW];change fH _++_=_;rw [vp];rfl
 ·rw [decide_eq_false pc];refine Br.mk (λ_=> ?_) (λh=>by cases h);have hE:DK ak limit D (fH its) p=((D,fH its),5):=by unfold DK;rw [if_pos pc]
  rw [hE];exact ⟨rfl,r,sl,its,h.ext jQ,rfl,aM.aH jQ⟩
def yes{b:Bool}{A B:Prop}(hb:b=true)(h:A):Br b A B:=by subst hb;exact h
def fP{b:Bool}{A B:Prop}(hb:b=false)(h:B):Br b A B:=by subst hb;exact h
def kZ(D:Dk)(l:List En)(p:Po):Tb × Int:=
 if 0<=bX (λe:En=>e.1==p) l then
  (if 0<(l[(bX (λe:En=>e.1==p) l).toNat]?.map (·.2.2.2)).getD 0 then ((D,l),10) else Mv D l (bX (λe:En=>e.1==p) l).toNat) else ((D,l),6)
def Oz{w:World}{t st d:Nat}{r:Dm}{sl:Sl}{D:Dk}{ak limit:Int}{its:List It}(h:TO w t st d r sl D ak limit its)(hW:D.l.length<=1000000)(p:Po):
  ah 21 #[t,pv p] w λe w'=>e=Value.int .i64 (kZ D (fH its) p).2/\wS w t st d r sl ak limit its (kZ D (fH its) p).1 w':=by
 apply xR.vc;intro w0 e0;have z0:=eR e0;have x0:=aQ e0;have h0:=h.ext x0;refine (find_spec h0 p).mono ?_;rintro e w1 ⟨rfl,x1⟩;have z1:=x1.size;have jQ:=x0.tr x1;have h1:=h.ext jQ;have bx:¬aD t st d r sl its w:=λhf=>by have:=h.lt hf;omega
 refine ⟨_,rfl,x1.heap ab,?_⟩;rcases dD (λi:It=>i.p==p) its with ⟨hf,-⟩|⟨k,y,hk,hyp,hf,-⟩
 ·have hE:kZ D (fH its) p=((D,fH its),6):=by unfold kZ;rw [zC,hf,if_neg aF]
  rw [hf,hE];exact Br.mk (λ_=>⟨rfl,r,sl,its,h1,rfl,aM.aH jQ⟩) (λh=>by simp at h)
 ·have Vx:(fH its)[k]?.map (·.2.2.2)=some y.pins:=by rw [aR,hk];rfl
  have hE:kZ D (fH its) p=if 0<y.pins then ((D,fH its),10) else Mv D (fH its) k:=by unfold kZ;rw [zC,hf,if_pos ab,dQ,Vx];rfl
  rw [hf,hE];refine Br.mk (λh=>by simp at h;omega) (λ_=> ?_);have hym:=aX hk;have hy:=h1.it y hym;have QQ:=(cG.1 hk).1;obtain ⟨a1,a2⟩:=h1.at hk;refine ⟨sl,h1.rt.at 3 rfl,a1,_,a2,CV (CV ⟨y.pins,hy.r.at 2 rfl,Br.mk (λhb=> ?_) (λhb=> ?_)⟩)⟩
  ·have hz:=cU hb;rw [if_pos hz];exact ⟨rfl,r,sl,its,h1,rfl,aM.aH jQ⟩
  ·have hz:=cU hb;rw [if_neg hz,aaO (Lq hk)];refine ⟨sl,h1.rt.at 3 rfl,a1,_,a2,(vq h1 hW hk).mono ?_⟩;rintro e w8 ⟨rfl,r',y',h8,hob8,t8⟩;have z8:=t8.mod.size;refine ⟨_,rfl,t8.mod.same _ ab bx,Br.mk (λhz=> ?_) (λhz=> ?_)⟩
   ·have hz:=cU hz;have hk':(its.set k y')[k]? =some y':=pR QQ;refine (Gc h8 hk').mono ?_;rintro e w9 ⟨rfl,sl',h9,m9,b9⟩;rw [List.eraseIdx_set_eq] at h9;have bx8:¬slF t sl w:=λq=>bx (zV _ q)
    refine ⟨_,rfl,m9.same _ ab bx8,?_⟩;rw [if_pos hz];refine ⟨by rw [hz],r',sl',_,h9,vp _ _,(aM.aH jQ).trans (t8.trans (Ol m9 b9 λz hz=> ?_))⟩;rw [<-List.eraseIdx_set_eq (l:=its) (i:=k) (a:=y')] at hz;exact (wP ..).subset hz
   ·have hz:=cU hz;rw [if_neg hz];exact ⟨rfl,r',sl,_,h8,Eu hob8,(aM.aH jQ).trans t8⟩
def UY(D:Dk)(l:List En)(p:Po):Tb × Int:=
 if 0<=bX (λe:En=>e.1==p) l then
  match l[(bX (λe:En=>e.1==p) l).toNat]? with
  |some e=>(((da D e).1,l.set (bX (λe:En=>e.1==p) l).toNat (da D e).2.1),(da D e).2.2)
  |none=>((D,l),0)
 else ((D,l),6)
def Su{w:World}{t st d:Nat}{r:Dm}{sl:Sl}{D:Dk}{ak limit:Int}{its:List It}(h:TO w t st d r sl D ak limit its)(hW:D.l.length<=1000000)(p:Po):
  ah 23 #[t,pv p] w λe w'=>e=Value.int .i64 (UY D (fH its) p).2/\wS w t st d r sl ak limit its (UY D (fH its) p).1 w':=by
 apply Ag.vc;intro w0 e0;have z0:=eR e0;have x0:=aQ e0;refine (find_spec (h.ext x0) p).mono ?_;rintro e w1 ⟨rfl,x1⟩;have z1:=x1.size;have jQ:=x0.tr x1;have h1:=h.ext jQ;have bx:¬aD t st d r sl its w:=λhf=>by have:=h.lt hf;omega
 refine ⟨_,rfl,x1.heap ab,?_⟩;rcases dD (λi:It=>i.p==p) its with ⟨hf,-⟩|⟨k,y,hk,hyp,hf,-⟩
 ·have hE:UY D (fH its) p=((D,fH its),6):=by unfold UY;rw [zC,hf,if_neg aF]
  rw [hf,hE];exact Br.mk (λ_=>⟨rfl,r,sl,its,h1,rfl,aM.aH jQ⟩) (λh=>by simp at h)
 ·have hE:UY D (fH its) p=(((da D y.ob).1,(fH its).set k (da D y.ob).2.1),(da D y.ob).2.2):=by unfold UY;rw [zC,hf,if_pos ab,dQ,Lq hk]
  rw [hf,hE];refine Br.mk (λh=>by simp at h;omega) (λ_=> ?_);obtain ⟨a1,a2⟩:=h1.at hk;refine ⟨sl,h1.rt.at 3 rfl,a1,_,a2,(vq h1 hW hk).mono ?_⟩;rintro e w8 ⟨rfl,r',y',h8,hob8,t8⟩;have z8:=t8.mod.size;exact ⟨_,rfl,t8.mod.same _ ab bx,rfl,r',sl,_,h8,Eu hob8,(aM.aH jQ).trans t8⟩
def Sv(D:Dk)(pre:List En):List En->Int->Tb × Int × Int
 | [],n=>((D,pre),n,0)
 |e::t,n=>if (da D e).2.2=0 then Sv (da D e).1 (pre++ [(da D e).2.1]) t (if e.2.2.1=true then n+1 else n) else (((da D e).1,pre++(da D e).2.1::t),n,(da D e).2.2)
def kv(D:Dk)(l:List En):Tb × Int × Int:=Sv D [] l 0
def ajc{D:Dk}{l pre:List En}{n:Int}{k:Nat}{e:En}(h:l[k]? =some e):Sv D pre (l.drop k) n=if (da D e).2.2=0 then Sv (da D e).1 (pre++ [(da D e).2.1]) (l.drop (k+1)) (if e.2.2.1=true then n+1 else n) else (((da D e).1,pre++(da D e).2.1::l.drop (k+1)),n,(da D e).2.2):=by have hk:=cG.1 h;rw [zU hk.1,hk.2];rfl
set_option maxRecDepth 100000 in
def Ij{w:World}{t st d:Nat}{r:Dm}{sl:Sl}{D:Dk}{ak limit:Int}{its:List It}(h:TO w t st d r sl D ak limit its)(hW:D.l.length<=900000):
  ah 22 #[t] w λe w'=>e=Value.tuple #[.int .i64 (kv D (fH its)).2.1,.int .i64 (kv D (fH its)).2.2]/\wS w t st d r sl ak limit its (kv D (fH its)).1 w':=by
 apply uI.vc;have hn:=h.n;have dN:=h.len;have adC:=h.ZA;refine ⟨sl,h.rt.at 3 rfl,λn i c wr=>∃(k:Nat)(D':Dk)(r':Dm)(its':List It),i=k/\k+n=its.length/\0<=c/\c<=k/\D'.l.length<=D.l.length+k/\TO wr t st d r' sl D' ak limit its'/\its'.length=its.length/\its'.drop k=its.drop k/\Sv D' ((fH its').take k) ((fH its').drop k) c=kv D (fH its)/\aM (aD t st d r sl its) (aD t st d r' sl its') w wr,
  ⟨its.length,0,D,r,its,rfl,by omega,oP 0,oP 0,by omega,h,rfl,rfl,rfl,aM.refl _ _⟩,?_⟩
 rintro n us i c wr ⟨k,D',r',its',rfl,hk,c0,ck,hl,hT,VB,hdr,Hm,ht⟩;have aBq:(fH its').length=its'.length:=by rw [aN]
 apply Br.mk<;>intro hc
 ·replace hc:=nA hc;obtain ⟨y,hy⟩:=bE (l:=its') (i:=k) ab;have hyr:=hT.it y (aX hy);obtain ⟨a1,a2⟩:=hT.at hy;have QQ:k<its'.length:=by omega
  have hn':=hT.n;have wk:=nS (j:=k);have wc:ao (c+1)=c+1:=wI;rw [ajc (Lq hy)] at Hm;have pw:=Ev D' y.ob;refine ⟨a1,_,a2,CV (CV ⟨_,hyr.r.at 1 rfl,(vq hT ab hy).mono ?_⟩)⟩;rintro e bP ⟨rfl,r2,y',h10,Vx,t10⟩;have pH:fH (its'.set k y')=(fH its').set k (da D' y.ob).2.1:=Eu Vx;have hln2:(its'.set k y').length=its'.length:=gW;have xi:(fH (its'.set k y')).take (k+1)=(fH its').take k++ [(da D' y.ob).2.1]:=by rw [pH,dR,pR ab,List.take_set_of_le (aC _)];rfl
  have hdk:(fH (its'.set k y')).drop (k+1)=(fH its').drop (k+1):=by rw [pH,List.drop_set_of_lt ab]
  refine ⟨_,rfl,Br.mk (λhb=> ?_) (λhb=> ?_)⟩
  ·have hz:=cU hb;rw [if_neg hz] at Hm;rw [<-Hm];refine ⟨rfl,r2,sl,_,h10,?_,ht.trans t10⟩;rw [pH];show _=(fH its').take k++(da D' y.ob).2.1::(fH its').drop (k+1);rw [List.set_eq_take_append_cons_drop,if_pos ab]
  ·have hz:=cU hb;rw [if_pos hz] at Hm;have hdd:(its'.set k y').drop (k+1)=its.drop (k+1):=by rw [List.drop_set_of_lt ab];have:=congrArg (List.drop 1) hdr;rwa [List.drop_drop,List.drop_drop] at this
   apply Br.mk<;>intro hd
   ·have hd':y.ob.2.2.1=true:=hd;rw [if_pos hd'] at Hm;exact ⟨n-1,by omega,k+1,_,r2,_,wk,by omega,by rw [wc];omega,by rw [wc];omega,by omega,h10,by rw [hln2,VB],hdd,by rw [wc,xi,hdk];exact Hm,ht.trans t10⟩
   ·have hd':¬y.ob.2.2.1=true:=by show ¬y.oR=true;rw [hd];decide
    rw [if_neg hd'] at Hm;exact ⟨n-1,by omega,k+1,_,r2,_,wk,by omega,c0,by omega,by omega,h10,by rw [hln2,VB],hdd,by rw [xi,hdk];exact Hm,ht.trans t10⟩
 ·replace hc:=nN hc;rw [Js ab,fN ab] at Hm;rw [<-Hm];exact ⟨rfl,r',sl,its',hT,rfl,ht⟩
def Xd{w:World}{t st d:Nat}{r:Dm}{sl:Sl}{D:Dk}{ak limit:Int}{its:List It}(h:TO w t st d r sl D ak limit its)(hW:D.l.length<=1000000)(s:Sl)(b:List Int)(hs:ij w s b)(hb:nC b)(hn:b.length<=1099511627776):
  ah 61 #[t,s] w λe w'=>e=Value.int .i64 (yZ D 0 b).2/\wS w t st d r sl ak limit its ((yZ D 0 b).1,fH its) w':=by
 apply (BN.vc (a1:=s));refine ⟨_,h.rt.at 0 rfl,(CW h.so hW 0 s b hs hb hn).mono ?_⟩;rintro e w1 ⟨rfl,r',h1,m1,f1,-⟩;exact ⟨_,rfl,rfl,r',sl,its,h.store m1 h1,rfl,m1.mono λi _ hi=>UG i hi,FD f1⟩
def Xe{w:World}{t st d:Nat}{r:Dm}{sl:Sl}{D:Dk}{ak limit:Int}{its:List It}(h:TO w t st d r sl D ak limit its):
  ah 37 #[t] w λe w'=>∃s':Sl,e=s'/\aE w Zz 2 w' s' ((fH its).map λe=> [.int .i64 e.1.1,.int .i64 e.1.2])/\Ext w w':=by
 apply By.vc;have hn:=h.n;have dN:=h.len;have adC:=h.ZA;refine ⟨sl,h.rt.at 3 rfl,λn i so wr=>∃k:Nat,i=k/\k+n=its.length/\Ext w wr/\aE w Zz 2 wr so (((fH its).take k).map λe=> [.int .i64 e.1.1,.int .i64 e.1.2]),⟨its.length,0,rfl,by omega,Ext.cM _,aE.nil⟩,?_⟩;rintro n us i so wr ⟨k,rfl,hk,xr,ho⟩;have VD:=nS (j:=k);have hol:(fH its).length=its.length:=by rw [aN]
 apply Br.mk<;>intro hc
 ·replace hc:=nA hc;obtain ⟨y,hy⟩:=bE (l:=its) (i:=k) ab;have hr:=h.ext xr;obtain ⟨a1,a2⟩:=hr.at hy;have hyr:=hr.it y (aX hy);refine ⟨a1,_,a2,CV (CV ⟨_,hyr.r.at 0 rfl,CV (CV ⟨_,_,hyr.k.pos,(xI y.p wr).mono ?_⟩)⟩)⟩;rintro e dj ⟨rfl,bV⟩;refine ⟨_,_,rfl,λdB pN=> ?_⟩;have cw:=aQ pN;have z12:=bV.size;have zr:=xr.size;have z15:=eR pN;have YT:=(ho.ext bV).ext cw;have hso:=(ho.rd (show 0<2 by decide)).n;rw [aN,dK] at hso;obtain ⟨hp,bk⟩:=YT.append (bytes:=16) (news:=[.int .i64 y.p.1,.int .i64 y.p.2]) ab rfl (Bc _ _ _ _) ab ab;refine ⟨hp,λZL cL adH=> ?_⟩;obtain ⟨auq,aBr,xb,Q0,-⟩:=bk ZL cL adH;refine ⟨Q0 _ (λe=>by have:=(ho.own.lt e).2;omega) ab,n-1,by omega,k+1,VD,by omega,(xr.tr (bV.tr cw)).trans xb,?_⟩;have:(fH its).take (k+1)=(fH its).take k++ [y.ob]:=by rw [dR,aR,hy];rfl
  rw [this,bW];exact auq
 ·replace hc:=nN hc;rw [fN ab] at ho;exact ⟨so,rfl,ho,xr⟩
def lQ{w:World}{p:Option Addr}{v:Value}(h:ld w p=some v):af w p 0 [v]:=by show ld w (ae p 0)=_;rw [ik];exact h
def TO.afx{w w':World}{t st d:Nat}{r:Dm}{sl:Sl}{D:Dk}{ak limit:Int}{its:List It}(h:TO w t st d r sl D ak limit its){i:Nat}{y y':It}(hi:its[i]? =some y)(hx:y'.x=y.x)(hg:y'.g=y.g)(hm:Mod (λj=>j=y.x\/j=y.g) w w')(hy:vQ w' y'):TO w' t st d r sl D ak limit (its.set i y'):=by
 have Ku:=(cG.1 hi).1;have hr:=(h.it y (aX hi)).r;have hrg:=(h.it y (aX hi)).k.row;have off:∀{j:Nat} {cs:LV} {τ:TypeId},Row w j cs τ->τ≠cJ->τ≠yc->¬(j=y.x\/j=y.g):=λhr' ht hc e=>by
  rcases e with e|e
  ·exact hr'.ne hr ht e
  ·exact hr'.ne hrg hc e
 have hpx:Dv (its.set i y')=Dv its:=by
  unfold Dv;rw [jC,hx];apply iP;intro j;rw [jR];split
  ·rename_i e;subst e;rw [if_pos (by rw [aN];exact Ku),aR,hi];rfl
  ·rfl
 have hmx:(its.set i y').map (·.x)=its.map (·.x):=by
  rw [jC,hx];apply iP;intro j;rw [jR];split
  ·rename_i e;subst e;rw [if_pos (by rw [aN];exact Ku),aR,hi];rfl
  ·rfl
 have hmg:(its.set i y').map (·.g)=its.map (·.g):=by
  rw [jC,hg];apply iP;intro j;rw [jR];split
  ·rename_i e;subst e;rw [if_pos (by rw [aN];exact Ku),aR,hi];rfl
  ·rfl
 refine ⟨hm.row h.rt (off h.rt aF aF),h.so.de hm (λhr' hτ=>by rcases hτ with rfl|rfl|rfl|rfl<;>exact off hr' aF aF) (λhmp e=>by
   rcases e with e|e
   ·exact hr.jK hmp e.symm
   ·exact hrg.jK hmp e.symm),?_,λz hz=> ?_,by rw [hmx];exact h.dx,by rw [hmg];exact h.dg,h.ZA,by rw [gW];exact h.len⟩
 ·rw [hpx];exact hm.iq h.ol λb hb=>by obtain ⟨cs',hr'⟩:=bc h.ol aF hb;exact off hr' aF aF
 ·obtain ⟨j,hj⟩:=wF hz;rw [jR] at hj;split at hj
  ·cases hj;exact hy
  ·rename_i jh;have hzj:=h.it z (aX hj);have hjl:=(cG.1 hj).1;refine hzj.de hm ?_ ?_ (λb hb=> ?_)
   ·rintro (e|e)
    ·have h1:(its.map (·.x))[i]? =some y.x:=by rw [aR,hi];rfl
     have h2:(its.map (·.x))[j]? =some z.x:=by rw [aR,hj];rfl
     rw [e,<-h1] at h2;exact jh ((List.getElem?_inj (by rw [aN];exact hjl) h.dx).1 h2).symm
    ·exact hzj.r.ne hrg aF e
   ·rintro (e|e)
    ·exact hzj.k.row.ne hr aF e
    ·have h1:(its.map (·.g))[i]? =some y.g:=by rw [aR,hi];rfl
     have h2:(its.map (·.g))[j]? =some z.g:=by rw [aR,hj];rfl
     rw [e,<-h1] at h2;exact jh ((List.getElem?_inj (by rw [aN];exact hjl) h.dg).1 h2).symm
   ·obtain ⟨cs',hr'⟩:=bc hzj.k.own aF hb;exact off hr' aF aF
def Xf{t st d:Nat}{r:Dm}{sl:Sl}{its:List It}{i n:Nat}{y y':It}(hi:its[i]? =some y)(hx:y'.x=y.x)(hg:y'.g=y.g)(hs:∀b,y'.s.bf=some b->y.s.bf=some b\/n<=b):∀j,aD t st d r sl (its.set i y') j->aD t st d r sl its j\/n<=j:=by
 rintro j (e|e|e|e|e|⟨z,hz,e⟩)
 ·exact .inl (.inl e)
 ·exact .inl (.inr (.inl e))
 ·exact .inl (.inr (.inr (.inl e)))
 ·exact .inl (.inr (.inr (.inr (.inl e))))
 ·exact .inl (.inr (.inr (.inr (.inr (.inl e)))))
 ·have hy:∀i,(i=y.x\/i=y.g\/y.s.bf=some i)->aD t st d r sl its i:=λi e=> .inr (.inr (.inr (.inr (.inr ⟨y,aX hi,e⟩))))
  rcases hX hz with hz|hz
  ·exact .inl (.inr (.inr (.inr (.inr (.inr ⟨z,hz,e⟩)))))
  ·subst hz;rw [hx,hg] at e;rcases e with e|e|e
   ·exact .inl (hy j (.inl e))
   ·exact .inl (hy j (.inr (.inl e)))
   ·rcases hs j e with e|e
    ·exact .inl (hy j (.inr (.inr e)))
    ·exact .inr e
instance (c:Ce):Decidable (Bi c):=by unfold Bi;exact inferInstance
def fj(l:List En)(c:Ce):Int:=
 if bX (λe:En=>e.1==pos c) l<0 then -1 else if c.2.1<0 then 1 else ((l[(bX (λe:En=>e.1==pos c) l).toNat]?).map λe=>Mx e.1 e.2.1 c).getD 0
def eM(l:List En)(c:Ce)(b:Int):List En × Int:=
 if bX (λe:En=>e.1==pos c) l<0 then (l,11) else if ¬Bi c then (l,5) else if cK b=false then (l,1) else
  (l.eraseIdx (bX (λe:En=>e.1==pos c) l).toNat++((l[(bX (λe:En=>e.1==pos c) l).toNat]?).map λe=>(e.1,(lR e.1 e.2.1 c b).1,e.2.2.1||(Mx e.1 e.2.1 c !=b),e.2.2.2)).toList,0)
def aa6{w:World}{t st d:Nat}{r:Dm}{sl:Sl}{D:Dk}{ak limit:Int}{its:List It}(h:TO w t st d r sl D ak limit its)(c:Ce)(hc:pW c):
  ah 83 #[t,eE c] w λe w'=>e=Value.int .i64 (fj (fH its) c)/\Ext w w':=by
 apply FW.vc;intro w0 e0;have z0:=eR e0;have x0:=aQ e0;refine (pX c hc w0).mono ?_;rintro e w1 ⟨rfl,x1⟩;have jQ:=x0.tr x1;have z1:=x1.size;refine ⟨_,_,rfl,x1.heap ab,(find_spec (h.ext jQ) (pos c)).mono ?_⟩;rintro e w4 ⟨rfl,x4⟩;have z4:=x4.size;have Dp:=jQ.tr x4;have Zj:bX (λe:En=>e.1==pos c) (fH its)=bX (λi:It=>i.p==pos c) its:=lL It.ob _ its;refine ⟨_,rfl,x4.heap ab,?_⟩;rcases dD (λi:It=>i.p==pos c) its with ⟨hf,-⟩|⟨k,y,hk,hyp,hf,-⟩
 ·rw [hf];refine Br.mk (λ_=>⟨?_,Dp⟩) (λh=>by simp at h);unfold fj;rw [Zj,hf,if_pos aF]
 ·rw [hf];refine Br.mk (λh=>by simp at h;omega) (λ_=>Br.mk (λhb=> ?_) (λhb=> ?_))
  ·replace hb:=nA hb;refine ⟨?_,Dp⟩;unfold fj;rw [Zj,hf,if_neg ab,if_pos hb]
  ·replace hb:=nN hb;have hd:=(h.ext Dp).ext (Ext.dr w4);obtain ⟨a1,a2⟩:=hd.at hk;have hyr:=hd.it y (aX hk);refine ⟨sl,hd.rt.at 3 rfl,a1,_,a2,CV (CV ⟨_,hyr.r.at 0 rfl,(Ew hyr.k c hc).mono ?_⟩)⟩;rintro e w9 ⟨rfl,x9⟩;have h9:=hd.ext x9;obtain ⟨-,b2⟩:=h9.at hk;refine ⟨_,_,rfl,x9.heap (show w.heap.size<w4 by omega),lQ b2,lQ (h9.rt.at 3 rfl),?_,Dp.tr ((Ext.dr _).tr x9)⟩;unfold fj;rw [Zj,hf,if_neg ab,if_neg hb,dQ,aR,hk];rfl
def afy{p:Po}{C:List Int}{c:Ce}{b:Int}(hp:p=pos c)(hy:Bi c)(hb:cK b=true):(lR p C c b).2=0:=by unfold lR;rw [if_neg (by rw [(qk p c).2 ⟨hy,hp.symm⟩];decide),if_neg (by rw [hb];decide)]
def Xg{w:World}{t st d:Nat}{r:Dm}{sl:Sl}{D:Dk}{ak limit:Int}{its:List It}(h:TO w t st d r sl D ak limit its)(c:Ce)(hc:pW c)(b:Int):
  ah 221 #[t,eE c,.int .i64 b] w λe w'=>e=Value.int .i64 (eM (fH its) c b).2/\wS w t st d r sl ak limit its (D,(eM (fH its) c b).1) w':=by
 apply DI.vc;intro w0 e0;have z0:=eR e0;have x0:=aQ e0;refine (pX c hc w0).mono ?_;rintro e w1 ⟨rfl,x1⟩;have jQ:=x0.tr x1;have z1:=x1.size;refine ⟨_,_,rfl,x1.heap ab,(find_spec (h.ext jQ) (pos c)).mono ?_⟩;rintro e w4 ⟨rfl,x4⟩;have z4:=x4.size;have Dp:=jQ.tr x4;have Zj:bX (λe:En=>e.1==pos c) (fH its)=bX (λi:It=>i.p==pos c) its:=lL It.ob _ its;refine ⟨_,rfl,x4.heap ab,(CS c w4).mono ?_⟩;rintro e w6 ⟨⟨ix,iy,rfl,hiy⟩,x6⟩;have z6:=x6.size;have x06:=Dp.tr x6;have h6:=h.ext x06;refine ⟨_,_,rfl,x6.heap ab,?_⟩;have same:∀{w'},Ext w w'->wS w t st d r sl ak limit its (D,fH its) w':=λx=>⟨r,sl,its,h.ext x,rfl,aM.aH x⟩
 rcases dD (λi:It=>i.p==pos c) its with ⟨hf,-⟩|⟨k,y,hk,hyp,hf,-⟩
 ·rw [hf];refine Br.mk (λ_=> ?_) (λh=>by simp at h);have e:eM (fH its) c b=(fH its,11):=by unfold eM;rw [Zj,hf,if_pos aF]
  rw [e];exact ⟨rfl,same x06⟩
 ·rw [hf];have hyc:y.p=pos c:=by simpa using hyp
  refine Br.mk (λh=>by simp at h;omega) (λ_=> ?_);rcases hiy with ⟨rfl,hY,-⟩|⟨rfl,hY,-⟩
  ·refine fP rfl ((gE b w6).mono ?_);rintro e w9 ⟨rfl,x9⟩;have z9:=x9.size;have QK:=x06.tr x9;refine ⟨_,rfl,x9.heap ab,Br.mk (λhb=> ?_) (λhb=> ?_)⟩
   ·have hb':cK b=false:=by simpa using hb
    have e:eM (fH its) c b=(fH its,1):=by unfold eM;rw [Zj,hf,if_neg ab,if_neg (by simpa using hY),if_pos hb']
    rw [e];exact ⟨rfl,same QK⟩
   ·have hb':cK b=true:=by simpa using hb
    have he:eM (fH its) c b=((fH its).eraseIdx k++ [(y.p,(lR y.p y.C c b).1,y.oR||(Mx y.p y.C c !=b),y.pins)],0):=by unfold eM;rw [Zj,hf,if_neg ab,if_neg (by simpa using hY),if_neg (by rw [hb'];decide),dQ,aR,hk];rfl
    have h0:=afy (C:=y.C) hyc hY hb';rw [he];have h9:=h.ext QK;refine (Gd h9 hk).mono ?_;rintro e bg ⟨rfl,aur,h11,t11⟩;have aus:=(aM.aH QK).trans t11;have z11:=t11.mod.size;have bx:∀{F:Nat->Prop},(∀i,F i->aD t st d r sl its i)->¬F w:=λhF hf=>by have:=h.lt (hF _ hf);omega
    have hi':(its.eraseIdx k++ [y])[(its.eraseIdx k).length]? =some y:=by rw [qW (aC _),Nat.sub_self];rfl
    have hd:=h11.ext (Ext.dr bg);have hyd:=hd.it y (aX hi');have hxw:y.x<w:=(h.it y (aX hk)).r.lt;have hgw:y.g<w:=(h.it y (aX hk)).k.row.lt;refine ⟨_,rfl,t11.mod.same _ ab (bx λi hi=>hi),CV (CV ⟨_,hyd.r.at 0 rfl,(Ew hyd.k c hc).mono ?_⟩)⟩;rintro e bO ⟨rfl,bI⟩;have adI:Ext bg bO:=(Ext.dr _).tr bI;have ZD:=adI.size;have h14:=h11.ext adI;have AN:=h14.it y (aX hi');have pt:∀v:Bool,_:=λv=>AN.r.kl (j:=1) (v:=.bool v) cp rfl
    refine ⟨_,_,rfl,bI.heap (show w.heap.size<bg by omega),CV (CV ⟨_,AN.r.at 1 rfl,Br.mk (λhb=>CV (CV ⟨⟨rfl,(pt true).1⟩,λe=> ?_,λdH YX=>CV (CV ?_)⟩)) (λhb=>CV (CV ⟨⟨rfl,(pt true).1⟩,λe=> ?_,λdH YX=>CV (CV ?_)⟩))⟩)⟩
    case refine_1|refine_3=>
     rw [c5] at e;have:y.x=w.heap.size:=by simpa [bz] using e
     omega
    all_goals
     obtain ⟨q1,q2⟩:=(pt _).2 dH YX
     have z18:=q2.size
     have aoF:Ih dH y.g y.s y.p y.C:=AN.k.de q2 (λe=>AN.k.row.ne AN.r aF e) (λb hb=>by obtain ⟨cs',hr'⟩:=bc AN.k.own aF hb;exact hr'.ne AN.r aF)
     refine ⟨_,(q1.ext (Ext.dr _)).at 0 rfl,(aa7 (aoF.ext (Ext.dr dH)) c hc b).mono ?_⟩;rintro e eW ⟨rfl,s',aut,m20,b20⟩;have q1d:=q1.ext (Ext.dr dH);refine ⟨_,rfl,m20.same _ (show w.heap.size<dH by omega) (λe=>by omega),congrArg _ (congrArg _ h0),?_⟩;have hm:Mod (λj=>j=y.x\/j=y.g) bO eW:=((q2.mono λi _ hi=> .inl hi).trans (Mod.aH (Ext.dr _))).trans (m20.mono λi _ hi=> .inr hi);have auv:vQ eW ⟨y.x,y.g,s',y.p,(lR y.p y.C c b).1,y.oR||(Mx y.p y.C c !=b),y.pins⟩:=by refine ⟨?_,aut⟩;have:=m20.row q1d (λe=>q1d.ne (aoF.ext (Ext.dr dH)).row aF e);rw [hb];exact this
     have h20:=h14.afx hi' (y':=⟨y.x,y.g,s',y.p,(lR y.p y.C c b).1,y.oR||(Mx y.p y.C c !=b),y.pins⟩) rfl rfl hm auv;refine ⟨r,aur,_,h20,?_,aus.trans ⟨(Mod.aH adI).trans (hm.mono λi _ hi=> ?_),λj hj=> ?_⟩⟩
     ·unfold fH;rw [List.set_append_right _ _ (aC _),Nat.sub_self,bW];have:=vp its k;unfold fH at this;rw [this];rfl
     ·exact .inr (.inr (.inr (.inr (.inr ⟨y,aX hi',hi.elim .inl λe=> .inr (.inl e)⟩))))
     ·exact Xf (y':=⟨y.x,y.g,s',y.p,(lR y.p y.C c b).1,y.oR||(Mx y.p y.C c !=b),y.pins⟩) hi' rfl rfl (λb hb=>(b20 b hb).imp id λe=>gx (gx ZD z18) e) j hj
  ·have e:eM (fH its) c b=(fH its,5):=by unfold eM;rw [Zj,hf,if_neg ab,if_pos hY]
   refine yes rfl ?_;rw [e];exact ⟨rfl,same x06⟩
def lu(l:List En):Prop:=∀e ∈ l,e.2.1.length=8192/\∀b ∈ e.2.1,cK b=true
def Yw{c d:Ce}(hc:Bi c)(hd:Bi d)(hp:pos c=pos d)(hi:(idx c).toNat=(idx d).toNat):c=d:=by
 have h1:=BV hc;have h2:=BV hd;have hi':idx c=idx d:=by omega
 obtain ⟨a,b,e⟩:=c;obtain ⟨a',b',e'⟩:=d;unfold idx at hi';unfold pos at hp;simp only [Prod.mk.injEq] at hp ⊢;simp only at hi';omega
def je(l:List En)(p:Po):Prop:=∃e ∈ l,e.1=p
def ju(l:List En):Prop:=(l.map (·.1)).Nodup
def Ex{l:List En}{c:Ce}(h:¬je l (pos c)):fj l c= -1:=by
 unfold fj;rw [iT λy hy=> ?_,if_pos aF]
 cases hb:(y.1==pos c) with
 |false=>rfl
 |true=>exact absurd ⟨y,hy,by simpa using hb⟩ h
def yu{l:List En}(hn:ju l){e:En}(he:e ∈ l):∃k:Nat,l[k]? =some e/\bX (λx:En=>x.1==e.1) l=k:=by
 obtain ⟨k,hk⟩:=wF he;refine ⟨k,hk,oy hk cp λj hj y hy=> ?_⟩
 cases hb:(y.1==e.1) with
 |false=>rfl
 |true=>
  have h1:(l.map (·.1))[k]? =some e.1:=by rw [aR,hk];rfl
  have h2:(l.map (·.1))[j]? =some e.1:=by rw [aR,hy];simpa using hb
  have QQ:=(cG.1 h1).1;have:=(List.getElem?_inj (show j<_ by omega) hn).1 (h2.trans h1.symm);omega
def vE{l:List En}(hn:ju l){e:En}(he:e ∈ l){c:Ce}(hp:e.1=pos c):fj l c=if c.2.1<0 then 1 else Mx e.1 e.2.1 c:=by obtain ⟨k,hk,hf⟩:=yu hn he;unfold fj;rw [<-hp,hf,if_neg ab,dQ,hk];rfl
def acs{p:Po}{C:List Int}(hl:C.length=8192){c:Ce}(hy:Bi c)(hp:p=pos c){b:Int}(hb:cK b=true)(c':Ce)(hp':p=pos c'):Mx p (lR p C c b).1 c'=if c'=c then b else Mx p C c':=by
 have e:(lR p C c b).1=C.set (idx c).toNat b:=by unfold lR;rw [if_neg (by rw [(qk p c).2 ⟨hy,hp.symm⟩];decide),if_neg (by rw [hb];decide)]
 rw [e];have hi:=BV hy;by_cases hcc:c'=c
 ·subst hcc;rw [if_pos rfl];have hk:L6 p c'=true:=(qk p c').2 ⟨hy,hp'.symm⟩;unfold Mx;rw [hk,if_pos rfl];unfold atC;rw [if_neg ab,dZ,jR,if_pos rfl,if_pos ab];rfl
 ·rw [if_neg hcc];by_cases hy':Bi c'
  ·have hk:L6 p c'=true:=(qk p c').2 ⟨hy',hp'.symm⟩;have hi':=BV hy';have h0:¬idx c'<0:=by omega
   unfold Mx;rw [hk,if_pos rfl,if_pos rfl];unfold atC;rw [if_neg h0,if_neg h0,dZ,dZ,jR,if_neg (λh=>hcc (Yw hy hy' (hp.symm.trans hp') h).symm)]
  ·have hk:L6 p c'=false:=by
    cases h:L6 p c' with
    |false=>rfl
    |true=>exact absurd ((qk p c').1 h).1 hy'
   unfold Mx;rw [hk,if_neg aF,if_neg aF]
def Qd{l:List En}(hn:ju l)(hg:lu l){c:Ce}(hh:je l (pos c))(hy:Bi c){b:Int}(hb:cK b=true):
  (eM l c b).2=0/\ju (eM l c b).1/\(∀p,je (eM l c b).1 p ↔ je l p)/\∀c',fj (eM l c b).1 c'=if c'=c then b else fj l c':=by
 obtain ⟨e,he,hp⟩:=hh;obtain ⟨k,hk,hf⟩:=yu hn he;have hs:eM l c b=(l.eraseIdx k++ [(e.1,(lR e.1 e.2.1 c b).1,e.2.2.1||(Mx e.1 e.2.1 c !=b),e.2.2.2)],0):=by unfold eM;rw [<-hp,hf,if_neg ab,if_neg (by simpa using hy),if_neg (by rw [hb];decide),dQ,hk];rfl
 generalize hd:(e.2.2.1||(Mx e.1 e.2.1 c !=b))=d at hs;obtain ⟨A,B,L8,hkA⟩:∃A B,l=A++e::B/\k=A.length:=by obtain ⟨QQ,he⟩:=cG.1 hk;exact ⟨l.take k,l.drop (k+1),by rw [<-he,<-zU QQ,qZ],by rw [dK];omega⟩
 subst hkA;rw [L8,List.eraseIdx_append_of_length_le (aC _),Nat.sub_self] at hs;have eR:eM l c b=(A++B++ [(e.1,(lR e.1 e.2.1 c b).1,d,e.2.2.2)],0):=by rw [L8];exact hs
 rw [eR];have pk:∀x,x ∈ l ↔ x ∈ A++B\/x=e:=λx=>by
  rw [L8];simp only [cV,cB];constructor
  ·rintro (h|h|h)
   ·exact .inl (.inl h)
   ·exact .inr h
   ·exact .inl (.inr h)
  ·rintro ((h|h)|h)
   ·exact .inl h
   ·exact .inr (.inr h)
   ·exact .inr (.inl h)
 have hn':ju (A++B++ [(e.1,(lR e.1 e.2.1 c b).1,d,e.2.2.2)]):=by
  have Y0:ju (A++e::B):=by rw [<-L8];exact hn
  unfold ju at Y0 ⊢;rw [bW,fu] at Y0;obtain ⟨n1,n2,n3⟩:=tA.1 Y0;obtain ⟨n4,n5⟩:=oL.1 n2;rw [bW,bW];refine tA.2 ⟨tA.2 ⟨n1,n5,λa ha b hb=>n3 a ha b (.tail _ hb)⟩,by simp,λa ha b hb=> ?_⟩;simp only [fu,List.map_nil,iN] at hb;subst hb;rcases cV.1 ha with ha|ha
  ·exact n3 a ha _ (.head _)
  ·exact λh=>n4 (h▸ha)
 have we:∀x ∈ A++B,x.1≠e.1:=λx hx h=>by
  have Y0:ju (A++e::B):=by rw [<-L8];exact hn
  unfold ju at Y0;rw [bW,fu] at Y0;obtain ⟨n1,n2,n3⟩:=tA.1 Y0;obtain ⟨n4,n5⟩:=oL.1 n2;rcases cV.1 hx with hx|hx
  ·exact n3 _ (aW.2 ⟨x,hx,rfl⟩) _ (.head _) h
  ·exact n4 (by rw [<-h];exact aW.2 ⟨x,hx,rfl⟩)
 refine ⟨rfl,hn',λp=>⟨?_,?_⟩,λc'=> ?_⟩
 ·rintro ⟨x,hx,VJ⟩;rcases cV.1 hx with hx|hx
  ·exact ⟨x,(pk x).2 (.inl hx),VJ⟩
  ·simp only [iN] at hx;subst hx;exact ⟨e,he,VJ⟩
 ·rintro ⟨x,hx,VJ⟩;rcases (pk x).1 hx with hx|hx
  ·exact ⟨x,Ak _ hx,VJ⟩
  ·subst hx;exact ⟨_,O4 _ (.head _),VJ⟩
 ·show fj (A++B++ [(e.1,(lR e.1 e.2.1 c b).1,d,e.2.2.2)]) c'=_;by_cases hpc:e.1=pos c'
  ·rw [vE hn' (O4 _ (.head _)) (e:=(e.1,(lR e.1 e.2.1 c b).1,d,e.2.2.2)) hpc,vE hn he hpc];show (if c'.2.1<0 then 1 else Mx e.1 (lR e.1 e.2.1 c b).1 c')=_;rw [acs (hg e he).1 hy hp hb c' hpc];by_cases hcc:c'=c
   ·subst hcc;rw [if_pos rfl,if_pos rfl,if_neg (by unfold Bi at hy;omega)]
   ·rw [if_neg hcc,if_neg hcc]
  ·have hcc:c'≠c:=λh=>hpc (by rw [h];exact hp)
   rw [if_neg hcc];by_cases hx:∃x ∈ A++B,x.1=pos c'
   ·obtain ⟨x,hx,VJ⟩:=hx;rw [vE hn' (Ak _ hx) VJ,vE hn ((pk x).2 (.inl hx)) VJ]
   ·rw [Ex,Ex]
    ·rintro ⟨x,hx2,VJ⟩;rcases (pk x).1 hx2 with h|h
     ·exact hx ⟨x,h,VJ⟩
     ·subst h;exact hpc VJ
    ·rintro ⟨x,hx2,VJ⟩;rcases cV.1 hx2 with h|h
     ·exact hx ⟨x,h,VJ⟩
     ·simp only [iN] at h;subst h;exact hpc VJ
def vG{l:List En}{c:Ce}{b:Int}(h:¬(je l (pos c)/\Bi c/\cK b=true)):(eM l c b).1=l/\(eM l c b).2≠0:=by
 unfold eM;rcases dD (λe:En=>e.1==pos c) l with ⟨hf,-⟩|⟨k,e,hk,hek,hf,-⟩
 ·rw [hf,if_pos aF];exact ⟨rfl,by simp⟩
 ·rw [hf,if_neg ab];have hh:je l (pos c):=⟨e,aX hk,by simpa using hek⟩;by_cases hy:Bi c
  ·rw [if_neg (by simpa using hy)];have hb:cK b=false:=by
    cases hb:cK b with
    |false=>rfl
    |true=>exact absurd ⟨hh,hy,hb⟩ h
   rw [if_pos hb];exact ⟨rfl,by simp⟩
  ·rw [if_pos hy];exact ⟨rfl,by simp⟩
def TF(F:Nat->Prop)(w:World)(t:Nat)(ak limit:Int)(T:Tb):Prop:=
 ∃st d r sl its,TO w t st d r sl T.1 ak limit its/\fH its=T.2/\F=aD t st d r sl its
def TF.lt{F:Nat->Prop}{w:World}{t:Nat}{ak limit:Int}{T:Tb}(h:TF F w t ak limit T){i:Nat}(hi:F i):i<w:=by obtain ⟨st,d,r,sl,its,h1,h2,rfl⟩:=h;exact h1.lt hi
def TF.same{F:Nat->Prop}{w w':World}{t:Nat}{ak limit:Int}{T:Tb}(h:TF F w t ak limit T)(hs:∀i,F i->w'.heap[i]? =w.heap[i]?):TF F w' t ak limit T:=by obtain ⟨st,d,r,sl,its,h1,h2,rfl⟩:=h;exact ⟨st,d,r,sl,its,h1.same hs,h2,rfl⟩
def TF.ext{F:Nat->Prop}{w w':World}{t:Nat}{ak limit:Int}{T:Tb}(h:TF F w t ak limit T)(x:Ext w w'):TF F w' t ak limit T:=h.same λ_ hi=>x.heap (h.lt hi)
def TF.de{F G:Nat->Prop}{w w':World}{t:Nat}{ak limit:Int}{T:Tb}(h:TF F w t ak limit T)(hm:Mod G w w')(hn:∀i,F i->¬G i):TF F w' t ak limit T:=h.same λi hi=>hm.same i (h.lt hi) (hn i hi)
abbrev E8(τ:TypeId):Prop:=τ≠BM/\τ≠BL/\τ≠uB/\τ≠tPI/\τ≠cJ/\τ≠yc/\τ≠gG/\τ≠tW/\τ≠iA
def TF.dU{F:Nat->Prop}{w:World}{t:Nat}{ak limit:Int}{T:Tb}(h:TF F w t ak limit T){j:Nat}{cs:LV}{τ:TypeId}(hr:Row w j cs τ)(hτ:E8 τ):¬F j:=by obtain ⟨st,d,r,sl,its,h1,h2,rfl⟩:=h;exact h1.dU hr hτ
def TF.len{F:Nat->Prop}{w:World}{t:Nat}{ak limit:Int}{T:Tb}(h:TF F w t ak limit T):(T.2.length:Int)<=limit/\1<=limit/\limit<=16:=by obtain ⟨st,d,r,sl,its,h1,e,rfl⟩:=h;have:=h1.len;have:=h1.ZA;rw [<-e];unfold fH;rw [aN];omega
def TF.aeQ{F:Nat->Prop}{w:World}{t:Nat}{ak limit:Int}{T:Tb}(h:TF F w t ak limit T):lu T.2:=by obtain ⟨st,d,r,sl,its,h1,e,rfl⟩:=h;rw [<-e];intro e he;obtain ⟨y,hy,rfl⟩:=aW.1 he;exact ⟨(h1.it y hy).k.len,(h1.it y hy).k.may⟩
abbrev MW(F:Nat->Prop)(w:World)(t:Nat)(ak limit:Int)(T:Tb)(w':World):Prop:=∃F',TF F' w' t ak limit T/\aM F F' w w'
def Kt{w w':World}{t st d:Nat}{r:Dm}{sl:Sl}{ak limit:Int}{its:List It}{T:Tb}(hl:wS w t st d r sl ak limit its T w'):MW (aD t st d r sl its) w t ak limit T w':=by obtain ⟨r',sl',its',h',ho,ht⟩:=hl;exact ⟨_,⟨st,d,r',sl',its',h',ho,rfl⟩,ht⟩
def Rw(ak limit room:Int)(w:World):ah 96 #[ak,limit,room] w λe w'=>∃t F,e=Value.pointer (aB t)/\TF F w' t ak (min (max limit 1) 16) (Mu room,[])/\Ext w w'/\∀i,F i->w.heap.size<=i:=by refine (Ys ak limit room w).mono ?_;rintro e w' ⟨t,st,d,r,rfl,h,x,hf⟩;exact ⟨t,_,rfl,⟨st,d,r,_,[],h,rfl,rfl⟩,x,hf⟩
section
variable {F:Nat->Prop} {w:World} {t:Nat} {ak limit:Int} {T:Tb}
def O2(h:TF F w t ak limit T)(hW:T.1.l.length<=1000000)(p:Po):
  ah 20 #[t,pv p] w λe w'=>e=Value.int .i64 (DK ak limit T.1 T.2 p).2/\MW F w t ak limit (DK ak limit T.1 T.2 p).1 w':=by
 obtain ⟨st,d,r,sl,its,h1,e,rfl⟩:=h;rw [<-e];refine (WT h1 hW p).mono ?_;rintro e w' ⟨rfl,hl⟩;exact ⟨rfl,Kt hl⟩
def Im(h:TF F w t ak limit T)(hW:T.1.l.length<=1000000)(p:Po):
  ah 21 #[t,pv p] w λe w'=>e=Value.int .i64 (kZ T.1 T.2 p).2/\MW F w t ak limit (kZ T.1 T.2 p).1 w':=by
 obtain ⟨st,d,r,sl,its,h1,e,rfl⟩:=h;rw [<-e];refine (Oz h1 hW p).mono ?_;rintro e w' ⟨rfl,hl⟩;exact ⟨rfl,Kt hl⟩
def Lz(h:TF F w t ak limit T)(hW:T.1.l.length<=1000000)(p:Po):
  ah 23 #[t,pv p] w λe w'=>e=Value.int .i64 (UY T.1 T.2 p).2/\MW F w t ak limit (UY T.1 T.2 p).1 w':=by
 obtain ⟨st,d,r,sl,its,h1,e,rfl⟩:=h;rw [<-e];refine (Su h1 hW p).mono ?_;rintro e w' ⟨rfl,hl⟩;exact ⟨rfl,Kt hl⟩
def D4(h:TF F w t ak limit T)(hW:T.1.l.length<=900000):
  ah 22 #[t] w λe w'=>e=Value.tuple #[.int .i64 (kv T.1 T.2).2.1,.int .i64 (kv T.1 T.2).2.2]/\MW F w t ak limit (kv T.1 T.2).1 w':=by
 obtain ⟨st,d,r,sl,its,h1,e,rfl⟩:=h;rw [<-e];refine (Ij h1 hW).mono ?_;rintro e w' ⟨rfl,hl⟩;exact ⟨rfl,Kt hl⟩
def P2(h:TF F w t ak limit T)(hW:T.1.l.length<=1000000)(s:Sl)(b:List Int)(hs:ij w s b)(hb:nC b)(hn:b.length<=1099511627776):
  ah 61 #[t,s] w λe w'=>e=Value.int .i64 (yZ T.1 0 b).2/\MW F w t ak limit ((yZ T.1 0 b).1,T.2) w':=by
 obtain ⟨st,d,r,sl,its,h1,e,rfl⟩:=h;rw [<-e];refine (Xd h1 hW s b hs hb hn).mono ?_;rintro e w' ⟨rfl,hl⟩;exact ⟨rfl,Kt hl⟩
def Jm(h:TF F w t ak limit T)(c:Ce)(hc:pW c):
  ah 83 #[t,eE c] w λe w'=>e=Value.int .i64 (fj T.2 c)/\Ext w w':=by
 obtain ⟨st,d,r,sl,its,h1,e,rfl⟩:=h;rw [<-e];exact aa6 h1 c hc
def Rx(h:TF F w t ak limit T)(c:Ce)(hc:pW c)(b:Int):
  ah 221 #[t,eE c,b] w λe w'=>e=Value.int .i64 (eM T.2 c b).2/\MW F w t ak limit (T.1,(eM T.2 c b).1) w':=by
 obtain ⟨st,d,r,sl,its,h1,e,rfl⟩:=h;rw [<-e];refine (Xg h1 c hc b).mono ?_;rintro e w' ⟨rfl,hl⟩;exact ⟨rfl,Kt hl⟩
end
def Tt(ak:Int)(p:Po):xV ak p []=made ak p:=rfl
def afT{l:List En}(hn:ju l){i:Nat}{e e':En}(hi:l[i]? =some e)(h1:e'.1=e.1):ju (l.set i e'):=by
 unfold ju;rw [jC,h1];have:(l.map (·.1)).set i e.1=l.map (·.1):=by
  have hk:(l.map (·.1))[i]? =some e.1:=by rw [aR,hi];rfl
  obtain ⟨hl,he⟩:=cG.1 hk;rw [<-he];exact List.set_getElem_self hl
 rw [this];exact hn
def Tu{l:List En}{i:Nat}{e:En}(hd:ju l)(hi:l[i]? =some e):e.1 ∉(l.eraseIdx i).map (·.1):=by
 rw [Jz,bW];have e1:l=l.take i++e::l.drop (i+1):=by have:=qZ i l;rw [zU (cG.1 hi).1] at this;rw [<-(cG.1 hi).2];exact this.symm
 unfold ju at hd;rw [e1,bW,fu] at hd;obtain ⟨h1,h2,h3⟩:=tA.1 hd;intro hm;rcases cV.1 hm with hm|hm
 ·exact h3 _ hm _ (.head _) rfl
 ·exact (oL.1 h2).1 hm
def mem_erase{l:List En}(hn:ju l){i:Nat}{e:En}(hi:l[i]? =some e)(x:En):x ∈ l.eraseIdx i ↔ x ∈ l/\x.1≠e.1:=by
 have mO:e.1 ∉(l.eraseIdx i).map (·.1):=Tu hn hi;have Ku:=cG.1 hi;have e1:l=l.take i++e::l.drop (i+1):=by have:=qZ i l;rw [zU Ku.1,Ku.2] at this;exact this.symm
 have e2:x ∈ l ↔ x ∈ l.eraseIdx i\/x=e:=by
  rw [Jz];conv=>lhs;rw [e1]
  simp only [cV,cB];constructor
  ·rintro (h|h|h)
   ·exact .inl (.inl h)
   ·exact .inr h
   ·exact .inl (.inr h)
  ·rintro ((h|h)|h)
   ·exact .inl h
   ·exact .inr (.inr h)
   ·exact .inr (.inl h)
 constructor
 ·intro hx;exact ⟨e2.2 (.inl hx),λq=>mO (aW.2 ⟨x,hx,q⟩)⟩
 ·rintro ⟨hx,jh⟩;rcases e2.1 hx with h|h
  ·exact h
  ·exact absurd (by rw [h]) jh
def B7{l:List En}(hn:ju l)(i:Nat):ju (l.eraseIdx i):=hn.sublist ((wP ..).map _)
def PU{l:List En}(hn:ju l){e:En}(h:¬je l e.1):ju (l++ [e]):=by unfold ju;rw [bW];refine tA.2 ⟨hn,by simp,?_⟩;intro a ha b hb q;simp at hb;obtain ⟨x,hx,rfl⟩:=aW.1 ha;exact h ⟨x,hx,q.trans hb⟩
def fT{p:Option Addr}{K:Prop}(hp:p.isSome=true)(h:K):aP (dq p) K:=bB.2 ⟨jj.2 hp,h⟩
def amJ:E8 qL/\E8 Zz:=by decide
def MY{F:Nat->Prop}{w:World}{t:Nat}{ak cap:Int}{T:Tb}(h:TF F w t ak cap T):ah 37 #[t] w λe w'=>∃s':Sl,e=s'/\aE w Zz 2 w' s' (T.2.map λe=> [.int .i64 e.1.1,.int .i64 e.1.2])/\Ext w w':=by obtain ⟨st,d,r,sl,its,g1,e,rfl⟩:=h;rw [<-e];exact Xe g1
abbrev sm:TypeId:=133
abbrev kR:TypeId:=289
abbrev Cg:=Ce × Int
abbrev cgv(x:Cg):LV:=[.int .i64 x.1.1,.int .i64 x.1.2.1,.int .i64 x.1.2.2,.int .i64 x.2]
def WF(F:Nat->Prop)(w:World)(o t:Nat)(ak limit:Int)(T:Tb)(ch:List Cg):Prop:=
 ∃F1 sc,TF F1 w t ak limit T/\Row w o [t,.slice sc.a sc.n sc.c] sm/\aE 0 kR 4 w sc (ch.map cgv)/\F=λi=>F1 i\/i=o\/sc.bf=some i
def WF.lt{F:Nat->Prop}{w:World}{o t:Nat}{ak limit:Int}{T:Tb}{ch:List Cg}(h:WF F w o t ak limit T ch){i:Nat}(hi:F i):i<w:=by
 obtain ⟨F1,sc,h1,h2,h3,rfl⟩:=h;rcases hi with hi|rfl|hi
 ·exact h1.lt hi
 ·exact h2.lt
 ·exact (h3.own.lt hi).2
def WF.same{F:Nat->Prop}{w w':World}{o t:Nat}{ak limit:Int}{T:Tb}{ch:List Cg}(h:WF F w o t ak limit T ch)(hs:∀i,F i->w'.heap[i]? =w.heap[i]?):WF F w' o t ak limit T ch:=by obtain ⟨F1,sc,h1,h2,h3,rfl⟩:=h;exact ⟨F1,sc,h1.same λi hi=>hs i (.inl hi),h2.same (hs o (.inr (.inl rfl))),aE.de h3 λb hb=>hs b (.inr (.inr hb)),rfl⟩
def WF.ext{F:Nat->Prop}{w w':World}{o t:Nat}{ak limit:Int}{T:Tb}{ch:List Cg}(h:WF F w o t ak limit T ch)(x:Ext w w'):WF F w' o t ak limit T ch:=h.same λ_ hi=>x.heap (h.lt hi)
def WF.de{F G:Nat->Prop}{w w':World}{o t:Nat}{ak limit:Int}{T:Tb}{ch:List Cg}(h:WF F w o t ak limit T ch)(hm:Mod G w w')(hn:∀i,F i->¬G i):WF F w' o t ak limit T ch:=h.same λi hi=>hm.same i (h.lt hi) (hn i hi)
def WF.dU{F:Nat->Prop}{w:World}{o t:Nat}{ak limit:Int}{T:Tb}{ch:List Cg}(h:WF F w o t ak limit T ch){j:Nat}{cs:LV}{τ:TypeId}(hr:Row w j cs τ)(hτ:E8 τ)(hw:τ≠sm)(hc:τ≠kR):¬F j:=by
 obtain ⟨F1,sc,h1,h2,h3,rfl⟩:=h;rintro (hi|rfl|hi)
 ·exact h1.dU hr hτ hi
 ·exact hr.ne h2 hw rfl
 ·obtain ⟨cs',hr'⟩:=bc h3 aF hi;exact hr.ne hr' hc rfl
def WF.len{F:Nat->Prop}{w:World}{o t:Nat}{ak limit:Int}{T:Tb}{ch:List Cg}(h:WF F w o t ak limit T ch):(T.2.length:Int)<=limit/\1<=limit/\limit<=16:=by obtain ⟨F1,sc,h1,h2,h3,rfl⟩:=h;exact h1.len
def WF.aeQ{F:Nat->Prop}{w:World}{o t:Nat}{ak limit:Int}{T:Tb}{ch:List Cg}(h:WF F w o t ak limit T ch):lu T.2:=by obtain ⟨F1,sc,h1,h2,h3,rfl⟩:=h;exact h1.aeQ
abbrev HY(F:Nat->Prop)(w:World)(o t:Nat)(ak limit:Int)(T:Tb)(ch:List Cg)(w':World):Prop:=∃F',WF F' w' o t ak limit T ch/\aM F F' w w'
def WF.table{F:Nat->Prop}{w:World}{o t:Nat}{ak limit:Int}{T:Tb}{ch:List Cg}(h:WF F w o t ak limit T ch):∃F1,TF F1 w t ak limit T/\(∀i,F1 i->F i)/\∀{w':World} {T':Tb},MW F1 w t ak limit T' w'->HY F w o t ak limit T' ch w':=by
 obtain ⟨F1,sc,h1,h2,h3,rfl⟩:=h;refine ⟨F1,h1,λi hi=> .inl hi,?_⟩;rintro w' T' ⟨F',h',ht⟩;have n2:=h1.dU h2 aF;have n3:∀b,sc.bf=some b->¬F1 b:=λb hb=>by obtain ⟨cs',hr'⟩:=bc h3 aF hb;exact h1.dU hr' aF
 refine ⟨_,⟨F',sc,h',ht.mod.row h2 n2,ht.mod.iq h3 n3,rfl⟩,ht.mod.mono λi _ hi=> .inl hi,λi hi=> ?_⟩;rcases hi with hi|hi|hi
 ·exact (ht.sub i hi).imp .inl id
 ·exact .inl (.inr (.inl hi))
 ·exact .inl (.inr (.inr hi))
def Jl(ak limit room:Int)(w:World):ah 39 #[ak,limit,room] w λe w'=>∃o t F,e=Value.pointer (aB o)/\WF F w' o t ak (min (max limit 1) 16) (Mu room,[]) []/\Ext w w'/\∀i,F i->w.heap.size<=i:=by
 apply VU.vc;refine (Rw ak limit room w).mono ?_;rintro e w0 ⟨t,F1,rfl,h0,x0,f0⟩;refine ⟨_,rfl,λw2 e2=>⟨w0.heap.size,t,_,rfl,⟨F1,⟨none,0,0⟩,h0.ext (aQ e2),?_,aE.nil,rfl⟩,x0.bF e2,λi hi=> ?_⟩⟩
 ·rw [e2];exact Row.new w0 [_,_] _
 ·rcases hi with hi|hi|hi
  ·exact f0 i hi
  ·have:=x0.size;omega
  ·cases hi
def pV{F:Nat->Prop}{w:World}{o t:Nat}{ak limit:Int}{T:Tb}{ch:List Cg}(h:WF F w o t ak limit T ch):ah 19 #[o] w λe w'=>e=Value.pointer (aB t)/\w'=w:=by obtain ⟨F1,sc,h1,h2,h3,rfl⟩:=h;apply yW.vc;exact ⟨_,h2.at 0 rfl,rfl,rfl⟩
def fz{F:Nat->Prop}{w:World}{o t:Nat}{ak limit:Int}{T:Tb}{ch:List Cg}(h:WF F w o t ak limit T ch):ah 27 #[o] w λe w'=>e=Value.func (.func 83) #[t] #[]/\w'=w:=by obtain ⟨F1,sc,h1,h2,h3,rfl⟩:=h;apply A8.vc;exact ⟨_,h2.at 0 rfl,rfl,rfl⟩
def Ux(l:List En)(ch:List Cg)(c:Ce)(b:Int):List Cg:=if (eM l c b).2=0/\fj l c≠b then ch++ [(c,b)] else ch
def amq(a b c d:Int):One [Value.int .i64 a,b,c,d]:=by intro v hv;simp at hv;rcases hv with rfl|rfl|rfl|rfl<;>rfl
def VV{F:Nat->Prop}{w:World}{o t:Nat}{ak limit:Int}{T:Tb}{ch:List Cg}(h:WF F w o t ak limit T ch)(c:Ce)(hc:pW c)(b:Int)(hn:ch.length<=1000000):
  ah 161 #[o,eE c,.int .i64 b] w λe w'=>e=Value.int .i64 (eM T.2 c b).2/\HY F w o t ak limit (T.1,(eM T.2 c b).1) (Ux T.2 ch c b) w':=by
 have hF:=λ{i}=>h.lt (i:=i)
 have hh:=h;obtain ⟨F1,sc,h1,h2,h3,rfl⟩:=h;apply Ds.vc;intro w0 e0;have z0:=eR e0;have x0:Ext w w0.drew:=(aQ e0).drew;have zd:=lE w0;refine ⟨_,(h2.ext x0).at 0 rfl,(Jm (h1.ext x0) c hc).mono ?_⟩;rintro e w2 ⟨rfl,x2⟩;have z2:=x2.size;have AI:=(x0.tr x2).drew;have zd2:=lE w2;refine ⟨_,rfl,x2.heap ab,_,(h2.ext AI).at 0 rfl,(Rx (h1.ext AI) c hc b).mono ?_⟩;rintro e w5 ⟨rfl,hT⟩;obtain ⟨F',hF',ht'⟩:=hT;have z5:=ht'.mod.size;have n2:=(h1.ext AI).dU (h2.ext AI) aF;have n3:∀b,sc.bf=some b->¬F1 b:=λb hb=>by obtain ⟨cs',hr'⟩:=bc (h3.ext AI) aF hb;exact (h1.ext AI).dU hr' aF
 have h2':=ht'.mod.row (h2.ext AI) n2;have h3':aE 0 kR 4 w5 sc (ch.map cgv):=ht'.mod.iq (h3.ext AI) n3;have nb:¬F1 w:=λhf=>by have:=hF (.inl hf);omega
 have tt:aM (λi=>F1 i\/i=o\/sc.bf=some i) (λi=>F' i\/i=o\/sc.bf=some i) w w5:=by
  refine (aM.aH AI).trans ⟨ht'.mod.mono λi _ hi=> .inl hi,λi hi=> ?_⟩;rcases hi with hi|hi|hi
  ·exact (ht'.sub i hi).imp .inl id
  ·exact .inl (.inr (.inl hi))
  ·exact .inl (.inr (.inr hi))
 refine ⟨_,rfl,ht'.mod.same _ ab nb,Br.mk (λhb=>Br.mk (λkE=> ?_) (λkE=> ?_)) (λhb=> ?_)⟩
 ·simp only [beq_iff_eq] at hb;simp only [bne_iff_ne] at kE;have ec:Ux T.2 ch c b=ch++ [(c,b)]:=by unfold Ux;rw [if_pos ⟨hb,kE⟩]
  rw [ec];have h2d:=h2'.ext (Ext.dr w5);have u9:sc.n=ch.length:=by have:=(h3.rd (show 0<4 by decide)).n;rwa [aN] at this
  refine ⟨sc,h2d.at 1 rfl,λw8 e8=> ?_⟩;subst e8;obtain ⟨hp,bk⟩:=(h3'.ext (Ext.dr w5)).jk (bytes:=32) (news:=cgv (c,b)) (.cells #[c.1,c.2.1,c.2.2,.int .i64 b] kR) (g7 _) rfl (amq _ _ _ _) ab ab;refine ⟨hp,λs9 bP hr=> ?_⟩;obtain ⟨f1,am9,az5,xb,YO,iG⟩:=bk s9 bP hr;have zd5:=lE w5;have hol:=h2.lt;have asw:∀b,sc.bf=some b->b<w.heap.size:=λb hb=>(h3.own.lt hb).2
  have m10:Mod (λj=>sc.bf=some j) w5 bP:=(Mod.aH (Ext.dr w5)).trans (Mod.xt xb YO);have no:¬sc.bf=some o:=λe=>by obtain ⟨cs',hr'⟩:=bc h3 aF e;exact hr'.ne h2 aF rfl
  have ana:=m10.row h2' no;obtain ⟨p1,p2⟩:=ana.kl (j:=1) (v:=.slice s9.a s9.n s9.c) cp rfl;have YS:=m10.size;have pb:∀j:Nat,o<j->bz (ae (aB o) 1)≠some j:=λj hj e=>by
   rw [c5] at e;have:o=j:=by simpa [bz] using e
   omega
  refine ⟨(m10.same w ab (λe=>by have:=asw _ e;omega)).trans ((Ext.al w5.drew _).heap (show w.heap.size<w5 by omega)).symm,f1,⟨rfl,p1⟩,pb _ ab,pb _ (show o<w5 by omega),λbg HS=>⟨rfl,?_⟩⟩;obtain ⟨q1,q2⟩:=p2 bg HS;have ho9:∀b,s9.bf=some b->b≠o:=λb hb=>by obtain ⟨cs',hr'⟩:=bc am9 aF hb;exact hr'.ne ana aF
  have m11:Mod (λj=>j=o\/sc.bf=some j) w5 bg:=(m10.mono λi _ hi=> .inr hi).trans (q2.mono λi _ hi=> .inl hi);have asy:TF F' bg t ak limit (T.1,(eM T.2 c b).1):=hF'.de m11 λi hi e=>by
   rcases e with e|e
   ·exact hF'.dU h2' aF (e▸hi)
   ·obtain ⟨cs',hr'⟩:=bc h3' aF e;exact hF'.dU hr' aF hi
  refine ⟨_,⟨F',s9,asy,q1,?_,rfl⟩,tt.trans ⟨m11.mono λi _ hi=> .inr hi,λi hi=> ?_⟩⟩
  ·rw [bW];exact q2.iq am9 ho9
  ·rcases hi with hi|hi|hi
   ·exact .inl (.inl hi)
   ·exact .inl (.inr (.inl hi))
   ·rcases iG with e|e
    ·exact .inl (.inr (.inr (by rw [<-e];exact hi)))
    ·rw [e] at hi;cases hi;exact .inr (show w5.heap.size<=w5.heap.size+1 by omega)
 ·simp only [bne_eq_false_iff_eq] at kE;have ec:Ux T.2 ch c b=ch:=by unfold Ux;rw [if_neg λh=>h.2 kE]
  rw [ec];exact ⟨rfl,_,⟨F',sc,hF',h2',h3',rfl⟩,tt⟩
 ·simp only [beq_eq_false_iff_ne] at hb;have ec:Ux T.2 ch c b=ch:=by unfold Ux;rw [if_neg λh=>hb h.1]
  rw [ec];exact ⟨rfl,_,⟨F',sc,hF',h2',h3',rfl⟩,tt⟩
def aeR(l:List En)(ch:List Cg)(c:Ce)(b:Int):(Ux l ch c b).length<=ch.length+1:=by
 unfold Ux;split
 ·simp
 ·omega
abbrev rQ(q:Po):LV:=[.int .i64 q.1,.int .i64 q.2]
def jl(p:Po):List Po:=[p,(p.1-1,p.2),(p.1+1,p.2),(p.1,p.2-1),(p.1,p.2+1)]
def KQ(p:Po)(hp:VW p)(w:World):ah 150 #[pv p] w λe w'=>e=Value.agg #[p.1,p.2,.int .i64 (p.1-1),p.2,.int .i64 (p.1+1),p.2,p.1,.int .i64 (p.2-1),p.1,.int .i64 (p.2+1)]/\Ext w w':=by
 apply MX.vc;obtain ⟨⟨p1,p2⟩,p3,p4⟩:=hp;have q1:ao (p.1-1)=p.1-1:=wI;have q2:ao (p.1+1)=p.1+1:=wI;have q3:ao (p.2-1)=p.2-1:=wI;have q4:ao (p.2+1)=p.2+1:=wI;rw [q1,q2,q3,q4];intro w0 e0 w1 e1;have z0:=eR e0;have x1:Ext w w1:=(aQ e0).bF e1;have hr:Row w1 w0 [aa,aa,aa,aa,aa,aa,aa,aa,aa,aa] 227:=Row.nw e1;refine ⟨⟨rfl,hr.wr cp⟩,λe=>by
  have:w0.heap.size=w.heap.size:=by simpa [bz] using e
  omega,λw2 e2=> ?_⟩
 have h1:One [Value.int .i64 p.1,p.2,.int .i64 (p.1-1),p.2,.int .i64 (p.1+1),p.2,p.1,.int .i64 (p.2-1),p.1,.int .i64 (p.2+1)]:=by intro v hv;simp only [cB,iJ,or_false] at hv;rcases hv with rfl|rfl|rfl|rfl|rfl|rfl|rfl|rfl|rfl|rfl<;>rfl
 rw [hr.aL cp h1] at e2;have qM:Row w2 w0 [p.1,p.2,.int .i64 (p.1-1),p.2,.int .i64 (p.1+1),p.2,p.1,.int .i64 (p.2-1),p.1,.int .i64 (p.2+1)] 227:=hr.st e2;exact ⟨_,_,_,_,_,_,_,_,_,_,qM.bY (λj hj=>by rw [eK]),rfl,x1.ag e2 ab⟩
def HZ(s:Sl)(ps:List Po)(p:Po)(w:World)(hs:RdK w s 2 (ps.map rQ))(hn:ps.length<=1000):
  ah 213 #[s,pv p] w λe w'=>(∃r:Int,e=r/\(0<=r ↔ p ∈ ps))/\Ext w w':=by
 apply A9.vc;have u9:=hs.n;rw [aN] at u9;intro w0 e0;have x0:=aQ e0;refine ⟨λn x w'=>∃j:Nat,x=j/\j+n=ps.length/\Ext w w'/\p ∉ ps.take j,⟨ps.length,rfl,0,rfl,by omega,x0,by simp⟩,?_⟩;rintro n us x w5 ⟨j,rfl,hj,x5,hnp⟩;apply Br.mk<;>intro hb
 ·replace hb:=nA hb;obtain ⟨y,hy⟩:=bE (l:=ps) (i:=j) ab;have kF:=hs.ext (x5.tr (Ext.dr _));refine ⟨hs.im (i:=(j:Int)) aF ab hb,y.1,y.2,kF.bY (i:=j) (r:=rQ y) (by rw [aR,hy];rfl),Br.mk (λh1=> ?_) (λh1=> ?_)⟩
  ·simp only [fk,beq_iff_eq] at h1;have:p=y:=Prod.ext h1.1 h1.2;exact ⟨⟨_,rfl,λ_=>by rw [this];exact aX hy,λ_=>by omega⟩,x5.tr (Ext.dr _)⟩
  ·have wk:=nS (j:=j);refine ⟨n-1,by omega,rfl,j+1,wk,by omega,x5.tr (Ext.dr _),?_⟩;rw [dR,hy];intro hm;rcases cV.1 hm with hm|hm
   ·exact hnp hm
   ·simp only [Option.toList_some,iN] at hm;subst hm;simp at h1
 ·replace hb:=nN hb;rw [fN ab] at hnp;exact ⟨⟨-1,rfl,λh=>by omega,λh=>absurd h hnp⟩,x5⟩
def Ba(s:Sl)(ps:List Po)(p:Po)(w:World)(hs:RdK w s 2 (ps.map rQ))(hn:ps.length<=1000):
  ah 151 #[s,pv p] w λe w'=>e=Value.bool (decide (p ∈ ps))/\Ext w w':=by
 apply vO.vc;intro w0 e0;have z0:=eR e0;have x0:=aQ e0;refine (HZ s ps p w0 (hs.ext x0) hn).mono ?_;rintro e w1 ⟨⟨r,rfl,hr⟩,x1⟩;refine ⟨r,rfl,x1.heap ab,?_,x0.tr x1⟩;have:decide (r>=0)=decide (p ∈ ps):=by rw [decide_eq_decide];exact hr
 rw [this]
def aeS{c:Ce}(hc: -1000000000<=c.1/\c.1<=1000000000)(hz: -1000000000<=c.2.2/\c.2.2<=1000000000):VW (pos c):=by unfold VW pos;simp only;omega
def mZ(l:List En)(c:Ce):Bool:=(jl (pos c)).all λq=>decide (q ∈ l.map (·.1))
def uo{F:Nat->Prop}{w:World}{o t:Nat}{ak limit:Int}{T:Tb}{ch:List Cg}(h:WF F w o t ak limit T ch)(c:Ce)(hc:pW c)(hp:VW (pos c)):
  ah 100 #[o,eE c] w λe w'=>e=Value.bool (mZ T.2 c)/\Ext w w':=by
 obtain ⟨F1,sc,hT,hR,hO,rfl⟩:=h;apply yX.vc;have dN:=hT.len;intro w1 e1;have z1:=eR e1;have x1:=aQ e1;refine ⟨_,(hR.ext x1).at 0 rfl,(MY (hT.ext x1)).mono ?_⟩;rintro e w2 ⟨s',rfl,ho,x2⟩;have z2:=x2.size;have kF:RdK w2 s' 2 ((T.2.map (·.1)).map rQ):=by rw [kS];exact ho.rd (show 0<2 by decide)
 refine ⟨s',rfl,x2.heap ab,(pX c hc w2).mono ?_⟩;rintro e w4 ⟨rfl,x4⟩;have z4:=x4.size;refine ⟨_,_,rfl,x4.heap ab,(KQ (pos c) hp w4).mono ?_⟩;rintro e w7 ⟨rfl,x7⟩;have z7:=x7.size;have dh:=x1.tr (x2.tr (x4.tr x7));unfold mZ;generalize pos c=p at*;have hpl:(T.2.map (·.1)).length<=1000:=by rw [aN];omega
 generalize T.2.map (·.1)=ps at*;refine ⟨_,_,_,_,_,_,_,_,_,_,rfl,x7.heap ab,λn x w'=>∃j:Nat,x=j/\j+n=5/\Ext w7 w'/\∀q ∈(jl p).take j,q ∈ ps,⟨5,rfl,0,rfl,rfl,Ext.cM _,by simp⟩,?_⟩;rintro n us x cW ⟨j,rfl,hj,dY,rO⟩;have z25:=dY.size;apply Br.mk<;>intro hb
 ·replace hb:=nA hb;have hex:∃q:Po,(([p.1,p.2,.int .i64 (p.1-1),p.2,.int .i64 (p.1+1),p.2,p.1,.int .i64 (p.2-1),p.1,.int .i64 (p.2+1)]:LV).drop (((j:Nat):Int).toNat*2)).take 2=[.int .i64 q.1,.int .i64 q.2]/\(jl p)[j]? =some q:=by
   have:j=0\/j=1\/j=2\/j=3\/j=4:=by omega
   rcases this with rfl|rfl|rfl|rfl|rfl
   ·exact ⟨p,rfl,rfl⟩
   ·exact ⟨(p.1-1,p.2),rfl,rfl⟩
   ·exact ⟨(p.1+1,p.2),rfl,rfl⟩
   ·exact ⟨(p.1,p.2-1),rfl,rfl⟩
   ·exact ⟨(p.1,p.2+1),rfl,rfl⟩
  obtain ⟨q,hq1,hq2⟩:=hex;refine ⟨⟨by omega,by omega⟩,q.1,q.2,hq1,λdW Qm fE My=> ?_⟩;have jN:Ext cW fE:=(aQ Qm).ag My (aC _);have z30:fE.heap.size=cW.heap.size+1:=by rw [My,setRow_size,Qm];simp
  have xx:Ext w2 fE:=x4.tr (x7.tr (dY.tr jN));refine (Ba s' ps q fE (kF.ext xx) hpl).mono ?_;rintro e gf ⟨rfl,iD⟩;have wk:=nS (j:=j);refine ⟨_,rfl,iD.heap ab,iD.heap ab,Br.mk (λh1=> ?_) (λh1=> ?_)⟩
  ·refine ⟨?_,dh.tr ((dY.tr jN).tr iD)⟩;have hnq:q ∉ ps:=by simpa using h1
   have:((jl p).all λq=>decide (q ∈ ps))=false:=by rw [List.all_eq_false];exact ⟨q,aX hq2,by simpa using hnq⟩
   rw [this]
  ·have hyq:q ∈ ps:=by simpa using h1
   refine ⟨n-1,by omega,rfl,j+1,wk,by omega,(dY.tr jN).tr iD,?_⟩;rw [dR,hq2];intro y hy;rcases cV.1 hy with hy|hy
   ·exact rO y hy
   ·simp only [Option.toList_some,iN] at hy;subst hy;exact hyq
 ·replace hb:=nN hb;refine ⟨?_,dh.tr dY⟩;rw [fN (show (jl p).length<=j by unfold jl;simp;omega)] at rO;have:((jl p).all λq=>decide (q ∈ ps))=true:=by rw [CG];exact λq hq=>by simpa using rO q hq
  rw [this]
section
variable {N F F':Nat->Prop} {w w' v v':World} {s1 s2 s3 s4:Sl} {T T':Tb} {ch ch':List Cg} {ak cap limit:Int} {o t a b m n k:Nat}
def pO(h:WF F w o t ak limit T ch)(hW:T.1.l.length<=1000000)(p:Po):
  ah 20 #[t,pv p] w λe w'=>e=Value.int .i64 (DK ak limit T.1 T.2 p).2/\HY F w o t ak limit (DK ak limit T.1 T.2 p).1 ch w':=by
 obtain ⟨F1,hT,-,bk⟩:=h.table;refine (O2 hT hW p).mono ?_;rintro e w' ⟨rfl,hr⟩;exact ⟨rfl,bk hr⟩
def qv(h:WF F w o t ak limit T ch)(hW:T.1.l.length<=1000000)(p:Po):
  ah 21 #[t,pv p] w λe w'=>e=Value.int .i64 (kZ T.1 T.2 p).2/\HY F w o t ak limit (kZ T.1 T.2 p).1 ch w':=by
 obtain ⟨F1,hT,-,bk⟩:=h.table;refine (Im hT hW p).mono ?_;rintro e w' ⟨rfl,hr⟩;exact ⟨rfl,bk hr⟩
def Xj(h:WF F w o t ak limit T ch)(c:Ce)(hc:pW c):
  ah 83 #[t,eE c] w λe w'=>e=Value.int .i64 (fj T.2 c)/\Ext w w':=by
 obtain ⟨F1,hT,-⟩:=h.table;exact Jm hT c hc
set_option maxRecDepth 100000 in
def WF.amG{F:Nat->Prop}{w:World}{T:Tb}{ch:List Cg}{ak limit:Int}{o t:Nat}(h:WF F w o t ak limit T ch){w':World}(hk:∀i,F i->w'.heap[i]? =w.heap[i]?)(c:Ce)(hc:pW c):
  cC Tryz.prog (.func (.func 83) #[t] #[]) [eE c] w' λe w''=>e=Value.int .i64 (fj T.2 c)/\Ext w' w'':=
 cX (by kernel_rfl) rfl (Xj (h.same hk) c hc)
end
def Lo.wv{w:World}{g:Nat}{cs:LV}{τ:TypeId}(h:Row w g cs τ):af w (aB g) 0 cs:=h.bY (λj hj=>by rw [eK])
set_option maxRecDepth 100000
set_option maxHeartbeats 8000000
set_option linter.unusedVariables false
variable {R:Ending->World->Prop} {w:World} {a0 a1 a2 a3 a4 a5 a6 a7 a8 a9 aA ar au aU aV aZ bG bC bD Cf aj aq aw bt bR bH eB eO eC wh bA bQ bw wi wm vb vd wo wu wx Ch Ci Cj Ck Cm Cn Co Cp Cq Cr:Int}
def aat.vc(h:
 Aw w #[aA,ar,au] 41 λw0=>
 Aw w0 #[aa,aa,aa] 41 λw1=>
 ah 220 #[aA] w1.drew (Ri λx3 w2=>K2 w w0 w1.drew w2 (
 af w2 (dC w 2) 0 [au]/\af w2 (dC w 1) 0 [ar]/\ah 220 #[ar] w2 (Ri λx5 w4=>K2 w w0 w2 w4 (
 af w4 (dC w 2) 0 [au]/\ah 220 #[au] w4 (Ri λx7 w6=>K2 w w0 w4 w6 (
 Sw w6 w0 #[x3,x5,x7] λw8=>
 R (Value.agg #[x3,x5,x7]) w8))))))):ah 210 #[.agg #[aA,ar,au]] w R:=
 cq bU Tryz.func210 h
def aau.vc(h:
 R (Value.int .i64 (if 2147483648<(if (-2147483648)>a0 then (-2147483648) else a0) then 2147483648 else (if (-2147483648)>a0 then (-2147483648) else a0))) w):ah 220 #[a0] w R:=
 cq bU Tryz.func220 h
def Wo.vc(h:
 Aw w #[aA,ar,au] 41 λw0=>
 Aw w0 #[aa,aa,aa,aa,aa,aa,aa,aa,aa,aa,aa,aa,aa,aa,aa,aa,aa,aa] 186 λw1=>
 ah 219 #[(-1:Int),aa,aa,w] w1 (λe w2=>∃(x3 x4 x5:Int),e=Value.agg #[x3,x4,x5]/\
 ah 219 #[(1:Int),aa,aa,w] w2 (λe w6=>∃(x7 x8 x9:Int),e=Value.agg #[x7,x8,x9]/\
 ah 219 #[aa,(-1:Int),aa,w] w6 (λe bP=>∃(bu bV cn:Int),e=Value.agg #[bu,bV,cn]/\
 ah 219 #[aa,(1:Int),aa,w] bP (λe bO=>∃(cw cH dh:Int),e=Value.agg #[cw,cH,dh]/\
 ah 219 #[aa,aa,(-1:Int),w] bO (λe dH=>∃(cu di db:Int),e=Value.agg #[cu,di,db]/\
 ah 219 #[aa,aa,(1:Int),w] dH (λe dP=>∃(dG eU dY:Int),e=Value.agg #[dG,eU,dY]/\
 Wt dP ⟨w0,0,none⟩ 18/\(∀fx,fx=aL dP (aB w0) [x3,x4,x5,x7,x8,x9,bu,bV,cn,cw,cH,dh,cu,di,db,dG,eU,dY]->
 ∃(fO gm gn jN iD ic eL ie kI nh gI gk oh mP lC nj rU lD:Int),af fx (aB w0) 0 [fO,gm,gn,jN,iD,ic,eL,ie,kI,nh,gI,gk,oh,mP,lC,nj,rU,lD]/\
 R (Value.agg #[fO,gm,gn,jN,iD,ic,eL,ie,kI,nh,gI,gk,oh,mP,lC,nj,rU,lD]) fx)))))))):ah 159 #[.agg #[aA,ar,au]] w R:=
 cq bU Tryz.func159 h
def Nx.vc{c0:Addr}(h:
 Aw w #[aa,aa,aa] 41 λw0=>
 ∃(x1:Int),ld w0.drew (ae (some c0) 0)=some (.int .i64 x1)/\
 ∃(x2:Int),ld w0.drew (ae (some c0) 1)=some (.int .i64 x2)/\
 ∃(x3:Int),ld w0.drew (ae (some c0) 2)=some (.int .i64 x3)/\
 ah 220 #[x1] w0.drew (Ri λx5 w4=>Kp w w0.drew w4/\
 af w4 (ae (some c0) 2) 0 [x3]/\af w4 (ae (some c0) 1) 0 [x2]/\ah 220 #[x2] w4 (Ri λx7 w6=>Kp w w4 w6/\
 af w6 (ae (some c0) 2) 0 [x3]/\ah 220 #[x3] w6 (Ri λx9 w8=>Kp w w6 w8/\
 ah 210 #[.agg #[(ao (x5+a0)),(ao (x7+a1)),(ao (x9+a2))]] w8 (iF λbu bV cn bP=>Kp w w8 bP/\
 Sw bP w #[bu,bV,cn] λbO=>
 R (Value.agg #[bu,bV,cn]) bO))))):ah 219 #[a0,a1,a2,c0] w R:=
 cq bU Tryz.func219 h
def RW.vc(h:
 ah 243 #[a0] w (λe w0=>∃(b1:Bool),e=b1/\
 Br b1
 (R (2:Int) w0)
 (ah 202 #[a0] w0 (λe w2=>∃(b3:Bool),e=b3/\
 Br b3
 (R (5:Int) w2)
 (R (0:Int) w2))))):ah 223 #[a0] w R:=
 cq bU Tryz.func223 h
def RX.vc{a0:Value}(h:
 Aw w #[aj,aq,aw] 41 λw0=>
 ah 159 #[.agg #[aj,aq,aw]] w0 (λe w1=>∃(x2 x3 x4 x5 x6 x7 x8 x9 bj bu bV cn bI cw cH dh cA cu:Int),e=Value.agg #[x2,x3,x4,x5,x6,x7,x8,x9,bj,bu,bV,cn,bI,cw,cH,dh,cA,cu]/\Kp w w0 w1/\
 ((0:Int)<=3/\(3:Int)<((6:Nat):Int))/\∃(di db ef:Int),(([x2,x3,x4,x5,x6,x7,x8,x9,bj,bu,bV,cn,bI,cw,cH,dh,cA,cu]:LV).drop ((3:Int).toNat*3)).take 3=[.int .i64 di,.int .i64 db,.int .i64 ef]/\
 cC Tryz.prog a0 [.agg #[di,db,ef]] w1 (Ri λeU eP=>Kp w w1 eP/\
 ah 202 #[eU] eP (Rb λHq cW=>Kp w eP cW/\
 Br Hq
 (R (Value.tuple #[(1:Int),true]) cW)
 (ah 303 #[.agg #[aj,aq,aw]] cW (Rs λQ5 dX=>Kp w cW dX/\
 ∃I29:Nat->Int->Int->World->Prop,
 (∃n30,aO [aj,aq,aw]/\I29 n30 (0) (7) dX)/\
 ∀(n30:Nat)(att:Nat->Value)(ic eL:Int)(jf:World),I29 n30 ic eL jf->
 Br (decide (ic<((Q5.n:Nat):Int)))
 (eA Q5.a ic Q5.n/\∃(nh gI gk:Int),af jf (ae Q5.a ((ic:Int).toNat*3)) 0 [nh,gI,gk]/\
 Aw jf #[aa,aa,aa] 41 λkx=>
 Sw kx jf #[nh,gI,gk] λjP=>
 cC Tryz.prog a0 [.agg #[nh,gI,gk]] jP (Ri λnj jw=>K2 w jf jP jw (
 ah 280 #[nj] jw (Ri λlD jg=>K2 w jf jw jg (
 Br (lD>=0)
 (∃ME,ME<n30/\aO [aj,aq,aw]/\I29 ME ((ao (ic+1))) ((if lD<eL then lD else eL)) jg)
 (∃ME,ME<n30/\aO [aj,aq,aw]/\I29 ME ((ao (ic+1))) eL jg))))))
 (Br (eL==7)
 (R (Value.tuple #[aa,false]) jf)
 (R (Value.tuple #[(ao (eL+1)),true]) jf)))))))):ah 301 #[a0,.agg #[aj,aq,aw]] w R:=
 cq ⟨[(5,⟨[(19,.int .i64),(6,.int .i64)],[],[]⟩)],[],[]⟩ Tryz.func301 h
def Wa.vc{a0:Value}(h:
 Aw w #[aj,aq,aw] 41 λw0=>
 cC Tryz.prog a0 [.agg #[aj,aq,aw]] w0 (Ri λx2 w1=>Kp w w0 w1/\
 ah 243 #[x2] w1 (Rb λb4 w3=>Kp w w1 w3/\
 Br b4
 (ah 278 #[a0,.agg #[aj,aq,aw]] w3 (Rs λs6 w5=>Kp w w3 w5/\
 R s6 w5))
 (ah 202 #[x2] w3 (Rb λb8 w7=>Kp w w3 w7/\
 Br b8
 (ah 280 #[x2] w7.drew (Ri λbj w9=>Kp w w7.drew w9/\
 af w9 w 0 [aj,aq,aw]/\ah 279 #[a0,.agg #[aj,aq,aw],bj] w9 (Rs λkg bg=>Kp w w9 bg/\
 R kg bg)))
 (R (Value.slice none 0 0) w7)))))):ah 242 #[a0,.agg #[aj,aq,aw]] w R:=
 cq bU Tryz.func242 h
def RY.vc{a0:Value}(h:
 Aw w #[aj,aq,aw] 41 λw0=>
 ah 159 #[.agg #[aj,aq,aw]] w0 (λe w1=>∃(x2 x3 x4 x5 x6 x7 x8 x9 bj bu bV cn bI cw cH dh cA cu:Int),e=Value.agg #[x2,x3,x4,x5,x6,x7,x8,x9,bj,bu,bV,cn,bI,cw,cH,dh,cA,cu]/\Kp w w0 w1/\
 Aw w1 #[aa,aa,aa,aa,aa,aa,aa,aa,aa,aa,aa,aa,aa,aa,aa,aa,aa,aa] 186 λeW=>
 Wt eW ⟨w1,0,none⟩ 18/\Nb w1 w/\(∀eZ,eZ=aL eW (aB w1) [x2,x3,x4,x5,x6,x7,x8,x9,bj,bu,bV,cn,bI,cw,cH,dh,cA,cu]->
 Aw eZ.drew #[aj,aq,aw] 41 λdP=>
 ∃l23:LV,Rd dP (aJ (aB w1) (0) (6) 3) l23/\ba 24 3 dP ⟨(aB eZ.drew.heap.size),1,1⟩ (6-0) l23/\∀(wE:Sl)(cW:World),aY 41 3 dP ⟨(aB eZ.drew.heap.size),1,1⟩ (6-0) l23 wE cW->Kp w dP cW/\cW.heap[eZ.drew.heap.size]? =dP.heap[eZ.drew.heap.size]?/\
 ∃I26:Nat->Int->Sl->World->Prop,
 (∃n27,aO [aj,aq,aw]/\aO [aj,aq,aw]/\I26 n27 (0) ⟨none,0,0⟩ cW)/\
 ∀(n27:Nat)(atv:Nat->Value)(gn:Int)(ug:Sl)(gf:World),I26 n27 gn ug gf->
 Br (decide (gn<((wE.n:Nat):Int)))
 (eA wE.a gn wE.n/\∃(eL ie kI:Int),af gf (ae wE.a ((gn:Int).toNat*3)) 0 [eL,ie,kI]/\
 Aw gf #[aa,aa,aa] 41 λkG=>
 Sw kG gf #[eL,ie,kI] λgw=>
 cC Tryz.prog a0 [.agg #[eL,ie,kI]] gw (Ri λoh oD=>Kp w gw oD/\oD.heap[eZ.drew.heap.size]? =gw.heap[eZ.drew.heap.size]?/\Kp gf gw oD/\
 ah 223 #[oh] oD (Ri λlC jP=>Kp w oD jP/\jP.heap[eZ.drew.heap.size]? =oD.heap[eZ.drew.heap.size]?/\Kp gf oD jP/\
 Br (lC>0)
 (Aw jP #[eL,ie,kI] 41 λlj=>
 ba 24 3 lj ug 1 [eL,ie,kI]/\∀(s43:Sl)(lg:World),aY 41 3 lj ug 1 [eL,ie,kI] s43 lg->Kp w lj lg/\lg.heap[eZ.drew.heap.size]? =lj.heap[eZ.drew.heap.size]?/\K2 gf jP lj lg (
 ∃n32,n32<n27/\aO [aj,aq,aw]/\aO [aj,aq,aw]/\I26 n32 ((ao (gn+1))) s43 lg))
 (∃n32,n32<n27/\aO [aj,aq,aw]/\aO [aj,aq,aw]/\I26 n32 ((ao (gn+1))) ug jP))))
 (R ug gf)))):ah 222 #[a0,.agg #[aj,aq,aw]] w R:=
 cq ⟨[(4,⟨[(16,.int .i64),(5,.slice)],[],[]⟩)],[],[]⟩ Tryz.func222 h
def Ny.vc(h:
 Aw w #[aA,ar,au] 41 λw0=>
 ah 159 #[.agg #[aA,ar,au]] w0 (λe w1=>∃(x2 x3 x4 x5 x6 x7 x8 x9 bj bu bV cn bI cw cH dh cA cu:Int),e=Value.agg #[x2,x3,x4,x5,x6,x7,x8,x9,bj,bu,bV,cn,bI,cw,cH,dh,cA,cu]/\Kp w w0 w1/\
 Aw w1 #[aa,aa,aa,aa,aa,aa,aa,aa,aa,aa,aa,aa,aa,aa,aa,aa,aa,aa] 186 λeW=>
 Wt eW ⟨w1,0,none⟩ 18/\Nb w1 w/\(∀eZ,eZ=aL eW (aB w1) [x2,x3,x4,x5,x6,x7,x8,x9,bj,bu,bV,cn,bI,cw,cH,dh,cA,cu]->
 (0:Int)<=2/\2<=((6:Nat):Int)/\(0:Int)<=2/\(2:Int)<=2/\(0:Int)<=4/\4<=((6:Nat):Int)/\∃l22:LV,Rd eZ.drew (aJ (aB w1) ((4:Int).toNat) (6) 3) l22/\ba 24 3 eZ.drew ⟨(aJ (aB w1) (0) ((2:Int).toNat) 3),((2:Int).toNat-0),((2:Int).toNat-0)⟩ (6-(4:Int).toNat) l22/\∀(s23:Sl)(gl:World),aY 41 3 eZ.drew ⟨(aJ (aB w1) (0) ((2:Int).toNat) 3),((2:Int).toNat-0),((2:Int).toNat-0)⟩ (6-(4:Int).toNat) l22 s23 gl->Kp w eZ.drew gl/\
 R s23 gl))):ah 303 #[.agg #[aA,ar,au]] w R:=
 cq bU Tryz.func303 h
def Wp.vc{a0:Value}(h:
 Aw w #[aj,aq,aw] 41 λw0=>
 ah 159 #[.agg #[aj,aq,aw]] w0 (λe w1=>∃(x2 x3 x4 x5 x6 x7 x8 x9 bj bu bV cn bI cw cH dh cA cu:Int),e=Value.agg #[x2,x3,x4,x5,x6,x7,x8,x9,bj,bu,bV,cn,bI,cw,cH,dh,cA,cu]/\Kp w w0 w1/\
 ((0:Int)<=2/\(2:Int)<((6:Nat):Int))/\∃(di db ef:Int),(([x2,x3,x4,x5,x6,x7,x8,x9,bj,bu,bV,cn,bI,cw,cH,dh,cA,cu]:LV).drop ((2:Int).toNat*3)).take 3=[.int .i64 di,.int .i64 db,.int .i64 ef]/\
 Aw w1 #[aa,aa,aa] 41 λeP=>
 Sw eP w1 #[di,db,ef] λgl=>
 cC Tryz.prog a0 [.agg #[di,db,ef]] gl (Ri λfg cW=>K2 w w1 gl cW (
 ah 144 #[fg] cW (Rb λQ7 dX=>K2 w w1 cW dX (
 Br (!Q7)
 (R (Value.slice none 0 0) dX)
 (Aw dX #[aj,aq,aw,fg,di,db,ef,(3:Int)] 289 λdW=>
 R (Value.slice (aB dX) 2 2) dW))))))):ah 278 #[a0,.agg #[aj,aq,aw]] w R:=
 cq bU Tryz.func278 h
def afa.vc{a0:Addr}(h:
 ah 97 #[(4096:Int)] w (λe w0=>∃(p1:Option Addr),e=p1/\
 ∀w2,w2=w0.alloc (.cells #[p1,a0,.int .i64 (if 64<(if 1>a1 then 1 else a1) then 64 else (if 1>a1 then 1 else a1)),(0:Int),.func (.func 98) #[] #[],.slice none 0 0] 130)->
 R (Value.pointer (aB w0)) w2)):ah 40 #[a0,a1] w R:=
 cq bU Tryz.func40 h
def H9.vc{a0:Addr}(h:
 ∃(p0:Option Addr),ld w (ae (some a0) 1)=some (.pointer p0)/\
 R p0 w):ah 18 #[a0] w R:=
 cq bU Tryz.func18 h
def DD.vc{a0:Addr}(h:
 ∃(p0:Option Addr),ld w (ae (some a0) 0)=some (.pointer p0)/\
 ah 138 #[p0] w (λe w1=>∃(s2:Sl),e=s2/\
 R s2 w1)):ah 82 #[a0] w R:=
 cq bU Tryz.func82 h
def FP.vc{a0:Addr}{f1:Fn}{p1 q1:Array Value}(h:
 ((true=true/\Wr w (ae (some a0) 4) 1)/\(∀w0,w0=aL w (ae (some a0) 4) [.func f1 p1 q1]->
 R po w0))):ah 118 #[a0,.func f1 p1 q1] w R:=
 cq bU Tryz.func118 h
def Nz.vc{a0:Addr}(h:
 ∃(x0:Int),ld w (ae (some a0) 3)=some (.int .i64 x0)/\
 R x0 w):ah 68 #[a0] w R:=
 cq bU Tryz.func68 h
def Li.vc{a0:Addr}(h:
 Aw w #[aj,aq,aw] 41 λw0=>
 ∃(p1:Option Addr),ld w0.drew (ae (some a0) 1)=some (.pointer p1)/\
 ah 161 #[p1,.agg #[aj,aq,aw],a2] w0.drew (Ri λx3 w2=>Kp w w0.drew w2/\
 Br (x3==0)
 (ah 162 #[a0,.agg #[aj,aq,aw]] w2 (Rt λw4=>Kp w w2 w4/\
 R x3 w4))
 (R x3 w2))):ah 113 #[a0,.agg #[aj,aq,aw],a2] w R:=
 cq bU Tryz.func113 h
def Lj.vc{a0:Addr}(h:
 Aw w #[aj,aq,aw] 41 λw0=>
 ∃(p1:Option Addr),ld w0 (ae (some a0) 1)=some (.pointer p1)/\
 ah 27 #[p1] w0 (Rv λv3 w2=>Kp w w0 w2/\
 ah 222 #[v3,.agg #[aj,aq,aw]] w2 (Rs λs5 w4=>Kp w w2 w4/\
 ∃I6:Nat->Int->World->Prop,
 (∃n7,aO [aj,aq,aw]/\I6 n7 (0) w4)/\
 ∀(n7:Nat)(us8:Nat->Value)(x9:Int)(bP:World),I6 n7 x9 bP->
 Br (decide (x9<((s5.n:Nat):Int)))
 (eA s5.a x9 s5.n/\∃(bV cn bI:Int),af bP (ae s5.a ((x9:Int).toNat*3)) 0 [bV,cn,bI]/\
 Aw bP #[aa,aa,aa] 41 λdB=>
 Sw dB bP #[bV,cn,bI] λcF=>
 ∃(p17:Option Addr),ld cF.drew (ae (some a0) 0)=some (.pointer p17)/\
 ∃(cA:Int),ld cF.drew (ae (some a0) 3)=some (.int .i64 cA)/\
 cC Tryz.prog v3 [.agg #[bV,cn,bI]] cF.drew (Ri λdi gg=>K2 w bP cF.drew gg (
 af gg (ae (some a0) 3) 0 [cA]/\af gg bP 0 [bV,cn,bI]/\af gg (ae (some a0) 0) 0 [.pointer p17]/\ah 223 #[di] gg (Ri λef eZ=>K2 w bP gg eZ (
 af eZ (ae (some a0) 3) 0 [cA]/\af eZ bP 0 [bV,cn,bI]/\af eZ (ae (some a0) 0) 0 [.pointer p17]/\ah 211 #[p17,.agg #[bV,cn,bI],(ao (cA+ef))] eZ (Rb λb24 eP=>K2 w bP eZ eP (
 af eP (ae (some a0) 3) 0 [cA]/\∃tG,tG<n7/\aO [aj,aq,aw]/\I6 tG ((ao (x9+1))) eP)))))))
 (R po bP)))):ah 162 #[a0,.agg #[aj,aq,aw]] w R:=
 cq ⟨[(3,⟨[(16,.int .i64)],[],[]⟩)],[],[]⟩ Tryz.func162 h
def FQ.vc{a0:Addr}(h:
 Aw w #[aj,aq,aw,bt] 289 λw0=>
 ∃(p1:Option Addr),ld w0.drew (ae (some a0) 1)=some (.pointer p1)/\
 ah 27 #[p1] w0.drew (Rv λv3 w2=>Kp w w0.drew w2/\
 af w2 (dC w 3) 0 [bt]/\af w2 w 0 [aj,aq,aw]/\cC Tryz.prog v3 [.agg #[aj,aq,aw]] w2 (Ri λx5 w4=>Kp w w2 w4/\
 af w4 (dC w 3) 0 [bt]/\Br (x5 !=bt)
 (ah 113 #[a0,.agg #[aj,aq,aw],bt] w4 (Ri λx7 w6=>Kp w w4 w6/\
 R po w6))
 (R po w4)))):ah 244 #[a0,.agg #[aj,aq,aw,bt]] w R:=
 cq bU Tryz.func244 h
def FR.vc{a0:Addr}(h:
 Aw w #[aj,aq,aw] 41 λw0=>
 ∃(p1:Option Addr),ld w0.drew (ae (some a0) 1)=some (.pointer p1)/\
 ah 100 #[p1,.agg #[aj,aq,aw]] w0.drew (Rb λb3 w2=>Kp w w0.drew w2/\
 Br (!b3)
 (∃(p4:Option Addr),ld w2.drew (ae (some a0) 0)=some (.pointer p4)/\
 ∃(x5:Int),ld w2.drew (ae (some a0) 3)=some (.int .i64 x5)/\
 ah 211 #[p4,.agg #[aj,aq,aw],(ao (x5+1))] w2.drew (Rb λb7 w6=>Kp w w2.drew w6/\
 af w6 (ae (some a0) 3) 0 [x5]/\R po w6))
 (∃(p8:Option Addr),ld w2 (ae (some a0) 1)=some (.pointer p8)/\
 ah 27 #[p8] w2 (Rv λv10 w9=>Kp w w2 w9/\
 ah 242 #[v10,.agg #[aj,aq,aw]] w9 (Rs λkg bg=>Kp w w9 bg/\
 ah 159 #[.agg #[aj,aq,aw]] bg (λe bK=>∃(bI cw cH dh cA cu di db ef dG eU dY fg fO gm gn jN iD:Int),e=Value.agg #[bI,cw,cH,dh,cA,cu,di,db,ef,dG,eU,dY,fg,fO,gm,gn,jN,iD]/\Kp w bg bK/\
 ((0:Int)<=2/\(2:Int)<((6:Nat):Int))/\∃(ic eL ie:Int),(([bI,cw,cH,dh,cA,cu,di,db,ef,dG,eU,dY,fg,fO,gm,gn,jN,iD]:LV).drop ((2:Int).toNat*3)).take 3=[.int .i64 ic,.int .i64 eL,.int .i64 ie]/\
 Aw bK #[aa,aa,aa] 41 λkh=>
 Sw kh bK #[ic,eL,ie] λkG=>
 cC Tryz.prog v10 [.agg #[aj,aq,aw]] kG.drew (Ri λgk gw=>K2 w bK kG.drew gw (
 ah 243 #[gk] gw (Rb λb40 kx=>K2 w bK gw kx (
 Br b40
 (Br (decide ((((kg.n:Nat):Int):Int)>0))
 (∃(v41:Value),ld kx (ae (some a0) 4)=some (v41)/\
 cC Tryz.prog v41 [.agg #[ic,eL,ie]] kx (Rb λQp lj=>K2 w bK kx lj (
 Br Qp
 (Aw lj #[aj,aq,aw,aa] 289 λlg=>
 ∃(s45:Sl),ld lg.drew (ae (some a0) 5)=some (.slice s45.a s45.n s45.c)/\
 Aw lg.drew #[ic,eL,ie] 41 λqo=>
 ba 24 3 qo s45 1 [ic,eL,ie]/\∀(EN:Sl)(gj:World),aY 41 3 qo s45 1 [ic,eL,ie] EN gj->K3 w bK lj qo gj (
 gj.heap[lg.drew.heap.size]? =qo.heap[lg.drew.heap.size]?/\
 (true=true/\Wr gj (ae (some a0) 5) 1)/\bz (ae (some a0) 5)≠some w.heap.size/\bz (ae (some a0) 5)≠some bK.heap.size/\bz (ae (some a0) 5)≠some lj.heap.size/\bz (ae (some a0) 5)≠some lg.drew.heap.size/\(∀lq,lq=aL gj (ae (some a0) 5) [EN]->
 ∃I50:Nat->Int->World->Prop,
 (∃n51,aO [aj,aq,aw]/\aO [ic,eL,ie]/\aO [aj,aq,aw,aa]/\aO [ic,eL,ie]/\I50 n51 (0) lq)/\
 ∀(n51:Nat)(atx:Nat->Value)(jA:Int)(Hy:World),I50 n51 jA Hy->
 Br (decide (jA<((1:Nat):Int)))
 (eA (aB lj) jA 1/\∃(sX oo wy qq:Int),af Hy (ae (aB lj) ((jA:Int).toNat*4)) 0 [sX,oo,wy,qq]/\
 Aw Hy #[aa,aa,aa,aa] 289 λmQ=>
 Sw mQ Hy #[sX,oo,wy,qq] λpx=>
 ah 244 #[a0,.agg #[sX,oo,wy,qq]] px (Rt λiH=>K3 w bK lj px iH (
 iH.heap[lg.drew.heap.size]? =px.heap[lg.drew.heap.size]?/\Kp Hy px iH/\
 ∃n55,n55<n51/\aO [aj,aq,aw]/\aO [ic,eL,ie]/\aO [aj,aq,aw,aa]/\aO [ic,eL,ie]/\I50 n55 ((ao (jA+1))) iH)))
 (R po Hy))))
 (∃I63:Nat->Int->World->Prop,
 (∃n64,aO [aj,aq,aw]/\aO [ic,eL,ie]/\I63 n64 (0) lj)/\
 ∀(n64:Nat)(as6:Nat->Value)(mg:Int)(jH:World),I63 n64 mg jH->
 Br (decide (mg<((kg.n:Nat):Int)))
 (eA kg.a mg kg.n/\∃(qN py oq nL:Int),af jH (ae kg.a ((mg:Int).toNat*4)) 0 [qN,py,oq,nL]/\
 Aw jH #[aa,aa,aa,aa] 289 λKy=>
 Sw Ky jH #[qN,py,oq,nL] λmU=>
 ah 244 #[a0,.agg #[qN,py,oq,nL]] mU (Rt λsY=>K3 w bK jH mU sY (
 ∃n68,n68<n64/\aO [aj,aq,aw]/\aO [ic,eL,ie]/\I63 n68 ((ao (mg+1))) sY)))
 (R po jH)))))
 (∃I76:Nat->Int->World->Prop,
 (∃n77,aO [aj,aq,aw]/\aO [ic,eL,ie]/\I76 n77 (0) kx)/\
 ∀(n77:Nat)(atA:Nat->Value)(AM:Int)(vL:World),I76 n77 AM vL->
 Br (decide (AM<((kg.n:Nat):Int)))
 (eA kg.a AM kg.n/\∃(qt rV vJ vK:Int),af vL (ae kg.a ((AM:Int).toNat*4)) 0 [qt,rV,vJ,vK]/\
 Aw vL #[aa,aa,aa,aa] 289 λw86=>
 Sw w86 vL #[qt,rV,vJ,vK] λCs=>
 ah 244 #[a0,.agg #[qt,rV,vJ,vK]] Cs (Rt λMG=>K3 w bK vL Cs MG (
 ∃n81,n81<n77/\aO [aj,aq,aw]/\aO [ic,eL,ie]/\I76 n81 ((ao (AM+1))) MG)))
 (R po vL)))
 (∃I89:Nat->Int->World->Prop,
 (∃n90,aO [aj,aq,aw]/\aO [ic,eL,ie]/\I89 n90 (0) kx)/\
 ∀(n90:Nat)(atD:Nat->Value)(xl:Int)(IW:World),I89 n90 xl IW->
 Br (decide (xl<((kg.n:Nat):Int)))
 (eA kg.a xl kg.n/\∃(yE EK EM MH:Int),af IW (ae kg.a ((xl:Int).toNat*4)) 0 [yE,EK,EM,MH]/\
 Aw IW #[aa,aa,aa,aa] 289 λQ8=>
 Sw Q8 IW #[yE,EK,EM,MH] λqF=>
 ah 244 #[a0,.agg #[yE,EK,EM,MH]] qF (Rt λIG=>K3 w bK IW qF IG (
 ∃n94,n94<n90/\aO [aj,aq,aw]/\aO [ic,eL,ie]/\I89 n94 ((ao (xl+1))) IG)))
 (R po IW)))))))))))):ah 173 #[a0,.agg #[aj,aq,aw]] w R:=
 cq ⟨[(10,⟨[(70,.int .i64)],[],[]⟩),(10,⟨[(70,.int .i64)],[],[]⟩),(10,⟨[(70,.int .i64)],[],[]⟩),(10,⟨[(70,.int .i64)],[],[]⟩)],[],[]⟩ Tryz.func173 h
def Lk.vc{a0:Addr}(h:
 ∃(x0:Int),ld w (ae (some a0) 3)=some (.int .i64 x0)/\
 (true=true/\Wr w (ae (some a0) 3) 1)/\(∀w1,w1=aL w (ae (some a0) 3) [.int .i64 (if 1099511627776<(ao (x0+1)) then 1099511627776 else (ao (x0+1)))]->
 ∃(p2:Option Addr),ld w1.drew (ae (some a0) 0)=some (.pointer p2)/\
 ∃(x3:Int),ld w1.drew (ae (some a0) 3)=some (.int .i64 x3)/\
 ∃(x4:Int),ld w1.drew (ae (some a0) 2)=some (.int .i64 x4)/\
 ah 172 #[p2,x3,x4] w1.drew (λe w5=>∃(s6:Sl),e=s6/\
 ∃I7:Nat->Int->World->Prop,
 (∃n8,I7 n8 (0) w5)/\
 ∀(n8:Nat)(us9:Nat->Value)(bj:Int)(bg:World),I7 n8 bj bg->
 Br (decide (bj<((s6.n:Nat):Int)))
 (eA s6.a bj s6.n/\∃(cn bI cw:Int),af bg (ae s6.a ((bj:Int).toNat*3)) 0 [cn,bI,cw]/\
 Aw bg #[aa,aa,aa] 41 λcF=>
 Sw cF bg #[cn,bI,cw] λcL=>
 ah 173 #[a0,.agg #[cn,bI,cw]] cL (Rt λdH=>Kp bg cL dH/\
 ∃EO,EO<n8/\I7 EO ((ao (bj+1))) dH))
 (R (Value.int .i64 ((s6.n:Nat):Int)) bg)))):ah 119 #[a0] w R:=
 cq ⟨[(4,⟨[(30,.int .i64)],[],[]⟩)],[],[]⟩ Tryz.func119 h
end Go.Proofs.YtkkkfkopcfdmaaaGreatDoor
