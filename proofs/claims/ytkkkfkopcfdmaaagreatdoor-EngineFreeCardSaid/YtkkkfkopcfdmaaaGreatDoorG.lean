import Derived.Test.YtkkkfkopcfdmaaaGreatDoorE
import Derived.Test.YtkkkfkopcfdmaaaGreatDoorD
import Derived.Laws.IdiomRangeMap
import Derived.LoopTactic
import Derived.Test.YtkkkfkopcfdmaaaGreatDoorF
set_option linter.all false
namespace Go.Proofs.YtkkkfkopcfdmaaaGreatDoor
open Go Go.Vc Go.RowKit Go.Proofs Go.dm Go.aZ Go.Code
def LG(v:mH)(w:World):ah 321 #[.int .u16 (cI v)] w λe w'=>e=Value.int .u16 (cI (QV v))/\w'=w:=by
 apply O3.vc;have e1:nv (cI v*2 ^(min (1:Int).toNat 16))=cI (v<<<1):=Vk v 1;have e2:oU .u16 (cI v) 32768=cI (v &&& 0x8000#16):=ajX v 0x8000#16;have e3:lD .u16 (cI (v<<<1)) 4129=cI ((v<<<1) ^^^ 0x1021#16):=GL _ 0x1021#16;apply Br.mk<;>intro h
 ·rw [e2] at h;have hm:v.msb=true:=by
   cases q:v.msb with
   |true=>rfl
   |false=>rw [(Vl v).2 q] at h;simp at h
  rw [e1,e3];unfold QV;rw [if_pos hm];exact ⟨rfl,rfl⟩
 ·rw [e2] at h;have hm:v.msb=false:=(Vl v).1 (by simpa using h);rw [e1];unfold QV;rw [hm];exact ⟨rfl,rfl⟩
abbrev PA:TypeId:=358
abbrev tA2:TypeId:=321
def itS:Nat->mH->mH
 |0,v=>v
 |k+1,v=>QV (itS k v)
def Ig(w:World):ah 310 #[] w λe w'=>e=Value.agg tS.toArray/\Ext w w':=by
 apply XA.vc;intro w0 e0 w1 e1;have z0:=eN e0;have x1:Ext w w1:=(aT e0).bg e1;have ha:Row w1 w (tT 0) PA:=(by rw [e0];exact Row.new w (tT 0) _:Row w0 w (tT 0) PA).ext (aT e1);have hb:Row w1 w0 (tT 0) PA:=by rw [e1];exact Row.new w0 (tT 0) _
 refine ⟨λn i wr=>∃k:Nat,i=k/\k+n=16/\Row wr w (tT 0) PA/\Row wr w0 (tT k) PA/\Ext w wr,⟨16,0,rfl,rfl,ha,hb,x1⟩,?_⟩;rintro n3 us4 x5 w6 ⟨k,rfl,hk,ha6,hb6,x6⟩;apply Br.mk<;>intro hc
 ·replace hc:=nG hc;have ek:nv (nv (k:Int)*2 ^(min (12:Int).toNat 16))=cI (oI (k:Int)<<<12):=by
   have:nv (k:Int)=cI (oI (k:Int)):=by rw [Te ab,wrap_u16];omega
   rw [this];exact Vk _ 12
  rw [ek];refine ⟨λn j c wr=>∃m:Nat,j=m/\m+n=4/\c=cI (itS m (oI (k:Int)<<<12))/\wr=w6,⟨4,0,rfl,rfl,rfl,rfl⟩,?_⟩;rintro n9 Zx bA bS bG ⟨m,rfl,hm,rfl,rfl⟩;apply Br.mk<;>intro oK
  ·replace oK:=nG oK;have wk:=nY (j:=m);refine (LG _ _).mono ?_;rintro e eu ⟨rfl,hw⟩;exact ⟨_,rfl,n9-1,by omega,m+1,wk,by omega,rfl,hw⟩
  ·replace oK:=nT oK;have hm4:m=4:=by omega
   subst hm4;have wk:=nY (j:=k);have dD:(tT k).length=16:=by unfold tT;rw [cS,dI,JM];simp [tS];omega
   obtain ⟨p1,p2⟩:=hb6.jm (j:=k) (v:=tv k) ab rfl;have hj:((k:Int)).toNat*1=k:=by omega
   rw [hj];refine ⟨by omega,by omega,⟨rfl,p1⟩,λcJ yr=> ?_⟩;obtain ⟨q1,q2⟩:=p2 cJ yr;rw [show aW (tT k) k [tv k]=(tT k).set k (tv k) from rfl,ajY ab] at q1;exact ⟨n3-1,by omega,k+1,wk,by omega,q2.row ha6 (by have:=x1.size;omega),q1,q2.ext x6 (by intro i hi;omega)⟩
 ·replace hc:=nT hc;have:k=16:=by omega
  subst this;have hl:af w6 (aB w0.heap.size) 0 tS:=hb6.cg λj hj=>by rw [eD];rfl
  have hs:=ha6.aK (o:=0) (vs:=tS) aG (by intro v hv;simp only [tS,cR,oQ,or_false] at hv;rcases hv with rfl|rfl|rfl|rfl|rfl|rfl|rfl|rfl|rfl|rfl|rfl|rfl|rfl|rfl|rfl|rfl<;>rfl);refine ⟨_,_,_,_,_,_,_,_,_,_,_,_,_,_,_,_,hl,⟨rfl,ha6.wr (o:=0) (n:=16) aG⟩,λiq e34=> ?_⟩;have apL:iq=w6.setRow w tS.toArray:=e34.trans hs;have hr:Row iq w tS PA:=by rw [apL];exact ha6.set tS
  have Hg:af iq (aB w.heap.size) 0 tS:=hr.cg λj hj=>by rw [eD]
  exact ⟨_,_,_,_,_,_,_,_,_,_,_,_,_,_,_,_,Hg,rfl,x6.ag apL (aD _)⟩
def LH(v:mH)(s:Sl)(b:List Int)(w:World)(hs:jF w s b)(hb:oa b)(hn:(b.length:Int)<=1099511627776):ah 297 #[.int .u16 (cI v),s] w λe w'=>e=Value.int .u16 (cI (PB v b))/\Ext w w':=by
 apply (Gq.vc (a1:=s));refine (Ig w).mono ?_;rintro e w0 ⟨rfl,x0⟩;refine ⟨_,_,_,_,_,_,_,_,_,_,_,_,_,_,_,_,rfl,λcJ yr=> ?_⟩;have ad8:Row cJ w0 (tT 0) PA:=by rw [yr];exact Row.new w0 (tT 0) _
 have hS:=ad8.aK (o:=0) (vs:=tS) aG (by intro v hv;simp only [tS,cR,oQ,or_false] at hv;rcases hv with rfl|rfl|rfl|rfl|rfl|rfl|rfl|rfl|rfl|rfl|rfl|rfl|rfl|rfl|rfl|rfl<;>rfl);refine ⟨⟨rfl,ad8.wr (o:=0) (n:=16) aG⟩,λdu Zc=> ?_⟩;have apM:du=cJ.setRow w0 tS.toArray:=Zc.trans hS;have hr:Row du w0 tS PA:=by rw [apM];exact ad8.set tS
 have cA:Ext w du:=x0.tr ((aT yr).ag apM (aD _));have apN:=hs.ext cA;have tL:=hs.n;rw [aN] at tL;refine ⟨λn i c wr=>∃k:Nat,i=k/\k+n=b.length/\c=cI (PB v (b.take k))/\wr=du,⟨b.length,0,rfl,by omega,rfl,rfl⟩,?_⟩;rintro n us i c wr ⟨k,rfl,hk,rfl,rfl⟩;apply Br.mk<;>intro hc
 ·replace hc:=nG hc;obtain ⟨x,hx⟩:=bB (l:=b) (i:=k) ab;have hxb:=hb x (aU hx);have hm:(b.map yv)[k]? =some [.int .u8 x]:=by rw [aV,hx];rfl
  have jR:=apN.at hm (j:=0) rfl;rw [fC] at jR;have wk:=nY (j:=k);have ht:b.take (k+1)=b.take k++ [x]:=by rw [dP,hx];rfl
  generalize hu:PB v (b.take k)=u;refine ⟨apN.iz aG ab hc,x,jR,?_⟩;have m1:(min (12:Int).toNat 16)=12:=rfl;have m2:(min (4:Int).toNat 8)=4:=rfl;have m3:(min (4:Int).toNat 16)=4:=rfl;rw [m1,m2,m3,acd,asG hxb,GL,asH hxb,Vk];have l1:=ace (acf u) (ah0 hxb);have g1:=ah1 l1;have c1:=At ((u>>>12) ^^^(oI x>>>4));have c1':cI ((u>>>12) ^^^(oI x>>>4))<16:=by unfold cI;omega
  refine ⟨by omega,by omega,_,(by rw [bo,eD,hr.ld,zc];exact g1),?_⟩;rw [GL,acd,GL,Vk];have l2:=ace (acf ((u<<<4) ^^^ Ih (((u>>>12) ^^^(oI x>>>4))<<<12))) (ah2 (oI x));have g2:=ah1 l2;have c2:=At ((((u<<<4) ^^^ Ih (((u>>>12) ^^^(oI x>>>4))<<<12))>>>12) ^^^(oI x &&& 15#16));have c2':cI ((((u<<<4) ^^^ Ih (((u>>>12) ^^^(oI x>>>4))<<<12))>>>12) ^^^(oI x &&& 15#16))<16:=by unfold cI;omega
  refine ⟨by omega,by omega,_,(by rw [bo,eD,hr.ld,zc];exact g2),n-1,by omega,k+1,wk,by omega,?_,rfl⟩;rw [GL,X2 u hxb,ht,C3,hu];rfl
 ·replace hc:=nT hc;rw [fz ab];exact ⟨rfl,cA⟩
def E8(s:Sl)(b:List Int)(w:World)(hs:jF w s b)(hb:oa b)(hn:(b.length:Int)<=1099511627776):ah 269 #[s] w λe w'=>e=Value.int .u16 (cI (rV b))/\Ext w w':=by
 apply (ajI.vc (a0:=s));have st:ah 296 #[] w λe w'=>e=Value.int .u16 (cI 0xFFFF#16)/\w'=w:=by apply Xz.vc;exact ⟨rfl,rfl⟩
 refine st.mono ?_;rintro e w0 ⟨rfl,rfl⟩;refine ⟨_,rfl,(LH _ s b w0 hs hb hn).mono ?_⟩;rintro e w2 ⟨rfl,x2⟩;exact ⟨_,rfl,rfl,x2⟩
def KI(s:Sl)(b:List Int)(w:World)(hs:jF w s b)(hb:oa b)(hn:(b.length:Int)<=1099511627776):ah 281 #[s] w λe w'=>e=Value.bool (decide (2<=b.length/\rV b=0#16))/\Ext w w':=by
 apply (abH.vc (a0:=s));have tL:=hs.n;rw [aN] at tL;apply Br.mk<;>intro h
 ·simp only [ge_iff_le,cX] at h;refine (E8 s b w hs hb hn).mono ?_;rintro e w0 ⟨rfl,x0⟩;refine ⟨_,rfl,?_,x0⟩;have:(cI (rV b)==0)=decide (2<=b.length/\rV b=0#16):=by
   rw [Bool.eq_iff_iff];simp only [beq_iff_eq,cX];constructor
   ·intro q;exact ⟨by omega,Tf.1 (q.trans rfl)⟩
   ·rintro ⟨-,q⟩;rw [q];rfl
  rw [this]
 ·simp only [ge_iff_le,fk] at h;rw [decide_eq_false ab];exact ⟨rfl,Ext.cu _⟩
def HW(v:mH)(w:World):ah 270 #[.int .u16 (cI v)] w λe w'=>e=Value.agg #[.int .u8 (cI v / 256),.int .u8 (cI v % 256)]/\Ext w w':=by
 apply DG.vc;intro w0 e0;have hb:=At v;have h0:Row w0 w [.int .u8 0,.int .u8 0] tA2:=Row.nw e0;have e1:fi ((cI v).fdiv (2 ^(min (8:Int).toNat 16)))=cI v / 256:=by show fi ((cI v).fdiv (2 ^ 8))=_;rw [acd,Tg,wrap_u8];simp only [show (2:Int) ^ 8=256 from rfl];omega
 have e2:fi (cI v)=cI v % 256:=wrap_u8 _;rw [e1,e2];have hS:=h0.aK (o:=0) (vs:=[.int .u8 (cI v / 256),.int .u8 (cI v % 256)]) (aD 2) (Bb _ _ _ _);refine ⟨⟨rfl,h0.wr (o:=0) (n:=2) aG⟩,λw1 e1=> ?_⟩;have e1':w1=w0.setRow w #[.int .u8 (cI v / 256),.int .u8 (cI v % 256)]:=e1.trans hS;have h1:Row w1 w [.int .u8 (cI v / 256),.int .u8 (cI v % 256)] tA2:=by rw [e1'];exact h0.set _
 exact ⟨_,_,h1.cg (λj hj=>by rw [eD]),rfl,(aT e0).ag e1' (aD _)⟩
abbrev tSB:TypeId:=62
def jF.n{w:World}{s:Sl}{b:List Int}(h:jF w s b):s.n=b.length:=by have:=RdK.n h;rwa [aN] at this
def Uy{b:List Int}:∀r ∈ b.map yv,r.length=1:=λr hr=>by obtain ⟨x,_,rfl⟩:=aY.1 hr;rfl
def pZ(s:Sl)(b:List Int)(w:World)(hs:jF w s b)(hn:b.length<=1099511627776):
  ah 230 #[s] w λe w'=>∃s':Sl,e=s'/\nA w w' s' b/\Ext w w':=by
 have tL:=jF.n hs;apply (yY.vc (a0:=s));apply Br.mk<;>intro h
 ·have:b=[]:=by
   rcases Cq b.length with h0|h0
   ·exact Cu h0
   ·have:=RdK.isSome hs ab (i:=0) (by simpa using h0)
    cases hsa:s.a<;>simp [hsa] at h this
  subst this;exact ⟨⟨none,0,0⟩,rfl,aF.nil,Ext.cu w⟩
 ·rintro w0 rfl;have xa:=Ext.al w (.cells #[] iJ);have hz:aF w iJ 1 (w.alloc (.cells #[] iJ)) ⟨aB w.heap.size,0,0⟩ []:=aF.jG (aD _) (Row.new w [] iJ) cj (aD _) rfl (λr hr=>by cases hr);have hb:=hz.HU (bytes:=1) (more:=b.map yv) xa.size Uy (aaw _) (by simp only [aN];omega) (by simp only [aN];omega);rw [aN,<-tL] at hb;obtain ⟨hp,hr⟩:=hb;refine ⟨(b.map yv).flatten,RdK.flat (hs.ext xa) ab,hp,λs2 w3 bu=> ?_⟩;obtain ⟨ho,QZ,xb,_,_⟩:=hr s2 w3 bu;exact ⟨qb bu (by rw [bK Uy,aN,tL]) cj,s2,rfl,ho,xa.trans xb⟩
def KF(n:Nat)(w:World)(hn:n<=1099511627776):Calls Tryz.prog 271 #[.slice none 0 0,.int .i64 n] w λe w'=>∃s':Sl,e=.returned (.slice s'.a s'.n s'.c)/\nA w.heap.size w' s' []/\Ext w w':=by
 apply (Ba.vc (a0:=⟨none,0,0⟩));have e1:IntKind.wrap .i64 ((n:Int)-IntKind.wrap .i64 (((0:Nat):Int)-((0:Nat):Int)))=n:=by rw [aM (n:=((0:Nat):Int)-((0:Nat):Int)) (by unfold bT;omega),wI];omega
 refine Br.mk (λh=>by simp at h;omega) (λ_=> ?_);rw [e1];refine Br.mk (λh=> ?_) (λh=> ?_)
 ·have h0:aF w.heap.size iJ 1 w ⟨none,0,0⟩ []:=aF.nil;have hb:=h0.HU (bytes:=1) (more:=(List.replicate n (yv 0))) (Nat.le_refl _) (λr hr=>by rw [(List.mem_replicate.1 hr).2];rfl) (λr hr=>by rw [(List.mem_replicate.1 hr).2];exact sW _ _) (by simp only [List.length_replicate];omega) (by simp only [List.length_replicate];omega);rw [List.length_replicate] at hb;obtain ⟨hp,hr⟩:=hb;refine ⟨by omega,by omega,⟨by omega,wI,by omega⟩,hp,λs0 w1 bu=> ?_⟩;obtain ⟨ho,QZ,xb,_,_⟩:=hr s0 w1 bu;have hle:=aF.le ho;refine ⟨by omega,by omega,⟨s0.a,0,s0.c⟩,by rw [eo];rfl,?_,xb⟩;rcases ho.form (by decide) with ⟨rfl,-⟩|⟨g,cs,ha,hg,dq,hc,hnn,ht,hl⟩
  ·exact aF.nil
  ·rw [ha];exact aF.jG hg dq hc (Nat.zero_le _) (by simp) (λr hr=>by cases hr)
 ·exact ⟨⟨none,0,0⟩,rfl,aF.nil,Ext.cu _⟩
abbrev tC(xs:List (Sl × List Int)):List Int:=xs.flatMap (·.2)
def Jd(xs:List (Sl × List Int)){k:Nat}{x:Sl × List Int}(h:xs[k]? =some x):tC (xs.take (k+1))=tC (xs.take k)++x.2:=by rw [dP,h];simp [tC]
def Uz(xs:List (Sl × List Int))(k:Nat):(tC (xs.take k)).length<=(tC xs).length:=by have e:=congrArg (λl=>(tC l).length) (qP k xs);simp only [List.flatMap_append,cS] at e;have h1:(tC (xs.take k)).length=(List.flatMap (λx=>x.2) (xs.take k)).length:=rfl;have h2:(tC xs).length=(List.flatMap (λx=>x.2) xs).length:=rfl;omega
def Cv(s:Sl)(xs:List (Sl × List Int))(w:World)(hs:RdK w s 1 (xs.map λx=> [.slice x.1.a x.1.n x.1.c]))(hr:∀x ∈ xs,jF w x.1 x.2)(hl:xs.length<=1000)(hn:(tC xs).length<=1099511627776):
  Calls Tryz.prog 226 #[.slice s.a s.n s.c] w λe w'=>∃s':Sl,e=.returned (.slice s'.a s'.n s'.c)/\nA w.heap.size w' s' (tC xs)/\Ext w w':=by
 apply (xh.vc (a0:=s));have tL:=hs.n;rw [List.length_map] at tL;have row:∀{k:Nat} {w':World},Ext w w'->k<xs.length->∃x,xs[k]? =some x/\ez s.a (k:Int) s.n/\ld w' (ae s.a (((k:Nat):Int).toNat*1))=some (.slice x.1.a x.1.n x.1.c)/\jF w' x.1 x.2:=λ{k w'} x' hk=>by
  obtain ⟨x,hx⟩:=bB (l:=xs) (i:=k) hk;have hs':=hs.ext x';have hm:(xs.map λx=> [Value.slice x.1.a x.1.n x.1.c])[k]? =some [.slice x.1.a x.1.n x.1.c]:=by rw [List.getElem?_map,hx];rfl
  have jR:=hs'.at hm (j:=0) rfl;rw [fC] at jR;exact ⟨x,hx,hs'.iz (by decide) (by omega) (by omega),jR,(hr x (List.mem_of_getElem? hx)).ext x'⟩
 refine ⟨λn i z wr=>∃k:Nat,i=k/\k+n=xs.length/\z=((tC (xs.take k)).length:Nat)/\wr=w,⟨xs.length,0,rfl,by omega,rfl,rfl⟩,?_⟩;rintro n us i z wr ⟨k,rfl,hk,rfl,rfl⟩;refine Br.mk (λhc=> ?_) (λhc=> ?_)
 ·replace hc:=nG hc;obtain ⟨x,hx,lr,jR,hrx⟩:=row (k:=k) (Ext.cu _) (by omega);have h1:=Uz xs (k+1);have ht:=Jd xs hx;have hxn:=jF.n hrx;have wz:IntKind.wrap .i64 (((tC (xs.take k)).length:Int)+((x.1.n:Nat):Int))=((tC (xs.take (k+1))).length:Nat):=by rw [ht,List.length_append];rw [ht,List.length_append] at h1;rw [wI];omega
  have wk:IntKind.wrap .i64 ((k:Int)+1)=((k+1:Nat):Int):=by rw [wI];omega
  refine ⟨lr,x.1,jR,?_⟩;rw [wz];refine Br.mk (λh=>by simp at h;omega) (λ_=>⟨n-1,by omega,k+1,wk,by omega,rfl,rfl⟩)
 ·replace hc:=nT hc;rw [List.take_of_length_le (by omega)];refine (KF _ _ hn).mono ?_;rintro e w8 ⟨s9,rfl,ho,x8⟩;refine ⟨s9,rfl,λn i s TR=>∃k:Nat,i=k/\k+n=xs.length/\nA wr.heap.size TR s (tC (xs.take k))/\Ext wr TR,⟨xs.length,0,rfl,by omega,ho,x8⟩,?_⟩;rintro tj akp i s14 eu ⟨k2,rfl,Hf,Y7,cD⟩;refine Br.mk (λoK=> ?_) (λoK=> ?_)
  ·replace oK:=nG oK;obtain ⟨x,hx,lr,jR,hrx⟩:=row (k:=k2) cD (by omega);have h1:=Uz xs (k2+1);have ht:=Jd xs hx;have hxn:=jF.n hrx;have hon:=jF.n (nA.HV Y7);rw [ht,List.length_append] at h1;have wk:IntKind.wrap .i64 ((k2:Int)+1)=((k2+1:Nat):Int):=by rw [wI];omega
   have hb:=aF.HU Y7 (bytes:=1) (more:=x.2.map yv) cD.size Uy (aaw _) (by simp only [List.length_map];omega) (by simp only [List.length_map];omega);rw [List.length_map,<-hxn] at hb;obtain ⟨hp,bu⟩:=hb;refine ⟨lr,x.1,jR,(x.2.map yv).flatten,RdK.flat hrx (by omega),hp,λY8 ef as3=> ?_⟩;obtain ⟨as4,_,xb,_,_⟩:=bu Y8 ef as3;refine ⟨tj-1,by omega,k2+1,wk,by omega,?_,cD.trans xb⟩;rw [ht];show aF _ _ _ _ _ _;rw [List.map_append];exact as4
  ·replace oK:=nT oK;rw [List.take_of_length_le (by omega)] at Y7;exact ⟨s14,rfl,Y7,cD⟩
def MN(s:Sl)(b:List Int)(w:World)(hs:jF w s b)(hb:oa b)(hn:b.length+2<=1099511627776):ah 225 #[s] w λe w'=>∃s':Sl,e=s'/\nA w w' s' (fV b)/\Ext w w':=by
 apply (afc.vc (a0:=s));refine (E8 s b w hs hb ab).mono ?_;rintro e w0 ⟨rfl,x0⟩;refine ⟨_,rfl,(HW _ w0).mono ?_⟩;rintro e w2 ⟨rfl,x2⟩;refine ⟨_,_,rfl,λw5 e5=> ?_⟩;have h5:Row w5 w2 [.int .u8 0,.int .u8 0] tA2:=Row.nw e5;have hS:=h5.aK (o:=0) (vs:=[.int .u8 (cI (rV b) / 256),.int .u8 (cI (rV b) % 256)]) (aD 2) (Bb _ _ _ _);refine ⟨⟨rfl,h5.wr (o:=0) (n:=2) aG⟩,λw6 e6 w7 e7=> ?_⟩;have e6':w6=w5.setRow w2 #[.int .u8 (cI (rV b) / 256),.int .u8 (cI (rV b) % 256)]:=e6.trans hS;have h6:Row w6 w2 [.int .u8 (cI (rV b) / 256),.int .u8 (cI (rV b) % 256)] tA2:=by rw [e6'];exact h5.set _
 have fD:Ext w2 w6:=(aT e5).ag e6' (aD _);have pB:=aT e7;have x7:=x0.tr (x2.tr (fD.tr pB));have hc:jF w7 ⟨aB w2.heap.size,2,2⟩ (KG b):=by
  refine ⟨rfl,Uy,λi r hi j v hj=> ?_⟩;have h7:=h6.ext pB;rw [bo,eD,h7.ld]
  match i,hi with
  |0,hi=>cases hi;match j,hj with
   |0,hj=>cases hj;rfl
  |1,hi=>cases hi;match j,hj with
   |0,hj=>cases hj;rfl
  |i+2,hi=>simp [KG] at hi
 have hl:RdK w7 ⟨aB w6.heap.size,2,2⟩ 1 ([(s,b),(⟨aB w2.heap.size,2,2⟩,KG b)].map λx=> [.slice x.1.a x.1.n x.1.c]):=by
  have h7:Row w7 w6 [s,.slice (aB w2.heap.size) 2 2] tSB:=by rw [e7,eo];exact Row.new w6 [_,_] _
  refine ⟨rfl,λr hr=>by simp at hr;rcases hr with rfl|rfl<;>rfl,λi r hi j v hj=> ?_⟩;rw [bo,eD,h7.ld]
  match i,hi with
  |0,hi=>cases hi;match j,hj with
   |0,hj=>cases hj;rfl
  |1,hi=>cases hi;match j,hj with
   |0,hj=>cases hj;rfl
  |i+2,hi=>simp at hi
 have acT:tC [(s,b),(⟨aB w2.heap.size,2,2⟩,KG b)]=fV b:=by simp [tC,fV]
 refine (Cv ⟨aB w6.heap.size,2,2⟩ [(s,b),(⟨aB w2.heap.size,2,2⟩,KG b)] w7 hl (λx hx=>by
  simp at hx;rcases hx with rfl|rfl
  ·exact hs.ext x7
  ·exact hc) (show 2<=1000 by decide) (by rw [acT,Je];exact hn)).mono ?_
 rintro e w8 ⟨s9,rfl,ho,x8⟩;rw [acT] at ho;exact ⟨s9,rfl,s9,rfl,aF.low ho x7.size,x7.tr x8⟩
def KH(s:Sl)(b:List Int)(w:World)(hs:jF w s b)(hb:oa b)(hc:s.n<=s.c)(hn:b.length<=1099511627776):ah 246 #[s] w λe w'=>∃s':Sl,e=Value.tuple #[s',.int .i64 (uu b).2]/\nA w w' s' (uu b).1/\Ext w w':=by
 apply (aax.vc (a0:=s));have tL:=jF.n hs;apply Br.mk<;>intro h
 ·replace h:=nG h;have e:uu b=([],3):=by unfold uu;rw [if_pos ab]
  rw [e];exact ⟨⟨none,0,0⟩,rfl,aF.nil,Ext.cu _⟩
 ·replace h:=nT h;refine (KI s b w hs hb ab).mono ?_;rintro e w0 ⟨rfl,x0⟩;refine ⟨_,rfl,Br.mk (λh2=> ?_) (λh2=> ?_)⟩
  ·have e:uu b=([],4):=by unfold uu;rw [if_neg ab,if_neg];intro q;rw [decide_eq_true ⟨by omega,q⟩] at h2;cases h2
   rw [e];exact ⟨⟨none,0,0⟩,rfl,aF.nil,x0⟩
  ·have q:rV b=0#16:=by simp at h2;exact h2.2
   have e:uu b=(b.take (b.length-2),0):=by unfold uu;rw [if_neg ab,if_pos q]
   have wk:ak (((s.n:Nat):Int)-2)=((b.length-2:Nat):Int):=by rw [wI];omega
   rw [wk,e];have oq:jF w0 ⟨aJ s.a 0 s.c 1,b.length-2,s.c-0⟩ (b.take (b.length-2)):=by have:=(hs.ext x0).cut (m:=b.length-2) (c':=s.c) (c'':=s.c-0) (by rw [aN];omega);rw [<-List.map_take] at this;exact this
   refine ⟨by omega,by omega,(pZ ⟨aJ s.a 0 s.c 1,b.length-2,s.c-0⟩ _ w0 oq (by rw [dI];omega)).mono ?_⟩;rintro e w2 ⟨s3,rfl,ho,x2⟩;exact ⟨s3,rfl,s3,rfl,aF.low ho x0.size,x0.tr x2⟩
def asI(n:Int){k:Nat}(hk:k<=4):n.fdiv (2 ^(min ((8*(k:Int))).toNat 64))=n / 256 ^ k:=by
 have e:(2:Int) ^(min ((8*(k:Int))).toNat 64)=256 ^ k:=by
  rcases k with _|_|_|_|_|k
  ·rfl
  ·rfl
  ·rfl
  ·rfl
  ·rfl
  ·omega
 rw [e,sZ];exact Int.le_of_lt (Int.pow_pos aG)
def PJ(B:Nat)(s:Sl)(b:List Int)(n:Int)(m:Nat)(hm:m<=4)(w:World)(hB:B<=w.heap.size)(ho:nA B w s b)(hb:b.length<=1000):
  Calls Tryz.prog 224 #[.slice s.a s.n s.c,.int .i64 n,.int .i64 m] w λe w'=>∃s':Sl,e=.returned (.slice s'.a s'.n s'.c)/\nA B w' s' (b++be m n)/\Below B w w':=by
 apply (Xy.vc (a0:=s));have w1:IntKind.wrap .i64 ((m:Int)-1)=(m:Int)-1:=wI;refine ⟨λl x o wr=>∃k:Nat,l=k/\x=(k:Int)-1/\k<=m/\∃pre,pre++be k n=be m n/\nA B wr o (b++pre)/\Below B w wr,⟨m,m,rfl,w1,Nat.le_refl _,[],rfl,by rw [List.append_nil];exact ho,Below.refl _ _⟩,?_⟩;rintro k us x s4 w5 ⟨k',rfl,rfl,hk,pre,hp,ho5,x5⟩;have dD:=congrArg List.length hp;rw [List.length_append,yg,yg] at dD;have hon:=jF.n (nA.HV ho5);rw [List.length_append] at hon;refine Br.mk (λhc=> ?_) (λhc=> ?_)
 ·simp only [ge_iff_le,decide_eq_true_eq] at hc;obtain ⟨j,rfl⟩:∃j,k=j+1:=⟨k-1,by omega⟩;have e8:IntKind.wrap .i64 (8*(((j+1:Nat):Int)-1))=8*(j:Int):=by rw [wI];omega
  rw [e8,asI n (by omega),wrap_u8];refine bD.2 ⟨Ei.2 (by omega),λw7 e7=> ?_⟩;subst e7;obtain ⟨alK,bu⟩:=aF.iO ho5 (bytes:=1) (news:=yv (n / 256 ^ j % 256)) (.cells #[.int .u8 (n / 256 ^ j % 256)] iJ) (by have:=x5.size;omega) rfl (sW _ _) (by omega) (by omega);refine ⟨alK,λs8 w9 hr=> ?_⟩;obtain ⟨f1,ho9,hn9,xb,-,-⟩:=bu s8 w9 hr;refine ⟨f1,j,by omega,j,rfl,by rw [wI];omega,by omega,pre++ [n / 256 ^ j % 256],?_,?_,x5.trans xb⟩
  ·rw [<-hp,List.append_assoc];rfl
  ·rw [<-List.append_assoc];show aF _ _ _ _ _ _;rw [List.map_append];exact ho9
 ·simp only [ge_iff_le,decide_eq_false_iff_not] at hc;have:k=0:=by omega
  subst this;have hp':pre=be m n:=by simpa [be] using hp
  rw [hp'] at ho5;exact ⟨s4,rfl,ho5,x5⟩
def J6(s:Sl)(b:List Int)(w:World)(hs:jF w s b)(hb:oa b)(hn:b.length<=4):ah 247 #[s] w λe w'=>e=Value.int .i64 (fY b)/\w'=w:=by
 apply (SU.vc (a0:=s));have tL:=jF.n hs;refine ⟨λl i n wr=>∃k:Nat,i=k/\k+l=b.length/\n=fY (b.take k)/\wr=w,⟨b.length,0,rfl,by omega,rfl,rfl⟩,?_⟩;rintro l us i n wr ⟨k,rfl,hk,rfl,rfl⟩;apply Br.mk<;>intro hc
 ·replace hc:=nG hc;obtain ⟨x,hx⟩:=bB (l:=b) (i:=k) ab;have hxb:=hb x (aU hx);have hm:(b.map yv)[k]? =some [.int .u8 x]:=by rw [aV,hx];rfl
  have jR:=hs.at hm (j:=0) rfl;rw [fC] at jR;have wk:=nY (j:=k);have hsm:=Tr hb (k:=k) ab;have ht:b.take (k+1)=b.take k++ [x]:=by rw [dP,hx];rfl
  refine ⟨RdK.iz hs aG ab hc,x,jR,l-1,by omega,k+1,wk,by omega,?_,rfl⟩;have e1:ak (fY (b.take k)*2 ^(min (8:Int).toNat 64))=fY (b.take k)*256:=by show ak (fY (b.take k)*256)=_;exact wI
  have e2:ak x=x:=wI;rw [e1,e2,acm ab hxb,ht,PK]
 ·replace hc:=nT hc;rw [fz ab];exact ⟨rfl,rfl⟩
def PL(v:Int)(s:Sl)(b:List Int)(w:World)(hs:jF w s b)(hb:oa b)(hn:b.length<=1099511627776):
  Calls Tryz.prog 163 #[.int .i64 v,.slice s.a s.n s.c] w λe w'=>∃s':Sl,e=.returned (.tuple #[.slice s'.a s'.n s'.c,.int .i64 (yJ v b).2])/\nA w.heap.size w' s' (yJ v b).1/\Ext w w':=by
 apply (O2.vc (a1:=s));have tL:=jF.n hs;have no:(v<1\/v>1073741824\/(b.length:Int)>65536)->∃s':Sl,Ending.returned (.tuple #[.slice none 0 0,.int .i64 1])=.returned (.tuple #[.slice s'.a s'.n s'.c,.int .i64 (yJ v b).2])/\nA w.heap.size w s' (yJ v b).1/\Ext w w:=λh=>by
  have e:yJ v b=([],1):=by unfold yJ;rw [if_pos h]
  rw [e];exact ⟨⟨none,0,0⟩,rfl,aF.nil,Ext.cu _⟩
 refine Br.mk (λh=> ?_) (λh1=>Br.mk (λh=> ?_) (λh2=>Br.mk (λh=> ?_) (λh3=> ?_)))
 ·simp only [decide_eq_true_eq] at h;exact no (.inl h)
 ·simp only [gt_iff_lt,decide_eq_true_eq] at h;exact no (.inr (.inl h))
 ·simp only [gt_iff_lt,decide_eq_true_eq] at h;exact no (.inr (.inr (by omega)))
 ·simp only [gt_iff_lt,decide_eq_false_iff_not] at h1 h2 h3;have e:yJ v b=(fV (fG v b),0):=by unfold yJ;rw [if_neg (by omega)]
  rw [e];have p4:=PJ w.heap.size ⟨none,0,0⟩ [] v 4 (by decide) w (Nat.le_refl _) aF.nil (by simp);refine p4.mono ?_;rintro e w0 ⟨s1,rfl,o1,x0⟩;have p3:=PJ w.heap.size s1 ([]++be 4 v) ((s.n:Nat):Int) 3 (by decide) w0 x0.size o1 (by simp [yg]);refine ⟨s1,rfl,p3.mono ?_⟩;rintro e w2 ⟨s3,rfl,o3,x2⟩;refine ⟨s3,rfl,λw4 e4=> ?_⟩;have AI:Ext w w2:=x0.trans x2;have eG:Ext w2 w4:=(Ext.cu _).bg e4;have x4:=AI.tr eG;have r4:Row w4 w2.heap.size [.slice s3.a s3.n s3.c,.slice s.a s.n s.c] tSB:=by rw [e4];exact Row.new w2 [_,_] _
  have hl:RdK w4 ⟨some ⟨w2.heap.size,0,none⟩,2,2⟩ 1 ([(s3,[]++be 4 v++be 3 ((s.n:Nat):Int)),(s,b)].map λx=> [.slice x.1.a x.1.n x.1.c]):=by
   refine ⟨rfl,λr hr=>by simp at hr;rcases hr with rfl|rfl<;>rfl,λi r hi j v hj=> ?_⟩;rw [bo,Nat.zero_add,r4.ld]
   match i,hi with
   |0,hi=>cases hi;match j,hj with
    |0,hj=>cases hj;rfl
   |1,hi=>cases hi;match j,hj with
    |0,hj=>cases hj;rfl
   |i+2,hi=>simp at hi
  have acT:tC [(s3,[]++be 4 v++be 3 ((s.n:Nat):Int)),(s,b)]=fG v b:=by simp [tC,fG,tL]
  have hrl:=GM v b;refine (Cv ⟨some ⟨w2.heap.size,0,none⟩,2,2⟩ [(s3,[]++be 4 v++be 3 ((s.n:Nat):Int)),(s,b)] w4 hl (λx hx=>by
   simp only [List.mem_cons,List.not_mem_nil,or_false] at hx;rcases hx with rfl|rfl
   ·exact RdK.ext (nA.HV o3) eG
   ·exact hs.ext x4) (show 2<=1000 by decide) (by rw [acT];omega)).mono ?_
  rintro e w5 ⟨s6,rfl,o6,x5⟩;rw [acT] at o6;refine ⟨s6,rfl,(MN s6 (fG v b) w5 (nA.HV o6) (Vr hb) (by omega)).mono ?_⟩;rintro e w7 ⟨s8,rfl,o8,x7⟩;have pH:=x4.tr x5;exact ⟨s8,rfl,s8,rfl,aF.low o8 pH.size,pH.tr x7⟩
def acn{b:List Int}(h:oa b):oa (uu b).1:=by grind [uu]
def aco(b:List Int):(uu b).1.length<=b.length:=by
 unfold uu;split
 ·simp
 ·split
  ·simp only [dI];omega
  ·simp
def aj1{b:List Int}(h:oa b):oa (nZ b).2.1:=by
 unfold nZ;split
 ·intro c hc;cases hc
 ·split
  ·intro c hc;cases hc
  ·split
   ·intro c hc;cases hc
   ·exact λc hc=>acn h c (za hc)
def aj2(b:List Int):(nZ b).2.1.length<=b.length:=by
 have:=aco b;unfold nZ;split
 ·simp
 ·split
  ·simp
  ·split
   ·simp
   ·simp only [zX];omega
def Ts(s:Sl)(b:List Int)(w:World)(hs:jF w s b)(hb:oa b)(hc:s.n<=s.c)(hn:b.length<=1099511627776):
  ah 183 #[s] w λe w'=>∃s':Sl,e=Value.tuple #[.int .i64 (nZ b).1,s',.int .i64 (nZ b).2.2]/\jF w' s' (nZ b).2.1/\s'.n<=s'.c/\(∀g,s'.bj=some g->w.heap.size<=g)/\Ext w w':=by
 apply (R8.vc (a0:=s));refine (KH s b w hs hb hc hn).mono ?_;rintro e w0 ⟨s1,rfl,o1,x0⟩;have hi:=acn hb;have hle:=aco b;have nil:jF w0 ⟨none,0,0⟩ []:=nA.HV (aF.nil (B:=0));have h1:nZ b=if (uu b).2≠0 then (0,[],(uu b).2) else if (uu b).1.length<7 then (0,[],3) else if fY ((uu b).1.take 4)<1\/fY ((uu b).1.take 4)>1073741824\/fY (((uu b).1.drop 4).take 3)>65536\/fY (((uu b).1.drop 4).take 3)≠(((uu b).1.drop 7).length:Int) then (0,[],2) else (fY ((uu b).1.take 4),(uu b).1.drop 7,0):=rfl;rw [h1];generalize uu b=t at*;obtain ⟨t1,t2⟩:=t;simp only at*;have hon:=jF.n (nA.HV o1);have hoc:=aF.le o1;refine ⟨s1,_,rfl,Br.mk (λh=> ?_) (λh=> ?_)⟩
 ·have:t2≠0:=by simpa using h
  rw [if_pos this];exact ⟨⟨none,0,0⟩,rfl,nil,aD _,(λg hg=>by cases hg),x0⟩
 ·have:t2=0:=by simpa using h
  subst this;rw [if_neg cj];apply Br.mk<;>intro h
  ·replace h:=nG h;rw [if_pos ab];exact ⟨⟨none,0,0⟩,rfl,nil,aD _,(λg hg=>by cases hg),x0⟩
  ·replace h:=nT h;rw [if_neg ab];have rd:=RdK.ext (nA.HV o1) (Ext.dr w0);have c4:jF w0.drew ⟨aJ s1.a 0 s1.c 1,4-0,s1.c-0⟩ (t1.take 4):=by have:=RdK.cut rd (m:=4) (c':=s1.c) (c'':=s1.c-0) (by rw [aN];omega);rw [<-List.map_take] at this;exact this
   have c3:jF w0.drew ⟨aJ s1.a 4 s1.c 1,7-4,s1.c-4⟩ ((t1.drop 4).take 3):=by have r4:=RdK.rest rd (l:=4) (m:=s1.c) (n':=t1.length-4) (c':=s1.c-4) (by rw [aN]) (by rw [aN];omega);have:=RdK.cut r4 (m:=3) (c':=7) (c'':=s1.c-4) (by rw [zX,aN];omega);rw [eo,<-List.map_drop,<-List.map_take] at this;exact this
   have c7:∀w',Ext w0 w'->jF w' ⟨aJ s1.a 7 s1.c 1,s1.n-7,s1.c-7⟩ (t1.drop 7):=λw' x'=>by have:=RdK.rest (RdK.ext (nA.HV o1) x') (l:=7) (m:=s1.c) (n':=s1.n-7) (c':=s1.c-7) (by rw [aN];omega) (by rw [aN];omega);rw [<-List.map_drop] at this;exact this
   refine ⟨by omega,by omega,by omega,by omega,by omega,by omega,by omega,by omega,(J6 ⟨aJ s1.a 0 s1.c 1,4-0,s1.c-0⟩ _ w0.drew c4 (λc hc=>hi c (qR hc)) (by rw [dI];omega)).mono ?_⟩;rintro e w3 ⟨rfl,hw⟩;subst hw;refine ⟨_,rfl,(J6 ⟨aJ s1.a 4 s1.c 1,7-4,s1.c-4⟩ _ w0.drew c3 (λc hc=>hi c (za (qR hc))) (by rw [dI];omega)).mono ?_⟩;rintro e w5 ⟨rfl,hw⟩;subst hw;have LR:∀g,(Sl.mk (aJ s1.a 7 s1.c 1) (s1.n-7) (s1.c-7)).bj=some g->w.heap.size<=g:=λg hg=>by
    have:s1.bj=some g:=by
     unfold Sl.bj at hg ⊢;simp only [aJ] at hg;split at hg
     ·exact hg
     ·cases ha:s1.a with
      |none=>rw [ha] at hg;cases hg
      |some a=>
       rw [ha] at hg;simp only [pV,Option.some.injEq,Addr.add] at hg ⊢;rw [<-hg];split<;>rfl
    exact (o1.own.lt this).1
   have xd:=x0.tr (Ext.dr w0);have nil':jF w0.drew ⟨none,0,0⟩ []:=nA.HV (aF.nil (B:=0));have Uk:(t1.drop 7).length=s1.n-7:=by rw [zX];omega
   have no:(fY (t1.take 4)<1\/fY (t1.take 4)>1073741824\/fY ((t1.drop 4).take 3)>65536\/fY ((t1.drop 4).take 3)≠((t1.drop 7).length:Int))->∃s':Sl,Ending.returned (.tuple #[aa,.slice none 0 0,(2:Int)])=Value.tuple #[.int .i64 (if fY (t1.take 4)<1\/fY (t1.take 4)>1073741824\/fY ((t1.drop 4).take 3)>65536\/fY ((t1.drop 4).take 3)≠((t1.drop 7).length:Int) then ((0:Int),([]:List Int),(2:Int)) else (fY (t1.take 4),t1.drop 7,0)).1,s',.int .i64 (if fY (t1.take 4)<1\/fY (t1.take 4)>1073741824\/fY ((t1.drop 4).take 3)>65536\/fY ((t1.drop 4).take 3)≠((t1.drop 7).length:Int) then ((0:Int),([]:List Int),(2:Int)) else (fY (t1.take 4),t1.drop 7,0)).2.2]/\
     jF w0.drew s' (if fY (t1.take 4)<1\/fY (t1.take 4)>1073741824\/fY ((t1.drop 4).take 3)>65536\/fY ((t1.drop 4).take 3)≠((t1.drop 7).length:Int) then ((0:Int),([]:List Int),(2:Int)) else (fY (t1.take 4),t1.drop 7,0)).2.1/\s'.n<=s'.c/\(∀g,s'.bj=some g->w.heap.size<=g)/\Ext w w0.drew:=λh=>by
    rw [if_pos h];exact ⟨⟨none,0,0⟩,rfl,nil',aD _,(λg hg=>by cases hg),xd⟩
   refine ⟨_,rfl,Br.mk (λh=>no ?_) (λq1=>Br.mk (λh=>no ?_) (λq2=>Br.mk (λh=>no ?_) (λq3=>Br.mk (λh=>no ?_) (λq4=> ?_))))⟩
   ·exact .inl (by simpa using h)
   ·exact .inr (.inl (by simpa using h))
   ·exact .inr (.inr (.inl (by simpa using h)))
   ·refine .inr (.inr (.inr ?_));rw [Uk];simpa using h
   ·simp only [gt_iff_lt,fk,bne_eq_false_iff_eq] at q1 q2 q3 q4;rw [if_neg (by
     rw [Uk];simp only [not_or];exact ⟨q1,q2,q3,by rw [q4];simp⟩)]
    exact ⟨_,rfl,c7 _ (Ext.dr w0),by simp only;omega,LR,xd⟩
def W8{P:Program}{m since c0 clock r:Nat}{seen:Array Nat}{es:Array MapEntry}{w:World}{ty:TypeId}{v:Value}{w':World}(hr:w.heap[r]? =some (.mapIter (some m) since seen c0))(hm:w.heap[m]? =some (.map es clock))
  (h:(Instr.next (.pointer (aB r)) false ty).run P w=.ok v w'):w'.tape=w.tape:=by
 simp only [Instr.next,getObj,Sem.run_bind,Sem.run,hr,hm,Result.andThen] at h;split at h
 ·cases h
 ·generalize (Array.filter (λe=> !seen.contains e.born) es)=L at h;generalize (if (Array.filter (λx=>decide (x.born<since)) L).isEmpty=true then #[none] else #[])++Array.map some (Array.filter (λx=>decide (x.born<since)) L++Array.filter (λx=>decide (x.born>=since)) L)=C at h;have hch:∀j w1,(choose (Question.mapNext C.size)).run P w=.ok j w1->w1.tape=w.tape:=λj w1 h1=>by
   by_cases hf:C.size<=1
   ·simp only [choose,Sem.run,Question.forced,cX,hf,if_true] at h1
    cases h1;rfl
   ·simp only [choose,Sem.run,Question.forced,cX,hf,if_false,Question.cut] at h1
    cases h1;rfl
  rw [Sem.run_bind] at h
  cases hc:(choose (Question.mapNext C.size)).run P w with
  |ok j w1=>
   have ht:=hch j w1 hc;rw [hc] at h;simp only [Result.andThen] at h;split at h
   ·rw [Sem.run_bind] at h;simp only [setObj,Sem.run] at h;split at h
    all_goals first
     |(simp [Result.andThen] at h;done)
     |(simp only [Result.andThen,Sem.run_pure] at h;cases h;exact ht)
   ·rw [Sem.run_pure] at h;cases h;exact ht
   ·cases h
  |_=>rw [hc] at h;cases h
def nOf:Value->Int| .slice _ n _=>(n:Int)|_=>0
def eA:List MapEntry->Array Nat->Int
 | [],_=>0
 |x::l,seen=>(if seen.contains x.born then nOf x.val else 0)+eA l seen
def wM(seen:Array Nat)(b:Nat):∀(es:List MapEntry),b ∉ es.map (·.born)->eA es (seen.push b)=eA es seen
 | [],_=>rfl
 |x::l,h=>by
  have hx:(x.born==b)=false:=by
   cases hc:x.born==b with
   |false=>rfl
   |true=>exact absurd (cR.2 (Or.inl (beq_iff_eq.1 hc).symm)) h
  have ih:=wM seen b l (λe=>h (cR.2 (Or.inr e)));simp only [eA,contains_push,hx,Bool.or_false,ih]
def zQ(seen:Array Nat)(e:MapEntry)(hs:seen.contains e.born=false):∀(es:List MapEntry),(es.map (·.born)).Nodup->e ∈ es->eA es (seen.push e.born)=eA es seen+nOf e.val
 |x::l,hn,he=>by
  have hn':x.born ∉ l.map (·.born)/\(l.map (·.born)).Nodup:=oY.1 hn
  rcases cR.1 he with rfl|h
  ·rw [eA,eA,wM seen _ l hn'.1,contains_push,beq_self_eq_true,Bool.or_true,hs]
   simp;omega
  ·have hx:(x.born==e.born)=false:=by
    cases hc:x.born==e.born with
    |false=>rfl
    |true=>exact absurd (aY.2 ⟨e,h,(beq_iff_eq.1 hc).symm⟩) hn'.1
   rw [eA,eA,zQ seen e hs l hn'.2 h,contains_push,hx,Bool.or_false];omega
def zS:∀es:List MapEntry,eA es #[]=0
 | []=>rfl
 |x::l=>by rw [eA,zS l];simp
def So{es:List MapEntry}(hv:∀x ∈ es,0<=nOf x.val)(seen:Array Nat):0<=eA es seen/\eA es seen<=(es.map λx=>nOf x.val).sum:=by
 induction es with
 |nil=>exact ⟨pf _,pf _⟩
 |cons x l ih=>
  have h1:=ih λy hy=>hv y (.tail _ hy)
  have h2:=hv x (.head _);rw [eA,fT,List.sum_cons];split<;>omega
def N9(es:Array MapEntry)(seen:Array Nat)(h:(leftOf es seen).size=0):eA es.toList seen=(es.toList.map λx=>nOf x.val).sum:=by
 have mu:∀x ∈ es.toList,seen.contains x.born=true:=by
  intro x hx
  cases hc:seen.contains x.born with
  |true=>rfl
  |false=>
   have:x ∈ leftOf es seen:=Array.mem_filter.2 ⟨Array.mem_toList_iff.1 hx,by rw [hc];rfl⟩;have h0:=Array.eq_empty_of_size_eq_zero h;rw [h0] at this;simp at this
 generalize es.toList=l at mu
 induction l with
 |nil=>rfl
 |cons x l ih=>
  rw [eA,mu x (.head _),fT,List.sum_cons,ih λy hy=>mu y (.tail _ hy)];simp
set_option maxRecDepth 1000000 in
def Sp(bm : Nat)(es : Array MapEntry)(clock : Nat)(w : World)(hb : w.heap[bm]? = some (.map es clock))(g7 : MapKept.Stamped es clock)(hv : ∀ x ∈ es.toList, ∃ a n c, x.val = .slice a n c)(hs : (es.toList.map λx => nOf x.val).sum ≤ 1099511627776) :
  ah 229 #[.map (some bm)] w λe w' => e = Value.int .i64 ((es.toList.map λx => nOf x.val).sum) ∧ ∃ (w1 : World) (seen : Array Nat), w1.Alike w ∧ w1.tape = w.tape ∧ w' = w1.alloc (.mapIter (some bm) clock seen clock) := by
 have hrg := run_range_map (P := Tryz.prog) w 274 KT 62 bm es clock Tryz.underlying274 hb
 have hnn : ∀ x ∈ es.toList, 0 ≤ nOf x.val := λx hx => by
  obtain ⟨a, n, c, e⟩ := hv x hx
  rw [e]; exact Int.natCast_nonneg n
 go_enter Tryz.func229, Tryz.ntmps229
 go_wp2
 go_loopw [3] (λs w' => ∃ (w1 : World) (seen : Array Nat), w1.Alike w ∧ w1.tape = w.tape ∧ w' = w1.alloc (.mapIter (some bm) clock seen clock) ∧ s = .int .i64 (eA es.toList seen)) (λ_ w' => (leftOf es (w'.iterSeen w)).size)
 case atStart => exact ⟨w, #[], ⟨rfl, rfl, rfl⟩, rfl, rfl, by rw [zS]⟩
 case round =>
  obtain ⟨w1, seen, hal, htp, rfl, rfl⟩ := hrel
  have Y4 : w1.heap.size = w.heap.size := by rw [hal.1]
  have IN : w1.heap[bm]? = some (.map es clock) := by rw [hal.1]; exact hb
  have law := run_next_map (P := Tryz.prog) w1 0 bm clock clock seen es clock IN g7.1 (aD _)
  rw [Y4] at law
  rcases law with ⟨h0, u9⟩ | ⟨e, he, w2, hal2, u9⟩
  ·have Eh : ∀ ty, (Instr.next (.pointer (aB w.heap.size)) false ty).run Tryz.prog (w1.alloc (.mapIter (some bm) clock seen clock)) = _ := λ_ => u9
   go_wp2
   go_ret
   rw [N9 es seen h0]
   exact ⟨rfl, w1, seen, hal, htp, rfl⟩
  ·obtain ⟨va, vn, vc, hval⟩ := hv e (mem_left he).1
   have hr1 : (w1.alloc (.mapIter (some bm) clock seen clock)).heap[w.heap.size]? = some (.mapIter (some bm) clock seen clock) := by rw [<- Y4]; exact heap_alloc_new w1 _
   have hm1 : (w1.alloc (.mapIter (some bm) clock seen clock)).heap[bm]? = some (.map es clock) := by rw [heap_alloc_old w1 _ (by have := (sT.1 IN).1; omega)]; exact IN
   have htp2 : w2.tape = w1.tape := by have := W8 hr1 hm1 u9; exact this
   rw [hval] at u9
   have Eh : ∀ ty, (Instr.next (.pointer (aB w.heap.size)) false ty).run Tryz.prog (w1.alloc (.mapIter (some bm) clock seen clock)) = _ := λ_ => u9
   have hsz2 : w2.heap.size = w.heap.size := by rw [hal2.1, hal.1]
   have j8 : w2.heap[bm]? = some (.map es clock) := by rw [hal2.1]; exact IN
   have hen := run_entry_map (P := Tryz.prog) w2 bm clock seen es clock e j8 (mem_left he).1 g7.2.1
   rw [hsz2, hval] at hen
   go_wp2
   go_roundw
   case rel =>
    refine ⟨w2, seen.push e.born, ⟨hal2.1.trans hal.1, hal2.2.1.trans hal.2.1, hal2.2.2.trans hal.2.2⟩, htp2.trans htp, rfl, ?_⟩
    have hp := zQ seen e (mem_left he).2 es.toList g7.2.1 (mem_left he).1
    have yt := So hnn (seen.push e.born)
    rw [hval] at hp
    have hp : eA es.toList (seen.push e.born) = eA es.toList seen + (vn : Int) := hp
    have hw : Go.RowKit.wrap64 (eA es.toList seen + (vn : Int)) = eA es.toList (seen.push e.born) := by
     unfold Go.RowKit.wrap64
     omega
    exact congrArg _ hw
   case measure =>
    rw [<- hsz2, World.iterSeen_alloc, hsz2, <- Y4, World.iterSeen_alloc]
    exact left_shrinks es seen e he
abbrev tW:TypeId:=279
abbrev Bl:=Int × Sl × List Int
def qt(x:Bl):Value × Value:=(x.1,.slice x.2.1.a x.2.1.n x.2.1.c)
abbrev wV(x:Bl):LV:=[.int .i64 x.1,.slice x.2.1.a x.2.1.n x.2.1.c]
abbrev kb(x:Bl):qn:=(x.1,x.2.2)
structure Sr(w:World)(x:Bl):Prop where
 o:nA 0 w x.2.1 x.2.2
 b:oa x.2.2
structure Dm where
 r:Nat
 ls:Sl
 E:List Bl
 W:List Bl
structure DO(w:World)(d:Nat)(m:Dm)(D:Dk):Prop where
 rd:Row w d [D.room,D.nM,D.wait,.map (some m.r),.slice m.ls.a m.ls.n m.ls.c] uy
 rm:cG GI w (some m.r) (m.E.map qt)
 ol:aF 0 tW 2 w m.ls (m.W.map wV)
 sf:(m.E.map kb).Perm D.safe
 sl:m.W.map kb=D.l
 bl:∀x ∈ m.E++m.W,Sr w x
 ok:rU D
def dF(d:Nat)(m:Dm)(i:Nat):Prop:=i=d\/i=m.r\/m.ls.bj=some i\/∃x ∈ m.E++m.W,x.2.1.bj=some i
def DO.lt{w:World}{d:Nat}{m:Dm}{D:Dk}(h:DO w d m D){i:Nat}(hi:dF d m i):i<w:=by
 rcases hi with rfl|rfl|e|⟨x,hx,e⟩
 ·exact h.rd.lt
 ·exact h.rm.lt
 ·exact (h.ol.own.lt e).2
 ·exact ((h.bl x hx).o.own.lt e).2
def DO.same{w w':World}{d:Nat}{m:Dm}{D:Dk}(h:DO w d m D)(hs:∀i,dF d m i->w'.heap[i]? =w.heap[i]?):DO w' d m D:=
 ⟨h.rd.same (hs _ (.inl rfl)),h.rm.same (hs _ (.inr (.inl rfl))),aF.dc h.ol λb hb=>hs b (.inr (.inr (.inl hb))),h.sf,h.sl,λx hx=>⟨aF.dc (h.bl x hx).o λb hb=>hs b (.inr (.inr (.inr ⟨x,hx,hb⟩))),(h.bl x hx).b⟩,h.ok⟩
def DO.ext{w w':World}{d:Nat}{m:Dm}{D:Dk}(h:DO w d m D)(x:Ext w w'):DO w' d m D:=h.same λi hi=>x.heap (h.lt hi)
def DO.nW{w:World}{d:Nat}{m:Dm}{D:Dk}(h:DO w d m D):m.ls.n=m.W.length/\m.W.length=D.l.length:=by have h1:=(h.ol.rd aG).n;rw [aN] at h1;exact ⟨h1,by rw [<-h.sl,aN]⟩
def DO.kind{w:World}{d:Nat}{m:Dm}{D:Dk}(h:DO w d m D){i:Nat}(hi:dF d m i):cG GI w (some i) (m.E.map qt)\/∃cs τ,Row w i cs τ/\(τ=uy\/τ=tW\/τ=iJ):=by
 rcases hi with e|e|e|⟨x,hx,e⟩
 ·exact .inr ⟨_,_,e▸h.rd,.inl rfl⟩
 ·exact .inl (e▸h.rm)
 ·obtain ⟨cs,hr⟩:=bh h.ol aG e;exact .inr ⟨_,_,hr,.inr (.inl rfl)⟩
 ·obtain ⟨cs,hr⟩:=bh (h.bl x hx).o aG e;exact .inr ⟨_,_,hr,.inr (.inr rfl)⟩
def abl(E:List Bl)(x:Bl):xG (E.map qt) (x.1) (.slice x.2.1.a x.2.1.n x.2.1.c)=(KE (λy:Bl=>y.1) E x).map qt:=by
 have key:∀y:Bl,(qt y).1=.int .i64 x.1 ↔ y.1=x.1:=λy=>by unfold qt;simp
 have ex:(∃e ∈ E.map qt,e.1=Value.int .i64 x.1) ↔ ∃y ∈ E,y.1=x.1:=by
  constructor
  ·rintro ⟨e,he,q⟩;obtain ⟨y,hy,rfl⟩:=aY.1 he;exact ⟨y,hy,(key y).1 q⟩
  ·rintro ⟨y,hy,q⟩;exact ⟨_,aY.2 ⟨y,hy,rfl⟩,(key y).2 q⟩
 unfold xG KE;by_cases h:∃y ∈ E,y.1=x.1
 ·rw [if_pos (ex.2 h),if_pos h,mS,mS];refine yT λy _=> ?_
  simp only [Function.comp];by_cases q:y.1=x.1
  ·rw [if_pos ((key y).2 q),if_pos q];unfold qt;rw [q]
  ·rw [if_neg λq'=>q ((key y).1 q'),if_neg q]
 ·rw [if_neg λq=>h (ex.1 q),if_neg h,bX];rfl
def Ss{l s:List qn}{k:Nat}{x:qn}(h:l[k]? =some x):(l.take (k+1)).foldl lay s=lay ((l.take k).foldl lay s) x:=by rw [dP,h,pk];rfl
set_option maxRecDepth 100000 in
def BB{w:World}{d:Nat}{m:Dm}{D:Dk}(h:DO w d m D)(hW:D.l.length<=1000000000):ah 228 #[d] w λe w'=>∃(r':Nat)(E':List Bl),e=Value.map (some r')/\cG GI w' (some r') (E'.map qt)/\(E'.map kb).Perm (tH D)/\(∀x ∈ E',x ∈ m.E++m.W)/\Ext w w'/\w.heap.size<=r':=by
 apply H6.vc;obtain ⟨n1,n2⟩:=h.nW;refine ⟨some m.r,h.rd.at 3 rfl,(F7 h.rm).mono ?_⟩;rintro e w1 ⟨rfl,hm,x1⟩;refine ⟨_,rfl,m.ls,(h.ext x1).rd.at 4 rfl,λn i wr=>∃(k:Nat)(E':List Bl),i=k/\k+n=m.W.length/\cG GI wr (some w.heap.size) (E'.map qt)/\(E'.map kb).Perm ((D.l.take k).foldl lay D.safe)/\(∀x ∈ E',x ∈ m.E++m.W)/\Ext w wr,
  ⟨m.W.length,0,m.E,rfl,by omega,hm,h.sf,λx hx=>c5.2 (.inl hx),x1⟩,?_⟩
 rintro n us i wr ⟨k,E',rfl,hk,hm,hp,eQ,xr⟩;apply Br.mk<;>intro hc
 ·replace hc:=nG hc;obtain ⟨x,hx⟩:=bB (l:=m.W) (i:=k) ab;have hr:=(h.ext xr).ol.rd (show 0<2 by decide);have Md:(m.W.map wV)[k]? =some (wV x):=by rw [aV,hx];rfl
  have wk:=nY (j:=k);have hl:D.l[k]? =some (kb x):=by rw [<-h.sl,aV,hx];rfl
  refine ⟨RdK.iz hr aG ab hc,x.1,x.2.1,RdK.cg hr Md,λcU Km bG DT=> ?_⟩;have cn:Ext wr bG:=(aT Km).ag DT (aD _);refine ⟨GI,E'.map qt,Li,rfl,hm.same (cn.heap hm.lt),⟨_,rfl⟩,λcP gR aln=> ?_⟩;rw [abl] at aln;refine ⟨n-1,by omega,k+1,_,wk,by omega,aln,?_,λy hy=> ?_,(Mod.sm gR).ext (xr.tr cn) λi hi=>by rw [hi];exact aD _⟩
  ·rw [Ss hl];exact aaq (f:=λy:Bl=>y.1) (g:=λy:Bl=>y.2.2) x hp (uI _ h.ok.nd)
  ·rcases aap hy with rfl|hy
   ·exact c5.2 (.inr (aU hx))
   ·exact eQ y hy
 ·replace hc:=nT hc;rw [fz ab] at hp;exact ⟨w.heap.size,E',rfl,hm,hp,eQ,xr,aD _⟩
def abm(E:List Bl):((mY (E.map kb):Nat):Int)=(E.map λx=>(x.2.2.length:Int)).sum:=by
 induction E with
 |nil=>rfl
 |cons x t ih=>
  rw [fT,q8,fT,List.sum_cons,<-ih];have:(kb x).2.length=x.2.2.length:=rfl;omega
def Of{w:World}{r:Nat}{E:List Bl}(hm:cG GI w (some r) (E.map qt))(hb:∀x ∈ E,Sr w x)(hn:mY (E.map kb)<=1099511627776):ah 229 #[.map (some r)] w λe w'=>e=Value.int .i64 (mY (E.map kb):Nat)/\Ext w w':=by
 obtain ⟨es,clock,h1,h2,h3,h4,h5,h6⟩:=hm;have hk:es.toList.map (·.key)=(E.map qt).map (·.1):=by rw [<-h2,mS];rfl
 have hv:∀x ∈ es.toList,∃y ∈ E,x.val=.slice y.2.1.a y.2.1.n y.2.1.c:=λx hx=>by
  have:(x.key,x.val) ∈ E.map qt:=by rw [<-h2];exact aY.2 ⟨x,hx,rfl⟩
  obtain ⟨y,hy,e⟩:=aY.1 this;refine ⟨y,hy,?_⟩;have:=congrArg Prod.snd e;exact this.symm
 have hs:(es.toList.map λx=>nOf x.val).sum=(mY (E.map kb):Nat):=by
  rw [abm];have e1:(es.toList.map λx=>nOf x.val)=(E.map qt).map λe=>nOf e.2:=by rw [<-h2,mS];rfl
  rw [e1,mS];congr 1;refine yT λx hx=> ?_
  show ((x.2.1.n:Nat):Int)=_;rw [jF.n (nA.HV (hb x hx).o)]
 have g7:MapKept.Stamped es clock:=⟨h6,h5.imp λh=>Nat.ne_of_lt h,by rw [hk];exact h4⟩;refine (Sp r es clock w h1 g7 (λx hx=>by obtain ⟨y,_,e⟩:=hv x hx;exact ⟨_,_,_,e⟩) (by rw [hs];omega)).mono ?_;rintro e w' ⟨rfl,w1,seen,⟨a1,a2,a3⟩,a4,rfl⟩;refine ⟨by rw [hs],?_⟩;have x1:Ext w w1:=⟨a2,a4,a3,by rw [a1];exact aD _,λi _=>by rw [a1]⟩;exact x1.bg rfl
def Og{E:List Bl}{s:List qn}(hp:(E.map kb).Perm s)(hn:(iD s).Nodup)(k:Int)(w:World)(hb:∀x ∈ E,Sr w x):∃(t:Sl)(b:Bool),H5 (E.map qt) (k) (.slice none 0 0) (t) b/\nA 0 w t ((lI s k).getD [])/\oa ((lI s k).getD [])/\b=(lI s k).isSome:=by
 have gy:(iD (E.map kb)).Nodup:=(hp.map λx:qn=>x.1).nodup_iff.2 hn;rw [<-Jz hp gy]
 cases q:lI (E.map kb) k with
 |none=>
  refine ⟨⟨none,0,0⟩,false,.inr ⟨rfl,rfl,λe he=> ?_⟩,aF.nil,(λc hc=>by cases hc),rfl⟩;obtain ⟨x,hx,rfl⟩:=aY.1 he;have:=BC.1 q (kb x) (aY.2 ⟨x,hx,rfl⟩);unfold qt;simpa using this
 |some b=>
  obtain ⟨x,hx,e⟩:=aY.1 ((BD gy).1 q);have e1:x.1=k:=congrArg Prod.fst e;have e2:x.2.2=b:=congrArg Prod.snd e;refine ⟨x.2.1,true,.inl ⟨rfl,aY.2 ⟨x,hx,by unfold qt;rw [e1]⟩⟩,?_,?_,rfl⟩
  ·have:=(hb x hx).o;rw [e2] at this;exact this
  ·have:=(hb x hx).b;rw [e2] at this;exact this
def UX{s:List qn}(hn:(iD s).Nodup)(k:Int):((lI s k).getD []).length<=mY s:=by have:=CT hn k;omega
def Xd{w:World}{d:Nat}{m:Dm}{D:Dk}(h:DO w d m D)(hW:D.l.length<=1000000000)(k:Int):ah 182 #[d,k] w λe w'=>∃(s:Sl)(b:Bool),e=Value.tuple #[s,b]/\nA w w' s (getD D k)/\oa (getD D k)/\(getD D k).length<=1048576/\Ext w w':=by
 apply H4.vc;refine (BB h hW).mono ?_;rintro e w0 ⟨r',E',rfl,hm,hp,eQ,x0,hr⟩;have hb:∀x ∈ E',Sr w0 x:=λx hx=>(h.ext x0).bl x (eQ x hx)
 obtain ⟨t,b,hl,ho,hby,-⟩:=Og hp h.ok.now k w0 hb;have hle:=UX h.ok.now k;have Zg:=h.ok.ajy;have hrm:=h.ok.r;refine ⟨_,rfl,GI,_,Li,hm,⟨k,rfl⟩,t,b,hl,(pZ t _ w0 (nA.HV ho) ab).mono ?_⟩;rintro e w6 ⟨s7,rfl,o7,x6⟩;refine ⟨s7,rfl,s7,b,rfl,aF.low o7 x0.size,hby,?_,x0.tr x6⟩;show ((lI (tH D) k).getD []).length<=_;omega
def DO.row{w w':World}{d:Nat}{m:Dm}{D:Dk}(h:DO w d m D){F W:Int}(hm:Mod (λi=>i=d) w w')(hr:Row w' d [D.room,F,W,.map (some m.r),.slice m.ls.a m.ls.n m.ls.c] uy)(bq:rU {D with nM:=F,wait:=W}):DO w' d m {D with nM:=F,wait:=W}:=by
 refine ⟨hr,hm.map h.rm λe=>h.rd.jJ h.rm e.symm,hm.iC h.ol λb hb e=> ?_,h.sf,h.sl,λx hx=>⟨hm.iC (h.bl x hx).o λb hb e=> ?_,(h.bl x hx).b⟩,bq⟩
 ·obtain ⟨cs,hr'⟩:=bh h.ol aG hb;exact hr'.ne h.rd aG e
 ·obtain ⟨cs,hr'⟩:=bh (h.bl x hx).o aG hb;exact hr'.ne h.rd aG e
def CU{w:World}{d:Nat}{m:Dm}{D:Dk}(h:DO w d m D):ah 227 #[d] w λe w'=>e=Value.bool (iY D).2/\DO w' d m (iY D).1/\Mod (λi=>i=d) w w':=by
 apply BE.vc;have bq:=h.ok.ask;have hw:=h.ok.w;have hf:=h.ok.f;refine ⟨D.wait,h.rd.at 2 rfl,Br.mk (λhc=> ?_) (λhc=> ?_)⟩
 ·simp only [gt_iff_lt,cX] at hc;have e:iY D=({D with wait:=0},false):=by unfold iY;rw [if_pos hc]
  have e1:ak (D.wait-1)=0:=by rw [wI];omega
  rw [e] at bq ⊢;obtain ⟨p1,p2⟩:=h.rd.jm (j:=2) (v:=.int .i64 0) cj rfl;refine ⟨_,h.rd.at 2 rfl,?_⟩;rw [e1];refine ⟨⟨rfl,p1⟩,λw2 e2=>⟨rfl,?_⟩⟩;obtain ⟨q1,q2⟩:=p2 w2 e2;exact ⟨h.row q2 q1 bq,q2⟩
 ·simp only [gt_iff_lt,fk] at hc;refine ⟨D.nM,h.rd.at 1 rfl,Br.mk (λoK=> ?_) (λoK=> ?_)⟩
  ·simp only [gt_iff_lt,cX] at oK;have e:iY D=({D with nM:=D.nM-1},true):=by unfold iY;rw [if_neg hc,if_pos oK]
   rw [e] at bq ⊢;obtain ⟨p1,p2⟩:=h.rd.jm (j:=1) (v:=.int .i64 (ak (D.nM-1))) cj rfl;refine ⟨_,h.rd.at 1 rfl,⟨rfl,p1⟩,λw2 e2=>⟨by rw [decide_eq_true oK],?_⟩⟩;obtain ⟨q1,q2⟩:=p2 w2 e2;have e1:ak (D.nM-1)=D.nM-1:=wI;rw [e1] at q1;exact ⟨h.row q2 q1 bq,q2⟩
  ·simp only [gt_iff_lt,fk] at oK;have e:iY D=(D,false):=by unfold iY;rw [if_neg hc,if_neg oK]
   rw [e];exact ⟨by rw [decide_eq_false oK],h,Mod.refl _ _⟩
def Fq{w:World}{p:Option Addr}{v:Value}(h:ld w p=some v):af w p 0 [v]:=by show ld w (ae p 0)=_;rw [fC];exact h
def abx(k:Int)(a:Option Addr)(n c:Nat):One [Value.int .i64 k,Value.slice a n c]:=by intro v hv;simp at hv;rcases hv with rfl|rfl<;>rfl
def UZ(D:Dk):tH (iY D).1=tH D:=by obtain ⟨e1,e2,-⟩:=lV D;unfold tH;rw [e1,e2]
def DO.ahO{w:World}{d:Nat}{m:Dm}{D:Dk}(h:DO w d m D):∀b,m.ls.bj=some b->b≠d:=λb hb=>by
 obtain ⟨cs,hr⟩:=bh h.ol aG hb
 exact hr.ne h.rd aG
def ajB(w:World)(d:Nat)(m:Dm)(D:Dk)(w':World):Prop:=∃m',DO w' d m' D/\Mod (λi=>i=d\/m.ls.bj=some i) w w'/\(∀i,dF d m' i->dF d m i\/w.heap.size<=i)/\∀i,m'.ls.bj=some i->m.ls.bj=some i\/w.heap.size<=i
set_option maxRecDepth 100000 in
def Xm{w:World}{d:Nat}{m:Dm}{D:Dk}(h:DO w d m D)(hW:D.l.length<=1000000000)(key:Int)(s:Sl)(b:List Int)(hs:jF w s b)(hb:oa b)(hn:b.length<=1099511627776)(hsd:s.bj≠some d):
  ah 164 #[d,key,s] w λe w'=>e=Value.int .i64 (lE D key b).2/\ajB w d m (lE D key b).1 w':=by
 apply (Ia.vc (a2:=s));have tL:=jF.n hs;refine (CU h).mono ?_;rintro e w0 ⟨rfl,h0,m0⟩;have z0:=m0.size;have m0':Mod (λi=>i=d\/m.ls.bj=some i) w w0:=m0.mono λi _ hi=> .inl hi
 refine ⟨_,rfl,Br.mk (λhf=> ?_) (λhf=> ?_)⟩
 ·have e:lE D key b=((iY D).1,9):=by unfold lE;rw [if_pos hf]
  rw [e];exact ⟨rfl,m,h0,m0',λi hi=> .inl hi,λi hi=> .inl hi⟩
 obtain ⟨e1,e2,e3⟩:=lV D;have IQ:jF w0 s b:=m0.rdK aG hs λ_ g hg e=>hsd (e▸hg)
 refine (BB h0 (by rw [e2];exact hW)).mono ?_;rintro e w2 ⟨r',E',rfl,Md,hp,eQ,x2,hr'⟩;rw [UZ] at hp;have hnd:=h.ok.now;have Zg:=h.ok.ajy;have hrm:=h.ok.r;have hbE:∀x ∈ E',Sr w2.drew x:=λx hx=>(h0.ext (x2.tr (Ext.dr w2))).bl x (eQ x hx)
 have ahk:cG GI w2.drew (some r') (E'.map qt):=Md.same ((Ext.dr w2).heap Md.lt);obtain ⟨t,tb,hl,hto,htb,-⟩:=Og hp hnd key w2.drew hbE;have htn:=jF.n (nA.HV hto);have hll:=aby hnd (key,b);have hlE:mY (E'.map kb)=mY (tH D):=JE hp;simp only at hll;have hg:((lI (tH D) key).getD []).length<=mY (tH D):=UX hnd key;rw [<-htn] at hll hg;have wl:ak (((mY (E'.map kb):Nat):Int)-((t.n:Nat):Int))=((mY (tH D):Nat):Int)-t.n:=by rw [hlE,wI]
 have wr:ak (D.room-((s.n:Nat):Int))=D.room-s.n:=wI;have hd0:∀{v:World},Ext w0 v->ld v (ae (aB d) 0)=some (.int .i64 D.room):=λx=>by have:=(h0.ext x).rd.at 0 rfl;rw [e3] at this;exact this
 have x2d:=x2.tr (Ext.dr w2);have hby:=Of (w:=w2.drew) ahk hbE (by rw [hlE];omega);refine ⟨_,rfl,D.room,hd0 x2d,?_,?_⟩
 ·refine hby.mono ?_;rintro e v ⟨rfl,xv⟩;have Z8:=x2d.tr xv;refine ⟨_,rfl,Fq (hd0 Z8),GI,_,Li,ahk.same (xv.heap ahk.lt),⟨key,rfl⟩,t,tb,hl,Fq (hd0 Z8),?_⟩;rw [wl,wr];apply Br.mk<;>intro hc
  ·simp only [gt_iff_lt,cX] at hc;have e:lE D key b=((iY D).1,8):=by unfold lE;rw [if_neg (by rw [hf];decide),if_pos ab]
   rw [e];have zv:=Z8.size;exact ⟨rfl,m,h0.ext Z8,m0'.trans (Mod.aH Z8),λi hi=> .inl hi,λi hi=> .inl hi⟩
  ·simp only [gt_iff_lt,fk] at hc;have e:lE D key b=({(iY D).1 with l:=D.l++ [(key,b)]},0):=by unfold lE;rw [if_neg (by rw [hf];decide),if_neg ab]
   have bq:=h.ok.put key b;rw [e] at bq ⊢;have xvd:=Z8.tr (Ext.dr v);refine ⟨m.ls,(h0.ext xvd).rd.at 4 rfl,(pZ s b v.drew (IQ.ext xvd) hn).mono ?_⟩;rintro e cU ⟨yE,rfl,o13,bS⟩;have Hn:=xvd.tr bS;have v8:=h0.ext Hn;obtain ⟨n1,n2⟩:=v8.nW;rw [e2] at n2;refine ⟨yE,rfl,Fq (v8.rd.at 4 rfl),λbJ vE=> ?_⟩;subst vE;obtain ⟨ZE,bu⟩:=aF.iO v8.ol (bytes:=32) (news:=wV (key,yE,b)) (.cells #[key,yE] tW) (iI _) rfl (abx _ _ _ _) ab ab;refine ⟨ZE,λmA cP hr=> ?_⟩;obtain ⟨f1,aec,au1,xb,vT,iQ⟩:=bu mA cP hr;have m16:Mod (λj=>m.ls.bj=some j) cU cP:=Mod.xg xb vT;have L4:=m16.row v8.rd λq=>v8.ahO _ q rfl
   obtain ⟨p1,p2⟩:=L4.jm (j:=4) (v:=.slice mA.a mA.n mA.c) cj rfl;have z12:=Hn.size;have Uk:=h.rd.lt;refine ⟨f1,⟨rfl,p1⟩,λq=> ?_,λcJ yr=>⟨rfl,{m with ls:=mA,W:=m.W++ [(key,yE,b)]},?_,?_,?_,?_⟩⟩
   ·rw [de] at q;have:d=cU.heap.size:=by simpa [bt] using q
    omega
   ·obtain ⟨q1,q2⟩:=p2 cJ yr;have mm:Mod (λj=>j=d\/m.ls.bj=some j) cU cJ:=(m16.mono λi _ hi=> .inr hi).trans (q2.mono λi _ hi=> .inl hi);have off:∀{g:Nat} {cs:LV} {τ:TypeId},Row cU g cs τ->τ≠uy->τ≠tW->¬(g=d\/m.ls.bj=some g):=λhr' t1 t2 q=>by
     rcases q with q|q
     ·exact hr'.ne v8.rd t1 q
     ·obtain ⟨cs',qE⟩:=bh v8.ol aG q;exact hr'.ne qE t2 rfl
    refine ⟨q1,mm.map v8.rm λq=> ?_,?_,v8.sf,?_,λx hx=> ?_,bq⟩
    ·rcases q with q|q
     ·exact v8.rd.jJ v8.rm q.symm
     ·obtain ⟨cs',qE⟩:=bh v8.ol aG q;exact qE.jJ v8.rm rfl
    ·show aF 0 tW 2 cJ mA ((m.W++ [(key,yE,b)]).map wV);rw [bX];refine q2.iC aec λg hg=> ?_
     obtain ⟨cs',qE⟩:=bh aec aG hg;exact qE.ne L4 aG
    ·show (m.W++ [(key,yE,b)]).map kb=D.l++ [(key,b)];rw [bX,h.sl];rfl
    ·have hx:x ∈ m.E++m.W\/x=(key,yE,b):=by
      simp only [c5,cR,oQ,or_false] at hx ⊢;rcases hx with hx|hx|hx
      ·exact .inl (.inl hx)
      ·exact .inl (.inr hx)
      ·exact .inr hx
     have Z9:Sr cU x:=by
      rcases hx with hx|rfl
      ·exact v8.bl x hx
      ·exact ⟨aF.low o13 (iI _),hb⟩
     refine ⟨mm.iC Z9.o λg hg=> ?_,Z9.b⟩;obtain ⟨cs',qE⟩:=bh Z9.o aG hg;exact off qE aG aG
   ·obtain ⟨q1,q2⟩:=p2 cJ yr;refine (m0'.trans (Mod.aH Hn)).trans ((m16.mono λi _ hi=> .inr hi).trans (q2.mono λi _ hi=> .inl hi))
   ·rintro i (q|q|q|⟨x,hx,q⟩)
    ·exact .inl (.inl q)
    ·exact .inl (.inr (.inl q))
    ·rcases iQ with q'|q'
     ·exact .inl (.inr (.inr (.inl (by rw [<-q'];exact q))))
     ·rw [q'] at q;cases q;exact .inr ab
    ·simp only [c5,cR,oQ,or_false] at hx;rcases hx with hx|hx|rfl
     ·exact .inl (.inr (.inr (.inr ⟨x,c5.2 (.inl hx),q⟩)))
     ·exact .inl (.inr (.inr (.inr ⟨x,c5.2 (.inr hx),q⟩)))
     ·have:=(o13.own.lt q).1;have zv:=xvd.size;exact .inr ab
   ·intro i q;rcases iQ with q'|q'
    ·exact .inl (by rw [<-q'];exact q)
    ·have q:mA.bj=some i:=q;rw [q'] at q;cases q;exact .inr ab
 ·refine ⟨GI,_,Li,ahk,⟨key,rfl⟩,t,tb,hl,Fq (hd0 x2d),hby.mono ?_⟩;rintro e v ⟨rfl,xv⟩;have Z8:=x2d.tr xv;refine ⟨_,rfl,Fq (hd0 Z8),?_⟩;rw [wl,wr];apply Br.mk<;>intro hc
  ·simp only [gt_iff_lt,cX] at hc;have e:lE D key b=((iY D).1,8):=by unfold lE;rw [if_neg (by rw [hf];decide),if_pos ab]
   rw [e];have zv:=Z8.size;exact ⟨rfl,m,h0.ext Z8,m0'.trans (Mod.aH Z8),λi hi=> .inl hi,λi hi=> .inl hi⟩
  ·simp only [gt_iff_lt,fk] at hc;have e:lE D key b=({(iY D).1 with l:=D.l++ [(key,b)]},0):=by unfold lE;rw [if_neg (by rw [hf];decide),if_neg ab]
   have bq:=h.ok.put key b;rw [e] at bq ⊢;have xvd:=Z8.tr (Ext.dr v);refine ⟨m.ls,(h0.ext xvd).rd.at 4 rfl,(pZ s b v.drew (IQ.ext xvd) hn).mono ?_⟩;rintro e cU ⟨yE,rfl,o13,bS⟩;have Hn:=xvd.tr bS;have v8:=h0.ext Hn;obtain ⟨n1,n2⟩:=v8.nW;rw [e2] at n2;refine ⟨yE,rfl,Fq (v8.rd.at 4 rfl),λbJ vE=> ?_⟩;subst vE;obtain ⟨ZE,bu⟩:=aF.iO v8.ol (bytes:=32) (news:=wV (key,yE,b)) (.cells #[key,yE] tW) (iI _) rfl (abx _ _ _ _) ab ab;refine ⟨ZE,λmA cP hr=> ?_⟩;obtain ⟨f1,aec,au1,xb,vT,iQ⟩:=bu mA cP hr;have m16:Mod (λj=>m.ls.bj=some j) cU cP:=Mod.xg xb vT;have L4:=m16.row v8.rd λq=>v8.ahO _ q rfl
   obtain ⟨p1,p2⟩:=L4.jm (j:=4) (v:=.slice mA.a mA.n mA.c) cj rfl;have z12:=Hn.size;have Uk:=h.rd.lt;refine ⟨f1,⟨rfl,p1⟩,λq=> ?_,λcJ yr=>⟨rfl,{m with ls:=mA,W:=m.W++ [(key,yE,b)]},?_,?_,?_,?_⟩⟩
   ·rw [de] at q;have:d=cU.heap.size:=by simpa [bt] using q
    omega
   ·obtain ⟨q1,q2⟩:=p2 cJ yr;have mm:Mod (λj=>j=d\/m.ls.bj=some j) cU cJ:=(m16.mono λi _ hi=> .inr hi).trans (q2.mono λi _ hi=> .inl hi);have off:∀{g:Nat} {cs:LV} {τ:TypeId},Row cU g cs τ->τ≠uy->τ≠tW->¬(g=d\/m.ls.bj=some g):=λhr' t1 t2 q=>by
     rcases q with q|q
     ·exact hr'.ne v8.rd t1 q
     ·obtain ⟨cs',qE⟩:=bh v8.ol aG q;exact hr'.ne qE t2 rfl
    refine ⟨q1,mm.map v8.rm λq=> ?_,?_,v8.sf,?_,λx hx=> ?_,bq⟩
    ·rcases q with q|q
     ·exact v8.rd.jJ v8.rm q.symm
     ·obtain ⟨cs',qE⟩:=bh v8.ol aG q;exact qE.jJ v8.rm rfl
    ·show aF 0 tW 2 cJ mA ((m.W++ [(key,yE,b)]).map wV);rw [bX];refine q2.iC aec λg hg=> ?_
     obtain ⟨cs',qE⟩:=bh aec aG hg;exact qE.ne L4 aG
    ·show (m.W++ [(key,yE,b)]).map kb=D.l++ [(key,b)];rw [bX,h.sl];rfl
    ·have hx:x ∈ m.E++m.W\/x=(key,yE,b):=by
      simp only [c5,cR,oQ,or_false] at hx ⊢;rcases hx with hx|hx|hx
      ·exact .inl (.inl hx)
      ·exact .inl (.inr hx)
      ·exact .inr hx
     have Z9:Sr cU x:=by
      rcases hx with hx|rfl
      ·exact v8.bl x hx
      ·exact ⟨aF.low o13 (iI _),hb⟩
     refine ⟨mm.iC Z9.o λg hg=> ?_,Z9.b⟩;obtain ⟨cs',qE⟩:=bh Z9.o aG hg;exact off qE aG aG
   ·obtain ⟨q1,q2⟩:=p2 cJ yr;refine (m0'.trans (Mod.aH Hn)).trans ((m16.mono λi _ hi=> .inr hi).trans (q2.mono λi _ hi=> .inl hi))
   ·rintro i (q|q|q|⟨x,hx,q⟩)
    ·exact .inl (.inl q)
    ·exact .inl (.inr (.inl q))
    ·rcases iQ with q'|q'
     ·exact .inl (.inr (.inr (.inl (by rw [<-q'];exact q))))
     ·rw [q'] at q;cases q;exact .inr ab
    ·simp only [c5,cR,oQ,or_false] at hx;rcases hx with hx|hx|rfl
     ·exact .inl (.inr (.inr (.inr ⟨x,c5.2 (.inl hx),q⟩)))
     ·exact .inl (.inr (.inr (.inr ⟨x,c5.2 (.inr hx),q⟩)))
     ·have:=(o13.own.lt q).1;have zv:=xvd.size;exact .inr ab
   ·intro i q;rcases iQ with q'|q'
    ·exact .inl (by rw [<-q'];exact q)
    ·have q:mA.bj=some i:=q;rw [q'] at q;cases q;exact .inr ab
set_option maxRecDepth 100000 in
def TG{w:World}{d:Nat}{m:Dm}{D:Dk}(h:DO w d m D)(hW:D.l.length<=1000000000):
  ah 165 #[d] w λe w'=>e=Value.int .i64 (qO D).2/\ajB w d m (qO D).1 w':=by
 apply Gp.vc;refine (CU h).mono ?_;rintro e w0 ⟨rfl,h0,m0⟩;have z0:=m0.size;have m0':Mod (λi=>i=d\/m.ls.bj=some i) w w0:=m0.mono λi _ hi=> .inl hi
 have bq:=h.ok.sync;obtain ⟨e1,e2,e3⟩:=lV D;refine ⟨_,rfl,Br.mk (λhf=> ?_) (λhf=> ?_)⟩
 ·have e:qO D=((iY D).1,9):=by unfold qO;rw [if_pos hf]
  rw [e];exact ⟨rfl,m,h0,m0',λi hi=> .inl hi,λi hi=> .inl hi⟩
 ·have e:qO D=({(iY D).1 with safe:=tH D,l:=[]},0):=by unfold qO;rw [if_neg (by rw [hf];decide)]
  rw [e] at bq ⊢;refine (BB h0 (by rw [e2];exact hW)).mono ?_;rintro e w2 ⟨r',E',rfl,Md,hp,eQ,x2,hr'⟩;rw [UZ] at hp;have h2:=h0.ext x2;have z2:=x2.size;have Uk:=h.rd.lt;obtain ⟨p1,p2⟩:=h2.rd.jm (j:=3) (v:=.map (some r')) cj rfl;refine ⟨_,rfl,⟨rfl,p1⟩,λw4 e4=> ?_⟩;obtain ⟨q1,q2⟩:=p2 w4 e4;obtain ⟨p3,p4⟩:=q1.jm (j:=4) (v:=.slice none 0 0) (show 4<5 by decide) rfl;refine ⟨⟨rfl,p3⟩,λw5 e5=>⟨rfl,⟨r',⟨none,0,0⟩,E',[]⟩,?_,?_,?_,λi q=>by cases q⟩⟩
  ·obtain ⟨q3,q4⟩:=p4 w5 e5;have mm:=q2.trans q4;refine ⟨q3,mm.map Md λq=>h2.rd.jJ Md q.symm,aF.nil,hp,rfl,λx hx=> ?_,bq⟩;have hx':x ∈ E':=by simpa using hx
   have Z9:=h2.bl x (eQ x hx');refine ⟨mm.iC Z9.o λg hg=> ?_,Z9.b⟩;obtain ⟨cs',qE⟩:=bh Z9.o aG hg;exact qE.ne h2.rd aG
  ·obtain ⟨q3,q4⟩:=p4 w5 e5;exact (m0'.trans (Mod.aH x2)).trans ((q2.trans q4).mono λi _ hi=> .inl hi)
  ·rintro i (q|q|q|⟨x,hx,q⟩)
   ·exact .inl (.inl q)
   ·exact .inr (by rw [q];show _<=r';omega)
   ·cases q
   ·have hx':x ∈ E':=by simpa using hx
    exact .inl (.inr (.inr (.inr ⟨x,eQ x hx',q⟩)))
abbrev ann:TypeId:=202
structure SO(w:World)(st d:Nat)(m:Dm)(D:Dk):Prop where
 rs:Row w st [d] BF
 dk:DO w d m D
def sF(st d:Nat)(m:Dm)(i:Nat):Prop:=i=st\/dF d m i
def SO.lt{w:World}{st d:Nat}{m:Dm}{D:Dk}(h:SO w st d m D){i:Nat}(hi:sF st d m i):i<w:=by
 rcases hi with rfl|hi
 ·exact h.rs.lt
 ·exact h.dk.lt hi
def SO.same{w w':World}{st d:Nat}{m:Dm}{D:Dk}(h:SO w st d m D)(hs:∀i,sF st d m i->w'.heap[i]? =w.heap[i]?):SO w' st d m D:=⟨h.rs.same (hs _ (.inl rfl)),h.dk.same λi hi=>hs i (.inr hi)⟩
def SO.ext{w w':World}{st d:Nat}{m:Dm}{D:Dk}(h:SO w st d m D)(x:Ext w w'):SO w' st d m D:=h.same λi hi=>x.heap (h.lt hi)
def SO.ptr{w:World}{st d:Nat}{m:Dm}{D:Dk}(h:SO w st d m D):ld w (ae (ae (aB st) 0) 0)=some (.pointer (aB d)):=by rw [bo,bo,h.rs.ld];rfl
def YR(room:Int)(w:World):ah 212 #[room] w λe w'=>∃d m,e=Value.pointer (aB d)/\DO w' d m ⟨min (max room 0) 1048576,0,0,[],[]⟩/\Ext w w'/\∀i,dF d m i->w.heap.size<=i:=by
 apply aaX.vc;intro w0 e0 w1 e1;have z0:=eN e0;have x1:=aT e1;have hm:cG GI w0 (some w.heap.size) []:=by rw [e0];exact cG.new
 have er:(if 1048576<(if 0>room then 0 else room) then 1048576 else (if 0>room then 0 else room))=min (max room 0) 1048576:=by split<;>split<;>omega
 rw [er] at e1;refine ⟨w0.heap.size,⟨w.heap.size,⟨none,0,0⟩,[],[]⟩,rfl,⟨by rw [e1];exact Row.new w0 [_,_,_,_,_] _,hm.same (x1.heap hm.lt),aF.nil,.refl _,rfl,(λx hx=>by cases hx),⟨List.nodup_nil,λk=>by simp [mY];omega,by simp,by simp,by simp only;omega⟩⟩,(aT e0).tr x1,λi hi=> ?_⟩;rcases hi with q|q|q|⟨x,hx,-⟩
 ·omega
 ·rw [q];exact aD _
 ·cases q
 ·cases hx
def YQ(room:Int)(w:World):ah 149 #[room] w λe w'=>∃st d m,e=Value.pointer (aB st)/\SO w' st d m ⟨min (max room 0) 1048576,0,0,[],[]⟩/\Ext w w'/\∀i,sF st d m i->w.heap.size<=i:=by
 apply WG.vc;refine (YR room w).mono ?_;rintro e w0 ⟨d,m,rfl,hd,x0,hf⟩;refine ⟨_,rfl,λw2 e2=> ?_⟩;have x2:=aT e2;have z:=x0.size;refine ⟨_,d,m,rfl,⟨by rw [e2];exact Row.new w0 [_] _,hd.ext x2⟩,x0.tr x2,λi hi=> ?_⟩;rcases hi with q|q
 ·omega
 ·exact hf i q
set_option maxRecDepth 100000 in
def P8{w:World}{st d:Nat}{m:Dm}{D:Dk}(h:SO w st d m D)(hW:D.l.length<=1000000000){id:Int}(hid:0<=id/\id<=1099511627776):
  ah 133 #[st,id] w λe w'=>∃s:Sl,e=Value.agg #[.int .i64 (fU D id).1,.int .i64 (fU D id).2.1,.slice s.a s.n s.c]/\jF w' s (fU D id).2.2/\oa (fU D id).2.2/\(fU D id).2.2.length<=1048576/\s.n<=s.c/\(∀g,s.bj=some g->w.heap.size<=g)/\Ext w w':=by
 apply DF.vc;intro w0 e0 w1 e1 w2 e2;have z0:=eN e0;have z1:w1.heap.size=w.heap.size+2:=by rw [e1];simp [z0]
 have z2:w2.heap.size=w.heap.size+2:=by rw [e2,setRow_size,z1]
 have x2:Ext w w2:=((aT e0).bg e1).ag e2 ab;have k0:ak (2*id)=2*id:=wI;have k1:ak (2*id+1)=2*id+1:=wI;rw [k0,k1];obtain ⟨best,hbest⟩:∃best:Nat->Rc,best=λk=>if k=0 then (2*id+1,0,[]) else if k=1 then fA (2*id+1,0,[]) (2*id) (nZ (getD D (2*id))) else fU D id:=⟨_,rfl⟩
 have b0:best 0=(2*id+1,0,[]):=by rw [hbest];rfl
 have b1:best 1=fA (best 0) (2*id) (nZ (getD D (2*id))):=by rw [b0,hbest];rfl
 have b2:best 2=fA (best 1) (2*id+1) (nZ (getD D (2*id+1))):=by rw [b1,b0,hbest];rfl
 have b3:best 2=fU D id:=by rw [hbest];rfl
 refine ⟨λn i sl v s wr=>∃k:Nat,i=k/\k+n=2/\sl=(best k).1/\v=(best k).2.1/\jF wr s (best k).2.2/\oa (best k).2.2/\(best k).2.2.length<=1048576/\s.n<=s.c/\(∀g,s.bj=some g->w2.heap.size<=g)/\Ext w wr/\w2.heap.size<=wr,
  ⟨2,rfl,0,rfl,rfl,by rw [b0],by rw [b0],by rw [b0];exact nA.HV (aF.nil (B:=0)),by rw [b0];exact (λc hc=>by cases hc),by rw [b0];simp,aD _,(λg hg=>by cases hg),x2,aD _⟩,?_⟩
 rintro n4 us i sl v s bN ⟨k,rfl,hk,rfl,rfl,hs,Q0,oJ,hsc,hsf,bk,Y6⟩;apply Br.mk<;>intro hc
 ·replace hc:=nG hc;have VL:=nY (j:=k);obtain ⟨slot,hslot,hnext⟩:∃slot,([.int .i64 (2*id),.int .i64 (2*id+1)]:LV)[((k:Nat):Int).toNat*1]? =some (.int .i64 slot)/\best (k+1)=fA (best k) slot (nZ (getD D slot)):=by
   rcases k with _|_|k
   ·exact ⟨_,rfl,b1⟩
   ·exact ⟨_,rfl,b2⟩
   ·omega
  have h10:=h.ext bk;refine ⟨⟨by omega,by omega⟩,slot,hslot,_,h10.ptr,(Xd h10.dk hW slot).mono ?_⟩;rintro e bJ ⟨t,tb,rfl,ot,hby,hle,bW⟩;have Y9:=bW.size;refine ⟨t,tb,rfl,bW.heap ab,bW.heap ab,(Ts t (getD D slot) bJ (nA.HV ot) hby (aF.le ot) ab).mono ?_⟩;rintro e cJ ⟨u,rfl,hu,huc,hub,cZ⟩;have z17:=cZ.size;have aeq:=bW.tr cZ;have hui:=aj1 hby
  have hul:=aj2 (getD D slot);have dc:fA (best k) slot (nZ (getD D slot))=best k->∃tj,tj<n4/\aL [aa,aa,.slice none 0 0]/\∃k':Nat,ak ((k:Int)+1)=(k':Int)/\k'+tj=2/\(best k).1=(best k').1/\(best k).2.1=(best k').2.1/\jF cJ s (best k').2.2/\oa (best k').2.2/\(best k').2.2.length<=1048576/\s.n<=s.c/\(∀g,s.bj=some g->w2.heap.size<=g)/\Ext w cJ/\w2.heap.size<=cJ:=λq=>by rw [q] at hnext;exact ⟨n4-1,by omega,rfl,k+1,VL,by omega,by rw [hnext],by rw [hnext],by rw [hnext];exact hs.ext aeq,by rw [hnext];exact Q0,by rw [hnext];exact oJ,hsc,hsf,bk.tr aeq,by omega⟩
  refine ⟨_,u,_,rfl,cZ.heap ab,cZ.heap ab,Br.mk (λhb=>Br.mk (λj8=> ?_) (λj8=> ?_)) (λhb=> ?_)⟩
  ·have q1:=dn hb;have q2:=dn j8;have e:fA (best k) slot (nZ (getD D slot))=(slot,(nZ (getD D slot)).1,(nZ (getD D slot)).2.1):=by unfold fA;rw [if_pos ⟨q1,q2⟩]
   rw [e] at hnext;intro eU HE;have dh:Ext w eU:=(bk.tr aeq).ag HE ab;have aw3:jF eU u (nZ (getD D slot)).2.1:=hu.same λg hg=>by rw [HE];exact setRow_other _ _ _ _ (by have:=hub g hg;omega)
   have z21:eU.heap.size=cJ.heap.size:=by rw [HE,setRow_size]
   exact ⟨n4-1,by omega,rfl,k+1,VL,by omega,by rw [hnext],by rw [hnext],by rw [hnext];exact aw3,by rw [hnext];exact hui,by rw [hnext];simp only;omega,huc,(λg hg=>by have:=hub g hg;omega),dh,by omega⟩
  ·have q2:=dn j8;exact dc (by unfold fA;rw [if_neg λq=>q2 q.2])
  ·have q1:=dn hb;exact dc (by unfold fA;rw [if_neg λq=>q1 q.1])
 ·replace hc:=nT hc;have Hf:k=2:=by omega
  subst Hf;rw [b3] at hs Q0 oJ ⊢;intro ey HC;refine ⟨s,rfl,hs.same λg hg=> ?_,Q0,oJ,hsc,λg hg=>by have:=hsf g hg;omega,bk.ag HC (aD _)⟩;rw [HC];exact setRow_other _ _ _ _ (by have:=hsf g hg;omega)
def Kk(id:Int)(w:World):ah 132 #[id] w λe w'=>e=Value.bool (tB id)/\w'=w:=by
 apply WH.vc;unfold tB;apply Br.mk<;>intro h
 ·simp only [ge_iff_le,cX] at h;rw [decide_eq_true h];exact ⟨rfl,rfl⟩
 ·simp only [ge_iff_le,fk] at h;rw [decide_eq_false h];exact ⟨rfl,rfl⟩
def P9{id:Int}:tB id=true ↔ 0<=id/\id<=1099511627776:=by unfold tB;simp
def N7{w:World}{st d:Nat}{m:Dm}{D:Dk}(h:SO w st d m D)(hW:D.l.length<=1000000000)(id:Int):
  ah 76 #[st,id] w λe w'=>∃s:Sl,e=Value.tuple #[s,.int .i64 (tU D id).2.1,.bool (tU D id).2.2]/\jF w' s (tU D id).1/\oa (tU D id).1/\(tU D id).1.length<=1048576/\s.n<=s.c/\(∀g,s.bj=some g->w.heap.size<=g)/\Ext w w':=by
 apply Bz.vc;refine (Kk id w).mono ?_;rintro e w0 ⟨rfl,rfl⟩;refine ⟨_,rfl,Br.mk (λhb=> ?_) (λhb=> ?_)⟩
 ·have q:¬tB id=true:=by simpa using hb
  have e:tU D id=([],0,false):=by unfold tU;rw [if_neg q]
  rw [e];exact ⟨⟨none,0,0⟩,rfl,nA.HV (aF.nil (B:=0)),(λc hc=>by cases hc),by simp,aD _,(λg hg=>by cases hg),Ext.cu _⟩
 ·have q:tB id=true:=by simpa using hb
  have e:tU D id=((fU D id).2.2,(fU D id).2.1,decide ((fU D id).2.1>0)):=by unfold tU;rw [if_pos q]
  rw [e];refine (P8 h hW (P9.1 q)).mono ?_;rintro e w2 ⟨s,rfl,hs,Q0,oJ,hsc,hsf,x2⟩;refine ⟨_,_,s,rfl,λw6 e6 w7 e7=> ?_⟩;have x7:Ext w2 w7.drew:=((aT e6).ag e7 (aD _)).drew;exact ⟨s,rfl,hs.ext x7,Q0,oJ,hsc,hsf,x2.tr x7⟩
def DQ(w:World)(st d:Nat)(m:Dm)(D:Dk)(w':World):Prop:=∃m',SO w' st d m' D/\Mod (λi=>i=d\/m.ls.bj=some i) w w'/\(∀i,dF d m' i->dF d m i\/w.heap.size<=i)/\∀i,m'.ls.bj=some i->m.ls.bj=some i\/w.heap.size<=i
def SO.off{w:World}{st d:Nat}{m:Dm}{D:Dk}(h:SO w st d m D):¬(st=d\/m.ls.bj=some st):=by
 rintro (q|q)
 ·exact h.rs.ne h.dk.rd aG q
 ·obtain ⟨cs',qE⟩:=bh h.dk.ol aG q;exact h.rs.ne qE aG rfl
def SO.res{w w':World}{st d:Nat}{m:Dm}{D D':Dk}(h:SO w st d m D)(hr:ajB w d m D' w'):DQ w st d m D' w':=by obtain ⟨m',h1,h2,h3,h4⟩:=hr;exact ⟨m',⟨h2.row h.rs h.off,h1⟩,h2,h3,h4⟩
def DQ.aH{w0 w w':World}{st d:Nat}{m:Dm}{D':Dk}(x:Ext w0 w)(hr:DQ w st d m D' w'):DQ w0 st d m D' w':=by obtain ⟨m',h1,h2,h3,h4⟩:=hr;have z:=x.size;exact ⟨m',h1,(Mod.aH x).trans h2,λi hi=>(h3 i hi).imp id λq=>by omega,λi hi=>(h4 i hi).imp id λq=>by omega⟩
def DQ.trans{w w1 w2:World}{st d:Nat}{m m1:Dm}{D1 D2:Dk}(h1:SO w1 st d m1 D1/\Mod (λi=>i=d\/m.ls.bj=some i) w w1/\(∀i,dF d m1 i->dF d m i\/w.heap.size<=i)/\∀i,m1.ls.bj=some i->m.ls.bj=some i\/w.heap.size<=i)(h2:DQ w1 st d m1 D2 w2):DQ w st d m D2 w2:=by
 obtain ⟨a1,a2,a3,a4⟩:=h1;obtain ⟨m2,b1,b2,b3,b4⟩:=h2;have z:=a2.size;refine ⟨m2,b1,a2.tr b2 λi hi=> ?_,λi hi=> ?_,λi hi=> ?_⟩
 ·rcases hi with q|q
  ·exact .inl (.inl q)
  ·exact (a4 i q).imp .inr id
 ·rcases b3 i hi with q|q
  ·exact a3 i q
  ·exact .inr ab
 ·rcases b4 i hi with q|q
  ·exact a4 i q
  ·exact .inr ab
set_option maxRecDepth 100000 in
def CH{w:World}{st d:Nat}{m:Dm}{D:Dk}(h:SO w st d m D)(hW:D.l.length<=1000000)(id:Int)(s:Sl)(b:List Int)(hs:jF w s b)(hb:oa b)(hn:b.length<=1099511627776):
  ah 115 #[st,id,s] w λe w'=>e=Value.int .i64 (nH D id b).2/\DQ w st d m (nH D id b).1 w':=by
 apply (BQ.vc (a2:=s));have same:∀{w':World},Ext w w'->DQ w st d m D w':=λx=>⟨m,h.ext x,Mod.aH x,λi hi=> .inl hi,λi hi=> .inl hi⟩
 refine (Kk id w).mono ?_;rintro e w0 ⟨rfl,rfl⟩;refine ⟨_,rfl,Br.mk (λIN=> ?_) (λIN=> ?_)⟩
 ·have q:¬tB id=true:=by simpa using IN
  have e:nH D id b=(D,1):=by unfold nH;rw [if_neg q]
  rw [e];exact ⟨rfl,same (Ext.cu _)⟩
 ·have q:tB id=true:=by simpa using IN
  have hid:=P9.1 q;refine (P8 h ab hid).mono ?_;rintro e w2 ⟨s5,rfl,-,-,-,-,-,x2⟩;refine ⟨_,_,s5,rfl,λw6 e6 w7 e7=> ?_⟩;have r7:Row w7 w2 [.int .i64 (fU D id).1,.int .i64 (fU D id).2.1,s5] ann:=by rw [e7];exact Row.set (by rw [e6];exact Row.new w2 [_,_,_] _) _
  have fD:Ext w2 w7:=(aT e6).ag e7 (aD _);have x7:=x2.tr fD;have hv:=aas D id;have wv:ak ((fU D id).2.1+1)=(fU D id).2.1+1:=wI;rw [wv];have oJ:=MM D id;have hto:lD .i64 (fU D id).1 1=4*id+1-(fU D id).1:=by
   obtain ⟨t1,t2⟩:=aar hid;rcases oJ with q|q
   ·rw [q,t1];omega
   ·rw [q,t2];omega
  rw [hto];have hsv:nH D id b=if (yJ ((fU D id).2.1+1) b).2≠0 then (D,(yJ ((fU D id).2.1+1) b).2)
   else if (lE D (4*id+1-(fU D id).1) (yJ ((fU D id).2.1+1) b).1).2≠0 then lE D (4*id+1-(fU D id).1) (yJ ((fU D id).2.1+1) b).1
   else qO (lE D (4*id+1-(fU D id).1) (yJ ((fU D id).2.1+1) b).1).1:=by unfold nH;rw [if_pos q]
  rw [hsv];refine (PL ((fU D id).2.1+1) s b w7 (hs.ext x7) hb hn).mono ?_;rintro e w8 ⟨s9,rfl,o9,x8⟩;have hwb:oa (yJ ((fU D id).2.1+1) b).1:=aj9 hb;have hwn:(yJ ((fU D id).2.1+1) b).1.length<=1099511627776:=by
   unfold yJ;split
   ·simp
   ·rename_i q3;rw [Je,GM];omega
  generalize yJ ((fU D id).2.1+1) b=wr at*;generalize 4*id+1-(fU D id).1=slot at*;have z8:=x8.size;have z2:=fD.size;have hlt7:=r7.lt;refine ⟨s9,_,rfl,x8.heap hlt7,Br.mk (λj8=> ?_) (λj8=> ?_)⟩
  ·have q2:wr.2≠0:=by simpa using j8
   rw [if_pos q2];exact ⟨rfl,same (x7.tr x8)⟩
  ·have q2:wr.2=0:=by simpa using j8
   rw [if_neg (by rw [q2];simp)];have x8d:=(x7.tr x8).tr (Ext.dr w8);have h8:=h.ext x8d;have Uk:=h.dk.rd.lt;have z7:=x7.size;refine ⟨_,h8.ptr,(Xm h8.dk ab slot s9 wr.1 (RdK.ext (nA.HV o9) (Ext.dr w8)) hwb hwn λhg=>by have:=(o9.own.lt hg).1;omega).mono ?_⟩;rintro e cU ⟨rfl,aw4⟩;have aqh:=h8.res aw4;have LR:∀{v:World},Mod (λi=>i=d\/m.ls.bj=some i) w8.drew v->v.heap[w2.heap.size]? =w8.drew.heap[w2.heap.size]? :=λhm=>hm.same _ (by show w2.heap.size<w8.heap.size;omega) (by
    have:=x2.size;rintro (q|q)
    ·omega
    ·have:=(h.dk.ol.own.lt q).2;omega)
   obtain ⟨m1,g1,g2,g3,g4⟩:=aqh;have r12:Row cU w2 [.int .i64 (fU D id).1,.int .i64 (fU D id).2.1,s5] ann:=((r7.ext x8).ext (Ext.dr w8)).same (LR g2);refine ⟨_,rfl,LR g2,r12.cg (λj hj=>by simp at hj;subst hj;rfl),Br.mk (λhb3=> ?_) (λhb3=> ?_)⟩
   ·have q3:(lE D slot wr.1).2≠0:=by simpa using hb3
    rw [if_pos q3];exact ⟨rfl,DQ.aH x8d ⟨m1,g1,g2,g3,g4⟩⟩
   ·have q3:(lE D slot wr.1).2=0:=by simpa using hb3
    rw [if_neg (by rw [q3];simp)];have hpl:=aau D slot wr.1;refine ⟨_,g1.ptr,(TG g1.dk ab).mono ?_⟩;rintro e eu ⟨rfl,aqi⟩;have aqj:=g1.res aqi;have bu:=DQ.trans ⟨g1,g2,g3,g4⟩ aqj;have z12:=g2.size;obtain ⟨m2,f1,f2,f3,f4⟩:=aqi;refine ⟨_,rfl,f2.same _ r12.lt ?_,rfl,DQ.aH x8d bu⟩;rintro (q|q)
    ·have:=x2.size;omega
    ·obtain ⟨cs',qE⟩:=bh g1.dk.ol aG q;exact r12.ne qE aG rfl
structure It where
 x:Nat
 g:Nat
 s:Sl
 p:Po
 C:List Int
 pg:Bool
 pins:Int
structure vJ(w:World)(i:It):Prop where
 r:Row w i.x [.pointer (aB i.g),.bool i.pg,i.pins] cQ
 k:H7 w i.g i.s i.p i.C
def vJ.ext{w w':World}{i:It}(h:vJ w i)(x:Ext w w'):vJ w' i:=⟨h.r.ext x,h.k.ext x⟩
def vJ.dc{w w':World}{i:It}(h:vJ w i){F:Nat->Prop}(hm:Mod F w w')(h1:¬F i.x)(h2:¬F i.g)(h3:∀b,i.s.bj=some b->¬F b):vJ w' i:=⟨hm.row h.r h1,h.k.dc hm h2 h3⟩
abbrev De(its:List It):List (LV):=its.map λi=> [.pointer (aB i.x)]
structure TO(w:World)(t st d:Nat)(r:Dm)(sl:Sl)(D:Dk)(ai limit:Int)(its:List It):Prop where
 rt:Row w t [st,ai,limit,sl] BG
 so:SO w st d r D
 ol:aF 0 tPI 1 w sl (De its)
 it:∀i ∈ its,vJ w i
 dx:(its.map (·.x)).Nodup
 dg:(its.map (·.g)).Nodup
 ZS:1<=limit/\limit<=16
 len:(its.length:Int)<=limit
def dM(m:Dm)(i:Nat):Prop:=i=m.r\/m.ls.bj=some i\/∃x ∈ m.E++m.W,x.2.1.bj=some i
def aE(t st d:Nat)(r:Dm)(sl:Sl)(its:List It)(i:Nat):Prop:=i=t\/i=st\/i=d\/dM r i\/sl.bj=some i\/∃y ∈ its,i=y.x\/i=y.g\/y.s.bj=some i
def TO.lt{w:World}{t st d:Nat}{r:Dm}{sl:Sl}{D:Dk}{ai limit:Int}{its:List It}(h:TO w t st d r sl D ai limit its){i:Nat}(hi:aE t st d r sl its i):i<w:=by
 rcases hi with rfl|e|e|e|e|⟨y,hy,e|e|e⟩
 ·exact h.rt.lt
 ·exact h.so.lt (.inl e)
 ·exact h.so.lt (.inr (.inl e))
 ·exact h.so.lt (.inr (.inr e))
 ·exact (h.ol.own.lt e).2
 ·exact e▸(h.it y hy).r.lt
 ·exact e▸(h.it y hy).k.row.lt
 ·exact ((h.it y hy).k.own.own.lt e).2
def TO.same{w w':World}{t st d:Nat}{r:Dm}{sl:Sl}{D:Dk}{ai limit:Int}{its:List It}(h:TO w t st d r sl D ai limit its)(hs:∀i,aE t st d r sl its i->w'.heap[i]? =w.heap[i]?):TO w' t st d r sl D ai limit its:=by
 refine ⟨h.rt.same (hs _ (.inl rfl)),h.so.same λi hi=>hs i ?_,aF.dc h.ol λb hb=>hs b (.inr (.inr (.inr (.inr (.inl hb))))),λy hy=> ?_,h.dx,h.dg,h.ZS,h.len⟩
 ·rcases hi with e|e|e
  ·exact .inr (.inl e)
  ·exact .inr (.inr (.inl e))
  ·exact .inr (.inr (.inr (.inl e)))
 ·have f:∀i,(i=y.x\/i=y.g\/y.s.bj=some i)->w'.heap[i]? =w.heap[i]? :=λi hi=>hs i (.inr (.inr (.inr (.inr (.inr ⟨y,hy,hi⟩)))))
  have hi:=h.it y hy;exact ⟨hi.r.same (f _ (.inl rfl)),hi.k.row.same (f _ (.inr (.inl rfl))),aF.dc hi.k.own λb hb=>f b (.inr (.inr hb)),hi.k.len,hi.k.may⟩
def TO.ext{w w':World}{t st d:Nat}{r:Dm}{sl:Sl}{D:Dk}{ai limit:Int}{its:List It}(h:TO w t st d r sl D ai limit its)(x:Ext w w'):TO w' t st d r sl D ai limit its:=h.same λi hi=>x.heap (h.lt hi)
def TO.kind{w:World}{t st d:Nat}{r:Dm}{sl:Sl}{D:Dk}{ai limit:Int}{its:List It}(h:TO w t st d r sl D ai limit its){i:Nat}(hi:aE t st d r sl its i):
  cG GI w (some i) (r.E.map qt)\/∃cs τ,Row w i cs τ/\(τ=BG\/τ=BF\/τ=uy\/τ=tPI\/τ=cQ\/τ=xQ\/τ=gP\/τ=tW\/τ=iJ):=by
 rcases hi with e|e|e|e|e|⟨y,hy,e|e|e⟩
 ·exact .inr ⟨_,_,e▸h.rt,.inl rfl⟩
 ·exact .inr ⟨_,_,e▸h.so.rs,.inr (.inl rfl)⟩
 ·exact .inr ⟨_,_,e▸h.so.dk.rd,.inr (.inr (.inl rfl))⟩
 ·rcases h.so.dk.kind (.inr e) with q|⟨cs,τ,q1,q2⟩
  ·exact .inl q
  ·refine .inr ⟨cs,τ,q1,?_⟩;rcases q2 with rfl|rfl|rfl
   ·exact .inr (.inr (.inl rfl))
   ·exact .inr (.inr (.inr (.inr (.inr (.inr (.inr (.inl rfl)))))))
   ·exact .inr (.inr (.inr (.inr (.inr (.inr (.inr (.inr rfl)))))))
 ·obtain ⟨cs,hr⟩:=bh h.ol aG e;exact .inr ⟨_,_,hr,.inr (.inr (.inr (.inl rfl)))⟩
 ·exact .inr ⟨_,_,e▸(h.it y hy).r,.inr (.inr (.inr (.inr (.inl rfl))))⟩
 ·exact .inr ⟨_,_,e▸(h.it y hy).k.row,.inr (.inr (.inr (.inr (.inr (.inl rfl)))))⟩
 ·obtain ⟨cs,hr⟩:=bh (h.it y hy).k.own aG e;exact .inr ⟨_,_,hr,.inr (.inr (.inr (.inr (.inr (.inr (.inl rfl))))))⟩
def TO.dR{w:World}{t st d:Nat}{r:Dm}{sl:Sl}{D:Dk}{ai limit:Int}{its:List It}(h:TO w t st d r sl D ai limit its){j:Nat}{cs:LV}{τ:TypeId}(hr:Row w j cs τ)(hτ:τ≠BG/\τ≠BF/\τ≠uy/\τ≠tPI/\τ≠cQ/\τ≠xQ/\τ≠gP/\τ≠tW/\τ≠iJ):¬aE t st d r sl its j:=λhf=>by
 rcases h.kind hf with hm|⟨cs',τ',hr',ht⟩
 ·exact hr.jJ hm rfl
 ·obtain ⟨h1,h2,h3,h4,h5,h6,h7,h8,h9⟩:=hτ
  rcases ht with rfl|rfl|rfl|rfl|rfl|rfl|rfl|rfl|rfl
  ·exact hr.ne hr' h1 rfl
  ·exact hr.ne hr' h2 rfl
  ·exact hr.ne hr' h3 rfl
  ·exact hr.ne hr' h4 rfl
  ·exact hr.ne hr' h5 rfl
  ·exact hr.ne hr' h6 rfl
  ·exact hr.ne hr' h7 rfl
  ·exact hr.ne hr' h8 rfl
  ·exact hr.ne hr' h9 rfl
def TO.n{w:World}{t st d:Nat}{r:Dm}{sl:Sl}{D:Dk}{ai limit:Int}{its:List It}(h:TO w t st d r sl D ai limit its):sl.n=its.length:=by have:=(h.ol.rd aG).n;rwa [aN] at this
def TO.at{w:World}{t st d:Nat}{r:Dm}{sl:Sl}{D:Dk}{ai limit:Int}{its:List It}(h:TO w t st d r sl D ai limit its){i:Nat}{y:It}(hi:its[i]? =some y):ez sl.a (i:Int) sl.n/\ld w (ae sl.a (((i:Nat):Int).toNat*1))=some (.pointer (aB y.x)):=by have iS:=(cK.1 hi).1;have jj:=h.ol.rd (show 0<1 by decide);refine ⟨RdK.iz jj aG ab (by rw [h.n];omega),?_⟩;have:=jj.rd i [.pointer (aB y.x)] (by rw [aV,hi];rfl) 0 _ rfl;exact this
def MI(room:Int):Dk:=⟨min (max room 0) 1048576,0,0,[],[]⟩
def YP(ai limit room:Int)(w:World):ah 96 #[ai,limit,room] w λe w'=>∃t st d r,e=Value.pointer (aB t)/\TO w' t st d r ⟨none,0,0⟩ (MI room) ai (min (max limit 1) 16) []/\Ext w w'/\∀i,aE t st d r ⟨none,0,0⟩ [] i->w.heap.size<=i:=by
 apply WT.vc;refine (YQ room w).mono ?_;rintro e w0 ⟨st,d,m,rfl,hs,x0,hf⟩;refine ⟨_,rfl,λw2 e2=> ?_⟩;have x2:=aT e2;have z0:=x0.size;have hl:(if 16<(if 1>limit then 1 else limit) then 16 else (if 1>limit then 1 else limit))=min (max limit 1) 16:=by split<;>split<;>omega
 rw [hl] at e2;refine ⟨_,st,d,m,rfl,⟨by rw [e2];exact Row.new w0 [_,_,_,_] _,hs.ext x2,aF.nil,by simp,by simp,by simp,by omega,by simp;omega⟩,x0.tr x2,λi hi=> ?_⟩;rcases hi with rfl|e|e|e|e|⟨y,hy,-⟩
 ·exact z0
 ·exact hf i (.inl e)
 ·exact hf i (.inr (.inl e))
 ·exact hf i (.inr (.inr e))
 ·cases e
 ·cases hy
def uD{α:Type}(s:Sl)(l:List α)(ad:α->Nat)(fv:Value)(q:α->Bool)(w:World)(hs:RdK w s 1 (l.map λi=> [.pointer (some ⟨ad i,0,none⟩)]))(hb:l.length<=1000)
  (hf:∀i ∈ l,∀w',Ext w w'->cL Tryz.prog fv [.pointer (some ⟨ad i,0,none⟩)] w' λe w''=>e=Value.bool (q i)/\Ext w' w''):
  ah 129 #[s,fv] w λe w'=>e=Value.int .i64 (cE q l)/\Ext w w':=by
 apply tF.vc;have hn:s.n=l.length:=by have:=hs.n;rwa [aN] at this
 refine ⟨λn i wr=>∃k:Nat,i=k/\k+n=l.length/\Ext w wr/\∀j,j<k->∀y,l[j]? =some y->q y=false,⟨l.length,0,rfl,by omega,Ext.cu _,λj hj=>by omega⟩,?_⟩;rintro n us i wr ⟨k,rfl,hk,xr,lq⟩;have VL:=nY (j:=k);apply Br.mk<;>intro hc
 ·replace hc:=nG hc;obtain ⟨y,hy⟩:=bB (l:=l) (i:=k) ab;have hsr:=RdK.ext hs xr;have jR:=hsr.rd k [.pointer (some ⟨ad y,0,none⟩)] (by rw [aV,hy];rfl) 0 _ rfl;refine ⟨RdK.iz hsr aG ab ab,_,jR,dG (hf y (aU hy) wr xr) ?_⟩;rintro e w7 ⟨rfl,x7⟩;refine ⟨_,rfl,Br.mk (λh=> ?_) (λh=> ?_)⟩
  ·exact ⟨by rw [oF hy h lq],xr.tr x7⟩
  ·refine ⟨n-1,by omega,k+1,VL,by omega,xr.tr x7,λj hj z hz=> ?_⟩;by_cases e:j=k
   ·subst e;rw [hy] at hz;cases hz;exact h
   ·exact lq j ab z hz
 ·replace hc:=nT hc;refine ⟨?_,xr⟩;rw [jc];intro y hy;obtain ⟨j,hj⟩:=sU hy;exact lq j (by have:=(cK.1 hj).1;omega) y hj
set_option maxRecDepth 100000 in
def find_spec{w:World}{t st d:Nat}{r:Dm}{sl:Sl}{D:Dk}{ai limit:Int}{its:List It}(h:TO w t st d r sl D ai limit its)(p:Po):
  ah 73 #[t,pv p] w λe w'=>e=Value.int .i64 (cE (λi=>i.p==p) its)/\Ext w w':=by
 apply Bw.vc;intro w0 e0;have x0:=aT e0;have hb:Row w0 w [p.1,p.2] ZQ:=Row.nw e0;have h0:=h.ext x0;have dD:=h.len;have ad4:=h.ZS;refine ⟨sl,h0.rt.at 3 rfl,(uD sl its (·.x) _ (λi=>i.p==p) w0 (h0.ol.rd aG) ab ?_).mono ?_⟩
 ·intro y hy w' x';refine c9 (by kernel_rfl) (by rfl) ?_;apply xE.vc;have hy':=((h0.it y hy).ext x').ext (Ext.dr w');have hb':=(hb.ext x').ext (Ext.dr w');refine ⟨_,by rw [bo,hy'.r.ld];rfl,CG (CG ⟨_,_,hy'.k.pos,_,_,hb'.cg (λj hj=>by rw [eD]),(xq y.p w'.drew).mono ?_⟩)⟩;rintro e w5 ⟨rfl,x5⟩;refine ⟨_,_,rfl,(hb'.ext x5).cg (λj hj=>by rw [eD]),?_,rfl,(Ext.dr w').tr x5⟩;rw [bo];exact (hy'.ext x5).r.cg (λj hj=>by simp at hj;subst hj;rfl)
 ·rintro e w2 ⟨rfl,x2⟩;exact ⟨_,rfl,rfl,x0.tr x2⟩
def SO.kind{w:World}{st d:Nat}{m:Dm}{D:Dk}(h:SO w st d m D){i:Nat}(hi:sF st d m i):cG GI w (some i) (m.E.map qt)\/∃cs τ,Row w i cs τ/\(τ=BF\/τ=uy\/τ=tW\/τ=iJ):=by
 rcases hi with e|hi
 ·exact .inr ⟨_,_,e▸h.rs,.inl rfl⟩
 ·rcases h.dk.kind hi with q|⟨cs,τ,q1,q2⟩
  ·exact .inl q
  ·exact .inr ⟨cs,τ,q1,.inr q2⟩
def SO.dc{w w':World}{st d:Nat}{m:Dm}{D:Dk}(h:SO w st d m D){F:Nat->Prop}(hm:Mod F w w')(hr:∀{j:Nat} {cs:LV} {τ:TypeId},Row w j cs τ->(τ=BF\/τ=uy\/τ=tW\/τ=iJ)->¬F j)(hmp:∀{j:Nat} {kvs:List (Value × Value)},cG GI w (some j) kvs->¬F j):SO w' st d m D:=
 h.same λi hi=>hm.same i (h.lt hi) (by
  rcases h.kind hi with q|⟨cs,τ,q1,q2⟩
  ·exact hmp q
  ·exact hr q1 q2)
abbrev slF(t:Nat)(sl:Sl):Nat->Prop:=λj=>j=t\/sl.bj=some j
def TO.off{w:World}{t st d:Nat}{r:Dm}{sl:Sl}{D:Dk}{ai limit:Int}{its:List It}(h:TO w t st d r sl D ai limit its){j:Nat}{cs:LV}{τ:TypeId}(hr:Row w j cs τ)(h1:τ≠BG)(h2:τ≠tPI):¬slF t sl j:=by
 rintro (e|e)
 ·exact hr.ne h.rt h1 e
 ·obtain ⟨cs',hr'⟩:=bh h.ol aG e;exact hr.ne hr' h2 rfl
def TO.item{w w':World}{t st d:Nat}{r:Dm}{sl:Sl}{D:Dk}{ai limit:Int}{its:List It}(h:TO w t st d r sl D ai limit its)(hm:Mod (slF t sl) w w'){y:It}(hy:vJ w y):vJ w' y:=
 hy.dc hm (h.off hy.r aG aG) (h.off hy.k.row aG aG) (λb hb=>by obtain ⟨cs',hr'⟩:=bh hy.k.own aG hb;exact h.off hr' aG aG)
def TO.abr{w w':World}{t st d:Nat}{r:Dm}{sl sl':Sl}{D:Dk}{ai limit:Int}{its its':List It}(h:TO w t st d r sl D ai limit its)(hm:Mod (slF t sl) w w')
  (rt:Row w' t [st,ai,limit,sl'] BG)(ol:aF 0 tPI 1 w' sl' (De its'))(Z2:∀y ∈ its',y ∈ its\/vJ w y)
  (dx:(its'.map (·.x)).Nodup)(dg:(its'.map (·.g)).Nodup)(len:(its'.length:Int)<=limit):TO w' t st d r sl' D ai limit its':=by
 refine ⟨rt,h.so.dc hm (λhr hτ=> ?_) (λhmp=> ?_),ol,λy hy=>h.item hm ?_,dx,dg,h.ZS,len⟩
 ·rcases hτ with rfl|rfl|rfl|rfl<;>exact h.off hr aG aG
 ·rintro (e|e)
  ·exact h.rt.jJ hmp e.symm
  ·obtain ⟨cs',hr'⟩:=bh h.ol aG e;exact hr'.jJ hmp rfl
 ·rcases Z2 y hy with h1|h1
  ·exact h.it y h1
  ·exact h1
def FV{w:World}{t st d:Nat}{r:Dm}{sl sl':Sl}{its its':List It}(hb:∀b,sl'.bj=some b->sl.bj=some b\/w.heap.size<=b)(hi:∀y ∈ its',y ∈ its\/(w.heap.size<=y.x/\w.heap.size<=y.g/\∀b,y.s.bj=some b->w.heap.size<=b)):
  ∀i,aE t st d r sl' its' i->aE t st d r sl its i\/w.heap.size<=i:=by
 rintro i (e|e|e|e|e|⟨y,hy,e⟩)
 ·exact .inl (.inl e)
 ·exact .inl (.inr (.inl e))
 ·exact .inl (.inr (.inr (.inl e)))
 ·exact .inl (.inr (.inr (.inr (.inl e))))
 ·rcases hb i e with h|h
  ·exact .inl (.inr (.inr (.inr (.inr (.inl h)))))
  ·exact .inr h
 ·rcases hi y hy with h|⟨h1,h2,h3⟩
  ·exact .inl (.inr (.inr (.inr (.inr (.inr ⟨y,h,e⟩)))))
  ·rcases e with e|e|e
   ·exact .inr ab
   ·exact .inr ab
   ·exact .inr (h3 i e)
def zO{t st d:Nat}{r:Dm}{sl:Sl}{its:List It}:∀i,slF t sl i->aE t st d r sl its i:=by
 rintro i (e|e)
 ·exact .inl e
 ·exact .inr (.inr (.inr (.inr (.inl e))))
def ahN(a:Addr):One [Value.pointer (some a)]:=by intro v hv;simp at hv;subst hv;rfl
def TO.push{w:World}{t st d:Nat}{r:Dm}{sl:Sl}{D:Dk}{ai limit:Int}{its:List It}(h:TO w t st d r sl D ai limit its)(y:It)(hy:vJ w y)(hx:y.x ∉ its.map (·.x))(hg:y.g ∉ its.map (·.g))(hl:(its.length:Int)+1<=limit):
  ba 8 1 w sl 1 [.pointer (aB y.x)]/\∀(s4:Sl)(w5:World),aX tPI 1 w sl 1 [.pointer (aB y.x)] s4 w5->
   Mod (λj=>sl.bj=some j) w w5/\Wr w5 (ae (aB t) 3) 1/\∀w6,w6=aK w5 (ae (aB t) 3) [.slice s4.a s4.n s4.c]->
    TO w6 t st d r s4 D ai limit (its++ [y])/\Mod (slF t sl) w w6/\∀b,s4.bj=some b->sl.bj=some b\/w.heap.size<=b:=by
 have hn:=h.n;have ad4:=h.ZS;obtain ⟨hp,hr⟩:=h.ol.append (bytes:=8) (news:=[.pointer (aB y.x)]) (iI _) rfl (ahN _) ab ab;refine ⟨hp,λs4 w5 bu=> ?_⟩;obtain ⟨ho,hn4,lL,hk,iQ⟩:=hr s4 w5 bu;have hm5:Mod (λj=>sl.bj=some j) w w5:=Mod.xg lL hk;have hnt:¬sl.bj=some t:=λe=>by obtain ⟨cs',hr'⟩:=bh h.ol aG e;exact hr'.ne h.rt aG rfl
 have rt5:=hm5.row h.rt hnt;obtain ⟨p1,p2⟩:=rt5.jm (j:=3) (v:=.slice s4.a s4.n s4.c) cj rfl;refine ⟨hm5,p1,λw6 e6=> ?_⟩;obtain ⟨q1,q2⟩:=p2 w6 e6;have hm6:Mod (slF t sl) w w6:=(hm5.mono λi _ hi=> .inr hi).trans (q2.mono λi _ hi=> .inl hi);have h4t:∀b,s4.bj=some b->b≠t:=λb hb=>by obtain ⟨cs',hr'⟩:=bh ho aG hb;exact hr'.ne rt5 aG
 refine ⟨h.abr hm6 q1 ?_ (λz hz=> ?_) ?_ ?_ (by simp;omega),hm6,λb hb=> ?_⟩
 ·have:=q2.iC ho h4t;show aF 0 tPI 1 w6 s4 ((its++ [y]).map _);rw [bX];exact this
 ·rcases c5.1 hz with hz|hz
  ·exact .inl hz
  ·simp at hz;subst hz;exact .inr hy
 ·rw [bX];refine td.2 ⟨h.dx,by simp,?_⟩;intro a ha b hb e;simp at hb;subst hb;subst e;exact hx ha
 ·rw [bX];refine td.2 ⟨h.dg,by simp,?_⟩;intro a ha b hb e;simp at hb;subst hb;subst e;exact hg ha
 ·rcases iQ with e|e
  ·exact .inl (by rw [<-e];exact hb)
  ·rw [e] at hb;cases hb;exact .inr (aD _)
def FW{w:World}{t st d:Nat}{r:Dm}{sl:Sl}{D:Dk}{ai limit:Int}{its:List It}(h:TO w t st d r sl D ai limit its){i:Nat}{y:It}(hi:its[i]? =some y):
  ah 80 #[t,.int .i64 (i:Nat)] w λe w'=>e=Value.pointer (aB y.x)/\∃sl',TO w' t st d r sl' D ai limit (its.eraseIdx i)/\Mod (slF t sl) w w'/\∀b,sl'.bj=some b->sl.bj=some b\/w.heap.size<=b:=by
 apply Dt.vc;have hn:=h.n;have ad4:=h.ZS;have dD:=h.len;have ED:=(cK.1 hi).1;obtain ⟨a1,a2⟩:=h.at hi;have hd:=h.ext (Ext.dr w);have hle:=aF.le h.ol;have w1:=nY (j:=i);refine ⟨sl,h.rt.at 3 rfl,a1,_,a2,sl,hd.rt.at 3 rfl,by omega,by omega,by omega,by omega,sl,hd.rt.at 3 rfl,?_⟩;rw [w1];have oq:=hd.ol.cut aG (m:=i) (by rw [aN];omega);have hrest:=RdK.rest (hd.ol.rd aG) (l:=i+1) (m:=sl.c) (n':=sl.n-(i+1)) (c':=sl.c-(i+1)) (by rw [aN];omega) (by rw [aN];omega);have hml:((De its).drop (i+1)).length=sl.n-(i+1):=by rw [zX,aN];omega
 have hwd:∀q ∈(De its).drop (i+1),q.length=1/\One q:=λq hq=>by obtain ⟨z,_,rfl⟩:=aY.1 (za hq);exact ⟨rfl,ahN _⟩
 obtain ⟨hp,bu⟩:=oq.HU (bytes:=8) (more:=(De its).drop (i+1)) (iI _) (λq hq=>(hwd q hq).1) (λq hq=>(hwd q hq).2) (by rw [hml];show (i+_)*8<=_;omega) (by rw [hml];show i+_<=_;omega);rw [hml] at hp bu;refine ⟨by omega,by omega,((De its).drop (i+1)).flatten,hrest.flat aG,hp,λs5 w6 hr=> ?_⟩;obtain ⟨ho,hn5,lL,hk,iQ⟩:=bu s5 w6 hr;have Q0:(Sl.mk (aJ sl.a 0 i 1) i i).bj=sl.bj:=by rw [eo];rfl
 rw [Q0] at hk iQ;have hm6:Mod (λj=>sl.bj=some j) w w6:=(Mod.aH (Ext.dr w)).trans (Mod.xg lL hk);have hnt:¬sl.bj=some t:=λe=>by obtain ⟨cs',hr'⟩:=bh h.ol aG e;exact hr'.ne h.rt aG rfl
 have rt6:=hm6.row h.rt hnt;obtain ⟨p1,p2⟩:=rt6.jm (j:=3) (v:=.slice s5.a s5.n s5.c) cj rfl;have jR:af w6 (ae (aB t) 3) 0 [sl]:=by show ld w6 (ae _ 0)=_;rw [fC];exact rt6.at 3 rfl
 refine ⟨jR,jR,⟨rfl,p1⟩,λw7 e7=>⟨rfl,s5,?_⟩⟩;obtain ⟨q1,q2⟩:=p2 w7 e7;have hm7:Mod (slF t sl) w w7:=(hm6.mono λi _ hi=> .inr hi).trans (q2.mono λi _ hi=> .inl hi);have h5t:∀b,s5.bj=some b->b≠t:=λb hb=>by obtain ⟨cs',hr'⟩:=bh ho aG hb;exact hr'.ne rt6 aG
 have eQ:List.Sublist (its.eraseIdx i) its:=wJ ..;refine ⟨h.abr hm7 q1 ?_ (λz hz=> .inl (eQ.subset hz)) (h.dx.sublist (eQ.map _)) (h.dg.sublist (eQ.map _)) ?_,hm7,λb hb=> ?_⟩
 ·have:=q2.iC ho h5t;show aF 0 tPI 1 w7 s5 ((its.eraseIdx i).map _);rw [Jk,bX,List.map_take,List.map_drop];exact this
 ·have:=eQ.length_le;omega
 ·rcases iQ with e|e
  ·exact .inl (by rw [<-e];exact hb)
  ·rw [e] at hb;cases hb;exact .inr (aD _)
def JC{α:Type}{f:α->Nat}{l:List α}{i:Nat}{y:α}(hd:(l.map f).Nodup)(hi:l[i]? =some y):f y ∉(l.eraseIdx i).map f:=by
 rw [Jk,bX];have e:l=l.take i++y::l.drop (i+1):=by have:=qP i l;rw [zM (cK.1 hi).1] at this;rw [<-(cK.1 hi).2];exact this.symm
 rw [e,bX,fT] at hd;obtain ⟨h1,h2,h3⟩:=td.1 hd;intro hm;rcases c5.1 hm with hm|hm
 ·exact h3 _ hm _ (.head _) rfl
 ·exact (oY.1 h2).1 hm
def FX{w:World}{t st d:Nat}{r:Dm}{sl:Sl}{D:Dk}{ai limit:Int}{its:List It}(h:TO w t st d r sl D ai limit its){i:Nat}{y:It}(hi:its[i]? =some y):
  ah 74 #[t,.int .i64 (i:Nat)] w λe w'=>e=Value.pointer (aB y.x)/\∃sl',TO w' t st d r sl' D ai limit (its.eraseIdx i++ [y])/\aO (aE t st d r sl its) (aE t st d r sl' (its.eraseIdx i++ [y])) w w':=by
 apply zG.vc;have ED:=(cK.1 hi).1;have hym:y ∈ its:=aU hi;have dD:=h.len;refine (FW h hi).mono ?_;rintro e w0 ⟨rfl,sl0,h0,m0,b0⟩;have hy0:=h.item m0 (h.it y hym);refine ⟨_,rfl,sl0,h0.rt.at 3 rfl,λw3 e3=> ?_⟩;have x3:=aT e3;have h3:=h0.ext x3;have eQ:List.Sublist (its.eraseIdx i) its:=wJ ..;have jP:(its.eraseIdx i).length=its.length-1:=by rw [List.length_eraseIdx,if_pos ED]
 obtain ⟨hp,hr⟩:=h3.push y (hy0.ext x3) (JC h.dx hi) (JC h.dg hi) ab;refine ⟨hp,λs4 w5 bu=> ?_⟩;obtain ⟨m5,p1,p2⟩:=hr s4 w5 bu;have ht0:=h0.rt.lt;have z3:=eN e3;refine ⟨m5.same _ ab λe=>by have:=(h0.ol.own.lt e).2;omega,⟨rfl,p1⟩,λe=> ?_,λw6 e6=>⟨rfl,s4,?_⟩⟩
 ·rw [de] at e;have:t=w0.heap.size:=by simpa [bt] using e
  omega
 ·obtain ⟨q1,q2,q3⟩:=p2 w6 e6;have z0:=m0.size;refine ⟨q1,⟨?_,?_⟩⟩
  ·have a1:Mod (aE t st d r sl its) w w3:=(m0.mono λi _ hi=>zO i hi).trans (Mod.aH x3);refine a1.tr q2 λj hj=> ?_
   rcases hj with e|e
   ·exact .inl (.inl e)
   ·rcases b0 j e with e|e
    ·exact .inl (.inr (.inr (.inr (.inr (.inl e)))))
    ·exact .inr e
  ·refine FV (w:=w) (λb hb=> ?_) (λz hz=> .inl ?_)
   ·rcases q3 b hb with e|e
    ·exact b0 b e
    ·exact .inr ab
   ·rcases c5.1 hz with hz|hz
    ·exact eQ.subset hz
    ·simp at hz;subst hz;exact hym
def TO.put{w w':World}{t st d:Nat}{r:Dm}{sl:Sl}{D:Dk}{ai limit:Int}{its:List It}(h:TO w t st d r sl D ai limit its){i:Nat}{y y':It}(hi:its[i]? =some y)(hx:y'.x=y.x)(hg:y'.g=y.g)(hm:Mod (λj=>j=y.x) w w')(hy:vJ w' y'):TO w' t st d r sl D ai limit (its.set i y'):=by
 have ED:=(cK.1 hi).1;have hr:=(h.it y (aU hi)).r;have off:∀{j:Nat} {cs:LV} {τ:TypeId},Row w j cs τ->τ≠cQ->¬j=y.x:=λhr' ht e=>hr'.ne hr ht e
 have hpx:De (its.set i y')=De its:=by
  unfold De;rw [jV,hx];apply jB;intro j;rw [jW];split
  ·rename_i e;subst e;rw [if_pos (by rw [aN];exact ED),aV,hi];rfl
  ·rfl
 have hmx:(its.set i y').map (·.x)=its.map (·.x):=by
  rw [jV,hx];apply jB;intro j;rw [jW];split
  ·rename_i e;subst e;rw [if_pos (by rw [aN];exact ED),aV,hi];rfl
  ·rfl
 have hmg:(its.set i y').map (·.g)=its.map (·.g):=by
  rw [jV,hg];apply jB;intro j;rw [jW];split
  ·rename_i e;subst e;rw [if_pos (by rw [aN];exact ED),aV,hi];rfl
  ·rfl
 refine ⟨hm.row h.rt (off h.rt aG),h.so.dc hm (λhr' hτ=>by rcases hτ with rfl|rfl|rfl|rfl<;>exact off hr' aG) (λhmp e=>hr.jJ hmp e.symm),?_,λz hz=> ?_,by rw [hmx];exact h.dx,by rw [hmg];exact h.dg,h.ZS,by rw [jU];exact h.len⟩
 ·rw [hpx];exact hm.iC h.ol λb hb=>by obtain ⟨cs',hr'⟩:=bh h.ol aG hb;exact off hr' aG
 ·obtain ⟨j,hj⟩:=sU hz;rw [jW] at hj;split at hj
  ·cases hj;exact hy
  ·rename_i gy;have hzj:=h.it z (aU hj);refine hzj.dc hm (λe=> ?_) (off hzj.k.row aG) (λb hb=> ?_)
   ·
    have h1:(its.map (·.x))[i]? =some y.x:=by rw [aV,hi];rfl
    have h2:(its.map (·.x))[j]? =some z.x:=by rw [aV,hj];rfl
    have hjl:=(cK.1 hj).1;rw [e,<-h1] at h2;exact gy ((List.getElem?_inj (by rw [aN];exact hjl) h.dx).1 h2).symm
   ·obtain ⟨cs',hr'⟩:=bh hzj.k.own aG hb;exact off hr' aG
def aaE{t st d:Nat}{r:Dm}{sl:Sl}{its:List It}{i:Nat}{y y':It}(hi:its[i]? =some y)(hx:y'.x=y.x)(hg:y'.g=y.g)(hs:y'.s=y.s):∀j,aE t st d r sl (its.set i y') j->aE t st d r sl its j:=by
 rintro j (e|e|e|e|e|⟨z,hz,e⟩)
 ·exact .inl e
 ·exact .inr (.inl e)
 ·exact .inr (.inr (.inl e))
 ·exact .inr (.inr (.inr (.inl e)))
 ·exact .inr (.inr (.inr (.inr (.inl e))))
 ·rcases jZ hz with hz|hz
  ·exact .inr (.inr (.inr (.inr (.inr ⟨z,hz,e⟩))))
  ·subst hz;rw [hx,hg,hs] at e;exact .inr (.inr (.inr (.inr (.inr ⟨y,aU hi,e⟩))))
abbrev En:=Po × List Int × Bool × Int
def It.ob(i:It):En:=(i.p,i.C,i.pg,i.pins)
abbrev gu(its:List It):List En:=its.map It.ob
def vp(its:List It)(i:Nat):gu (its.eraseIdx i)=(gu its).eraseIdx i:=by unfold gu;rw [Jk,Jk,bX,List.map_take,List.map_drop]
def MV(its:List It)(p:Po):cE (λe:En=>e.1==p) (gu its)=cE (λi:It=>i.p==p) its:=lY It.ob _ its
abbrev Tb:=Dk × List En
def cm(D:Dk)(e:En):Dk × En × Int:=
 if e.2.2.1=true then ((nH D (pd e.1) (lM (gz e.2.1))).1,(e.1,e.2.1,decide ((nH D (pd e.1) (lM (gz e.2.1))).2≠0),e.2.2.2),(nH D (pd e.1) (lM (gz e.2.1))).2) else (D,e,0)
def MW(D:Dk)(l:List En)(i:Nat):Tb × Int:=
 match l[i]? with
 |none=>((D,l),0)
 |some e=>if (cm D e).2.2=0 then (((cm D e).1,l.eraseIdx i),0) else (((cm D e).1,l.set i (cm D e).2.1),(cm D e).2.2)
def eX(limit:Int)(D:Dk)(l:List En):Tb × Int:=
 if (l.length:Int)<limit then ((D,l),0) else if cE (λe:En=>e.2.2.2==0) l<0 then ((D,l),8) else MW D l (cE (λe:En=>e.2.2.2==0) l).toNat
def TO.aaF{w:World}{t st d:Nat}{r:Dm}{sl:Sl}{D:Dk}{ai limit:Int}{its:List It}(h:TO w t st d r sl D ai limit its){j:Nat}{cs:LV}{τ:TypeId}(hr:Row w j cs τ)(h1:τ≠uy)(h2:τ≠tW):¬(j=d\/r.ls.bj=some j):=by
 rintro (e|e)
 ·exact hr.ne h.so.dk.rd h1 e
 ·obtain ⟨cs',hr'⟩:=bh h.so.dk.ol aG e;exact hr.ne hr' h2 rfl
def TO.store{w w':World}{t st d:Nat}{r r':Dm}{sl:Sl}{D D':Dk}{ai limit:Int}{its:List It}(h:TO w t st d r sl D ai limit its)(hm:Mod (λi=>i=d\/r.ls.bj=some i) w w')(hs:SO w' st d r' D'):TO w' t st d r' sl D' ai limit its:=by
 refine ⟨hm.row h.rt (h.aaF h.rt aG aG),hs,hm.iC h.ol λb hb=> ?_,λy hy=> ?_,h.dx,h.dg,h.ZS,h.len⟩
 ·obtain ⟨cs',hr'⟩:=bh h.ol aG hb;exact h.aaF hr' aG aG
 ·have hy':=h.it y hy;refine hy'.dc hm (h.aaF hy'.r aG aG) (h.aaF hy'.k.row aG aG) λb hb=> ?_
  obtain ⟨cs',hr'⟩:=bh hy'.k.own aG hb;exact h.aaF hr' aG aG
def Fp{n:Nat}{t st d:Nat}{r r':Dm}{sl:Sl}{its:List It}(hs:∀i,dF d r' i->dF d r i\/n<=i):∀i,aE t st d r' sl its i->aE t st d r sl its i\/n<=i:=by
 rintro i (e|e|e|e|e|e)
 ·exact .inl (.inl e)
 ·exact .inl (.inr (.inl e))
 ·exact .inl (.inr (.inr (.inl e)))
 ·rcases hs i (.inr e) with q|q
  ·rcases q with q|q
   ·exact .inl (.inr (.inr (.inl q)))
   ·exact .inl (.inr (.inr (.inr (.inl q))))
  ·exact .inr q
 ·exact .inl (.inr (.inr (.inr (.inr (.inl e)))))
 ·exact .inl (.inr (.inr (.inr (.inr (.inr e)))))
def UD{t st d:Nat}{r:Dm}{sl:Sl}{its:List It}:∀i,(i=d\/r.ls.bj=some i)->aE t st d r sl its i:=by
 rintro i (e|e)
 ·exact .inr (.inr (.inl e))
 ·exact .inr (.inr (.inr (.inl (.inr (.inl e)))))
def afj{C:List Int}:oa (lM (gz C)):=aje _
def ajf{C:List Int}(hl:C.length=8192):(lM (gz C)).length<=65536:=by have h1:=UE (gz C);have h2:=sb C;omega
set_option maxRecDepth 100000 in
def Bj{w:World}{t st d:Nat}{r:Dm}{sl:Sl}{D:Dk}{ai limit:Int}{its:List It}(h:TO w t st d r sl D ai limit its)(hW:D.l.length<=1000000){i:Nat}{y:It}(hi:its[i]? =some y):
  ah 79 #[t,.pointer (some ⟨y.x,0,none⟩)] w λe w'=>e=Value.int .i64 (cm D y.ob).2.2/\∃r' y',TO w' t st d r' sl (cm D y.ob).1 ai limit (its.set i y')/\y'.ob=(cm D y.ob).2.1/\aO (aE t st d r sl its) (aE t st d r' sl (its.set i y')) w w':=by
 apply Bk.vc;have hym:=aU hi;have hy:=h.it y hym;have ou:its.set i y=its:=by obtain ⟨hl,he⟩:=cK.1 hi;rw [<-he];exact List.set_getElem_self hl
 refine ⟨_,hy.r.at 1 rfl,Br.mk (λhb=> ?_) (λhb=> ?_)⟩
 ·have hd:y.pg=false:=by simpa using hb
  have e:cm D y.ob=(D,y.ob,0):=by unfold cm;rw [if_neg (by show ¬y.pg=true;rw [hd];decide)]
  rw [e];exact ⟨rfl,r,y,by rw [ou];exact h,rfl,by rw [ou];exact aO.refl _ _⟩
 ·have hd:y.pg=true:=by simpa using hb
  have e:cm D y.ob=((nH D (pd y.p) (lM (gz y.C))).1,(y.p,y.C,decide ((nH D (pd y.p) (lM (gz y.C))).2≠0),y.pins),(nH D (pd y.p) (lM (gz y.C))).2):=by unfold cm;rw [if_pos (by show y.pg=true;exact hd)];rfl
  rw [e];refine ⟨_,hy.r.at 0 rfl,CG (CG ⟨_,_,hy.k.pos,(xq y.p w).mono ?_⟩)⟩;rintro e w4 ⟨rfl,x4⟩;refine ⟨_,_,rfl,(UF y.p w4).mono ?_⟩;rintro e w7 ⟨rfl,x7⟩;have x07:=(x4.tr x7).tr (Ext.dr w7);have h7:=h.ext x07;have hy7:=h7.it y hym;refine ⟨_,_,rfl,_,h7.rt.at 0 rfl,_,hy7.r.at 0 rfl,(RK hy7.k).mono ?_⟩;rintro e cU ⟨yE,rfl,o13,bS⟩;have Hn:=x07.tr bS;have v8:=h.ext Hn;have hk:=hy.k;refine ⟨yE,rfl,Fq (v8.rt.at 0 rfl),(CH v8.so hW (pd y.p) yE (lM (gz y.C)) (nA.HV o13) afj (gD (ajf hk.len) aG)).mono ?_⟩;rintro e bJ ⟨rfl,r',akr,m14,f14,-⟩;have h14:=v8.store m14 akr;have AM:=h14.it y hym;obtain ⟨p1,p2⟩:=AM.r.jm (j:=1) (v:=.bool ((nH D (pd y.p) (lM (gz y.C))).2 !=0)) cj rfl;refine ⟨_,rfl,⟨rfl,p1⟩,λcP HM=> ?_⟩;obtain ⟨q1,q2⟩:=p2 cP HM;have yt:((nH D (pd y.p) (lM (gz y.C))).2 !=0)=decide ((nH D (pd y.p) (lM (gz y.C))).2≠0):=by rw [Bool.eq_iff_iff];simp
  rw [yt] at q1;have hy':vJ cP {y with pg:=decide ((nH D (pd y.p) (lM (gz y.C))).2≠0)}:=⟨q1,AM.k.dc q2 (λe=>AM.k.row.ne AM.r aG e) λb hb=>by obtain ⟨cs',hr'⟩:=bh AM.k.own aG hb;exact hr'.ne AM.r aG⟩;have z12:=Hn.size;have Y9:=m14.size;refine ⟨rfl,r',{y with pg:=decide ((nH D (pd y.p) (lM (gz y.C))).2≠0)},h14.put hi rfl rfl q2 hy',rfl,?_⟩;have t1:aO (aE t st d r sl its) (aE t st d r' sl its) cU bJ:=⟨m14.mono λi _ hi=>UD i hi,Fp f14⟩;have t2:aO (aE t st d r' sl its) (aE t st d r' sl (its.set i {y with pg:=decide ((nH D (pd y.p) (lM (gz y.C))).2≠0)})) bJ cP:=⟨q2.mono λj _ hj=> .inr (.inr (.inr (.inr (.inr ⟨y,hym,.inl hj⟩)))),λj hj=> .inl (aaE (y':={y with pg:=decide ((nH D (pd y.p) (lM (gz y.C))).2≠0)}) hi rfl rfl rfl j hj)⟩;exact (aO.aH Hn).trans (t1.trans t2)
abbrev zN(w:World)(t st d:Nat)(r:Dm)(sl:Sl)(ai limit:Int)(its:List It)(T:Tb)(w':World):Prop:=
 ∃r' sl' its',TO w' t st d r' sl' T.1 ai limit its'/\gu its'=T.2/\aO (aE t st d r sl its) (aE t st d r' sl' its') w w'
def Sg{its:List It}{i:Nat}{y:It}(h:its[i]? =some y):(gu its)[i]? =some y.ob:=by rw [aV,h];rfl
def Lc{its:List It}{i:Nat}{y':It}{e:En}(h:y'.ob=e):gu (its.set i y')=(gu its).set i e:=by unfold gu;rw [jV,h]
def aa7{D:Dk}{l:List En}{i:Nat}{e:En}(h:l[i]? =some e):MW D l i=if (cm D e).2.2=0 then (((cm D e).1,l.eraseIdx i),0) else (((cm D e).1,l.set i (cm D e).2.1),(cm D e).2.2):=by unfold MW;rw [h]
def N6{w w':World}{t st d:Nat}{r:Dm}{sl sl':Sl}{its its':List It}(hm:Mod (slF t sl) w w')(hb:∀b,sl'.bj=some b->sl.bj=some b\/w.heap.size<=b)(hs:∀y ∈ its',y ∈ its):aO (aE t st d r sl its) (aE t st d r sl' its') w w':=
 ⟨hm.mono λi _ hi=>zO i hi,FV hb λy hy=> .inl (hs y hy)⟩
set_option maxRecDepth 100000 in
def WX{w:World}{t st d:Nat}{r:Dm}{sl:Sl}{D:Dk}{ai limit:Int}{its:List It}(h:TO w t st d r sl D ai limit its)(hW:D.l.length<=1000000):
  ah 75 #[t] w λe w'=>e=Value.int .i64 (eX limit D (gu its)).2/\zN w t st d r sl ai limit its (eX limit D (gu its)).1 w'/\((eX limit D (gu its)).2=0->((eX limit D (gu its)).1.2.length:Int)+1<=limit):=by
 apply By.vc;have hd:=h.ext (Ext.dr w);have hn:=h.n;have hol:(gu its).length=its.length:=by rw [aN]
 have dD:=h.len;have ad4:=h.ZS;refine ⟨sl,hd.rt.at 3 rfl,limit,hd.rt.at 2 rfl,Br.mk (λhb=> ?_) (λhb=> ?_)⟩
 ·replace hb:=nG hb;have e:eX limit D (gu its)=((D,gu its),0):=by unfold eX;rw [if_pos ab]
  rw [e];exact ⟨rfl,⟨r,sl,its,hd,rfl,aO.aH (Ext.dr w)⟩,λ_=>by simp only;omega⟩
 ·replace hb:=nT hb;refine ⟨sl,hd.rt.at 3 rfl,(uD sl its (·.x) _ (λi=>i.pins==0) w.drew (hd.ol.rd aG) ab ?_).mono ?_⟩
  ·intro y hy w' x';refine c9 (by kernel_rfl) (by rfl) ?_;apply xF.vc;have hy':=(hd.it y hy).ext x';exact ⟨_,hy'.r.at 2 rfl,rfl,Ext.cu _⟩
  ·rintro e w3 ⟨rfl,x3⟩;have h3:=hd.ext x3;have ZD:cE (λe:En=>e.2.2.2==0) (gu its)=cE (λi:It=>i.pins==0) its:=lY It.ob _ its;have B5:Ext w w3:=(Ext.dr w).tr x3;refine ⟨_,rfl,Br.mk (λj8=> ?_) (λj8=> ?_)⟩
   ·replace j8:=nG j8;have e:eX limit D (gu its)=((D,gu its),8):=by unfold eX;rw [if_neg ab,if_pos ab]
    rw [e];exact ⟨rfl,⟨r,sl,its,h3,rfl,aO.aH B5⟩,λh=>by simp at h⟩
   ·replace j8:=nT j8;rcases eK (λi:It=>i.pins==0) its with ⟨h1,-⟩|⟨k,y,hk,-,hfk,-⟩
    ·omega
    ·have e:eX limit D (gu its)=MW D (gu its) k:=by unfold eX;rw [if_neg ab,if_neg ab,ZD,hfk];rfl
     rw [hfk,e,aa7 (Sg hk)];obtain ⟨a1,a2⟩:=h3.at hk;have QM:=(cK.1 hk).1;refine ⟨sl,h3.rt.at 3 rfl,a1,_,a2,(Bj h3 hW hk).mono ?_⟩;rintro e w7 ⟨rfl,r',y',h7,ZZ,t7⟩;refine ⟨_,rfl,Br.mk (λhz=> ?_) (λhz=> ?_)⟩
     ·have hz:=dn hz;have hk':(its.set k y')[k]? =some y':=oS QM;refine (FW h7 hk').mono ?_;rintro e w9 ⟨rfl,sl',h9,m9,b9⟩;rw [List.eraseIdx_set_eq] at h9;refine ⟨_,rfl,?_⟩;rw [if_pos hz];refine ⟨by rw [hz],⟨r',sl',_,h9,vp _ _,(aO.aH B5).trans (t7.trans (N6 m9 b9 λz hz=> ?_))⟩,λ_=> ?_⟩
      ·rw [<-List.eraseIdx_set_eq (l:=its) (i:=k) (a:=y')] at hz;exact (wJ ..).subset hz
      ·simp only [List.length_eraseIdx];split<;>omega
     ·have hz:=dn hz;rw [if_neg hz];exact ⟨rfl,⟨r',sl,_,h7,Lc ZZ,(aO.aH B5).trans t7⟩,λq=>absurd q hz⟩
def Ld(D:Dk)(e:En):(cm D e).1.l.length<=D.l.length+1:=by
 unfold cm;split
 ·exact aav _ _ _
 ·exact oZ _
def ahJ(D:Dk)(l:List En)(i:Nat):(MW D l i).1.1.l.length<=D.l.length+1:=by
 unfold MW;split
 ·exact oZ _
 ·split<;>exact Ld _ _
def Lf(limit:Int)(D:Dk)(l:List En):(eX limit D l).1.1.l.length<=D.l.length+1:=by
 unfold eX;split
 ·exact oZ _
 ·split
  ·exact oZ _
  ·exact ahJ _ _ _
def afx{p:Po}(h:oE p):V9 p:=by unfold oE at h;unfold V9;omega
def ku(ai:Int)(p:Po)(b:List Int):List Int:=if (jC cO b 8192).2=0 then cH (jC cO b 8192).1 else made ai p
def HI(ai limit:Int)(D:Dk)(l:List En)(p:Po):Tb × Int:=
 if ¬oE p then ((D,l),5)
 else if 0<=cE (λe:En=>e.1==p) l then ((D,l.eraseIdx (cE (λe:En=>e.1==p) l).toNat++l[(cE (λe:En=>e.1==p) l).toNat]?.toList),0)
 else if (eX limit D l).2≠0 then eX limit D l
 else (((eX limit D l).1.1,(eX limit D l).1.2++ [(p,ku ai p (tU (eX limit D l).1.1 (pd p)).1,false,0)]),0)
set_option maxRecDepth 100000 in
def gN{w v:World}{t st d:Nat}{r:Dm}{sl:Sl}{D:Dk}{ai limit:Int}{its:List It}(h:TO v t st d r sl D ai limit its)(hw:w.heap.size<v.heap.size)(hwf:¬aE t st d r sl its w)(htw:t<w)(hr:(its.length:Int)+1<=limit){g:Nat}{s:Sl}{p:Po}{C:List Int}(hk:H7 v g s p C)(hg:g ∉ its.map (·.g))(u:World)(hn:u.heap.size<=v.heap.size)(hgn:u.heap.size<=g)(tL:∀b,s.bj=some b->u.heap.size<=b)
  {K:World->Prop}(hK:∀w',(∃s' y,TO w' t st d r s' D ai limit (its++ [y])/\y.ob=(p,C,false,0)/\(∀i,aE t st d r s' (its++ [y]) i->aE t st d r sl its i\/u.heap.size<=i)/\Mod (aE t st d r sl its) v w')->K w'):
  ∃(Ue:Sl),ld v (ae (aB t) 3)=some (.slice Ue.a Ue.n Ue.c)/\
   ∀ey:World,ey=v.alloc (.cells #[g,false,aa] cQ)->
   ∀eR:World,eR=ey.alloc (.cells #[v] tPI)->
   ba 8 1 eR ⟨Ue.a,Ue.n,Ue.c⟩ 1 [v]/\∀(tR:Sl)(cV:World),aX tPI 1 eR ⟨Ue.a,Ue.n,Ue.c⟩ 1 [v] tR cV->cV.heap[w.heap.size]? =eR.heap[w.heap.size]?/\cV.heap[ey.heap.size]? =eR.heap[ey.heap.size]?/\
    (true=true/\Wr cV (ae (aB t) 3) 1)/\bt (ae (aB t) 3)≠some w.heap.size/\bt (ae (aB t) 3)≠some ey.heap.size/\(∀fb:World,fb=aK cV (ae (aB t) 3) [.slice tR.a tR.n tR.c]->K fb):=by
 refine ⟨sl,h.rt.at 3 rfl,λey HC eR VK=> ?_⟩;have dJ:=aT HC;have dA:=aT VK;have z22:=eN HC;have z23:eR.heap.size=v.heap.size+2:=by rw [VK];simp [z22]
 have hy:vJ eR ⟨v.heap.size,g,s,p,C,false,0⟩:=⟨(by rw [HC];exact Row.new v [_,_,_] _:Row ey v.heap.size [g,false,aa] cQ).ext dA,(hk.ext dJ).ext dA⟩;have h23:=(h.ext dJ).ext dA;have hxn:v.heap.size ∉ its.map (·.x):=λhm=>by obtain ⟨z,hz,e⟩:=aY.1 hm;have:=(h.it z hz).r.lt;omega
 obtain ⟨hp,bu⟩:=h23.push _ hy hxn hg hr;refine ⟨hp,λtR cV ag9=> ?_⟩;obtain ⟨m25,p1,p2⟩:=bu tR cV ag9;have pb:∀j:Nat,t<j->bt (ae (aB t) 3)≠some j:=λj hj e=>by
  rw [de] at e;have:t=j:=by simpa [bt] using e
  omega
 have htl:=h.rt.lt;refine ⟨m25.same _ ab λe=>hwf (.inr (.inr (.inr (.inr (.inl e))))),m25.same _ ab λe=>by have:=(h.ol.own.lt e).2;omega,⟨rfl,p1⟩,pb _ htw,pb _ ab,λfb yI=>hK fb ⟨tR,⟨v.heap.size,g,s,p,C,false,0⟩,?_,rfl,?_,?_⟩⟩
 ·exact (p2 fb yI).1
 ·obtain ⟨-,q2,q3⟩:=p2 fb yI;rintro i hi;exact FV (w:=u) (sl:=sl) (its:=its) (λb hb=>(q3 b hb).imp id λe=>by omega) (λz hz=>by
   rcases c5.1 hz with hz|hz
   ·exact .inl hz
   ·simp at hz;subst hz;exact .inr ⟨hn,hgn,tL⟩) i hi
 ·obtain ⟨-,q2,q3⟩:=p2 fb yI;exact (Mod.aH (dJ.tr dA)).trans (q2.mono λi _ hi=>zO i hi)
set_option maxRecDepth 100000 in
def WY{w:World}{t st d:Nat}{r:Dm}{sl:Sl}{D:Dk}{ai limit:Int}{its:List It}(h:TO w t st d r sl D ai limit its)(hW:D.l.length<=1000000)(p:Po):
  ah 20 #[t,pv p] w λe w'=>e=Value.int .i64 (HI ai limit D (gu its) p).2/\zN w t st d r sl ai limit its (HI ai limit D (gu its) p).1 w':=by
 apply Bv.vc;intro w0 e0;have z0:=eN e0;have x0:=aT e0;refine (UF p w0).mono ?_;rintro e w1 ⟨rfl,x1⟩;have z1:=x1.size;have kG:=x0.tr x1;refine ⟨_,_,rfl,x1.heap ab,?_⟩;by_cases lr:oE p
 ·rw [decide_eq_true lr];refine Br.mk (λh=>by cases h) (λ_=> ?_);have h1:=h.ext kG;refine (find_spec h1 p).mono ?_;rintro e w4 ⟨rfl,x4⟩;have z4:=x4.size;have AW:=kG.tr x4;have h4:=h.ext AW;have ZD:cE (λe:En=>e.1==p) (gu its)=cE (λi:It=>i.p==p) its:=lY It.ob _ its;have bx:¬aE t st d r sl its w:=λhf=>by have:=h.lt hf;omega
  refine ⟨_,rfl,x4.heap ab,?_⟩;rcases eK (λi:It=>i.p==p) its with ⟨hf,-⟩|⟨k,y,hk,-,hf,-⟩
  ·rw [hf];refine Br.mk (λh=>by simp at h) (λ_=> ?_);have hE:HI ai limit D (gu its) p=if (eX limit D (gu its)).2≠0 then eX limit D (gu its) else (((eX limit D (gu its)).1.1,(eX limit D (gu its)).1.2++ [(p,ku ai p (tU (eX limit D (gu its)).1.1 (pd p)).1,false,0)]),0):=by unfold HI;rw [if_neg (by simpa using lr),ZD,hf,if_neg aG]
   rw [hE];refine (WX h4 hW).mono ?_;rintro e w8 ⟨rfl,⟨r8,sl8,its8,h8,yM,t8⟩,hl8⟩;have hWl:((eX limit D (gu its)).1.1).l.length<=1000001:=by have:=Lf limit D (gu its);omega
   generalize eX limit D (gu its)=R at*;have z8:=t8.mod.size;have t08:aO (aE t st d r sl its) (aE t st d r8 sl8 its8) w w8:=(aO.aH AW).trans t8;refine ⟨_,rfl,t8.mod.same _ ab bx,Br.mk (λhb=> ?_) (λhb=> ?_)⟩
   ·have gy:=dn hb;rw [if_pos gy];exact ⟨rfl,r8,sl8,its8,h8,yM,t08⟩
   ·have he:=dn hb;rw [if_neg (by rw [he];decide)];have hroom:=hl8 he;rw [<-yM,aN] at hroom;refine ⟨_,h8.rt.at 0 rfl,(N7 h8.so ab _).mono ?_⟩;rintro e bc ⟨kh,rfl,alh,hby,lL,hsc,-,bA⟩;have z11:=bA.size;have bx8:¬aE t st d r8 sl8 its8 w:=λhf=>by
     rcases t8.sub _ hf with q|q
     ·exact bx q
     ·have:=AW.size;omega
    refine ⟨kh,_,_,rfl,bA.heap ab,?_⟩;refine (WZ p kh (tU R.1.1 (pd p)).1 bc alh hby hsc ab).mono ?_;rintro e eu ⟨bu,cD⟩;have z15:=cD.size;have htw:=h.rt.lt;have fin:∀{w' v:World} {C:List Int},Ext w8 v->(∃s' y,TO w' t st d r8 s' R.1.1 ai limit (its8++ [y])/\y.ob=(p,C,false,0)/\(∀i,aE t st d r8 s' (its8++ [y]) i->aE t st d r8 sl8 its8 i\/w8.heap.size<=i)/\Mod (aE t st d r8 sl8 its8) v w')->C=ku ai p (tU R.1.1 (pd p)).1->
      Ending.returned (0:Int)=(0:Int)/\zN w t st d r sl ai limit its (R.1.1,R.1.2++ [(p,ku ai p (tU R.1.1 (pd p)).1,false,0)]) w':=by
     rintro w' v C xv ⟨s',y,hT,ZZ,eQ,hm⟩ rfl;refine ⟨rfl,r8,s',_,hT,?_,t08.trans ⟨(Mod.aH xv).trans hm,eQ⟩⟩;unfold gu;rw [bX];change gu its8++ [y.ob]=_;rw [yM,ZZ]
    rcases bu with ⟨hz,g,sg,rfl,hk,hg,-,hgb⟩|⟨hz,rfl⟩
    ·refine ⟨_,_,rfl,cD.heap ab,Br.mk (λq=>by simp at q) (λ_=> ?_)⟩;have ad5:=bA.tr cD;have h15:=h8.ext ad5;have hgn:g ∉ its8.map (·.g):=λhm=>by obtain ⟨z,hz,e⟩:=aY.1 hm;have:=(h8.it z hz).k.row.lt;omega
     refine gN (w:=w) h15 ab bx8 htw hroom hk hgn w8 ab ab (λb hb=>by have:=hgb b hb;omega) λw' hw'=>fin ad5 hw' ?_
     unfold ku;rw [if_pos hz]
    ·refine ⟨_,_,rfl,cD.heap ab,Br.mk (λ_=> ?_) (λq=>by simp at q;exact absurd q hz)⟩;have ad5:=bA.tr cD.drew;have h15:=h8.ext ad5;refine ⟨ai,h15.rt.at 1 rfl,(Sh ai p (afx lr) eu.drew).mono ?_⟩;rintro e gn ⟨g,sg,rfl,hk,cr,hg,Q0⟩;have z19:=cr.size;have zd:=mN eu;have h19:=h15.ext cr;have hgn:g ∉ its8.map (·.g):=λhm=>by obtain ⟨z,hz,e⟩:=aY.1 hm;have:=(h15.it z hz).k.row.lt;omega
     refine ⟨_,rfl,cr.heap ab,gN (w:=w) h19 ab bx8 htw hroom hk hgn w8 ab ab (λb hb=>by have:=Q0 b hb;omega) λw' hw'=>fin (ad5.tr cr) hw' ?_⟩;unfold ku;rw [if_neg hz]
  ·rw [hf];refine Br.mk (λ_=> ?_) (λh=>by simp at h);have hE:HI ai limit D (gu its) p=((D,(gu its).eraseIdx k++ [y.ob]),0):=by unfold HI;rw [if_neg (by simpa using lr),ZD,hf,if_pos ab,eC,aV,hk];rfl
   rw [hE];refine (FX h4 hk).mono ?_;rintro e w6 ⟨rfl,sl6,h6,t6⟩;have z6:=t6.mod.size;refine ⟨_,rfl,t6.mod.same _ ab bx,rfl,r,sl6,_,h6,?_,(aO.aH AW).trans t6⟩;unfold gu;rw [bX];change gu _++_=_;rw [vp];rfl
 ·rw [decide_eq_false lr];refine Br.mk (λ_=> ?_) (λh=>by cases h);have hE:HI ai limit D (gu its) p=((D,gu its),5):=by unfold HI;rw [if_pos lr]
  rw [hE];exact ⟨rfl,r,sl,its,h.ext kG,rfl,aO.aH kG⟩
def yes{b:Bool}{A B:Prop}(hb:b=true)(h:A):Br b A B:=by subst hb;exact h
def fB{b:Bool}{A B:Prop}(hb:b=false)(h:B):Br b A B:=by subst hb;exact h
def m4(D:Dk)(l:List En)(p:Po):Tb × Int:=
 if 0<=cE (λe:En=>e.1==p) l then
  (if 0<(l[(cE (λe:En=>e.1==p) l).toNat]?.map (·.2.2.2)).getD 0 then ((D,l),10) else MW D l (cE (λe:En=>e.1==p) l).toNat) else ((D,l),6)
def Ol{w:World}{t st d:Nat}{r:Dm}{sl:Sl}{D:Dk}{ai limit:Int}{its:List It}(h:TO w t st d r sl D ai limit its)(hW:D.l.length<=1000000)(p:Po):
  ah 21 #[t,pv p] w λe w'=>e=Value.int .i64 (m4 D (gu its) p).2/\zN w t st d r sl ai limit its (m4 D (gu its) p).1 w':=by
 apply xH.vc;intro w0 e0;have z0:=eN e0;have x0:=aT e0;have h0:=h.ext x0;refine (find_spec h0 p).mono ?_;rintro e w1 ⟨rfl,x1⟩;have z1:=x1.size;have kG:=x0.tr x1;have h1:=h.ext kG;have bx:¬aE t st d r sl its w:=λhf=>by have:=h.lt hf;omega
 refine ⟨_,rfl,x1.heap ab,?_⟩;rcases eK (λi:It=>i.p==p) its with ⟨hf,-⟩|⟨k,y,hk,hyp,hf,-⟩
 ·have hE:m4 D (gu its) p=((D,gu its),6):=by unfold m4;rw [MV,hf,if_neg aG]
  rw [hf,hE];exact Br.mk (λ_=>⟨rfl,r,sl,its,h1,rfl,aO.aH kG⟩) (λh=>by simp at h)
 ·have ZZ:(gu its)[k]?.map (·.2.2.2)=some y.pins:=by rw [aV,hk];rfl
  have hE:m4 D (gu its) p=if 0<y.pins then ((D,gu its),10) else MW D (gu its) k:=by unfold m4;rw [MV,hf,if_pos ab,eC,ZZ];rfl
  rw [hf,hE];refine Br.mk (λh=>by simp at h;omega) (λ_=> ?_);have hym:=aU hk;have hy:=h1.it y hym;have QM:=(cK.1 hk).1;obtain ⟨a1,a2⟩:=h1.at hk;refine ⟨sl,h1.rt.at 3 rfl,a1,_,a2,CG (CG ⟨y.pins,hy.r.at 2 rfl,Br.mk (λhb=> ?_) (λhb=> ?_)⟩)⟩
  ·have hz:=dn hb;rw [if_pos hz];exact ⟨rfl,r,sl,its,h1,rfl,aO.aH kG⟩
  ·have hz:=dn hb;rw [if_neg hz,aa7 (Sg hk)];refine ⟨sl,h1.rt.at 3 rfl,a1,_,a2,(Bj h1 hW hk).mono ?_⟩;rintro e w8 ⟨rfl,r',y',h8,hob8,t8⟩;have z8:=t8.mod.size;refine ⟨_,rfl,t8.mod.same _ ab bx,Br.mk (λhz=> ?_) (λhz=> ?_)⟩
   ·have hz:=dn hz;have hk':(its.set k y')[k]? =some y':=oS QM;refine (FW h8 hk').mono ?_;rintro e w9 ⟨rfl,sl',h9,m9,b9⟩;rw [List.eraseIdx_set_eq] at h9;have bx8:¬slF t sl w:=λq=>bx (zO _ q)
    refine ⟨_,rfl,m9.same _ ab bx8,?_⟩;rw [if_pos hz];refine ⟨by rw [hz],r',sl',_,h9,vp _ _,(aO.aH kG).trans (t8.trans (N6 m9 b9 λz hz=> ?_))⟩;rw [<-List.eraseIdx_set_eq (l:=its) (i:=k) (a:=y')] at hz;exact (wJ ..).subset hz
   ·have hz:=dn hz;rw [if_neg hz];exact ⟨rfl,r',sl,_,h8,Lc hob8,(aO.aH kG).trans t8⟩
def QT(D:Dk)(pre:List En):List En->Int->Tb × Int × Int
 | [],n=>((D,pre),n,0)
 |e::t,n=>if (cm D e).2.2=0 then QT (cm D e).1 (pre++ [(cm D e).2.1]) t (if e.2.2.1=true then n+1 else n) else (((cm D e).1,pre++(cm D e).2.1::t),n,(cm D e).2.2)
def mf(D:Dk)(l:List En):Tb × Int × Int:=QT D [] l 0
def ajz{D:Dk}{l pre:List En}{n:Int}{k:Nat}{e:En}(h:l[k]? =some e):QT D pre (l.drop k) n=if (cm D e).2.2=0 then QT (cm D e).1 (pre++ [(cm D e).2.1]) (l.drop (k+1)) (if e.2.2.1=true then n+1 else n) else (((cm D e).1,pre++(cm D e).2.1::l.drop (k+1)),n,(cm D e).2.2):=by have hk:=cK.1 h;rw [zM hk.1,hk.2];rfl
set_option maxRecDepth 100000 in
def H9{w:World}{t st d:Nat}{r:Dm}{sl:Sl}{D:Dk}{ai limit:Int}{its:List It}(h:TO w t st d r sl D ai limit its)(hW:D.l.length<=900000):
  ah 22 #[t] w λe w'=>e=Value.tuple #[.int .i64 (mf D (gu its)).2.1,.int .i64 (mf D (gu its)).2.2]/\zN w t st d r sl ai limit its (mf D (gu its)).1 w':=by
 apply uJ.vc;have hn:=h.n;have dD:=h.len;have ad4:=h.ZS;refine ⟨sl,h.rt.at 3 rfl,λn i c wr=>∃(k:Nat)(D':Dk)(r':Dm)(its':List It),i=k/\k+n=its.length/\0<=c/\c<=k/\D'.l.length<=D.l.length+k/\TO wr t st d r' sl D' ai limit its'/\its'.length=its.length/\its'.drop k=its.drop k/\QT D' ((gu its').take k) ((gu its').drop k) c=mf D (gu its)/\aO (aE t st d r sl its) (aE t st d r' sl its') w wr,
  ⟨its.length,0,D,r,its,rfl,by omega,pf 0,pf 0,by omega,h,rfl,rfl,rfl,aO.refl _ _⟩,?_⟩
 rintro n us i c wr ⟨k,D',r',its',rfl,hk,c0,ck,hl,hT,VI,hdr,Hk,ht⟩;have aB3:(gu its').length=its'.length:=by rw [aN]
 apply Br.mk<;>intro hc
 ·replace hc:=nG hc;obtain ⟨y,hy⟩:=bB (l:=its') (i:=k) ab;have hyr:=hT.it y (aU hy);obtain ⟨a1,a2⟩:=hT.at hy;have QM:k<its'.length:=by omega
  have hn':=hT.n;have wk:=nY (j:=k);have wc:ak (c+1)=c+1:=wI;rw [ajz (Sg hy)] at Hk;have oJ:=Ld D' y.ob;refine ⟨a1,_,a2,CG (CG ⟨_,hyr.r.at 1 rfl,(Bj hT ab hy).mono ?_⟩)⟩;rintro e bN ⟨rfl,r2,y',h10,ZZ,t10⟩;have ou:gu (its'.set k y')=(gu its').set k (cm D' y.ob).2.1:=Lc ZZ;have hln2:(its'.set k y').length=its'.length:=jU;have wW:(gu (its'.set k y')).take (k+1)=(gu its').take k++ [(cm D' y.ob).2.1]:=by rw [ou,dP,oS ab,List.take_set_of_le (aD _)];rfl
  have hdk:(gu (its'.set k y')).drop (k+1)=(gu its').drop (k+1):=by rw [ou,List.drop_set_of_lt ab]
  refine ⟨_,rfl,Br.mk (λhb=> ?_) (λhb=> ?_)⟩
  ·have hz:=dn hb;rw [if_neg hz] at Hk;rw [<-Hk];refine ⟨rfl,r2,sl,_,h10,?_,ht.trans t10⟩;rw [ou];show _=(gu its').take k++(cm D' y.ob).2.1::(gu its').drop (k+1);rw [List.set_eq_take_append_cons_drop,if_pos ab]
  ·have hz:=dn hb;rw [if_pos hz] at Hk;have hdd:(its'.set k y').drop (k+1)=its.drop (k+1):=by rw [List.drop_set_of_lt ab];have:=congrArg (List.drop 1) hdr;rwa [List.drop_drop,List.drop_drop] at this
   apply Br.mk<;>intro hd
   ·have hd':y.ob.2.2.1=true:=hd;rw [if_pos hd'] at Hk;exact ⟨n-1,by omega,k+1,_,r2,_,wk,by omega,by rw [wc];omega,by rw [wc];omega,by omega,h10,by rw [hln2,VI],hdd,by rw [wc,wW,hdk];exact Hk,ht.trans t10⟩
   ·have hd':¬y.ob.2.2.1=true:=by show ¬y.pg=true;rw [hd];decide
    rw [if_neg hd'] at Hk;exact ⟨n-1,by omega,k+1,_,r2,_,wk,by omega,c0,by omega,by omega,h10,by rw [hln2,VI],hdd,by rw [wW,hdk];exact Hk,ht.trans t10⟩
 ·replace hc:=nT hc;rw [Cy ab,fz ab] at Hk;rw [<-Hk];exact ⟨rfl,r',sl,its',hT,rfl,ht⟩
def Xg{w:World}{t st d:Nat}{r:Dm}{sl:Sl}{D:Dk}{ai limit:Int}{its:List It}(h:TO w t st d r sl D ai limit its)(hW:D.l.length<=1000000)(s:Sl)(b:List Int)(hs:jF w s b)(hb:oa b)(hn:b.length<=1099511627776):
  ah 61 #[t,s] w λe w'=>e=Value.int .i64 (nH D 0 b).2/\zN w t st d r sl ai limit its ((nH D 0 b).1,gu its) w':=by
 apply (BH.vc (a1:=s));refine ⟨_,h.rt.at 0 rfl,(CH h.so hW 0 s b hs hb hn).mono ?_⟩;rintro e w1 ⟨rfl,r',h1,m1,f1,-⟩;exact ⟨_,rfl,rfl,r',sl,its,h.store m1 h1,rfl,m1.mono λi _ hi=>UD i hi,Fp f1⟩
def Xh{w:World}{t st d:Nat}{r:Dm}{sl:Sl}{D:Dk}{ai limit:Int}{its:List It}(h:TO w t st d r sl D ai limit its):
  ah 37 #[t] w λe w'=>∃s':Sl,e=s'/\aF w ZQ 2 w' s' ((gu its).map λe=> [.int .i64 e.1.1,.int .i64 e.1.2])/\Ext w w':=by
 apply Bt.vc;have hn:=h.n;have dD:=h.len;have ad4:=h.ZS;refine ⟨sl,h.rt.at 3 rfl,λn i so wr=>∃k:Nat,i=k/\k+n=its.length/\Ext w wr/\aF w ZQ 2 wr so (((gu its).take k).map λe=> [.int .i64 e.1.1,.int .i64 e.1.2]),⟨its.length,0,rfl,by omega,Ext.cu _,aF.nil⟩,?_⟩;rintro n us i so wr ⟨k,rfl,hk,xr,ho⟩;have VL:=nY (j:=k);have hol:(gu its).length=its.length:=by rw [aN]
 apply Br.mk<;>intro hc
 ·replace hc:=nG hc;obtain ⟨y,hy⟩:=bB (l:=its) (i:=k) ab;have hr:=h.ext xr;obtain ⟨a1,a2⟩:=hr.at hy;have hyr:=hr.it y (aU hy);refine ⟨a1,_,a2,CG (CG ⟨_,hyr.r.at 0 rfl,CG (CG ⟨_,_,hyr.k.pos,(xq y.p wr).mono ?_⟩)⟩)⟩;rintro e cU ⟨rfl,bS⟩;refine ⟨_,_,rfl,λeu pQ=> ?_⟩;have cD:=aT pQ;have z12:=bS.size;have zr:=xr.size;have z15:=eN pQ;have Y7:=(ho.ext bS).ext cD;have hso:=(ho.rd (show 0<2 by decide)).n;rw [aN,dI] at hso;obtain ⟨hp,bu⟩:=Y7.append (bytes:=16) (news:=[.int .i64 y.p.1,.int .i64 y.p.2]) ab rfl (Bb _ _ _ _) ab ab;refine ⟨hp,λZ5 cJ ad8=> ?_⟩;obtain ⟨auT,aB4,xb,QW,-⟩:=bu Z5 cJ ad8;refine ⟨QW _ (λe=>by have:=(ho.own.lt e).2;omega) ab,n-1,by omega,k+1,VL,by omega,(xr.tr (bS.tr cD)).trans xb,?_⟩;have:(gu its).take (k+1)=(gu its).take k++ [y.ob]:=by rw [dP,aV,hy];rfl
  rw [this,bX];exact auT
 ·replace hc:=nT hc;rw [fz ab] at ho;exact ⟨so,rfl,ho,xr⟩
def po{w:World}{p:Option Addr}{v:Value}(h:ld w p=some v):af w p 0 [v]:=by show ld w (ae p 0)=_;rw [fC];exact h
def TO.afM{w w':World}{t st d:Nat}{r:Dm}{sl:Sl}{D:Dk}{ai limit:Int}{its:List It}(h:TO w t st d r sl D ai limit its){i:Nat}{y y':It}(hi:its[i]? =some y)(hx:y'.x=y.x)(hg:y'.g=y.g)(hm:Mod (λj=>j=y.x\/j=y.g) w w')(hy:vJ w' y'):TO w' t st d r sl D ai limit (its.set i y'):=by
 have ED:=(cK.1 hi).1;have hr:=(h.it y (aU hi)).r;have hrg:=(h.it y (aU hi)).k.row;have off:∀{j:Nat} {cs:LV} {τ:TypeId},Row w j cs τ->τ≠cQ->τ≠xQ->¬(j=y.x\/j=y.g):=λhr' ht hc e=>by
  rcases e with e|e
  ·exact hr'.ne hr ht e
  ·exact hr'.ne hrg hc e
 have hpx:De (its.set i y')=De its:=by
  unfold De;rw [jV,hx];apply jB;intro j;rw [jW];split
  ·rename_i e;subst e;rw [if_pos (by rw [aN];exact ED),aV,hi];rfl
  ·rfl
 have hmx:(its.set i y').map (·.x)=its.map (·.x):=by
  rw [jV,hx];apply jB;intro j;rw [jW];split
  ·rename_i e;subst e;rw [if_pos (by rw [aN];exact ED),aV,hi];rfl
  ·rfl
 have hmg:(its.set i y').map (·.g)=its.map (·.g):=by
  rw [jV,hg];apply jB;intro j;rw [jW];split
  ·rename_i e;subst e;rw [if_pos (by rw [aN];exact ED),aV,hi];rfl
  ·rfl
 refine ⟨hm.row h.rt (off h.rt aG aG),h.so.dc hm (λhr' hτ=>by rcases hτ with rfl|rfl|rfl|rfl<;>exact off hr' aG aG) (λhmp e=>by
   rcases e with e|e
   ·exact hr.jJ hmp e.symm
   ·exact hrg.jJ hmp e.symm),?_,λz hz=> ?_,by rw [hmx];exact h.dx,by rw [hmg];exact h.dg,h.ZS,by rw [jU];exact h.len⟩
 ·rw [hpx];exact hm.iC h.ol λb hb=>by obtain ⟨cs',hr'⟩:=bh h.ol aG hb;exact off hr' aG aG
 ·obtain ⟨j,hj⟩:=sU hz;rw [jW] at hj;split at hj
  ·cases hj;exact hy
  ·rename_i gy;have hzj:=h.it z (aU hj);have hjl:=(cK.1 hj).1;refine hzj.dc hm ?_ ?_ (λb hb=> ?_)
   ·rintro (e|e)
    ·have h1:(its.map (·.x))[i]? =some y.x:=by rw [aV,hi];rfl
     have h2:(its.map (·.x))[j]? =some z.x:=by rw [aV,hj];rfl
     rw [e,<-h1] at h2;exact gy ((List.getElem?_inj (by rw [aN];exact hjl) h.dx).1 h2).symm
    ·exact hzj.r.ne hrg aG e
   ·rintro (e|e)
    ·exact hzj.k.row.ne hr aG e
    ·have h1:(its.map (·.g))[i]? =some y.g:=by rw [aV,hi];rfl
     have h2:(its.map (·.g))[j]? =some z.g:=by rw [aV,hj];rfl
     rw [e,<-h1] at h2;exact gy ((List.getElem?_inj (by rw [aN];exact hjl) h.dg).1 h2).symm
   ·obtain ⟨cs',hr'⟩:=bh hzj.k.own aG hb;exact off hr' aG aG
def Xi{t st d:Nat}{r:Dm}{sl:Sl}{its:List It}{i n:Nat}{y y':It}(hi:its[i]? =some y)(hx:y'.x=y.x)(hg:y'.g=y.g)(hs:∀b,y'.s.bj=some b->y.s.bj=some b\/n<=b):∀j,aE t st d r sl (its.set i y') j->aE t st d r sl its j\/n<=j:=by
 rintro j (e|e|e|e|e|⟨z,hz,e⟩)
 ·exact .inl (.inl e)
 ·exact .inl (.inr (.inl e))
 ·exact .inl (.inr (.inr (.inl e)))
 ·exact .inl (.inr (.inr (.inr (.inl e))))
 ·exact .inl (.inr (.inr (.inr (.inr (.inl e)))))
 ·have hy:∀i,(i=y.x\/i=y.g\/y.s.bj=some i)->aE t st d r sl its i:=λi e=> .inr (.inr (.inr (.inr (.inr ⟨y,aU hi,e⟩))))
  rcases jZ hz with hz|hz
  ·exact .inl (.inr (.inr (.inr (.inr (.inr ⟨z,hz,e⟩)))))
  ·subst hz;rw [hx,hg] at e;rcases e with e|e|e
   ·exact .inl (hy j (.inl e))
   ·exact .inl (hy j (.inr (.inl e)))
   ·rcases hs j e with e|e
    ·exact .inl (hy j (.inr (.inr e)))
    ·exact .inr e
instance (c:Ce):Decidable (Eo c):=by unfold Eo;exact inferInstance
def fx(l:List En)(c:Ce):Int:=
 if cE (λe:En=>e.1==pos c) l<0 then -1 else if c.2.1<0 then 1 else ((l[(cE (λe:En=>e.1==pos c) l).toNat]?).map λe=>Ge e.1 e.2.1 c).getD 0
def fj(l:List En)(c:Ce)(b:Int):List En × Int:=
 if cE (λe:En=>e.1==pos c) l<0 then (l,11) else if ¬Eo c then (l,5) else if cO b=false then (l,1) else
  (l.eraseIdx (cE (λe:En=>e.1==pos c) l).toNat++((l[(cE (λe:En=>e.1==pos c) l).toNat]?).map λe=>(e.1,(kx e.1 e.2.1 c b).1,e.2.2.1||(Ge e.1 e.2.1 c !=b),e.2.2.2)).toList,0)
def abt{w:World}{t st d:Nat}{r:Dm}{sl:Sl}{D:Dk}{ai limit:Int}{its:List It}(h:TO w t st d r sl D ai limit its)(c:Ce)(hc:qC c):
  ah 83 #[t,eg c] w λe w'=>e=Value.int .i64 (fx (gu its) c)/\Ext w w':=by
 apply FN.vc;intro w0 e0;have z0:=eN e0;have x0:=aT e0;refine (pY c hc w0).mono ?_;rintro e w1 ⟨rfl,x1⟩;have kG:=x0.tr x1;have z1:=x1.size;refine ⟨_,_,rfl,x1.heap ab,(find_spec (h.ext kG) (pos c)).mono ?_⟩;rintro e w4 ⟨rfl,x4⟩;have z4:=x4.size;have AW:=kG.tr x4;have ZD:cE (λe:En=>e.1==pos c) (gu its)=cE (λi:It=>i.p==pos c) its:=lY It.ob _ its;refine ⟨_,rfl,x4.heap ab,?_⟩;rcases eK (λi:It=>i.p==pos c) its with ⟨hf,-⟩|⟨k,y,hk,hyp,hf,-⟩
 ·rw [hf];refine Br.mk (λ_=>⟨?_,AW⟩) (λh=>by simp at h);unfold fx;rw [ZD,hf,if_pos aG]
 ·rw [hf];refine Br.mk (λh=>by simp at h;omega) (λ_=>Br.mk (λhb=> ?_) (λhb=> ?_))
  ·replace hb:=nG hb;refine ⟨?_,AW⟩;unfold fx;rw [ZD,hf,if_neg ab,if_pos hb]
  ·replace hb:=nT hb;have hd:=(h.ext AW).ext (Ext.dr w4);obtain ⟨a1,a2⟩:=hd.at hk;have hyr:=hd.it y (aU hk);refine ⟨sl,hd.rt.at 3 rfl,a1,_,a2,CG (CG ⟨_,hyr.r.at 0 rfl,(Eu hyr.k c hc).mono ?_⟩)⟩;rintro e w9 ⟨rfl,x9⟩;have h9:=hd.ext x9;obtain ⟨-,b2⟩:=h9.at hk;refine ⟨_,_,rfl,x9.heap (show w.heap.size<w4 by omega),po b2,po (h9.rt.at 3 rfl),?_,AW.tr ((Ext.dr _).tr x9)⟩;unfold fx;rw [ZD,hf,if_neg ab,if_neg hb,eC,aV,hk];rfl
def afN{p:Po}{C:List Int}{c:Ce}{b:Int}(hp:p=pos c)(hy:Eo c)(hb:cO b=true):(kx p C c b).2=0:=by unfold kx;rw [if_neg (by rw [(oh p c).2 ⟨hy,hp.symm⟩];decide),if_neg (by rw [hb];decide)]
def Xj{w:World}{t st d:Nat}{r:Dm}{sl:Sl}{D:Dk}{ai limit:Int}{its:List It}(h:TO w t st d r sl D ai limit its)(c:Ce)(hc:qC c)(b:Int):
  ah 221 #[t,eg c,.int .i64 b] w λe w'=>e=Value.int .i64 (fj (gu its) c b).2/\zN w t st d r sl ai limit its (D,(fj (gu its) c b).1) w':=by
 apply Dv.vc;intro w0 e0;have z0:=eN e0;have x0:=aT e0;refine (pY c hc w0).mono ?_;rintro e w1 ⟨rfl,x1⟩;have kG:=x0.tr x1;have z1:=x1.size;refine ⟨_,_,rfl,x1.heap ab,(find_spec (h.ext kG) (pos c)).mono ?_⟩;rintro e w4 ⟨rfl,x4⟩;have z4:=x4.size;have AW:=kG.tr x4;have ZD:cE (λe:En=>e.1==pos c) (gu its)=cE (λi:It=>i.p==pos c) its:=lY It.ob _ its;refine ⟨_,rfl,x4.heap ab,(CD c w4).mono ?_⟩;rintro e w6 ⟨⟨ix,iy,rfl,hiy⟩,x6⟩;have z6:=x6.size;have x06:=AW.tr x6;have h6:=h.ext x06;refine ⟨_,_,rfl,x6.heap ab,?_⟩;have same:∀{w'},Ext w w'->zN w t st d r sl ai limit its (D,gu its) w':=λx=>⟨r,sl,its,h.ext x,rfl,aO.aH x⟩
 rcases eK (λi:It=>i.p==pos c) its with ⟨hf,-⟩|⟨k,y,hk,hyp,hf,-⟩
 ·rw [hf];refine Br.mk (λ_=> ?_) (λh=>by simp at h);have e:fj (gu its) c b=(gu its,11):=by unfold fj;rw [ZD,hf,if_pos aG]
  rw [e];exact ⟨rfl,same x06⟩
 ·rw [hf];have hyc:y.p=pos c:=by simpa using hyp
  refine Br.mk (λh=>by simp at h;omega) (λ_=> ?_);rcases hiy with ⟨rfl,hY,-⟩|⟨rfl,hY,-⟩
  ·refine fB rfl ((gO b w6).mono ?_);rintro e w9 ⟨rfl,x9⟩;have z9:=x9.size;have QG:=x06.tr x9;refine ⟨_,rfl,x9.heap ab,Br.mk (λhb=> ?_) (λhb=> ?_)⟩
   ·have hb':cO b=false:=by simpa using hb
    have e:fj (gu its) c b=(gu its,1):=by unfold fj;rw [ZD,hf,if_neg ab,if_neg (by simpa using hY),if_pos hb']
    rw [e];exact ⟨rfl,same QG⟩
   ·have hb':cO b=true:=by simpa using hb
    have he:fj (gu its) c b=((gu its).eraseIdx k++ [(y.p,(kx y.p y.C c b).1,y.pg||(Ge y.p y.C c !=b),y.pins)],0):=by unfold fj;rw [ZD,hf,if_neg ab,if_neg (by simpa using hY),if_neg (by rw [hb'];decide),eC,aV,hk];rfl
    have h0:=afN (C:=y.C) hyc hY hb';rw [he];have h9:=h.ext QG;refine (FX h9 hk).mono ?_;rintro e bc ⟨rfl,auU,h11,t11⟩;have auV:=(aO.aH QG).trans t11;have z11:=t11.mod.size;have bx:∀{F:Nat->Prop},(∀i,F i->aE t st d r sl its i)->¬F w:=λhF hf=>by have:=h.lt (hF _ hf);omega
    have hi':(its.eraseIdx k++ [y])[(its.eraseIdx k).length]? =some y:=by rw [sV (aD _),Nat.sub_self];rfl
    have hd:=h11.ext (Ext.dr bc);have hyd:=hd.it y (aU hi');have hxw:y.x<w:=(h.it y (aU hk)).r.lt;have hgw:y.g<w:=(h.it y (aU hk)).k.row.lt;refine ⟨_,rfl,t11.mod.same _ ab (bx λi hi=>hi),CG (CG ⟨_,hyd.r.at 0 rfl,(Eu hyd.k c hc).mono ?_⟩)⟩;rintro e bJ ⟨rfl,bW⟩;have ad9:Ext bc bJ:=(Ext.dr _).tr bW;have Y9:=ad9.size;have h14:=h11.ext ad9;have AM:=h14.it y (aU hi');have pt:∀v:Bool,_:=λv=>AM.r.jm (j:=1) (v:=.bool v) cj rfl
    refine ⟨_,_,rfl,bW.heap (show w.heap.size<bc by omega),CG (CG ⟨_,AM.r.at 1 rfl,Br.mk (λhb=>CG (CG ⟨⟨rfl,(pt true).1⟩,λe=> ?_,λdu Zc=>CG (CG ?_)⟩)) (λhb=>CG (CG ⟨⟨rfl,(pt true).1⟩,λe=> ?_,λdu Zc=>CG (CG ?_)⟩))⟩)⟩
    case refine_1|refine_3=>
     rw [de] at e;have:y.x=w.heap.size:=by simpa [bt] using e
     omega
    all_goals
     obtain ⟨q1,q2⟩:=(pt _).2 du Zc
     have z18:=q2.size
     have apa:H7 du y.g y.s y.p y.C:=AM.k.dc q2 (λe=>AM.k.row.ne AM.r aG e) (λb hb=>by obtain ⟨cs',hr'⟩:=bh AM.k.own aG hb;exact hr'.ne AM.r aG)
     refine ⟨_,(q1.ext (Ext.dr _)).at 0 rfl,(abu (apa.ext (Ext.dr du)) c hc b).mono ?_⟩;rintro e ef ⟨rfl,s',auW,m20,b20⟩;have q1d:=q1.ext (Ext.dr du);refine ⟨_,rfl,m20.same _ (show w.heap.size<du by omega) (λe=>by omega),congrArg _ (congrArg _ h0),?_⟩;have hm:Mod (λj=>j=y.x\/j=y.g) bJ ef:=((q2.mono λi _ hi=> .inl hi).trans (Mod.aH (Ext.dr _))).trans (m20.mono λi _ hi=> .inr hi);have auY:vJ ef ⟨y.x,y.g,s',y.p,(kx y.p y.C c b).1,y.pg||(Ge y.p y.C c !=b),y.pins⟩:=by refine ⟨?_,auW⟩;have:=m20.row q1d (λe=>q1d.ne (apa.ext (Ext.dr du)).row aG e);rw [hb];exact this
     have h20:=h14.afM hi' (y':=⟨y.x,y.g,s',y.p,(kx y.p y.C c b).1,y.pg||(Ge y.p y.C c !=b),y.pins⟩) rfl rfl hm auY;refine ⟨r,auU,_,h20,?_,auV.trans ⟨(Mod.aH ad9).trans (hm.mono λi _ hi=> ?_),λj hj=> ?_⟩⟩
     ·unfold gu;rw [List.set_append_right _ _ (aD _),Nat.sub_self,bX];have:=vp its k;unfold gu at this;rw [this];rfl
     ·exact .inr (.inr (.inr (.inr (.inr ⟨y,aU hi',hi.elim .inl λe=> .inr (.inl e)⟩))))
     ·exact Xi (y':=⟨y.x,y.g,s',y.p,(kx y.p y.C c b).1,y.pg||(Ge y.p y.C c !=b),y.pins⟩) hi' rfl rfl (λb hb=>(b20 b hb).imp id λe=>gD (gD Y9 z18) e) j hj
  ·have e:fj (gu its) c b=(gu its,5):=by unfold fj;rw [ZD,hf,if_neg ab,if_pos hY]
   refine yes rfl ?_;rw [e];exact ⟨rfl,same x06⟩
def um(l:List En):Prop:=∀e ∈ l,e.2.1.length=8192/\∀b ∈ e.2.1,cO b=true
def YT{c d:Ce}(hc:Eo c)(hd:Eo d)(hp:pos c=pos d)(hi:(idx c).toNat=(idx d).toNat):c=d:=by
 have h1:=xV hc;have h2:=xV hd;have hi':idx c=idx d:=by omega
 obtain ⟨a,b,e⟩:=c;obtain ⟨a',b',e'⟩:=d;unfold idx at hi';unfold pos at hp;simp only [Prod.mk.injEq] at hp ⊢;simp only at hi';omega
def ln(l:List En)(p:Po):Prop:=∃e ∈ l,e.1=p
def ju(l:List En):Prop:=(l.map (·.1)).Nodup
def LN{l:List En}{c:Ce}(h:¬ln l (pos c)):fx l c= -1:=by
 unfold fx;rw [jc λy hy=> ?_,if_pos aG]
 cases hb:(y.1==pos c) with
 |false=>rfl
 |true=>exact absurd ⟨y,hy,by simpa using hb⟩ h
def ym{l:List En}(hn:ju l){e:En}(he:e ∈ l):∃k:Nat,l[k]? =some e/\cE (λx:En=>x.1==e.1) l=k:=by
 obtain ⟨k,hk⟩:=sU he;refine ⟨k,hk,oF hk cj λj hj y hy=> ?_⟩
 cases hb:(y.1==e.1) with
 |false=>rfl
 |true=>
  have h1:(l.map (·.1))[k]? =some e.1:=by rw [aV,hk];rfl
  have h2:(l.map (·.1))[j]? =some e.1:=by rw [aV,hy];simpa using hb
  have QM:=(cK.1 h1).1;have:=(List.getElem?_inj (show j<_ by omega) hn).1 (h2.trans h1.symm);omega
def Az{l:List En}(hn:ju l){e:En}(he:e ∈ l){c:Ce}(hp:e.1=pos c):fx l c=if c.2.1<0 then 1 else Ge e.1 e.2.1 c:=by obtain ⟨k,hk,hf⟩:=ym hn he;unfold fx;rw [<-hp,hf,if_neg ab,eC,hk];rfl
def acP{p:Po}{C:List Int}(hl:C.length=8192){c:Ce}(hy:Eo c)(hp:p=pos c){b:Int}(hb:cO b=true)(c':Ce)(hp':p=pos c'):Ge p (kx p C c b).1 c'=if c'=c then b else Ge p C c':=by
 have e:(kx p C c b).1=C.set (idx c).toNat b:=by unfold kx;rw [if_neg (by rw [(oh p c).2 ⟨hy,hp.symm⟩];decide),if_neg (by rw [hb];decide)]
 rw [e];have hi:=xV hy;by_cases hcc:c'=c
 ·subst hcc;rw [if_pos rfl];have hk:Kf p c'=true:=(oh p c').2 ⟨hy,hp'.symm⟩;unfold Ge;rw [hk,if_pos rfl];unfold atC;rw [if_neg ab,dY,jW,if_pos rfl,if_pos ab];rfl
 ·rw [if_neg hcc];by_cases hy':Eo c'
  ·have hk:Kf p c'=true:=(oh p c').2 ⟨hy',hp'.symm⟩;have hi':=xV hy';have h0:¬idx c'<0:=by omega
   unfold Ge;rw [hk,if_pos rfl,if_pos rfl];unfold atC;rw [if_neg h0,if_neg h0,dY,dY,jW,if_neg (λh=>hcc (YT hy hy' (hp.symm.trans hp') h).symm)]
  ·have hk:Kf p c'=false:=by
    cases h:Kf p c' with
    |false=>rfl
    |true=>exact absurd ((oh p c').1 h).1 hy'
   unfold Ge;rw [hk,if_neg aG,if_neg aG]
def acF{l:List En}(hn:ju l)(hg:um l){c:Ce}(hh:ln l (pos c))(hy:Eo c){b:Int}(hb:cO b=true):
  (fj l c b).2=0/\ju (fj l c b).1/\(∀p,ln (fj l c b).1 p ↔ ln l p)/\∀c',fx (fj l c b).1 c'=if c'=c then b else fx l c':=by
 obtain ⟨e,he,hp⟩:=hh;obtain ⟨k,hk,hf⟩:=ym hn he;have hs:fj l c b=(l.eraseIdx k++ [(e.1,(kx e.1 e.2.1 c b).1,e.2.2.1||(Ge e.1 e.2.1 c !=b),e.2.2.2)],0):=by unfold fj;rw [<-hp,hf,if_neg ab,if_neg (by simpa using hy),if_neg (by rw [hb];decide),eC,hk];rfl
 generalize hd:(e.2.2.1||(Ge e.1 e.2.1 c !=b))=d at hs;obtain ⟨A,B,Hg,hkA⟩:∃A B,l=A++e::B/\k=A.length:=by obtain ⟨QM,he⟩:=cK.1 hk;exact ⟨l.take k,l.drop (k+1),by rw [<-he,<-zM QM,qP],by rw [dI];omega⟩
 subst hkA;rw [Hg,List.eraseIdx_append_of_length_le (aD _),Nat.sub_self] at hs;have eN:fj l c b=(A++B++ [(e.1,(kx e.1 e.2.1 c b).1,d,e.2.2.2)],0):=by rw [Hg];exact hs
 rw [eN];have eV:∀x,x ∈ l ↔ x ∈ A++B\/x=e:=λx=>by
  rw [Hg];simp only [c5,cR];constructor
  ·rintro (h|h|h)
   ·exact .inl (.inl h)
   ·exact .inr h
   ·exact .inl (.inr h)
  ·rintro ((h|h)|h)
   ·exact .inl h
   ·exact .inr (.inr h)
   ·exact .inr (.inl h)
 have hn':ju (A++B++ [(e.1,(kx e.1 e.2.1 c b).1,d,e.2.2.2)]):=by
  have Zg:ju (A++e::B):=by rw [<-Hg];exact hn
  unfold ju at Zg ⊢;rw [bX,fT] at Zg;obtain ⟨n1,n2,n3⟩:=td.1 Zg;obtain ⟨n4,n5⟩:=oY.1 n2;rw [bX,bX];refine td.2 ⟨td.2 ⟨n1,n5,λa ha b hb=>n3 a ha b (.tail _ hb)⟩,by simp,λa ha b hb=> ?_⟩;simp only [fT,List.map_nil,gU] at hb;subst hb;rcases c5.1 ha with ha|ha
  ·exact n3 a ha _ (.head _)
  ·exact λh=>n4 (h▸ha)
 have vS:∀x ∈ A++B,x.1≠e.1:=λx hx h=>by
  have Zg:ju (A++e::B):=by rw [<-Hg];exact hn
  unfold ju at Zg;rw [bX,fT] at Zg;obtain ⟨n1,n2,n3⟩:=td.1 Zg;obtain ⟨n4,n5⟩:=oY.1 n2;rcases c5.1 hx with hx|hx
  ·exact n3 _ (aY.2 ⟨x,hx,rfl⟩) _ (.head _) h
  ·exact n4 (by rw [<-h];exact aY.2 ⟨x,hx,rfl⟩)
 refine ⟨rfl,hn',λp=>⟨?_,?_⟩,λc'=> ?_⟩
 ·rintro ⟨x,hx,VS⟩;rcases c5.1 hx with hx|hx
  ·exact ⟨x,(eV x).2 (.inl hx),VS⟩
  ·simp only [gU] at hx;subst hx;exact ⟨e,he,VS⟩
 ·rintro ⟨x,hx,VS⟩;rcases (eV x).1 hx with hx|hx
  ·exact ⟨x,Gm _ hx,VS⟩
  ·subst hx;exact ⟨_,Ot _ (.head _),VS⟩
 ·show fx (A++B++ [(e.1,(kx e.1 e.2.1 c b).1,d,e.2.2.2)]) c'=_;by_cases hpc:e.1=pos c'
  ·rw [Az hn' (Ot _ (.head _)) (e:=(e.1,(kx e.1 e.2.1 c b).1,d,e.2.2.2)) hpc,Az hn he hpc];show (if c'.2.1<0 then 1 else Ge e.1 (kx e.1 e.2.1 c b).1 c')=_;rw [acP (hg e he).1 hy hp hb c' hpc];by_cases hcc:c'=c
   ·subst hcc;rw [if_pos rfl,if_pos rfl,if_neg (by unfold Eo at hy;omega)]
   ·rw [if_neg hcc,if_neg hcc]
  ·have hcc:c'≠c:=λh=>hpc (by rw [h];exact hp)
   rw [if_neg hcc];by_cases hx:∃x ∈ A++B,x.1=pos c'
   ·obtain ⟨x,hx,VS⟩:=hx;rw [Az hn' (Gm _ hx) VS,Az hn ((eV x).2 (.inl hx)) VS]
   ·rw [LN,LN]
    ·rintro ⟨x,Ra,VS⟩;rcases (eV x).1 Ra with h|h
     ·exact hx ⟨x,h,VS⟩
     ·subst h;exact hpc VS
    ·rintro ⟨x,Ra,VS⟩;rcases c5.1 Ra with h|h
     ·exact hx ⟨x,h,VS⟩
     ·simp only [gU] at h;subst h;exact hpc VS
def TF(F:Nat->Prop)(w:World)(t:Nat)(ai limit:Int)(T:Tb):Prop:=
 ∃st d r sl its,TO w t st d r sl T.1 ai limit its/\gu its=T.2/\F=aE t st d r sl its
def TF.lt{F:Nat->Prop}{w:World}{t:Nat}{ai limit:Int}{T:Tb}(h:TF F w t ai limit T){i:Nat}(hi:F i):i<w:=by obtain ⟨st,d,r,sl,its,h1,h2,rfl⟩:=h;exact h1.lt hi
def TF.same{F:Nat->Prop}{w w':World}{t:Nat}{ai limit:Int}{T:Tb}(h:TF F w t ai limit T)(hs:∀i,F i->w'.heap[i]? =w.heap[i]?):TF F w' t ai limit T:=by obtain ⟨st,d,r,sl,its,h1,h2,rfl⟩:=h;exact ⟨st,d,r,sl,its,h1.same hs,h2,rfl⟩
def TF.ext{F:Nat->Prop}{w w':World}{t:Nat}{ai limit:Int}{T:Tb}(h:TF F w t ai limit T)(x:Ext w w'):TF F w' t ai limit T:=h.same λ_ hi=>x.heap (h.lt hi)
def TF.dc{F G:Nat->Prop}{w w':World}{t:Nat}{ai limit:Int}{T:Tb}(h:TF F w t ai limit T)(hm:Mod G w w')(hn:∀i,F i->¬G i):TF F w' t ai limit T:=h.same λi hi=>hm.same i (h.lt hi) (hn i hi)
abbrev E4(τ:TypeId):Prop:=τ≠BG/\τ≠BF/\τ≠uy/\τ≠tPI/\τ≠cQ/\τ≠xQ/\τ≠gP/\τ≠tW/\τ≠iJ
def TF.dR{F:Nat->Prop}{w:World}{t:Nat}{ai limit:Int}{T:Tb}(h:TF F w t ai limit T){j:Nat}{cs:LV}{τ:TypeId}(hr:Row w j cs τ)(hτ:E4 τ):¬F j:=by obtain ⟨st,d,r,sl,its,h1,h2,rfl⟩:=h;exact h1.dR hr hτ
def TF.len{F:Nat->Prop}{w:World}{t:Nat}{ai limit:Int}{T:Tb}(h:TF F w t ai limit T):(T.2.length:Int)<=limit/\1<=limit/\limit<=16:=by obtain ⟨st,d,r,sl,its,h1,e,rfl⟩:=h;have:=h1.len;have:=h1.ZS;rw [<-e];unfold gu;rw [aN];omega
def TF.A6{F:Nat->Prop}{w:World}{t:Nat}{ai limit:Int}{T:Tb}(h:TF F w t ai limit T):um T.2:=by obtain ⟨st,d,r,sl,its,h1,e,rfl⟩:=h;rw [<-e];intro e he;obtain ⟨y,hy,rfl⟩:=aY.1 he;exact ⟨(h1.it y hy).k.len,(h1.it y hy).k.may⟩
abbrev Rx(F:Nat->Prop)(w:World)(t:Nat)(ai limit:Int)(T:Tb)(w':World):Prop:=∃F',TF F' w' t ai limit T/\aO F F' w w'
def Qa{w w':World}{t st d:Nat}{r:Dm}{sl:Sl}{ai limit:Int}{its:List It}{T:Tb}(hl:zN w t st d r sl ai limit its T w'):Rx (aE t st d r sl its) w t ai limit T w':=by obtain ⟨r',sl',its',h',ho,ht⟩:=hl;exact ⟨_,⟨st,d,r',sl',its',h',ho,rfl⟩,ht⟩
def Ry(ai limit room:Int)(w:World):ah 96 #[ai,limit,room] w λe w'=>∃t F,e=Value.pointer (aB t)/\TF F w' t ai (min (max limit 1) 16) (MI room,[])/\Ext w w'/\∀i,F i->w.heap.size<=i:=by refine (YP ai limit room w).mono ?_;rintro e w' ⟨t,st,d,r,rfl,h,x,hf⟩;exact ⟨t,_,rfl,⟨st,d,r,_,[],h,rfl,rfl⟩,x,hf⟩
section
variable {F:Nat->Prop} {w:World} {t:Nat} {ai limit:Int} {T:Tb}
def Oo(h:TF F w t ai limit T)(hW:T.1.l.length<=1000000)(p:Po):
  ah 20 #[t,pv p] w λe w'=>e=Value.int .i64 (HI ai limit T.1 T.2 p).2/\Rx F w t ai limit (HI ai limit T.1 T.2 p).1 w':=by
 obtain ⟨st,d,r,sl,its,h1,e,rfl⟩:=h;rw [<-e];refine (WY h1 hW p).mono ?_;rintro e w' ⟨rfl,hl⟩;exact ⟨rfl,Qa hl⟩
def Ic(h:TF F w t ai limit T)(hW:T.1.l.length<=1000000)(p:Po):
  ah 21 #[t,pv p] w λe w'=>e=Value.int .i64 (m4 T.1 T.2 p).2/\Rx F w t ai limit (m4 T.1 T.2 p).1 w':=by
 obtain ⟨st,d,r,sl,its,h1,e,rfl⟩:=h;rw [<-e];refine (Ol h1 hW p).mono ?_;rintro e w' ⟨rfl,hl⟩;exact ⟨rfl,Qa hl⟩
def DP(h:TF F w t ai limit T)(hW:T.1.l.length<=900000):
  ah 22 #[t] w λe w'=>e=Value.tuple #[.int .i64 (mf T.1 T.2).2.1,.int .i64 (mf T.1 T.2).2.2]/\Rx F w t ai limit (mf T.1 T.2).1 w':=by
 obtain ⟨st,d,r,sl,its,h1,e,rfl⟩:=h;rw [<-e];refine (H9 h1 hW).mono ?_;rintro e w' ⟨rfl,hl⟩;exact ⟨rfl,Qa hl⟩
def PV(h:TF F w t ai limit T)(hW:T.1.l.length<=1000000)(s:Sl)(b:List Int)(hs:jF w s b)(hb:oa b)(hn:b.length<=1099511627776):
  ah 61 #[t,s] w λe w'=>e=Value.int .i64 (nH T.1 0 b).2/\Rx F w t ai limit ((nH T.1 0 b).1,T.2) w':=by
 obtain ⟨st,d,r,sl,its,h1,e,rfl⟩:=h;rw [<-e];refine (Xg h1 hW s b hs hb hn).mono ?_;rintro e w' ⟨rfl,hl⟩;exact ⟨rfl,Qa hl⟩
def Jb(h:TF F w t ai limit T)(c:Ce)(hc:qC c):
  ah 83 #[t,eg c] w λe w'=>e=Value.int .i64 (fx T.2 c)/\Ext w w':=by
 obtain ⟨st,d,r,sl,its,h1,e,rfl⟩:=h;rw [<-e];exact abt h1 c hc
def Rz(h:TF F w t ai limit T)(c:Ce)(hc:qC c)(b:Int):
  ah 221 #[t,eg c,b] w λe w'=>e=Value.int .i64 (fj T.2 c b).2/\Rx F w t ai limit (T.1,(fj T.2 c b).1) w':=by
 obtain ⟨st,d,r,sl,its,h1,e,rfl⟩:=h;rw [<-e];refine (Xj h1 c hc b).mono ?_;rintro e w' ⟨rfl,hl⟩;exact ⟨rfl,Qa hl⟩
end
def af9{l:List Rn}(h:∀r ∈ l,1<=r.1):((lM l).length:Int)<=2*bF l:=by
 induction l with
 |nil=>exact pf 0
 |cons r t ih=>
  have h1:=h r (.head _);have h2:=ih λq hq=>h q (.tail _ hq)
  have e1:(lM (r::t)).length=1+(iF r.1).length+(lM t).length:=by show (List.flatMap _ (r::t)).length=_;rw [List.flatMap_cons,cS,c8];show (iF r.1).length+1+(lM t).length=_;omega
  have e2:bF (r::t)=r.1+bF t:=by unfold bF;rw [fT,List.sum_cons]
  have h3:=FD r.1;have h4:r.1<128->(iF r.1).length<=1:=λq=>by
   unfold iF;split
   ·simp
   ·unfold nB;rw [if_pos q];simp
  by_cases q:r.1<128
  ·have:=h4 q;omega
  ·omega
def abE{C:List Int}(hl:C.length=8192)(hm:∀b ∈ C,cO b=true):(lM (gz C)).length<=16384:=by
 obtain ⟨-,-,hf,hs⟩:=vw hl hm;have h1:∀r ∈ gz C,1<=r.1:=λr hr=>(mF hr).1
 have:=af9 h1;omega
def Xx(ai:Int)(p:Po){C:List Int}(hl:C.length=8192)(hm:∀b ∈ C,cO b=true):ku ai p (lM (gz C))=C:=by obtain ⟨-,gy,hf,hs⟩:=vw hl hm;have:=Yi hf gy;rw [hs] at this;unfold ku;rw [this,if_pos rfl,me]
def Tu(ai:Int)(p:Po):ku ai p []=made ai p:=rfl
def ahR{p q:Po}(hq:oE q)(h:p≠q):pd p≠pd q:=by
 by_cases hp:oE p
 ·exact λe=>h ((aff hp hq).1 e)
 ·rw [UC hp];have:=KL hq;omega
def uM{l:List En}(hn:ju l){p:Po}{e:En}:l.find? (λx=>x.1==p)=some e ↔ e ∈ l/\e.1=p:=by
 induction l with
 |nil=>simp
 |cons x t ih=>
  have hn':=oY.1 (show (x.1::t.map (·.1)).Nodup from hn);rw [List.find?_cons];by_cases q:x.1=p
  ·rw [show (x.1==p)=true by simpa using q];simp only [Option.some.injEq,cR];constructor
   ·rintro rfl;exact ⟨.inl rfl,q⟩
   ·rintro ⟨q2|q2,q3⟩
    ·exact q2.symm
    ·exact absurd (aY.2 ⟨e,q2,q3.trans q.symm⟩) hn'.1
  ·rw [show (x.1==p)=false by simpa using q,ih hn'.2];simp only [cR];constructor
   ·rintro ⟨a,b⟩;exact ⟨.inr a,b⟩
   ·rintro ⟨a|a,b⟩
    ·subst a;exact absurd b q
    ·exact ⟨a,b⟩
def Yj{l:List En}{p:Po}:l.find? (λx=>x.1==p)=none ↔ ¬ln l p:=by
 rw [CR];constructor
 ·rintro h ⟨x,hx,q⟩;exact h x hx (by simpa using q)
 ·intro h x hx q;exact h ⟨x,hx,by simpa using q⟩
def Xw(ai:Int)(T:Tb)(p:Po):List Int:=match T.2.find? (λx=>x.1==p) with|some e=>e.2.1|none=>ku ai p (tU T.1 (pd p)).1
def gm{ai:Int}{T:Tb}(hn:ju T.2){e:En}(he:e ∈ T.2):Xw ai T e.1=e.2.1:=by unfold Xw;rw [(uM hn).2 ⟨he,rfl⟩]
def ke{ai:Int}{T:Tb}{p:Po}(h:¬ln T.2 p):Xw ai T p=ku ai p (tU T.1 (pd p)).1:=by unfold Xw;rw [Yj.2 h]
def mem_set{l:List En}(hn:ju l){i:Nat}{e e':En}(hi:l[i]? =some e)(h1:e'.1=e.1)(x:En):x ∈ l.set i e' ↔ x=e'\/(x ∈ l/\x.1≠e.1):=by
 have ED:=(cK.1 hi).1;have key:∀j y,l[j]? =some y->y.1=e.1->j=i:=λj y hj hy=>by
  have a1:(l.map (·.1))[i]? =some e.1:=by rw [aV,hi];rfl
  have a2:(l.map (·.1))[j]? =some e.1:=by rw [aV,hj];simpa using hy
  exact (List.getElem?_inj (by rw [aN];exact (cK.1 hj).1) hn).1 (a2.trans a1.symm)
 constructor
 ·intro hx;obtain ⟨j,hj⟩:=sU hx;rw [jW] at hj;split at hj
  ·exact .inl (Option.some.inj hj).symm
  ·rename_i gy;exact .inr ⟨aU hj,λq=>gy (key j x hj q).symm⟩
 ·rintro (rfl|⟨hx,gy⟩)
  ·exact aU (i:=i) (oS ED)
  ·obtain ⟨j,hj⟩:=sU hx;refine aU (i:=j) ?_;rw [zT]
   ·exact hj
   ·rintro rfl;rw [hi] at hj;cases hj;exact gy rfl
def U4{l:List En}(hn:ju l){i:Nat}{e e':En}(hi:l[i]? =some e)(h1:e'.1=e.1):ju (l.set i e'):=by
 unfold ju;rw [jV,h1];have:(l.map (·.1)).set i e.1=l.map (·.1):=by
  have hk:(l.map (·.1))[i]? =some e.1:=by rw [aV,hi];rfl
  obtain ⟨hl,he⟩:=cK.1 hk;rw [<-he];exact List.set_getElem_self hl
 rw [this];exact hn
def Tv{l:List En}{i:Nat}{e:En}(hd:ju l)(hi:l[i]? =some e):e.1 ∉(l.eraseIdx i).map (·.1):=by
 rw [Jk,bX];have e1:l=l.take i++e::l.drop (i+1):=by have:=qP i l;rw [zM (cK.1 hi).1] at this;rw [<-(cK.1 hi).2];exact this.symm
 unfold ju at hd;rw [e1,bX,fT] at hd;obtain ⟨h1,h2,h3⟩:=td.1 hd;intro hm;rcases c5.1 hm with hm|hm
 ·exact h3 _ hm _ (.head _) rfl
 ·exact (oY.1 h2).1 hm
def mem_erase{l:List En}(hn:ju l){i:Nat}{e:En}(hi:l[i]? =some e)(x:En):x ∈ l.eraseIdx i ↔ x ∈ l/\x.1≠e.1:=by
 have lq:e.1 ∉(l.eraseIdx i).map (·.1):=Tv hn hi;have ED:=cK.1 hi;have e1:l=l.take i++e::l.drop (i+1):=by have:=qP i l;rw [zM ED.1,ED.2] at this;exact this.symm
 have e2:x ∈ l ↔ x ∈ l.eraseIdx i\/x=e:=by
  rw [Jk];conv=>lhs;rw [e1]
  simp only [c5,cR];constructor
  ·rintro (h|h|h)
   ·exact .inl (.inl h)
   ·exact .inr h
   ·exact .inl (.inr h)
  ·rintro ((h|h)|h)
   ·exact .inl h
   ·exact .inr (.inr h)
   ·exact .inr (.inl h)
 constructor
 ·intro hx;exact ⟨e2.2 (.inl hx),λq=>lq (aY.2 ⟨x,hx,q⟩)⟩
 ·rintro ⟨hx,gy⟩;rcases e2.1 hx with h|h
  ·exact h
  ·exact absurd (by rw [h]) gy
def BP{l:List En}(hn:ju l)(i:Nat):ju (l.eraseIdx i):=hn.sublist ((wJ ..).map _)
def O1{l:List En}(hn:ju l){e:En}(h:¬ln l e.1):ju (l++ [e]):=by unfold ju;rw [bX];refine td.2 ⟨hn,by simp,?_⟩;intro a ha b hb q;simp at hb;obtain ⟨x,hx,rfl⟩:=aY.1 ha;exact h ⟨x,hx,q.trans hb⟩
def afX{ai:Int}{D:Dk}{l l':List En}(hn:ju l)(hn':ju l')(hm:∀x,x ∈ l' ↔ x ∈ l)(p:Po):Xw ai (D,l') p=Xw ai (D,l) p:=by
 by_cases hp:ln l p
 ·obtain ⟨x,hx,rfl⟩:=hp;rw [gm (T:=(D,l)) hn hx,gm (T:=(D,l')) hn' ((hm x).2 hx)]
 ·rw [ke (T:=(D,l)) hp,ke (T:=(D,l')) λ⟨x,hx,e⟩=>hp ⟨x,(hm x).1 hx,e⟩]
section
variable {w0 w w':World} {t:Nat} {ai limit:Int} {T:Tb}
end
def gT{p:Option Addr}{K:Prop}(hp:p.isSome=true)(h:K):aS (dK p) K:=bD.2 ⟨jl.2 hp,h⟩
def am5:E4 qD/\E4 ZQ:=by decide
def MK{F:Nat->Prop}{w:World}{t:Nat}{ai cap:Int}{T:Tb}(h:TF F w t ai cap T):ah 37 #[t] w λe w'=>∃s':Sl,e=s'/\aF w ZQ 2 w' s' (T.2.map λe=> [.int .i64 e.1.1,.int .i64 e.1.2])/\Ext w w':=by obtain ⟨st,d,r,sl,its,g1,e,rfl⟩:=h;rw [<-e];exact Xh g1
abbrev rR:TypeId:=133
abbrev kW:TypeId:=289
abbrev Cg:=Ce × Int
abbrev cgv(x:Cg):LV:=[.int .i64 x.1.1,.int .i64 x.1.2.1,.int .i64 x.1.2.2,.int .i64 x.2]
def WF(F:Nat->Prop)(w:World)(o t:Nat)(ai limit:Int)(T:Tb)(ch:List Cg):Prop:=
 ∃F1 sc,TF F1 w t ai limit T/\Row w o [t,.slice sc.a sc.n sc.c] rR/\aF 0 kW 4 w sc (ch.map cgv)/\F=λi=>F1 i\/i=o\/sc.bj=some i
def WF.lt{F:Nat->Prop}{w:World}{o t:Nat}{ai limit:Int}{T:Tb}{ch:List Cg}(h:WF F w o t ai limit T ch){i:Nat}(hi:F i):i<w:=by
 obtain ⟨F1,sc,h1,h2,h3,rfl⟩:=h;rcases hi with hi|rfl|hi
 ·exact h1.lt hi
 ·exact h2.lt
 ·exact (h3.own.lt hi).2
def WF.same{F:Nat->Prop}{w w':World}{o t:Nat}{ai limit:Int}{T:Tb}{ch:List Cg}(h:WF F w o t ai limit T ch)(hs:∀i,F i->w'.heap[i]? =w.heap[i]?):WF F w' o t ai limit T ch:=by obtain ⟨F1,sc,h1,h2,h3,rfl⟩:=h;exact ⟨F1,sc,h1.same λi hi=>hs i (.inl hi),h2.same (hs o (.inr (.inl rfl))),aF.dc h3 λb hb=>hs b (.inr (.inr hb)),rfl⟩
def WF.ext{F:Nat->Prop}{w w':World}{o t:Nat}{ai limit:Int}{T:Tb}{ch:List Cg}(h:WF F w o t ai limit T ch)(x:Ext w w'):WF F w' o t ai limit T ch:=h.same λ_ hi=>x.heap (h.lt hi)
def WF.dc{F G:Nat->Prop}{w w':World}{o t:Nat}{ai limit:Int}{T:Tb}{ch:List Cg}(h:WF F w o t ai limit T ch)(hm:Mod G w w')(hn:∀i,F i->¬G i):WF F w' o t ai limit T ch:=h.same λi hi=>hm.same i (h.lt hi) (hn i hi)
def WF.dR{F:Nat->Prop}{w:World}{o t:Nat}{ai limit:Int}{T:Tb}{ch:List Cg}(h:WF F w o t ai limit T ch){j:Nat}{cs:LV}{τ:TypeId}(hr:Row w j cs τ)(hτ:E4 τ)(hw:τ≠rR)(hc:τ≠kW):¬F j:=by
 obtain ⟨F1,sc,h1,h2,h3,rfl⟩:=h;rintro (hi|rfl|hi)
 ·exact h1.dR hr hτ hi
 ·exact hr.ne h2 hw rfl
 ·obtain ⟨cs',hr'⟩:=bh h3 aG hi;exact hr.ne hr' hc rfl
def WF.len{F:Nat->Prop}{w:World}{o t:Nat}{ai limit:Int}{T:Tb}{ch:List Cg}(h:WF F w o t ai limit T ch):(T.2.length:Int)<=limit/\1<=limit/\limit<=16:=by obtain ⟨F1,sc,h1,h2,h3,rfl⟩:=h;exact h1.len
def WF.A6{F:Nat->Prop}{w:World}{o t:Nat}{ai limit:Int}{T:Tb}{ch:List Cg}(h:WF F w o t ai limit T ch):um T.2:=by obtain ⟨F1,sc,h1,h2,h3,rfl⟩:=h;exact h1.A6
abbrev HS(F:Nat->Prop)(w:World)(o t:Nat)(ai limit:Int)(T:Tb)(ch:List Cg)(w':World):Prop:=∃F',WF F' w' o t ai limit T ch/\aO F F' w w'
def WF.table{F:Nat->Prop}{w:World}{o t:Nat}{ai limit:Int}{T:Tb}{ch:List Cg}(h:WF F w o t ai limit T ch):∃F1,TF F1 w t ai limit T/\(∀i,F1 i->F i)/\∀{w':World} {T':Tb},Rx F1 w t ai limit T' w'->HS F w o t ai limit T' ch w':=by
 obtain ⟨F1,sc,h1,h2,h3,rfl⟩:=h;refine ⟨F1,h1,λi hi=> .inl hi,?_⟩;rintro w' T' ⟨F',h',ht⟩;have n2:=h1.dR h2 aG;have n3:∀b,sc.bj=some b->¬F1 b:=λb hb=>by obtain ⟨cs',hr'⟩:=bh h3 aG hb;exact h1.dR hr' aG
 refine ⟨_,⟨F',sc,h',ht.mod.row h2 n2,ht.mod.iC h3 n3,rfl⟩,ht.mod.mono λi _ hi=> .inl hi,λi hi=> ?_⟩;rcases hi with hi|hi|hi
 ·exact (ht.sub i hi).imp .inl id
 ·exact .inl (.inr (.inl hi))
 ·exact .inl (.inr (.inr hi))
def Ja(ai limit room:Int)(w:World):ah 39 #[ai,limit,room] w λe w'=>∃o t F,e=Value.pointer (aB o)/\WF F w' o t ai (min (max limit 1) 16) (MI room,[]) []/\Ext w w'/\∀i,F i->w.heap.size<=i:=by
 apply V7.vc;refine (Ry ai limit room w).mono ?_;rintro e w0 ⟨t,F1,rfl,h0,x0,f0⟩;refine ⟨_,rfl,λw2 e2=>⟨w0.heap.size,t,_,rfl,⟨F1,⟨none,0,0⟩,h0.ext (aT e2),?_,aF.nil,rfl⟩,x0.bg e2,λi hi=> ?_⟩⟩
 ·rw [e2];exact Row.new w0 [_,_] _
 ·rcases hi with hi|hi|hi
  ·exact f0 i hi
  ·have:=x0.size;omega
  ·cases hi
def pX{F:Nat->Prop}{w:World}{o t:Nat}{ai limit:Int}{T:Tb}{ch:List Cg}(h:WF F w o t ai limit T ch):ah 19 #[o] w λe w'=>e=Value.pointer (aB t)/\w'=w:=by obtain ⟨F1,sc,h1,h2,h3,rfl⟩:=h;apply yW.vc;exact ⟨_,h2.at 0 rfl,rfl,rfl⟩
def gw{F:Nat->Prop}{w:World}{o t:Nat}{ai limit:Int}{T:Tb}{ch:List Cg}(h:WF F w o t ai limit T ch):ah 27 #[o] w λe w'=>e=Value.func (.func 83) #[t] #[]/\w'=w:=by obtain ⟨F1,sc,h1,h2,h3,rfl⟩:=h;apply A7.vc;exact ⟨_,h2.at 0 rfl,rfl,rfl⟩
def wsC(l:List En)(ch:List Cg)(c:Ce)(b:Int):List Cg:=if (fj l c b).2=0/\fx l c≠b then ch++ [(c,b)] else ch
def amM(a b c d:Int):One [Value.int .i64 a,b,c,d]:=by intro v hv;simp at hv;rcases hv with rfl|rfl|rfl|rfl<;>rfl
def V8{F:Nat->Prop}{w:World}{o t:Nat}{ai limit:Int}{T:Tb}{ch:List Cg}(h:WF F w o t ai limit T ch)(c:Ce)(hc:qC c)(b:Int)(hn:ch.length<=1000000):
  ah 161 #[o,eg c,.int .i64 b] w λe w'=>e=Value.int .i64 (fj T.2 c b).2/\HS F w o t ai limit (T.1,(fj T.2 c b).1) (wsC T.2 ch c b) w':=by
 have hF:=λ{i}=>h.lt (i:=i)
 have hh:=h;obtain ⟨F1,sc,h1,h2,h3,rfl⟩:=h;apply Dc.vc;intro w0 e0;have z0:=eN e0;have x0:Ext w w0.drew:=(aT e0).drew;have zd:=mN w0;refine ⟨_,(h2.ext x0).at 0 rfl,(Jb (h1.ext x0) c hc).mono ?_⟩;rintro e w2 ⟨rfl,x2⟩;have z2:=x2.size;have AI:=(x0.tr x2).drew;have zd2:=mN w2;refine ⟨_,rfl,x2.heap ab,_,(h2.ext AI).at 0 rfl,(Rz (h1.ext AI) c hc b).mono ?_⟩;rintro e w5 ⟨rfl,hT⟩;obtain ⟨F',hF',ht'⟩:=hT;have z5:=ht'.mod.size;have n2:=(h1.ext AI).dR (h2.ext AI) aG;have n3:∀b,sc.bj=some b->¬F1 b:=λb hb=>by obtain ⟨cs',hr'⟩:=bh (h3.ext AI) aG hb;exact (h1.ext AI).dR hr' aG
 have h2':=ht'.mod.row (h2.ext AI) n2;have h3':aF 0 kW 4 w5 sc (ch.map cgv):=ht'.mod.iC (h3.ext AI) n3;have nb:¬F1 w:=λhf=>by have:=hF (.inl hf);omega
 have tt:aO (λi=>F1 i\/i=o\/sc.bj=some i) (λi=>F' i\/i=o\/sc.bj=some i) w w5:=by
  refine (aO.aH AI).trans ⟨ht'.mod.mono λi _ hi=> .inl hi,λi hi=> ?_⟩;rcases hi with hi|hi|hi
  ·exact (ht'.sub i hi).imp .inl id
  ·exact .inl (.inr (.inl hi))
  ·exact .inl (.inr (.inr hi))
 refine ⟨_,rfl,ht'.mod.same _ ab nb,Br.mk (λhb=>Br.mk (λj8=> ?_) (λj8=> ?_)) (λhb=> ?_)⟩
 ·simp only [beq_iff_eq] at hb;simp only [bne_iff_ne] at j8;have ec:wsC T.2 ch c b=ch++ [(c,b)]:=by unfold wsC;rw [if_pos ⟨hb,j8⟩]
  rw [ec];have h2d:=h2'.ext (Ext.dr w5);have tL:sc.n=ch.length:=by have:=(h3.rd (show 0<4 by decide)).n;rwa [aN] at this
  refine ⟨sc,h2d.at 1 rfl,λw8 e8=> ?_⟩;subst e8;obtain ⟨hp,bu⟩:=(h3'.ext (Ext.dr w5)).iO (bytes:=32) (news:=cgv (c,b)) (.cells #[c.1,c.2.1,c.2.2,.int .i64 b] kW) (iI _) rfl (amM _ _ _ _) ab ab;refine ⟨hp,λs9 bN hr=> ?_⟩;obtain ⟨f1,anz,aAJ,xb,Y1,iQ⟩:=bu s9 bN hr;have zd5:=mN w5;have hol:=h2.lt;have asZ:∀b,sc.bj=some b->b<w.heap.size:=λb hb=>(h3.own.lt hb).2
  have m10:Mod (λj=>sc.bj=some j) w5 bN:=(Mod.aH (Ext.dr w5)).trans (Mod.xg xb Y1);have no:¬sc.bj=some o:=λe=>by obtain ⟨cs',hr'⟩:=bh h3 aG e;exact hr'.ne h2 aG rfl
  have anA:=m10.row h2' no;obtain ⟨p1,p2⟩:=anA.jm (j:=1) (v:=.slice s9.a s9.n s9.c) cj rfl;have Y6:=m10.size;have pb:∀j:Nat,o<j->bt (ae (aB o) 1)≠some j:=λj hj e=>by
   rw [de] at e;have:o=j:=by simpa [bt] using e
   omega
  refine ⟨(m10.same w ab (λe=>by have:=asZ _ e;omega)).trans ((Ext.al w5.drew _).heap (show w.heap.size<w5 by omega)).symm,f1,⟨rfl,p1⟩,pb _ ab,pb _ (show o<w5 by omega),λbc Da=>⟨rfl,?_⟩⟩;obtain ⟨q1,q2⟩:=p2 bc Da;have ho9:∀b,s9.bj=some b->b≠o:=λb hb=>by obtain ⟨cs',hr'⟩:=bh anz aG hb;exact hr'.ne anA aG
  have m11:Mod (λj=>j=o\/sc.bj=some j) w5 bc:=(m10.mono λi _ hi=> .inr hi).trans (q2.mono λi _ hi=> .inl hi);have as0:TF F' bc t ai limit (T.1,(fj T.2 c b).1):=hF'.dc m11 λi hi e=>by
   rcases e with e|e
   ·exact hF'.dR h2' aG (e▸hi)
   ·obtain ⟨cs',hr'⟩:=bh h3' aG e;exact hF'.dR hr' aG hi
  refine ⟨_,⟨F',s9,as0,q1,?_,rfl⟩,tt.trans ⟨m11.mono λi _ hi=> .inr hi,λi hi=> ?_⟩⟩
  ·rw [bX];exact q2.iC anz ho9
  ·rcases hi with hi|hi|hi
   ·exact .inl (.inl hi)
   ·exact .inl (.inr (.inl hi))
   ·rcases iQ with e|e
    ·exact .inl (.inr (.inr (by rw [<-e];exact hi)))
    ·rw [e] at hi;cases hi;exact .inr (show w5.heap.size<=w5.heap.size+1 by omega)
 ·simp only [bne_eq_false_iff_eq] at j8;have ec:wsC T.2 ch c b=ch:=by unfold wsC;rw [if_neg λh=>h.2 j8]
  rw [ec];exact ⟨rfl,_,⟨F',sc,hF',h2',h3',rfl⟩,tt⟩
 ·simp only [beq_eq_false_iff_ne] at hb;have ec:wsC T.2 ch c b=ch:=by unfold wsC;rw [if_neg λh=>hb h.1]
  rw [ec];exact ⟨rfl,_,⟨F',sc,hF',h2',h3',rfl⟩,tt⟩
def ae9(l:List En)(ch:List Cg)(c:Ce)(b:Int):(wsC l ch c b).length<=ch.length+1:=by
 unfold wsC;split
 ·simp
 ·omega
abbrev rQ(q:Po):LV:=[.int .i64 q.1,.int .i64 q.2]
def rT(p:Po):List Po:=[p,(p.1-1,p.2),(p.1+1,p.2),(p.1,p.2-1),(p.1,p.2+1)]
def KD(p:Po)(hp:V9 p)(w:World):ah 150 #[pv p] w λe w'=>e=Value.agg #[p.1,p.2,.int .i64 (p.1-1),p.2,.int .i64 (p.1+1),p.2,p.1,.int .i64 (p.2-1),p.1,.int .i64 (p.2+1)]/\Ext w w':=by
 apply MJ.vc;obtain ⟨⟨p1,p2⟩,p3,p4⟩:=hp;have q1:ak (p.1-1)=p.1-1:=wI;have q2:ak (p.1+1)=p.1+1:=wI;have q3:ak (p.2-1)=p.2-1:=wI;have q4:ak (p.2+1)=p.2+1:=wI;rw [q1,q2,q3,q4];intro w0 e0 w1 e1;have z0:=eN e0;have x1:Ext w w1:=(aT e0).bg e1;have hr:Row w1 w0 [aa,aa,aa,aa,aa,aa,aa,aa,aa,aa] 227:=Row.nw e1;refine ⟨⟨rfl,hr.wr cj⟩,λe=>by
  have:w0.heap.size=w.heap.size:=by simpa [bt] using e
  omega,λw2 e2=> ?_⟩
 have h1:One [Value.int .i64 p.1,p.2,.int .i64 (p.1-1),p.2,.int .i64 (p.1+1),p.2,p.1,.int .i64 (p.2-1),p.1,.int .i64 (p.2+1)]:=by intro v hv;simp only [cR,oQ,or_false] at hv;rcases hv with rfl|rfl|rfl|rfl|rfl|rfl|rfl|rfl|rfl|rfl<;>rfl
 rw [hr.aK cj h1] at e2;have qE:Row w2 w0 [p.1,p.2,.int .i64 (p.1-1),p.2,.int .i64 (p.1+1),p.2,p.1,.int .i64 (p.2-1),p.1,.int .i64 (p.2+1)] 227:=hr.st e2;exact ⟨_,_,_,_,_,_,_,_,_,_,qE.cg (λj hj=>by rw [eD]),rfl,x1.ag e2 ab⟩
def HT(s:Sl)(ps:List Po)(p:Po)(w:World)(hs:RdK w s 2 (ps.map rQ))(hn:ps.length<=1000):
  ah 213 #[s,pv p] w λe w'=>(∃r:Int,e=r/\(0<=r ↔ p ∈ ps))/\Ext w w':=by
 apply A8.vc;have tL:=hs.n;rw [aN] at tL;intro w0 e0;have x0:=aT e0;refine ⟨λn x w'=>∃j:Nat,x=j/\j+n=ps.length/\Ext w w'/\p ∉ ps.take j,⟨ps.length,rfl,0,rfl,by omega,x0,by simp⟩,?_⟩;rintro n us x w5 ⟨j,rfl,hj,x5,hnp⟩;apply Br.mk<;>intro hb
 ·replace hb:=nG hb;obtain ⟨y,hy⟩:=bB (l:=ps) (i:=j) ab;have jj:=hs.ext (x5.tr (Ext.dr _));refine ⟨hs.iz (i:=(j:Int)) aG ab hb,y.1,y.2,jj.cg (i:=j) (r:=rQ y) (by rw [aV,hy];rfl),Br.mk (λh1=> ?_) (λh1=> ?_)⟩
  ·simp only [fy,beq_iff_eq] at h1;have:p=y:=Prod.ext h1.1 h1.2;exact ⟨⟨_,rfl,λ_=>by rw [this];exact aU hy,λ_=>by omega⟩,x5.tr (Ext.dr _)⟩
  ·have wk:=nY (j:=j);refine ⟨n-1,by omega,rfl,j+1,wk,by omega,x5.tr (Ext.dr _),?_⟩;rw [dP,hy];intro hm;rcases c5.1 hm with hm|hm
   ·exact hnp hm
   ·simp only [Option.toList_some,gU] at hm;subst hm;simp at h1
 ·replace hb:=nT hb;rw [fz ab] at hnp;exact ⟨⟨-1,rfl,λh=>by omega,λh=>absurd h hnp⟩,x5⟩
def A9(s:Sl)(ps:List Po)(p:Po)(w:World)(hs:RdK w s 2 (ps.map rQ))(hn:ps.length<=1000):
  ah 151 #[s,pv p] w λe w'=>e=Value.bool (decide (p ∈ ps))/\Ext w w':=by
 apply vI.vc;intro w0 e0;have z0:=eN e0;have x0:=aT e0;refine (HT s ps p w0 (hs.ext x0) hn).mono ?_;rintro e w1 ⟨⟨r,rfl,hr⟩,x1⟩;refine ⟨r,rfl,x1.heap ab,?_,x0.tr x1⟩;have:decide (r>=0)=decide (p ∈ ps):=by rw [decide_eq_decide];exact hr
 rw [this]
def afa{c:Ce}(hc: -1000000000<=c.1/\c.1<=1000000000)(hz: -1000000000<=c.2.2/\c.2.2<=1000000000):V9 (pos c):=by unfold V9 pos;simp only;omega
def E5(l:List En)(c:Ce):Bool:=(rT (pos c)).all λq=>decide (q ∈ l.map (·.1))
def uo{F:Nat->Prop}{w:World}{o t:Nat}{ai limit:Int}{T:Tb}{ch:List Cg}(h:WF F w o t ai limit T ch)(c:Ce)(hc:qC c)(hp:V9 (pos c)):
  ah 100 #[o,eg c] w λe w'=>e=Value.bool (E5 T.2 c)/\Ext w w':=by
 obtain ⟨F1,sc,hT,hR,hO,rfl⟩:=h;apply yX.vc;have dD:=hT.len;intro w1 e1;have z1:=eN e1;have x1:=aT e1;refine ⟨_,(hR.ext x1).at 0 rfl,(MK (hT.ext x1)).mono ?_⟩;rintro e w2 ⟨s',rfl,ho,x2⟩;have z2:=x2.size;have jj:RdK w2 s' 2 ((T.2.map (·.1)).map rQ):=by rw [mS];exact ho.rd (show 0<2 by decide)
 refine ⟨s',rfl,x2.heap ab,(pY c hc w2).mono ?_⟩;rintro e w4 ⟨rfl,x4⟩;have z4:=x4.size;refine ⟨_,_,rfl,x4.heap ab,(KD (pos c) hp w4).mono ?_⟩;rintro e w7 ⟨rfl,x7⟩;have z7:=x7.size;have cZ:=x1.tr (x2.tr (x4.tr x7));unfold E5;generalize pos c=p at*;have hpl:(T.2.map (·.1)).length<=1000:=by rw [aN];omega
 generalize T.2.map (·.1)=ps at*;refine ⟨_,_,_,_,_,_,_,_,_,_,rfl,x7.heap ab,λn x w'=>∃j:Nat,x=j/\j+n=5/\Ext w7 w'/\∀q ∈(rT p).take j,q ∈ ps,⟨5,rfl,0,rfl,rfl,Ext.cu _,by simp⟩,?_⟩;rintro n us x cV ⟨j,rfl,hj,dT,mu⟩;have z25:=dT.size;apply Br.mk<;>intro hb
 ·replace hb:=nG hb;have hex:∃q:Po,(([p.1,p.2,.int .i64 (p.1-1),p.2,.int .i64 (p.1+1),p.2,p.1,.int .i64 (p.2-1),p.1,.int .i64 (p.2+1)]:LV).drop (((j:Nat):Int).toNat*2)).take 2=[.int .i64 q.1,.int .i64 q.2]/\(rT p)[j]? =some q:=by
   have:j=0\/j=1\/j=2\/j=3\/j=4:=by omega
   rcases this with rfl|rfl|rfl|rfl|rfl
   ·exact ⟨p,rfl,rfl⟩
   ·exact ⟨(p.1-1,p.2),rfl,rfl⟩
   ·exact ⟨(p.1+1,p.2),rfl,rfl⟩
   ·exact ⟨(p.1,p.2-1),rfl,rfl⟩
   ·exact ⟨(p.1,p.2+1),rfl,rfl⟩
  obtain ⟨q,hq1,B4⟩:=hex;refine ⟨⟨by omega,by omega⟩,q.1,q.2,hq1,λdX Qk fw Mc=> ?_⟩;have iM:Ext cV fw:=(aT Qk).ag Mc (aD _);have z30:fw.heap.size=cV.heap.size+1:=by rw [Mc,setRow_size,Qk];simp
  have xx:Ext w2 fw:=x4.tr (x7.tr (dT.tr iM));refine (A9 s' ps q fw (jj.ext xx) hpl).mono ?_;rintro e gA ⟨rfl,iB⟩;have wk:=nY (j:=j);refine ⟨_,rfl,iB.heap ab,iB.heap ab,Br.mk (λh1=> ?_) (λh1=> ?_)⟩
  ·refine ⟨?_,cZ.tr ((dT.tr iM).tr iB)⟩;have hnq:q ∉ ps:=by simpa using h1
   have:((rT p).all λq=>decide (q ∈ ps))=false:=by rw [List.all_eq_false];exact ⟨q,aU B4,by simpa using hnq⟩
   rw [this]
  ·have hyq:q ∈ ps:=by simpa using h1
   refine ⟨n-1,by omega,rfl,j+1,wk,by omega,(dT.tr iM).tr iB,?_⟩;rw [dP,B4];intro y hy;rcases c5.1 hy with hy|hy
   ·exact mu y hy
   ·simp only [Option.toList_some,gU] at hy;subst hy;exact hyq
 ·replace hb:=nT hb;refine ⟨?_,cZ.tr dT⟩;rw [fz (show (rT p).length<=j by unfold rT;simp;omega)] at mu;have:((rT p).all λq=>decide (q ∈ ps))=true:=by rw [E6];exact λq hq=>by simpa using mu q hq
  rw [this]
section
variable {N F F':Nat->Prop} {w w' v v':World} {s1 s2 s3 s4:Sl} {T T':Tb} {ch ch':List Cg} {ai cap limit:Int} {o t a b m n k:Nat}
def uc(h:WF F w o t ai limit T ch)(hW:T.1.l.length<=1000000)(p:Po):
  ah 20 #[t,pv p] w λe w'=>e=Value.int .i64 (HI ai limit T.1 T.2 p).2/\HS F w o t ai limit (HI ai limit T.1 T.2 p).1 ch w':=by
 obtain ⟨F1,hT,-,bu⟩:=h.table;refine (Oo hT hW p).mono ?_;rintro e w' ⟨rfl,hr⟩;exact ⟨rfl,bu hr⟩
def wo(h:WF F w o t ai limit T ch)(hW:T.1.l.length<=1000000)(p:Po):
  ah 21 #[t,pv p] w λe w'=>e=Value.int .i64 (m4 T.1 T.2 p).2/\HS F w o t ai limit (m4 T.1 T.2 p).1 ch w':=by
 obtain ⟨F1,hT,-,bu⟩:=h.table;refine (Ic hT hW p).mono ?_;rintro e w' ⟨rfl,hr⟩;exact ⟨rfl,bu hr⟩
def Xn(h:WF F w o t ai limit T ch)(c:Ce)(hc:qC c):
  ah 83 #[t,eg c] w λe w'=>e=Value.int .i64 (fx T.2 c)/\Ext w w':=by
 obtain ⟨F1,hT,-⟩:=h.table;exact Jb hT c hc
set_option maxRecDepth 100000 in
def WF.am3{F:Nat->Prop}{w:World}{T:Tb}{ch:List Cg}{ai limit:Int}{o t:Nat}(h:WF F w o t ai limit T ch){w':World}(hk:∀i,F i->w'.heap[i]? =w.heap[i]?)(c:Ce)(hc:qC c):
  cL Tryz.prog (.func (.func 83) #[t] #[]) [eg c] w' λe w''=>e=Value.int .i64 (fx T.2 c)/\Ext w' w'':=
 c9 (by kernel_rfl) rfl (Xn (h.same hk) c hc)
end
def Lo.wv{w:World}{g:Nat}{cs:LV}{τ:TypeId}(h:Row w g cs τ):af w (aB g) 0 cs:=h.cg (λj hj=>by rw [eD])
end Go.Proofs.YtkkkfkopcfdmaaaGreatDoor
