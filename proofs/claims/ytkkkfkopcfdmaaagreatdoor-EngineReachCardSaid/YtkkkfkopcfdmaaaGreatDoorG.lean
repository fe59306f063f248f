import Derived.Test.YtkkkfkopcfdmaaaGreatDoorE
import Derived.Test.YtkkkfkopcfdmaaaGreatDoorD
import Derived.Laws.IdiomRangeMap
import Derived.LoopTactic
import Derived.Test.YtkkkfkopcfdmaaaGreatDoorF
set_option linter.all false
namespace Go.Proofs.YtkkkfkopcfdmaaaGreatDoor
open Go Go.Vc Go.RowKit Go.Proofs Go.dJ Go.bj Go.Code
theorem JC(v:oB)(w:World):ah 321 #[.int .u16 (cI v)] w λe w'=>e=Value.int .u16 (cI (Sn v))/\w'=w:=by
 apply LU.vc;have e1:mw (cI v*2 ^(min (1:Int).toNat 16))=cI (v<<<1):=So v 1;have e2:nL .u16 (cI v) 32768=cI (v &&& 0x8000#16):=agB v 0x8000#16;have e3:ky .u16 (cI (v<<<1)) 4129=cI ((v<<<1) ^^^ 0x1021#16):=EP _ 0x1021#16;apply Br.mk<;>intro h
 ·rw [e2] at h;have hm:v.msb=true:=by
   cases q:v.msb with
   |true=>rfl
   |false=>rw [(Sp v).2 q] at h;simp at h
  rw [e1,e3];unfold Sn;rw [if_pos hm];exact ⟨rfl,rfl⟩
 ·rw [e2] at h;have hm:v.msb=false:=(Sp v).1 (by simpa using h);rw [e1];unfold Sn;rw [hm];exact ⟨rfl,rfl⟩
abbrev Mk:TypeId:=358
abbrev tA2:TypeId:=321
def itS:Nat->oB->oB
 |0,v=>v
 |k+1,v=>Sn (itS k v)
theorem Gu(w:World):ah 310 #[] w λe w'=>e=Value.agg tS.toArray/\Ext w w':=by
 apply UU.vc;intro w0 e0 w1 e1;have z0:=eG e0;have x1:Ext w w1:=(aL e0).bn e1;have ha:Row w1 w (tT 0) Mk:=(by rw [e0];exact Row.new w (tT 0) _:Row w0 w (tT 0) Mk).ext (aL e1);have hb:Row w1 w0 (tT 0) Mk:=by rw [e1];exact Row.new w0 (tT 0) _
 refine ⟨λn i wr=>∃k:Nat,i=k/\k+n=16/\Row wr w (tT 0) Mk/\Row wr w0 (tT k) Mk/\Ext w wr,⟨16,0,rfl,rfl,ha,hb,x1⟩,?_⟩;rintro n3 us4 x5 w6 ⟨k,rfl,hk,ha6,hb6,x6⟩;apply Br.mk<;>intro hc
 ·replace hc:=mh hc;have ek:mw (mw (k:Int)*2 ^(min (12:Int).toNat 16))=cI (yB (k:Int)<<<12):=by
   have:mw (k:Int)=cI (yB (k:Int)):=by rw [Qq ab,wrap_u16];omega
   rw [this];exact So _ 12
  rw [ek];refine ⟨λn j c wr=>∃m:Nat,j=m/\m+n=4/\c=cI (itS m (yB (k:Int)<<<12))/\wr=w6,⟨4,0,rfl,rfl,rfl,rfl⟩,?_⟩;rintro n9 Wv bC bN bJ ⟨m,rfl,hm,rfl,rfl⟩;apply Br.mk<;>intro nE
  ·replace nE:=mh nE;have wk:=mz (j:=m);refine (JC _ _).mono ?_;rintro e eA ⟨rfl,hw⟩;exact ⟨_,rfl,n9-1,by omega,m+1,wk,by omega,rfl,hw⟩
  ·replace nE:=my nE;have hm4:m=4:=by omega
   subst hm4;have wk:=mz (j:=k);have dI:(tT k).length=16:=by unfold tT;rw [dm,du,Ev];simp [tS];omega
   obtain ⟨p1,p2⟩:=hb6.je (j:=k) (v:=tv k) ab rfl;have hj:((k:Int)).toNat*1=k:=by omega
   rw [hj];refine ⟨by omega,by omega,⟨rfl,p1⟩,λcL ze=> ?_⟩;obtain ⟨q1,q2⟩:=p2 cL ze;rw [show aR (tT k) k [tv k]=(tT k).set k (tv k) from rfl,agC ab] at q1;exact ⟨n3-1,by omega,k+1,wk,by omega,q2.row ha6 (by have:=x1.size;omega),q1,q2.ext x6 (by intro i hi;omega)⟩
 ·replace hc:=my hc;have:k=16:=by omega
  subst this;have hl:ag w6 (some ⟨w0.heap.size,0,none⟩) 0 tS:=hb6.bZ λj hj=>by rw [ep];rfl
  have hs:=ha6.aH (o:=0) (vs:=tS) aF (by intro v hv;simp only [tS,cB,jQ,or_false] at hv;rcases hv with rfl|rfl|rfl|rfl|rfl|rfl|rfl|rfl|rfl|rfl|rfl|rfl|rfl|rfl|rfl|rfl<;>rfl);refine ⟨_,_,_,_,_,_,_,_,_,_,_,_,_,_,_,_,hl,⟨rfl,ha6.wr (o:=0) (n:=16) aF⟩,λjc e34=> ?_⟩;have amb:jc=w6.setRow w tS.toArray:=e34.trans hs;have hr:Row jc w tS Mk:=by rw [amb];exact ha6.set tS
  have JM:ag jc (some ⟨w.heap.size,0,none⟩) 0 tS:=hr.bZ λj hj=>by rw [ep]
  exact ⟨_,_,_,_,_,_,_,_,_,_,_,_,_,_,_,_,JM,rfl,x6.ae amb (aB _)⟩
theorem JD(v:oB)(s:Sl)(b:List Int)(w:World)(hs:jf w s b)(hb:mY b)(hn:(b.length:Int)<=1099511627776):ah 297 #[.int .u16 (cI v),s] w λe w'=>e=Value.int .u16 (cI (Qs v b))/\Ext w w':=by
 apply (Ey.vc (a1:=s));refine (Gu w).mono ?_;rintro e w0 ⟨rfl,x0⟩;refine ⟨_,_,_,_,_,_,_,_,_,_,_,_,_,_,_,_,rfl,λcL ze=> ?_⟩;have aa5:Row cL w0 (tT 0) Mk:=by rw [ze];exact Row.new w0 (tT 0) _
 have hS:=aa5.aH (o:=0) (vs:=tS) aF (by intro v hv;simp only [tS,cB,jQ,or_false] at hv;rcases hv with rfl|rfl|rfl|rfl|rfl|rfl|rfl|rfl|rfl|rfl|rfl|rfl|rfl|rfl|rfl|rfl<;>rfl);refine ⟨⟨rfl,aa5.wr (o:=0) (n:=16) aF⟩,λdG We=> ?_⟩;have amc:dG=cL.setRow w0 tS.toArray:=We.trans hS;have hr:Row dG w0 tS Mk:=by rw [amc];exact aa5.set tS
 have cp:Ext w dG:=x0.tr ((aL ze).ae amc (aB _));have amd:=hs.ext cp;have tR:=hs.n;rw [aN] at tR;refine ⟨λn i c wr=>∃k:Nat,i=k/\k+n=b.length/\c=cI (Qs v (b.take k))/\wr=dG,⟨b.length,0,rfl,by omega,rfl,rfl⟩,?_⟩;rintro n us i c wr ⟨k,rfl,hk,rfl,rfl⟩;apply Br.mk<;>intro hc
 ·replace hc:=mh hc;obtain ⟨x,hx⟩:=bI (l:=b) (i:=k) ab;have hxb:=hb x (bg hx);have hm:(b.map yv)[k]? =some [.int .u8 x]:=by rw [aU,hx];rfl
  have jq:=amd.at hm (j:=0) rfl;rw [fK] at jq;have wk:=mz (j:=k);have ht:b.take (k+1)=b.take k++ [x]:=by rw [dD,hx];rfl
  generalize hu:Qs v (b.take k)=u;refine ⟨amd.g9 aF ab hc,x,jq,?_⟩;have m1:(min (12:Int).toNat 16)=12:=rfl;have m2:(min (4:Int).toNat 8)=4:=rfl;have m3:(min (4:Int).toNat 16)=4:=rfl;rw [m1,m2,m3,Zg,aoZ hxb,EP,ao0 hxb,So];have l1:=Zh (Zi u) (aeR hxb);have g1:=aeS l1;have c1:=Bz ((u>>>12) ^^^(yB x>>>4));have c1':cI ((u>>>12) ^^^(yB x>>>4))<16:=by unfold cI;omega
  refine ⟨by omega,by omega,_,(by rw [bf,ep,hr.ld,Nat.mul_one];exact g1),?_⟩;rw [EP,Zg,EP,So];have l2:=Zh (Zi ((u<<<4) ^^^ HX (((u>>>12) ^^^(yB x>>>4))<<<12))) (aeT (yB x));have g2:=aeS l2;have c2:=Bz ((((u<<<4) ^^^ HX (((u>>>12) ^^^(yB x>>>4))<<<12))>>>12) ^^^(yB x &&& 15#16));have c2':cI ((((u<<<4) ^^^ HX (((u>>>12) ^^^(yB x>>>4))<<<12))>>>12) ^^^(yB x &&& 15#16))<16:=by unfold cI;omega
  refine ⟨by omega,by omega,_,(by rw [bf,ep,hr.ld,Nat.mul_one];exact g2),n-1,by omega,k+1,wk,by omega,?_,rfl⟩;rw [EP,Vk u hxb,ht,Ml,hu];rfl
 ·replace hc:=my hc;rw [fC ab];exact ⟨rfl,cp⟩
theorem Dt(s:Sl)(b:List Int)(w:World)(hs:jf w s b)(hb:mY b)(hn:(b.length:Int)<=1099511627776):ah 269 #[s] w λe w'=>e=Value.int .u16 (cI (vC b))/\Ext w w':=by
 apply (agp.vc (a0:=s));have st:ah 296 #[] w λe w'=>e=Value.int .u16 (cI 0xFFFF#16)/\w'=w:=by apply UT.vc;exact ⟨rfl,rfl⟩
 refine st.mono ?_;rintro e w0 ⟨rfl,rfl⟩;refine ⟨_,rfl,(JD _ s b w0 hs hb hn).mono ?_⟩;rintro e w2 ⟨rfl,x2⟩;exact ⟨_,rfl,rfl,x2⟩
theorem ID(s:Sl)(b:List Int)(w:World)(hs:jf w s b)(hb:mY b)(hn:(b.length:Int)<=1099511627776):ah 281 #[s] w λe w'=>e=Value.bool (decide (2<=b.length/\vC b=0#16))/\Ext w w':=by
 apply (YN.vc (a0:=s));have tR:=hs.n;rw [aN] at tR;apply Br.mk<;>intro h
 ·simp only [ge_iff_le,cQ] at h;refine (Dt s b w hs hb hn).mono ?_;rintro e w0 ⟨rfl,x0⟩;refine ⟨_,rfl,?_,x0⟩;have:(cI (vC b)==0)=decide (2<=b.length/\vC b=0#16):=by
   rw [Bool.eq_iff_iff];simp only [beq_iff_eq,cQ];constructor
   ·intro q;exact ⟨by omega,Qt.1 (q.trans rfl)⟩
   ·rintro ⟨-,q⟩;rw [q];rfl
  rw [this]
 ·simp only [ge_iff_le,fa] at h;rw [decide_eq_false ab];exact ⟨rfl,Ext.cE _⟩
theorem F7(v:oB)(w:World):ah 270 #[.int .u16 (cI v)] w λe w'=>e=Value.agg #[.int .u8 (cI v / 256),.int .u8 (cI v % 256)]/\Ext w w':=by
 apply Cb.vc;intro w0 e0;have hb:=Bz v;have h0:Row w0 w [.int .u8 0,.int .u8 0] tA2:=Row.nw e0;have e1:eY ((cI v).fdiv (2 ^(min (8:Int).toNat 16)))=cI v / 256:=by show eY ((cI v).fdiv (2 ^ 8))=_;rw [Zg,Qu,wrap_u8];simp only [show (2:Int) ^ 8=256 from rfl];omega
 have e2:eY (cI v)=cI v % 256:=wrap_u8 _;rw [e1,e2];have hS:=h0.aH (o:=0) (vs:=[.int .u8 (cI v / 256),.int .u8 (cI v % 256)]) (aB 2) (zE _ _ _ _);refine ⟨⟨rfl,h0.wr (o:=0) (n:=2) aF⟩,λw1 e1=> ?_⟩;have e1':w1=w0.setRow w #[.int .u8 (cI v / 256),.int .u8 (cI v % 256)]:=e1.trans hS;have h1:Row w1 w [.int .u8 (cI v / 256),.int .u8 (cI v % 256)] tA2:=by rw [e1'];exact h0.set _
 exact ⟨_,_,h1.bZ (λj hj=>by rw [ep]),rfl,(aL e0).ae e1' (aB _)⟩
abbrev tSB:TypeId:=62
theorem jf.n{w:World}{s:Sl}{b:List Int}(h:jf w s b):s.n=b.length:=by have:=RdK.n h;rwa [aN] at this
theorem RM{b:List Int}:∀r ∈ b.map yv,r.length=1:=λr hr=>by obtain ⟨x,_,rfl⟩:=aZ.1 hr;rfl
theorem oV(s:Sl)(b:List Int)(w:World)(hs:jf w s b)(hn:b.length<=1099511627776):
  ah 230 #[s] w λe w'=>∃s':Sl,e=s'/\mA w w' s' b/\Ext w w':=by
 have tR:=jf.n hs;apply (xC.vc (a0:=s));apply Br.mk<;>intro h
 ·have:b=[]:=by
   rcases Nat.eq_zero_or_pos b.length with h0|h0
   ·exact List.eq_nil_of_length_eq_zero h0
   ·have:=RdK.isSome hs ab (i:=0) (by simpa using h0)
    cases hsa:s.a<;>simp [hsa] at h this
  subst this;exact ⟨⟨none,0,0⟩,rfl,aC.nil,Ext.cE w⟩
 ·rintro w0 rfl;have xa:=Ext.al w (.cells #[] hX);have hz:aC w hX 1 (w.alloc (.cells #[] hX)) ⟨some ⟨w.heap.size,0,none⟩,0,0⟩ []:=aC.jg (aB _) (Row.new w [] hX) bB (aB _) rfl (λr hr=>by cases hr);have hb:=hz.FY (bytes:=1) (more:=b.map yv) xa.size RM (Xy _) (by simp only [aN];omega) (by simp only [aN];omega);rw [aN,<-tR] at hb;obtain ⟨hp,hr⟩:=hb;refine ⟨(b.map yv).flatten,RdK.flat (hs.ext xa) ab,hp,λs2 w3 bw=> ?_⟩;obtain ⟨ho,SY,xb,_,_⟩:=hr s2 w3 bw;exact ⟨oW bw (by rw [bK RM,aN,tR]) bB,s2,rfl,ho,xa.trans xb⟩
theorem IA(n:Nat)(w:World)(hn:n<=1099511627776):Calls Tryz.prog 271 #[.slice none 0 0,.int .i64 n] w λe w'=>∃s':Sl,e=.returned (.slice s'.a s'.n s'.c)/\mA w.heap.size w' s' []/\Ext w w':=by
 apply (zD.vc (a0:=⟨none,0,0⟩));have e1:IntKind.wrap .i64 ((n:Int)-IntKind.wrap .i64 (((0:Nat):Int)-((0:Nat):Int)))=n:=by rw [aK (n:=((0:Nat):Int)-((0:Nat):Int)) (by unfold inI;omega),wI];omega
 refine Br.mk (λh=>by simp at h;omega) (λ_=> ?_);rw [e1];refine Br.mk (λh=> ?_) (λh=> ?_)
 ·have h0:aC w.heap.size hX 1 w ⟨none,0,0⟩ []:=aC.nil;have hb:=h0.FY (bytes:=1) (more:=(List.replicate n (yv 0))) (Nat.le_refl _) (λr hr=>by rw [(List.mem_replicate.1 hr).2];rfl) (λr hr=>by rw [(List.mem_replicate.1 hr).2];exact te _ _) (by simp only [List.length_replicate];omega) (by simp only [List.length_replicate];omega);rw [List.length_replicate] at hb;obtain ⟨hp,hr⟩:=hb;refine ⟨by omega,by omega,⟨by omega,wI,by omega⟩,hp,λs0 w1 bw=> ?_⟩;obtain ⟨ho,SY,xb,_,_⟩:=hr s0 w1 bw;have hle:=aC.le ho;refine ⟨by omega,by omega,⟨s0.a,0,s0.c⟩,by rw [ed];rfl,?_,xb⟩;rcases ho.form (by decide) with ⟨rfl,-⟩|⟨g,cs,ha,hg,cO,hc,hnn,ht,hl⟩
  ·exact aC.nil
  ·rw [ha];exact aC.jg hg cO hc (Nat.zero_le _) (by simp) (λr hr=>by cases hr)
 ·exact ⟨⟨none,0,0⟩,rfl,aC.nil,Ext.cE _⟩
abbrev sy(xs:List (Sl × List Int)):List Int:=xs.flatMap (·.2)
theorem Hg(xs:List (Sl × List Int)){k:Nat}{x:Sl × List Int}(h:xs[k]? =some x):sy (xs.take (k+1))=sy (xs.take k)++x.2:=by rw [dD,h];simp [sy]
theorem RN(xs:List (Sl × List Int))(k:Nat):(sy (xs.take k)).length<=(sy xs).length:=by have e:=congrArg (λl=>(sy l).length) (List.take_append_drop k xs);simp only [List.flatMap_append,dm] at e;have h1:(sy (xs.take k)).length=(List.flatMap (λx=>x.2) (xs.take k)).length:=rfl;have h2:(sy xs).length=(List.flatMap (λx=>x.2) xs).length:=rfl;omega
theorem A6(s:Sl)(xs:List (Sl × List Int))(w:World)(hs:RdK w s 1 (xs.map λx=> [.slice x.1.a x.1.n x.1.c]))(hr:∀x ∈ xs,jf w x.1 x.2)(hl:xs.length<=1000)(hn:(sy xs).length<=1099511627776):
  Calls Tryz.prog 226 #[.slice s.a s.n s.c] w λe w'=>∃s':Sl,e=.returned (.slice s'.a s'.n s'.c)/\mA w.heap.size w' s' (sy xs)/\Ext w w':=by
 apply (vB.vc (a0:=s));have tR:=hs.n;rw [List.length_map] at tR;have row:∀{k:Nat} {w':World},Ext w w'->k<xs.length->∃x,xs[k]? =some x/\eo s.a (k:Int) s.n/\ld w' (af s.a (((k:Nat):Int).toNat*1))=some (.slice x.1.a x.1.n x.1.c)/\jf w' x.1 x.2:=λ{k w'} x' hk=>by
  obtain ⟨x,hx⟩:=bI (l:=xs) (i:=k) hk;have hs':=hs.ext x';have hm:(xs.map λx=> [Value.slice x.1.a x.1.n x.1.c])[k]? =some [.slice x.1.a x.1.n x.1.c]:=by rw [List.getElem?_map,hx];rfl
  have jq:=hs'.at hm (j:=0) rfl;rw [fK] at jq;exact ⟨x,hx,hs'.g9 (by decide) (by omega) (by omega),jq,(hr x (List.mem_of_getElem? hx)).ext x'⟩
 refine ⟨λn i z wr=>∃k:Nat,i=k/\k+n=xs.length/\z=((sy (xs.take k)).length:Nat)/\wr=w,⟨xs.length,0,rfl,by omega,rfl,rfl⟩,?_⟩;rintro n us i z wr ⟨k,rfl,hk,rfl,rfl⟩;refine Br.mk (λhc=> ?_) (λhc=> ?_)
 ·replace hc:=mh hc;obtain ⟨x,hx,oq,jq,hrx⟩:=row (k:=k) (Ext.cE _) (by omega);have h1:=RN xs (k+1);have ht:=Hg xs hx;have hxn:=jf.n hrx;have wz:IntKind.wrap .i64 (((sy (xs.take k)).length:Int)+((x.1.n:Nat):Int))=((sy (xs.take (k+1))).length:Nat):=by rw [ht,List.length_append];rw [ht,List.length_append] at h1;rw [wI];omega
  have wk:IntKind.wrap .i64 ((k:Int)+1)=((k+1:Nat):Int):=by rw [wI];omega
  refine ⟨oq,x.1,jq,?_⟩;rw [wz];refine Br.mk (λh=>by simp at h;omega) (λ_=>⟨n-1,by omega,k+1,wk,by omega,rfl,rfl⟩)
 ·replace hc:=my hc;rw [List.take_of_length_le (by omega)];refine (IA _ _ hn).mono ?_;rintro e w8 ⟨s9,rfl,ho,x8⟩;refine ⟨s9,rfl,λn i s QY=>∃k:Nat,i=k/\k+n=xs.length/\mA wr.heap.size QY s (sy (xs.take k))/\Ext wr QY,⟨xs.length,0,rfl,by omega,ho,x8⟩,?_⟩;rintro sb ag0 i ZR eA ⟨k2,rfl,Fb,V9,cA⟩;refine Br.mk (λnE=> ?_) (λnE=> ?_)
  ·replace nE:=mh nE;obtain ⟨x,hx,oq,jq,hrx⟩:=row (k:=k2) cA (by omega);have h1:=RN xs (k2+1);have ht:=Hg xs hx;have hxn:=jf.n hrx;have ZS:=jf.n (mA.FZ V9);rw [ht,List.length_append] at h1;have wk:IntKind.wrap .i64 ((k2:Int)+1)=((k2+1:Nat):Int):=by rw [wI];omega
   have hb:=aC.FY V9 (bytes:=1) (more:=x.2.map yv) cA.size RM (Xy _) (by simp only [List.length_map];omega) (by simp only [List.length_map];omega);rw [List.length_map,<-hxn] at hb;obtain ⟨hp,bw⟩:=hb;refine ⟨oq,x.1,jq,(x.2.map yv).flatten,RdK.flat hrx (by omega),hp,λWa fx apl=> ?_⟩;obtain ⟨apm,_,xb,_,_⟩:=bw Wa fx apl;refine ⟨sb-1,by omega,k2+1,wk,by omega,?_,cA.trans xb⟩;rw [ht];show aC _ _ _ _ _ _;rw [List.map_append];exact apm
  ·replace nE:=my nE;rw [List.take_of_length_le (by omega)] at V9;exact ⟨ZR,rfl,V9,cA⟩
theorem KE(s:Sl)(b:List Int)(w:World)(hs:jf w s b)(hb:mY b)(hn:b.length+2<=1099511627776):ah 225 #[s] w λe w'=>∃s':Sl,e=s'/\mA w w' s' (A7 b)/\Ext w w':=by
 apply (aca.vc (a0:=s));refine (Dt s b w hs hb ab).mono ?_;rintro e w0 ⟨rfl,x0⟩;refine ⟨_,rfl,(F7 _ w0).mono ?_⟩;rintro e w2 ⟨rfl,x2⟩;refine ⟨_,_,rfl,λw5 e5=> ?_⟩;have h5:Row w5 w2 [.int .u8 0,.int .u8 0] tA2:=Row.nw e5;have hS:=h5.aH (o:=0) (vs:=[.int .u8 (cI (vC b) / 256),.int .u8 (cI (vC b) % 256)]) (aB 2) (zE _ _ _ _);refine ⟨⟨rfl,h5.wr (o:=0) (n:=2) aF⟩,λw6 e6 w7 e7=> ?_⟩;have e6':w6=w5.setRow w2 #[.int .u8 (cI (vC b) / 256),.int .u8 (cI (vC b) % 256)]:=e6.trans hS;have h6:Row w6 w2 [.int .u8 (cI (vC b) / 256),.int .u8 (cI (vC b) % 256)] tA2:=by rw [e6'];exact h5.set _
 have fE:Ext w2 w6:=(aL e5).ae e6' (aB _);have mP:=aL e7;have x7:=x0.tr (x2.tr (fE.tr mP));have hc:jf w7 ⟨some ⟨w2.heap.size,0,none⟩,2,2⟩ (IB b):=by
  refine ⟨rfl,RM,λi r hi j v hj=> ?_⟩;have h7:=h6.ext mP;rw [bf,ep,h7.ld]
  match i,hi with
  |0,hi=>cases hi;match j,hj with
   |0,hj=>cases hj;rfl
  |1,hi=>cases hi;match j,hj with
   |0,hj=>cases hj;rfl
  |i+2,hi=>simp [IB] at hi
 have hl:RdK w7 ⟨some ⟨w6.heap.size,0,none⟩,2,2⟩ 1 ([(s,b),(⟨some ⟨w2.heap.size,0,none⟩,2,2⟩,IB b)].map λx=> [.slice x.1.a x.1.n x.1.c]):=by
  have h7:Row w7 w6 [s,.slice (some ⟨w2.heap.size,0,none⟩) 2 2] tSB:=by rw [e7,ed];exact Row.new w6 [_,_] _
  refine ⟨rfl,λr hr=>by simp at hr;rcases hr with rfl|rfl<;>rfl,λi r hi j v hj=> ?_⟩;rw [bf,ep,h7.ld]
  match i,hi with
  |0,hi=>cases hi;match j,hj with
   |0,hj=>cases hj;rfl
  |1,hi=>cases hi;match j,hj with
   |0,hj=>cases hj;rfl
  |i+2,hi=>simp at hi
 have ZT:sy [(s,b),(⟨some ⟨w2.heap.size,0,none⟩,2,2⟩,IB b)]=A7 b:=by simp [sy,A7]
 refine (A6 ⟨some ⟨w6.heap.size,0,none⟩,2,2⟩ [(s,b),(⟨some ⟨w2.heap.size,0,none⟩,2,2⟩,IB b)] w7 hl (λx hx=>by
  simp at hx;rcases hx with rfl|rfl
  ·exact hs.ext x7
  ·exact hc) (show 2<=1000 by decide) (by rw [ZT,Hh];exact hn)).mono ?_
 rintro e w8 ⟨s9,rfl,ho,x8⟩;rw [ZT] at ho;exact ⟨s9,rfl,s9,rfl,aC.low ho x7.size,x7.tr x8⟩
theorem IC(s:Sl)(b:List Int)(w:World)(hs:jf w s b)(hb:mY b)(hc:s.n<=s.c)(hn:b.length<=1099511627776):ah 246 #[s] w λe w'=>∃s':Sl,e=Value.tuple #[s',.int .i64 (uE b).2]/\mA w w' s' (uE b).1/\Ext w w':=by
 apply (Xz.vc (a0:=s));have tR:=jf.n hs;apply Br.mk<;>intro h
 ·replace h:=mh h;have e:uE b=([],3):=by unfold uE;rw [if_pos ab]
  rw [e];exact ⟨⟨none,0,0⟩,rfl,aC.nil,Ext.cE _⟩
 ·replace h:=my h;refine (ID s b w hs hb ab).mono ?_;rintro e w0 ⟨rfl,x0⟩;refine ⟨_,rfl,Br.mk (λh2=> ?_) (λh2=> ?_)⟩
  ·have e:uE b=([],4):=by unfold uE;rw [if_neg ab,if_neg];intro q;rw [decide_eq_true ⟨by omega,q⟩] at h2;cases h2
   rw [e];exact ⟨⟨none,0,0⟩,rfl,aC.nil,x0⟩
  ·have q:vC b=0#16:=by simp at h2;exact h2.2
   have e:uE b=(b.take (b.length-2),0):=by unfold uE;rw [if_neg ab,if_pos q]
   have wk:aj (((s.n:Nat):Int)-2)=((b.length-2:Nat):Int):=by rw [wI];omega
   rw [wk,e];have ni:jf w0 ⟨aJ s.a 0 s.c 1,b.length-2,s.c-0⟩ (b.take (b.length-2)):=by have:=(hs.ext x0).cut (m:=b.length-2) (c':=s.c) (c'':=s.c-0) (by rw [aN];omega);rw [<-List.map_take] at this;exact this
   refine ⟨by omega,by omega,(oV ⟨aJ s.a 0 s.c 1,b.length-2,s.c-0⟩ _ w0 ni (by rw [du];omega)).mono ?_⟩;rintro e w2 ⟨s3,rfl,ho,x2⟩;exact ⟨s3,rfl,s3,rfl,aC.low ho x0.size,x0.tr x2⟩
theorem ao1(n:Int){k:Nat}(hk:k<=4):n.fdiv (2 ^(min ((8*(k:Int))).toNat 64))=n / 256 ^ k:=by
 have e:(2:Int) ^(min ((8*(k:Int))).toNat 64)=256 ^ k:=by
  rcases k with _|_|_|_|_|k
  ·rfl
  ·rfl
  ·rfl
  ·rfl
  ·rfl
  ·omega
 rw [e,rT];exact Int.le_of_lt (Int.pow_pos aF)
theorem Mu(B:Nat)(s:Sl)(b:List Int)(n:Int)(m:Nat)(hm:m<=4)(w:World)(hB:B<=w.heap.size)(ho:mA B w s b)(hb:b.length<=1000):
  Calls Tryz.prog 224 #[.slice s.a s.n s.c,.int .i64 n,.int .i64 m] w λe w'=>∃s':Sl,e=.returned (.slice s'.a s'.n s'.c)/\mA B w' s' (b++be m n)/\Below B w w':=by
 apply (US.vc (a0:=s));have w1:IntKind.wrap .i64 ((m:Int)-1)=(m:Int)-1:=wI;refine ⟨λl x o wr=>∃k:Nat,l=k/\x=(k:Int)-1/\k<=m/\∃pre,pre++be k n=be m n/\mA B wr o (b++pre)/\Below B w wr,⟨m,m,rfl,w1,Nat.le_refl _,[],rfl,by rw [List.append_nil];exact ho,Below.refl _ _⟩,?_⟩;rintro k us x s4 w5 ⟨k',rfl,rfl,hk,pre,hp,ho5,x5⟩;have dI:=congrArg List.length hp;rw [List.length_append,ER,ER] at dI;have ZS:=jf.n (mA.FZ ho5);rw [List.length_append] at ZS;refine Br.mk (λhc=> ?_) (λhc=> ?_)
 ·simp only [ge_iff_le,decide_eq_true_eq] at hc;obtain ⟨j,rfl⟩:∃j,k=j+1:=⟨k-1,by omega⟩;have e8:IntKind.wrap .i64 (8*(((j+1:Nat):Int)-1))=8*(j:Int):=by rw [wI];omega
  rw [e8,ao1 n (by omega),wrap_u8];refine bE.2 ⟨CJ.2 (by omega),λw7 e7=> ?_⟩;subst e7;obtain ⟨aik,bw⟩:=aC.iO ho5 (bytes:=1) (news:=yv (n / 256 ^ j % 256)) (.cells #[.int .u8 (n / 256 ^ j % 256)] hX) (by have:=x5.size;omega) rfl (te _ _) (by omega) (by omega);refine ⟨aik,λs8 w9 hr=> ?_⟩;obtain ⟨f1,ho9,hn9,xb,-,-⟩:=bw s8 w9 hr;refine ⟨f1,j,by omega,j,rfl,by rw [wI];omega,by omega,pre++ [n / 256 ^ j % 256],?_,?_,x5.trans xb⟩
  ·rw [<-hp,List.append_assoc];rfl
  ·rw [<-List.append_assoc];show aC _ _ _ _ _ _;rw [List.map_append];exact ho9
 ·simp only [ge_iff_le,decide_eq_false_iff_not] at hc;have:k=0:=by omega
  subst this;have hp':pre=be m n:=by simpa [be] using hp
  rw [hp'] at ho5;exact ⟨s4,rfl,ho5,x5⟩
theorem H0(s:Sl)(b:List Int)(w:World)(hs:jf w s b)(hb:mY b)(hn:b.length<=4):ah 247 #[s] w λe w'=>e=Value.int .i64 (gx b)/\w'=w:=by
 apply (Qc.vc (a0:=s));have tR:=jf.n hs;refine ⟨λl i n wr=>∃k:Nat,i=k/\k+l=b.length/\n=gx (b.take k)/\wr=w,⟨b.length,0,rfl,by omega,rfl,rfl⟩,?_⟩;rintro l us i n wr ⟨k,rfl,hk,rfl,rfl⟩;apply Br.mk<;>intro hc
 ·replace hc:=mh hc;obtain ⟨x,hx⟩:=bI (l:=b) (i:=k) ab;have hxb:=hb x (bg hx);have hm:(b.map yv)[k]? =some [.int .u8 x]:=by rw [aU,hx];rfl
  have jq:=hs.at hm (j:=0) rfl;rw [fK] at jq;have wk:=mz (j:=k);have Nz:=QE hb (k:=k) ab;have ht:b.take (k+1)=b.take k++ [x]:=by rw [dD,hx];rfl
  refine ⟨RdK.g9 hs aF ab hc,x,jq,l-1,by omega,k+1,wk,by omega,?_,rfl⟩;have e1:aj (gx (b.take k)*2 ^(min (8:Int).toNat 64))=gx (b.take k)*256:=by show aj (gx (b.take k)*256)=_;exact wI
  have e2:aj x=x:=wI;rw [e1,e2,Zn ab hxb,ht,Mv]
 ·replace hc:=my hc;rw [fC ab];exact ⟨rfl,rfl⟩
theorem Mw(v:Int)(s:Sl)(b:List Int)(w:World)(hs:jf w s b)(hb:mY b)(hn:b.length<=1099511627776):
  Calls Tryz.prog 163 #[.int .i64 v,.slice s.a s.n s.c] w λe w'=>∃s':Sl,e=.returned (.tuple #[.slice s'.a s'.n s'.c,.int .i64 (CM v b).2])/\mA w.heap.size w' s' (CM v b).1/\Ext w w':=by
 apply (LS.vc (a1:=s));have tR:=jf.n hs;have no:(v<1\/v>1073741824\/(b.length:Int)>65536)->∃s':Sl,Ending.returned (.tuple #[.slice none 0 0,.int .i64 1])=.returned (.tuple #[.slice s'.a s'.n s'.c,.int .i64 (CM v b).2])/\mA w.heap.size w s' (CM v b).1/\Ext w w:=λh=>by
  have e:CM v b=([],1):=by unfold CM;rw [if_pos h]
  rw [e];exact ⟨⟨none,0,0⟩,rfl,aC.nil,Ext.cE _⟩
 refine Br.mk (λh=> ?_) (λh1=>Br.mk (λh=> ?_) (λh2=>Br.mk (λh=> ?_) (λh3=> ?_)))
 ·simp only [decide_eq_true_eq] at h;exact no (.inl h)
 ·simp only [gt_iff_lt,decide_eq_true_eq] at h;exact no (.inr (.inl h))
 ·simp only [gt_iff_lt,decide_eq_true_eq] at h;exact no (.inr (.inr (by omega)))
 ·simp only [gt_iff_lt,decide_eq_false_iff_not] at h1 h2 h3;have e:CM v b=(A7 (nJ v b),0):=by unfold CM;rw [if_neg (by omega)]
  rw [e];have p4:=Mu w.heap.size ⟨none,0,0⟩ [] v 4 (by decide) w (Nat.le_refl _) aC.nil (by simp);refine p4.mono ?_;rintro e w0 ⟨s1,rfl,o1,x0⟩;have p3:=Mu w.heap.size s1 ([]++be 4 v) ((s.n:Nat):Int) 3 (by decide) w0 x0.size o1 (by simp [ER]);refine ⟨s1,rfl,p3.mono ?_⟩;rintro e w2 ⟨s3,rfl,o3,x2⟩;refine ⟨s3,rfl,λw4 e4=> ?_⟩;have yM:Ext w w2:=x0.trans x2;have eE:Ext w2 w4:=(Ext.cE _).bn e4;have x4:=yM.tr eE;have r4:Row w4 w2.heap.size [.slice s3.a s3.n s3.c,.slice s.a s.n s.c] tSB:=by rw [e4];exact Row.new w2 [_,_] _
  have hl:RdK w4 ⟨some ⟨w2.heap.size,0,none⟩,2,2⟩ 1 ([(s3,[]++be 4 v++be 3 ((s.n:Nat):Int)),(s,b)].map λx=> [.slice x.1.a x.1.n x.1.c]):=by
   refine ⟨rfl,λr hr=>by simp at hr;rcases hr with rfl|rfl<;>rfl,λi r hi j v hj=> ?_⟩;rw [bf,Nat.zero_add,r4.ld]
   match i,hi with
   |0,hi=>cases hi;match j,hj with
    |0,hj=>cases hj;rfl
   |1,hi=>cases hi;match j,hj with
    |0,hj=>cases hj;rfl
   |i+2,hi=>simp at hi
  have ZT:sy [(s3,[]++be 4 v++be 3 ((s.n:Nat):Int)),(s,b)]=nJ v b:=by simp [sy,nJ,tR]
  have hrl:=Mx v b;refine (A6 ⟨some ⟨w2.heap.size,0,none⟩,2,2⟩ [(s3,[]++be 4 v++be 3 ((s.n:Nat):Int)),(s,b)] w4 hl (λx hx=>by
   simp only [List.mem_cons,List.not_mem_nil,or_false] at hx;rcases hx with rfl|rfl
   ·exact RdK.ext (mA.FZ o3) eE
   ·exact hs.ext x4) (show 2<=1000 by decide) (by rw [ZT];omega)).mono ?_
  rintro e w5 ⟨s6,rfl,o6,x5⟩;rw [ZT] at o6;refine ⟨s6,rfl,(KE s6 (nJ v b) w5 (mA.FZ o6) (Sv hb) (by omega)).mono ?_⟩;rintro e w7 ⟨s8,rfl,o8,x7⟩;have nq:=x4.tr x5;exact ⟨s8,rfl,s8,rfl,aC.low o8 nq.size,nq.tr x7⟩
theorem Zo{b:List Int}(h:mY b):mY (uE b).1:=by
 unfold uE;split
 ·intro c hc;cases hc
 ·split
  ·exact λc hc=>h c (List.mem_of_mem_take hc)
  ·intro c hc;cases hc
theorem Zp(b:List Int):(uE b).1.length<=b.length:=by
 unfold uE;split
 ·simp
 ·split
  ·simp only [du];omega
  ·simp
theorem agG{b:List Int}(h:mY b):mY (qN b).2.1:=by
 unfold qN;split
 ·intro c hc;cases hc
 ·split
  ·intro c hc;cases hc
  ·split
   ·intro c hc;cases hc
   ·exact λc hc=>Zo h c (List.mem_of_mem_drop hc)
theorem agH(b:List Int):(qN b).2.1.length<=b.length:=by
 have:=Zp b;unfold qN;split
 ·simp
 ·split
  ·simp
  ·split
   ·simp
   ·simp only [List.length_drop];omega
theorem QF(s:Sl)(b:List Int)(w:World)(hs:jf w s b)(hb:mY b)(hc:s.n<=s.c)(hn:b.length<=1099511627776):
  ah 183 #[s] w λe w'=>∃s':Sl,e=Value.tuple #[.int .i64 (qN b).1,s',.int .i64 (qN b).2.2]/\jf w' s' (qN b).2.1/\s'.n<=s'.c/\(∀g,s'.aX=some g->w.heap.size<=g)/\Ext w w':=by
 apply (PJ.vc (a0:=s));refine (IC s b w hs hb hc hn).mono ?_;rintro e w0 ⟨s1,rfl,o1,x0⟩;have hi:=Zo hb;have hle:=Zp b;have nil:jf w0 ⟨none,0,0⟩ []:=mA.FZ (aC.nil (B:=0));have h1:qN b=if (uE b).2≠0 then (0,[],(uE b).2) else if (uE b).1.length<7 then (0,[],3) else if gx ((uE b).1.take 4)<1\/gx ((uE b).1.take 4)>1073741824\/gx (((uE b).1.drop 4).take 3)>65536\/gx (((uE b).1.drop 4).take 3)≠(((uE b).1.drop 7).length:Int) then (0,[],2) else (gx ((uE b).1.take 4),(uE b).1.drop 7,0):=rfl;rw [h1];generalize uE b=t at*;obtain ⟨t1,t2⟩:=t;simp only at*;have ZS:=jf.n (mA.FZ o1);have hoc:=aC.le o1;refine ⟨s1,_,rfl,Br.mk (λh=> ?_) (λh=> ?_)⟩
 ·have:t2≠0:=by simpa using h
  rw [if_pos this];exact ⟨⟨none,0,0⟩,rfl,nil,aB _,(λg hg=>by cases hg),x0⟩
 ·have:t2=0:=by simpa using h
  subst this;rw [if_neg bB];apply Br.mk<;>intro h
  ·replace h:=mh h;rw [if_pos ab];exact ⟨⟨none,0,0⟩,rfl,nil,aB _,(λg hg=>by cases hg),x0⟩
  ·replace h:=my h;rw [if_neg ab];have rd:=RdK.ext (mA.FZ o1) (Ext.dr w0);have c4:jf w0.drew ⟨aJ s1.a 0 s1.c 1,4-0,s1.c-0⟩ (t1.take 4):=by have:=RdK.cut rd (m:=4) (c':=s1.c) (c'':=s1.c-0) (by rw [aN];omega);rw [<-List.map_take] at this;exact this
   have c3:jf w0.drew ⟨aJ s1.a 4 s1.c 1,7-4,s1.c-4⟩ ((t1.drop 4).take 3):=by have r4:=RdK.rest rd (l:=4) (m:=s1.c) (n':=t1.length-4) (c':=s1.c-4) (by rw [aN]) (by rw [aN];omega);have:=RdK.cut r4 (m:=3) (c':=7) (c'':=s1.c-4) (by rw [List.length_drop,aN];omega);rw [ed,<-List.map_drop,<-List.map_take] at this;exact this
   have c7:∀w',Ext w0 w'->jf w' ⟨aJ s1.a 7 s1.c 1,s1.n-7,s1.c-7⟩ (t1.drop 7):=λw' x'=>by have:=RdK.rest (RdK.ext (mA.FZ o1) x') (l:=7) (m:=s1.c) (n':=s1.n-7) (c':=s1.c-7) (by rw [aN];omega) (by rw [aN];omega);rw [<-List.map_drop] at this;exact this
   refine ⟨by omega,by omega,by omega,by omega,by omega,by omega,by omega,by omega,(H0 ⟨aJ s1.a 0 s1.c 1,4-0,s1.c-0⟩ _ w0.drew c4 (λc hc=>hi c (List.mem_of_mem_take hc)) (by rw [du];omega)).mono ?_⟩;rintro e w3 ⟨rfl,hw⟩;subst hw;refine ⟨_,rfl,(H0 ⟨aJ s1.a 4 s1.c 1,7-4,s1.c-4⟩ _ w0.drew c3 (λc hc=>hi c (List.mem_of_mem_drop (List.mem_of_mem_take hc))) (by rw [du];omega)).mono ?_⟩;rintro e w5 ⟨rfl,hw⟩;subst hw;have JO:∀g,(Sl.mk (aJ s1.a 7 s1.c 1) (s1.n-7) (s1.c-7)).aX=some g->w.heap.size<=g:=λg hg=>by
    have:s1.aX=some g:=by
     unfold Sl.aX at hg ⊢;simp only [aJ] at hg;split at hg
     ·exact hg
     ·cases ha:s1.a with
      |none=>rw [ha] at hg;cases hg
      |some a=>
       rw [ha] at hg;simp only [Option.map_some,Option.some.injEq,Addr.add] at hg ⊢;rw [<-hg];split<;>rfl
    exact (o1.own.lt this).1
   have xd:=x0.tr (Ext.dr w0);have nil':jf w0.drew ⟨none,0,0⟩ []:=mA.FZ (aC.nil (B:=0));have Rx:(t1.drop 7).length=s1.n-7:=by rw [List.length_drop];omega
   have no:(gx (t1.take 4)<1\/gx (t1.take 4)>1073741824\/gx ((t1.drop 4).take 3)>65536\/gx ((t1.drop 4).take 3)≠((t1.drop 7).length:Int))->∃s':Sl,Ending.returned (.tuple #[aa,.slice none 0 0,(2:Int)])=Value.tuple #[.int .i64 (if gx (t1.take 4)<1\/gx (t1.take 4)>1073741824\/gx ((t1.drop 4).take 3)>65536\/gx ((t1.drop 4).take 3)≠((t1.drop 7).length:Int) then ((0:Int),([]:List Int),(2:Int)) else (gx (t1.take 4),t1.drop 7,0)).1,s',.int .i64 (if gx (t1.take 4)<1\/gx (t1.take 4)>1073741824\/gx ((t1.drop 4).take 3)>65536\/gx ((t1.drop 4).take 3)≠((t1.drop 7).length:Int) then ((0:Int),([]:List Int),(2:Int)) else (gx (t1.take 4),t1.drop 7,0)).2.2]/\
     jf w0.drew s' (if gx (t1.take 4)<1\/gx (t1.take 4)>1073741824\/gx ((t1.drop 4).take 3)>65536\/gx ((t1.drop 4).take 3)≠((t1.drop 7).length:Int) then ((0:Int),([]:List Int),(2:Int)) else (gx (t1.take 4),t1.drop 7,0)).2.1/\s'.n<=s'.c/\(∀g,s'.aX=some g->w.heap.size<=g)/\Ext w w0.drew:=λh=>by
    rw [if_pos h];exact ⟨⟨none,0,0⟩,rfl,nil',aB _,(λg hg=>by cases hg),xd⟩
   refine ⟨_,rfl,Br.mk (λh=>no ?_) (λq1=>Br.mk (λh=>no ?_) (λq2=>Br.mk (λh=>no ?_) (λq3=>Br.mk (λh=>no ?_) (λq4=> ?_))))⟩
   ·exact .inl (by simpa using h)
   ·exact .inr (.inl (by simpa using h))
   ·exact .inr (.inr (.inl (by simpa using h)))
   ·refine .inr (.inr (.inr ?_));rw [Rx];simpa using h
   ·simp only [gt_iff_lt,fa,bne_eq_false_iff_eq] at q1 q2 q3 q4;rw [if_neg (by
     rw [Rx];simp only [not_or];exact ⟨q1,q2,q3,by rw [q4];simp⟩)]
    exact ⟨_,rfl,c7 _ (Ext.dr w0),by simp only;omega,JO,xd⟩
theorem Uv{P:Program}{m since c0 clock r:Nat}{seen:Array Nat}{es:Array MapEntry}{w:World}{ty:TypeId}{v:Value}{w':World}(hr:w.heap[r]? =some (.mapIter (some m) since seen c0))(hm:w.heap[m]? =some (.map es clock))
  (h:(Instr.next (.pointer (some ⟨r,0,none⟩)) false ty).run P w=.ok v w'):w'.tape=w.tape:=by
 simp only [Instr.next,getObj,Sem.run_bind,Sem.run,hr,hm,Result.andThen] at h;split at h
 ·cases h
 ·generalize (Array.filter (λe=> !seen.contains e.born) es)=L at h;generalize (if (Array.filter (λx=>decide (x.born<since)) L).isEmpty=true then #[none] else #[])++Array.map some (Array.filter (λx=>decide (x.born<since)) L++Array.filter (λx=>decide (x.born>=since)) L)=C at h;have hch:∀j w1,(choose (Question.mapNext C.size)).run P w=.ok j w1->w1.tape=w.tape:=λj w1 h1=>by
   by_cases hf:C.size<=1
   ·simp only [choose,Sem.run,Question.forced,cQ,hf,if_true] at h1
    cases h1;rfl
   ·simp only [choose,Sem.run,Question.forced,cQ,hf,if_false,Question.cut] at h1
    cases h1;rfl
  rw [Sem.run_bind] at h
  cases hc:(choose (Question.mapNext C.size)).run P w with
  |ok j w1=>
   have ht:=hch j w1 hc;rw [hc] at h;simp only [Result.andThen] at h;split at h
   ·rw [Sem.run_bind] at h;simp only [setObj,Sem.run] at h;split at h
    all_goals first
     |(simp [Result.andThen] at h;done)
     |(simp only [Result.andThen,Sem.run_pure] at h;cases h;exact ht)
   ·rw [Sem.run_pure] at h;cases h;exact ht
   ·cases h
  |_=>rw [hc] at h;cases h
def Yg:Value->Int| .slice _ n _=>(n:Int)|_=>0
def eg:List MapEntry->Array Nat->Int
 | [],_=>0
 |x::l,seen=>(if seen.contains x.born then Yg x.val else 0)+eg l seen
theorem vi(seen:Array Nat)(b:Nat):∀(es:List MapEntry),b ∉ es.map (·.born)->eg es (seen.push b)=eg es seen
 | [],_=>rfl
 |x::l,h=>by
  have hx:(x.born==b)=false:=by
   cases hc:x.born==b with
   |false=>rfl
   |true=>exact absurd (cB.2 (Or.inl (beq_iff_eq.1 hc).symm)) h
  have ih:=vi seen b l (λe=>h (cB.2 (Or.inr e)));simp only [eg,contains_push,hx,Bool.or_false,ih]
theorem ya(seen:Array Nat)(e:MapEntry)(hs:seen.contains e.born=false):∀(es:List MapEntry),(es.map (·.born)).Nodup->e ∈ es->eg es (seen.push e.born)=eg es seen+Yg e.val
 |x::l,hn,he=>by
  have hn':x.born ∉ l.map (·.born)/\(l.map (·.born)).Nodup:=List.nodup_cons.1 hn
  rcases cB.1 he with rfl|h
  ·rw [eg,eg,vi seen _ l hn'.1,contains_push,beq_self_eq_true,Bool.or_true,hs]
   simp;omega
  ·have hx:(x.born==e.born)=false:=by
    cases hc:x.born==e.born with
    |false=>rfl
    |true=>exact absurd (aZ.2 ⟨e,h,(beq_iff_eq.1 hc).symm⟩) hn'.1
   rw [eg,eg,ya seen e hs l hn'.2 h,contains_push,hx,Bool.or_false];omega
theorem yb:∀es:List MapEntry,eg es #[]=0
 | []=>rfl
 |x::l=>by rw [eg,yb l];simp
theorem PX{es:List MapEntry}(hv:∀x ∈ es,0<=Yg x.val)(seen:Array Nat):0<=eg es seen/\eg es seen<=(es.map λx=>Yg x.val).sum:=by
 induction es with
 |nil=>exact ⟨Int.le_refl _,Int.le_refl _⟩
 |cons x l ih=>
  have h1:=ih λy hy=>hv y (.tail _ hy)
  have h2:=hv x (.head _);rw [eg,eP,List.sum_cons];split<;>omega
theorem Lx(es:Array MapEntry)(seen:Array Nat)(h:(leftOf es seen).size=0):eg es.toList seen=(es.toList.map λx=>Yg x.val).sum:=by
 have qA:∀x ∈ es.toList,seen.contains x.born=true:=by
  intro x hx
  cases hc:seen.contains x.born with
  |true=>rfl
  |false=>
   have:x ∈ leftOf es seen:=Array.mem_filter.2 ⟨Array.mem_toList_iff.1 hx,by rw [hc];rfl⟩;have h0:=Array.eq_empty_of_size_eq_zero h;rw [h0] at this;simp at this
 generalize es.toList=l at qA
 induction l with
 |nil=>rfl
 |cons x l ih=>
  rw [eg,qA x (.head _),eP,List.sum_cons,ih λy hy=>qA y (.tail _ hy)];simp
set_option maxRecDepth 1000000 in
theorem PY(bm : Nat)(es : Array MapEntry)(clock : Nat)(w : World)(hb : w.heap[bm]? = some (.map es clock))(gG : MapKept.Stamped es clock)(hv : ∀ x ∈ es.toList, ∃ a n c, x.val = .slice a n c)(hs : (es.toList.map λx => Yg x.val).sum ≤ 1099511627776) :
  ah 229 #[.map (some bm)] w λe w' => e = Value.int .i64 ((es.toList.map λx => Yg x.val).sum) ∧ ∃ (w1 : World) (seen : Array Nat), w1.Alike w ∧ w1.tape = w.tape ∧ w' = w1.alloc (.mapIter (some bm) clock seen clock) := by
 have hrg := run_range_map (P := Tryz.prog) w 274 IN 62 bm es clock Tryz.underlying274 hb
 have hnn : ∀ x ∈ es.toList, 0 ≤ Yg x.val := λx hx => by
  obtain ⟨a, n, c, e⟩ := hv x hx
  rw [e]; exact Int.natCast_nonneg n
 go_enter Tryz.func229, Tryz.ntmps229
 go_wp2
 go_loopw [3] (λs w' => ∃ (w1 : World) (seen : Array Nat), w1.Alike w ∧ w1.tape = w.tape ∧ w' = w1.alloc (.mapIter (some bm) clock seen clock) ∧ s = .int .i64 (eg es.toList seen)) (λ_ w' => (leftOf es (w'.iterSeen w)).size)
 case atStart => exact ⟨w, #[], ⟨rfl, rfl, rfl⟩, rfl, rfl, by rw [yb]⟩
 case round =>
  obtain ⟨w1, seen, hal, htp, rfl, rfl⟩ := hrel
  have V7 : w1.heap.size = w.heap.size := by rw [hal.1]
  have C4 : w1.heap[bm]? = some (.map es clock) := by rw [hal.1]; exact hb
  have law := run_next_map (P := Tryz.prog) w1 0 bm clock clock seen es clock C4 gG.1 (aB _)
  rw [V7] at law
  rcases law with ⟨h0, tQ⟩ | ⟨e, he, w2, hal2, tQ⟩
  ·have hnx : ∀ ty, (Instr.next (.pointer (some ⟨w.heap.size, 0, none⟩)) false ty).run Tryz.prog (w1.alloc (.mapIter (some bm) clock seen clock)) = _ := λ_ => tQ
   go_wp2
   go_ret
   rw [Lx es seen h0]
   exact ⟨rfl, w1, seen, hal, htp, rfl⟩
  ·obtain ⟨va, vn, vc, hval⟩ := hv e (mem_left he).1
   have hr1 : (w1.alloc (.mapIter (some bm) clock seen clock)).heap[w.heap.size]? = some (.mapIter (some bm) clock seen clock) := by rw [<- V7]; exact heap_alloc_new w1 _
   have hm1 : (w1.alloc (.mapIter (some bm) clock seen clock)).heap[bm]? = some (.map es clock) := by rw [heap_alloc_old w1 _ (by have := (rP.1 C4).1; omega)]; exact C4
   have htp2 : w2.tape = w1.tape := by have := Uv hr1 hm1 tQ; exact this
   rw [hval] at tQ
   have hnx : ∀ ty, (Instr.next (.pointer (some ⟨w.heap.size, 0, none⟩)) false ty).run Tryz.prog (w1.alloc (.mapIter (some bm) clock seen clock)) = _ := λ_ => tQ
   have hsz2 : w2.heap.size = w.heap.size := by rw [hal2.1, hal.1]
   have jC : w2.heap[bm]? = some (.map es clock) := by rw [hal2.1]; exact C4
   have hen := run_entry_map (P := Tryz.prog) w2 bm clock seen es clock e jC (mem_left he).1 gG.2.1
   rw [hsz2, hval] at hen
   go_wp2
   go_roundw
   case rel =>
    refine ⟨w2, seen.push e.born, ⟨hal2.1.trans hal.1, hal2.2.1.trans hal.2.1, hal2.2.2.trans hal.2.2⟩, htp2.trans htp, rfl, ?_⟩
    have hp := ya seen e (mem_left he).2 es.toList gG.2.1 (mem_left he).1
    have yO := PX hnn (seen.push e.born)
    rw [hval] at hp
    have hp : eg es.toList (seen.push e.born) = eg es.toList seen + (vn : Int) := hp
    have hw : Go.RowKit.wrap64 (eg es.toList seen + (vn : Int)) = eg es.toList (seen.push e.born) := by
     unfold Go.RowKit.wrap64
     omega
    exact congrArg _ hw
   case measure =>
    rw [<- hsz2, World.iterSeen_alloc, hsz2, <- V7, World.iterSeen_alloc]
    exact left_shrinks es seen e he
abbrev tW:TypeId:=279
abbrev Bl:=Int × Sl × List Int
def py(x:Bl):Value × Value:=(x.1,.slice x.2.1.a x.2.1.n x.2.1.c)
abbrev wV(x:Bl):LV:=[.int .i64 x.1,.slice x.2.1.a x.2.1.n x.2.1.c]
abbrev kb(x:Bl):pZ:=(x.1,x.2.2)
structure PZ(w:World)(x:Bl):Prop where
 o:mA 0 w x.2.1 x.2.2
 b:mY x.2.2
structure Dm where
 r:Nat
 ls:Sl
 E:List Bl
 W:List Bl
structure DO(w:World)(d:Nat)(m:Dm)(D:Dk):Prop where
 rd:Row w d [D.room,D.pc,D.wait,.map (some m.r),.slice m.ls.a m.ls.n m.ls.c] tn
 rm:cl GI w (some m.r) (m.E.map py)
 ol:aC 0 tW 2 w m.ls (m.W.map wV)
 sf:(m.E.map kb).Perm D.safe
 sl:m.W.map kb=D.l
 bl:∀x ∈ m.E++m.W,PZ w x
 ok:v5 D
def dF(d:Nat)(m:Dm)(i:Nat):Prop:=i=d\/i=m.r\/m.ls.aX=some i\/∃x ∈ m.E++m.W,x.2.1.aX=some i
theorem DO.lt{w:World}{d:Nat}{m:Dm}{D:Dk}(h:DO w d m D){i:Nat}(hi:dF d m i):i<w:=by
 rcases hi with rfl|rfl|e|⟨x,hx,e⟩
 ·exact h.rd.lt
 ·exact h.rm.lt
 ·exact (h.ol.own.lt e).2
 ·exact ((h.bl x hx).o.own.lt e).2
theorem DO.same{w w':World}{d:Nat}{m:Dm}{D:Dk}(h:DO w d m D)(hs:∀i,dF d m i->w'.heap[i]? =w.heap[i]?):DO w' d m D:=
 ⟨h.rd.same (hs _ (.inl rfl)),h.rm.same (hs _ (.inr (.inl rfl))),aC.c5 h.ol λb hb=>hs b (.inr (.inr (.inl hb))),h.sf,h.sl,λx hx=>⟨aC.c5 (h.bl x hx).o λb hb=>hs b (.inr (.inr (.inr ⟨x,hx,hb⟩))),(h.bl x hx).b⟩,h.ok⟩
theorem DO.ext{w w':World}{d:Nat}{m:Dm}{D:Dk}(h:DO w d m D)(x:Ext w w'):DO w' d m D:=h.same λi hi=>x.heap (h.lt hi)
theorem DO.nW{w:World}{d:Nat}{m:Dm}{D:Dk}(h:DO w d m D):m.ls.n=m.W.length/\m.W.length=D.l.length:=by have h1:=(h.ol.rd aF).n;rw [aN] at h1;exact ⟨h1,by rw [<-h.sl,aN]⟩
theorem DO.kind{w:World}{d:Nat}{m:Dm}{D:Dk}(h:DO w d m D){i:Nat}(hi:dF d m i):cl GI w (some i) (m.E.map py)\/∃cs τ,Row w i cs τ/\(τ=tn\/τ=tW\/τ=hX):=by
 rcases hi with e|e|e|⟨x,hx,e⟩
 ·exact .inr ⟨_,_,e▸h.rd,.inl rfl⟩
 ·exact .inl (e▸h.rm)
 ·obtain ⟨cs,hr⟩:=bc h.ol aF e;exact .inr ⟨_,_,hr,.inr (.inl rfl)⟩
 ·obtain ⟨cs,hr⟩:=bc (h.bl x hx).o aF e;exact .inr ⟨_,_,hr,.inr (.inr rfl)⟩
theorem Yn(E:List Bl)(x:Bl):vQ (E.map py) (x.1) (.slice x.2.1.a x.2.1.n x.2.1.c)=(Iz (λy:Bl=>y.1) E x).map py:=by
 have key:∀y:Bl,(py y).1=.int .i64 x.1 ↔ y.1=x.1:=λy=>by unfold py;simp
 have ex:(∃e ∈ E.map py,e.1=Value.int .i64 x.1) ↔ ∃y ∈ E,y.1=x.1:=by
  constructor
  ·rintro ⟨e,he,q⟩;obtain ⟨y,hy,rfl⟩:=aZ.1 he;exact ⟨y,hy,(key y).1 q⟩
  ·rintro ⟨y,hy,q⟩;exact ⟨_,aZ.2 ⟨y,hy,rfl⟩,(key y).2 q⟩
 unfold vQ Iz;by_cases h:∃y ∈ E,y.1=x.1
 ·rw [if_pos (ex.2 h),if_pos h,List.map_map,List.map_map];refine List.map_congr_left λy _=> ?_
  simp only [Function.comp];by_cases q:y.1=x.1
  ·rw [if_pos ((key y).2 q),if_pos q];unfold py;rw [q]
  ·rw [if_neg λq'=>q ((key y).1 q'),if_neg q]
 ·rw [if_neg λq=>h (ex.1 q),if_neg h,bU];rfl
theorem P2{l s:List pZ}{k:Nat}{x:pZ}(h:l[k]? =some x):(l.take (k+1)).foldl lay s=lay ((l.take k).foldl lay s) x:=by rw [dD,h,List.foldl_append];rfl
set_option maxRecDepth 100000 in
theorem Af{w:World}{d:Nat}{m:Dm}{D:Dk}(h:DO w d m D)(hW:D.l.length<=1000000000):ah 228 #[d] w λe w'=>∃(r':Nat)(E':List Bl),e=Value.map (some r')/\cl GI w' (some r') (E'.map py)/\(E'.map kb).Perm (uL D)/\(∀x ∈ E',x ∈ m.E++m.W)/\Ext w w'/\w.heap.size<=r':=by
 apply Gj.vc;obtain ⟨n1,n2⟩:=h.nW;refine ⟨some m.r,h.rd.at 3 rfl,(Ee h.rm).mono ?_⟩;rintro e w1 ⟨rfl,hm,x1⟩;refine ⟨_,rfl,m.ls,(h.ext x1).rd.at 4 rfl,λn i wr=>∃(k:Nat)(E':List Bl),i=k/\k+n=m.W.length/\cl GI wr (some w.heap.size) (E'.map py)/\(E'.map kb).Perm ((D.l.take k).foldl lay D.safe)/\(∀x ∈ E',x ∈ m.E++m.W)/\Ext w wr,
  ⟨m.W.length,0,m.E,rfl,by omega,hm,h.sf,λx hx=>di.2 (.inl hx),x1⟩,?_⟩
 rintro n us i wr ⟨k,E',rfl,hk,hm,hp,eL,xr⟩;apply Br.mk<;>intro hc
 ·replace hc:=mh hc;obtain ⟨x,hx⟩:=bI (l:=m.W) (i:=k) ab;have hr:=(h.ext xr).ol.rd (show 0<2 by decide);have BG:(m.W.map wV)[k]? =some (wV x):=by rw [aU,hx];rfl
  have wk:=mz (j:=k);have hl:D.l[k]? =some (kb x):=by rw [<-h.sl,aU,hx];rfl
  refine ⟨RdK.g9 hr aF ab hc,x.1,x.2.1,RdK.bZ hr BG,λcR Og bJ Cp=> ?_⟩;have cm:Ext wr bJ:=(aL Og).ae Cp (aB _);refine ⟨GI,E'.map py,Jg,rfl,hm.same (cm.heap hm.lt),⟨_,rfl⟩,λcJ fQ ahX=> ?_⟩;rw [Yn] at ahX;refine ⟨n-1,by omega,k+1,_,wk,by omega,ahX,?_,λy hy=> ?_,(Mod.nX fQ).ext (xr.tr cm) λi hi=>by rw [hi];exact aB _⟩
  ·rw [P2 hl];exact Xs (f:=λy:Bl=>y.1) (g:=λy:Bl=>y.2.2) x hp (tA _ h.ok.nd)
  ·rcases Xq hy with rfl|hy
   ·exact di.2 (.inr (bg hx))
   ·exact eL y hy
 ·replace hc:=my hc;rw [fC ab] at hp;exact ⟨w.heap.size,E',rfl,hm,hp,eL,xr,aB _⟩
theorem Yo(E:List Bl):((nZ (E.map kb):Nat):Int)=(E.map λx=>(x.2.2.length:Int)).sum:=by
 induction E with
 |nil=>rfl
 |cons x t ih=>
  rw [eP,qo,eP,List.sum_cons,<-ih];have:(kb x).2.length=x.2.2.length:=rfl;omega
theorem LA{w:World}{r:Nat}{E:List Bl}(hm:cl GI w (some r) (E.map py))(hb:∀x ∈ E,PZ w x)(hn:nZ (E.map kb)<=1099511627776):ah 229 #[.map (some r)] w λe w'=>e=Value.int .i64 (nZ (E.map kb):Nat)/\Ext w w':=by
 obtain ⟨es,clock,h1,h2,h3,h4,h5,h6⟩:=hm;have hk:es.toList.map (·.key)=(E.map py).map (·.1):=by rw [<-h2,List.map_map];rfl
 have hv:∀x ∈ es.toList,∃y ∈ E,x.val=.slice y.2.1.a y.2.1.n y.2.1.c:=λx hx=>by
  have:(x.key,x.val) ∈ E.map py:=by rw [<-h2];exact aZ.2 ⟨x,hx,rfl⟩
  obtain ⟨y,hy,e⟩:=aZ.1 this;refine ⟨y,hy,?_⟩;have:=congrArg Prod.snd e;exact this.symm
 have hs:(es.toList.map λx=>Yg x.val).sum=(nZ (E.map kb):Nat):=by
  rw [Yo];have e1:(es.toList.map λx=>Yg x.val)=(E.map py).map λe=>Yg e.2:=by rw [<-h2,List.map_map];rfl
  rw [e1,List.map_map];congr 1;refine List.map_congr_left λx hx=> ?_
  show ((x.2.1.n:Nat):Int)=_;rw [jf.n (mA.FZ (hb x hx).o)]
 have gG:MapKept.Stamped es clock:=⟨h6,h5.imp λh=>Nat.ne_of_lt h,by rw [hk];exact h4⟩;refine (PY r es clock w h1 gG (λx hx=>by obtain ⟨y,_,e⟩:=hv x hx;exact ⟨_,_,_,e⟩) (by rw [hs];omega)).mono ?_;rintro e w' ⟨rfl,w1,seen,⟨a1,a2,a3⟩,a4,rfl⟩;refine ⟨by rw [hs],?_⟩;have x1:Ext w w1:=⟨a2,a4,a3,by rw [a1];exact aB _,λi _=>by rw [a1]⟩;exact x1.bn rfl
theorem LB{E:List Bl}{s:List pZ}(hp:(E.map kb).Perm s)(hn:(iw s).Nodup)(k:Int)(w:World)(hb:∀x ∈ E,PZ w x):∃(t:Sl)(b:Bool),Gi (E.map py) (k) (.slice none 0 0) (t) b/\mA 0 w t ((oG s k).getD [])/\mY ((oG s k).getD [])/\b=(oG s k).isSome:=by
 have iM:(iw (E.map kb)).Nodup:=(hp.map λx:pZ=>x.1).nodup_iff.2 hn;rw [<-UA hp iM]
 cases q:oG (E.map kb) k with
 |none=>
  refine ⟨⟨none,0,0⟩,false,.inr ⟨rfl,rfl,λe he=> ?_⟩,aC.nil,(λc hc=>by cases hc),rfl⟩;obtain ⟨x,hx,rfl⟩:=aZ.1 he;have:=Ag.1 q (kb x) (aZ.2 ⟨x,hx,rfl⟩);unfold py;simpa using this
 |some b=>
  obtain ⟨x,hx,e⟩:=aZ.1 ((Ah iM).1 q);have e1:x.1=k:=congrArg Prod.fst e;have e2:x.2.2=b:=congrArg Prod.snd e;refine ⟨x.2.1,true,.inl ⟨rfl,aZ.2 ⟨x,hx,by unfold py;rw [e1]⟩⟩,?_,?_,rfl⟩
  ·have:=(hb x hx).o;rw [e2] at this;exact this
  ·have:=(hb x hx).b;rw [e2] at this;exact this
theorem R5{s:List pZ}(hn:(iw s).Nodup)(k:Int):((oG s k).getD []).length<=nZ s:=by have:=Bs hn k;omega
theorem UB{w:World}{d:Nat}{m:Dm}{D:Dk}(h:DO w d m D)(hW:D.l.length<=1000000000)(k:Int):ah 182 #[d,k] w λe w'=>∃(s:Sl)(b:Bool),e=Value.tuple #[s,b]/\mA w w' s (getD D k)/\mY (getD D k)/\(getD D k).length<=1048576/\Ext w w':=by
 apply Gh.vc;refine (Af h hW).mono ?_;rintro e w0 ⟨r',E',rfl,hm,hp,eL,x0,hr⟩;have hb:∀x ∈ E',PZ w0 x:=λx hx=>(h.ext x0).bl x (eL x hx)
 obtain ⟨t,b,hl,ho,hby,-⟩:=LB hp h.ok.now k w0 hb;have hle:=R5 h.ok.now k;have Wf:=h.ok.agf;have hrm:=h.ok.r;refine ⟨_,rfl,GI,_,Jg,hm,⟨k,rfl⟩,t,b,hl,(oV t _ w0 (mA.FZ ho) ab).mono ?_⟩;rintro e w6 ⟨s7,rfl,o7,x6⟩;refine ⟨s7,rfl,s7,b,rfl,aC.low o7 x0.size,hby,?_,x0.tr x6⟩;show ((oG (uL D) k).getD []).length<=_;omega
theorem DO.row{w w':World}{d:Nat}{m:Dm}{D:Dk}(h:DO w d m D){F W:Int}(hm:Mod (λi=>i=d) w w')(hr:Row w' d [D.room,F,W,.map (some m.r),.slice m.ls.a m.ls.n m.ls.c] tn)(bt:v5 {D with pc:=F,wait:=W}):DO w' d m {D with pc:=F,wait:=W}:=by
 refine ⟨hr,hm.map h.rm λe=>h.rd.jj h.rm e.symm,hm.fk h.ol λb hb e=> ?_,h.sf,h.sl,λx hx=>⟨hm.fk (h.bl x hx).o λb hb e=> ?_,(h.bl x hx).b⟩,bt⟩
 ·obtain ⟨cs,hr'⟩:=bc h.ol aF hb;exact hr'.ne h.rd aF e
 ·obtain ⟨cs,hr'⟩:=bc (h.bl x hx).o aF hb;exact hr'.ne h.rd aF e
theorem Bt{w:World}{d:Nat}{m:Dm}{D:Dk}(h:DO w d m D):ah 227 #[d] w λe w'=>e=Value.bool (jN D).2/\DO w' d m (jN D).1/\Mod (λi=>i=d) w w':=by
 apply Ai.vc;have bt:=h.ok.ask;have hw:=h.ok.w;have hf:=h.ok.f;refine ⟨D.wait,h.rd.at 2 rfl,Br.mk (λhc=> ?_) (λhc=> ?_)⟩
 ·simp only [gt_iff_lt,cQ] at hc;have e:jN D=({D with wait:=0},false):=by unfold jN;rw [if_pos hc]
  have e1:aj (D.wait-1)=0:=by rw [wI];omega
  rw [e] at bt ⊢;obtain ⟨p1,p2⟩:=h.rd.je (j:=2) (v:=.int .i64 0) bB rfl;refine ⟨_,h.rd.at 2 rfl,?_⟩;rw [e1];refine ⟨⟨rfl,p1⟩,λw2 e2=>⟨rfl,?_⟩⟩;obtain ⟨q1,q2⟩:=p2 w2 e2;exact ⟨h.row q2 q1 bt,q2⟩
 ·simp only [gt_iff_lt,fa] at hc;refine ⟨D.pc,h.rd.at 1 rfl,Br.mk (λnE=> ?_) (λnE=> ?_)⟩
  ·simp only [gt_iff_lt,cQ] at nE;have e:jN D=({D with pc:=D.pc-1},true):=by unfold jN;rw [if_neg hc,if_pos nE]
   rw [e] at bt ⊢;obtain ⟨p1,p2⟩:=h.rd.je (j:=1) (v:=.int .i64 (aj (D.pc-1))) bB rfl;refine ⟨_,h.rd.at 1 rfl,⟨rfl,p1⟩,λw2 e2=>⟨by rw [decide_eq_true nE],?_⟩⟩;obtain ⟨q1,q2⟩:=p2 w2 e2;have e1:aj (D.pc-1)=D.pc-1:=wI;rw [e1] at q1;exact ⟨h.row q2 q1 bt,q2⟩
  ·simp only [gt_iff_lt,fa] at nE;have e:jN D=(D,false):=by unfold jN;rw [if_neg hc,if_neg nE]
   rw [e];exact ⟨by rw [decide_eq_false nE],h,Mod.refl _ _⟩
theorem DF{w:World}{p:Option Addr}{v:Value}(h:ld w p=some v):ag w p 0 [v]:=by show ld w (af p 0)=_;rw [fK];exact h
theorem Yy(k:Int)(a:Option Addr)(n c:Nat):One [Value.int .i64 k,Value.slice a n c]:=by intro v hv;simp at hv;rcases hv with rfl|rfl<;>rfl
theorem R6(D:Dk):uL (jN D).1=uL D:=by obtain ⟨e1,e2,-⟩:=kN D;unfold uL;rw [e1,e2]
theorem DO.aeJ{w:World}{d:Nat}{m:Dm}{D:Dk}(h:DO w d m D):∀b,m.ls.aX=some b->b≠d:=λb hb=>by
 obtain ⟨cs,hr⟩:=bc h.ol aF hb
 exact hr.ne h.rd aF
def agj(w:World)(d:Nat)(m:Dm)(D:Dk)(w':World):Prop:=∃m',DO w' d m' D/\Mod (λi=>i=d\/m.ls.aX=some i) w w'/\(∀i,dF d m' i->dF d m i\/w.heap.size<=i)/\∀i,m'.ls.aX=some i->m.ls.aX=some i\/w.heap.size<=i
set_option maxRecDepth 100000 in
theorem UJ{w:World}{d:Nat}{m:Dm}{D:Dk}(h:DO w d m D)(hW:D.l.length<=1000000000)(key:Int)(s:Sl)(b:List Int)(hs:jf w s b)(hb:mY b)(hn:b.length<=1099511627776)(hsd:s.aX≠some d):
  ah 164 #[d,key,s] w λe w'=>e=Value.int .i64 (mX D key b).2/\agj w d m (mX D key b).1 w':=by
 apply (Gq.vc (a2:=s));have tR:=jf.n hs;refine (Bt h).mono ?_;rintro e w0 ⟨rfl,h0,m0⟩;have z0:=m0.size;have m0':Mod (λi=>i=d\/m.ls.aX=some i) w w0:=m0.mono λi _ hi=> .inl hi
 refine ⟨_,rfl,Br.mk (λhf=> ?_) (λhf=> ?_)⟩
 ·have e:mX D key b=((jN D).1,9):=by unfold mX;rw [if_pos hf]
  rw [e];exact ⟨rfl,m,h0,m0',λi hi=> .inl hi,λi hi=> .inl hi⟩
 obtain ⟨e1,e2,e3⟩:=kN D;have Kq:jf w0 s b:=m0.rdK aF hs λ_ g hg e=>hsd (e▸hg)
 refine (Af h0 (by rw [e2];exact hW)).mono ?_;rintro e w2 ⟨r',E',rfl,BG,hp,eL,x2,hr'⟩;rw [R6] at hp;have hnd:=h.ok.now;have Wf:=h.ok.agf;have hrm:=h.ok.r;have hbE:∀x ∈ E',PZ w2.drew x:=λx hx=>(h0.ext (x2.tr (Ext.dr w2))).bl x (eL x hx)
 have aeh:cl GI w2.drew (some r') (E'.map py):=BG.same ((Ext.dr w2).heap BG.lt);obtain ⟨t,tb,hl,hto,htb,-⟩:=LB hp hnd key w2.drew hbE;have htn:=jf.n (mA.FZ hto);have hll:=Yz hnd (key,b);have hlE:nZ (E'.map kb)=nZ (uL D):=HE hp;simp only at hll;have hg:((oG (uL D) key).getD []).length<=nZ (uL D):=R5 hnd key;rw [<-htn] at hll hg;have wl:aj (((nZ (E'.map kb):Nat):Int)-((t.n:Nat):Int))=((nZ (uL D):Nat):Int)-t.n:=by rw [hlE,wI]
 have wr:aj (D.room-((s.n:Nat):Int))=D.room-s.n:=wI;have hd0:∀{v:World},Ext w0 v->ld v (af (some ⟨d,0,none⟩) 0)=some (.int .i64 D.room):=λx=>by have:=(h0.ext x).rd.at 0 rfl;rw [e3] at this;exact this
 have x2d:=x2.tr (Ext.dr w2);have hby:=LA (w:=w2.drew) aeh hbE (by rw [hlE];omega);refine ⟨_,rfl,D.room,hd0 x2d,?_,?_⟩
 ·refine hby.mono ?_;rintro e v ⟨rfl,xv⟩;have W9:=x2d.tr xv;refine ⟨_,rfl,DF (hd0 W9),GI,_,Jg,aeh.same (xv.heap aeh.lt),⟨key,rfl⟩,t,tb,hl,DF (hd0 W9),?_⟩;rw [wl,wr];apply Br.mk<;>intro hc
  ·simp only [gt_iff_lt,cQ] at hc;have e:mX D key b=((jN D).1,8):=by unfold mX;rw [if_neg (by rw [hf];decide),if_pos ab]
   rw [e];have zv:=W9.size;exact ⟨rfl,m,h0.ext W9,m0'.trans (Mod.aD W9),λi hi=> .inl hi,λi hi=> .inl hi⟩
  ·simp only [gt_iff_lt,fa] at hc;have e:mX D key b=({(jN D).1 with l:=D.l++ [(key,b)]},0):=by unfold mX;rw [if_neg (by rw [hf];decide),if_neg ab]
   have bt:=h.ok.put key b;rw [e] at bt ⊢;have xvd:=W9.tr (Ext.dr v);refine ⟨m.ls,(h0.ext xvd).rd.at 4 rfl,(oV s b v.drew (Kq.ext xvd) hn).mono ?_⟩;rintro e cR ⟨wS,rfl,o13,bN⟩;have Fk:=xvd.tr bN;have uV:=h0.ext Fk;obtain ⟨n1,n2⟩:=uV.nW;rw [e2] at n2;refine ⟨wS,rfl,DF (uV.rd.at 4 rfl),λbP ux=> ?_⟩;subst ux;obtain ⟨WE,bw⟩:=aC.iO uV.ol (bytes:=32) (news:=wV (key,wS,b)) (.cells #[key,wS] tW) (Nat.zero_le _) rfl (Yy _ _ _ _) ab ab;refine ⟨WE,λlj cJ hr=> ?_⟩;obtain ⟨f1,aa7,arf,xb,uR,ik⟩:=bw lj cJ hr;have m16:Mod (λj=>m.ls.aX=some j) cR cJ:=Mod.vA xb uR;have J1:=m16.row uV.rd λq=>uV.aeJ _ q rfl
   obtain ⟨p1,p2⟩:=J1.je (j:=4) (v:=.slice lj.a lj.n lj.c) bB rfl;have z12:=Fk.size;have Rx:=h.rd.lt;refine ⟨f1,⟨rfl,p1⟩,λq=> ?_,λcL ze=>⟨rfl,{m with ls:=lj,W:=m.W++ [(key,wS,b)]},?_,?_,?_,?_⟩⟩
   ·rw [cV] at q;have:d=cR.heap.size:=by simpa [bD] using q
    omega
   ·obtain ⟨q1,q2⟩:=p2 cL ze;have mm:Mod (λj=>j=d\/m.ls.aX=some j) cR cL:=(m16.mono λi _ hi=> .inr hi).trans (q2.mono λi _ hi=> .inl hi);have off:∀{g:Nat} {cs:LV} {τ:TypeId},Row cR g cs τ->τ≠tn->τ≠tW->¬(g=d\/m.ls.aX=some g):=λhr' t1 t2 q=>by
     rcases q with q|q
     ·exact hr'.ne uV.rd t1 q
     ·obtain ⟨cs',pP⟩:=bc uV.ol aF q;exact hr'.ne pP t2 rfl
    refine ⟨q1,mm.map uV.rm λq=> ?_,?_,uV.sf,?_,λx hx=> ?_,bt⟩
    ·rcases q with q|q
     ·exact uV.rd.jj uV.rm q.symm
     ·obtain ⟨cs',pP⟩:=bc uV.ol aF q;exact pP.jj uV.rm rfl
    ·show aC 0 tW 2 cL lj ((m.W++ [(key,wS,b)]).map wV);rw [bU];refine q2.fk aa7 λg hg=> ?_
     obtain ⟨cs',pP⟩:=bc aa7 aF hg;exact pP.ne J1 aF
    ·show (m.W++ [(key,wS,b)]).map kb=D.l++ [(key,b)];rw [bU,h.sl];rfl
    ·have hx:x ∈ m.E++m.W\/x=(key,wS,b):=by
      simp only [di,cB,jQ,or_false] at hx ⊢;rcases hx with hx|hx|hx
      ·exact .inl (.inl hx)
      ·exact .inl (.inr hx)
      ·exact .inr hx
     have Xa:PZ cR x:=by
      rcases hx with hx|rfl
      ·exact uV.bl x hx
      ·exact ⟨aC.low o13 (Nat.zero_le _),hb⟩
     refine ⟨mm.fk Xa.o λg hg=> ?_,Xa.b⟩;obtain ⟨cs',pP⟩:=bc Xa.o aF hg;exact off pP aF aF
   ·obtain ⟨q1,q2⟩:=p2 cL ze;refine (m0'.trans (Mod.aD Fk)).trans ((m16.mono λi _ hi=> .inr hi).trans (q2.mono λi _ hi=> .inl hi))
   ·rintro i (q|q|q|⟨x,hx,q⟩)
    ·exact .inl (.inl q)
    ·exact .inl (.inr (.inl q))
    ·rcases ik with q'|q'
     ·exact .inl (.inr (.inr (.inl (by rw [<-q'];exact q))))
     ·rw [q'] at q;cases q;exact .inr ab
    ·simp only [di,cB,jQ,or_false] at hx;rcases hx with hx|hx|rfl
     ·exact .inl (.inr (.inr (.inr ⟨x,di.2 (.inl hx),q⟩)))
     ·exact .inl (.inr (.inr (.inr ⟨x,di.2 (.inr hx),q⟩)))
     ·have:=(o13.own.lt q).1;have zv:=xvd.size;exact .inr ab
   ·intro i q;rcases ik with q'|q'
    ·exact .inl (by rw [<-q'];exact q)
    ·have q:lj.aX=some i:=q;rw [q'] at q;cases q;exact .inr ab
 ·refine ⟨GI,_,Jg,aeh,⟨key,rfl⟩,t,tb,hl,DF (hd0 x2d),hby.mono ?_⟩;rintro e v ⟨rfl,xv⟩;have W9:=x2d.tr xv;refine ⟨_,rfl,DF (hd0 W9),?_⟩;rw [wl,wr];apply Br.mk<;>intro hc
  ·simp only [gt_iff_lt,cQ] at hc;have e:mX D key b=((jN D).1,8):=by unfold mX;rw [if_neg (by rw [hf];decide),if_pos ab]
   rw [e];have zv:=W9.size;exact ⟨rfl,m,h0.ext W9,m0'.trans (Mod.aD W9),λi hi=> .inl hi,λi hi=> .inl hi⟩
  ·simp only [gt_iff_lt,fa] at hc;have e:mX D key b=({(jN D).1 with l:=D.l++ [(key,b)]},0):=by unfold mX;rw [if_neg (by rw [hf];decide),if_neg ab]
   have bt:=h.ok.put key b;rw [e] at bt ⊢;have xvd:=W9.tr (Ext.dr v);refine ⟨m.ls,(h0.ext xvd).rd.at 4 rfl,(oV s b v.drew (Kq.ext xvd) hn).mono ?_⟩;rintro e cR ⟨wS,rfl,o13,bN⟩;have Fk:=xvd.tr bN;have uV:=h0.ext Fk;obtain ⟨n1,n2⟩:=uV.nW;rw [e2] at n2;refine ⟨wS,rfl,DF (uV.rd.at 4 rfl),λbP ux=> ?_⟩;subst ux;obtain ⟨WE,bw⟩:=aC.iO uV.ol (bytes:=32) (news:=wV (key,wS,b)) (.cells #[key,wS] tW) (Nat.zero_le _) rfl (Yy _ _ _ _) ab ab;refine ⟨WE,λlj cJ hr=> ?_⟩;obtain ⟨f1,aa7,arf,xb,uR,ik⟩:=bw lj cJ hr;have m16:Mod (λj=>m.ls.aX=some j) cR cJ:=Mod.vA xb uR;have J1:=m16.row uV.rd λq=>uV.aeJ _ q rfl
   obtain ⟨p1,p2⟩:=J1.je (j:=4) (v:=.slice lj.a lj.n lj.c) bB rfl;have z12:=Fk.size;have Rx:=h.rd.lt;refine ⟨f1,⟨rfl,p1⟩,λq=> ?_,λcL ze=>⟨rfl,{m with ls:=lj,W:=m.W++ [(key,wS,b)]},?_,?_,?_,?_⟩⟩
   ·rw [cV] at q;have:d=cR.heap.size:=by simpa [bD] using q
    omega
   ·obtain ⟨q1,q2⟩:=p2 cL ze;have mm:Mod (λj=>j=d\/m.ls.aX=some j) cR cL:=(m16.mono λi _ hi=> .inr hi).trans (q2.mono λi _ hi=> .inl hi);have off:∀{g:Nat} {cs:LV} {τ:TypeId},Row cR g cs τ->τ≠tn->τ≠tW->¬(g=d\/m.ls.aX=some g):=λhr' t1 t2 q=>by
     rcases q with q|q
     ·exact hr'.ne uV.rd t1 q
     ·obtain ⟨cs',pP⟩:=bc uV.ol aF q;exact hr'.ne pP t2 rfl
    refine ⟨q1,mm.map uV.rm λq=> ?_,?_,uV.sf,?_,λx hx=> ?_,bt⟩
    ·rcases q with q|q
     ·exact uV.rd.jj uV.rm q.symm
     ·obtain ⟨cs',pP⟩:=bc uV.ol aF q;exact pP.jj uV.rm rfl
    ·show aC 0 tW 2 cL lj ((m.W++ [(key,wS,b)]).map wV);rw [bU];refine q2.fk aa7 λg hg=> ?_
     obtain ⟨cs',pP⟩:=bc aa7 aF hg;exact pP.ne J1 aF
    ·show (m.W++ [(key,wS,b)]).map kb=D.l++ [(key,b)];rw [bU,h.sl];rfl
    ·have hx:x ∈ m.E++m.W\/x=(key,wS,b):=by
      simp only [di,cB,jQ,or_false] at hx ⊢;rcases hx with hx|hx|hx
      ·exact .inl (.inl hx)
      ·exact .inl (.inr hx)
      ·exact .inr hx
     have Xa:PZ cR x:=by
      rcases hx with hx|rfl
      ·exact uV.bl x hx
      ·exact ⟨aC.low o13 (Nat.zero_le _),hb⟩
     refine ⟨mm.fk Xa.o λg hg=> ?_,Xa.b⟩;obtain ⟨cs',pP⟩:=bc Xa.o aF hg;exact off pP aF aF
   ·obtain ⟨q1,q2⟩:=p2 cL ze;refine (m0'.trans (Mod.aD Fk)).trans ((m16.mono λi _ hi=> .inr hi).trans (q2.mono λi _ hi=> .inl hi))
   ·rintro i (q|q|q|⟨x,hx,q⟩)
    ·exact .inl (.inl q)
    ·exact .inl (.inr (.inl q))
    ·rcases ik with q'|q'
     ·exact .inl (.inr (.inr (.inl (by rw [<-q'];exact q))))
     ·rw [q'] at q;cases q;exact .inr ab
    ·simp only [di,cB,jQ,or_false] at hx;rcases hx with hx|hx|rfl
     ·exact .inl (.inr (.inr (.inr ⟨x,di.2 (.inl hx),q⟩)))
     ·exact .inl (.inr (.inr (.inr ⟨x,di.2 (.inr hx),q⟩)))
     ·have:=(o13.own.lt q).1;have zv:=xvd.size;exact .inr ab
   ·intro i q;rcases ik with q'|q'
    ·exact .inl (by rw [<-q'];exact q)
    ·have q:lj.aX=some i:=q;rw [q'] at q;cases q;exact .inr ab
set_option maxRecDepth 100000 in
theorem QO{w:World}{d:Nat}{m:Dm}{D:Dk}(h:DO w d m D)(hW:D.l.length<=1000000000):
  ah 165 #[d] w λe w'=>e=Value.int .i64 (rR D).2/\agj w d m (rR D).1 w':=by
 apply Ex.vc;refine (Bt h).mono ?_;rintro e w0 ⟨rfl,h0,m0⟩;have z0:=m0.size;have m0':Mod (λi=>i=d\/m.ls.aX=some i) w w0:=m0.mono λi _ hi=> .inl hi
 have bt:=h.ok.sync;obtain ⟨e1,e2,e3⟩:=kN D;refine ⟨_,rfl,Br.mk (λhf=> ?_) (λhf=> ?_)⟩
 ·have e:rR D=((jN D).1,9):=by unfold rR;rw [if_pos hf]
  rw [e];exact ⟨rfl,m,h0,m0',λi hi=> .inl hi,λi hi=> .inl hi⟩
 ·have e:rR D=({(jN D).1 with safe:=uL D,l:=[]},0):=by unfold rR;rw [if_neg (by rw [hf];decide)]
  rw [e] at bt ⊢;refine (Af h0 (by rw [e2];exact hW)).mono ?_;rintro e w2 ⟨r',E',rfl,BG,hp,eL,x2,hr'⟩;rw [R6] at hp;have h2:=h0.ext x2;have z2:=x2.size;have Rx:=h.rd.lt;obtain ⟨p1,p2⟩:=h2.rd.je (j:=3) (v:=.map (some r')) bB rfl;refine ⟨_,rfl,⟨rfl,p1⟩,λw4 e4=> ?_⟩;obtain ⟨q1,q2⟩:=p2 w4 e4;obtain ⟨p3,p4⟩:=q1.je (j:=4) (v:=.slice none 0 0) (show 4<5 by decide) rfl;refine ⟨⟨rfl,p3⟩,λw5 e5=>⟨rfl,⟨r',⟨none,0,0⟩,E',[]⟩,?_,?_,?_,λi q=>by cases q⟩⟩
  ·obtain ⟨q3,q4⟩:=p4 w5 e5;have mm:=q2.trans q4;refine ⟨q3,mm.map BG λq=>h2.rd.jj BG q.symm,aC.nil,hp,rfl,λx hx=> ?_,bt⟩;have hx':x ∈ E':=by simpa using hx
   have Xa:=h2.bl x (eL x hx');refine ⟨mm.fk Xa.o λg hg=> ?_,Xa.b⟩;obtain ⟨cs',pP⟩:=bc Xa.o aF hg;exact pP.ne h2.rd aF
  ·obtain ⟨q3,q4⟩:=p4 w5 e5;exact (m0'.trans (Mod.aD x2)).trans ((q2.trans q4).mono λi _ hi=> .inl hi)
  ·rintro i (q|q|q|⟨x,hx,q⟩)
   ·exact .inl (.inl q)
   ·exact .inr (by rw [q];show _<=r';omega)
   ·cases q
   ·have hx':x ∈ E':=by simpa using hx
    exact .inl (.inr (.inr (.inr ⟨x,eL x hx',q⟩)))
abbrev ajT:TypeId:=202
structure SO(w:World)(st d:Nat)(m:Dm)(D:Dk):Prop where
 rs:Row w st [d] Aj
 dk:DO w d m D
def sF(st d:Nat)(m:Dm)(i:Nat):Prop:=i=st\/dF d m i
theorem SO.lt{w:World}{st d:Nat}{m:Dm}{D:Dk}(h:SO w st d m D){i:Nat}(hi:sF st d m i):i<w:=by
 rcases hi with rfl|hi
 ·exact h.rs.lt
 ·exact h.dk.lt hi
theorem SO.same{w w':World}{st d:Nat}{m:Dm}{D:Dk}(h:SO w st d m D)(hs:∀i,sF st d m i->w'.heap[i]? =w.heap[i]?):SO w' st d m D:=⟨h.rs.same (hs _ (.inl rfl)),h.dk.same λi hi=>hs i (.inr hi)⟩
theorem SO.ext{w w':World}{st d:Nat}{m:Dm}{D:Dk}(h:SO w st d m D)(x:Ext w w'):SO w' st d m D:=h.same λi hi=>x.heap (h.lt hi)
theorem SO.ptr{w:World}{st d:Nat}{m:Dm}{D:Dk}(h:SO w st d m D):ld w (af (af (some ⟨st,0,none⟩) 0) 0)=some (.pointer (some ⟨d,0,none⟩)):=by rw [bf,bf,h.rs.ld];rfl
theorem VU(room:Int)(w:World):ah 212 #[room] w λe w'=>∃d m,e=Value.pointer (some ⟨d,0,none⟩)/\DO w' d m ⟨min (max room 0) 1048576,0,0,[],[]⟩/\Ext w w'/\∀i,dF d m i->w.heap.size<=i:=by
 apply XZ.vc;intro w0 e0 w1 e1;have z0:=eG e0;have x1:=aL e1;have hm:cl GI w0 (some w.heap.size) []:=by rw [e0];exact cl.new
 have er:(if 1048576<(if 0>room then 0 else room) then 1048576 else (if 0>room then 0 else room))=min (max room 0) 1048576:=by split<;>split<;>omega
 rw [er] at e1;refine ⟨w0.heap.size,⟨w.heap.size,⟨none,0,0⟩,[],[]⟩,rfl,⟨by rw [e1];exact Row.new w0 [_,_,_,_,_] _,hm.same (x1.heap hm.lt),aC.nil,.refl _,rfl,(λx hx=>by cases hx),⟨List.nodup_nil,λk=>by simp [nZ];omega,by simp,by simp,by simp only;omega⟩⟩,(aL e0).tr x1,λi hi=> ?_⟩;rcases hi with q|q|q|⟨x,hx,-⟩
 ·omega
 ·rw [q];exact aB _
 ·cases q
 ·cases hx
theorem VT(room:Int)(w:World):ah 149 #[room] w λe w'=>∃st d m,e=Value.pointer (some ⟨st,0,none⟩)/\SO w' st d m ⟨min (max room 0) 1048576,0,0,[],[]⟩/\Ext w w'/\∀i,sF st d m i->w.heap.size<=i:=by
 apply T7.vc;refine (VU room w).mono ?_;rintro e w0 ⟨d,m,rfl,hd,x0,hf⟩;refine ⟨_,rfl,λw2 e2=> ?_⟩;have x2:=aL e2;have z:=x0.size;refine ⟨_,d,m,rfl,⟨by rw [e2];exact Row.new w0 [_] _,hd.ext x2⟩,x0.tr x2,λi hi=> ?_⟩;rcases hi with q|q
 ·omega
 ·exact hf i q
set_option maxRecDepth 100000 in
theorem MR{w:World}{st d:Nat}{m:Dm}{D:Dk}(h:SO w st d m D)(hW:D.l.length<=1000000000){id:Int}(hid:0<=id/\id<=1099511627776):
  ah 133 #[st,id] w λe w'=>∃s:Sl,e=Value.agg #[.int .i64 (nQ D id).1,.int .i64 (nQ D id).2.1,.slice s.a s.n s.c]/\jf w' s (nQ D id).2.2/\mY (nQ D id).2.2/\(nQ D id).2.2.length<=1048576/\s.n<=s.c/\(∀g,s.aX=some g->w.heap.size<=g)/\Ext w w':=by
 apply Ca.vc;intro w0 e0 w1 e1 w2 e2;have z0:=eG e0;have z1:w1.heap.size=w.heap.size+2:=by rw [e1];simp [z0]
 have z2:w2.heap.size=w.heap.size+2:=by rw [e2,setRow_size,z1]
 have x2:Ext w w2:=((aL e0).bn e1).ae e2 ab;have k0:aj (2*id)=2*id:=wI;have k1:aj (2*id+1)=2*id+1:=wI;rw [k0,k1];obtain ⟨best,hbest⟩:∃best:Nat->Rc,best=λk=>if k=0 then (2*id+1,0,[]) else if k=1 then kF (2*id+1,0,[]) (2*id) (qN (getD D (2*id))) else nQ D id:=⟨_,rfl⟩
 have b0:best 0=(2*id+1,0,[]):=by rw [hbest];rfl
 have b1:best 1=kF (best 0) (2*id) (qN (getD D (2*id))):=by rw [b0,hbest];rfl
 have b2:best 2=kF (best 1) (2*id+1) (qN (getD D (2*id+1))):=by rw [b1,b0,hbest];rfl
 have b3:best 2=nQ D id:=by rw [hbest];rfl
 refine ⟨λn i sl v s wr=>∃k:Nat,i=k/\k+n=2/\sl=(best k).1/\v=(best k).2.1/\jf wr s (best k).2.2/\mY (best k).2.2/\(best k).2.2.length<=1048576/\s.n<=s.c/\(∀g,s.aX=some g->w2.heap.size<=g)/\Ext w wr/\w2.heap.size<=wr,
  ⟨2,rfl,0,rfl,rfl,by rw [b0],by rw [b0],by rw [b0];exact mA.FZ (aC.nil (B:=0)),by rw [b0];exact (λc hc=>by cases hc),by rw [b0];simp,aB _,(λg hg=>by cases hg),x2,aB _⟩,?_⟩
 rintro n4 us i sl v s bO ⟨k,rfl,hk,rfl,rfl,hs,yN,oC,hsc,hsf,bh,QX⟩;apply Br.mk<;>intro hc
 ·replace hc:=mh hc;have Ta:=mz (j:=k);obtain ⟨slot,hslot,hnext⟩:∃slot,([.int .i64 (2*id),.int .i64 (2*id+1)]:LV)[((k:Nat):Int).toNat*1]? =some (.int .i64 slot)/\best (k+1)=kF (best k) slot (qN (getD D slot)):=by
   rcases k with _|_|k
   ·exact ⟨_,rfl,b1⟩
   ·exact ⟨_,rfl,b2⟩
   ·omega
  have h10:=h.ext bh;refine ⟨⟨by omega,by omega⟩,slot,hslot,_,h10.ptr,(UB h10.dk hW slot).mono ?_⟩;rintro e bP ⟨t,tb,rfl,ot,hby,hle,bX⟩;have Wb:=bX.size;refine ⟨t,tb,rfl,bX.heap ab,bX.heap ab,(QF t (getD D slot) bP (mA.FZ ot) hby (aC.le ot) ab).mono ?_⟩;rintro e cL ⟨u,rfl,hu,huc,hub,cY⟩;have z17:=cY.size;have abo:=bX.tr cY;have hui:=agG hby
  have hul:=agH (getD D slot);have c5:kF (best k) slot (qN (getD D slot))=best k->∃sb,sb<n4/\aO [aa,aa,.slice none 0 0]/\∃k':Nat,aj ((k:Int)+1)=(k':Int)/\k'+sb=2/\(best k).1=(best k').1/\(best k).2.1=(best k').2.1/\jf cL s (best k').2.2/\mY (best k').2.2/\(best k').2.2.length<=1048576/\s.n<=s.c/\(∀g,s.aX=some g->w2.heap.size<=g)/\Ext w cL/\w2.heap.size<=cL:=λq=>by rw [q] at hnext;exact ⟨n4-1,by omega,rfl,k+1,Ta,by omega,by rw [hnext],by rw [hnext],by rw [hnext];exact hs.ext abo,by rw [hnext];exact yN,by rw [hnext];exact oC,hsc,hsf,bh.tr abo,by omega⟩
  refine ⟨_,u,_,rfl,cY.heap ab,cY.heap ab,Br.mk (λhb=>Br.mk (λjC=> ?_) (λjC=> ?_)) (λhb=> ?_)⟩
  ·have q1:(qN (getD D slot)).2.2=0:=by simpa using hb
   have q2:(qN (getD D slot)).1>(best k).2.1:=by simpa using jC
   have e:kF (best k) slot (qN (getD D slot))=(slot,(qN (getD D slot)).1,(qN (getD D slot)).2.1):=by unfold kF;rw [if_pos ⟨q1,q2⟩]
   rw [e] at hnext;intro eK yY;have dh:Ext w eK:=(bh.tr abo).ae yY ab;have atg:jf eK u (qN (getD D slot)).2.1:=hu.same λg hg=>by rw [yY];exact setRow_other _ _ _ _ (by have:=hub g hg;omega)
   have z21:eK.heap.size=cL.heap.size:=by rw [yY,setRow_size]
   exact ⟨n4-1,by omega,rfl,k+1,Ta,by omega,by rw [hnext],by rw [hnext],by rw [hnext];exact atg,by rw [hnext];exact hui,by rw [hnext];simp only;omega,huc,(λg hg=>by have:=hub g hg;omega),dh,by omega⟩
  ·have q2:¬(qN (getD D slot)).1>(best k).2.1:=by simpa using jC
   exact c5 (by unfold kF;rw [if_neg λq=>q2 q.2])
  ·have q1:(qN (getD D slot)).2.2≠0:=by simpa using hb
   exact c5 (by unfold kF;rw [if_neg λq=>q1 q.1])
 ·replace hc:=my hc;have Fb:k=2:=by omega
  subst Fb;rw [b3] at hs yN oC ⊢;intro dT yX;refine ⟨s,rfl,hs.same λg hg=> ?_,yN,oC,hsc,λg hg=>by have:=hsf g hg;omega,bh.ae yX (aB _)⟩;rw [yX];exact setRow_other _ _ _ _ (by have:=hsf g hg;omega)
theorem Ia(id:Int)(w:World):ah 132 #[id] w λe w'=>e=Value.bool (FX id)/\w'=w:=by
 apply T8.vc;unfold FX;apply Br.mk<;>intro h
 ·simp only [ge_iff_le,cQ] at h;rw [decide_eq_true h];exact ⟨rfl,rfl⟩
 ·simp only [ge_iff_le,fa] at h;rw [decide_eq_false h];exact ⟨rfl,rfl⟩
theorem MS{id:Int}:FX id=true ↔ 0<=id/\id<=1099511627776:=by unfold FX;simp
theorem Lv{w:World}{st d:Nat}{m:Dm}{D:Dk}(h:SO w st d m D)(hW:D.l.length<=1000000000)(id:Int):
  ah 76 #[st,id] w λe w'=>∃s:Sl,e=Value.tuple #[s,.int .i64 (Hf D id).2.1,.bool (Hf D id).2.2]/\jf w' s (Hf D id).1/\mY (Hf D id).1/\(Hf D id).1.length<=1048576/\s.n<=s.c/\(∀g,s.aX=some g->w.heap.size<=g)/\Ext w w':=by
 apply Ab.vc;refine (Ia id w).mono ?_;rintro e w0 ⟨rfl,rfl⟩;refine ⟨_,rfl,Br.mk (λhb=> ?_) (λhb=> ?_)⟩
 ·have q:¬FX id=true:=by simpa using hb
  have e:Hf D id=([],0,false):=by unfold Hf;rw [if_neg q]
  rw [e];exact ⟨⟨none,0,0⟩,rfl,mA.FZ (aC.nil (B:=0)),(λc hc=>by cases hc),by simp,aB _,(λg hg=>by cases hg),Ext.cE _⟩
 ·have q:FX id=true:=by simpa using hb
  have e:Hf D id=((nQ D id).2.2,(nQ D id).2.1,decide ((nQ D id).2.1>0)):=by unfold Hf;rw [if_pos q]
  rw [e];refine (MR h hW (MS.1 q)).mono ?_;rintro e w2 ⟨s,rfl,hs,yN,oC,hsc,hsf,x2⟩;refine ⟨_,_,s,rfl,λw6 e6 w7 e7=> ?_⟩;have x7:Ext w2 w7.drew:=((aL e6).ae e7 (aB _)).drew;exact ⟨s,rfl,hs.ext x7,yN,oC,hsc,hsf,x2.tr x7⟩
def Cm(w:World)(st d:Nat)(m:Dm)(D:Dk)(w':World):Prop:=∃m',SO w' st d m' D/\Mod (λi=>i=d\/m.ls.aX=some i) w w'/\(∀i,dF d m' i->dF d m i\/w.heap.size<=i)/\∀i,m'.ls.aX=some i->m.ls.aX=some i\/w.heap.size<=i
theorem SO.off{w:World}{st d:Nat}{m:Dm}{D:Dk}(h:SO w st d m D):¬(st=d\/m.ls.aX=some st):=by
 rintro (q|q)
 ·exact h.rs.ne h.dk.rd aF q
 ·obtain ⟨cs',pP⟩:=bc h.dk.ol aF q;exact h.rs.ne pP aF rfl
theorem SO.res{w w':World}{st d:Nat}{m:Dm}{D D':Dk}(h:SO w st d m D)(hr:agj w d m D' w'):Cm w st d m D' w':=by obtain ⟨m',h1,h2,h3,h4⟩:=hr;exact ⟨m',⟨h2.row h.rs h.off,h1⟩,h2,h3,h4⟩
theorem Cm.aD{w0 w w':World}{st d:Nat}{m:Dm}{D':Dk}(x:Ext w0 w)(hr:Cm w st d m D' w'):Cm w0 st d m D' w':=by obtain ⟨m',h1,h2,h3,h4⟩:=hr;have z:=x.size;exact ⟨m',h1,(Mod.aD x).trans h2,λi hi=>(h3 i hi).imp id λq=>by omega,λi hi=>(h4 i hi).imp id λq=>by omega⟩
theorem Cm.trans{w w1 w2:World}{st d:Nat}{m m1:Dm}{D1 D2:Dk}(h1:SO w1 st d m1 D1/\Mod (λi=>i=d\/m.ls.aX=some i) w w1/\(∀i,dF d m1 i->dF d m i\/w.heap.size<=i)/\∀i,m1.ls.aX=some i->m.ls.aX=some i\/w.heap.size<=i)(h2:Cm w1 st d m1 D2 w2):Cm w st d m D2 w2:=by
 obtain ⟨a1,a2,a3,a4⟩:=h1;obtain ⟨m2,b1,b2,b3,b4⟩:=h2;have z:=a2.size;refine ⟨m2,b1,a2.tr b2 λi hi=> ?_,λi hi=> ?_,λi hi=> ?_⟩
 ·rcases hi with q|q
  ·exact .inl (.inl q)
  ·exact (a4 i q).imp .inr id
 ·rcases b3 i hi with q|q
  ·exact a3 i q
  ·exact .inr ab
 ·rcases b4 i hi with q|q
  ·exact a4 i q
  ·exact .inr ab
set_option maxRecDepth 100000 in
theorem Bf{w:World}{st d:Nat}{m:Dm}{D:Dk}(h:SO w st d m D)(hW:D.l.length<=1000000)(id:Int)(s:Sl)(b:List Int)(hs:jf w s b)(hb:mY b)(hn:b.length<=1099511627776):
  ah 115 #[st,id,s] w λe w'=>e=Value.int .i64 (xA D id b).2/\Cm w st d m (xA D id b).1 w':=by
 apply (Av.vc (a2:=s));have same:∀{w':World},Ext w w'->Cm w st d m D w':=λx=>⟨m,h.ext x,Mod.aD x,λi hi=> .inl hi,λi hi=> .inl hi⟩
 refine (Ia id w).mono ?_;rintro e w0 ⟨rfl,rfl⟩;refine ⟨_,rfl,Br.mk (λC4=> ?_) (λC4=> ?_)⟩
 ·have q:¬FX id=true:=by simpa using C4
  have e:xA D id b=(D,1):=by unfold xA;rw [if_neg q]
  rw [e];exact ⟨rfl,same (Ext.cE _)⟩
 ·have q:FX id=true:=by simpa using C4
  have hid:=MS.1 q;refine (MR h ab hid).mono ?_;rintro e w2 ⟨s5,rfl,-,-,-,-,-,x2⟩;refine ⟨_,_,s5,rfl,λw6 e6 w7 e7=> ?_⟩;have r7:Row w7 w2 [.int .i64 (nQ D id).1,.int .i64 (nQ D id).2.1,s5] ajT:=by rw [e7];exact Row.set (by rw [e6];exact Row.new w2 [_,_,_] _) _
  have fE:Ext w2 w7:=(aL e6).ae e7 (aB _);have x7:=x2.tr fE;have hv:=ajq D id;have wv:aj ((nQ D id).2.1+1)=(nQ D id).2.1+1:=wI;rw [wv];have oC:=Xu D id;have hto:ky .i64 (nQ D id).1 1=4*id+1-(nQ D id).1:=by
   obtain ⟨t1,t2⟩:=Xt hid;rcases oC with q|q
   ·rw [q,t1];omega
   ·rw [q,t2];omega
  rw [hto];have hsv:xA D id b=if (CM ((nQ D id).2.1+1) b).2≠0 then (D,(CM ((nQ D id).2.1+1) b).2)
   else if (mX D (4*id+1-(nQ D id).1) (CM ((nQ D id).2.1+1) b).1).2≠0 then mX D (4*id+1-(nQ D id).1) (CM ((nQ D id).2.1+1) b).1
   else rR (mX D (4*id+1-(nQ D id).1) (CM ((nQ D id).2.1+1) b).1).1:=by unfold xA;rw [if_pos q]
  rw [hsv];refine (Mw ((nQ D id).2.1+1) s b w7 (hs.ext x7) hb hn).mono ?_;rintro e w8 ⟨s9,rfl,o9,x8⟩;have FR:mY (CM ((nQ D id).2.1+1) b).1:=agM hb;have hwn:(CM ((nQ D id).2.1+1) b).1.length<=1099511627776:=by
   unfold CM;split
   ·simp
   ·rename_i q3;rw [Hh,Mx];omega
  generalize CM ((nQ D id).2.1+1) b=wr at*;generalize 4*id+1-(nQ D id).1=slot at*;have z8:=x8.size;have z2:=fE.size;have hlt7:=r7.lt;refine ⟨s9,_,rfl,x8.heap hlt7,Br.mk (λjC=> ?_) (λjC=> ?_)⟩
  ·have q2:wr.2≠0:=by simpa using jC
   rw [if_pos q2];exact ⟨rfl,same (x7.tr x8)⟩
  ·have q2:wr.2=0:=by simpa using jC
   rw [if_neg (by rw [q2];simp)];have x8d:=(x7.tr x8).tr (Ext.dr w8);have h8:=h.ext x8d;have Rx:=h.dk.rd.lt;have z7:=x7.size;refine ⟨_,h8.ptr,(UJ h8.dk ab slot s9 wr.1 (RdK.ext (mA.FZ o9) (Ext.dr w8)) FR hwn λhg=>by have:=(o9.own.lt hg).1;omega).mono ?_⟩;rintro e cR ⟨rfl,ath⟩;have amH:=h8.res ath;have JO:∀{v:World},Mod (λi=>i=d\/m.ls.aX=some i) w8.drew v->v.heap[w2.heap.size]? =w8.drew.heap[w2.heap.size]? :=λhm=>hm.same _ (by show w2.heap.size<w8.heap.size;omega) (by
    have:=x2.size;rintro (q|q)
    ·omega
    ·have:=(h.dk.ol.own.lt q).2;omega)
   obtain ⟨m1,g1,g2,g3,g4⟩:=amH;have r12:Row cR w2 [.int .i64 (nQ D id).1,.int .i64 (nQ D id).2.1,s5] ajT:=((r7.ext x8).ext (Ext.dr w8)).same (JO g2);refine ⟨_,rfl,JO g2,r12.bZ (λj hj=>by simp at hj;subst hj;rfl),Br.mk (λhb3=> ?_) (λhb3=> ?_)⟩
   ·have q3:(mX D slot wr.1).2≠0:=by simpa using hb3
    rw [if_pos q3];exact ⟨rfl,Cm.aD x8d ⟨m1,g1,g2,g3,g4⟩⟩
   ·have q3:(mX D slot wr.1).2=0:=by simpa using hb3
    rw [if_neg (by rw [q3];simp)];have hpl:=Xw D slot wr.1;refine ⟨_,g1.ptr,(QO g1.dk ab).mono ?_⟩;rintro e eA ⟨rfl,amI⟩;have amJ:=g1.res amI;have bw:=Cm.trans ⟨g1,g2,g3,g4⟩ amJ;have z12:=g2.size;obtain ⟨m2,f1,f2,f3,f4⟩:=amI;refine ⟨_,rfl,f2.same _ r12.lt ?_,rfl,Cm.aD x8d bw⟩;rintro (q|q)
    ·have:=x2.size;omega
    ·obtain ⟨cs',pP⟩:=bc g1.dk.ol aF q;exact r12.ne pP aF rfl
structure It where
 x:Nat
 g:Nat
 s:Sl
 p:Po
 C:List Int
 nU:Bool
 pins:Int
structure uF(w:World)(i:It):Prop where
 r:Row w i.x [.pointer (some ⟨i.g,0,none⟩),.bool i.nU,i.pins] cC
 k:Gl w i.g i.s i.p i.C
theorem uF.ext{w w':World}{i:It}(h:uF w i)(x:Ext w w'):uF w' i:=⟨h.r.ext x,h.k.ext x⟩
theorem uF.c5{w w':World}{i:It}(h:uF w i){F:Nat->Prop}(hm:Mod F w w')(h1:¬F i.x)(h2:¬F i.g)(h3:∀b,i.s.aX=some b->¬F b):uF w' i:=⟨hm.row h.r h1,h.k.c5 hm h2 h3⟩
abbrev BM(its:List It):List (LV):=its.map λi=> [.pointer (some ⟨i.x,0,none⟩)]
structure TO(w:World)(t st d:Nat)(r:Dm)(sl:Sl)(D:Dk)(ar limit:Int)(its:List It):Prop where
 rt:Row w t [st,ar,limit,sl] Ak
 so:SO w st d r D
 ol:aC 0 Yc 1 w sl (BM its)
 it:∀i ∈ its,uF w i
 dx:(its.map (·.x)).Nodup
 dg:(its.map (·.g)).Nodup
 WT:1<=limit/\limit<=16
 len:(its.length:Int)<=limit
def dM(m:Dm)(i:Nat):Prop:=i=m.r\/m.ls.aX=some i\/∃x ∈ m.E++m.W,x.2.1.aX=some i
def aI(t st d:Nat)(r:Dm)(sl:Sl)(its:List It)(i:Nat):Prop:=i=t\/i=st\/i=d\/dM r i\/sl.aX=some i\/∃y ∈ its,i=y.x\/i=y.g\/y.s.aX=some i
theorem TO.lt{w:World}{t st d:Nat}{r:Dm}{sl:Sl}{D:Dk}{ar limit:Int}{its:List It}(h:TO w t st d r sl D ar limit its){i:Nat}(hi:aI t st d r sl its i):i<w:=by
 rcases hi with rfl|e|e|e|e|⟨y,hy,e|e|e⟩
 ·exact h.rt.lt
 ·exact h.so.lt (.inl e)
 ·exact h.so.lt (.inr (.inl e))
 ·exact h.so.lt (.inr (.inr e))
 ·exact (h.ol.own.lt e).2
 ·exact e▸(h.it y hy).r.lt
 ·exact e▸(h.it y hy).k.row.lt
 ·exact ((h.it y hy).k.own.own.lt e).2
theorem TO.same{w w':World}{t st d:Nat}{r:Dm}{sl:Sl}{D:Dk}{ar limit:Int}{its:List It}(h:TO w t st d r sl D ar limit its)(hs:∀i,aI t st d r sl its i->w'.heap[i]? =w.heap[i]?):TO w' t st d r sl D ar limit its:=by
 refine ⟨h.rt.same (hs _ (.inl rfl)),h.so.same λi hi=>hs i ?_,aC.c5 h.ol λb hb=>hs b (.inr (.inr (.inr (.inr (.inl hb))))),λy hy=> ?_,h.dx,h.dg,h.WT,h.len⟩
 ·rcases hi with e|e|e
  ·exact .inr (.inl e)
  ·exact .inr (.inr (.inl e))
  ·exact .inr (.inr (.inr (.inl e)))
 ·have f:∀i,(i=y.x\/i=y.g\/y.s.aX=some i)->w'.heap[i]? =w.heap[i]? :=λi hi=>hs i (.inr (.inr (.inr (.inr (.inr ⟨y,hy,hi⟩)))))
  have hi:=h.it y hy;exact ⟨hi.r.same (f _ (.inl rfl)),hi.k.row.same (f _ (.inr (.inl rfl))),aC.c5 hi.k.own λb hb=>f b (.inr (.inr hb)),hi.k.len,hi.k.may⟩
theorem TO.ext{w w':World}{t st d:Nat}{r:Dm}{sl:Sl}{D:Dk}{ar limit:Int}{its:List It}(h:TO w t st d r sl D ar limit its)(x:Ext w w'):TO w' t st d r sl D ar limit its:=h.same λi hi=>x.heap (h.lt hi)
theorem TO.kind{w:World}{t st d:Nat}{r:Dm}{sl:Sl}{D:Dk}{ar limit:Int}{its:List It}(h:TO w t st d r sl D ar limit its){i:Nat}(hi:aI t st d r sl its i):
  cl GI w (some i) (r.E.map py)\/∃cs τ,Row w i cs τ/\(τ=Ak\/τ=Aj\/τ=tn\/τ=Yc\/τ=cC\/τ=we\/τ=gz\/τ=tW\/τ=hX):=by
 rcases hi with e|e|e|e|e|⟨y,hy,e|e|e⟩
 ·exact .inr ⟨_,_,e▸h.rt,.inl rfl⟩
 ·exact .inr ⟨_,_,e▸h.so.rs,.inr (.inl rfl)⟩
 ·exact .inr ⟨_,_,e▸h.so.dk.rd,.inr (.inr (.inl rfl))⟩
 ·rcases h.so.dk.kind (.inr e) with q|⟨cs,τ,q1,q2⟩
  ·exact .inl q
  ·refine .inr ⟨cs,τ,q1,?_⟩;rcases q2 with rfl|rfl|rfl
   ·exact .inr (.inr (.inl rfl))
   ·exact .inr (.inr (.inr (.inr (.inr (.inr (.inr (.inl rfl)))))))
   ·exact .inr (.inr (.inr (.inr (.inr (.inr (.inr (.inr rfl)))))))
 ·obtain ⟨cs,hr⟩:=bc h.ol aF e;exact .inr ⟨_,_,hr,.inr (.inr (.inr (.inl rfl)))⟩
 ·exact .inr ⟨_,_,e▸(h.it y hy).r,.inr (.inr (.inr (.inr (.inl rfl))))⟩
 ·exact .inr ⟨_,_,e▸(h.it y hy).k.row,.inr (.inr (.inr (.inr (.inr (.inl rfl)))))⟩
 ·obtain ⟨cs,hr⟩:=bc (h.it y hy).k.own aF e;exact .inr ⟨_,_,hr,.inr (.inr (.inr (.inr (.inr (.inr (.inl rfl))))))⟩
theorem TO.dO{w:World}{t st d:Nat}{r:Dm}{sl:Sl}{D:Dk}{ar limit:Int}{its:List It}(h:TO w t st d r sl D ar limit its){j:Nat}{cs:LV}{τ:TypeId}(hr:Row w j cs τ)(hτ:τ≠Ak/\τ≠Aj/\τ≠tn/\τ≠Yc/\τ≠cC/\τ≠we/\τ≠gz/\τ≠tW/\τ≠hX):¬aI t st d r sl its j:=λhf=>by
 rcases h.kind hf with hm|⟨cs',τ',hr',ht⟩
 ·exact hr.jj hm rfl
 ·obtain ⟨h1,h2,h3,h4,h5,h6,h7,h8,h9⟩:=hτ
  rcases ht with rfl|rfl|rfl|rfl|rfl|rfl|rfl|rfl|rfl
  ·exact hr.ne hr' h1 rfl
  ·exact hr.ne hr' h2 rfl
  ·exact hr.ne hr' h3 rfl
  ·exact hr.ne hr' h4 rfl
  ·exact hr.ne hr' h5 rfl
  ·exact hr.ne hr' h6 rfl
  ·exact hr.ne hr' h7 rfl
  ·exact hr.ne hr' h8 rfl
  ·exact hr.ne hr' h9 rfl
theorem TO.n{w:World}{t st d:Nat}{r:Dm}{sl:Sl}{D:Dk}{ar limit:Int}{its:List It}(h:TO w t st d r sl D ar limit its):sl.n=its.length:=by have:=(h.ol.rd aF).n;rwa [aN] at this
theorem TO.at{w:World}{t st d:Nat}{r:Dm}{sl:Sl}{D:Dk}{ar limit:Int}{its:List It}(h:TO w t st d r sl D ar limit its){i:Nat}{y:It}(hi:its[i]? =some y):eo sl.a (i:Int) sl.n/\ld w (af sl.a (((i:Nat):Int).toNat*1))=some (.pointer (some ⟨y.x,0,none⟩)):=by have gZ:=(cG.1 hi).1;have gS:=h.ol.rd (show 0<1 by decide);refine ⟨RdK.g9 gS aF ab (by rw [h.n];omega),?_⟩;have:=gS.rd i [.pointer (some ⟨y.x,0,none⟩)] (by rw [aU,hi];rfl) 0 _ rfl;exact this
def KA(room:Int):Dk:=⟨min (max room 0) 1048576,0,0,[],[]⟩
theorem VS(ar limit room:Int)(w:World):ah 96 #[ar,limit,room] w λe w'=>∃t st d r,e=Value.pointer (some ⟨t,0,none⟩)/\TO w' t st d r ⟨none,0,0⟩ (KA room) ar (min (max limit 1) 16) []/\Ext w w'/\∀i,aI t st d r ⟨none,0,0⟩ [] i->w.heap.size<=i:=by
 apply Ui.vc;refine (VT room w).mono ?_;rintro e w0 ⟨st,d,m,rfl,hs,x0,hf⟩;refine ⟨_,rfl,λw2 e2=> ?_⟩;have x2:=aL e2;have z0:=x0.size;have hl:(if 16<(if 1>limit then 1 else limit) then 16 else (if 1>limit then 1 else limit))=min (max limit 1) 16:=by split<;>split<;>omega
 rw [hl] at e2;refine ⟨_,st,d,m,rfl,⟨by rw [e2];exact Row.new w0 [_,_,_,_] _,hs.ext x2,aC.nil,by simp,by simp,by simp,by omega,by simp;omega⟩,x0.tr x2,λi hi=> ?_⟩;rcases hi with rfl|e|e|e|e|⟨y,hy,-⟩
 ·exact z0
 ·exact hf i (.inl e)
 ·exact hf i (.inr (.inl e))
 ·exact hf i (.inr (.inr e))
 ·cases e
 ·cases hy
theorem tw{α:Type}(s:Sl)(l:List α)(ad:α->Nat)(fv:Value)(q:α->Bool)(w:World)(hs:RdK w s 1 (l.map λi=> [.pointer (some ⟨ad i,0,none⟩)]))(hb:l.length<=1000)
  (hf:∀i ∈ l,∀w',Ext w w'->cr Tryz.prog fv [.pointer (some ⟨ad i,0,none⟩)] w' λe w''=>e=Value.bool (q i)/\Ext w' w''):
  ah 129 #[s,fv] w λe w'=>e=Value.int .i64 (cj q l)/\Ext w w':=by
 apply sE.vc;have hn:s.n=l.length:=by have:=hs.n;rwa [aN] at this
 refine ⟨λn i wr=>∃k:Nat,i=k/\k+n=l.length/\Ext w wr/\∀j,j<k->∀y,l[j]? =some y->q y=false,⟨l.length,0,rfl,by omega,Ext.cE _,λj hj=>by omega⟩,?_⟩;rintro n us i wr ⟨k,rfl,hk,xr,mF⟩;have Ta:=mz (j:=k);apply Br.mk<;>intro hc
 ·replace hc:=mh hc;obtain ⟨y,hy⟩:=bI (l:=l) (i:=k) ab;have hsr:=RdK.ext hs xr;have jq:=hsr.rd k [.pointer (some ⟨ad y,0,none⟩)] (by rw [aU,hy];rfl) 0 _ rfl;refine ⟨RdK.g9 hsr aF ab ab,_,jq,dp (hf y (bg hy) wr xr) ?_⟩;rintro e w7 ⟨rfl,x7⟩;refine ⟨_,rfl,Br.mk (λh=> ?_) (λh=> ?_)⟩
  ·exact ⟨by rw [nv hy h mF],xr.tr x7⟩
  ·refine ⟨n-1,by omega,k+1,Ta,by omega,xr.tr x7,λj hj z hz=> ?_⟩;by_cases e:j=k
   ·subst e;rw [hy] at hz;cases hz;exact h
   ·exact mF j ab z hz
 ·replace hc:=my hc;refine ⟨?_,xr⟩;rw [iB];intro y hy;obtain ⟨j,hj⟩:=List.getElem?_of_mem hy;exact mF j (by have:=(cG.1 hj).1;omega) y hj
set_option maxRecDepth 100000 in
theorem find_spec{w:World}{t st d:Nat}{r:Dm}{sl:Sl}{D:Dk}{ar limit:Int}{its:List It}(h:TO w t st d r sl D ar limit its)(p:Po):
  ah 73 #[t,pv p] w λe w'=>e=Value.int .i64 (cj (λi=>i.p==p) its)/\Ext w w':=by
 apply zZ.vc;intro w0 e0;have x0:=aL e0;have hb:Row w0 w [p.1,p.2] WS:=Row.nw e0;have h0:=h.ext x0;have dI:=h.len;have aa0:=h.WT;refine ⟨sl,h0.rt.at 3 rfl,(tw sl its (·.x) _ (λi=>i.p==p) w0 (h0.ol.rd aF) ab ?_).mono ?_⟩
 ·intro y hy w' x';refine cS (by kernel_rfl) (by rfl) ?_;apply vO.vc;have hy':=((h0.it y hy).ext x').ext (Ext.dr w');have hb':=(hb.ext x').ext (Ext.dr w');refine ⟨_,by rw [bf,hy'.r.ld];rfl,Be (Be ⟨_,_,hy'.k.pos,_,_,hb'.bZ (λj hj=>by rw [ep]),(vJ y.p w'.drew).mono ?_⟩)⟩;rintro e w5 ⟨rfl,x5⟩;refine ⟨_,_,rfl,(hb'.ext x5).bZ (λj hj=>by rw [ep]),?_,rfl,(Ext.dr w').tr x5⟩;rw [bf];exact (hy'.ext x5).r.bZ (λj hj=>by simp at hj;subst hj;rfl)
 ·rintro e w2 ⟨rfl,x2⟩;exact ⟨_,rfl,rfl,x0.tr x2⟩
theorem SO.kind{w:World}{st d:Nat}{m:Dm}{D:Dk}(h:SO w st d m D){i:Nat}(hi:sF st d m i):cl GI w (some i) (m.E.map py)\/∃cs τ,Row w i cs τ/\(τ=Aj\/τ=tn\/τ=tW\/τ=hX):=by
 rcases hi with e|hi
 ·exact .inr ⟨_,_,e▸h.rs,.inl rfl⟩
 ·rcases h.dk.kind hi with q|⟨cs,τ,q1,q2⟩
  ·exact .inl q
  ·exact .inr ⟨cs,τ,q1,.inr q2⟩
theorem SO.c5{w w':World}{st d:Nat}{m:Dm}{D:Dk}(h:SO w st d m D){F:Nat->Prop}(hm:Mod F w w')(hr:∀{j:Nat} {cs:LV} {τ:TypeId},Row w j cs τ->(τ=Aj\/τ=tn\/τ=tW\/τ=hX)->¬F j)(hmp:∀{j:Nat} {kvs:List (Value × Value)},cl GI w (some j) kvs->¬F j):SO w' st d m D:=
 h.same λi hi=>hm.same i (h.lt hi) (by
  rcases h.kind hi with q|⟨cs,τ,q1,q2⟩
  ·exact hmp q
  ·exact hr q1 q2)
abbrev slF(t:Nat)(sl:Sl):Nat->Prop:=λj=>j=t\/sl.aX=some j
theorem TO.off{w:World}{t st d:Nat}{r:Dm}{sl:Sl}{D:Dk}{ar limit:Int}{its:List It}(h:TO w t st d r sl D ar limit its){j:Nat}{cs:LV}{τ:TypeId}(hr:Row w j cs τ)(h1:τ≠Ak)(h2:τ≠Yc):¬slF t sl j:=by
 rintro (e|e)
 ·exact hr.ne h.rt h1 e
 ·obtain ⟨cs',hr'⟩:=bc h.ol aF e;exact hr.ne hr' h2 rfl
theorem TO.item{w w':World}{t st d:Nat}{r:Dm}{sl:Sl}{D:Dk}{ar limit:Int}{its:List It}(h:TO w t st d r sl D ar limit its)(hm:Mod (slF t sl) w w'){y:It}(hy:uF w y):uF w' y:=
 hy.c5 hm (h.off hy.r aF aF) (h.off hy.k.row aF aF) (λb hb=>by obtain ⟨cs',hr'⟩:=bc hy.k.own aF hb;exact h.off hr' aF aF)
theorem TO.Yt{w w':World}{t st d:Nat}{r:Dm}{sl sl':Sl}{D:Dk}{ar limit:Int}{its its':List It}(h:TO w t st d r sl D ar limit its)(hm:Mod (slF t sl) w w')
  (rt:Row w' t [st,ar,limit,sl'] Ak)(ol:aC 0 Yc 1 w' sl' (BM its'))(Rk:∀y ∈ its',y ∈ its\/uF w y)
  (dx:(its'.map (·.x)).Nodup)(dg:(its'.map (·.g)).Nodup)(len:(its'.length:Int)<=limit):TO w' t st d r sl' D ar limit its':=by
 refine ⟨rt,h.so.c5 hm (λhr hτ=> ?_) (λhmp=> ?_),ol,λy hy=>h.item hm ?_,dx,dg,h.WT,len⟩
 ·rcases hτ with rfl|rfl|rfl|rfl<;>exact h.off hr aF aF
 ·rintro (e|e)
  ·exact h.rt.jj hmp e.symm
  ·obtain ⟨cs',hr'⟩:=bc h.ol aF e;exact hr'.jj hmp rfl
 ·rcases Rk y hy with h1|h1
  ·exact h.it y h1
  ·exact h1
theorem Ea{w:World}{t st d:Nat}{r:Dm}{sl sl':Sl}{its its':List It}(hb:∀b,sl'.aX=some b->sl.aX=some b\/w.heap.size<=b)(hi:∀y ∈ its',y ∈ its\/(w.heap.size<=y.x/\w.heap.size<=y.g/\∀b,y.s.aX=some b->w.heap.size<=b)):
  ∀i,aI t st d r sl' its' i->aI t st d r sl its i\/w.heap.size<=i:=by
 rintro i (e|e|e|e|e|⟨y,hy,e⟩)
 ·exact .inl (.inl e)
 ·exact .inl (.inr (.inl e))
 ·exact .inl (.inr (.inr (.inl e)))
 ·exact .inl (.inr (.inr (.inr (.inl e))))
 ·rcases hb i e with h|h
  ·exact .inl (.inr (.inr (.inr (.inr (.inl h)))))
  ·exact .inr h
 ·rcases hi y hy with h|⟨h1,h2,h3⟩
  ·exact .inl (.inr (.inr (.inr (.inr (.inr ⟨y,h,e⟩)))))
  ·rcases e with e|e|e
   ·exact .inr ab
   ·exact .inr ab
   ·exact .inr (h3 i e)
theorem xY{t st d:Nat}{r:Dm}{sl:Sl}{its:List It}:∀i,slF t sl i->aI t st d r sl its i:=by
 rintro i (e|e)
 ·exact .inl e
 ·exact .inr (.inr (.inr (.inr (.inl e))))
theorem aeI(a:Addr):One [Value.pointer (some a)]:=by intro v hv;simp at hv;subst hv;rfl
theorem TO.push{w:World}{t st d:Nat}{r:Dm}{sl:Sl}{D:Dk}{ar limit:Int}{its:List It}(h:TO w t st d r sl D ar limit its)(y:It)(hy:uF w y)(hx:y.x ∉ its.map (·.x))(hg:y.g ∉ its.map (·.g))(hl:(its.length:Int)+1<=limit):
  ba 8 1 w sl 1 [.pointer (some ⟨y.x,0,none⟩)]/\∀(s4:Sl)(w5:World),aV Yc 1 w sl 1 [.pointer (some ⟨y.x,0,none⟩)] s4 w5->
   Mod (λj=>sl.aX=some j) w w5/\Wr w5 (af (some ⟨t,0,none⟩) 3) 1/\∀w6,w6=aH w5 (af (some ⟨t,0,none⟩) 3) [.slice s4.a s4.n s4.c]->
    TO w6 t st d r s4 D ar limit (its++ [y])/\Mod (slF t sl) w w6/\∀b,s4.aX=some b->sl.aX=some b\/w.heap.size<=b:=by
 have hn:=h.n;have aa0:=h.WT;obtain ⟨hp,hr⟩:=h.ol.append (bytes:=8) (news:=[.pointer (some ⟨y.x,0,none⟩)]) (Nat.zero_le _) rfl (aeI _) ab ab;refine ⟨hp,λs4 w5 bw=> ?_⟩;obtain ⟨ho,hn4,kD,hk,ik⟩:=hr s4 w5 bw;have hm5:Mod (λj=>sl.aX=some j) w w5:=Mod.vA kD hk;have hnt:¬sl.aX=some t:=λe=>by obtain ⟨cs',hr'⟩:=bc h.ol aF e;exact hr'.ne h.rt aF rfl
 have rt5:=hm5.row h.rt hnt;obtain ⟨p1,p2⟩:=rt5.je (j:=3) (v:=.slice s4.a s4.n s4.c) bB rfl;refine ⟨hm5,p1,λw6 e6=> ?_⟩;obtain ⟨q1,q2⟩:=p2 w6 e6;have hm6:Mod (slF t sl) w w6:=(hm5.mono λi _ hi=> .inr hi).trans (q2.mono λi _ hi=> .inl hi);have h4t:∀b,s4.aX=some b->b≠t:=λb hb=>by obtain ⟨cs',hr'⟩:=bc ho aF hb;exact hr'.ne rt5 aF
 refine ⟨h.Yt hm6 q1 ?_ (λz hz=> ?_) ?_ ?_ (by simp;omega),hm6,λb hb=> ?_⟩
 ·have:=q2.fk ho h4t;show aC 0 Yc 1 w6 s4 ((its++ [y]).map _);rw [bU];exact this
 ·rcases di.1 hz with hz|hz
  ·exact .inl hz
  ·simp at hz;subst hz;exact .inr hy
 ·rw [bU];refine List.nodup_append.2 ⟨h.dx,by simp,?_⟩;intro a ha b hb e;simp at hb;subst hb;subst e;exact hx ha
 ·rw [bU];refine List.nodup_append.2 ⟨h.dg,by simp,?_⟩;intro a ha b hb e;simp at hb;subst hb;subst e;exact hg ha
 ·rcases ik with e|e
  ·exact .inl (by rw [<-e];exact hb)
  ·rw [e] at hb;cases hb;exact .inr (aB _)
theorem Eb{w:World}{t st d:Nat}{r:Dm}{sl:Sl}{D:Dk}{ar limit:Int}{its:List It}(h:TO w t st d r sl D ar limit its){i:Nat}{y:It}(hi:its[i]? =some y):
  ah 80 #[t,.int .i64 (i:Nat)] w λe w'=>e=Value.pointer (some ⟨y.x,0,none⟩)/\∃sl',TO w' t st d r sl' D ar limit (its.eraseIdx i)/\Mod (slF t sl) w w'/\∀b,sl'.aX=some b->sl.aX=some b\/w.heap.size<=b:=by
 apply BZ.vc;have hn:=h.n;have aa0:=h.WT;have dI:=h.len;have Ic:=(cG.1 hi).1;obtain ⟨a1,a2⟩:=h.at hi;have hd:=h.ext (Ext.dr w);have hle:=aC.le h.ol;have w1:=mz (j:=i);refine ⟨sl,h.rt.at 3 rfl,a1,_,a2,sl,hd.rt.at 3 rfl,by omega,by omega,by omega,by omega,sl,hd.rt.at 3 rfl,?_⟩;rw [w1];have ni:=hd.ol.cut aF (m:=i) (by rw [aN];omega);have hrest:=RdK.rest (hd.ol.rd aF) (l:=i+1) (m:=sl.c) (n':=sl.n-(i+1)) (c':=sl.c-(i+1)) (by rw [aN];omega) (by rw [aN];omega);have hml:((BM its).drop (i+1)).length=sl.n-(i+1):=by rw [List.length_drop,aN];omega
 have hwd:∀q ∈(BM its).drop (i+1),q.length=1/\One q:=λq hq=>by obtain ⟨z,_,rfl⟩:=aZ.1 (List.mem_of_mem_drop hq);exact ⟨rfl,aeI _⟩
 obtain ⟨hp,bw⟩:=ni.FY (bytes:=8) (more:=(BM its).drop (i+1)) (Nat.zero_le _) (λq hq=>(hwd q hq).1) (λq hq=>(hwd q hq).2) (by rw [hml];show (i+_)*8<=_;omega) (by rw [hml];show i+_<=_;omega);rw [hml] at hp bw;refine ⟨by omega,by omega,((BM its).drop (i+1)).flatten,hrest.flat aF,hp,λs5 w6 hr=> ?_⟩;obtain ⟨ho,hn5,kD,hk,ik⟩:=bw s5 w6 hr;have yN:(Sl.mk (aJ sl.a 0 i 1) i i).aX=sl.aX:=by rw [ed];rfl
 rw [yN] at hk ik;have hm6:Mod (λj=>sl.aX=some j) w w6:=(Mod.aD (Ext.dr w)).trans (Mod.vA kD hk);have hnt:¬sl.aX=some t:=λe=>by obtain ⟨cs',hr'⟩:=bc h.ol aF e;exact hr'.ne h.rt aF rfl
 have rt6:=hm6.row h.rt hnt;obtain ⟨p1,p2⟩:=rt6.je (j:=3) (v:=.slice s5.a s5.n s5.c) bB rfl;have jq:ag w6 (af (some ⟨t,0,none⟩) 3) 0 [sl]:=by show ld w6 (af _ 0)=_;rw [fK];exact rt6.at 3 rfl
 refine ⟨jq,jq,⟨rfl,p1⟩,λw7 e7=>⟨rfl,s5,?_⟩⟩;obtain ⟨q1,q2⟩:=p2 w7 e7;have hm7:Mod (slF t sl) w w7:=(hm6.mono λi _ hi=> .inr hi).trans (q2.mono λi _ hi=> .inl hi);have h5t:∀b,s5.aX=some b->b≠t:=λb hb=>by obtain ⟨cs',hr'⟩:=bc ho aF hb;exact hr'.ne rt6 aF
 have eL:List.Sublist (its.eraseIdx i) its:=List.eraseIdx_sublist ..;refine ⟨h.Yt hm7 q1 ?_ (λz hz=> .inl (eL.subset hz)) (h.dx.sublist (eL.map _)) (h.dg.sublist (eL.map _)) ?_,hm7,λb hb=> ?_⟩
 ·have:=q2.fk ho h5t;show aC 0 Yc 1 w7 s5 ((its.eraseIdx i).map _);rw [List.eraseIdx_eq_take_drop_succ,bU,List.map_take,List.map_drop];exact this
 ·have:=eL.length_le;omega
 ·rcases ik with e|e
  ·exact .inl (by rw [<-e];exact hb)
  ·rw [e] at hb;cases hb;exact .inr (aB _)
theorem HC{α:Type}{f:α->Nat}{l:List α}{i:Nat}{y:α}(hd:(l.map f).Nodup)(hi:l[i]? =some y):f y ∉(l.eraseIdx i).map f:=by
 rw [List.eraseIdx_eq_take_drop_succ,bU];have e:l=l.take i++y::l.drop (i+1):=by have:=List.take_append_drop i l;rw [List.drop_eq_getElem_cons (cG.1 hi).1] at this;rw [<-(cG.1 hi).2];exact this.symm
 rw [e,bU,eP] at hd;obtain ⟨h1,h2,h3⟩:=List.nodup_append.1 hd;intro hm;rcases di.1 hm with hm|hm
 ·exact h3 _ hm _ (.head _) rfl
 ·exact (List.nodup_cons.1 h2).1 hm
theorem Ec{w:World}{t st d:Nat}{r:Dm}{sl:Sl}{D:Dk}{ar limit:Int}{its:List It}(h:TO w t st d r sl D ar limit its){i:Nat}{y:It}(hi:its[i]? =some y):
  ah 74 #[t,.int .i64 (i:Nat)] w λe w'=>e=Value.pointer (some ⟨y.x,0,none⟩)/\∃sl',TO w' t st d r sl' D ar limit (its.eraseIdx i++ [y])/\aM (aI t st d r sl its) (aI t st d r sl' (its.eraseIdx i++ [y])) w w':=by
 apply xR.vc;have Ic:=(cG.1 hi).1;have Z1:y ∈ its:=bg hi;have dI:=h.len;refine (Eb h hi).mono ?_;rintro e w0 ⟨rfl,sl0,h0,m0,b0⟩;have hy0:=h.item m0 (h.it y Z1);refine ⟨_,rfl,sl0,h0.rt.at 3 rfl,λw3 e3=> ?_⟩;have x3:=aL e3;have h3:=h0.ext x3;have eL:List.Sublist (its.eraseIdx i) its:=List.eraseIdx_sublist ..;have jn:(its.eraseIdx i).length=its.length-1:=by rw [List.length_eraseIdx,if_pos Ic]
 obtain ⟨hp,hr⟩:=h3.push y (hy0.ext x3) (HC h.dx hi) (HC h.dg hi) ab;refine ⟨hp,λs4 w5 bw=> ?_⟩;obtain ⟨m5,p1,p2⟩:=hr s4 w5 bw;have ht0:=h0.rt.lt;have z3:=eG e3;refine ⟨m5.same _ ab λe=>by have:=(h0.ol.own.lt e).2;omega,⟨rfl,p1⟩,λe=> ?_,λw6 e6=>⟨rfl,s4,?_⟩⟩
 ·rw [cV] at e;have:t=w0.heap.size:=by simpa [bD] using e
  omega
 ·obtain ⟨q1,q2,q3⟩:=p2 w6 e6;have z0:=m0.size;refine ⟨q1,⟨?_,?_⟩⟩
  ·have a1:Mod (aI t st d r sl its) w w3:=(m0.mono λi _ hi=>xY i hi).trans (Mod.aD x3);refine a1.tr q2 λj hj=> ?_
   rcases hj with e|e
   ·exact .inl (.inl e)
   ·rcases b0 j e with e|e
    ·exact .inl (.inr (.inr (.inr (.inr (.inl e)))))
    ·exact .inr e
  ·refine Ea (w:=w) (λb hb=> ?_) (λz hz=> .inl ?_)
   ·rcases q3 b hb with e|e
    ·exact b0 b e
    ·exact .inr ab
   ·rcases di.1 hz with hz|hz
    ·exact eL.subset hz
    ·simp at hz;subst hz;exact Z1
theorem TO.put{w w':World}{t st d:Nat}{r:Dm}{sl:Sl}{D:Dk}{ar limit:Int}{its:List It}(h:TO w t st d r sl D ar limit its){i:Nat}{y y':It}(hi:its[i]? =some y)(hx:y'.x=y.x)(hg:y'.g=y.g)(hm:Mod (λj=>j=y.x) w w')(hy:uF w' y'):TO w' t st d r sl D ar limit (its.set i y'):=by
 have Ic:=(cG.1 hi).1;have hr:=(h.it y (bg hi)).r;have off:∀{j:Nat} {cs:LV} {τ:TypeId},Row w j cs τ->τ≠cC->¬j=y.x:=λhr' ht e=>hr'.ne hr ht e
 have hpx:BM (its.set i y')=BM its:=by
  unfold BM;rw [List.map_set,hx];apply iY;intro j;rw [jR];split
  ·rename_i e;subst e;rw [if_pos (by rw [aN];exact Ic),aU,hi];rfl
  ·rfl
 have hmx:(its.set i y').map (·.x)=its.map (·.x):=by
  rw [List.map_set,hx];apply iY;intro j;rw [jR];split
  ·rename_i e;subst e;rw [if_pos (by rw [aN];exact Ic),aU,hi];rfl
  ·rfl
 have hmg:(its.set i y').map (·.g)=its.map (·.g):=by
  rw [List.map_set,hg];apply iY;intro j;rw [jR];split
  ·rename_i e;subst e;rw [if_pos (by rw [aN];exact Ic),aU,hi];rfl
  ·rfl
 refine ⟨hm.row h.rt (off h.rt aF),h.so.c5 hm (λhr' hτ=>by rcases hτ with rfl|rfl|rfl|rfl<;>exact off hr' aF) (λhmp e=>hr.jj hmp e.symm),?_,λz hz=> ?_,by rw [hmx];exact h.dx,by rw [hmg];exact h.dg,h.WT,by rw [iq];exact h.len⟩
 ·rw [hpx];exact hm.fk h.ol λb hb=>by obtain ⟨cs',hr'⟩:=bc h.ol aF hb;exact off hr' aF
 ·obtain ⟨j,hj⟩:=List.getElem?_of_mem hz;rw [jR] at hj;split at hj
  ·cases hj;exact hy
  ·rename_i iM;have hzj:=h.it z (bg hj);refine hzj.c5 hm (λe=> ?_) (off hzj.k.row aF) (λb hb=> ?_)
   ·
    have h1:(its.map (·.x))[i]? =some y.x:=by rw [aU,hi];rfl
    have h2:(its.map (·.x))[j]? =some z.x:=by rw [aU,hj];rfl
    have Oa:=(cG.1 hj).1;rw [e,<-h1] at h2;exact iM ((List.getElem?_inj (by rw [aN];exact Oa) h.dx).1 h2).symm
   ·obtain ⟨cs',hr'⟩:=bc hzj.k.own aF hb;exact off hr' aF
theorem XG{t st d:Nat}{r:Dm}{sl:Sl}{its:List It}{i:Nat}{y y':It}(hi:its[i]? =some y)(hx:y'.x=y.x)(hg:y'.g=y.g)(hs:y'.s=y.s):∀j,aI t st d r sl (its.set i y') j->aI t st d r sl its j:=by
 rintro j (e|e|e|e|e|⟨z,hz,e⟩)
 ·exact .inl e
 ·exact .inr (.inl e)
 ·exact .inr (.inr (.inl e))
 ·exact .inr (.inr (.inr (.inl e)))
 ·exact .inr (.inr (.inr (.inr (.inl e))))
 ·rcases kh hz with hz|hz
  ·exact .inr (.inr (.inr (.inr (.inr ⟨z,hz,e⟩))))
  ·subst hz;rw [hx,hg,hs] at e;exact .inr (.inr (.inr (.inr (.inr ⟨y,bg hi,e⟩))))
abbrev En:=Po × List Int × Bool × Int
def It.ob(i:It):En:=(i.p,i.C,i.nU,i.pins)
abbrev fT(its:List It):List En:=its.map It.ob
theorem uf(its:List It)(i:Nat):fT (its.eraseIdx i)=(fT its).eraseIdx i:=by unfold fT;rw [List.eraseIdx_eq_take_drop_succ,List.eraseIdx_eq_take_drop_succ,bU,List.map_take,List.map_drop]
theorem KK(its:List It)(p:Po):cj (λe:En=>e.1==p) (fT its)=cj (λi:It=>i.p==p) its:=kP It.ob _ its
abbrev Tb:=Dk × List En
def de(D:Dk)(e:En):Dk × En × Int:=
 if e.2.2.1=true then ((xA D (BL e.1) (qS (gP e.2.1))).1,(e.1,e.2.1,decide ((xA D (BL e.1) (qS (gP e.2.1))).2≠0),e.2.2.2),(xA D (BL e.1) (qS (gP e.2.1))).2) else (D,e,0)
def Ph(D:Dk)(l:List En)(i:Nat):Tb × Int:=
 match l[i]? with
 |none=>((D,l),0)
 |some e=>if (de D e).2.2=0 then (((de D e).1,l.eraseIdx i),0) else (((de D e).1,l.set i (de D e).2.1),(de D e).2.2)
def fo(limit:Int)(D:Dk)(l:List En):Tb × Int:=
 if (l.length:Int)<limit then ((D,l),0) else if cj (λe:En=>e.2.2.2==0) l<0 then ((D,l),8) else Ph D l (cj (λe:En=>e.2.2.2==0) l).toNat
theorem TO.XH{w:World}{t st d:Nat}{r:Dm}{sl:Sl}{D:Dk}{ar limit:Int}{its:List It}(h:TO w t st d r sl D ar limit its){j:Nat}{cs:LV}{τ:TypeId}(hr:Row w j cs τ)(h1:τ≠tn)(h2:τ≠tW):¬(j=d\/r.ls.aX=some j):=by
 rintro (e|e)
 ·exact hr.ne h.so.dk.rd h1 e
 ·obtain ⟨cs',hr'⟩:=bc h.so.dk.ol aF e;exact hr.ne hr' h2 rfl
theorem TO.store{w w':World}{t st d:Nat}{r r':Dm}{sl:Sl}{D D':Dk}{ar limit:Int}{its:List It}(h:TO w t st d r sl D ar limit its)(hm:Mod (λi=>i=d\/r.ls.aX=some i) w w')(hs:SO w' st d r' D'):TO w' t st d r' sl D' ar limit its:=by
 refine ⟨hm.row h.rt (h.XH h.rt aF aF),hs,hm.fk h.ol λb hb=> ?_,λy hy=> ?_,h.dx,h.dg,h.WT,h.len⟩
 ·obtain ⟨cs',hr'⟩:=bc h.ol aF hb;exact h.XH hr' aF aF
 ·have hy':=h.it y hy;refine hy'.c5 hm (h.XH hy'.r aF aF) (h.XH hy'.k.row aF aF) λb hb=> ?_
  obtain ⟨cs',hr'⟩:=bc hy'.k.own aF hb;exact h.XH hr' aF aF
theorem DE{n:Nat}{t st d:Nat}{r r':Dm}{sl:Sl}{its:List It}(hs:∀i,dF d r' i->dF d r i\/n<=i):∀i,aI t st d r' sl its i->aI t st d r sl its i\/n<=i:=by
 rintro i (e|e|e|e|e|e)
 ·exact .inl (.inl e)
 ·exact .inl (.inr (.inl e))
 ·exact .inl (.inr (.inr (.inl e)))
 ·rcases hs i (.inr e) with q|q
  ·rcases q with q|q
   ·exact .inl (.inr (.inr (.inl q)))
   ·exact .inl (.inr (.inr (.inr (.inl q))))
  ·exact .inr q
 ·exact .inl (.inr (.inr (.inr (.inr (.inl e)))))
 ·exact .inl (.inr (.inr (.inr (.inr (.inr e)))))
theorem RQ{t st d:Nat}{r:Dm}{sl:Sl}{its:List It}:∀i,(i=d\/r.ls.aX=some i)->aI t st d r sl its i:=by
 rintro i (e|e)
 ·exact .inr (.inr (.inl e))
 ·exact .inr (.inr (.inr (.inl (.inr (.inl e)))))
theorem aci{C:List Int}:mY (qS (gP C)):=afX _
theorem afY{C:List Int}(hl:C.length=8192):(qS (gP C)).length<=65536:=by have h1:=RR (gP C);have h2:=qT C;omega
set_option maxRecDepth 100000 in
theorem zM{w:World}{t st d:Nat}{r:Dm}{sl:Sl}{D:Dk}{ar limit:Int}{its:List It}(h:TO w t st d r sl D ar limit its)(hW:D.l.length<=1000000){i:Nat}{y:It}(hi:its[i]? =some y):
  ah 79 #[t,.pointer (some ⟨y.x,0,none⟩)] w λe w'=>e=Value.int .i64 (de D y.ob).2.2/\∃r' y',TO w' t st d r' sl (de D y.ob).1 ar limit (its.set i y')/\y'.ob=(de D y.ob).2.1/\aM (aI t st d r sl its) (aI t st d r' sl (its.set i y')) w w':=by
 apply zN.vc;have Z1:=bg hi;have hy:=h.it y Z1;have oJ:its.set i y=its:=by obtain ⟨hl,he⟩:=cG.1 hi;rw [<-he];exact List.set_getElem_self hl
 refine ⟨_,hy.r.at 1 rfl,Br.mk (λhb=> ?_) (λhb=> ?_)⟩
 ·have hd:y.nU=false:=by simpa using hb
  have e:de D y.ob=(D,y.ob,0):=by unfold de;rw [if_neg (by show ¬y.nU=true;rw [hd];decide)]
  rw [e];exact ⟨rfl,r,y,by rw [oJ];exact h,rfl,by rw [oJ];exact aM.refl _ _⟩
 ·have hd:y.nU=true:=by simpa using hb
  have e:de D y.ob=((xA D (BL y.p) (qS (gP y.C))).1,(y.p,y.C,decide ((xA D (BL y.p) (qS (gP y.C))).2≠0),y.pins),(xA D (BL y.p) (qS (gP y.C))).2):=by unfold de;rw [if_pos (by show y.nU=true;exact hd)];rfl
  rw [e];refine ⟨_,hy.r.at 0 rfl,Be (Be ⟨_,_,hy.k.pos,(vJ y.p w).mono ?_⟩)⟩;rintro e w4 ⟨rfl,x4⟩;refine ⟨_,_,rfl,(RS y.p w4).mono ?_⟩;rintro e w7 ⟨rfl,x7⟩;have x07:=(x4.tr x7).tr (Ext.dr w7);have h7:=h.ext x07;have hy7:=h7.it y Z1;refine ⟨_,_,rfl,_,h7.rt.at 0 rfl,_,hy7.r.at 0 rfl,(Pj hy7.k).mono ?_⟩;rintro e cR ⟨wS,rfl,o13,bN⟩;have Fk:=x07.tr bN;have uV:=h.ext Fk;have hk:=hy.k;refine ⟨wS,rfl,DF (uV.rt.at 0 rfl),(Bf uV.so hW (BL y.p) wS (qS (gP y.C)) (mA.FZ o13) aci (gj (afY hk.len) aF)).mono ?_⟩;rintro e bP ⟨rfl,r',ag2,m14,f14,-⟩;have h14:=uV.store m14 ag2;have yR:=h14.it y Z1;obtain ⟨p1,p2⟩:=yR.r.je (j:=1) (v:=.bool ((xA D (BL y.p) (qS (gP y.C))).2 !=0)) bB rfl;refine ⟨_,rfl,⟨rfl,p1⟩,λcJ FP=> ?_⟩;obtain ⟨q1,q2⟩:=p2 cJ FP;have yO:((xA D (BL y.p) (qS (gP y.C))).2 !=0)=decide ((xA D (BL y.p) (qS (gP y.C))).2≠0):=by rw [Bool.eq_iff_iff];simp
  rw [yO] at q1;have hy':uF cJ {y with nU:=decide ((xA D (BL y.p) (qS (gP y.C))).2≠0)}:=⟨q1,yR.k.c5 q2 (λe=>yR.k.row.ne yR.r aF e) λb hb=>by obtain ⟨cs',hr'⟩:=bc yR.k.own aF hb;exact hr'.ne yR.r aF⟩;have z12:=Fk.size;have Wb:=m14.size;refine ⟨rfl,r',{y with nU:=decide ((xA D (BL y.p) (qS (gP y.C))).2≠0)},h14.put hi rfl rfl q2 hy',rfl,?_⟩;have t1:aM (aI t st d r sl its) (aI t st d r' sl its) cR bP:=⟨m14.mono λi _ hi=>RQ i hi,DE f14⟩;have t2:aM (aI t st d r' sl its) (aI t st d r' sl (its.set i {y with nU:=decide ((xA D (BL y.p) (qS (gP y.C))).2≠0)})) bP cJ:=⟨q2.mono λj _ hj=> .inr (.inr (.inr (.inr (.inr ⟨y,Z1,.inl hj⟩)))),λj hj=> .inl (XG (y':={y with nU:=decide ((xA D (BL y.p) (qS (gP y.C))).2≠0)}) hi rfl rfl rfl j hj)⟩;exact (aM.aD Fk).trans (t1.trans t2)
abbrev xX(w:World)(t st d:Nat)(r:Dm)(sl:Sl)(ar limit:Int)(its:List It)(T:Tb)(w':World):Prop:=
 ∃r' sl' its',TO w' t st d r' sl' T.1 ar limit its'/\fT its'=T.2/\aM (aI t st d r sl its) (aI t st d r' sl' its') w w'
theorem PR{its:List It}{i:Nat}{y:It}(h:its[i]? =some y):(fT its)[i]? =some y.ob:=by rw [aU,h];rfl
theorem Jb{its:List It}{i:Nat}{y':It}{e:En}(h:y'.ob=e):fT (its.set i y')=(fT its).set i e:=by unfold fT;rw [List.map_set,h]
theorem Yb{D:Dk}{l:List En}{i:Nat}{e:En}(h:l[i]? =some e):Ph D l i=if (de D e).2.2=0 then (((de D e).1,l.eraseIdx i),0) else (((de D e).1,l.set i (de D e).2.1),(de D e).2.2):=by unfold Ph;rw [h]
theorem Lu{w w':World}{t st d:Nat}{r:Dm}{sl sl':Sl}{its its':List It}(hm:Mod (slF t sl) w w')(hb:∀b,sl'.aX=some b->sl.aX=some b\/w.heap.size<=b)(hs:∀y ∈ its',y ∈ its):aM (aI t st d r sl its) (aI t st d r sl' its') w w':=
 ⟨hm.mono λi _ hi=>xY i hi,Ea hb λy hy=> .inl (hs y hy)⟩
set_option maxRecDepth 100000 in
theorem Um{w:World}{t st d:Nat}{r:Dm}{sl:Sl}{D:Dk}{ar limit:Int}{its:List It}(h:TO w t st d r sl D ar limit its)(hW:D.l.length<=1000000):
  ah 75 #[t] w λe w'=>e=Value.int .i64 (fo limit D (fT its)).2/\xX w t st d r sl ar limit its (fo limit D (fT its)).1 w'/\((fo limit D (fT its)).2=0->((fo limit D (fT its)).1.2.length:Int)+1<=limit):=by
 apply Aa.vc;have hd:=h.ext (Ext.dr w);have hn:=h.n;have hol:(fT its).length=its.length:=by rw [aN]
 have dI:=h.len;have aa0:=h.WT;refine ⟨sl,hd.rt.at 3 rfl,limit,hd.rt.at 2 rfl,Br.mk (λhb=> ?_) (λhb=> ?_)⟩
 ·replace hb:=mh hb;have e:fo limit D (fT its)=((D,fT its),0):=by unfold fo;rw [if_pos ab]
  rw [e];exact ⟨rfl,⟨r,sl,its,hd,rfl,aM.aD (Ext.dr w)⟩,λ_=>by simp only;omega⟩
 ·replace hb:=my hb;refine ⟨sl,hd.rt.at 3 rfl,(tw sl its (·.x) _ (λi=>i.pins==0) w.drew (hd.ol.rd aF) ab ?_).mono ?_⟩
  ·intro y hy w' x';refine cS (by kernel_rfl) (by rfl) ?_;apply vP.vc;have hy':=(hd.it y hy).ext x';exact ⟨_,hy'.r.at 2 rfl,rfl,Ext.cE _⟩
  ·rintro e w3 ⟨rfl,x3⟩;have h3:=hd.ext x3;have WD:cj (λe:En=>e.2.2.2==0) (fT its)=cj (λi:It=>i.pins==0) its:=kP It.ob _ its;have AK:Ext w w3:=(Ext.dr w).tr x3;refine ⟨_,rfl,Br.mk (λjC=> ?_) (λjC=> ?_)⟩
   ·replace jC:=mh jC;have e:fo limit D (fT its)=((D,fT its),8):=by unfold fo;rw [if_neg ab,if_pos ab]
    rw [e];exact ⟨rfl,⟨r,sl,its,h3,rfl,aM.aD AK⟩,λh=>by simp at h⟩
   ·replace jC:=my jC;rcases fg (λi:It=>i.pins==0) its with ⟨h1,-⟩|⟨k,y,hk,-,hfk,-⟩
    ·omega
    ·have e:fo limit D (fT its)=Ph D (fT its) k:=by unfold fo;rw [if_neg ab,if_neg ab,WD,hfk];rfl
     rw [hfk,e,Yb (PR hk)];obtain ⟨a1,a2⟩:=h3.at hk;have J0:=(cG.1 hk).1;refine ⟨sl,h3.rt.at 3 rfl,a1,_,a2,(zM h3 hW hk).mono ?_⟩;rintro e w7 ⟨rfl,r',y',h7,W2,t7⟩;refine ⟨_,rfl,Br.mk (λhz=> ?_) (λhz=> ?_)⟩
     ·have hz:(de D y.ob).2.2=0:=by simpa using hz
      have hk':(its.set k y')[k]? =some y':=oP J0;refine (Eb h7 hk').mono ?_;rintro e w9 ⟨rfl,sl',h9,m9,b9⟩;rw [List.eraseIdx_set_eq] at h9;refine ⟨_,rfl,?_⟩;rw [if_pos hz];refine ⟨by rw [hz],⟨r',sl',_,h9,uf _ _,(aM.aD AK).trans (t7.trans (Lu m9 b9 λz hz=> ?_))⟩,λ_=> ?_⟩
      ·rw [<-List.eraseIdx_set_eq (l:=its) (i:=k) (a:=y')] at hz;exact (List.eraseIdx_sublist ..).subset hz
      ·simp only [List.length_eraseIdx];split<;>omega
     ·have hz:(de D y.ob).2.2≠0:=by simpa using hz
      rw [if_neg hz];exact ⟨rfl,⟨r',sl,_,h7,Jb W2,(aM.aD AK).trans t7⟩,λq=>absurd q hz⟩
theorem Jc(D:Dk)(e:En):(de D e).1.l.length<=D.l.length+1:=by
 unfold de;split
 ·exact Xx _ _ _
 ·exact Nat.le_succ _
theorem aeF(D:Dk)(l:List En)(i:Nat):(Ph D l i).1.1.l.length<=D.l.length+1:=by
 unfold Ph;split
 ·exact Nat.le_succ _
 ·split<;>exact Jc _ _
theorem Jd(limit:Int)(D:Dk)(l:List En):(fo limit D l).1.1.l.length<=D.l.length+1:=by
 unfold fo;split
 ·exact Nat.le_succ _
 ·split
  ·exact Nat.le_succ _
  ·exact aeF _ _ _
theorem acy{p:Po}(h:sM p):Tz p:=by unfold sM at h;unfold Tz;omega
def vV(ar:Int)(p:Po)(b:List Int):List Int:=if (ja cN b 8192).2=0 then cw (ja cN b 8192).1 else made ar p
def Gk(ar limit:Int)(D:Dk)(l:List En)(p:Po):Tb × Int:=
 if ¬sM p then ((D,l),5)
 else if 0<=cj (λe:En=>e.1==p) l then ((D,l.eraseIdx (cj (λe:En=>e.1==p) l).toNat++l[(cj (λe:En=>e.1==p) l).toNat]?.toList),0)
 else if (fo limit D l).2≠0 then fo limit D l
 else (((fo limit D l).1.1,(fo limit D l).1.2++ [(p,vV ar p (Hf (fo limit D l).1.1 (BL p)).1,false,0)]),0)
set_option maxRecDepth 100000 in
theorem gu{w v:World}{t st d:Nat}{r:Dm}{sl:Sl}{D:Dk}{ar limit:Int}{its:List It}(h:TO v t st d r sl D ar limit its)(hw:w.heap.size<v.heap.size)(hwf:¬aI t st d r sl its w)(htw:t<w)(hr:(its.length:Int)+1<=limit){g:Nat}{s:Sl}{p:Po}{C:List Int}(hk:Gl v g s p C)(hg:g ∉ its.map (·.g))(u:World)(hn:u.heap.size<=v.heap.size)(hgn:u.heap.size<=g)(tR:∀b,s.aX=some b->u.heap.size<=b)
  {K:World->Prop}(hK:∀w',(∃s' y,TO w' t st d r s' D ar limit (its++ [y])/\y.ob=(p,C,false,0)/\(∀i,aI t st d r s' (its++ [y]) i->aI t st d r sl its i\/u.heap.size<=i)/\Mod (aI t st d r sl its) v w')->K w'):
  ∃(Rm:Sl),ld v (af (some ⟨t,0,none⟩) 3)=some (.slice Rm.a Rm.n Rm.c)/\
   ∀dT:World,dT=v.alloc (.cells #[g,false,aa] cC)->
   ∀eh:World,eh=dT.alloc (.cells #[v] Yc)->
   ba 8 1 eh ⟨Rm.a,Rm.n,Rm.c⟩ 1 [v]/\∀(rN:Sl)(cU:World),aV Yc 1 eh ⟨Rm.a,Rm.n,Rm.c⟩ 1 [v] rN cU->cU.heap[w.heap.size]? =eh.heap[w.heap.size]?/\cU.heap[dT.heap.size]? =eh.heap[dT.heap.size]?/\
    (true=true/\Wr cU (af (some ⟨t,0,none⟩) 3) 1)/\bD (af (some ⟨t,0,none⟩) 3)≠some w.heap.size/\bD (af (some ⟨t,0,none⟩) 3)≠some dT.heap.size/\(∀fi:World,fi=aH cU (af (some ⟨t,0,none⟩) 3) [.slice rN.a rN.n rN.c]->K fi):=by
 refine ⟨sl,h.rt.at 3 rfl,λdT yX eh Ii=> ?_⟩;have dN:=aL yX;have dz:=aL Ii;have z22:=eG yX;have z23:eh.heap.size=v.heap.size+2:=by rw [Ii];simp [z22]
 have hy:uF eh ⟨v.heap.size,g,s,p,C,false,0⟩:=⟨(by rw [yX];exact Row.new v [_,_,_] _:Row dT v.heap.size [g,false,aa] cC).ext dz,(hk.ext dN).ext dz⟩;have h23:=(h.ext dN).ext dz;have hxn:v.heap.size ∉ its.map (·.x):=λhm=>by obtain ⟨z,hz,e⟩:=aZ.1 hm;have:=(h.it z hz).r.lt;omega
 obtain ⟨hp,bw⟩:=h23.push _ hy hxn hg hr;refine ⟨hp,λrN cU ad7=> ?_⟩;obtain ⟨m25,p1,p2⟩:=bw rN cU ad7;have pb:∀j:Nat,t<j->bD (af (some ⟨t,0,none⟩) 3)≠some j:=λj hj e=>by
  rw [cV] at e;have:t=j:=by simpa [bD] using e
  omega
 have htl:=h.rt.lt;refine ⟨m25.same _ ab λe=>hwf (.inr (.inr (.inr (.inr (.inl e))))),m25.same _ ab λe=>by have:=(h.ol.own.lt e).2;omega,⟨rfl,p1⟩,pb _ htw,pb _ ab,λfi zk=>hK fi ⟨rN,⟨v.heap.size,g,s,p,C,false,0⟩,?_,rfl,?_,?_⟩⟩
 ·exact (p2 fi zk).1
 ·obtain ⟨-,q2,q3⟩:=p2 fi zk;rintro i hi;exact Ea (w:=u) (sl:=sl) (its:=its) (λb hb=>(q3 b hb).imp id λe=>by omega) (λz hz=>by
   rcases di.1 hz with hz|hz
   ·exact .inl hz
   ·simp at hz;subst hz;exact .inr ⟨hn,hgn,tR⟩) i hi
 ·obtain ⟨-,q2,q3⟩:=p2 fi zk;exact (Mod.aD (dN.tr dz)).trans (q2.mono λi _ hi=>xY i hi)
set_option maxRecDepth 100000 in
theorem Un{w:World}{t st d:Nat}{r:Dm}{sl:Sl}{D:Dk}{ar limit:Int}{its:List It}(h:TO w t st d r sl D ar limit its)(hW:D.l.length<=1000000)(p:Po):
  ah 20 #[t,pv p] w λe w'=>e=Value.int .i64 (Gk ar limit D (fT its) p).2/\xX w t st d r sl ar limit its (Gk ar limit D (fT its) p).1 w':=by
 apply zY.vc;intro w0 e0;have z0:=eG e0;have x0:=aL e0;refine (RS p w0).mono ?_;rintro e w1 ⟨rfl,x1⟩;have z1:=x1.size;have jT:=x0.tr x1;refine ⟨_,_,rfl,x1.heap ab,?_⟩;by_cases oq:sM p
 ·rw [decide_eq_true oq];refine Br.mk (λh=>by cases h) (λ_=> ?_);have h1:=h.ext jT;refine (find_spec h1 p).mono ?_;rintro e w4 ⟨rfl,x4⟩;have z4:=x4.size;have BH:=jT.tr x4;have h4:=h.ext BH;have WD:cj (λe:En=>e.1==p) (fT its)=cj (λi:It=>i.p==p) its:=kP It.ob _ its;have bx:¬aI t st d r sl its w:=λhf=>by have:=h.lt hf;omega
  refine ⟨_,rfl,x4.heap ab,?_⟩;rcases fg (λi:It=>i.p==p) its with ⟨hf,-⟩|⟨k,y,hk,-,hf,-⟩
  ·rw [hf];refine Br.mk (λh=>by simp at h) (λ_=> ?_);have hE:Gk ar limit D (fT its) p=if (fo limit D (fT its)).2≠0 then fo limit D (fT its) else (((fo limit D (fT its)).1.1,(fo limit D (fT its)).1.2++ [(p,vV ar p (Hf (fo limit D (fT its)).1.1 (BL p)).1,false,0)]),0):=by unfold Gk;rw [if_neg (by simpa using oq),WD,hf,if_neg aF]
   rw [hE];refine (Um h4 hW).mono ?_;rintro e w8 ⟨rfl,⟨r8,sl8,its8,h8,xc,t8⟩,hl8⟩;have hWl:((fo limit D (fT its)).1.1).l.length<=1000001:=by have:=Jd limit D (fT its);omega
   generalize fo limit D (fT its)=R at*;have z8:=t8.mod.size;have t08:aM (aI t st d r sl its) (aI t st d r8 sl8 its8) w w8:=(aM.aD BH).trans t8;refine ⟨_,rfl,t8.mod.same _ ab bx,Br.mk (λhb=> ?_) (λhb=> ?_)⟩
   ·have iM:R.2≠0:=by simpa using hb
    rw [if_pos iM];exact ⟨rfl,r8,sl8,its8,h8,xc,t08⟩
   ·have he:R.2=0:=by simpa using hb
    rw [if_neg (by rw [he];decide)];have hroom:=hl8 he;rw [<-xc,aN] at hroom;refine ⟨_,h8.rt.at 0 rfl,(Lv h8.so ab _).mono ?_⟩;rintro e aY ⟨jJ,rfl,ahT,hby,kD,hsc,-,bC⟩;have z11:=bC.size;have bx8:¬aI t st d r8 sl8 its8 w:=λhf=>by
     rcases t8.sub _ hf with q|q
     ·exact bx q
     ·have:=BH.size;omega
    refine ⟨jJ,_,_,rfl,bC.heap ab,?_⟩;refine (Uo p jJ (Hf R.1.1 (BL p)).1 aY ahT hby hsc ab).mono ?_;rintro e eA ⟨bw,cA⟩;have z15:=cA.size;have htw:=h.rt.lt;have fin:∀{w' v:World} {C:List Int},Ext w8 v->(∃s' y,TO w' t st d r8 s' R.1.1 ar limit (its8++ [y])/\y.ob=(p,C,false,0)/\(∀i,aI t st d r8 s' (its8++ [y]) i->aI t st d r8 sl8 its8 i\/w8.heap.size<=i)/\Mod (aI t st d r8 sl8 its8) v w')->C=vV ar p (Hf R.1.1 (BL p)).1->
      Ending.returned (0:Int)=(0:Int)/\xX w t st d r sl ar limit its (R.1.1,R.1.2++ [(p,vV ar p (Hf R.1.1 (BL p)).1,false,0)]) w':=by
     rintro w' v C xv ⟨s',y,hT,W2,eL,hm⟩ rfl;refine ⟨rfl,r8,s',_,hT,?_,t08.trans ⟨(Mod.aD xv).trans hm,eL⟩⟩;unfold fT;rw [bU];change fT its8++ [y.ob]=_;rw [xc,W2]
    rcases bw with ⟨hz,g,sg,rfl,hk,hg,-,hgb⟩|⟨hz,rfl⟩
    ·refine ⟨_,_,rfl,cA.heap ab,Br.mk (λq=>by simp at q) (λ_=> ?_)⟩;have aa1:=bC.tr cA;have h15:=h8.ext aa1;have hgn:g ∉ its8.map (·.g):=λhm=>by obtain ⟨z,hz,e⟩:=aZ.1 hm;have:=(h8.it z hz).k.row.lt;omega
     refine gu (w:=w) h15 ab bx8 htw hroom hk hgn w8 ab ab (λb hb=>by have:=hgb b hb;omega) λw' hw'=>fin aa1 hw' ?_
     unfold vV;rw [if_pos hz]
    ·refine ⟨_,_,rfl,cA.heap ab,Br.mk (λ_=> ?_) (λq=>by simp at q;exact absurd q hz)⟩;have aa1:=bC.tr cA.drew;have h15:=h8.ext aa1;refine ⟨ar,h15.rt.at 1 rfl,(PS ar p (acy oq) eA.drew).mono ?_⟩;rintro e fP ⟨g,sg,rfl,hk,cn,hg,yN⟩;have z19:=cn.size;have zd:=lG eA;have h19:=h15.ext cn;have hgn:g ∉ its8.map (·.g):=λhm=>by obtain ⟨z,hz,e⟩:=aZ.1 hm;have:=(h15.it z hz).k.row.lt;omega
     refine ⟨_,rfl,cn.heap ab,gu (w:=w) h19 ab bx8 htw hroom hk hgn w8 ab ab (λb hb=>by have:=yN b hb;omega) λw' hw'=>fin (aa1.tr cn) hw' ?_⟩;unfold vV;rw [if_neg hz]
  ·rw [hf];refine Br.mk (λ_=> ?_) (λh=>by simp at h);have hE:Gk ar limit D (fT its) p=((D,(fT its).eraseIdx k++ [y.ob]),0):=by unfold Gk;rw [if_neg (by simpa using oq),WD,hf,if_pos ab,ej,aU,hk];rfl
   rw [hE];refine (Ec h4 hk).mono ?_;rintro e w6 ⟨rfl,sl6,h6,t6⟩;have z6:=t6.mod.size;refine ⟨_,rfl,t6.mod.same _ ab bx,rfl,r,sl6,_,h6,?_,(aM.aD BH).trans t6⟩;unfold fT;rw [bU];change fT _++_=_;rw [uf];rfl
 ·rw [decide_eq_false oq];refine Br.mk (λ_=> ?_) (λh=>by cases h);have hE:Gk ar limit D (fT its) p=((D,fT its),5):=by unfold Gk;rw [if_pos oq]
  rw [hE];exact ⟨rfl,r,sl,its,h.ext jT,rfl,aM.aD jT⟩
theorem yes{b:Bool}{A B:Prop}(hb:b=true)(h:A):Br b A B:=by subst hb;exact h
theorem eZ{b:Bool}{A B:Prop}(hb:b=false)(h:B):Br b A B:=by subst hb;exact h
def lV(D:Dk)(l:List En)(p:Po):Tb × Int:=
 if 0<=cj (λe:En=>e.1==p) l then
  (if 0<(l[(cj (λe:En=>e.1==p) l).toNat]?.map (·.2.2.2)).getD 0 then ((D,l),10) else Ph D l (cj (λe:En=>e.1==p) l).toNat) else ((D,l),6)
theorem LH{w:World}{t st d:Nat}{r:Dm}{sl:Sl}{D:Dk}{ar limit:Int}{its:List It}(h:TO w t st d r sl D ar limit its)(hW:D.l.length<=1000000)(p:Po):
  ah 21 #[t,pv p] w λe w'=>e=Value.int .i64 (lV D (fT its) p).2/\xX w t st d r sl ar limit its (lV D (fT its) p).1 w':=by
 apply vR.vc;intro w0 e0;have z0:=eG e0;have x0:=aL e0;have h0:=h.ext x0;refine (find_spec h0 p).mono ?_;rintro e w1 ⟨rfl,x1⟩;have z1:=x1.size;have jT:=x0.tr x1;have h1:=h.ext jT;have bx:¬aI t st d r sl its w:=λhf=>by have:=h.lt hf;omega
 refine ⟨_,rfl,x1.heap ab,?_⟩;rcases fg (λi:It=>i.p==p) its with ⟨hf,-⟩|⟨k,y,hk,hyp,hf,-⟩
 ·have hE:lV D (fT its) p=((D,fT its),6):=by unfold lV;rw [KK,hf,if_neg aF]
  rw [hf,hE];exact Br.mk (λ_=>⟨rfl,r,sl,its,h1,rfl,aM.aD jT⟩) (λh=>by simp at h)
 ·have W2:(fT its)[k]?.map (·.2.2.2)=some y.pins:=by rw [aU,hk];rfl
  have hE:lV D (fT its) p=if 0<y.pins then ((D,fT its),10) else Ph D (fT its) k:=by unfold lV;rw [KK,hf,if_pos ab,ej,W2];rfl
  rw [hf,hE];refine Br.mk (λh=>by simp at h;omega) (λ_=> ?_);have Z1:=bg hk;have hy:=h1.it y Z1;have J0:=(cG.1 hk).1;obtain ⟨a1,a2⟩:=h1.at hk;refine ⟨sl,h1.rt.at 3 rfl,a1,_,a2,Be (Be ⟨y.pins,hy.r.at 2 rfl,Br.mk (λhb=> ?_) (λhb=> ?_)⟩)⟩
  ·have hz:0<y.pins:=by simpa using hb
   rw [if_pos hz];exact ⟨rfl,r,sl,its,h1,rfl,aM.aD jT⟩
  ·have hz:¬0<y.pins:=by simpa using hb
   rw [if_neg hz,Yb (PR hk)];refine ⟨sl,h1.rt.at 3 rfl,a1,_,a2,(zM h1 hW hk).mono ?_⟩;rintro e w8 ⟨rfl,r',y',h8,hob8,t8⟩;have z8:=t8.mod.size;refine ⟨_,rfl,t8.mod.same _ ab bx,Br.mk (λhz=> ?_) (λhz=> ?_)⟩
   ·have hz:(de D y.ob).2.2=0:=by simpa using hz
    have hk':(its.set k y')[k]? =some y':=oP J0;refine (Eb h8 hk').mono ?_;rintro e w9 ⟨rfl,sl',h9,m9,b9⟩;rw [List.eraseIdx_set_eq] at h9;have bx8:¬slF t sl w:=λq=>bx (xY _ q)
    refine ⟨_,rfl,m9.same _ ab bx8,?_⟩;rw [if_pos hz];refine ⟨by rw [hz],r',sl',_,h9,uf _ _,(aM.aD jT).trans (t8.trans (Lu m9 b9 λz hz=> ?_))⟩;rw [<-List.eraseIdx_set_eq (l:=its) (i:=k) (a:=y')] at hz;exact (List.eraseIdx_sublist ..).subset hz
   ·have hz:(de D y.ob).2.2≠0:=by simpa using hz
    rw [if_neg hz];exact ⟨rfl,r',sl,_,h8,Jb hob8,(aM.aD jT).trans t8⟩
def P5(D:Dk)(pre:List En):List En->Int->Tb × Int × Int
 | [],n=>((D,pre),n,0)
 |e::t,n=>if (de D e).2.2=0 then P5 (de D e).1 (pre++ [(de D e).2.1]) t (if e.2.2.1=true then n+1 else n) else (((de D e).1,pre++(de D e).2.1::t),n,(de D e).2.2)
def mD(D:Dk)(l:List En):Tb × Int × Int:=P5 D [] l 0
theorem agh{D:Dk}{l pre:List En}{n:Int}{k:Nat}{e:En}(h:l[k]? =some e):P5 D pre (l.drop k) n=if (de D e).2.2=0 then P5 (de D e).1 (pre++ [(de D e).2.1]) (l.drop (k+1)) (if e.2.2.1=true then n+1 else n) else (((de D e).1,pre++(de D e).2.1::l.drop (k+1)),n,(de D e).2.2):=by have hk:=cG.1 h;rw [List.drop_eq_getElem_cons hk.1,hk.2];rfl
set_option maxRecDepth 100000 in
theorem Gp{w:World}{t st d:Nat}{r:Dm}{sl:Sl}{D:Dk}{ar limit:Int}{its:List It}(h:TO w t st d r sl D ar limit its)(hW:D.l.length<=900000):
  ah 22 #[t] w λe w'=>e=Value.tuple #[.int .i64 (mD D (fT its)).2.1,.int .i64 (mD D (fT its)).2.2]/\xX w t st d r sl ar limit its (mD D (fT its)).1 w':=by
 apply tB.vc;have hn:=h.n;have dI:=h.len;have aa0:=h.WT;refine ⟨sl,h.rt.at 3 rfl,λn i c wr=>∃(k:Nat)(D':Dk)(r':Dm)(its':List It),i=k/\k+n=its.length/\0<=c/\c<=k/\D'.l.length<=D.l.length+k/\TO wr t st d r' sl D' ar limit its'/\its'.length=its.length/\its'.drop k=its.drop k/\P5 D' ((fT its').take k) ((fT its').drop k) c=mD D (fT its)/\aM (aI t st d r sl its) (aI t st d r' sl its') w wr,
  ⟨its.length,0,D,r,its,rfl,by omega,Int.le_refl 0,Int.le_refl 0,by omega,h,rfl,rfl,rfl,aM.refl _ _⟩,?_⟩
 rintro n us i c wr ⟨k,D',r',its',rfl,hk,c0,ck,hl,hT,S8,hdr,Ff,ht⟩;have ayd:(fT its').length=its'.length:=by rw [aN]
 apply Br.mk<;>intro hc
 ·replace hc:=mh hc;obtain ⟨y,hy⟩:=bI (l:=its') (i:=k) ab;have hyr:=hT.it y (bg hy);obtain ⟨a1,a2⟩:=hT.at hy;have J0:k<its'.length:=by omega
  have hn':=hT.n;have wk:=mz (j:=k);have wc:aj (c+1)=c+1:=wI;rw [agh (PR hy)] at Ff;have oC:=Jc D' y.ob;refine ⟨a1,_,a2,Be (Be ⟨_,hyr.r.at 1 rfl,(zM hT ab hy).mono ?_⟩)⟩;rintro e bO ⟨rfl,r2,y',h10,W2,t10⟩;have oJ:fT (its'.set k y')=(fT its').set k (de D' y.ob).2.1:=Jb W2;have hln2:(its'.set k y').length=its'.length:=iq;have se:(fT (its'.set k y')).take (k+1)=(fT its').take k++ [(de D' y.ob).2.1]:=by rw [oJ,dD,oP ab,List.take_set_of_le (aB _)];rfl
  have hdk:(fT (its'.set k y')).drop (k+1)=(fT its').drop (k+1):=by rw [oJ,List.drop_set_of_lt ab]
  refine ⟨_,rfl,Br.mk (λhb=> ?_) (λhb=> ?_)⟩
  ·have hz:(de D' y.ob).2.2≠0:=by simpa using hb
   rw [if_neg hz] at Ff;rw [<-Ff];refine ⟨rfl,r2,sl,_,h10,?_,ht.trans t10⟩;rw [oJ];show _=(fT its').take k++(de D' y.ob).2.1::(fT its').drop (k+1);rw [List.set_eq_take_append_cons_drop,if_pos ab]
  ·have hz:(de D' y.ob).2.2=0:=by simpa using hb
   rw [if_pos hz] at Ff;have hdd:(its'.set k y').drop (k+1)=its.drop (k+1):=by rw [List.drop_set_of_lt ab];have:=congrArg (List.drop 1) hdr;rwa [List.drop_drop,List.drop_drop] at this
   apply Br.mk<;>intro hd
   ·have hd':y.ob.2.2.1=true:=hd;rw [if_pos hd'] at Ff;exact ⟨n-1,by omega,k+1,_,r2,_,wk,by omega,by rw [wc];omega,by rw [wc];omega,by omega,h10,by rw [hln2,S8],hdd,by rw [wc,se,hdk];exact Ff,ht.trans t10⟩
   ·have hd':¬y.ob.2.2.1=true:=by show ¬y.nU=true;rw [hd];decide
    rw [if_neg hd'] at Ff;exact ⟨n-1,by omega,k+1,_,r2,_,wk,by omega,c0,by omega,by omega,h10,by rw [hln2,S8],hdd,by rw [se,hdk];exact Ff,ht.trans t10⟩
 ·replace hc:=my hc;rw [List.drop_of_length_le ab,fC ab] at Ff;rw [<-Ff];exact ⟨rfl,r',sl,its',hT,rfl,ht⟩
theorem UD{w:World}{t st d:Nat}{r:Dm}{sl:Sl}{D:Dk}{ar limit:Int}{its:List It}(h:TO w t st d r sl D ar limit its)(hW:D.l.length<=1000000)(s:Sl)(b:List Int)(hs:jf w s b)(hb:mY b)(hn:b.length<=1099511627776):
  ah 61 #[t,s] w λe w'=>e=Value.int .i64 (xA D 0 b).2/\xX w t st d r sl ar limit its ((xA D 0 b).1,fT its) w':=by
 apply (Am.vc (a1:=s));refine ⟨_,h.rt.at 0 rfl,(Bf h.so hW 0 s b hs hb hn).mono ?_⟩;rintro e w1 ⟨rfl,r',h1,m1,f1,-⟩;exact ⟨_,rfl,rfl,r',sl,its,h.store m1 h1,rfl,m1.mono λi _ hi=>RQ i hi,DE f1⟩
theorem UE{w:World}{t st d:Nat}{r:Dm}{sl:Sl}{D:Dk}{ar limit:Int}{its:List It}(h:TO w t st d r sl D ar limit its):
  ah 37 #[t] w λe w'=>∃s':Sl,e=s'/\aC w WS 2 w' s' ((fT its).map λe=> [.int .i64 e.1.1,.int .i64 e.1.2])/\Ext w w':=by
 apply zV.vc;have hn:=h.n;have dI:=h.len;have aa0:=h.WT;refine ⟨sl,h.rt.at 3 rfl,λn i so wr=>∃k:Nat,i=k/\k+n=its.length/\Ext w wr/\aC w WS 2 wr so (((fT its).take k).map λe=> [.int .i64 e.1.1,.int .i64 e.1.2]),⟨its.length,0,rfl,by omega,Ext.cE _,aC.nil⟩,?_⟩;rintro n us i so wr ⟨k,rfl,hk,xr,ho⟩;have Ta:=mz (j:=k);have hol:(fT its).length=its.length:=by rw [aN]
 apply Br.mk<;>intro hc
 ·replace hc:=mh hc;obtain ⟨y,hy⟩:=bI (l:=its) (i:=k) ab;have hr:=h.ext xr;obtain ⟨a1,a2⟩:=hr.at hy;have hyr:=hr.it y (bg hy);refine ⟨a1,_,a2,Be (Be ⟨_,hyr.r.at 0 rfl,Be (Be ⟨_,_,hyr.k.pos,(vJ y.p wr).mono ?_⟩)⟩)⟩;rintro e cR ⟨rfl,bN⟩;refine ⟨_,_,rfl,λeA oO=> ?_⟩;have cA:=aL oO;have z12:=bN.size;have zr:=xr.size;have z15:=eG oO;have V9:=(ho.ext bN).ext cA;have S9:=(ho.rd (show 0<2 by decide)).n;rw [aN,du] at S9;obtain ⟨hp,bw⟩:=V9.append (bytes:=16) (news:=[.int .i64 y.p.1,.int .i64 y.p.2]) ab rfl (zE _ _ _ _) ab ab;refine ⟨hp,λW7 cL aa5=> ?_⟩;obtain ⟨aq7,aye,xb,N6,-⟩:=bw W7 cL aa5;refine ⟨N6 _ (λe=>by have:=(ho.own.lt e).2;omega) ab,n-1,by omega,k+1,Ta,by omega,(xr.tr (bN.tr cA)).trans xb,?_⟩;have:(fT its).take (k+1)=(fT its).take k++ [y.ob]:=by rw [dD,aU,hy];rfl
  rw [this,bU];exact aq7
 ·replace hc:=my hc;rw [fC ab] at ho;exact ⟨so,rfl,ho,xr⟩
theorem oa{w:World}{p:Option Addr}{v:Value}(h:ld w p=some v):ag w p 0 [v]:=by show ld w (af p 0)=_;rw [fK];exact h
theorem TO.acP{w w':World}{t st d:Nat}{r:Dm}{sl:Sl}{D:Dk}{ar limit:Int}{its:List It}(h:TO w t st d r sl D ar limit its){i:Nat}{y y':It}(hi:its[i]? =some y)(hx:y'.x=y.x)(hg:y'.g=y.g)(hm:Mod (λj=>j=y.x\/j=y.g) w w')(hy:uF w' y'):TO w' t st d r sl D ar limit (its.set i y'):=by
 have Ic:=(cG.1 hi).1;have hr:=(h.it y (bg hi)).r;have hrg:=(h.it y (bg hi)).k.row;have off:∀{j:Nat} {cs:LV} {τ:TypeId},Row w j cs τ->τ≠cC->τ≠we->¬(j=y.x\/j=y.g):=λhr' ht hc e=>by
  rcases e with e|e
  ·exact hr'.ne hr ht e
  ·exact hr'.ne hrg hc e
 have hpx:BM (its.set i y')=BM its:=by
  unfold BM;rw [List.map_set,hx];apply iY;intro j;rw [jR];split
  ·rename_i e;subst e;rw [if_pos (by rw [aN];exact Ic),aU,hi];rfl
  ·rfl
 have hmx:(its.set i y').map (·.x)=its.map (·.x):=by
  rw [List.map_set,hx];apply iY;intro j;rw [jR];split
  ·rename_i e;subst e;rw [if_pos (by rw [aN];exact Ic),aU,hi];rfl
  ·rfl
 have hmg:(its.set i y').map (·.g)=its.map (·.g):=by
  rw [List.map_set,hg];apply iY;intro j;rw [jR];split
  ·rename_i e;subst e;rw [if_pos (by rw [aN];exact Ic),aU,hi];rfl
  ·rfl
 refine ⟨hm.row h.rt (off h.rt aF aF),h.so.c5 hm (λhr' hτ=>by rcases hτ with rfl|rfl|rfl|rfl<;>exact off hr' aF aF) (λhmp e=>by
   rcases e with e|e
   ·exact hr.jj hmp e.symm
   ·exact hrg.jj hmp e.symm),?_,λz hz=> ?_,by rw [hmx];exact h.dx,by rw [hmg];exact h.dg,h.WT,by rw [iq];exact h.len⟩
 ·rw [hpx];exact hm.fk h.ol λb hb=>by obtain ⟨cs',hr'⟩:=bc h.ol aF hb;exact off hr' aF aF
 ·obtain ⟨j,hj⟩:=List.getElem?_of_mem hz;rw [jR] at hj;split at hj
  ·cases hj;exact hy
  ·rename_i iM;have hzj:=h.it z (bg hj);have Oa:=(cG.1 hj).1;refine hzj.c5 hm ?_ ?_ (λb hb=> ?_)
   ·rintro (e|e)
    ·have h1:(its.map (·.x))[i]? =some y.x:=by rw [aU,hi];rfl
     have h2:(its.map (·.x))[j]? =some z.x:=by rw [aU,hj];rfl
     rw [e,<-h1] at h2;exact iM ((List.getElem?_inj (by rw [aN];exact Oa) h.dx).1 h2).symm
    ·exact hzj.r.ne hrg aF e
   ·rintro (e|e)
    ·exact hzj.k.row.ne hr aF e
    ·have h1:(its.map (·.g))[i]? =some y.g:=by rw [aU,hi];rfl
     have h2:(its.map (·.g))[j]? =some z.g:=by rw [aU,hj];rfl
     rw [e,<-h1] at h2;exact iM ((List.getElem?_inj (by rw [aN];exact Oa) h.dg).1 h2).symm
   ·obtain ⟨cs',hr'⟩:=bc hzj.k.own aF hb;exact off hr' aF aF
theorem UF{t st d:Nat}{r:Dm}{sl:Sl}{its:List It}{i n:Nat}{y y':It}(hi:its[i]? =some y)(hx:y'.x=y.x)(hg:y'.g=y.g)(hs:∀b,y'.s.aX=some b->y.s.aX=some b\/n<=b):∀j,aI t st d r sl (its.set i y') j->aI t st d r sl its j\/n<=j:=by
 rintro j (e|e|e|e|e|⟨z,hz,e⟩)
 ·exact .inl (.inl e)
 ·exact .inl (.inr (.inl e))
 ·exact .inl (.inr (.inr (.inl e)))
 ·exact .inl (.inr (.inr (.inr (.inl e))))
 ·exact .inl (.inr (.inr (.inr (.inr (.inl e)))))
 ·have hy:∀i,(i=y.x\/i=y.g\/y.s.aX=some i)->aI t st d r sl its i:=λi e=> .inr (.inr (.inr (.inr (.inr ⟨y,bg hi,e⟩))))
  rcases kh hz with hz|hz
  ·exact .inl (.inr (.inr (.inr (.inr (.inr ⟨z,hz,e⟩)))))
  ·subst hz;rw [hx,hg] at e;rcases e with e|e|e
   ·exact .inl (hy j (.inl e))
   ·exact .inl (hy j (.inr (.inl e)))
   ·rcases hs j e with e|e
    ·exact .inl (hy j (.inr (.inr e)))
    ·exact .inr e
instance (c:Ce):Decidable (DA c):=by unfold DA;exact inferInstance
def gy(l:List En)(c:Ce):Int:=
 if cj (λe:En=>e.1==pos c) l<0 then -1 else if c.2.1<0 then 1 else ((l[(cj (λe:En=>e.1==pos c) l).toNat]?).map λe=>J8 e.1 e.2.1 c).getD 0
def gI(l:List En)(c:Ce)(b:Int):List En × Int:=
 if cj (λe:En=>e.1==pos c) l<0 then (l,11) else if ¬DA c then (l,5) else if cN b=false then (l,1) else
  (l.eraseIdx (cj (λe:En=>e.1==pos c) l).toNat++((l[(cj (λe:En=>e.1==pos c) l).toNat]?).map λe=>(e.1,(kW e.1 e.2.1 c b).1,e.2.2.1||(J8 e.1 e.2.1 c !=b),e.2.2.2)).toList,0)
theorem Yu{w:World}{t st d:Nat}{r:Dm}{sl:Sl}{D:Dk}{ar limit:Int}{its:List It}(h:TO w t st d r sl D ar limit its)(c:Ce)(hc:pn c):
  ah 83 #[t,dY c] w λe w'=>e=Value.int .i64 (gy (fT its) c)/\Ext w w':=by
 apply DY.vc;intro w0 e0;have z0:=eG e0;have x0:=aL e0;refine (oU c hc w0).mono ?_;rintro e w1 ⟨rfl,x1⟩;have jT:=x0.tr x1;have z1:=x1.size;refine ⟨_,_,rfl,x1.heap ab,(find_spec (h.ext jT) (pos c)).mono ?_⟩;rintro e w4 ⟨rfl,x4⟩;have z4:=x4.size;have BH:=jT.tr x4;have WD:cj (λe:En=>e.1==pos c) (fT its)=cj (λi:It=>i.p==pos c) its:=kP It.ob _ its;refine ⟨_,rfl,x4.heap ab,?_⟩;rcases fg (λi:It=>i.p==pos c) its with ⟨hf,-⟩|⟨k,y,hk,hyp,hf,-⟩
 ·rw [hf];refine Br.mk (λ_=>⟨?_,BH⟩) (λh=>by simp at h);unfold gy;rw [WD,hf,if_pos aF]
 ·rw [hf];refine Br.mk (λh=>by simp at h;omega) (λ_=>Br.mk (λhb=> ?_) (λhb=> ?_))
  ·replace hb:=mh hb;refine ⟨?_,BH⟩;unfold gy;rw [WD,hf,if_neg ab,if_pos hb]
  ·replace hb:=my hb;have hd:=(h.ext BH).ext (Ext.dr w4);obtain ⟨a1,a2⟩:=hd.at hk;have hyr:=hd.it y (bg hk);refine ⟨sl,hd.rt.at 3 rfl,a1,_,a2,Be (Be ⟨_,hyr.r.at 0 rfl,(CR hyr.k c hc).mono ?_⟩)⟩;rintro e w9 ⟨rfl,x9⟩;have h9:=hd.ext x9;obtain ⟨-,b2⟩:=h9.at hk;refine ⟨_,_,rfl,x9.heap (show w.heap.size<w4 by omega),oa b2,oa (h9.rt.at 3 rfl),?_,BH.tr ((Ext.dr _).tr x9)⟩;unfold gy;rw [WD,hf,if_neg ab,if_neg hb,ej,aU,hk];rfl
theorem acQ{p:Po}{C:List Int}{c:Ce}{b:Int}(hp:p=pos c)(hy:DA c)(hb:cN b=true):(kW p C c b).2=0:=by unfold kW;rw [if_neg (by rw [(pd p c).2 ⟨hy,hp.symm⟩];decide),if_neg (by rw [hb];decide)]
theorem UG{w:World}{t st d:Nat}{r:Dm}{sl:Sl}{D:Dk}{ar limit:Int}{its:List It}(h:TO w t st d r sl D ar limit its)(c:Ce)(hc:pn c)(b:Int):
  ah 221 #[t,dY c,.int .i64 b] w λe w'=>e=Value.int .i64 (gI (fT its) c b).2/\xX w t st d r sl ar limit its (D,(gI (fT its) c b).1) w':=by
 apply B1.vc;intro w0 e0;have z0:=eG e0;have x0:=aL e0;refine (oU c hc w0).mono ?_;rintro e w1 ⟨rfl,x1⟩;have jT:=x0.tr x1;have z1:=x1.size;refine ⟨_,_,rfl,x1.heap ab,(find_spec (h.ext jT) (pos c)).mono ?_⟩;rintro e w4 ⟨rfl,x4⟩;have z4:=x4.size;have BH:=jT.tr x4;have WD:cj (λe:En=>e.1==pos c) (fT its)=cj (λi:It=>i.p==pos c) its:=kP It.ob _ its;refine ⟨_,rfl,x4.heap ab,(Bc c w4).mono ?_⟩;rintro e w6 ⟨⟨ix,iy,rfl,hiy⟩,x6⟩;have z6:=x6.size;have x06:=BH.tr x6;have h6:=h.ext x06;refine ⟨_,_,rfl,x6.heap ab,?_⟩;have same:∀{w'},Ext w w'->xX w t st d r sl ar limit its (D,fT its) w':=λx=>⟨r,sl,its,h.ext x,rfl,aM.aD x⟩
 rcases fg (λi:It=>i.p==pos c) its with ⟨hf,-⟩|⟨k,y,hk,hyp,hf,-⟩
 ·rw [hf];refine Br.mk (λ_=> ?_) (λh=>by simp at h);have e:gI (fT its) c b=(fT its,11):=by unfold gI;rw [WD,hf,if_pos aF]
  rw [e];exact ⟨rfl,same x06⟩
 ·rw [hf];have hyc:y.p=pos c:=by simpa using hyp
  refine Br.mk (λh=>by simp at h;omega) (λ_=> ?_);rcases hiy with ⟨rfl,hY,-⟩|⟨rfl,hY,-⟩
  ·refine eZ rfl ((gw b w6).mono ?_);rintro e w9 ⟨rfl,x9⟩;have z9:=x9.size;have Nt:=x06.tr x9;refine ⟨_,rfl,x9.heap ab,Br.mk (λhb=> ?_) (λhb=> ?_)⟩
   ·have hb':cN b=false:=by simpa using hb
    have e:gI (fT its) c b=(fT its,1):=by unfold gI;rw [WD,hf,if_neg ab,if_neg (by simpa using hY),if_pos hb']
    rw [e];exact ⟨rfl,same Nt⟩
   ·have hb':cN b=true:=by simpa using hb
    have he:gI (fT its) c b=((fT its).eraseIdx k++ [(y.p,(kW y.p y.C c b).1,y.nU||(J8 y.p y.C c !=b),y.pins)],0):=by unfold gI;rw [WD,hf,if_neg ab,if_neg (by simpa using hY),if_neg (by rw [hb'];decide),ej,aU,hk];rfl
    have h0:=acQ (C:=y.C) hyc hY hb';rw [he];have h9:=h.ext Nt;refine (Ec h9 hk).mono ?_;rintro e aY ⟨rfl,aq8,h11,t11⟩;have aq9:=(aM.aD Nt).trans t11;have z11:=t11.mod.size;have bx:∀{F:Nat->Prop},(∀i,F i->aI t st d r sl its i)->¬F w:=λhF hf=>by have:=h.lt (hF _ hf);omega
    have hi':(its.eraseIdx k++ [y])[(its.eraseIdx k).length]? =some y:=by rw [pY (aB _),Nat.sub_self];rfl
    have hd:=h11.ext (Ext.dr aY);have hyd:=hd.it y (bg hi');have hxw:y.x<w:=(h.it y (bg hk)).r.lt;have hgw:y.g<w:=(h.it y (bg hk)).k.row.lt;refine ⟨_,rfl,t11.mod.same _ ab (bx λi hi=>hi),Be (Be ⟨_,hyd.r.at 0 rfl,(CR hyd.k c hc).mono ?_⟩)⟩;rintro e bP ⟨rfl,bX⟩;have aa6:Ext aY bP:=(Ext.dr _).tr bX;have Wb:=aa6.size;have h14:=h11.ext aa6;have yR:=h14.it y (bg hi');have pt:∀v:Bool,_:=λv=>yR.r.je (j:=1) (v:=.bool v) bB rfl
    refine ⟨_,_,rfl,bX.heap (show w.heap.size<aY by omega),Be (Be ⟨_,yR.r.at 1 rfl,Br.mk (λhb=>Be (Be ⟨⟨rfl,(pt true).1⟩,λe=> ?_,λdG We=>Be (Be ?_)⟩)) (λhb=>Be (Be ⟨⟨rfl,(pt true).1⟩,λe=> ?_,λdG We=>Be (Be ?_)⟩))⟩)⟩
    case refine_1|refine_3=>
     rw [cV] at e;have:y.x=w.heap.size:=by simpa [bD] using e
     omega
    all_goals
     obtain ⟨q1,q2⟩:=(pt _).2 dG We
     have z18:=q2.size
     have alA:Gl dG y.g y.s y.p y.C:=yR.k.c5 q2 (λe=>yR.k.row.ne yR.r aF e) (λb hb=>by obtain ⟨cs',hr'⟩:=bc yR.k.own aF hb;exact hr'.ne yR.r aF)
     refine ⟨_,(q1.ext (Ext.dr _)).at 0 rfl,(Yv (alA.ext (Ext.dr dG)) c hc b).mono ?_⟩;rintro e fx ⟨rfl,s',ara,m20,b20⟩;have q1d:=q1.ext (Ext.dr dG);refine ⟨_,rfl,m20.same _ (show w.heap.size<dG by omega) (λe=>by omega),congrArg _ (congrArg _ h0),?_⟩;have hm:Mod (λj=>j=y.x\/j=y.g) bP fx:=((q2.mono λi _ hi=> .inl hi).trans (Mod.aD (Ext.dr _))).trans (m20.mono λi _ hi=> .inr hi);have arc:uF fx ⟨y.x,y.g,s',y.p,(kW y.p y.C c b).1,y.nU||(J8 y.p y.C c !=b),y.pins⟩:=by refine ⟨?_,ara⟩;have:=m20.row q1d (λe=>q1d.ne (alA.ext (Ext.dr dG)).row aF e);rw [hb];exact this
     have h20:=h14.acP hi' (y':=⟨y.x,y.g,s',y.p,(kW y.p y.C c b).1,y.nU||(J8 y.p y.C c !=b),y.pins⟩) rfl rfl hm arc;refine ⟨r,aq8,_,h20,?_,aq9.trans ⟨(Mod.aD aa6).trans (hm.mono λi _ hi=> ?_),λj hj=> ?_⟩⟩
     ·unfold fT;rw [List.set_append_right _ _ (aB _),Nat.sub_self,bU];have:=uf its k;unfold fT at this;rw [this];rfl
     ·exact .inr (.inr (.inr (.inr (.inr ⟨y,bg hi',hi.elim .inl λe=> .inr (.inl e)⟩))))
     ·exact UF (y':=⟨y.x,y.g,s',y.p,(kW y.p y.C c b).1,y.nU||(J8 y.p y.C c !=b),y.pins⟩) hi' rfl rfl (λb hb=>(b20 b hb).imp id λe=>gj (gj Wb z18) e) j hj
  ·have e:gI (fT its) c b=(fT its,5):=by unfold gI;rw [WD,hf,if_neg ab,if_pos hY]
   refine yes rfl ?_;rw [e];exact ⟨rfl,same x06⟩
def RK(l:List En):Prop:=∀e ∈ l,e.2.1.length=8192/\∀b ∈ e.2.1,cN b=true
theorem VW{c d:Ce}(hc:DA c)(hd:DA d)(hp:pos c=pos d)(hi:(idx c).toNat=(idx d).toNat):c=d:=by
 have h1:=Au hc;have h2:=Au hd;have hi':idx c=idx d:=by omega
 obtain ⟨a,b,e⟩:=c;obtain ⟨a',b',e'⟩:=d;unfold idx at hi';unfold pos at hp;simp only [Prod.mk.injEq] at hp ⊢;simp only at hi';omega
def MB(l:List En)(p:Po):Prop:=∃e ∈ l,e.1=p
def ey(l:List En):Prop:=(l.map (·.1)).Nodup
theorem SR{l:List En}{c:Ce}(h:¬MB l (pos c)):gy l c= -1:=by
 unfold gy;rw [iB λy hy=> ?_,if_pos aF]
 cases hb:(y.1==pos c) with
 |false=>rfl
 |true=>exact absurd ⟨y,hy,by simpa using hb⟩ h
theorem wE{l:List En}(hn:ey l){e:En}(he:e ∈ l):∃k:Nat,l[k]? =some e/\cj (λx:En=>x.1==e.1) l=k:=by
 obtain ⟨k,hk⟩:=List.getElem?_of_mem he;refine ⟨k,hk,nv hk bB λj hj y hy=> ?_⟩
 cases hb:(y.1==e.1) with
 |false=>rfl
 |true=>
  have h1:(l.map (·.1))[k]? =some e.1:=by rw [aU,hk];rfl
  have h2:(l.map (·.1))[j]? =some e.1:=by rw [aU,hy];simpa using hb
  have J0:=(cG.1 h1).1;have:=(List.getElem?_inj (show j<_ by omega) hn).1 (h2.trans h1.symm);omega
theorem CV{l:List En}(hn:ey l){e:En}(he:e ∈ l){c:Ce}(hp:e.1=pos c):gy l c=if c.2.1<0 then 1 else J8 e.1 e.2.1 c:=by obtain ⟨k,hk,hf⟩:=wE hn he;unfold gy;rw [<-hp,hf,if_neg ab,ej,hk];rfl
theorem ZN{p:Po}{C:List Int}(hl:C.length=8192){c:Ce}(hy:DA c)(hp:p=pos c){b:Int}(hb:cN b=true)(c':Ce)(hp':p=pos c'):J8 p (kW p C c b).1 c'=if c'=c then b else J8 p C c':=by
 have e:(kW p C c b).1=C.set (idx c).toNat b:=by unfold kW;rw [if_neg (by rw [(pd p c).2 ⟨hy,hp.symm⟩];decide),if_neg (by rw [hb];decide)]
 rw [e];have hi:=Au hy;by_cases hcc:c'=c
 ·subst hcc;rw [if_pos rfl];have hk:JK p c'=true:=(pd p c').2 ⟨hy,hp'.symm⟩;unfold J8;rw [hk,if_pos rfl];unfold atC;rw [if_neg ab,dS,jR,if_pos rfl,if_pos ab];rfl
 ·rw [if_neg hcc];by_cases hy':DA c'
  ·have hk:JK p c'=true:=(pd p c').2 ⟨hy',hp'.symm⟩;have hi':=Au hy';have h0:¬idx c'<0:=by omega
   unfold J8;rw [hk,if_pos rfl,if_pos rfl];unfold atC;rw [if_neg h0,if_neg h0,dS,dS,jR,if_neg (λh=>hcc (VW hy hy' (hp.symm.trans hp') h).symm)]
  ·have hk:JK p c'=false:=by
    cases h:JK p c' with
    |false=>rfl
    |true=>exact absurd ((pd p c').1 h).1 hy'
   unfold J8;rw [hk,if_neg aF,if_neg aF]
theorem YP{l:List En}(hn:ey l)(hg:RK l){c:Ce}(hh:MB l (pos c))(hy:DA c){b:Int}(hb:cN b=true):
  (gI l c b).2=0/\ey (gI l c b).1/\(∀p,MB (gI l c b).1 p ↔ MB l p)/\∀c',gy (gI l c b).1 c'=if c'=c then b else gy l c':=by
 obtain ⟨e,he,hp⟩:=hh;obtain ⟨k,hk,hf⟩:=wE hn he;have hs:gI l c b=(l.eraseIdx k++ [(e.1,(kW e.1 e.2.1 c b).1,e.2.2.1||(J8 e.1 e.2.1 c !=b),e.2.2.2)],0):=by unfold gI;rw [<-hp,hf,if_neg ab,if_neg (by simpa using hy),if_neg (by rw [hb];decide),ej,hk];rfl
 generalize hd:(e.2.2.1||(J8 e.1 e.2.1 c !=b))=d at hs;obtain ⟨A,B,JM,hkA⟩:∃A B,l=A++e::B/\k=A.length:=by obtain ⟨J0,he⟩:=cG.1 hk;exact ⟨l.take k,l.drop (k+1),by rw [<-he,<-List.drop_eq_getElem_cons J0,List.take_append_drop],by rw [du];omega⟩
 subst hkA;rw [JM,List.eraseIdx_append_of_length_le (aB _),Nat.sub_self] at hs;have eG:gI l c b=(A++B++ [(e.1,(kW e.1 e.2.1 c b).1,d,e.2.2.2)],0):=by rw [JM];exact hs
 rw [eG];have mg:∀x,x ∈ l ↔ x ∈ A++B\/x=e:=λx=>by
  rw [JM];simp only [di,cB];constructor
  ·rintro (h|h|h)
   ·exact .inl (.inl h)
   ·exact .inr h
   ·exact .inl (.inr h)
  ·rintro ((h|h)|h)
   ·exact .inl h
   ·exact .inr (.inr h)
   ·exact .inr (.inl h)
 have hn':ey (A++B++ [(e.1,(kW e.1 e.2.1 c b).1,d,e.2.2.2)]):=by
  have Wf:ey (A++e::B):=by rw [<-JM];exact hn
  unfold ey at Wf ⊢;rw [bU,eP] at Wf;obtain ⟨n1,n2,n3⟩:=List.nodup_append.1 Wf;obtain ⟨n4,n5⟩:=List.nodup_cons.1 n2;rw [bU,bU];refine List.nodup_append.2 ⟨List.nodup_append.2 ⟨n1,n5,λa ha b hb=>n3 a ha b (.tail _ hb)⟩,by simp,λa ha b hb=> ?_⟩;simp only [eP,List.map_nil,List.mem_singleton] at hb;subst hb;rcases di.1 ha with ha|ha
  ·exact n3 a ha _ (.head _)
  ·exact λh=>n4 (h▸ha)
 have uQ:∀x ∈ A++B,x.1≠e.1:=λx hx h=>by
  have Wf:ey (A++e::B):=by rw [<-JM];exact hn
  unfold ey at Wf;rw [bU,eP] at Wf;obtain ⟨n1,n2,n3⟩:=List.nodup_append.1 Wf;obtain ⟨n4,n5⟩:=List.nodup_cons.1 n2;rcases di.1 hx with hx|hx
  ·exact n3 _ (aZ.2 ⟨x,hx,rfl⟩) _ (.head _) h
  ·exact n4 (by rw [<-h];exact aZ.2 ⟨x,hx,rfl⟩)
 refine ⟨rfl,hn',λp=>⟨?_,?_⟩,λc'=> ?_⟩
 ·rintro ⟨x,hx,Th⟩;rcases di.1 hx with hx|hx
  ·exact ⟨x,(mg x).2 (.inl hx),Th⟩
  ·simp only [List.mem_singleton] at hx;subst hx;exact ⟨e,he,Th⟩
 ·rintro ⟨x,hx,Th⟩;rcases (mg x).1 hx with hx|hx
  ·exact ⟨x,List.mem_append_left _ hx,Th⟩
  ·subst hx;exact ⟨_,List.mem_append_right _ (.head _),Th⟩
 ·show gy (A++B++ [(e.1,(kW e.1 e.2.1 c b).1,d,e.2.2.2)]) c'=_;by_cases hpc:e.1=pos c'
  ·rw [CV hn' (List.mem_append_right _ (.head _)) (e:=(e.1,(kW e.1 e.2.1 c b).1,d,e.2.2.2)) hpc,CV hn he hpc];show (if c'.2.1<0 then 1 else J8 e.1 (kW e.1 e.2.1 c b).1 c')=_;rw [ZN (hg e he).1 hy hp hb c' hpc];by_cases hcc:c'=c
   ·subst hcc;rw [if_pos rfl,if_pos rfl,if_neg (by unfold DA at hy;omega)]
   ·rw [if_neg hcc,if_neg hcc]
  ·have hcc:c'≠c:=λh=>hpc (by rw [h];exact hp)
   rw [if_neg hcc];by_cases hx:∃x ∈ A++B,x.1=pos c'
   ·obtain ⟨x,hx,Th⟩:=hx;rw [CV hn' (List.mem_append_left _ hx) Th,CV hn ((mg x).2 (.inl hx)) Th]
   ·rw [SR,SR]
    ·rintro ⟨x,hx2,Th⟩;rcases (mg x).1 hx2 with h|h
     ·exact hx ⟨x,h,Th⟩
     ·subst h;exact hpc Th
    ·rintro ⟨x,hx2,Th⟩;rcases di.1 hx2 with h|h
     ·exact hx ⟨x,h,Th⟩
     ·simp only [List.mem_singleton] at h;subst h;exact hpc Th
def TF(F:Nat->Prop)(w:World)(t:Nat)(ar limit:Int)(T:Tb):Prop:=
 ∃st d r sl its,TO w t st d r sl T.1 ar limit its/\fT its=T.2/\F=aI t st d r sl its
theorem TF.lt{F:Nat->Prop}{w:World}{t:Nat}{ar limit:Int}{T:Tb}(h:TF F w t ar limit T){i:Nat}(hi:F i):i<w:=by obtain ⟨st,d,r,sl,its,h1,h2,rfl⟩:=h;exact h1.lt hi
theorem TF.same{F:Nat->Prop}{w w':World}{t:Nat}{ar limit:Int}{T:Tb}(h:TF F w t ar limit T)(hs:∀i,F i->w'.heap[i]? =w.heap[i]?):TF F w' t ar limit T:=by obtain ⟨st,d,r,sl,its,h1,h2,rfl⟩:=h;exact ⟨st,d,r,sl,its,h1.same hs,h2,rfl⟩
theorem TF.ext{F:Nat->Prop}{w w':World}{t:Nat}{ar limit:Int}{T:Tb}(h:TF F w t ar limit T)(x:Ext w w'):TF F w' t ar limit T:=h.same λ_ hi=>x.heap (h.lt hi)
theorem TF.c5{F G:Nat->Prop}{w w':World}{t:Nat}{ar limit:Int}{T:Tb}(h:TF F w t ar limit T)(hm:Mod G w w')(hn:∀i,F i->¬G i):TF F w' t ar limit T:=h.same λi hi=>hm.same i (h.lt hi) (hn i hi)
abbrev Dq(τ:TypeId):Prop:=τ≠Ak/\τ≠Aj/\τ≠tn/\τ≠Yc/\τ≠cC/\τ≠we/\τ≠gz/\τ≠tW/\τ≠hX
theorem TF.dO{F:Nat->Prop}{w:World}{t:Nat}{ar limit:Int}{T:Tb}(h:TF F w t ar limit T){j:Nat}{cs:LV}{τ:TypeId}(hr:Row w j cs τ)(hτ:Dq τ):¬F j:=by obtain ⟨st,d,r,sl,its,h1,h2,rfl⟩:=h;exact h1.dO hr hτ
theorem TF.len{F:Nat->Prop}{w:World}{t:Nat}{ar limit:Int}{T:Tb}(h:TF F w t ar limit T):(T.2.length:Int)<=limit/\1<=limit/\limit<=16:=by obtain ⟨st,d,r,sl,its,h1,e,rfl⟩:=h;have:=h1.len;have:=h1.WT;rw [<-e];unfold fT;rw [aN];omega
theorem TF.afS{F:Nat->Prop}{w:World}{t:Nat}{ar limit:Int}{T:Tb}(h:TF F w t ar limit T):RK T.2:=by obtain ⟨st,d,r,sl,its,h1,e,rfl⟩:=h;rw [<-e];intro e he;obtain ⟨y,hy,rfl⟩:=aZ.1 he;exact ⟨(h1.it y hy).k.len,(h1.it y hy).k.may⟩
abbrev O3(F:Nat->Prop)(w:World)(t:Nat)(ar limit:Int)(T:Tb)(w':World):Prop:=∃F',TF F' w' t ar limit T/\aM F F' w w'
theorem MT{w w':World}{t st d:Nat}{r:Dm}{sl:Sl}{ar limit:Int}{its:List It}{T:Tb}(hl:xX w t st d r sl ar limit its T w'):O3 (aI t st d r sl its) w t ar limit T w':=by obtain ⟨r',sl',its',h',ho,ht⟩:=hl;exact ⟨_,⟨st,d,r',sl',its',h',ho,rfl⟩,ht⟩
theorem O4(ar limit room:Int)(w:World):ah 96 #[ar,limit,room] w λe w'=>∃t F,e=Value.pointer (some ⟨t,0,none⟩)/\TF F w' t ar (min (max limit 1) 16) (KA room,[])/\Ext w w'/\∀i,F i->w.heap.size<=i:=by refine (VS ar limit room w).mono ?_;rintro e w' ⟨t,st,d,r,rfl,h,x,hf⟩;exact ⟨t,_,rfl,⟨st,d,r,_,[],h,rfl,rfl⟩,x,hf⟩
section
variable {F:Nat->Prop} {w:World} {t:Nat} {ar limit:Int} {T:Tb}
theorem LK(h:TF F w t ar limit T)(hW:T.1.l.length<=1000000)(p:Po):
  ah 20 #[t,pv p] w λe w'=>e=Value.int .i64 (Gk ar limit T.1 T.2 p).2/\O3 F w t ar limit (Gk ar limit T.1 T.2 p).1 w':=by
 obtain ⟨st,d,r,sl,its,h1,e,rfl⟩:=h;rw [<-e];refine (Un h1 hW p).mono ?_;rintro e w' ⟨rfl,hl⟩;exact ⟨rfl,MT hl⟩
theorem Gs(h:TF F w t ar limit T)(hW:T.1.l.length<=1000000)(p:Po):
  ah 21 #[t,pv p] w λe w'=>e=Value.int .i64 (lV T.1 T.2 p).2/\O3 F w t ar limit (lV T.1 T.2 p).1 w':=by
 obtain ⟨st,d,r,sl,its,h1,e,rfl⟩:=h;rw [<-e];refine (LH h1 hW p).mono ?_;rintro e w' ⟨rfl,hl⟩;exact ⟨rfl,MT hl⟩
theorem Ck(h:TF F w t ar limit T)(hW:T.1.l.length<=900000):
  ah 22 #[t] w λe w'=>e=Value.tuple #[.int .i64 (mD T.1 T.2).2.1,.int .i64 (mD T.1 T.2).2.2]/\O3 F w t ar limit (mD T.1 T.2).1 w':=by
 obtain ⟨st,d,r,sl,its,h1,e,rfl⟩:=h;rw [<-e];refine (Gp h1 hW).mono ?_;rintro e w' ⟨rfl,hl⟩;exact ⟨rfl,MT hl⟩
theorem MJ(h:TF F w t ar limit T)(hW:T.1.l.length<=1000000)(s:Sl)(b:List Int)(hs:jf w s b)(hb:mY b)(hn:b.length<=1099511627776):
  ah 61 #[t,s] w λe w'=>e=Value.int .i64 (xA T.1 0 b).2/\O3 F w t ar limit ((xA T.1 0 b).1,T.2) w':=by
 obtain ⟨st,d,r,sl,its,h1,e,rfl⟩:=h;rw [<-e];refine (UD h1 hW s b hs hb hn).mono ?_;rintro e w' ⟨rfl,hl⟩;exact ⟨rfl,MT hl⟩
theorem Hd(h:TF F w t ar limit T)(c:Ce)(hc:pn c):
  ah 83 #[t,dY c] w λe w'=>e=Value.int .i64 (gy T.2 c)/\Ext w w':=by
 obtain ⟨st,d,r,sl,its,h1,e,rfl⟩:=h;rw [<-e];exact Yu h1 c hc
theorem O5(h:TF F w t ar limit T)(c:Ce)(hc:pn c)(b:Int):
  ah 221 #[t,dY c,b] w λe w'=>e=Value.int .i64 (gI T.2 c b).2/\O3 F w t ar limit (T.1,(gI T.2 c b).1) w':=by
 obtain ⟨st,d,r,sl,its,h1,e,rfl⟩:=h;rw [<-e];refine (UG h1 c hc b).mono ?_;rintro e w' ⟨rfl,hl⟩;exact ⟨rfl,MT hl⟩
end
theorem QH(ar:Int)(p:Po):vV ar p []=made ar p:=rfl
theorem ac8{l:List En}(hn:ey l){i:Nat}{e e':En}(hi:l[i]? =some e)(h1:e'.1=e.1):ey (l.set i e'):=by
 unfold ey;rw [List.map_set,h1];have:(l.map (·.1)).set i e.1=l.map (·.1):=by
  have hk:(l.map (·.1))[i]? =some e.1:=by rw [aU,hi];rfl
  obtain ⟨hl,he⟩:=cG.1 hk;rw [<-he];exact List.set_getElem_self hl
 rw [this];exact hn
theorem QI{l:List En}{i:Nat}{e:En}(hd:ey l)(hi:l[i]? =some e):e.1 ∉(l.eraseIdx i).map (·.1):=by
 rw [List.eraseIdx_eq_take_drop_succ,bU];have e1:l=l.take i++e::l.drop (i+1):=by have:=List.take_append_drop i l;rw [List.drop_eq_getElem_cons (cG.1 hi).1] at this;rw [<-(cG.1 hi).2];exact this.symm
 unfold ey at hd;rw [e1,bU,eP] at hd;obtain ⟨h1,h2,h3⟩:=List.nodup_append.1 hd;intro hm;rcases di.1 hm with hm|hm
 ·exact h3 _ hm _ (.head _) rfl
 ·exact (List.nodup_cons.1 h2).1 hm
theorem mem_erase{l:List En}(hn:ey l){i:Nat}{e:En}(hi:l[i]? =some e)(x:En):x ∈ l.eraseIdx i ↔ x ∈ l/\x.1≠e.1:=by
 have mF:e.1 ∉(l.eraseIdx i).map (·.1):=QI hn hi;have Ic:=cG.1 hi;have e1:l=l.take i++e::l.drop (i+1):=by have:=List.take_append_drop i l;rw [List.drop_eq_getElem_cons Ic.1,Ic.2] at this;exact this.symm
 have e2:x ∈ l ↔ x ∈ l.eraseIdx i\/x=e:=by
  rw [List.eraseIdx_eq_take_drop_succ];conv=>lhs;rw [e1]
  simp only [di,cB];constructor
  ·rintro (h|h|h)
   ·exact .inl (.inl h)
   ·exact .inr h
   ·exact .inl (.inr h)
  ·rintro ((h|h)|h)
   ·exact .inl h
   ·exact .inr (.inr h)
   ·exact .inr (.inl h)
 constructor
 ·intro hx;exact ⟨e2.2 (.inl hx),λq=>mF (aZ.2 ⟨x,hx,q⟩)⟩
 ·rintro ⟨hx,iM⟩;rcases e2.1 hx with h|h
  ·exact h
  ·exact absurd (by rw [h]) iM
theorem AF{l:List En}(hn:ey l)(i:Nat):ey (l.eraseIdx i):=hn.sublist ((List.eraseIdx_sublist ..).map _)
theorem MA{l:List En}(hn:ey l){e:En}(h:¬MB l e.1):ey (l++ [e]):=by unfold ey;rw [bU];refine List.nodup_append.2 ⟨hn,by simp,?_⟩;intro a ha b hb q;simp at hb;obtain ⟨x,hx,rfl⟩:=aZ.1 ha;exact h ⟨x,hx,q.trans hb⟩
section
variable {w0 w w':World} {t:Nat} {ar limit:Int} {T:Tb}
end
theorem fU{p:Option Addr}{K:Prop}(hp:p.isSome=true)(h:K):aP (dv p) K:=bE.2 ⟨iN.2 hp,h⟩
theorem ajH:Dq pM/\Dq WS:=by decide
theorem KD{F:Nat->Prop}{w:World}{t:Nat}{ar cap:Int}{T:Tb}(h:TF F w t ar cap T):ah 37 #[t] w λe w'=>∃s':Sl,e=s'/\aC w WS 2 w' s' (T.2.map λe=> [.int .i64 e.1.1,.int .i64 e.1.2])/\Ext w w':=by obtain ⟨st,d,r,sl,its,g1,e,rfl⟩:=h;rw [<-e];exact UE g1
abbrev qL:TypeId:=133
abbrev kc:TypeId:=289
abbrev Cg:=Ce × Int
abbrev cgv(x:Cg):LV:=[.int .i64 x.1.1,.int .i64 x.1.2.1,.int .i64 x.1.2.2,.int .i64 x.2]
def WF(F:Nat->Prop)(w:World)(o t:Nat)(ar limit:Int)(T:Tb)(ch:List Cg):Prop:=
 ∃F1 sc,TF F1 w t ar limit T/\Row w o [t,.slice sc.a sc.n sc.c] qL/\aC 0 kc 4 w sc (ch.map cgv)/\F=λi=>F1 i\/i=o\/sc.aX=some i
theorem WF.lt{F:Nat->Prop}{w:World}{o t:Nat}{ar limit:Int}{T:Tb}{ch:List Cg}(h:WF F w o t ar limit T ch){i:Nat}(hi:F i):i<w:=by
 obtain ⟨F1,sc,h1,h2,h3,rfl⟩:=h;rcases hi with hi|rfl|hi
 ·exact h1.lt hi
 ·exact h2.lt
 ·exact (h3.own.lt hi).2
theorem WF.same{F:Nat->Prop}{w w':World}{o t:Nat}{ar limit:Int}{T:Tb}{ch:List Cg}(h:WF F w o t ar limit T ch)(hs:∀i,F i->w'.heap[i]? =w.heap[i]?):WF F w' o t ar limit T ch:=by obtain ⟨F1,sc,h1,h2,h3,rfl⟩:=h;exact ⟨F1,sc,h1.same λi hi=>hs i (.inl hi),h2.same (hs o (.inr (.inl rfl))),aC.c5 h3 λb hb=>hs b (.inr (.inr hb)),rfl⟩
theorem WF.ext{F:Nat->Prop}{w w':World}{o t:Nat}{ar limit:Int}{T:Tb}{ch:List Cg}(h:WF F w o t ar limit T ch)(x:Ext w w'):WF F w' o t ar limit T ch:=h.same λ_ hi=>x.heap (h.lt hi)
theorem WF.c5{F G:Nat->Prop}{w w':World}{o t:Nat}{ar limit:Int}{T:Tb}{ch:List Cg}(h:WF F w o t ar limit T ch)(hm:Mod G w w')(hn:∀i,F i->¬G i):WF F w' o t ar limit T ch:=h.same λi hi=>hm.same i (h.lt hi) (hn i hi)
theorem WF.dO{F:Nat->Prop}{w:World}{o t:Nat}{ar limit:Int}{T:Tb}{ch:List Cg}(h:WF F w o t ar limit T ch){j:Nat}{cs:LV}{τ:TypeId}(hr:Row w j cs τ)(hτ:Dq τ)(hw:τ≠qL)(hc:τ≠kc):¬F j:=by
 obtain ⟨F1,sc,h1,h2,h3,rfl⟩:=h;rintro (hi|rfl|hi)
 ·exact h1.dO hr hτ hi
 ·exact hr.ne h2 hw rfl
 ·obtain ⟨cs',hr'⟩:=bc h3 aF hi;exact hr.ne hr' hc rfl
theorem WF.len{F:Nat->Prop}{w:World}{o t:Nat}{ar limit:Int}{T:Tb}{ch:List Cg}(h:WF F w o t ar limit T ch):(T.2.length:Int)<=limit/\1<=limit/\limit<=16:=by obtain ⟨F1,sc,h1,h2,h3,rfl⟩:=h;exact h1.len
theorem WF.afS{F:Nat->Prop}{w:World}{o t:Nat}{ar limit:Int}{T:Tb}{ch:List Cg}(h:WF F w o t ar limit T ch):RK T.2:=by obtain ⟨F1,sc,h1,h2,h3,rfl⟩:=h;exact h1.afS
abbrev FV(F:Nat->Prop)(w:World)(o t:Nat)(ar limit:Int)(T:Tb)(ch:List Cg)(w':World):Prop:=∃F',WF F' w' o t ar limit T ch/\aM F F' w w'
theorem WF.table{F:Nat->Prop}{w:World}{o t:Nat}{ar limit:Int}{T:Tb}{ch:List Cg}(h:WF F w o t ar limit T ch):∃F1,TF F1 w t ar limit T/\(∀i,F1 i->F i)/\∀{w':World} {T':Tb},O3 F1 w t ar limit T' w'->FV F w o t ar limit T' ch w':=by
 obtain ⟨F1,sc,h1,h2,h3,rfl⟩:=h;refine ⟨F1,h1,λi hi=> .inl hi,?_⟩;rintro w' T' ⟨F',h',ht⟩;have n2:=h1.dO h2 aF;have n3:∀b,sc.aX=some b->¬F1 b:=λb hb=>by obtain ⟨cs',hr'⟩:=bc h3 aF hb;exact h1.dO hr' aF
 refine ⟨_,⟨F',sc,h',ht.mod.row h2 n2,ht.mod.fk h3 n3,rfl⟩,ht.mod.mono λi _ hi=> .inl hi,λi hi=> ?_⟩;rcases hi with hi|hi|hi
 ·exact (ht.sub i hi).imp .inl id
 ·exact .inl (.inr (.inl hi))
 ·exact .inl (.inr (.inr hi))
theorem Hc(ar limit room:Int)(w:World):ah 39 #[ar,limit,room] w λe w'=>∃o t F,e=Value.pointer (some ⟨o,0,none⟩)/\WF F w' o t ar (min (max limit 1) 16) (KA room,[]) []/\Ext w w'/\∀i,F i->w.heap.size<=i:=by
 apply Tw.vc;refine (O4 ar limit room w).mono ?_;rintro e w0 ⟨t,F1,rfl,h0,x0,f0⟩;refine ⟨_,rfl,λw2 e2=>⟨w0.heap.size,t,_,rfl,⟨F1,⟨none,0,0⟩,h0.ext (aL e2),?_,aC.nil,rfl⟩,x0.bn e2,λi hi=> ?_⟩⟩
 ·rw [e2];exact Row.new w0 [_,_] _
 ·rcases hi with hi|hi|hi
  ·exact f0 i hi
  ·have:=x0.size;omega
  ·cases hi
theorem oT{F:Nat->Prop}{w:World}{o t:Nat}{ar limit:Int}{T:Tb}{ch:List Cg}(h:WF F w o t ar limit T ch):ah 19 #[o] w λe w'=>e=Value.pointer (some ⟨t,0,none⟩)/\w'=w:=by obtain ⟨F1,sc,h1,h2,h3,rfl⟩:=h;apply xt.vc;exact ⟨_,h2.at 0 rfl,rfl,rfl⟩
theorem fl{F:Nat->Prop}{w:World}{o t:Nat}{ar limit:Int}{T:Tb}{ch:List Cg}(h:WF F w o t ar limit T ch):ah 27 #[o] w λe w'=>e=Value.func (.func 83) #[t] #[]/\w'=w:=by obtain ⟨F1,sc,h1,h2,h3,rfl⟩:=h;apply zy.vc;exact ⟨_,h2.at 0 rfl,rfl,rfl⟩
def Xp(l:List En)(ch:List Cg)(c:Ce)(b:Int):List Cg:=if (gI l c b).2=0/\gy l c≠b then ch++ [(c,b)] else ch
theorem ajn(a b c d:Int):One [Value.int .i64 a,b,c,d]:=by intro v hv;simp at hv;rcases hv with rfl|rfl|rfl|rfl<;>rfl
theorem Tx{F:Nat->Prop}{w:World}{o t:Nat}{ar limit:Int}{T:Tb}{ch:List Cg}(h:WF F w o t ar limit T ch)(c:Ce)(hc:pn c)(b:Int)(hn:ch.length<=1000000):
  ah 161 #[o,dY c,.int .i64 b] w λe w'=>e=Value.int .i64 (gI T.2 c b).2/\FV F w o t ar limit (T.1,(gI T.2 c b).1) (Xp T.2 ch c b) w':=by
 have hF:=λ{i}=>h.lt (i:=i)
 have hh:=h;obtain ⟨F1,sc,h1,h2,h3,rfl⟩:=h;apply BJ.vc;intro w0 e0;have z0:=eG e0;have x0:Ext w w0.drew:=(aL e0).drew;have zd:=lG w0;refine ⟨_,(h2.ext x0).at 0 rfl,(Hd (h1.ext x0) c hc).mono ?_⟩;rintro e w2 ⟨rfl,x2⟩;have z2:=x2.size;have yM:=(x0.tr x2).drew;have zd2:=lG w2;refine ⟨_,rfl,x2.heap ab,_,(h2.ext yM).at 0 rfl,(O5 (h1.ext yM) c hc b).mono ?_⟩;rintro e w5 ⟨rfl,hT⟩;obtain ⟨F',hF',ht'⟩:=hT;have z5:=ht'.mod.size;have n2:=(h1.ext yM).dO (h2.ext yM) aF;have n3:∀b,sc.aX=some b->¬F1 b:=λb hb=>by obtain ⟨cs',hr'⟩:=bc (h3.ext yM) aF hb;exact (h1.ext yM).dO hr' aF
 have h2':=ht'.mod.row (h2.ext yM) n2;have h3':aC 0 kc 4 w5 sc (ch.map cgv):=ht'.mod.fk (h3.ext yM) n3;have nb:¬F1 w:=λhf=>by have:=hF (.inl hf);omega
 have tt:aM (λi=>F1 i\/i=o\/sc.aX=some i) (λi=>F' i\/i=o\/sc.aX=some i) w w5:=by
  refine (aM.aD yM).trans ⟨ht'.mod.mono λi _ hi=> .inl hi,λi hi=> ?_⟩;rcases hi with hi|hi|hi
  ·exact (ht'.sub i hi).imp .inl id
  ·exact .inl (.inr (.inl hi))
  ·exact .inl (.inr (.inr hi))
 refine ⟨_,rfl,ht'.mod.same _ ab nb,Br.mk (λhb=>Br.mk (λjC=> ?_) (λjC=> ?_)) (λhb=> ?_)⟩
 ·simp only [beq_iff_eq] at hb;simp only [bne_iff_ne] at jC;have ec:Xp T.2 ch c b=ch++ [(c,b)]:=by unfold Xp;rw [if_pos ⟨hb,jC⟩]
  rw [ec];have h2d:=h2'.ext (Ext.dr w5);have tR:sc.n=ch.length:=by have:=(h3.rd (show 0<4 by decide)).n;rwa [aN] at this
  refine ⟨sc,h2d.at 1 rfl,λw8 e8=> ?_⟩;subst e8;obtain ⟨hp,bw⟩:=(h3'.ext (Ext.dr w5)).iO (bytes:=32) (news:=cgv (c,b)) (.cells #[c.1,c.2.1,c.2.2,.int .i64 b] kc) (Nat.zero_le _) rfl (ajn _ _ _ _) ab ab;refine ⟨hp,λs9 bO hr=> ?_⟩;obtain ⟨f1,aj3,awR,xb,V5,ik⟩:=bw s9 bO hr;have zd5:=lG w5;have hol:=h2.lt;have api:∀b,sc.aX=some b->b<w.heap.size:=λb hb=>(h3.own.lt hb).2
  have m10:Mod (λj=>sc.aX=some j) w5 bO:=(Mod.aD (Ext.dr w5)).trans (Mod.vA xb V5);have no:¬sc.aX=some o:=λe=>by obtain ⟨cs',hr'⟩:=bc h3 aF e;exact hr'.ne h2 aF rfl
  have aj4:=m10.row h2' no;obtain ⟨p1,p2⟩:=aj4.je (j:=1) (v:=.slice s9.a s9.n s9.c) bB rfl;have QX:=m10.size;have pb:∀j:Nat,o<j->bD (af (some ⟨o,0,none⟩) 1)≠some j:=λj hj e=>by
   rw [cV] at e;have:o=j:=by simpa [bD] using e
   omega
  refine ⟨(m10.same w ab (λe=>by have:=api _ e;omega)).trans ((Ext.al w5.drew _).heap (show w.heap.size<w5 by omega)).symm,f1,⟨rfl,p1⟩,pb _ ab,pb _ (show o<w5 by omega),λaY Cn=>⟨rfl,?_⟩⟩;obtain ⟨q1,q2⟩:=p2 aY Cn;have ho9:∀b,s9.aX=some b->b≠o:=λb hb=>by obtain ⟨cs',hr'⟩:=bc aj3 aF hb;exact hr'.ne aj4 aF
  have m11:Mod (λj=>j=o\/sc.aX=some j) w5 aY:=(m10.mono λi _ hi=> .inr hi).trans (q2.mono λi _ hi=> .inl hi);have apj:TF F' aY t ar limit (T.1,(gI T.2 c b).1):=hF'.c5 m11 λi hi e=>by
   rcases e with e|e
   ·exact hF'.dO h2' aF (e▸hi)
   ·obtain ⟨cs',hr'⟩:=bc h3' aF e;exact hF'.dO hr' aF hi
  refine ⟨_,⟨F',s9,apj,q1,?_,rfl⟩,tt.trans ⟨m11.mono λi _ hi=> .inr hi,λi hi=> ?_⟩⟩
  ·rw [bU];exact q2.fk aj3 ho9
  ·rcases hi with hi|hi|hi
   ·exact .inl (.inl hi)
   ·exact .inl (.inr (.inl hi))
   ·rcases ik with e|e
    ·exact .inl (.inr (.inr (by rw [<-e];exact hi)))
    ·rw [e] at hi;cases hi;exact .inr (show w5.heap.size<=w5.heap.size+1 by omega)
 ·simp only [bne_eq_false_iff_eq] at jC;have ec:Xp T.2 ch c b=ch:=by unfold Xp;rw [if_neg λh=>h.2 jC]
  rw [ec];exact ⟨rfl,_,⟨F',sc,hF',h2',h3',rfl⟩,tt⟩
 ·simp only [beq_eq_false_iff_ne] at hb;have ec:Xp T.2 ch c b=ch:=by unfold Xp;rw [if_neg λh=>hb h.1]
  rw [ec];exact ⟨rfl,_,⟨F',sc,hF',h2',h3',rfl⟩,tt⟩
theorem ab7(l:List En)(ch:List Cg)(c:Ce)(b:Int):(Xp l ch c b).length<=ch.length+1:=by
 unfold Xp;split
 ·simp
 ·omega
abbrev rQ(q:Po):LV:=[.int .i64 q.1,.int .i64 q.2]
def qM(p:Po):List Po:=[p,(p.1-1,p.2),(p.1+1,p.2),(p.1,p.2-1),(p.1,p.2+1)]
theorem Iy(p:Po)(hp:Tz p)(w:World):ah 150 #[pv p] w λe w'=>e=Value.agg #[p.1,p.2,.int .i64 (p.1-1),p.2,.int .i64 (p.1+1),p.2,p.1,.int .i64 (p.2-1),p.1,.int .i64 (p.2+1)]/\Ext w w':=by
 apply KC.vc;obtain ⟨⟨p1,p2⟩,p3,p4⟩:=hp;have q1:aj (p.1-1)=p.1-1:=wI;have q2:aj (p.1+1)=p.1+1:=wI;have q3:aj (p.2-1)=p.2-1:=wI;have q4:aj (p.2+1)=p.2+1:=wI;rw [q1,q2,q3,q4];intro w0 e0 w1 e1;have z0:=eG e0;have x1:Ext w w1:=(aL e0).bn e1;have hr:Row w1 w0 [aa,aa,aa,aa,aa,aa,aa,aa,aa,aa] 227:=Row.nw e1;refine ⟨⟨rfl,hr.wr bB⟩,λe=>by
  have:w0.heap.size=w.heap.size:=by simpa [bD] using e
  omega,λw2 e2=> ?_⟩
 have h1:One [Value.int .i64 p.1,p.2,.int .i64 (p.1-1),p.2,.int .i64 (p.1+1),p.2,p.1,.int .i64 (p.2-1),p.1,.int .i64 (p.2+1)]:=by intro v hv;simp only [cB,jQ,or_false] at hv;rcases hv with rfl|rfl|rfl|rfl|rfl|rfl|rfl|rfl|rfl|rfl<;>rfl
 rw [hr.aH bB h1] at e2;have pP:Row w2 w0 [p.1,p.2,.int .i64 (p.1-1),p.2,.int .i64 (p.1+1),p.2,p.1,.int .i64 (p.2-1),p.1,.int .i64 (p.2+1)] 227:=hr.st e2;exact ⟨_,_,_,_,_,_,_,_,_,_,pP.bZ (λj hj=>by rw [ep]),rfl,x1.ae e2 ab⟩
theorem FW(s:Sl)(ps:List Po)(p:Po)(w:World)(hs:RdK w s 2 (ps.map rQ))(hn:ps.length<=1000):
  ah 213 #[s,pv p] w λe w'=>(∃r:Int,e=r/\(0<=r ↔ p ∈ ps))/\Ext w w':=by
 apply zB.vc;have tR:=hs.n;rw [aN] at tR;intro w0 e0;have x0:=aL e0;refine ⟨λn x w'=>∃j:Nat,x=j/\j+n=ps.length/\Ext w w'/\p ∉ ps.take j,⟨ps.length,rfl,0,rfl,by omega,x0,by simp⟩,?_⟩;rintro n us x w5 ⟨j,rfl,hj,x5,hnp⟩;apply Br.mk<;>intro hb
 ·replace hb:=mh hb;obtain ⟨y,hy⟩:=bI (l:=ps) (i:=j) ab;have gS:=hs.ext (x5.tr (Ext.dr _));refine ⟨hs.g9 (i:=(j:Int)) aF ab hb,y.1,y.2,gS.bZ (i:=j) (r:=rQ y) (by rw [aU,hy];rfl),Br.mk (λh1=> ?_) (λh1=> ?_)⟩
  ·simp only [fm,beq_iff_eq] at h1;have:p=y:=Prod.ext h1.1 h1.2;exact ⟨⟨_,rfl,λ_=>by rw [this];exact bg hy,λ_=>by omega⟩,x5.tr (Ext.dr _)⟩
  ·have wk:=mz (j:=j);refine ⟨n-1,by omega,rfl,j+1,wk,by omega,x5.tr (Ext.dr _),?_⟩;rw [dD,hy];intro hm;rcases di.1 hm with hm|hm
   ·exact hnp hm
   ·simp only [Option.toList_some,List.mem_singleton] at hm;subst hm;simp at h1
 ·replace hb:=my hb;rw [fC ab] at hnp;exact ⟨⟨-1,rfl,λh=>by omega,λh=>absurd h hnp⟩,x5⟩
theorem zC(s:Sl)(ps:List Po)(p:Po)(w:World)(hs:RdK w s 2 (ps.map rQ))(hn:ps.length<=1000):
  ah 151 #[s,pv p] w λe w'=>e=Value.bool (decide (p ∈ ps))/\Ext w w':=by
 apply uD.vc;intro w0 e0;have z0:=eG e0;have x0:=aL e0;refine (FW s ps p w0 (hs.ext x0) hn).mono ?_;rintro e w1 ⟨⟨r,rfl,hr⟩,x1⟩;refine ⟨r,rfl,x1.heap ab,?_,x0.tr x1⟩;have:decide (r>=0)=decide (p ∈ ps):=by rw [decide_eq_decide];exact hr
 rw [this]
theorem ab8{c:Ce}(hc: -1000000000<=c.1/\c.1<=1000000000)(hz: -1000000000<=c.2.2/\c.2.2<=1000000000):Tz (pos c):=by unfold Tz pos;simp only;omega
def Dr(l:List En)(c:Ce):Bool:=(qM (pos c)).all λq=>decide (q ∈ l.map (·.1))
theorem td{F:Nat->Prop}{w:World}{o t:Nat}{ar limit:Int}{T:Tb}{ch:List Cg}(h:WF F w o t ar limit T ch)(c:Ce)(hc:pn c)(hp:Tz (pos c)):
  ah 100 #[o,dY c] w λe w'=>e=Value.bool (Dr T.2 c)/\Ext w w':=by
 obtain ⟨F1,sc,hT,hR,hO,rfl⟩:=h;apply xy.vc;have dI:=hT.len;intro w1 e1;have z1:=eG e1;have x1:=aL e1;refine ⟨_,(hR.ext x1).at 0 rfl,(KD (hT.ext x1)).mono ?_⟩;rintro e w2 ⟨s',rfl,ho,x2⟩;have z2:=x2.size;have gS:RdK w2 s' 2 ((T.2.map (·.1)).map rQ):=by rw [List.map_map];exact ho.rd (show 0<2 by decide)
 refine ⟨s',rfl,x2.heap ab,(oU c hc w2).mono ?_⟩;rintro e w4 ⟨rfl,x4⟩;have z4:=x4.size;refine ⟨_,_,rfl,x4.heap ab,(Iy (pos c) hp w4).mono ?_⟩;rintro e w7 ⟨rfl,x7⟩;have z7:=x7.size;have cY:=x1.tr (x2.tr (x4.tr x7));unfold Dr;generalize pos c=p at*;have hpl:(T.2.map (·.1)).length<=1000:=by rw [aN];omega
 generalize T.2.map (·.1)=ps at*;refine ⟨_,_,_,_,_,_,_,_,_,_,rfl,x7.heap ab,λn x w'=>∃j:Nat,x=j/\j+n=5/\Ext w7 w'/\∀q ∈(qM p).take j,q ∈ ps,⟨5,rfl,0,rfl,rfl,Ext.cE _,by simp⟩,?_⟩;rintro n us x cU ⟨j,rfl,hj,dQ,qA⟩;have z25:=dQ.size;apply Br.mk<;>intro hb
 ·replace hb:=mh hb;have hex:∃q:Po,(([p.1,p.2,.int .i64 (p.1-1),p.2,.int .i64 (p.1+1),p.2,p.1,.int .i64 (p.2-1),p.1,.int .i64 (p.2+1)]:LV).drop (((j:Nat):Int).toNat*2)).take 2=[.int .i64 q.1,.int .i64 q.2]/\(qM p)[j]? =some q:=by
   have:j=0\/j=1\/j=2\/j=3\/j=4:=by omega
   rcases this with rfl|rfl|rfl|rfl|rfl
   ·exact ⟨p,rfl,rfl⟩
   ·exact ⟨(p.1-1,p.2),rfl,rfl⟩
   ·exact ⟨(p.1+1,p.2),rfl,rfl⟩
   ·exact ⟨(p.1,p.2-1),rfl,rfl⟩
   ·exact ⟨(p.1,p.2+1),rfl,rfl⟩
  obtain ⟨q,hq1,M1⟩:=hex;refine ⟨⟨by omega,by omega⟩,q.1,q.2,hq1,λdR M3 fu J9=> ?_⟩;have jD:Ext cU fu:=(aL M3).ae J9 (aB _);have z30:fu.heap.size=cU.heap.size+1:=by rw [J9,setRow_size,M3];simp
  have xx:Ext w2 fu:=x4.tr (x7.tr (dQ.tr jD));refine (zC s' ps q fu (gS.ext xx) hpl).mono ?_;rintro e fJ ⟨rfl,ic⟩;have wk:=mz (j:=j);refine ⟨_,rfl,ic.heap ab,ic.heap ab,Br.mk (λh1=> ?_) (λh1=> ?_)⟩
  ·refine ⟨?_,cY.tr ((dQ.tr jD).tr ic)⟩;have hnq:q ∉ ps:=by simpa using h1
   have:((qM p).all λq=>decide (q ∈ ps))=false:=by rw [List.all_eq_false];exact ⟨q,bg M1,by simpa using hnq⟩
   rw [this]
  ·have hyq:q ∈ ps:=by simpa using h1
   refine ⟨n-1,by omega,rfl,j+1,wk,by omega,(dQ.tr jD).tr ic,?_⟩;rw [dD,M1];intro y hy;rcases di.1 hy with hy|hy
   ·exact qA y hy
   ·simp only [Option.toList_some,List.mem_singleton] at hy;subst hy;exact hyq
 ·replace hb:=my hb;refine ⟨?_,cY.tr dQ⟩;rw [fC (show (qM p).length<=j by unfold qM;simp;omega)] at qA;have:((qM p).all λq=>decide (q ∈ ps))=true:=by rw [List.all_eq_true];exact λq hq=>by simpa using qA q hq
  rw [this]
section
variable {N F F':Nat->Prop} {w w' v v':World} {s1 s2 s3 s4:Sl} {T T':Tb} {ch ch':List Cg} {ar cap limit:Int} {o t a b m n k:Nat}
theorem sT(h:WF F w o t ar limit T ch)(hW:T.1.l.length<=1000000)(p:Po):
  ah 20 #[t,pv p] w λe w'=>e=Value.int .i64 (Gk ar limit T.1 T.2 p).2/\FV F w o t ar limit (Gk ar limit T.1 T.2 p).1 ch w':=by
 obtain ⟨F1,hT,-,bw⟩:=h.table;refine (LK hT hW p).mono ?_;rintro e w' ⟨rfl,hr⟩;exact ⟨rfl,bw hr⟩
theorem uZ(h:WF F w o t ar limit T ch)(hW:T.1.l.length<=1000000)(p:Po):
  ah 21 #[t,pv p] w λe w'=>e=Value.int .i64 (lV T.1 T.2 p).2/\FV F w o t ar limit (lV T.1 T.2 p).1 ch w':=by
 obtain ⟨F1,hT,-,bw⟩:=h.table;refine (Gs hT hW p).mono ?_;rintro e w' ⟨rfl,hr⟩;exact ⟨rfl,bw hr⟩
theorem UK(h:WF F w o t ar limit T ch)(c:Ce)(hc:pn c):
  ah 83 #[t,dY c] w λe w'=>e=Value.int .i64 (gy T.2 c)/\Ext w w':=by
 obtain ⟨F1,hT,-⟩:=h.table;exact Hd hT c hc
set_option maxRecDepth 100000 in
theorem WF.ajF{F:Nat->Prop}{w:World}{T:Tb}{ch:List Cg}{ar limit:Int}{o t:Nat}(h:WF F w o t ar limit T ch){w':World}(hk:∀i,F i->w'.heap[i]? =w.heap[i]?)(c:Ce)(hc:pn c):
  cr Tryz.prog (.func (.func 83) #[t] #[]) [dY c] w' λe w''=>e=Value.int .i64 (gy T.2 c)/\Ext w' w'':=
 cS (by kernel_rfl) rfl (UK (h.same hk) c hc)
end
theorem Lo.wv{w:World}{g:Nat}{cs:LV}{τ:TypeId}(h:Row w g cs τ):ag w (some ⟨g,0,none⟩) 0 cs:=h.bZ (λj hj=>by rw [ep])
end Go.Proofs.YtkkkfkopcfdmaaaGreatDoor
