import Derived.Test.YtkkkfkopcfdmaaaGreatDoorE
import Derived.Test.YtkkkfkopcfdmaaaGreatDoorD
import Derived.Laws.IdiomRangeMap
import Derived.LoopTactic
import Derived.Test.YtkkkfkopcfdmaaaGreatDoorF
set_option linter.all false
namespace Go.Proofs.YtkkkfkopcfdmaaaGreatDoor
open Go Go.Vc Go.RowKit Go.Proofs Go.dK Go.bf Go.Code
theorem Jp (v:om) (w:World):ah 321 #[.int .u16 (cI v)] w λe w'=>e=Value.int .u16 (cI (R9 v))/\w'=w:=by
 apply LQ.vc;have e1:mf (cI v*2 ^(min (1:Int).toNat 16))=cI (v<<<1):=Sa v 1;have e2:nB .u16 (cI v) 32768=cI (v &&& 0x8000#16):=af6 v 0x8000#16;have e3:kz .u16 (cI (v<<<1)) 4129=cI ((v<<<1) ^^^ 0x1021#16):=Er _ 0x1021#16;apply Br.mk<;>intro h
 ·rw [e2] at h;have hm:v.msb=true:=by
   cases q:v.msb with
   |true=>rfl
   |false=>rw [(Sb v).2 q] at h;simp at h
  rw [e1,e3];unfold R9;rw [if_pos hm];exact ⟨rfl,rfl⟩
 ·rw [e2] at h;have hm:v.msb=false:=(Sb v).1 (by simpa using h);rw [e1];unfold R9;rw [hm];exact ⟨rfl,rfl⟩
abbrev Md:TypeId:=358
abbrev tA2:TypeId:=321
def itS:Nat->om->om
 |0,v=>v
 |k+1,v=>R9 (itS k v)
theorem Gi (w:World):ah 310 #[] w λe w'=>e=Value.agg tS.toArray/\Ext w w':=by
 apply UF.vc;intro w0 e0 w1 e1;have z0:=eN e0;have x1:Ext w w1:=(aL e0).bB e1;have ha:Row w1 w (tT 0) Md:=(by rw [e0];exact Row.new w (tT 0) _:Row w0 w (tT 0) Md).ext (aL e1);have hb:Row w1 w0 (tT 0) Md:=by rw [e1];exact Row.new w0 (tT 0) _
 refine ⟨λn i wr=>∃k:Nat,i=k/\k+n=16/\Row wr w (tT 0) Md/\Row wr w0 (tT k) Md/\Ext w wr,⟨16,0,rfl,rfl,ha,hb,x1⟩,?_⟩;rintro n3 us4 x5 w6 ⟨k,rfl,hk,ha6,hb6,x6⟩;apply Br.mk<;>intro hc
 ·replace hc:=lY hc;have ek:mf (mf (k:Int)*2 ^(min (12:Int).toNat 16))=cI (ym (k:Int)<<<12):=by
   have:mf (k:Int)=cI (ym (k:Int)):=by rw [P9 aa,wrap_u16];omega
   rw [this];exact Sa _ 12
  rw [ek];refine ⟨λn j c wr=>∃m:Nat,j=m/\m+n=4/\c=cI (itS m (ym (k:Int)<<<12))/\wr=w6,⟨4,0,rfl,rfl,rfl,rfl⟩,?_⟩;rintro n9 Wb bz bU bF ⟨m,rfl,hm,rfl,rfl⟩;apply Br.mk<;>intro nr
  ·replace nr:=lY nr;have wk:=mh (j:=m);refine (Jp _ _).mono ?_;rintro e dY ⟨rfl,hw⟩;exact ⟨_,rfl,n9-1,by omega,m+1,wk,by omega,rfl,hw⟩
  ·replace nr:=mg nr;have hm4:m=4:=by omega
   subst hm4;have wk:=mh (j:=k);have dG:(tT k).length=16:=by unfold tT;rw [dc,dC,D7];simp [tS];omega
   obtain ⟨p1,p2⟩:=hb6.je (j:=k) (v:=tv k) aa rfl;have hj:((k:Int)).toNat*1=k:=by omega
   rw [hj];refine ⟨by omega,by omega,⟨rfl,p1⟩,λcE yS=> ?_⟩;obtain ⟨q1,q2⟩:=p2 cE yS;rw [show aR (tT k) k [tv k]=(tT k).set k (tv k) from rfl,af7 aa] at q1;exact ⟨n3-1,by omega,k+1,wk,by omega,q2.row ha6 (by have:=x1.size;omega),q1,q2.ext x6 (by intro i hi;omega)⟩
 ·replace hc:=mg hc;have:k=16:=by omega
  subst this;have hl:ag w6 (some ⟨w0.heap.size,0,none⟩) 0 tS:=hb6.bY λj hj=>by rw [eB];rfl
  have hs:=ha6.aG (o:=0) (vs:=tS) aE (by intro v hv;simp only [tS,cH,jR,or_false] at hv;rcases hv with rfl|rfl|rfl|rfl|rfl|rfl|rfl|rfl|rfl|rfl|rfl|rfl|rfl|rfl|rfl|rfl<;>rfl);refine ⟨_,_,_,_,_,_,_,_,_,_,_,_,_,_,_,_,hl,⟨rfl,ha6.wr (o:=0) (n:=16) aE⟩,λiL e34=> ?_⟩;have alL:iL=w6.setRow w tS.toArray:=e34.trans hs;have hr:Row iL w tS Md:=by rw [alL];exact ha6.set tS
  have VN:ag iL (some ⟨w.heap.size,0,none⟩) 0 tS:=hr.bY λj hj=>by rw [eB]
  exact ⟨_,_,_,_,_,_,_,_,_,_,_,_,_,_,_,_,VN,rfl,x6.af alL (aB _)⟩
theorem Jq (v:om) (s:Sl) (b:List Int) (w:World) (hs:gS w s b) (hb:mz b) (hn:(b.length:Int)<=1099511627776):ah 297 #[.int .u16 (cI v),s] w λe w'=>e=Value.int .u16 (cI (Qa v b))/\Ext w w':=by
 apply (Ea.vc (a1:=s));refine (Gi w).mono ?_;rintro e w0 ⟨rfl,x0⟩;refine ⟨_,_,_,_,_,_,_,_,_,_,_,_,_,_,_,_,rfl,λcE yS=> ?_⟩;have aaN:Row cE w0 (tT 0) Md:=by rw [yS];exact Row.new w0 (tT 0) _
 have hS:=aaN.aG (o:=0) (vs:=tS) aE (by intro v hv;simp only [tS,cH,jR,or_false] at hv;rcases hv with rfl|rfl|rfl|rfl|rfl|rfl|rfl|rfl|rfl|rfl|rfl|rfl|rfl|rfl|rfl|rfl<;>rfl);refine ⟨⟨rfl,aaN.wr (o:=0) (n:=16) aE⟩,λdA VV=> ?_⟩;have alM:dA=cE.setRow w0 tS.toArray:=VV.trans hS;have hr:Row dA w0 tS Md:=by rw [alM];exact aaN.set tS
 have cg:Ext w dA:=x0.tr ((aL yS).af alM (aB _));have alN:=hs.ext cg;have tU:=hs.n;rw [aM] at tU;refine ⟨λn i c wr=>∃k:Nat,i=k/\k+n=b.length/\c=cI (Qa v (b.take k))/\wr=dA,⟨b.length,0,rfl,by omega,rfl,rfl⟩,?_⟩;rintro n us i c wr ⟨k,rfl,hk,rfl,rfl⟩;apply Br.mk<;>intro hc
 ·replace hc:=lY hc;obtain ⟨x,hx⟩:=bH (l:=b) (i:=k) aa;have hxb:=hb x (aZ hx);have hm:(b.map yv)[k]? =some [.int .u8 x]:=by rw [aS,hx];rfl
  have jq:=alN.at hm (j:=0) rfl;rw [gT] at jq;have wk:=mh (j:=k);have ht:b.take (k+1)=b.take k++ [x]:=by rw [dE,hx];rfl
  generalize hu:Qa v (b.take k)=u;refine ⟨alN.gR aE aa hc,x,jq,?_⟩;have m1:(min (12:Int).toNat 16)=12:=rfl;have m2:(min (4:Int).toNat 8)=4:=rfl;have m3:(min (4:Int).toNat 16)=4:=rfl;rw [m1,m2,m3,Y5,aow hxb,Er,aox hxb,Sa];have l1:=Y6 (Y7 u) (aeo hxb);have g1:=aep l1;have c1:=Bg ((u>>>12) ^^^(ym x>>>4));have c1':cI ((u>>>12) ^^^(ym x>>>4))<16:=by unfold cI;omega
  refine ⟨by omega,by omega,_,(by rw [bh,eB,hr.ld,Nat.mul_one];exact g1),?_⟩;rw [Er,Y5,Er,Sa];have l2:=Y6 (Y7 ((u<<<4) ^^^ HM (((u>>>12) ^^^(ym x>>>4))<<<12))) (aeq (ym x));have g2:=aep l2;have c2:=Bg ((((u<<<4) ^^^ HM (((u>>>12) ^^^(ym x>>>4))<<<12))>>>12) ^^^(ym x &&& 15#16));have c2':cI ((((u<<<4) ^^^ HM (((u>>>12) ^^^(ym x>>>4))<<<12))>>>12) ^^^(ym x &&& 15#16))<16:=by unfold cI;omega
  refine ⟨by omega,by omega,_,(by rw [bh,eB,hr.ld,Nat.mul_one];exact g2),n-1,by omega,k+1,wk,by omega,?_,rfl⟩;rw [Er,U2 u hxb,ht,Mf,hu];rfl
 ·replace hc:=mg hc;rw [fB aa];exact ⟨rfl,cg⟩
theorem C6 (s:Sl) (b:List Int) (w:World) (hs:gS w s b) (hb:mz b) (hn:(b.length:Int)<=1099511627776):ah 269 #[s] w λe w'=>e=Value.int .u16 (cI (vu b))/\Ext w w':=by
 apply (afV.vc (a0:=s));have st:ah 296 #[] w λe w'=>e=Value.int .u16 (cI 0xFFFF#16)/\w'=w:=by apply UE.vc;exact ⟨rfl,rfl⟩
 refine st.mono ?_;rintro e w0 ⟨rfl,rfl⟩;refine ⟨_,rfl,(Jq _ s b w0 hs hb hn).mono ?_⟩;rintro e w2 ⟨rfl,x2⟩;exact ⟨_,rfl,rfl,x2⟩
theorem Iq (s:Sl) (b:List Int) (w:World) (hs:gS w s b) (hb:mz b) (hn:(b.length:Int)<=1099511627776):ah 281 #[s] w λe w'=>e=Value.bool (decide (2<=b.length/\vu b=0#16))/\Ext w w':=by
 apply (Yw.vc (a0:=s));have tU:=hs.n;rw [aM] at tU;apply Br.mk<;>intro h
 ·simp only [ge_iff_le,cS] at h;refine (C6 s b w hs hb hn).mono ?_;rintro e w0 ⟨rfl,x0⟩;refine ⟨_,rfl,?_,x0⟩;have:(cI (vu b)==0)=decide (2<=b.length/\vu b=0#16):=by
   rw [Bool.eq_iff_iff];simp only [beq_iff_eq,cS];constructor
   ·intro q;exact ⟨by omega,Qb.1 (q.trans rfl)⟩
   ·rintro ⟨-,q⟩;rw [q];rfl
  rw [this]
 ·simp only [ge_iff_le,eW] at h;rw [decide_eq_false aa];exact ⟨rfl,Ext.cQ _⟩
theorem FQ (v:om) (w:World):ah 270 #[.int .u16 (cI v)] w λe w'=>e=Value.agg #[.int .u8 (cI v / 256),.int .u8 (cI v % 256)]/\Ext w w':=by
 apply BW.vc;intro w0 e0;have hb:=Bg v;have h0:Row w0 w [.int .u8 0,.int .u8 0] tA2:=Row.nw e0;have e1:eV ((cI v).fdiv (2 ^(min (8:Int).toNat 16)))=cI v / 256:=by show eV ((cI v).fdiv (2 ^ 8))=_;rw [Y5,Qc,wrap_u8];simp only [show (2:Int) ^ 8=256 from rfl];omega
 have e2:eV (cI v)=cI v % 256:=wrap_u8 _;rw [e1,e2];have hS:=h0.aG (o:=0) (vs:=[.int .u8 (cI v / 256),.int .u8 (cI v % 256)]) (aB 2) (zh _ _ _ _);refine ⟨⟨rfl,h0.wr (o:=0) (n:=2) aE⟩,λw1 e1=> ?_⟩;have e1':w1=w0.setRow w #[.int .u8 (cI v / 256),.int .u8 (cI v % 256)]:=e1.trans hS;have h1:Row w1 w [.int .u8 (cI v / 256),.int .u8 (cI v % 256)] tA2:=by rw [e1'];exact h0.set _
 exact ⟨_,_,h1.bY (λj hj=>by rw [eB]),rfl,(aL e0).af e1' (aB _)⟩
abbrev tSB:TypeId:=62
theorem gS.n {w:World} {s:Sl} {b:List Int} (h:gS w s b):s.n=b.length:=by have:=RdK.n h;rwa [aM] at this
theorem RB {b:List Int}:∀r ∈ b.map yv,r.length=1:=λr hr=>by obtain ⟨x,_,rfl⟩:=bg.1 hr;rfl
theorem oO (s:Sl) (b:List Int) (w:World) (hs:gS w s b) (hn:b.length<=1099511627776):
  ah 230 #[s] w λe w'=>∃s':Sl,e=s'/\mi w w' s' b/\Ext w w':=by
 have tU:=gS.n hs;apply (xi.vc (a0:=s));apply Br.mk<;>intro h
 ·have:b=[]:=by
   rcases Nat.eq_zero_or_pos b.length with h0|h0
   ·exact List.eq_nil_of_length_eq_zero h0
   ·have:=RdK.isSome hs aa (i:=0) (by simpa using h0)
    cases hsa:s.a<;>simp [hsa] at h this
  subst this;exact ⟨⟨none,0,0⟩,rfl,aC.nil,Ext.cQ w⟩
 ·rintro w0 rfl;have xa:=Ext.al w (.cells #[] hX);have hz:aC w hX 1 (w.alloc (.cells #[] hX)) ⟨some ⟨w.heap.size,0,none⟩,0,0⟩ []:=aC.jf (aB _) (Row.new w [] hX) bt (aB _) rfl (λr hr=>by cases hr);have hb:=hz.FO (bytes:=1) (more:=b.map yv) xa.size RB (Xl _) (by simp only [aM];omega) (by simp only [aM];omega);rw [aM,<-tU] at hb;obtain ⟨hp,hr⟩:=hb;refine ⟨(b.map yv).flatten,RdK.flat (hs.ext xa) aa,hp,λs2 w3 bo=> ?_⟩;obtain ⟨ho,QH,xb,_,_⟩:=hr s2 w3 bo;exact ⟨oP bo (by rw [bM RB,aM,tU]) bt,s2,rfl,ho,xa.trans xb⟩
theorem Im (n:Nat) (w:World) (hn:n<=1099511627776):Calls Tryz.prog 271 #[.slice none 0 0,.int .i64 n] w λe w'=>∃s':Sl,e=.returned (.slice s'.a s'.n s'.c)/\mi w.heap.size w' s' []/\Ext w w':=by
 apply (zg.vc (a0:=⟨none,0,0⟩));have e1:IntKind.wrap .i64 ((n:Int)-IntKind.wrap .i64 (((0:Nat):Int)-((0:Nat):Int)))=n:=by rw [aK (n:=((0:Nat):Int)-((0:Nat):Int)) (by unfold bS;omega),wI];omega
 refine Br.mk (λh=>by simp at h;omega) (λ_=> ?_);rw [e1];refine Br.mk (λh=> ?_) (λh=> ?_)
 ·have h0:aC w.heap.size hX 1 w ⟨none,0,0⟩ []:=aC.nil;have hb:=h0.FO (bytes:=1) (more:=(List.replicate n (yv 0))) (Nat.le_refl _) (λr hr=>by rw [(List.mem_replicate.1 hr).2];rfl) (λr hr=>by rw [(List.mem_replicate.1 hr).2];exact te _ _) (by simp only [List.length_replicate];omega) (by simp only [List.length_replicate];omega);rw [List.length_replicate] at hb;obtain ⟨hp,hr⟩:=hb;refine ⟨by omega,by omega,⟨by omega,wI,by omega⟩,hp,λs0 w1 bo=> ?_⟩;obtain ⟨ho,QH,xb,_,_⟩:=hr s0 w1 bo;have hle:=aC.le ho;refine ⟨by omega,by omega,⟨s0.a,0,s0.c⟩,by rw [eg];rfl,?_,xb⟩;rcases ho.form (by decide) with ⟨rfl,-⟩|⟨g,cs,ha,hg,cN,hc,hnn,ht,hl⟩
  ·exact aC.nil
  ·rw [ha];exact aC.jf hg cN hc (Nat.zero_le _) (by simp) (λr hr=>by cases hr)
 ·exact ⟨⟨none,0,0⟩,rfl,aC.nil,Ext.cQ _⟩
abbrev sq (xs:List (Sl × List Int)):List Int:=xs.flatMap (·.2)
theorem G8 (xs:List (Sl × List Int)) {k:Nat} {x:Sl × List Int} (h:xs[k]? =some x):sq (xs.take (k+1))=sq (xs.take k)++x.2:=by rw [dE,h];simp [sq]
theorem RC (xs:List (Sl × List Int)) (k:Nat):(sq (xs.take k)).length<=(sq xs).length:=by have e:=congrArg (λl=>(sq l).length) (List.take_append_drop k xs);simp only [List.flatMap_append,dc] at e;have h1:(sq (xs.take k)).length=(List.flatMap (λx=>x.2) (xs.take k)).length:=rfl;have h2:(sq xs).length=(List.flatMap (λx=>x.2) xs).length:=rfl;omega
theorem AN (s:Sl) (xs:List (Sl × List Int)) (w:World) (hs:RdK w s 1 (xs.map λx=> [.slice x.1.a x.1.n x.1.c])) (hr:∀x ∈ xs,gS w x.1 x.2) (hl:xs.length<=1000) (hn:(sq xs).length<=1099511627776):
  Calls Tryz.prog 226 #[.slice s.a s.n s.c] w λe w'=>∃s':Sl,e=.returned (.slice s'.a s'.n s'.c)/\mi w.heap.size w' s' (sq xs)/\Ext w w':=by
 apply (vt.vc (a0:=s));have tU:=hs.n;rw [List.length_map] at tU;have row:∀{k:Nat} {w':World},Ext w w'->k<xs.length->∃x,xs[k]? =some x/\ee s.a (k:Int) s.n/\ld w' (ae s.a (((k:Nat):Int).toNat*1))=some (.slice x.1.a x.1.n x.1.c)/\gS w' x.1 x.2:=λ{k w'} x' hk=>by
  obtain ⟨x,hx⟩:=bH (l:=xs) (i:=k) hk;have hs':=hs.ext x';have hm:(xs.map λx=> [Value.slice x.1.a x.1.n x.1.c])[k]? =some [.slice x.1.a x.1.n x.1.c]:=by rw [List.getElem?_map,hx];rfl
  have jq:=hs'.at hm (j:=0) rfl;rw [gT] at jq;exact ⟨x,hx,hs'.gR (by decide) (by omega) (by omega),jq,(hr x (List.mem_of_getElem? hx)).ext x'⟩
 refine ⟨λn i z wr=>∃k:Nat,i=k/\k+n=xs.length/\z=((sq (xs.take k)).length:Nat)/\wr=w,⟨xs.length,0,rfl,by omega,rfl,rfl⟩,?_⟩;rintro n us i z wr ⟨k,rfl,hk,rfl,rfl⟩;refine Br.mk (λhc=> ?_) (λhc=> ?_)
 ·replace hc:=lY hc;obtain ⟨x,hx,mW,jq,hrx⟩:=row (k:=k) (Ext.cQ _) (by omega);have h1:=RC xs (k+1);have ht:=G8 xs hx;have hxn:=gS.n hrx;have wz:IntKind.wrap .i64 (((sq (xs.take k)).length:Int)+((x.1.n:Nat):Int))=((sq (xs.take (k+1))).length:Nat):=by rw [ht,List.length_append];rw [ht,List.length_append] at h1;rw [wI];omega
  have wk:IntKind.wrap .i64 ((k:Int)+1)=((k+1:Nat):Int):=by rw [wI];omega
  refine ⟨mW,x.1,jq,?_⟩;rw [wz];refine Br.mk (λh=>by simp at h;omega) (λ_=>⟨n-1,by omega,k+1,wk,by omega,rfl,rfl⟩)
 ·replace hc:=mg hc;rw [List.take_of_length_le (by omega)];refine (Im _ _ hn).mono ?_;rintro e w8 ⟨s9,rfl,ho,x8⟩;refine ⟨s9,rfl,λn i s QI=>∃k:Nat,i=k/\k+n=xs.length/\mi wr.heap.size QI s (sq (xs.take k))/\Ext wr QI,⟨xs.length,0,rfl,by omega,ho,x8⟩,?_⟩;rintro rU agu i ZF dY ⟨k2,rfl,EO,VS,cm⟩;refine Br.mk (λnr=> ?_) (λnr=> ?_)
  ·replace nr:=lY nr;obtain ⟨x,hx,mW,jq,hrx⟩:=row (k:=k2) cm (by omega);have h1:=RC xs (k2+1);have ht:=G8 xs hx;have hxn:=gS.n hrx;have ZG:=gS.n (mi.FP VS);rw [ht,List.length_append] at h1;have wk:IntKind.wrap .i64 ((k2:Int)+1)=((k2+1:Nat):Int):=by rw [wI];omega
   have hb:=aC.FO VS (bytes:=1) (more:=x.2.map yv) cm.size RB (Xl _) (by simp only [List.length_map];omega) (by simp only [List.length_map];omega);rw [List.length_map,<-hxn] at hb;obtain ⟨hp,bo⟩:=hb;refine ⟨mW,x.1,jq,(x.2.map yv).flatten,RdK.flat hrx (by omega),hp,λVT fh aoV=> ?_⟩;obtain ⟨aoW,_,xb,_,_⟩:=bo VT fh aoV;refine ⟨rU-1,by omega,k2+1,wk,by omega,?_,cm.trans xb⟩;rw [ht];show aC _ _ _ _ _ _;rw [List.map_append];exact aoW
  ·replace nr:=mg nr;rw [List.take_of_length_le (by omega)] at VS;exact ⟨ZF,rfl,VS,cm⟩
theorem Ky (s:Sl) (b:List Int) (w:World) (hs:gS w s b) (hb:mz b) (hn:b.length+2<=1099511627776):ah 225 #[s] w λe w'=>∃s':Sl,e=s'/\mi w w' s' (AO b)/\Ext w w':=by
 apply (abQ.vc (a0:=s));refine (C6 s b w hs hb aa).mono ?_;rintro e w0 ⟨rfl,x0⟩;refine ⟨_,rfl,(FQ _ w0).mono ?_⟩;rintro e w2 ⟨rfl,x2⟩;refine ⟨_,_,rfl,λw5 e5=> ?_⟩;have h5:Row w5 w2 [.int .u8 0,.int .u8 0] tA2:=Row.nw e5;have hS:=h5.aG (o:=0) (vs:=[.int .u8 (cI (vu b) / 256),.int .u8 (cI (vu b) % 256)]) (aB 2) (zh _ _ _ _);refine ⟨⟨rfl,h5.wr (o:=0) (n:=2) aE⟩,λw6 e6 w7 e7=> ?_⟩;have e6':w6=w5.setRow w2 #[.int .u8 (cI (vu b) / 256),.int .u8 (cI (vu b) % 256)]:=e6.trans hS;have h6:Row w6 w2 [.int .u8 (cI (vu b) / 256),.int .u8 (cI (vu b) % 256)] tA2:=by rw [e6'];exact h5.set _
 have fw:Ext w2 w6:=(aL e5).af e6' (aB _);have od:=aL e7;have x7:=x0.tr (x2.tr (fw.tr od));have hc:gS w7 ⟨some ⟨w2.heap.size,0,none⟩,2,2⟩ (Io b):=by
  refine ⟨rfl,RB,λi r hi j v hj=> ?_⟩;have h7:=h6.ext od;rw [bh,eB,h7.ld]
  match i,hi with
  |0,hi=>cases hi;match j,hj with
   |0,hj=>cases hj;rfl
  |1,hi=>cases hi;match j,hj with
   |0,hj=>cases hj;rfl
  |i+2,hi=>simp [Io] at hi
 have hl:RdK w7 ⟨some ⟨w6.heap.size,0,none⟩,2,2⟩ 1 ([(s,b),(⟨some ⟨w2.heap.size,0,none⟩,2,2⟩,Io b)].map λx=> [.slice x.1.a x.1.n x.1.c]):=by
  have h7:Row w7 w6 [s,.slice (some ⟨w2.heap.size,0,none⟩) 2 2] tSB:=by rw [e7,eg];exact Row.new w6 [_,_] _
  refine ⟨rfl,λr hr=>by simp at hr;rcases hr with rfl|rfl<;>rfl,λi r hi j v hj=> ?_⟩;rw [bh,eB,h7.ld]
  match i,hi with
  |0,hi=>cases hi;match j,hj with
   |0,hj=>cases hj;rfl
  |1,hi=>cases hi;match j,hj with
   |0,hj=>cases hj;rfl
  |i+2,hi=>simp at hi
 have ZH:sq [(s,b),(⟨some ⟨w2.heap.size,0,none⟩,2,2⟩,Io b)]=AO b:=by simp [sq,AO]
 refine (AN ⟨some ⟨w6.heap.size,0,none⟩,2,2⟩ [(s,b),(⟨some ⟨w2.heap.size,0,none⟩,2,2⟩,Io b)] w7 hl (λx hx=>by
  simp at hx;rcases hx with rfl|rfl
  ·exact hs.ext x7
  ·exact hc) (show 2<=1000 by decide) (by rw [ZH,G9];exact hn)).mono ?_
 rintro e w8 ⟨s9,rfl,ho,x8⟩;rw [ZH] at ho;exact ⟨s9,rfl,s9,rfl,aC.low ho x7.size,x7.tr x8⟩
theorem Ip (s:Sl) (b:List Int) (w:World) (hs:gS w s b) (hb:mz b) (hc:s.n<=s.c) (hn:b.length<=1099511627776):ah 246 #[s] w λe w'=>∃s':Sl,e=Value.tuple #[s',.int .i64 (uE b).2]/\mi w w' s' (uE b).1/\Ext w w':=by
 apply (Xm.vc (a0:=s));have tU:=gS.n hs;apply Br.mk<;>intro h
 ·replace h:=lY h;have e:uE b=([],3):=by unfold uE;rw [if_pos aa]
  rw [e];exact ⟨⟨none,0,0⟩,rfl,aC.nil,Ext.cQ _⟩
 ·replace h:=mg h;refine (Iq s b w hs hb aa).mono ?_;rintro e w0 ⟨rfl,x0⟩;refine ⟨_,rfl,Br.mk (λh2=> ?_) (λh2=> ?_)⟩
  ·have e:uE b=([],4):=by unfold uE;rw [if_neg aa,if_neg];intro q;rw [decide_eq_true ⟨by omega,q⟩] at h2;cases h2
   rw [e];exact ⟨⟨none,0,0⟩,rfl,aC.nil,x0⟩
  ·have q:vu b=0#16:=by simp at h2;exact h2.2
   have e:uE b=(b.take (b.length-2),0):=by unfold uE;rw [if_neg aa,if_pos q]
   have wk:aj (((s.n:Nat):Int)-2)=((b.length-2:Nat):Int):=by rw [wI];omega
   rw [wk,e];have mU:gS w0 ⟨aJ s.a 0 s.c 1,b.length-2,s.c-0⟩ (b.take (b.length-2)):=by have:=(hs.ext x0).cut (m:=b.length-2) (c':=s.c) (c'':=s.c-0) (by rw [aM];omega);rw [<-List.map_take] at this;exact this
   refine ⟨by omega,by omega,(oO ⟨aJ s.a 0 s.c 1,b.length-2,s.c-0⟩ _ w0 mU (by rw [dC];omega)).mono ?_⟩;rintro e w2 ⟨s3,rfl,ho,x2⟩;exact ⟨s3,rfl,s3,rfl,aC.low ho x0.size,x0.tr x2⟩
theorem aoy (n:Int) {k:Nat} (hk:k<=4):n.fdiv (2 ^(min ((8*(k:Int))).toNat 64))=n / 256 ^ k:=by
 have e:(2:Int) ^(min ((8*(k:Int))).toNat 64)=256 ^ k:=by
  rcases k with _|_|_|_|_|k
  ·rfl
  ·rfl
  ·rfl
  ·rfl
  ·rfl
  ·omega
 rw [e,rM];exact Int.le_of_lt (Int.pow_pos aE)
theorem Mo (B:Nat) (s:Sl) (b:List Int) (n:Int) (m:Nat) (hm:m<=4) (w:World) (hB:B<=w.heap.size) (ho:mi B w s b) (hb:b.length<=1000):
  Calls Tryz.prog 224 #[.slice s.a s.n s.c,.int .i64 n,.int .i64 m] w λe w'=>∃s':Sl,e=.returned (.slice s'.a s'.n s'.c)/\mi B w' s' (b++be m n)/\Below B w w':=by
 apply (UD.vc (a0:=s));have w1:IntKind.wrap .i64 ((m:Int)-1)=(m:Int)-1:=wI;refine ⟨λl x o wr=>∃k:Nat,l=k/\x=(k:Int)-1/\k<=m/\∃pre,pre++be k n=be m n/\mi B wr o (b++pre)/\Below B w wr,⟨m,m,rfl,w1,Nat.le_refl _,[],rfl,by rw [List.append_nil];exact ho,Below.refl _ _⟩,?_⟩;rintro k us x s4 w5 ⟨k',rfl,rfl,hk,pre,hp,ho5,x5⟩;have dG:=congrArg List.length hp;rw [List.length_append,Es,Es] at dG;have ZG:=gS.n (mi.FP ho5);rw [List.length_append] at ZG;refine Br.mk (λhc=> ?_) (λhc=> ?_)
 ·simp only [ge_iff_le,decide_eq_true_eq] at hc;obtain ⟨j,rfl⟩:∃j,k=j+1:=⟨k-1,by omega⟩;have e8:IntKind.wrap .i64 (8*(((j+1:Nat):Int)-1))=8*(j:Int):=by rw [wI];omega
  rw [e8,aoy n (by omega),wrap_u8];refine bA.2 ⟨Cm.2 (by omega),λw7 e7=> ?_⟩;subst e7;obtain ⟨ahL,bo⟩:=aC.iN ho5 (bytes:=1) (news:=yv (n / 256 ^ j % 256)) (.cells #[.int .u8 (n / 256 ^ j % 256)] hX) (by have:=x5.size;omega) rfl (te _ _) (by omega) (by omega);refine ⟨ahL,λs8 w9 hr=> ?_⟩;obtain ⟨f1,ho9,hn9,xb,-,-⟩:=bo s8 w9 hr;refine ⟨f1,j,by omega,j,rfl,by rw [wI];omega,by omega,pre++ [n / 256 ^ j % 256],?_,?_,x5.trans xb⟩
  ·rw [<-hp,List.append_assoc];rfl
  ·rw [<-List.append_assoc];show aC _ _ _ _ _ _;rw [List.map_append];exact ho9
 ·simp only [ge_iff_le,decide_eq_false_iff_not] at hc;have:k=0:=by omega
  subst this;have hp':pre=be m n:=by simpa [be] using hp
  rw [hp'] at ho5;exact ⟨s4,rfl,ho5,x5⟩
theorem HP (s:Sl) (b:List Int) (w:World) (hs:gS w s b) (hb:mz b) (hn:b.length<=4):ah 247 #[s] w λe w'=>e=Value.int .i64 (gm b)/\w'=w:=by
 apply (PU.vc (a0:=s));have tU:=gS.n hs;refine ⟨λl i n wr=>∃k:Nat,i=k/\k+l=b.length/\n=gm (b.take k)/\wr=w,⟨b.length,0,rfl,by omega,rfl,rfl⟩,?_⟩;rintro l us i n wr ⟨k,rfl,hk,rfl,rfl⟩;apply Br.mk<;>intro hc
 ·replace hc:=lY hc;obtain ⟨x,hx⟩:=bH (l:=b) (i:=k) aa;have hxb:=hb x (aZ hx);have hm:(b.map yv)[k]? =some [.int .u8 x]:=by rw [aS,hx];rfl
  have jq:=hs.at hm (j:=0) rfl;rw [gT] at jq;have wk:=mh (j:=k);have H6:=Qm hb (k:=k) aa;have ht:b.take (k+1)=b.take k++ [x]:=by rw [dE,hx];rfl
  refine ⟨RdK.gR hs aE aa hc,x,jq,l-1,by omega,k+1,wk,by omega,?_,rfl⟩;have e1:aj (gm (b.take k)*2 ^(min (8:Int).toNat 64))=gm (b.take k)*256:=by show aj (gm (b.take k)*256)=_;exact wI
  have e2:aj x=x:=wI;rw [e1,e2,Zd aa hxb,ht,Mp]
 ·replace hc:=mg hc;rw [fB aa];exact ⟨rfl,rfl⟩
theorem Mq (v:Int) (s:Sl) (b:List Int) (w:World) (hs:gS w s b) (hb:mz b) (hn:b.length<=1099511627776):
  Calls Tryz.prog 163 #[.int .i64 v,.slice s.a s.n s.c] w λe w'=>∃s':Sl,e=.returned (.tuple #[.slice s'.a s'.n s'.c,.int .i64 (Cp v b).2])/\mi w.heap.size w' s' (Cp v b).1/\Ext w w':=by
 apply (LP.vc (a1:=s));have tU:=gS.n hs;have no:(v<1\/v>1073741824\/(b.length:Int)>65536)->∃s':Sl,Ending.returned (.tuple #[.slice none 0 0,.int .i64 1])=.returned (.tuple #[.slice s'.a s'.n s'.c,.int .i64 (Cp v b).2])/\mi w.heap.size w s' (Cp v b).1/\Ext w w:=λh=>by
  have e:Cp v b=([],1):=by unfold Cp;rw [if_pos h]
  rw [e];exact ⟨⟨none,0,0⟩,rfl,aC.nil,Ext.cQ _⟩
 refine Br.mk (λh=> ?_) (λh1=>Br.mk (λh=> ?_) (λh2=>Br.mk (λh=> ?_) (λh3=> ?_)))
 ·simp only [decide_eq_true_eq] at h;exact no (.inl h)
 ·simp only [gt_iff_lt,decide_eq_true_eq] at h;exact no (.inr (.inl h))
 ·simp only [gt_iff_lt,decide_eq_true_eq] at h;exact no (.inr (.inr (by omega)))
 ·simp only [gt_iff_lt,decide_eq_false_iff_not] at h1 h2 h3;have e:Cp v b=(AO (me v b),0):=by unfold Cp;rw [if_neg (by omega)]
  rw [e];have p4:=Mo w.heap.size ⟨none,0,0⟩ [] v 4 (by decide) w (Nat.le_refl _) aC.nil (by simp);refine p4.mono ?_;rintro e w0 ⟨s1,rfl,o1,x0⟩;have p3:=Mo w.heap.size s1 ([]++be 4 v) ((s.n:Nat):Int) 3 (by decide) w0 x0.size o1 (by simp [Es]);refine ⟨s1,rfl,p3.mono ?_⟩;rintro e w2 ⟨s3,rfl,o3,x2⟩;refine ⟨s3,rfl,λw4 e4=> ?_⟩;have yA:Ext w w2:=x0.trans x2;have eH:Ext w2 w4:=(Ext.cQ _).bB e4;have x4:=yA.tr eH;have r4:Row w4 w2.heap.size [.slice s3.a s3.n s3.c,.slice s.a s.n s.c] tSB:=by rw [e4];exact Row.new w2 [_,_] _
  have hl:RdK w4 ⟨some ⟨w2.heap.size,0,none⟩,2,2⟩ 1 ([(s3,[]++be 4 v++be 3 ((s.n:Nat):Int)),(s,b)].map λx=> [.slice x.1.a x.1.n x.1.c]):=by
   refine ⟨rfl,λr hr=>by simp at hr;rcases hr with rfl|rfl<;>rfl,λi r hi j v hj=> ?_⟩;rw [bh,Nat.zero_add,r4.ld]
   match i,hi with
   |0,hi=>cases hi;match j,hj with
    |0,hj=>cases hj;rfl
   |1,hi=>cases hi;match j,hj with
    |0,hj=>cases hj;rfl
   |i+2,hi=>simp at hi
  have ZH:sq [(s3,[]++be 4 v++be 3 ((s.n:Nat):Int)),(s,b)]=me v b:=by simp [sq,me,tU]
  have hrl:=Mr v b;refine (AN ⟨some ⟨w2.heap.size,0,none⟩,2,2⟩ [(s3,[]++be 4 v++be 3 ((s.n:Nat):Int)),(s,b)] w4 hl (λx hx=>by
   simp only [List.mem_cons,List.not_mem_nil,or_false] at hx;rcases hx with rfl|rfl
   ·exact RdK.ext (mi.FP o3) eH
   ·exact hs.ext x4) (show 2<=1000 by decide) (by rw [ZH];omega)).mono ?_
  rintro e w5 ⟨s6,rfl,o6,x5⟩;rw [ZH] at o6;refine ⟨s6,rfl,(Ky s6 (me v b) w5 (mi.FP o6) (Sh hb) (by omega)).mono ?_⟩;rintro e w7 ⟨s8,rfl,o8,x7⟩;have pk:=x4.tr x5;exact ⟨s8,rfl,s8,rfl,aC.low o8 pk.size,pk.tr x7⟩
theorem Ze {b:List Int} (h:mz b):mz (uE b).1:=by
 unfold uE;split
 ·intro c hc;cases hc
 ·split
  ·exact λc hc=>h c (List.mem_of_mem_take hc)
  ·intro c hc;cases hc
theorem Zf (b:List Int):(uE b).1.length<=b.length:=by
 unfold uE;split
 ·simp
 ·split
  ·simp only [dC];omega
  ·simp
theorem agb {b:List Int} (h:mz b):mz (qD b).2.1:=by
 unfold qD;split
 ·intro c hc;cases hc
 ·split
  ·intro c hc;cases hc
  ·split
   ·intro c hc;cases hc
   ·exact λc hc=>Ze h c (List.mem_of_mem_drop hc)
theorem agc (b:List Int):(qD b).2.1.length<=b.length:=by
 have:=Zf b;unfold qD;split
 ·simp
 ·split
  ·simp
  ·split
   ·simp
   ·simp only [List.length_drop];omega
theorem Qn (s:Sl) (b:List Int) (w:World) (hs:gS w s b) (hb:mz b) (hc:s.n<=s.c) (hn:b.length<=1099511627776):
  ah 183 #[s] w λe w'=>∃s':Sl,e=Value.tuple #[.int .i64 (qD b).1,s',.int .i64 (qD b).2.2]/\gS w' s' (qD b).2.1/\s'.n<=s'.c/\(∀g,s'.aY=some g->w.heap.size<=g)/\Ext w w':=by
 apply (Pt.vc (a0:=s));refine (Ip s b w hs hb hc hn).mono ?_;rintro e w0 ⟨s1,rfl,o1,x0⟩;have hi:=Ze hb;have hle:=Zf b;have nil:gS w0 ⟨none,0,0⟩ []:=mi.FP (aC.nil (B:=0));have h1:qD b=if (uE b).2≠0 then (0,[],(uE b).2) else if (uE b).1.length<7 then (0,[],3) else if gm ((uE b).1.take 4)<1\/gm ((uE b).1.take 4)>1073741824\/gm (((uE b).1.drop 4).take 3)>65536\/gm (((uE b).1.drop 4).take 3)≠(((uE b).1.drop 7).length:Int) then (0,[],2) else (gm ((uE b).1.take 4),(uE b).1.drop 7,0):=rfl;rw [h1];generalize uE b=t at*;obtain ⟨t1,t2⟩:=t;simp only at*;have ZG:=gS.n (mi.FP o1);have hoc:=aC.le o1;refine ⟨s1,_,rfl,Br.mk (λh=> ?_) (λh=> ?_)⟩
 ·have:t2≠0:=by simpa using h
  rw [if_pos this];exact ⟨⟨none,0,0⟩,rfl,nil,aB _,(λg hg=>by cases hg),x0⟩
 ·have:t2=0:=by simpa using h
  subst this;rw [if_neg bt];apply Br.mk<;>intro h
  ·replace h:=lY h;rw [if_pos aa];exact ⟨⟨none,0,0⟩,rfl,nil,aB _,(λg hg=>by cases hg),x0⟩
  ·replace h:=mg h;rw [if_neg aa];have rd:=RdK.ext (mi.FP o1) (Ext.dr w0);have c4:gS w0.drew ⟨aJ s1.a 0 s1.c 1,4-0,s1.c-0⟩ (t1.take 4):=by have:=RdK.cut rd (m:=4) (c':=s1.c) (c'':=s1.c-0) (by rw [aM];omega);rw [<-List.map_take] at this;exact this
   have c3:gS w0.drew ⟨aJ s1.a 4 s1.c 1,7-4,s1.c-4⟩ ((t1.drop 4).take 3):=by have r4:=RdK.rest rd (l:=4) (m:=s1.c) (n':=t1.length-4) (c':=s1.c-4) (by rw [aM]) (by rw [aM];omega);have:=RdK.cut r4 (m:=3) (c':=7) (c'':=s1.c-4) (by rw [List.length_drop,aM];omega);rw [eg,<-List.map_drop,<-List.map_take] at this;exact this
   have c7:∀w',Ext w0 w'->gS w' ⟨aJ s1.a 7 s1.c 1,s1.n-7,s1.c-7⟩ (t1.drop 7):=λw' x'=>by have:=RdK.rest (RdK.ext (mi.FP o1) x') (l:=7) (m:=s1.c) (n':=s1.n-7) (c':=s1.c-7) (by rw [aM];omega) (by rw [aM];omega);rw [<-List.map_drop] at this;exact this
   refine ⟨by omega,by omega,by omega,by omega,by omega,by omega,by omega,by omega,(HP ⟨aJ s1.a 0 s1.c 1,4-0,s1.c-0⟩ _ w0.drew c4 (λc hc=>hi c (List.mem_of_mem_take hc)) (by rw [dC];omega)).mono ?_⟩;rintro e w3 ⟨rfl,hw⟩;subst hw;refine ⟨_,rfl,(HP ⟨aJ s1.a 4 s1.c 1,7-4,s1.c-4⟩ _ w0.drew c3 (λc hc=>hi c (List.mem_of_mem_drop (List.mem_of_mem_take hc))) (by rw [dC];omega)).mono ?_⟩;rintro e w5 ⟨rfl,hw⟩;subst hw;have JB:∀g,(Sl.mk (aJ s1.a 7 s1.c 1) (s1.n-7) (s1.c-7)).aY=some g->w.heap.size<=g:=λg hg=>by
    have:s1.aY=some g:=by
     unfold Sl.aY at hg ⊢;simp only [aJ] at hg;split at hg
     ·exact hg
     ·cases ha:s1.a with
      |none=>rw [ha] at hg;cases hg
      |some a=>
       rw [ha] at hg;simp only [Option.map_some,Option.some.injEq,Addr.add] at hg ⊢;rw [<-hg];split<;>rfl
    exact (o1.own.lt this).1
   have xd:=x0.tr (Ext.dr w0);have nil':gS w0.drew ⟨none,0,0⟩ []:=mi.FP (aC.nil (B:=0));have Rj:(t1.drop 7).length=s1.n-7:=by rw [List.length_drop];omega
   have no:(gm (t1.take 4)<1\/gm (t1.take 4)>1073741824\/gm ((t1.drop 4).take 3)>65536\/gm ((t1.drop 4).take 3)≠((t1.drop 7).length:Int))->∃s':Sl,Ending.returned (.tuple #[ab,.slice none 0 0,(2:Int)])=Value.tuple #[.int .i64 (if gm (t1.take 4)<1\/gm (t1.take 4)>1073741824\/gm ((t1.drop 4).take 3)>65536\/gm ((t1.drop 4).take 3)≠((t1.drop 7).length:Int) then ((0:Int),([]:List Int),(2:Int)) else (gm (t1.take 4),t1.drop 7,0)).1,s',.int .i64 (if gm (t1.take 4)<1\/gm (t1.take 4)>1073741824\/gm ((t1.drop 4).take 3)>65536\/gm ((t1.drop 4).take 3)≠((t1.drop 7).length:Int) then ((0:Int),([]:List Int),(2:Int)) else (gm (t1.take 4),t1.drop 7,0)).2.2]/\
     gS w0.drew s' (if gm (t1.take 4)<1\/gm (t1.take 4)>1073741824\/gm ((t1.drop 4).take 3)>65536\/gm ((t1.drop 4).take 3)≠((t1.drop 7).length:Int) then ((0:Int),([]:List Int),(2:Int)) else (gm (t1.take 4),t1.drop 7,0)).2.1/\s'.n<=s'.c/\(∀g,s'.aY=some g->w.heap.size<=g)/\Ext w w0.drew:=λh=>by
    rw [if_pos h];exact ⟨⟨none,0,0⟩,rfl,nil',aB _,(λg hg=>by cases hg),xd⟩
   refine ⟨_,rfl,Br.mk (λh=>no ?_) (λq1=>Br.mk (λh=>no ?_) (λq2=>Br.mk (λh=>no ?_) (λq3=>Br.mk (λh=>no ?_) (λq4=> ?_))))⟩
   ·exact .inl (by simpa using h)
   ·exact .inr (.inl (by simpa using h))
   ·exact .inr (.inr (.inl (by simpa using h)))
   ·refine .inr (.inr (.inr ?_));rw [Rj];simpa using h
   ·simp only [gt_iff_lt,eW,bne_eq_false_iff_eq] at q1 q2 q3 q4;rw [if_neg (by
     rw [Rj];simp only [not_or];exact ⟨q1,q2,q3,by rw [q4];simp⟩)]
    exact ⟨_,rfl,c7 _ (Ext.dr w0),by simp only;omega,JB,xd⟩
theorem Uh {P:Program} {m since c0 clock r:Nat} {seen:Array Nat} {es:Array MapEntry} {w:World} {ty:TypeId} {v:Value} {w':World} (hr:w.heap[r]? =some (.mapIter (some m) since seen c0)) (hm:w.heap[m]? =some (.map es clock))
  (h:(Instr.next (.pointer (some ⟨r,0,none⟩)) false ty).run P w=.ok v w'):w'.tape=w.tape:=by
 simp only [Instr.next,getObj,Sem.run_bind,Sem.run,hr,hm,Result.andThen] at h;split at h
 ·cases h
 ·generalize (Array.filter (λe=> !seen.contains e.born) es)=L at h;generalize (if (Array.filter (λx=>decide (x.born<since)) L).isEmpty=true then #[none] else #[])++Array.map some (Array.filter (λx=>decide (x.born<since)) L++Array.filter (λx=>decide (x.born>=since)) L)=C at h;have hch:∀j w1,(choose (Question.mapNext C.size)).run P w=.ok j w1->w1.tape=w.tape:=λj w1 h1=>by
   by_cases hf:C.size<=1
   ·simp only [choose,Sem.run,Question.forced,cS,hf,if_true] at h1
    cases h1;rfl
   ·simp only [choose,Sem.run,Question.forced,cS,hf,if_false,Question.cut] at h1
    cases h1;rfl
  rw [Sem.run_bind] at h
  cases hc:(choose (Question.mapNext C.size)).run P w with
  |ok j w1=>
   have ht:=hch j w1 hc;rw [hc] at h;simp only [Result.andThen] at h;split at h
   ·rw [Sem.run_bind] at h;simp only [setObj,Sem.run] at h;split at h
    all_goals first
     |(simp [Result.andThen] at h;done)
     |(simp only [Result.andThen,Sem.run_pure] at h;cases h;exact ht)
   ·rw [Sem.run_pure] at h;cases h;exact ht
   ·cases h
  |_=>rw [hc] at h;cases h
def X3:Value->Int| .slice _ n _=>(n:Int)|_=>0
def eu:List MapEntry->Array Nat->Int
 | [],_=>0
 |x::l,seen=>(if seen.contains x.born then X3 x.val else 0)+eu l seen
theorem vb (seen:Array Nat) (b:Nat):∀(es:List MapEntry),b ∉ es.map (·.born)->eu es (seen.push b)=eu es seen
 | [],_=>rfl
 |x::l,h=>by
  have hx:(x.born==b)=false:=by
   cases hc:x.born==b with
   |false=>rfl
   |true=>exact absurd (cH.2 (Or.inl (beq_iff_eq.1 hc).symm)) h
  have ih:=vb seen b l (λe=>h (cH.2 (Or.inr e)));simp only [eu,contains_push,hx,Bool.or_false,ih]
theorem xN (seen:Array Nat) (e:MapEntry) (hs:seen.contains e.born=false):∀(es:List MapEntry),(es.map (·.born)).Nodup->e ∈ es->eu es (seen.push e.born)=eu es seen+X3 e.val
 |x::l,hn,he=>by
  have hn':x.born ∉ l.map (·.born)/\(l.map (·.born)).Nodup:=List.nodup_cons.1 hn
  rcases cH.1 he with rfl|h
  ·rw [eu,eu,vb seen _ l hn'.1,contains_push,beq_self_eq_true,Bool.or_true,hs]
   simp;omega
  ·have hx:(x.born==e.born)=false:=by
    cases hc:x.born==e.born with
    |false=>rfl
    |true=>exact absurd (bg.2 ⟨e,h,(beq_iff_eq.1 hc).symm⟩) hn'.1
   rw [eu,eu,xN seen e hs l hn'.2 h,contains_push,hx,Bool.or_false];omega
theorem xO:∀es:List MapEntry,eu es #[]=0
 | []=>rfl
 |x::l=>by rw [eu,xO l];simp
theorem PH {es:List MapEntry} (hv:∀x ∈ es,0<=X3 x.val) (seen:Array Nat):0<=eu es seen/\eu es seen<=(es.map λx=>X3 x.val).sum:=by
 induction es with
 |nil=>exact ⟨Int.le_refl _,Int.le_refl _⟩
 |cons x l ih=>
  have h1:=ih λy hy=>hv y (.tail _ hy)
  have h2:=hv x (.head _);rw [eu,fT,List.sum_cons];split<;>omega
theorem Lu (es:Array MapEntry) (seen:Array Nat) (h:(leftOf es seen).size=0):eu es.toList seen=(es.toList.map λx=>X3 x.val).sum:=by
 have qg:∀x ∈ es.toList,seen.contains x.born=true:=by
  intro x hx
  cases hc:seen.contains x.born with
  |true=>rfl
  |false=>
   have:x ∈ leftOf es seen:=Array.mem_filter.2 ⟨Array.mem_toList_iff.1 hx,by rw [hc];rfl⟩;have h0:=Array.eq_empty_of_size_eq_zero h;rw [h0] at this;simp at this
 generalize es.toList=l at qg
 induction l with
 |nil=>rfl
 |cons x l ih=>
  rw [eu,qg x (.head _),fT,List.sum_cons,ih λy hy=>qg y (.tail _ hy)];simp
set_option maxRecDepth 1000000 in
theorem PI (bm : Nat) (es : Array MapEntry) (clock : Nat) (w : World) (hb : w.heap[bm]? = some (.map es clock)) (gC : MapKept.Stamped es clock) (hv : ∀ x ∈ es.toList, ∃ a n c, x.val = .slice a n c) (hs : (es.toList.map λx => X3 x.val).sum ≤ 1099511627776) :
  ah 229 #[.map (some bm)] w λe w' => e = Value.int .i64 ((es.toList.map λx => X3 x.val).sum) ∧ ∃ (w1 : World) (seen : Array Nat), w1.Alike w ∧ w1.tape = w.tape ∧ w' = w1.alloc (.mapIter (some bm) clock seen clock) := by
 have hrg := run_range_map (P := Tryz.prog) w 274 IC 62 bm es clock Tryz.underlying274 hb
 have hnn : ∀ x ∈ es.toList, 0 ≤ X3 x.val := λx hx => by
  obtain ⟨a, n, c, e⟩ := hv x hx
  rw [e]; exact Int.natCast_nonneg n
 go_enter Tryz.func229, Tryz.ntmps229
 go_wp2
 go_loopw [3] (λs w' => ∃ (w1 : World) (seen : Array Nat), w1.Alike w ∧ w1.tape = w.tape ∧ w' = w1.alloc (.mapIter (some bm) clock seen clock) ∧ s = .int .i64 (eu es.toList seen)) (λ_ w' => (leftOf es (w'.iterSeen w)).size)
 case atStart => exact ⟨w, #[], ⟨rfl, rfl, rfl⟩, rfl, rfl, by rw [xO]⟩
 case round =>
  obtain ⟨w1, seen, hal, htp, rfl, rfl⟩ := hrel
  have VQ : w1.heap.size = w.heap.size := by rw [hal.1]
  have GP : w1.heap[bm]? = some (.map es clock) := by rw [hal.1]; exact hb
  have law := run_next_map (P := Tryz.prog) w1 0 bm clock clock seen es clock GP gC.1 (aB _)
  rw [VQ] at law
  rcases law with ⟨h0, tR⟩ | ⟨e, he, w2, hal2, tR⟩
  ·have hnx : ∀ ty, (Instr.next (.pointer (some ⟨w.heap.size, 0, none⟩)) false ty).run Tryz.prog (w1.alloc (.mapIter (some bm) clock seen clock)) = _ := λ_ => tR
   go_wp2
   go_ret
   rw [Lu es seen h0]
   exact ⟨rfl, w1, seen, hal, htp, rfl⟩
  ·obtain ⟨va, vn, vc, hval⟩ := hv e (mem_left he).1
   have hr1 : (w1.alloc (.mapIter (some bm) clock seen clock)).heap[w.heap.size]? = some (.mapIter (some bm) clock seen clock) := by rw [<- VQ]; exact heap_alloc_new w1 _
   have hm1 : (w1.alloc (.mapIter (some bm) clock seen clock)).heap[bm]? = some (.map es clock) := by rw [heap_alloc_old w1 _ (by have := (rI.1 GP).1; omega)]; exact GP
   have htp2 : w2.tape = w1.tape := by have := Uh hr1 hm1 tR; exact this
   rw [hval] at tR
   have hnx : ∀ ty, (Instr.next (.pointer (some ⟨w.heap.size, 0, none⟩)) false ty).run Tryz.prog (w1.alloc (.mapIter (some bm) clock seen clock)) = _ := λ_ => tR
   have hsz2 : w2.heap.size = w.heap.size := by rw [hal2.1, hal.1]
   have jU : w2.heap[bm]? = some (.map es clock) := by rw [hal2.1]; exact GP
   have hen := run_entry_map (P := Tryz.prog) w2 bm clock seen es clock e jU (mem_left he).1 gC.2.1
   rw [hsz2, hval] at hen
   go_wp2
   go_roundw
   case rel =>
    refine ⟨w2, seen.push e.born, ⟨hal2.1.trans hal.1, hal2.2.1.trans hal.2.1, hal2.2.2.trans hal.2.2⟩, htp2.trans htp, rfl, ?_⟩
    have hp := xN seen e (mem_left he).2 es.toList gC.2.1 (mem_left he).1
    have uR := PH hnn (seen.push e.born)
    rw [hval] at hp
    have hp : eu es.toList (seen.push e.born) = eu es.toList seen + (vn : Int) := hp
    have hw : Go.RowKit.wrap64 (eu es.toList seen + (vn : Int)) = eu es.toList (seen.push e.born) := by
     unfold Go.RowKit.wrap64
     omega
    exact congrArg _ hw
   case measure =>
    rw [<- hsz2, World.iterSeen_alloc, hsz2, <- VQ, World.iterSeen_alloc]
    exact left_shrinks es seen e he
abbrev tW:TypeId:=279
abbrev Bl:=Int × Sl × List Int
def pc (x:Bl):Value × Value:=(x.1,.slice x.2.1.a x.2.1.n x.2.1.c)
abbrev wV (x:Bl):LV:=[.int .i64 x.1,.slice x.2.1.a x.2.1.n x.2.1.c]
abbrev kb (x:Bl):pJ:=(x.1,x.2.2)
structure PJ (w:World) (x:Bl):Prop where
 o:mi 0 w x.2.1 x.2.2
 b:mz x.2.2
structure Dm where
 r:Nat
 ls:Sl
 E:List Bl
 W:List Bl
structure DO (w:World) (d:Nat) (m:Dm) (D:Dk):Prop where
 rd:Row w d [D.room,D.oU,D.wait,.map (some m.r),.slice m.ls.a m.ls.n m.ls.c] tp
 rm:cj GI w (some m.r) (m.E.map pc)
 ol:aC 0 tW 2 w m.ls (m.W.map wV)
 sf:(m.E.map kb).Perm D.safe
 sl:m.W.map kb=D.l
 bl:∀x ∈ m.E++m.W,PJ w x
 ok:vS D
def dF (d:Nat) (m:Dm) (i:Nat):Prop:=i=d\/i=m.r\/m.ls.aY=some i\/∃x ∈ m.E++m.W,x.2.1.aY=some i
theorem DO.lt {w:World} {d:Nat} {m:Dm} {D:Dk} (h:DO w d m D) {i:Nat} (hi:dF d m i):i<w:=by
 rcases hi with rfl|rfl|e|⟨x,hx,e⟩
 ·exact h.rd.lt
 ·exact h.rm.lt
 ·exact (h.ol.own.lt e).2
 ·exact ((h.bl x hx).o.own.lt e).2
theorem DO.same {w w':World} {d:Nat} {m:Dm} {D:Dk} (h:DO w d m D) (hs:∀i,dF d m i->w'.heap[i]? =w.heap[i]?):DO w' d m D:=
 ⟨h.rd.same (hs _ (.inl rfl)),h.rm.same (hs _ (.inr (.inl rfl))),aC.c9 h.ol λb hb=>hs b (.inr (.inr (.inl hb))),h.sf,h.sl,λx hx=>⟨aC.c9 (h.bl x hx).o λb hb=>hs b (.inr (.inr (.inr ⟨x,hx,hb⟩))),(h.bl x hx).b⟩,h.ok⟩
theorem DO.ext {w w':World} {d:Nat} {m:Dm} {D:Dk} (h:DO w d m D) (x:Ext w w'):DO w' d m D:=h.same λi hi=>x.heap (h.lt hi)
theorem DO.nW {w:World} {d:Nat} {m:Dm} {D:Dk} (h:DO w d m D):m.ls.n=m.W.length/\m.W.length=D.l.length:=by have h1:=(h.ol.rd aE).n;rw [aM] at h1;exact ⟨h1,by rw [<-h.sl,aM]⟩
theorem DO.kind {w:World} {d:Nat} {m:Dm} {D:Dk} (h:DO w d m D) {i:Nat} (hi:dF d m i):cj GI w (some i) (m.E.map pc)\/∃cs τ,Row w i cs τ/\(τ=tp\/τ=tW\/τ=hX):=by
 rcases hi with e|e|e|⟨x,hx,e⟩
 ·exact .inr ⟨_,_,e▸h.rd,.inl rfl⟩
 ·exact .inl (e▸h.rm)
 ·obtain ⟨cs,hr⟩:=bc h.ol aE e;exact .inr ⟨_,_,hr,.inr (.inl rfl)⟩
 ·obtain ⟨cs,hr⟩:=bc (h.bl x hx).o aE e;exact .inr ⟨_,_,hr,.inr (.inr rfl)⟩
theorem Yb (E:List Bl) (x:Bl):vI (E.map pc) (x.1) (.slice x.2.1.a x.2.1.n x.2.1.c)=(Il (λy:Bl=>y.1) E x).map pc:=by
 have key:∀y:Bl,(pc y).1=.int .i64 x.1 ↔ y.1=x.1:=λy=>by unfold pc;simp
 have ex:(∃e ∈ E.map pc,e.1=Value.int .i64 x.1) ↔ ∃y ∈ E,y.1=x.1:=by
  constructor
  ·rintro ⟨e,he,q⟩;obtain ⟨y,hy,rfl⟩:=bg.1 he;exact ⟨y,hy,(key y).1 q⟩
  ·rintro ⟨y,hy,q⟩;exact ⟨_,bg.2 ⟨y,hy,rfl⟩,(key y).2 q⟩
 unfold vI Il;by_cases h:∃y ∈ E,y.1=x.1
 ·rw [if_pos (ex.2 h),if_pos h,List.map_map,List.map_map];refine List.map_congr_left λy _=> ?_
  simp only [Function.comp];by_cases q:y.1=x.1
  ·rw [if_pos ((key y).2 q),if_pos q];unfold pc;rw [q]
  ·rw [if_neg λq'=>q ((key y).1 q'),if_neg q]
 ·rw [if_neg λq=>h (ex.1 q),if_neg h,bZ];rfl
theorem PK {l s:List pJ} {k:Nat} {x:pJ} (h:l[k]? =some x):(l.take (k+1)).foldl lay s=lay ((l.take k).foldl lay s) x:=by rw [dE,h,List.foldl_append];rfl
set_option maxRecDepth 100000 in
theorem zS {w:World} {d:Nat} {m:Dm} {D:Dk} (h:DO w d m D) (hW:D.l.length<=1000000000):ah 228 #[d] w λe w'=>∃(r':Nat) (E':List Bl),e=Value.map (some r')/\cj GI w' (some r') (E'.map pc)/\(E'.map kb).Perm (uL D)/\(∀x ∈ E',x ∈ m.E++m.W)/\Ext w w'/\w.heap.size<=r':=by
 apply F8.vc;obtain ⟨n1,n2⟩:=h.nW;refine ⟨some m.r,h.rd.at 3 rfl,(DP h.rm).mono ?_⟩;rintro e w1 ⟨rfl,hm,x1⟩;refine ⟨_,rfl,m.ls,(h.ext x1).rd.at 4 rfl,λn i wr=>∃(k:Nat) (E':List Bl),i=k/\k+n=m.W.length/\cj GI wr (some w.heap.size) (E'.map pc)/\(E'.map kb).Perm ((D.l.take k).foldl lay D.safe)/\(∀x ∈ E',x ∈ m.E++m.W)/\Ext w wr,
  ⟨m.W.length,0,m.E,rfl,by omega,hm,h.sf,λx hx=>dR.2 (.inl hx),x1⟩,?_⟩
 rintro n us i wr ⟨k,E',rfl,hk,hm,hp,eM,xr⟩;apply Br.mk<;>intro hc
 ·replace hc:=lY hc;obtain ⟨x,hx⟩:=bH (l:=m.W) (i:=k) aa;have hr:=(h.ext xr).ol.rd (show 0<2 by decide);have Bp:(m.W.map wV)[k]? =some (wV x):=by rw [aS,hx];rfl
  have wk:=mh (j:=k);have hl:D.l[k]? =some (kb x):=by rw [<-h.sl,aS,hx];rfl
  refine ⟨RdK.gR hr aE aa hc,x.1,x.2.1,RdK.bY hr Bp,λcM N4 bF B7=> ?_⟩;have cc:Ext wr bF:=(aL N4).af B7 (aB _);refine ⟨GI,E'.map pc,IX,rfl,hm.same (cc.heap hm.lt),⟨_,rfl⟩,λcB fN ak5=> ?_⟩;rw [Yb] at ak5;refine ⟨n-1,by omega,k+1,_,wk,by omega,ak5,?_,λy hy=> ?_,(Mod.nO fN).ext (xr.tr cc) λi hi=>by rw [hi];exact aB _⟩
  ·rw [PK hl];exact Xf (f:=λy:Bl=>y.1) (g:=λy:Bl=>y.2.2) x hp (tB _ h.ok.nd)
  ·rcases Xe hy with rfl|hy
   ·exact dR.2 (.inr (aZ hx))
   ·exact eM y hy
 ·replace hc:=mg hc;rw [fB aa] at hp;exact ⟨w.heap.size,E',rfl,hm,hp,eM,xr,aB _⟩
theorem Yc (E:List Bl):((nR (E.map kb):Nat):Int)=(E.map λx=>(x.2.2.length:Int)).sum:=by
 induction E with
 |nil=>rfl
 |cons x t ih=>
  rw [fT,pU,fT,List.sum_cons,<-ih];have:(kb x).2.length=x.2.2.length:=rfl;omega
theorem Lx {w:World} {r:Nat} {E:List Bl} (hm:cj GI w (some r) (E.map pc)) (hb:∀x ∈ E,PJ w x) (hn:nR (E.map kb)<=1099511627776):ah 229 #[.map (some r)] w λe w'=>e=Value.int .i64 (nR (E.map kb):Nat)/\Ext w w':=by
 obtain ⟨es,clock,h1,h2,h3,h4,h5,h6⟩:=hm;have hk:es.toList.map (·.key)=(E.map pc).map (·.1):=by rw [<-h2,List.map_map];rfl
 have hv:∀x ∈ es.toList,∃y ∈ E,x.val=.slice y.2.1.a y.2.1.n y.2.1.c:=λx hx=>by
  have:(x.key,x.val) ∈ E.map pc:=by rw [<-h2];exact bg.2 ⟨x,hx,rfl⟩
  obtain ⟨y,hy,e⟩:=bg.1 this;refine ⟨y,hy,?_⟩;have:=congrArg Prod.snd e;exact this.symm
 have hs:(es.toList.map λx=>X3 x.val).sum=(nR (E.map kb):Nat):=by
  rw [Yc];have e1:(es.toList.map λx=>X3 x.val)=(E.map pc).map λe=>X3 e.2:=by rw [<-h2,List.map_map];rfl
  rw [e1,List.map_map];congr 1;refine List.map_congr_left λx hx=> ?_
  show ((x.2.1.n:Nat):Int)=_;rw [gS.n (mi.FP (hb x hx).o)]
 have gC:MapKept.Stamped es clock:=⟨h6,h5.imp λh=>Nat.ne_of_lt h,by rw [hk];exact h4⟩;refine (PI r es clock w h1 gC (λx hx=>by obtain ⟨y,_,e⟩:=hv x hx;exact ⟨_,_,_,e⟩) (by rw [hs];omega)).mono ?_;rintro e w' ⟨rfl,w1,seen,⟨a1,a2,a3⟩,a4,rfl⟩;refine ⟨by rw [hs],?_⟩;have x1:Ext w w1:=⟨a2,a4,a3,by rw [a1];exact aB _,λi _=>by rw [a1]⟩;exact x1.bB rfl
theorem Ly {E:List Bl} {s:List pJ} (hp:(E.map kb).Perm s) (hn:(iz s).Nodup) (k:Int) (w:World) (hb:∀x ∈ E,PJ w x):∃(t:Sl) (b:Bool),F7 (E.map pc) (k) (.slice none 0 0) (t) b/\mi 0 w t ((ox s k).getD [])/\mz ((ox s k).getD [])/\b=(ox s k).isSome:=by
 have jb:(iz (E.map kb)).Nodup:=(hp.map λx:pJ=>x.1).nodup_iff.2 hn;rw [<-Um hp jb]
 cases q:ox (E.map kb) k with
 |none=>
  refine ⟨⟨none,0,0⟩,false,.inr ⟨rfl,rfl,λe he=> ?_⟩,aC.nil,(λc hc=>by cases hc),rfl⟩;obtain ⟨x,hx,rfl⟩:=bg.1 he;have:=zT.1 q (kb x) (bg.2 ⟨x,hx,rfl⟩);unfold pc;simpa using this
 |some b=>
  obtain ⟨x,hx,e⟩:=bg.1 ((zU jb).1 q);have e1:x.1=k:=congrArg Prod.fst e;have e2:x.2.2=b:=congrArg Prod.snd e;refine ⟨x.2.1,true,.inl ⟨rfl,bg.2 ⟨x,hx,by unfold pc;rw [e1]⟩⟩,?_,?_,rfl⟩
  ·have:=(hb x hx).o;rw [e2] at this;exact this
  ·have:=(hb x hx).b;rw [e2] at this;exact this
theorem RV {s:List pJ} (hn:(iz s).Nodup) (k:Int):((ox s k).getD []).length<=nR s:=by have:=A9 hn k;omega
theorem Un {w:World} {d:Nat} {m:Dm} {D:Dk} (h:DO w d m D) (hW:D.l.length<=1000000000) (k:Int):ah 182 #[d,k] w λe w'=>∃(s:Sl) (b:Bool),e=Value.tuple #[s,b]/\mi w w' s (getD D k)/\mz (getD D k)/\(getD D k).length<=1048576/\Ext w w':=by
 apply FZ.vc;refine (zS h hW).mono ?_;rintro e w0 ⟨r',E',rfl,hm,hp,eM,x0,hr⟩;have hb:∀x ∈ E',PJ w0 x:=λx hx=>(h.ext x0).bl x (eM x hx)
 obtain ⟨t,b,hl,ho,hby,-⟩:=Ly hp h.ok.now k w0 hb;have hle:=RV h.ok.now k;have hnl:=h.ok.afM;have hrm:=h.ok.r;refine ⟨_,rfl,GI,_,IX,hm,⟨k,rfl⟩,t,b,hl,(oO t _ w0 (mi.FP ho) aa).mono ?_⟩;rintro e w6 ⟨s7,rfl,o7,x6⟩;refine ⟨s7,rfl,s7,b,rfl,aC.low o7 x0.size,hby,?_,x0.tr x6⟩;show ((ox (uL D) k).getD []).length<=_;omega
theorem DO.row {w w':World} {d:Nat} {m:Dm} {D:Dk} (h:DO w d m D) {F W:Int} (hm:Mod (λi=>i=d) w w') (hr:Row w' d [D.room,F,W,.map (some m.r),.slice m.ls.a m.ls.n m.ls.c] tp) (bk:vS {D with oU:=F,wait:=W}):DO w' d m {D with oU:=F,wait:=W}:=by
 refine ⟨hr,hm.map h.rm λe=>h.rd.ji h.rm e.symm,hm.fm h.ol λb hb e=> ?_,h.sf,h.sl,λx hx=>⟨hm.fm (h.bl x hx).o λb hb e=> ?_,(h.bl x hx).b⟩,bk⟩
 ·obtain ⟨cs,hr'⟩:=bc h.ol aE hb;exact hr'.ne h.rd aE e
 ·obtain ⟨cs,hr'⟩:=bc (h.bl x hx).o aE hb;exact hr'.ne h.rd aE e
theorem Ba {w:World} {d:Nat} {m:Dm} {D:Dk} (h:DO w d m D):ah 227 #[d] w λe w'=>e=Value.bool (jM D).2/\DO w' d m (jM D).1/\Mod (λi=>i=d) w w':=by
 apply zV.vc;have bk:=h.ok.ask;have hw:=h.ok.w;have hf:=h.ok.f;refine ⟨D.wait,h.rd.at 2 rfl,Br.mk (λhc=> ?_) (λhc=> ?_)⟩
 ·simp only [gt_iff_lt,cS] at hc;have e:jM D=({D with wait:=0},false):=by unfold jM;rw [if_pos hc]
  have e1:aj (D.wait-1)=0:=by rw [wI];omega
  rw [e] at bk ⊢;obtain ⟨p1,p2⟩:=h.rd.je (j:=2) (v:=.int .i64 0) bt rfl;refine ⟨_,h.rd.at 2 rfl,?_⟩;rw [e1];refine ⟨⟨rfl,p1⟩,λw2 e2=>⟨rfl,?_⟩⟩;obtain ⟨q1,q2⟩:=p2 w2 e2;exact ⟨h.row q2 q1 bk,q2⟩
 ·simp only [gt_iff_lt,eW] at hc;refine ⟨D.oU,h.rd.at 1 rfl,Br.mk (λnr=> ?_) (λnr=> ?_)⟩
  ·simp only [gt_iff_lt,cS] at nr;have e:jM D=({D with oU:=D.oU-1},true):=by unfold jM;rw [if_neg hc,if_pos nr]
   rw [e] at bk ⊢;obtain ⟨p1,p2⟩:=h.rd.je (j:=1) (v:=.int .i64 (aj (D.oU-1))) bt rfl;refine ⟨_,h.rd.at 1 rfl,⟨rfl,p1⟩,λw2 e2=>⟨by rw [decide_eq_true nr],?_⟩⟩;obtain ⟨q1,q2⟩:=p2 w2 e2;have e1:aj (D.oU-1)=D.oU-1:=wI;rw [e1] at q1;exact ⟨h.row q2 q1 bk,q2⟩
  ·simp only [gt_iff_lt,eW] at nr;have e:jM D=(D,false):=by unfold jM;rw [if_neg hc,if_neg nr]
   rw [e];exact ⟨by rw [decide_eq_false nr],h,Mod.refl _ _⟩
theorem Di {w:World} {p:Option Addr} {v:Value} (h:ld w p=some v):ag w p 0 [v]:=by show ld w (ae p 0)=_;rw [gT];exact h
theorem Yn (k:Int) (a:Option Addr) (n c:Nat):One [Value.int .i64 k,Value.slice a n c]:=by intro v hv;simp at hv;rcases hv with rfl|rfl<;>rfl
theorem RW (D:Dk):uL (jM D).1=uL D:=by obtain ⟨e1,e2,-⟩:=kQ D;unfold uL;rw [e1,e2]
theorem DO.aeh {w:World} {d:Nat} {m:Dm} {D:Dk} (h:DO w d m D):∀b,m.ls.aY=some b->b≠d:=λb hb=>by
 obtain ⟨cs,hr⟩:=bc h.ol aE hb
 exact hr.ne h.rd aE
def afP (w:World) (d:Nat) (m:Dm) (D:Dk) (w':World):Prop:=∃m',DO w' d m' D/\Mod (λi=>i=d\/m.ls.aY=some i) w w'/\(∀i,dF d m' i->dF d m i\/w.heap.size<=i)/\∀i,m'.ls.aY=some i->m.ls.aY=some i\/w.heap.size<=i
set_option maxRecDepth 100000 in
theorem Uu {w:World} {d:Nat} {m:Dm} {D:Dk} (h:DO w d m D) (hW:D.l.length<=1000000000) (key:Int) (s:Sl) (b:List Int) (hs:gS w s b) (hb:mz b) (hn:b.length<=1099511627776) (hsd:s.aY≠some d):
  ah 164 #[d,key,s] w λe w'=>e=Value.int .i64 (mN D key b).2/\afP w d m (mN D key b).1 w':=by
 apply (Ge.vc (a2:=s));have tU:=gS.n hs;refine (Ba h).mono ?_;rintro e w0 ⟨rfl,h0,m0⟩;have z0:=m0.size;have m0':Mod (λi=>i=d\/m.ls.aY=some i) w w0:=m0.mono λi _ hi=> .inl hi
 refine ⟨_,rfl,Br.mk (λhf=> ?_) (λhf=> ?_)⟩
 ·have e:mN D key b=((jM D).1,9):=by unfold mN;rw [if_pos hf]
  rw [e];exact ⟨rfl,m,h0,m0',λi hi=> .inl hi,λi hi=> .inl hi⟩
 obtain ⟨e1,e2,e3⟩:=kQ D;have Rr:gS w0 s b:=m0.rdK aE hs λ_ g hg e=>hsd (e▸hg)
 refine (zS h0 (by rw [e2];exact hW)).mono ?_;rintro e w2 ⟨r',E',rfl,Bp,hp,eM,x2,hr'⟩;rw [RW] at hp;have hnd:=h.ok.now;have hnl:=h.ok.afM;have hrm:=h.ok.r;have hbE:∀x ∈ E',PJ w2.drew x:=λx hx=>(h0.ext (x2.tr (Ext.dr w2))).bl x (eM x hx)
 have adU:cj GI w2.drew (some r') (E'.map pc):=Bp.same ((Ext.dr w2).heap Bp.lt);obtain ⟨t,tb,hl,hto,htb,-⟩:=Ly hp hnd key w2.drew hbE;have htn:=gS.n (mi.FP hto);have hll:=Yo hnd (key,b);have hlE:nR (E'.map kb)=nR (uL D):=Hv hp;simp only at hll;have hg:((ox (uL D) key).getD []).length<=nR (uL D):=RV hnd key;rw [<-htn] at hll hg;have wl:aj (((nR (E'.map kb):Nat):Int)-((t.n:Nat):Int))=((nR (uL D):Nat):Int)-t.n:=by rw [hlE,wI]
 have wr:aj (D.room-((s.n:Nat):Int))=D.room-s.n:=wI;have hd0:∀{v:World},Ext w0 v->ld v (ae (some ⟨d,0,none⟩) 0)=some (.int .i64 D.room):=λx=>by have:=(h0.ext x).rd.at 0 rfl;rw [e3] at this;exact this
 have x2d:=x2.tr (Ext.dr w2);have hby:=Lx (w:=w2.drew) adU hbE (by rw [hlE];omega);refine ⟨_,rfl,D.room,hd0 x2d,?_,?_⟩
 ·refine hby.mono ?_;rintro e v ⟨rfl,xv⟩;have WT:=x2d.tr xv;refine ⟨_,rfl,Di (hd0 WT),GI,_,IX,adU.same (xv.heap adU.lt),⟨key,rfl⟩,t,tb,hl,Di (hd0 WT),?_⟩;rw [wl,wr];apply Br.mk<;>intro hc
  ·simp only [gt_iff_lt,cS] at hc;have e:mN D key b=((jM D).1,8):=by unfold mN;rw [if_neg (by rw [hf];decide),if_pos aa]
   rw [e];have zv:=WT.size;exact ⟨rfl,m,h0.ext WT,m0'.trans (Mod.aD WT),λi hi=> .inl hi,λi hi=> .inl hi⟩
  ·simp only [gt_iff_lt,eW] at hc;have e:mN D key b=({(jM D).1 with l:=D.l++ [(key,b)]},0):=by unfold mN;rw [if_neg (by rw [hf];decide),if_neg aa]
   have bk:=h.ok.put key b;rw [e] at bk ⊢;have xvd:=WT.tr (Ext.dr v);refine ⟨m.ls,(h0.ext xvd).rd.at 4 rfl,(oO s b v.drew (Rr.ext xvd) hn).mono ?_⟩;rintro e cM ⟨wH,rfl,o13,bU⟩;have Fb:=xvd.tr bU;have uU:=h0.ext Fb;obtain ⟨n1,n2⟩:=uU.nW;rw [e2] at n2;refine ⟨wH,rfl,Di (uU.rd.at 4 rfl),λbK uy=> ?_⟩;subst uy;obtain ⟨Wj,bo⟩:=aC.iN uU.ol (bytes:=32) (news:=wV (key,wH,b)) (.cells #[key,wH] tW) (Nat.zero_le _) rfl (Yn _ _ _ _) aa aa;refine ⟨Wj,λlg cB hr=> ?_⟩;obtain ⟨f1,aaP,aqG,xb,uQ,ij⟩:=bo lg cB hr;have m16:Mod (λj=>m.ls.aY=some j) cM cB:=Mod.vr xb uQ;have JT:=m16.row uU.rd λq=>uU.aeh _ q rfl
   obtain ⟨p1,p2⟩:=JT.je (j:=4) (v:=.slice lg.a lg.n lg.c) bt rfl;have z12:=Fb.size;have Rj:=h.rd.lt;refine ⟨f1,⟨rfl,p1⟩,λq=> ?_,λcE yS=>⟨rfl,{m with ls:=lg,W:=m.W++ [(key,wH,b)]},?_,?_,?_,?_⟩⟩
   ·rw [cY] at q;have:d=cM.heap.size:=by simpa [bC] using q
    omega
   ·obtain ⟨q1,q2⟩:=p2 cE yS;have mm:Mod (λj=>j=d\/m.ls.aY=some j) cM cE:=(m16.mono λi _ hi=> .inr hi).trans (q2.mono λi _ hi=> .inl hi);have off:∀{g:Nat} {cs:LV} {τ:TypeId},Row cM g cs τ->τ≠tp->τ≠tW->¬(g=d\/m.ls.aY=some g):=λhr' t1 t2 q=>by
     rcases q with q|q
     ·exact hr'.ne uU.rd t1 q
     ·obtain ⟨cs',py⟩:=bc uU.ol aE q;exact hr'.ne py t2 rfl
    refine ⟨q1,mm.map uU.rm λq=> ?_,?_,uU.sf,?_,λx hx=> ?_,bk⟩
    ·rcases q with q|q
     ·exact uU.rd.ji uU.rm q.symm
     ·obtain ⟨cs',py⟩:=bc uU.ol aE q;exact py.ji uU.rm rfl
    ·show aC 0 tW 2 cE lg ((m.W++ [(key,wH,b)]).map wV);rw [bZ];refine q2.fm aaP λg hg=> ?_
     obtain ⟨cs',py⟩:=bc aaP aE hg;exact py.ne JT aE
    ·show (m.W++ [(key,wH,b)]).map kb=D.l++ [(key,b)];rw [bZ,h.sl];rfl
    ·have hx:x ∈ m.E++m.W\/x=(key,wH,b):=by
      simp only [dR,cH,jR,or_false] at hx ⊢;rcases hx with hx|hx|hx
      ·exact .inl (.inl hx)
      ·exact .inl (.inr hx)
      ·exact .inr hx
     have WU:PJ cM x:=by
      rcases hx with hx|rfl
      ·exact uU.bl x hx
      ·exact ⟨aC.low o13 (Nat.zero_le _),hb⟩
     refine ⟨mm.fm WU.o λg hg=> ?_,WU.b⟩;obtain ⟨cs',py⟩:=bc WU.o aE hg;exact off py aE aE
   ·obtain ⟨q1,q2⟩:=p2 cE yS;refine (m0'.trans (Mod.aD Fb)).trans ((m16.mono λi _ hi=> .inr hi).trans (q2.mono λi _ hi=> .inl hi))
   ·rintro i (q|q|q|⟨x,hx,q⟩)
    ·exact .inl (.inl q)
    ·exact .inl (.inr (.inl q))
    ·rcases ij with q'|q'
     ·exact .inl (.inr (.inr (.inl (by rw [<-q'];exact q))))
     ·rw [q'] at q;cases q;exact .inr aa
    ·simp only [dR,cH,jR,or_false] at hx;rcases hx with hx|hx|rfl
     ·exact .inl (.inr (.inr (.inr ⟨x,dR.2 (.inl hx),q⟩)))
     ·exact .inl (.inr (.inr (.inr ⟨x,dR.2 (.inr hx),q⟩)))
     ·have:=(o13.own.lt q).1;have zv:=xvd.size;exact .inr aa
   ·intro i q;rcases ij with q'|q'
    ·exact .inl (by rw [<-q'];exact q)
    ·have q:lg.aY=some i:=q;rw [q'] at q;cases q;exact .inr aa
 ·refine ⟨GI,_,IX,adU,⟨key,rfl⟩,t,tb,hl,Di (hd0 x2d),hby.mono ?_⟩;rintro e v ⟨rfl,xv⟩;have WT:=x2d.tr xv;refine ⟨_,rfl,Di (hd0 WT),?_⟩;rw [wl,wr];apply Br.mk<;>intro hc
  ·simp only [gt_iff_lt,cS] at hc;have e:mN D key b=((jM D).1,8):=by unfold mN;rw [if_neg (by rw [hf];decide),if_pos aa]
   rw [e];have zv:=WT.size;exact ⟨rfl,m,h0.ext WT,m0'.trans (Mod.aD WT),λi hi=> .inl hi,λi hi=> .inl hi⟩
  ·simp only [gt_iff_lt,eW] at hc;have e:mN D key b=({(jM D).1 with l:=D.l++ [(key,b)]},0):=by unfold mN;rw [if_neg (by rw [hf];decide),if_neg aa]
   have bk:=h.ok.put key b;rw [e] at bk ⊢;have xvd:=WT.tr (Ext.dr v);refine ⟨m.ls,(h0.ext xvd).rd.at 4 rfl,(oO s b v.drew (Rr.ext xvd) hn).mono ?_⟩;rintro e cM ⟨wH,rfl,o13,bU⟩;have Fb:=xvd.tr bU;have uU:=h0.ext Fb;obtain ⟨n1,n2⟩:=uU.nW;rw [e2] at n2;refine ⟨wH,rfl,Di (uU.rd.at 4 rfl),λbK uy=> ?_⟩;subst uy;obtain ⟨Wj,bo⟩:=aC.iN uU.ol (bytes:=32) (news:=wV (key,wH,b)) (.cells #[key,wH] tW) (Nat.zero_le _) rfl (Yn _ _ _ _) aa aa;refine ⟨Wj,λlg cB hr=> ?_⟩;obtain ⟨f1,aaP,aqG,xb,uQ,ij⟩:=bo lg cB hr;have m16:Mod (λj=>m.ls.aY=some j) cM cB:=Mod.vr xb uQ;have JT:=m16.row uU.rd λq=>uU.aeh _ q rfl
   obtain ⟨p1,p2⟩:=JT.je (j:=4) (v:=.slice lg.a lg.n lg.c) bt rfl;have z12:=Fb.size;have Rj:=h.rd.lt;refine ⟨f1,⟨rfl,p1⟩,λq=> ?_,λcE yS=>⟨rfl,{m with ls:=lg,W:=m.W++ [(key,wH,b)]},?_,?_,?_,?_⟩⟩
   ·rw [cY] at q;have:d=cM.heap.size:=by simpa [bC] using q
    omega
   ·obtain ⟨q1,q2⟩:=p2 cE yS;have mm:Mod (λj=>j=d\/m.ls.aY=some j) cM cE:=(m16.mono λi _ hi=> .inr hi).trans (q2.mono λi _ hi=> .inl hi);have off:∀{g:Nat} {cs:LV} {τ:TypeId},Row cM g cs τ->τ≠tp->τ≠tW->¬(g=d\/m.ls.aY=some g):=λhr' t1 t2 q=>by
     rcases q with q|q
     ·exact hr'.ne uU.rd t1 q
     ·obtain ⟨cs',py⟩:=bc uU.ol aE q;exact hr'.ne py t2 rfl
    refine ⟨q1,mm.map uU.rm λq=> ?_,?_,uU.sf,?_,λx hx=> ?_,bk⟩
    ·rcases q with q|q
     ·exact uU.rd.ji uU.rm q.symm
     ·obtain ⟨cs',py⟩:=bc uU.ol aE q;exact py.ji uU.rm rfl
    ·show aC 0 tW 2 cE lg ((m.W++ [(key,wH,b)]).map wV);rw [bZ];refine q2.fm aaP λg hg=> ?_
     obtain ⟨cs',py⟩:=bc aaP aE hg;exact py.ne JT aE
    ·show (m.W++ [(key,wH,b)]).map kb=D.l++ [(key,b)];rw [bZ,h.sl];rfl
    ·have hx:x ∈ m.E++m.W\/x=(key,wH,b):=by
      simp only [dR,cH,jR,or_false] at hx ⊢;rcases hx with hx|hx|hx
      ·exact .inl (.inl hx)
      ·exact .inl (.inr hx)
      ·exact .inr hx
     have WU:PJ cM x:=by
      rcases hx with hx|rfl
      ·exact uU.bl x hx
      ·exact ⟨aC.low o13 (Nat.zero_le _),hb⟩
     refine ⟨mm.fm WU.o λg hg=> ?_,WU.b⟩;obtain ⟨cs',py⟩:=bc WU.o aE hg;exact off py aE aE
   ·obtain ⟨q1,q2⟩:=p2 cE yS;refine (m0'.trans (Mod.aD Fb)).trans ((m16.mono λi _ hi=> .inr hi).trans (q2.mono λi _ hi=> .inl hi))
   ·rintro i (q|q|q|⟨x,hx,q⟩)
    ·exact .inl (.inl q)
    ·exact .inl (.inr (.inl q))
    ·rcases ij with q'|q'
     ·exact .inl (.inr (.inr (.inl (by rw [<-q'];exact q))))
     ·rw [q'] at q;cases q;exact .inr aa
    ·simp only [dR,cH,jR,or_false] at hx;rcases hx with hx|hx|rfl
     ·exact .inl (.inr (.inr (.inr ⟨x,dR.2 (.inl hx),q⟩)))
     ·exact .inl (.inr (.inr (.inr ⟨x,dR.2 (.inr hx),q⟩)))
     ·have:=(o13.own.lt q).1;have zv:=xvd.size;exact .inr aa
   ·intro i q;rcases ij with q'|q'
    ·exact .inl (by rw [<-q'];exact q)
    ·have q:lg.aY=some i:=q;rw [q'] at q;cases q;exact .inr aa
set_option maxRecDepth 100000 in
theorem Qw {w:World} {d:Nat} {m:Dm} {D:Dk} (h:DO w d m D) (hW:D.l.length<=1000000000):
  ah 165 #[d] w λe w'=>e=Value.int .i64 (rK D).2/\afP w d m (rK D).1 w':=by
 apply D9.vc;refine (Ba h).mono ?_;rintro e w0 ⟨rfl,h0,m0⟩;have z0:=m0.size;have m0':Mod (λi=>i=d\/m.ls.aY=some i) w w0:=m0.mono λi _ hi=> .inl hi
 have bk:=h.ok.sync;obtain ⟨e1,e2,e3⟩:=kQ D;refine ⟨_,rfl,Br.mk (λhf=> ?_) (λhf=> ?_)⟩
 ·have e:rK D=((jM D).1,9):=by unfold rK;rw [if_pos hf]
  rw [e];exact ⟨rfl,m,h0,m0',λi hi=> .inl hi,λi hi=> .inl hi⟩
 ·have e:rK D=({(jM D).1 with safe:=uL D,l:=[]},0):=by unfold rK;rw [if_neg (by rw [hf];decide)]
  rw [e] at bk ⊢;refine (zS h0 (by rw [e2];exact hW)).mono ?_;rintro e w2 ⟨r',E',rfl,Bp,hp,eM,x2,hr'⟩;rw [RW] at hp;have h2:=h0.ext x2;have z2:=x2.size;have Rj:=h.rd.lt;obtain ⟨p1,p2⟩:=h2.rd.je (j:=3) (v:=.map (some r')) bt rfl;refine ⟨_,rfl,⟨rfl,p1⟩,λw4 e4=> ?_⟩;obtain ⟨q1,q2⟩:=p2 w4 e4;obtain ⟨p3,p4⟩:=q1.je (j:=4) (v:=.slice none 0 0) (show 4<5 by decide) rfl;refine ⟨⟨rfl,p3⟩,λw5 e5=>⟨rfl,⟨r',⟨none,0,0⟩,E',[]⟩,?_,?_,?_,λi q=>by cases q⟩⟩
  ·obtain ⟨q3,q4⟩:=p4 w5 e5;have mm:=q2.trans q4;refine ⟨q3,mm.map Bp λq=>h2.rd.ji Bp q.symm,aC.nil,hp,rfl,λx hx=> ?_,bk⟩;have hx':x ∈ E':=by simpa using hx
   have WU:=h2.bl x (eM x hx');refine ⟨mm.fm WU.o λg hg=> ?_,WU.b⟩;obtain ⟨cs',py⟩:=bc WU.o aE hg;exact py.ne h2.rd aE
  ·obtain ⟨q3,q4⟩:=p4 w5 e5;exact (m0'.trans (Mod.aD x2)).trans ((q2.trans q4).mono λi _ hi=> .inl hi)
  ·rintro i (q|q|q|⟨x,hx,q⟩)
   ·exact .inl (.inl q)
   ·exact .inr (by rw [q];show _<=r';omega)
   ·cases q
   ·have hx':x ∈ E':=by simpa using hx
    exact .inl (.inr (.inr (.inr ⟨x,eM x hx',q⟩)))
abbrev ajq:TypeId:=202
structure SO (w:World) (st d:Nat) (m:Dm) (D:Dk):Prop where
 rs:Row w st [d] zX
 dk:DO w d m D
def sF (st d:Nat) (m:Dm) (i:Nat):Prop:=i=st\/dF d m i
theorem SO.lt {w:World} {st d:Nat} {m:Dm} {D:Dk} (h:SO w st d m D) {i:Nat} (hi:sF st d m i):i<w:=by
 rcases hi with rfl|hi
 ·exact h.rs.lt
 ·exact h.dk.lt hi
theorem SO.same {w w':World} {st d:Nat} {m:Dm} {D:Dk} (h:SO w st d m D) (hs:∀i,sF st d m i->w'.heap[i]? =w.heap[i]?):SO w' st d m D:=⟨h.rs.same (hs _ (.inl rfl)),h.dk.same λi hi=>hs i (.inr hi)⟩
theorem SO.ext {w w':World} {st d:Nat} {m:Dm} {D:Dk} (h:SO w st d m D) (x:Ext w w'):SO w' st d m D:=h.same λi hi=>x.heap (h.lt hi)
theorem SO.ptr {w:World} {st d:Nat} {m:Dm} {D:Dk} (h:SO w st d m D):ld w (ae (ae (some ⟨st,0,none⟩) 0) 0)=some (.pointer (some ⟨d,0,none⟩)):=by rw [bh,bh,h.rs.ld];rfl
theorem VF (room:Int) (w:World):ah 212 #[room] w λe w'=>∃d m,e=Value.pointer (some ⟨d,0,none⟩)/\DO w' d m ⟨min (max room 0) 1048576,0,0,[],[]⟩/\Ext w w'/\∀i,dF d m i->w.heap.size<=i:=by
 apply XO.vc;intro w0 e0 w1 e1;have z0:=eN e0;have x1:=aL e1;have hm:cj GI w0 (some w.heap.size) []:=by rw [e0];exact cj.new
 have er:(if 1048576<(if 0>room then 0 else room) then 1048576 else (if 0>room then 0 else room))=min (max room 0) 1048576:=by split<;>split<;>omega
 rw [er] at e1;refine ⟨w0.heap.size,⟨w.heap.size,⟨none,0,0⟩,[],[]⟩,rfl,⟨by rw [e1];exact Row.new w0 [_,_,_,_,_] _,hm.same (x1.heap hm.lt),aC.nil,.refl _,rfl,(λx hx=>by cases hx),⟨List.nodup_nil,λk=>by simp [nR];omega,by simp,by simp,by simp only;omega⟩⟩,(aL e0).tr x1,λi hi=> ?_⟩;rcases hi with q|q|q|⟨x,hx,-⟩
 ·omega
 ·rw [q];exact aB _
 ·cases q
 ·cases hx
theorem VE (room:Int) (w:World):ah 149 #[room] w λe w'=>∃st d m,e=Value.pointer (some ⟨st,0,none⟩)/\SO w' st d m ⟨min (max room 0) 1048576,0,0,[],[]⟩/\Ext w w'/\∀i,sF st d m i->w.heap.size<=i:=by
 apply TR.vc;refine (VF room w).mono ?_;rintro e w0 ⟨d,m,rfl,hd,x0,hf⟩;refine ⟨_,rfl,λw2 e2=> ?_⟩;have x2:=aL e2;have z:=x0.size;refine ⟨_,d,m,rfl,⟨by rw [e2];exact Row.new w0 [_] _,hd.ext x2⟩,x0.tr x2,λi hi=> ?_⟩;rcases hi with q|q
 ·omega
 ·exact hf i q
set_option maxRecDepth 100000 in
theorem MH {w:World} {st d:Nat} {m:Dm} {D:Dk} (h:SO w st d m D) (hW:D.l.length<=1000000000) {id:Int} (hid:0<=id/\id<=1099511627776):
  ah 133 #[st,id] w λe w'=>∃s:Sl,e=Value.agg #[.int .i64 (nH D id).1,.int .i64 (nH D id).2.1,.slice s.a s.n s.c]/\gS w' s (nH D id).2.2/\mz (nH D id).2.2/\(nH D id).2.2.length<=1048576/\s.n<=s.c/\(∀g,s.aY=some g->w.heap.size<=g)/\Ext w w':=by
 apply BV.vc;intro w0 e0 w1 e1 w2 e2;have z0:=eN e0;have z1:w1.heap.size=w.heap.size+2:=by rw [e1];simp [z0]
 have z2:w2.heap.size=w.heap.size+2:=by rw [e2,setRow_size,z1]
 have x2:Ext w w2:=((aL e0).bB e1).af e2 aa;have k0:aj (2*id)=2*id:=wI;have k1:aj (2*id+1)=2*id+1:=wI;rw [k0,k1];obtain ⟨best,hbest⟩:∃best:Nat->Rc,best=λk=>if k=0 then (2*id+1,0,[]) else if k=1 then kH (2*id+1,0,[]) (2*id) (qD (getD D (2*id))) else nH D id:=⟨_,rfl⟩
 have b0:best 0=(2*id+1,0,[]):=by rw [hbest];rfl
 have b1:best 1=kH (best 0) (2*id) (qD (getD D (2*id))):=by rw [b0,hbest];rfl
 have b2:best 2=kH (best 1) (2*id+1) (qD (getD D (2*id+1))):=by rw [b1,b0,hbest];rfl
 have b3:best 2=nH D id:=by rw [hbest];rfl
 refine ⟨λn i sl v s wr=>∃k:Nat,i=k/\k+n=2/\sl=(best k).1/\v=(best k).2.1/\gS wr s (best k).2.2/\mz (best k).2.2/\(best k).2.2.length<=1048576/\s.n<=s.c/\(∀g,s.aY=some g->w2.heap.size<=g)/\Ext w wr/\w2.heap.size<=wr,
  ⟨2,rfl,0,rfl,rfl,by rw [b0],by rw [b0],by rw [b0];exact mi.FP (aC.nil (B:=0)),by rw [b0];exact (λc hc=>by cases hc),by rw [b0];simp,aB _,(λg hg=>by cases hg),x2,aB _⟩,?_⟩
 rintro n4 us i sl v s bD ⟨k,rfl,hk,rfl,rfl,hs,FB,oo,hsc,hsf,bj,Sr⟩;apply Br.mk<;>intro hc
 ·replace hc:=lY hc;have SX:=mh (j:=k);obtain ⟨slot,hslot,hnext⟩:∃slot,([.int .i64 (2*id),.int .i64 (2*id+1)]:LV)[((k:Nat):Int).toNat*1]? =some (.int .i64 slot)/\best (k+1)=kH (best k) slot (qD (getD D slot)):=by
   rcases k with _|_|k
   ·exact ⟨_,rfl,b1⟩
   ·exact ⟨_,rfl,b2⟩
   ·omega
  have h10:=h.ext bj;refine ⟨⟨by omega,by omega⟩,slot,hslot,_,h10.ptr,(Un h10.dk hW slot).mono ?_⟩;rintro e bK ⟨t,tb,rfl,ot,hby,hle,bW⟩;have WE:=bW.size;refine ⟨t,tb,rfl,bW.heap aa,bW.heap aa,(Qn t (getD D slot) bK (mi.FP ot) hby (aC.le ot) aa).mono ?_⟩;rintro e cE ⟨u,rfl,hu,huc,hub,cT⟩;have z17:=cT.size;have aa7:=bW.tr cT;have hui:=agb hby
  have hul:=agc (getD D slot);have c9:kH (best k) slot (qD (getD D slot))=best k->∃rU,rU<n4/\aO [ab,ab,.slice none 0 0]/\∃k':Nat,aj ((k:Int)+1)=(k':Int)/\k'+rU=2/\(best k).1=(best k').1/\(best k).2.1=(best k').2.1/\gS cE s (best k').2.2/\mz (best k').2.2/\(best k').2.2.length<=1048576/\s.n<=s.c/\(∀g,s.aY=some g->w2.heap.size<=g)/\Ext w cE/\w2.heap.size<=cE:=λq=>by rw [q] at hnext;exact ⟨n4-1,by omega,rfl,k+1,SX,by omega,by rw [hnext],by rw [hnext],by rw [hnext];exact hs.ext aa7,by rw [hnext];exact FB,by rw [hnext];exact oo,hsc,hsf,bj.tr aa7,by omega⟩
  refine ⟨_,u,_,rfl,cT.heap aa,cT.heap aa,Br.mk (λhb=>Br.mk (λjU=> ?_) (λjU=> ?_)) (λhb=> ?_)⟩
  ·have q1:(qD (getD D slot)).2.2=0:=by simpa using hb
   have q2:(qD (getD D slot)).1>(best k).2.1:=by simpa using jU
   have e:kH (best k) slot (qD (getD D slot))=(slot,(qD (getD D slot)).1,(qD (getD D slot)).2.1):=by unfold kH;rw [if_pos ⟨q1,q2⟩]
   rw [e] at hnext;intro ed wO;have dm:Ext w ed:=(bj.tr aa7).af wO aa;have asK:gS ed u (qD (getD D slot)).2.1:=hu.same λg hg=>by rw [wO];exact setRow_other _ _ _ _ (by have:=hub g hg;omega)
   have z21:ed.heap.size=cE.heap.size:=by rw [wO,setRow_size]
   exact ⟨n4-1,by omega,rfl,k+1,SX,by omega,by rw [hnext],by rw [hnext],by rw [hnext];exact asK,by rw [hnext];exact hui,by rw [hnext];simp only;omega,huc,(λg hg=>by have:=hub g hg;omega),dm,by omega⟩
  ·have q2:¬(qD (getD D slot)).1>(best k).2.1:=by simpa using jU
   exact c9 (by unfold kH;rw [if_neg λq=>q2 q.2])
  ·have q1:(qD (getD D slot)).2.2≠0:=by simpa using hb
   exact c9 (by unfold kH;rw [if_neg λq=>q1 q.1])
 ·replace hc:=mg hc;have EO:k=2:=by omega
  subst EO;rw [b3] at hs FB oo ⊢;intro cL wN;refine ⟨s,rfl,hs.same λg hg=> ?_,FB,oo,hsc,λg hg=>by have:=hsf g hg;omega,bj.af wN (aB _)⟩;rw [wN];exact setRow_other _ _ _ _ (by have:=hsf g hg;omega)
theorem HX (id:Int) (w:World):ah 132 #[id] w λe w'=>e=Value.bool (FN id)/\w'=w:=by
 apply TS.vc;unfold FN;apply Br.mk<;>intro h
 ·simp only [ge_iff_le,cS] at h;rw [decide_eq_true h];exact ⟨rfl,rfl⟩
 ·simp only [ge_iff_le,eW] at h;rw [decide_eq_false h];exact ⟨rfl,rfl⟩
theorem MI {id:Int}:FN id=true ↔ 0<=id/\id<=1099511627776:=by unfold FN;simp
theorem Ls {w:World} {st d:Nat} {m:Dm} {D:Dk} (h:SO w st d m D) (hW:D.l.length<=1000000000) (id:Int):
  ah 76 #[st,id] w λe w'=>∃s:Sl,e=Value.tuple #[s,.int .i64 (G6 D id).2.1,.bool (G6 D id).2.2]/\gS w' s (G6 D id).1/\mz (G6 D id).1/\(G6 D id).1.length<=1048576/\s.n<=s.c/\(∀g,s.aY=some g->w.heap.size<=g)/\Ext w w':=by
 apply zP.vc;refine (HX id w).mono ?_;rintro e w0 ⟨rfl,rfl⟩;refine ⟨_,rfl,Br.mk (λhb=> ?_) (λhb=> ?_)⟩
 ·have q:¬FN id=true:=by simpa using hb
  have e:G6 D id=([],0,false):=by unfold G6;rw [if_neg q]
  rw [e];exact ⟨⟨none,0,0⟩,rfl,mi.FP (aC.nil (B:=0)),(λc hc=>by cases hc),by simp,aB _,(λg hg=>by cases hg),Ext.cQ _⟩
 ·have q:FN id=true:=by simpa using hb
  have e:G6 D id=((nH D id).2.2,(nH D id).2.1,decide ((nH D id).2.1>0)):=by unfold G6;rw [if_pos q]
  rw [e];refine (MH h hW (MI.1 q)).mono ?_;rintro e w2 ⟨s,rfl,hs,FB,oo,hsc,hsf,x2⟩;refine ⟨_,_,s,rfl,λw6 e6 w7 e7=> ?_⟩;have x7:Ext w2 w7.drew:=((aL e6).af e7 (aB _)).drew;exact ⟨s,rfl,hs.ext x7,FB,oo,hsc,hsf,x2.tr x7⟩
def B5 (w:World) (st d:Nat) (m:Dm) (D:Dk) (w':World):Prop:=∃m',SO w' st d m' D/\Mod (λi=>i=d\/m.ls.aY=some i) w w'/\(∀i,dF d m' i->dF d m i\/w.heap.size<=i)/\∀i,m'.ls.aY=some i->m.ls.aY=some i\/w.heap.size<=i
theorem SO.off {w:World} {st d:Nat} {m:Dm} {D:Dk} (h:SO w st d m D):¬(st=d\/m.ls.aY=some st):=by
 rintro (q|q)
 ·exact h.rs.ne h.dk.rd aE q
 ·obtain ⟨cs',py⟩:=bc h.dk.ol aE q;exact h.rs.ne py aE rfl
theorem SO.res {w w':World} {st d:Nat} {m:Dm} {D D':Dk} (h:SO w st d m D) (hr:afP w d m D' w'):B5 w st d m D' w':=by obtain ⟨m',h1,h2,h3,h4⟩:=hr;exact ⟨m',⟨h2.row h.rs h.off,h1⟩,h2,h3,h4⟩
theorem B5.aD {w0 w w':World} {st d:Nat} {m:Dm} {D':Dk} (x:Ext w0 w) (hr:B5 w st d m D' w'):B5 w0 st d m D' w':=by obtain ⟨m',h1,h2,h3,h4⟩:=hr;have z:=x.size;exact ⟨m',h1,(Mod.aD x).trans h2,λi hi=>(h3 i hi).imp id λq=>by omega,λi hi=>(h4 i hi).imp id λq=>by omega⟩
theorem B5.trans {w w1 w2:World} {st d:Nat} {m m1:Dm} {D1 D2:Dk} (h1:SO w1 st d m1 D1/\Mod (λi=>i=d\/m.ls.aY=some i) w w1/\(∀i,dF d m1 i->dF d m i\/w.heap.size<=i)/\∀i,m1.ls.aY=some i->m.ls.aY=some i\/w.heap.size<=i) (h2:B5 w1 st d m1 D2 w2):B5 w st d m D2 w2:=by
 obtain ⟨a1,a2,a3,a4⟩:=h1;obtain ⟨m2,b1,b2,b3,b4⟩:=h2;have z:=a2.size;refine ⟨m2,b1,a2.tr b2 λi hi=> ?_,λi hi=> ?_,λi hi=> ?_⟩
 ·rcases hi with q|q
  ·exact .inl (.inl q)
  ·exact (a4 i q).imp .inr id
 ·rcases b3 i hi with q|q
  ·exact a3 i q
  ·exact .inr aa
 ·rcases b4 i hi with q|q
  ·exact a4 i q
  ·exact .inr aa
set_option maxRecDepth 100000 in
theorem AW {w:World} {st d:Nat} {m:Dm} {D:Dk} (h:SO w st d m D) (hW:D.l.length<=1000000) (id:Int) (s:Sl) (b:List Int) (hs:gS w s b) (hb:mz b) (hn:b.length<=1099511627776):
  ah 115 #[st,id,s] w λe w'=>e=Value.int .i64 (xh D id b).2/\B5 w st d m (xh D id b).1 w':=by
 apply (Ai.vc (a2:=s));have same:∀{w':World},Ext w w'->B5 w st d m D w':=λx=>⟨m,h.ext x,Mod.aD x,λi hi=> .inl hi,λi hi=> .inl hi⟩
 refine (HX id w).mono ?_;rintro e w0 ⟨rfl,rfl⟩;refine ⟨_,rfl,Br.mk (λGP=> ?_) (λGP=> ?_)⟩
 ·have q:¬FN id=true:=by simpa using GP
  have e:xh D id b=(D,1):=by unfold xh;rw [if_neg q]
  rw [e];exact ⟨rfl,same (Ext.cQ _)⟩
 ·have q:FN id=true:=by simpa using GP
  have hid:=MI.1 q;refine (MH h aa hid).mono ?_;rintro e w2 ⟨s5,rfl,-,-,-,-,-,x2⟩;refine ⟨_,_,s5,rfl,λw6 e6 w7 e7=> ?_⟩;have r7:Row w7 w2 [.int .i64 (nH D id).1,.int .i64 (nH D id).2.1,s5] ajq:=by rw [e7];exact Row.set (by rw [e6];exact Row.new w2 [_,_,_] _) _
  have fw:Ext w2 w7:=(aL e6).af e7 (aB _);have x7:=x2.tr fw;have hv:=aiY D id;have wv:aj ((nH D id).2.1+1)=(nH D id).2.1+1:=wI;rw [wv];have oo:=Xh D id;have hto:kz .i64 (nH D id).1 1=4*id+1-(nH D id).1:=by
   obtain ⟨t1,t2⟩:=Xg hid;rcases oo with q|q
   ·rw [q,t1];omega
   ·rw [q,t2];omega
  rw [hto];have hsv:xh D id b=if (Cp ((nH D id).2.1+1) b).2≠0 then (D,(Cp ((nH D id).2.1+1) b).2)
   else if (mN D (4*id+1-(nH D id).1) (Cp ((nH D id).2.1+1) b).1).2≠0 then mN D (4*id+1-(nH D id).1) (Cp ((nH D id).2.1+1) b).1
   else rK (mN D (4*id+1-(nH D id).1) (Cp ((nH D id).2.1+1) b).1).1:=by unfold xh;rw [if_pos q]
  rw [hsv];refine (Mq ((nH D id).2.1+1) s b w7 (hs.ext x7) hb hn).mono ?_;rintro e w8 ⟨s9,rfl,o9,x8⟩;have FI:mz (Cp ((nH D id).2.1+1) b).1:=agh hb;have hwn:(Cp ((nH D id).2.1+1) b).1.length<=1099511627776:=by
   unfold Cp;split
   ·simp
   ·rename_i q3;rw [G9,Mr];omega
  generalize Cp ((nH D id).2.1+1) b=wr at*;generalize 4*id+1-(nH D id).1=slot at*;have z8:=x8.size;have z2:=fw.size;have hlt7:=r7.lt;refine ⟨s9,_,rfl,x8.heap hlt7,Br.mk (λjU=> ?_) (λjU=> ?_)⟩
  ·have q2:wr.2≠0:=by simpa using jU
   rw [if_pos q2];exact ⟨rfl,same (x7.tr x8)⟩
  ·have q2:wr.2=0:=by simpa using jU
   rw [if_neg (by rw [q2];simp)];have x8d:=(x7.tr x8).tr (Ext.dr w8);have h8:=h.ext x8d;have Rj:=h.dk.rd.lt;have z7:=x7.size;refine ⟨_,h8.ptr,(Uu h8.dk aa slot s9 wr.1 (RdK.ext (mi.FP o9) (Ext.dr w8)) FI hwn λhg=>by have:=(o9.own.lt hg).1;omega).mono ?_⟩;rintro e cM ⟨rfl,asL⟩;have amh:=h8.res asL;have JB:∀{v:World},Mod (λi=>i=d\/m.ls.aY=some i) w8.drew v->v.heap[w2.heap.size]? =w8.drew.heap[w2.heap.size]? :=λhm=>hm.same _ (by show w2.heap.size<w8.heap.size;omega) (by
    have:=x2.size;rintro (q|q)
    ·omega
    ·have:=(h.dk.ol.own.lt q).2;omega)
   obtain ⟨m1,g1,g2,g3,g4⟩:=amh;have r12:Row cM w2 [.int .i64 (nH D id).1,.int .i64 (nH D id).2.1,s5] ajq:=((r7.ext x8).ext (Ext.dr w8)).same (JB g2);refine ⟨_,rfl,JB g2,r12.bY (λj hj=>by simp at hj;subst hj;rfl),Br.mk (λhb3=> ?_) (λhb3=> ?_)⟩
   ·have q3:(mN D slot wr.1).2≠0:=by simpa using hb3
    rw [if_pos q3];exact ⟨rfl,B5.aD x8d ⟨m1,g1,g2,g3,g4⟩⟩
   ·have q3:(mN D slot wr.1).2=0:=by simpa using hb3
    rw [if_neg (by rw [q3];simp)];have hpl:=Xj D slot wr.1;refine ⟨_,g1.ptr,(Qw g1.dk aa).mono ?_⟩;rintro e dY ⟨rfl,ami⟩;have amj:=g1.res ami;have bo:=B5.trans ⟨g1,g2,g3,g4⟩ amj;have z12:=g2.size;obtain ⟨m2,f1,f2,f3,f4⟩:=ami;refine ⟨_,rfl,f2.same _ r12.lt ?_,rfl,B5.aD x8d bo⟩;rintro (q|q)
    ·have:=x2.size;omega
    ·obtain ⟨cs',py⟩:=bc g1.dk.ol aE q;exact r12.ne py aE rfl
structure It where
 x:Nat
 g:Nat
 s:Sl
 p:Po
 C:List Int
 nM:Bool
 pins:Int
structure uF (w:World) (i:It):Prop where
 r:Row w i.x [.pointer (some ⟨i.g,0,none⟩),.bool i.nM,i.pins] cC
 k:Ga w i.g i.s i.p i.C
theorem uF.ext {w w':World} {i:It} (h:uF w i) (x:Ext w w'):uF w' i:=⟨h.r.ext x,h.k.ext x⟩
theorem uF.c9 {w w':World} {i:It} (h:uF w i) {F:Nat->Prop} (hm:Mod F w w') (h1:¬F i.x) (h2:¬F i.g) (h3:∀b,i.s.aY=some b->¬F b):uF w' i:=⟨hm.row h.r h1,h.k.c9 hm h2 h3⟩
abbrev By (its:List It):List (LV):=its.map λi=> [.pointer (some ⟨i.x,0,none⟩)]
structure TO (w:World) (t st d:Nat) (r:Dm) (sl:Sl) (D:Dk) (ar limit:Int) (its:List It):Prop where
 rt:Row w t [st,ar,limit,sl] zY
 so:SO w st d r D
 ol:aC 0 XZ 1 w sl (By its)
 it:∀i ∈ its,uF w i
 dx:(its.map (·.x)).Nodup
 dg:(its.map (·.g)).Nodup
 Wy:1<=limit/\limit<=16
 len:(its.length:Int)<=limit
def dM (m:Dm) (i:Nat):Prop:=i=m.r\/m.ls.aY=some i\/∃x ∈ m.E++m.W,x.2.1.aY=some i
def aH (t st d:Nat) (r:Dm) (sl:Sl) (its:List It) (i:Nat):Prop:=i=t\/i=st\/i=d\/dM r i\/sl.aY=some i\/∃y ∈ its,i=y.x\/i=y.g\/y.s.aY=some i
theorem TO.lt {w:World} {t st d:Nat} {r:Dm} {sl:Sl} {D:Dk} {ar limit:Int} {its:List It} (h:TO w t st d r sl D ar limit its) {i:Nat} (hi:aH t st d r sl its i):i<w:=by
 rcases hi with rfl|e|e|e|e|⟨y,hy,e|e|e⟩
 ·exact h.rt.lt
 ·exact h.so.lt (.inl e)
 ·exact h.so.lt (.inr (.inl e))
 ·exact h.so.lt (.inr (.inr e))
 ·exact (h.ol.own.lt e).2
 ·exact e▸(h.it y hy).r.lt
 ·exact e▸(h.it y hy).k.row.lt
 ·exact ((h.it y hy).k.own.own.lt e).2
theorem TO.same {w w':World} {t st d:Nat} {r:Dm} {sl:Sl} {D:Dk} {ar limit:Int} {its:List It} (h:TO w t st d r sl D ar limit its) (hs:∀i,aH t st d r sl its i->w'.heap[i]? =w.heap[i]?):TO w' t st d r sl D ar limit its:=by
 refine ⟨h.rt.same (hs _ (.inl rfl)),h.so.same λi hi=>hs i ?_,aC.c9 h.ol λb hb=>hs b (.inr (.inr (.inr (.inr (.inl hb))))),λy hy=> ?_,h.dx,h.dg,h.Wy,h.len⟩
 ·rcases hi with e|e|e
  ·exact .inr (.inl e)
  ·exact .inr (.inr (.inl e))
  ·exact .inr (.inr (.inr (.inl e)))
 ·have f:∀i,(i=y.x\/i=y.g\/y.s.aY=some i)->w'.heap[i]? =w.heap[i]? :=λi hi=>hs i (.inr (.inr (.inr (.inr (.inr ⟨y,hy,hi⟩)))))
  have hi:=h.it y hy;exact ⟨hi.r.same (f _ (.inl rfl)),hi.k.row.same (f _ (.inr (.inl rfl))),aC.c9 hi.k.own λb hb=>f b (.inr (.inr hb)),hi.k.len,hi.k.may⟩
theorem TO.ext {w w':World} {t st d:Nat} {r:Dm} {sl:Sl} {D:Dk} {ar limit:Int} {its:List It} (h:TO w t st d r sl D ar limit its) (x:Ext w w'):TO w' t st d r sl D ar limit its:=h.same λi hi=>x.heap (h.lt hi)
theorem TO.kind {w:World} {t st d:Nat} {r:Dm} {sl:Sl} {D:Dk} {ar limit:Int} {its:List It} (h:TO w t st d r sl D ar limit its) {i:Nat} (hi:aH t st d r sl its i):
  cj GI w (some i) (r.E.map pc)\/∃cs τ,Row w i cs τ/\(τ=zY\/τ=zX\/τ=tp\/τ=XZ\/τ=cC\/τ=vU\/τ=gx\/τ=tW\/τ=hX):=by
 rcases hi with e|e|e|e|e|⟨y,hy,e|e|e⟩
 ·exact .inr ⟨_,_,e▸h.rt,.inl rfl⟩
 ·exact .inr ⟨_,_,e▸h.so.rs,.inr (.inl rfl)⟩
 ·exact .inr ⟨_,_,e▸h.so.dk.rd,.inr (.inr (.inl rfl))⟩
 ·rcases h.so.dk.kind (.inr e) with q|⟨cs,τ,q1,q2⟩
  ·exact .inl q
  ·refine .inr ⟨cs,τ,q1,?_⟩;rcases q2 with rfl|rfl|rfl
   ·exact .inr (.inr (.inl rfl))
   ·exact .inr (.inr (.inr (.inr (.inr (.inr (.inr (.inl rfl)))))))
   ·exact .inr (.inr (.inr (.inr (.inr (.inr (.inr (.inr rfl)))))))
 ·obtain ⟨cs,hr⟩:=bc h.ol aE e;exact .inr ⟨_,_,hr,.inr (.inr (.inr (.inl rfl)))⟩
 ·exact .inr ⟨_,_,e▸(h.it y hy).r,.inr (.inr (.inr (.inr (.inl rfl))))⟩
 ·exact .inr ⟨_,_,e▸(h.it y hy).k.row,.inr (.inr (.inr (.inr (.inr (.inl rfl)))))⟩
 ·obtain ⟨cs,hr⟩:=bc (h.it y hy).k.own aE e;exact .inr ⟨_,_,hr,.inr (.inr (.inr (.inr (.inr (.inr (.inl rfl))))))⟩
theorem TO.dN {w:World} {t st d:Nat} {r:Dm} {sl:Sl} {D:Dk} {ar limit:Int} {its:List It} (h:TO w t st d r sl D ar limit its) {j:Nat} {cs:LV} {τ:TypeId} (hr:Row w j cs τ) (hτ:τ≠zY/\τ≠zX/\τ≠tp/\τ≠XZ/\τ≠cC/\τ≠vU/\τ≠gx/\τ≠tW/\τ≠hX):¬aH t st d r sl its j:=λhf=>by
 rcases h.kind hf with hm|⟨cs',τ',hr',ht⟩
 ·exact hr.ji hm rfl
 ·obtain ⟨h1,h2,h3,h4,h5,h6,h7,h8,h9⟩:=hτ
  rcases ht with rfl|rfl|rfl|rfl|rfl|rfl|rfl|rfl|rfl
  ·exact hr.ne hr' h1 rfl
  ·exact hr.ne hr' h2 rfl
  ·exact hr.ne hr' h3 rfl
  ·exact hr.ne hr' h4 rfl
  ·exact hr.ne hr' h5 rfl
  ·exact hr.ne hr' h6 rfl
  ·exact hr.ne hr' h7 rfl
  ·exact hr.ne hr' h8 rfl
  ·exact hr.ne hr' h9 rfl
theorem TO.n {w:World} {t st d:Nat} {r:Dm} {sl:Sl} {D:Dk} {ar limit:Int} {its:List It} (h:TO w t st d r sl D ar limit its):sl.n=its.length:=by have:=(h.ol.rd aE).n;rwa [aM] at this
theorem TO.at {w:World} {t st d:Nat} {r:Dm} {sl:Sl} {D:Dk} {ar limit:Int} {its:List It} (h:TO w t st d r sl D ar limit its) {i:Nat} {y:It} (hi:its[i]? =some y):ee sl.a (i:Int) sl.n/\ld w (ae sl.a (((i:Nat):Int).toNat*1))=some (.pointer (some ⟨y.x,0,none⟩)):=by have gW:=(cR.1 hi).1;have ic:=h.ol.rd (show 0<1 by decide);refine ⟨RdK.gR ic aE aa (by rw [h.n];omega),?_⟩;have:=ic.rd i [.pointer (some ⟨y.x,0,none⟩)] (by rw [aS,hi];rfl) 0 _ rfl;exact this
def Kv (room:Int):Dk:=⟨min (max room 0) 1048576,0,0,[],[]⟩
theorem VD (ar limit room:Int) (w:World):ah 96 #[ar,limit,room] w λe w'=>∃t st d r,e=Value.pointer (some ⟨t,0,none⟩)/\TO w' t st d r ⟨none,0,0⟩ (Kv room) ar (min (max limit 1) 16) []/\Ext w w'/\∀i,aH t st d r ⟨none,0,0⟩ [] i->w.heap.size<=i:=by
 apply T4.vc;refine (VE room w).mono ?_;rintro e w0 ⟨st,d,m,rfl,hs,x0,hf⟩;refine ⟨_,rfl,λw2 e2=> ?_⟩;have x2:=aL e2;have z0:=x0.size;have hl:(if 16<(if 1>limit then 1 else limit) then 16 else (if 1>limit then 1 else limit))=min (max limit 1) 16:=by split<;>split<;>omega
 rw [hl] at e2;refine ⟨_,st,d,m,rfl,⟨by rw [e2];exact Row.new w0 [_,_,_,_] _,hs.ext x2,aC.nil,by simp,by simp,by simp,by omega,by simp;omega⟩,x0.tr x2,λi hi=> ?_⟩;rcases hi with rfl|e|e|e|e|⟨y,hy,-⟩
 ·exact z0
 ·exact hf i (.inl e)
 ·exact hf i (.inr (.inl e))
 ·exact hf i (.inr (.inr e))
 ·cases e
 ·cases hy
theorem tz {α:Type} (s:Sl) (l:List α) (ad:α->Nat) (fv:Value) (q:α->Bool) (w:World) (hs:RdK w s 1 (l.map λi=> [.pointer (some ⟨ad i,0,none⟩)])) (hb:l.length<=1000)
  (hf:∀i ∈ l,∀w',Ext w w'->cw Tryz.prog fv [.pointer (some ⟨ad i,0,none⟩)] w' λe w''=>e=Value.bool (q i)/\Ext w' w''):
  ah 129 #[s,fv] w λe w'=>e=Value.int .i64 (cu q l)/\Ext w w':=by
 apply sB.vc;have hn:s.n=l.length:=by have:=hs.n;rwa [aM] at this
 refine ⟨λn i wr=>∃k:Nat,i=k/\k+n=l.length/\Ext w wr/\∀j,j<k->∀y,l[j]? =some y->q y=false,⟨l.length,0,rfl,by omega,Ext.cQ _,λj hj=>by omega⟩,?_⟩;rintro n us i wr ⟨k,rfl,hk,xr,mV⟩;have SX:=mh (j:=k);apply Br.mk<;>intro hc
 ·replace hc:=lY hc;obtain ⟨y,hy⟩:=bH (l:=l) (i:=k) aa;have hsr:=RdK.ext hs xr;have jq:=hsr.rd k [.pointer (some ⟨ad y,0,none⟩)] (by rw [aS,hy];rfl) 0 _ rfl;refine ⟨RdK.gR hsr aE aa aa,_,jq,dq (hf y (aZ hy) wr xr) ?_⟩;rintro e w7 ⟨rfl,x7⟩;refine ⟨_,rfl,Br.mk (λh=> ?_) (λh=> ?_)⟩
  ·exact ⟨by rw [pL hy h mV],xr.tr x7⟩
  ·refine ⟨n-1,by omega,k+1,SX,by omega,xr.tr x7,λj hj z hz=> ?_⟩;by_cases e:j=k
   ·subst e;rw [hy] at hz;cases hz;exact h
   ·exact mV j aa z hz
 ·replace hc:=mg hc;refine ⟨?_,xr⟩;rw [jS];intro y hy;obtain ⟨j,hj⟩:=List.getElem?_of_mem hy;exact mV j (by have:=(cR.1 hj).1;omega) y hj
set_option maxRecDepth 100000 in
theorem find_spec {w:World} {t st d:Nat} {r:Dm} {sl:Sl} {D:Dk} {ar limit:Int} {its:List It} (h:TO w t st d r sl D ar limit its) (p:Po):
  ah 73 #[t,pv p] w λe w'=>e=Value.int .i64 (cu (λi=>i.p==p) its)/\Ext w w':=by
 apply zN.vc;intro w0 e0;have x0:=aL e0;have hb:Row w0 w [p.1,p.2] Wx:=Row.nw e0;have h0:=h.ext x0;have dG:=h.len;have aaI:=h.Wy;refine ⟨sl,h0.rt.at 3 rfl,(tz sl its (·.x) _ (λi=>i.p==p) w0 (h0.ol.rd aE) aa ?_).mono ?_⟩
 ·intro y hy w' x';refine cU (by kernel_rfl) (by rfl) ?_;apply vG.vc;have hy':=((h0.it y hy).ext x').ext (Ext.dr w');have hb':=(hb.ext x').ext (Ext.dr w');refine ⟨_,by rw [bh,hy'.r.ld];rfl,AV (AV ⟨_,_,hy'.k.pos,_,_,hb'.bY (λj hj=>by rw [eB]),(vB y.p w'.drew).mono ?_⟩)⟩;rintro e w5 ⟨rfl,x5⟩;refine ⟨_,_,rfl,(hb'.ext x5).bY (λj hj=>by rw [eB]),?_,rfl,(Ext.dr w').tr x5⟩;rw [bh];exact (hy'.ext x5).r.bY (λj hj=>by simp at hj;subst hj;rfl)
 ·rintro e w2 ⟨rfl,x2⟩;exact ⟨_,rfl,rfl,x0.tr x2⟩
theorem SO.kind {w:World} {st d:Nat} {m:Dm} {D:Dk} (h:SO w st d m D) {i:Nat} (hi:sF st d m i):cj GI w (some i) (m.E.map pc)\/∃cs τ,Row w i cs τ/\(τ=zX\/τ=tp\/τ=tW\/τ=hX):=by
 rcases hi with e|hi
 ·exact .inr ⟨_,_,e▸h.rs,.inl rfl⟩
 ·rcases h.dk.kind hi with q|⟨cs,τ,q1,q2⟩
  ·exact .inl q
  ·exact .inr ⟨cs,τ,q1,.inr q2⟩
theorem SO.c9 {w w':World} {st d:Nat} {m:Dm} {D:Dk} (h:SO w st d m D) {F:Nat->Prop} (hm:Mod F w w') (hr:∀{j:Nat} {cs:LV} {τ:TypeId},Row w j cs τ->(τ=zX\/τ=tp\/τ=tW\/τ=hX)->¬F j) (hmp:∀{j:Nat} {kvs:List (Value × Value)},cj GI w (some j) kvs->¬F j):SO w' st d m D:=
 h.same λi hi=>hm.same i (h.lt hi) (by
  rcases h.kind hi with q|⟨cs,τ,q1,q2⟩
  ·exact hmp q
  ·exact hr q1 q2)
abbrev slF (t:Nat) (sl:Sl):Nat->Prop:=λj=>j=t\/sl.aY=some j
theorem TO.off {w:World} {t st d:Nat} {r:Dm} {sl:Sl} {D:Dk} {ar limit:Int} {its:List It} (h:TO w t st d r sl D ar limit its) {j:Nat} {cs:LV} {τ:TypeId} (hr:Row w j cs τ) (h1:τ≠zY) (h2:τ≠XZ):¬slF t sl j:=by
 rintro (e|e)
 ·exact hr.ne h.rt h1 e
 ·obtain ⟨cs',hr'⟩:=bc h.ol aE e;exact hr.ne hr' h2 rfl
theorem TO.item {w w':World} {t st d:Nat} {r:Dm} {sl:Sl} {D:Dk} {ar limit:Int} {its:List It} (h:TO w t st d r sl D ar limit its) (hm:Mod (slF t sl) w w') {y:It} (hy:uF w y):uF w' y:=
 hy.c9 hm (h.off hy.r aE aE) (h.off hy.k.row aE aE) (λb hb=>by obtain ⟨cs',hr'⟩:=bc hy.k.own aE hb;exact h.off hr' aE aE)
theorem TO.Yh {w w':World} {t st d:Nat} {r:Dm} {sl sl':Sl} {D:Dk} {ar limit:Int} {its its':List It} (h:TO w t st d r sl D ar limit its) (hm:Mod (slF t sl) w w')
  (rt:Row w' t [st,ar,limit,sl'] zY) (ol:aC 0 XZ 1 w' sl' (By its')) (WM:∀y ∈ its',y ∈ its\/uF w y)
  (dx:(its'.map (·.x)).Nodup) (dg:(its'.map (·.g)).Nodup) (len:(its'.length:Int)<=limit):TO w' t st d r sl' D ar limit its':=by
 refine ⟨rt,h.so.c9 hm (λhr hτ=> ?_) (λhmp=> ?_),ol,λy hy=>h.item hm ?_,dx,dg,h.Wy,len⟩
 ·rcases hτ with rfl|rfl|rfl|rfl<;>exact h.off hr aE aE
 ·rintro (e|e)
  ·exact h.rt.ji hmp e.symm
  ·obtain ⟨cs',hr'⟩:=bc h.ol aE e;exact hr'.ji hmp rfl
 ·rcases WM y hy with h1|h1
  ·exact h.it y h1
  ·exact h1
theorem DJ {w:World} {t st d:Nat} {r:Dm} {sl sl':Sl} {its its':List It} (hb:∀b,sl'.aY=some b->sl.aY=some b\/w.heap.size<=b) (hi:∀y ∈ its',y ∈ its\/(w.heap.size<=y.x/\w.heap.size<=y.g/\∀b,y.s.aY=some b->w.heap.size<=b)):
  ∀i,aH t st d r sl' its' i->aH t st d r sl its i\/w.heap.size<=i:=by
 rintro i (e|e|e|e|e|⟨y,hy,e⟩)
 ·exact .inl (.inl e)
 ·exact .inl (.inr (.inl e))
 ·exact .inl (.inr (.inr (.inl e)))
 ·exact .inl (.inr (.inr (.inr (.inl e))))
 ·rcases hb i e with h|h
  ·exact .inl (.inr (.inr (.inr (.inr (.inl h)))))
  ·exact .inr h
 ·rcases hi y hy with h|⟨h1,h2,h3⟩
  ·exact .inl (.inr (.inr (.inr (.inr (.inr ⟨y,h,e⟩)))))
  ·rcases e with e|e|e
   ·exact .inr aa
   ·exact .inr aa
   ·exact .inr (h3 i e)
theorem xL {t st d:Nat} {r:Dm} {sl:Sl} {its:List It}:∀i,slF t sl i->aH t st d r sl its i:=by
 rintro i (e|e)
 ·exact .inl e
 ·exact .inr (.inr (.inr (.inr (.inl e))))
theorem aeg (a:Addr):One [Value.pointer (some a)]:=by intro v hv;simp at hv;subst hv;rfl
theorem TO.push {w:World} {t st d:Nat} {r:Dm} {sl:Sl} {D:Dk} {ar limit:Int} {its:List It} (h:TO w t st d r sl D ar limit its) (y:It) (hy:uF w y) (hx:y.x ∉ its.map (·.x)) (hg:y.g ∉ its.map (·.g)) (hl:(its.length:Int)+1<=limit):
  ba 8 1 w sl 1 [.pointer (some ⟨y.x,0,none⟩)]/\∀(s4:Sl) (w5:World),aV XZ 1 w sl 1 [.pointer (some ⟨y.x,0,none⟩)] s4 w5->
   Mod (λj=>sl.aY=some j) w w5/\Wr w5 (ae (some ⟨t,0,none⟩) 3) 1/\∀w6,w6=aG w5 (ae (some ⟨t,0,none⟩) 3) [.slice s4.a s4.n s4.c]->
    TO w6 t st d r s4 D ar limit (its++ [y])/\Mod (slF t sl) w w6/\∀b,s4.aY=some b->sl.aY=some b\/w.heap.size<=b:=by
 have hn:=h.n;have aaI:=h.Wy;obtain ⟨hp,hr⟩:=h.ol.append (bytes:=8) (news:=[.pointer (some ⟨y.x,0,none⟩)]) (Nat.zero_le _) rfl (aeg _) aa aa;refine ⟨hp,λs4 w5 bo=> ?_⟩;obtain ⟨ho,hn4,kF,hk,ij⟩:=hr s4 w5 bo;have hm5:Mod (λj=>sl.aY=some j) w w5:=Mod.vr kF hk;have hnt:¬sl.aY=some t:=λe=>by obtain ⟨cs',hr'⟩:=bc h.ol aE e;exact hr'.ne h.rt aE rfl
 have rt5:=hm5.row h.rt hnt;obtain ⟨p1,p2⟩:=rt5.je (j:=3) (v:=.slice s4.a s4.n s4.c) bt rfl;refine ⟨hm5,p1,λw6 e6=> ?_⟩;obtain ⟨q1,q2⟩:=p2 w6 e6;have hm6:Mod (slF t sl) w w6:=(hm5.mono λi _ hi=> .inr hi).trans (q2.mono λi _ hi=> .inl hi);have h4t:∀b,s4.aY=some b->b≠t:=λb hb=>by obtain ⟨cs',hr'⟩:=bc ho aE hb;exact hr'.ne rt5 aE
 refine ⟨h.Yh hm6 q1 ?_ (λz hz=> ?_) ?_ ?_ (by simp;omega),hm6,λb hb=> ?_⟩
 ·have:=q2.fm ho h4t;show aC 0 XZ 1 w6 s4 ((its++ [y]).map _);rw [bZ];exact this
 ·rcases dR.1 hz with hz|hz
  ·exact .inl hz
  ·simp at hz;subst hz;exact .inr hy
 ·rw [bZ];refine List.nodup_append.2 ⟨h.dx,by simp,?_⟩;intro a ha b hb e;simp at hb;subst hb;subst e;exact hx ha
 ·rw [bZ];refine List.nodup_append.2 ⟨h.dg,by simp,?_⟩;intro a ha b hb e;simp at hb;subst hb;subst e;exact hg ha
 ·rcases ij with e|e
  ·exact .inl (by rw [<-e];exact hb)
  ·rw [e] at hb;cases hb;exact .inr (aB _)
theorem DK {w:World} {t st d:Nat} {r:Dm} {sl:Sl} {D:Dk} {ar limit:Int} {its:List It} (h:TO w t st d r sl D ar limit its) {i:Nat} {y:It} (hi:its[i]? =some y):
  ah 80 #[t,.int .i64 (i:Nat)] w λe w'=>e=Value.pointer (some ⟨y.x,0,none⟩)/\∃sl',TO w' t st d r sl' D ar limit (its.eraseIdx i)/\Mod (slF t sl) w w'/\∀b,sl'.aY=some b->sl.aY=some b\/w.heap.size<=b:=by
 apply BK.vc;have hn:=h.n;have aaI:=h.Wy;have dG:=h.len;have MR:=(cR.1 hi).1;obtain ⟨a1,a2⟩:=h.at hi;have hd:=h.ext (Ext.dr w);have hle:=aC.le h.ol;have w1:=mh (j:=i);refine ⟨sl,h.rt.at 3 rfl,a1,_,a2,sl,hd.rt.at 3 rfl,by omega,by omega,by omega,by omega,sl,hd.rt.at 3 rfl,?_⟩;rw [w1];have mU:=hd.ol.cut aE (m:=i) (by rw [aM];omega);have hrest:=RdK.rest (hd.ol.rd aE) (l:=i+1) (m:=sl.c) (n':=sl.n-(i+1)) (c':=sl.c-(i+1)) (by rw [aM];omega) (by rw [aM];omega);have hml:((By its).drop (i+1)).length=sl.n-(i+1):=by rw [List.length_drop,aM];omega
 have hwd:∀q ∈(By its).drop (i+1),q.length=1/\One q:=λq hq=>by obtain ⟨z,_,rfl⟩:=bg.1 (List.mem_of_mem_drop hq);exact ⟨rfl,aeg _⟩
 obtain ⟨hp,bo⟩:=mU.FO (bytes:=8) (more:=(By its).drop (i+1)) (Nat.zero_le _) (λq hq=>(hwd q hq).1) (λq hq=>(hwd q hq).2) (by rw [hml];show (i+_)*8<=_;omega) (by rw [hml];show i+_<=_;omega);rw [hml] at hp bo;refine ⟨by omega,by omega,((By its).drop (i+1)).flatten,hrest.flat aE,hp,λs5 w6 hr=> ?_⟩;obtain ⟨ho,hn5,kF,hk,ij⟩:=bo s5 w6 hr;have FB:(Sl.mk (aJ sl.a 0 i 1) i i).aY=sl.aY:=by rw [eg];rfl
 rw [FB] at hk ij;have hm6:Mod (λj=>sl.aY=some j) w w6:=(Mod.aD (Ext.dr w)).trans (Mod.vr kF hk);have hnt:¬sl.aY=some t:=λe=>by obtain ⟨cs',hr'⟩:=bc h.ol aE e;exact hr'.ne h.rt aE rfl
 have rt6:=hm6.row h.rt hnt;obtain ⟨p1,p2⟩:=rt6.je (j:=3) (v:=.slice s5.a s5.n s5.c) bt rfl;have jq:ag w6 (ae (some ⟨t,0,none⟩) 3) 0 [sl]:=by show ld w6 (ae _ 0)=_;rw [gT];exact rt6.at 3 rfl
 refine ⟨jq,jq,⟨rfl,p1⟩,λw7 e7=>⟨rfl,s5,?_⟩⟩;obtain ⟨q1,q2⟩:=p2 w7 e7;have hm7:Mod (slF t sl) w w7:=(hm6.mono λi _ hi=> .inr hi).trans (q2.mono λi _ hi=> .inl hi);have h5t:∀b,s5.aY=some b->b≠t:=λb hb=>by obtain ⟨cs',hr'⟩:=bc ho aE hb;exact hr'.ne rt6 aE
 have eM:List.Sublist (its.eraseIdx i) its:=List.eraseIdx_sublist ..;refine ⟨h.Yh hm7 q1 ?_ (λz hz=> .inl (eM.subset hz)) (h.dx.sublist (eM.map _)) (h.dg.sublist (eM.map _)) ?_,hm7,λb hb=> ?_⟩
 ·have:=q2.fm ho h5t;show aC 0 XZ 1 w7 s5 ((its.eraseIdx i).map _);rw [List.eraseIdx_eq_take_drop_succ,bZ,List.map_take,List.map_drop];exact this
 ·have:=eM.length_le;omega
 ·rcases ij with e|e
  ·exact .inl (by rw [<-e];exact hb)
  ·rw [e] at hb;cases hb;exact .inr (aB _)
theorem Hr {α:Type} {f:α->Nat} {l:List α} {i:Nat} {y:α} (hd:(l.map f).Nodup) (hi:l[i]? =some y):f y ∉(l.eraseIdx i).map f:=by
 rw [List.eraseIdx_eq_take_drop_succ,bZ];have e:l=l.take i++y::l.drop (i+1):=by have:=List.take_append_drop i l;rw [List.drop_eq_getElem_cons (cR.1 hi).1] at this;rw [<-(cR.1 hi).2];exact this.symm
 rw [e,bZ,fT] at hd;obtain ⟨h1,h2,h3⟩:=List.nodup_append.1 hd;intro hm;rcases dR.1 hm with hm|hm
 ·exact h3 _ hm _ (.head _) rfl
 ·exact (List.nodup_cons.1 h2).1 hm
theorem DL {w:World} {t st d:Nat} {r:Dm} {sl:Sl} {D:Dk} {ar limit:Int} {its:List It} (h:TO w t st d r sl D ar limit its) {i:Nat} {y:It} (hi:its[i]? =some y):
  ah 74 #[t,.int .i64 (i:Nat)] w λe w'=>e=Value.pointer (some ⟨y.x,0,none⟩)/\∃sl',TO w' t st d r sl' D ar limit (its.eraseIdx i++ [y])/\aN (aH t st d r sl its) (aH t st d r sl' (its.eraseIdx i++ [y])) w w':=by
 apply xG.vc;have MR:=(cR.1 hi).1;have ZN:y ∈ its:=aZ hi;have dG:=h.len;refine (DK h hi).mono ?_;rintro e w0 ⟨rfl,sl0,h0,m0,b0⟩;have hy0:=h.item m0 (h.it y ZN);refine ⟨_,rfl,sl0,h0.rt.at 3 rfl,λw3 e3=> ?_⟩;have x3:=aL e3;have h3:=h0.ext x3;have eM:List.Sublist (its.eraseIdx i) its:=List.eraseIdx_sublist ..;have iV:(its.eraseIdx i).length=its.length-1:=by rw [List.length_eraseIdx,if_pos MR]
 obtain ⟨hp,hr⟩:=h3.push y (hy0.ext x3) (Hr h.dx hi) (Hr h.dg hi) aa;refine ⟨hp,λs4 w5 bo=> ?_⟩;obtain ⟨m5,p1,p2⟩:=hr s4 w5 bo;have ht0:=h0.rt.lt;have z3:=eN e3;refine ⟨m5.same _ aa λe=>by have:=(h0.ol.own.lt e).2;omega,⟨rfl,p1⟩,λe=> ?_,λw6 e6=>⟨rfl,s4,?_⟩⟩
 ·rw [cY] at e;have:t=w0.heap.size:=by simpa [bC] using e
  omega
 ·obtain ⟨q1,q2,q3⟩:=p2 w6 e6;have z0:=m0.size;refine ⟨q1,⟨?_,?_⟩⟩
  ·have a1:Mod (aH t st d r sl its) w w3:=(m0.mono λi _ hi=>xL i hi).trans (Mod.aD x3);refine a1.tr q2 λj hj=> ?_
   rcases hj with e|e
   ·exact .inl (.inl e)
   ·rcases b0 j e with e|e
    ·exact .inl (.inr (.inr (.inr (.inr (.inl e)))))
    ·exact .inr e
  ·refine DJ (w:=w) (λb hb=> ?_) (λz hz=> .inl ?_)
   ·rcases q3 b hb with e|e
    ·exact b0 b e
    ·exact .inr aa
   ·rcases dR.1 hz with hz|hz
    ·exact eM.subset hz
    ·simp at hz;subst hz;exact ZN
theorem TO.put {w w':World} {t st d:Nat} {r:Dm} {sl:Sl} {D:Dk} {ar limit:Int} {its:List It} (h:TO w t st d r sl D ar limit its) {i:Nat} {y y':It} (hi:its[i]? =some y) (hx:y'.x=y.x) (hg:y'.g=y.g) (hm:Mod (λj=>j=y.x) w w') (hy:uF w' y'):TO w' t st d r sl D ar limit (its.set i y'):=by
 have MR:=(cR.1 hi).1;have hr:=(h.it y (aZ hi)).r;have off:∀{j:Nat} {cs:LV} {τ:TypeId},Row w j cs τ->τ≠cC->¬j=y.x:=λhr' ht e=>hr'.ne hr ht e
 have hpx:By (its.set i y')=By its:=by
  unfold By;rw [List.map_set,hx];apply iX;intro j;rw [kG];split
  ·rename_i e;subst e;rw [if_pos (by rw [aM];exact MR),aS,hi];rfl
  ·rfl
 have hmx:(its.set i y').map (·.x)=its.map (·.x):=by
  rw [List.map_set,hx];apply iX;intro j;rw [kG];split
  ·rename_i e;subst e;rw [if_pos (by rw [aM];exact MR),aS,hi];rfl
  ·rfl
 have hmg:(its.set i y').map (·.g)=its.map (·.g):=by
  rw [List.map_set,hg];apply iX;intro j;rw [kG];split
  ·rename_i e;subst e;rw [if_pos (by rw [aM];exact MR),aS,hi];rfl
  ·rfl
 refine ⟨hm.row h.rt (off h.rt aE),h.so.c9 hm (λhr' hτ=>by rcases hτ with rfl|rfl|rfl|rfl<;>exact off hr' aE) (λhmp e=>hr.ji hmp e.symm),?_,λz hz=> ?_,by rw [hmx];exact h.dx,by rw [hmg];exact h.dg,h.Wy,by rw [ir];exact h.len⟩
 ·rw [hpx];exact hm.fm h.ol λb hb=>by obtain ⟨cs',hr'⟩:=bc h.ol aE hb;exact off hr' aE
 ·obtain ⟨j,hj⟩:=List.getElem?_of_mem hz;rw [kG] at hj;split at hj
  ·cases hj;exact hy
  ·rename_i jb;have hzj:=h.it z (aZ hj);refine hzj.c9 hm (λe=> ?_) (off hzj.k.row aE) (λb hb=> ?_)
   ·
    have h1:(its.map (·.x))[i]? =some y.x:=by rw [aS,hi];rfl
    have h2:(its.map (·.x))[j]? =some z.x:=by rw [aS,hj];rfl
    have NJ:=(cR.1 hj).1;rw [e,<-h1] at h2;exact jb ((List.getElem?_inj (by rw [aM];exact NJ) h.dx).1 h2).symm
   ·obtain ⟨cs',hr'⟩:=bc hzj.k.own aE hb;exact off hr' aE
theorem Xu {t st d:Nat} {r:Dm} {sl:Sl} {its:List It} {i:Nat} {y y':It} (hi:its[i]? =some y) (hx:y'.x=y.x) (hg:y'.g=y.g) (hs:y'.s=y.s):∀j,aH t st d r sl (its.set i y') j->aH t st d r sl its j:=by
 rintro j (e|e|e|e|e|⟨z,hz,e⟩)
 ·exact .inl e
 ·exact .inr (.inl e)
 ·exact .inr (.inr (.inl e))
 ·exact .inr (.inr (.inr (.inl e)))
 ·exact .inr (.inr (.inr (.inr (.inl e))))
 ·rcases kJ hz with hz|hz
  ·exact .inr (.inr (.inr (.inr (.inr ⟨z,hz,e⟩))))
  ·subst hz;rw [hx,hg,hs] at e;exact .inr (.inr (.inr (.inr (.inr ⟨y,aZ hi,e⟩))))
abbrev En:=Po × List Int × Bool × Int
def It.ob (i:It):En:=(i.p,i.C,i.nM,i.pins)
abbrev fO (its:List It):List En:=its.map It.ob
theorem uf (its:List It) (i:Nat):fO (its.eraseIdx i)=(fO its).eraseIdx i:=by unfold fO;rw [List.eraseIdx_eq_take_drop_succ,List.eraseIdx_eq_take_drop_succ,bZ,List.map_take,List.map_drop]
theorem KF (its:List It) (p:Po):cu (λe:En=>e.1==p) (fO its)=cu (λi:It=>i.p==p) its:=kS It.ob _ its
abbrev Tb:=Dk × List En
def dw (D:Dk) (e:En):Dk × En × Int:=
 if e.2.2.1=true then ((xh D (Bw e.1) (qI (gK e.2.1))).1,(e.1,e.2.1,decide ((xh D (Bw e.1) (qI (gK e.2.1))).2≠0),e.2.2.2),(xh D (Bw e.1) (qI (gK e.2.1))).2) else (D,e,0)
def Wz (D:Dk) (l:List En) (i:Nat):Tb × Int:=
 match l[i]? with
 |none=>((D,l),0)
 |some e=>if (dw D e).2.2=0 then (((dw D e).1,l.eraseIdx i),0) else (((dw D e).1,l.set i (dw D e).2.1),(dw D e).2.2)
def fU (limit:Int) (D:Dk) (l:List En):Tb × Int:=
 if (l.length:Int)<limit then ((D,l),0) else if cu (λe:En=>e.2.2.2==0) l<0 then ((D,l),8) else Wz D l (cu (λe:En=>e.2.2.2==0) l).toNat
theorem TO.Xv {w:World} {t st d:Nat} {r:Dm} {sl:Sl} {D:Dk} {ar limit:Int} {its:List It} (h:TO w t st d r sl D ar limit its) {j:Nat} {cs:LV} {τ:TypeId} (hr:Row w j cs τ) (h1:τ≠tp) (h2:τ≠tW):¬(j=d\/r.ls.aY=some j):=by
 rintro (e|e)
 ·exact hr.ne h.so.dk.rd h1 e
 ·obtain ⟨cs',hr'⟩:=bc h.so.dk.ol aE e;exact hr.ne hr' h2 rfl
theorem TO.store {w w':World} {t st d:Nat} {r r':Dm} {sl:Sl} {D D':Dk} {ar limit:Int} {its:List It} (h:TO w t st d r sl D ar limit its) (hm:Mod (λi=>i=d\/r.ls.aY=some i) w w') (hs:SO w' st d r' D'):TO w' t st d r' sl D' ar limit its:=by
 refine ⟨hm.row h.rt (h.Xv h.rt aE aE),hs,hm.fm h.ol λb hb=> ?_,λy hy=> ?_,h.dx,h.dg,h.Wy,h.len⟩
 ·obtain ⟨cs',hr'⟩:=bc h.ol aE hb;exact h.Xv hr' aE aE
 ·have hy':=h.it y hy;refine hy'.c9 hm (h.Xv hy'.r aE aE) (h.Xv hy'.k.row aE aE) λb hb=> ?_
  obtain ⟨cs',hr'⟩:=bc hy'.k.own aE hb;exact h.Xv hr' aE aE
theorem Dh {n:Nat} {t st d:Nat} {r r':Dm} {sl:Sl} {its:List It} (hs:∀i,dF d r' i->dF d r i\/n<=i):∀i,aH t st d r' sl its i->aH t st d r sl its i\/n<=i:=by
 rintro i (e|e|e|e|e|e)
 ·exact .inl (.inl e)
 ·exact .inl (.inr (.inl e))
 ·exact .inl (.inr (.inr (.inl e)))
 ·rcases hs i (.inr e) with q|q
  ·rcases q with q|q
   ·exact .inl (.inr (.inr (.inl q)))
   ·exact .inl (.inr (.inr (.inr (.inl q))))
  ·exact .inr q
 ·exact .inl (.inr (.inr (.inr (.inr (.inl e)))))
 ·exact .inl (.inr (.inr (.inr (.inr (.inr e)))))
theorem RF {t st d:Nat} {r:Dm} {sl:Sl} {its:List It}:∀i,(i=d\/r.ls.aY=some i)->aH t st d r sl its i:=by
 rintro i (e|e)
 ·exact .inr (.inr (.inl e))
 ·exact .inr (.inr (.inr (.inl (.inr (.inl e)))))
theorem abX {C:List Int}:mz (qI (gK C)):=afu _
theorem afv {C:List Int} (hl:C.length=8192):(qI (gK C)).length<=65536:=by have h1:=RG (gK C);have h2:=qJ C;omega
set_option maxRecDepth 100000 in
theorem zB {w:World} {t st d:Nat} {r:Dm} {sl:Sl} {D:Dk} {ar limit:Int} {its:List It} (h:TO w t st d r sl D ar limit its) (hW:D.l.length<=1000000) {i:Nat} {y:It} (hi:its[i]? =some y):
  ah 79 #[t,.pointer (some ⟨y.x,0,none⟩)] w λe w'=>e=Value.int .i64 (dw D y.ob).2.2/\∃r' y',TO w' t st d r' sl (dw D y.ob).1 ar limit (its.set i y')/\y'.ob=(dw D y.ob).2.1/\aN (aH t st d r sl its) (aH t st d r' sl (its.set i y')) w w':=by
 apply zC.vc;have ZN:=aZ hi;have hy:=h.it y ZN;have oA:its.set i y=its:=by obtain ⟨hl,he⟩:=cR.1 hi;rw [<-he];exact List.set_getElem_self hl
 refine ⟨_,hy.r.at 1 rfl,Br.mk (λhb=> ?_) (λhb=> ?_)⟩
 ·have hd:y.nM=false:=by simpa using hb
  have e:dw D y.ob=(D,y.ob,0):=by unfold dw;rw [if_neg (by show ¬y.nM=true;rw [hd];decide)]
  rw [e];exact ⟨rfl,r,y,by rw [oA];exact h,rfl,by rw [oA];exact aN.refl _ _⟩
 ·have hd:y.nM=true:=by simpa using hb
  have e:dw D y.ob=((xh D (Bw y.p) (qI (gK y.C))).1,(y.p,y.C,decide ((xh D (Bw y.p) (qI (gK y.C))).2≠0),y.pins),(xh D (Bw y.p) (qI (gK y.C))).2):=by unfold dw;rw [if_pos (by show y.nM=true;exact hd)];rfl
  rw [e];refine ⟨_,hy.r.at 0 rfl,AV (AV ⟨_,_,hy.k.pos,(vB y.p w).mono ?_⟩)⟩;rintro e w4 ⟨rfl,x4⟩;refine ⟨_,_,rfl,(RH y.p w4).mono ?_⟩;rintro e w7 ⟨rfl,x7⟩;have x07:=(x4.tr x7).tr (Ext.dr w7);have h7:=h.ext x07;have hy7:=h7.it y ZN;refine ⟨_,_,rfl,_,h7.rt.at 0 rfl,_,hy7.r.at 0 rfl,(O2 hy7.k).mono ?_⟩;rintro e cM ⟨wH,rfl,o13,bU⟩;have Fb:=x07.tr bU;have uU:=h.ext Fb;have hk:=hy.k;refine ⟨wH,rfl,Di (uU.rt.at 0 rfl),(AW uU.so hW (Bw y.p) wH (qI (gK y.C)) (mi.FP o13) abX (fY (afv hk.len) aE)).mono ?_⟩;rintro e bK ⟨rfl,r',agw,m14,f14,-⟩;have h14:=uU.store m14 agw;have yJ:=h14.it y ZN;obtain ⟨p1,p2⟩:=yJ.r.je (j:=1) (v:=.bool ((xh D (Bw y.p) (qI (gK y.C))).2 !=0)) bt rfl;refine ⟨_,rfl,⟨rfl,p1⟩,λcB FE=> ?_⟩;obtain ⟨q1,q2⟩:=p2 cB FE;have uR:((xh D (Bw y.p) (qI (gK y.C))).2 !=0)=decide ((xh D (Bw y.p) (qI (gK y.C))).2≠0):=by rw [Bool.eq_iff_iff];simp
  rw [uR] at q1;have hy':uF cB {y with nM:=decide ((xh D (Bw y.p) (qI (gK y.C))).2≠0)}:=⟨q1,yJ.k.c9 q2 (λe=>yJ.k.row.ne yJ.r aE e) λb hb=>by obtain ⟨cs',hr'⟩:=bc yJ.k.own aE hb;exact hr'.ne yJ.r aE⟩;have z12:=Fb.size;have WE:=m14.size;refine ⟨rfl,r',{y with nM:=decide ((xh D (Bw y.p) (qI (gK y.C))).2≠0)},h14.put hi rfl rfl q2 hy',rfl,?_⟩;have t1:aN (aH t st d r sl its) (aH t st d r' sl its) cM bK:=⟨m14.mono λi _ hi=>RF i hi,Dh f14⟩;have t2:aN (aH t st d r' sl its) (aH t st d r' sl (its.set i {y with nM:=decide ((xh D (Bw y.p) (qI (gK y.C))).2≠0)})) bK cB:=⟨q2.mono λj _ hj=> .inr (.inr (.inr (.inr (.inr ⟨y,ZN,.inl hj⟩)))),λj hj=> .inl (Xu (y':={y with nM:=decide ((xh D (Bw y.p) (qI (gK y.C))).2≠0)}) hi rfl rfl rfl j hj)⟩;exact (aN.aD Fb).trans (t1.trans t2)
abbrev xK (w:World) (t st d:Nat) (r:Dm) (sl:Sl) (ar limit:Int) (its:List It) (T:Tb) (w':World):Prop:=
 ∃r' sl' its',TO w' t st d r' sl' T.1 ar limit its'/\fO its'=T.2/\aN (aH t st d r sl its) (aH t st d r' sl' its') w w'
theorem PB {its:List It} {i:Nat} {y:It} (h:its[i]? =some y):(fO its)[i]? =some y.ob:=by rw [aS,h];rfl
theorem IQ {its:List It} {i:Nat} {y':It} {e:En} (h:y'.ob=e):fO (its.set i y')=(fO its).set i e:=by unfold fO;rw [List.map_set,h]
theorem XY {D:Dk} {l:List En} {i:Nat} {e:En} (h:l[i]? =some e):Wz D l i=if (dw D e).2.2=0 then (((dw D e).1,l.eraseIdx i),0) else (((dw D e).1,l.set i (dw D e).2.1),(dw D e).2.2):=by unfold Wz;rw [h]
theorem Lr {w w':World} {t st d:Nat} {r:Dm} {sl sl':Sl} {its its':List It} (hm:Mod (slF t sl) w w') (hb:∀b,sl'.aY=some b->sl.aY=some b\/w.heap.size<=b) (hs:∀y ∈ its',y ∈ its):aN (aH t st d r sl its) (aH t st d r sl' its') w w':=
 ⟨hm.mono λi _ hi=>xL i hi,DJ hb λy hy=> .inl (hs y hy)⟩
set_option maxRecDepth 100000 in
theorem T8 {w:World} {t st d:Nat} {r:Dm} {sl:Sl} {D:Dk} {ar limit:Int} {its:List It} (h:TO w t st d r sl D ar limit its) (hW:D.l.length<=1000000):
  ah 75 #[t] w λe w'=>e=Value.int .i64 (fU limit D (fO its)).2/\xK w t st d r sl ar limit its (fU limit D (fO its)).1 w'/\((fU limit D (fO its)).2=0->((fU limit D (fO its)).1.2.length:Int)+1<=limit):=by
 apply zO.vc;have hd:=h.ext (Ext.dr w);have hn:=h.n;have hol:(fO its).length=its.length:=by rw [aM]
 have dG:=h.len;have aaI:=h.Wy;refine ⟨sl,hd.rt.at 3 rfl,limit,hd.rt.at 2 rfl,Br.mk (λhb=> ?_) (λhb=> ?_)⟩
 ·replace hb:=lY hb;have e:fU limit D (fO its)=((D,fO its),0):=by unfold fU;rw [if_pos aa]
  rw [e];exact ⟨rfl,⟨r,sl,its,hd,rfl,aN.aD (Ext.dr w)⟩,λ_=>by simp only;omega⟩
 ·replace hb:=mg hb;refine ⟨sl,hd.rt.at 3 rfl,(tz sl its (·.x) _ (λi=>i.pins==0) w.drew (hd.ol.rd aE) aa ?_).mono ?_⟩
  ·intro y hy w' x';refine cU (by kernel_rfl) (by rfl) ?_;apply vH.vc;have hy':=(hd.it y hy).ext x';exact ⟨_,hy'.r.at 2 rfl,rfl,Ext.cQ _⟩
  ·rintro e w3 ⟨rfl,x3⟩;have h3:=hd.ext x3;have Wi:cu (λe:En=>e.2.2.2==0) (fO its)=cu (λi:It=>i.pins==0) its:=kS It.ob _ its;have Av:Ext w w3:=(Ext.dr w).tr x3;refine ⟨_,rfl,Br.mk (λjU=> ?_) (λjU=> ?_)⟩
   ·replace jU:=lY jU;have e:fU limit D (fO its)=((D,fO its),8):=by unfold fU;rw [if_neg aa,if_pos aa]
    rw [e];exact ⟨rfl,⟨r,sl,its,h3,rfl,aN.aD Av⟩,λh=>by simp at h⟩
   ·replace jU:=mg jU;rcases fg (λi:It=>i.pins==0) its with ⟨h1,-⟩|⟨k,y,hk,-,hfk,-⟩
    ·omega
    ·have e:fU limit D (fO its)=Wz D (fO its) k:=by unfold fU;rw [if_neg aa,if_neg aa,Wi,hfk];rfl
     rw [hfk,e,XY (PB hk)];obtain ⟨a1,a2⟩:=h3.at hk;have N6:=(cR.1 hk).1;refine ⟨sl,h3.rt.at 3 rfl,a1,_,a2,(zB h3 hW hk).mono ?_⟩;rintro e w7 ⟨rfl,r',y',h7,WK,t7⟩;refine ⟨_,rfl,Br.mk (λhz=> ?_) (λhz=> ?_)⟩
     ·have hz:(dw D y.ob).2.2=0:=by simpa using hz
      have hk':(its.set k y')[k]? =some y':=oF N6;refine (DK h7 hk').mono ?_;rintro e w9 ⟨rfl,sl',h9,m9,b9⟩;rw [List.eraseIdx_set_eq] at h9;refine ⟨_,rfl,?_⟩;rw [if_pos hz];refine ⟨by rw [hz],⟨r',sl',_,h9,uf _ _,(aN.aD Av).trans (t7.trans (Lr m9 b9 λz hz=> ?_))⟩,λ_=> ?_⟩
      ·rw [<-List.eraseIdx_set_eq (l:=its) (i:=k) (a:=y')] at hz;exact (List.eraseIdx_sublist ..).subset hz
      ·simp only [List.length_eraseIdx];split<;>omega
     ·have hz:(dw D y.ob).2.2≠0:=by simpa using hz
      rw [if_neg hz];exact ⟨rfl,⟨r',sl,_,h7,IQ WK,(aN.aD Av).trans t7⟩,λq=>absurd q hz⟩
theorem IS (D:Dk) (e:En):(dw D e).1.l.length<=D.l.length+1:=by
 unfold dw;split
 ·exact Xk _ _ _
 ·exact Nat.le_succ _
theorem aed (D:Dk) (l:List En) (i:Nat):(Wz D l i).1.1.l.length<=D.l.length+1:=by
 unfold Wz;split
 ·exact Nat.le_succ _
 ·split<;>exact IS _ _
theorem IT (limit:Int) (D:Dk) (l:List En):(fU limit D l).1.1.l.length<=D.l.length+1:=by
 unfold fU;split
 ·exact Nat.le_succ _
 ·split
  ·exact Nat.le_succ _
  ·exact aed _ _ _
theorem acd {p:Po} (h:sN p):Tk p:=by unfold sN at h;unfold Tk;omega
def vN (ar:Int) (p:Po) (b:List Int):List Int:=if (iZ cX b 8192).2=0 then cA (iZ cX b 8192).1 else made ar p
def IU (ar limit:Int) (D:Dk) (l:List En) (p:Po):Tb × Int:=
 if ¬sN p then ((D,l),5)
 else if 0<=cu (λe:En=>e.1==p) l then ((D,l.eraseIdx (cu (λe:En=>e.1==p) l).toNat++l[(cu (λe:En=>e.1==p) l).toNat]?.toList),0)
 else if (fU limit D l).2≠0 then fU limit D l
 else (((fU limit D l).1.1,(fU limit D l).1.2++ [(p,vN ar p (G6 (fU limit D l).1.1 (Bw p)).1,false,0)]),0)
set_option maxRecDepth 100000 in
theorem gk {w v:World} {t st d:Nat} {r:Dm} {sl:Sl} {D:Dk} {ar limit:Int} {its:List It} (h:TO v t st d r sl D ar limit its) (hw:w.heap.size<v.heap.size) (hwf:¬aH t st d r sl its w) (htw:t<w) (hr:(its.length:Int)+1<=limit) {g:Nat} {s:Sl} {p:Po} {C:List Int} (hk:Ga v g s p C) (hg:g ∉ its.map (·.g)) (u:World) (hn:u.heap.size<=v.heap.size) (hgn:u.heap.size<=g) (tU:∀b,s.aY=some b->u.heap.size<=b)
  {K:World->Prop} (hK:∀w',(∃s' y,TO w' t st d r s' D ar limit (its++ [y])/\y.ob=(p,C,false,0)/\(∀i,aH t st d r s' (its++ [y]) i->aH t st d r sl its i\/u.heap.size<=i)/\Mod (aH t st d r sl its) v w')->K w'):
  ∃(Q9:Sl),ld v (ae (some ⟨t,0,none⟩) 3)=some (.slice Q9.a Q9.n Q9.c)/\
   ∀cL:World,cL=v.alloc (.cells #[g,false,ab] cC)->
   ∀dT:World,dT=cL.alloc (.cells #[v] XZ)->
   ba 8 1 dT ⟨Q9.a,Q9.n,Q9.c⟩ 1 [v]/\∀(rE:Sl) (cP:World),aV XZ 1 dT ⟨Q9.a,Q9.n,Q9.c⟩ 1 [v] rE cP->cP.heap[w.heap.size]? =dT.heap[w.heap.size]?/\cP.heap[cL.heap.size]? =dT.heap[cL.heap.size]?/\
    (true=true/\Wr cP (ae (some ⟨t,0,none⟩) 3) 1)/\bC (ae (some ⟨t,0,none⟩) 3)≠some w.heap.size/\bC (ae (some ⟨t,0,none⟩) 3)≠some cL.heap.size/\(∀eG:World,eG=aG cP (ae (some ⟨t,0,none⟩) 3) [.slice rE.a rE.n rE.c]->K eG):=by
 refine ⟨sl,h.rt.at 3 rfl,λcL wN dT H5=> ?_⟩;have dI:=aL wN;have dz:=aL H5;have z22:=eN wN;have z23:dT.heap.size=v.heap.size+2:=by rw [H5];simp [z22]
 have hy:uF dT ⟨v.heap.size,g,s,p,C,false,0⟩:=⟨(by rw [wN];exact Row.new v [_,_,_] _:Row cL v.heap.size [g,false,ab] cC).ext dz,(hk.ext dI).ext dz⟩;have h23:=(h.ext dI).ext dz;have hxn:v.heap.size ∉ its.map (·.x):=λhm=>by obtain ⟨z,hz,e⟩:=bg.1 hm;have:=(h.it z hz).r.lt;omega
 obtain ⟨hp,bo⟩:=h23.push _ hy hxn hg hr;refine ⟨hp,λrE cP adK=> ?_⟩;obtain ⟨m25,p1,p2⟩:=bo rE cP adK;have pb:∀j:Nat,t<j->bC (ae (some ⟨t,0,none⟩) 3)≠some j:=λj hj e=>by
  rw [cY] at e;have:t=j:=by simpa [bC] using e
  omega
 have htl:=h.rt.lt;refine ⟨m25.same _ aa λe=>hwf (.inr (.inr (.inr (.inr (.inl e))))),m25.same _ aa λe=>by have:=(h.ol.own.lt e).2;omega,⟨rfl,p1⟩,pb _ htw,pb _ aa,λeG yU=>hK eG ⟨rE,⟨v.heap.size,g,s,p,C,false,0⟩,?_,rfl,?_,?_⟩⟩
 ·exact (p2 eG yU).1
 ·obtain ⟨-,q2,q3⟩:=p2 eG yU;rintro i hi;exact DJ (w:=u) (sl:=sl) (its:=its) (λb hb=>(q3 b hb).imp id λe=>by omega) (λz hz=>by
   rcases dR.1 hz with hz|hz
   ·exact .inl hz
   ·simp at hz;subst hz;exact .inr ⟨hn,hgn,tU⟩) i hi
 ·obtain ⟨-,q2,q3⟩:=p2 eG yU;exact (Mod.aD (dI.tr dz)).trans (q2.mono λi _ hi=>xL i hi)
set_option maxRecDepth 100000 in
theorem T9 {w:World} {t st d:Nat} {r:Dm} {sl:Sl} {D:Dk} {ar limit:Int} {its:List It} (h:TO w t st d r sl D ar limit its) (hW:D.l.length<=1000000) (p:Po):
  ah 20 #[t,pv p] w λe w'=>e=Value.int .i64 (IU ar limit D (fO its) p).2/\xK w t st d r sl ar limit its (IU ar limit D (fO its) p).1 w':=by
 apply zM.vc;intro w0 e0;have z0:=eN e0;have x0:=aL e0;refine (RH p w0).mono ?_;rintro e w1 ⟨rfl,x1⟩;have z1:=x1.size;have jC:=x0.tr x1;refine ⟨_,_,rfl,x1.heap aa,?_⟩;by_cases mW:sN p
 ·rw [decide_eq_true mW];refine Br.mk (λh=>by cases h) (λ_=> ?_);have h1:=h.ext jC;refine (find_spec h1 p).mono ?_;rintro e w4 ⟨rfl,x4⟩;have z4:=x4.size;have Bq:=jC.tr x4;have h4:=h.ext Bq;have Wi:cu (λe:En=>e.1==p) (fO its)=cu (λi:It=>i.p==p) its:=kS It.ob _ its;have bx:¬aH t st d r sl its w:=λhf=>by have:=h.lt hf;omega
  refine ⟨_,rfl,x4.heap aa,?_⟩;rcases fg (λi:It=>i.p==p) its with ⟨hf,-⟩|⟨k,y,hk,-,hf,-⟩
  ·rw [hf];refine Br.mk (λh=>by simp at h) (λ_=> ?_);have hE:IU ar limit D (fO its) p=if (fU limit D (fO its)).2≠0 then fU limit D (fO its) else (((fU limit D (fO its)).1.1,(fU limit D (fO its)).1.2++ [(p,vN ar p (G6 (fU limit D (fO its)).1.1 (Bw p)).1,false,0)]),0):=by unfold IU;rw [if_neg (by simpa using mW),Wi,hf,if_neg aE]
   rw [hE];refine (T8 h4 hW).mono ?_;rintro e w8 ⟨rfl,⟨r8,sl8,its8,h8,wQ,t8⟩,hl8⟩;have hWl:((fU limit D (fO its)).1.1).l.length<=1000001:=by have:=IT limit D (fO its);omega
   generalize fU limit D (fO its)=R at*;have z8:=t8.mod.size;have t08:aN (aH t st d r sl its) (aH t st d r8 sl8 its8) w w8:=(aN.aD Bq).trans t8;refine ⟨_,rfl,t8.mod.same _ aa bx,Br.mk (λhb=> ?_) (λhb=> ?_)⟩
   ·have jb:R.2≠0:=by simpa using hb
    rw [if_pos jb];exact ⟨rfl,r8,sl8,its8,h8,wQ,t08⟩
   ·have he:R.2=0:=by simpa using hb
    rw [if_neg (by rw [he];decide)];have hroom:=hl8 he;rw [<-wQ,aM] at hroom;refine ⟨_,h8.rt.at 0 rfl,(Ls h8.so aa _).mono ?_⟩;rintro e aW ⟨jJ,rfl,aho,hby,kF,hsc,-,bz⟩;have z11:=bz.size;have bx8:¬aH t st d r8 sl8 its8 w:=λhf=>by
     rcases t8.sub _ hf with q|q
     ·exact bx q
     ·have:=Bq.size;omega
    refine ⟨jJ,_,_,rfl,bz.heap aa,?_⟩;refine (Ua p jJ (G6 R.1.1 (Bw p)).1 aW aho hby hsc aa).mono ?_;rintro e dY ⟨bo,cm⟩;have z15:=cm.size;have htw:=h.rt.lt;have fin:∀{w' v:World} {C:List Int},Ext w8 v->(∃s' y,TO w' t st d r8 s' R.1.1 ar limit (its8++ [y])/\y.ob=(p,C,false,0)/\(∀i,aH t st d r8 s' (its8++ [y]) i->aH t st d r8 sl8 its8 i\/w8.heap.size<=i)/\Mod (aH t st d r8 sl8 its8) v w')->C=vN ar p (G6 R.1.1 (Bw p)).1->
      Ending.returned (0:Int)=(0:Int)/\xK w t st d r sl ar limit its (R.1.1,R.1.2++ [(p,vN ar p (G6 R.1.1 (Bw p)).1,false,0)]) w':=by
     rintro w' v C xv ⟨s',y,hT,WK,eM,hm⟩ rfl;refine ⟨rfl,r8,s',_,hT,?_,t08.trans ⟨(Mod.aD xv).trans hm,eM⟩⟩;unfold fO;rw [bZ];change fO its8++ [y.ob]=_;rw [wQ,WK]
    rcases bo with ⟨hz,g,sg,rfl,hk,hg,-,hgb⟩|⟨hz,rfl⟩
    ·refine ⟨_,_,rfl,cm.heap aa,Br.mk (λq=>by simp at q) (λ_=> ?_)⟩;have aaJ:=bz.tr cm;have h15:=h8.ext aaJ;have hgn:g ∉ its8.map (·.g):=λhm=>by obtain ⟨z,hz,e⟩:=bg.1 hm;have:=(h8.it z hz).k.row.lt;omega
     refine gk (w:=w) h15 aa bx8 htw hroom hk hgn w8 aa aa (λb hb=>by have:=hgb b hb;omega) λw' hw'=>fin aaJ hw' ?_
     unfold vN;rw [if_pos hz]
    ·refine ⟨_,_,rfl,cm.heap aa,Br.mk (λ_=> ?_) (λq=>by simp at q;exact absurd q hz)⟩;have aaJ:=bz.tr cm.drew;have h15:=h8.ext aaJ;refine ⟨ar,h15.rt.at 1 rfl,(PC ar p (acd mW) dY.drew).mono ?_⟩;rintro e fy ⟨g,sg,rfl,hk,cr,hg,FB⟩;have z19:=cr.size;have zd:=lv dY;have h19:=h15.ext cr;have hgn:g ∉ its8.map (·.g):=λhm=>by obtain ⟨z,hz,e⟩:=bg.1 hm;have:=(h15.it z hz).k.row.lt;omega
     refine ⟨_,rfl,cr.heap aa,gk (w:=w) h19 aa bx8 htw hroom hk hgn w8 aa aa (λb hb=>by have:=FB b hb;omega) λw' hw'=>fin (aaJ.tr cr) hw' ?_⟩;unfold vN;rw [if_neg hz]
  ·rw [hf];refine Br.mk (λ_=> ?_) (λh=>by simp at h);have hE:IU ar limit D (fO its) p=((D,(fO its).eraseIdx k++ [y.ob]),0):=by unfold IU;rw [if_neg (by simpa using mW),Wi,hf,if_pos aa,eJ,aS,hk];rfl
   rw [hE];refine (DL h4 hk).mono ?_;rintro e w6 ⟨rfl,sl6,h6,t6⟩;have z6:=t6.mod.size;refine ⟨_,rfl,t6.mod.same _ aa bx,rfl,r,sl6,_,h6,?_,(aN.aD Bq).trans t6⟩;unfold fO;rw [bZ];change fO _++_=_;rw [uf];rfl
 ·rw [decide_eq_false mW];refine Br.mk (λ_=> ?_) (λh=>by cases h);have hE:IU ar limit D (fO its) p=((D,fO its),5):=by unfold IU;rw [if_pos mW]
  rw [hE];exact ⟨rfl,r,sl,its,h.ext jC,rfl,aN.aD jC⟩
theorem yes {b:Bool} {A B:Prop} (hb:b=true) (h:A):Br b A B:=by subst hb;exact h
theorem eI {b:Bool} {A B:Prop} (hb:b=false) (h:B):Br b A B:=by subst hb;exact h
def nT (D:Dk) (l:List En) (p:Po):Tb × Int:=
 if 0<=cu (λe:En=>e.1==p) l then
  (if 0<(l[(cu (λe:En=>e.1==p) l).toNat]?.map (·.2.2.2)).getD 0 then ((D,l),10) else Wz D l (cu (λe:En=>e.1==p) l).toNat) else ((D,l),6)
theorem LD {w:World} {t st d:Nat} {r:Dm} {sl:Sl} {D:Dk} {ar limit:Int} {its:List It} (h:TO w t st d r sl D ar limit its) (hW:D.l.length<=1000000) (p:Po):
  ah 21 #[t,pv p] w λe w'=>e=Value.int .i64 (nT D (fO its) p).2/\xK w t st d r sl ar limit its (nT D (fO its) p).1 w':=by
 apply vJ.vc;intro w0 e0;have z0:=eN e0;have x0:=aL e0;have h0:=h.ext x0;refine (find_spec h0 p).mono ?_;rintro e w1 ⟨rfl,x1⟩;have z1:=x1.size;have jC:=x0.tr x1;have h1:=h.ext jC;have bx:¬aH t st d r sl its w:=λhf=>by have:=h.lt hf;omega
 refine ⟨_,rfl,x1.heap aa,?_⟩;rcases fg (λi:It=>i.p==p) its with ⟨hf,-⟩|⟨k,y,hk,hyp,hf,-⟩
 ·have hE:nT D (fO its) p=((D,fO its),6):=by unfold nT;rw [KF,hf,if_neg aE]
  rw [hf,hE];exact Br.mk (λ_=>⟨rfl,r,sl,its,h1,rfl,aN.aD jC⟩) (λh=>by simp at h)
 ·have WK:(fO its)[k]?.map (·.2.2.2)=some y.pins:=by rw [aS,hk];rfl
  have hE:nT D (fO its) p=if 0<y.pins then ((D,fO its),10) else Wz D (fO its) k:=by unfold nT;rw [KF,hf,if_pos aa,eJ,WK];rfl
  rw [hf,hE];refine Br.mk (λh=>by simp at h;omega) (λ_=> ?_);have ZN:=aZ hk;have hy:=h1.it y ZN;have N6:=(cR.1 hk).1;obtain ⟨a1,a2⟩:=h1.at hk;refine ⟨sl,h1.rt.at 3 rfl,a1,_,a2,AV (AV ⟨y.pins,hy.r.at 2 rfl,Br.mk (λhb=> ?_) (λhb=> ?_)⟩)⟩
  ·have hz:0<y.pins:=by simpa using hb
   rw [if_pos hz];exact ⟨rfl,r,sl,its,h1,rfl,aN.aD jC⟩
  ·have hz:¬0<y.pins:=by simpa using hb
   rw [if_neg hz,XY (PB hk)];refine ⟨sl,h1.rt.at 3 rfl,a1,_,a2,(zB h1 hW hk).mono ?_⟩;rintro e w8 ⟨rfl,r',y',h8,hob8,t8⟩;have z8:=t8.mod.size;refine ⟨_,rfl,t8.mod.same _ aa bx,Br.mk (λhz=> ?_) (λhz=> ?_)⟩
   ·have hz:(dw D y.ob).2.2=0:=by simpa using hz
    have hk':(its.set k y')[k]? =some y':=oF N6;refine (DK h8 hk').mono ?_;rintro e w9 ⟨rfl,sl',h9,m9,b9⟩;rw [List.eraseIdx_set_eq] at h9;have bx8:¬slF t sl w:=λq=>bx (xL _ q)
    refine ⟨_,rfl,m9.same _ aa bx8,?_⟩;rw [if_pos hz];refine ⟨by rw [hz],r',sl',_,h9,uf _ _,(aN.aD jC).trans (t8.trans (Lr m9 b9 λz hz=> ?_))⟩;rw [<-List.eraseIdx_set_eq (l:=its) (i:=k) (a:=y')] at hz;exact (List.eraseIdx_sublist ..).subset hz
   ·have hz:(dw D y.ob).2.2≠0:=by simpa using hz
    rw [if_neg hz];exact ⟨rfl,r',sl,_,h8,IQ hob8,(aN.aD jC).trans t8⟩
def Yi (D:Dk) (pre:List En):List En->Int->Tb × Int × Int
 | [],n=>((D,pre),n,0)
 |e::t,n=>if (dw D e).2.2=0 then Yi (dw D e).1 (pre++ [(dw D e).2.1]) t (if e.2.2.1=true then n+1 else n) else (((dw D e).1,pre++(dw D e).2.1::t),n,(dw D e).2.2)
def mu (D:Dk) (l:List En):Tb × Int × Int:=Yi D [] l 0
theorem afN {D:Dk} {l pre:List En} {n:Int} {k:Nat} {e:En} (h:l[k]? =some e):Yi D pre (l.drop k) n=if (dw D e).2.2=0 then Yi (dw D e).1 (pre++ [(dw D e).2.1]) (l.drop (k+1)) (if e.2.2.1=true then n+1 else n) else (((dw D e).1,pre++(dw D e).2.1::l.drop (k+1)),n,(dw D e).2.2):=by have hk:=cR.1 h;rw [List.drop_eq_getElem_cons hk.1,hk.2];rfl
set_option maxRecDepth 100000 in
theorem Gd {w:World} {t st d:Nat} {r:Dm} {sl:Sl} {D:Dk} {ar limit:Int} {its:List It} (h:TO w t st d r sl D ar limit its) (hW:D.l.length<=900000):
  ah 22 #[t] w λe w'=>e=Value.tuple #[.int .i64 (mu D (fO its)).2.1,.int .i64 (mu D (fO its)).2.2]/\xK w t st d r sl ar limit its (mu D (fO its)).1 w':=by
 apply tC.vc;have hn:=h.n;have dG:=h.len;have aaI:=h.Wy;refine ⟨sl,h.rt.at 3 rfl,λn i c wr=>∃(k:Nat) (D':Dk) (r':Dm) (its':List It),i=k/\k+n=its.length/\0<=c/\c<=k/\D'.l.length<=D.l.length+k/\TO wr t st d r' sl D' ar limit its'/\its'.length=its.length/\its'.drop k=its.drop k/\Yi D' ((fO its').take k) ((fO its').drop k) c=mu D (fO its)/\aN (aH t st d r sl its) (aH t st d r' sl its') w wr,
  ⟨its.length,0,D,r,its,rfl,by omega,Int.le_refl 0,Int.le_refl 0,by omega,h,rfl,rfl,rfl,aN.refl _ _⟩,?_⟩
 rintro n us i c wr ⟨k,D',r',its',rfl,hk,c0,ck,hl,hT,SS,hdr,ET,ht⟩;have axE:(fO its').length=its'.length:=by rw [aM]
 apply Br.mk<;>intro hc
 ·replace hc:=lY hc;obtain ⟨y,hy⟩:=bH (l:=its') (i:=k) aa;have hyr:=hT.it y (aZ hy);obtain ⟨a1,a2⟩:=hT.at hy;have N6:k<its'.length:=by omega
  have hn':=hT.n;have wk:=mh (j:=k);have wc:aj (c+1)=c+1:=wI;rw [afN (PB hy)] at ET;have oo:=IS D' y.ob;refine ⟨a1,_,a2,AV (AV ⟨_,hyr.r.at 1 rfl,(zB hT aa hy).mono ?_⟩)⟩;rintro e bD ⟨rfl,r2,y',h10,WK,t10⟩;have oA:fO (its'.set k y')=(fO its').set k (dw D' y.ob).2.1:=IQ WK;have hln2:(its'.set k y').length=its'.length:=ir;have rW:(fO (its'.set k y')).take (k+1)=(fO its').take k++ [(dw D' y.ob).2.1]:=by rw [oA,dE,oF aa,List.take_set_of_le (aB _)];rfl
  have hdk:(fO (its'.set k y')).drop (k+1)=(fO its').drop (k+1):=by rw [oA,List.drop_set_of_lt aa]
  refine ⟨_,rfl,Br.mk (λhb=> ?_) (λhb=> ?_)⟩
  ·have hz:(dw D' y.ob).2.2≠0:=by simpa using hb
   rw [if_neg hz] at ET;rw [<-ET];refine ⟨rfl,r2,sl,_,h10,?_,ht.trans t10⟩;rw [oA];show _=(fO its').take k++(dw D' y.ob).2.1::(fO its').drop (k+1);rw [List.set_eq_take_append_cons_drop,if_pos aa]
  ·have hz:(dw D' y.ob).2.2=0:=by simpa using hb
   rw [if_pos hz] at ET;have hdd:(its'.set k y').drop (k+1)=its.drop (k+1):=by rw [List.drop_set_of_lt aa];have:=congrArg (List.drop 1) hdr;rwa [List.drop_drop,List.drop_drop] at this
   apply Br.mk<;>intro hd
   ·have hd':y.ob.2.2.1=true:=hd;rw [if_pos hd'] at ET;exact ⟨n-1,by omega,k+1,_,r2,_,wk,by omega,by rw [wc];omega,by rw [wc];omega,by omega,h10,by rw [hln2,SS],hdd,by rw [wc,rW,hdk];exact ET,ht.trans t10⟩
   ·have hd':¬y.ob.2.2.1=true:=by show ¬y.nM=true;rw [hd];decide
    rw [if_neg hd'] at ET;exact ⟨n-1,by omega,k+1,_,r2,_,wk,by omega,c0,by omega,by omega,h10,by rw [hln2,SS],hdd,by rw [rW,hdk];exact ET,ht.trans t10⟩
 ·replace hc:=mg hc;rw [List.drop_of_length_le aa,fB aa] at ET;rw [<-ET];exact ⟨rfl,r',sl,its',hT,rfl,ht⟩
theorem Up {w:World} {t st d:Nat} {r:Dm} {sl:Sl} {D:Dk} {ar limit:Int} {its:List It} (h:TO w t st d r sl D ar limit its) (hW:D.l.length<=1000000) (s:Sl) (b:List Int) (hs:gS w s b) (hb:mz b) (hn:b.length<=1099511627776):
  ah 61 #[t,s] w λe w'=>e=Value.int .i64 (xh D 0 b).2/\xK w t st d r sl ar limit its ((xh D 0 b).1,fO its) w':=by
 apply (Aa.vc (a1:=s));refine ⟨_,h.rt.at 0 rfl,(AW h.so hW 0 s b hs hb hn).mono ?_⟩;rintro e w1 ⟨rfl,r',h1,m1,f1,-⟩;exact ⟨_,rfl,rfl,r',sl,its,h.store m1 h1,rfl,m1.mono λi _ hi=>RF i hi,Dh f1⟩
theorem Uq {w:World} {t st d:Nat} {r:Dm} {sl:Sl} {D:Dk} {ar limit:Int} {its:List It} (h:TO w t st d r sl D ar limit its):
  ah 37 #[t] w λe w'=>∃s':Sl,e=s'/\aC w Wx 2 w' s' ((fO its).map λe=> [.int .i64 e.1.1,.int .i64 e.1.2])/\Ext w w':=by
 apply zK.vc;have hn:=h.n;have dG:=h.len;have aaI:=h.Wy;refine ⟨sl,h.rt.at 3 rfl,λn i so wr=>∃k:Nat,i=k/\k+n=its.length/\Ext w wr/\aC w Wx 2 wr so (((fO its).take k).map λe=> [.int .i64 e.1.1,.int .i64 e.1.2]),⟨its.length,0,rfl,by omega,Ext.cQ _,aC.nil⟩,?_⟩;rintro n us i so wr ⟨k,rfl,hk,xr,ho⟩;have SX:=mh (j:=k);have hol:(fO its).length=its.length:=by rw [aM]
 apply Br.mk<;>intro hc
 ·replace hc:=lY hc;obtain ⟨y,hy⟩:=bH (l:=its) (i:=k) aa;have hr:=h.ext xr;obtain ⟨a1,a2⟩:=hr.at hy;have hyr:=hr.it y (aZ hy);refine ⟨a1,_,a2,AV (AV ⟨_,hyr.r.at 0 rfl,AV (AV ⟨_,_,hyr.k.pos,(vB y.p wr).mono ?_⟩)⟩)⟩;rintro e cM ⟨rfl,bU⟩;refine ⟨_,_,rfl,λdY oE=> ?_⟩;have cm:=aL oE;have z12:=bU.size;have zr:=xr.size;have z15:=eN oE;have VS:=(ho.ext bU).ext cm;have SW:=(ho.rd (show 0<2 by decide)).n;rw [aM,dC] at SW;obtain ⟨hp,bo⟩:=VS.append (bytes:=16) (news:=[.int .i64 y.p.1,.int .i64 y.p.2]) aa rfl (zh _ _ _ _) aa aa;refine ⟨hp,λWR cE aaN=> ?_⟩;obtain ⟨aqy,axF,xb,Nt,-⟩:=bo WR cE aaN;refine ⟨Nt _ (λe=>by have:=(ho.own.lt e).2;omega) aa,n-1,by omega,k+1,SX,by omega,(xr.tr (bU.tr cm)).trans xb,?_⟩;have:(fO its).take (k+1)=(fO its).take k++ [y.ob]:=by rw [dE,aS,hy];rfl
  rw [this,bZ];exact aqy
 ·replace hc:=mg hc;rw [fB aa] at ho;exact ⟨so,rfl,ho,xr⟩
theorem nS {w:World} {p:Option Addr} {v:Value} (h:ld w p=some v):ag w p 0 [v]:=by show ld w (ae p 0)=_;rw [gT];exact h
theorem TO.acw {w w':World} {t st d:Nat} {r:Dm} {sl:Sl} {D:Dk} {ar limit:Int} {its:List It} (h:TO w t st d r sl D ar limit its) {i:Nat} {y y':It} (hi:its[i]? =some y) (hx:y'.x=y.x) (hg:y'.g=y.g) (hm:Mod (λj=>j=y.x\/j=y.g) w w') (hy:uF w' y'):TO w' t st d r sl D ar limit (its.set i y'):=by
 have MR:=(cR.1 hi).1;have hr:=(h.it y (aZ hi)).r;have hrg:=(h.it y (aZ hi)).k.row;have off:∀{j:Nat} {cs:LV} {τ:TypeId},Row w j cs τ->τ≠cC->τ≠vU->¬(j=y.x\/j=y.g):=λhr' ht hc e=>by
  rcases e with e|e
  ·exact hr'.ne hr ht e
  ·exact hr'.ne hrg hc e
 have hpx:By (its.set i y')=By its:=by
  unfold By;rw [List.map_set,hx];apply iX;intro j;rw [kG];split
  ·rename_i e;subst e;rw [if_pos (by rw [aM];exact MR),aS,hi];rfl
  ·rfl
 have hmx:(its.set i y').map (·.x)=its.map (·.x):=by
  rw [List.map_set,hx];apply iX;intro j;rw [kG];split
  ·rename_i e;subst e;rw [if_pos (by rw [aM];exact MR),aS,hi];rfl
  ·rfl
 have hmg:(its.set i y').map (·.g)=its.map (·.g):=by
  rw [List.map_set,hg];apply iX;intro j;rw [kG];split
  ·rename_i e;subst e;rw [if_pos (by rw [aM];exact MR),aS,hi];rfl
  ·rfl
 refine ⟨hm.row h.rt (off h.rt aE aE),h.so.c9 hm (λhr' hτ=>by rcases hτ with rfl|rfl|rfl|rfl<;>exact off hr' aE aE) (λhmp e=>by
   rcases e with e|e
   ·exact hr.ji hmp e.symm
   ·exact hrg.ji hmp e.symm),?_,λz hz=> ?_,by rw [hmx];exact h.dx,by rw [hmg];exact h.dg,h.Wy,by rw [ir];exact h.len⟩
 ·rw [hpx];exact hm.fm h.ol λb hb=>by obtain ⟨cs',hr'⟩:=bc h.ol aE hb;exact off hr' aE aE
 ·obtain ⟨j,hj⟩:=List.getElem?_of_mem hz;rw [kG] at hj;split at hj
  ·cases hj;exact hy
  ·rename_i jb;have hzj:=h.it z (aZ hj);have NJ:=(cR.1 hj).1;refine hzj.c9 hm ?_ ?_ (λb hb=> ?_)
   ·rintro (e|e)
    ·have h1:(its.map (·.x))[i]? =some y.x:=by rw [aS,hi];rfl
     have h2:(its.map (·.x))[j]? =some z.x:=by rw [aS,hj];rfl
     rw [e,<-h1] at h2;exact jb ((List.getElem?_inj (by rw [aM];exact NJ) h.dx).1 h2).symm
    ·exact hzj.r.ne hrg aE e
   ·rintro (e|e)
    ·exact hzj.k.row.ne hr aE e
    ·have h1:(its.map (·.g))[i]? =some y.g:=by rw [aS,hi];rfl
     have h2:(its.map (·.g))[j]? =some z.g:=by rw [aS,hj];rfl
     rw [e,<-h1] at h2;exact jb ((List.getElem?_inj (by rw [aM];exact NJ) h.dg).1 h2).symm
   ·obtain ⟨cs',hr'⟩:=bc hzj.k.own aE hb;exact off hr' aE aE
theorem Ur {t st d:Nat} {r:Dm} {sl:Sl} {its:List It} {i n:Nat} {y y':It} (hi:its[i]? =some y) (hx:y'.x=y.x) (hg:y'.g=y.g) (hs:∀b,y'.s.aY=some b->y.s.aY=some b\/n<=b):∀j,aH t st d r sl (its.set i y') j->aH t st d r sl its j\/n<=j:=by
 rintro j (e|e|e|e|e|⟨z,hz,e⟩)
 ·exact .inl (.inl e)
 ·exact .inl (.inr (.inl e))
 ·exact .inl (.inr (.inr (.inl e)))
 ·exact .inl (.inr (.inr (.inr (.inl e))))
 ·exact .inl (.inr (.inr (.inr (.inr (.inl e)))))
 ·have hy:∀i,(i=y.x\/i=y.g\/y.s.aY=some i)->aH t st d r sl its i:=λi e=> .inr (.inr (.inr (.inr (.inr ⟨y,aZ hi,e⟩))))
  rcases kJ hz with hz|hz
  ·exact .inl (.inr (.inr (.inr (.inr (.inr ⟨z,hz,e⟩)))))
  ·subst hz;rw [hx,hg] at e;rcases e with e|e|e
   ·exact .inl (hy j (.inl e))
   ·exact .inl (hy j (.inr (.inl e)))
   ·rcases hs j e with e|e
    ·exact .inl (hy j (.inr (.inr e)))
    ·exact .inr e
instance (c:Ce):Decidable (KC c):=by unfold KC;exact inferInstance
def ig (l:List En) (c:Ce):Int:=
 if cu (λe:En=>e.1==pos c) l<0 then -1 else if c.2.1<0 then 1 else ((l[(cu (λe:En=>e.1==pos c) l).toNat]?).map λe=>kAt e.1 e.2.1 c).getD 0
def kA (l:List En) (c:Ce) (b:Int):List En × Int:=
 if cu (λe:En=>e.1==pos c) l<0 then (l,11) else if ¬KC c then (l,5) else if cX b=false then (l,1) else
  (l.eraseIdx (cu (λe:En=>e.1==pos c) l).toNat++((l[(cu (λe:En=>e.1==pos c) l).toNat]?).map λe=>(e.1,(sD e.1 e.2.1 c b).1,e.2.2.1||(kAt e.1 e.2.1 c !=b),e.2.2.2)).toList,0)
theorem Yj {w:World} {t st d:Nat} {r:Dm} {sl:Sl} {D:Dk} {ar limit:Int} {its:List It} (h:TO w t st d r sl D ar limit its) (c:Ce) (hc:oM c):
  ah 83 #[t,ea c] w λe w'=>e=Value.int .i64 (ig (fO its) c)/\Ext w w':=by
 apply DC.vc;intro w0 e0;have z0:=eN e0;have x0:=aL e0;refine (oN c hc w0).mono ?_;rintro e w1 ⟨rfl,x1⟩;have jC:=x0.tr x1;have z1:=x1.size;refine ⟨_,_,rfl,x1.heap aa,(find_spec (h.ext jC) (pos c)).mono ?_⟩;rintro e w4 ⟨rfl,x4⟩;have z4:=x4.size;have Bq:=jC.tr x4;have Wi:cu (λe:En=>e.1==pos c) (fO its)=cu (λi:It=>i.p==pos c) its:=kS It.ob _ its;refine ⟨_,rfl,x4.heap aa,?_⟩;rcases fg (λi:It=>i.p==pos c) its with ⟨hf,-⟩|⟨k,y,hk,hyp,hf,-⟩
 ·rw [hf];refine Br.mk (λ_=>⟨?_,Bq⟩) (λh=>by simp at h);unfold ig;rw [Wi,hf,if_pos aE]
 ·rw [hf];refine Br.mk (λh=>by simp at h;omega) (λ_=>Br.mk (λhb=> ?_) (λhb=> ?_))
  ·replace hb:=lY hb;refine ⟨?_,Bq⟩;unfold ig;rw [Wi,hf,if_neg aa,if_pos hb]
  ·replace hb:=mg hb;have hd:=(h.ext Bq).ext (Ext.dr w4);obtain ⟨a1,a2⟩:=hd.at hk;have hyr:=hd.it y (aZ hk);refine ⟨sl,hd.rt.at 3 rfl,a1,_,a2,AV (AV ⟨_,hyr.r.at 0 rfl,(Ct hyr.k c hc).mono ?_⟩)⟩;rintro e w9 ⟨rfl,x9⟩;have h9:=hd.ext x9;obtain ⟨-,b2⟩:=h9.at hk;refine ⟨_,_,rfl,x9.heap (show w.heap.size<w4 by omega),nS b2,nS (h9.rt.at 3 rfl),?_,Bq.tr ((Ext.dr _).tr x9)⟩;unfold ig;rw [Wi,hf,if_neg aa,if_neg hb,eJ,aS,hk];rfl
theorem acy {p:Po} {C:List Int} {c:Ce} {b:Int} (hp:p=pos c) (hy:KC c) (hb:cX b=true):(sD p C c b).2=0:=by unfold sD;rw [if_neg (by rw [(Cu p c).2 ⟨hy,hp.symm⟩];decide),if_neg (by rw [hb];decide)]
theorem Us {w:World} {t st d:Nat} {r:Dm} {sl:Sl} {D:Dk} {ar limit:Int} {its:List It} (h:TO w t st d r sl D ar limit its) (c:Ce) (hc:oM c) (b:Int):
  ah 221 #[t,ea c,.int .i64 b] w λe w'=>e=Value.int .i64 (kA (fO its) c b).2/\xK w t st d r sl ar limit its (D,(kA (fO its) c b).1) w':=by
 apply BM.vc;intro w0 e0;have z0:=eN e0;have x0:=aL e0;refine (oN c hc w0).mono ?_;rintro e w1 ⟨rfl,x1⟩;have jC:=x0.tr x1;have z1:=x1.size;refine ⟨_,_,rfl,x1.heap aa,(find_spec (h.ext jC) (pos c)).mono ?_⟩;rintro e w4 ⟨rfl,x4⟩;have z4:=x4.size;have Bq:=jC.tr x4;have Wi:cu (λe:En=>e.1==pos c) (fO its)=cu (λi:It=>i.p==pos c) its:=kS It.ob _ its;refine ⟨_,rfl,x4.heap aa,(AT c w4).mono ?_⟩;rintro e w6 ⟨⟨ix,iy,rfl,hiy⟩,x6⟩;have z6:=x6.size;have x06:=Bq.tr x6;have h6:=h.ext x06;refine ⟨_,_,rfl,x6.heap aa,?_⟩;have same:∀{w'},Ext w w'->xK w t st d r sl ar limit its (D,fO its) w':=λx=>⟨r,sl,its,h.ext x,rfl,aN.aD x⟩
 rcases fg (λi:It=>i.p==pos c) its with ⟨hf,-⟩|⟨k,y,hk,hyp,hf,-⟩
 ·rw [hf];refine Br.mk (λ_=> ?_) (λh=>by simp at h);have e:kA (fO its) c b=(fO its,11):=by unfold kA;rw [Wi,hf,if_pos aE]
  rw [e];exact ⟨rfl,same x06⟩
 ·rw [hf];have hyc:y.p=pos c:=by simpa using hyp
  refine Br.mk (λh=>by simp at h;omega) (λ_=> ?_);rcases hiy with ⟨rfl,hY,-⟩|⟨rfl,hY,-⟩
  ·refine eI rfl ((gl b w6).mono ?_);rintro e w9 ⟨rfl,x9⟩;have z9:=x9.size;have Na:=x06.tr x9;refine ⟨_,rfl,x9.heap aa,Br.mk (λhb=> ?_) (λhb=> ?_)⟩
   ·have hb':cX b=false:=by simpa using hb
    have e:kA (fO its) c b=(fO its,1):=by unfold kA;rw [Wi,hf,if_neg aa,if_neg (by simpa using hY),if_pos hb']
    rw [e];exact ⟨rfl,same Na⟩
   ·have hb':cX b=true:=by simpa using hb
    have he:kA (fO its) c b=((fO its).eraseIdx k++ [(y.p,(sD y.p y.C c b).1,y.nM||(kAt y.p y.C c !=b),y.pins)],0):=by unfold kA;rw [Wi,hf,if_neg aa,if_neg (by simpa using hY),if_neg (by rw [hb'];decide),eJ,aS,hk];rfl
    have h0:=acy (C:=y.C) hyc hY hb';rw [he];have h9:=h.ext Na;refine (DL h9 hk).mono ?_;rintro e aW ⟨rfl,aqz,h11,t11⟩;have aqA:=(aN.aD Na).trans t11;have z11:=t11.mod.size;have bx:∀{F:Nat->Prop},(∀i,F i->aH t st d r sl its i)->¬F w:=λhF hf=>by have:=h.lt (hF _ hf);omega
    have hi':(its.eraseIdx k++ [y])[(its.eraseIdx k).length]? =some y:=by rw [oK (aB _),Nat.sub_self];rfl
    have hd:=h11.ext (Ext.dr aW);have hyd:=hd.it y (aZ hi');have hxw:y.x<w:=(h.it y (aZ hk)).r.lt;have hgw:y.g<w:=(h.it y (aZ hk)).k.row.lt;refine ⟨_,rfl,t11.mod.same _ aa (bx λi hi=>hi),AV (AV ⟨_,hyd.r.at 0 rfl,(Ct hyd.k c hc).mono ?_⟩)⟩;rintro e bK ⟨rfl,bW⟩;have aaO:Ext aW bK:=(Ext.dr _).tr bW;have WE:=aaO.size;have h14:=h11.ext aaO;have yJ:=h14.it y (aZ hi');have pt:∀v:Bool,_:=λv=>yJ.r.je (j:=1) (v:=.bool v) bt rfl
    refine ⟨_,_,rfl,bW.heap (show w.heap.size<aW by omega),AV (AV ⟨_,yJ.r.at 1 rfl,Br.mk (λhb=>AV (AV ⟨⟨rfl,(pt true).1⟩,λe=> ?_,λdA VV=>AV (AV ?_)⟩)) (λhb=>AV (AV ⟨⟨rfl,(pt true).1⟩,λe=> ?_,λdA VV=>AV (AV ?_)⟩))⟩)⟩
    case refine_1|refine_3=>
     rw [cY] at e;have:y.x=w.heap.size:=by simpa [bC] using e
     omega
    all_goals
     obtain ⟨q1,q2⟩:=(pt _).2 dA VV
     have z18:=q2.size
     have alg:Ga dA y.g y.s y.p y.C:=yJ.k.c9 q2 (λe=>yJ.k.row.ne yJ.r aE e) (λb hb=>by obtain ⟨cs',hr'⟩:=bc yJ.k.own aE hb;exact hr'.ne yJ.r aE)
     refine ⟨_,(q1.ext (Ext.dr _)).at 0 rfl,(Yk (alg.ext (Ext.dr dA)) c hc b).mono ?_⟩;rintro e fh ⟨rfl,s',aqB,m20,QO⟩;have q1d:=q1.ext (Ext.dr dA);refine ⟨_,rfl,m20.same _ (show w.heap.size<dA by omega) (λe=>by omega),congrArg _ (congrArg _ h0),?_⟩;have hm:Mod (λj=>j=y.x\/j=y.g) bK fh:=((q2.mono λi _ hi=> .inl hi).trans (Mod.aD (Ext.dr _))).trans (m20.mono λi _ hi=> .inr hi);have aqD:uF fh ⟨y.x,y.g,s',y.p,(sD y.p y.C c b).1,y.nM||(kAt y.p y.C c !=b),y.pins⟩:=by refine ⟨?_,aqB⟩;have:=m20.row q1d (λe=>q1d.ne (alg.ext (Ext.dr dA)).row aE e);rw [hb];exact this
     have h20:=h14.acw hi' (y':=⟨y.x,y.g,s',y.p,(sD y.p y.C c b).1,y.nM||(kAt y.p y.C c !=b),y.pins⟩) rfl rfl hm aqD;refine ⟨r,aqz,_,h20,?_,aqA.trans ⟨(Mod.aD aaO).trans (hm.mono λi _ hi=> ?_),λj hj=> ?_⟩⟩
     ·unfold fO;rw [List.set_append_right _ _ (aB _),Nat.sub_self,bZ];have:=uf its k;unfold fO at this;rw [this];rfl
     ·exact .inr (.inr (.inr (.inr (.inr ⟨y,aZ hi',hi.elim .inl λe=> .inr (.inl e)⟩))))
     ·exact Ur (y':=⟨y.x,y.g,s',y.p,(sD y.p y.C c b).1,y.nM||(kAt y.p y.C c !=b),y.pins⟩) hi' rfl rfl (λb hb=>(QO b hb).imp id λe=>fY (fY WE z18) e) j hj
  ·have e:kA (fO its) c b=(fO its,5):=by unfold kA;rw [Wi,hf,if_neg aa,if_pos hY]
   refine yes rfl ?_;rw [e];exact ⟨rfl,same x06⟩
def TF (F:Nat->Prop) (w:World) (t:Nat) (ar limit:Int) (T:Tb):Prop:=
 ∃st d r sl its,TO w t st d r sl T.1 ar limit its/\fO its=T.2/\F=aH t st d r sl its
theorem TF.lt {F:Nat->Prop} {w:World} {t:Nat} {ar limit:Int} {T:Tb} (h:TF F w t ar limit T) {i:Nat} (hi:F i):i<w:=by obtain ⟨st,d,r,sl,its,h1,h2,rfl⟩:=h;exact h1.lt hi
theorem TF.same {F:Nat->Prop} {w w':World} {t:Nat} {ar limit:Int} {T:Tb} (h:TF F w t ar limit T) (hs:∀i,F i->w'.heap[i]? =w.heap[i]?):TF F w' t ar limit T:=by obtain ⟨st,d,r,sl,its,h1,h2,rfl⟩:=h;exact ⟨st,d,r,sl,its,h1.same hs,h2,rfl⟩
theorem TF.ext {F:Nat->Prop} {w w':World} {t:Nat} {ar limit:Int} {T:Tb} (h:TF F w t ar limit T) (x:Ext w w'):TF F w' t ar limit T:=h.same λ_ hi=>x.heap (h.lt hi)
theorem TF.c9 {F G:Nat->Prop} {w w':World} {t:Nat} {ar limit:Int} {T:Tb} (h:TF F w t ar limit T) (hm:Mod G w w') (hn:∀i,F i->¬G i):TF F w' t ar limit T:=h.same λi hi=>hm.same i (h.lt hi) (hn i hi)
abbrev C3 (τ:TypeId):Prop:=τ≠zY/\τ≠zX/\τ≠tp/\τ≠XZ/\τ≠cC/\τ≠vU/\τ≠gx/\τ≠tW/\τ≠hX
theorem TF.dN {F:Nat->Prop} {w:World} {t:Nat} {ar limit:Int} {T:Tb} (h:TF F w t ar limit T) {j:Nat} {cs:LV} {τ:TypeId} (hr:Row w j cs τ) (hτ:C3 τ):¬F j:=by obtain ⟨st,d,r,sl,its,h1,h2,rfl⟩:=h;exact h1.dN hr hτ
theorem TF.len {F:Nat->Prop} {w:World} {t:Nat} {ar limit:Int} {T:Tb} (h:TF F w t ar limit T):(T.2.length:Int)<=limit/\1<=limit/\limit<=16:=by obtain ⟨st,d,r,sl,its,h1,e,rfl⟩:=h;have:=h1.len;have:=h1.Wy;rw [<-e];unfold fO;rw [aM];omega
abbrev Ol (F:Nat->Prop) (w:World) (t:Nat) (ar limit:Int) (T:Tb) (w':World):Prop:=∃F',TF F' w' t ar limit T/\aN F F' w w'
theorem MJ {w w':World} {t st d:Nat} {r:Dm} {sl:Sl} {ar limit:Int} {its:List It} {T:Tb} (hl:xK w t st d r sl ar limit its T w'):Ol (aH t st d r sl its) w t ar limit T w':=by obtain ⟨r',sl',its',h',ho,ht⟩:=hl;exact ⟨_,⟨st,d,r',sl',its',h',ho,rfl⟩,ht⟩
theorem Om (ar limit room:Int) (w:World):ah 96 #[ar,limit,room] w λe w'=>∃t F,e=Value.pointer (some ⟨t,0,none⟩)/\TF F w' t ar (min (max limit 1) 16) (Kv room,[])/\Ext w w'/\∀i,F i->w.heap.size<=i:=by refine (VD ar limit room w).mono ?_;rintro e w' ⟨t,st,d,r,rfl,h,x,hf⟩;exact ⟨t,_,rfl,⟨st,d,r,_,[],h,rfl,rfl⟩,x,hf⟩
section
variable {F:Nat->Prop} {w:World} {t:Nat} {ar limit:Int} {T:Tb}
theorem LH (h:TF F w t ar limit T) (hW:T.1.l.length<=1000000) (p:Po):
  ah 20 #[t,pv p] w λe w'=>e=Value.int .i64 (IU ar limit T.1 T.2 p).2/\Ol F w t ar limit (IU ar limit T.1 T.2 p).1 w':=by
 obtain ⟨st,d,r,sl,its,h1,e,rfl⟩:=h;rw [<-e];refine (T9 h1 hW p).mono ?_;rintro e w' ⟨rfl,hl⟩;exact ⟨rfl,MJ hl⟩
theorem Gg (h:TF F w t ar limit T) (hW:T.1.l.length<=1000000) (p:Po):
  ah 21 #[t,pv p] w λe w'=>e=Value.int .i64 (nT T.1 T.2 p).2/\Ol F w t ar limit (nT T.1 T.2 p).1 w':=by
 obtain ⟨st,d,r,sl,its,h1,e,rfl⟩:=h;rw [<-e];refine (LD h1 hW p).mono ?_;rintro e w' ⟨rfl,hl⟩;exact ⟨rfl,MJ hl⟩
theorem B4 (h:TF F w t ar limit T) (hW:T.1.l.length<=900000):
  ah 22 #[t] w λe w'=>e=Value.tuple #[.int .i64 (mu T.1 T.2).2.1,.int .i64 (mu T.1 T.2).2.2]/\Ol F w t ar limit (mu T.1 T.2).1 w':=by
 obtain ⟨st,d,r,sl,its,h1,e,rfl⟩:=h;rw [<-e];refine (Gd h1 hW).mono ?_;rintro e w' ⟨rfl,hl⟩;exact ⟨rfl,MJ hl⟩
theorem My (h:TF F w t ar limit T) (hW:T.1.l.length<=1000000) (s:Sl) (b:List Int) (hs:gS w s b) (hb:mz b) (hn:b.length<=1099511627776):
  ah 61 #[t,s] w λe w'=>e=Value.int .i64 (xh T.1 0 b).2/\Ol F w t ar limit ((xh T.1 0 b).1,T.2) w':=by
 obtain ⟨st,d,r,sl,its,h1,e,rfl⟩:=h;rw [<-e];refine (Up h1 hW s b hs hb hn).mono ?_;rintro e w' ⟨rfl,hl⟩;exact ⟨rfl,MJ hl⟩
theorem G4 (h:TF F w t ar limit T) (c:Ce) (hc:oM c):
  ah 83 #[t,ea c] w λe w'=>e=Value.int .i64 (ig T.2 c)/\Ext w w':=by
 obtain ⟨st,d,r,sl,its,h1,e,rfl⟩:=h;rw [<-e];exact Yj h1 c hc
theorem On (h:TF F w t ar limit T) (c:Ce) (hc:oM c) (b:Int):
  ah 221 #[t,ea c,b] w λe w'=>e=Value.int .i64 (kA T.2 c b).2/\Ol F w t ar limit (T.1,(kA T.2 c b).1) w':=by
 obtain ⟨st,d,r,sl,its,h1,e,rfl⟩:=h;rw [<-e];refine (Us h1 c hc b).mono ?_;rintro e w' ⟨rfl,hl⟩;exact ⟨rfl,MJ hl⟩
end
theorem Qp (ar:Int) (p:Po):vN ar p []=made ar p:=rfl
section
variable {w0 w w':World} {t:Nat} {ar limit:Int} {T:Tb}
end
theorem gr {p:Option Addr} {K:Prop} (hp:p.isSome=true) (h:K):aP (dB p) K:=bA.2 ⟨g9.2 hp,h⟩
theorem aje:C3 pr/\C3 Wx:=by decide
theorem Kx {F:Nat->Prop} {w:World} {t:Nat} {ar cap:Int} {T:Tb} (h:TF F w t ar cap T):ah 37 #[t] w λe w'=>∃s':Sl,e=s'/\aC w Wx 2 w' s' (T.2.map λe=> [.int .i64 e.1.1,.int .i64 e.1.2])/\Ext w w':=by obtain ⟨st,d,r,sl,its,g1,e,rfl⟩:=h;rw [<-e];exact Uq g1
abbrev qB:TypeId:=133
abbrev kg:TypeId:=289
abbrev Cg:=Ce × Int
abbrev cgv (x:Cg):LV:=[.int .i64 x.1.1,.int .i64 x.1.2.1,.int .i64 x.1.2.2,.int .i64 x.2]
def WF (F:Nat->Prop) (w:World) (o t:Nat) (ar limit:Int) (T:Tb) (ch:List Cg):Prop:=
 ∃F1 sc,TF F1 w t ar limit T/\Row w o [t,.slice sc.a sc.n sc.c] qB/\aC 0 kg 4 w sc (ch.map cgv)/\F=λi=>F1 i\/i=o\/sc.aY=some i
theorem WF.lt {F:Nat->Prop} {w:World} {o t:Nat} {ar limit:Int} {T:Tb} {ch:List Cg} (h:WF F w o t ar limit T ch) {i:Nat} (hi:F i):i<w:=by
 obtain ⟨F1,sc,h1,h2,h3,rfl⟩:=h;rcases hi with hi|rfl|hi
 ·exact h1.lt hi
 ·exact h2.lt
 ·exact (h3.own.lt hi).2
theorem WF.same {F:Nat->Prop} {w w':World} {o t:Nat} {ar limit:Int} {T:Tb} {ch:List Cg} (h:WF F w o t ar limit T ch) (hs:∀i,F i->w'.heap[i]? =w.heap[i]?):WF F w' o t ar limit T ch:=by obtain ⟨F1,sc,h1,h2,h3,rfl⟩:=h;exact ⟨F1,sc,h1.same λi hi=>hs i (.inl hi),h2.same (hs o (.inr (.inl rfl))),aC.c9 h3 λb hb=>hs b (.inr (.inr hb)),rfl⟩
theorem WF.ext {F:Nat->Prop} {w w':World} {o t:Nat} {ar limit:Int} {T:Tb} {ch:List Cg} (h:WF F w o t ar limit T ch) (x:Ext w w'):WF F w' o t ar limit T ch:=h.same λ_ hi=>x.heap (h.lt hi)
theorem WF.c9 {F G:Nat->Prop} {w w':World} {o t:Nat} {ar limit:Int} {T:Tb} {ch:List Cg} (h:WF F w o t ar limit T ch) (hm:Mod G w w') (hn:∀i,F i->¬G i):WF F w' o t ar limit T ch:=h.same λi hi=>hm.same i (h.lt hi) (hn i hi)
theorem WF.dN {F:Nat->Prop} {w:World} {o t:Nat} {ar limit:Int} {T:Tb} {ch:List Cg} (h:WF F w o t ar limit T ch) {j:Nat} {cs:LV} {τ:TypeId} (hr:Row w j cs τ) (hτ:C3 τ) (hw:τ≠qB) (hc:τ≠kg):¬F j:=by
 obtain ⟨F1,sc,h1,h2,h3,rfl⟩:=h;rintro (hi|rfl|hi)
 ·exact h1.dN hr hτ hi
 ·exact hr.ne h2 hw rfl
 ·obtain ⟨cs',hr'⟩:=bc h3 aE hi;exact hr.ne hr' hc rfl
theorem WF.len {F:Nat->Prop} {w:World} {o t:Nat} {ar limit:Int} {T:Tb} {ch:List Cg} (h:WF F w o t ar limit T ch):(T.2.length:Int)<=limit/\1<=limit/\limit<=16:=by obtain ⟨F1,sc,h1,h2,h3,rfl⟩:=h;exact h1.len
abbrev FL (F:Nat->Prop) (w:World) (o t:Nat) (ar limit:Int) (T:Tb) (ch:List Cg) (w':World):Prop:=∃F',WF F' w' o t ar limit T ch/\aN F F' w w'
theorem WF.table {F:Nat->Prop} {w:World} {o t:Nat} {ar limit:Int} {T:Tb} {ch:List Cg} (h:WF F w o t ar limit T ch):∃F1,TF F1 w t ar limit T/\(∀i,F1 i->F i)/\∀{w':World} {T':Tb},Ol F1 w t ar limit T' w'->FL F w o t ar limit T' ch w':=by
 obtain ⟨F1,sc,h1,h2,h3,rfl⟩:=h;refine ⟨F1,h1,λi hi=> .inl hi,?_⟩;rintro w' T' ⟨F',h',ht⟩;have n2:=h1.dN h2 aE;have n3:∀b,sc.aY=some b->¬F1 b:=λb hb=>by obtain ⟨cs',hr'⟩:=bc h3 aE hb;exact h1.dN hr' aE
 refine ⟨_,⟨F',sc,h',ht.mod.row h2 n2,ht.mod.fm h3 n3,rfl⟩,ht.mod.mono λi _ hi=> .inl hi,λi hi=> ?_⟩;rcases hi with hi|hi|hi
 ·exact (ht.sub i hi).imp .inl id
 ·exact .inl (.inr (.inl hi))
 ·exact .inl (.inr (.inr hi))
theorem G3 (ar limit room:Int) (w:World):ah 39 #[ar,limit,room] w λe w'=>∃o t F,e=Value.pointer (some ⟨o,0,none⟩)/\WF F w' o t ar (min (max limit 1) 16) (Kv room,[]) []/\Ext w w'/\∀i,F i->w.heap.size<=i:=by
 apply Ti.vc;refine (Om ar limit room w).mono ?_;rintro e w0 ⟨t,F1,rfl,h0,x0,f0⟩;refine ⟨_,rfl,λw2 e2=>⟨w0.heap.size,t,_,rfl,⟨F1,⟨none,0,0⟩,h0.ext (aL e2),?_,aC.nil,rfl⟩,x0.bB e2,λi hi=> ?_⟩⟩
 ·rw [e2];exact Row.new w0 [_,_] _
 ·rcases hi with hi|hi|hi
  ·exact f0 i hi
  ·have:=x0.size;omega
  ·cases hi
theorem oL {F:Nat->Prop} {w:World} {o t:Nat} {ar limit:Int} {T:Tb} {ch:List Cg} (h:WF F w o t ar limit T ch):ah 19 #[o] w λe w'=>e=Value.pointer (some ⟨t,0,none⟩)/\w'=w:=by obtain ⟨F1,sc,h1,h2,h3,rfl⟩:=h;apply xe.vc;exact ⟨_,h2.at 0 rfl,rfl,rfl⟩
theorem fo {F:Nat->Prop} {w:World} {o t:Nat} {ar limit:Int} {T:Tb} {ch:List Cg} (h:WF F w o t ar limit T ch):ah 27 #[o] w λe w'=>e=Value.func (.func 83) #[t] #[]/\w'=w:=by obtain ⟨F1,sc,h1,h2,h3,rfl⟩:=h;apply zc.vc;exact ⟨_,h2.at 0 rfl,rfl,rfl⟩
def Xd (l:List En) (ch:List Cg) (c:Ce) (b:Int):List Cg:=if (kA l c b).2=0/\ig l c≠b then ch++ [(c,b)] else ch
theorem aiV (a b c d:Int):One [Value.int .i64 a,b,c,d]:=by intro v hv;simp at hv;rcases hv with rfl|rfl|rfl|rfl<;>rfl
theorem Tj {F:Nat->Prop} {w:World} {o t:Nat} {ar limit:Int} {T:Tb} {ch:List Cg} (h:WF F w o t ar limit T ch) (c:Ce) (hc:oM c) (b:Int) (hn:ch.length<=1000000):
  ah 161 #[o,ea c,.int .i64 b] w λe w'=>e=Value.int .i64 (kA T.2 c b).2/\FL F w o t ar limit (T.1,(kA T.2 c b).1) (Xd T.2 ch c b) w':=by
 have hF:=λ{i}=>h.lt (i:=i)
 have hh:=h;obtain ⟨F1,sc,h1,h2,h3,rfl⟩:=h;apply Bt.vc;intro w0 e0;have z0:=eN e0;have x0:Ext w w0.drew:=(aL e0).drew;have zd:=lv w0;refine ⟨_,(h2.ext x0).at 0 rfl,(G4 (h1.ext x0) c hc).mono ?_⟩;rintro e w2 ⟨rfl,x2⟩;have z2:=x2.size;have yA:=(x0.tr x2).drew;have zd2:=lv w2;refine ⟨_,rfl,x2.heap aa,_,(h2.ext yA).at 0 rfl,(On (h1.ext yA) c hc b).mono ?_⟩;rintro e w5 ⟨rfl,hT⟩;obtain ⟨F',hF',ht'⟩:=hT;have z5:=ht'.mod.size;have n2:=(h1.ext yA).dN (h2.ext yA) aE;have n3:∀b,sc.aY=some b->¬F1 b:=λb hb=>by obtain ⟨cs',hr'⟩:=bc (h3.ext yA) aE hb;exact (h1.ext yA).dN hr' aE
 have h2':=ht'.mod.row (h2.ext yA) n2;have h3':aC 0 kg 4 w5 sc (ch.map cgv):=ht'.mod.fm (h3.ext yA) n3;have nb:¬F1 w:=λhf=>by have:=hF (.inl hf);omega
 have tt:aN (λi=>F1 i\/i=o\/sc.aY=some i) (λi=>F' i\/i=o\/sc.aY=some i) w w5:=by
  refine (aN.aD yA).trans ⟨ht'.mod.mono λi _ hi=> .inl hi,λi hi=> ?_⟩;rcases hi with hi|hi|hi
  ·exact (ht'.sub i hi).imp .inl id
  ·exact .inl (.inr (.inl hi))
  ·exact .inl (.inr (.inr hi))
 refine ⟨_,rfl,ht'.mod.same _ aa nb,Br.mk (λhb=>Br.mk (λjU=> ?_) (λjU=> ?_)) (λhb=> ?_)⟩
 ·simp only [beq_iff_eq] at hb;simp only [bne_iff_ne] at jU;have ec:Xd T.2 ch c b=ch++ [(c,b)]:=by unfold Xd;rw [if_pos ⟨hb,jU⟩]
  rw [ec];have h2d:=h2'.ext (Ext.dr w5);have tU:sc.n=ch.length:=by have:=(h3.rd (show 0<4 by decide)).n;rwa [aM] at this
  refine ⟨sc,h2d.at 1 rfl,λw8 e8=> ?_⟩;subst e8;obtain ⟨hp,bo⟩:=(h3'.ext (Ext.dr w5)).iN (bytes:=32) (news:=cgv (c,b)) (.cells #[c.1,c.2.1,c.2.2,.int .i64 b] kg) (Nat.zero_le _) rfl (aiV _ _ _ _) aa aa;refine ⟨hp,λs9 bD hr=> ?_⟩;obtain ⟨f1,ajD,awj,xb,VO,ij⟩:=bo s9 bD hr;have zd5:=lv w5;have hol:=h2.lt;have aoR:∀b,sc.aY=some b->b<w.heap.size:=λb hb=>(h3.own.lt hb).2
  have m10:Mod (λj=>sc.aY=some j) w5 bD:=(Mod.aD (Ext.dr w5)).trans (Mod.vr xb VO);have no:¬sc.aY=some o:=λe=>by obtain ⟨cs',hr'⟩:=bc h3 aE e;exact hr'.ne h2 aE rfl
  have ajE:=m10.row h2' no;obtain ⟨p1,p2⟩:=ajE.je (j:=1) (v:=.slice s9.a s9.n s9.c) bt rfl;have Sr:=m10.size;have pb:∀j:Nat,o<j->bC (ae (some ⟨o,0,none⟩) 1)≠some j:=λj hj e=>by
   rw [cY] at e;have:o=j:=by simpa [bC] using e
   omega
  refine ⟨(m10.same w aa (λe=>by have:=aoR _ e;omega)).trans ((Ext.al w5.drew _).heap (show w.heap.size<w5 by omega)).symm,f1,⟨rfl,p1⟩,pb _ aa,pb _ (show o<w5 by omega),λaW FA=>⟨rfl,?_⟩⟩;obtain ⟨q1,q2⟩:=p2 aW FA;have ho9:∀b,s9.aY=some b->b≠o:=λb hb=>by obtain ⟨cs',hr'⟩:=bc ajD aE hb;exact hr'.ne ajE aE
  have m11:Mod (λj=>j=o\/sc.aY=some j) w5 aW:=(m10.mono λi _ hi=> .inr hi).trans (q2.mono λi _ hi=> .inl hi);have aoS:TF F' aW t ar limit (T.1,(kA T.2 c b).1):=hF'.c9 m11 λi hi e=>by
   rcases e with e|e
   ·exact hF'.dN h2' aE (e▸hi)
   ·obtain ⟨cs',hr'⟩:=bc h3' aE e;exact hF'.dN hr' aE hi
  refine ⟨_,⟨F',s9,aoS,q1,?_,rfl⟩,tt.trans ⟨m11.mono λi _ hi=> .inr hi,λi hi=> ?_⟩⟩
  ·rw [bZ];exact q2.fm ajD ho9
  ·rcases hi with hi|hi|hi
   ·exact .inl (.inl hi)
   ·exact .inl (.inr (.inl hi))
   ·rcases ij with e|e
    ·exact .inl (.inr (.inr (by rw [<-e];exact hi)))
    ·rw [e] at hi;cases hi;exact .inr (show w5.heap.size<=w5.heap.size+1 by omega)
 ·simp only [bne_eq_false_iff_eq] at jU;have ec:Xd T.2 ch c b=ch:=by unfold Xd;rw [if_neg λh=>h.2 jU]
  rw [ec];exact ⟨rfl,_,⟨F',sc,hF',h2',h3',rfl⟩,tt⟩
 ·simp only [beq_eq_false_iff_ne] at hb;have ec:Xd T.2 ch c b=ch:=by unfold Xd;rw [if_neg λh=>hb h.1]
  rw [ec];exact ⟨rfl,_,⟨F',sc,hF',h2',h3',rfl⟩,tt⟩
theorem abN (l:List En) (ch:List Cg) (c:Ce) (b:Int):(Xd l ch c b).length<=ch.length+1:=by
 unfold Xd;split
 ·simp
 ·omega
abbrev rQ (q:Po):LV:=[.int .i64 q.1,.int .i64 q.2]
def qC (p:Po):List Po:=[p,(p.1-1,p.2),(p.1+1,p.2),(p.1,p.2-1),(p.1,p.2+1)]
theorem Ik (p:Po) (hp:Tk p) (w:World):ah 150 #[pv p] w λe w'=>e=Value.agg #[p.1,p.2,.int .i64 (p.1-1),p.2,.int .i64 (p.1+1),p.2,p.1,.int .i64 (p.2-1),p.1,.int .i64 (p.2+1)]/\Ext w w':=by
 apply Kw.vc;obtain ⟨⟨p1,p2⟩,p3,p4⟩:=hp;have q1:aj (p.1-1)=p.1-1:=wI;have q2:aj (p.1+1)=p.1+1:=wI;have q3:aj (p.2-1)=p.2-1:=wI;have q4:aj (p.2+1)=p.2+1:=wI;rw [q1,q2,q3,q4];intro w0 e0 w1 e1;have z0:=eN e0;have x1:Ext w w1:=(aL e0).bB e1;have hr:Row w1 w0 [ab,ab,ab,ab,ab,ab,ab,ab,ab,ab] 227:=Row.nw e1;refine ⟨⟨rfl,hr.wr bt⟩,λe=>by
  have:w0.heap.size=w.heap.size:=by simpa [bC] using e
  omega,λw2 e2=> ?_⟩
 have h1:One [Value.int .i64 p.1,p.2,.int .i64 (p.1-1),p.2,.int .i64 (p.1+1),p.2,p.1,.int .i64 (p.2-1),p.1,.int .i64 (p.2+1)]:=by intro v hv;simp only [cH,jR,or_false] at hv;rcases hv with rfl|rfl|rfl|rfl|rfl|rfl|rfl|rfl|rfl|rfl<;>rfl
 rw [hr.aG bt h1] at e2;have py:Row w2 w0 [p.1,p.2,.int .i64 (p.1-1),p.2,.int .i64 (p.1+1),p.2,p.1,.int .i64 (p.2-1),p.1,.int .i64 (p.2+1)] 227:=hr.st e2;exact ⟨_,_,_,_,_,_,_,_,_,_,py.bY (λj hj=>by rw [eB]),rfl,x1.af e2 aa⟩
theorem FM (s:Sl) (ps:List Po) (p:Po) (w:World) (hs:RdK w s 2 (ps.map rQ)) (hn:ps.length<=1000):
  ah 213 #[s,pv p] w λe w'=>(∃r:Int,e=r/\(0<=r ↔ p ∈ ps))/\Ext w w':=by
 apply ze.vc;have tU:=hs.n;rw [aM] at tU;intro w0 e0;have x0:=aL e0;refine ⟨λn x w'=>∃j:Nat,x=j/\j+n=ps.length/\Ext w w'/\p ∉ ps.take j,⟨ps.length,rfl,0,rfl,by omega,x0,by simp⟩,?_⟩;rintro n us x w5 ⟨j,rfl,hj,x5,hnp⟩;apply Br.mk<;>intro hb
 ·replace hb:=lY hb;obtain ⟨y,hy⟩:=bH (l:=ps) (i:=j) aa;have ic:=hs.ext (x5.tr (Ext.dr _));refine ⟨hs.gR (i:=(j:Int)) aE aa hb,y.1,y.2,ic.bY (i:=j) (r:=rQ y) (by rw [aS,hy];rfl),Br.mk (λh1=> ?_) (λh1=> ?_)⟩
  ·simp only [fq,beq_iff_eq] at h1;have:p=y:=Prod.ext h1.1 h1.2;exact ⟨⟨_,rfl,λ_=>by rw [this];exact aZ hy,λ_=>by omega⟩,x5.tr (Ext.dr _)⟩
  ·have wk:=mh (j:=j);refine ⟨n-1,by omega,rfl,j+1,wk,by omega,x5.tr (Ext.dr _),?_⟩;rw [dE,hy];intro hm;rcases dR.1 hm with hm|hm
   ·exact hnp hm
   ·simp only [Option.toList_some,List.mem_singleton] at hm;subst hm;simp at h1
 ·replace hb:=mg hb;rw [fB aa] at hnp;exact ⟨⟨-1,rfl,λh=>by omega,λh=>absurd h hnp⟩,x5⟩
theorem zf (s:Sl) (ps:List Po) (p:Po) (w:World) (hs:RdK w s 2 (ps.map rQ)) (hn:ps.length<=1000):
  ah 151 #[s,pv p] w λe w'=>e=Value.bool (decide (p ∈ ps))/\Ext w w':=by
 apply uD.vc;intro w0 e0;have z0:=eN e0;have x0:=aL e0;refine (FM s ps p w0 (hs.ext x0) hn).mono ?_;rintro e w1 ⟨⟨r,rfl,hr⟩,x1⟩;refine ⟨r,rfl,x1.heap aa,?_,x0.tr x1⟩;have:decide (r>=0)=decide (p ∈ ps):=by rw [decide_eq_decide];exact hr
 rw [this]
theorem abO {c:Ce} (hc: -1000000000<=c.1/\c.1<=1000000000) (hz: -1000000000<=c.2.2/\c.2.2<=1000000000):Tk (pos c):=by unfold Tk pos;simp only;omega
def C4 (l:List En) (c:Ce):Bool:=(qC (pos c)).all λq=>decide (q ∈ l.map (·.1))
theorem td {F:Nat->Prop} {w:World} {o t:Nat} {ar limit:Int} {T:Tb} {ch:List Cg} (h:WF F w o t ar limit T ch) (c:Ce) (hc:oM c) (hp:Tk (pos c)):
  ah 100 #[o,ea c] w λe w'=>e=Value.bool (C4 T.2 c)/\Ext w w':=by
 obtain ⟨F1,sc,hT,hR,hO,rfl⟩:=h;apply xf.vc;have dG:=hT.len;intro w1 e1;have z1:=eN e1;have x1:=aL e1;refine ⟨_,(hR.ext x1).at 0 rfl,(Kx (hT.ext x1)).mono ?_⟩;rintro e w2 ⟨s',rfl,ho,x2⟩;have z2:=x2.size;have ic:RdK w2 s' 2 ((T.2.map (·.1)).map rQ):=by rw [List.map_map];exact ho.rd (show 0<2 by decide)
 refine ⟨s',rfl,x2.heap aa,(oN c hc w2).mono ?_⟩;rintro e w4 ⟨rfl,x4⟩;have z4:=x4.size;refine ⟨_,_,rfl,x4.heap aa,(Ik (pos c) hp w4).mono ?_⟩;rintro e w7 ⟨rfl,x7⟩;have z7:=x7.size;have cT:=x1.tr (x2.tr (x4.tr x7));unfold C4;generalize pos c=p at*;have hpl:(T.2.map (·.1)).length<=1000:=by rw [aM];omega
 generalize T.2.map (·.1)=ps at*;refine ⟨_,_,_,_,_,_,_,_,_,_,rfl,x7.heap aa,λn x w'=>∃j:Nat,x=j/\j+n=5/\Ext w7 w'/\∀q ∈(qC p).take j,q ∈ ps,⟨5,rfl,0,rfl,rfl,Ext.cQ _,by simp⟩,?_⟩;rintro n us x cP ⟨j,rfl,hj,dQ,qg⟩;have z25:=dQ.size;apply Br.mk<;>intro hb
 ·replace hb:=lY hb;have hex:∃q:Po,(([p.1,p.2,.int .i64 (p.1-1),p.2,.int .i64 (p.1+1),p.2,p.1,.int .i64 (p.2-1),p.1,.int .i64 (p.2+1)]:LV).drop (((j:Nat):Int).toNat*2)).take 2=[.int .i64 q.1,.int .i64 q.2]/\(qC p)[j]? =some q:=by
   have:j=0\/j=1\/j=2\/j=3\/j=4:=by omega
   rcases this with rfl|rfl|rfl|rfl|rfl
   ·exact ⟨p,rfl,rfl⟩
   ·exact ⟨(p.1-1,p.2),rfl,rfl⟩
   ·exact ⟨(p.1+1,p.2),rfl,rfl⟩
   ·exact ⟨(p.1,p.2-1),rfl,rfl⟩
   ·exact ⟨(p.1,p.2+1),rfl,rfl⟩
  obtain ⟨q,hq1,WD⟩:=hex;refine ⟨⟨by omega,by omega⟩,q.1,q.2,hq1,λdH MP eY J0=> ?_⟩;have iK:Ext cP eY:=(aL MP).af J0 (aB _);have z30:eY.heap.size=cP.heap.size+1:=by rw [J0,setRow_size,MP];simp
  have xx:Ext w2 eY:=x4.tr (x7.tr (dQ.tr iK));refine (zf s' ps q eY (ic.ext xx) hpl).mono ?_;rintro e fj ⟨rfl,gI⟩;have wk:=mh (j:=j);refine ⟨_,rfl,gI.heap aa,gI.heap aa,Br.mk (λh1=> ?_) (λh1=> ?_)⟩
  ·refine ⟨?_,cT.tr ((dQ.tr iK).tr gI)⟩;have hnq:q ∉ ps:=by simpa using h1
   have:((qC p).all λq=>decide (q ∈ ps))=false:=by rw [List.all_eq_false];exact ⟨q,aZ WD,by simpa using hnq⟩
   rw [this]
  ·have hyq:q ∈ ps:=by simpa using h1
   refine ⟨n-1,by omega,rfl,j+1,wk,by omega,(dQ.tr iK).tr gI,?_⟩;rw [dE,WD];intro y hy;rcases dR.1 hy with hy|hy
   ·exact qg y hy
   ·simp only [Option.toList_some,List.mem_singleton] at hy;subst hy;exact hyq
 ·replace hb:=mg hb;refine ⟨?_,cT.tr dQ⟩;rw [fB (show (qC p).length<=j by unfold qC;simp;omega)] at qg;have:((qC p).all λq=>decide (q ∈ ps))=true:=by rw [List.all_eq_true];exact λq hq=>by simpa using qg q hq
  rw [this]
section
variable {N F F':Nat->Prop} {w w' v v':World} {s1 s2 s3 s4:Sl} {T T':Tb} {ch ch':List Cg} {ar cap limit:Int} {o t a b m n k:Nat}
theorem sT (h:WF F w o t ar limit T ch) (hW:T.1.l.length<=1000000) (p:Po):
  ah 20 #[t,pv p] w λe w'=>e=Value.int .i64 (IU ar limit T.1 T.2 p).2/\FL F w o t ar limit (IU ar limit T.1 T.2 p).1 ch w':=by
 obtain ⟨F1,hT,-,bo⟩:=h.table;refine (LH hT hW p).mono ?_;rintro e w' ⟨rfl,hr⟩;exact ⟨rfl,bo hr⟩
theorem uV (h:WF F w o t ar limit T ch) (hW:T.1.l.length<=1000000) (p:Po):
  ah 21 #[t,pv p] w λe w'=>e=Value.int .i64 (nT T.1 T.2 p).2/\FL F w o t ar limit (nT T.1 T.2 p).1 ch w':=by
 obtain ⟨F1,hT,-,bo⟩:=h.table;refine (Gg hT hW p).mono ?_;rintro e w' ⟨rfl,hr⟩;exact ⟨rfl,bo hr⟩
theorem Uv (h:WF F w o t ar limit T ch) (c:Ce) (hc:oM c):
  ah 83 #[t,ea c] w λe w'=>e=Value.int .i64 (ig T.2 c)/\Ext w w':=by
 obtain ⟨F1,hT,-⟩:=h.table;exact G4 hT c hc
set_option maxRecDepth 100000 in
theorem WF.ajc {F:Nat->Prop} {w:World} {T:Tb} {ch:List Cg} {ar limit:Int} {o t:Nat} (h:WF F w o t ar limit T ch) {w':World} (hk:∀i,F i->w'.heap[i]? =w.heap[i]?) (c:Ce) (hc:oM c):
  cw Tryz.prog (.func (.func 83) #[t] #[]) [ea c] w' λe w''=>e=Value.int .i64 (ig T.2 c)/\Ext w' w'':=
 cU (by kernel_rfl) rfl (Uv (h.same hk) c hc)
end
theorem Lo.wv {w:World} {g:Nat} {cs:LV} {τ:TypeId} (h:Row w g cs τ):ag w (some ⟨g,0,none⟩) 0 cs:=h.bY (λj hj=>by rw [eB])
set_option maxRecDepth 100000
set_option maxHeartbeats 8000000
set_option linter.unusedVariables false
variable {R:Ending->World->Prop} {w:World} {a0 a1 a2 a3 a4 a5 a6 a7 a8 a9 aA aq au aT aU aX bN bI bJ EU ak ao aw bw bR bP eZ fa eL EV br bG bq yC yD wC wD yE yF yG EW EX EY EZ E0 E1 E2 E3 E4 E5:Int}
theorem XE.vc (h:
 ∀w0,w0=w.alloc (.cells #[aA,aq,au] 41)->
 ∀w1,w1=w0.alloc (.cells #[ab,ab,ab] 41)->
 ah 220 #[aA] w1.drew (Ri λx3 w2=>K2 w w0 w1.drew w2 (
 ag w2 (some ⟨w,2,none⟩) 0 [au]/\ag w2 (some ⟨w,1,none⟩) 0 [aq]/\ah 220 #[aq] w2 (Ri λx5 w4=>K2 w w0 w2 w4 (
 ag w4 (some ⟨w,2,none⟩) 0 [au]/\ah 220 #[au] w4 (Ri λx7 w6=>K2 w w0 w4 w6 (
 ∀w8,w8=w6.setRow w0 #[x3,x5,x7]->
 R (Value.agg #[x3,x5,x7]) w8))))))):ah 210 #[.agg #[aA,aq,au]] w R:=
 cq bT Tryz.func210 h
theorem XF.vc (h:
 R (Value.int .i64 (if 2147483648<(if (-2147483648)>a0 then (-2147483648) else a0) then 2147483648 else (if (-2147483648)>a0 then (-2147483648) else a0))) w):ah 220 #[a0] w R:=
 cq bT Tryz.func220 h
theorem TG.vc (h:
 ∀w0,w0=w.alloc (.cells #[aA,aq,au] 41)->
 ∀w1,w1=w0.alloc (.cells #[ab,ab,ab,ab,ab,ab,ab,ab,ab,ab,ab,ab,ab,ab,ab,ab,ab,ab] 186)->
 ah 219 #[(-1:Int),ab,ab,w] w1 (λe w2=>∃(x3 x4 x5:Int),e=Value.agg #[x3,x4,x5]/\
 ah 219 #[(1:Int),ab,ab,w] w2 (λe w6=>∃(x7 x8 x9:Int),e=Value.agg #[x7,x8,x9]/\
 ah 219 #[ab,(-1:Int),ab,w] w6 (λe bD=>∃(bz bU cc:Int),e=Value.agg #[bz,bU,cc]/\
 ah 219 #[ab,(1:Int),ab,w] bD (λe bK=>∃(cm cp cT:Int),e=Value.agg #[cm,cp,cT]/\
 ah 219 #[ab,ab,(-1:Int),w] bK (λe dA=>∃(cr cZ dm:Int),e=Value.agg #[cr,cZ,dm]/\
 ah 219 #[ab,ab,(1:Int),w] dA (λe cL=>∃(dz eH dQ:Int),e=Value.agg #[dz,eH,dQ]/\
 Wt cL ⟨w0,0,none⟩ 18/\(∀eG,eG=aG cL (some ⟨w0,0,none⟩) [x3,x4,x5,x7,x8,x9,bz,bU,cc,cm,cp,cT,cr,cZ,dm,dz,eH,dQ]->
 ∃(fw gy fI iK gI gQ ey g8 jX m4 gu fX mG lW kq lZ pj kD:Int),ag eG (some ⟨w0,0,none⟩) 0 [fw,gy,fI,iK,gI,gQ,ey,g8,jX,m4,gu,fX,mG,lW,kq,lZ,pj,kD]/\
 R (Value.agg #[fw,gy,fI,iK,gI,gQ,ey,g8,jX,m4,gu,fX,mG,lW,kq,lZ,pj,kD]) eG)))))))):ah 159 #[.agg #[aA,aq,au]] w R:=
 cq bT Tryz.func159 h
theorem KV.vc {c0:Addr} (h:
 ∀w0,w0=w.alloc (.cells #[ab,ab,ab] 41)->
 ∃(x1:Int),ld w0.drew (ae (some c0) 0)=some (.int .i64 x1)/\
 ∃(x2:Int),ld w0.drew (ae (some c0) 1)=some (.int .i64 x2)/\
 ∃(x3:Int),ld w0.drew (ae (some c0) 2)=some (.int .i64 x3)/\
 ah 220 #[x1] w0.drew (Ri λx5 w4=>Kp w w0.drew w4/\
 ag w4 (ae (some c0) 2) 0 [x3]/\ag w4 (ae (some c0) 1) 0 [x2]/\ah 220 #[x2] w4 (Ri λx7 w6=>Kp w w4 w6/\
 ag w6 (ae (some c0) 2) 0 [x3]/\ah 220 #[x3] w6 (Ri λx9 w8=>Kp w w6 w8/\
 ah 210 #[.agg #[(aj (x5+a0)),(aj (x7+a1)),(aj (x9+a2))]] w8 (iM λbz bU cc bD=>Kp w w8 bD/\
 ∀bK,bK=bD.setRow w #[bz,bU,cc]->
 R (Value.agg #[bz,bU,cc]) bK))))):ah 219 #[a0,a1,a2,c0] w R:=
 cq bT Tryz.func219 h
theorem Pg.vc (h:
 ah 243 #[a0] w (λe w0=>∃(b1:Bool),e=b1/\
 Br b1
 (R (2:Int) w0)
 (ah 202 #[a0] w0 (λe w2=>∃(b3:Bool),e=b3/\
 Br b3
 (R (5:Int) w2)
 (R (0:Int) w2))))):ah 223 #[a0] w R:=
 cq bT Tryz.func223 h
theorem Ph.vc {a0:Value} (h:
 ∀w0,w0=w.alloc (.cells #[ak,ao,aw] 41)->
 ah 159 #[.agg #[ak,ao,aw]] w0 (λe w1=>∃(x2 x3 x4 x5 x6 x7 x8 x9 bj bz bU cc bW cm cp cT cg cr:Int),e=Value.agg #[x2,x3,x4,x5,x6,x7,x8,x9,bj,bz,bU,cc,bW,cm,cp,cT,cg,cr]/\Kp w w0 w1/\
 ((0:Int)<=3/\(3:Int)<((6:Nat):Int))/\∃(cZ dm dI:Int),(([x2,x3,x4,x5,x6,x7,x8,x9,bj,bz,bU,cc,bW,cm,cp,cT,cg,cr]:LV).drop ((3:Int).toNat*3)).take 3=[.int .i64 cZ,.int .i64 dm,.int .i64 dI]/\
 cw Tryz.prog a0 [.agg #[cZ,dm,dI]] w1 (Ri λeH dT=>Kp w w1 dT/\
 ah 202 #[eH] dT (Rb λFa cP=>Kp w dT cP/\
 Br Fa
 (R (Value.tuple #[(1:Int),true]) cP)
 (ah 303 #[.agg #[ak,ao,aw]] cP (Rs λNI eo=>Kp w cP eo/\
 ∃I29:Nat->Int->Int->World->Prop,
 (∃n30,aO [ak,ao,aw]/\I29 n30 (0) (7) eo)/\
 ∀(n30:Nat) (apH:Nat->Value) (gQ ey:Int) (iL:World),I29 n30 gQ ey iL->
 Br (decide (gQ<((NI.n:Nat):Int)))
 (ee NI.a gQ NI.n/\∃(m4 gu fX:Int),ag iL (ae NI.a ((gQ:Int).toNat*3)) 0 [m4,gu,fX]/\
 ∀jD,jD=iL.alloc (.cells #[ab,ab,ab] 41)->
 ∀ik,ik=jD.setRow iL #[m4,gu,fX]->
 cw Tryz.prog a0 [.agg #[m4,gu,fX]] ik (Ri λlZ jm=>K2 w iL ik jm (
 ah 280 #[lZ] jm (Ri λkD il=>K2 w iL jm il (
 Br (kD>=0)
 (∃J6,J6<n30/\aO [ak,ao,aw]/\I29 J6 ((aj (gQ+1))) ((if kD<ey then kD else ey)) il)
 (∃J6,J6<n30/\aO [ak,ao,aw]/\I29 J6 ((aj (gQ+1))) ey il))))))
 (Br (ey==7)
 (R (Value.tuple #[ab,false]) iL)
 (R (Value.tuple #[(aj (ey+1)),true]) iL)))))))):ah 301 #[a0,.agg #[ak,ao,aw]] w R:=
 cq ⟨[(5,⟨[(19,.int .i64),(6,.int .i64)],[],[]⟩)],[],[]⟩ Tryz.func301 h
theorem Tq.vc {a0:Value} (h:
 ∀w0,w0=w.alloc (.cells #[ak,ao,aw] 41)->
 cw Tryz.prog a0 [.agg #[ak,ao,aw]] w0 (Ri λx2 w1=>Kp w w0 w1/\
 ah 243 #[x2] w1 (Rb λb4 w3=>Kp w w1 w3/\
 Br b4
 (ah 278 #[a0,.agg #[ak,ao,aw]] w3 (Rs λs6 w5=>Kp w w3 w5/\
 R s6 w5))
 (ah 202 #[x2] w3 (Rb λb8 w7=>Kp w w3 w7/\
 Br b8
 (ah 280 #[x2] w7.drew (Ri λbj w9=>Kp w w7.drew w9/\
 ag w9 w 0 [ak,ao,aw]/\ah 279 #[a0,.agg #[ak,ao,aw],bj] w9 (Rs λjJ aW=>Kp w w9 aW/\
 R jJ aW)))
 (R (Value.slice none 0 0) w7)))))):ah 242 #[a0,.agg #[ak,ao,aw]] w R:=
 cq bT Tryz.func242 h
theorem Pj.vc {a0:Value} (h:
 ∀w0,w0=w.alloc (.cells #[ak,ao,aw] 41)->
 ah 159 #[.agg #[ak,ao,aw]] w0 (λe w1=>∃(x2 x3 x4 x5 x6 x7 x8 x9 bj bz bU cc bW cm cp cT cg cr:Int),e=Value.agg #[x2,x3,x4,x5,x6,x7,x8,x9,bj,bz,bU,cc,bW,cm,cp,cT,cg,cr]/\Kp w w0 w1/\
 ∀fh,fh=w1.alloc (.cells #[ab,ab,ab,ab,ab,ab,ab,ab,ab,ab,ab,ab,ab,ab,ab,ab,ab,ab] 186)->
 Wt fh ⟨w1,0,none⟩ 18/\Nb w1 w/\(∀ed,ed=aG fh (some ⟨w1,0,none⟩) [x2,x3,x4,x5,x6,x7,x8,x9,bj,bz,bU,cc,bW,cm,cp,cT,cg,cr]->
 ∀cL,cL=ed.drew.alloc (.cells #[ak,ao,aw] 41)->
 ∃l23:LV,Rd cL (aJ (some ⟨w1,0,none⟩) (0) (6) 3) l23/\ba 24 3 cL ⟨(some ⟨ed.drew.heap.size,0,none⟩),1,1⟩ (6-0) l23/\∀(rE:Sl) (cP:World),aV 41 3 cL ⟨(some ⟨ed.drew.heap.size,0,none⟩),1,1⟩ (6-0) l23 rE cP->Kp w cL cP/\cP.heap[ed.drew.heap.size]? =cL.heap[ed.drew.heap.size]?/\
 ∃I26:Nat->Int->Sl->World->Prop,
 (∃n27,aO [ak,ao,aw]/\aO [ak,ao,aw]/\I26 n27 (0) ⟨none,0,0⟩ cP)/\
 ∀(n27:Nat) (apJ:Nat->Value) (fI:Int) (sS:Sl) (fj:World),I26 n27 fI sS fj->
 Br (decide (fI<((rE.n:Nat):Int)))
 (ee rE.a fI rE.n/\∃(ey g8 jX:Int),ag fj (ae rE.a ((fI:Int).toNat*3)) 0 [ey,g8,jX]/\
 ∀jl,jl=fj.alloc (.cells #[ab,ab,ab] 41)->
 ∀gJ,gJ=jl.setRow fj #[ey,g8,jX]->
 cw Tryz.prog a0 [.agg #[ey,g8,jX]] gJ (Ri λmG mX=>Kp w gJ mX/\mX.heap[ed.drew.heap.size]? =gJ.heap[ed.drew.heap.size]?/\Kp fj gJ mX/\
 ah 223 #[mG] mX (Ri λkq ik=>Kp w mX ik/\ik.heap[ed.drew.heap.size]? =mX.heap[ed.drew.heap.size]?/\Kp fj mX ik/\
 Br (kq>0)
 (∀jI,jI=ik.alloc (.cells #[ey,g8,jX] 41)->
 ba 24 3 jI sS 1 [ey,g8,jX]/\∀(s43:Sl) (jV:World),aV 41 3 jI sS 1 [ey,g8,jX] s43 jV->Kp w jI jV/\jV.heap[ed.drew.heap.size]? =jI.heap[ed.drew.heap.size]?/\K2 fj ik jI jV (
 ∃n32,n32<n27/\aO [ak,ao,aw]/\aO [ak,ao,aw]/\I26 n32 ((aj (fI+1))) s43 jV))
 (∃n32,n32<n27/\aO [ak,ao,aw]/\aO [ak,ao,aw]/\I26 n32 ((aj (fI+1))) sS ik))))
 (R sS fj)))):ah 222 #[a0,.agg #[ak,ao,aw]] w R:=
 cq ⟨[(4,⟨[(16,.int .i64),(5,.slice)],[],[]⟩)],[],[]⟩ Tryz.func222 h
theorem KW.vc (h:
 ∀w0,w0=w.alloc (.cells #[aA,aq,au] 41)->
 ah 159 #[.agg #[aA,aq,au]] w0 (λe w1=>∃(x2 x3 x4 x5 x6 x7 x8 x9 bj bz bU cc bW cm cp cT cg cr:Int),e=Value.agg #[x2,x3,x4,x5,x6,x7,x8,x9,bj,bz,bU,cc,bW,cm,cp,cT,cg,cr]/\Kp w w0 w1/\
 ∀fh,fh=w1.alloc (.cells #[ab,ab,ab,ab,ab,ab,ab,ab,ab,ab,ab,ab,ab,ab,ab,ab,ab,ab] 186)->
 Wt fh ⟨w1,0,none⟩ 18/\Nb w1 w/\(∀ed,ed=aG fh (some ⟨w1,0,none⟩) [x2,x3,x4,x5,x6,x7,x8,x9,bj,bz,bU,cc,bW,cm,cp,cT,cg,cr]->
 (0:Int)<=2/\2<=((6:Nat):Int)/\(0:Int)<=2/\(2:Int)<=2/\(0:Int)<=4/\4<=((6:Nat):Int)/\∃l22:LV,Rd ed.drew (aJ (some ⟨w1,0,none⟩) ((4:Int).toNat) (6) 3) l22/\ba 24 3 ed.drew ⟨(aJ (some ⟨w1,0,none⟩) (0) ((2:Int).toNat) 3),((2:Int).toNat-0),((2:Int).toNat-0)⟩ (6-(4:Int).toNat) l22/\∀(MT:Sl) (fH:World),aV 41 3 ed.drew ⟨(aJ (some ⟨w1,0,none⟩) (0) ((2:Int).toNat) 3),((2:Int).toNat-0),((2:Int).toNat-0)⟩ (6-(4:Int).toNat) l22 MT fH->Kp w ed.drew fH/\
 R MT fH))):ah 303 #[.agg #[aA,aq,au]] w R:=
 cq bT Tryz.func303 h
theorem TH.vc {a0:Value} (h:
 ∀w0,w0=w.alloc (.cells #[ak,ao,aw] 41)->
 ah 159 #[.agg #[ak,ao,aw]] w0 (λe w1=>∃(x2 x3 x4 x5 x6 x7 x8 x9 bj bz bU cc bW cm cp cT cg cr:Int),e=Value.agg #[x2,x3,x4,x5,x6,x7,x8,x9,bj,bz,bU,cc,bW,cm,cp,cT,cg,cr]/\Kp w w0 w1/\
 ((0:Int)<=2/\(2:Int)<((6:Nat):Int))/\∃(cZ dm dI:Int),(([x2,x3,x4,x5,x6,x7,x8,x9,bj,bz,bU,cc,bW,cm,cp,cT,cg,cr]:LV).drop ((2:Int).toNat*3)).take 3=[.int .i64 cZ,.int .i64 dm,.int .i64 dI]/\
 ∀dT,dT=w1.alloc (.cells #[ab,ab,ab] 41)->
 ∀fH,fH=dT.setRow w1 #[cZ,dm,dI]->
 cw Tryz.prog a0 [.agg #[cZ,dm,dI]] fH (Ri λfk cP=>K2 w w1 fH cP (
 ah 144 #[fk] cP (Rb λN2 eo=>K2 w w1 cP eo (
 Br (!N2)
 (R (Value.slice none 0 0) eo)
 (∀dH,dH=eo.alloc (.cells #[ak,ao,aw,fk,cZ,dm,dI,(3:Int)] 289)->
 R (Value.slice (some ⟨eo,0,none⟩) 2 2) dH))))))):ah 278 #[a0,.agg #[ak,ao,aw]] w R:=
 cq bT Tryz.func278 h
theorem ab5.vc {a0:Addr} (h:
 ah 97 #[(4096:Int)] w (λe w0=>∃(p1:Option Addr),e=p1/\
 ∀w2,w2=w0.alloc (.cells #[p1,a0,.int .i64 (if 64<(if 1>a1 then 1 else a1) then 64 else (if 1>a1 then 1 else a1)),(0:Int),.func (.func 98) #[] #[],.slice none 0 0] 130)->
 R (Value.pointer (some ⟨w0,0,none⟩)) w2)):ah 40 #[a0,a1] w R:=
 cq bT Tryz.func40 h
theorem FX.vc {a0:Addr} (h:
 ∃(p0:Option Addr),ld w (ae (some a0) 1)=some (.pointer p0)/\
 R p0 w):ah 18 #[a0] w R:=
 cq bT Tryz.func18 h
theorem BH.vc {a0:Addr} (h:
 ∃(p0:Option Addr),ld w (ae (some a0) 0)=some (.pointer p0)/\
 ah 138 #[p0] w (λe w1=>∃(s2:Sl),e=s2/\
 R s2 w1)):ah 82 #[a0] w R:=
 cq bT Tryz.func82 h
theorem Dv.vc {a0:Addr} {f1:Fn} {p1 q1:Array Value} (h:
 ((true=true/\Wr w (ae (some a0) 4) 1)/\(∀w0,w0=aG w (ae (some a0) 4) [.func f1 p1 q1]->
 R sY w0))):ah 118 #[a0,.func f1 p1 q1] w R:=
 cq bT Tryz.func118 h
theorem KX.vc {a0:Addr} (h:
 ∃(x0:Int),ld w (ae (some a0) 3)=some (.int .i64 x0)/\
 R x0 w):ah 68 #[a0] w R:=
 cq bT Tryz.func68 h
theorem IG.vc {a0:Addr} (h:
 ∀w0,w0=w.alloc (.cells #[ak,ao,aw] 41)->
 ∃(p1:Option Addr),ld w0.drew (ae (some a0) 1)=some (.pointer p1)/\
 ah 161 #[p1,.agg #[ak,ao,aw],a2] w0.drew (Ri λx3 w2=>Kp w w0.drew w2/\
 Br (x3==0)
 (ah 162 #[a0,.agg #[ak,ao,aw]] w2 (Rt λw4=>Kp w w2 w4/\
 R x3 w4))
 (R x3 w2))):ah 113 #[a0,.agg #[ak,ao,aw],a2] w R:=
 cq bT Tryz.func113 h
theorem IH.vc {a0:Addr} (h:
 ∀w0,w0=w.alloc (.cells #[ak,ao,aw] 41)->
 ∃(p1:Option Addr),ld w0 (ae (some a0) 1)=some (.pointer p1)/\
 ah 27 #[p1] w0 (Rv λv3 w2=>Kp w w0 w2/\
 ah 222 #[v3,.agg #[ak,ao,aw]] w2 (Rs λs5 w4=>Kp w w2 w4/\
 ∃I6:Nat->Int->World->Prop,
 (∃n7,aO [ak,ao,aw]/\I6 n7 (0) w4)/\
 ∀(n7:Nat) (us8:Nat->Value) (x9:Int) (bD:World),I6 n7 x9 bD->
 Br (decide (x9<((s5.n:Nat):Int)))
 (ee s5.a x9 s5.n/\∃(bU cc bW:Int),ag bD (ae s5.a ((x9:Int).toNat*3)) 0 [bU,cc,bW]/\
 ∀dY,dY=bD.alloc (.cells #[ab,ab,ab] 41)->
 ∀cB,cB=dY.setRow bD #[bU,cc,bW]->
 ∃(p17:Option Addr),ld cB.drew (ae (some a0) 0)=some (.pointer p17)/\
 ∃(cg:Int),ld cB.drew (ae (some a0) 3)=some (.int .i64 cg)/\
 cw Tryz.prog v3 [.agg #[bU,cc,bW]] cB.drew (Ri λcZ fy=>K2 w bD cB.drew fy (
 ag fy (ae (some a0) 3) 0 [cg]/\ag fy bD 0 [bU,cc,bW]/\ag fy (ae (some a0) 0) 0 [.pointer p17]/\ah 223 #[cZ] fy (Ri λdI ed=>K2 w bD fy ed (
 ag ed (ae (some a0) 3) 0 [cg]/\ag ed bD 0 [bU,cc,bW]/\ag ed (ae (some a0) 0) 0 [.pointer p17]/\ah 211 #[p17,.agg #[bU,cc,bW],(aj (cg+dI))] ed (Rb λSw dT=>K2 w bD ed dT (
 ag dT (ae (some a0) 3) 0 [cg]/\∃rU,rU<n7/\aO [ak,ao,aw]/\I6 rU ((aj (x9+1))) dT)))))))
 (R sY bD)))):ah 162 #[a0,.agg #[ak,ao,aw]] w R:=
 cq ⟨[(3,⟨[(16,.int .i64)],[],[]⟩)],[],[]⟩ Tryz.func162 h
theorem Dw.vc {a0:Addr} (h:
 ∀w0,w0=w.alloc (.cells #[ak,ao,aw,bw] 289)->
 ∃(p1:Option Addr),ld w0.drew (ae (some a0) 1)=some (.pointer p1)/\
 ah 27 #[p1] w0.drew (Rv λv3 w2=>Kp w w0.drew w2/\
 ag w2 (some ⟨w,3,none⟩) 0 [bw]/\ag w2 w 0 [ak,ao,aw]/\cw Tryz.prog v3 [.agg #[ak,ao,aw]] w2 (Ri λx5 w4=>Kp w w2 w4/\
 ag w4 (some ⟨w,3,none⟩) 0 [bw]/\Br (x5 !=bw)
 (ah 113 #[a0,.agg #[ak,ao,aw],bw] w4 (Ri λx7 w6=>Kp w w4 w6/\
 R sY w6))
 (R sY w4)))):ah 244 #[a0,.agg #[ak,ao,aw,bw]] w R:=
 cq bT Tryz.func244 h
theorem Dx.vc {a0:Addr} (h:
 ∀w0,w0=w.alloc (.cells #[ak,ao,aw] 41)->
 ∃(p1:Option Addr),ld w0.drew (ae (some a0) 1)=some (.pointer p1)/\
 ah 100 #[p1,.agg #[ak,ao,aw]] w0.drew (Rb λb3 w2=>Kp w w0.drew w2/\
 Br (!b3)
 (∃(p4:Option Addr),ld w2.drew (ae (some a0) 0)=some (.pointer p4)/\
 ∃(x5:Int),ld w2.drew (ae (some a0) 3)=some (.int .i64 x5)/\
 ah 211 #[p4,.agg #[ak,ao,aw],(aj (x5+1))] w2.drew (Rb λb7 w6=>Kp w w2.drew w6/\
 ag w6 (ae (some a0) 3) 0 [x5]/\R sY w6))
 (∃(p8:Option Addr),ld w2 (ae (some a0) 1)=some (.pointer p8)/\
 ah 27 #[p8] w2 (Rv λv10 w9=>Kp w w2 w9/\
 ah 242 #[v10,.agg #[ak,ao,aw]] w9 (Rs λjJ aW=>Kp w w9 aW/\
 ah 159 #[.agg #[ak,ao,aw]] aW (λe bF=>∃(bW cm cp cT cg cr cZ dm dI dz eH dQ fk fw gy fI iK gI:Int),e=Value.agg #[bW,cm,cp,cT,cg,cr,cZ,dm,dI,dz,eH,dQ,fk,fw,gy,fI,iK,gI]/\Kp w aW bF/\
 ((0:Int)<=2/\(2:Int)<((6:Nat):Int))/\∃(gQ ey g8:Int),(([bW,cm,cp,cT,cg,cr,cZ,dm,dI,dz,eH,dQ,fk,fw,gy,fI,iK,gI]:LV).drop ((2:Int).toNat*3)).take 3=[.int .i64 gQ,.int .i64 ey,.int .i64 g8]/\
 ∀ie,ie=bF.alloc (.cells #[ab,ab,ab] 41)->
 ∀jl,jl=ie.setRow bF #[gQ,ey,g8]->
 cw Tryz.prog v10 [.agg #[ak,ao,aw]] jl.drew (Ri λfX gJ=>K2 w bF jl.drew gJ (
 ah 243 #[fX] gJ (Rb λb40 jD=>K2 w bF gJ jD (
 Br b40
 (Br (decide ((((jJ.n:Nat):Int):Int)>0))
 (∃(v41:Value),ld jD (ae (some a0) 4)=some (v41)/\
 cw Tryz.prog v41 [.agg #[gQ,ey,g8]] jD (Rb λMU jI=>K2 w bF jD jI (
 Br MU
 (∀jV,jV=jI.alloc (.cells #[ak,ao,aw,ab] 289)->
 ∃(s45:Sl),ld jV.drew (ae (some a0) 5)=some (.slice s45.a s45.n s45.c)/\
 ∀m7,m7=jV.drew.alloc (.cells #[gQ,ey,g8] 41)->
 ba 24 3 m7 s45 1 [gQ,ey,g8]/\∀(vl:Sl) (fG:World),aV 41 3 m7 s45 1 [gQ,ey,g8] vl fG->K3 w bF jI m7 fG (
 fG.heap[jV.drew.heap.size]? =m7.heap[jV.drew.heap.size]?/\
 (true=true/\Wr fG (ae (some a0) 5) 1)/\bC (ae (some a0) 5)≠some w.heap.size/\bC (ae (some a0) 5)≠some bF.heap.size/\bC (ae (some a0) 5)≠some jI.heap.size/\bC (ae (some a0) 5)≠some jV.drew.heap.size/\(∀kv,kv=aG fG (ae (some a0) 5) [vl]->
 ∃I50:Nat->Int->World->Prop,
 (∃n51,aO [ak,ao,aw]/\aO [gQ,ey,g8]/\aO [ak,ao,aw,ab]/\aO [gQ,ey,g8]/\I50 n51 (0) kv)/\
 ∀(n51:Nat) (apL:Nat->Value) (im:Int) (Bs:World),I50 n51 im Bs->
 Br (decide (im<((1:Nat):Int)))
 (ee (some ⟨jI,0,none⟩) im 1/\∃(rZ l6 tV lf:Int),ag Bs (ae (some ⟨jI,0,none⟩) ((im:Int).toNat*4)) 0 [rZ,l6,tV,lf]/\
 ∀kC,kC=Bs.alloc (.cells #[ab,ab,ab,ab] 289)->
 ∀mY,mY=kC.setRow Bs #[rZ,l6,tV,lf]->
 ah 244 #[a0,.agg #[rZ,l6,tV,lf]] mY (Rt λgL=>K3 w bF jI mY gL (
 gL.heap[jV.drew.heap.size]? =mY.heap[jV.drew.heap.size]?/\Kp Bs mY gL/\
 ∃n55,n55<n51/\aO [ak,ao,aw]/\aO [gQ,ey,g8]/\aO [ak,ao,aw,ab]/\aO [gQ,ey,g8]/\I50 n55 ((aj (im+1))) gL)))
 (R sY Bs))))
 (∃I63:Nat->Int->World->Prop,
 (∃n64,aO [ak,ao,aw]/\aO [gQ,ey,g8]/\I63 n64 (0) jI)/\
 ∀(n64:Nat) (apt:Nat->Value) (lh:Int) (jY:World),I63 n64 lh jY->
 Br (decide (lh<((jJ.n:Nat):Int)))
 (ee jJ.a lh jJ.n/\∃(pz oC m8 nc:Int),ag jY (ae jJ.a ((lh:Int).toNat*4)) 0 [pz,oC,m8,nc]/\
 ∀FG,FG=jY.alloc (.cells #[ab,ab,ab,ab] 289)->
 ∀jK,jK=FG.setRow jY #[pz,oC,m8,nc]->
 ah 244 #[a0,.agg #[pz,oC,m8,nc]] jK (Rt λpn=>K3 w bF jY jK pn (
 ∃n68,n68<n64/\aO [ak,ao,aw]/\aO [gQ,ey,g8]/\I63 n68 ((aj (lh+1))) pn)))
 (R sY jY)))))
 (∃I76:Nat->Int->World->Prop,
 (∃n77,aO [ak,ao,aw]/\aO [gQ,ey,g8]/\I76 n77 (0) jD)/\
 ∀(n77:Nat) (aw1:Nat->Value) (wF:Int) (r6:World),I76 n77 wF r6->
 Br (decide (wF<((jJ.n:Nat):Int)))
 (ee jJ.a wF jJ.n/\∃(sH uT yI Ay:Int),ag r6 (ae jJ.a ((wF:Int).toNat*4)) 0 [sH,uT,yI,Ay]/\
 ∀w86,w86=r6.alloc (.cells #[ab,ab,ab,ab] 289)->
 ∀sI,sI=w86.setRow r6 #[sH,uT,yI,Ay]->
 ah 244 #[a0,.agg #[sH,uT,yI,Ay]] sI (Rt λJG=>K3 w bF r6 sI JG (
 ∃n81,n81<n77/\aO [ak,ao,aw]/\aO [gQ,ey,g8]/\I76 n81 ((aj (wF+1))) JG)))
 (R sY r6)))
 (∃I89:Nat->Int->World->Prop,
 (∃n90,aO [ak,ao,aw]/\aO [gQ,ey,g8]/\I89 n90 (0) jD)/\
 ∀(n90:Nat) (apP:Nat->Value) (B9:Int) (yT:World),I89 n90 B9 yT->
 Br (decide (B9<((jJ.n:Nat):Int)))
 (ee jJ.a B9 jJ.n/\∃(CE CF CG Kb:Int),ag yT (ae jJ.a ((B9:Int).toNat*4)) 0 [CE,CF,CG,Kb]/\
 ∀J9,J9=yT.alloc (.cells #[ab,ab,ab,ab] 289)->
 ∀po,po=J9.setRow yT #[CE,CF,CG,Kb]->
 ah 244 #[a0,.agg #[CE,CF,CG,Kb]] po (Rt λFc=>K3 w bF yT po Fc (
 ∃n94,n94<n90/\aO [ak,ao,aw]/\aO [gQ,ey,g8]/\I89 n94 ((aj (B9+1))) Fc)))
 (R sY yT)))))))))))):ah 173 #[a0,.agg #[ak,ao,aw]] w R:=
 cq ⟨[(10,⟨[(70,.int .i64)],[],[]⟩),(10,⟨[(70,.int .i64)],[],[]⟩),(10,⟨[(70,.int .i64)],[],[]⟩),(10,⟨[(70,.int .i64)],[],[]⟩)],[],[]⟩ Tryz.func173 h
theorem II.vc {a0:Addr} (h:
 ∃(x0:Int),ld w (ae (some a0) 3)=some (.int .i64 x0)/\
 (true=true/\Wr w (ae (some a0) 3) 1)/\(∀w1,w1=aG w (ae (some a0) 3) [.int .i64 (if 1099511627776<(aj (x0+1)) then 1099511627776 else (aj (x0+1)))]->
 ∃(p2:Option Addr),ld w1.drew (ae (some a0) 0)=some (.pointer p2)/\
 ∃(x3:Int),ld w1.drew (ae (some a0) 3)=some (.int .i64 x3)/\
 ∃(x4:Int),ld w1.drew (ae (some a0) 2)=some (.int .i64 x4)/\
 ah 172 #[p2,x3,x4] w1.drew (λe w5=>∃(s6:Sl),e=s6/\
 ∃I7:Nat->Int->World->Prop,
 (∃n8,I7 n8 (0) w5)/\
 ∀(n8:Nat) (us9:Nat->Value) (bj:Int) (aW:World),I7 n8 bj aW->
 Br (decide (bj<((s6.n:Nat):Int)))
 (ee s6.a bj s6.n/\∃(cc bW cm:Int),ag aW (ae s6.a ((bj:Int).toNat*3)) 0 [cc,bW,cm]/\
 ∀cB,cB=aW.alloc (.cells #[ab,ab,ab] 41)->
 ∀cE,cE=cB.setRow aW #[cc,bW,cm]->
 ah 173 #[a0,.agg #[cc,bW,cm]] cE (Rt λdA=>Kp aW cE dA/\
 ∃JP,JP<n8/\I7 JP ((aj (bj+1))) dA))
 (R (Value.int .i64 ((s6.n:Nat):Int)) aW)))):ah 119 #[a0] w R:=
 cq ⟨[(4,⟨[(30,.int .i64)],[],[]⟩)],[],[]⟩ Tryz.func119 h
end Go.Proofs.YtkkkfkopcfdmaaaGreatDoor
