import Derived.Test.YtkkkfkopcfdmaaaGreatDoorB
import Derived.Deep.SlicePairs
import Derived.ProofKit
import Derived.Test.YtkkkfkopcfdmaaaGreatDoorChecked
import Derived.KernelRfl
set_option linter.all false
namespace Go.Vc
open Go Go.RowKit Go.ChangeShapes Go.WideShapes
def inI_wf'{n:Int}(h:(Lit.int .i64 n).wf=true):bT n:=by
 have h1:IntKind.min .i64= -9223372036854775808:=by decide
 have h2:IntKind.max .i64=9223372036854775807:=by decide
 simp only [Lit.wf,fy,cX,h1,h2] at h;exact h
section
variable {H:Type} {enc:TypeId × Value->H} {P:Program} {w:World} {base:Nat} {spare:Nat->Bool} {held:Bool}
def afP{t:TypeId}{f0 f1:Field}{fuel:Nat}{cs:LV}{x:DataW H × List MemPlace}(ht:P.underlying t=some (.struct #[f0,f1]))(ce:P.cellsOf t=2)
  (o0:f0.offset=0)(o1:f1.offset=1)(c0:P.cellsOf f0.type=1)(c1:P.cellsOf f1.type=1)(u0:P.underlying f0.type=some (.int .i64))(u1:P.underlying f1.type=some (.int .i64))
  (h:DataW.trod enc P w base spare held fuel t cs=some x):∃a b,cs=[.int .i64 a,.int .i64 b]/\bT a/\bT b:=by
 obtain ⟨xs,n,_,_,hl,hxl,hf⟩:=DataW.trod_struct ht h;rw [ce] at hl
 match xs,hxl,cs,hl with
 | [y0,y1],_,[v0,v1],_=>
   have h0:=hf 0 f0 rfl;have h1:=hf 1 f1 rfl;rw [o0,c0] at h0;rw [o1,c1] at h1;obtain ⟨a,e0,_,wa⟩:=DataW.trod_int u0 h0;obtain ⟨b,e1,_,wb⟩:=DataW.trod_int u1 h1;simp at e0 e1;exact ⟨a,b,by rw [e0,e1],inI_wf' wa,inI_wf' wb⟩
def aev{t e:TypeId}{f0 f1:Field}{fuel:Nat}{a:Option Addr}{len cap:Nat}{x:DataW H × List MemPlace}(ht:P.underlying t=some (.slice e))(he:P.underlying e=some (.struct #[f0,f1]))
  (ce:P.cellsOf e=2)(o0:f0.offset=0)(o1:f1.offset=1)(c0:P.cellsOf f0.type=1)(c1:P.cellsOf f1.type=1)(u0:P.underlying f0.type=some (.int .i64))(u1:P.underlying f1.type=some (.int .i64))
  (h:DataW.trod enc P w base spare held fuel t [.slice a len cap]=some x):
  ∃l:List (Int × Int),RdK w ⟨a,len,cap⟩ 2 (l.map λr=> [.int .i64 r.1,.int .i64 r.2])/\(∀r ∈ l,bT r.1/\bT r.2)/\len<=cap/\cap<=maxLen:=by
 rcases Go.Deep.open_slice_pairs ht he ce o0 o1 c0 c1 h with ⟨yQ,_⟩|⟨b,len',cap',m,n,V0,V1,D0,D1,P0,P1,yQ,_,hl,hm,hmm,_,hx⟩
 ·simp at yQ;obtain ⟨rfl,rfl,rfl⟩:=yQ;exact ⟨[],⟨rfl,by simp,λi r hi=>by simp at hi⟩,by simp,aD _,by decide⟩
 ·simp at yQ;obtain ⟨rfl,rfl,rfl⟩:=yQ;have hlm:len<=m:=by rw [hmm];split<;>omega
  have each:∀i,i<len->∃r:Int × Int,w.cell? (b.add (i*2))=some (.int .i64 r.1)/\w.cell? (b.add (i*2+1))=some (.int .i64 r.2)/\bT r.1/\bT r.2:=by intro i hi;obtain ⟨h0,h1,h2,h3⟩:=hx i ab;obtain ⟨p,e0,_,wp⟩:=DataW.trod_int u0 h2;obtain ⟨q,e1,_,wq⟩:=DataW.trod_int u1 h3;simp at e0 e1;exact ⟨(p,q),by rw [h0,e0],by rw [h1,e1],inI_wf' wp,inI_wf' wq⟩
  have pick:∃f:Nat->Int × Int,∀i,i<len->w.cell? (b.add (i*2))=some (.int .i64 (f i).1)/\w.cell? (b.add (i*2+1))=some (.int .i64 (f i).2)/\bT (f i).1/\bT (f i).2:=by refine ⟨λi=>if hi:i<len then Classical.choose (each i hi) else (0,0),λi hi=> ?_⟩;simp only [dif_pos hi];exact Classical.choose_spec (each i hi)
  obtain ⟨f,hf⟩:=pick;refine ⟨(List.range len).map f,⟨by simp,by simp,λi r hi j v hj=> ?_⟩,λr hr=> ?_,hl,hm⟩
  ·simp only [mS,aV,CJ] at hi;obtain ⟨k,hk,rfl⟩:=hi;obtain ⟨Qh,Hf⟩:=cK.1 hk;simp at Qh Hf;subst Hf;obtain ⟨h0,h1,_,_⟩:=hf i Qh;rcases j with _|_|j<;>simp at hj
   ·subst hj;exact h0
   ·subst hj;exact h1
  ·obtain ⟨i,hi,rfl⟩:=aY.1 hr;exact (hf i (by simpa using hi)).2.2
def afQ{t e:TypeId}{k:IntKind}{fuel:Nat}{a:Option Addr}{len cap:Nat}{x:DataW H × List MemPlace}(ht:P.underlying t=some (.slice e))(he:P.underlying e=some (.int k))(ce:P.cellsOf e=1)
  (h:DataW.trod enc P w base spare held fuel t [.slice a len cap]=some x):
  ∃z:List Int,RdK w ⟨a,len,cap⟩ 1 (z.map λn=> [.int k n])/\(∀n ∈ z,(Lit.int k n).wf=true)/\len<=cap/\cap<=maxLen:=by
 rcases Go.ChangeShapes.open_ints ht he ce h with ⟨yQ,_⟩|⟨b,len',cap',zs,yQ,_,hl,hm,hz,_,hcell,hwf⟩
 ·simp at yQ;obtain ⟨rfl,rfl,rfl⟩:=yQ;exact ⟨[],⟨rfl,by simp,λi r hi=>by simp at hi⟩,by simp,aD _,by decide⟩
 ·simp at yQ;obtain ⟨rfl,rfl,rfl⟩:=yQ;have hlm:len<=zs.length:=by rw [hz];split<;>omega
  refine ⟨zs.take len,⟨by simp;omega,λr hr=>by obtain ⟨q,_,rfl⟩:=aY.1 hr;rfl,λi r hi j v hj=> ?_⟩,λn hn=>hwf n (qR hn),hl,hm⟩;rw [aV,CJ] at hi;obtain ⟨q,hq,rfl⟩:=hi;rw [qN] at hq;split at hq
  ·rename_i ED;have:=hcell i ab;rw [dY,hq] at this;rcases j with _|j<;>simp at hj;subst hj;show w.cell? (b.add (i*1+0))=_;rw [zc,Nat.add_zero];exact this
  ·cases hq
def axE{n:Int}(h:(Lit.int .u8 n).wf=true):0<=n/\n<256:=by
 have h1:IntKind.min .u8=0:=by decide
 have h2:IntKind.max .u8=255:=by decide
 simp only [Lit.wf,fy,cX,h1,h2] at h;omega
end
section
variable {H:Type} {enc:TypeId × Value->H} {P:Program} {w:World} {base:Nat} {spare:Nat->Bool} {held:Bool}
def GJ(P:Program):Nat->TypeId->Bool
 |0,_=>false
 |n+1,t=>match P.underlying t with
  |some (.int .i64)=>P.cellsOf t==1
  |some (.struct fs)=>(List.range (P.cellsOf t)).all λi=>(List.range fs.size).any λj=>match fs[j]? with
   |some f=>decide (f.offset<=i) && decide (i<f.offset+P.cellsOf f.type) && GJ P n f.type
   |none=>false
  |_=>false
def As:∀{n:Nat} {t:TypeId} {fuel:Nat} {cs:LV} {x:DataW H × List MemPlace},GJ P n t=true->DataW.trod enc P w base spare held fuel t cs=some x->
  cs.length=P.cellsOf t/\∀v ∈ cs,∃z,v=.int .i64 z/\bT z
 |0,_,_,_,_,h,_=>by simp [GJ] at h
 |n+1,t,fuel,cs,x,h,ht=>by
  unfold GJ at h
  split at h
  ·rename_i e
   obtain ⟨z,rfl,_,hw⟩:=DataW.trod_int e ht
   have:P.cellsOf t=1:=by simpa using h
   refine ⟨by rw [this];rfl,λv hv=> ?_⟩;rw [gU] at hv;exact ⟨z,hv,inI_wf' hw⟩
  ·rename_i fs e;obtain ⟨xs,k,_,_,hl,hxl,hf⟩:=DataW.trod_struct e ht;refine ⟨hl,λv hv=> ?_⟩;obtain ⟨i,hi,rfl⟩:=List.getElem_of_mem hv;rw [E6] at h;have hj:=h i (oO.2 ab);rw [List.any_eq_true] at hj;obtain ⟨j,hjr,hj⟩:=hj;rw [oO] at hjr;split at hj
   ·rename_i f hfj;simp only [fy,cX] at hj;have hx:=hf j f hfj;rw [dv ab] at hx;obtain ⟨dD,mu⟩:=As hj.2 hx;refine mu _ (aU (i:=i-f.offset) ?_);rw [qN,if_pos ab,wB,dv ab];congr 2;omega
   ·cases hj
  ·cases h
def wS:∀{cs:LV},(∀v ∈ cs,∃z,v=.int .i64 z/\bT z)->∃r:List Int,cs=r.map (λn=> .int .i64 n)/\∀n ∈ r,bT n
 | [],_=>⟨[],rfl,by simp⟩
 |v::cs,h=>by
  obtain ⟨z,rfl,hz⟩:=h v (List.mem_cons_self ..)
  obtain ⟨r,rfl,hr⟩:=wS λu hu=>h u (CF _ hu)
  refine ⟨z::r,rfl,λn hn=> ?_⟩
  rcases cR.1 hn with rfl|hn
  ·exact hz
  ·exact hr n hn
def wT{n:Nat}{t:TypeId}{fuel:Nat}{cs:LV}{x:DataW H × List MemPlace}(hb:GJ P n t=true)(h:DataW.trod enc P w base spare held fuel t cs=some x):
  ∃r:List Int,cs=r.map (λn=> .int .i64 n)/\r.length=P.cellsOf t/\∀n ∈ r,bT n:=by
 obtain ⟨h1,h2⟩:=As hb h;obtain ⟨r,rfl,hr⟩:=wS h2;exact ⟨r,rfl,by simpa using h1,hr⟩
def aex{n:Nat}{t:TypeId}{fuel:Nat}{cs:LV}{x:DataW H × List MemPlace}(hb:GJ P n t=true)(hk:P.cellsOf t=3)(h:DataW.trod enc P w base spare held fuel t cs=some x):
  ∃a b c,cs=[.int .i64 a,.int .i64 b,.int .i64 c]/\bT a/\bT b/\bT c:=by
 obtain ⟨r,rfl,hl,hi⟩:=wT hb h;rw [hk] at hl
 match r,hl with
 | [a,b,c],_=>exact ⟨a,b,c,rfl,hi a cj,hi b cj,hi c cj⟩
def af5{m k:Nat}{t e:TypeId}{fuel:Nat}{a:Option Addr}{len cap:Nat}{x:DataW H × List MemPlace}(ht:P.underlying t=some (.slice e))(hb:GJ P m e=true)(hk:P.cellsOf e=k)
  (h:DataW.trod enc P w base spare held fuel t [.slice a len cap]=some x):
  ∃z:List (List Int),RdK w ⟨a,len,cap⟩ k (z.map λr=>r.map λn=> .int .i64 n)/\(∀r ∈ z,r.length=k/\∀n ∈ r,bT n)/\len<=cap/\cap<=maxLen:=by
 rcases Go.Deep.open_slice ht h with ⟨yQ,_⟩|⟨b,len',cap',m',n,D,Pl,yQ,_,hl,hm,hmm,_,hx⟩
 ·simp at yQ;obtain ⟨rfl,rfl,rfl⟩:=yQ;exact ⟨[],⟨rfl,by simp,λi r hi=>by simp at hi⟩,by simp,aD _,by decide⟩
 ·simp at yQ;obtain ⟨rfl,rfl,rfl⟩:=yQ;have hlm:len<=m':=by rw [hmm];split<;>omega
  have each:∀i,i<len->∃r:List Int,(∀j,j<k->w.cell? ((b.add (i*k)).add j)=(r.map λn=>Value.int .i64 n)[j]?)/\r.length=k/\∀n ∈ r,bT n:=by intro i hi;obtain ⟨cs',h1,h2⟩:=hx i ab;obtain ⟨r,rfl,hr1,qE⟩:=wT hb h2;rw [hk] at h1 hr1;exact ⟨r,(World.cells?_some h1).2.2,hr1,qE⟩
  have pick:∃f:Nat->List Int,∀i,i<len->(∀j,j<k->w.cell? ((b.add (i*k)).add j)=((f i).map λn=>Value.int .i64 n)[j]?)/\(f i).length=k/\∀n ∈ f i,bT n:=by refine ⟨λi=>if hi:i<len then Classical.choose (each i hi) else [],λi hi=> ?_⟩;simp only [dif_pos hi];exact Classical.choose_spec (each i hi)
  obtain ⟨f,hf⟩:=pick;refine ⟨(List.range len).map f,⟨by simp,λr hr=> ?_,λi r hi j v hj=> ?_⟩,λr hr=> ?_,hl,hm⟩
  ·obtain ⟨r',hr',rfl⟩:=aY.1 hr;obtain ⟨i,hi,rfl⟩:=aY.1 hr';rw [aN];exact (hf i (by simpa using hi)).2.1
  ·simp only [mS,aV,CJ] at hi;obtain ⟨q,hq,rfl⟩:=hi;obtain ⟨Qh,Hf⟩:=cK.1 hq;simp at Qh Hf;subst Hf;obtain ⟨h0,h1,_⟩:=hf i Qh;have hjk:j<k:=by have:=(cK.1 hj).1;simp at this;omega
   have:=h0 j hjk;rw [<-dC];show w.cell? ((b.add (i*k)).add j)=_;rw [this];exact hj
  ·obtain ⟨i,hi,rfl⟩:=aY.1 hr;exact (hf i (by simpa using hi)).2
end
section
variable {H:Type} {enc:TypeId × Value->H} {P:Program} {w:World} {base:Nat} {spare:Nat->Bool} {held:Bool}
def PS(P:Program):Nat->TypeId->Nat->Bool->Bool
 |0,_,_,_=>false
 |n+1,t,i,b=>match P.underlying t with
  |some (.int .i64)=>b &&(i==0)
  |some .bool=> !b &&(i==0)
  |some (.struct fs)=>decide (i<P.cellsOf t) &&(List.range fs.size).any λj=>match fs[j]? with
   |some f=>decide (f.offset<=i) && decide (i<f.offset+P.cellsOf f.type) && PS P n f.type (i-f.offset) b
   |none=>false
  |_=>false
def acA(b:Bool)(v:Value):Prop:=match b with|true=>∃z,v=.int .i64 z/\bT z|false=>∃c,v=.bool c
def Ay:∀{n:Nat} {t:TypeId} {i:Nat} {b:Bool} {fuel:Nat} {cs:LV} {x:DataW H × List MemPlace},PS P n t i b=true->DataW.trod enc P w base spare held fuel t cs=some x->∃v,cs[i]? =some v/\acA b v
 |0,_,_,_,_,_,_,h,_=>by simp [PS] at h
 |n+1,t,i,b,fuel,cs,x,h,ht=>by
  unfold PS at h
  split at h
  ·rename_i e
   obtain ⟨z,rfl,_,hw⟩:=DataW.trod_int e ht
   rw [fy] at h
   obtain ⟨rfl,h2⟩:=h
   have:i=0:=by simpa using h2
   subst this;exact ⟨_,rfl,z,rfl,inI_wf' hw⟩
  ·rename_i e;obtain ⟨c,rfl,_⟩:=DataW.trod_bool e ht;rw [fy] at h;obtain ⟨h1,h2⟩:=h;have:i=0:=by simpa using h2
   subst this;have:b=false:=by simpa using h1
   subst this;exact ⟨_,rfl,c,rfl⟩
  ·rename_i fs e;obtain ⟨xs,k,_,_,hl,hxl,hf⟩:=DataW.trod_struct e ht;rw [fy] at h;have hi:i<P.cellsOf t:=by simpa using h.1
   have h:=h.2;rw [List.any_eq_true] at h;obtain ⟨j,hjr,hj⟩:=h;rw [oO] at hjr;split at hj
   ·rename_i f hfj;rw [fy,fy,cX,cX] at hj;have hx:=hf j f hfj;rw [dv ab] at hx;obtain ⟨v,hv,bq⟩:=Ay hj.2 hx;rw [qN,if_pos ab,wB] at hv;exact ⟨v,by rw [<-hv];congr 1;omega,bq⟩
   ·cases hj
  ·cases h
def MixR(ks:List Bool)(r:LV):Prop:=r.length=ks.length/\∀(i:Nat)(b:Bool),ks[i]? =some b->∃v,r[i]? =some v/\acA b v
def anl(P:Program)(m:Nat)(ks:List Bool)(e:TypeId):Bool:=P.cellsOf e==ks.length &&(List.range ks.length).all λi=>match ks[i]? with|some b=>PS P m e i b|none=>false
def mix_of_trod{m:Nat}{ks:List Bool}{t e:TypeId}{fuel:Nat}{a:Option Addr}{len cap:Nat}{x:DataW H × List MemPlace}(ht:P.underlying t=some (.slice e))(hb:anl P m ks e=true)
  (h:DataW.trod enc P w base spare held fuel t [.slice a len cap]=some x):
  ∃z:List (LV),RdK w ⟨a,len,cap⟩ ks.length z/\(∀r ∈ z,MixR ks r)/\len<=cap/\cap<=maxLen:=by
 unfold anl at hb;rw [fy] at hb;have hk:P.cellsOf e=ks.length:=by simpa using hb.1
 have hb:=hb.2;rw [E6] at hb;rcases Go.Deep.open_slice ht h with ⟨yQ,_⟩|⟨b,len',cap',m',n,D,Pl,yQ,_,hl,hm,hmm,_,hx⟩
 ·simp at yQ;obtain ⟨rfl,rfl,rfl⟩:=yQ;exact ⟨[],⟨rfl,by simp,λi r hi=>by simp at hi⟩,by simp,aD _,by decide⟩
 ·simp at yQ;obtain ⟨rfl,rfl,rfl⟩:=yQ;have hlm:len<=m':=by rw [hmm];split<;>omega
  have each:∀i,i<len->∃r:LV,(∀j,j<ks.length->w.cell? ((b.add (i*ks.length)).add j)=r[j]?)/\MixR ks r:=by intro i hi;obtain ⟨cs',h1,h2⟩:=hx i ab;rw [hk] at h1;have hl':cs'.length=ks.length:=(World.cells?_some h1).2.1;refine ⟨cs',(World.cells?_some h1).2.2,hl',λi b hib=> ?_⟩;have hi':=(cK.1 hib).1;have:=hb i (oO.2 hi');rw [hib] at this;exact Ay this h2
  have pick:∃f:Nat->LV,∀i,i<len->(∀j,j<ks.length->w.cell? ((b.add (i*ks.length)).add j)=(f i)[j]?)/\MixR ks (f i):=by refine ⟨λi=>if hi:i<len then Classical.choose (each i hi) else [],λi hi=> ?_⟩;simp only [dif_pos hi];exact Classical.choose_spec (each i hi)
  obtain ⟨f,hf⟩:=pick;refine ⟨(List.range len).map f,⟨by simp,λr hr=> ?_,λi r hi j v hj=> ?_⟩,λr hr=> ?_,hl,hm⟩
  ·obtain ⟨i,hi,rfl⟩:=aY.1 hr;exact (hf i (by simpa using hi)).2.1
  ·simp only [aV,CJ] at hi;obtain ⟨q,hq,rfl⟩:=hi;obtain ⟨Qh,Hf⟩:=cK.1 hq;simp at Qh Hf;subst Hf;obtain ⟨h0,h1,_⟩:=hf i Qh;have hjk:j<ks.length:=by have:=(cK.1 hj).1;omega
   have:=h0 j hjk;rw [<-dC];show w.cell? ((b.add (i*ks.length)).add j)=_;rw [this];exact hj
  ·obtain ⟨i,hi,rfl⟩:=aY.1 hr;exact (hf i (by simpa using hi)).2
end
end Go.Vc
namespace Go.Proofs.YtkkkfkopcfdmaaaGreatDoor
open Go Go.Vc Go.RowKit Go.Proofs
set_option maxRecDepth 100000
set_option maxHeartbeats 8000000
set_option linter.unusedVariables false
variable {R:Ending->World->Prop} {w:World} {a0 a1 a2 a3 a4 a5 a6 a7 a8 a9 aw ao au aP aQ aR bM bH bI DV aq ar aA bz bR bQ fe fg eM DW bE bO bC yu yw vV vW yx yy yz DX DY DZ D3 D4 D5 D6 D7 D8 D9:Int}
abbrev K2(i0 i1:Nat)(x y:World)(P:Prop):Prop:=Kp i0 x y/\Kp i1 x y/\P
abbrev K3(i0 i1 i2:Nat)(x y:World)(P:Prop):Prop:=Kp i0 x y/\Kp i1 x y/\Kp i2 x y/\P
abbrev K4(i0 i1 i2 i3:Nat)(x y:World)(P:Prop):Prop:=Kp i0 x y/\Kp i1 x y/\Kp i2 x y/\Kp i3 x y/\P
abbrev K5(i0 i1 i2 i3 i4:Nat)(x y:World)(P:Prop):Prop:=Kp i0 x y/\Kp i1 x y/\Kp i2 x y/\Kp i3 x y/\Kp i4 x y/\P
abbrev K6(i0 i1 i2 i3 i4 i5:Nat)(x y:World)(P:Prop):Prop:=Kp i0 x y/\Kp i1 x y/\Kp i2 x y/\Kp i3 x y/\Kp i4 x y/\Kp i5 x y/\P
abbrev K7(i0 i1 i2 i3 i4 i5 i6:Nat)(x y:World)(P:Prop):Prop:=Kp i0 x y/\Kp i1 x y/\Kp i2 x y/\Kp i3 x y/\Kp i4 x y/\Kp i5 x y/\Kp i6 x y/\P
abbrev K8(i0 i1 i2 i3 i4 i5 i6 i7:Nat)(x y:World)(P:Prop):Prop:=Kp i0 x y/\Kp i1 x y/\Kp i2 x y/\Kp i3 x y/\Kp i4 x y/\Kp i5 x y/\Kp i6 x y/\Kp i7 x y/\P
abbrev Ra2(F:Int->Int->World->Prop)(e:Ending)(w:World):Prop:=∃x0 x1:Int,e=.returned (.agg #[x0,x1])/\F x0 x1 w
abbrev jo(F:Int->Int->Int->World->Prop)(e:Ending)(w:World):Prop:=∃x0 x1 x2:Int,e=.returned (.agg #[x0,x1,x2])/\F x0 x1 x2 w
abbrev wE(F:Int->Int->Int->Int->Int->Int->World->Prop)(e:Ending)(w:World):Prop:=∃x0 x1 x2 x3 x4 x5:Int,e=.returned (.agg #[x0,x1,x2,x3,x4,x5])/\F x0 x1 x2 x3 x4 x5 w
abbrev Ra9(F:Int->Int->Int->Int->Int->Int->Int->Int->Int->World->Prop)(e:Ending)(w:World):Prop:=∃x0 x1 x2 x3 x4 x5 x6 x7 x8:Int,e=.returned (.agg #[x0,x1,x2,x3,x4,x5,x6,x7,x8])/\F x0 x1 x2 x3 x4 x5 x6 x7 x8 w
abbrev Ri(F:Int->World->Prop)(e:Ending)(w:World):Prop:=∃x:Int,e=.returned x/\F x w
abbrev Rb(F:Bool->World->Prop)(e:Ending)(w:World):Prop:=∃x:Bool,e=.returned (.bool x)/\F x w
abbrev Rv(F:Value->World->Prop)(e:Ending)(w:World):Prop:=∃x:Value,e=.returned x/\F x w
abbrev Rs(F:Sl->World->Prop)(e:Ending)(w:World):Prop:=∃x:Sl,e=.returned x/\F x w
abbrev Rt(F:World->Prop)(e:Ending)(w:World):Prop:=e=.returned (.tuple #[])/\F w
abbrev Nq(p:Option Addr)(j:Nat):Prop:=bt p≠some j
abbrev Nb(i j:Nat):Prop:=bt (some ⟨i,0,none⟩)≠some j
abbrev Wt(w:World)(a:Addr)(n:Nat):Prop:=true=true/\Wr w (some a) n
abbrev Aw(w:World)(l:Array Value)(t:TypeId)(F:World->Prop):Prop:=∀v,v=w.alloc (.cells l t)->F v
abbrev Sw(w:World)(i:Nat)(l:Array Value)(F:World->Prop):Prop:=∀v,v=w.setRow i l->F v
def Tryz.asv:Dr Tryz.prog:=ajo (by kernel_rfl)
def Tryz.mixed:Tryz.prog.follows .mixedOrders=true:=by kernel_rfl
def cq{pre:Prop}{f:FuncId}{fn:Func}(an:Ann){args:List Value}{w:World}{R:Ending->World->Prop}(hf:Tryz.prog.funcs[f]? =some fn)(h:pre)(k:pre=aft Tryz.prog an fn args w R:=by kernel_rfl):Calls Tryz.prog f args.toArray w R:=
 Nn (an:=an) Tryz.asv Tryz.mixed hf h k
abbrev bU:Ann:=⟨[],[],[]⟩
inductive CQ|a
abbrev ah:CQ:=.a
instance:CoeFun CQ (λ_=>FuncId->Array Value->World->(Ending->World->Prop)->Prop):=⟨λ_=>Calls Tryz.prog⟩
def RB.vc(h:
 Aw w #[aw,ao,au] 41 λw0=>
 Br (ao<0)
 (R (Value.tuple #[aa,false]) w0)
 (Br (ao>=32)
 (R (Value.tuple #[aa,false]) w0)
 (ah 282 #[au,(16:Int)] w0.drew (Ri λx2 w1=>Kp w w0.drew w1/\
 af w1 w 0 [aw]/\af w1 (dU w 1) 0 [ao]/\ah 282 #[aw,(16:Int)] w1 (Ri λx4 w3=>Kp w w1 w3/\
 af w3 (dU w 1) 0 [ao]/\R (Value.tuple #[(ak ((ak ((ak ((ak (ao*16))+x2))*16))+x4)),true]) w3))))):ah 255 #[.agg #[aw,ao,au]] w R:=
 cq bU Tryz.func255 h
def WE.vc(h:
 ah 158 #[a0] w (λe w0=>∃(t1:ByteArray),e=Value.string t1/\
 R (Value.bool (!wA t1 (ByteArray.mk #[]))) w0)):ah 108 #[a0] w R:=
 cq bU Tryz.func108 h
def Ds.vc{a0:Addr}(h:
 Aw w #[aq,ar,aA] 41 λw0=>
 ∃(x1 x2:Int),af w0.drew (ae (some a0) 0) 0 [x1,x2]/\
 ah 193 #[.agg #[x1,x2],.agg #[aq,ar,aA]] w0.drew (λe w3=>∃(x4:Int)(b5:Bool),e=Value.tuple #[x4,b5]/\Kp w w0.drew w3/\
 Br (!b5)
 (R (5:Int) w3)
 (ah 108 #[a2] w3 (Rb λb7 w6=>Kp w w3 w6/\
 Br (!b7)
 (R (1:Int) w6)
 (∃(s8:Sl),ld w6 (ae (some a0) 2)=some (.slice s8.a s8.n s8.c)/\
 ah 295 #[s8,x4,a2] w6 (Rs λyN w9=>Kp w w6 w9/\
 (true=true/\Wr w9 (ae (some a0) 2) 1)/\bt (ae (some a0) 2)≠some w.heap.size/\(∀bc,bc=aK w9 (ae (some a0) 2) [yN]->
 R (0:Int) bc))))))):ah 268 #[a0,.agg #[aq,ar,aA],a2] w R:=
 cq bU Tryz.func268 h
def Bk.vc{a0:Addr}{a1:Addr}(h:
 ∃(b0:Bool),ld w (ae (some a1) 1)=some (.bool b0)/\
 Br (!b0)
 (R (0:Int) w)
 (∃(p1:Option Addr),ld w (ae (some a1) 0)=some (.pointer p1)/\
 aS (dK p1) (aS (dK p1) (∃(x2 x3:Int),af w (ae p1 0) 0 [x2,x3]/\
 ah 95 #[.agg #[x2,x3]] w (λe w4=>∃(x5 x6:Int),e=Value.agg #[x5,x6]/\
 ah 72 #[.agg #[x5,x6]] w4 (λe w7=>∃(x8:Int)(b9:Bool),e=Value.tuple #[x8,b9]/\
 ∃(Kn:Option Addr),ld w7.drew (ae (some a0) 0)=some (.pointer Kn)/\
 ∃(ZC:Option Addr),ld w7.drew (ae (some a1) 0)=some (.pointer ZC)/\
 ah 137 #[ZC] w7.drew (λe cU=>∃(yE:Sl),e=yE/\
 af cU (ae (some a0) 0) 0 [.pointer Kn]/\ah 115 #[Kn,x8,yE] cU (λe bJ=>∃(cD:Int),e=cD/\
 (true=true/\Wr bJ (ae (some a1) 1) 1)/\(∀cP,cP=aK bJ (ae (some a1) 1) [.bool (cD !=0)]->
 R cD cP))))))))):ah 79 #[a0,a1] w R:=
 cq bU Tryz.func79 h
def Dt.vc{a0:Addr}(h:
 ∃(s0:Sl),ld w (ae (some a0) 3)=some (.slice s0.a s0.n s0.c)/\
 ez s0.a a1 s0.n/\∃(p1:Option Addr),ld w (ae s0.a ((a1:Int).toNat*1))=some (.pointer p1)/\
 ∃(s2:Sl),ld w.drew (ae (some a0) 3)=some (.slice s2.a s2.n s2.c)/\
 (0:Int)<=a1/\a1<=((s2.c:Nat):Int)/\(0:Int)<=a1/\a1<=a1/\∃(s3:Sl),ld w.drew (ae (some a0) 3)=some (.slice s3.a s3.n s3.c)/\
 (0:Int)<=(ak (a1+1))/\(ak (a1+1))<=((s3.n:Nat):Int)/\∃l4:LV,Rd w.drew (aJ s3.a (((ak (a1+1)):Int).toNat) (s3.c) 1) l4/\ba 8 1 w.drew ⟨(aJ s2.a (0) ((a1:Int).toNat) 1),((a1:Int).toNat-0),((a1:Int).toNat-0)⟩ (s3.n-((ak (a1+1)):Int).toNat) l4/\∀(s5:Sl)(w6:World),aX 137 1 w.drew ⟨(aJ s2.a (0) ((a1:Int).toNat) 1),((a1:Int).toNat-0),((a1:Int).toNat-0)⟩ (s3.n-((ak (a1+1)):Int).toNat) l4 s5 w6->
 af w6 (ae (some a0) 3) 0 [s3]/\af w6 (ae (some a0) 3) 0 [s2]/\(true=true/\Wr w6 (ae (some a0) 3) 1)/\(∀w7,w7=aK w6 (ae (some a0) 3) [s5]->
 R p1 w7)):ah 80 #[a0,a1] w R:=
 cq bU Tryz.func80 h
def WG.vc(h:
 ah 212 #[a0] w (λe w0=>∃(p1:Option Addr),e=p1/\
 Aw w0 #[p1] 217 λw2=>
 R (Value.pointer (aB w0)) w2)):ah 149 #[a0] w R:=
 cq bU Tryz.func149 h
def tF.vc{a0:Sl}{a1:Value}(h:
 ∃I0:Nat->Int->World->Prop,
 (∃n1,I0 n1 (0) w)/\
 ∀(n1:Nat)(wg:Nat->Value)(x3:Int)(w4:World),I0 n1 x3 w4->
 Br (decide (x3<((a0.n:Nat):Int)))
 (ez a0.a x3 a0.n/\∃(p6:Option Addr),ld w4 (ae a0.a ((x3:Int).toNat*1))=some (.pointer p6)/\
 cL Tryz.prog a1 [.pointer p6] w4 (λe w7=>∃(b8:Bool),e=b8/\
 Br b8
 (R x3 w7)
 (∃n5,n5<n1/\I0 n5 ((ak (x3+1))) w7)))
 (R (Value.int .i64 (-1)) w4)):ah 129 #[a0,a1] w R:=
 cq ⟨[(2,⟨[(8,.int .i64)],[],[]⟩)],[],[]⟩ Tryz.func129 h
def xE.vc{a0:Addr}{c0:Addr}(h:
 ∃(p0:Option Addr),ld w.drew (ae (some a0) 0)=some (.pointer p0)/\
 aS (dK p0) (aS (dK p0) (∃(x1 x2:Int),af w.drew (ae p0 0) 0 [x1,x2]/\
 ∃(x3 x4:Int),af w.drew (some c0) 0 [x3,x4]/\
 ah 95 #[.agg #[x1,x2]] w.drew (λe w5=>∃(x6 x7:Int),e=Value.agg #[x6,x7]/\
 af w5 (some c0) 0 [x3,x4]/\af w5 (ae (some a0) 0) 0 [.pointer p0]/\R (Value.bool ((x6==x3) &&(x7==x4))) w5)))):ah 130 #[a0,c0] w R:=
 cq bU Tryz.func130 h
def zD.vc(h:
 Aw w #[aw,ao] 172 λw0=>
 Aw w0 #[aa,aa] 40 λw1=>
 Sw w1 w0 #[aw,ao] λw2=>
 R (Value.agg #[aw,ao]) w2):ah 95 #[.agg #[aw,ao]] w R:=
 cq bU Tryz.func95 h
def xF.vc{a0:Addr}(h:
 ∃(x0:Int),ld w (ae (some a0) 2)=some (.int .i64 x0)/\
 R (Value.bool (x0==0)) w):ah 131 #[a0] w R:=
 cq bU Tryz.func131 h
def WH.vc(h:
 Br (a0>=0)
 (R (Value.bool (decide (a0<=1099511627776))) w)
 (R false w)):ah 132 #[a0] w R:=
 cq bU Tryz.func132 h
def WI.vc{a0:Sl}(h:
 ∃I0:Nat->Sl->Int->Int->Sl->World->Prop,
 (∃n1,I0 n1 a0 ((-1)) a1 ⟨none,0,0⟩ w)/\
 ∀(n1:Nat)(wg:Nat->Value)(s3:Sl)(x4 x5:Int)(s6:Sl)(w7:World),I0 n1 s3 x4 x5 s6 w7->
 Br (decide ((((s3.n:Nat):Int):Int)>0))
 (ez s3.a 0 s3.n/\∃(x9:Int),ld w7 (ae s3.a ((0:Int).toNat*1))=some (.int .u8 x9)/\
 Aw w7 #[aa,aa] 252 λbN=>
 Sw bN w7 #[aa,(ak x9)] λbc=>
 ah 108 #[(ak x9)] bc (Rb λHl cU=>Kp w7 bc cU/\
 Br (!Hl)
 (R (Value.tuple #[.slice none 0 0,(2:Int)]) cU)
 (Br (((ak x9):Int)==x4)
 (R (Value.tuple #[.slice none 0 0,(2:Int)]) cU)
 ((0:Int)<=((s3.n:Nat):Int)/\((s3.n:Nat):Int)<=((s3.c:Nat):Int)/\(0:Int)<=((s3.n:Nat):Int)/\(((s3.n:Nat):Int):Int)<=((s3.n:Nat):Int)/\(0:Int)<=1/\(1:Int)<=((s3.n:Nat):Int)/\ah 184 #[.slice (aJ s3.a ((1:Int).toNat) ((((s3.n:Nat):Int):Int).toNat) 1) ((((s3.n:Nat):Int):Int).toNat-(1:Int).toNat) ((((s3.n:Nat):Int):Int).toNat-(1:Int).toNat)] cU (λe bJ=>∃(cD cp cZ:Int),e=Value.tuple #[cD,cp,cZ]/\Kp w7 cU bJ/\
 Br (cZ !=0)
 (R (Value.tuple #[.slice none 0 0,cZ]) bJ)
 (Br (cD==0)
 (R (Value.tuple #[.slice none 0 0,(2:Int)]) bJ)
 (Br (cD>x5)
 (R (Value.tuple #[.slice none 0 0,(2:Int)]) bJ)
 (Sw bJ w7 #[cD,(ak x9)] λdu=>
 (0:Int)<=(ak (1+cp))/\(ak (1+cp))<=((s3.n:Nat):Int)/\Aw du.drew #[cD,(ak x9)] 252 λgn=>
 ba 16 2 gn s6 1 [cD,(ak x9)]/\∀(vH:Sl)(eU:World),aX 252 2 gn s6 1 [cD,(ak x9)] vH eU->Kp w7 gn eU/\eU.heap[du.drew.heap.size]? =gn.heap[du.drew.heap.size]?/\
 Br (((ak (x5-cD)):Int)==0)
 (Br (decide (((ak (x5-cD)):Int)>0))
 (R (Value.tuple #[.slice none 0 0,(3:Int)]) eU)
 (Br (decide (((((s3.n-((ak (1+cp)):Int).toNat):Nat):Int):Int)>0))
 (R (Value.tuple #[.slice none 0 0,(2:Int)]) eU)
 (R (Value.tuple #[vH,aa]) eU)))
 (∃n8,n8<n1/\I0 n8 ⟨(aJ s3.a (((ak (1+cp)):Int).toNat) (s3.c) 1),(s3.n-((ak (1+cp)):Int).toNat),(s3.c-((ak (1+cp)):Int).toNat)⟩ ((ak x9)) ((ak (x5-cD))) vH eU)))))))))
 (Br (x5>0)
 (R (Value.tuple #[.slice none 0 0,(3:Int)]) w7)
 (Br (decide ((((s3.n:Nat):Int):Int)>0))
 (R (Value.tuple #[.slice none 0 0,(2:Int)]) w7)
 (R (Value.tuple #[s6,aa]) w7)))):ah 134 #[a0,a1] w R:=
 cq ⟨[(3,⟨[(0,.slice),(7,.int .i64),(1,.int .i64),(6,.slice)],[],[]⟩)],[],[]⟩ Tryz.func134 h
def A7.vc{a0:Addr}(h:
 ∃(p0:Option Addr),ld w (ae (some a0) 0)=some (.pointer p0)/\
 R (Value.func (.func 83) #[p0] #[]) w):ah 27 #[a0] w R:=
 cq bU Tryz.func27 h
def WJ.vc{a1:Sl}(h:
 Aw w #[aw,ao] 40 λw0=>
 ah 185 #[a1,(8192:Int)] w0 (Rb λb2 w1=>Kp w w0 w1/\
 Br (!b2)
 (R (Value.tuple #[.pointer none,(1:Int)]) w1)
 ((ah 186 #[a1] w1.drew (Rs λs4 w3=>Kp w w1.drew w3/\
 Aw w3 #[aw,ao,s4] 175 λw5=>
 R (Value.tuple #[.pointer (aB w3),aa]) w5))/\(ah 186 #[a1] w1.drew (Rs λs7 w6=>Kp w w1.drew w6/\
 af w6 w 0 [aw,ao]/\Aw w6 #[aw,ao,s7] 175 λw8=>
 R (Value.tuple #[.pointer (aB w6),aa]) w8))))):ah 135 #[.agg #[aw,ao],a1] w R:=
 cq bU Tryz.func135 h
def Wi.vc(h:
 Aw w #[aq,ar] 40 λw0=>
 Aw w0 #[.slice none 0 0] 32 λw1=>
 ah 187 #[a0,.agg #[aq,ar]] w1 (Rv λv3 w2=>K2 w w0 w1 w2 (
 ∃(xs4:List (LV))(Rd5 F6:Nat->Prop)(I7:Nat->(Nat->Prop)->Sl->World->Prop)(X8:Option Nat->(Nat->Prop)->Sl->World->Prop),
 (∀x ∈ xs4,∃(x9:Int),x=[.int .i64 x9])/\
 (∀(EC:Nat)(F11:Nat->Prop)(kh:Sl)(bG bJ:World),I7 EC F11 kh bG->Below w2 bG bJ->(∀i,F11 i->bJ.heap[i]? =bG.heap[i]?)->I7 EC F11 kh bJ)/\
 (∀(n15:Option Nat)(F16:Nat->Prop)(AX:Sl)(du gn:World),X8 n15 F16 AX du->Below w2 du gn->(∀i,F16 i->gn.heap[i]? =du.heap[i]?)->X8 n15 F16 AX gn)/\
 (∀(TX:Nat)(F21:Nat->Prop)(s22:Sl)(eR:World),I7 TX F21 s22 eR->∀i,F21 i->i<eR.heap.size/\i≠w2.heap.size/\i≠w2.heap.size+1)/\
 (∀(n24:Option Nat)(F25:Nat->Prop)(Q7:Sl)(eB:World),X8 n24 F25 Q7 eB->∀i,F25 i->i<eB.heap.size/\i≠w2.heap.size/\i≠w2.heap.size+1)/\
 (∀i,Rd5 i->i<w2.heap.size/\¬F6 i/\i≠w.heap.size/\i≠w0.heap.size/\True)/\
 (∀gQ:World,M1 w2 w2 gQ->Iter Tryz.prog (v3) gQ Rd5 xs4/\aL [aq,ar]/\I7 0 F6 ⟨none,0,0⟩ gQ)/\
 (∀(Z4:Nat)(F30:Nat->Prop)(atZ:Nat->Value)(vZ:Sl)(eF:Int)(iq:World),xs4[Z4]? =some [.int .i64 eF]->I7 Z4 F30 vZ iq->
 Below iq iq iq/\∀ki:World,Rec (w2.heap.size+1) iq ki->I7 Z4 F30 vZ ki->
 Aw ki #[eF] 3 λjN=>
 ba 8 1 jN vZ 1 [eF]/\∀(s37:Sl)(oL:World),aX 3 1 jN vZ 1 [eF] s37 oL->K3 w w0 ki jN oL (
 Sw oL w0 #[s37] λkP=>
 ∃F40:Nat->Prop,(aL [aq,ar]/\I7 (Z4+1) F40 s37 kP)/\Step (λi=>(F30 i\/i ∈([w.heap.size,w0.heap.size]:List Nat))\/iq.heap.size<=i) (λi=>F40 i\/i ∈([w.heap.size,w0.heap.size]:List Nat)) ki kP))/\
 (∀(F41:Nat->Prop)(aBz:Nat->Value)(s43:Sl)(kI:World),I7 xs4.length F41 s43 kI->kI.heap[w2.heap.size]? =some (.deferred (some []))->
 ah 189 #[s43] kI (Rs λs46 yP=>K2 w w0 kI yP (
 ah 188 #[s46] yP (Rs λTW mw=>K2 w w0 yP mw (
 mw.heap[w2.heap.size]? =some (.deferred (some []))/\∀mI:World,Rec w2 mw mI->
 R TW mI)))))/\
 True))):ah 136 #[a0,.agg #[aq,ar]] w R:=
 cq ⟨[],[],[(4,⟨[],[(1,[.slice])],[]⟩,[.sc (.int .i64)])]⟩ Tryz.func136 h
def aaB.vc(h:
 Br (a1<1)
 (R (0:Int) w)
 (aS (L8 a1) (aS (L8 a1) (Br (decide (((Int.tmod a0 a1):Int)<0))
 (R ((ak ((ak (Int.tdiv a0 a1))-1))) w)
 (R ((ak (Int.tdiv a0 a1))) w))))):ah 192 #[a0,a1] w R:=
 cq bU Tryz.func192 h
def zE.vc(h:
 Aw w #[aw,ao] 172 λw0=>
 Aw w0 #[aq,ar,aA] 41 λw1=>
 ah 255 #[.agg #[aq,ar,aA]] w1 (λe w2=>∃(x3:Int)(b4:Bool),e=Value.tuple #[x3,b4]/\K2 w w0 w1 w2 (
 Br b4
 (ah 139 #[.agg #[aq,ar,aA]] w2.drew (Ra2 λx6 x7 w5=>K2 w w0 w2.drew w5 (
 af w5 w 0 [aw,ao]/\R (Value.tuple #[x3,.bool ((x6==aw) &&(x7==ao))]) w5)))
 (R (Value.tuple #[x3,false]) w2.drew)))):ah 193 #[.agg #[aw,ao],.agg #[aq,ar,aA]] w R:=
 cq bU Tryz.func193 h
def afu.vc{a0:Sl}(h:
 ∃I0:Nat->Int->Int->World->Prop,
 (∃n1,I0 n1 (0) a1 w)/\
 ∀(n1:Nat)(wg:Nat->Value)(x3 x4:Int)(w5:World),I0 n1 x3 x4 w5->
 Br (decide (x3<((a0.n:Nat):Int)))
 (ez a0.a x3 a0.n/\∃(x7 x8:Int),af w5 (ae a0.a ((x3:Int).toNat*2)) 0 [x7,x8]/\
 Aw w5 #[aa,aa] 252 λw9=>
 Sw w9 w5 #[x7,x8] λbN=>
 Br (x4>=0)
 (Br (x4<x7)
 (R x8 bN)
 (∃n6,n6<n1/\I0 n6 ((ak (x3+1))) ((ak (x4-x7))) bN))
 (∃n6,n6<n1/\I0 n6 ((ak (x3+1))) ((ak (x4-x7))) bN))
 (R (Value.int .i64 (-1)) w5)):ah 194 #[a0,a1] w R:=
 cq ⟨[(2,⟨[(9,.int .i64),(1,.int .i64)],[],[]⟩)],[],[]⟩ Tryz.func194 h
def WK.vc(h:
 Br (a0>=8)
 (R (Value.bool (decide (a0<16))) w)
 (R false w)):ah 202 #[a0] w R:=
 cq bU Tryz.func202 h
def Bt.vc{a0:Addr}(h:
 ∃(s0:Sl),ld w (ae (some a0) 3)=some (.slice s0.a s0.n s0.c)/\
 ∃I1:Nat->Int->Sl->World->Prop,
 (∃n2,I1 n2 (0) ⟨none,0,0⟩ w)/\
 ∀(n2:Nat)(us3:Nat->Value)(x4:Int)(s5:Sl)(w6:World),I1 n2 x4 s5 w6->
 Br (decide (x4<((s0.n:Nat):Int)))
 (ez s0.a x4 s0.n/\∃(p8:Option Addr),ld w6 (ae s0.a ((x4:Int).toNat*1))=some (.pointer p8)/\
 aS (dK p8) (aS (dK p8) (∃(p9:Option Addr),ld w6 (ae p8 0)=some (.pointer p9)/\
 aS (dK p9) (aS (dK p9) (∃(bk bA:Int),af w6 (ae p9 0) 0 [bk,bA]/\
 ah 95 #[.agg #[bk,bA]] w6 (λe cU=>∃(cn bW:Int),e=Value.agg #[cn,bW]/\
 Aw cU #[cn,bW] 40 λeu=>
 ba 16 2 eu s5 1 [cn,bW]/\∀(Z5:Sl)(cJ:World),aX 40 2 eu s5 1 [cn,bW] Z5 cJ->Kp cU eu cJ/\
 ∃n7,n7<n2/\I1 n7 ((ak (x4+1))) Z5 cJ))))))
 (R s5 w6)):ah 37 #[a0] w R:=
 cq ⟨[(3,⟨[(11,.int .i64),(3,.slice)],[],[]⟩)],[],[]⟩ Tryz.func37 h
def MJ.vc(h:
 Aw w #[aw,ao] 40 λw0=>
 Aw w0 #[aa,aa,aa,aa,aa,aa,aa,aa,aa,aa] 227 λw1=>
 Wt w1 ⟨w0,0,none⟩ 10/\Nb w0 w/\(∀w2,w2=aK w1 (aB w0) [aw,ao,(ak (aw-1)),ao,(ak (aw+1)),ao,aw,(ak (ao-1)),aw,(ak (ao+1))]->
 ∃(x3 x4 x5 x6 x7 x8 x9 bk bA bS:Int),af w2 (aB w0) 0 [x3,x4,x5,x6,x7,x8,x9,bk,bA,bS]/\
 R (Value.agg #[x3,x4,x5,x6,x7,x8,x9,bk,bA,bS]) w2)):ah 150 #[.agg #[aw,ao]] w R:=
 cq bU Tryz.func150 h
def vI.vc{a0:Sl}(h:
 Aw w #[aq,ar] 40 λw0=>
 ah 213 #[a0,.agg #[aq,ar]] w0 (Ri λx2 w1=>Kp w w0 w1/\
 R (Value.bool (decide (x2>=0))) w1)):ah 151 #[a0,.agg #[aq,ar]] w R:=
 cq bU Tryz.func151 h
def No.vc(h:
 ah 202 #[a0] w (λe w0=>∃(b1:Bool),e=b1/\
 Br (!b1)
 (R (Value.int .i64 (-1)) w0)
 (R ((ak (a0-8))) w0))):ah 280 #[a0] w R:=
 cq bU Tryz.func280 h
def Wc.vc(h:
 aS (L8 a1) (Br (decide (((ak ((ak (Int.tdiv a0 a1))*a1)):Int)>a0))
 (R ((ak ((ak (Int.tdiv a0 a1))-1))) w)
 (R ((ak (Int.tdiv a0 a1))) w))):ah 86 #[a0,a1] w R:=
 cq bU Tryz.func86 h
def WL.vc(h:
 Br (a0>=0)
 (Br (a0<=15)
 (Br (a0 !=6)
 (R (Value.bool (a0 !=7)) w)
 (R false w))
 (R false w))
 (R false w)):ah 111 #[a0] w R:=
 cq bU Tryz.func111 h
def aaC.vc(h:
 Br (a1<1)
 (R (0:Int) w)
 (aS (L8 a1) (Br (decide (((Int.tmod a0 a1):Int)<0))
 (R ((ak ((Int.tmod a0 a1)+a1))) w)
 (R (Value.int .i64 (Int.tmod a0 a1)) w)))):ah 282 #[a0,a1] w R:=
 cq bU Tryz.func282 h
def R7.vc(h:
 Br (a0<0)
 (R (Value.string (ByteArray.mk #[])) w)
 (Br (a0>=16)
 (R (Value.string (ByteArray.mk #[])) w)
 (ah 218 #[] w (λe w0=>∃(t1 t2 t3 t4 t5 t6 t7 t8 t9 t10 t11 t12 t13 t14 t15 t16:ByteArray),e=Value.agg #[.string t1,.string t2,.string t3,.string t4,.string t5,.string t6,.string t7,.string t8,.string t9,.string t10,.string t11,.string t12,.string t13,.string t14,.string t15,.string t16]/\
 ((0:Int)<=a0/\a0<((16:Nat):Int))/\∃(t17:ByteArray),([.string t1,.string t2,.string t3,.string t4,.string t5,.string t6,.string t7,.string t8,.string t9,.string t10,.string t11,.string t12,.string t13,.string t14,.string t15,.string t16]:LV)[(a0:Int).toNat*1]? =some (.string t17)/\
 R (Value.string t17) w0)))):ah 158 #[a0] w R:=
 cq bU Tryz.func158 h
def aaW.vc{a0:Sl}(h:
 Br (a1<0)
 (ah 186 #[a0] w (λe w0=>∃(s1:Sl),e=s1/\
 R s1 w0))
 (ah 253 #[a0] w (λe w2=>∃(x3:Int),e=x3/\
 Br (a1>=x3)
 (ah 186 #[a0] w2 (λe w4=>∃(s5:Sl),e=s5/\
 R s5 w4))
 (ah 309 #[a0,a1,(ak (a1+1)),a2] w2 (λe w6=>∃(s7:Sl),e=s7/\
 R s7 w6))))):ah 295 #[a0,a1,a2] w R:=
 cq bU Tryz.func295 h
def zF.vc{a0:Addr}(h:
 ∃(s0:Sl),ld w (ae (some a0) 2)=some (.slice s0.a s0.n s0.c)/\
 ah 190 #[s0] w (λe w1=>∃(s2:Sl)(x3:Int),e=Value.tuple #[s2,x3]/\
 R s2 w1)):ah 137 #[a0] w R:=
 cq bU Tryz.func137 h
def aaX.vc(h:
 ∀w0,w0=w.alloc (.map #[] 0)->
 Aw w0 #[.int .i64 (if 1048576<(if 0>a0 then 0 else a0) then 1048576 else (if 0>a0 then 0 else a0)),aa,aa,.map (some w.heap.size),.slice none 0 0] 277 λw1=>
 R (Value.pointer (aB w0)) w1):ah 212 #[a0] w R:=
 cq bU Tryz.func212 h
def H4.vc{a0:Addr}(h:
 ah 228 #[a0] w (λe w0=>∃(m1:Option Nat),e=Value.map m1/\
 ∃(G2:Value->Prop)(kvs3:List (Value × Value)),je Tryz.prog 3 G2/\cG G2 w0 m1 kvs3/\G2 a1/\∃(s4:Sl),∃b5:Bool,H5 kvs3 a1 (.slice none 0 0) s4 b5/\
 ah 230 #[s4] w0 (λe w6=>∃(s7:Sl),e=s7/\
 R (Value.tuple #[s7,b5]) w6))):ah 182 #[a0,a1] w R:=
 cq bU Tryz.func182 h
def R8.vc{a0:Sl}(h:
 ah 246 #[a0] w (λe w0=>∃(s1:Sl)(x2:Int),e=Value.tuple #[s1,x2]/\
 Br (x2 !=0)
 (R (Value.tuple #[aa,.slice none 0 0,x2]) w0)
 (Br (decide ((((s1.n:Nat):Int):Int)<7))
 (R (Value.tuple #[aa,.slice none 0 0,(3:Int)]) w0)
 ((0:Int)<=4/\4<=((s1.c:Nat):Int)/\(0:Int)<=7/\7<=((s1.c:Nat):Int)/\(0:Int)<=4/\(4:Int)<=7/\(0:Int)<=7/\7<=((s1.n:Nat):Int)/\ah 247 #[.slice (aJ s1.a (0) (s1.c) 1) ((4:Int).toNat-0) (s1.c-0)] w0.drew (λe w3=>∃(x4:Int),e=x4/\
 ah 247 #[.slice (aJ s1.a ((4:Int).toNat) (s1.c) 1) ((7:Int).toNat-(4:Int).toNat) (s1.c-(4:Int).toNat)] w3 (λe w5=>∃(x6:Int),e=x6/\
 Br (x4<1)
 (R (Value.tuple #[aa,.slice none 0 0,(2:Int)]) w5)
 (Br (x4>1073741824)
 (R (Value.tuple #[aa,.slice none 0 0,(2:Int)]) w5)
 (Br (x6>65536)
 (R (Value.tuple #[aa,.slice none 0 0,(2:Int)]) w5)
 (Br (x6 !=(((s1.n-(7:Int).toNat):Nat):Int))
 (R (Value.tuple #[aa,.slice none 0 0,(2:Int)]) w5)
 (R (Value.tuple #[x4,.slice (aJ s1.a ((7:Int).toNat) (s1.c) 1) (s1.n-(7:Int).toNat) (s1.c-(7:Int).toNat),aa]) w5)))))))))):ah 183 #[a0] w R:=
 cq bU Tryz.func183 h
def Np.vc{a0:Sl}(h:
 (0:Int)<=(if 3<((a0.n:Nat):Int) then 3 else ((a0.n:Nat):Int))/\(if 3<((a0.n:Nat):Int) then 3 else ((a0.n:Nat):Int))<=((a0.c:Nat):Int)/\∃I0:Nat->Int->Int->World->Prop,
 (∃n1,I0 n1 (0) (0) w)/\
 ∀(n1:Nat)(wg:Nat->Value)(x3 x4:Int)(w5:World),I0 n1 x3 x4 w5->
 Br (decide (x3<(((((if 3<((a0.n:Nat):Int) then 3 else ((a0.n:Nat):Int)):Int).toNat-0):Nat):Int)))
 (ez (aJ a0.a (0) (a0.c) 1) x3 (((if 3<((a0.n:Nat):Int) then 3 else ((a0.n:Nat):Int)):Int).toNat-0)/\∃(x7:Int),ld w5 (ae (aJ a0.a (0) (a0.c) 1) ((x3:Int).toNat*1))=some (.int .u8 x7)/\
 aS (ngC (ak (7*x3))) (Br (x7>=128)
 (∃n6,n6<n1/\I0 n6 ((ak (x3+1))) ((Mx .i64 x4 (ak ((ak (mB .u8 x7 128))*2 ^(min ((ak (7*x3)):Int).toNat 64))))) w5)
 (Br (x7==0)
 (Br (x3>0)
 (R (Value.tuple #[aa,aa,(2:Int)]) w5)
 (Br (decide (((Mx .i64 x4 (ak ((ak (mB .u8 x7 128))*2 ^(min ((ak (7*x3)):Int).toNat 64)))):Int)>1048576))
 (R (Value.tuple #[aa,aa,(2:Int)]) w5)
 (R (Value.tuple #[.int .i64 (Mx .i64 x4 (ak ((ak (mB .u8 x7 128))*2 ^(min ((ak (7*x3)):Int).toNat 64)))),(ak (x3+1)),aa]) w5)))
 (Br (decide (((Mx .i64 x4 (ak ((ak (mB .u8 x7 128))*2 ^(min ((ak (7*x3)):Int).toNat 64)))):Int)>1048576))
 (R (Value.tuple #[aa,aa,(2:Int)]) w5)
 (R (Value.tuple #[.int .i64 (Mx .i64 x4 (ak ((ak (mB .u8 x7 128))*2 ^(min ((ak (7*x3)):Int).toNat 64)))),(ak (x3+1)),aa]) w5)))))
 (Br (decide ((((a0.n:Nat):Int):Int)<3))
 (R (Value.tuple #[aa,aa,(3:Int)]) w5)
 (R (Value.tuple #[aa,aa,(2:Int)]) w5))):ah 184 #[a0] w R:=
 cq ⟨[(3,⟨[(14,.int .i64),(5,.int .i64)],[],[]⟩)],[],[]⟩ Tryz.func184 h
def aaY.vc{a0:Sl}(h:
 ∃I0:Nat->Int->Int->World->Prop,
 (∃n1,I0 n1 (0) a1 w)/\
 ∀(n1:Nat)(wg:Nat->Value)(x3 x4:Int)(w5:World),I0 n1 x3 x4 w5->
 Br (decide (x3<((a0.n:Nat):Int)))
 (ez a0.a x3 a0.n/\∃(x7 x8:Int),af w5 (ae a0.a ((x3:Int).toNat*2)) 0 [x7,x8]/\
 Aw w5 #[aa,aa] 252 λw9=>
 Sw w9 w5 #[x7,x8] λbN=>
 Br (x7<1)
 (R false bN.drew)
 (Br (x7>x4)
 (R false bN.drew)
 (ah 108 #[x8] bN.drew (Rb λTV bc=>Kp w5 bN.drew bc/\
 af bc w5 0 [x7]/\af bc w5 0 [x7]/\Br (!TV)
 (R false bc)
 (Br (x3>0)
 (ez a0.a (ak (x3-1)) a0.n/\aS (dK (ae a0.a (((ak (x3-1)):Int).toNat*2))) (∃(cn:Int),ld bc (ae (ae a0.a (((ak (x3-1)):Int).toNat*2)) 1)=some (.int .i64 cn)/\
 Br (cn==x8)
 (R false bc)
 (∃n6,n6<n1/\I0 n6 ((ak (x3+1))) ((ak (x4-x7))) bc)))
 (∃n6,n6<n1/\I0 n6 ((ak (x3+1))) ((ak (x4-x7))) bc))))))
 (Br (a1>0)
 (R (Value.bool (x4==0)) w5)
 (R false w5))):ah 185 #[a0,a1] w R:=
 cq ⟨[(3,⟨[(11,.int .i64),(5,.int .i64)],[],[]⟩)],[],[]⟩ Tryz.func185 h
def Bu.vc{a0:Sl}(h:
 Br (a0.a).isNone
 (R (Value.slice none 0 0) w)
 (Aw w #[] 252 λw0=>
 ∃l1:LV,Rd w0 a0.a l1/\ba 16 2 w0 ⟨(aB w),0,0⟩ a0.n l1/\∀(s2:Sl)(w3:World),aX 252 2 w0 ⟨(aB w),0,0⟩ a0.n l1 s2 w3->Kp w w0 w3/\
 R s2 w3)):ah 186 #[a0] w R:=
 cq bU Tryz.func186 h
def WM.vc(h:
 Aw w #[a0] 3 λw0=>
 Aw w0 #[aq,ar] 40 λw1=>
 R (Value.func (.func 248) #[] #[.pointer (aB w0),w]) w1):ah 187 #[a0,.agg #[aq,ar]] w R:=
 cq bU Tryz.func187 h
def afv.vc{a0:Sl}(h:
 ∃I0:Nat->Int->Sl->World->Prop,
 (∃n1,I0 n1 (0) ⟨none,0,0⟩ w)/\
 ∀(n1:Nat)(wg:Nat->Value)(x3:Int)(s4:Sl)(w5:World),I0 n1 x3 s4 w5->
 Br (decide (x3<((a0.n:Nat):Int)))
 (ez a0.a x3 a0.n/\∃(x7:Int),ld w5 (ae a0.a ((x3:Int).toNat*1))=some (.int .i64 x7)/\
 ah 252 #[s4,.agg #[(1:Int),x7]] w5 (λe w8=>∃(s9:Sl),e=s9/\
 ∃n6,n6<n1/\I0 n6 ((ak (x3+1))) s9 w8))
 (R s4 w5)):ah 188 #[a0] w R:=
 cq ⟨[(3,⟨[(8,.int .i64),(3,.slice)],[],[]⟩)],[],[]⟩ Tryz.func188 h
def Df.vc{a0:Sl}(h:
 (0:Int)<=((a0.n:Nat):Int)/\((a0.n:Nat):Int)<=((a0.c:Nat):Int)/\(0:Int)<=((a0.n:Nat):Int)/\(((a0.n:Nat):Int):Int)<=((a0.n:Nat):Int)/\R (Value.slice (aJ a0.a (0) ((((a0.n:Nat):Int):Int).toNat) 1) ((((a0.n:Nat):Int):Int).toNat-0) ((((a0.n:Nat):Int):Int).toNat-0)) w):ah 189 #[a0] w R:=
 cq bU Tryz.func189 h
def A8.vc{a0:Sl}(h:
 Aw w #[aq,ar] 40 λw0=>
 ∃I1:Nat->Int->World->Prop,
 (∃n2,aL [aq,ar]/\I1 n2 (0) w0)/\
 ∀(n2:Nat)(us3:Nat->Value)(x4:Int)(w5:World),I1 n2 x4 w5->
 Br (decide (x4<((a0.n:Nat):Int)))
 (ez a0.a x4 a0.n/\∃(x7 x8:Int),af w5.drew (ae a0.a ((x4:Int).toNat*2)) 0 [x7,x8]/\
 Br ((aq==x7) &&(ar==x8))
 (R x4 w5.drew)
 (∃n6,n6<n2/\aL [aq,ar]/\I1 n6 ((ak (x4+1))) w5.drew))
 (R (Value.int .i64 (-1)) w5)):ah 213 #[a0,.agg #[aq,ar]] w R:=
 cq ⟨[(2,⟨[(8,.int .i64)],[],[]⟩)],[],[]⟩ Tryz.func213 h
def K9.vc(h:
 Br (a0==0)
 (R true w)
 (ah 202 #[a0] w (λe w0=>∃(b1:Bool),e=b1/\
 R b1 w0))):ah 144 #[a0] w R:=
 cq bU Tryz.func144 h
def Ns.vc(h:
 R ((ak (8+(if 7<(if 0>a0 then 0 else a0) then 7 else (if 0>a0 then 0 else a0))))) w):ah 302 #[a0] w R:=
 cq bU Tryz.func302 h
def Nt.vc(h:
 ∀w0,w0=w.alloc (.cells #[.string (ByteArray.mk #[]),.string (ByteArray.mk #[]),.string (ByteArray.mk #[]),.string (ByteArray.mk #[]),.string (ByteArray.mk #[]),.string (ByteArray.mk #[]),.string (ByteArray.mk #[]),.string (ByteArray.mk #[]),.string (ByteArray.mk #[]),.string (ByteArray.mk #[]),.string (ByteArray.mk #[]),.string (ByteArray.mk #[]),.string (ByteArray.mk #[]),.string (ByteArray.mk #[]),.string (ByteArray.mk #[]),.string (ByteArray.mk #[])] 285)->
 ∀w1,w1=w0.alloc (.cells #[.string (ByteArray.mk #[]),.string (ByteArray.mk #[]),.string (ByteArray.mk #[]),.string (ByteArray.mk #[]),.string (ByteArray.mk #[]),.string (ByteArray.mk #[]),.string (ByteArray.mk #[]),.string (ByteArray.mk #[]),.string (ByteArray.mk #[]),.string (ByteArray.mk #[]),.string (ByteArray.mk #[]),.string (ByteArray.mk #[]),.string (ByteArray.mk #[]),.string (ByteArray.mk #[]),.string (ByteArray.mk #[]),.string (ByteArray.mk #[])] 285)->
 Wt w1 ⟨w0,0,none⟩ 16/\(∀w2,w2=aK w1 (aB w0) [.string (ByteArray.mk #[97,105,114]),.string (ByteArray.mk #[115,116,111,110,101]),.string (ByteArray.mk #[100,105,114,116]),.string (ByteArray.mk #[115,97,110,100]),.string (ByteArray.mk #[108,97,100,100,101,114]),.string (ByteArray.mk #[103,108,97,115,115]),.string (ByteArray.mk #[]),.string (ByteArray.mk #[]),.string (ByteArray.mk #[]),.string (ByteArray.mk #[]),.string (ByteArray.mk #[]),.string (ByteArray.mk #[]),.string (ByteArray.mk #[]),.string (ByteArray.mk #[]),.string (ByteArray.mk #[]),.string (ByteArray.mk #[])]->
 ∃I3:Nat->Int->World->Prop,
 (∃n4,I3 n4 (0) w2)/\
 ∀(n4:Nat)(us5:Nat->Value)(x6:Int)(w7:World),I3 n4 x6 w7->
 Br (x6<8)
 (ah 267 #[x6] w7 (λe w9=>∃(t10:ByteArray),e=Value.string t10/\
 ((((ByteArray.mk #[119,97,116,101,114])).size+(t10).size:Nat):Int)<=IntKind.i64.max/\(0:Int)<=(ak (8+x6))/\((ak (8+x6)):Int)<((16:Nat):Int)/\(true=true/\Wr w9 (ae (aB w0) (((ak (8+x6)):Int).toNat*1)) 1)/\(∀bc,bc=aK w9 (ae (aB w0) (((ak (8+x6)):Int).toNat*1)) [.string ((ByteArray.mk #[119,97,116,101,114])++t10)]->
 ∃n8,n8<n4/\I3 n8 ((ak (x6+1))) bc)))
 (∃(t12 t13 t14 t15 t16 t17 t18 t19 t20 t21 t22 t23 t24 t25 t26 t27:ByteArray),af w7 (aB w0) 0 [.string t12,.string t13,.string t14,.string t15,.string t16,.string t17,.string t18,.string t19,.string t20,.string t21,.string t22,.string t23,.string t24,.string t25,.string t26,.string t27]/\
 Wt w7 ⟨w,0,none⟩ 16/\(∀gQ,gQ=aK w7 w [.string t12,.string t13,.string t14,.string t15,.string t16,.string t17,.string t18,.string t19,.string t20,.string t21,.string t22,.string t23,.string t24,.string t25,.string t26,.string t27]->
 ∃(t29 t30 t31 t32 t33 t34 t35 t36 t37 t38 t39 t40 t41 t42 t43 t44:ByteArray),af gQ w 0 [.string t29,.string t30,.string t31,.string t32,.string t33,.string t34,.string t35,.string t36,.string t37,.string t38,.string t39,.string t40,.string t41,.string t42,.string t43,.string t44]/\
 R (Value.agg #[.string t29,.string t30,.string t31,.string t32,.string t33,.string t34,.string t35,.string t36,.string t37,.string t38,.string t39,.string t40,.string t41,.string t42,.string t43,.string t44]) gQ)))):ah 218 #[] w R:=
 cq ⟨[(3,⟨[(4,.int .i64)],[],[]⟩)],[],[]⟩ Tryz.func218 h
def aaZ.vc{a0:Sl}(h:
 ∃I0:Nat->Int->Int->World->Prop,
 (∃n1,I0 n1 (0) (0) w)/\
 ∀(n1:Nat)(wg:Nat->Value)(x3 x4:Int)(w5:World),I0 n1 x3 x4 w5->
 Br (decide (x3<((a0.n:Nat):Int)))
 (ez a0.a x3 a0.n/\∃(x7 x8:Int),af w5 (ae a0.a ((x3:Int).toNat*2)) 0 [x7,x8]/\
 Aw w5 #[aa,aa] 252 λw9=>
 Sw w9 w5 #[x7,x8] λbN=>
 ∃n6,n6<n1/\I0 n6 ((ak (x3+1))) ((ak (x4+x7))) bN)
 (R x4 w5)):ah 253 #[a0] w R:=
 cq ⟨[(3,⟨[(8,.int .i64),(3,.int .i64)],[],[]⟩)],[],[]⟩ Tryz.func253 h
def WN.vc{a0:Sl}(h:
 ah 253 #[a0] w (λe w0=>∃(x1:Int),e=x1/\
 ah 108 #[a3] w0 (λe w2=>∃(b3:Bool),e=b3/\
 Br (!b3)
 (ah 186 #[a0] w2 (λe w4=>∃(s5:Sl),e=s5/\
 R s5 w4))
 (Br (decide (((if x1<(if 0>a1 then 0 else a1) then x1 else (if 0>a1 then 0 else a1)):Int)>=(if x1<(if 0>a2 then 0 else a2) then x1 else (if 0>a2 then 0 else a2))))
 (ah 186 #[a0] w2 (λe w6=>∃(s7:Sl),e=s7/\
 R s7 w6))
 (ah 319 #[a0,aa,.int .i64 (if x1<(if 0>a1 then 0 else a1) then x1 else (if 0>a1 then 0 else a1))] w2 (λe w8=>∃(s9:Sl),e=s9/\
 ah 320 #[(ak ((if x1<(if 0>a2 then 0 else a2) then x1 else (if 0>a2 then 0 else a2))-(if x1<(if 0>a1 then 0 else a1) then x1 else (if 0>a1 then 0 else a1)))),a3] w8 (λe bN=>∃(Cb:Sl),e=Cb/\
 ah 319 #[a0,.int .i64 (if x1<(if 0>a2 then 0 else a2) then x1 else (if 0>a2 then 0 else a2)),x1] bN (λe cU=>∃(yE:Sl),e=yE/\
 Aw cU #[s9,Cb,yE] 173 λbJ=>
 ah 318 #[.slice (aB cU) 3 3] bJ (λe eu=>∃(Z5:Sl),e=Z5/\
 R Z5 eu))))))))):ah 309 #[a0,a1,a2,a3] w R:=
 cq bU Tryz.func309 h
def R9.vc{a0:Sl}(h:
 ∃I0:Nat->Int->Int->World->Prop,
 (∃n1,I0 n1 (0) (1048576) w)/\
 ∀(n1:Nat)(wg:Nat->Value)(x3 x4:Int)(w5:World),I0 n1 x3 x4 w5->
 Br (decide (x3<((a0.n:Nat):Int)))
 (ez a0.a x3 a0.n/\∃(x7 x8:Int),af w5 (ae a0.a ((x3:Int).toNat*2)) 0 [x7,x8]/\
 Aw w5 #[aa,aa] 252 λw9=>
 Sw w9 w5 #[x7,x8] λbN=>
 Br (x7<1)
 (R (Value.tuple #[.slice none 0 0,(1:Int)]) bN)
 (Br (decide (((ak (x4-x7)):Int)<0))
 (R (Value.tuple #[.slice none 0 0,(1:Int)]) bN)
 (∃n6,n6<n1/\I0 n6 ((ak (x3+1))) ((ak (x4-x7))) bN)))
 (ah 253 #[a0] w5 (λe bc=>∃(bS:Int),e=bS/\
 ah 185 #[a0,bS] bc (λe bG=>∃(b14:Bool),e=b14/\
 Br (!b14)
 (R (Value.tuple #[.slice none 0 0,(1:Int)]) bG)
 (∃I15:Nat->Int->Sl->World->Prop,
 (∃Mk,I15 Mk (0) ⟨none,0,0⟩ bG)/\
 ∀(Mk:Nat)(atu:Nat->Value)(cA:Int)(Y8:Sl)(ef:World),I15 Mk cA Y8 ef->
 Br (decide (cA<((a0.n:Nat):Int)))
 (ez a0.a cA a0.n/\∃(dJ dA:Int),af ef (ae a0.a ((cA:Int).toNat*2)) 0 [dJ,dA]/\
 Aw ef #[aa,aa] 252 λgC=>
 Sw gC ef #[dJ,dA] λcV=>
 Aw cV.drew #[.int .u8 (fi dA)] 5 λfb=>
 ba 1 1 fb Y8 1 [.int .u8 (fi dA)]/\∀(VF:Sl)(gQ:World),aX 5 1 fb Y8 1 [.int .u8 (fi dA)] VF gQ->gQ.heap[ef.heap.size]? =fb.heap[ef.heap.size]?/\gQ.heap[cV.drew.heap.size]? =fb.heap[cV.drew.heap.size]?/\
 af gQ ef 0 [dJ]/\af gQ (dU ef 1) 0 [dA]/\ah 254 #[dJ] gQ (Rs λtZ dX=>dX.heap[ef.heap.size]? =gQ.heap[ef.heap.size]?/\dX.heap[cV.drew.heap.size]? =gQ.heap[cV.drew.heap.size]?/\
 af dX (dU ef 1) 0 [dA]/\∃l31:LV,Rd dX tZ.a l31/\ba 1 1 dX VF tZ.n l31/\∀(vZ:Sl)(eP:World),aX 5 1 dX VF tZ.n l31 vZ eP->eP.heap[ef.heap.size]? =dX.heap[ef.heap.size]?/\eP.heap[cV.drew.heap.size]? =dX.heap[cV.drew.heap.size]?/\
 af eP (dU ef 1) 0 [dA]/\∃Z6,Z6<Mk/\I15 Z6 ((ak (cA+1))) vZ eP))
 (R (Value.tuple #[Y8,aa]) ef)))))):ah 190 #[a0] w R:=
 cq ⟨[(13,⟨[(35,.int .i64),(7,.slice)],[],[]⟩),(3,⟨[(12,.int .i64),(4,.int .i64)],[],[]⟩)],[],[]⟩ Tryz.func190 h
def La.vc(h:
 Br (a0<0)
 (aS (L8 a1) (R (Value.int .i64 (Int.tmod (ak (0-(ak (a0+1)))) a1)) w))
 (aS (L8 a1) (R (Value.int .i64 (Int.tmod a0 a1)) w))):ah 10 #[a0,a1] w R:=
 cq bU Tryz.func10 h
def H6.vc{a0:Addr}(h:
 ∃(m0:Option Nat),ld w (ae (some a0) 3)=some (.map m0)/\
 ah 272 #[.map m0] w (λe w1=>∃(m2:Option Nat),e=Value.map m2/\
 ∃(s3:Sl),ld w1 (ae (some a0) 4)=some (.slice s3.a s3.n s3.c)/\
 ∃I4:Nat->Int->World->Prop,
 (∃n5,I4 n5 (0) w1)/\
 ∀(n5:Nat)(us6:Nat->Value)(x7:Int)(w8:World),I4 n5 x7 w8->
 Br (decide (x7<((s3.n:Nat):Int)))
 (ez s3.a x7 s3.n/\∃(bk:Int)(Cb:Sl),af w8 (ae s3.a ((x7:Int).toNat*2)) 0 [bk,Cb]/\
 Aw w8 #[aa,.slice none 0 0] 279 λcU=>
 Sw cU w8 #[bk,Cb] λbG=>
 ∃(G14:Value->Prop)(kvs15:List (Value × Value)),je Tryz.prog 3 G14/\(m2:Option Nat).isSome=true/\cG G14 bG m2 kvs15/\G14 bk/\∀cP:World,Rec ((m2:Option Nat).getD 0) bG cP->cG G14 cP m2 (xG kvs15 bk Cb)->
 ∃n9,n9<n5/\I4 n9 ((ak (x7+1))) cP)
 (R (Value.map m2) w8))):ah 228 #[a0] w R:=
 cq ⟨[(3,⟨[(16,.int .i64)],[],[]⟩)],[],[]⟩ Tryz.func228 h
def yY.vc{a0:Sl}(h:
 Br (a0.a).isNone
 (R (Value.slice none 0 0) w)
 (Aw w #[] 5 λw0=>
 ∃l1:LV,Rd w0 a0.a l1/\ba 1 1 w0 ⟨(aB w),0,0⟩ a0.n l1/\∀(s2:Sl)(w3:World),aX 5 1 w0 ⟨(aB w),0,0⟩ a0.n l1 s2 w3->Kp w w0 w3/\
 R s2 w3)):ah 230 #[a0] w R:=
 cq bU Tryz.func230 h
def aax.vc{a0:Sl}(h:
 Br (decide ((((a0.n:Nat):Int):Int)<2))
 (R (Value.tuple #[.slice none 0 0,(3:Int)]) w)
 (ah 281 #[a0] w (λe w0=>∃(b1:Bool),e=b1/\
 Br (!b1)
 (R (Value.tuple #[.slice none 0 0,(4:Int)]) w0)
 ((0:Int)<=(ak (((a0.n:Nat):Int)-2))/\(ak (((a0.n:Nat):Int)-2))<=((a0.c:Nat):Int)/\ah 230 #[.slice (aJ a0.a (0) (a0.c) 1) (((ak (((a0.n:Nat):Int)-2)):Int).toNat-0) (a0.c-0)] w0 (λe w2=>∃(s3:Sl),e=s3/\
 R (Value.tuple #[s3,aa]) w2))))):ah 246 #[a0] w R:=
 cq bU Tryz.func246 h
def Nu.vc{a0:Value}{c0:Addr}{c1:Addr}(h:
 Aw w #[.int .i64 0,.int .i64 0,.int .i64 0,.int .i64 0,.int .i64 0,.int .i64 0,.int .i64 0,.int .i64 0,.int .i64 0,.int .i64 0,.int .i64 0,.int .i64 0,.int .i64 0,.int .i64 0,.int .i64 0,.int .i64 0,.int .i64 0,.int .i64 0,.int .i64 0,.int .i64 0,.int .i64 0,.int .i64 0,.int .i64 0,.int .i64 0,.int .i64 0,.int .i64 0,.int .i64 0,.int .i64 0,.int .i64 0,.int .i64 0,.int .i64 0,.int .i64 0,.int .i64 0,.int .i64 0,.int .i64 0,.int .i64 0,.int .i64 0,.int .i64 0,.int .i64 0,.int .i64 0,.int .i64 0,.int .i64 0,.int .i64 0,.int .i64 0,.int .i64 0,.int .i64 0,.int .i64 0,.int .i64 0,.int .i64 0,.int .i64 0,.int .i64 0,.int .i64 0,.int .i64 0,.int .i64 0,.int .i64 0,.int .i64 0,.int .i64 0,.int .i64 0,.int .i64 0,.int .i64 0,.int .i64 0,.int .i64 0,.int .i64 0,.int .i64 0,.int .i64 0,.int .i64 0,.int .i64 0,.int .i64 0,.int .i64 0,.int .i64 0,.int .i64 0,.int .i64 0,.int .i64 0,.int .i64 0,.int .i64 0,.int .i64 0,.int .i64 0,.int .i64 0,.int .i64 0,.int .i64 0,.int .i64 0,.int .i64 0,.int .i64 0,.int .i64 0,.int .i64 0,.int .i64 0,.int .i64 0,.int .i64 0,.int .i64 0,.int .i64 0,.int .i64 0,.int .i64 0,.int .i64 0,.int .i64 0,.int .i64 0,.int .i64 0,.int .i64 0,.int .i64 0,.int .i64 0,.int .i64 0,.int .i64 0,.int .i64 0,.int .i64 0,.int .i64 0,.int .i64 0,.int .i64 0,.int .i64 0,.int .i64 0,.int .i64 0,.int .i64 0,.int .i64 0,.int .i64 0,.int .i64 0,.int .i64 0,.int .i64 0,.int .i64 0,.int .i64 0,.int .i64 0,.int .i64 0,.int .i64 0,.int .i64 0,.int .i64 0,.int .i64 0,.int .i64 0,.int .i64 0,.int .i64 0,.int .i64 0,.int .i64 0,.int .i64 0,.int .i64 0,.int .i64 0,.int .i64 0,.int .i64 0,.int .i64 0,.int .i64 0,.int .i64 0,.int .i64 0,.int .i64 0,.int .i64 0,.int .i64 0,.int .i64 0,.int .i64 0,.int .i64 0,.int .i64 0,.int .i64 0,.int .i64 0,.int .i64 0,.int .i64 0,.int .i64 0,.int .i64 0,.int .i64 0,.int .i64 0,.int .i64 0,.int .i64 0,.int .i64 0,.int .i64 0,.int .i64 0,.int .i64 0,.int .i64 0,.int .i64 0,.int .i64 0,.int .i64 0,.int .i64 0,.int .i64 0,.int .i64 0,.int .i64 0,.int .i64 0,.int .i64 0,.int .i64 0,.int .i64 0,.int .i64 0,.int .i64 0,.int .i64 0,.int .i64 0,.int .i64 0,.int .i64 0,.int .i64 0,.int .i64 0,.int .i64 0,.int .i64 0,.int .i64 0,.int .i64 0,.int .i64 0,.int .i64 0,.int .i64 0,.int .i64 0,.int .i64 0,.int .i64 0,.int .i64 0,.int .i64 0,.int .i64 0,.int .i64 0,.int .i64 0,.int .i64 0,.int .i64 0,.int .i64 0,.int .i64 0,.int .i64 0,.int .i64 0,.int .i64 0,.int .i64 0,.int .i64 0,.int .i64 0,.int .i64 0,.int .i64 0,.int .i64 0,.int .i64 0,.int .i64 0,.int .i64 0,.int .i64 0,.int .i64 0,.int .i64 0,.int .i64 0,.int .i64 0,.int .i64 0,.int .i64 0,.int .i64 0,.int .i64 0,.int .i64 0,.int .i64 0,.int .i64 0,.int .i64 0,.int .i64 0,.int .i64 0,.int .i64 0,.int .i64 0,.int .i64 0,.int .i64 0,.int .i64 0,.int .i64 0,.int .i64 0,.int .i64 0,.int .i64 0,.int .i64 0,.int .i64 0,.int .i64 0,.int .i64 0,.int .i64 0,.int .i64 0,.int .i64 0,.int .i64 0,.int .i64 0,.int .i64 0,.int .i64 0,.int .i64 0,.int .i64 0,.int .i64 0,.int .i64 0,.int .i64 0,.int .i64 0,.int .i64 0,.int .i64 0,.int .i64 0,.int .i64 0,.int .i64 0,.int .i64 0] 311 λw0=>
 ∃I1:Nat->Int->World->Prop,
 (∃n2,I1 n2 (0) w0)/\
 ∀(n2:Nat)(us3:Nat->Value)(x4:Int)(w5:World),I1 n2 x4 w5->
 Br (x4<256)
 (∃(x7 x8:Int),af w5 (some c0) 0 [x7,x8]/\
 ah 249 #[.agg #[x7,x8],x4] w5 (λe w9=>∃(bk bA bS:Int)(Hl:Bool),e=Value.tuple #[.agg #[bk,bA,bS],Hl]/\
 Aw w9 #[aa,aa,aa] 41 λbJ=>
 Sw bJ w9 #[bk,bA,bS] λeu=>
 ∃(cp:Int),ld eu (some c1)=some (.int .i64 cp)/\
 ah 250 #[cp,bk,bS] eu (Ri λcA cJ=>Kp w9 eu cJ/\
 (0:Int)<=x4/\x4<((256:Nat):Int)/\(true=true/\Wr cJ (ae (aB w) ((x4:Int).toNat*1)) 1)/\bt (ae (aB w) ((x4:Int).toNat*1))≠some w9.heap.size/\(∀gn,gn=aK cJ (ae (aB w) ((x4:Int).toNat*1)) [cA]->
 ∃n6,n6<n2/\I1 n6 ((ak (x4+1))) gn))))
 (∃I20:Nat->Int->World->Prop,
 (∃Z6,I20 Z6 (0) w5)/\
 ∀(Z6:Nat)(aul:Nat->Value)(dA:Int)(gC:World),I20 Z6 dA gC->
 Br (dA<8192)
 ((0:Int)<=(Int.tmod dA 256)/\((Int.tmod dA 256):Int)<((256:Nat):Int)/\∃(fE:Int),ld gC (ae (aB w) (((Int.tmod dA 256):Int).toNat*1))=some (.int .i64 fE)/\
 ah 251 #[(ak (Int.tdiv dA 256)),fE] gC (λe eB=>∃(ik:Int),e=ik/\
 cL Tryz.prog a0 [ik] eB (λe dX=>∃(Zj:Bool),e=Zj/\
 Br (!Zj)
 (R ug dX)
 (∃n25,n25<Z6/\I20 n25 ((ak (dA+1))) dX))))
 (R ug gC))):ah 248 #[a0,c0,c1] w R:=
 cq ⟨[(8,⟨[(27,.int .i64)],[],[]⟩),(2,⟨[(9,.int .i64)],[],[]⟩)],[],[]⟩ Tryz.func248 h
def We.vc(h:
 Aw w #[aw,ao] 40 λw0=>
 Aw w0 #[aa,aa,aa] 41 λw1=>
 Br (a1<0)
 (Sw w1 w0 #[aa,aa,aa] λw2=>
 R (Value.tuple #[.agg #[aa,aa,aa],false]) w2)
 (Br (a1>=8192)
 (Sw w1 w0 #[aa,aa,aa] λw3=>
 R (Value.tuple #[.agg #[aa,aa,aa],false]) w3)
 (Sw w1 w0 #[(ak ((ak (aw*16))+(Int.tmod a1 16))),(ak (Int.tdiv a1 256)),(ak ((ak (ao*16))+(Int.tmod (ak (Int.tdiv a1 16)) 16)))] λw4=>
 R (Value.tuple #[.agg #[(ak ((ak (aw*16))+(Int.tmod a1 16))),(ak (Int.tdiv a1 256)),(ak ((ak (ao*16))+(Int.tmod (ak (Int.tdiv a1 16)) 16)))],true]) w4))):ah 249 #[.agg #[aw,ao],a1] w R:=
 cq bU Tryz.func249 h
def RT.vc(h:
 Aw w #[a0] 3 λw0=>
 ah 192 #[a1,(8:Int)] w0 (Ri λx2 w1=>Kp w w0 w1/\
 ah 192 #[a2,(8:Int)] w1 (Ri λx4 w3=>Kp w w1 w3/\
 ah 282 #[a1,(8:Int)] w3 (Ri λx6 w5=>Kp w w3 w5/\
 ah 282 #[a2,(8:Int)] w5 (Ri λx8 w7=>Kp w w5 w7/\
 ah 283 #[x2,x4,(ak ((ak (8-x6))*(ak (8-x8)))),w] w7 (λe w9=>∃(bk:Int),e=bk/\
 ah 283 #[(ak (x2+1)),x4,(ak (x6*(ak (8-x8)))),w] w9 (λe bc=>∃(bS:Int),e=bS/\
 ah 283 #[x2,(ak (x4+1)),(ak ((ak (8-x6))*x8)),w] bc (λe bG=>∃(bW:Int),e=bW/\
 ah 283 #[(ak (x2+1)),(ak (x4+1)),(ak (x6*x8)),w] bG (λe eu=>∃(cp:Int),e=cp/\
 R ((ak (6+(ak (Int.tdiv (ak ((ak ((ak (bk+bS))+bW))+cp)) 64))))) eu))))))))):ah 250 #[a0,a1,a2] w R:=
 cq bU Tryz.func250 h
def ajh.vc(h:
 Br (a0<0)
 (R (0:Int) w)
 (Br (a0>=32)
 (R (0:Int) w)
 (Br (a0==0)
 (R (1:Int) w)
 (Br (decide (a0<(ak (a1-3))))
 (R (1:Int) w)
 (Br (decide (a0<(ak (a1-1))))
 (R (2:Int) w)
 (Br (a0==(ak (a1-1)))
 (Br (a1>9)
 (R (2:Int) w)
 (Br (a0==(ak (a1-1)))
 (R (3:Int) w)
 (Br (a0<9)
 (R (8:Int) w)
 (R (0:Int) w))))
 (Br (a0==(ak (a1-1)))
 (R (3:Int) w)
 (Br (a0<9)
 (R (8:Int) w)
 (R (0:Int) w))))))))):ah 251 #[a0,a1] w R:=
 cq bU Tryz.func251 h
def WO.vc{a0:Sl}(h:
 Aw w #[aq,ar] 252 λw0=>
 Br (aq<1)
 (R a0 w0)
 (Br (decide (((ak (((a0.n:Nat):Int)-1)):Int)>=0))
 (ez a0.a (ak (((a0.n:Nat):Int)-1)) a0.n/\aS (dK (ae a0.a (((ak (((a0.n:Nat):Int)-1)):Int).toNat*2))) (∃(x1:Int),ld w0.drew (ae (ae a0.a (((ak (((a0.n:Nat):Int)-1)):Int).toNat*2)) 1)=some (.int .i64 x1)/\
 Br (x1==ar)
 (ez a0.a (ak (((a0.n:Nat):Int)-1)) a0.n/\aS (dK (ae a0.a (((ak (((a0.n:Nat):Int)-1)):Int).toNat*2))) (∃(x2:Int),ld w0.drew.drew (ae (ae a0.a (((ak (((a0.n:Nat):Int)-1)):Int).toNat*2)) 0)=some (.int .i64 x2)/\
 ez a0.a (ak (((a0.n:Nat):Int)-1)) a0.n/\aS (dK (ae a0.a (((ak (((a0.n:Nat):Int)-1)):Int).toNat*2))) ((((ae (ae a0.a (((ak (((a0.n:Nat):Int)-1)):Int).toNat*2)) 0)).isSome=true/\Wr w0.drew.drew (ae (ae a0.a (((ak (((a0.n:Nat):Int)-1)):Int).toNat*2)) 0) 1)/\bt (ae (ae a0.a (((ak (((a0.n:Nat):Int)-1)):Int).toNat*2)) 0)≠some w.heap.size/\(∀w3,w3=aK w0.drew.drew (ae (ae a0.a (((ak (((a0.n:Nat):Int)-1)):Int).toNat*2)) 0) [(ak (x2+aq))]->
 R a0 w3))))
 (Aw w0.drew #[aq,ar] 252 λw4=>
 ba 16 2 w4 a0 1 [aq,ar]/\∀(s5:Sl)(w6:World),aX 252 2 w4 a0 1 [aq,ar] s5 w6->Kp w w4 w6/\w6.heap[w0.drew.heap.size]? =w4.heap[w0.drew.heap.size]?/\
 R s5 w6)))
 (Aw w0.drew #[aq,ar] 252 λw7=>
 ba 16 2 w7 a0 1 [aq,ar]/\∀(s8:Sl)(w9:World),aX 252 2 w7 a0 1 [aq,ar] s8 w9->Kp w w7 w9/\w9.heap[w0.drew.heap.size]? =w7.heap[w0.drew.heap.size]?/\
 R s8 w9))):ah 252 #[a0,.agg #[aq,ar]] w R:=
 cq bU Tryz.func252 h
def Lb.vc(h:
 ah 294 #[a0] w (λe w0=>∃(t1:ByteArray),e=Value.string t1/\
 R (Value.string t1) w0)):ah 267 #[a0] w R:=
 cq bU Tryz.func267 h
def WR.vc{a0:Sl}(h:
 ∃I0:Nat->Int->Sl->World->Prop,
 (∃n1,I0 n1 (0) ⟨none,0,0⟩ w)/\
 ∀(n1:Nat)(wg:Nat->Value)(x3:Int)(s4:Sl)(w5:World),I0 n1 x3 s4 w5->
 Br (decide (x3<((a0.n:Nat):Int)))
 (ez a0.a x3 a0.n/\∃(s7:Sl),ld w5 (ae a0.a ((x3:Int).toNat*1))=some (.slice s7.a s7.n s7.c)/\
 ∃I8:Nat->Int->Sl->World->Prop,
 (∃n9,I8 n9 (0) s4 w5)/\
 ∀(n9:Nat)(Zx:Nat->Value)(bA:Int)(kh:Sl)(bG:World),I8 n9 bA kh bG->
 Br (decide (bA<((s7.n:Nat):Int)))
 (ez s7.a bA s7.n/\∃(cD cp:Int),af bG (ae s7.a ((bA:Int).toNat*2)) 0 [cD,cp]/\
 Aw bG #[aa,aa] 252 λcJ=>
 Sw cJ bG #[cD,cp] λdu=>
 ah 252 #[kh,.agg #[cD,cp]] du (Rs λvH gn=>Kp bG du gn/\
 ∃Cc,Cc<n9/\I8 Cc ((ak (bA+1))) vH gn))
 (∃n6,n6<n1/\I0 n6 ((ak (x3+1))) kh bG))
 (R s4 w5)):ah 318 #[a0] w R:=
 cq ⟨[(6,⟨[(16,.int .i64),(3,.slice)],[],[]⟩),(3,⟨[(10,.int .i64),(3,.slice)],[],[]⟩)],[],[]⟩ Tryz.func318 h
def aa0.vc{a0:Sl}(h:
 ∃I0:Nat->Int->Int->Sl->World->Prop,
 (∃n1,I0 n1 (0) (0) ⟨none,0,0⟩ w)/\
 ∀(n1:Nat)(wg:Nat->Value)(x3 x4:Int)(s5:Sl)(w6:World),I0 n1 x3 x4 s5 w6->
 Br (decide (x3<((a0.n:Nat):Int)))
 (ez a0.a x3 a0.n/\∃(x8 x9:Int),af w6 (ae a0.a ((x3:Int).toNat*2)) 0 [x8,x9]/\
 Aw w6 #[aa,aa] 252 λbN=>
 Sw bN w6 #[x8,x9] λbc=>
 Br (decide (((if (ak (x4+x8))<a2 then (ak (x4+x8)) else a2):Int)>(if x4>a1 then x4 else a1)))
 (ah 252 #[s5,.agg #[(ak ((if (ak (x4+x8))<a2 then (ak (x4+x8)) else a2)-(if x4>a1 then x4 else a1))),x9]] bc.drew (Rs λyE cU=>Kp w6 bc.drew cU/\
 ∃n7,n7<n1/\I0 n7 ((ak (x3+1))) ((ak (x4+x8))) yE cU))
 (∃n7,n7<n1/\I0 n7 ((ak (x3+1))) ((ak (x4+x8))) s5 bc.drew))
 (R s5 w6)):ah 319 #[a0,a1,a2] w R:=
 cq ⟨[(4,⟨[(15,.int .i64),(8,.int .i64),(7,.slice)],[],[]⟩)],[],[]⟩ Tryz.func319 h
def WS.vc(h:
 ah 252 #[.slice none 0 0,.agg #[a0,a1]] w (λe w0=>∃(s1:Sl),e=s1/\
 R s1 w0)):ah 320 #[a0,a1] w R:=
 cq bU Tryz.func320 h
def Nv.vc(h:
 Br (a0<0)
 (R (Value.slice none 0 0) w)
 (Br (a0>1048576)
 (R (Value.slice none 0 0) w)
 (∃I0:Nat->Int->Sl->World->Prop,
 (∃n1,I0 n1 a0 ⟨none,0,0⟩ w)/\
 ∀(n1:Nat)(wg:Nat->Value)(x3:Int)(s4:Sl)(w5:World),I0 n1 x3 s4 w5->
 Br (x3>=128)
 (Aw w5 #[.int .u8 (Mx .u8 (fi x3) 128)] 5 λw7=>
 ba 1 1 w7 s4 1 [.int .u8 (Mx .u8 (fi x3) 128)]/\∀(s8:Sl)(w9:World),aX 5 1 w7 s4 1 [.int .u8 (Mx .u8 (fi x3) 128)] s8 w9->Kp w5 w7 w9/\
 ∃n6,n6<n1/\I0 n6 (((x3:Int).fdiv (2 ^(min (7:Int).toNat 64)))) s8 w9)
 (Aw w5 #[.int .u8 (fi x3)] 5 λbN=>
 ba 1 1 bN s4 1 [.int .u8 (fi x3)]/\∀(Cb:Sl)(cU:World),aX 5 1 bN s4 1 [.int .u8 (fi x3)] Cb cU->Kp w5 bN cU/\
 R Cb cU)))):ah 254 #[a0] w R:=
 cq ⟨[(4,⟨[(0,.int .i64),(3,.slice)],[],[]⟩)],[],[]⟩ Tryz.func254 h
def Du.vc{a0:Option Nat}(h:
 Br (a0).isNone
 (R (Value.map none) w)
 (aa1 Tryz.prog 298 [.iface 274 (.map a0)] w (λe w0=>∃(v1:Value),e=v1/\
 ∃(m2:Option Nat),(v1:Value)=.iface 274 (.map m2)/\
 R (Value.map m2) w0))):ah 272 #[.map a0] w R:=
 cq bU Tryz.func272 h
def KU.vc{c0:Addr}(h:
 ∃(x0:Int),ld w (some c0)=some (.int .i64 x0)/\
 ah 284 #[x0,a0,a1] w (λe w1=>∃(x2:Int),e=Value.int .u64 x2/\
 R ((ak ((ak (Int.tmod x2 9))*a2))) w1)):ah 283 #[a0,a1,a2,c0] w R:=
 cq bU Tryz.func283 h
def aaI.vc(h:
 R (Value.int .u64 (lD .u64 (di ((lD .u64 (di ((di ((di ((di a0)*11400714819323198485))+(di ((di a1)*14029467366897019727))))+(di ((di a2)*1609587929392839161)))) (((di ((di ((di ((di a0)*11400714819323198485))+(di ((di a1)*14029467366897019727))))+(di ((di a2)*1609587929392839161)))):Int).fdiv (2 ^(min (29:Int).toNat 64))))*13787848793156543929)) (((di ((lD .u64 (di ((di ((di ((di a0)*11400714819323198485))+(di ((di a1)*14029467366897019727))))+(di ((di a2)*1609587929392839161)))) (((di ((di ((di ((di a0)*11400714819323198485))+(di ((di a1)*14029467366897019727))))+(di ((di a2)*1609587929392839161)))):Int).fdiv (2 ^(min (29:Int).toNat 64))))*13787848793156543929)):Int).fdiv (2 ^(min (32:Int).toNat 64))))) w):ah 284 #[a0,a1,a2] w R:=
 cq bU Tryz.func284 h
def tG.vc(h:
 ah 308 #[a0,(10:Int)] w (λe w0=>∃(t1:ByteArray),e=Value.string t1/\
 R (Value.string t1) w0)):ah 294 #[a0] w R:=
 cq bU Tryz.func294 h
def sq.vc(h:
 Br (a0<10)
 ((0:Int)<=(ak (a0+1))/\(ak (a0+1))<=((((ByteArray.mk #[48,49,50,51,52,53,54,55,56,57,97,98,99,100,101,102,103,104,105,106,107,108,109,110,111,112,113,114,115,116,117,118,119,120,121,122])).size:Nat):Int)/\(0:Int)<=a0/\a0<=(ak (a0+1))/\R (Value.string (((ByteArray.mk #[48,49,50,51,52,53,54,55,56,57,97,98,99,100,101,102,103,104,105,106,107,108,109,110,111,112,113,114,115,116,117,118,119,120,121,122])).extract ((a0:Int).toNat) (((ak (a0+1)):Int).toNat))) w)
 ((0:Int)<=(ak ((ak (a0*2))+2))/\(ak ((ak (a0*2))+2))<=((((ByteArray.mk #[48,48,48,49,48,50,48,51,48,52,48,53,48,54,48,55,48,56,48,57,49,48,49,49,49,50,49,51,49,52,49,53,49,54,49,55,49,56,49,57,50,48,50,49,50,50,50,51,50,52,50,53,50,54,50,55,50,56,50,57,51,48,51,49,51,50,51,51,51,52,51,53,51,54,51,55,51,56,51,57,52,48,52,49,52,50,52,51,52,52,52,53,52,54,52,55,52,56,52,57,53,48,53,49,53,50,53,51,53,52,53,53,53,54,53,55,53,56,53,57,54,48,54,49,54,50,54,51,54,52,54,53,54,54,54,55,54,56,54,57,55,48,55,49,55,50,55,51,55,52,55,53,55,54,55,55,55,56,55,57,56,48,56,49,56,50,56,51,56,52,56,53,56,54,56,55,56,56,56,57,57,48,57,49,57,50,57,51,57,52,57,53,57,54,57,55,57,56,57,57])).size:Nat):Int)/\(0:Int)<=(ak (a0*2))/\((ak (a0*2)):Int)<=(ak ((ak (a0*2))+2))/\R (Value.string (((ByteArray.mk #[48,48,48,49,48,50,48,51,48,52,48,53,48,54,48,55,48,56,48,57,49,48,49,49,49,50,49,51,49,52,49,53,49,54,49,55,49,56,49,57,50,48,50,49,50,50,50,51,50,52,50,53,50,54,50,55,50,56,50,57,51,48,51,49,51,50,51,51,51,52,51,53,51,54,51,55,51,56,51,57,52,48,52,49,52,50,52,51,52,52,52,53,52,54,52,55,52,56,52,57,53,48,53,49,53,50,53,51,53,52,53,53,53,54,53,55,53,56,53,57,54,48,54,49,54,50,54,51,54,52,54,53,54,54,54,55,54,56,54,57,55,48,55,49,55,50,55,51,55,52,55,53,55,54,55,55,55,56,55,57,56,48,56,49,56,50,56,51,56,52,56,53,56,54,56,55,56,56,56,57,57,48,57,49,57,50,57,51,57,52,57,53,57,54,57,55,57,56,57,57])).extract (((ak (a0*2)):Int).toNat) (((ak ((ak (a0*2))+2)):Int).toNat))) w)):ah 314 #[a0] w R:=
 cq bU Tryz.func314 h
def Dc.vc{a0:Addr}(h:
 Aw w #[aq,ar,aA] 41 λw0=>
 ∃(p1:Option Addr),ld w0.drew (ae (some a0) 0)=some (.pointer p1)/\
 ah 83 #[p1,.agg #[aq,ar,aA]] w0.drew (Ri λx3 w2=>Kp w w0.drew w2/\
 ∃(p4:Option Addr),ld w2.drew (ae (some a0) 0)=some (.pointer p4)/\
 ah 221 #[p4,.agg #[aq,ar,aA],a2] w2.drew (Ri λx6 w5=>Kp w w2.drew w5/\
 Br (x6==0)
 (Br (x3 !=a2)
 (∃(s7:Sl),ld w5.drew (ae (some a0) 1)=some (.slice s7.a s7.n s7.c)/\
 Aw w5.drew #[aq,ar,aA,a2] 289 λw8=>
 ba 32 4 w8 s7 1 [aq,ar,aA,a2]/\∀(s9:Sl)(bN:World),aX 289 4 w8 s7 1 [aq,ar,aA,a2] s9 bN->Kp w w8 bN/\bN.heap[w5.drew.heap.size]? =w8.heap[w5.drew.heap.size]?/\
 (true=true/\Wr bN (ae (some a0) 1) 1)/\bt (ae (some a0) 1)≠some w.heap.size/\bt (ae (some a0) 1)≠some w5.drew.heap.size/\(∀bc,bc=aK bN (ae (some a0) 1) [s9]->
 R x6 bc))
 (R x6 w5))
 (R x6 w5)))):ah 161 #[a0,.agg #[aq,ar,aA],a2] w R:=
 cq bU Tryz.func161 h
def V7.vc(h:
 ah 96 #[a0,a1,a2] w (λe w0=>∃(p1:Option Addr),e=p1/\
 Aw w0 #[p1,.slice none 0 0] 133 λw2=>
 R (Value.pointer (aB w0)) w2)):ah 39 #[a0,a1,a2] w R:=
 cq bU Tryz.func39 h
def yW.vc{a0:Addr}(h:
 ∃(p0:Option Addr),ld w (ae (some a0) 0)=some (.pointer p0)/\
 R p0 w):ah 19 #[a0] w R:=
 cq bU Tryz.func19 h
def Bv.vc{a0:Addr}(h:
 Aw w #[aq,ar] 40 λw0=>
 ah 72 #[.agg #[aq,ar]] w0 (λe w1=>∃(x2:Int)(b3:Bool),e=Value.tuple #[x2,b3]/\Kp w w0 w1/\
 Br (!b3)
 (R (5:Int) w1)
 (ah 73 #[a0,.agg #[aq,ar]] w1 (Ri λx5 w4=>Kp w w1 w4/\
 Br (x5>=0)
 (ah 74 #[a0,x5] w4 (λe w6=>∃(p7:Option Addr),e=p7/\Kp w w4 w6/\
 R (0:Int) w6))
 (ah 75 #[a0] w4 (Ri λx9 w8=>Kp w w4 w8/\
 Br (x9 !=0)
 (R x9 w8)
 (∃(Kn:Option Addr),ld w8 (ae (some a0) 0)=some (.pointer Kn)/\
 ah 76 #[Kn,x2] w8 (λe bc=>∃(kh:Sl)(cn:Int)(b14:Bool),e=Value.tuple #[kh,cn,b14]/\Kp w w8 bc/\
 ah 77 #[.agg #[aq,ar],kh] bc (λe eu=>∃(p16:Option Addr)(cZ:Int),e=Value.tuple #[p16,cZ]/\Kp w bc eu/\
 Br (cZ !=0)
 (∃(cA:Int),ld eu.drew (ae (some a0) 1)=some (.int .i64 cA)/\
 ah 78 #[cA,.agg #[aq,ar]] eu.drew (λe gn=>∃(p20:Option Addr),e=p20/\Kp w eu.drew gn/\
 ∃(Ue:Sl),ld gn (ae (some a0) 3)=some (.slice Ue.a Ue.n Ue.c)/\
 Aw gn #[p20,false,aa] 150 λey=>
 Aw ey #[.pointer (aB gn)] 137 λeR=>
 ba 8 1 eR Ue 1 [.pointer (aB gn)]/\∀(tR:Sl)(cV:World),aX 137 1 eR Ue 1 [.pointer (aB gn)] tR cV->K2 w ey eR cV (
 (true=true/\Wr cV (ae (some a0) 3) 1)/\bt (ae (some a0) 3)≠some w.heap.size/\bt (ae (some a0) 3)≠some ey.heap.size/\(∀fb,fb=aK cV (ae (some a0) 3) [tR]->
 R (0:Int) fb))))
 (∃(VF:Sl),ld eu (ae (some a0) 3)=some (.slice VF.a VF.n VF.c)/\
 Aw eu #[p16,false,aa] 150 λgQ=>
 Aw gQ #[.pointer (aB eu)] 137 λdX=>
 ba 8 1 dX VF 1 [.pointer (aB eu)]/\∀(tZ:Sl)(gA:World),aX 137 1 dX VF 1 [.pointer (aB eu)] tZ gA->K2 w gQ dX gA (
 (true=true/\Wr gA (ae (some a0) 3) 1)/\bt (ae (some a0) 3)≠some w.heap.size/\bt (ae (some a0) 3)≠some gQ.heap.size/\(∀lA,lA=aK gA (ae (some a0) 3) [tZ]->
 R (0:Int) lA)))))))))))):ah 20 #[a0,.agg #[aq,ar]] w R:=
 cq bU Tryz.func20 h
def FN.vc{a0:Addr}(h:
 Aw w #[aq,ar,aA] 41 λw0=>
 ah 139 #[.agg #[aq,ar,aA]] w0 (Ra2 λx2 x3 w1=>Kp w w0 w1/\
 ah 73 #[a0,.agg #[x2,x3]] w1 (Ri λx5 w4=>Kp w w1 w4/\
 Br (x5<0)
 (R (Value.int .i64 (-1)) w4)
 (Br (ar<0)
 (R (1:Int) w4)
 (∃(s6:Sl),ld w4.drew (ae (some a0) 3)=some (.slice s6.a s6.n s6.c)/\
 ez s6.a x5 s6.n/\∃(p7:Option Addr),ld w4.drew (ae s6.a ((x5:Int).toNat*1))=some (.pointer p7)/\
 aS (dK p7) (aS (dK p7) (∃(p8:Option Addr),ld w4.drew (ae p7 0)=some (.pointer p8)/\
 ah 140 #[p8,.agg #[aq,ar,aA]] w4.drew (λe w9=>∃(bk:Int)(Z0:Bool),e=Value.tuple #[bk,Z0]/\Kp w w4.drew w9/\
 af w9 (ae s6.a ((x5:Int).toNat*1)) 0 [.pointer p7]/\af w9 (ae (some a0) 3) 0 [s6]/\R bk w9)))))))):ah 83 #[a0,.agg #[aq,ar,aA]] w R:=
 cq bU Tryz.func83 h
def Sa.vc(h:
 ah 10 #[a0,(14:Int)] w (λe w0=>∃(x1:Int),e=x1/\
 Br (x1>5)
 (R ((ak (x1+2))) w0)
 (R x1 w0))):ah 110 #[a0] w R:=
 cq bU Tryz.func110 h
def Dv.vc{a0:Addr}(h:
 Aw w #[aq,ar,aA] 41 λw0=>
 ah 139 #[.agg #[aq,ar,aA]] w0 (Ra2 λx2 x3 w1=>Kp w w0 w1/\
 ah 73 #[a0,.agg #[x2,x3]] w1 (Ri λx5 w4=>Kp w w1 w4/\
 ah 255 #[.agg #[aq,ar,aA]] w4 (λe w6=>∃(x7:Int)(b8:Bool),e=Value.tuple #[x7,b8]/\Kp w w4 w6/\
 Br (x5<0)
 (R (11:Int) w6)
 (Br (!b8)
 (R (5:Int) w6)
 (ah 108 #[a2] w6 (Rb λb10 w9=>Kp w w6 w9/\
 Br (!b10)
 (R (1:Int) w9)
 (ah 74 #[a0,x5] w9 (λe bc=>∃(pI:Option Addr),e=pI/\Kp w w9 bc/\
 aS (dK pI) (aS (dK pI) (∃(QK:Option Addr),ld bc.drew (ae pI 0)=some (.pointer QK)/\
 ah 140 #[QK,.agg #[aq,ar,aA]] bc.drew (λe bJ=>∃(cD:Int)(b16:Bool),e=Value.tuple #[cD,b16]/\Kp w bc.drew bJ/\
 aS (dK pI) (aS (dK pI) (∃(ZX:Bool),ld bJ (ae pI 1)=some (.bool ZX)/\
 Br ZX
 (aS (dK pI) (aS (dK pI) ((((ae pI 1)).isSome=true/\Wr bJ (ae pI 1) 1)/\bt (ae pI 1)≠some w.heap.size/\(∀du,du=aK bJ (ae pI 1) [.bool true]->
 aS (dK pI) (aS (dK pI) (∃(mL:Option Addr),ld du.drew (ae pI 0)=some (.pointer mL)/\
 ah 268 #[mL,.agg #[aq,ar,aA],a2] du.drew (Ri λdh ef=>Kp w du.drew ef/\
 R dh ef)))))))
 (aS (dK pI) (aS (dK pI) ((((ae pI 1)).isSome=true/\Wr bJ (ae pI 1) 1)/\bt (ae pI 1)≠some w.heap.size/\(∀ey,ey=aK bJ (ae pI 1) [.bool (cD !=a2)]->
 aS (dK pI) (aS (dK pI) (∃(VG:Option Addr),ld ey.drew (ae pI 0)=some (.pointer VG)/\
 ah 268 #[VG,.agg #[aq,ar,aA],a2] ey.drew (Ri λdT gC=>Kp w ey.drew gC/\
 R dT gC))))))))))))))))))))):ah 221 #[a0,.agg #[aq,ar,aA],a2] w R:=
 cq bU Tryz.func221 h
def xH.vc{a0:Addr}(h:
 Aw w #[aq,ar] 40 λw0=>
 ah 73 #[a0,.agg #[aq,ar]] w0 (Ri λx2 w1=>Kp w w0 w1/\
 Br (x2<0)
 (R (6:Int) w1)
 (∃(s3:Sl),ld w1 (ae (some a0) 3)=some (.slice s3.a s3.n s3.c)/\
 ez s3.a x2 s3.n/\∃(p4:Option Addr),ld w1 (ae s3.a ((x2:Int).toNat*1))=some (.pointer p4)/\
 aS (dK p4) (aS (dK p4) (∃(x5:Int),ld w1 (ae p4 2)=some (.int .i64 x5)/\
 Br (x5>0)
 (R (10:Int) w1)
 (∃(s6:Sl),ld w1 (ae (some a0) 3)=some (.slice s6.a s6.n s6.c)/\
 ez s6.a x2 s6.n/\∃(p7:Option Addr),ld w1 (ae s6.a ((x2:Int).toNat*1))=some (.pointer p7)/\
 ah 79 #[a0,p7] w1 (Ri λx9 w8=>Kp w w1 w8/\
 Br (x9==0)
 (ah 80 #[a0,x2] w8 (λe bN=>∃(ZC:Option Addr),e=ZC/\Kp w w8 bN/\
 R x9 bN))
 (R x9 w8)))))))):ah 21 #[a0,.agg #[aq,ar]] w R:=
 cq bU Tryz.func21 h
def WT.vc(h:
 ah 149 #[a2] w (λe w0=>∃(p1:Option Addr),e=p1/\
 Aw w0 #[p1,a0,.int .i64 (if 16<(if 1>a1 then 1 else a1) then 16 else (if 1>a1 then 1 else a1)),.slice none 0 0] 143 λw2=>
 R (Value.pointer (aB w0)) w2)):ah 96 #[a0,a1,a2] w R:=
 cq bU Tryz.func96 h
def aa2.vc(h:
 Aw w #[aw,ao] 40 λw0=>
 Br (aw<(-524288))
 (R (Value.tuple #[aa,false]) w0)
 (Br (aw>=524288)
 (R (Value.tuple #[aa,false]) w0)
 (Br (ao<(-524288))
 (R (Value.tuple #[aa,false]) w0)
 (Br (ao>=524288)
 (R (Value.tuple #[aa,false]) w0)
 (R (Value.tuple #[(ak ((ak ((ak ((ak ((ak ((ak (aw+524288))*2))*524288))+ao))+524288))+1)),true]) w0))))):ah 72 #[.agg #[aw,ao]] w R:=
 cq bU Tryz.func72 h
def Bw.vc{a0:Addr}(h:
 Aw w #[aq,ar] 40 λw0=>
 ∃(s1:Sl),ld w0 (ae (some a0) 3)=some (.slice s1.a s1.n s1.c)/\
 ah 129 #[s1,.func (.func 130) #[] #[w]] w0 (λe w2=>∃(x3:Int),e=x3/\
 R x3 w2)):ah 73 #[a0,.agg #[aq,ar]] w R:=
 cq bU Tryz.func73 h
def zG.vc{a0:Addr}(h:
 ah 80 #[a0,a1] w (λe w0=>∃(p1:Option Addr),e=p1/\
 ∃(s2:Sl),ld w0 (ae (some a0) 3)=some (.slice s2.a s2.n s2.c)/\
 Aw w0 #[p1] 137 λw3=>
 ba 8 1 w3 s2 1 [.pointer p1]/\∀(s4:Sl)(w5:World),aX 137 1 w3 s2 1 [.pointer p1] s4 w5->Kp w0 w3 w5/\
 (true=true/\Wr w5 (ae (some a0) 3) 1)/\bt (ae (some a0) 3)≠some w0.heap.size/\(∀w6,w6=aK w5 (ae (some a0) 3) [s4]->
 R p1 w6))):ah 74 #[a0,a1] w R:=
 cq bU Tryz.func74 h
def By.vc{a0:Addr}(h:
 ∃(s0:Sl),ld w.drew (ae (some a0) 3)=some (.slice s0.a s0.n s0.c)/\
 ∃(x1:Int),ld w.drew (ae (some a0) 2)=some (.int .i64 x1)/\
 Br (decide ((((s0.n:Nat):Int):Int)<x1))
 (R (0:Int) w.drew)
 (∃(s2:Sl),ld w.drew (ae (some a0) 3)=some (.slice s2.a s2.n s2.c)/\
 ah 129 #[s2,.func (.func 131) #[] #[]] w.drew (λe w3=>∃(x4:Int),e=x4/\
 Br (x4<0)
 (R (8:Int) w3)
 (∃(s5:Sl),ld w3 (ae (some a0) 3)=some (.slice s5.a s5.n s5.c)/\
 ez s5.a x4 s5.n/\∃(p6:Option Addr),ld w3 (ae s5.a ((x4:Int).toNat*1))=some (.pointer p6)/\
 ah 79 #[a0,p6] w3 (λe w7=>∃(x8:Int),e=x8/\
 Br (x8==0)
 (ah 80 #[a0,x4] w7 (λe w9=>∃(Kn:Option Addr),e=Kn/\
 R x8 w9))
 (R x8 w7)))))):ah 75 #[a0] w R:=
 cq bU Tryz.func75 h
def Bz.vc{a0:Addr}(h:
 ah 132 #[a1] w (λe w0=>∃(b1:Bool),e=b1/\
 Br (!b1)
 (R (Value.tuple #[.slice none 0 0,aa,false]) w0)
 (ah 133 #[a0,a1] w0 (λe w2=>∃(x3 x4:Int)(s5:Sl),e=Value.agg #[x3,x4,s5]/\
 Aw w2 #[aa,aa,.slice none 0 0] 202 λw6=>
 Sw w6 w2 #[x3,x4,s5] λw7=>
 R (Value.tuple #[s5,x4,.bool (decide (x4>0))]) w7.drew)))):ah 76 #[a0,a1] w R:=
 cq bU Tryz.func76 h
def Sb.vc{a1:Sl}(h:
 Aw w #[aw,ao] 40 λw0=>
 ah 134 #[a1,(8192:Int)] w0 (λe w1=>∃(s2:Sl)(x3:Int),e=Value.tuple #[s2,x3]/\Kp w w0 w1/\
 Br (x3 !=0)
 (R (Value.tuple #[.pointer none,x3]) w1)
 (ah 135 #[.agg #[aw,ao],s2] w1 (λe w4=>∃(p5:Option Addr)(x6:Int),e=Value.tuple #[p5,x6]/\Kp w w1 w4/\
 R (Value.tuple #[p5,x6]) w4)))):ah 77 #[.agg #[aw,ao],a1] w R:=
 cq bU Tryz.func77 h
def Sc.vc(h:
 Aw w #[aq,ar] 40 λw0=>
 (ah 136 #[a0,.agg #[aq,ar]] w0.drew (Rs λs2 w1=>Kp w w0.drew w1/\
 Aw w1 #[aq,ar,s2] 175 λw3=>
 R (Value.pointer (aB w1)) w3))/\(ah 136 #[a0,.agg #[aq,ar]] w0.drew (Rs λs5 w4=>Kp w w0.drew w4/\
 af w4 w 0 [aq,ar]/\Aw w4 #[aq,ar,s5] 175 λw6=>
 R (Value.pointer (aB w4)) w6))):ah 78 #[a0,.agg #[aq,ar]] w R:=
 cq bU Tryz.func78 h
def RC.vc(h:
 Aw w #[aw,ao,au] 41 λw0=>
 Aw w0 #[aa,aa] 40 λw1=>
 ah 192 #[aw,(16:Int)] w1.drew (Ri λx3 w2=>K2 w w0 w1.drew w2 (
 af w2 (dU w 2) 0 [au]/\ah 192 #[au,(16:Int)] w2 (Ri λx5 w4=>K2 w w0 w2 w4 (
 Sw w4 w0 #[x3,x5] λw6=>
 R (Value.agg #[x3,x5]) w6))))):ah 139 #[.agg #[aw,ao,au]] w R:=
 cq bU Tryz.func139 h
def FO.vc{a0:Addr}(h:
 Aw w #[aq,ar,aA] 41 λw0=>
 ∃(x1 x2:Int),af w0.drew (ae (some a0) 0) 0 [x1,x2]/\
 ah 193 #[.agg #[x1,x2],.agg #[aq,ar,aA]] w0.drew (λe w3=>∃(x4:Int)(b5:Bool),e=Value.tuple #[x4,b5]/\Kp w w0.drew w3/\
 Br (!b5)
 (R (Value.tuple #[aa,false]) w3)
 (∃(s6:Sl),ld w3 (ae (some a0) 2)=some (.slice s6.a s6.n s6.c)/\
 ah 194 #[s6,x4] w3 (Ri λx8 w7=>Kp w w3 w7/\
 R (Value.tuple #[x8,true]) w7)))):ah 140 #[a0,.agg #[aq,ar,aA]] w R:=
 cq bU Tryz.func140 h
def yX.vc{a0:Addr}(h:
 Aw w #[aq,ar,aA] 41 λw0=>
 ∃(p1:Option Addr),ld w0 (ae (some a0) 0)=some (.pointer p1)/\
 ah 37 #[p1] w0 (Rs λs3 w2=>Kp w w0 w2/\
 ah 139 #[.agg #[aq,ar,aA]] w2 (Ra2 λx5 x6 w4=>Kp w w2 w4/\
 ah 150 #[.agg #[x5,x6]] w4 (λe w7=>∃(x8 x9 bk bA bS cn bW cD cp cZ:Int),e=Value.agg #[x8,x9,bk,bA,bS,cn,bW,cD,cp,cZ]/\Kp w w4 w7/\
 ∃I18:Nat->Int->World->Prop,
 (∃Z7,aL [aq,ar,aA]/\I18 Z7 (0) w7)/\
 ∀(Z7:Nat)(aum:Nat->Value)(dh:Int)(ey:World),I18 Z7 dh ey->
 Br (dh<5)
 (((0:Int)<=dh/\dh<((5:Nat):Int))/\∃(eG dT:Int),(([x8,x9,bk,bA,bS,cn,bW,cD,cp,cZ]:LV).drop ((dh:Int).toNat*2)).take 2=[.int .i64 eG,.int .i64 dT]/\
 Aw ey #[aa,aa] 40 λfb=>
 Sw fb ey #[eG,dT] λeB=>
 ah 151 #[s3,.agg #[eG,dT]] eB (Rb λb29 gQ=>K2 w ey eB gQ (
 Br (!b29)
 (R false gQ)
 (∃n23,n23<Z7/\aL [aq,ar,aA]/\I18 n23 ((ak (dh+1))) gQ))))
 (R true ey))))):ah 100 #[a0,.agg #[aq,ar,aA]] w R:=
 cq ⟨[(3,⟨[(16,.int .i64)],[],[]⟩)],[],[]⟩ Tryz.func100 h
def Nw.vc(h:
 R (Value.bool (a0==3)) w):ah 243 #[a0] w R:=
 cq bU Tryz.func243 h
def Nx.vc(h:
 Br (a0==(-1))
 (Br (a0==(-1))
 (R true w)
 (R false w))
 (Br (a0==1)
 (Br (a0==1)
 (R true w)
 (R false w))
 (Br (a0==2)
 (Br (a0==2)
 (R true w)
 (R false w))
 (Br (a0==3)
 (Br (a0==3)
 (R true w)
 (R false w))
 (Br (a0==5)
 (R true w)
 (R false w)))))):ah 103 #[a0] w R:=
 cq bU Tryz.func103 h
def WU.vc(h:
 Aw w #[aw,ao] 40 λw0=>
 Aw w0 #[aa,aa] 40 λw1=>
 ah 10 #[aw,(5:Int)] w1.drew (Ri λx3 w2=>K2 w w0 w1.drew w2 (
 af w2 (dU w 1) 0 [ao]/\ah 10 #[ao,(5:Int)] w2 (Ri λx5 w4=>K2 w w0 w2 w4 (
 Sw w4 w0 #[(ak (x3-2)),(ak (x5-2))] λw6=>
 R (Value.agg #[(ak (x3-2)),(ak (x5-2))]) w6))))):ah 51 #[.agg #[aw,ao]] w R:=
 cq bU Tryz.func51 h
def Ny.vc(h:
 Br (a0==(-1))
 (R true w)
 (Br (a0==1)
 (R true w)
 (Br (a0==2)
 (R true w)
 (Br (a0==3)
 (R true w)
 (R (Value.bool (a0==5)) w))))):ah 114 #[a0] w R:=
 cq bU Tryz.func114 h
end Go.Proofs.YtkkkfkopcfdmaaaGreatDoor
