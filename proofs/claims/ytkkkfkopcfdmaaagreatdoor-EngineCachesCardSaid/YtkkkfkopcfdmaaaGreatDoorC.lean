import Derived.Test.YtkkkfkopcfdmaaaGreatDoorB
import Derived.Deep.SlicePairs
import Derived.ProofKit
import Derived.Test.YtkkkfkopcfdmaaaGreatDoorChecked
import Derived.KernelRfl
set_option linter.all false
namespace Go.Vc
open Go Go.RowKit Go.ChangeShapes Go.WideShapes
def inI_wf'{n:Int}(h:(Lit.int .i64 n).wf=true):bN n:=by
 have h1:IntKind.min .i64= -9223372036854775808:=by decide
 have h2:IntKind.max .i64=9223372036854775807:=by decide
 simp only [Lit.wf,fk,cN,h1,h2] at h;exact h
section
variable {H:Type} {enc:TypeId × Value->H} {P:Program} {w:World} {base:Nat} {spare:Nat->Bool} {held:Bool}
def afA{t:TypeId}{f0 f1:Field}{fuel:Nat}{cs:LV}{x:DataW H × List MemPlace}(ht:P.underlying t=some (.struct #[f0,f1]))(ce:P.cellsOf t=2)
  (o0:f0.offset=0)(o1:f1.offset=1)(c0:P.cellsOf f0.type=1)(c1:P.cellsOf f1.type=1)(u0:P.underlying f0.type=some (.int .i64))(u1:P.underlying f1.type=some (.int .i64))
  (h:DataW.trod enc P w base spare held fuel t cs=some x):∃a b,cs=[.int .i64 a,.int .i64 b]/\bN a/\bN b:=by
 obtain ⟨xs,n,_,_,hl,hxl,hf⟩:=DataW.trod_struct ht h;rw [ce] at hl
 match xs,hxl,cs,hl with
 | [y0,y1],_,[v0,v1],_=>
   have h0:=hf 0 f0 rfl;have h1:=hf 1 f1 rfl;rw [o0,c0] at h0;rw [o1,c1] at h1;obtain ⟨a,e0,_,wa⟩:=DataW.trod_int u0 h0;obtain ⟨b,e1,_,wb⟩:=DataW.trod_int u1 h1;simp at e0 e1;exact ⟨a,b,by rw [e0,e1],inI_wf' wa,inI_wf' wb⟩
def aea{t e:TypeId}{f0 f1:Field}{fuel:Nat}{a:Option Addr}{len cap:Nat}{x:DataW H × List MemPlace}(ht:P.underlying t=some (.slice e))(he:P.underlying e=some (.struct #[f0,f1]))
  (ce:P.cellsOf e=2)(o0:f0.offset=0)(o1:f1.offset=1)(c0:P.cellsOf f0.type=1)(c1:P.cellsOf f1.type=1)(u0:P.underlying f0.type=some (.int .i64))(u1:P.underlying f1.type=some (.int .i64))
  (h:DataW.trod enc P w base spare held fuel t [.slice a len cap]=some x):
  ∃l:List (Int × Int),RdK w ⟨a,len,cap⟩ 2 (l.map λr=> [.int .i64 r.1,.int .i64 r.2])/\(∀r ∈ l,bN r.1/\bN r.2)/\len<=cap/\cap<=maxLen:=by
 rcases Go.Deep.open_slice_pairs ht he ce o0 o1 c0 c1 h with ⟨yQ,_⟩|⟨b,len',cap',m,n,V0,V1,D0,D1,P0,P1,yQ,_,hl,hm,hmm,_,hx⟩
 ·simp at yQ;obtain ⟨rfl,rfl,rfl⟩:=yQ;exact ⟨[],⟨rfl,by simp,λi r hi=>by simp at hi⟩,by simp,aC _,by decide⟩
 ·simp at yQ;obtain ⟨rfl,rfl,rfl⟩:=yQ;have hlm:len<=m:=by rw [hmm];split<;>omega
  have each:∀i,i<len->∃r:Int × Int,w.cell? (b.add (i*2))=some (.int .i64 r.1)/\w.cell? (b.add (i*2+1))=some (.int .i64 r.2)/\bN r.1/\bN r.2:=by intro i hi;obtain ⟨h0,h1,h2,h3⟩:=hx i ab;obtain ⟨p,e0,_,wp⟩:=DataW.trod_int u0 h2;obtain ⟨q,e1,_,wq⟩:=DataW.trod_int u1 h3;simp at e0 e1;exact ⟨(p,q),by rw [h0,e0],by rw [h1,e1],inI_wf' wp,inI_wf' wq⟩
  have pick:∃f:Nat->Int × Int,∀i,i<len->w.cell? (b.add (i*2))=some (.int .i64 (f i).1)/\w.cell? (b.add (i*2+1))=some (.int .i64 (f i).2)/\bN (f i).1/\bN (f i).2:=by refine ⟨λi=>if hi:i<len then Classical.choose (each i hi) else (0,0),λi hi=> ?_⟩;simp only [dif_pos hi];exact Classical.choose_spec (each i hi)
  obtain ⟨f,hf⟩:=pick;refine ⟨(List.range len).map f,⟨by simp,by simp,λi r hi j v hj=> ?_⟩,λr hr=> ?_,hl,hm⟩
  ·simp only [kS,aR,zD] at hi;obtain ⟨k,hk,rfl⟩:=hi;obtain ⟨Qk,Hh⟩:=cG.1 hk;simp at Qk Hh;subst Hh;obtain ⟨h0,h1,_,_⟩:=hf i Qk;rcases j with _|_|j<;>simp at hj
   ·subst hj;exact h0
   ·subst hj;exact h1
  ·obtain ⟨i,hi,rfl⟩:=aW.1 hr;exact (hf i (by simpa using hi)).2.2
def afB{t e:TypeId}{k:IntKind}{fuel:Nat}{a:Option Addr}{len cap:Nat}{x:DataW H × List MemPlace}(ht:P.underlying t=some (.slice e))(he:P.underlying e=some (.int k))(ce:P.cellsOf e=1)
  (h:DataW.trod enc P w base spare held fuel t [.slice a len cap]=some x):
  ∃z:List Int,RdK w ⟨a,len,cap⟩ 1 (z.map λn=> [.int k n])/\(∀n ∈ z,(Lit.int k n).wf=true)/\len<=cap/\cap<=maxLen:=by
 rcases Go.ChangeShapes.open_ints ht he ce h with ⟨yQ,_⟩|⟨b,len',cap',zs,yQ,_,hl,hm,hz,_,hcell,hwf⟩
 ·simp at yQ;obtain ⟨rfl,rfl,rfl⟩:=yQ;exact ⟨[],⟨rfl,by simp,λi r hi=>by simp at hi⟩,by simp,aC _,by decide⟩
 ·simp at yQ;obtain ⟨rfl,rfl,rfl⟩:=yQ;have hlm:len<=zs.length:=by rw [hz];split<;>omega
  refine ⟨zs.take len,⟨by simp;omega,λr hr=>by obtain ⟨q,_,rfl⟩:=aW.1 hr;rfl,λi r hi j v hj=> ?_⟩,λn hn=>hwf n (qd hn),hl,hm⟩;rw [aR,zD] at hi;obtain ⟨q,hq,rfl⟩:=hi;rw [qX] at hq;split at hq
  ·rename_i Ku;have:=hcell i ab;rw [dZ,hq] at this;rcases j with _|j<;>simp at hj;subst hj;show w.cell? (b.add (i*1+0))=_;rw [zh,Nat.add_zero];exact this
  ·cases hq
def axh{n:Int}(h:(Lit.int .u8 n).wf=true):0<=n/\n<256:=by
 have h1:IntKind.min .u8=0:=by decide
 have h2:IntKind.max .u8=255:=by decide
 simp only [Lit.wf,fk,cN,h1,h2] at h;omega
end
section
variable {H:Type} {enc:TypeId × Value->H} {P:Program} {w:World} {base:Nat} {spare:Nat->Bool} {held:Bool}
def GN(P:Program):Nat->TypeId->Bool
 |0,_=>false
 |n+1,t=>match P.underlying t with
  |some (.int .i64)=>P.cellsOf t==1
  |some (.struct fs)=>(List.range (P.cellsOf t)).all λi=>(List.range fs.size).any λj=>match fs[j]? with
   |some f=>decide (f.offset<=i) && decide (i<f.offset+P.cellsOf f.type) && GN P n f.type
   |none=>false
  |_=>false
def Ax:∀{n:Nat} {t:TypeId} {fuel:Nat} {cs:LV} {x:DataW H × List MemPlace},GN P n t=true->DataW.trod enc P w base spare held fuel t cs=some x->
  cs.length=P.cellsOf t/\∀v ∈ cs,∃z,v=.int .i64 z/\bN z
 |0,_,_,_,_,h,_=>by simp [GN] at h
 |n+1,t,fuel,cs,x,h,ht=>by
  unfold GN at h
  split at h
  ·rename_i e
   obtain ⟨z,rfl,_,hw⟩:=DataW.trod_int e ht
   have:P.cellsOf t=1:=by simpa using h
   refine ⟨by rw [this];rfl,λv hv=> ?_⟩;rw [iN] at hv;exact ⟨z,hv,inI_wf' hw⟩
  ·rename_i fs e;obtain ⟨xs,k,_,_,hl,hxl,hf⟩:=DataW.trod_struct e ht;refine ⟨hl,λv hv=> ?_⟩;obtain ⟨i,hi,rfl⟩:=List.getElem_of_mem hv;rw [CG] at h;have hj:=h i (nt.2 ab);rw [List.any_eq_true] at hj;obtain ⟨j,hjr,hj⟩:=hj;rw [nt] at hjr;split at hj
   ·rename_i f hfj;simp only [fk,cN] at hj;have hx:=hf j f hfj;rw [dm ab] at hx;obtain ⟨dN,rO⟩:=Ax hj.2 hx;refine rO _ (aX (i:=i-f.offset) ?_);rw [qX,if_pos ab,wH,dm ab];congr 2;omega
   ·cases hj
  ·cases h
def xe:∀{cs:LV},(∀v ∈ cs,∃z,v=.int .i64 z/\bN z)->∃r:List Int,cs=r.map (λn=> .int .i64 n)/\∀n ∈ r,bN n
 | [],_=>⟨[],rfl,by simp⟩
 |v::cs,h=>by
  obtain ⟨z,rfl,hz⟩:=h v (List.mem_cons_self ..)
  obtain ⟨r,rfl,hr⟩:=xe λu hu=>h u (CU _ hu)
  refine ⟨z::r,rfl,λn hn=> ?_⟩
  rcases cB.1 hn with rfl|hn
  ·exact hz
  ·exact hr n hn
def xf{n:Nat}{t:TypeId}{fuel:Nat}{cs:LV}{x:DataW H × List MemPlace}(hb:GN P n t=true)(h:DataW.trod enc P w base spare held fuel t cs=some x):
  ∃r:List Int,cs=r.map (λn=> .int .i64 n)/\r.length=P.cellsOf t/\∀n ∈ r,bN n:=by
 obtain ⟨h1,h2⟩:=Ax hb h;obtain ⟨r,rfl,hr⟩:=xe h2;exact ⟨r,rfl,by simpa using h1,hr⟩
def aec{n:Nat}{t:TypeId}{fuel:Nat}{cs:LV}{x:DataW H × List MemPlace}(hb:GN P n t=true)(hk:P.cellsOf t=3)(h:DataW.trod enc P w base spare held fuel t cs=some x):
  ∃a b c,cs=[.int .i64 a,.int .i64 b,.int .i64 c]/\bN a/\bN b/\bN c:=by
 obtain ⟨r,rfl,hl,hi⟩:=xf hb h;rw [hk] at hl
 match r,hl with
 | [a,b,c],_=>exact ⟨a,b,c,rfl,hi a cp,hi b cp,hi c cp⟩
def afO{m k:Nat}{t e:TypeId}{fuel:Nat}{a:Option Addr}{len cap:Nat}{x:DataW H × List MemPlace}(ht:P.underlying t=some (.slice e))(hb:GN P m e=true)(hk:P.cellsOf e=k)
  (h:DataW.trod enc P w base spare held fuel t [.slice a len cap]=some x):
  ∃z:List (List Int),RdK w ⟨a,len,cap⟩ k (z.map λr=>r.map λn=> .int .i64 n)/\(∀r ∈ z,r.length=k/\∀n ∈ r,bN n)/\len<=cap/\cap<=maxLen:=by
 rcases Go.Deep.open_slice ht h with ⟨yQ,_⟩|⟨b,len',cap',m',n,D,Pl,yQ,_,hl,hm,hmm,_,hx⟩
 ·simp at yQ;obtain ⟨rfl,rfl,rfl⟩:=yQ;exact ⟨[],⟨rfl,by simp,λi r hi=>by simp at hi⟩,by simp,aC _,by decide⟩
 ·simp at yQ;obtain ⟨rfl,rfl,rfl⟩:=yQ;have hlm:len<=m':=by rw [hmm];split<;>omega
  have each:∀i,i<len->∃r:List Int,(∀j,j<k->w.cell? ((b.add (i*k)).add j)=(r.map λn=>Value.int .i64 n)[j]?)/\r.length=k/\∀n ∈ r,bN n:=by intro i hi;obtain ⟨cs',h1,h2⟩:=hx i ab;obtain ⟨r,rfl,hr1,qM⟩:=xf hb h2;rw [hk] at h1 hr1;exact ⟨r,(World.cells?_some h1).2.2,hr1,qM⟩
  have pick:∃f:Nat->List Int,∀i,i<len->(∀j,j<k->w.cell? ((b.add (i*k)).add j)=((f i).map λn=>Value.int .i64 n)[j]?)/\(f i).length=k/\∀n ∈ f i,bN n:=by refine ⟨λi=>if hi:i<len then Classical.choose (each i hi) else [],λi hi=> ?_⟩;simp only [dif_pos hi];exact Classical.choose_spec (each i hi)
  obtain ⟨f,hf⟩:=pick;refine ⟨(List.range len).map f,⟨by simp,λr hr=> ?_,λi r hi j v hj=> ?_⟩,λr hr=> ?_,hl,hm⟩
  ·obtain ⟨r',hr',rfl⟩:=aW.1 hr;obtain ⟨i,hi,rfl⟩:=aW.1 hr';rw [aN];exact (hf i (by simpa using hi)).2.1
  ·simp only [kS,aR,zD] at hi;obtain ⟨q,hq,rfl⟩:=hi;obtain ⟨Qk,Hh⟩:=cG.1 hq;simp at Qk Hh;subst Hh;obtain ⟨h0,h1,_⟩:=hf i Qk;have hjk:j<k:=by have:=(cG.1 hj).1;simp at this;omega
   have:=h0 j hjk;rw [<-dn];show w.cell? ((b.add (i*k)).add j)=_;rw [this];exact hj
  ·obtain ⟨i,hi,rfl⟩:=aW.1 hr;exact (hf i (by simpa using hi)).2
end
section
variable {H:Type} {enc:TypeId × Value->H} {P:Program} {w:World} {base:Nat} {spare:Nat->Bool} {held:Bool}
def PX(P:Program):Nat->TypeId->Nat->Bool->Bool
 |0,_,_,_=>false
 |n+1,t,i,b=>match P.underlying t with
  |some (.int .i64)=>b &&(i==0)
  |some .bool=> !b &&(i==0)
  |some (.struct fs)=>decide (i<P.cellsOf t) &&(List.range fs.size).any λj=>match fs[j]? with
   |some f=>decide (f.offset<=i) && decide (i<f.offset+P.cellsOf f.type) && PX P n f.type (i-f.offset) b
   |none=>false
  |_=>false
def acd(b:Bool)(v:Value):Prop:=match b with|true=>∃z,v=.int .i64 z/\bN z|false=>∃c,v=.bool c
def AD:∀{n:Nat} {t:TypeId} {i:Nat} {b:Bool} {fuel:Nat} {cs:LV} {x:DataW H × List MemPlace},PX P n t i b=true->DataW.trod enc P w base spare held fuel t cs=some x->∃v,cs[i]? =some v/\acd b v
 |0,_,_,_,_,_,_,h,_=>by simp [PX] at h
 |n+1,t,i,b,fuel,cs,x,h,ht=>by
  unfold PX at h
  split at h
  ·rename_i e
   obtain ⟨z,rfl,_,hw⟩:=DataW.trod_int e ht
   rw [fk] at h
   obtain ⟨rfl,h2⟩:=h
   have:i=0:=by simpa using h2
   subst this;exact ⟨_,rfl,z,rfl,inI_wf' hw⟩
  ·rename_i e;obtain ⟨c,rfl,_⟩:=DataW.trod_bool e ht;rw [fk] at h;obtain ⟨h1,h2⟩:=h;have:i=0:=by simpa using h2
   subst this;have:b=false:=by simpa using h1
   subst this;exact ⟨_,rfl,c,rfl⟩
  ·rename_i fs e;obtain ⟨xs,k,_,_,hl,hxl,hf⟩:=DataW.trod_struct e ht;rw [fk] at h;have hi:i<P.cellsOf t:=by simpa using h.1
   have h:=h.2;rw [List.any_eq_true] at h;obtain ⟨j,hjr,hj⟩:=h;rw [nt] at hjr;split at hj
   ·rename_i f hfj;rw [fk,fk,cN,cN] at hj;have hx:=hf j f hfj;rw [dm ab] at hx;obtain ⟨v,hv,bn⟩:=AD hj.2 hx;rw [qX,if_pos ab,wH] at hv;exact ⟨v,by rw [<-hv];congr 1;omega,bn⟩
   ·cases hj
  ·cases h
def MixR(ks:List Bool)(r:LV):Prop:=r.length=ks.length/\∀(i:Nat)(b:Bool),ks[i]? =some b->∃v,r[i]? =some v/\acd b v
def amW(P:Program)(m:Nat)(ks:List Bool)(e:TypeId):Bool:=P.cellsOf e==ks.length &&(List.range ks.length).all λi=>match ks[i]? with|some b=>PX P m e i b|none=>false
def mix_of_trod{m:Nat}{ks:List Bool}{t e:TypeId}{fuel:Nat}{a:Option Addr}{len cap:Nat}{x:DataW H × List MemPlace}(ht:P.underlying t=some (.slice e))(hb:amW P m ks e=true)
  (h:DataW.trod enc P w base spare held fuel t [.slice a len cap]=some x):
  ∃z:List (LV),RdK w ⟨a,len,cap⟩ ks.length z/\(∀r ∈ z,MixR ks r)/\len<=cap/\cap<=maxLen:=by
 unfold amW at hb;rw [fk] at hb;have hk:P.cellsOf e=ks.length:=by simpa using hb.1
 have hb:=hb.2;rw [CG] at hb;rcases Go.Deep.open_slice ht h with ⟨yQ,_⟩|⟨b,len',cap',m',n,D,Pl,yQ,_,hl,hm,hmm,_,hx⟩
 ·simp at yQ;obtain ⟨rfl,rfl,rfl⟩:=yQ;exact ⟨[],⟨rfl,by simp,λi r hi=>by simp at hi⟩,by simp,aC _,by decide⟩
 ·simp at yQ;obtain ⟨rfl,rfl,rfl⟩:=yQ;have hlm:len<=m':=by rw [hmm];split<;>omega
  have each:∀i,i<len->∃r:LV,(∀j,j<ks.length->w.cell? ((b.add (i*ks.length)).add j)=r[j]?)/\MixR ks r:=by intro i hi;obtain ⟨cs',h1,h2⟩:=hx i ab;rw [hk] at h1;have hl':cs'.length=ks.length:=(World.cells?_some h1).2.1;refine ⟨cs',(World.cells?_some h1).2.2,hl',λi b hib=> ?_⟩;have hi':=(cG.1 hib).1;have:=hb i (nt.2 hi');rw [hib] at this;exact AD this h2
  have pick:∃f:Nat->LV,∀i,i<len->(∀j,j<ks.length->w.cell? ((b.add (i*ks.length)).add j)=(f i)[j]?)/\MixR ks (f i):=by refine ⟨λi=>if hi:i<len then Classical.choose (each i hi) else [],λi hi=> ?_⟩;simp only [dif_pos hi];exact Classical.choose_spec (each i hi)
  obtain ⟨f,hf⟩:=pick;refine ⟨(List.range len).map f,⟨by simp,λr hr=> ?_,λi r hi j v hj=> ?_⟩,λr hr=> ?_,hl,hm⟩
  ·obtain ⟨i,hi,rfl⟩:=aW.1 hr;exact (hf i (by simpa using hi)).2.1
  ·simp only [aR,zD] at hi;obtain ⟨q,hq,rfl⟩:=hi;obtain ⟨Qk,Hh⟩:=cG.1 hq;simp at Qk Hh;subst Hh;obtain ⟨h0,h1,_⟩:=hf i Qk;have hjk:j<ks.length:=by have:=(cG.1 hj).1;omega
   have:=h0 j hjk;rw [<-dn];show w.cell? ((b.add (i*ks.length)).add j)=_;rw [this];exact hj
  ·obtain ⟨i,hi,rfl⟩:=aW.1 hr;exact (hf i (by simpa using hi)).2
end
end Go.Vc
namespace Go.Proofs.YtkkkfkopcfdmaaaGreatDoor
open Go Go.Vc Go.RowKit Go.Proofs
set_option maxRecDepth 100000
set_option maxHeartbeats 8000000
set_option linter.unusedVariables false
variable {R:Ending->World->Prop} {w:World} {a0 a1 a2 a3 a4 a5 a6 a7 a8 a9 aA ar au aU aV aZ bG bC bD Cf aj aq aw bt bR bH eB eO eC wh bA bQ bw wi wm vb vd wo wu wx Ch Ci Cj Ck Cm Cn Co Cp Cq Cr:Int}
abbrev K2(i0 i1:Nat)(x y:World)(P:Prop):Prop:=Kp i0 x y/\Kp i1 x y/\P
abbrev K3(i0 i1 i2:Nat)(x y:World)(P:Prop):Prop:=Kp i0 x y/\Kp i1 x y/\Kp i2 x y/\P
abbrev K4(i0 i1 i2 i3:Nat)(x y:World)(P:Prop):Prop:=Kp i0 x y/\Kp i1 x y/\Kp i2 x y/\Kp i3 x y/\P
abbrev K5(i0 i1 i2 i3 i4:Nat)(x y:World)(P:Prop):Prop:=Kp i0 x y/\Kp i1 x y/\Kp i2 x y/\Kp i3 x y/\Kp i4 x y/\P
abbrev K6(i0 i1 i2 i3 i4 i5:Nat)(x y:World)(P:Prop):Prop:=Kp i0 x y/\Kp i1 x y/\Kp i2 x y/\Kp i3 x y/\Kp i4 x y/\Kp i5 x y/\P
abbrev K7(i0 i1 i2 i3 i4 i5 i6:Nat)(x y:World)(P:Prop):Prop:=Kp i0 x y/\Kp i1 x y/\Kp i2 x y/\Kp i3 x y/\Kp i4 x y/\Kp i5 x y/\Kp i6 x y/\P
abbrev K8(i0 i1 i2 i3 i4 i5 i6 i7:Nat)(x y:World)(P:Prop):Prop:=Kp i0 x y/\Kp i1 x y/\Kp i2 x y/\Kp i3 x y/\Kp i4 x y/\Kp i5 x y/\Kp i6 x y/\Kp i7 x y/\P
abbrev Ra2(F:Int->Int->World->Prop)(e:Ending)(w:World):Prop:=∃x0 x1:Int,e=.returned (.agg #[x0,x1])/\F x0 x1 w
abbrev iF(F:Int->Int->Int->World->Prop)(e:Ending)(w:World):Prop:=∃x0 x1 x2:Int,e=.returned (.agg #[x0,x1,x2])/\F x0 x1 x2 w
abbrev xF(F:Int->Int->Int->Int->Int->Int->World->Prop)(e:Ending)(w:World):Prop:=∃x0 x1 x2 x3 x4 x5:Int,e=.returned (.agg #[x0,x1,x2,x3,x4,x5])/\F x0 x1 x2 x3 x4 x5 w
abbrev Ra9(F:Int->Int->Int->Int->Int->Int->Int->Int->Int->World->Prop)(e:Ending)(w:World):Prop:=∃x0 x1 x2 x3 x4 x5 x6 x7 x8:Int,e=.returned (.agg #[x0,x1,x2,x3,x4,x5,x6,x7,x8])/\F x0 x1 x2 x3 x4 x5 x6 x7 x8 w
abbrev Ri(F:Int->World->Prop)(e:Ending)(w:World):Prop:=∃x:Int,e=.returned x/\F x w
abbrev Rb(F:Bool->World->Prop)(e:Ending)(w:World):Prop:=∃x:Bool,e=.returned (.bool x)/\F x w
abbrev Rv(F:Value->World->Prop)(e:Ending)(w:World):Prop:=∃x:Value,e=.returned x/\F x w
abbrev Rs(F:Sl->World->Prop)(e:Ending)(w:World):Prop:=∃x:Sl,e=.returned x/\F x w
abbrev Rt(F:World->Prop)(e:Ending)(w:World):Prop:=e=.returned (.tuple #[])/\F w
abbrev Nq(p:Option Addr)(j:Nat):Prop:=bz p≠some j
abbrev Nb(i j:Nat):Prop:=bz (some ⟨i,0,none⟩)≠some j
abbrev Wt(w:World)(a:Addr)(n:Nat):Prop:=true=true/\Wr w (some a) n
abbrev Aw(w:World)(l:Array Value)(t:TypeId)(F:World->Prop):Prop:=∀v,v=w.alloc (.cells l t)->F v
abbrev Sw(w:World)(i:Nat)(l:Array Value)(F:World->Prop):Prop:=∀v,v=w.setRow i l->F v
def Tryz.arY:DE Tryz.prog:=ai2 (by kernel_rfl)
def Tryz.mixed:Tryz.prog.follows .mixedOrders=true:=by kernel_rfl
def cq{pre:Prop}{f:FuncId}{fn:Func}(an:Ann){args:List Value}{w:World}{R:Ending->World->Prop}(hf:Tryz.prog.funcs[f]? =some fn)(h:pre)(k:pre=afd Tryz.prog an fn args w R:=by kernel_rfl):Calls Tryz.prog f args.toArray w R:=
 N3 (an:=an) Tryz.arY Tryz.mixed hf h k
abbrev bU:Ann:=⟨[],[],[]⟩
inductive CQ|a
abbrev ah:CQ:=.a
instance:CoeFun CQ (λ_=>FuncId->Array Value->World->(Ending->World->Prop)->Prop):=⟨λ_=>Calls Tryz.prog⟩
def RA.vc(h:
 Aw w #[aA,ar,au] 41 λw0=>
 Br (ar<0)
 (R (Value.tuple #[aa,false]) w0)
 (Br (ar>=32)
 (R (Value.tuple #[aa,false]) w0)
 (ah 282 #[au,(16:Int)] w0.drew (Ri λx2 w1=>Kp w w0.drew w1/\
 af w1 w 0 [aA]/\af w1 (dC w 1) 0 [ar]/\ah 282 #[aA,(16:Int)] w1 (Ri λx4 w3=>Kp w w1 w3/\
 af w3 (dC w 1) 0 [ar]/\R (Value.tuple #[(ao ((ao ((ao ((ao (ar*16))+x2))*16))+x4)),true]) w3))))):ah 255 #[.agg #[aA,ar,au]] w R:=
 cq bU Tryz.func255 h
def Wx.vc(h:
 ah 158 #[a0] w (λe w0=>∃(t1:ByteArray),e=Value.string t1/\
 R (Value.bool (!ti t1 (ByteArray.mk #[]))) w0)):ah 108 #[a0] w R:=
 cq bU Tryz.func108 h
def DF.vc{a0:Addr}(h:
 Aw w #[aj,aq,aw] 41 λw0=>
 ∃(x1 x2:Int),af w0.drew (ae (some a0) 0) 0 [x1,x2]/\
 ah 193 #[.agg #[x1,x2],.agg #[aj,aq,aw]] w0.drew (λe w3=>∃(x4:Int)(b5:Bool),e=Value.tuple #[x4,b5]/\Kp w w0.drew w3/\
 Br (!b5)
 (R (5:Int) w3)
 (ah 108 #[a2] w3 (Rb λb7 w6=>Kp w w3 w6/\
 Br (!b7)
 (R (1:Int) w6)
 (∃(s8:Sl),ld w6 (ae (some a0) 2)=some (.slice s8.a s8.n s8.c)/\
 ah 295 #[s8,x4,a2] w6 (Rs λyN w9=>Kp w w6 w9/\
 (true=true/\Wr w9 (ae (some a0) 2) 1)/\bz (ae (some a0) 2)≠some w.heap.size/\(∀bg,bg=aL w9 (ae (some a0) 2) [yN]->
 R (0:Int) bg))))))):ah 268 #[a0,.agg #[aj,aq,aw],a2] w R:=
 cq bU Tryz.func268 h
def Bq.vc{a0:Addr}{a1:Addr}(h:
 ∃(b0:Bool),ld w (ae (some a1) 1)=some (.bool b0)/\
 Br (!b0)
 (R (0:Int) w)
 (∃(p1:Option Addr),ld w (ae (some a1) 0)=some (.pointer p1)/\
 aP (dq p1) (aP (dq p1) (∃(x2 x3:Int),af w (ae p1 0) 0 [x2,x3]/\
 ah 95 #[.agg #[x2,x3]] w (λe w4=>∃(x5 x6:Int),e=Value.agg #[x5,x6]/\
 ah 72 #[.agg #[x5,x6]] w4 (λe w7=>∃(x8:Int)(b9:Bool),e=Value.tuple #[x8,b9]/\
 ∃(tf:Option Addr),ld w7.drew (ae (some a0) 0)=some (.pointer tf)/\
 ∃(Zh:Option Addr),ld w7.drew (ae (some a1) 0)=some (.pointer Zh)/\
 ah 137 #[Zh] w7.drew (λe dj=>∃(yC:Sl),e=yC/\
 af dj (ae (some a0) 0) 0 [.pointer tf]/\ah 115 #[tf,x8,yC] dj (λe bO=>∃(cw:Int),e=cw/\
 (true=true/\Wr bO (ae (some a1) 1) 1)/\(∀cF,cF=aL bO (ae (some a1) 1) [.bool (cw !=0)]->
 R cw cF))))))))):ah 79 #[a0,a1] w R:=
 cq bU Tryz.func79 h
def DG.vc{a0:Addr}(h:
 ∃(s0:Sl),ld w (ae (some a0) 3)=some (.slice s0.a s0.n s0.c)/\
 eA s0.a a1 s0.n/\∃(p1:Option Addr),ld w (ae s0.a ((a1:Int).toNat*1))=some (.pointer p1)/\
 ∃(s2:Sl),ld w.drew (ae (some a0) 3)=some (.slice s2.a s2.n s2.c)/\
 (0:Int)<=a1/\a1<=((s2.c:Nat):Int)/\(0:Int)<=a1/\a1<=a1/\∃(s3:Sl),ld w.drew (ae (some a0) 3)=some (.slice s3.a s3.n s3.c)/\
 (0:Int)<=(ao (a1+1))/\(ao (a1+1))<=((s3.n:Nat):Int)/\∃l4:LV,Rd w.drew (aJ s3.a (((ao (a1+1)):Int).toNat) (s3.c) 1) l4/\ba 8 1 w.drew ⟨(aJ s2.a (0) ((a1:Int).toNat) 1),((a1:Int).toNat-0),((a1:Int).toNat-0)⟩ (s3.n-((ao (a1+1)):Int).toNat) l4/\∀(s5:Sl)(w6:World),aY 137 1 w.drew ⟨(aJ s2.a (0) ((a1:Int).toNat) 1),((a1:Int).toNat-0),((a1:Int).toNat-0)⟩ (s3.n-((ao (a1+1)):Int).toNat) l4 s5 w6->
 af w6 (ae (some a0) 3) 0 [s3]/\af w6 (ae (some a0) 3) 0 [s2]/\(true=true/\Wr w6 (ae (some a0) 3) 1)/\(∀w7,w7=aL w6 (ae (some a0) 3) [s5]->
 R p1 w7)):ah 80 #[a0,a1] w R:=
 cq bU Tryz.func80 h
def Wy.vc(h:
 ah 212 #[a0] w (λe w0=>∃(p1:Option Addr),e=p1/\
 Aw w0 #[p1] 217 λw2=>
 R (Value.pointer (aB w0)) w2)):ah 149 #[a0] w R:=
 cq bU Tryz.func149 h
def tY.vc{a0:Sl}{a1:Value}(h:
 ∃I0:Nat->Int->World->Prop,
 (∃n1,I0 n1 (0) w)/\
 ∀(n1:Nat)(yI:Nat->Value)(x3:Int)(w4:World),I0 n1 x3 w4->
 Br (decide (x3<((a0.n:Nat):Int)))
 (eA a0.a x3 a0.n/\∃(p6:Option Addr),ld w4 (ae a0.a ((x3:Int).toNat*1))=some (.pointer p6)/\
 cC Tryz.prog a1 [.pointer p6] w4 (λe w7=>∃(b8:Bool),e=b8/\
 Br b8
 (R x3 w7)
 (∃n5,n5<n1/\I0 n5 ((ao (x3+1))) w7)))
 (R (Value.int .i64 (-1)) w4)):ah 129 #[a0,a1] w R:=
 cq ⟨[(2,⟨[(8,.int .i64)],[],[]⟩)],[],[]⟩ Tryz.func129 h
def xO.vc{a0:Addr}{c0:Addr}(h:
 ∃(p0:Option Addr),ld w.drew (ae (some a0) 0)=some (.pointer p0)/\
 aP (dq p0) (aP (dq p0) (∃(x1 x2:Int),af w.drew (ae p0 0) 0 [x1,x2]/\
 ∃(x3 x4:Int),af w.drew (some c0) 0 [x3,x4]/\
 ah 95 #[.agg #[x1,x2]] w.drew (λe w5=>∃(x6 x7:Int),e=Value.agg #[x6,x7]/\
 af w5 (some c0) 0 [x3,x4]/\af w5 (ae (some a0) 0) 0 [.pointer p0]/\R (Value.bool ((x6==x3) &&(x7==x4))) w5)))):ah 130 #[a0,c0] w R:=
 cq bU Tryz.func130 h
def zM.vc(h:
 Aw w #[aA,ar] 172 λw0=>
 Aw w0 #[aa,aa] 40 λw1=>
 Sw w1 w0 #[aA,ar] λw2=>
 R (Value.agg #[aA,ar]) w2):ah 95 #[.agg #[aA,ar]] w R:=
 cq bU Tryz.func95 h
def xP.vc{a0:Addr}(h:
 ∃(x0:Int),ld w (ae (some a0) 2)=some (.int .i64 x0)/\
 R (Value.bool (x0==0)) w):ah 131 #[a0] w R:=
 cq bU Tryz.func131 h
def Wz.vc(h:
 Br (a0>=0)
 (R (Value.bool (decide (a0<=1099511627776))) w)
 (R false w)):ah 132 #[a0] w R:=
 cq bU Tryz.func132 h
def WB.vc{a0:Sl}(h:
 ∃I0:Nat->Sl->Int->Int->Sl->World->Prop,
 (∃n1,I0 n1 a0 ((-1)) a1 ⟨none,0,0⟩ w)/\
 ∀(n1:Nat)(yI:Nat->Value)(s3:Sl)(x4 x5:Int)(s6:Sl)(w7:World),I0 n1 s3 x4 x5 s6 w7->
 Br (decide ((((s3.n:Nat):Int):Int)>0))
 (eA s3.a 0 s3.n/\∃(x9:Int),ld w7 (ae s3.a ((0:Int).toNat*1))=some (.int .u8 x9)/\
 Aw w7 #[aa,aa] 252 λbP=>
 Sw bP w7 #[aa,(ao x9)] λbg=>
 ah 108 #[(ao x9)] bg (Rb λHn dj=>Kp w7 bg dj/\
 Br (!Hn)
 (R (Value.tuple #[.slice none 0 0,(2:Int)]) dj)
 (Br (((ao x9):Int)==x4)
 (R (Value.tuple #[.slice none 0 0,(2:Int)]) dj)
 ((0:Int)<=((s3.n:Nat):Int)/\((s3.n:Nat):Int)<=((s3.c:Nat):Int)/\(0:Int)<=((s3.n:Nat):Int)/\(((s3.n:Nat):Int):Int)<=((s3.n:Nat):Int)/\(0:Int)<=1/\(1:Int)<=((s3.n:Nat):Int)/\ah 184 #[.slice (aJ s3.a ((1:Int).toNat) ((((s3.n:Nat):Int):Int).toNat) 1) ((((s3.n:Nat):Int):Int).toNat-(1:Int).toNat) ((((s3.n:Nat):Int):Int).toNat-(1:Int).toNat)] dj (λe bO=>∃(cw cH dh:Int),e=Value.tuple #[cw,cH,dh]/\Kp w7 dj bO/\
 Br (dh !=0)
 (R (Value.tuple #[.slice none 0 0,dh]) bO)
 (Br (cw==0)
 (R (Value.tuple #[.slice none 0 0,(2:Int)]) bO)
 (Br (cw>x5)
 (R (Value.tuple #[.slice none 0 0,(2:Int)]) bO)
 (Sw bO w7 #[cw,(ao x9)] λdH=>
 (0:Int)<=(ao (1+cH))/\(ao (1+cH))<=((s3.n:Nat):Int)/\Aw dH.drew #[cw,(ao x9)] 252 λgg=>
 ba 16 2 gg s6 1 [cw,(ao x9)]/\∀(vM:Sl)(eZ:World),aY 252 2 gg s6 1 [cw,(ao x9)] vM eZ->Kp w7 gg eZ/\eZ.heap[dH.drew.heap.size]? =gg.heap[dH.drew.heap.size]?/\
 Br (((ao (x5-cw)):Int)==0)
 (Br (decide (((ao (x5-cw)):Int)>0))
 (R (Value.tuple #[.slice none 0 0,(3:Int)]) eZ)
 (Br (decide (((((s3.n-((ao (1+cH)):Int).toNat):Nat):Int):Int)>0))
 (R (Value.tuple #[.slice none 0 0,(2:Int)]) eZ)
 (R (Value.tuple #[vM,aa]) eZ)))
 (∃n8,n8<n1/\I0 n8 ⟨(aJ s3.a (((ao (1+cH)):Int).toNat) (s3.c) 1),(s3.n-((ao (1+cH)):Int).toNat),(s3.c-((ao (1+cH)):Int).toNat)⟩ ((ao x9)) ((ao (x5-cw))) vM eZ)))))))))
 (Br (x5>0)
 (R (Value.tuple #[.slice none 0 0,(3:Int)]) w7)
 (Br (decide ((((s3.n:Nat):Int):Int)>0))
 (R (Value.tuple #[.slice none 0 0,(2:Int)]) w7)
 (R (Value.tuple #[s6,aa]) w7)))):ah 134 #[a0,a1] w R:=
 cq ⟨[(3,⟨[(0,.slice),(7,.int .i64),(1,.int .i64),(6,.slice)],[],[]⟩)],[],[]⟩ Tryz.func134 h
def A8.vc{a0:Addr}(h:
 ∃(p0:Option Addr),ld w (ae (some a0) 0)=some (.pointer p0)/\
 R (Value.func (.func 83) #[p0] #[]) w):ah 27 #[a0] w R:=
 cq bU Tryz.func27 h
def WD.vc{a1:Sl}(h:
 Aw w #[aA,ar] 40 λw0=>
 ah 185 #[a1,(8192:Int)] w0 (Rb λb2 w1=>Kp w w0 w1/\
 Br (!b2)
 (R (Value.tuple #[.pointer none,(1:Int)]) w1)
 ((ah 186 #[a1] w1.drew (Rs λs4 w3=>Kp w w1.drew w3/\
 Aw w3 #[aA,ar,s4] 175 λw5=>
 R (Value.tuple #[.pointer (aB w3),aa]) w5))/\(ah 186 #[a1] w1.drew (Rs λs7 w6=>Kp w w1.drew w6/\
 af w6 w 0 [aA,ar]/\Aw w6 #[aA,ar,s7] 175 λw8=>
 R (Value.tuple #[.pointer (aB w6),aa]) w8))))):ah 135 #[.agg #[aA,ar],a1] w R:=
 cq bU Tryz.func135 h
def We.vc(h:
 Aw w #[aj,aq] 40 λw0=>
 Aw w0 #[.slice none 0 0] 32 λw1=>
 ah 187 #[a0,.agg #[aj,aq]] w1 (Rv λv3 w2=>K2 w w0 w1 w2 (
 ∃(xs4:List (LV))(Rd5 F6:Nat->Prop)(I7:Nat->(Nat->Prop)->Sl->World->Prop)(X8:Option Nat->(Nat->Prop)->Sl->World->Prop),
 (∀x ∈ xs4,∃(x9:Int),x=[.int .i64 x9])/\
 (∀(n10:Nat)(F11:Nat->Prop)(kg:Sl)(bK bO:World),I7 n10 F11 kg bK->Below w2 bK bO->(∀i,F11 i->bO.heap[i]? =bK.heap[i]?)->I7 n10 F11 kg bO)/\
 (∀(n15:Option Nat)(F16:Nat->Prop)(Hp:Sl)(dH gg:World),X8 n15 F16 Hp dH->Below w2 dH gg->(∀i,F16 i->gg.heap[i]? =dH.heap[i]?)->X8 n15 F16 Hp gg)/\
 (∀(TR:Nat)(F21:Nat->Prop)(s22:Sl)(eP:World),I7 TR F21 s22 eP->∀i,F21 i->i<eP.heap.size/\i≠w2.heap.size/\i≠w2.heap.size+1)/\
 (∀(n24:Option Nat)(F25:Nat->Prop)(Ra:Sl)(dX:World),X8 n24 F25 Ra dX->∀i,F25 i->i<dX.heap.size/\i≠w2.heap.size/\i≠w2.heap.size+1)/\
 (∀i,Rd5 i->i<w2.heap.size/\¬F6 i/\i≠w.heap.size/\i≠w0.heap.size/\True)/\
 (∀iw:World,Ni w2 w2 iw->Iter Tryz.prog (v3) iw Rd5 xs4/\aO [aj,aq]/\I7 0 F6 ⟨none,0,0⟩ iw)/\
 (∀(ZK:Nat)(F30:Nat->Prop)(att:Nat->Value)(wA:Sl)(eL:Int)(jf:World),xs4[ZK]? =some [.int .i64 eL]->I7 ZK F30 wA jf->
 Below jf jf jf/\∀kh:World,Rec (w2.heap.size+1) jf kh->I7 ZK F30 wA kh->
 Aw kh #[eL] 3 λkG=>
 ba 8 1 kG wA 1 [eL]/\∀(s37:Sl)(oD:World),aY 3 1 kG wA 1 [eL] s37 oD->K3 w w0 kh kG oD (
 Sw oD w0 #[s37] λkx=>
 ∃F40:Nat->Prop,(aO [aj,aq]/\I7 (ZK+1) F40 s37 kx)/\Step (λi=>(F30 i\/i ∈([w.heap.size,w0.heap.size]:List Nat))\/jf.heap.size<=i) (λi=>F40 i\/i ∈([w.heap.size,w0.heap.size]:List Nat)) kh kx))/\
 (∀(F41:Nat->Prop)(aAV:Nat->Value)(s43:Sl)(lg:World),I7 xs4.length F41 s43 lg->lg.heap[w2.heap.size]? =some (.deferred (some []))->
 ah 189 #[s43] lg (Rs λs46 Cy=>K2 w w0 lg Cy (
 ah 188 #[s46] Cy (Rs λTP lW=>K2 w w0 Cy lW (
 lW.heap[w2.heap.size]? =some (.deferred (some []))/\∀lq:World,Rec w2 lW lq->
 R TP lq)))))/\
 True))):ah 136 #[a0,.agg #[aj,aq]] w R:=
 cq ⟨[],[],[(4,⟨[],[(1,[.slice])],[]⟩,[.sc (.int .i64)])]⟩ Tryz.func136 h
def aag.vc(h:
 Br (a1<1)
 (R (0:Int) w)
 (aP (Mt a1) (aP (Mt a1) (Br (decide (((Int.tmod a0 a1):Int)<0))
 (R ((ao ((ao (Int.tdiv a0 a1))-1))) w)
 (R ((ao (Int.tdiv a0 a1))) w))))):ah 192 #[a0,a1] w R:=
 cq bU Tryz.func192 h
def zN.vc(h:
 Aw w #[aA,ar] 172 λw0=>
 Aw w0 #[aj,aq,aw] 41 λw1=>
 ah 255 #[.agg #[aj,aq,aw]] w1 (λe w2=>∃(x3:Int)(b4:Bool),e=Value.tuple #[x3,b4]/\K2 w w0 w1 w2 (
 Br b4
 (ah 139 #[.agg #[aj,aq,aw]] w2.drew (Ra2 λx6 x7 w5=>K2 w w0 w2.drew w5 (
 af w5 w 0 [aA,ar]/\R (Value.tuple #[x3,.bool ((x6==aA) &&(x7==ar))]) w5)))
 (R (Value.tuple #[x3,false]) w2.drew)))):ah 193 #[.agg #[aA,ar],.agg #[aj,aq,aw]] w R:=
 cq bU Tryz.func193 h
def afe.vc{a0:Sl}(h:
 ∃I0:Nat->Int->Int->World->Prop,
 (∃n1,I0 n1 (0) a1 w)/\
 ∀(n1:Nat)(yI:Nat->Value)(x3 x4:Int)(w5:World),I0 n1 x3 x4 w5->
 Br (decide (x3<((a0.n:Nat):Int)))
 (eA a0.a x3 a0.n/\∃(x7 x8:Int),af w5 (ae a0.a ((x3:Int).toNat*2)) 0 [x7,x8]/\
 Aw w5 #[aa,aa] 252 λw9=>
 Sw w9 w5 #[x7,x8] λbP=>
 Br (x4>=0)
 (Br (x4<x7)
 (R x8 bP)
 (∃n6,n6<n1/\I0 n6 ((ao (x3+1))) ((ao (x4-x7))) bP))
 (∃n6,n6<n1/\I0 n6 ((ao (x3+1))) ((ao (x4-x7))) bP))
 (R (Value.int .i64 (-1)) w5)):ah 194 #[a0,a1] w R:=
 cq ⟨[(2,⟨[(9,.int .i64),(1,.int .i64)],[],[]⟩)],[],[]⟩ Tryz.func194 h
def WE.vc(h:
 Br (a0>=8)
 (R (Value.bool (decide (a0<16))) w)
 (R false w)):ah 202 #[a0] w R:=
 cq bU Tryz.func202 h
def By.vc{a0:Addr}(h:
 ∃(s0:Sl),ld w (ae (some a0) 3)=some (.slice s0.a s0.n s0.c)/\
 ∃I1:Nat->Int->Sl->World->Prop,
 (∃n2,I1 n2 (0) ⟨none,0,0⟩ w)/\
 ∀(n2:Nat)(us3:Nat->Value)(x4:Int)(s5:Sl)(w6:World),I1 n2 x4 s5 w6->
 Br (decide (x4<((s0.n:Nat):Int)))
 (eA s0.a x4 s0.n/\∃(p8:Option Addr),ld w6 (ae s0.a ((x4:Int).toNat*1))=some (.pointer p8)/\
 aP (dq p8) (aP (dq p8) (∃(p9:Option Addr),ld w6 (ae p8 0)=some (.pointer p9)/\
 aP (dq p9) (aP (dq p9) (∃(bj bu:Int),af w6 (ae p9 0) 0 [bj,bu]/\
 ah 95 #[.agg #[bj,bu]] w6 (λe dj=>∃(cn bI:Int),e=Value.agg #[cn,bI]/\
 Aw dj #[cn,bI] 40 λdB=>
 ba 16 2 dB s5 1 [cn,bI]/\∀(ZL:Sl)(cL:World),aY 40 2 dB s5 1 [cn,bI] ZL cL->Kp dj dB cL/\
 ∃n7,n7<n2/\I1 n7 ((ao (x4+1))) ZL cL))))))
 (R s5 w6)):ah 37 #[a0] w R:=
 cq ⟨[(3,⟨[(11,.int .i64),(3,.slice)],[],[]⟩)],[],[]⟩ Tryz.func37 h
def MX.vc(h:
 Aw w #[aA,ar] 40 λw0=>
 Aw w0 #[aa,aa,aa,aa,aa,aa,aa,aa,aa,aa] 227 λw1=>
 Wt w1 ⟨w0,0,none⟩ 10/\Nb w0 w/\(∀w2,w2=aL w1 (aB w0) [aA,ar,(ao (aA-1)),ar,(ao (aA+1)),ar,aA,(ao (ar-1)),aA,(ao (ar+1))]->
 ∃(x3 x4 x5 x6 x7 x8 x9 bj bu bV:Int),af w2 (aB w0) 0 [x3,x4,x5,x6,x7,x8,x9,bj,bu,bV]/\
 R (Value.agg #[x3,x4,x5,x6,x7,x8,x9,bj,bu,bV]) w2)):ah 150 #[.agg #[aA,ar]] w R:=
 cq bU Tryz.func150 h
def vO.vc{a0:Sl}(h:
 Aw w #[aj,aq] 40 λw0=>
 ah 213 #[a0,.agg #[aj,aq]] w0 (Ri λx2 w1=>Kp w w0 w1/\
 R (Value.bool (decide (x2>=0))) w1)):ah 151 #[a0,.agg #[aj,aq]] w R:=
 cq bU Tryz.func151 h
def N4.vc(h:
 ah 202 #[a0] w (λe w0=>∃(b1:Bool),e=b1/\
 Br (!b1)
 (R (Value.int .i64 (-1)) w0)
 (R ((ao (a0-8))) w0))):ah 280 #[a0] w R:=
 cq bU Tryz.func280 h
def V8.vc(h:
 aP (Mt a1) (Br (decide (((ao ((ao (Int.tdiv a0 a1))*a1)):Int)>a0))
 (R ((ao ((ao (Int.tdiv a0 a1))-1))) w)
 (R ((ao (Int.tdiv a0 a1))) w))):ah 86 #[a0,a1] w R:=
 cq bU Tryz.func86 h
def WG.vc(h:
 Br (a0>=0)
 (Br (a0<=15)
 (Br (a0 !=6)
 (R (Value.bool (a0 !=7)) w)
 (R false w))
 (R false w))
 (R false w)):ah 111 #[a0] w R:=
 cq bU Tryz.func111 h
def aah.vc(h:
 Br (a1<1)
 (R (0:Int) w)
 (aP (Mt a1) (Br (decide (((Int.tmod a0 a1):Int)<0))
 (R ((ao ((Int.tmod a0 a1)+a1))) w)
 (R (Value.int .i64 (Int.tmod a0 a1)) w)))):ah 282 #[a0,a1] w R:=
 cq bU Tryz.func282 h
def R5.vc(h:
 Br (a0<0)
 (R (Value.string (ByteArray.mk #[])) w)
 (Br (a0>=16)
 (R (Value.string (ByteArray.mk #[])) w)
 (ah 218 #[] w (λe w0=>∃(t1 t2 t3 t4 t5 t6 t7 t8 t9 t10 t11 t12 t13 t14 t15 t16:ByteArray),e=Value.agg #[.string t1,.string t2,.string t3,.string t4,.string t5,.string t6,.string t7,.string t8,.string t9,.string t10,.string t11,.string t12,.string t13,.string t14,.string t15,.string t16]/\
 ((0:Int)<=a0/\a0<((16:Nat):Int))/\∃(t17:ByteArray),([.string t1,.string t2,.string t3,.string t4,.string t5,.string t6,.string t7,.string t8,.string t9,.string t10,.string t11,.string t12,.string t13,.string t14,.string t15,.string t16]:LV)[(a0:Int).toNat*1]? =some (.string t17)/\
 R (Value.string t17) w0)))):ah 158 #[a0] w R:=
 cq bU Tryz.func158 h
def aaB.vc{a0:Sl}(h:
 Br (a1<0)
 (ah 186 #[a0] w (λe w0=>∃(s1:Sl),e=s1/\
 R s1 w0))
 (ah 253 #[a0] w (λe w2=>∃(x3:Int),e=x3/\
 Br (a1>=x3)
 (ah 186 #[a0] w2 (λe w4=>∃(s5:Sl),e=s5/\
 R s5 w4))
 (ah 309 #[a0,a1,(ao (a1+1)),a2] w2 (λe w6=>∃(s7:Sl),e=s7/\
 R s7 w6))))):ah 295 #[a0,a1,a2] w R:=
 cq bU Tryz.func295 h
def zO.vc{a0:Addr}(h:
 ∃(s0:Sl),ld w (ae (some a0) 2)=some (.slice s0.a s0.n s0.c)/\
 ah 190 #[s0] w (λe w1=>∃(s2:Sl)(x3:Int),e=Value.tuple #[s2,x3]/\
 R s2 w1)):ah 137 #[a0] w R:=
 cq bU Tryz.func137 h
def aaC.vc(h:
 ∀w0,w0=w.alloc (.map #[] 0)->
 Aw w0 #[.int .i64 (if 1048576<(if 0>a0 then 0 else a0) then 1048576 else (if 0>a0 then 0 else a0)),aa,aa,.map (some w.heap.size),.slice none 0 0] 277 λw1=>
 R (Value.pointer (aB w0)) w1):ah 212 #[a0] w R:=
 cq bU Tryz.func212 h
def Ic.vc{a0:Addr}(h:
 ah 228 #[a0] w (λe w0=>∃(m1:Option Nat),e=Value.map m1/\
 ∃(G2:Value->Prop)(kvs3:List (Value × Value)),iW Tryz.prog 3 G2/\cD G2 w0 m1 kvs3/\G2 a1/\∃(s4:Sl),∃b5:Bool,Ie kvs3 a1 (.slice none 0 0) s4 b5/\
 ah 230 #[s4] w0 (λe w6=>∃(s7:Sl),e=s7/\
 R (Value.tuple #[s7,b5]) w6))):ah 182 #[a0,a1] w R:=
 cq bU Tryz.func182 h
def R6.vc{a0:Sl}(h:
 ah 246 #[a0] w (λe w0=>∃(s1:Sl)(x2:Int),e=Value.tuple #[s1,x2]/\
 Br (x2 !=0)
 (R (Value.tuple #[aa,.slice none 0 0,x2]) w0)
 (Br (decide ((((s1.n:Nat):Int):Int)<7))
 (R (Value.tuple #[aa,.slice none 0 0,(3:Int)]) w0)
 ((0:Int)<=4/\4<=((s1.c:Nat):Int)/\(0:Int)<=7/\7<=((s1.c:Nat):Int)/\(0:Int)<=4/\(4:Int)<=7/\(0:Int)<=7/\7<=((s1.n:Nat):Int)/\ah 247 #[.slice (aJ s1.a (0) (s1.c) 1) ((4:Int).toNat-0) (s1.c-0)] w0.drew (λe w3=>∃(x4:Int),e=x4/\
 ah 247 #[.slice (aJ s1.a ((4:Int).toNat) (s1.c) 1) ((7:Int).toNat-(4:Int).toNat) (s1.c-(4:Int).toNat)] w3 (λe w5=>∃(x6:Int),e=x6/\
 Br (x4<1)
 (R (Value.tuple #[aa,.slice none 0 0,(2:Int)]) w5)
 (Br (x4>1073741824)
 (R (Value.tuple #[aa,.slice none 0 0,(2:Int)]) w5)
 (Br (x6>65536)
 (R (Value.tuple #[aa,.slice none 0 0,(2:Int)]) w5)
 (Br (x6 !=(((s1.n-(7:Int).toNat):Nat):Int))
 (R (Value.tuple #[aa,.slice none 0 0,(2:Int)]) w5)
 (R (Value.tuple #[x4,.slice (aJ s1.a ((7:Int).toNat) (s1.c) 1) (s1.n-(7:Int).toNat) (s1.c-(7:Int).toNat),aa]) w5)))))))))):ah 183 #[a0] w R:=
 cq bU Tryz.func183 h
def N5.vc{a0:Sl}(h:
 (0:Int)<=(if 3<((a0.n:Nat):Int) then 3 else ((a0.n:Nat):Int))/\(if 3<((a0.n:Nat):Int) then 3 else ((a0.n:Nat):Int))<=((a0.c:Nat):Int)/\∃I0:Nat->Int->Int->World->Prop,
 (∃n1,I0 n1 (0) (0) w)/\
 ∀(n1:Nat)(yI:Nat->Value)(x3 x4:Int)(w5:World),I0 n1 x3 x4 w5->
 Br (decide (x3<(((((if 3<((a0.n:Nat):Int) then 3 else ((a0.n:Nat):Int)):Int).toNat-0):Nat):Int)))
 (eA (aJ a0.a (0) (a0.c) 1) x3 (((if 3<((a0.n:Nat):Int) then 3 else ((a0.n:Nat):Int)):Int).toNat-0)/\∃(x7:Int),ld w5 (ae (aJ a0.a (0) (a0.c) 1) ((x3:Int).toNat*1))=some (.int .u8 x7)/\
 aP (ngC (ao (7*x3))) (Br (x7>=128)
 (∃n6,n6<n1/\I0 n6 ((ao (x3+1))) ((MM .i64 x4 (ao ((ao (l8 .u8 x7 128))*2 ^(min ((ao (7*x3)):Int).toNat 64))))) w5)
 (Br (x7==0)
 (Br (x3>0)
 (R (Value.tuple #[aa,aa,(2:Int)]) w5)
 (Br (decide (((MM .i64 x4 (ao ((ao (l8 .u8 x7 128))*2 ^(min ((ao (7*x3)):Int).toNat 64)))):Int)>1048576))
 (R (Value.tuple #[aa,aa,(2:Int)]) w5)
 (R (Value.tuple #[.int .i64 (MM .i64 x4 (ao ((ao (l8 .u8 x7 128))*2 ^(min ((ao (7*x3)):Int).toNat 64)))),(ao (x3+1)),aa]) w5)))
 (Br (decide (((MM .i64 x4 (ao ((ao (l8 .u8 x7 128))*2 ^(min ((ao (7*x3)):Int).toNat 64)))):Int)>1048576))
 (R (Value.tuple #[aa,aa,(2:Int)]) w5)
 (R (Value.tuple #[.int .i64 (MM .i64 x4 (ao ((ao (l8 .u8 x7 128))*2 ^(min ((ao (7*x3)):Int).toNat 64)))),(ao (x3+1)),aa]) w5)))))
 (Br (decide ((((a0.n:Nat):Int):Int)<3))
 (R (Value.tuple #[aa,aa,(3:Int)]) w5)
 (R (Value.tuple #[aa,aa,(2:Int)]) w5))):ah 184 #[a0] w R:=
 cq ⟨[(3,⟨[(14,.int .i64),(5,.int .i64)],[],[]⟩)],[],[]⟩ Tryz.func184 h
def aaD.vc{a0:Sl}(h:
 ∃I0:Nat->Int->Int->World->Prop,
 (∃n1,I0 n1 (0) a1 w)/\
 ∀(n1:Nat)(yI:Nat->Value)(x3 x4:Int)(w5:World),I0 n1 x3 x4 w5->
 Br (decide (x3<((a0.n:Nat):Int)))
 (eA a0.a x3 a0.n/\∃(x7 x8:Int),af w5 (ae a0.a ((x3:Int).toNat*2)) 0 [x7,x8]/\
 Aw w5 #[aa,aa] 252 λw9=>
 Sw w9 w5 #[x7,x8] λbP=>
 Br (x7<1)
 (R false bP.drew)
 (Br (x7>x4)
 (R false bP.drew)
 (ah 108 #[x8] bP.drew (Rb λb12 bg=>Kp w5 bP.drew bg/\
 af bg w5 0 [x7]/\af bg w5 0 [x7]/\Br (!b12)
 (R false bg)
 (Br (x3>0)
 (eA a0.a (ao (x3-1)) a0.n/\aP (dq (ae a0.a (((ao (x3-1)):Int).toNat*2))) (∃(cn:Int),ld bg (ae (ae a0.a (((ao (x3-1)):Int).toNat*2)) 1)=some (.int .i64 cn)/\
 Br (cn==x8)
 (R false bg)
 (∃n6,n6<n1/\I0 n6 ((ao (x3+1))) ((ao (x4-x7))) bg)))
 (∃n6,n6<n1/\I0 n6 ((ao (x3+1))) ((ao (x4-x7))) bg))))))
 (Br (a1>0)
 (R (Value.bool (x4==0)) w5)
 (R false w5))):ah 185 #[a0,a1] w R:=
 cq ⟨[(3,⟨[(11,.int .i64),(5,.int .i64)],[],[]⟩)],[],[]⟩ Tryz.func185 h
def Bz.vc{a0:Sl}(h:
 Br (a0.a).isNone
 (R (Value.slice none 0 0) w)
 (Aw w #[] 252 λw0=>
 ∃l1:LV,Rd w0 a0.a l1/\ba 16 2 w0 ⟨(aB w),0,0⟩ a0.n l1/\∀(s2:Sl)(w3:World),aY 252 2 w0 ⟨(aB w),0,0⟩ a0.n l1 s2 w3->Kp w w0 w3/\
 R s2 w3)):ah 186 #[a0] w R:=
 cq bU Tryz.func186 h
def WH.vc(h:
 Aw w #[a0] 3 λw0=>
 Aw w0 #[aj,aq] 40 λw1=>
 R (Value.func (.func 248) #[] #[.pointer (aB w0),w]) w1):ah 187 #[a0,.agg #[aj,aq]] w R:=
 cq bU Tryz.func187 h
def aff.vc{a0:Sl}(h:
 ∃I0:Nat->Int->Sl->World->Prop,
 (∃n1,I0 n1 (0) ⟨none,0,0⟩ w)/\
 ∀(n1:Nat)(yI:Nat->Value)(x3:Int)(s4:Sl)(w5:World),I0 n1 x3 s4 w5->
 Br (decide (x3<((a0.n:Nat):Int)))
 (eA a0.a x3 a0.n/\∃(x7:Int),ld w5 (ae a0.a ((x3:Int).toNat*1))=some (.int .i64 x7)/\
 ah 252 #[s4,.agg #[(1:Int),x7]] w5 (λe w8=>∃(s9:Sl),e=s9/\
 ∃n6,n6<n1/\I0 n6 ((ao (x3+1))) s9 w8))
 (R s4 w5)):ah 188 #[a0] w R:=
 cq ⟨[(3,⟨[(8,.int .i64),(3,.slice)],[],[]⟩)],[],[]⟩ Tryz.func188 h
def Dw.vc{a0:Sl}(h:
 (0:Int)<=((a0.n:Nat):Int)/\((a0.n:Nat):Int)<=((a0.c:Nat):Int)/\(0:Int)<=((a0.n:Nat):Int)/\(((a0.n:Nat):Int):Int)<=((a0.n:Nat):Int)/\R (Value.slice (aJ a0.a (0) ((((a0.n:Nat):Int):Int).toNat) 1) ((((a0.n:Nat):Int):Int).toNat-0) ((((a0.n:Nat):Int):Int).toNat-0)) w):ah 189 #[a0] w R:=
 cq bU Tryz.func189 h
def A9.vc{a0:Sl}(h:
 Aw w #[aj,aq] 40 λw0=>
 ∃I1:Nat->Int->World->Prop,
 (∃n2,aO [aj,aq]/\I1 n2 (0) w0)/\
 ∀(n2:Nat)(us3:Nat->Value)(x4:Int)(w5:World),I1 n2 x4 w5->
 Br (decide (x4<((a0.n:Nat):Int)))
 (eA a0.a x4 a0.n/\∃(x7 x8:Int),af w5.drew (ae a0.a ((x4:Int).toNat*2)) 0 [x7,x8]/\
 Br ((aj==x7) &&(aq==x8))
 (R x4 w5.drew)
 (∃n6,n6<n2/\aO [aj,aq]/\I1 n6 ((ao (x4+1))) w5.drew))
 (R (Value.int .i64 (-1)) w5)):ah 213 #[a0,.agg #[aj,aq]] w R:=
 cq ⟨[(2,⟨[(8,.int .i64)],[],[]⟩)],[],[]⟩ Tryz.func213 h
def Lm.vc(h:
 Br (a0==0)
 (R true w)
 (ah 202 #[a0] w (λe w0=>∃(b1:Bool),e=b1/\
 R b1 w0))):ah 144 #[a0] w R:=
 cq bU Tryz.func144 h
def N6.vc(h:
 R ((ao (8+(if 7<(if 0>a0 then 0 else a0) then 7 else (if 0>a0 then 0 else a0))))) w):ah 302 #[a0] w R:=
 cq bU Tryz.func302 h
def N7.vc(h:
 ∀w0,w0=w.alloc (.cells #[.string (ByteArray.mk #[]),.string (ByteArray.mk #[]),.string (ByteArray.mk #[]),.string (ByteArray.mk #[]),.string (ByteArray.mk #[]),.string (ByteArray.mk #[]),.string (ByteArray.mk #[]),.string (ByteArray.mk #[]),.string (ByteArray.mk #[]),.string (ByteArray.mk #[]),.string (ByteArray.mk #[]),.string (ByteArray.mk #[]),.string (ByteArray.mk #[]),.string (ByteArray.mk #[]),.string (ByteArray.mk #[]),.string (ByteArray.mk #[])] 285)->
 ∀w1,w1=w0.alloc (.cells #[.string (ByteArray.mk #[]),.string (ByteArray.mk #[]),.string (ByteArray.mk #[]),.string (ByteArray.mk #[]),.string (ByteArray.mk #[]),.string (ByteArray.mk #[]),.string (ByteArray.mk #[]),.string (ByteArray.mk #[]),.string (ByteArray.mk #[]),.string (ByteArray.mk #[]),.string (ByteArray.mk #[]),.string (ByteArray.mk #[]),.string (ByteArray.mk #[]),.string (ByteArray.mk #[]),.string (ByteArray.mk #[]),.string (ByteArray.mk #[])] 285)->
 Wt w1 ⟨w0,0,none⟩ 16/\(∀w2,w2=aL w1 (aB w0) [.string (ByteArray.mk #[97,105,114]),.string (ByteArray.mk #[115,116,111,110,101]),.string (ByteArray.mk #[100,105,114,116]),.string (ByteArray.mk #[115,97,110,100]),.string (ByteArray.mk #[108,97,100,100,101,114]),.string (ByteArray.mk #[103,108,97,115,115]),.string (ByteArray.mk #[]),.string (ByteArray.mk #[]),.string (ByteArray.mk #[]),.string (ByteArray.mk #[]),.string (ByteArray.mk #[]),.string (ByteArray.mk #[]),.string (ByteArray.mk #[]),.string (ByteArray.mk #[]),.string (ByteArray.mk #[]),.string (ByteArray.mk #[])]->
 ∃I3:Nat->Int->World->Prop,
 (∃n4,I3 n4 (0) w2)/\
 ∀(n4:Nat)(us5:Nat->Value)(x6:Int)(w7:World),I3 n4 x6 w7->
 Br (x6<8)
 (ah 267 #[x6] w7 (λe w9=>∃(t10:ByteArray),e=Value.string t10/\
 ((((ByteArray.mk #[119,97,116,101,114])).size+(t10).size:Nat):Int)<=IntKind.i64.max/\(0:Int)<=(ao (8+x6))/\((ao (8+x6)):Int)<((16:Nat):Int)/\(true=true/\Wr w9 (ae (aB w0) (((ao (8+x6)):Int).toNat*1)) 1)/\(∀bg,bg=aL w9 (ae (aB w0) (((ao (8+x6)):Int).toNat*1)) [.string ((ByteArray.mk #[119,97,116,101,114])++t10)]->
 ∃n8,n8<n4/\I3 n8 ((ao (x6+1))) bg)))
 (∃(t12 t13 t14 t15 t16 t17 t18 t19 t20 t21 t22 t23 t24 t25 t26 t27:ByteArray),af w7 (aB w0) 0 [.string t12,.string t13,.string t14,.string t15,.string t16,.string t17,.string t18,.string t19,.string t20,.string t21,.string t22,.string t23,.string t24,.string t25,.string t26,.string t27]/\
 Wt w7 ⟨w,0,none⟩ 16/\(∀iw,iw=aL w7 w [.string t12,.string t13,.string t14,.string t15,.string t16,.string t17,.string t18,.string t19,.string t20,.string t21,.string t22,.string t23,.string t24,.string t25,.string t26,.string t27]->
 ∃(t29 t30 t31 t32 t33 t34 t35 t36 t37 t38 t39 t40 t41 t42 t43 t44:ByteArray),af iw w 0 [.string t29,.string t30,.string t31,.string t32,.string t33,.string t34,.string t35,.string t36,.string t37,.string t38,.string t39,.string t40,.string t41,.string t42,.string t43,.string t44]/\
 R (Value.agg #[.string t29,.string t30,.string t31,.string t32,.string t33,.string t34,.string t35,.string t36,.string t37,.string t38,.string t39,.string t40,.string t41,.string t42,.string t43,.string t44]) iw)))):ah 218 #[] w R:=
 cq ⟨[(3,⟨[(4,.int .i64)],[],[]⟩)],[],[]⟩ Tryz.func218 h
def aaE.vc{a0:Sl}(h:
 ∃I0:Nat->Int->Int->World->Prop,
 (∃n1,I0 n1 (0) (0) w)/\
 ∀(n1:Nat)(yI:Nat->Value)(x3 x4:Int)(w5:World),I0 n1 x3 x4 w5->
 Br (decide (x3<((a0.n:Nat):Int)))
 (eA a0.a x3 a0.n/\∃(x7 x8:Int),af w5 (ae a0.a ((x3:Int).toNat*2)) 0 [x7,x8]/\
 Aw w5 #[aa,aa] 252 λw9=>
 Sw w9 w5 #[x7,x8] λbP=>
 ∃n6,n6<n1/\I0 n6 ((ao (x3+1))) ((ao (x4+x7))) bP)
 (R x4 w5)):ah 253 #[a0] w R:=
 cq ⟨[(3,⟨[(8,.int .i64),(3,.int .i64)],[],[]⟩)],[],[]⟩ Tryz.func253 h
def WI.vc{a0:Sl}(h:
 ah 253 #[a0] w (λe w0=>∃(x1:Int),e=x1/\
 ah 108 #[a3] w0 (λe w2=>∃(b3:Bool),e=b3/\
 Br (!b3)
 (ah 186 #[a0] w2 (λe w4=>∃(s5:Sl),e=s5/\
 R s5 w4))
 (Br (decide (((if x1<(if 0>a1 then 0 else a1) then x1 else (if 0>a1 then 0 else a1)):Int)>=(if x1<(if 0>a2 then 0 else a2) then x1 else (if 0>a2 then 0 else a2))))
 (ah 186 #[a0] w2 (λe w6=>∃(s7:Sl),e=s7/\
 R s7 w6))
 (ah 319 #[a0,aa,.int .i64 (if x1<(if 0>a1 then 0 else a1) then x1 else (if 0>a1 then 0 else a1))] w2 (λe w8=>∃(s9:Sl),e=s9/\
 ah 320 #[(ao ((if x1<(if 0>a2 then 0 else a2) then x1 else (if 0>a2 then 0 else a2))-(if x1<(if 0>a1 then 0 else a1) then x1 else (if 0>a1 then 0 else a1)))),a3] w8 (λe bP=>∃(Ct:Sl),e=Ct/\
 ah 319 #[a0,.int .i64 (if x1<(if 0>a2 then 0 else a2) then x1 else (if 0>a2 then 0 else a2)),x1] bP (λe dj=>∃(yC:Sl),e=yC/\
 Aw dj #[s9,Ct,yC] 173 λbO=>
 ah 318 #[.slice (aB dj) 3 3] bO (λe dB=>∃(ZL:Sl),e=ZL/\
 R ZL dB))))))))):ah 309 #[a0,a1,a2,a3] w R:=
 cq bU Tryz.func309 h
def R7.vc{a0:Sl}(h:
 ∃I0:Nat->Int->Int->World->Prop,
 (∃n1,I0 n1 (0) (1048576) w)/\
 ∀(n1:Nat)(yI:Nat->Value)(x3 x4:Int)(w5:World),I0 n1 x3 x4 w5->
 Br (decide (x3<((a0.n:Nat):Int)))
 (eA a0.a x3 a0.n/\∃(x7 x8:Int),af w5 (ae a0.a ((x3:Int).toNat*2)) 0 [x7,x8]/\
 Aw w5 #[aa,aa] 252 λw9=>
 Sw w9 w5 #[x7,x8] λbP=>
 Br (x7<1)
 (R (Value.tuple #[.slice none 0 0,(1:Int)]) bP)
 (Br (decide (((ao (x4-x7)):Int)<0))
 (R (Value.tuple #[.slice none 0 0,(1:Int)]) bP)
 (∃n6,n6<n1/\I0 n6 ((ao (x3+1))) ((ao (x4-x7))) bP)))
 (ah 253 #[a0] w5 (λe bg=>∃(bV:Int),e=bV/\
 ah 185 #[a0,bV] bg (λe bK=>∃(b14:Bool),e=b14/\
 Br (!b14)
 (R (Value.tuple #[.slice none 0 0,(1:Int)]) bK)
 (∃I15:Nat->Int->Sl->World->Prop,
 (∃IE,I15 IE (0) ⟨none,0,0⟩ bK)/\
 ∀(IE:Nat)(as1:Nat->Value)(cA:Int)(YU:Sl)(eW:World),I15 IE cA YU eW->
 Br (decide (cA<((a0.n:Nat):Int)))
 (eA a0.a cA a0.n/\∃(ef dG:Int),af eW (ae a0.a ((cA:Int).toNat*2)) 0 [ef,dG]/\
 Aw eW #[aa,aa] 252 λgl=>
 Sw gl eW #[ef,dG] λcW=>
 Aw cW.drew #[.int .u8 (fi dG)] 5 λfx=>
 ba 1 1 fx YU 1 [.int .u8 (fi dG)]/\∀(Vy:Sl)(iw:World),aY 5 1 fx YU 1 [.int .u8 (fi dG)] Vy iw->iw.heap[eW.heap.size]? =fx.heap[eW.heap.size]?/\iw.heap[cW.drew.heap.size]? =fx.heap[cW.drew.heap.size]?/\
 af iw eW 0 [ef]/\af iw (dC eW 1) 0 [dG]/\ah 254 #[ef] iw (Rs λug dW=>dW.heap[eW.heap.size]? =iw.heap[eW.heap.size]?/\dW.heap[cW.drew.heap.size]? =iw.heap[cW.drew.heap.size]?/\
 af dW (dC eW 1) 0 [dG]/\∃l31:LV,Rd dW ug.a l31/\ba 1 1 dW Vy ug.n l31/\∀(wA:Sl)(eT:World),aY 5 1 dW Vy ug.n l31 wA eT->eT.heap[eW.heap.size]? =dW.heap[eW.heap.size]?/\eT.heap[cW.drew.heap.size]? =dW.heap[cW.drew.heap.size]?/\
 af eT (dC eW 1) 0 [dG]/\∃n21,n21<IE/\I15 n21 ((ao (cA+1))) wA eT))
 (R (Value.tuple #[YU,aa]) eW)))))):ah 190 #[a0] w R:=
 cq ⟨[(13,⟨[(35,.int .i64),(7,.slice)],[],[]⟩),(3,⟨[(12,.int .i64),(4,.int .i64)],[],[]⟩)],[],[]⟩ Tryz.func190 h
def Ln.vc(h:
 Br (a0<0)
 (aP (Mt a1) (R (Value.int .i64 (Int.tmod (ao (0-(ao (a0+1)))) a1)) w))
 (aP (Mt a1) (R (Value.int .i64 (Int.tmod a0 a1)) w))):ah 10 #[a0,a1] w R:=
 cq bU Tryz.func10 h
def Ig.vc{a0:Addr}(h:
 ∃(m0:Option Nat),ld w (ae (some a0) 3)=some (.map m0)/\
 ah 272 #[.map m0] w (λe w1=>∃(m2:Option Nat),e=Value.map m2/\
 ∃(s3:Sl),ld w1 (ae (some a0) 4)=some (.slice s3.a s3.n s3.c)/\
 ∃I4:Nat->Int->World->Prop,
 (∃n5,I4 n5 (0) w1)/\
 ∀(n5:Nat)(us6:Nat->Value)(x7:Int)(w8:World),I4 n5 x7 w8->
 Br (decide (x7<((s3.n:Nat):Int)))
 (eA s3.a x7 s3.n/\∃(bj:Int)(Ct:Sl),af w8 (ae s3.a ((x7:Int).toNat*2)) 0 [bj,Ct]/\
 Aw w8 #[aa,.slice none 0 0] 279 λdj=>
 Sw dj w8 #[bj,Ct] λbK=>
 ∃(G14:Value->Prop)(kvs15:List (Value × Value)),iW Tryz.prog 3 G14/\(m2:Option Nat).isSome=true/\cD G14 bK m2 kvs15/\G14 bj/\∀cF:World,Rec ((m2:Option Nat).getD 0) bK cF->cD G14 cF m2 (xQ kvs15 bj Ct)->
 ∃n9,n9<n5/\I4 n9 ((ao (x7+1))) cF)
 (R (Value.map m2) w8))):ah 228 #[a0] w R:=
 cq ⟨[(3,⟨[(16,.int .i64)],[],[]⟩)],[],[]⟩ Tryz.func228 h
def zc.vc{a0:Sl}(h:
 Br (a0.a).isNone
 (R (Value.slice none 0 0) w)
 (Aw w #[] 5 λw0=>
 ∃l1:LV,Rd w0 a0.a l1/\ba 1 1 w0 ⟨(aB w),0,0⟩ a0.n l1/\∀(s2:Sl)(w3:World),aY 5 1 w0 ⟨(aB w),0,0⟩ a0.n l1 s2 w3->Kp w w0 w3/\
 R s2 w3)):ah 230 #[a0] w R:=
 cq bU Tryz.func230 h
def Z9.vc{a0:Sl}(h:
 Br (decide ((((a0.n:Nat):Int):Int)<2))
 (R (Value.tuple #[.slice none 0 0,(3:Int)]) w)
 (ah 281 #[a0] w (λe w0=>∃(b1:Bool),e=b1/\
 Br (!b1)
 (R (Value.tuple #[.slice none 0 0,(4:Int)]) w0)
 ((0:Int)<=(ao (((a0.n:Nat):Int)-2))/\(ao (((a0.n:Nat):Int)-2))<=((a0.c:Nat):Int)/\ah 230 #[.slice (aJ a0.a (0) (a0.c) 1) (((ao (((a0.n:Nat):Int)-2)):Int).toNat-0) (a0.c-0)] w0 (λe w2=>∃(s3:Sl),e=s3/\
 R (Value.tuple #[s3,aa]) w2))))):ah 246 #[a0] w R:=
 cq bU Tryz.func246 h
def N8.vc{a0:Value}{c0:Addr}{c1:Addr}(h:
 Aw w #[.int .i64 0,.int .i64 0,.int .i64 0,.int .i64 0,.int .i64 0,.int .i64 0,.int .i64 0,.int .i64 0,.int .i64 0,.int .i64 0,.int .i64 0,.int .i64 0,.int .i64 0,.int .i64 0,.int .i64 0,.int .i64 0,.int .i64 0,.int .i64 0,.int .i64 0,.int .i64 0,.int .i64 0,.int .i64 0,.int .i64 0,.int .i64 0,.int .i64 0,.int .i64 0,.int .i64 0,.int .i64 0,.int .i64 0,.int .i64 0,.int .i64 0,.int .i64 0,.int .i64 0,.int .i64 0,.int .i64 0,.int .i64 0,.int .i64 0,.int .i64 0,.int .i64 0,.int .i64 0,.int .i64 0,.int .i64 0,.int .i64 0,.int .i64 0,.int .i64 0,.int .i64 0,.int .i64 0,.int .i64 0,.int .i64 0,.int .i64 0,.int .i64 0,.int .i64 0,.int .i64 0,.int .i64 0,.int .i64 0,.int .i64 0,.int .i64 0,.int .i64 0,.int .i64 0,.int .i64 0,.int .i64 0,.int .i64 0,.int .i64 0,.int .i64 0,.int .i64 0,.int .i64 0,.int .i64 0,.int .i64 0,.int .i64 0,.int .i64 0,.int .i64 0,.int .i64 0,.int .i64 0,.int .i64 0,.int .i64 0,.int .i64 0,.int .i64 0,.int .i64 0,.int .i64 0,.int .i64 0,.int .i64 0,.int .i64 0,.int .i64 0,.int .i64 0,.int .i64 0,.int .i64 0,.int .i64 0,.int .i64 0,.int .i64 0,.int .i64 0,.int .i64 0,.int .i64 0,.int .i64 0,.int .i64 0,.int .i64 0,.int .i64 0,.int .i64 0,.int .i64 0,.int .i64 0,.int .i64 0,.int .i64 0,.int .i64 0,.int .i64 0,.int .i64 0,.int .i64 0,.int .i64 0,.int .i64 0,.int .i64 0,.int .i64 0,.int .i64 0,.int .i64 0,.int .i64 0,.int .i64 0,.int .i64 0,.int .i64 0,.int .i64 0,.int .i64 0,.int .i64 0,.int .i64 0,.int .i64 0,.int .i64 0,.int .i64 0,.int .i64 0,.int .i64 0,.int .i64 0,.int .i64 0,.int .i64 0,.int .i64 0,.int .i64 0,.int .i64 0,.int .i64 0,.int .i64 0,.int .i64 0,.int .i64 0,.int .i64 0,.int .i64 0,.int .i64 0,.int .i64 0,.int .i64 0,.int .i64 0,.int .i64 0,.int .i64 0,.int .i64 0,.int .i64 0,.int .i64 0,.int .i64 0,.int .i64 0,.int .i64 0,.int .i64 0,.int .i64 0,.int .i64 0,.int .i64 0,.int .i64 0,.int .i64 0,.int .i64 0,.int .i64 0,.int .i64 0,.int .i64 0,.int .i64 0,.int .i64 0,.int .i64 0,.int .i64 0,.int .i64 0,.int .i64 0,.int .i64 0,.int .i64 0,.int .i64 0,.int .i64 0,.int .i64 0,.int .i64 0,.int .i64 0,.int .i64 0,.int .i64 0,.int .i64 0,.int .i64 0,.int .i64 0,.int .i64 0,.int .i64 0,.int .i64 0,.int .i64 0,.int .i64 0,.int .i64 0,.int .i64 0,.int .i64 0,.int .i64 0,.int .i64 0,.int .i64 0,.int .i64 0,.int .i64 0,.int .i64 0,.int .i64 0,.int .i64 0,.int .i64 0,.int .i64 0,.int .i64 0,.int .i64 0,.int .i64 0,.int .i64 0,.int .i64 0,.int .i64 0,.int .i64 0,.int .i64 0,.int .i64 0,.int .i64 0,.int .i64 0,.int .i64 0,.int .i64 0,.int .i64 0,.int .i64 0,.int .i64 0,.int .i64 0,.int .i64 0,.int .i64 0,.int .i64 0,.int .i64 0,.int .i64 0,.int .i64 0,.int .i64 0,.int .i64 0,.int .i64 0,.int .i64 0,.int .i64 0,.int .i64 0,.int .i64 0,.int .i64 0,.int .i64 0,.int .i64 0,.int .i64 0,.int .i64 0,.int .i64 0,.int .i64 0,.int .i64 0,.int .i64 0,.int .i64 0,.int .i64 0,.int .i64 0,.int .i64 0,.int .i64 0,.int .i64 0,.int .i64 0,.int .i64 0,.int .i64 0,.int .i64 0,.int .i64 0,.int .i64 0,.int .i64 0,.int .i64 0,.int .i64 0,.int .i64 0,.int .i64 0,.int .i64 0,.int .i64 0,.int .i64 0,.int .i64 0,.int .i64 0,.int .i64 0] 311 λw0=>
 ∃I1:Nat->Int->World->Prop,
 (∃n2,I1 n2 (0) w0)/\
 ∀(n2:Nat)(us3:Nat->Value)(x4:Int)(w5:World),I1 n2 x4 w5->
 Br (x4<256)
 (∃(x7 x8:Int),af w5 (some c0) 0 [x7,x8]/\
 ah 249 #[.agg #[x7,x8],x4] w5 (λe w9=>∃(bj bu bV:Int)(Hn:Bool),e=Value.tuple #[.agg #[bj,bu,bV],Hn]/\
 Aw w9 #[aa,aa,aa] 41 λbO=>
 Sw bO w9 #[bj,bu,bV] λdB=>
 ∃(cH:Int),ld dB (some c1)=some (.int .i64 cH)/\
 ah 250 #[cH,bj,bV] dB (Ri λcA cL=>Kp w9 dB cL/\
 (0:Int)<=x4/\x4<((256:Nat):Int)/\(true=true/\Wr cL (ae (aB w) ((x4:Int).toNat*1)) 1)/\bz (ae (aB w) ((x4:Int).toNat*1))≠some w9.heap.size/\(∀gg,gg=aL cL (ae (aB w) ((x4:Int).toNat*1)) [cA]->
 ∃n6,n6<n2/\I1 n6 ((ao (x4+1))) gg))))
 (∃I20:Nat->Int->World->Prop,
 (∃n21,I20 n21 (0) w5)/\
 ∀(n21:Nat)(aAY:Nat->Value)(dG:Int)(gl:World),I20 n21 dG gl->
 Br (dG<8192)
 ((0:Int)<=(Int.tmod dG 256)/\((Int.tmod dG 256):Int)<((256:Nat):Int)/\∃(fg:Int),ld gl (ae (aB w) (((Int.tmod dG 256):Int).toNat*1))=some (.int .i64 fg)/\
 ah 251 #[(ao (Int.tdiv dG 256)),fg] gl (λe dX=>∃(gm:Int),e=gm/\
 cC Tryz.prog a0 [gm] dX (λe dW=>∃(Y2:Bool),e=Y2/\
 Br (!Y2)
 (R po dW)
 (∃n25,n25<n21/\I20 n25 ((ao (dG+1))) dW))))
 (R po gl))):ah 248 #[a0,c0,c1] w R:=
 cq ⟨[(8,⟨[(27,.int .i64)],[],[]⟩),(2,⟨[(9,.int .i64)],[],[]⟩)],[],[]⟩ Tryz.func248 h
def V9.vc(h:
 Aw w #[aA,ar] 40 λw0=>
 Aw w0 #[aa,aa,aa] 41 λw1=>
 Br (a1<0)
 (Sw w1 w0 #[aa,aa,aa] λw2=>
 R (Value.tuple #[.agg #[aa,aa,aa],false]) w2)
 (Br (a1>=8192)
 (Sw w1 w0 #[aa,aa,aa] λw3=>
 R (Value.tuple #[.agg #[aa,aa,aa],false]) w3)
 (Sw w1 w0 #[(ao ((ao (aA*16))+(Int.tmod a1 16))),(ao (Int.tdiv a1 256)),(ao ((ao (ar*16))+(Int.tmod (ao (Int.tdiv a1 16)) 16)))] λw4=>
 R (Value.tuple #[.agg #[(ao ((ao (aA*16))+(Int.tmod a1 16))),(ao (Int.tdiv a1 256)),(ao ((ao (ar*16))+(Int.tmod (ao (Int.tdiv a1 16)) 16)))],true]) w4))):ah 249 #[.agg #[aA,ar],a1] w R:=
 cq bU Tryz.func249 h
def RR.vc(h:
 Aw w #[a0] 3 λw0=>
 ah 192 #[a1,(8:Int)] w0 (Ri λx2 w1=>Kp w w0 w1/\
 ah 192 #[a2,(8:Int)] w1 (Ri λx4 w3=>Kp w w1 w3/\
 ah 282 #[a1,(8:Int)] w3 (Ri λx6 w5=>Kp w w3 w5/\
 ah 282 #[a2,(8:Int)] w5 (Ri λx8 w7=>Kp w w5 w7/\
 ah 283 #[x2,x4,(ao ((ao (8-x6))*(ao (8-x8)))),w] w7 (λe w9=>∃(bj:Int),e=bj/\
 ah 283 #[(ao (x2+1)),x4,(ao (x6*(ao (8-x8)))),w] w9 (λe bg=>∃(bV:Int),e=bV/\
 ah 283 #[x2,(ao (x4+1)),(ao ((ao (8-x6))*x8)),w] bg (λe bK=>∃(bI:Int),e=bI/\
 ah 283 #[(ao (x2+1)),(ao (x4+1)),(ao (x6*x8)),w] bK (λe dB=>∃(cH:Int),e=cH/\
 R ((ao (6+(ao (Int.tdiv (ao ((ao ((ao (bj+bV))+bI))+cH)) 64))))) dB))))))))):ah 250 #[a0,a1,a2] w R:=
 cq bU Tryz.func250 h
def aiW.vc(h:
 Br (a0<0)
 (R (0:Int) w)
 (Br (a0>=32)
 (R (0:Int) w)
 (Br (a0==0)
 (R (1:Int) w)
 (Br (decide (a0<(ao (a1-3))))
 (R (1:Int) w)
 (Br (decide (a0<(ao (a1-1))))
 (R (2:Int) w)
 (Br (a0==(ao (a1-1)))
 (Br (a1>9)
 (R (2:Int) w)
 (Br (a0==(ao (a1-1)))
 (R (3:Int) w)
 (Br (a0<9)
 (R (8:Int) w)
 (R (0:Int) w))))
 (Br (a0==(ao (a1-1)))
 (R (3:Int) w)
 (Br (a0<9)
 (R (8:Int) w)
 (R (0:Int) w))))))))):ah 251 #[a0,a1] w R:=
 cq bU Tryz.func251 h
def WJ.vc{a0:Sl}(h:
 Aw w #[aj,aq] 252 λw0=>
 Br (aj<1)
 (R a0 w0)
 (Br (decide (((ao (((a0.n:Nat):Int)-1)):Int)>=0))
 (eA a0.a (ao (((a0.n:Nat):Int)-1)) a0.n/\aP (dq (ae a0.a (((ao (((a0.n:Nat):Int)-1)):Int).toNat*2))) (∃(x1:Int),ld w0.drew (ae (ae a0.a (((ao (((a0.n:Nat):Int)-1)):Int).toNat*2)) 1)=some (.int .i64 x1)/\
 Br (x1==aq)
 (eA a0.a (ao (((a0.n:Nat):Int)-1)) a0.n/\aP (dq (ae a0.a (((ao (((a0.n:Nat):Int)-1)):Int).toNat*2))) (∃(x2:Int),ld w0.drew.drew (ae (ae a0.a (((ao (((a0.n:Nat):Int)-1)):Int).toNat*2)) 0)=some (.int .i64 x2)/\
 eA a0.a (ao (((a0.n:Nat):Int)-1)) a0.n/\aP (dq (ae a0.a (((ao (((a0.n:Nat):Int)-1)):Int).toNat*2))) ((((ae (ae a0.a (((ao (((a0.n:Nat):Int)-1)):Int).toNat*2)) 0)).isSome=true/\Wr w0.drew.drew (ae (ae a0.a (((ao (((a0.n:Nat):Int)-1)):Int).toNat*2)) 0) 1)/\bz (ae (ae a0.a (((ao (((a0.n:Nat):Int)-1)):Int).toNat*2)) 0)≠some w.heap.size/\(∀w3,w3=aL w0.drew.drew (ae (ae a0.a (((ao (((a0.n:Nat):Int)-1)):Int).toNat*2)) 0) [(ao (x2+aj))]->
 R a0 w3))))
 (Aw w0.drew #[aj,aq] 252 λw4=>
 ba 16 2 w4 a0 1 [aj,aq]/\∀(s5:Sl)(w6:World),aY 252 2 w4 a0 1 [aj,aq] s5 w6->Kp w w4 w6/\w6.heap[w0.drew.heap.size]? =w4.heap[w0.drew.heap.size]?/\
 R s5 w6)))
 (Aw w0.drew #[aj,aq] 252 λw7=>
 ba 16 2 w7 a0 1 [aj,aq]/\∀(s8:Sl)(w9:World),aY 252 2 w7 a0 1 [aj,aq] s8 w9->Kp w w7 w9/\w9.heap[w0.drew.heap.size]? =w7.heap[w0.drew.heap.size]?/\
 R s8 w9))):ah 252 #[a0,.agg #[aj,aq]] w R:=
 cq bU Tryz.func252 h
def Lp.vc(h:
 ah 294 #[a0] w (λe w0=>∃(t1:ByteArray),e=Value.string t1/\
 R (Value.string t1) w0)):ah 267 #[a0] w R:=
 cq bU Tryz.func267 h
def WK.vc{a0:Sl}(h:
 ∃I0:Nat->Int->Sl->World->Prop,
 (∃n1,I0 n1 (0) ⟨none,0,0⟩ w)/\
 ∀(n1:Nat)(yI:Nat->Value)(x3:Int)(s4:Sl)(w5:World),I0 n1 x3 s4 w5->
 Br (decide (x3<((a0.n:Nat):Int)))
 (eA a0.a x3 a0.n/\∃(s7:Sl),ld w5 (ae a0.a ((x3:Int).toNat*1))=some (.slice s7.a s7.n s7.c)/\
 ∃I8:Nat->Int->Sl->World->Prop,
 (∃n9,I8 n9 (0) s4 w5)/\
 ∀(n9:Nat)(Zc:Nat->Value)(bu:Int)(kg:Sl)(bK:World),I8 n9 bu kg bK->
 Br (decide (bu<((s7.n:Nat):Int)))
 (eA s7.a bu s7.n/\∃(cw cH:Int),af bK (ae s7.a ((bu:Int).toNat*2)) 0 [cw,cH]/\
 Aw bK #[aa,aa] 252 λcL=>
 Sw cL bK #[cw,cH] λdH=>
 ah 252 #[kg,.agg #[cw,cH]] dH (Rs λvM gg=>Kp bK dH gg/\
 ∃HT,HT<n9/\I8 HT ((ao (bu+1))) vM gg))
 (∃n6,n6<n1/\I0 n6 ((ao (x3+1))) kg bK))
 (R s4 w5)):ah 318 #[a0] w R:=
 cq ⟨[(6,⟨[(16,.int .i64),(3,.slice)],[],[]⟩),(3,⟨[(10,.int .i64),(3,.slice)],[],[]⟩)],[],[]⟩ Tryz.func318 h
def aaF.vc{a0:Sl}(h:
 ∃I0:Nat->Int->Int->Sl->World->Prop,
 (∃n1,I0 n1 (0) (0) ⟨none,0,0⟩ w)/\
 ∀(n1:Nat)(yI:Nat->Value)(x3 x4:Int)(s5:Sl)(w6:World),I0 n1 x3 x4 s5 w6->
 Br (decide (x3<((a0.n:Nat):Int)))
 (eA a0.a x3 a0.n/\∃(x8 x9:Int),af w6 (ae a0.a ((x3:Int).toNat*2)) 0 [x8,x9]/\
 Aw w6 #[aa,aa] 252 λbP=>
 Sw bP w6 #[x8,x9] λbg=>
 Br (decide (((if (ao (x4+x8))<a2 then (ao (x4+x8)) else a2):Int)>(if x4>a1 then x4 else a1)))
 (ah 252 #[s5,.agg #[(ao ((if (ao (x4+x8))<a2 then (ao (x4+x8)) else a2)-(if x4>a1 then x4 else a1))),x9]] bg.drew (Rs λyC dj=>Kp w6 bg.drew dj/\
 ∃n7,n7<n1/\I0 n7 ((ao (x3+1))) ((ao (x4+x8))) yC dj))
 (∃n7,n7<n1/\I0 n7 ((ao (x3+1))) ((ao (x4+x8))) s5 bg.drew))
 (R s5 w6)):ah 319 #[a0,a1,a2] w R:=
 cq ⟨[(4,⟨[(15,.int .i64),(8,.int .i64),(7,.slice)],[],[]⟩)],[],[]⟩ Tryz.func319 h
def WL.vc(h:
 ah 252 #[.slice none 0 0,.agg #[a0,a1]] w (λe w0=>∃(s1:Sl),e=s1/\
 R s1 w0)):ah 320 #[a0,a1] w R:=
 cq bU Tryz.func320 h
def N9.vc(h:
 Br (a0<0)
 (R (Value.slice none 0 0) w)
 (Br (a0>1048576)
 (R (Value.slice none 0 0) w)
 (∃I0:Nat->Int->Sl->World->Prop,
 (∃n1,I0 n1 a0 ⟨none,0,0⟩ w)/\
 ∀(n1:Nat)(yI:Nat->Value)(x3:Int)(s4:Sl)(w5:World),I0 n1 x3 s4 w5->
 Br (x3>=128)
 (Aw w5 #[.int .u8 (MM .u8 (fi x3) 128)] 5 λw7=>
 ba 1 1 w7 s4 1 [.int .u8 (MM .u8 (fi x3) 128)]/\∀(s8:Sl)(w9:World),aY 5 1 w7 s4 1 [.int .u8 (MM .u8 (fi x3) 128)] s8 w9->Kp w5 w7 w9/\
 ∃n6,n6<n1/\I0 n6 (((x3:Int).fdiv (2 ^(min (7:Int).toNat 64)))) s8 w9)
 (Aw w5 #[.int .u8 (fi x3)] 5 λbP=>
 ba 1 1 bP s4 1 [.int .u8 (fi x3)]/\∀(Ct:Sl)(dj:World),aY 5 1 bP s4 1 [.int .u8 (fi x3)] Ct dj->Kp w5 bP dj/\
 R Ct dj)))):ah 254 #[a0] w R:=
 cq ⟨[(4,⟨[(0,.int .i64),(3,.slice)],[],[]⟩)],[],[]⟩ Tryz.func254 h
def DH.vc{a0:Option Nat}(h:
 Br (a0).isNone
 (R (Value.map none) w)
 (aaG Tryz.prog 298 [.iface 274 (.map a0)] w (λe w0=>∃(v1:Value),e=v1/\
 ∃(m2:Option Nat),(v1:Value)=.iface 274 (.map m2)/\
 R (Value.map m2) w0))):ah 272 #[.map a0] w R:=
 cq bU Tryz.func272 h
def Lf.vc{c0:Addr}(h:
 ∃(x0:Int),ld w (some c0)=some (.int .i64 x0)/\
 ah 284 #[x0,a0,a1] w (λe w1=>∃(x2:Int),e=Value.int .u64 x2/\
 R ((ao ((ao (Int.tmod x2 9))*a2))) w1)):ah 283 #[a0,a1,a2,c0] w R:=
 cq bU Tryz.func283 h
def aan.vc(h:
 R (Value.int .u64 (lk .u64 (dc ((lk .u64 (dc ((dc ((dc ((dc a0)*11400714819323198485))+(dc ((dc a1)*14029467366897019727))))+(dc ((dc a2)*1609587929392839161)))) (((dc ((dc ((dc ((dc a0)*11400714819323198485))+(dc ((dc a1)*14029467366897019727))))+(dc ((dc a2)*1609587929392839161)))):Int).fdiv (2 ^(min (29:Int).toNat 64))))*13787848793156543929)) (((dc ((lk .u64 (dc ((dc ((dc ((dc a0)*11400714819323198485))+(dc ((dc a1)*14029467366897019727))))+(dc ((dc a2)*1609587929392839161)))) (((dc ((dc ((dc ((dc a0)*11400714819323198485))+(dc ((dc a1)*14029467366897019727))))+(dc ((dc a2)*1609587929392839161)))):Int).fdiv (2 ^(min (29:Int).toNat 64))))*13787848793156543929)):Int).fdiv (2 ^(min (32:Int).toNat 64))))) w):ah 284 #[a0,a1,a2] w R:=
 cq bU Tryz.func284 h
def tZ.vc(h:
 ah 308 #[a0,(10:Int)] w (λe w0=>∃(t1:ByteArray),e=Value.string t1/\
 R (Value.string t1) w0)):ah 294 #[a0] w R:=
 cq bU Tryz.func294 h
def sJ.vc(h:
 Br (a0<10)
 ((0:Int)<=(ao (a0+1))/\(ao (a0+1))<=((((ByteArray.mk #[48,49,50,51,52,53,54,55,56,57,97,98,99,100,101,102,103,104,105,106,107,108,109,110,111,112,113,114,115,116,117,118,119,120,121,122])).size:Nat):Int)/\(0:Int)<=a0/\a0<=(ao (a0+1))/\R (Value.string (((ByteArray.mk #[48,49,50,51,52,53,54,55,56,57,97,98,99,100,101,102,103,104,105,106,107,108,109,110,111,112,113,114,115,116,117,118,119,120,121,122])).extract ((a0:Int).toNat) (((ao (a0+1)):Int).toNat))) w)
 ((0:Int)<=(ao ((ao (a0*2))+2))/\(ao ((ao (a0*2))+2))<=((((ByteArray.mk #[48,48,48,49,48,50,48,51,48,52,48,53,48,54,48,55,48,56,48,57,49,48,49,49,49,50,49,51,49,52,49,53,49,54,49,55,49,56,49,57,50,48,50,49,50,50,50,51,50,52,50,53,50,54,50,55,50,56,50,57,51,48,51,49,51,50,51,51,51,52,51,53,51,54,51,55,51,56,51,57,52,48,52,49,52,50,52,51,52,52,52,53,52,54,52,55,52,56,52,57,53,48,53,49,53,50,53,51,53,52,53,53,53,54,53,55,53,56,53,57,54,48,54,49,54,50,54,51,54,52,54,53,54,54,54,55,54,56,54,57,55,48,55,49,55,50,55,51,55,52,55,53,55,54,55,55,55,56,55,57,56,48,56,49,56,50,56,51,56,52,56,53,56,54,56,55,56,56,56,57,57,48,57,49,57,50,57,51,57,52,57,53,57,54,57,55,57,56,57,57])).size:Nat):Int)/\(0:Int)<=(ao (a0*2))/\((ao (a0*2)):Int)<=(ao ((ao (a0*2))+2))/\R (Value.string (((ByteArray.mk #[48,48,48,49,48,50,48,51,48,52,48,53,48,54,48,55,48,56,48,57,49,48,49,49,49,50,49,51,49,52,49,53,49,54,49,55,49,56,49,57,50,48,50,49,50,50,50,51,50,52,50,53,50,54,50,55,50,56,50,57,51,48,51,49,51,50,51,51,51,52,51,53,51,54,51,55,51,56,51,57,52,48,52,49,52,50,52,51,52,52,52,53,52,54,52,55,52,56,52,57,53,48,53,49,53,50,53,51,53,52,53,53,53,54,53,55,53,56,53,57,54,48,54,49,54,50,54,51,54,52,54,53,54,54,54,55,54,56,54,57,55,48,55,49,55,50,55,51,55,52,55,53,55,54,55,55,55,56,55,57,56,48,56,49,56,50,56,51,56,52,56,53,56,54,56,55,56,56,56,57,57,48,57,49,57,50,57,51,57,52,57,53,57,54,57,55,57,56,57,57])).extract (((ao (a0*2)):Int).toNat) (((ao ((ao (a0*2))+2)):Int).toNat))) w)):ah 314 #[a0] w R:=
 cq bU Tryz.func314 h
def Ds.vc{a0:Addr}(h:
 Aw w #[aj,aq,aw] 41 λw0=>
 ∃(p1:Option Addr),ld w0.drew (ae (some a0) 0)=some (.pointer p1)/\
 ah 83 #[p1,.agg #[aj,aq,aw]] w0.drew (Ri λx3 w2=>Kp w w0.drew w2/\
 ∃(p4:Option Addr),ld w2.drew (ae (some a0) 0)=some (.pointer p4)/\
 ah 221 #[p4,.agg #[aj,aq,aw],a2] w2.drew (Ri λx6 w5=>Kp w w2.drew w5/\
 Br (x6==0)
 (Br (x3 !=a2)
 (∃(s7:Sl),ld w5.drew (ae (some a0) 1)=some (.slice s7.a s7.n s7.c)/\
 Aw w5.drew #[aj,aq,aw,a2] 289 λw8=>
 ba 32 4 w8 s7 1 [aj,aq,aw,a2]/\∀(s9:Sl)(bP:World),aY 289 4 w8 s7 1 [aj,aq,aw,a2] s9 bP->Kp w w8 bP/\bP.heap[w5.drew.heap.size]? =w8.heap[w5.drew.heap.size]?/\
 (true=true/\Wr bP (ae (some a0) 1) 1)/\bz (ae (some a0) 1)≠some w.heap.size/\bz (ae (some a0) 1)≠some w5.drew.heap.size/\(∀bg,bg=aL bP (ae (some a0) 1) [s9]->
 R x6 bg))
 (R x6 w5))
 (R x6 w5)))):ah 161 #[a0,.agg #[aj,aq,aw],a2] w R:=
 cq bU Tryz.func161 h
def VU.vc(h:
 ah 96 #[a0,a1,a2] w (λe w0=>∃(p1:Option Addr),e=p1/\
 Aw w0 #[p1,.slice none 0 0] 133 λw2=>
 R (Value.pointer (aB w0)) w2)):ah 39 #[a0,a1,a2] w R:=
 cq bU Tryz.func39 h
def yW.vc{a0:Addr}(h:
 ∃(p0:Option Addr),ld w (ae (some a0) 0)=some (.pointer p0)/\
 R p0 w):ah 19 #[a0] w R:=
 cq bU Tryz.func19 h
def BA.vc{a0:Addr}(h:
 Aw w #[aj,aq] 40 λw0=>
 ah 72 #[.agg #[aj,aq]] w0 (λe w1=>∃(x2:Int)(b3:Bool),e=Value.tuple #[x2,b3]/\Kp w w0 w1/\
 Br (!b3)
 (R (5:Int) w1)
 (ah 73 #[a0,.agg #[aj,aq]] w1 (Ri λx5 w4=>Kp w w1 w4/\
 Br (x5>=0)
 (ah 74 #[a0,x5] w4 (λe w6=>∃(p7:Option Addr),e=p7/\Kp w w4 w6/\
 R (0:Int) w6))
 (ah 75 #[a0] w4 (Ri λx9 w8=>Kp w w4 w8/\
 Br (x9 !=0)
 (R x9 w8)
 (∃(tf:Option Addr),ld w8 (ae (some a0) 0)=some (.pointer tf)/\
 ah 76 #[tf,x2] w8 (λe bg=>∃(kg:Sl)(cn:Int)(b14:Bool),e=Value.tuple #[kg,cn,b14]/\Kp w w8 bg/\
 ah 77 #[.agg #[aj,aq],kg] bg (λe dB=>∃(p16:Option Addr)(dh:Int),e=Value.tuple #[p16,dh]/\Kp w bg dB/\
 Br (dh !=0)
 (∃(cA:Int),ld dB.drew (ae (some a0) 1)=some (.int .i64 cA)/\
 ah 78 #[cA,.agg #[aj,aq]] dB.drew (λe gg=>∃(p20:Option Addr),e=p20/\Kp w dB.drew gg/\
 ∃(Uf:Sl),ld gg (ae (some a0) 3)=some (.slice Uf.a Uf.n Uf.c)/\
 Aw gg #[p20,false,aa] 150 λdP=>
 Aw dP #[.pointer (aB gg)] 137 λeP=>
 ba 8 1 eP Uf 1 [.pointer (aB gg)]/\∀(wE:Sl)(cW:World),aY 137 1 eP Uf 1 [.pointer (aB gg)] wE cW->K2 w dP eP cW (
 (true=true/\Wr cW (ae (some a0) 3) 1)/\bz (ae (some a0) 3)≠some w.heap.size/\bz (ae (some a0) 3)≠some dP.heap.size/\(∀fx,fx=aL cW (ae (some a0) 3) [wE]->
 R (0:Int) fx))))
 (∃(Vy:Sl),ld dB (ae (some a0) 3)=some (.slice Vy.a Vy.n Vy.c)/\
 Aw dB #[p16,false,aa] 150 λiw=>
 Aw iw #[.pointer (aB dB)] 137 λdW=>
 ba 8 1 dW Vy 1 [.pointer (aB dB)]/\∀(ug:Sl)(gf:World),aY 137 1 dW Vy 1 [.pointer (aB dB)] ug gf->K2 w iw dW gf (
 (true=true/\Wr gf (ae (some a0) 3) 1)/\bz (ae (some a0) 3)≠some w.heap.size/\bz (ae (some a0) 3)≠some iw.heap.size/\(∀ni,ni=aL gf (ae (some a0) 3) [ug]->
 R (0:Int) ni)))))))))))):ah 20 #[a0,.agg #[aj,aq]] w R:=
 cq bU Tryz.func20 h
def FW.vc{a0:Addr}(h:
 Aw w #[aj,aq,aw] 41 λw0=>
 ah 139 #[.agg #[aj,aq,aw]] w0 (Ra2 λx2 x3 w1=>Kp w w0 w1/\
 ah 73 #[a0,.agg #[x2,x3]] w1 (Ri λx5 w4=>Kp w w1 w4/\
 Br (x5<0)
 (R (Value.int .i64 (-1)) w4)
 (Br (aq<0)
 (R (1:Int) w4)
 (∃(s6:Sl),ld w4.drew (ae (some a0) 3)=some (.slice s6.a s6.n s6.c)/\
 eA s6.a x5 s6.n/\∃(p7:Option Addr),ld w4.drew (ae s6.a ((x5:Int).toNat*1))=some (.pointer p7)/\
 aP (dq p7) (aP (dq p7) (∃(p8:Option Addr),ld w4.drew (ae p7 0)=some (.pointer p8)/\
 ah 140 #[p8,.agg #[aj,aq,aw]] w4.drew (λe w9=>∃(bj:Int)(ZH:Bool),e=Value.tuple #[bj,ZH]/\Kp w w4.drew w9/\
 af w9 (ae s6.a ((x5:Int).toNat*1)) 0 [.pointer p7]/\af w9 (ae (some a0) 3) 0 [s6]/\R bj w9)))))))):ah 83 #[a0,.agg #[aj,aq,aw]] w R:=
 cq bU Tryz.func83 h
def R8.vc(h:
 ah 10 #[a0,(14:Int)] w (λe w0=>∃(x1:Int),e=x1/\
 Br (x1>5)
 (R ((ao (x1+2))) w0)
 (R x1 w0))):ah 110 #[a0] w R:=
 cq bU Tryz.func110 h
def DI.vc{a0:Addr}(h:
 Aw w #[aj,aq,aw] 41 λw0=>
 ah 139 #[.agg #[aj,aq,aw]] w0 (Ra2 λx2 x3 w1=>Kp w w0 w1/\
 ah 73 #[a0,.agg #[x2,x3]] w1 (Ri λx5 w4=>Kp w w1 w4/\
 ah 255 #[.agg #[aj,aq,aw]] w4 (λe w6=>∃(x7:Int)(b8:Bool),e=Value.tuple #[x7,b8]/\Kp w w4 w6/\
 Br (x5<0)
 (R (11:Int) w6)
 (Br (!b8)
 (R (5:Int) w6)
 (ah 108 #[a2] w6 (Rb λb10 w9=>Kp w w6 w9/\
 Br (!b10)
 (R (1:Int) w9)
 (ah 74 #[a0,x5] w9 (λe bg=>∃(pz:Option Addr),e=pz/\Kp w w9 bg/\
 aP (dq pz) (aP (dq pz) (∃(QO:Option Addr),ld bg.drew (ae pz 0)=some (.pointer QO)/\
 ah 140 #[QO,.agg #[aj,aq,aw]] bg.drew (λe bO=>∃(cw:Int)(b16:Bool),e=Value.tuple #[cw,b16]/\Kp w bg.drew bO/\
 aP (dq pz) (aP (dq pz) (∃(ZF:Bool),ld bO (ae pz 1)=some (.bool ZF)/\
 Br ZF
 (aP (dq pz) (aP (dq pz) ((((ae pz 1)).isSome=true/\Wr bO (ae pz 1) 1)/\bz (ae pz 1)≠some w.heap.size/\(∀dH,dH=aL bO (ae pz 1) [.bool true]->
 aP (dq pz) (aP (dq pz) (∃(mh:Option Addr),ld dH.drew (ae pz 0)=some (.pointer mh)/\
 ah 268 #[mh,.agg #[aj,aq,aw],a2] dH.drew (Ri λdb eW=>Kp w dH.drew eW/\
 R db eW)))))))
 (aP (dq pz) (aP (dq pz) ((((ae pz 1)).isSome=true/\Wr bO (ae pz 1) 1)/\bz (ae pz 1)≠some w.heap.size/\(∀dP,dP=aL bO (ae pz 1) [.bool (cw !=a2)]->
 aP (dq pz) (aP (dq pz) (∃(Vz:Option Addr),ld dP.drew (ae pz 0)=some (.pointer Vz)/\
 ah 268 #[Vz,.agg #[aj,aq,aw],a2] dP.drew (Ri λdY gl=>Kp w dP.drew gl/\
 R dY gl))))))))))))))))))))):ah 221 #[a0,.agg #[aj,aq,aw],a2] w R:=
 cq bU Tryz.func221 h
def xR.vc{a0:Addr}(h:
 Aw w #[aj,aq] 40 λw0=>
 ah 73 #[a0,.agg #[aj,aq]] w0 (Ri λx2 w1=>Kp w w0 w1/\
 Br (x2<0)
 (R (6:Int) w1)
 (∃(s3:Sl),ld w1 (ae (some a0) 3)=some (.slice s3.a s3.n s3.c)/\
 eA s3.a x2 s3.n/\∃(p4:Option Addr),ld w1 (ae s3.a ((x2:Int).toNat*1))=some (.pointer p4)/\
 aP (dq p4) (aP (dq p4) (∃(x5:Int),ld w1 (ae p4 2)=some (.int .i64 x5)/\
 Br (x5>0)
 (R (10:Int) w1)
 (∃(s6:Sl),ld w1 (ae (some a0) 3)=some (.slice s6.a s6.n s6.c)/\
 eA s6.a x2 s6.n/\∃(p7:Option Addr),ld w1 (ae s6.a ((x2:Int).toNat*1))=some (.pointer p7)/\
 ah 79 #[a0,p7] w1 (Ri λx9 w8=>Kp w w1 w8/\
 Br (x9==0)
 (ah 80 #[a0,x2] w8 (λe bP=>∃(Zh:Option Addr),e=Zh/\Kp w w8 bP/\
 R x9 bP))
 (R x9 w8)))))))):ah 21 #[a0,.agg #[aj,aq]] w R:=
 cq bU Tryz.func21 h
def WM.vc(h:
 ah 149 #[a2] w (λe w0=>∃(p1:Option Addr),e=p1/\
 Aw w0 #[p1,a0,.int .i64 (if 16<(if 1>a1 then 1 else a1) then 16 else (if 1>a1 then 1 else a1)),.slice none 0 0] 143 λw2=>
 R (Value.pointer (aB w0)) w2)):ah 96 #[a0,a1,a2] w R:=
 cq bU Tryz.func96 h
def aaH.vc(h:
 Aw w #[aA,ar] 40 λw0=>
 Br (aA<(-524288))
 (R (Value.tuple #[aa,false]) w0)
 (Br (aA>=524288)
 (R (Value.tuple #[aa,false]) w0)
 (Br (ar<(-524288))
 (R (Value.tuple #[aa,false]) w0)
 (Br (ar>=524288)
 (R (Value.tuple #[aa,false]) w0)
 (R (Value.tuple #[(ao ((ao ((ao ((ao ((ao ((ao (aA+524288))*2))*524288))+ar))+524288))+1)),true]) w0))))):ah 72 #[.agg #[aA,ar]] w R:=
 cq bU Tryz.func72 h
def BB.vc{a0:Addr}(h:
 Aw w #[aj,aq] 40 λw0=>
 ∃(s1:Sl),ld w0 (ae (some a0) 3)=some (.slice s1.a s1.n s1.c)/\
 ah 129 #[s1,.func (.func 130) #[] #[w]] w0 (λe w2=>∃(x3:Int),e=x3/\
 R x3 w2)):ah 73 #[a0,.agg #[aj,aq]] w R:=
 cq bU Tryz.func73 h
def zP.vc{a0:Addr}(h:
 ah 80 #[a0,a1] w (λe w0=>∃(p1:Option Addr),e=p1/\
 ∃(s2:Sl),ld w0 (ae (some a0) 3)=some (.slice s2.a s2.n s2.c)/\
 Aw w0 #[p1] 137 λw3=>
 ba 8 1 w3 s2 1 [.pointer p1]/\∀(s4:Sl)(w5:World),aY 137 1 w3 s2 1 [.pointer p1] s4 w5->Kp w0 w3 w5/\
 (true=true/\Wr w5 (ae (some a0) 3) 1)/\bz (ae (some a0) 3)≠some w0.heap.size/\(∀w6,w6=aL w5 (ae (some a0) 3) [s4]->
 R p1 w6))):ah 74 #[a0,a1] w R:=
 cq bU Tryz.func74 h
def BC.vc{a0:Addr}(h:
 ∃(s0:Sl),ld w.drew (ae (some a0) 3)=some (.slice s0.a s0.n s0.c)/\
 ∃(x1:Int),ld w.drew (ae (some a0) 2)=some (.int .i64 x1)/\
 Br (decide ((((s0.n:Nat):Int):Int)<x1))
 (R (0:Int) w.drew)
 (∃(s2:Sl),ld w.drew (ae (some a0) 3)=some (.slice s2.a s2.n s2.c)/\
 ah 129 #[s2,.func (.func 131) #[] #[]] w.drew (λe w3=>∃(x4:Int),e=x4/\
 Br (x4<0)
 (R (8:Int) w3)
 (∃(s5:Sl),ld w3 (ae (some a0) 3)=some (.slice s5.a s5.n s5.c)/\
 eA s5.a x4 s5.n/\∃(p6:Option Addr),ld w3 (ae s5.a ((x4:Int).toNat*1))=some (.pointer p6)/\
 ah 79 #[a0,p6] w3 (λe w7=>∃(x8:Int),e=x8/\
 Br (x8==0)
 (ah 80 #[a0,x4] w7 (λe w9=>∃(tf:Option Addr),e=tf/\
 R x8 w9))
 (R x8 w7)))))):ah 75 #[a0] w R:=
 cq bU Tryz.func75 h
def BD.vc{a0:Addr}(h:
 ah 132 #[a1] w (λe w0=>∃(b1:Bool),e=b1/\
 Br (!b1)
 (R (Value.tuple #[.slice none 0 0,aa,false]) w0)
 (ah 133 #[a0,a1] w0 (λe w2=>∃(x3 x4:Int)(s5:Sl),e=Value.agg #[x3,x4,s5]/\
 Aw w2 #[aa,aa,.slice none 0 0] 202 λw6=>
 Sw w6 w2 #[x3,x4,s5] λw7=>
 R (Value.tuple #[s5,x4,.bool (decide (x4>0))]) w7.drew)))):ah 76 #[a0,a1] w R:=
 cq bU Tryz.func76 h
def R9.vc{a1:Sl}(h:
 Aw w #[aA,ar] 40 λw0=>
 ah 134 #[a1,(8192:Int)] w0 (λe w1=>∃(s2:Sl)(x3:Int),e=Value.tuple #[s2,x3]/\Kp w w0 w1/\
 Br (x3 !=0)
 (R (Value.tuple #[.pointer none,x3]) w1)
 (ah 135 #[.agg #[aA,ar],s2] w1 (λe w4=>∃(p5:Option Addr)(x6:Int),e=Value.tuple #[p5,x6]/\Kp w w1 w4/\
 R (Value.tuple #[p5,x6]) w4)))):ah 77 #[.agg #[aA,ar],a1] w R:=
 cq bU Tryz.func77 h
def Sa.vc(h:
 Aw w #[aj,aq] 40 λw0=>
 (ah 136 #[a0,.agg #[aj,aq]] w0.drew (Rs λs2 w1=>Kp w w0.drew w1/\
 Aw w1 #[aj,aq,s2] 175 λw3=>
 R (Value.pointer (aB w1)) w3))/\(ah 136 #[a0,.agg #[aj,aq]] w0.drew (Rs λs5 w4=>Kp w w0.drew w4/\
 af w4 w 0 [aj,aq]/\Aw w4 #[aj,aq,s5] 175 λw6=>
 R (Value.pointer (aB w4)) w6))):ah 78 #[a0,.agg #[aj,aq]] w R:=
 cq bU Tryz.func78 h
def RB.vc(h:
 Aw w #[aA,ar,au] 41 λw0=>
 Aw w0 #[aa,aa] 40 λw1=>
 ah 192 #[aA,(16:Int)] w1.drew (Ri λx3 w2=>K2 w w0 w1.drew w2 (
 af w2 (dC w 2) 0 [au]/\ah 192 #[au,(16:Int)] w2 (Ri λx5 w4=>K2 w w0 w2 w4 (
 Sw w4 w0 #[x3,x5] λw6=>
 R (Value.agg #[x3,x5]) w6))))):ah 139 #[.agg #[aA,ar,au]] w R:=
 cq bU Tryz.func139 h
def FX.vc{a0:Addr}(h:
 Aw w #[aj,aq,aw] 41 λw0=>
 ∃(x1 x2:Int),af w0.drew (ae (some a0) 0) 0 [x1,x2]/\
 ah 193 #[.agg #[x1,x2],.agg #[aj,aq,aw]] w0.drew (λe w3=>∃(x4:Int)(b5:Bool),e=Value.tuple #[x4,b5]/\Kp w w0.drew w3/\
 Br (!b5)
 (R (Value.tuple #[aa,false]) w3)
 (∃(s6:Sl),ld w3 (ae (some a0) 2)=some (.slice s6.a s6.n s6.c)/\
 ah 194 #[s6,x4] w3 (Ri λx8 w7=>Kp w w3 w7/\
 R (Value.tuple #[x8,true]) w7)))):ah 140 #[a0,.agg #[aj,aq,aw]] w R:=
 cq bU Tryz.func140 h
def yX.vc{a0:Addr}(h:
 Aw w #[aj,aq,aw] 41 λw0=>
 ∃(p1:Option Addr),ld w0 (ae (some a0) 0)=some (.pointer p1)/\
 ah 37 #[p1] w0 (Rs λs3 w2=>Kp w w0 w2/\
 ah 139 #[.agg #[aj,aq,aw]] w2 (Ra2 λx5 x6 w4=>Kp w w2 w4/\
 ah 150 #[.agg #[x5,x6]] w4 (λe w7=>∃(x8 x9 bj bu bV cn bI cw cH dh:Int),e=Value.agg #[x8,x9,bj,bu,bV,cn,bI,cw,cH,dh]/\Kp w w4 w7/\
 ∃I18:Nat->Int->World->Prop,
 (∃n19,aO [aj,aq,aw]/\I18 n19 (0) w7)/\
 ∀(n19:Nat)(atS:Nat->Value)(db:Int)(dP:World),I18 n19 db dP->
 Br (db<5)
 (((0:Int)<=db/\db<((5:Nat):Int))/\∃(eU dY:Int),(([x8,x9,bj,bu,bV,cn,bI,cw,cH,dh]:LV).drop ((db:Int).toNat*2)).take 2=[.int .i64 eU,.int .i64 dY]/\
 Aw dP #[aa,aa] 40 λfx=>
 Sw fx dP #[eU,dY] λdX=>
 ah 151 #[s3,.agg #[eU,dY]] dX (Rb λb29 iw=>K2 w dP dX iw (
 Br (!b29)
 (R false iw)
 (∃n23,n23<n19/\aO [aj,aq,aw]/\I18 n23 ((ao (db+1))) iw))))
 (R true dP))))):ah 100 #[a0,.agg #[aj,aq,aw]] w R:=
 cq ⟨[(3,⟨[(16,.int .i64)],[],[]⟩)],[],[]⟩ Tryz.func100 h
def Oa.vc(h:
 R (Value.bool (a0==3)) w):ah 243 #[a0] w R:=
 cq bU Tryz.func243 h
def Ob.vc(h:
 Br (a0==(-1))
 (Br (a0==(-1))
 (R true w)
 (R false w))
 (Br (a0==1)
 (Br (a0==1)
 (R true w)
 (R false w))
 (Br (a0==2)
 (Br (a0==2)
 (R true w)
 (R false w))
 (Br (a0==3)
 (Br (a0==3)
 (R true w)
 (R false w))
 (Br (a0==5)
 (R true w)
 (R false w)))))):ah 103 #[a0] w R:=
 cq bU Tryz.func103 h
def WN.vc(h:
 Aw w #[aA,ar] 40 λw0=>
 Aw w0 #[aa,aa] 40 λw1=>
 ah 10 #[aA,(5:Int)] w1.drew (Ri λx3 w2=>K2 w w0 w1.drew w2 (
 af w2 (dC w 1) 0 [ar]/\ah 10 #[ar,(5:Int)] w2 (Ri λx5 w4=>K2 w w0 w2 w4 (
 Sw w4 w0 #[(ao (x3-2)),(ao (x5-2))] λw6=>
 R (Value.agg #[(ao (x3-2)),(ao (x5-2))]) w6))))):ah 51 #[.agg #[aA,ar]] w R:=
 cq bU Tryz.func51 h
def Od.vc(h:
 Br (a0==(-1))
 (R true w)
 (Br (a0==1)
 (R true w)
 (Br (a0==2)
 (R true w)
 (Br (a0==3)
 (R true w)
 (R (Value.bool (a0==5)) w))))):ah 114 #[a0] w R:=
 cq bU Tryz.func114 h
def Sb.vc{a0:Sl}{a1:Sl}(h:
 ∃l0:List Int,l0.length=a0.n/\af w a0.a 0 (l0.map (Value.int .u8))/\
 ∃l1:List Int,l1.length=a1.n/\af w a1.a 0 (l1.map (Value.int .u8))/\
 R (Value.bool (ti (strOfNums l0) (strOfNums l1))) w):ah 25 #[a0,a1] w R:=
 cq bU Tryz.func25 h
end Go.Proofs.YtkkkfkopcfdmaaaGreatDoor
namespace Go.aT
open Go Go.Vc
abbrev Rn:=Int × Int
def cE(l:List Rn):List Int:=l.flatMap λr=>List.replicate r.1.toNat r.2
def jG(out:List Rn)(r:Rn):List Rn:=
 if r.1<1 then out else
 match out.getLast? with
 |some q=>if q.2=r.2 then out.dropLast++ [(q.1+r.1,q.2)] else out++ [r]
 |none=>out++ [r]
def gV(c:List Int):List Rn:=c.foldl (λo b=>jG o (1,b)) []
def bT(l:List Rn):Int:=(l.map (·.1)).sum
inductive Nm:List Rn->Prop
 |nil:Nm []
 |snoc (l:List Rn) (r:Rn) (h:Nm l) (h1:1<=r.1) (h2:∀q,l.getLast? =some q->q.2≠r.2):Nm (l++ [r])
def lS{o:List Rn}{r:Rn}(h:r.1<1):jG o r=o:=by unfold jG;rw [if_pos h]
def kD{l:List Rn}{q r:Rn}(h1:1<=r.1)(e:q.2=r.2):jG (l++ [q]) r=l++ [(q.1+r.1,q.2)]:=by
 unfold jG;have hl:(l++ [q]).getLast? =some q:=by simp
 rw [if_neg ab,hl];simp [e]
def gD{l:List Rn}{r:Rn}(h1:1<=r.1)(h2:∀q,l.getLast? =some q->q.2≠r.2):jG l r=l++ [r]:=by
 unfold jG;rw [if_neg ab];split
 ·rename_i q hq;rw [if_neg (h2 q hq)]
 ·rfl
def yg(l:List Rn):l=[]\/∃m q,l=m++ [q]:=by
 rcases List.eq_nil_or_concat l with h|⟨m,q,h⟩
 ·exact .inl h
 ·exact .inr ⟨m,q,by simpa using h⟩
def Xo(o:List Rn){a c b:Int}(ha:1<=a)(hc:1<=c):jG (jG o (a,b)) (c,b)=jG o (a+c,b):=by
 have hac:1<=a+c:=by omega
 rcases yg o with rfl|⟨m,q,rfl⟩
 ·rw [gD (l:=[]) (r:=(a,b)) ha cp,gD (l:=[]) (r:=(a+c,b)) hac cp,kD (q:=(a,b)) (r:=(c,b)) hc rfl]
 ·by_cases e:q.2=b
  ·rw [kD (r:=(a,b)) ha e,kD (r:=(a+c,b)) hac e,kD (q:=(q.1+a,q.2)) (r:=(c,b)) hc e];simp [Int.add_assoc]
  ·have h2:∀x:Int,∀p,(m++ [q]).getLast? =some p->p.2≠((x,b):Rn).2:=by intro x p hp;simp at hp;subst hp;exact e
   rw [gD (r:=(a,b)) ha (h2 a),gD (r:=(a+c,b)) hac (h2 _),kD (q:=(a,b)) (r:=(c,b)) hc rfl]
def O6(o:List Rn)(b:Int):∀n:Nat,(List.replicate n b).foldl (λo b=>jG o (1,b)) o=jG o ((n:Int),b)
 |0=>by rw [lS cp];rfl
 |n+1=>by
  rw [List.replicate_succ',oT,O6 o b n]
  show jG (jG o ((n:Int),b)) (1,b)=_
  rcases E4 n with rfl|hn
  ·rw [lS (r:=(((0:Nat):Int),b)) cp];rfl
  ·rw [Xo o ab ab];rfl
def afF(c d:List Int):gV (c++d)=d.foldl (λo b=>jG o (1,b)) (gV c):=by unfold gV;rw [oT]
def O1(c:List Int)(r:Rn):jG (gV c) r=gV (c++List.replicate r.1.toNat r.2):=by
 rw [afF,O6];rcases tn r.1 1 with h|h
 ·rw [lS h,lS (by show ((r.1.toNat:Nat):Int)<1;omega)]
 ·rw [show ((r.1.toNat:Nat):Int)=r.1 from by omega]
def Nm.push{o:List Rn}(h:Nm o)(r:Rn):Nm (jG o r):=by
 rcases tn r.1 1 with h1|h1
 ·rw [lS h1];exact h
 ·cases h with
  |nil=>rw [gD h1 cp];exact .snoc _ _ .nil h1 cp
  |snoc l q hl hq h2=>
   by_cases e:q.2=r.2
   ·rw [kD h1 e];exact .snoc _ _ hl (by show 1<=q.1+r.1;omega) h2
   ·have h3:∀p,(l++ [q]).getLast? =some p->p.2≠r.2:=by intro p hp;simp at hp;subst hp;exact e
    rw [gD h1 h3];exact .snoc _ _ (.snoc _ _ hl hq h2) h1 h3
def Ge(c:List Int):Nm (gV c):=by
 have:∀(c:List Int)(o:List Rn),Nm o->Nm (c.foldl (λo b=>jG o (1,b)) o):=by
  intro c
  induction c with
  |nil=>intro o h;exact h
  |cons b c ih=>intro o h;exact ih _ (h.push _)
 exact this c [] .nil
def gU(l m:List Rn):cE (l++m)=cE l++cE m:=by unfold cE;rw [List.flatMap_append]
def jb(r:Rn):cE [r]=List.replicate r.1.toNat r.2:=by simp [cE]
def Nm.fix{l:List Rn}(h:Nm l):gV (cE l)=l:=by
 induction h with
 |nil=>rfl
 |snoc l r hl h1 h2 ih=>
  rw [gU,jb,<-O1,ih,gD h1 h2]
def Nm.pos{l:List Rn}(h:Nm l):∀r ∈ l,1<=r.1:=by
 induction h with
 |nil=>simp
 |snoc l r hl h1 h2 ih=>
  intro q hq;rcases cV.1 hq with hq|hq
  ·exact ih q hq
  ·simp at hq;rw [hq];exact h1
def SR{o:List Rn}(h:Nm o)(r:Rn):cE (jG o r)=cE o++List.replicate r.1.toNat r.2:=by
 rcases tn r.1 1 with h1|h1
 ·rw [lS h1,show r.1.toNat=0 from by omega];simp
 ·cases h with
  |nil=>rw [gD h1 cp,gU,jb]
  |snoc l q hl hq h2=>
   by_cases e:q.2=r.2
   ·rw [kD h1 e,gU,gU,jb,jb];show _++List.replicate (q.1+r.1).toNat q.2=_;rw [show (q.1+r.1).toNat=q.1.toNat+r.1.toNat from by omega,<-List.replicate_append_replicate,e];simp
   ·rw [gD h1 (by intro p hp;simp at hp;subst hp;exact e),gU,jb]
def oz(c:List Int):cE (gV c)=c:=by
 have:∀(c:List Int)(o:List Rn),Nm o->cE (c.foldl (λo b=>jG o (1,b)) o)=cE o++c:=by
  intro c
  induction c with
  |nil=>intro o h;simp
  |cons b c ih=>intro o h;rw [nJ,ih _ (h.push _),SR h];simp
 rw [gV,this c [] .nil];rfl
def O7(l m:List Rn):bT (l++m)=bT l+bT m:=by simp [bT]
def fe{l:List Rn}(h:∀r ∈ l,0<=r.1):bT l=((cE l).length:Nat):=by
 induction l with
 |nil=>rfl
 |cons r l ih=>
  have:=ih λq hq=>h q (.tail _ hq)
  have hr:=h r (.head _);simp only [bT,fu,List.sum_cons] at this ⊢;rw [this];simp [cE];omega
def mC(c:List Int):bT (gV c)=(c.length:Nat):=by rw [fe λr hr=>by have:=(Ge c).pos r hr;omega,oz]
def Nm.ajl{l:List Rn}(h:Nm l):l.length<=(cE l).length:=by
 induction h with
 |nil=>simp
 |snoc l r hl h1 h2 ih=>rw [gU,jb];simp;omega
def sB(c:List Int):(gV c).length<=c.length:=by have:=(Ge c).ajl;rwa [oz] at this
end Go.aT
namespace Go.aT
def afG{l:List Rn}(h:∀r ∈ l,0<=r.1){q:Rn}(hq:q ∈ l):q.1<=bT l:=by
 induction l with
 |nil=>cases hq
 |cons r l ih=>
  have hr:=h r (.head _);have hl:0<=bT l:=by rw [fe λq hq=>h q (.tail _ hq)];omega
  have e:bT (r::l)=r.1+bT l:=by simp [bT]
  rw [e];rcases cB.1 hq with rfl|hq
  ·omega
  ·have:=ih (λq hq=>h q (.tail _ hq)) hq;omega
def oa{c:List Int}{q:Rn}(hq:q ∈ gV c):1<=q.1/\q.1<=(c.length:Nat):=by have h:=(Ge c).pos;refine ⟨h q hq,?_⟩;rw [<-mC];exact afG (λr hr=>by have:=h r hr;omega) hq
def Io(c:List Int)(a b:Int):List Int:=(c.take b.toNat).drop a.toNat
def abg(c:List Int)(n:Nat)(x a b:Int)(ha:0<=a)(hb:0<=b):
  Io (c++List.replicate n x) a b=Io c a b++List.replicate (min b (c.length+n:Nat)-max a (c.length:Nat)).toNat x:=by
 unfold Io;rw [List.take_append,List.drop_append,List.take_replicate,List.drop_replicate,dK];congr 2;omega
end Go.aT
namespace Go.aT
def Al(c:List Int)(a b x:Int):List Int:=c.mapIdx λi y=>if a<=(i:Int)/\(i:Int)<b then x else y
def Xp(c:List Int)(a b x:Int):(Al c a b x).length=c.length:=by simp [Al]
def SS(c:List Int)(a b x:Int)(h:min (max b 0) (c.length:Int)<=min (max a 0) (c.length:Int)):Al c a b x=c:=by
 apply iP;intro i;unfold Al;rw [List.getElem?_mapIdx];rcases jD i c.length with hi|hi
 ·rw [dm hi];show some (if _ then x else _)=_;rw [if_neg ab]
 ·rw [jS hi];rfl
def JX(c:List Int)(a b x:Int)(h:min (max a 0) (c.length:Int)<min (max b 0) (c.length:Int)):
  Al c a b x=Io c 0 (min (max a 0) (c.length:Int))++List.replicate (min (max b 0) (c.length:Int)-min (max a 0) (c.length:Int)).toNat x++Io c (min (max b 0) (c.length:Int)) c.length:=by
 have h1:(Io c 0 (min (max a 0) (c.length:Int))).length=(min (max a 0) (c.length:Int)).toNat:=by unfold Io;simp;omega
 apply iP;intro i;unfold Al;rw [List.getElem?_mapIdx,gK];rcases jD i c.length with hi|hi
 ·rw [dm hi];show some (if _ then x else _)=_;rcases jD i (min (max a 0) (c.length:Int)).toNat with hl|hl
  ·rw [if_neg ab,oI ab];unfold Io;rw [wH,qX];simp only [Int.toNat_zero,eK];rw [if_pos hl,dm hi]
  ·rw [qW ab,h1];rcases jD i (min (max b 0) (c.length:Int)).toNat with hm|hm
   ·rw [if_pos ab,oI (by rw [Gt];omega),abh,if_pos ab]
   ·rw [if_neg ab,qW (by rw [Gt];omega),Gt];unfold Io;rw [wH,qX,if_pos ab];rw [show (min (max b 0) (c.length:Int)).toNat+(i-(min (max a 0) (c.length:Int)).toNat-(min (max b 0) (c.length:Int)-min (max a 0) (c.length:Int)).toNat)=i from by omega];rw [dm hi]
 ·rw [jS hi];symm;rw [Option.map_none,jS];simp only [dv,Gt,h1];unfold Io;simp;omega
def Xq(c:List Int)(i x:Int)(h0:0<=i)(h1:i<(c.length:Int)):Al c i (i+1) x=c.set i.toNat x:=by
 apply iP;intro j;unfold Al;rw [List.getElem?_mapIdx,jR];rcases jD j c.length with hj|hj
 ·rw [dm hj];show some (if _ then x else _)=_;by_cases e:i.toNat=j
  ·rw [if_pos ab,if_pos e,if_pos ab]
  ·rw [if_neg ab,if_neg e]
 ·rw [jS hj,if_neg ab];rfl
def atC(c:List Int)(i:Int):Int:=if i<0 then -1 else c.getD i.toNat (-1)
def afH(c:List Int)(i:Int)(h:i<0\/(c.length:Int)<=i):atC c i= -1:=by
 unfold atC;split
 ·rfl
 ·rw [dZ,jS ab];rfl
def ajm(c d:List Int)(n:Nat)(x i:Int)(h0:(c.length:Int)<=i)(h1:i<(c.length:Int)+n):atC (c++List.replicate n x++d) i=x:=by unfold atC;rw [if_neg ab,dZ,gK,qW ab,oI (by rw [Gt];omega),abh,if_pos ab];rfl
def vZ(may:Int->Bool):Option Int->Int->List Rn->Bool
 |_,left,[]=>left==0
 |prev,left,r::t=>if r.1<1\/r.1>left\/may r.2=false\/prev=some r.2 then false else vZ may (some r.2) (left-r.1) t
def sG(may:Int->Bool)(l:List Rn)(n:Int):Bool:=decide (0<n) && vZ may none n l
def O8{may:Int->Bool}:∀{l:List Rn} {prev:Option Int} {left:Int},vZ may prev left l=true->bT l=left
 | [],_,left,h=>by simp [vZ] at h;rw [h];rfl
 |r::t,prev,left,h=>by
  unfold vZ at h
  split at h
  ·cases h
  ·have:=O8 h
   simp only [bT,fu,List.sum_cons] at this ⊢
   omega
def Bv{may:Int->Bool}:∀{l:List Rn} {prev:Option Int} {left:Int},(∀r ∈ l,1<=r.1/\may r.2=true)->(∀i q r,l[i]? =some q->l[i+1]? =some r->q.2≠r.2)->(∀r,l.head? =some r->prev≠some r.2)->bT l=left->vZ may prev left l=true
 | [],_,left,_,_,_,h=>by simp [vZ,<-h,bT]
 |r::t,prev,left,h1,h2,h3,h=>by
  have hr:=h1 r (.head _)
  have ht:0<=bT t:=by rw [fe λq hq=>by have:=h1 q (.tail _ hq);omega];omega
  have e:bT (r::t)=r.1+bT t:=by simp [bT]
  unfold vZ;rw [if_neg (by
   have:=h3 r rfl;rintro (h|h|h|h)
   ·omega
   ·omega
   ·rw [hr.2] at h;cases h
   ·exact this h)]
  refine Bv (λq hq=>h1 q (.tail _ hq)) (λi q s hq hs=>h2 (i+1) q s (by simpa using hq) (by simpa using hs)) (λq hq=> ?_) ab;have:=h2 0 r q rfl (by cases t<;>simp_all);intro e2;exact this (Option.some.inj e2)
def Nm.next{l:List Rn}(h:Nm l):∀i q r,l[i]? =some q->l[i+1]? =some r->q.2≠r.2:=by
 induction h with
 |nil=>intro i q r h;simp at h
 |snoc l p hl h1 h2 ih=>
  intro i q r hq hr;rcases jD (i+1) l.length with iC|TL
  ·rw [oI ab] at hq hr;exact ih i q r hq hr
  ·have hi:=(cG.1 hr).1;simp at hi;have:i+1=l.length:=by omega
   rw [oI ab] at hq;rw [qW ab,this] at hr;simp at hr;subst hr;refine h2 q ?_;rw [List.getLast?_eq_getElem?,show l.length-1=i from by omega];exact hq
def W4{l:List Rn}{r:Rn}(h:r ∈ l)(h1:1<=r.1):r.2 ∈ cE l:=by unfold cE;refine List.mem_flatMap.2 ⟨r,h,?_⟩;rw [Z0];exact ⟨by omega,rfl⟩
end Go.aT
namespace Go.aT
end Go.aT
namespace Go.Code
open Go Go.Vc Go.aT
def vS:Nat->Int->List Int
 |0,_=> []
 |k+1,x=>if x<128 then [x] else (128+x % 128)::vS k (x / 128)
def qA(n:Int):List Int:=if n<0\/n>1048576 then [] else vS 3 n
def sE:Nat->Nat->Int->List Int->Int × Int × Int
 |0,_,_,_=>(0,0,2)
 |_+1,_,_,[]=>(0,0,3)
 |k+1,i,n,c::t=>if c>=128 then sE k (i+1) (n+c % 128*128 ^ i) t
  else if (c=0/\0<i)\/n+c % 128*128 ^ i>1048576 then (0,0,2) else (n+c % 128*128 ^ i,(i:Int)+1,0)
def fw(b:List Int):Int × Int × Int:=sE 3 0 0 b
def wrap_u8(x:Int):fi x=x % 256:=by unfold IntKind.wrap;simp [IntKind.bits,IntKind.signed]
def amx(x:Int)(h:0<=x):MM .u8 (fi x) 128=128+x % 128:=by
 rw [wrap_u8];have key:∀a<256,MM .u8 ((a:Nat):Int) 128=128+((a:Nat):Int) % 128:=by decide+kernel
 have:=key (x % 256).toNat ab;rw [show (((x % 256).toNat:Nat):Int)=x % 256 from by omega] at this;rw [this];omega
def Wm(c:Int)(h:0<=c)(h':c<256):l8 .u8 c 128=c % 128:=by
 have key:∀a<256,l8 .u8 ((a:Nat):Int) 128=((a:Nat):Int) % 128:=by decide+kernel
 have:=key c.toNat ab;rwa [show ((c.toNat:Nat):Int)=c from by omega] at this
def aiX(n c k:Nat)(h:n<2 ^ k)(hb:n+c*2 ^ k<4611686018427387904):MM .i64 (n:Int) ((c*2 ^ k:Nat):Int)=((n+c*2 ^ k:Nat):Int):=by
 unfold MM;have e1:∀m:Nat,m<4611686018427387904->(BitVec.ofInt IntKind.i64.bits (m:Int)).toNat=m:=by intro m hm;rw [y9];show ((m:Int) %((2 ^ 64:Nat):Int)).toNat=m;rw [show ((2 ^ 64:Nat):Int)=18446744073709551616 from by decide];omega
 rw [BitVec.toNat_or,e1 n ab,e1 _ ab,Nat.or_comm];have:=Nat.shiftLeft_add_eq_or_of_lt h c;rw [Nat.shiftLeft_eq] at this;rw [<-this,um];exact wI
end Go.Code
namespace Go.Code
open Go Go.Vc Go.aT
def aiY(k:Nat)(hk:k<3)(n c:Int)(h0:0<=n)(h1:n<128 ^ k)(hc:0<=c)(hc':c<256):
  MM .i64 n (ao ((ao (l8 .u8 c 128))*2 ^(min ((ao (7*(k:Int))):Int).toNat 64)))=n+c % 128*128 ^ k/\0<=ao (7*(k:Int)):=by
 have hw:=aK (n:=7*(k:Int)) (by unfold bN;omega);rw [hw,Wm c hc hc',aK (n:=c % 128) (by unfold bN;omega)];refine ⟨?_,by omega⟩;have e:((2:Int) ^(min ((7*(k:Int)):Int).toNat 64))=128 ^ k:=by
  have:k=0\/k=1\/k=2:=by omega
  rcases this with rfl|rfl|rfl<;>decide
 rw [e];have hp:(128:Int) ^ k<=16384/\1<=(128:Int) ^ k:=by
  have:k=0\/k=1\/k=2:=by omega
  rcases this with rfl|rfl|rfl<;>decide
 have hm:c % 128*128 ^ k<=127*16384:=by
  have:k=0\/k=1\/k=2:=by omega
  rcases this with rfl|rfl|rfl<;>simp<;>omega
 have hm0:0<=c % 128*128 ^ k:=Fq ab ab;rw [aK (n:=c % 128*128 ^ k) (by unfold bN;omega)];have e7:((2 ^(7*k):Nat):Int)=128 ^ k:=by
  have:k=0\/k=1\/k=2:=by omega
  rcases this with rfl|rfl|rfl<;>decide
 have e2:c % 128*128 ^ k=(((c % 128).toNat*2 ^(7*k):Nat):Int):=by rw [Int.natCast_mul,e7,show (((c % 128).toNat:Nat):Int)=c % 128 from by omega]
 have:=aiX n.toNat (c % 128).toNat (7*k) (by
  have:((n.toNat:Nat):Int)<((2 ^(7*k):Nat):Int):=by rw [e7];omega
  omega) (by
  have:(((c % 128).toNat*2 ^(7*k):Nat):Int)<=127*16384:=by rw [<-e2];exact hm
  omega)
 rw [e2,show n=((n.toNat:Nat):Int) from by omega];rw [this];simp
def zJ{k j:Nat}{n c:Int}{t:List Int}:sE (j+1) k n (c::t)=if c>=128 then sE j (k+1) (n+c % 128*128 ^ k) t
   else if (c=0/\0<k)\/n+c % 128*128 ^ k>1048576 then (0,0,2) else (n+c % 128*128 ^ k,(k:Int)+1,0):=rfl
def aap(k:Nat)(n c:Int)(h1:n<128 ^ k):n+c % 128*128 ^ k<128 ^(k+1):=by have hp:0<=(128:Int) ^ k:=Int.pow_nonneg ab;have:c % 128*128 ^ k<=127*128 ^ k:=Int.mul_le_mul_of_nonneg_right ab hp;rw [Int.pow_succ];omega
end Go.Code
namespace Go.Code
open Go Go.Vc Go.aT
def FN:Int->List Rn->Bool
 |_,[]=>true
 |left,r::t=>if r.1<1\/r.1>left then false else FN (left-r.1) t
def Ns:∀{l:List Rn} {left:Int},FN left l=true->(∀r ∈ l,1<=r.1)/\(l≠ []->bT l<=left)
 | [],_,_=>⟨by simp,λh=>absurd rfl h⟩
 |r::t,left,h=>by
  unfold FN at h
  split at h
  ·cases h
  ·obtain ⟨h1,h2⟩:=Ns h
   refine ⟨λq hq=> ?_,λ_=> ?_⟩
   ·rcases cB.1 hq with rfl|hq
    ·omega
    ·exact h1 q hq
   ·have e:bT (r::t)=r.1+bT t:=by simp [bT]
    by_cases ht:t=[]
    ·subst ht;rw [e];simp [bT];omega
    ·have:=h2 ht;omega
def okW(may:Int->Bool)(l:List Rn):Bool:=FN 1048576 l && sG may l (bT l)
def sy(l:List Rn):List Int:=l.flatMap λr=>r.2 % 256::qA r.1
def ae7(l m:List Rn):sy (l++m)=sy l++sy m:=by unfold sy;rw [List.flatMap_append]
def aaq{l:List Rn}{k:Nat}{r:Rn}(hr:l[k]? =some r):sy (l.take (k+1))=sy (l.take k)++(r.2 % 256::qA r.1):=by rw [dR,hr,ae7];simp [sy]
def Nt:∀(k:Nat)(x:Int),(vS k x).length<=k
 |0,_=>by simp [vS]
 |k+1,x=>by
  unfold vS
  split
  ·simp
  ·have:=Nt k (x / 128);simp;omega
def Nu(n:Int):(qA n).length<=3:=by
 unfold qA;split
 ·simp
 ·exact Nt 3 n
def UH(l:List Rn):(sy l).length<=4*l.length:=by
 induction l with
 |nil=>simp [sy]
 |cons r l ih=>
  have:=Nu r.1;unfold sy at ih ⊢;rw [List.flatMap_cons,dv,du,du];omega
def UL:∀(k:Nat)(x:Int),0<=x->∀c ∈ vS k x,0<=c/\c<256
 |0,_,_,c,h=>by simp [vS] at h
 |k+1,x,hx,c,h=>by
  unfold vS at h
  split at h
  ·simp at h;omega
  ·rcases cB.1 h with rfl|h
   ·omega
   ·exact UL k (x / 128) ab c h
def ae8(n:Int):∀c ∈ qA n,0<=c/\c<256:=by
 intro c h;unfold qA at h;split at h
 ·simp at h
 ·exact UL 3 n ab c h
def aiT(l:List Rn):∀c ∈ sy l,0<=c/\c<256:=by
 intro c h;unfold sy at h;obtain ⟨r,_,hc⟩:=List.mem_flatMap.1 h;rcases cB.1 hc with rfl|hc
 ·omega
 ·exact ae8 r.1 c hc
end Go.Code
namespace Go.Code
open Go Go.Vc Go.aT
end Go.Code
namespace Go.Code
open Go Go.Vc Go.aT
def JD:∀{l:List Rn} {left:Int},(∀r ∈ l,1<=r.1)->bT l<=left->FN left l=true
 | [],_,_,_=>rfl
 |r::t,left,h,hs=>by
  have e:bT (r::t)=r.1+bT t:=by simp [bT]
  have h1:=h r (.head _);have ht:0<=bT t:=by rw [fe λq hq=>by have:=h q (.tail _ hq);omega];omega
  unfold FN;rw [if_neg ab];exact JD (λq hq=>h q (.tail _ hq)) ab
def aiZ{may:Int->Bool}{l:List Rn}(h:Nm l)(hm:∀r ∈ l,may r.2=true)(hs:bT l<=1048576)(jh:l≠ []):okW may l=true:=by
 unfold okW;rw [JD h.pos hs];unfold sG;have hp:0<bT l:=by
  cases l with
  |nil=>exact absurd rfl jh
  |cons r t=>
   have e:bT (r::t)=r.1+bT t:=by simp [bT]
   have h1:=h.pos r (.head _);have ht:0<=bT t:=by rw [fe λq hq=>by have:=h.pos q (.tail _ hq);omega];omega
   omega
 rw [decide_eq_true hp,Bv (λr hr=>⟨h.pos r hr,hm r hr⟩) h.next (λr _=>by simp) rfl];rfl
end Go.Code
namespace Go.Code
open Go Go.Vc Go.aT
def nH(may:Int->Bool):Nat->List Int->Int->Int->List Rn->List Rn × Int
 |0,_,_,_,_=>([],3)
 |_+1,[],n,_,acc=>if n>0 then ([],3) else (acc,0)
 |f+1,c::t,n,last,acc=>
  if may c=false\/c=last then ([],2)
  else if (fw t).2.2≠0 then ([],(fw t).2.2)
  else if (fw t).1=0\/(fw t).1>n then ([],2)
  else if n-(fw t).1=0 then (if t.drop (fw t).2.1.toNat=[] then (acc++ [((fw t).1,c)],0) else ([],2))
  else nH may f (t.drop (fw t).2.1.toNat) (n-(fw t).1) c (acc++ [((fw t).1,c)])
def jX(may:Int->Bool)(b:List Int)(n:Int):List Rn × Int:=nH may (b.length+1) b n (-1) []
def Es:∀(k i:Nat)(m:Int)(b:List Int),0<=m->(sE k i m b).2.2=0->0<=(sE k i m b).1/\(sE k i m b).1<=1048576/\(i:Int)+1<=(sE k i m b).2.1/\(sE k i m b).2.1<=(i:Int)+b.length
 |0,_,_,_,_,h=>by simp [sE] at h
 |k+1,i,m,[],_,h=>by simp [sE] at h
 |k+1,i,m,c::t,h0,h=>by
  have hp:0<=c % 128*128 ^ i:=Fq ab (Int.pow_nonneg ab)
  rw [zJ] at h ⊢
  split
  ·rename_i hc
   rw [if_pos hc] at h
   have:=Es k (i+1) _ t ab h
   simp only [du]
   omega
  ·rename_i hc
   rw [if_neg hc] at h
   split
   ·rename_i hz;rw [if_pos hz] at h;simp at h
   ·rename_i hz
    simp only [du]
    refine ⟨by omega,?_,by omega,by omega⟩
    rcases tn 1048576 (m+c % 128*128 ^ i) with hh|hh
    ·exact absurd (.inr hh) hz
    ·exact hh
end Go.Code
namespace Go.Code
open Go Go.Vc Go.aT
def Km{may:Int->Bool}{f:Nat}{n last:Int}{acc:List Rn}:nH may (f+1) [] n last acc=if n>0 then ([],3) else (acc,0):=rfl
def Di(may:Int->Bool)(f:Nat)(c:Int)(t:List Int)(n last:Int)(acc:List Rn):nH may (f+1) (c::t) n last acc=
  if may c=false\/c=last then ([],2)
  else if (fw t).2.2≠0 then ([],(fw t).2.2)
  else if (fw t).1=0\/(fw t).1>n then ([],2)
  else if n-(fw t).1=0 then (if t.drop (fw t).2.1.toNat=[] then (acc++ [((fw t).1,c)],0) else ([],2))
  else nH may f (t.drop (fw t).2.1.toNat) (n-(fw t).1) c (acc++ [((fw t).1,c)]):=rfl
def Kn{may:Int->Bool}:∀(f:Nat)(b:List Int)(n last:Int)(acc:List Rn),(nH may f b n last acc).1.length<=acc.length+b.length
 |0,_,_,_,_=>by simp [nH]
 |f+1,[],n,_,acc=>by rw [Km];split<;>simp
 |f+1,c::t,n,last,acc=>by
  rw [Di]
  split
  ·simp
  split
  ·simp
  split
  ·simp
  split
  ·split<;>simp
  ·have:=Kn (may:=may) f (t.drop (fw t).2.1.toNat) (n-(fw t).1) c (acc++ [((fw t).1,c)])
   simp only [dv,du,mH,Af] at this ⊢
   omega
def Yl{may:Int->Bool}(b:List Int)(n:Int):(jX may b n).1.length<=b.length:=by have:=Kn (may:=may) (b.length+1) b n (-1) [];simpa [jX] using this
def iY(may:Int->Bool):Int->List Rn->Prop
 |_,[]=>True
 |last,r::t=>1<=r.1/\r.1<=1048576/\0<=r.2/\r.2<256/\may r.2=true/\r.2≠last/\iY may r.2 t
def iY.pos{may:Int->Bool}:∀{l:List Rn} {last:Int},iY may last l->∀r ∈ l,1<=r.1
 | [],_,_=>by simp
 |q::t,_,h=>by
  obtain ⟨h1,_,_,_,_,_,h7⟩:=h
  intro r hr
  rcases cB.1 hr with rfl|hr
  ·exact h1
  ·exact h7.pos r hr
def P3(r:Rn)(t:List Rn)(h:0<=r.2/\r.2<256):sy (r::t)=r.2::(qA r.1++sy t):=by unfold sy;rw [List.flatMap_cons,Int.emod_eq_of_lt h.1 h.2];rfl
def Ym(r:Rn)(t:List Rn):bT (r::t)=r.1+bT t:=by simp [bT]
def ace{t:List Int}(hi:∀c ∈ t,0<=c/\c<256)(h:(fw t).2.2=0):qA (fw t).1=t.take (fw t).2.1.toNat:=by
 unfold fw at h ⊢
 cases t with
 |nil=>simp [sE] at h
 |cons a t=>
  have ha:=hi a (.head _);rw [zJ] at h ⊢;split
  ·rename_i ha2;rw [if_pos ha2] at h
   cases t with
   |nil=>simp [sE] at h
   |cons b t=>
    have hb:=hi b (.tail _ (.head _));rw [zJ] at h ⊢;split
    ·rename_i kE;rw [if_pos kE] at h
     cases t with
     |nil=>simp [sE] at h
     |cons c t=>
      have hc:=hi c (.tail _ (.tail _ (.head _)));rw [zJ] at h ⊢;split
      ·rename_i oC;rw [if_pos oC] at h;simp [sE] at h
      ·rename_i oC;rw [if_neg oC] at h;split
       ·rename_i hz;rw [if_pos hz] at h;simp at h
       ·rename_i hz;have e:(0+a % 128*128 ^ 0+b % 128*128 ^(0+1)+c % 128*128 ^(0+1+1):Int)=a % 128+b % 128*128+c % 128*16384:=by simp
        rw [e] at hz ⊢;have Q2:c≠0:=λe0=>hz (.inl ⟨e0,by omega⟩)
        have hle:a % 128+b % 128*128+c % 128*16384<=1048576:=by
         rcases tn 1048576 (a % 128+b % 128*128+c % 128*16384) with hh|hh
         ·exact absurd (.inr hh) hz
         ·exact hh
        have ec:c % 128=c:=by omega
        rw [ec] at hle ⊢;unfold qA;rw [if_neg ab];simp only [vS];rw [if_neg ab,if_neg ab,if_pos ab];have e1:128+(a % 128+b % 128*128+c*16384) % 128=a:=by omega
        have e2:128+(a % 128+b % 128*128+c*16384) / 128 % 128=b:=by omega
        have e3:(a % 128+b % 128*128+c*16384) / 128 / 128=c:=by omega
        rw [e1,e2,e3];rfl
    ·rename_i kE;rw [if_neg kE] at h;split
     ·rename_i hz;rw [if_pos hz] at h;simp at h
     ·rename_i hz;have e:(0+a % 128*128 ^ 0+b % 128*128 ^(0+1):Int)=a % 128+b % 128*128:=by simp
      rw [e] at hz ⊢;have VA:b≠0:=λe0=>hz (.inl ⟨e0,by omega⟩)
      have ec:b % 128=b:=by omega
      rw [ec] at hz ⊢;unfold qA;rw [if_neg ab];simp only [vS];rw [if_neg ab,if_pos ab];have e1:128+(a % 128+b*128) % 128=a:=by omega
      have e2:(a % 128+b*128) / 128=b:=by omega
      rw [e1,e2];rfl
  ·rename_i ha2;rw [if_neg ha2] at h;split
   ·rename_i hz;rw [if_pos hz] at h;simp at h
   ·have ec:a % 128=a:=by omega
    rw [ec];have e:(0+a*128 ^ 0:Int)=a:=by simp
    rw [e];unfold qA;rw [if_neg ab];simp only [vS];rw [if_pos ab];rfl
def Dj{may:Int->Bool}:∀(f:Nat)(b:List Int)(n last:Int)(acc:List Rn),(∀c ∈ b,0<=c/\c<256)->1<=n->(nH may f b n last acc).2=0->
  ∃l,(nH may f b n last acc).1=acc++l/\sy l=b/\iY may last l/\bT l=n/\l≠ []
 |0,_,_,_,_,_,_,h=>by simp [nH] at h
 |f+1,[],n,_,acc,_,hn,h=>by rw [Km,if_pos ab] at h;simp at h
 |f+1,c::t,n,last,acc,hi,hn,h=>by
  have hc:=hi c (.head _)
  have ht:∀c ∈ t,0<=c/\c<256:=λq hq=>hi q (.tail _ hq)
  rw [Di] at h ⊢
  split
  ·rename_i h1;rw [if_pos h1] at h;simp at h
  rename_i h1
  rw [if_neg h1] at h
  split
  ·rename_i h2;rw [if_pos h2] at h;exact absurd h h2
  rename_i h2
  rw [if_neg h2] at h
  split
  ·rename_i h3;rw [if_pos h3] at h;simp at h
  rename_i h3
  rw [if_neg h3] at h
  have h2':(fw t).2.2=0:=Decidable.not_not.1 h2
  have hd:=Es 3 0 0 t ab h2'
  have apC:=ace ht h2'
  rw [show sE 3 0 0 t=fw t from rfl] at hd
  generalize hdg:fw t=d at*
  obtain ⟨sz,k,er⟩:=d
  simp only at h h3 hd apC ⊢
  have agh:may c=true:=by
   cases hm:may c with
   |true=>rfl
   |false=>exact absurd (.inl hm) h1
  have hcl:c≠last:=λe=>h1 (.inr e)
  have xi:qA sz++t.drop k.toNat=t:=by rw [apC];exact qZ _ _
  split
  ·rename_i h4;rw [if_pos h4] at h;split
   ·rename_i h5;refine ⟨[(sz,c)],rfl,?_,⟨by show 1<=sz;omega,by show sz<=1048576;omega,hc.1,hc.2,agh,hcl,trivial⟩,by simp [bT];omega,by simp⟩;rw [P3 _ _ hc];rw [h5,q8] at xi;simp [xi,sy]
   ·rename_i h5;rw [if_neg h5] at h;simp at h
  ·rename_i h4;rw [if_neg h4] at h;obtain ⟨l,e1,e2,e3,e4,e5⟩:=Dj f (t.drop k.toNat) (n-sz) c (acc++ [(sz,c)]) (λq hq=>ht q (zg hq)) ab h;refine ⟨(sz,c)::l,by rw [e1];simp,?_,⟨by show 1<=sz;omega,by show sz<=1048576;omega,hc.1,hc.2,agh,hcl,e3⟩,by rw [Ym];show sz+bT l=n;omega,by simp⟩;rw [P3 _ _ hc,e2];show c::(qA sz++t.drop k.toNat)=_;rw [xi]
def iY.of{may:Int->Bool}:∀{l:List Rn} {last:Int},(∀r ∈ l,1<=r.1/\r.1<=1048576/\0<=r.2/\r.2<256/\may r.2=true)->(∀i q r,l[i]? =some q->l[i+1]? =some r->q.2≠r.2)->(∀r,l.head? =some r->r.2≠last)->iY may last l
 | [],_,_,_,_=>trivial
 |r::t,last,h1,h2,h3=>by
  obtain ⟨a,b,c,d,e⟩:=h1 r (.head _)
  refine ⟨a,b,c,d,e,h3 r rfl,iY.of (λq hq=>h1 q (.tail _ hq)) (λi q s hq hs=>h2 (i+1) q s (by simpa using hq) (by simpa using hs)) (λq hq=> ?_)⟩
  have:=h2 0 r q rfl (by cases t<;>simp_all)
  exact λe=>this e.symm
def iY.next{may:Int->Bool}:∀{l:List Rn} {last:Int},iY may last l->∀i q r,l[i]? =some q->l[i+1]? =some r->q.2≠r.2
 | [],_,_,i,q,r,h,_=>by simp at h
 | [x],_,_,i,q,r,h,h'=>by simp at h'
 |x::y::t,_,h,0,q,r,hq,hr=>by
  simp at hq hr;subst hq;subst hr
  exact λe=>h.2.2.2.2.2.2.2.2.2.2.2.1 e.symm
 |x::y::t,_,h,i+1,q,r,hq,hr=>h.2.2.2.2.2.2.next i q r (by simpa using hq) (by simpa using hr)
def iY.mem{may:Int->Bool}:∀{l:List Rn} {last:Int},iY may last l->∀r ∈ l,1<=r.1/\r.1<=1048576/\0<=r.2/\r.2<256/\may r.2=true
 | [],_,_,r,h=>by cases h
 |q::t,_,h,r,hr=>by
  rcases cB.1 hr with rfl|hr
  ·exact ⟨h.1,h.2.1,h.2.2.1,h.2.2.2.1,h.2.2.2.2.1⟩
  ·exact h.2.2.2.2.2.2.mem r hr
def iY.sG{may:Int->Bool}{l:List Rn}{last:Int}(h:iY may last l)(jh:1<=bT l):sG may l (bT l)=true:=by unfold Go.aT.sG;rw [decide_eq_true ab,Bv (λr hr=>⟨h.pos r hr,(h.mem r hr).2.2.2.2⟩) h.next (λr _=>by simp) rfl];rfl
end Go.Code
namespace Go.cZ
open Go Go.Vc
abbrev Ce:=Int × Int × Int
abbrev Po:=Int × Int
def tdm{a b:Int}(hb:0<b):(a.tmod b<0->a / b=a.tdiv b-1/\a % b=a.tmod b+b)/\(0<=a.tmod b->a / b=a.tdiv b/\a % b=a.tmod b)/\-b<a.tmod b/\a.tmod b<b:=by
 have h1:b*a.tdiv b+a.tmod b=a:=Int.mul_tdiv_add_tmod a b;have h2:a.tmod b<b:=Int.tmod_lt_of_pos a hb;have h3: -b<a.tmod b:=by have:=Int.tmod_lt_of_pos (-a) hb;rw [Int.neg_tmod] at this;omega
 refine ⟨λh=> ?_,λh=> ?_,h3,h2⟩
 ·have:=(Int.ediv_emod_unique hb (a:=a) (q:=a.tdiv b-1) (r:=a.tmod b+b)).2 ⟨by rw [Int.mul_sub];omega,by omega,by omega⟩;exact this
 ·exact (Int.ediv_emod_unique hb (a:=a) (q:=a.tdiv b) (r:=a.tmod b)).2 ⟨by omega,by omega,by omega⟩
def UD{a b:Int}(ha:bN a)(hb:0<b):bN (a / b):=by
 unfold bN at*;have h1:=Int.emod_nonneg a (by omega:b≠0);have h2:=Int.emod_lt_of_pos a hb;have h3:=Int.mul_ediv_add_emod a b;rcases tn a 0 with h|h
 ·have h4:a<=a / b:=by rw [Int.le_ediv_iff_mul_le hb];have:=Int.mul_le_mul_of_nonpos_left (a:=a) (b:=b) (c:=1) ab ab;omega
  have h5:a / b<0:=Int.ediv_neg_of_neg_of_pos h hb;omega
 ·have h4:a / b<=a:=Int.ediv_le_self b h;have h5:0<=a / b:=Int.ediv_nonneg h ab;omega
def UE{a b:Int}(ha:bN a)(hb:0<b):bN (a.tdiv b):=by
 unfold bN at*;rcases tn a 0 with h|h
 ·have h1:a.tdiv b= -((-a) / b):=by rw [<-rj ab,Int.neg_tdiv];omega
  have h4:(-a) / b<=-a:=Int.ediv_le_self b ab;have h5:0<=(-a) / b:=Int.ediv_nonneg ab ab;omega
 ·rw [rj h];have h4:a / b<=a:=Int.ediv_le_self b h;have h5:0<=a / b:=Int.ediv_nonneg h ab;omega
def u64_in(n:Int):0<=dc n/\dc n<18446744073709551616:=by unfold IntKind.wrap;simp only [IntKind.bits,IntKind.signed];simp;omega
def xM{n:Int}(h:0<=n/\n<18446744073709551616):dc n=n:=by unfold IntKind.wrap;simp only [IntKind.bits,IntKind.signed];simp;omega
def mix(ak x z:Int):Int:=dc ((dc ((dc ((dc ak)*11400714819323198485))+(dc ((dc x)*14029467366897019727))))+(dc ((dc z)*1609587929392839161)))
def hash(ak x z:Int):Int:=
 lk .u64 (dc ((lk .u64 (mix ak x z) (mix ak x z / 536870912))*13787848793156543929)) (dc ((lk .u64 (mix ak x z) (mix ak x z / 536870912))*13787848793156543929) / 4294967296)
def ae5(ak x z:Int):0<=hash ak x z:=by unfold hash lk;exact (u64_in _).1
def arT(n:Int):(dc n).fdiv (2 ^(min (29:Int).toNat 64))=dc n / 536870912:=tq _ aF
def arU(n:Int):(dc n).fdiv (2 ^(min (32:Int).toNat 64))=dc n / 4294967296:=tq _ aF
def gR(ak x z:Int):Int:=hash ak x z % 9
def ground(ak x z:Int):Int:=
 6+(gR ak (x / 8) (z / 8)*((8-x % 8)*(8-z % 8))+gR ak (x / 8+1) (z / 8)*(x % 8*(8-z % 8))+gR ak (x / 8) (z / 8+1)*((8-x % 8)*(z % 8))+gR ak (x / 8+1) (z / 8+1)*(x % 8*(z % 8))) / 64
def RS(y g:Int):Int:=
 if y<0\/32<=y then 0 else if y=0\/y<g-3 then 1 else if y<g-1\/(y=g-1/\9<g) then 2 else if y=g-1 then 3 else if y<9 then 8 else 0
def uC{c u v:Int}(hc:0<=c/\c<=8)(hu:0<=u/\u<=8)(hv:0<=v/\v<=8):0<=u*v/\u*v<=64/\0<=c*(u*v)/\c*(u*v)<=512:=by have h1:0<=u*v:=Fq hu.1 hv.1;have h2:u*v<=8*8:=Int.mul_le_mul hu.2 hv.2 hv.1 aF;have h3:0<=c*(u*v):=Fq hc.1 h1;have h4:c*(u*v)<=8*64:=Int.mul_le_mul hc.2 h2 h1 aF;exact ⟨h1,h2,h3,h4⟩
def jq(s x z:Int):0<=gR s x z/\gR s x z<=8:=by unfold gR;omega
def JB(s x z:Int):6<=ground s x z/\ground s x z<=100:=by unfold ground;have a:=uC (jq s (x / 8) (z / 8)) (u:=8-x % 8) (v:=8-z % 8) ab ab;have b:=uC (jq s (x / 8+1) (z / 8)) (u:=x % 8) (v:=8-z % 8) ab ab;have c:=uC (jq s (x / 8) (z / 8+1)) (u:=8-x % 8) (v:=z % 8) ab ab;have d:=uC (jq s (x / 8+1) (z / 8+1)) (u:=x % 8) (v:=z % 8) ab ab;omega
def idx(c:Ce):Int:=(c.2.1*16+c.2.2 % 16)*16+c.1 % 16
def Bi(c:Ce):Prop:=0<=c.2.1/\c.2.1<32
def pos(c:Ce):Po:=(c.1 / 16,c.2.2 / 16)
def cellAt(p:Po)(i:Int):Ce:=(p.1*16+i % 16,i / 256,p.2*16+i / 16 % 16)
def BV{c:Ce}(h:Bi c):0<=idx c/\idx c<8192:=by unfold idx;unfold Bi at h;omega
def made(ak:Int)(p:Po):List Int:=(List.range 8192).map λi:Nat=>RS ((i:Int) / 256) (ground ak (p.1*16+(i:Int) % 16) (p.2*16+(i:Int) / 16 % 16))
def rA(ak:Int)(p:Po):(made ak p).length=8192:=by simp [made]
def Xm(y g:Int):RS y g=0\/RS y g=1\/RS y g=2\/RS y g=3\/RS y g=8:=by
 unfold RS;split
 ·exact .inl rfl
 ·split
  ·exact .inr (.inl rfl)
  ·split
   ·exact .inr (.inr (.inl rfl))
   ·split
    ·exact .inr (.inr (.inr (.inl rfl)))
    ·split
     ·exact .inr (.inr (.inr (.inr rfl)))
     ·exact .inl rfl
end Go.cZ
namespace Go.cZ
open Go Go.Vc Go.aT
end Go.cZ
namespace Go.cZ
open Go Go.Vc Go.aT
end Go.cZ
namespace Go.cZ
open Go Go.Vc Go.aT
def ahA:∀(n:Nat)(l:List Rn),l.length=n->(∀r ∈ l,1<=r.1)->(∀i q r,l[i]? =some q->l[i+1]? =some r->q.2≠r.2)->Nm l
 |0,l,hn,_,_=>by
  have:l=[]:=CI hn
  subst this;exact .nil
 |n+1,l,hn,h1,h2=>by
  rcases yg l with rfl|⟨m,q,rfl⟩
  ·simp at hn
  ·have hm:m.length=n:=by simpa using hn
   refine .snoc m q (ahA n m hm (λr hr=>h1 r (Ak _ hr)) (λi a b ha hb=> ?_)) (h1 q cp) (λp hp=> ?_)
   ·have hb':=(cG.1 hb).1;exact h2 i a b (by rw [oI ab];exact ha) (by rw [oI ab];exact hb)
   ·have jh:m≠ []:=by rintro rfl;simp at hp
    have dN:0<m.length:=List.length_pos_iff.2 jh;rw [List.getLast?_eq_getElem?] at hp;refine h2 (m.length-1) p q ?_ ?_
    ·rw [oI ab];exact hp
    ·rw [show m.length-1+1=m.length by omega,qW (aC _),Nat.sub_self];rfl
def PA{may:Int->Bool}:∀{l:List Rn} {prev:Option Int} {left:Int},vZ may prev left l=true->
  (∀r ∈ l,1<=r.1/\may r.2=true)/\(∀i q r,l[i]? =some q->l[i+1]? =some r->q.2≠r.2)/\∀r,l.head? =some r->prev≠some r.2
 | [],_,_,_=>⟨by simp,by simp,by simp⟩
 |r::t,prev,left,h=>by
  unfold vZ at h
  split at h
  ·cases h
  ·rename_i hn
   obtain ⟨a1,a2,a3⟩:=PA h
   have hm:may r.2=true:=by
    cases hq:may r.2 with
    |true=>rfl
    |false=>exact absurd (.inr (.inr (.inl hq))) hn
   have hp:prev≠some r.2:=λe=>hn (.inr (.inr (.inr e)))
   refine ⟨λq hq=> ?_,λi q s hq hs=> ?_,λq hq=> ?_⟩
   ·rcases cB.1 hq with rfl|hq
    ·exact ⟨by omega,hm⟩
    ·exact a1 q hq
   ·cases i with
    |zero=>
     simp only [amO,Option.some.injEq] at hq;subst hq;simp only [C2] at hs;have:t.head? =some s:=by cases t<;>simp_all
     intro e;exact a3 s this (by rw [e])
    |succ i=>exact a2 i q s (by simpa using hq) (by simpa using hs)
   ·simp only [List.head?_cons,Option.some.injEq] at hq;subst hq;exact hp
def PB{may:Int->Bool}{l:List Rn}{n:Int}(h:sG may l n=true):gV (cE l)=l/\(∀b ∈ cE l,may b=true)/\((cE l).length:Int)=n:=by
 unfold sG at h;rw [fk] at h;obtain ⟨a1,a2,_⟩:=PA h.2;refine ⟨(ahA l.length l rfl (λr hr=>(a1 r hr).1) a2).fix,λb hb=> ?_,?_⟩
 ·unfold cE at hb;obtain ⟨r,hr,hb⟩:=List.mem_flatMap.1 hb;rw [(Z0.1 hb).2];exact (a1 r hr).2
 ·rw [<-fe λr hr=>by have:=(a1 r hr).1;omega];exact O8 h.2
end Go.cZ
namespace Go.cZ
open Go Go.Vc Go.aT
def tp(p:Po):Prop:=(-524288<=p.1/\p.1<524288)/\-524288<=p.2/\p.2<524288
instance (p:Po):Decidable (tp p):=by unfold tp;exact inferInstance
def Du(p:Po):Int:=if tp p then (p.1+524288)*1048576+(p.2+524288)+1 else 0
def aeY{p:Po}(h:¬tp p):Du p=0:=by unfold Du;rw [if_neg h]
end Go.cZ
namespace Go.cZ
open Go Go.Vc Go.aT
def bX{α:Type}(q:α->Bool):List α->Int
 | []=> -1
 |x::t=>if q x then 0 else if bX q t<0 then -1 else bX q t+1
def iT{α:Type}{q:α->Bool}:∀{l:List α},(∀y ∈ l,q y=false)->bX q l= -1
 | [],_=>rfl
 |x::t,h=>by
  have h1:=h x (.head _)
  have h2:=iT (l:=t) λy hy=>h y (.tail _ hy)
  unfold bX
  rw [if_neg (by rw [h1];decide),if_pos ab]
def oy{α:Type}{q:α->Bool}:∀{l:List α} {k:Nat} {x:α},l[k]? =some x->q x=true->(∀j,j<k->∀y,l[j]? =some y->q y=false)->bX q l=k
 | [],k,x,h,_,_=>by simp at h
 |y::t,0,x,h,hq,_=>by
  simp at h;subst h
  unfold bX
  rw [if_pos hq];rfl
 |y::t,k+1,x,h,hq,hn=>by
  have h1:=hn 0 ab y rfl
  have h2:=oy (l:=t) (k:=k) (x:=x) (by simpa using h) hq (λj hj z hz=>hn (j+1) ab z (by simpa using hz))
  unfold bX
  rw [if_neg (by rw [h1];decide),if_neg ab,h2]
  omega
def dD{α:Type}(q:α->Bool):∀(l:List α),(bX q l= -1/\∀y ∈ l,q y=false)\/∃k x,l[k]? =some x/\q x=true/\bX q l=(k:Nat)/\∀j,j<k->∀y,l[j]? =some y->q y=false
 | []=> .inl ⟨rfl,by simp⟩
 |x::t=>by
  cases hq:q x with
  |true=>exact .inr ⟨0,x,rfl,hq,by unfold bX;rw [if_pos hq];rfl,by omega⟩
  |false=>
   rcases dD q t with ⟨h1,h2⟩|⟨k,y,h1,h2,h3,h4⟩
   ·refine .inl ⟨by unfold bX;rw [if_neg (by rw [hq];decide),if_pos ab],λy hy=> ?_⟩
    rcases cB.1 hy with rfl|hy
    ·exact hq
    ·exact h2 y hy
   ·refine .inr ⟨k+1,y,by simpa using h1,h2,by unfold bX;rw [if_neg (by rw [hq];decide),if_neg ab,h3];omega,λj hj z hz=> ?_⟩
    cases j with
    |zero=>simp at hz;subst hz;exact hq
    |succ j=>exact h4 j ab z (by simpa using hz)
def lL{α β:Type}(f:α->β)(q:β->Bool):∀l:List α,bX q (l.map f)=bX (λa=>q (f a)) l
 | []=>rfl
 |x::t=>by simp only [fu,bX,lL f q t]
end Go.cZ
namespace Go.cZ
open Go Go.Vc Go.aT
abbrev pr:=BitVec 16
abbrev nC(b:List Int):Prop:=∀c ∈ b,0<=c/\c<256
def cI(v:pr):Int:=(v.toNat:Nat)
def Ve(c:pr):pr:=if c.msb then (c<<<1) ^^^ 0x1021#16 else c<<<1
def Kc(c:pr):pr:=Ve (Ve (Ve (Ve c)))
def st8(c:pr):pr:=Kc (Kc c)
def Ay(x:Int):pr:=BitVec.ofInt 16 x
def amZ(c:pr)(x:Int):pr:=st8 (c ^^^(Ay x<<<8))
def Td(c:pr)(b:List Int):pr:=b.foldl amZ c
def xz(b:List Int):pr:=Td 0xFFFF#16 b
def KT(b:List Int):List Int:=[cI (xz b) / 256,cI (xz b) % 256]
def De(v:pr):0<=cI v/\cI v<65536:=by unfold cI;have:=v.isLt;omega
def Te{a b:pr}:cI a=cI b ↔ a=b:=by unfold cI;refine ⟨λh=>BitVec.eq_of_toNat_eq ab,λh=>by rw [h]⟩
def EB{x:Int}(h:0<=x/\x<65536):(Ay x).toNat=x.toNat:=by unfold Ay;rw [y9];simp only [show ((2 ^ 16:Nat):Int)=65536 from rfl];rw [Int.emod_eq_of_lt h.1 h.2]
def Tc{x:Int}(h:0<=x/\x<65536):cI (Ay x)=x:=by unfold cI;rw [EB h];omega
def ajR(v:pr):Ay (cI v)=v:=Te.1 (Tc (De v))
def Cb{a b:pr}(h:∀i:Nat,i<16->a.getLsbD i=b.getLsbD i):a=b:=BitVec.eq_of_getLsbD_eq h
def YF{i:Nat}(h:i<16):i=0\/i=1\/i=2\/i=3\/i=4\/i=5\/i=6\/i=7\/i=8\/i=9\/i=10\/i=11\/i=12\/i=13\/i=14\/i=15:=by omega
def af4(a b:pr)(n:Nat):(a ^^^ b)<<<n=(a<<<n) ^^^(b<<<n):=by
 apply Cb;intro i hi;simp only [BitVec.getLsbD_xor,Vd]
 cases decide (i<16)<;>cases decide (i<n)<;>simp
def EC(a b:pr):Ve (a ^^^ b)=Ve a ^^^ Ve b:=by
 unfold Ve;rw [BitVec.msb_xor,af4]
 cases a.msb<;>cases b.msb<;>simp
 ·rw [BitVec.xor_assoc]
 ·rw [BitVec.xor_assoc,BitVec.xor_assoc];congr 1;rw [BitVec.xor_comm]
 ·generalize a<<<1=x;generalize b<<<1=y;apply Cb;intro i _;simp only [BitVec.getLsbD_xor]
  cases x.getLsbD i<;>cases y.getLsbD i<;>cases (4129#16).getLsbD i<;>rfl
def Vp(a b:pr):Kc (a ^^^ b)=Kc a ^^^ Kc b:=by unfold Kc;rw [EC,EC,EC,EC]
def af5(c:pr):c.msb=true ↔ 32768<=c.toNat:=by rw [BitVec.msb_eq_decide];simp
def ED{c:pr}(h:c.toNat<32768):Ve c=c<<<1/\(c<<<1).toNat=2*c.toNat:=by
 constructor
 ·unfold Ve;rw [if_neg];rw [af5];omega
 ·rw [BitVec.toNat_shiftLeft,Nat.shiftLeft_eq];omega
def EE(c:pr)(m n:Nat):(c<<<m)<<<n=c<<<(m+n):=(BitVec.shiftLeft_add c m n).symm
def Vq{c:pr}(h:c.toNat<4096):Kc c=c<<<4:=by unfold Kc;have h1:=ED (c:=c) ab;rw [h1.1];have h2:=ED (c:=c<<<1) ab;rw [h2.1];have h3:=ED (c:=c<<<1<<<1) ab;rw [h3.1];have h4:=ED (c:=c<<<1<<<1<<<1) ab;rw [h4.1,EE,EE,EE]
def Qf(v y:pr)(hy:y.toNat<16):(v<<<4) ^^^ Kc (((v>>>12) ^^^ y)<<<12)=Kc (v ^^^(y<<<12)):=by
 have e:v ^^^(y<<<12)=(((v>>>12) ^^^ y)<<<12) ^^^(v &&& 0xFFF#16):=by apply Cb;intro i hi;simp only [BitVec.getLsbD_xor,Vd,BitVec.getLsbD_ushiftRight,PE];rcases YF hi with rfl|rfl|rfl|rfl|rfl|rfl|rfl|rfl|rfl|rfl|rfl|rfl|rfl|rfl|rfl|rfl<;>simp
 have hl:(v &&& 0xFFF#16).toNat<4096:=by rw [zK];exact Pt Nat.and_le_right aF
 have e2:(v &&& 0xFFF#16)<<<4=v<<<4:=by apply Cb;intro i hi;simp only [Vd,PE];rcases YF hi with rfl|rfl|rfl|rfl|rfl|rfl|rfl|rfl|rfl|rfl|rfl|rfl|rfl|rfl|rfl|rfl<;>simp
 rw [e,Vp,Vq hl,e2,BitVec.xor_comm]
def YI(v x:pr)(hx:x.toNat<256):Kc (Kc (v ^^^((x>>>4)<<<12)) ^^^((x &&& 15#16)<<<12))=st8 (v ^^^(x<<<8)):=by
 have e:v ^^^(x<<<8)=(v ^^^((x>>>4)<<<12)) ^^^((x &&& 15#16)<<<8):=by apply Cb;intro i hi;simp only [BitVec.getLsbD_xor,Vd,BitVec.getLsbD_ushiftRight,PE];rcases YF hi with rfl|rfl|rfl|rfl|rfl|rfl|rfl|rfl|rfl|rfl|rfl|rfl|rfl|rfl|rfl|rfl<;>simp
 have hl:(x &&& 15#16).toNat<16:=by rw [zK];exact Pt Nat.and_le_right aF
 have L8:((x &&& 15#16)<<<8).toNat<4096:=by rw [BitVec.toNat_shiftLeft,Nat.shiftLeft_eq];omega
 unfold st8;rw [e,Vp (v ^^^ _),Vq L8,EE]
def PG(c:pr)(a b:List Int):Td c (a++b)=Td (Td c a) b:=oT ..
def wrap_u16(x:Int):mY x=x % 65536:=by simp [IntKind.wrap,IntKind.bits,IntKind.signed]
def AG(n:Nat)(hn:16<=n)(v:pr):(BitVec.ofInt n (cI v)).toNat=v.toNat:=by unfold cI;rw [y9];have h1:=v.isLt;have h2:(2:Nat) ^ 16<=2 ^ n:=Nat.pow_le_pow_right aF hn;generalize (2:Nat) ^ n=m at*;rw [Int.emod_eq_of_lt ab ab];omega
def GO(a b:pr):lk .u16 (cI a) (cI b)=cI (a ^^^ b):=by show mY ((BitVec.ofInt 16 (cI a) ^^^ BitVec.ofInt 16 (cI b)).toNat:Nat)=_;rw [BitVec.toNat_xor,AG 16 aF,AG 16 aF,<-BitVec.toNat_xor,wrap_u16];show cI _ % 65536=cI _;have:=De (a ^^^ b);omega
def ajS(v:pr)(n:Nat):cI (v<<<n)=cI v*2 ^ n % 65536:=by unfold cI;rw [BitVec.toNat_shiftLeft,Nat.shiftLeft_eq,Int.natCast_emod,Int.natCast_mul,Int.natCast_pow];rfl
def Tf(v:pr)(n:Nat):cI (v>>>n)=cI v / 2 ^ n:=by unfold cI;rw [BitVec.toNat_ushiftRight,Nat.shiftRight_eq_div_pow,Int.natCast_ediv,Int.natCast_pow];rfl
def Vg(v:pr):cI (v &&& 0x8000#16)=0 ↔ v.msb=false:=by
 have pN:v.msb=v.getLsbD 15:=rfl;constructor
 ·intro h;have h0:v &&& 0x8000#16=0#16:=Te.1 (by rw [h];rfl);have:=congrArg (λu:pr=>u.getLsbD 15) h0;simp only [PE] at this;rw [pN];simpa using this
 ·intro h;have h0:v &&& 0x8000#16=0#16:=by apply Cb;intro i hi;rw [pN] at h;simp only [PE];rcases YF hi with rfl|rfl|rfl|rfl|rfl|rfl|rfl|rfl|rfl|rfl|rfl|rfl|rfl|rfl|rfl|rfl<;>first|(simp;done)|simpa using h
  rw [h0];rfl
def ajB(a b:pr):oG .u16 (cI a) (cI b)=cI (a &&& b):=by show mY ((BitVec.ofInt 16 (cI a) &&& BitVec.ofInt 16 (cI b)).toNat:Nat)=_;rw [zK,AG 16 aF,AG 16 aF,<-zK,wrap_u16];show cI _ % 65536=cI _;have:=De (a &&& b);omega
def Vf(v:pr)(n:Nat):mY (cI v*2 ^ n)=cI (v<<<n):=by rw [wrap_u16,ajS]
def abK(v:pr)(n:Nat):(cI v).fdiv (2 ^ n)=cI (v>>>n):=by rw [Tf,tq];exact Int.le_of_lt (Int.pow_pos aF)
def ar9{x:Int}(h:0<=x/\x<256):mY (x.fdiv (2 ^ 4))=cI (Ay x>>>4):=by rw [Tf,Tc ab,tq _ aF,wrap_u16];simp only [show (2:Int) ^ 4=16 from rfl];omega
def asa{x:Int}(h:0<=x/\x<256):mY (oG .u8 x 15)=cI (Ay x &&& 15#16):=by
 have e:oG .u8 x 15=cI (Ay x &&& 15#16):=by
  show fi ((BitVec.ofInt 8 x &&& BitVec.ofInt 8 15).toNat:Nat)=_;have e8:(BitVec.ofInt 8 x).toNat=(Ay x).toNat:=by rw [EB ab,y9];simp only [show ((2 ^ 8:Nat):Int)=256 from rfl];rw [Int.emod_eq_of_lt h.1 h.2]
  rw [zK,e8];unfold cI;rw [zK];have:(Ay x).toNat &&&(15#16).toNat<16:=Pt Nat.and_le_right aF;show fi (((Ay x).toNat &&&(15#16).toNat:Nat):Int)=_;simp only [IntKind.wrap,IntKind.bits,IntKind.signed,C5,Bool.false_eq_true,if_false,show (2:Int) ^ 8=256 from rfl];omega
 rw [e,wrap_u16];have:=De (Ay x &&& 15#16);omega
def abL{a b:pr}(ha:a.toNat<16)(hb:b.toNat<16):(a ^^^ b).toNat<16:=by rw [BitVec.toNat_xor];exact Nat.xor_lt_two_pow (n:=4) ha hb
def abM(v:pr):(v>>>12).toNat<16:=by rw [BitVec.toNat_ushiftRight,Nat.shiftRight_eq_div_pow];have:=v.isLt;omega
def ahC{x:Int}(h:0<=x/\x<256):(Ay x>>>4).toNat<16:=by rw [BitVec.toNat_ushiftRight,Nat.shiftRight_eq_div_pow,EB ab];omega
def ahE(x:pr):(x &&& 15#16).toNat<16:=by rw [zK];exact Pt Nat.and_le_right aF
def tv(i:Nat):Value:=.int .u16 (cI (Kc (Ay i<<<12)))
def tS:LV:=[tv 0,tv 1,tv 2,tv 3,tv 4,tv 5,tv 6,tv 7,tv 8,tv 9,tv 10,tv 11,tv 12,tv 13,tv 14,tv 15]
def tT(k:Nat):LV:=tS.take k++List.replicate (16-k) (.int .u16 0)
def ajC{k:Nat}(hk:k<16):(tT k).set k (tv k)=tT (k+1):=by rcases YF hk with rfl|rfl|rfl|rfl|rfl|rfl|rfl|rfl|rfl|rfl|rfl|rfl|rfl|rfl|rfl|rfl<;>rfl
def ahD{u:pr}(hu:u.toNat<16):tS[(cI u).toNat]? =some (.int .u16 (cI (Kc (u<<<12)))):=by
 have e:∀k:Nat,k<16->tS[k]? =some (tv k):=λk hk=>by rcases YF hk with rfl|rfl|rfl|rfl|rfl|rfl|rfl|rfl|rfl|rfl|rfl|rfl|rfl|rfl|rfl|rfl<;>rfl
 have h1:(cI u).toNat=u.toNat:=rfl;rw [h1,e _ hu];unfold tv;have:Ay (u.toNat:Int)=u:=ajR u;rw [this]
def XS(v:pr){x:Int}(h:0<=x/\x<256):
  cI ((((v<<<4) ^^^ Kc (((v>>>12) ^^^(Ay x>>>4))<<<12))<<<4) ^^^ Kc (((((v<<<4) ^^^ Kc (((v>>>12) ^^^(Ay x>>>4))<<<12))>>>12) ^^^(Ay x &&& 15#16))<<<12))=cI (amZ v x):=by
 rw [Qf v _ (ahC h),Qf _ _ (ahE _),YI v _ (by rw [EB ab];omega)];rfl
def be:Nat->Int->List Int
 |0,_=> []
 |m+1,n=>n / 256 ^ m % 256::be m n
def gF(b:List Int):Int:=b.foldl (λn c=>n*256+c) 0
def mX(v:Int)(body:List Int):List Int:=be 4 v++be 3 body.length++body
def CK(b:List Int):List Int:=b++KT b
def Ek(v:Int)(body:List Int):List Int × Int:=if v<1\/v>1073741824\/(body.length:Int)>65536 then ([],1) else (CK (mX v body),0)
def vP(b:List Int):List Int × Int:=if b.length<2 then ([],3) else if xz b=0#16 then (b.take (b.length-2),0) else ([],4)
def ur(b:List Int):Int × List Int × Int:=
 if (vP b).2≠0 then (0,[],(vP b).2)
 else if (vP b).1.length<7 then (0,[],3)
 else if gF ((vP b).1.take 4)<1\/gF ((vP b).1.take 4)>1073741824\/gF (((vP b).1.drop 4).take 3)>65536\/gF (((vP b).1.drop 4).take 3)≠(((vP b).1.drop 7).length:Int) then (0,[],2)
 else (gF ((vP b).1.take 4),(vP b).1.drop 7,0)
def GR:∀(m:Nat)(n:Int),(be m n).length=m
 |0,_=>rfl
 |m+1,n=>by simp [be,GR m n]
def acm:∀(m:Nat)(n:Int),nC (be m n)
 |0,_=>λc hc=>by cases hc
 |m+1,n=>λc hc=>by
  rcases cB.1 hc with rfl|hc
  ·omega
  ·exact acm m n c hc
def PO(b:List Int)(c:Int):gF (b++ [c])=gF b*256+c:=by unfold gF;rw [oT];rfl
def af2(b:List Int):nC (KT b):=λc hc=>by
 have:=De (xz b)
 simp only [KT,cB,iJ,or_false] at hc
 rcases hc with rfl|rfl<;>omega
def acn(b:List Int):(KT b).length=2:=rfl
def nC.app{a b:List Int}(ha:nC a)(hb:nC b):nC (a++b):=λc hc=>(cV.1 hc).elim (ha c) (hb c)
def Vl{v:Int}{body:List Int}(h:nC body):nC (mX v body):=((acm 4 v).app (acm 3 _)).app h
def aco{b:List Int}(h:nC b):nC (CK b):=h.app (af2 b)
def ajN{v:Int}{body:List Int}(h:nC body):nC (Ek v body).1:=by
 unfold Ek;split
 ·intro c hc;cases hc
 ·exact aco (Vl h)
def PR(v:Int)(body:List Int):(mX v body).length=7+body.length:=by unfold mX;simp [GR];omega
def Jq(b:List Int):(CK b).length=b.length+2:=by unfold CK;rw [dv,acn]
def amr{b:List Int}:(ur b).2.2=0->1<=(ur b).1/\(ur b).1<=1073741824:=by
 intro h;unfold ur at h ⊢;split at h
 ·rename_i q;exact absurd h q
 ·rename_i q;rw [if_neg q];split at h
  ·cases h
  ·rename_i q2;rw [if_neg q2];split at h
   ·cases h
   ·rename_i q3;rw [if_neg q3];simp only [not_or] at q3;simp only;omega
def ams{b:List Int}:(ur b).2.2≠0->(ur b).1=0/\(ur b).2.1=[]:=by
 intro h;unfold ur at h ⊢;split
 ·exact ⟨rfl,rfl⟩
 ·split
  ·exact ⟨rfl,rfl⟩
  ·split
   ·exact ⟨rfl,rfl⟩
   ·rename_i q q2 q3;rw [if_neg q,if_neg q2,if_neg q3] at h;exact absurd rfl h
def Vn{b:List Int}(hb:nC b):∀k:Nat,0<=gF (b.take k)/\gF (b.take k)<256 ^ k
 |0=>by rw [CO];exact ⟨oP 0,by decide⟩
 |k+1=>by
  obtain ⟨h1,h2⟩:=Vn hb k
  rw [dR]
  cases hx:b[k]? with
  |none=>
   rw [Int.pow_succ]
   simp only [Option.toList_none,q8]
   generalize (256:Int) ^ k=p at*
   omega
  |some x=>
   have:=hb x (aX hx)
   rw [Int.pow_succ]
   simp only [Option.toList_some]
   rw [PO]
   generalize (256:Int) ^ k=p at*
   omega
def Tq{b:List Int}(hb:nC b){k:Nat}(hk:k<=4):0<=gF (b.take k)/\gF (b.take k)<4294967296:=by
 obtain ⟨h1,h2⟩:=Vn hb k;have h3:(256:Int) ^ k<=4294967296:=by
  rcases k with _|_|_|_|_|k
  ·decide
  ·decide
  ·decide
  ·decide
  ·decide
  ·omega
 exact ⟨h1,Int.lt_of_lt_of_le h2 h3⟩
def abS{n c:Int}(hn:0<=n/\n<281474976710656)(hc:0<=c/\c<256):MM .i64 (n*256) c=n*256+c:=by
 show ao ((BitVec.ofInt 64 (n*256)|||BitVec.ofInt 64 c).toNat:Nat)=_;have e1:(BitVec.ofInt 64 (n*256)).toNat=2 ^ 8*n.toNat:=by rw [y9];simp only [show ((2 ^ 64:Nat):Int)=18446744073709551616 from rfl,show (2:Nat) ^ 8=256 from rfl];omega
 have e2:(BitVec.ofInt 64 c).toNat=c.toNat:=by rw [y9];simp only [show ((2 ^ 64:Nat):Int)=18446744073709551616 from rfl];omega
 rw [BitVec.toNat_or,e1,e2,<-Nat.two_pow_add_eq_or_of_lt (i:=8) (b:=c.toNat) ab n.toNat];simp only [show (2:Nat) ^ 8=256 from rfl];have:((256*n.toNat+c.toNat:Nat):Int)=n*256+c:=by omega
 rw [this];exact wI
abbrev qY:=Int × List Int
structure Dk where
 room:Int
 qi:Int
 wait:Int
 safe:List qY
 l:List qY
def acp:Bool->List qY->qY->List qY
 |done,[],w=>if done then [] else [w]
 |done,x::t,w=>(if done=false/\x.1>=w.1 then [w] else [])++(if x.1≠w.1 then [x] else [])++acp (done||decide (x.1>=w.1)) t w
def lay(l:List qY)(w:qY):List qY:=acp false l w
def vX(d:Dk):List qY:=d.l.foldl lay d.safe
def oV(l:List qY):Nat:=(l.map λx=>x.2.length).sum
def pE(l:List qY)(k:Int):Option (List Int):=(l.find? λx=>x.1==k).map (·.2)
def km(d:Dk):Dk × Bool:=if 0<d.wait then ({d with wait:=0},false) else if 0<d.qi then ({d with qi:=d.qi-1},true) else (d,false)
def nT(d:Dk)(k:Int)(b:List Int):Dk × Int:=
 if (km d).2=true then ((km d).1,9) else if (oV (lay (vX d) (k,b)):Int)>d.room then ((km d).1,8) else ({(km d).1 with l:=d.l++ [(k,b)]},0)
def getD(d:Dk)(k:Int):List Int:=(pE (vX d) k).getD []
def tj(d:Dk):Dk × Int:=if (km d).2=true then ((km d).1,9) else ({(km d).1 with safe:=vX d,l:=[]},0)
def Kq:∀(l:List qY)(w:qY),acp true l w=l.filter λx=>decide (x.1≠w.1)
 | [],_=>rfl
 |x::t,w=>by
  unfold acp
  rw [if_neg cp,Bool.true_or,Kq t w,CH]
  by_cases h:x.1=w.1<;>simp [h]
def yY:∀(l:List qY)(w:qY),(lay l w).Perm (w::l.filter λx=>decide (x.1≠w.1))
 | [],_=> .refl _
 |x::t,w=>by
  unfold lay acp
  rw [Bool.false_or]
  by_cases h:x.1>=w.1
  ·rw [if_pos ⟨rfl,h⟩,decide_eq_true h,Kq,CH]
   by_cases h2:x.1=w.1
   ·rw [if_neg (by simp [h2]),if_neg (by simp [h2])];exact .refl _
   ·rw [if_pos h2,if_pos (by simp [h2])];exact .refl _
  ·rw [if_neg λq=>h q.2,decide_eq_false h,if_pos ab,CH,if_pos (by simp;omega)]
   have ih:=yY t w
   unfold lay at ih
   exact (List.Perm.cons x ih).trans (List.Perm.swap _ _ _)
def iQ(l:List qY):List Int:=l.map (·.1)
def L7{l:List qY}(p:qY->Bool)(h:(iQ l).Nodup):(iQ (l.filter p)).Nodup:=h.sublist ((List.filter_sublist).map _)
def Yr{l:List qY}{w:qY}(h:(iQ l).Nodup):(iQ (lay l w)).Nodup:=by refine ((yY l w).map (·.1)).nodup_iff.2 ?_;rw [fu];refine oL.2 ⟨λhm=> ?_,L7 _ h⟩;obtain ⟨x,hx,e⟩:=aW.1 hm;have:=(iI.1 hx).2;simp at this;exact this e
def uH:∀(t:List qY) {l:List qY},(iQ l).Nodup->(iQ (t.foldl lay l)).Nodup
 | [],_,h=>h
 |w::t,_,h=>uH t (Yr h)
def JS{a b:List qY}(h:a.Perm b):oV a=oV b:=(h.map λx:qY=>x.2.length).sum_nat
def rF(x:qY)(t:List qY):oV (x::t)=x.2.length+oV t:=rfl
def BJ{l:List qY}(h:(iQ l).Nodup){k:Int}{b:List Int}:pE l k=some b ↔(k,b) ∈ l:=by
 unfold pE
 induction l with
 |nil=>simp
 |cons x t ih=>
  have hn:=oL.1 h;rw [List.find?_cons];by_cases e:x.1=k
  ·rw [beq_iff_eq.2 e];simp only [nB,Option.some.injEq,cB];constructor
   ·rintro rfl;exact .inl (by rw [<-e])
   ·rintro (q|q)
    ·rw [<-q]
    ·exact absurd (aW.2 ⟨_,q,e.symm⟩) hn.1
  ·rw [show (x.1==k)=false by simpa using e,ih hn.2];simp only [cB];constructor
   ·exact .inr
   ·rintro (q|q)
    ·exact absurd (by rw [<-q]) e
    ·exact q
def BI{l:List qY}{k:Int}:pE l k=none ↔ ∀x ∈ l,x.1≠k:=by unfold pE;rw [Option.map_eq_none_iff,Oj];simp
def W9{a b:List qY}(h:a.Perm b)(ha:(iQ a).Nodup)(k:Int):pE a k=pE b k:=by
 have hb:(iQ b).Nodup:=(h.map λx:qY=>x.1).nodup_iff.1 ha
 cases q:pE b k with
 |some x=>exact (BJ ha).2 (h.mem_iff.2 ((BJ hb).1 q))
 |none=>exact BI.2 λx hx=>BI.1 q x (h.mem_iff.1 hx)
def C8{l:List qY}(h:(iQ l).Nodup)(k:Int):oV (l.filter λx=>decide (x.1≠k))+((pE l k).getD []).length=oV l:=by
 induction l with
 |nil=>rfl
 |cons x t ih=>
  have hn:=oL.1 h;rw [CH];by_cases e:x.1=k
  ·rw [if_neg (by simp [e])];have hg:pE (x::t) k=some x.2:=by unfold pE;rw [List.find?_cons,beq_iff_eq.2 e];rfl
   have ht:t.filter (λx=>decide (x.1≠k))=t:=MZ.2 λy hy=>by simp only [ne_eq,decide_not,Bool.not_eq_true',fm];intro q;exact hn.1 (aW.2 ⟨y,hy,q.trans e.symm⟩)
   rw [hg,ht,rF,Option.getD_some];omega
  ·rw [if_pos (by simp [e])];have hg:pE (x::t) k=pE t k:=by unfold pE;rw [List.find?_cons,show (x.1==k)=false by simpa using e]
   have:=ih hn.2;rw [hg,rF,rF];omega
def abb{l:List qY}(h:(iQ l).Nodup)(w:qY):oV (lay l w)+((pE l w.1).getD []).length=oV l+w.2.length:=by have:=C8 h w.1;rw [JS (yY l w),rF];omega
structure ya(d:Dk):Prop where
 nd:(iQ d.safe).Nodup
 len:∀k,(oV ((d.l.take k).foldl lay d.safe):Int)<=d.room
 w:0<=d.wait/\d.wait<=1
 f:0<=d.qi/\d.qi<=9223372036854775807
 r:0<=d.room/\d.room<=1048576
def ya.now{d:Dk}(h:ya d):(iQ (vX d)).Nodup:=uH _ h.nd
def ya.ajb{d:Dk}(h:ya d):(oV (vX d):Int)<=d.room:=by have:=h.len d.l.length;rwa [iR] at this
def lI(d:Dk):(km d).1.safe=d.safe/\(km d).1.l=d.l/\(km d).1.room=d.room:=by
 unfold km;split
 ·exact ⟨rfl,rfl,rfl⟩
 ·split<;>exact ⟨rfl,rfl,rfl⟩
def ya.ask{d:Dk}(h:ya d):ya (km d).1:=by
 obtain ⟨e1,e2,e3⟩:=lI d;refine ⟨by rw [e1];exact h.nd,by rw [e1,e2,e3];exact h.len,?_,?_,by rw [e3];exact h.r⟩
 ·unfold km;have:=h.w;split
  ·simp
  ·split<;>exact this
 ·unfold km;have:=h.f;split
  ·exact this
  ·split
   ·simp only;omega
   ·exact this
def ya.put{d:Dk}(h:ya d)(k:Int)(b:List Int):ya (nT d k b).1:=by
 have ha:=h.ask;obtain ⟨e1,e2,e3⟩:=lI d;unfold nT;split
 ·exact ha
 ·split
  ·exact ha
  ·rename_i hr;refine ⟨by rw [e1];exact h.nd,λn=> ?_,ha.w,ha.f,ha.r⟩;rw [e1,e3];simp only;by_cases hn:n<=d.l.length
   ·rw [J0 hn];exact h.len n
   ·rw [fN (by simp;omega),oT];show (oV (lay (vX d) (k,b)):Int)<=_;omega
def ya.sync{d:Dk}(h:ya d):ya (tj d).1:=by
 have ha:=h.ask;obtain ⟨e1,e2,e3⟩:=lI d;unfold tj;split
 ·exact ha
 ·refine ⟨h.now,λn=> ?_,ha.w,ha.f,ha.r⟩;simp only [List.take_nil,List.foldl_nil];rw [e3];exact h.ajb
open Classical in
noncomputable def KR{α:Type}(f:α->Int)(l:List α)(x:α):List α:=if ∃y ∈ l,f y=f x then l.map (λy=>if f y=f x then x else y) else l++ [x]
def Jn{α:Type}(f:α->Int)(x:α):∀{l:List α},(l.map f).Nodup->(KR f l x).Perm (x::l.filter λy=>decide (f y≠f x))
 | [],_=>by unfold KR;rw [if_neg cp];exact .refl _
 |y::t,h=>by
  have hn:=oL.1 h
  have ih:=Jn f x hn.2
  by_cases e:f y=f x
  ·have mO:∀z ∈ t,f z≠f x:=λz hz q=>hn.1 (aW.2 ⟨z,hz,q.trans e.symm⟩)
   unfold KR
   rw [if_pos ⟨y,.head _,e⟩,fu,if_pos e,CH,if_neg (by simp [e])]
   rw [MZ.2 (λz hz=>by simpa using mO z hz)]
   have:t.map (λy=>if f y=f x then x else y)=t:=by
    conv=>rhs;rw [<-List.map_id t]
    exact wG λz hz=>by rw [if_neg (mO z hz)];rfl
   rw [this]
  ·rw [CH,if_pos (by simp [e])];refine List.Perm.trans ?_ (List.Perm.swap _ _ _);refine List.Perm.trans ?_ (List.Perm.cons y ih);unfold KR;by_cases q:∃z ∈ t,f z=f x
   ·obtain ⟨z,hz,qz⟩:=q;rw [if_pos ⟨z,.tail _ hz,qz⟩,if_pos ⟨z,hz,qz⟩,fu,if_neg e]
   ·rw [if_neg (by
     rintro ⟨z,hz,qz⟩;rcases cB.1 hz with rfl|hz
     ·exact e qz
     ·exact q ⟨z,hz,qz⟩),if_neg q]
    exact .refl _
def Z1{α:Type}{f:α->Int}{l:List α}{x y:α}(h:y ∈ KR f l x):y=x\/y ∈ l:=by
 unfold KR at h;split at h
 ·obtain ⟨z,hz,e⟩:=aW.1 h;split at e
  ·exact .inl e.symm
  ·exact .inr (e▸hz)
 ·rcases cV.1 h with h|h
  ·exact .inr h
  ·exact .inl (by simpa using h)
def Z2{α:Type}{f:α->Int}{g:α->List Int}{l:List α}{s:List qY}(x:α)(h:(l.map λy=>(f y,g y)).Perm s)(hn:(iQ s).Nodup):((KR f l x).map λy=>(f y,g y)).Perm (lay s (f x,g x)):=by
 have hk:(l.map f).Nodup:=by have:=(h.map λy:qY=>y.1).nodup_iff.2 hn;rwa [kS] at this
 refine ((Jn f x hk).map _).trans ?_;refine List.Perm.trans ?_ (yY s (f x,g x)).symm;rw [fu];refine List.Perm.cons _ ?_;have:=h.filter λy=>decide (y.1≠f x)
 rw [List.filter_map] at this;exact this
abbrev Rc:=Int × Int × List Int
def lv(best:Rc)(slot:Int)(r:Int × List Int × Int):Rc:=if r.2.2=0/\r.1>best.2.1 then (slot,r.1,r.2.1) else best
def oM(D:Dk)(id:Int):Rc:=lv (lv (2*id+1,0,[]) (2*id) (ur (getD D (2*id)))) (2*id+1) (ur (getD D (2*id+1)))
def H0(id:Int):Bool:=decide (0<=id) && decide (id<=1099511627776)
def Jo(D:Dk)(id:Int):List Int × Int × Bool:=if H0 id=true then ((oM D id).2.2,(oM D id).2.1,decide ((oM D id).2.1>0)) else ([],0,false)
def yZ(D:Dk)(id:Int)(body:List Int):Dk × Int:=
 if H0 id=true then
  if (Ek ((oM D id).2.1+1) body).2≠0 then (D,(Ek ((oM D id).2.1+1) body).2)
  else if (nT D (4*id+1-(oM D id).1) (Ek ((oM D id).2.1+1) body).1).2≠0 then nT D (4*id+1-(oM D id).1) (Ek ((oM D id).2.1+1) body).1
  else tj (nT D (4*id+1-(oM D id).1) (Ek ((oM D id).2.1+1) body).1).1
 else (D,1)
def aeT(n:Nat):(2*n) ^^^ 1=2*n+1/\(2*n+1) ^^^ 1=2*n:=by
 have h1:=Nat.xor_div_two (a:=2*n) (b:=1);have par:∀a:Nat,(a ^^^ 1) % 2=1 ↔ ¬a % 2=1:=λa=>by have:=Nat.testBit_xor a 1 0;rw [Nat.testBit_zero,Nat.testBit_zero,Nat.testBit_zero] at this;simp only [Nat.reduceMod,decide_true,Bool.xor_true] at this;rw [<-decide_eq_true_iff (p:=(a ^^^ 1) % 2=1),this];simp
 have h2:=par (2*n);have h3:=Nat.xor_div_two (a:=2*n+1) (b:=1);have h4:=par (2*n+1);rw [show 1 / 2=0 from rfl,Nat.xor_zero] at h1 h3;omega
def Z3{id:Int}(h:0<=id/\id<=1099511627776):lk .i64 (2*id) 1=2*id+1/\lk .i64 (2*id+1) 1=2*id:=by
 have key:∀n:Nat,n<=2 ^ 60->lk .i64 (n:Int) 1=((n ^^^ 1:Nat):Int):=λn hn=>by
  show ao ((BitVec.ofInt 64 (n:Int) ^^^ BitVec.ofInt 64 1).toNat:Nat)=_;have e1:(BitVec.ofInt 64 (n:Int)).toNat=n:=by rw [y9];simp only [show ((2 ^ 64:Nat):Int)=18446744073709551616 from rfl];omega
  rw [BitVec.toNat_xor,e1];show ao ((n ^^^ 1:Nat):Int)=_;have:n ^^^ 1<2 ^ 61:=Nat.xor_lt_two_pow ab aF;exact wI
 obtain ⟨x1,x2⟩:=aeT id.toNat;constructor
 ·have:=key (2*id.toNat) ab;rw [x1] at this;rw [show 2*id=((2*id.toNat:Nat):Int) by omega,this];omega
 ·have:=key (2*id.toNat+1) ab;rw [x2] at this;rw [show 2*id+1=((2*id.toNat+1:Nat):Int) by omega,this];omega
def E9{best:Rc}{slot:Int}{r:Int × List Int × Int}:(lv best slot r).1=best.1\/(lv best slot r).1=slot:=by
 unfold lv;split
 ·exact .inr rfl
 ·exact .inl rfl
def Z4(D:Dk)(id:Int):(oM D id).1=2*id\/(oM D id).1=2*id+1:=by
 unfold oM;rcases E9 (best:=lv (2*id+1,0,[]) (2*id) (ur (getD D (2*id)))) (slot:=2*id+1) (r:=ur (getD D (2*id+1))) with h|h
 ·rw [h];rcases E9 (best:=(2*id+1,0,[])) (slot:=2*id) (r:=ur (getD D (2*id))) with h|h
  ·exact .inr h
  ·exact .inl h
 ·exact .inr h
def aiP(b:List Int):0<=(ur b).1/\(ur b).1<=1073741824:=by
 by_cases h:(ur b).2.2=0
 ·have:=amr h;omega
 ·rw [(ams h).1];omega
def Uy{best:Rc}{slot:Int}(b:List Int)(h:0<=best.2.1/\best.2.1<=1073741824):0<=(lv best slot (ur b)).2.1/\(lv best slot (ur b)).2.1<=1073741824:=by
 unfold lv;split
 ·exact aiP b
 ·exact h
def amt(D:Dk)(id:Int):0<=(oM D id).2.1/\(oM D id).2.1<=1073741824:=Uy _ (Uy _ (show (0:Int)<=0/\(0:Int)<=1073741824 by decide))
def Z5(D:Dk):(km D).1.l=D.l:=(lI D).2.1
def Z6(D:Dk)(k:Int)(b:List Int):(nT D k b).1.l.length<=D.l.length+1:=by
 unfold nT;split
 ·rw [Z5];omega
 ·split
  ·rw [Z5];omega
  ·simp
def aiQ(D:Dk):(tj D).1.l.length<=D.l.length:=by
 unfold tj;split
 ·rw [Z5];omega
 ·simp
def Z7(D:Dk)(id:Int)(b:List Int):(yZ D id b).1.l.length<=D.l.length+1:=by
 unfold yZ;split
 ·split
  ·exact oN _
  ·split
   ·exact Z6 _ _ _
   ·exact gx (aiQ _) (Z6 _ _ _)
 ·exact oN _
def afm{room id:Int}:Jo ⟨room,0,0,[],[]⟩ id=([],0,false):=by unfold Jo;split<;>rfl
end Go.cZ
namespace Go.fh
open Go Go.Vc
abbrev Cl:=Int × Int × Int
abbrev It:=Int × Cl
def cv(c:Cl):Value:=.agg #[c.1,c.2.1,c.2.2]
def tv(t:Int):Value:=.int .i64 t
abbrev eg(c:Cl):LV:=[.int .i64 c.1,.int .i64 c.2.1,.int .i64 c.2.2]
abbrev fV(x:It):LV:=[.int .i64 x.1,.int .i64 x.2.1,.int .i64 x.2.2.1,.int .i64 x.2.2.2]
def Gp{a b:Cl}(h:cv a=cv b):a=b:=by unfold cv at h;obtain ⟨a1,a2,a3⟩:=a;obtain ⟨b1,b2,b3⟩:=b;simp at h;obtain ⟨rfl,rfl,rfl⟩:=h;rfl
structure QS where
 room:Int
 lost:Int
 l:List It
def g9(l:List It)(c:Cl):List It:=l.filter λx=>x.2 !=c
def ye(l:List It)(x:It):List It:=l.takeWhile (λy=>y.1<=x.1)++x::l.dropWhile (λy=>y.1<=x.1)
def oX(l:List It)(c:Cl):Option Int:=(l.find? λx=>x.2==c).map (·.1)
def pF(q:QS)(c:Cl)(t:Int):QS × Bool:=
 match oX q.l c with
 |some was=>if was<=t then (q,false) else ({q with l:=ye (g9 q.l c) (t,c)},true)
 |none=>if (q.l.length:Int)>=q.room then ({q with lost:=q.lost+1},false) else ({q with l:=ye q.l (t,c)},true)
def iu(l:List It)(now many:Int):Nat:=min (l.takeWhile λy=>y.1<=now).length many.toNat
def Lx(q:QS)(now many:Int):QS × List Cl:=({q with l:=q.l.drop (iu q.l now many)},(q.l.take (iu q.l now many)).map (·.2))
structure Lw(q:QS):Prop where
 room:1<=q.room/\q.room<=4096
 len:(q.l.length:Int)<=q.room
 sorted:q.l.Pairwise λa b=>a.1<=b.1
 nodup:(q.l.map (·.2)).Nodup
def BT(l:List It)(c:Cl):(g9 l c).Sublist l:=List.filter_sublist
def Gq{l:List It}{c:Cl}{t:Int}(h:oX l c=some t):(t,c) ∈ l:=by
 unfold oX at h
 cases hf:l.find? (λx=>x.2==c) with
 |none=>rw [hf] at h;cases h
 |some x=>
  rw [hf] at h;have h1:=List.find?_some hf;have h2:=Ju hf;obtain ⟨a,b⟩:=x;simp at h h1;subst h;subst h1;exact h2
def sM{l:List It}{c:Cl}(h:oX l c=none):∀x ∈ l,x.2≠c:=by unfold oX at h;rw [Option.map_eq_none_iff,Oj] at h;intro x hx e;exact h x hx (by simp [e])
def JT{l:List It}(h:l.Pairwise λa b=>a.1<=b.1)(t:Int):(∀y ∈ l.takeWhile (λy=>y.1<=t),y.1<=t)/\(∀y ∈ l.dropWhile (λy=>y.1<=t),t<y.1):=by
 induction l with
 |nil=>simp
 |cons a l ih=>
  rw [List.pairwise_cons] at h;by_cases ha:a.1<=t
  ·rw [List.takeWhile_cons_of_pos (by simpa using ha),List.dropWhile_cons_of_pos (by simpa using ha)];obtain ⟨i1,i2⟩:=ih h.2;refine ⟨λy hy=> ?_,i2⟩;rcases cB.1 hy with rfl|hy
   ·exact ha
   ·exact i1 y hy
  ·rw [List.takeWhile_cons_of_neg (by simpa using ha),List.dropWhile_cons_of_neg (by simpa using ha)];refine ⟨by simp,λy hy=> ?_⟩;rcases cB.1 hy with rfl|hy
   ·omega
   ·have:=h.1 y hy;omega
def Aj{l:List It}(h:l.Pairwise λa b=>a.1<=b.1)(t:Int){i:Nat}{y:It}(hi:l[i]? =some y):i<(l.takeWhile (λy=>y.1<=t)).length ↔ y.1<=t:=by
 have hs:=JT h t;have e:=JU (p:=λy:It=>decide (y.1<=t)) (l:=l);constructor
 ·intro iC;rw [<-e,oI iC] at hi;exact hs.1 y (aX hi)
 ·intro hle;rcases jD i (l.takeWhile (λy=>y.1<=t)).length with iC|TL
  ·exact iC
  ·rw [<-e,qW TL] at hi;have:=hs.2 y (aX hi);omega
def afz(l:List It)(x:It):l.take (l.takeWhile λy=>decide (y.1<=x.1)).length++x::l.drop (l.takeWhile λy=>decide (y.1<=x.1)).length=ye l x:=by
 have h:∀(a b l:List It),a++b=l->l.take a.length++x::l.drop a.length=a++x::b:=by rintro a b _ rfl;simp
 exact h _ _ _ (JU (p:=λy:It=>decide (y.1<=x.1)) (l:=l))
def O3(l:List It)(x:It):(ye l x).length=l.length+1:=by have e:=congrArg List.length (JU (p:=λy:It=>decide (y.1<=x.1)) (l:=l));unfold ye;simp only [dv,du] at e ⊢;omega
def Gr(l:List It)(x y:It):y ∈ ye l x ↔ y=x\/y ∈ l:=by
 unfold ye;conv=>rhs;rw [<-JU (p:=λy:It=>decide (y.1<=x.1)) (l:=l)]
 simp only [cV,cB];constructor
 ·rintro (h|h|h)
  ·exact .inr (.inl h)
  ·exact .inl h
  ·exact .inr (.inr h)
 ·rintro (h|h|h)
  ·exact .inr (.inl h)
  ·exact .inl h
  ·exact .inr (.inr h)
def Db{l:List It}(h:l.Pairwise λa b=>a.1<=b.1)(x:It):(ye l x).Pairwise λa b=>a.1<=b.1:=by
 have hs:=JT h x.1;have e:=JU (p:=λy:It=>decide (y.1<=x.1)) (l:=l);unfold ye;rw [<-e,List.pairwise_append] at h;rw [List.pairwise_append];refine ⟨h.1,List.pairwise_cons.2 ⟨λy hy=>by have:=hs.2 y hy;omega,h.2.1⟩,λa ha b hb=> ?_⟩;rcases cB.1 hb with rfl|hb
 ·exact hs.1 a ha
 ·exact h.2.2 a ha b hb
def Gs{l:List It}(h:(l.map (·.2)).Nodup){x:It}(hx:∀y ∈ l,y.2≠x.2):((ye l x).map (·.2)).Nodup:=by
 have e:=JU (p:=λy:It=>decide (y.1<=x.1)) (l:=l);unfold ye;have hx':∀y ∈ l.takeWhile (λy=>y.1<=x.1)++l.dropWhile (λy=>y.1<=x.1),y.2≠x.2:=by rw [e];exact hx
 rw [<-e,bW,tA] at h;rw [bW,fu,tA];refine ⟨h.1,oL.2 ⟨λhm=> ?_,h.2.1⟩,λa ha b hb=> ?_⟩
 ·obtain ⟨y,hy,e⟩:=aW.1 hm;exact hx' y (O4 _ hy) e
 ·rcases cB.1 hb with rfl|hb
  ·obtain ⟨y,hy,rfl⟩:=aW.1 ha;exact hx' y (Ak _ hy)
  ·exact h.2.2 a ha b hb
def Lw.add{q:QS}(h:Lw q)(c:Cl)(t:Int):Lw (pF q c t).1:=by
 unfold pF;split
 ·rename_i was hw;split
  ·exact h
  ·have eX:=BT q.l c;have iC:(g9 q.l c).length<q.l.length:=by
    have hm:=Gq hw;have:(g9 q.l c).length≠q.l.length:=λe=>by have:=eX.eq_of_length e;rw [<-this] at hm;unfold g9 at hm;simp at hm
    have:=eX.length_le;omega
   have:=h.len;exact ⟨h.room,by rw [O3];show ((_:Nat):Int)<=q.room;omega,Db (h.sorted.sublist eX) _,Gs ((eX.map _).nodup h.nodup) (λy hy=>by unfold g9 at hy;simp at hy;exact hy.2)⟩
 ·rename_i hn;split
  ·exact ⟨h.room,h.len,h.sorted,h.nodup⟩
  ·exact ⟨h.room,by rw [O3];show ((_:Nat):Int)<=q.room;omega,Db h.sorted _,Gs h.nodup (sM hn)⟩
def Lw.drop{q:QS}(h:Lw q)(c:Cl):Lw {q with l:=g9 q.l c}:=by have eX:=BT q.l c;have:=eX.length_le;have:=h.len;exact ⟨h.room,by show ((g9 q.l c).length:Int)<=q.room;omega,h.sorted.sublist eX,(eX.map _).nodup h.nodup⟩
def Lw.due{q:QS}(h:Lw q)(now many:Int):Lw (Lx q now many).1:=by have eX:(q.l.drop (iu q.l now many)).Sublist q.l:=List.drop_sublist _ _;have:=eX.length_le;have:=h.len;exact ⟨h.room,by show ((q.l.drop (iu q.l now many)).length:Int)<=q.room;omega,h.sorted.sublist eX,(eX.map _).nodup h.nodup⟩
def JO(q:QS)(c:Cl)(t:Int):q.lost<=(pF q c t).1.lost/\(pF q c t).1.lost<=q.lost+1:=by
 unfold pF;split
 ·split<;>exact ⟨oP _,by show q.lost<=q.lost+1;omega⟩
 ·split
  ·exact ⟨by show q.lost<=q.lost+1;omega,oP _⟩
  ·exact ⟨oP _,by show q.lost<=q.lost+1;omega⟩
def Xk{q:QS}(h:Lw q)(now many:Int){k:Nat}{x:It}(hx:q.l[k]? =some x):k<iu q.l now many ↔(k:Int)<many/\x.1<=now:=by have:=Aj h.sorted now hx;unfold iu;rw [<-this];omega
def Xl(l:List It)(now many:Int):iu l now many<=l.length:=by have:=(List.takeWhile_sublist (λy:It=>decide (y.1<=now)) (l:=l)).length_le;unfold iu;omega
end Go.fh
namespace Go.fh
end Go.fh
namespace Go.eH
open Go Go.Vc Go.cZ Go.fh
abbrev Cg:=Ce × Int
def rq(b:Int):Bool:=decide (8<=b) && decide (b<16)
def jL(b:Int):Int:=if b=3 then 2 else if rq b then 5 else 0
def gQ(b:Int):Int:=if rq b then b-8 else -1
def kr(l:Int):Int:=8+min (max l 0) 7
def j8(b:Int):Bool:=decide (b=0)||rq b
def eY(c:Ce):Ce:=(c.1,c.2.1-1,c.2.2)
def xg(c:Ce):Ce:=(c.1,c.2.1+1,c.2.2)
def cS(c:Ce):List Ce:=[(c.1-1,c.2.1,c.2.2),(c.1+1,c.2.1,c.2.2),(c.1,c.2.1,c.2.2-1),(c.1,c.2.1,c.2.2+1)]
def nX(c:Ce):List Ce:=[(c.1-1,c.2.1,c.2.2),(c.1+1,c.2.1,c.2.2),eY c,xg c,(c.1,c.2.1,c.2.2-1),(c.1,c.2.1,c.2.2+1)]
def oW(V:Ce->Int)(c:Ce):List Ce:=(c::nX c).filter λn=>decide (0<jL (V n))
def tz(V:Ce->Int)(now:Int)(q:QS)(c:Ce):QS:=(oW V c).foldl (λq n=>(pF q n (now+jL (V n))).1) q
def xD(V:Ce->Int)(l:List Ce):Int:=l.foldl (λm n=>if 0<=gQ (V n) then min m (gQ (V n)) else m) 7
def fR(V:Ce->Int)(c:Ce):Int × Bool:=if rq (V (xg c)) then (1,true) else if xD V (cS c)=7 then (0,false) else (xD V (cS c)+1,true)
def GY(V:Ce->Int)(c:Ce):List Cg:=if j8 (V (eY c)) then [(c,V (eY c)),(eY c,3)] else []
def kX(V:Ce->Int)(c:Ce)(level:Int):List Cg:=
 if 0<level/\(fR V c).2=false then [(c,0)]
 else if 0<level/\(fR V c).1≠level then [(c,kr (fR V c).1)]
 else if V (eY c)=0 then [(eY c,kr 1)]
 else if rq (V (eY c))=true\/7<=level then []
 else ((cS c).filter λn=>decide (V n=0)).map λn=>(n,kr (level+1))
def gd(V:Ce->Int)(c:Ce):List Cg:=if V c=3 then GY V c else if rq (V c) then kX V c (gQ (V c)) else []
end Go.eH
namespace Go.gr
open Go Go.Vc Go.cZ
abbrev Bx:=Ce × Ce
def cT(n:Int):Int:=min (max n (-140737488355328)) 140737488355328
def fK(a b:Int):Int:=cT (cT a+cT b)
def jV(a b:Int):Int:=cT (cT a-cT b)
def cc(n:Int):Int:=cT n / 65536
def uD(n:Int):Int:=cT n % 65536
def pD(n:Int):Int:=min (max n (-2147483648)) 2147483648*65536
def ka(n:Int): -140737488355328<=cT n/\cT n<=140737488355328:=by unfold cT;omega
def Bw(n:Int): -2147483648<=cc n/\cc n<=2147483648:=by have:=ka n;unfold cc;omega
def nZ{n:Int}(h: -140737488355328<=n/\n<=140737488355328):cT n=n:=by unfold cT;omega
def dA(v:Ce)(i:Int):Int:=if i=0 then v.1 else if i=1 then v.2.1 else if i=2 then v.2.2 else 0
def Ia(f:Int->Int->Int)(v:Ce):Ce:=(f 0 v.1,f 1 v.2.1,f 2 v.2.2)
def jW(a b:Ce):Ce:=Ia (λi n=>fK n (dA b i)) a
def xK(a b:Ce):Ce:=Ia (λi n=>jV n (dA b i)) a
def fB(v:Ce)(ax n:Int):Ce:=Ia (λi own=>if i=ax then cT n else own) v
def xJ(aD:Ce)(w h:Int):Bx:=(xK aD (max w 0 / 2,0,max w 0 / 2),jW aD (max w 0 / 2,max h 0,max w 0 / 2))
def bq(v:Ce):Ce:=(cc v.1,cc v.2.1,cc v.2.2)
def rC(b:Bx)(i:Int):Bool:=decide (dA b.1 i=dA b.2 i) && decide (uD (dA b.1 i)=0)
abbrev FM(b:Bx):Ce:=bq (jW b.2 (-1,-1,-1))
def fA(b:Bx):Ce:=(if b.1.1=b.2.1 then (bq b.1).1 else (FM b).1,if b.1.2.1=b.2.2.1 then (bq b.1).2.1 else (FM b).2.1,if b.1.2.2=b.2.2.2 then (bq b.1).2.2 else (FM b).2.2)
def CY(b:Bx):Bool:= !(rC b 0||rC b 1||rC b 2)
def cO(a b:Int):Nat:=(b-a+1).toNat
def NI(a b:Ce):List Ce:=(List.range (cO a.2.1 b.2.1*cO a.2.2 b.2.2*cO a.1 b.1)).map λk:Nat=>
 (a.1+((k % cO a.1 b.1:Nat):Int),a.2.1+((k / cO a.1 b.1 / cO a.2.2 b.2.2:Nat):Int),a.2.2+((k / cO a.1 b.1 % cO a.2.2 b.2.2:Nat):Int))
def kY(b:Bx):List Ce:=if CY b then NI (bq b.1) (fA b) else []
def g8(V:Ce->Int)(b:Bx)(p:Int->Bool):Bool:=(kY b).any λc=>p (V c)
def gz(b:Bx):Bx:=(fB b.1 1 (jV b.1.2.1 1),fB b.2 1 b.1.2.1)
def vu(v:Ce):(-2147483648<=(bq v).1/\(bq v).1<=2147483648)/\(-2147483648<=(bq v).2.1/\(bq v).2.1<=2147483648)/\-2147483648<=(bq v).2.2/\(bq v).2.2<=2147483648:=⟨Bw _,Bw _,Bw _⟩
def UM(b:Bx):(-2147483648<=(fA b).1/\(fA b).1<=2147483648)/\(-2147483648<=(fA b).2.1/\(fA b).2.1<=2147483648)/\-2147483648<=(fA b).2.2/\(fA b).2.2<=2147483648:=by have h1:=vu b.1;have h2:=vu (jW b.2 (-1,-1,-1));unfold fA FM;simp only;refine ⟨?_,?_,?_⟩<;>split<;>omega
def UN{a b i n:Nat}(h:i<n)(ha:a<b):a*n+i<b*n:=by have:=wJ n (show a+1<=b from ha);rw [oK,Nat.one_mul] at this;omega
def UO{a i n:Nat}(h:i<n):(a*n+i) % n=i/\(a*n+i) / n=a:=by
 constructor
 ·rw [Nat.mul_add_mod',Nat.mod_eq_of_lt h]
 ·rw [um,Nat.add_mul_div_right _ _ ab,Nat.div_eq_of_lt h,eK]
def afb(a b:Ce){jy jz jx:Nat}(hy:jy<cO a.2.1 b.2.1)(hz:jz<cO a.2.2 b.2.2)(hx:jx<cO a.1 b.1):
  (NI a b)[(jy*cO a.2.2 b.2.2+jz)*cO a.1 b.1+jx]? =some (a.1+(jx:Int),a.2.1+(jy:Int),a.2.2+(jz:Int)):=by
 unfold NI;rw [aR,Jk (UN hx (UN hz hy))];obtain ⟨h1,h2⟩:=UO (a:=jy*cO a.2.2 b.2.2+jz) hx;obtain ⟨h3,h4⟩:=UO (a:=jy) hz;simp only [nB,h1,h2,h3,h4]
def aav(a b:Ce):(NI a b).length=cO a.2.1 b.2.1*cO a.2.2 b.2.2*cO a.1 b.1:=by unfold NI;simp
def NJ{a b c:Ce}(h:c ∈ NI a b):(a.1<=c.1/\c.1<=b.1)/\(a.2.1<=c.2.1/\c.2.1<=b.2.1)/\a.2.2<=c.2.2/\c.2.2<=b.2.2:=by
 unfold NI at h;obtain ⟨k,hk,rfl⟩:=aW.1 h;have hk:=nt.1 hk;have hx:0<cO a.1 b.1:=by
  by_cases q:cO a.1 b.1=0
  ·rw [q,Nat.mul_zero] at hk;omega
  ·omega
 have hz:0<cO a.2.2 b.2.2:=by
  by_cases q:cO a.2.2 b.2.2=0
  ·rw [q,Nat.mul_zero,Nat.zero_mul] at hk;omega
  ·omega
 have h1:=Nat.mod_lt k hx;have h2:=Nat.mod_lt (k / cO a.1 b.1) hz;have h3:k / cO a.1 b.1 / cO a.2.2 b.2.2<cO a.2.1 b.2.1:=by rw [Nat.div_div_eq_div_mul];refine Nat.div_lt_of_lt_mul ?_;rw [Nat.mul_comm (cO a.1 b.1),Nat.mul_comm,<-Nat.mul_assoc];exact hk
 generalize k % cO a.1 b.1=p1 at*;generalize k / cO a.1 b.1 / cO a.2.2 b.2.2=p2 at*;generalize k / cO a.1 b.1 % cO a.2.2 b.2.2=p3 at*;unfold cO at*;simp only;omega
def zL(n:Int):Int:=min (max n (-65536)) 65536 / 4
def uS(n:Int):Int:=min (max n (-70368744177664)) 70368744177664
def m8(aD d:Ce):Ce:=xK (uS (jW aD d).1,uS (jW aD d).2.1,uS (jW aD d).2.2) aD
def mE(h:Bool × Bool × Bool)(v:Ce):Ce:=(λv=>if h.2.2 then fB v 2 0 else v) ((λv=>if h.2.1 then fB v 1 0 else v) (if h.1 then fB v 0 0 else v))
def gT(b:Bx)(ax k:Int):Bx:=(fB b.1 ax (pD k),fB b.2 ax (pD (k+1)))
def lP(d:Int):Int:=min (max d (-4194304)) 4194304
def ZB(top d k:Int):Nat:=((top+d-k*65536+65535) / 65536).toNat
def tC(low d k:Int):Nat:=(((k+1)*65536-(low+d)+65535) / 65536).toNat
def ez(b:Bx)(ax d:Int):List (Int × Int):=
 if 0<d then (List.range (ZB (dA b.2 ax) d (cc (dA b.2 ax+65535)))).map λi:Nat=>(cc (dA b.2 ax+65535)+i,(cc (dA b.2 ax+65535)+i)*65536-dA b.2 ax)
 else (List.range (tC (dA b.1 ax) d (cc (dA b.1 ax)-1))).map λi:Nat=>(cc (dA b.1 ax)-1-i,(cc (dA b.1 ax)-1-i+1)*65536-dA b.1 ax)
def iX(V:Ce->Int)(p:Int->Bool)(b:Bx)(ax d:Int):Int × Bool:=
 match (ez b ax (lP d)).find? (λx=>g8 V (gT b ax x.1) p) with
 |some x=>(x.2,true)
 |none=>(lP d,false)
def aax(b:Bx)(v:Ce):Bx:=(jW b.1 v,jW b.2 v)
def bZ(V:Ce->Int)(p:Int->Bool)(b:Bx)(ax d:Int):Bx × Bool:=(aax b (fB (0,0,0) ax (iX V p b ax d).1),(iX V p b ax d).2)
def cP(b:Bx)(m:Int):Prop:=((-m<=b.1.1/\b.1.1<=m)/\(-m<=b.1.2.1/\b.1.2.1<=m)/\-m<=b.1.2.2/\b.1.2.2<=m)/\(-m<=b.2.1/\b.2.1<=m)/\(-m<=b.2.2.1/\b.2.2.1<=m)/\-m<=b.2.2.2/\b.2.2.2<=m
def cP.ax{b:Bx}{m:Int}(h:cP b m)(hm:0<=m)(i:Int):(-m<=dA b.1 i/\dA b.1 i<=m)/\-m<=dA b.2 i/\dA b.2 i<=m:=by unfold cP at h;unfold dA;refine ⟨?_,?_⟩<;>(repeat' split)<;>omega
def afJ{top d k:Int}{i:Nat}(h:top+d-k*65536<=100000000):(k+(i:Int))*65536<top+d ↔ i<ZB top d k:=by unfold ZB;omega
def Xy{low d k:Int}{i:Nat}:low+d<(k-(i:Int)+1)*65536 ↔ i<tC low d k:=by unfold tC;omega
def vx(d:Int): -4194304<=lP d/\lP d<=4194304:=by unfold lP;omega
def Ga{b:Bx}{ax d:Int}(hb:cP b 100000000000000)(hd: -4194304<=d/\d<=4194304):∀x ∈ ez b ax d,(-1525900000<=x.1/\x.1<=1525900000)/\-4194304<=x.2/\x.2<=4194304:=by
 have hn:=hb.ax aF ax;have c1:=nZ (n:=dA b.2 ax+65535) ab;have c2:=nZ (n:=dA b.1 ax) ab;intro x hx;unfold ez at hx;split at hx
 ·obtain ⟨i,hi,rfl⟩:=aW.1 hx;have hi:=nt.1 hi;unfold ZB at hi;unfold cc at hi ⊢;rw [c1] at hi ⊢;simp only;omega
 ·obtain ⟨i,hi,rfl⟩:=aW.1 hx;have hi:=nt.1 hi;unfold tC at hi;unfold cc at hi ⊢;rw [c2] at hi ⊢;simp only;omega
def K1{V:Ce->Int}{p:Int->Bool}{b:Bx}{ax d:Int}(hb:cP b 100000000000000): -4194304<=(iX V p b ax d).1/\(iX V p b ax d).1<=4194304:=by
 unfold iX;split
 ·rename_i x hx;exact (Ga hb (vx d) x (Ju hx)).2
 ·exact vx d
def jo{a n m k:Int}(ha: -m<=a/\a<=m)(hn: -k<=n/\n<=k)(Y1:m+k<=140737488355328):fK a n=a+n/\-(m+k)<=fK a n/\fK a n<=m+k:=by unfold fK cT;omega
def XP{b:Bx}{v:Ce}{m k:Int}(hb:cP b m)(hv:(-k<=v.1/\v.1<=k)/\(-k<=v.2.1/\v.2.1<=k)/\-k<=v.2.2/\v.2.2<=k)(Y1:m+k<=140737488355328):cP (aax b v) (m+k):=by unfold cP at hb ⊢;obtain ⟨⟨h1,h2,h3⟩,h4,h5,h6⟩:=hb;obtain ⟨v1,v2,v3⟩:=hv;exact ⟨⟨(jo h1 v1 Y1).2,(jo h2 v2 Y1).2,(jo h3 v3 Y1).2⟩,(jo h4 v1 Y1).2,(jo h5 v2 Y1).2,(jo h6 v3 Y1).2⟩
def Bs{ax n k:Int}(hn: -k<=n/\n<=k)(hk:0<=k):(-k<=(fB (0,0,0) ax n).1/\(fB (0,0,0) ax n).1<=k)/\(-k<=(fB (0,0,0) ax n).2.1/\(fB (0,0,0) ax n).2.1<=k)/\-k<=(fB (0,0,0) ax n).2.2/\(fB (0,0,0) ax n).2.2<=k:=by
 have hc: -k<=cT n/\cT n<=k:=by unfold cT;omega
 unfold fB Ia;simp only;refine ⟨?_,?_,?_⟩<;>split<;>omega
def dI{V:Ce->Int}{p:Int->Bool}{b:Bx}{ax d m:Int}(hb:cP b m)(hm:m<=100000000000000):cP (bZ V p b ax d).1 (m+4194304):=by
 have hb':cP b 100000000000000:=by unfold cP at hb ⊢;omega
 exact XP hb (Bs (K1 hb') aF) ab
def jE(V:Ce->Int)(p:Int->Bool)(b:Bx)(d:Ce):Bx ×(Bool × Bool × Bool):=
 let y:=bZ V p b 1 d.2.1
 let x:=bZ V p y.1 0 d.1
 let z:=bZ V p x.1 2 d.2.2
 (z.1,(x.2,y.2,z.2))
def K9{V:Ce->Int}{p:Int->Bool}{b:Bx}{d:Ce}{m:Int}(hb:cP b m)(hm:m<=99990000000000):cP (jE V p b d).1 (m+12582912):=by
 have h1:=dI (V:=V) (p:=p) (ax:=1) (d:=d.2.1) hb ab;have h2:=dI (V:=V) (p:=p) (ax:=0) (d:=d.1) h1 ab;have h3:=dI (V:=V) (p:=p) (ax:=2) (d:=d.2.2) h2 ab;have:m+4194304+4194304+4194304=m+12582912:=by omega
 rw [this] at h3;exact h3
def Pa(a b:Bx):Int:=max (b.1.1-a.1.1) (-(b.1.1-a.1.1))+max (b.1.2.2-a.1.2.2) (-(b.1.2.2-a.1.2.2))
def iU(V:Ce->Int)(p:Int->Bool)(b:Bx)(d:Ce)(up:Int):Bx ×(Bool × Bool × Bool):=
 let m:=jE V p b d
 if (!m.2.1 && !m.2.2.2)||decide (up<=0)|| !g8 V (gz b) p then m
 else
  let high:=bZ V p b 1 (min up 65536)
  let x:=bZ V p high.1 0 d.1
  let z:=bZ V p x.1 2 d.2.2
  let y:=bZ V p z.1 1 (-(high.1.1.2.1-b.1.2.1))
  if Pa b y.1<=Pa b m.1 then m else (y.1,(x.2,true,z.2))
def hZ(a:Ce)(m:Int):Prop:=(-m<=a.1/\a.1<=m)/\(-m<=a.2.1/\a.2.1<=m)/\-m<=a.2.2/\a.2.2<=m
def vR(a b:Ce)(k:Int):Prop:=(-k<=b.1-a.1/\b.1-a.1<=k)/\(-k<=b.2.1-a.2.1/\b.2.1-a.2.1<=k)/\-k<=b.2.2-a.2.2/\b.2.2-a.2.2<=k
def vR.tr{a b c:Ce}{k n:Int}(h:vR a b k)(h':vR b c n):vR a c (k+n):=by unfold vR at*;omega
def vR.up{a b:Ce}{k n:Int}(h:vR a b k)(hn:k<=n):vR a b n:=by unfold vR at*;omega
def cP.lo{b:Bx}{m:Int}(h:cP b m):hZ b.1 m:=h.1
def cP.up{b:Bx}{m n:Int}(h:cP b m)(hmn:m<=n):cP b n:=by unfold cP at h ⊢;omega
def hZ.up{b:Ce}{m n:Int}(h:hZ b m)(hmn:m<=n):hZ b n:=by unfold hZ at h ⊢;omega
def UK{a v:Ce}{m k:Int}(ha:hZ a m)(hv:(-k<=v.1/\v.1<=k)/\(-k<=v.2.1/\v.2.1<=k)/\-k<=v.2.2/\v.2.2<=k)(Y1:m+k<=140737488355328):hZ (jW a v) (m+k)/\vR a (jW a v) k:=by obtain ⟨h1,h2,h3⟩:=ha;obtain ⟨v1,v2,v3⟩:=hv;have q1:=jo h1 v1 Y1;have q2:=jo h2 v2 Y1;have q3:=jo h3 v3 Y1;have e1:(jW a v).1=fK a.1 v.1:=rfl;have e2:(jW a v).2.1=fK a.2.1 v.2.1:=rfl;have e3:(jW a v).2.2=fK a.2.2 v.2.2:=rfl;unfold hZ vR;rw [e1,e2,e3];omega
def lN{V:Ce->Int}{p:Int->Bool}{b:Bx}{ax d m:Int}(hb:cP b m)(hm:m<=100000000000000):vR b.1 (bZ V p b ax d).1.1 4194304:=by have hb':cP b 100000000000000:=hb.up hm;exact (UK hb.lo (Bs (K1 hb') aF) ab).2
def Nf{V:Ce->Int}{p:Int->Bool}{b:Bx}{d:Ce}{m:Int}(hb:cP b m)(hm:m<=99990000000000):vR b.1 (jE V p b d).1.1 12582912:=by have h1:=dI (V:=V) (p:=p) (ax:=1) (d:=d.2.1) hb ab;have h2:=dI (V:=V) (p:=p) (ax:=0) (d:=d.1) h1 ab;have o1:=lN (V:=V) (p:=p) (ax:=1) (d:=d.2.1) hb ab;have o2:=lN (V:=V) (p:=p) (ax:=0) (d:=d.1) h1 ab;have o3:=lN (V:=V) (p:=p) (ax:=2) (d:=d.2.2) h2 ab;exact ((o1.tr o2).tr o3).up aF
def aal{V:Ce->Int}{p:Int->Bool}{b:Bx}{d:Ce}{up m:Int}(hb:cP b m)(hm:m<=99980000000000):vR b.1 (iU V p b d up).1.1 16777216/\cP (iU V p b d up).1 (m+16777216):=by
 have mo:=Nf (V:=V) (p:=p) (d:=d) hb ab;have mn:=K9 (V:=V) (p:=p) (d:=d) hb ab;have h1:=dI (V:=V) (p:=p) (ax:=1) (d:=min up 65536) hb ab;have h2:=dI (V:=V) (p:=p) (ax:=0) (d:=d.1) h1 ab;have h3:=dI (V:=V) (p:=p) (ax:=2) (d:=d.2.2) h2 ab;have h4:=dI (V:=V) (p:=p) (ax:=1) (d:= -((bZ V p b 1 (min up 65536)).1.1.2.1-b.1.2.1)) h3 ab;have o1:=lN (V:=V) (p:=p) (ax:=1) (d:=min up 65536) hb ab;have o2:=lN (V:=V) (p:=p) (ax:=0) (d:=d.1) h1 ab;have o3:=lN (V:=V) (p:=p) (ax:=2) (d:=d.2.2) h2 ab;have o4:=lN (V:=V) (p:=p) (ax:=1) (d:= -((bZ V p b 1 (min up 65536)).1.1.2.1-b.1.2.1)) h3 ab;have o:=((o1.tr o2).tr o3).tr o4;unfold iU;simp only;split
 ·exact ⟨mo.up aF,mn.up ab⟩
 ·split
  ·exact ⟨mo.up aF,mn.up ab⟩
  ·exact ⟨o.up aF,h4.up ab⟩
def RK{aD:Ce}{wd ht m:Int}(hf:hZ aD m)(hw:0<=wd/\wd<=1000000)(hh:0<=ht/\ht<=1000000)(hm:m+1000000<=140737488355328):cP (xJ aD wd ht) (m+1000000):=by
 have Cu:0<=max wd 0 / 2/\max wd 0 / 2<=1000000:=by omega
 have hh2:0<=max ht 0/\max ht 0<=1000000:=by omega
 generalize hq:max wd 0 / 2=q at*;generalize hr:max ht 0=r at*;obtain ⟨h1,h2,h3⟩:=hf;have e:xJ aD wd ht=((jV aD.1 q,jV aD.2.1 0,jV aD.2.2 q),(fK aD.1 q,fK aD.2.1 r,fK aD.2.2 q)):=by unfold xJ;rw [hq,hr];rfl
 rw [e];unfold cP jV fK cT;simp only;omega
def Ng{aD b c:Ce}{m n k:Int}(hf:hZ aD m)(hb:hZ b n)(hc:hZ c n)(ho:vR b c k)(hn:n<=140737488355328)(hk:0<=k)(Y1:m+k<=140737488355328):hZ (jW aD (xK c b)) (m+k):=by
 have hm:0<=m:=by unfold hZ at hf;omega
 refine (UK hf ?_ Y1).1;have e1:(xK c b).1=jV c.1 b.1:=rfl;have e2:(xK c b).2.1=jV c.2.1 b.2.1:=rfl;have e3:(xK c b).2.2=jV c.2.2 b.2.2:=rfl;rw [e1,e2,e3];unfold vR at ho;unfold hZ at hb hc;unfold jV cT;omega
end Go.gr
namespace Go.cZ
open Go Go.Vc Go.aT
end Go.cZ
namespace Go.gr
open Go Go.Vc Go.cZ
def KW(V V':Ce->Int):Prop:=∀c:Ce,c.1<48->V c=V' c
def Fk{α:Type}{f g:α->Bool}:∀{l:List α},(∀x ∈ l,f x=g x)->l.find? f=l.find? g
 | [],_=>rfl
 |x::l,h=>by rw [List.find?_cons,List.find?_cons,h x (.head _),Fk λy hy=>h y (.tail _ hy)]
section
variable {V V':Ce->Int} {p:Int->Bool} {b:Bx} {m q r:Int}
def qe(h:KW V V')(hb:(fA b).1<48):g8 V b p=g8 V' b p:=by
 unfold g8 kY;split
 ·rw [Bool.eq_iff_iff,List.any_eq_true,List.any_eq_true];refine exists_congr λc=>and_congr_right λhc=> ?_
  have:=NJ hc;rw [h c ab]
 ·rfl
def zo(hb:b.1.1<3145728/\b.2.1<3145728):(fA b).1<48:=by have e:(fA b).1=if b.1.1=b.2.1 then cc b.1.1 else cc (fK b.2.1 (-1)):=rfl;rw [e];split<;>(unfold cc;try unfold fK)<;>(unfold cT;omega)
def acj{ax k:Int}(hb:b.1.1<3145728/\b.2.1<3145728)(hk:ax=0-> -1525900000<=k/\k<48):(fA (gT b ax k)).1<48:=by
 by_cases h0:ax=0
 ·subst h0;obtain ⟨k1,k2⟩:=hk rfl;have e1:(gT b 0 k).1.1=cT (pD k):=by unfold gT fB Ia;simp
  have e2:(gT b 0 k).2.1=cT (pD (k+1)):=by unfold gT fB Ia;simp
  have e:(fA (gT b 0 k)).1=if (gT b 0 k).1.1=(gT b 0 k).2.1 then cc (gT b 0 k).1.1 else cc (fK (gT b 0 k).2.1 (-1)):=rfl;rw [e,e1,e2];unfold pD;split<;>(unfold cc;try unfold fK)<;>(unfold cT;omega)
 ·refine zo ?_;have e1:(gT b ax k).1.1=b.1.1:=by unfold gT fB Ia;simp only;rw [if_neg λq=>h0 q.symm]
  have e2:(gT b ax k).2.1=b.2.1:=by unfold gT fB Ia;simp only;rw [if_neg λq=>h0 q.symm]
  rw [e1,e2];exact hb
def P9{ax d:Int}(hn:cP b 100000000000000)(hd: -4194304<=d/\d<=4194304):∀x ∈ ez b ax d,x.2<=max d 0/\(ax=0->b.1.1<3145728->b.2.1+max d 0<3145728->x.1<48):=by
 have hx:=hn.ax aF ax;have c1:=nZ (n:=dA b.2 ax+65535) ab;have c2:=nZ (n:=dA b.1 ax) ab;have a0:ax=0->dA b.1 ax=b.1.1/\dA b.2 ax=b.2.1:=λq=>by subst q;exact ⟨rfl,rfl⟩
 intro x hx;unfold ez at hx;split at hx
 ·obtain ⟨i,hi,rfl⟩:=aW.1 hx;have hi:=nt.1 hi;unfold ZB at hi;unfold cc at hi ⊢;rw [c1] at hi ⊢;refine ⟨by simp only;omega,λq q1 q2=> ?_⟩;obtain ⟨q3,q4⟩:=a0 q;simp only;omega
 ·obtain ⟨i,hi,rfl⟩:=aW.1 hx;have hi:=nt.1 hi;unfold tC at hi;unfold cc at hi ⊢;rw [c2] at hi ⊢;refine ⟨by simp only;omega,λq q1 q2=> ?_⟩;obtain ⟨q3,q4⟩:=a0 q;simp only;omega
def ack(h:KW V V'){ax d:Int}(hn:cP b 100000000000000)(hb:b.1.1<3145728/\b.2.1<3145728)(hd:ax=0->b.2.1+max d 0<3145728):iX V p b ax d=iX V' p b ax d:=by unfold iX;rw [Fk λx hx=>qe h (acj hb λq=>⟨(Ga hn (vx d) x hx).1.1,((P9 hn (vx d)) x hx).2 q hb.1 (by have:=hd q;unfold lP;omega)⟩)]
def af1{ax d:Int}(hn:cP b 100000000000000):(iX V p b ax d).1<=max d 0:=by
 unfold iX;split
 ·rename_i x hx;have:=((P9 hn (vx d)) x (Ju hx)).1;unfold lP at this;simp only;omega
 ·show lP d<=_;unfold lP;omega
def Rgt(b:Bx)(m q r:Int):Prop:=cP b m/\b.1.1<=q/\b.2.1<=r/\q<=r
def Rgt.up(h:Rgt b m q r){m' q' r':Int}(hm:m<=m')(hq:q<=q')(hr:r<=r')(hqr:q'<=r'):Rgt b m' q' r':=⟨h.1.up hm,by have:=h.2;omega,by have:=h.2;omega,hqr⟩
def lV(h:KW V V'){ax d:Int}(hb:Rgt b m q r)(hm:m<=100000000000000)(hr:r+(if ax=0 then max d 0 else 0)<3145728):bZ V p b ax d=bZ V' p b ax d/\Rgt (bZ V p b ax d).1 (m+4194304) (q+if ax=0 then max d 0 else 0) (r+if ax=0 then max d 0 else 0):=by
 have hn:cP b 100000000000000:=hb.1.up hm;obtain ⟨HJ,h1,h2,h3⟩:=hb;have hr0:r<3145728:=by split at hr<;>omega
 refine ⟨?_,dI HJ hm,?_⟩
 ·unfold bZ;rw [ack h hn ⟨by omega,by omega⟩ λq0=>by rw [if_pos q0] at hr;omega]
 ·have e1:(bZ V p b ax d).1.1.1=fK b.1.1 (fB (0,0,0) ax (iX V p b ax d).1).1:=rfl;have e2:(bZ V p b ax d).1.2.1=fK b.2.1 (fB (0,0,0) ax (iX V p b ax d).1).1:=rfl;have e3:(fB (0,0,0) ax (iX V p b ax d).1).1=if 0=ax then cT (iX V p b ax d).1 else 0:=rfl;have l:=af1 (V:=V) (p:=p) (ax:=ax) (d:=d) hn;have g:=K1 (V:=V) (p:=p) (ax:=ax) (d:=d) hn;have hn':=hn;unfold cP at hn';rw [e1,e2,e3];by_cases q0:ax=0
  ·rw [if_pos q0.symm,if_pos q0];unfold fK cT;omega
  ·rw [if_neg λs=>q0 s.symm,if_neg q0];unfold fK cT;omega
def PV(h:KW V V'){d:Ce}(hb:Rgt b m q r)(hm:m<=99990000000000)(hr:r+max d.1 0<3145728):jE V p b d=jE V' p b d/\Rgt (jE V p b d).1 (m+12582912) (q+max d.1 0) (r+max d.1 0):=by obtain ⟨e1,b1⟩:=lV (p:=p) h (ax:=1) (d:=d.2.1) hb ab (by rw [if_neg aF];omega);obtain ⟨e2,b2⟩:=lV (p:=p) h (ax:=0) (d:=d.1) b1 ab (by rw [if_neg aF,if_pos rfl];omega);obtain ⟨e3,b3⟩:=lV (p:=p) h (ax:=2) (d:=d.2.2) b2 ab (by rw [if_neg aF,if_pos rfl,if_neg aF];omega);refine ⟨?_,b3.up ab (by rw [if_neg aF,if_pos rfl,if_neg aF];omega) (by rw [if_neg aF,if_pos rfl,if_neg aF];omega) (by have:=hb.2;omega)⟩;unfold jE;simp only;rw [<-e1,<-e2,<-e3]
def zp(hb:b.1.1<3145728/\b.2.1<3145728):(fA (gz b)).1<48:=zo hb
def ab3(h:KW V V'){d:Ce}{up:Int}(hb:Rgt b m q r)(hm:m<=99980000000000)(hr:r+max d.1 0<3145728):iU V p b d up=iU V' p b d up/\Rgt (iU V p b d up).1 (m+16777216) (q+max d.1 0) (r+max d.1 0):=by
 obtain ⟨em,bm⟩:=PV (p:=p) h (d:=d) hb ab hr;obtain ⟨e1,b1⟩:=lV (p:=p) h (ax:=1) (d:=min up 65536) hb ab (by rw [if_neg aF];omega);obtain ⟨e2,b2⟩:=lV (p:=p) h (ax:=0) (d:=d.1) b1 ab (by rw [if_neg aF,if_pos rfl];omega);obtain ⟨e3,b3⟩:=lV (p:=p) h (ax:=2) (d:=d.2.2) b2 ab (by rw [if_neg aF,if_pos rfl,if_neg aF];omega);obtain ⟨e4,b4⟩:=lV (p:=p) h (ax:=1) (d:= -((bZ V p b 1 (min up 65536)).1.1.2.1-b.1.2.1)) b3 ab (by rw [if_neg aF,if_pos rfl,if_neg aF,if_neg aF];omega);have eu:=qe (p:=p) h (zp (b:=b) (by have:=hb.2;omega));constructor
 ·unfold iU;simp only;rw [<-em,<-eu,<-e1,<-e2,<-e3,<-e4]
 ·unfold iU;simp only;split
  ·exact bm.up ab ab ab (by have:=hb.2;omega)
  ·split
   ·exact bm.up ab ab ab (by have:=hb.2;omega)
   ·exact b4.up ab (by rw [if_neg aF,if_pos rfl,if_neg aF,if_neg aF];omega) (by rw [if_neg aF,if_pos rfl,if_neg aF,if_neg aF];omega) (by have:=hb.2;omega)
end
end Go.gr
namespace Go.Proofs.YtkkkfkopcfdmaaaGreatDoor
open Go Go.Vc Go.RowKit Go.Proofs
def cm(n m:Int):Int:=if n<0 then (-(n+1)) % m else n % m
def c8(n m:Int)(w:World)(hn:bN n)(hm:0<m)(hm':bN m):
  ah 10 #[n,m] w λe w'=>e=Value.int .i64 (cm n m)/\w'=w:=by
 apply Ln.vc;unfold cm;unfold bN at hn hm';apply Br.mk<;>intro h<;>simp at h
 ·have e1:ao (n+1)=n+1:=wI;have e2:ao (0-(n+1))= -(n+1):=by rw [wI];omega
  rw [e1,e2,if_pos h];refine Ut.2 ⟨by omega,?_,rfl⟩;rw [CT ab]
 ·rw [if_neg ab];refine Ut.2 ⟨by omega,?_,rfl⟩;rw [CT ab]
def bM(n m:Int)(hm:0<m):0<=cm n m/\cm n m<m:=by
 unfold cm;split
 ·exact ⟨Int.emod_nonneg _ ab,Int.emod_lt_of_pos _ hm⟩
 ·exact ⟨Int.emod_nonneg _ ab,Int.emod_lt_of_pos _ hm⟩
def cK(b:Int):Bool:=decide (0<=b) && decide (b<=15) && b !=6 && b !=7
def aG(b:Int):Bool:=b== -1||b==1||b==2||b==3||b==5
def abQ(n:Int):Int:=if cm n 14>5 then cm n 14+2 else cm n 14
def nmT:List ByteArray:=[⟨#[97,105,114]⟩,⟨#[115,116,111,110,101]⟩,⟨#[100,105,114,116]⟩,⟨#[115,97,110,100]⟩,⟨#[108,97,100,100,101,114]⟩,⟨#[103,108,97,115,115]⟩,⟨#[]⟩,⟨#[]⟩,
 ⟨#[119,97,116,101,114,48]⟩,⟨#[119,97,116,101,114,49]⟩,⟨#[119,97,116,101,114,50]⟩,⟨#[119,97,116,101,114,51]⟩,⟨#[119,97,116,101,114,52]⟩,⟨#[119,97,116,101,114,53]⟩,⟨#[119,97,116,101,114,54]⟩,⟨#[119,97,116,101,114,55]⟩]
def Ai(b:Int):ByteArray:=if b<0 then ⟨#[]⟩ else nmT.getD b.toNat ⟨#[]⟩
def FY(b:Int)(w:World):ah 111 #[b] w λe w'=>e=Value.bool (cK b)/\w'=w:=by apply WG.vc;unfold cK;refine Br.mk (λh=>Br.mk (λh2=>Br.mk (λh3=> ?_) (λh3=> ?_)) (λh2=> ?_)) (λh=> ?_)<;>simp_all<;>omega
def BZ(b:Int)(w:World):ah 114 #[b] w λe w'=>e=Value.bool (aG b)/\w'=w:=by
 apply Od.vc;unfold aG
 repeat' (first|apply Br.mk<;>intro h)
 all_goals simp_all
def rD(b:Int)(w:World):ah 103 #[b] w λe w'=>e=Value.bool (aG b)/\w'=w:=by
 apply Ob.vc;unfold aG
 repeat' (first|apply Br.mk<;>intro h)
 all_goals simp_all
def DY(n:Int)(w:World)(hn:bN n):ah 110 #[n] w λe w'=>e=Value.int .i64 (abQ n)/\w'=w:=by
 apply R8.vc;unfold abQ;refine (c8 n 14 w hn ab (by unfold bN;omega)).mono ?_;rintro e w' ⟨rfl,rfl⟩;have:=bM n 14 ab;refine ⟨_,rfl,Br.mk (λh=> ?_) (λh=> ?_)⟩<;>simp at h
 ·rw [if_pos h,wI];exact ⟨rfl,rfl⟩
 ·rw [if_neg ab];exact ⟨rfl,rfl⟩
def lK(n:Int)(w:World)(hn:bN n):ah 302 #[n] w λe w'=>e=Value.int .i64 (8+min (max n 0) 7)/\w'=w:=by apply N6.vc;rw [aK (by unfold bN;split<;>split<;>omega)];refine ⟨?_,rfl⟩;congr 2;split<;>split<;>omega
def asg:ByteArray:=⟨#[48,49,50,51,52,53,54,55,56,57,97,98,99,100,101,102,103,104,105,106,107,108,109,110,111,112,113,114,115,116,117,118,119,120,121,122]⟩
def Sj(n:Int):ByteArray:=asg.extract n.toNat (n+1).toNat
def TK(n:Int)(w:World)(h0:0<=n)(h1:n<10):ah 314 #[n] w λe w'=>e=Value.string (Sj n)/\w'=w:=by
 apply sJ.vc;rw [wI];apply Br.mk<;>intro h<;>simp at h
 ·refine ⟨by omega,?_,by omega,by omega,rfl,rfl⟩;show n+1<=36;omega
 ·omega
set_option maxRecDepth 10000 in
def He(n:Int)(w:World)(h0:0<=n)(h1:n<10):ah 308 #[n,(10:Int)] w λe w'=>e=Value.string (Sj n)/\w'=w:=by
 have h10:n<100:=by omega
 have hs:ah 314 #[n] w (λe w'=>e=Value.string (Sj n)/\w'=w):=TK n w h0 h1;go_enter Tryz.func308,Tryz.ntmps308;go_wp2_with (go_at_call 314;refine hs.mono ?_;rintro e w' ⟨rfl,rfl⟩);go_ret;exact ⟨rfl,rfl⟩
def W2(n:Int)(w:World)(h0:0<=n)(h1:n<10):ah 267 #[n] w λe w'=>e=Value.string (Sj n)/\w'=w:=by
 apply Lp.vc;refine Calls.mono (tZ.vc (R:=λe w'=>e=Value.string (Sj n)/\w'=w) ((He n w h0 h1).mono ?_)) ?_
 all_goals
  rintro e w' ⟨rfl,rfl⟩
  exact ⟨_,rfl,rfl,rfl⟩
def tu(x:Nat):LV:=(List.range 16).map λj=> .string (if j<8+x then nmT.getD j ⟨#[]⟩ else ⟨#[]⟩)
def aaS(x:Int)(h0:0<=x)(h1:x<8):(⟨#[119,97,116,101,114]⟩:ByteArray)++Sj x=nmT.getD (8+x).toNat ⟨#[]⟩:=by
 have:x=0\/x=1\/x=2\/x=3\/x=4\/x=5\/x=6\/x=7:=by omega
 rcases this with rfl|rfl|rfl|rfl|rfl|rfl|rfl|rfl<;>decide
def ai4(x:Nat)(h1:x<8):aS (tu x) (8+x) [.string (nmT.getD (8+x) ⟨#[]⟩)]=tu (x+1):=by
 have:x=0\/x=1\/x=2\/x=3\/x=4\/x=5\/x=6\/x=7:=by omega
 rcases this with rfl|rfl|rfl|rfl|rfl|rfl|rfl|rfl<;>rfl
def zX(x:Nat):(tu x).length=16:=by simp [tu]
def amD:Value:=.agg (tu 8).toArray
abbrev nm0:LV:=List.replicate 16 (.string ⟨#[]⟩)
def BE(w:World):ah 218 #[] w λe w'=>e=amD/\Ext w w':=by
 apply N7.vc;intro w0 hw0 w1 Zk;have r0:Row w0 w nm0 285:=by rw [hw0];exact Row.new w nm0 _
 have s0:w0.heap.size=w.heap.size+1:=by rw [hw0];simp
 have s1:w1.heap.size=w.heap.size+2:=by rw [Zk];simp [s0]
 have r1:Row w1 w0 nm0 285:=by rw [Zk];exact Row.new w0 nm0 285
 have x0:=aQ hw0;have x1:=aQ Zk;refine ⟨⟨rfl,r1.wr cp⟩,λw2 Cu=> ?_⟩;rw [r1.aL cp (by intro u hu;simp at hu;rcases hu with rfl|rfl|rfl|rfl|rfl|rfl|rfl|rfl|rfl|rfl|rfl|rfl|rfl|rfl|rfl|rfl<;>rfl)] at Cu;have r2:Row w2 w0 (tu 0) 285:=r1.st Cu;have x2:Ext w w2:=(x0.tr x1).ag Cu ab;have r20:Row w2 w nm0 285:=(r0.ext x1).same (by rw [Cu];exact setRow_other _ _ _ _ ab);refine ⟨λn x wr=>∃k:Nat,x=k/\k+n=8/\Ext w wr/\Row wr w nm0 285/\Row wr w0 (tu k) 285,⟨8,0,rfl,rfl,x2,r20,r2⟩,?_⟩;rintro n us x wr ⟨k,rfl,hk,xr,q0,q1⟩;apply Br.mk<;>intro h<;>simp at h
 ·refine (W2 k wr ab ab).mono ?_;rintro e w' ⟨rfl,rfl⟩;refine ⟨_,rfl,?_⟩;rw [aK (n:=8+(k:Int)) (by unfold bN;omega),aK (n:=(k:Int)+1) (by unfold bN;omega),aaS k ab ab];have jv:ae (aB w0.heap.size) ((8+(k:Int)).toNat*1)=some ⟨w0.heap.size,8+k,none⟩:=by rw [bh];congr 2;omega
  rw [jv];refine ⟨?_,by omega,by omega,⟨rfl,q1.wr (by rw [zX];simp;omega)⟩,λw3 Re=> ?_⟩
  ·have:(Sj k).size<=1:=by
    have:k=0\/k=1\/k=2\/k=3\/k=4\/k=5\/k=6\/k=7:=by omega
    rcases this with rfl|rfl|rfl|rfl|rfl|rfl|rfl|rfl<;>decide
   have h5:(⟨#[119,97,116,101,114]⟩:ByteArray).size=5:=rfl;rw [h5];have:IntKind.i64.max=9223372036854775807:=by decide
   omega
  ·have e8:(8+(k:Int)).toNat=8+k:=by omega
   rw [q1.aL (by rw [zX];simp;omega) (by intro u hu;simp at hu;subst hu;rfl),e8,ai4 k ab] at Re;refine ⟨n-1,by omega,k+1,by omega,by omega,xr.ag Re ab,q0.same (by rw [Re];exact setRow_other _ _ _ _ ab),by rw [Re];exact q1.set _⟩
 ·obtain rfl:k=8:=by omega
  refine ⟨_,_,_,_,_,_,_,_,_,_,_,_,_,_,_,_,q1.bY (vs:=tu 8) (λj hj=>by simp),⟨rfl,q0.wr cp⟩,λw3 Re=> ?_⟩;rw [q0.aL cp (by intro u hu;simp at hu;rcases hu with rfl|rfl|rfl|rfl|rfl|rfl|rfl|rfl|rfl|rfl|rfl|rfl|rfl|rfl|rfl|rfl<;>rfl)] at Re;have q3:Row w3 w (tu 8) 285:=q0.st Re;exact ⟨_,_,_,_,_,_,_,_,_,_,_,_,_,_,_,_,q3.bY (vs:=tu 8) (λj hj=>by simp),rfl,xr.ag Re ab⟩
def JR(x y:ByteArray):ti x y=true ↔ x=y:=by unfold ti;rw [ByteArray.toList_eq,ByteArray.toList_eq,beq_iff_eq];obtain ⟨⟨x⟩⟩:=x;obtain ⟨⟨y⟩⟩:=y;simp
def ajd(i:Int)(h0:0<=i)(h1:i<16):(tu 8)[i.toNat*1]? =some (.string (Ai i)):=by
 have hk:i.toNat<16:=by omega
 have e:Ai i=nmT.getD i.toNat ⟨#[]⟩:=by unfold Ai;rw [if_neg ab]
 rw [e,zh];generalize i.toNat=k at hk;have:∀k,k<16->(tu 8)[k]? =some (.string (nmT.getD k ⟨#[]⟩)):=by
  intro k hk;have:k=0\/k=1\/k=2\/k=3\/k=4\/k=5\/k=6\/k=7\/k=8\/k=9\/k=10\/k=11\/k=12\/k=13\/k=14\/k=15:=by omega
  rcases this with rfl|rfl|rfl|rfl|rfl|rfl|rfl|rfl|rfl|rfl|rfl|rfl|rfl|rfl|rfl|rfl<;>rfl
 exact this k hk
def BS(b:Int)(h:b<0\/16<=b):Ai b=⟨#[]⟩:=by
 unfold Ai;rcases h with h|h
 ·rw [if_pos h]
 ·rw [if_neg ab];rw [dZ,jS (by show 16<=b.toNat;omega)];rfl
def aa9(b:Int):cK b=true ↔ Ai b≠⟨#[]⟩:=by
 by_cases h:b<0\/16<=b
 ·rw [BS b h];unfold cK;simp;omega
 ·have:b=0\/b=1\/b=2\/b=3\/b=4\/b=5\/b=6\/b=7\/b=8\/b=9\/b=10\/b=11\/b=12\/b=13\/b=14\/b=15:=by omega
  rcases this with rfl|rfl|rfl|rfl|rfl|rfl|rfl|rfl|rfl|rfl|rfl|rfl|rfl|rfl|rfl|rfl<;>decide
def DN(b:Int)(w:World):ah 158 #[b] w λe w'=>e=Value.string (Ai b)/\Ext w w':=by
 apply R5.vc;refine Br.mk (λh=> ?_) (λh=>Br.mk (λh2=> ?_) (λh2=> ?_))<;>simp at h
 ·rw [BS b (.inl h)];exact ⟨rfl,Ext.cM w⟩
 ·simp at h2;rw [BS b (.inr h2)];exact ⟨rfl,Ext.cM w⟩
 ·simp at h2;refine (BE w).mono ?_;rintro e w' ⟨rfl,x⟩;exact ⟨_,_,_,_,_,_,_,_,_,_,_,_,_,_,_,_,rfl,⟨h,h2⟩,_,ajd b h h2,rfl,x⟩
def gE(b:Int)(w:World):ah 108 #[b] w λe w'=>e=Value.bool (cK b)/\Ext w w':=by
 apply Wx.vc;refine (DN b w).mono ?_;rintro e w' ⟨rfl,x⟩;refine ⟨_,rfl,?_,x⟩;congr 2;rw [Bool.eq_iff_iff,aa9];have:=JR (Ai b) ⟨#[]⟩
 cases h:ti (Ai b) ⟨#[]⟩<;>simp_all
end Go.Proofs.YtkkkfkopcfdmaaaGreatDoor
