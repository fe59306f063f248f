import Derived.Test.YtalpkjfpmdpbiaaGreatDoorLib
import Derived.Deep.SlicePairs
import Derived.ProofKit
set_option linter.all false
namespace Go.Vc
open Go Go.RowKit Go.ChangeShapes Go.WideShapes
def inI_wf'{n:Int}(h:(Lit.int .i64 n).wf=true):inI n:=by
 have h1:IntKind.min .i64= -9223372036854775808:=by decide
 have h2:IntKind.max .i64=9223372036854775807:=by decide
 simp only [Lit.wf,gr,bA,h1,h2] at h;exact h
section
variable {H:Type} {enc:TypeId × Value->H} {P:Program} {w:World} {base:Nat} {spare:Nat->Bool} {JG:Bool}
def Wv{t:TypeId}{f0 f1:Field}{fuel:Nat}{cs:LV}{x:DataW H × List MemPlace}(ht:P.underlying t=some (.struct #[f0,f1]))(ce:P.cellsOf t=2)
  (o0:f0.offset=0)(o1:f1.offset=1)(c0:P.cellsOf f0.type=1)(c1:P.cellsOf f1.type=1)(u0:P.underlying f0.type=some (.int .i64))(u1:P.underlying f1.type=some (.int .i64))
  (h:DataW.trod enc P w base spare JG fuel t cs=some x):∃a b,cs=[.int .i64 a,.int .i64 b]/\inI a/\inI b:=by
 obtain ⟨xs,n,_,_,hl,hxl,hf⟩:=DataW.trod_struct ht h;rw [ce] at hl
 match xs,hxl,cs,hl with
 | [y0,y1],_,[v0,v1],_=>
   have h0:=hf 0 f0 rfl;have h1:=hf 1 f1 rfl;rw [o0,c0] at h0;rw [o1,c1] at h1;obtain ⟨a,e0,_,wa⟩:=DataW.trod_int u0 h0;obtain ⟨b,e1,_,wb⟩:=DataW.trod_int u1 h1;simp at e0 e1;exact ⟨a,b,by rw [e0,e1],inI_wf' wa,inI_wf' wb⟩
def Vp{t e:TypeId}{f0 f1:Field}{fuel:Nat}{a:Option Addr}{len cap:Nat}{x:DataW H × List MemPlace}(ht:P.underlying t=some (.slice e))(he:P.underlying e=some (.struct #[f0,f1]))
  (ce:P.cellsOf e=2)(o0:f0.offset=0)(o1:f1.offset=1)(c0:P.cellsOf f0.type=1)(c1:P.cellsOf f1.type=1)(u0:P.underlying f0.type=some (.int .i64))(u1:P.underlying f1.type=some (.int .i64))
  (h:DataW.trod enc P w base spare JG fuel t [.slice a len cap]=some x):
  ∃l:List (Int × Int),RdK w ⟨a,len,cap⟩ 2 (l.map λr=> [.int .i64 r.1,.int .i64 r.2])/\(∀r ∈ l,inI r.1/\inI r.2)/\len<=cap/\cap<=maxLen:=by
 rcases Go.Deep.open_slice_pairs ht he ce o0 o1 c0 c1 h with ⟨xC,_⟩|⟨b,len',cap',m,n,V0,V1,D0,D1,P0,P1,xC,_,hl,hm,hmm,_,hx⟩
 ·simp at xC;obtain ⟨rfl,rfl,rfl⟩:=xC;exact ⟨[],⟨rfl,by simp,λi r hi=>by simp at hi⟩,by simp,ax _,by decide⟩
 ·simp at xC;obtain ⟨rfl,rfl,rfl⟩:=xC;have hlm:len<=m:=by rw [hmm];split<;>omega
  have each:∀i,i<len->∃r:Int × Int,w.cell? (b.add (i*2))=some (.int .i64 r.1)/\w.cell? (b.add (i*2+1))=some (.int .i64 r.2)/\inI r.1/\inI r.2:=by intro i hi;obtain ⟨h0,h1,h2,h3⟩:=hx i aa;obtain ⟨p,e0,_,wp⟩:=DataW.trod_int u0 h2;obtain ⟨q,e1,_,wq⟩:=DataW.trod_int u1 h3;simp at e0 e1;exact ⟨(p,q),by rw [h0,e0],by rw [h1,e1],inI_wf' wp,inI_wf' wq⟩
  have pick:∃f:Nat->Int × Int,∀i,i<len->w.cell? (b.add (i*2))=some (.int .i64 (f i).1)/\w.cell? (b.add (i*2+1))=some (.int .i64 (f i).2)/\inI (f i).1/\inI (f i).2:=by refine ⟨λi=>if hi:i<len then Classical.choose (each i hi) else (0,0),λi hi=> ?_⟩;simp only [dif_pos hi];exact Classical.choose_spec (each i hi)
  obtain ⟨f,hf⟩:=pick;refine ⟨(List.range len).map f,⟨by simp,by simp,λi r hi j v hj=> ?_⟩,λr hr=> ?_,hl,hm⟩
  ·simp only [kj,aV,Da] at hi;obtain ⟨k,hk,rfl⟩:=hi;obtain ⟨XL,BN⟩:=bH.1 hk;simp at XL BN;subst BN;obtain ⟨h0,h1,_,_⟩:=hf i XL;rcases j with _|_|j<;>simp at hj
   ·subst hj;exact h0
   ·subst hj;exact h1
  ·obtain ⟨i,hi,rfl⟩:=aS.1 hr;exact (hf i (by simpa using hi)).2.2
def Ww{t e:TypeId}{k:IntKind}{fuel:Nat}{a:Option Addr}{len cap:Nat}{x:DataW H × List MemPlace}(ht:P.underlying t=some (.slice e))(he:P.underlying e=some (.int k))(ce:P.cellsOf e=1)
  (h:DataW.trod enc P w base spare JG fuel t [.slice a len cap]=some x):
  ∃z:List Int,RdK w ⟨a,len,cap⟩ 1 (z.map λn=> [.int k n])/\(∀n ∈ z,(Lit.int k n).wf=true)/\len<=cap/\cap<=maxLen:=by
 rcases Go.ChangeShapes.open_ints ht he ce h with ⟨xC,_⟩|⟨b,len',cap',zs,xC,_,hl,hm,hz,_,hcell,hwf⟩
 ·simp at xC;obtain ⟨rfl,rfl,rfl⟩:=xC;exact ⟨[],⟨rfl,by simp,λi r hi=>by simp at hi⟩,by simp,ax _,by decide⟩
 ·simp at xC;obtain ⟨rfl,rfl,rfl⟩:=xC;have hlm:len<=zs.length:=by rw [hz];split<;>omega
  refine ⟨zs.take len,⟨by simp;omega,λr hr=>by obtain ⟨q,_,rfl⟩:=aS.1 hr;rfl,λi r hi j v hj=> ?_⟩,λn hn=>hwf n (kq hn),hl,hm⟩;rw [aV,Da] at hi;obtain ⟨q,hq,rfl⟩:=hi;rw [mW] at hq;split at hq
  ·rename_i wg;have:=hcell i aa;rw [dh,hq] at this;rcases j with _|j<;>simp at hj;subst hj;show w.cell? (b.add (i*1+0))=_;rw [M9,Nat.add_zero];exact this
  ·cases hq
def aml{n:Int}(h:(Lit.int .u8 n).wf=true):0<=n/\n<256:=by
 have h1:IntKind.min .u8=0:=by decide
 have h2:IntKind.max .u8=255:=by decide
 simp only [Lit.wf,gr,bA,h1,h2] at h;omega
end
end Go.Vc
namespace Go.Vc
open Go Go.RowKit Go.ChangeShapes Go.WideShapes
section
variable {H:Type} {enc:TypeId × Value->H} {P:Program} {w:World} {base:Nat} {spare:Nat->Bool} {JG:Bool}
def AU(P:Program):Nat->TypeId->Bool
 |0,_=>false
 |n+1,t=>match P.underlying t with
  |some (.int .i64)=>P.cellsOf t==1
  |some (.struct fs)=>(List.range (P.cellsOf t)).all λi=>(List.range fs.size).any λj=>match fs[j]? with
   |some f=>decide (f.offset<=i) && decide (i<f.offset+P.cellsOf f.type) && AU P n f.type
   |none=>false
  |_=>false
def uy:∀{n:Nat} {t:TypeId} {fuel:Nat} {cs:LV} {x:DataW H × List MemPlace},AU P n t=true->DataW.trod enc P w base spare JG fuel t cs=some x->
  cs.length=P.cellsOf t/\∀v ∈ cs,∃z,v=.int .i64 z/\inI z
 |0,_,_,_,_,h,_=>by simp [AU] at h
 |n+1,t,fuel,cs,x,h,ht=>by
  unfold AU at h
  split at h
  ·rename_i e
   obtain ⟨z,rfl,_,hw⟩:=DataW.trod_int e ht
   have:P.cellsOf t=1:=by simpa using h
   refine ⟨by rw [this];rfl,λv hv=> ?_⟩;rw [fB] at hv;exact ⟨z,hv,inI_wf' hw⟩
  ·rename_i fs e;obtain ⟨xs,k,_,_,hl,hxl,hf⟩:=DataW.trod_struct e ht;refine ⟨hl,λv hv=> ?_⟩;obtain ⟨i,hi,rfl⟩:=List.getElem_of_mem hv;rw [zw] at h;have hj:=h i (Np.2 aa);rw [List.any_eq_true] at hj;obtain ⟨j,hjr,hj⟩:=hj;rw [Np] at hjr;split at hj
   ·rename_i f hfj;simp only [gr,bA] at hj;have hx:=hf j f hfj;rw [cy aa] at hx;obtain ⟨ed,jG⟩:=uy hj.2 hx;refine jG _ (bf (i:=i-f.offset) ?_);rw [mW,if_pos aa,th,cy aa];congr 2;omega
   ·cases hj
  ·cases h
def rA:∀{cs:LV},(∀v ∈ cs,∃z,v=.int .i64 z/\inI z)->∃r:List Int,cs=r.map (λn=> .int .i64 n)/\∀n ∈ r,inI n
 | [],_=>⟨[],rfl,by simp⟩
 |v::cs,h=>by
  obtain ⟨z,rfl,hz⟩:=h v (List.mem_cons_self ..)
  obtain ⟨r,rfl,hr⟩:=rA λu hu=>h u (Dt _ hu)
  refine ⟨z::r,rfl,λn hn=> ?_⟩
  rcases bJ.1 hn with rfl|hn
  ·exact hz
  ·exact hr n hn
def rB{n:Nat}{t:TypeId}{fuel:Nat}{cs:LV}{x:DataW H × List MemPlace}(hb:AU P n t=true)(h:DataW.trod enc P w base spare JG fuel t cs=some x):
  ∃r:List Int,cs=r.map (λn=> .int .i64 n)/\r.length=P.cellsOf t/\∀n ∈ r,inI n:=by
 obtain ⟨h1,h2⟩:=uy hb h;obtain ⟨r,rfl,hr⟩:=rA h2;exact ⟨r,rfl,by simpa using h1,hr⟩
def Vs{n:Nat}{t:TypeId}{fuel:Nat}{cs:LV}{x:DataW H × List MemPlace}(hb:AU P n t=true)(hk:P.cellsOf t=3)(h:DataW.trod enc P w base spare JG fuel t cs=some x):
  ∃a b c,cs=[.int .i64 a,.int .i64 b,.int .i64 c]/\inI a/\inI b/\inI c:=by
 obtain ⟨r,rfl,hl,hi⟩:=rB hb h;rw [hk] at hl
 match r,hl with
 | [a,b,c],_=>exact ⟨a,b,c,rfl,hi a cx,hi b cx,hi c cx⟩
def rows_of_trod{m k:Nat}{t e:TypeId}{fuel:Nat}{a:Option Addr}{len cap:Nat}{x:DataW H × List MemPlace}(ht:P.underlying t=some (.slice e))(hb:AU P m e=true)(hk:P.cellsOf e=k)
  (h:DataW.trod enc P w base spare JG fuel t [.slice a len cap]=some x):
  ∃z:List (List Int),RdK w ⟨a,len,cap⟩ k (z.map λr=>r.map λn=> .int .i64 n)/\(∀r ∈ z,r.length=k/\∀n ∈ r,inI n)/\len<=cap/\cap<=maxLen:=by
 rcases Go.Deep.open_slice ht h with ⟨xC,_⟩|⟨b,len',cap',m',n,D,Pl,xC,_,hl,hm,hmm,_,hx⟩
 ·simp at xC;obtain ⟨rfl,rfl,rfl⟩:=xC;exact ⟨[],⟨rfl,by simp,λi r hi=>by simp at hi⟩,by simp,ax _,by decide⟩
 ·simp at xC;obtain ⟨rfl,rfl,rfl⟩:=xC;have hlm:len<=m':=by rw [hmm];split<;>omega
  have each:∀i,i<len->∃r:List Int,(∀j,j<k->w.cell? ((b.add (i*k)).add j)=(r.map λn=>Value.int .i64 n)[j]?)/\r.length=k/\∀n ∈ r,inI n:=by intro i hi;obtain ⟨cs',h1,h2⟩:=hx i aa;obtain ⟨r,rfl,hr1,mM⟩:=rB hb h2;rw [hk] at h1 hr1;exact ⟨r,(World.cells?_some h1).2.2,hr1,mM⟩
  have pick:∃f:Nat->List Int,∀i,i<len->(∀j,j<k->w.cell? ((b.add (i*k)).add j)=((f i).map λn=>Value.int .i64 n)[j]?)/\(f i).length=k/\∀n ∈ f i,inI n:=by refine ⟨λi=>if hi:i<len then Classical.choose (each i hi) else [],λi hi=> ?_⟩;simp only [dif_pos hi];exact Classical.choose_spec (each i hi)
  obtain ⟨f,hf⟩:=pick;refine ⟨(List.range len).map f,⟨by simp,λr hr=> ?_,λi r hi j v hj=> ?_⟩,λr hr=> ?_,hl,hm⟩
  ·obtain ⟨r',hr',rfl⟩:=aS.1 hr;obtain ⟨i,hi,rfl⟩:=aS.1 hr';rw [aB];exact (hf i (by simpa using hi)).2.1
  ·simp only [kj,aV,Da] at hi;obtain ⟨q,hq,rfl⟩:=hi;obtain ⟨XL,BN⟩:=bH.1 hq;simp at XL BN;subst BN;obtain ⟨h0,h1,_⟩:=hf i XL;have Yy:j<k:=by have:=(bH.1 hj).1;simp at this;omega
   have:=h0 j Yy;rw [<-eo];show w.cell? ((b.add (i*k)).add j)=_;rw [this];exact hj
  ·obtain ⟨i,hi,rfl⟩:=aS.1 hr;exact (hf i (by simpa using hi)).2
end
end Go.Vc
