import Derived.Test.YtalpkjfpmdpbiaaGreatDoorVcA
set_option linter.all false
namespace Go
open Go.RowKit
def Oper.QI(P:Program)(o:Oper)(a:Act)(w:World)(next:Act->World->Prop)(Q:Exit->Act->World->Prop):Prop:=
 (∀c,o.op≠ .defer c)/\o.uponIn Fence.wide 0 P a next Q ((execOp a.eval o).run P w)
def Oper.np{P:Program}{o:Oper}{a:Act}{w:World}{Q:Exit->Act->World->Prop}{K K':Act->World->Prop}(h:∀a w,K a w->K' a w)(hh:o.QI P a w K Q):o.QI P a w K' Q:=by
 refine ⟨hh.1,?_⟩;have hh:=hh.2;generalize (execOp a.eval o).run P w=r at*
 cases r with
 |ok x w'=>
  cases x<;>simp only [Oper.uponIn] at hh ⊢<;>
   first
    |exact h _ _ hh
    |exact ⟨hh.1,CallsIn.mono hh.2 (λe w'' he=>by cases e<;>first|exact h _ _ he|exact he)⟩
    |exact ⟨hh.1,RowsIn.mono hh.2 (λ_ _ he=>h _ _ he)⟩
    |exact ⟨hh.1,RoundIn.mono hh.2 (λe w'' he=>by cases e<;>first|exact h _ _ he|exact he)⟩
 |halt x w'=>cases x<;>simp only [Oper.uponIn] at hh ⊢<;>exact hh
end Go
namespace Go.Vc
open Go Go.RowKit
class PQ where
 q:Option (List PanicEntry->World->Prop)
def aad [PQ] (df:List Nat)(e:Ending)(w':World)(A:Prop):Prop:=
 match PQ.q with
 |none=>A
 |some q=>match e with
  | .panicked c=>(match df with| []=>q c w'|_=>False)
  |_=>A
def Ih [PQ] (Q:Exit->Act->World->Prop):Prop:=∀q,PQ.q=some q->∀c a w,a.defers=[]->q c w->Q (.panic c) a w
def EO [PQ] {df:List Nat}{e:Ending}{w':World}{A:Prop}(h:aad df e w' A):A\/∃q c,PQ.q=some q/\e=.panicked c/\df=[]/\q c w':=by
 unfold aad at h;split at h
 ·exact .inl h
 ·rename_i q hq;split at h
  ·split at h
   ·exact .inr ⟨q,_,hq,rfl,rfl,h⟩
   ·exact h.elim
  ·exact .inl h
section
variable {P:Program} {s:St} {o:Oper} {K:St->Prop} {Q:Exit->Act->World->Prop}
def vx(P:Program):Prop:=∀(f:FuncId) fn,P.funcs[f]? =some fn->fn.name≠ "runtime.NumGoroutine"
def qN(P:Program)(f:FuncId):Bool:=match P.funcs[f]? with|some fn=>(match fn.body with|some _=>true|none=>false)|none=>false
def aae(P:Program)(l:Nat)(args:List Value)(w:World)(R:Ending->World->Prop):Prop:=
 ∃fn tmps assign body,(Instr.yield l args.toArray).run P w=.ok (.round l fn tmps assign body) w/\RoundIn Fence.wide 0 P l fn tmps assign body w R
def adS(P:Program)(f:FuncId)(e:Array Value->Sem Value):Prop:=
 ∃fn,P.funcs[f]? =some fn/\fn.body.isNone=true/\Extern.findNext fn=none/\Extern.find fn=some e
def R6(P:Program)(f:FuncId)(args:List Value)(w:World)(R:Ending->World->Prop):Prop:=
 ∃e,adS P f e/\∃v w',(e args.toArray).run P w=.ok v w'/\R (.returned v) w'
def dJ(P:Program)(fv:Value)(args:List Value)(w:World)(R:Ending->World->Prop):Prop:=
 match fv with
 | .func (.func f) first cap=>match qN P f with
   |true=>Calls P f (first.toList++args++cap.toList).toArray w R
   |false=>R6 P f (first.toList++args++cap.toList) w R
 | .func (.yield l) first cap=>(first= #[]/\cap= #[])/\aae P l args w R
 |_=>False
def ahy(P:Program)(t:TypeId):T2:=
 match P.underlying t with
 |some (.tuple ts)=> .tup (ts.toList.map (nI P))
 |_=> .one (nI P t)
def AJ [PQ] (P:Program)(s:St)(d:Option Tmp)(ty:TypeId)(fv:Value)(args:List SV)(K:St->Prop):Prop:=
 dJ P fv (args.map (SV.bE s.kn)) s.w λe w'=>aad s.df e w' ((ahy P ty).ex λv=>e=.returned v/\
  bk (zh (s.kill args).kn s.w w') (K ({s.kill args with w:=w'}.put d (.val v))))
def WJ [PQ] (hQ:Ih Q){dst:Option Tmp}{ty:TypeId}{pos:String}{after:Array Edge}{guard:Option (Nat × Bool)}{x:Operand}{args:Array Operand}{ats:Array TypeId}(hP:vx P)(aU:s.Ok)
  (hny:∀l f c,s.ev x≠ .func (.yield l) f c)(h:AJ P s dst ty (s.ev x) (args.toList.map s.sv) K):
  (Oper.mk dst (.call ⟨.value x,args,ats⟩) ty pos after guard).wp P s.act s.w (fW dst s K) Q:=by
 unfold AJ dJ at h;split at h
 ·rename_i f first cap hx;split at h
  ·rename_i hb;unfold qN at hb;split at hb
   ·rename_i fn hf;split at hb
    ·rename_i body hbody;have oA:(execOp s.ev (Oper.mk dst (.call ⟨.value x,args,ats⟩) ty pos after guard)).run P s.w=.ok (.enter f (first++args.map s.ev++cap)) s.w:=by have hn:=hP f fn hf;simp only [execOp,resolve,Deferred.ofValue,hx,invoke,callFunc,Sem.run_bind,Sem.run_pure,Result.andThen_ok];simp [program,Sem.run,hf,hn,hbody]
     unfold Oper.wp;rw [St.eval_eq,oA,Oper.upon_enter];have UX:(first.toList++(args.toList.map s.sv|>.map (SV.bE s.kn))++cap.toList).toArray=first++args.map s.ev++cap:=by apply Array.ext';simp [St.ev]
     rw [UX] at h;refine h.mono λe w' hr=> ?_
     rcases EO hr with hr|⟨q,c,hq,rfl,Mf,hc⟩
     case inr=>exact hQ q hq c _ _ (by unfold St.act;rw [Mf];rfl) hc
     obtain ⟨v,he,h1⟩:=T2.jl hr;subst he;rw [bn] at h1;obtain ⟨k1,k2,k3,k4,k5⟩:=eG (args.toList.map s.sv) aU;have gA:=ki k1 (w':=w') (by rw [k3];exact h1.1);exact iF h1.2 aU gA k2 k4 trivial rfl rfl
    ·cases hb
   ·cases hb
  ·obtain ⟨e,⟨fn,hf,hb,hn1,Ga⟩,v,w',oA,hr⟩:=h;have hname:=hP f fn hf;have UX:(first.toList++(args.toList.map s.sv|>.map (SV.bE s.kn))++cap.toList).toArray=first++args.map s.ev++cap:=by apply Array.ext';simp [St.ev]
   rw [UX] at oA;have hex:=run_callFunc_extern hf (by simpa using hname) hb hn1 Ga (first++args.map s.ev++cap) s.w;rw [oA] at hex;have hgo:(execOp s.ev (Oper.mk dst (.call ⟨.value x,args,ats⟩) ty pos after guard)).run P s.w=.ok (.value v) w':=by simp only [execOp,resolve,Deferred.ofValue,hx,invoke,Sem.run_bind,Sem.run_pure,Result.andThen_ok];exact hex
   unfold Oper.wp;rw [St.eval_eq,hgo];rcases EO hr with hr|⟨q,c,hq,he,Mf,hc⟩
   case inr=>cases he
   obtain ⟨v',he,h1⟩:=T2.jl hr
   cases he
   rw [bn] at h1;obtain ⟨k1,k2,k3,k4,k5⟩:=eG (args.toList.map s.sv) aU;have gA:=ki k1 (w':=w') (by rw [k3];exact h1.1);exact iF (v:=.val v) h1.2 aU gA k2 k4 trivial rfl rfl
 ·rename_i l f c hx;exact absurd hx (hny l f c)
 ·cases h
def og{n:Nat}(h:Fence.wide.depth.isSome=true):1<=n:=by simp [Fence.wide] at h
inductive Wd:Fence->Prop
 |out:Wd Fence.wide
 |round (l:Nat):Wd (Fence.wide.inRound l)
def Wd.fn{F:Fence}(h:Wd F)(f:FuncId):F.fn f:=by cases h<;>trivial
def Wd.depth{F:Fence}(h:Wd F):F.depth=none:=by cases h<;>rfl
def Wd.calls{F:Fence}(h:Wd F){n:Nat}{f:FuncId}{args:Array Value}{w:World}{R:Ending->World->Prop}:CallsIn F n P f args w R ↔ Calls P f args w R:=by
 cases h with
 |out=>exact callsIn_wide
 |round l=>exact callsIn_wide
def Wd.WK{F:Fence}(h:Wd F){n:Nat}{l:Nat}{f:FuncId}{tmps:Array Value}{assign body:Code}{w:World}{R:Ending->World->Prop}(hr:RoundIn Fence.wide 0 P l f tmps assign body w R):
  RoundIn F n P l f tmps assign body w R:=by
 cases h with
 |out=>exact ⟨trivial,λc cs _=>hr.2 c cs (room_wide _)⟩
 |round l'=>exact ⟨trivial,λc cs _=>hr.2 c cs (room_wide _)⟩
def Wd.aaf{F:Fence}(h:Wd F){n:Nat}{row:String}{args:Array Value}{w:World}{R:Value->World->Prop}(hr:RowsIn Fence.wide 0 P row args w R):
  RowsIn F n P row args w R:=by
 cases h with
 |out=>exact λc cs _=>hr c cs (room_wide _)
 |round l'=>exact λc cs _=>hr c cs (room_wide _)
def Pw{o:Oper}{a:Act}{w:World}{Q:Exit->Act->World->Prop}{K:Act->World->Prop}(hd:∀c,o.op≠ .defer c)(hh:o.wp P a w K Q):o.QI P a w K Q:=by
 refine ⟨hd,?_⟩;unfold Oper.wp at hh;generalize (execOp a.eval o).run P w=r at*
 cases r with
 |ok x w'=>
  cases x<;>simp only [Oper.upon,Oper.uponIn] at hh ⊢<;>
   first
    |exact hh
    |exact ⟨og,callsIn_wide.2 hh⟩
    |exact ⟨og,λc cs _=>by
     obtain ⟨v,w',h1,h2⟩:=hh c cs;exact ⟨v,w',h1,stepsIn_wide.2 h2⟩⟩
 |halt x w'=>cases x<;>simp only [Oper.upon,Oper.uponIn] at hh ⊢<;>exact hh
def xl{F:Fence}{n:Nat}(hF:Wd F){o:Oper}{a:Act}{w:World}{Q:Exit->Act->World->Prop}{K:Act->World->Prop}(hh:o.QI P a w K Q):o.wpIn F n P a w K Q:=by
 refine ⟨λf _=>hF.fn f,?_⟩;rw [Oper.semAt_eq _ _ _ hh.1];have hh:=hh.2;have hd:F.depth.isSome=true->1<=n:=λh=>by rw [hF.depth] at h;cases h
 generalize (execOp a.eval o).run P w=r at*
 cases r with
 |ok x w'=>
  cases x<;>simp only [Oper.uponIn] at hh ⊢<;>
   first
    |exact hh
    |exact ⟨hd,hF.calls.2 (callsIn_wide.1 hh.2)⟩
    |exact ⟨hd,hF.aaf hh.2⟩
    |exact ⟨hd,hF.WK hh.2⟩
 |halt x w'=>cases x<;>simp only [Oper.uponIn] at hh ⊢<;>exact hh
def Px [PQ] (hQ:Ih Q){dst:Option Tmp}{ty:TypeId}{pos:String}{after:Array Edge}{guard:Option (Nat × Bool)}{x:Operand}{args:Array Operand}{ats:Array TypeId}(aU:s.Ok)
  {l:Nat}{f c:Array Value}(hx:s.ev x=.func (.yield l) f c)(h:AJ P s dst ty (s.ev x) (args.toList.map s.sv) K):
  (Oper.mk dst (.call ⟨.value x,args,ats⟩) ty pos after guard).QI P s.act s.w (fW dst s K) Q:=by
 refine ⟨λc h=>(by cases h),?_⟩;rw [hx] at h;unfold AJ dJ at h;obtain ⟨⟨rfl,rfl⟩,fn,tmps,assign,body,hy,hr⟩:=h;have oA:(execOp s.ev (Oper.mk dst (.call ⟨.value x,args,ats⟩) ty pos after guard)).run P s.w=.ok (.round l fn tmps assign body) s.w:=by
  have ha:args.map s.ev=((args.toList.map s.sv).map (SV.bE s.kn)).toArray:=by apply Array.ext';simp [St.ev]
  simp only [execOp,resolve,Deferred.ofValue,hx,invoke,Sem.run_bind,Sem.run_pure,Result.andThen_ok];rw [ha];simpa using hy
 rw [St.eval_eq,oA,Oper.uponIn_round];refine ⟨og,hr.mono λe w' hr=> ?_⟩;rcases EO hr with hr|⟨q,c,hq,rfl,Mf,hc⟩
 case inr=>exact hQ q hq c _ _ (by unfold St.act;rw [Mf];rfl) hc
 obtain ⟨v,he,h1⟩:=T2.jl hr;subst he;rw [bn] at h1;obtain ⟨k1,k2,k3,k4,k5⟩:=eG (args.toList.map s.sv) aU;have gA:=ki k1 (w':=w') (by rw [k3];exact h1.1);exact iF h1.2 aU gA k2 k4 trivial rfl rfl
structure Rec(l:Nat)(w w':World):Prop where
 same:∀i,i≠l->w'.heap[i]? =w.heap[i]?
 size:w'.heap.size=w.heap.size
 os:w'.os=w.os
 tape:w'.tape=w.tape
 output:w'.output=w.output
def Rec.below{l:Nat}{w w':World}(h:Rec l w w'){B:Nat}(hB:B<=l):Below B w w':=⟨h.os,h.tape,h.output,Nat.le_of_eq h.size.symm,λk hk=>h.same k aa⟩
def Rec.putObj(w:World)(l:Nat)(o:Obj):Rec l w (w.putObj l o):=⟨λi hi=>World.putObj_heap_other hi,by simp,rfl,rfl,rfl⟩
section
variable {P:Program} {s:St} {K:St->Prop}
def pU{s:St}{D:Nat}{w':World}(aU:s.Ok)(hD:∀c t f,s.w.heap[D]?≠some (.cells c t f))(h:Rec D s.w w'):({s with w:=w'}:St).Ok:=by refine ⟨λk kb h1 h2=> ?_,aU.ne,aU.jP⟩;have:=aU.bj k kb h1 h2;rw [<-this];exact h.same _ λe=>hD _ _ _ (e▸this)
structure gQ(P:Program)(kt:TypeId)(G:Value->Prop):Prop where
 eq:∀x y,G x->G y->∃b,eqV P 20 kt x y=some b/\(b=true ↔ x=y)
 check:∀x,G x->∀b w,(Instr.checkKey b 10000 kt x).run P w=.ok () w
 bits:∀x,G x->Instr.sameBits 10000 x x=true
def bN(G:Value->Prop)(w:World)(m:Option Nat)(kvs:List (Value × Value)):Prop:=
 match m with
 |none=>kvs=[]
 |some r=>∃es clock,w.heap[r]? =some (.map es clock)/\es.toList.map (λe=>(e.key,e.val))=kvs/\(∀e ∈ kvs,G e.1)/\(kvs.map (·.1)).Nodup/\
  (es.toList.map (·.born)).Pairwise (·<·)/\∀e ∈ es.toList,e.born<clock
def B5(kvs:List (Value × Value))(k z v:Value)(b:Bool):Prop:=
 (b=true/\(k,v) ∈ kvs)\/(b=false/\v=z/\∀e ∈ kvs,e.1≠k)
open Classical in
noncomputable def rX(kvs:List (Value × Value))(k v:Value):List (Value × Value):=
 if ∃e ∈ kvs,e.1=k then kvs.map (λe=>if e.1=k then (e.1,v) else e) else kvs++ [(k,v)]
open Classical in
noncomputable def AH(kvs:List (Value × Value))(k:Value):List (Value × Value):=kvs.filter λe=>¬e.1=k
def Tc(a b:ByteArray):(a==b)=true ↔ a=b:=by
 cases a;cases b
 show ByteArray.beq _ _=true ↔ _;simp [ByteArray.beq]
def uo{d:TypeDesc}{x y:Value}{b:Bool}(h:Instr.sameNow d x y=some b):b=true ↔ x=y:=by
 unfold Instr.sameNow at h;split at h
 ·split at h
  ·rename_i e;subst e;cases h;simp
  ·cases h
 ·cases h;simp only [Value.string.injEq];exact Tc _ _
 ·cases h;simp
 ·cases h
def findNow_spec{d:TypeDesc}{k:Value}:∀(es:List MapEntry)(i:Nat)(r:Option (Nat × Value)),Instr.findNow d k es i=some r->
  match r with
  |none=>∀e ∈ es,e.key≠k
  |some (j,v)=>∃m e,j=i+m/\es[m]? =some e/\e.key=k/\e.val=v
 | [],i,r,h=>by unfold Instr.findNow at h;cases h;simp
 |e::es,i,r,h=>by
  unfold Instr.findNow at h
  split at h
  ·rename_i hs
   cases h
   exact ⟨0,e,rfl,rfl,((uo hs).1 rfl).symm,rfl⟩
  ·rename_i hs
   have ih:=findNow_spec es (i+1) r h
   have dN:e.key≠k:=λe=>by have:=(uo hs).2 e.symm;cases this
   cases r with
   |none=>
    intro e' he'
    rcases bJ.1 he' with rfl|he'
    ·exact dN
    ·exact ih e' he'
   |some p=>
    obtain ⟨m,e',h1,h2,h3,h4⟩:=ih
    exact ⟨m+1,e',by omega,by simpa using h2,h3,h4⟩
  ·cases h
def pV{kt:TypeId}{G:Value->Prop}(hk:gQ P kt G){k:Value}(hkG:G k):∀(es:List MapEntry)(i:Nat)(w:World),(∀e ∈ es,G e.key)->
  ∃r,(Instr.findAsking kt k es i).run P w=.ok r w/\match r with
  |none=>∀e ∈ es,e.key≠k
  |some (j,v)=>∃m e,j=i+m/\es[m]? =some e/\e.key=k/\e.val=v
 | [],i,w,_=>⟨none,rfl,by simp⟩
 |e::es,i,w,hG=>by
  obtain ⟨b,h1,h2⟩:=hk.eq k e.key hkG (hG e (.head _))
  have h3:(Op.equal kt k e.key).run P w=.ok b w:=jQ (D4 20 kt _ _ _ h1 _ aa w)
  cases b with
  |true=>exact ⟨some (i,e.val),by unfold Instr.findAsking;rw [Sem.run_bind,h3];rfl,0,e,rfl,rfl,(h2.1 rfl).symm,rfl⟩
  |false=>
   obtain ⟨r,g1,g2⟩:=pV hk hkG es (i+1) w λe he=>hG e (.tail _ he)
   have dN:e.key≠k:=λe=>by have:=h2.2 e.symm;cases this
   refine ⟨r,by unfold Instr.findAsking;rw [Sem.run_bind,h3];exact g1,?_⟩
   cases r with
   |none=>
    intro e' he'
    rcases bJ.1 he' with rfl|he'
    ·exact dN
    ·exact g2 e' he'
   |some p=>
    obtain ⟨m,e',h1,h2,h3,h4⟩:=g2
    exact ⟨m+1,e',by omega,by simpa using h2,h3,h4⟩
def pW{kt:TypeId}{G:Value->Prop}(hk:gQ P kt G)(hu:(P.underlying kt).isSome=true){k:Value}(hkG:G k)(es:List MapEntry)(w:World)(hG:∀e ∈ es,G e.key):
  ∃r,(Instr.findKey kt k es).run P w=.ok r w/\match r with
  |none=>∀e ∈ es,e.key≠k
  |some (j,v)=>∃e,es[j]? =some e/\e.key=k/\e.val=v:=by
 obtain ⟨d,hd⟩:=kS.1 hu;have key:∃r,(Instr.findKey kt k es).run P w=.ok r w/\match r with
  |none=>∀e ∈ es,e.key≠k
  |some (j,v)=>∃m e,j=0+m/\es[m]? =some e/\e.key=k/\e.val=v:=by
  unfold Instr.findKey;simp only [Sem.run_bind,aD,hd,Result.andThen_ok]
  cases hf:Instr.findNow d k es 0 with
  |some r=>exact ⟨r,rfl,findNow_spec es 0 r hf⟩
  |none=>exact pV hk hkG es 0 w hG
 obtain ⟨r,h1,h2⟩:=key;refine ⟨r,h1,?_⟩
 cases r with
 |none=>exact h2
 |some p=>
  obtain ⟨m,e,g1,g2,g3,g4⟩:=h2;exact ⟨e,by rw [g1,cP];exact g2,g3,g4⟩
def lK{r:Nat}{es:Array MapEntry}{c:Nat}{w:World}(h:w.heap[r]? =some (.map es c)):(getObj r).run P w=.ok (.map es c) w:=by simp [getObj,Sem.run,h]
def oh{r:Nat}{es es':Array MapEntry}{c c':Nat}{w:World}(h:w.heap[r]? =some (.map es c)):(setObj r (.map es' c')).run P w=.ok () (w.putObj r (.map es' c')):=by simp [setObj,Sem.run,h,World.putObj]
def vZ{α β:Type}{f:α->β}:∀{l:List α} {x y:α},(l.map f).Nodup->x ∈ l->y ∈ l->f x=f y->x=y
 | [],_,_,_,h,_,_=>by cases h
 |a::l,x,y,hn,hx,hy,e=>by
  rw [dG,lE] at hn
  rcases bJ.1 hx with rfl|hx
  ·rcases bJ.1 hy with e2|hy
   ·exact e2.symm
   ·exact absurd (aS.2 ⟨y,hy,e.symm⟩) hn.1
  ·rcases bJ.1 hy with e2|hy
   ·rw [e2] at e
    exact absurd (aS.2 ⟨x,hx,e⟩) hn.1
   ·exact vZ hn.2 hx hy e
def pX(P:Program)(t:TypeId):Option (TypeId × TypeId × Value):=match P.underlying t with
 |some (.map kt et)=>if (P.underlying kt).isSome &&(P.underlying et).isSome then ((P.info? et).bind (·.zero)).map λz=>(kt,et,z) else none
 |_=>none
def lL{t kt et:TypeId}{z:Value}(h:pX P t=some (kt,et,z)):P.underlying t=some (.map kt et)/\(P.underlying kt).isSome=true/\(P.underlying et).isSome=true/\∀w,(zeroValue et).run P w=.ok z w:=by
 unfold pX at h;split at h
 ·rename_i kt' et' hu;split at h
  ·rename_i hb;rw [gr] at hb
   cases hi:P.info? et' with
   |none=>simp [hi] at h
   |some i=>
    cases hz:i.zero with
    |none=>simp [hi,hz] at h
    |some z'=>
     simp [hi,hz] at h;obtain ⟨rfl,rfl,rfl⟩:=h;exact ⟨hu,hb.1,hb.2,λw=>by simp [zeroValue,cV,hi,hz]⟩
  ·cases h
 ·cases h
def lh{kt:TypeId}{G:Value->Prop}(hk:gQ P kt G){k:Value}(h:G k)(b:Bool)(w:World):(Instr.checkKey b 10000 kt k).run P w=.ok () w:=hk.check k h b w
def Du{kt:TypeId}{z k:Value}{G:Value->Prop}{kvs:List (Value × Value)}{w:World}(hk:gQ P kt G)(hu:(P.underlying kt).isSome=true)(hkG:G k){es:List MapEntry}
  (he:es.map (λe=>(e.key,e.val))=kvs)(hG:∀e ∈ kvs,G e.1)(hnd:(kvs.map (·.1)).Nodup){v:Value}{b:Bool}(hl:B5 kvs k z v b):
  ∃r,(Instr.findKey kt k es).run P w=.ok r w/\((r=none/\b=false/\v=z)\/∃j,r=some (j,v)/\b=true):=by
 have hGe:∀e ∈ es,G e.key:=λe hm=>hG (e.key,e.val) (by rw [<-he];exact aS.2 ⟨e,hm,rfl⟩)
 obtain ⟨rr,g1,g2⟩:=pW hk hu hkG es w hGe;refine ⟨rr,g1,?_⟩
 cases rr with
 |none=>
  rcases hl with ⟨rfl,u7⟩|⟨rfl,rfl,_⟩
  ·rw [<-he] at u7;obtain ⟨e,he1,VP⟩:=aS.1 u7;exact absurd (congrArg Prod.fst VP) (g2 e he1)
  ·exact .inl ⟨rfl,rfl,rfl⟩
 |some p=>
  obtain ⟨j,v'⟩:=p;obtain ⟨e,g3,g4,g5⟩:=g2;have hme:e ∈ es:=bf g3;rcases hl with ⟨rfl,u7⟩|⟨rfl,rfl,lk⟩
  ·rw [<-he] at u7;obtain ⟨e',he1,VP⟩:=aS.1 u7;have hkk:e'.key=e.key:=(congrArg Prod.fst VP).trans g4.symm;have hv:e'.val=v:=congrArg Prod.snd VP;have:e'=e:=by rw [<-he,kj] at hnd;exact vZ hnd he1 hme hkk
   subst this;rw [hv] at g5;subst g5;exact .inr ⟨j,rfl,rfl⟩
  ·exact absurd g4 (lk (e.key,e.val) (by rw [<-he];exact aS.2 ⟨e,hme,rfl⟩))
def LK{t kt et:TypeId}{z k:Value}{G:Value->Prop}{r:Option Nat}{kvs:List (Value × Value)}{w:World}(ht:pX P t=some (kt,et,z))(hk:gQ P kt G)(hm:bN G w r kvs)(hkG:G k)(ok:Bool){v:Value}{b:Bool}
  (hl:B5 kvs k z v b):(Instr.lookup t (.map r) k ok).run P w=.ok (if ok then .tuple #[v,.bool b] else v) w:=by
 obtain ⟨h1,h2,h3,h4⟩:=lL ht;unfold Instr.lookup;simp only [Sem.run_bind,aD,h1,Result.andThen_ok]
 cases r with
 |none=>
  have hkv:kvs=[]:=hm;obtain ⟨rr,g1,g2⟩:=Du (es:=[]) (w:=w) hk h2 hkG hkv.symm (by rw [hkv];simp) (by rw [hkv];simp) hl;simp only [Sem.run_bind,Sem.run_pure,Result.andThen_ok,lh hk hkG];rw [g1];rcases g2 with ⟨rfl,rfl,rfl⟩|⟨j,rfl,rfl⟩<;>simp [h4]
 |some r=>
  obtain ⟨es,clock,e1,e2,e3,e4,_⟩:=hm;obtain ⟨rr,g1,g2⟩:=Du (es:=es.toList) (w:=w) hk h2 hkG e2 e3 e4 hl;simp only [Sem.run_bind,lK e1,Result.andThen_ok,Sem.run_pure,lh hk hkG,g1];rcases g2 with ⟨rfl,rfl,rfl⟩|⟨j,rfl,rfl⟩<;>simp [h4]
def uq{α β:Type}{f:α->β}:∀{l:List α},(l.map f).Nodup->l.Nodup
 | [],_=>List.nodup_nil
 |a::l,h=>by
  rw [dG,lE] at h
  exact lE.2 ⟨λhm=>h.1 (aS.2 ⟨a,hm,rfl⟩),uq h.2⟩
def Py{kvs:List (Value × Value)}{k v:Value}:∀e ∈ rX kvs k v,e.1=k\/∃e' ∈ kvs,e'.1=e.1:=by
 intro e he;unfold rX at he;split at he
 ·obtain ⟨e',h1,rfl⟩:=aS.1 he;refine .inr ⟨e',h1,?_⟩;split<;>rfl
 ·rcases cu.1 he with he|he
  ·exact .inr ⟨e,he,rfl⟩
  ·simp at he;exact .inl (by rw [he])
def AK{kvs:List (Value × Value)}{k v:Value}(h:(kvs.map (·.1)).Nodup):((rX kvs k v).map (·.1)).Nodup:=by
 classical
 unfold rX;split
 ·have:(kvs.map λe=>if e.1=k then (e.1,v) else e).map (·.1)=kvs.map (·.1):=by
   rw [kj];refine wH λe _=> ?_
   simp only [Function.comp_apply];split<;>rfl
  rw [this];exact h
 ·rename_i hn;rw [aT];refine lH.2 ⟨h,by simp,λa ha b hb e=> ?_⟩;simp at hb;obtain ⟨e',he',rfl⟩:=aS.1 ha;exact hn ⟨e',he',by rw [e,hb]⟩
def AL{t kt et:TypeId}{z k v:Value}{G:Value->Prop}{r:Nat}{kvs:List (Value × Value)}{w:World}(ht:pX P t=some (kt,et,z))(hk:gQ P kt G)(hm:bN G w (some r) kvs)(hkG:G k):
  ∃w',(Instr.mapUpdate t (.map (some r)) k v).run P w=.ok () w'/\Rec r w w'/\bN G w' (some r) (rX kvs k v):=by
 obtain ⟨h1,h2,h3,h4⟩:=lL ht;obtain ⟨es,clock,e1,e2,e3,e4,e5,e6⟩:=hm;have hr:=(mQ.1 e1).1;have hGe:∀e ∈ es.toList,G e.key:=λe hm=>e3 (e.key,e.val) (by rw [<-e2];exact aS.2 ⟨e,hm,rfl⟩)
 obtain ⟨rr,g1,g2⟩:=pW hk h2 hkG es.toList w hGe;have hG':∀e ∈ rX kvs k v,G e.1:=λe he=>by
  rcases Py e he with h|⟨e',h,h'⟩
  ·rw [h];exact hkG
  ·rw [<-h'];exact e3 e' h
 unfold Instr.mapUpdate;simp only [Sem.run_bind,aD,h1,Result.andThen_ok,lK e1,lh hk hkG,g1]
 cases rr with
 |none=>
  refine ⟨w.putObj r (.map (es.push {key:=k,val:=v,born:=clock}) (clock+1)),oh e1,Rec.putObj _ _ _,?_⟩;have lk:¬∃e ∈ kvs,e.1=k:=by rintro ⟨e,he,hek⟩;rw [<-e2] at he;obtain ⟨e',h5,rfl⟩:=aS.1 he;exact g2 e' h5 hek
  refine ⟨_,_,World.putObj_heap_same hr,?_,hG',AK e4,?_,?_⟩
  ·unfold rX;rw [if_neg lk,<-e2];simp
  ·simp only [Array.toList_push,aT,dG,List.map_nil];refine List.pairwise_append.2 ⟨e5,by simp,λa ha b hb=> ?_⟩;simp at hb;subst hb;obtain ⟨e,he,rfl⟩:=aS.1 ha;exact e6 e he
  ·intro e he;simp only [Array.toList_push,cu,fB] at he;rcases he with he|rfl
   ·have:=e6 e he;omega
   ·show clock<clock+1;omega
 |some p=>
  obtain ⟨j,v'⟩:=p;obtain ⟨e,g3,g4,g5⟩:=g2;have hj:j<es.toList.length:=(bH.1 g3).1;have hje:es[j]? =some e:=by simpa using g3
  have akC:((es[j]?).map (·.key)).getD k=k:=by rw [hje];exact g4
  refine ⟨w.putObj r (.map (es.modify j λe=>{e with key:=k,val:=v}) clock),?_,Rec.putObj _ _ _,?_⟩
  ·simp only [akC,Instr.keyThatStays,hk.bits k hkG,if_true,Sem.run_bind,Sem.run_pure,Result.andThen_ok];exact oh e1
  ·have akD:∃e ∈ kvs,e.1=k:=⟨(e.key,e.val),by rw [<-e2];exact aS.2 ⟨e,bf g3,rfl⟩,g4⟩;have uG:(es.modify j λe=>{e with key:=k,val:=v}).toList=es.toList.modify j λe=>{e with key:=k,val:=v}:=by simp
   have dC:∀i,(es.toList.modify j λe=>{e with key:=k,val:=v})[i]? =(es.toList[i]?).map λe'=>if i=j then {e' with key:=k,val:=v} else e':=by
    intro i;rw [CY]
    cases es.toList[i]? with
    |none=>rfl
    |some x=>simp [eq_comm]
   refine ⟨_,_,World.putObj_heap_same hr,?_,hG',AK e4,?_,?_⟩
   ·unfold rX;rw [if_pos akD,<-e2,uG];apply im;intro i;rw [aV,dC,aV,aV]
    cases hi:es.toList[i]? with
    |none=>rfl
    |some x=>
     simp only [mj,Option.some.injEq];by_cases hij:i=j
     ·subst hij;rw [g3] at hi;cases hi;rw [if_pos rfl,if_pos (show (e.key,e.val).1=k from g4)];show (k,v)=(e.key,v);rw [g4]
     ·rw [if_neg hij,if_neg];intro hx;refine hij ?_;have hxe:x=e:=by rw [<-e2,kj] at e4;exact vZ e4 (bf hi) (bf g3) (show x.key=e.key from (show x.key=k from hx).trans g4.symm)
      have hnd:es.toList.Nodup:=by rw [<-e2,kj] at e4;exact uq e4
      subst hxe;exact (List.getElem?_inj (by exact (bH.1 hi).1) hnd).1 (hi.trans g3.symm)
   ·rw [uG];have:(es.toList.modify j λe=>{e with key:=k,val:=v}).map (·.born)=es.toList.map (·.born):=by
     apply im;intro i;rw [aV,dC,aV]
     cases es.toList[i]? with
     |none=>rfl
     |some x=>simp only [mj];split<;>rfl
    rw [this];exact e5
   ·intro e' he';rw [uG] at he';obtain ⟨i,hi⟩:=mR he';rw [dC] at hi
    cases hx:es.toList[i]? with
    |none=>rw [hx] at hi;cases hi
    |some x=>
     rw [hx] at hi;have:=e6 x (bf hx);simp only [mj,Option.some.injEq] at hi;split at hi<;>(subst hi;exact this)
def LL{t kt et:TypeId}{z k:Value}{G:Value->Prop}{r:Nat}{kvs:List (Value × Value)}{w:World}{ty:TypeId}{ats:Array TypeId}(ha:ats[0]? =some t)(ht:pX P t=some (kt,et,z))(hk:gQ P kt G)(hm:bN G w (some r) kvs)(hkG:G k):
  ∃w',(Builtin.delete_ ats ty #[.map (some r),k]).run P w=.ok (.tuple #[]) w'/\Rec r w w'/\bN G w' (some r) (AH kvs k):=by
 obtain ⟨h1,h2,h3,h4⟩:=lL ht;obtain ⟨es,clock,e1,e2,e3,e4,e5,e6⟩:=hm;have hr:=(Array.getElem?_eq_some_iff.1 e1).1;have hGe:∀e ∈ es.toList,G e.key:=λe hm=>e3 (e.key,e.val) (by rw [<-e2];exact List.mem_map.2 ⟨e,hm,rfl⟩)
 obtain ⟨rr,g1,g2⟩:=pW hk h2 hkG es.toList w hGe;have eI:(AH kvs k).Sublist kvs:=List.filter_sublist;unfold Builtin.delete_;simp only [ha,show (#[Value.map (some r),k]:Array Value)[0]? =some (.map (some r)) from rfl,show (#[Value.map (some r),k]:Array Value)[1]? =some k from rfl,Sem.run_bind,aD,h1,Result.andThen_ok,lK e1,lh hk hkG,g1]
 cases rr with
 |none=>
  refine ⟨w.putObj r (.map es clock),by rw [Sem.run_bind,oh e1];rfl,Rec.putObj _ _ _,es,clock,World.putObj_heap_same hr,?_,λe he=>e3 e (eI.subset he),(eI.map _).nodup e4,e5,e6⟩;rw [e2];unfold AH;symm;rw [List.filter_eq_self];intro e he;rw [<-e2] at he;obtain ⟨e',h5,rfl⟩:=List.mem_map.1 he;simpa using g2 e' h5
 |some p=>
  obtain ⟨j,v'⟩:=p;obtain ⟨e,g3,g4,g5⟩:=g2;have hj:j<es.toList.length:=(List.getElem?_eq_some_iff.1 g3).1;have hl:(es.eraseIdxIfInBounds j).toList=es.toList.eraseIdx j:=by unfold Array.eraseIdxIfInBounds;rw [dif_pos (by simpa using hj),Array.toList_eraseIdx]
  have hs:(es.toList.eraseIdx j).Sublist es.toList:=List.eraseIdx_sublist _ _;refine ⟨w.putObj r (.map (es.eraseIdxIfInBounds j) clock),by rw [Sem.run_bind,oh e1];rfl,Rec.putObj _ _ _,_,clock,World.putObj_heap_same hr,?_,λe he=>e3 e (eI.subset he),(eI.map _).nodup e4,?_,?_⟩
  ·rw [hl,<-e2];have hnd:(es.toList.map (·.key)).Nodup:=by rw [<-e2,List.map_map] at e4;exact e4
   clear hl hs e2 e3 e4 e5 e6 hGe g1 eI e1 hr h1 h2 h3 h4;generalize es.toList=l at*;unfold AH
   induction l generalizing j with
   |nil=>simp at hj
   |cons x l ih=>
    rw [List.map_cons,List.nodup_cons] at hnd
    cases j with
    |zero=>
     simp at g3;subst g3;simp only [List.eraseIdx_cons_zero,List.map_cons];rw [List.filter_cons_of_neg (by simpa using g4)];symm;rw [List.filter_eq_self];intro y hy;obtain ⟨y',h5,rfl⟩:=List.mem_map.1 hy;have:y'.key≠k:=λhh=>hnd.1 (List.mem_map.2 ⟨y',h5,by rw [hh,g4]⟩)
     simpa using this
    |succ j=>
     have hx:x.key≠k:=λhh=>hnd.1 (List.mem_map.2 ⟨e,List.mem_of_getElem? (by simpa using g3),by rw [g4,hh]⟩)
     simp only [List.eraseIdx_cons_succ,List.map_cons];rw [List.filter_cons_of_pos (by simpa using hx),ih j (by simpa using g3) (by simpa using hj) hnd.2]
  ·rw [hl];exact e5.sublist (hs.map _)
  ·intro e' he';rw [hl] at he';exact e6 e' (hs.subset he')
def Td{t kt et:TypeId}{G:Value->Prop}{r:Option Nat}{kvs:List (Value × Value)}{w:World}{ty:TypeId}{ats:Array TypeId}(ha:ats[0]? =some t)(ht:P.underlying t=some (.map kt et))(hm:bN G w r kvs):
  (Builtin.len_ ats ty #[.map r]).run P w=.ok (.int .i64 kvs.length) w:=by
 cases r with
 |none=>
  have:kvs=[]:=hm;subst this;simp [Builtin.len_,ha,aD,ht,goInt]
 |some r=>
  obtain ⟨es,clock,e1,e2,_⟩:=hm;have:kvs.length=es.size:=by rw [<-e2];simp
  simp [Builtin.len_,ha,aD,ht,goInt,lK e1,this]
def Te(P:Program)(s:St)(d:Option Tmp)(t:TypeId)(m k:Value)(ok:Bool)(K:St->Prop):Prop:=
 match pX P t,m with
 |some (kt,et,z),.map r=>∃(G:Value->Prop)(kvs:List (Value × Value)),gQ P kt G/\bN G s.w r kvs/\G k/\
  (nI P et).ex λv=>∃b:Bool,B5 kvs k z v b/\K (s.put d (.val (match ok with|true=> .tuple #[v,.bool b]|false=>v)))
 |_,_=>False
def Tf(P:Program)(s:St)(d:Option Tmp)(t:TypeId)(m k v:Value)(l:List SV)(K:St->Prop):Prop:=
 match pX P t,m with
 |some (kt,_,_),.map r=>∃(G:Value->Prop)(kvs:List (Value × Value)),gQ P kt G/\r.isSome=true/\bN G s.w r kvs/\G k/\
  ∀w1,Rec (r.getD 0) s.w w1->bN G w1 r (rX kvs k v)->K (({s.kill l with w:=w1}).put d (.val undef))
 |_,_=>False
def Yi(P:Program)(s:St)(d:Option Tmp)(ats:List TypeId)(m k:Value)(K:St->Prop):Prop:=
 match ats,m with
 |t::_,.map r=>match pX P t with
  |some (kt,_,_)=>∃(G:Value->Prop)(kvs:List (Value × Value)),gQ P kt G/\r.isSome=true/\bN G s.w r kvs/\G k/\
   ∀w1,Rec (r.getD 0) s.w w1->bN G w1 r (AH kvs k)->K (({s with w:=w1}).put d (.val (.tuple #[])))
  |none=>False
 |_,_=>False
def Tg(P:Program)(s:St)(d:Option Tmp)(ats:List TypeId)(m:Value)(K:St->Prop):Prop:=
 match ats,m with
 |t::_,.map r=>match pX P t with
  |some _=>∃(G:Value->Prop)(kvs:List (Value × Value)),bN G s.w r kvs/\K (s.put d (.val (.int .i64 kvs.length)))
  |none=>False
 |_,_=>False
def Nj(P:Program)(s:St)(d:Option Tmp)(t:TypeId)(h:Option Value)(K:St->Prop):Prop:=
 match pX P t,pr h with
 |some _,some _=>∀w1,w1=s.w.alloc (.map #[] 0)->K ({s with w:=w1}.put d (.val (.map (some s.w.heap.size))))
 |_,_=>False
def bN.qF{G:Value->Prop}{w:World}{r:Nat}{kvs:List (Value × Value)}(h:bN G w (some r) kvs):∀c t f,w.heap[r]?≠some (.cells c t f):=by obtain ⟨es,clock,e1,_⟩:=h;intro c t f e;rw [e1] at e;cases e
def Pz{t:TypeId}{h:Option Value}{x:TypeId × TypeId × Value}{y:Option Int}(ht:pX P t=some x)(hh:pr h=some y)(w:World):(Instr.makeMap t h).run P w=.ok (.map (some w.heap.size)) (w.alloc (.map #[] 0)):=by
 obtain ⟨kt,et,z⟩:=x;obtain ⟨h1,_⟩:=lL ht
 cases h with
 |none=>simp [Instr.makeMap,gJ]
 |some v=>
  cases v<;>simp [pr] at hh
  simp [Instr.makeMap,aD,h1,asInt,asIntOf,gJ]
end
def pY(P:Program)(t:TypeId)(len:Nat)(parts:Array (Nat × Value)):Option (TypeId × Array Value):=
 match lC P t with
 |none=>none
 |some (e,i)=>match i.zero with
  |none=>none
  |some z=>match len with
   |0=>(match parts.toList with| []=>some (e,#[])|_=>none)
   |len=>if ¬len*i.size>2 ^ 24/\¬len*i.size=0 then
    (Instr.fill (λj=>some (j*i.size,i.size)) ((Array.range (len*i.size)).map (z.cells[· % z.cells.size]!)) parts.toList).map λcs=>(e,cs)
    else none
def lj(P:Program)(s:St)(d:Option Tmp)(t:TypeId)(len:Nat)(parts:Array (Nat × Value))(K:St->Prop):Prop:=
 match pY P t len parts with
 |some (e,cells)=>∀w1,w1=s.w.alloc (.cells cells e)->K ({s with w:=w1,kn:=s.kn++ [KB.mk s.w.heap.size cells.toList e true]}.put d (.V2 s.kn.length len))
 |none=>False
def oQ{t:TypeId}{len:Nat}{parts:Array (Nat × Value)}{e:TypeId}{cells:Array Value}(h:pY P t len parts=some (e,cells))(w:World):
  (Instr.buildSlice t len parts).run P w=.ok (.slice (some ⟨w.heap.size,0,none⟩) len len) (w.alloc (.cells cells e)):=by
 unfold pY at h;split at h
 ·cases h
 rename_i e' i he;obtain ⟨ht,hi⟩:=ir he;split at h
 ·cases h
 rename_i z hz;split at h
 ·split at h
  ·rename_i hp
   cases h
   obtain ⟨l⟩:=parts;simp only at hp;subst hp;simp [Instr.buildSlice,aD,ht,sizeOf,typeInfo,hi,Instr.fill,newRow];congr 2;exact Array.eq_empty_of_size_eq_zero cx
  ·cases h
 ·split at h
  ·rename_i hl
   cases hf:Instr.fill (λj=>some (j*i.size,i.size)) ((Array.range (len*i.size)).map (z.cells[· % z.cells.size]!)) parts.toList with
   |none=>rw [hf] at h;cases h
   |some cs=>
    rw [hf] at h
    cases h
    exact run_buildSlice w t e len parts cells i z ht hi hz hl.1 hl.2 hf
  ·cases h
def ur{d:Option Tmp}{t:TypeId}{len:Nat}{parts:Array (Nat × Value)}(aU:s.Ok)(h:lj P s d t len parts K):
  ∃v w',(Instr.buildSlice t len parts).run P s.w=.ok v w'/\fW d s K (s.act.put d v) w':=by
 unfold lj at h;split at h
 ·rename_i e cells hc;refine ⟨_,_,oQ hc s.w,?_⟩;have Bg:∀j,j<s.w.heap.size->(s.w.alloc (.cells cells e)).heap[j]? =s.w.heap[j]? :=λj hj=>Below.heap_alloc _ _ _ hj
  have Bh:(s.w.alloc (.cells cells e)).heap[s.w.heap.size]? =some (.cells cells e (0,0)):=by show (s.w.heap.push _)[s.w.heap.size]? =_;simp
  have key:∀(i:Nat)(x:KB),(s.kn++ [KB.mk s.w.heap.size cells.toList e true])[i]? =some x->(i<s.kn.length/\s.kn[i]? =some x)\/(i=s.kn.length/\x=KB.mk s.w.heap.size cells.toList e true):=by
   intro i x hx;rcases fz i s.kn.length with fH|Me
   ·exact .inl ⟨fH,by rwa [kT fH] at hx⟩
   ·rw [mV Me] at hx
    cases hz:i-s.kn.length with
    |zero=>simp [hz] at hx;subst hx;exact .inr ⟨by omega,rfl⟩
    |succ n=>simp [hz] at hx
  have h:=h _ rfl;refine jn h aU rfl (zi _ _) (λk kb h1 h2=> ?_) (λi j x y h1 h2 h3 h4 h5=> ?_) (show s.kn.length<(s.kn++ [_]).length by simp) ?_ rfl
  ·rcases key k kb h1 with ⟨_,a2⟩|⟨_,rfl⟩
   ·rw [<-aU.bj k kb a2 h2];exact Bg _ (aU.lt k kb a2 h2)
   ·simpa using Bh
  ·rcases key i x h1 with ⟨a1,a2⟩|⟨a1,rfl⟩<;>rcases key j y h2 with ⟨b1,b2⟩|⟨b1,rfl⟩
   ·exact aU.ne i j x y a2 b2 h3 h4 h5
   ·have:=aU.lt i x a2 h3;simp only at h5;omega
   ·have:=aU.lt j y b2 h4;simp only at h5;omega
   ·omega
  ·simp [SV.bE,dh]
 ·cases h
def okT(P:Program)(t:TypeId):Bool:=match P.underlying t with|some _=>true|none=>false
def okI(P:Program)(t:TypeId):Bool:=match P.info? t with|some _=>true|none=>false
def pZ{t:TypeId}(h:okT P t=true):(P.underlying t).isSome=true:=by unfold okT at h;split at h<;>simp_all
def Th{t:TypeId}(h:okI P t=true):(P.info? t).isSome=true:=by unfold okI at h;split at h<;>simp_all
def EP(s:St)(parts:Array (Nat × Operand)):Array (Nat × Value):=parts.map λp=>(p.1,s.ev p.2)
def ER(P:Program)(s:St)(d:Option Tmp)(t:TypeId)(x i:Value)(K:St->Prop):Prop:=
 match x,i,mi P t with
 | .agg cs,.int _ i,some (n,e)=>match nI P e,fV P e,okT P e with
   | .sc c,some z,true=>(0<=i/\i<(n:Int))/\c.ex λv=>cs.toList[i.toNat*z]? =some v/\K (s.put d (.val v))
   | .agg l,some z,true=>(0<=i/\i<(n:Int))/\VY l λvs=>(cs.toList.drop (i.toNat*z)).take z=vs/\K (s.put d (.val (.agg vs.toArray)))
   |_,_,_=>False
 |_,_,_=>False
def ES{d:Option Tmp}{t:TypeId}{x i:Value}(aU:s.Ok)(h:ER P s d t x i K):∃v,(Instr.index t x i).run P s.w=.ok v s.w/\fW d s K (s.act.put d v) s.w:=by
 unfold ER at h;split at h
 ·rename_i cs k i n e ha;have hu:P.underlying t=some (.array n e):=by
   unfold mi at ha;split at ha
   ·rename_i hu;cases ha;exact hu
   ·cases ha
  split at h
  ·rename_i c z ht hz hue;obtain ⟨hb,hex⟩:=h;obtain ⟨v,hv,hk⟩:=S.jl hex;have hz':(sizeOf e).run P s.w=.ok z s.w:=by
    unfold fV at hz
    cases hi':P.info? e with
    |none=>simp [hi'] at hz
    |some i'=>simp [hi'] at hz;rw [eA (by simp [hi'])];simp [eY,hi',hz]
   refine ⟨v,?_,di aU hk⟩;have hp:=(tg (P:=P) (t:=e) (cs:=cs) (off:=i.toNat*z) s.w (by have:=pZ hue;cases hq:P.underlying e<;>simp_all)).2 (Gn ht) v (by simpa using hv);simp [Instr.index,asIntOf,aD,hu,hb,hz',hp]
  ·rename_i l z ht hz hue;obtain ⟨hb,hex⟩:=h;obtain ⟨vs,hv,hk⟩:=DW hex;have hz':(sizeOf e).run P s.w=.ok z s.w:=by
    unfold fV at hz
    cases hi':P.info? e with
    |none=>simp [hi'] at hz
    |some i'=>simp [hi'] at hz;rw [eA (by simp [hi'])];simp [eY,hi',hz]
   have QJ:eY P e=z:=by unfold fV at hz;unfold eY;rw [hz];rfl
   refine ⟨_,?_,di aU hk⟩;have hp:=(tg (P:=P) (t:=e) (cs:=cs) (off:=i.toNat*z) s.w (by have:=pZ hue;cases hq:P.underlying e<;>simp_all)).1 (zm ht);rw [QJ,hv] at hp;simp [Instr.index,asIntOf,aD,hu,hb,hz',hp]
  ·cases h
 ·cases h
def Ti(P:Program)(src dst:TypeId):Bool:=
 match P.underlying src,P.underlying dst with
 |some (.slice e),some .string=>match P.underlying e with|some (.int .u8)=>true|_=>false
 |_,_=>false
def Nk(P:Program)(s:St):Op->Option (Option Addr × Nat)
 | .convert src dst x=>match Ti P src dst with
   |true=>match s.ev x with| .slice a n _=>some (a,n)|_=>none
   |false=>none
 |_=>none
def Dv{o:Oper}{a:Option Addr}{n:Nat}(h:Nk P s o.op=some (a,n)){ns:List Int}(hn:ns.length=n){w':World}(hl:au w' a 0 (ns.map (Value.int .u8))):
  (execOp s.ev o).run P w'=.ok (.value (.string (strOfNums ns))) w':=by
 obtain ⟨dst,op,ty,pos,after,guard⟩:=o;simp only at h;unfold Nk at h;split at h
 ·rename_i src dst' x;split at h
  ·rename_i hb;split at h
   ·rename_i a' n' c hx
    cases h
    unfold Ti at hb;split at hb
    ·rename_i e hs hd;split at hb
     ·rename_i he;show (do pure (Next.value (<-convert src dst' (s.ev x))):Sem Next).run P w'=_;have key:(convert src dst' (s.ev x)).run P w'=.ok (.string (strOfNums ns)) w':=by
       rw [hx]
       cases a with
       |none=>
        have:ns=[]:=by
         cases ns with
         |nil=>rfl
         |cons v r=>have:=kh hl 0 cx;simp [Vc.ld,ae] at this
        subst this;rw [run_convert_bytes_nil w' src e hs he _ _ dst' hd];rfl
       |some b=>
        have hc:=run_loadCells_list (P:=P) (w:=w') b (ns.map (Value.int .u8)) (λj v hj=>by have:=kh hl j (bH.1 hj).1;rw [cP,hj] at this;exact this);rw [aB,hn] at hc;rw [run_convert_bytes_string w' src dst' e _ n c hs he hd,run_bytesToString w' _ n c ns hc,foldl_push_bytes];simp [strOfNums,ByteArray.empty,ByteArray.emptyWithCapacity];rfl
      rw [Sem.run_bind,key];rfl
     ·cases hb
    ·cases hb
   ·cases h
  ·cases h
 ·cases h
def uu(P:Program)(t:TypeId):Bool:=match P.underlying t with|some (.interface _)=>false|some _=>true|none=>false
def LM{t:TypeId}{v:Value}(h:uu P t=true)(w:World):(Instr.makeInterface t v).run P w=.ok (.iface t v) w:=by
 unfold uu at h;split at h
 ·cases h
 ·rename_i d hd dN;simp only [Instr.makeInterface,Sem.run_bind,aD,hd,Result.andThen_ok]
  cases d<;>simp_all
 ·cases h
def LO{a xT:TypeId}{v:Value}(h:uu P a=true)(w:World):(Instr.typeAssert (.iface a v) xT a false).run P w=.ok v w:=by
 unfold uu at h;split at h
 ·cases h
 ·rename_i d hd dN;simp only [Instr.typeAssert,Sem.run_bind,aD,hd,Result.andThen_ok]
  cases d<;>simp_all
 ·cases h
def LP(P:Program)(s:St)(d:Option Tmp)(a:TypeId)(x:Value)(K:St->Prop):Prop:=
 match uu P a with
 |true=>match (P.info? a).bind (·.zero) with
  |some z=>∃(t:TypeId)(v:Value),x=.iface t v/\Br (decide (t=a)) ((nI P a).ex λu=>v=u/\K (s.put d (.val (.tuple #[u,.bool true])))) (K (s.put d (.val (.tuple #[z,.bool false]))))
  |none=>False
 |false=>False
def Tj(P:Program)(t:TypeId):Bool:=match P.underlying t with|some .string=>true|_=>false
def ET(P:Program)(s:St)(d:Option Tmp)(t:TypeId)(x:Value)(K:St->Prop):Prop:=
 match Tj P t with
 |true=>match x with
  | .string str=>∀w1,w1=s.w.alloc (.stringIter str 0)->K ({s with w:=w1}.put d (.val (.pointer (some ⟨s.w.heap.size,0,none⟩))))
  |_=>False
 |false=>False
def LQ(s:St)(d:Option Tmp)(x:Value)(K:St->Prop):Prop:=
 match x with
 | .pointer p=>∃(r:Nat)(str:ByteArray)(pos:Nat),p=some ⟨r,0,none⟩/\s.w.heap[r]? =some (.stringIter str pos)/\
   Br (decide (pos<str.size)) (∀w1,Rec r s.w w1->w1.heap[r]? =some (.stringIter str (pos+(Utf8.decode str pos).2))->K ({s with w:=w1}.put d (.val (.tuple #[.bool true,.int .i64 pos,.int .i32 (Utf8.decode str pos).1]))))
    (K (s.put d (.val (.tuple #[.bool false]))))
 |_=>False
def Yj [PQ] (s:St)(x:Value):Prop:=
 match PQ.q with
 |none=>False
 |some q=>match s.df with
  | []=>match x with| .iface t v=>q [{v:=.iface t v,recovered:=false}] s.w|_=>False
  |_=>False
def Dw [PQ] (P:Program)(s:St)(o:Oper)(K:St->Prop):Prop:=
 match o.op with
 | .index t x i=>ER P s o.dst t (s.ev x) (s.ev i) K
 | .load t x=>match okT P t with|true=>zl P s o.dst t (s.sv x) K|false=>False
 | .store t x v=>match okI P t with|true=>D5 P s o.dst t (s.sv x) (s.sv v) K|false=>False
 | .box t v=>match vh P t with
   |true=>vj P (s.kill [s.sv v]) o.dst t (cellsOf (s.ev v)) K
   |false=>bk (Kb (s.ev v)) (vj P (s.kill [s.sv v]) o.dst t [s.ev v] K)
 | .alloc t=>match zeroOf P t with|some cs=>vj P s o.dst t cs K|none=>False
 | .build t parts=>match P.built t (parts.toList.map λ(i,x)=>(i,s.ev x)) with
   |some cs=>K ((s.kill (parts.toList.map λ(_,x)=>s.sv x)).put o.dst (.val (.agg cs)))
   |none=>False
 | .buildSlice t len parts=>lj P (s.kill (parts.toList.map λ(_,x)=>s.sv x)) o.dst t len (EP s parts) K
 | .makeFunc fn first captured=>K ((s.kill ((first++captured).toList.map s.sv)).put o.dst (.val (.func fn (first.toList.map s.ev).toArray (captured.toList.map s.ev).toArray)))
 | .lookup t x k ok=>Te P s o.dst t (s.ev x) (s.ev k) ok K
 | .mapUpdate t m k v| .insert t m k v=>Tf P s o.dst t (s.ev m) (s.ev k) (s.ev v) [s.sv k,s.sv v] K
 | .makeMap t h=>Nj P s o.dst t (h.map s.ev) K
 | .call ⟨.builtin .delete,args,ats⟩=>match args.toList with
   | [m,k]=>Yi P s o.dst ats.toList (s.ev m) (s.ev k) K
   |_=>False
 | .makeSlice t l c=>Ke P s o.dst t (s.ev l) (s.ev c) K
 | .call ⟨.builtin .copy,args,ats⟩=>match args.toList with
   | [x,y]=>Kf P s o.dst ats.toList (s.ev x) (s.ev y) K
   |_=>False
 | .call ⟨.builtin .clear,args,ats⟩=>match args.toList with
   | [x]=>D7 P s o.dst ats.toList (s.ev x) K
   |_=>False
 | .call ⟨.builtin .len,args,ats⟩=>match args.toList with
   | [m]=>Tg P s o.dst ats.toList (s.ev m) K
   |_=>False
 | .call ⟨.value x,args,_⟩=>AJ P s o.dst o.type (s.ev x) (args.toList.map s.sv) K
 | .call ⟨.builtin .append,args,ats⟩=>match args.toList,ats.toList with
   | [x,y],[t,tx]=>zp P s o.dst t tx (s.sv x) (s.sv y) K
   |_,_=>False
 | .convert .. =>match Nk P s o.op with
   |some (a,n)=>∃ns:List Int,ns.length=n/\au s.w a 0 (ns.map (Value.int .u8))/\K (s.put o.dst (.val (.string (strOfNums ns))))
   |none=>False
 | .makeInterface t x=>match uu P t with|true=>K ((s.kill [s.sv x]).put o.dst (.val (.iface t (s.ev x))))|false=>False
 | .typeAssert x _ a ok=>match ok with
   |false=>match uu P a with|true=>(nI P a).ex λv=>s.ev x=.iface a v/\K (s.put o.dst (.val v))|false=>False
   |true=>LP P s o.dst a (s.ev x) K
 | .range t x=>ET P s o.dst t (s.ev x) K
 | .next x isS=>match isS with|true=>LQ s o.dst (s.ev x) K|false=>False
 | .panic x=>Yj s (s.ev x)
 |_=>False
def PA [PQ] (P:Program)(s:St)(o:Oper)(K:St->Prop):Prop:=
 match dw P s o.op with
 |some (cs,sv)=>bk cs (K (s.put o.dst sv))
 |none=>Dw P s o K
def om{d:Option Tmp}{s1:St}{a:Act}{w:World}(aU:s.Ok)(h1:s1.sl=s.sl)(h2:nJ s.kn s1.kn)(h:fW d s1 K a w)(Mf:s1.df=s.df:=by first|rfl|exact kZ _ _):fW d s K a w:=by
 obtain ⟨s',a1,a2,a3,a4,a5⟩:=h;refine ⟨s',a1,a2,a3,⟨a4.len.trans (by rw [h1]),λi hi=>(a4.slot i hi).trans ?_,h2.trans a4.kn,by rw [<-Mf];exact a4.df⟩,a5⟩;rw [h1];simp only [dh]
 cases hg:s.sl[i]? with
 |none=>rfl
 |some u=>exact h2.bE (aU.jP i u hg)
def kx{l:List SV}(aU:s.Ok):(s.kill l).act=s.act:=by
 obtain ⟨k1,k2,k3,k4,k5⟩:=eG l aU;simp only [St.act,k2,kZ];congr 2;refine wH λx hx=> ?_
 obtain ⟨i,hi⟩:=mR hx;exact k4.bE (aU.jP i x hi)
def Tk{a xT:TypeId}{v z:Value}{t:TypeId}(h:uu P a=true)(hz:(P.info? a).bind (·.zero)=some z)(w:World):
  (Instr.typeAssert (.iface t v) xT a true).run P w=.ok (if t=a then .tuple #[v,.bool true] else .tuple #[z,.bool false]) w:=by
 have hz':(zeroValue a).run P w=.ok z w:=by
  cases hi:P.info? a with
  |none=>simp [hi] at hz
  |some i=>
   cases QQ:i.zero with
   |none=>simp [hi,QQ] at hz
   |some z'=>simp [hi,QQ] at hz;subst hz;simp [zeroValue,cV,hi,QQ]
 unfold uu at h;split at h
 ·cases h
 ·rename_i d hd dN;simp only [Instr.typeAssert,Sem.run_bind,aD,hd,Result.andThen_ok];by_cases e:t=a
  ·cases d<;>simp_all
  ·cases d<;>simp_all
 ·cases h
def Ii{d:Option Tmp}{a xT:TypeId}{x:Value}(aU:s.Ok)(h:LP P s d a x K):∃v,(Instr.typeAssert x xT a true).run P s.w=.ok v s.w/\fW d s K (s.act.put d v) s.w:=by
 unfold LP at h;split at h
 ·rename_i hn;split at h
  ·rename_i z hz;obtain ⟨t,v,rfl,h⟩:=h;refine ⟨_,Tk hn hz s.w,?_⟩;by_cases e:t=a
   ·rw [if_pos e];have h:=Br.tt h (decide_eq_true e);obtain ⟨u,e2,h⟩:=T1.jl h;subst e2;exact di aU h
   ·rw [if_neg e];exact di aU (Br.ff h (decide_eq_false e))
  ·cases h
 ·cases h
def EU{d:Option Tmp}{t:TypeId}{x:Value}(aU:s.Ok)(h:ET P s d t x K):∃v w',(Instr.range t x).run P s.w=.ok v w'/\fW d s K (s.act.put d v) w':=by
 unfold ET at h;split at h
 ·rename_i ht;split at h
  ·rename_i str;have hu:P.underlying t=some .string:=by
    unfold Tj at ht;split at ht
    ·assumption
    ·cases ht
   refine ⟨.pointer (some ⟨s.w.heap.size,0,none⟩),s.w.alloc (.stringIter str 0),by simp [Instr.range,aD,hu,gJ],?_⟩;have h:=h _ rfl;have gA:({s with w:=s.w.alloc (.stringIter str 0)}:St).Ok:=⟨λk kb h1 h2=>by rw [<-aU.bj k kb h1 h2];exact Below.heap_alloc _ _ _ (aU.lt k kb h1 h2),aU.ne,aU.jP⟩;exact om (s1:={s with w:=s.w.alloc (.stringIter str 0)}) aU rfl (nJ.refl _) (di gA h) rfl
  ·cases h
 ·cases h
def Ij{d:Option Tmp}{ty:TypeId}{x:Value}(aU:s.Ok)(h:LQ s d x K):∃v w',(Instr.next x true ty).run P s.w=.ok v w'/\fW d s K (s.act.put d v) w':=by
 unfold LQ at h;split at h
 ·rename_i p;obtain ⟨r,str,pos,rfl,hr,h⟩:=h;by_cases hp:pos<str.size
  ·have h:=Br.tt h (decide_eq_true hp);have fH:r<s.w.heap.size:=(Array.getElem?_eq_some_iff.1 hr).1;refine ⟨.tuple #[.bool true,.int .i64 pos,.int .i32 (Utf8.decode str pos).1],s.w.putObj r (.stringIter str (pos+(Utf8.decode str pos).2)),?_,?_⟩
   ·simp only [Instr.next,getObj,setObj,Sem.run_bind,Sem.run,hr,Result.andThen,hp,if_true];simp [goInt,World.putObj]
   ·have j3:=Rec.putObj s.w r (.stringIter str (pos+(Utf8.decode str pos).2));have gA:=pU aU (λc t f e=>by rw [hr] at e;cases e) j3;have h:=h _ j3 (by simp [World.putObj,fH]);exact om (s1:={s with w:=s.w.putObj r (.stringIter str (pos+(Utf8.decode str pos).2))}) aU rfl (nJ.refl _) (di gA h) rfl
  ·have h:=Br.ff h (decide_eq_false hp);exact ⟨.tuple #[.bool false],s.w,by simp [Instr.next,getObj,Sem.run,hr,hp],di aU h⟩
 ·cases h
def Ik [PQ] (hQ:Ih Q)(hP:vx P)(aU:s.Ok)(hny:∀x args ats l f c,o.op=.call ⟨.value x,args,ats⟩->s.ev x≠ .func (.yield l) f c)(h:Dw P s o K):o.wp P s.act s.w (fW o.dst s K) Q:=by
 obtain ⟨dst,op,ty,pos,after,guard⟩:=o;unfold Dw at h;simp only at h;have ev:∀{s':Sem Value} {v:Value} {w':World},(execOp s.ev ⟨dst,op,ty,pos,after,guard⟩=do pure (.value (<-s')))->s'.run P s.w=.ok v w'->fW dst s K (s.act.put dst v) w'->
   (Oper.mk dst op ty pos after guard).wp P s.act s.w (fW dst s K) Q:=by
  intro s' v w' h1 h2 h3;unfold Oper.wp;rw [St.eval_eq,h1,Sem.run_bind,h2];exact h3
 split at h
 ·rename_i t x i;obtain ⟨v,h1,h2⟩:=ES aU h;exact ev (s':=Instr.index t (s.ev x) (s.ev i)) rfl h1 h2
 ·rename_i t x;split at h
  ·rename_i hu;obtain ⟨a,v,h1,h2,h3⟩:=zo aU (pZ hu) h;refine ev (s':=Instr.loadAt t (s.ev x)) rfl ?_ (di aU h2);rw [St.ev,h1];exact h3
  ·cases h
 ·rename_i t x v;split at h
  ·rename_i hu;obtain ⟨a,w',h1,h2,h3⟩:=D6 aU (Th hu) h;unfold Oper.wp;rw [St.eval_eq];have:execOp s.ev ⟨dst,.store t x v,ty,pos,after,guard⟩=(do Instr.storeAt t (s.ev x) (s.ev v);pure .skip):=rfl;rw [this,Sem.run_bind,St.ev,h1];simp only [St.ev] at h2 ⊢;rw [h2];exact h3
  ·cases h
 ·rename_i t v;have h:vj P (s.kill [s.sv v]) dst t (cellsOf (s.ev v)) K:=by
   revert h
   cases vh P t with
   |true=>exact id
   |false=>
    intro h;obtain ⟨h1,h2⟩:=bn.1 h;have:cellsOf (s.ev v)=[s.ev v]:=by
     generalize s.ev v=x at h1
     cases x<;>first|rfl|exact (h1 False (by simp [Kb])).elim
    rw [this];exact h2
  obtain ⟨k1,k2,k3,k4,k5⟩:=eG [s.sv v] aU;have h3:=om aU k2 k4 (zk k1 h);rw [kx aU,k3] at h3;exact ev (s':=Instr.box t (s.ev v)) rfl (MJ _) h3
 ·rename_i t;split at h
  ·rename_i cs hz;exact ev (s':=Instr.alloc t true (.tuple #[])) rfl (CW hz _) (zk aU h)
  ·cases h
 ·rename_i t parts;split at h
  ·rename_i cs hb;obtain ⟨k1,k2,k3,k4,k5⟩:=eG (parts.toList.map λ(_,x)=>s.sv x) aU;have h3:=om aU k2 k4 (di k1 h);rw [kx aU,k3] at h3;refine ev (s':=Instr.build t (parts.map λ(i,x)=>(i,s.ev x))) rfl (run_build _ _ _ _ ?_) h3;simpa using hb
  ·cases h
 ·rename_i t len parts;obtain ⟨k1,k2,k3,k4,k5⟩:=eG (parts.toList.map λ(_,x)=>s.sv x) aU;obtain ⟨v,w',h1,h2⟩:=ur k1 h;have h3:=om aU k2 k4 h2;rw [kx aU] at h3;rw [k3] at h1;exact ev (s':=Instr.buildSlice t len (EP s parts)) rfl h1 h3
 ·rename_i fn first captured;obtain ⟨k1,k2,k3,k4,k5⟩:=eG ((first++captured).toList.map s.sv) aU;have h3:=om aU k2 k4 (di k1 h);rw [kx aU,k3] at h3;refine ev (s':=Instr.makeFunc fn (first.map s.ev) (captured.map s.ev)) (v:=.func fn (first.map s.ev) (captured.map s.ev)) (w':=s.w) rfl rfl ?_;have e1:(first.toList.map s.ev).toArray=first.map s.ev:=by apply Array.ext';simp
  have e2:(captured.toList.map s.ev).toArray=captured.map s.ev:=by apply Array.ext';simp
  rw [e1,e2] at h3;exact h3
 ·rename_i t x k ok;unfold Te at h;split at h
  case h_2=>exact h.elim
  rename_i kt et z r ht hx;obtain ⟨G,kvs,hk,hm,hG,hex⟩:=h;obtain ⟨v,b,hl,hK⟩:=T1.jl hex;refine ev (s':=Instr.lookup t (s.ev x) (s.ev k) ok) rfl ?_ (di aU hK);rw [hx,LK ht hk hm hG ok hl]
  cases ok<;>rfl
 ·rename_i t m k v;unfold Tf at h;split at h
  case h_2=>exact h.elim
  rename_i kt et z r ht hx;obtain ⟨G,kvs,hk,hr,hm,hG,hK⟩:=h;obtain ⟨r,rfl⟩:=kS.1 hr;obtain ⟨w',h1,h2,h3⟩:=AL (v:=s.ev v) ht hk hm hG;unfold Oper.wp;rw [St.eval_eq];have:execOp s.ev ⟨dst,.mapUpdate t m k v,ty,pos,after,guard⟩=(do Instr.mapUpdate t (s.ev m) (s.ev k) (s.ev v);pure .skip):=rfl;rw [this,Sem.run_bind,hx,h1];obtain ⟨k1,k2,k3,k4,k5⟩:=eG [s.sv k,s.sv v] aU;have gA:=pU k1 (D:=r) (w':=w') (by rw [k3];exact hm.qF) (by rw [k3];exact h2);exact iF (v:=.val undef) (hK w' h2 h3) aU gA k2 k4 trivial rfl rfl
 ·rename_i t m k v;unfold Tf at h;split at h
  case h_2=>exact h.elim
  rename_i kt et z r ht hx;obtain ⟨G,kvs,hk,hr,hm,hG,hK⟩:=h;obtain ⟨r,rfl⟩:=kS.1 hr;obtain ⟨w',h1,h2,h3⟩:=AL (v:=s.ev v) ht hk hm hG;unfold Oper.wp;rw [St.eval_eq];have:execOp s.ev ⟨dst,.insert t m k v,ty,pos,after,guard⟩=(do Instr.mapUpdate t (s.ev m) (s.ev k) (s.ev v);pure .skip):=rfl;rw [this,Sem.run_bind,hx,h1];obtain ⟨k1,k2,k3,k4,k5⟩:=eG [s.sv k,s.sv v] aU;have gA:=pU k1 (D:=r) (w':=w') (by rw [k3];exact hm.qF) (by rw [k3];exact h2);exact iF (v:=.val undef) (hK w' h2 h3) aU gA k2 k4 trivial rfl rfl
 ·rename_i t hh;unfold Nj at h;split at h
  case h_2=>exact h.elim
  rename_i x y ht hy;have Bh:=h _ rfl;have oA:=Pz ht hy s.w;refine ev (s':=Instr.makeMap t (hh.map s.ev)) rfl oA ?_;exact jn (s1:={s with w:=s.w.alloc (.map #[] 0)}) (v:=.val (.map (some s.w.heap.size))) Bh aU rfl (nJ.refl _) (λk kb h1 h2=>by rw [<-aU.bj k kb h1 h2];exact Below.heap_alloc _ _ _ (aU.lt k kb h1 h2)) aU.ne trivial rfl rfl
 ·rename_i args ats;split at h
  case h_2=>exact h.elim
  rename_i m k ha;unfold Yi at h;split at h
  case h_2=>exact h.elim
  rename_i t rest r Mg hx;split at h
  case h_2=>exact h.elim
  rename_i kt et z ht;obtain ⟨G,kvs,hk,hr,hm,hG,hK⟩:=h;obtain ⟨r,rfl⟩:=kS.1 hr;obtain ⟨args⟩:=args;simp only at ha;subst ha;have hat0:ats[0]? =some t:=by rw [<-Array.getElem?_toList,Mg];rfl
  obtain ⟨w',h1,h2,h3⟩:=LL (ty:=ty) hat0 ht hk hm hG;refine ev (s':=Builtin.delete_ ats ty #[s.ev m,s.ev k]) ?_ (by rw [hx];exact h1) ?_
  ·rw [BigFrame.execOp_builtin];have:Array.map s.ev #[m,k]= #[s.ev m,s.ev k]:=by simp
   rw [this];rfl
  ·have gA:=pU aU (D:=r) (w':=w') hm.qF h2;exact iF (v:=.val (.tuple #[])) (hK w' h2 h3) aU gA rfl (nJ.refl _) trivial rfl rfl
 ·rename_i t l c;obtain ⟨v,w',h1,h2⟩:=Gu aU h;exact ev (s':=Instr.makeSlice t (s.ev l) (s.ev c)) rfl h1 h2
 ·rename_i args ats;split at h
  case h_2=>exact h.elim
  rename_i x y ha;obtain ⟨args⟩:=args;simp only at ha;subst ha;obtain ⟨v,w',h1,h2⟩:=Gv (ty:=ty) aU h;refine ev (s':=Builtin.copy_ ats ty #[s.ev x,s.ev y]) ?_ h1 h2;rw [BigFrame.execOp_builtin];have:Array.map s.ev #[x,y]= #[s.ev x,s.ev y]:=by simp
  rw [this];rfl
 ·rename_i args ats;split at h
  case h_2=>exact h.elim
  rename_i x ha;obtain ⟨args⟩:=args;simp only at ha;subst ha;obtain ⟨v,w',h1,h2⟩:=D8 (ty:=ty) aU h;refine ev (s':=Builtin.clear_ ats ty #[s.ev x]) ?_ h1 h2;rw [BigFrame.execOp_builtin];have:Array.map s.ev #[x]= #[s.ev x]:=by simp
  rw [this];rfl
 ·rename_i args ats;split at h
  case h_2=>exact h.elim
  rename_i m ha;unfold Tg at h;split at h
  case h_2=>exact h.elim
  rename_i t rest r Mg hx;split at h
  case h_2=>exact h.elim
  rename_i x ht;obtain ⟨kt,et,z⟩:=x;obtain ⟨G,kvs,hm,hK⟩:=h;obtain ⟨args⟩:=args;simp only at ha;subst ha;have hat0:ats[0]? =some t:=by rw [<-Array.getElem?_toList,Mg];rfl
  refine ev (s':=Builtin.len_ ats ty #[s.ev m]) ?_ (by rw [hx];exact Td (ty:=ty) hat0 (lL ht).1 hm) (di aU hK);rw [BigFrame.execOp_builtin];have:Array.map s.ev #[m]= #[s.ev m]:=by simp
  rw [this];rfl
 ·exact WJ hQ hP aU (λl f c=>hny _ _ _ l f c rfl) h
 ·rename_i args ats;split at h
  ·rename_i x y t tx ha ht;obtain ⟨args⟩:=args;obtain ⟨ats⟩:=ats;simp only at ha ht;subst ha ht;obtain ⟨v,w',h1,h2⟩:=BY (ty:=ty) aU h;unfold Oper.wp;rw [St.eval_eq,BigFrame.execOp_builtin,BigFrame.builtin_append];have:Array.map s.ev #[x,y]= #[s.ev x,s.ev y]:=by simp
   rw [this,Sem.run_bind];simp only [St.ev];rw [h1];exact h2
  ·cases h
 ·split at h
  ·rename_i a n hc;obtain ⟨ns,hn,hl,hk⟩:=h;unfold Oper.wp;rw [St.eval_eq,Dv hc hn hl];exact di aU hk
  ·cases h
 ·rename_i t x;split at h
  ·rename_i hu;obtain ⟨k1,k2,k3,k4,k5⟩:=eG [s.sv x] aU;have h3:=om aU k2 k4 (di k1 h);rw [kx aU,k3] at h3;exact ev (s':=Instr.makeInterface t (s.ev x)) rfl (LM hu _) h3
  ·cases h
 ·rename_i x xT a ok
  cases ok with
  |false=>
   simp only at h;split at h
   ·rename_i hu;obtain ⟨v,e,hk⟩:=T1.jl h;refine ev (s':=Instr.typeAssert (s.ev x) xT a false) rfl ?_ (di aU hk);rw [e];exact LO hu _
   ·cases h
  |true=>
   obtain ⟨v,h1,h2⟩:=Ii (xT:=xT) aU h;exact ev (s':=Instr.typeAssert (s.ev x) xT a true) rfl h1 h2
 ·rename_i t x;obtain ⟨v,w',h1,h2⟩:=EU aU h;exact ev (s':=Instr.range t (s.ev x)) rfl h1 h2
 ·rename_i x isS;split at h
  ·obtain ⟨v,w',h1,h2⟩:=Ij (P:=P) (ty:=ty) aU h;exact ev (s':=Instr.next (s.ev x) true ty) rfl h1 h2
  ·cases h
 ·rename_i x;unfold Yj at h;split at h
  ·cases h
  ·rename_i q hq;split at h
   ·rename_i Mf;split at h
    ·rename_i t v hx;have oA:(execOp s.ev (Oper.mk dst (.panic x) ty pos after guard)).run P s.w=.halt (.panic (.iface t v)) s.w:=by show (do pure (Next.value (<-Instr.panic (s.ev x))):Sem Next).run P s.w=_;rw [hx];rfl
     unfold Oper.wp;rw [St.eval_eq,oA];exact hQ q hq _ _ _ (by unfold St.act;rw [Mf];rfl) h
    ·cases h
   ·cases h
 ·cases h
def AM [PQ] (hQ:Ih Q)(hP:vx P)(aU:s.Ok)(h:PA P s o K):o.QI P s.act s.w (fW o.dst s K) Q:=by
 have hd:∀c,o.op≠ .defer c:=by intro c e;obtain ⟨dst,op,ty,pos,after,guard⟩:=o;simp only at e;subst e;exact h.elim
 by_cases hy:∃x args ats l f c,o.op=.call ⟨.value x,args,ats⟩/\s.ev x=.func (.yield l) f c
 ·obtain ⟨x,args,ats,l,f,c,e,hx⟩:=hy;obtain ⟨dst,op,ty,pos,after,guard⟩:=o;simp only at e;subst e;exact Px hQ aU hx h
 ·refine Pw hd ?_;unfold PA at h;split at h
  ·rename_i cs sv hp;exact wp_pure aU hp h
  ·exact Ik hQ hP aU (λx args ats l f c e hx=>hy ⟨x,args,ats,l,f,c,e,hx⟩) h
end
def nq(ops:Array Oper)(o:Oper)(s:St)(yes:St->Prop)(no:St->Prop):Prop:=
 match o.guard with
 |none=>yes s
 |some (j,want)=>match (ops[j]?).bind (·.dst) with
  |some d=>match s.sl.getD d (.val undef) with
   | .val (.bool b)=>Br b (match want with|true=>yes {s with sl:=s.sl.set d (.val (.bool true))}|false=>no {s with sl:=s.sl.set d (.val (.bool true))})
     (match want with|true=>no {s with sl:=s.sl.set d (.val (.bool false))}|false=>yes {s with sl:=s.sl.set d (.val (.bool false))})
   | .val (.tuple _)=>no s
   |_=>False
  |none=>False
def vcG [PQ] (P:Program)(ops:Array Oper)(s:St)(o:Oper)(K:St->Prop):Prop:=
 nq ops o s (λs=>PA P s o K) (λs=>K (s.put o.dst (.val undef)))
def EV [PQ] (P:Program)(ops:Array Oper):List Oper->St->(St->Prop)->Prop
 | [],s,K=>K s
 |o::r,s,K=>vcG P ops s o λs'=>EV P ops r s' K
def dstsOf(l:List Oper):List Nat:=l.filterMap (·.dst)
section
variable {P:Program} {s:St} {o:Oper} {K:St->Prop} {Q:Exit->Act->World->Prop} {ops:Array Oper}
structure EW(s s':St):Prop where
 act:s'.act=s.act
 w:s'.w=s.w
 ok:s'.Ok
 fr:Fr [] s s'
def EW.refl(h:s.Ok):EW s s:=⟨rfl,rfl,h,Fr.refl _ _⟩
def Tm{d:Nat}{b:Bool}(aU:s.Ok)(h:s.sl.getD d (.val undef)=.val (.bool b)):EW s {s with sl:=s.sl.set d (.val (.bool b))}:=by
 have hd:s.sl[d]? =some (.val (.bool b)):=by
  rw [dh] at h
  cases hh:s.sl[d]? with
  |none=>rw [hh] at h;cases h
  |some v=>rw [hh] at h;simp at h;rw [h]
 have:s.sl.set d (.val (.bool b))=s.sl:=by
  apply im;intro i;rw [il];split
  ·rename_i e;subst e;split
   ·exact hd.symm
   ·rename_i hl;rw [iq aa] at hd;cases hd
  ·rfl
 rw [this];exact EW.refl aU
def qc{yes no:St->Prop}(aU:s.Ok)(h:nq ops o s yes no):
  (Region.wanted o (yielded ops s.act.tmps)=true/\∃s',EW s s'/\yes s')\/(Region.wanted o (yielded ops s.act.tmps)=false/\∃s',EW s s'/\no s'):=by
 unfold nq at h;split at h
 ·rename_i hg;exact .inl ⟨by simp [Region.wanted,hg],s,EW.refl aU,h⟩
 ·rename_i j want hg;split at h
  ·rename_i d hd;have dC:s.act.tmps[d]? =(s.sl[d]?).map (SV.bE s.kn):=by simp [St.act]
   split at h
   ·rename_i b hb;have hs:s.sl[d]? =some (.val (.bool b)):=by
     rw [dh] at hb
     cases hh:s.sl[d]? with
     |none=>rw [hh] at hb;cases hb
     |some v=>rw [hh] at hb;simp at hb;rw [hb]
    have hy:yielded ops s.act.tmps j=some b:=by simp [yielded,hd,dC,hs,SV.bE]
    have hl:=Tm aU hb
    cases b with
    |true=>
     have h:=Br.tt h rfl
     cases want with
     |true=>exact .inl ⟨by simp [Region.wanted,hg,hy],_,hl,h⟩
     |false=>exact .inr ⟨by simp [Region.wanted,hg,hy],_,hl,h⟩
    |false=>
     have h:=Br.ff h rfl
     cases want with
     |true=>exact .inr ⟨by simp [Region.wanted,hg,hy],_,hl,h⟩
     |false=>exact .inl ⟨by simp [Region.wanted,hg,hy],_,hl,h⟩
   ·rename_i b hb;refine .inr ⟨?_,s,EW.refl aU,h⟩;have hy:yielded ops s.act.tmps j=none:=by
     rw [dh] at hb
     cases hh:s.sl[d]? with
     |none=>simp [yielded,hd,dC,hh]
     |some v=>rw [hh] at hb;simp at hb;simp [yielded,hd,dC,hh,hb,SV.bE]
    simp [Region.wanted,hg,hy]
   ·cases h
  ·cases h
def fW.Tn{d:Option Tmp}{s1:St}{a:Act}{w:World}(hl:EW s s1)(h:fW d s1 K a w):fW d s K a w:=by obtain ⟨s',h1,h2,h3,h4,h5⟩:=h;exact ⟨s',h1,h2,h3,(hl.fr.mono cx).trans h4,h5⟩
def LR(aU:s.Ok){d:Option Tmp}(h:K (s.put d (.val undef))):fW d s K (s.act.put d undef) s.w:=di aU h
def PB [PQ] (hQ:Ih Q)(hP:vx P)(aU:s.Ok)(h:vcG P ops s o K):
  (Region.wanted o (yielded ops s.act.tmps)=true/\o.QI P s.act s.w (fW o.dst s K) Q)\/(Region.wanted o (yielded ops s.act.tmps)=false/\fW o.dst s K (s.act.put o.dst undef) s.w):=by
 rcases qc aU h with ⟨h1,s',hl,h2⟩|⟨h1,s',hl,h2⟩
 ·left;refine ⟨h1,?_⟩;have:=AM (Q:=Q) hQ hP hl.ok h2;rw [hl.act,hl.w] at this;exact Oper.np (λa w hp=>fW.Tn hl hp) this
 ·right;refine ⟨h1,?_⟩;have:=LR hl.ok h2;rw [hl.act,hl.w] at this;exact fW.Tn hl this
def Yk(W:List Nat)(s:St)(K:St->Prop):Act->World->Prop:=
 λa w=>∃s',s'.Ok/\s'.act=a/\s'.w=w/\Fr W s s'/\K s'
def AN{d:Option Tmp}{l:List Nat}(h:∀x,d=some x->x ∈ l):∀i ∈ d.toList,i ∈ l:=by
 intro i hi;cases d with
 |none=>cases hi
 |some x=>simp at hi;subst hi;exact h _ rfl
def LS(P:Program)(ops:Array Oper)(Q:Exit->Act->World->Prop):List Oper->Act->World->Prop
 | [],a,w=>Q .normal a w
 |o::r,a,w=>if Region.wanted o (yielded ops a.tmps) then o.QI P a w (LS P ops Q r) Q else LS P ops Q r (a.put o.dst undef) w
def EX{F:Fence}{n:Nat}(hF:Wd F):∀(l:List Oper)(i:Nat)(a:Act)(w:World),(∀j,j<l.length->ops[i+j]? =l[j]?)->LS P ops Q l a w->wpOpsIn F n P ops Q (List.range' i l.length) a w
 | [],i,a,w,_,h=>h
 |o::r,i,a,w,hl,h=>by
  have ho:ops[i]? =some o:=by simpa using hl 0 cx
  have hr:∀j,j<r.length->ops[i+1+j]? =r[j]? :=λj hj=>by have:=hl (j+1) (by simpa using hj);rw [show i+1+j=i+(j+1) by omega,this];simp
  show wpOpsIn F n P ops Q (i::List.range' (i+1) r.length) a w;rw [wpOpsIn_cons];unfold wpOpIn;simp only [ho];unfold LS at h;split
  ·rename_i hw;rw [if_pos hw] at h;exact xl hF (Oper.np (λa w hh=>EX hF r (i+1) a w hr hh) h)
  ·rename_i hw;rw [if_neg hw] at h;exact ⟨λf _=>hF.fn f,EX hF r (i+1) _ w hr h⟩
def uv [PQ] (hP:vx P):∀(l:List Oper)(s:St)(Q:Exit->Act->World->Prop),Ih Q->s.Ok->EV P ops l s K->(∀a w,Yk (dstsOf l) s K a w->Q .normal a w)->LS P ops Q l s.act s.w
 | [],s,Q,hQ,aU,h,hq=>hq _ _ ⟨s,aU,rfl,rfl,Fr.refl _ _,h⟩
 |o::r,s,Q,hQ,aU,h,hq=>by
  unfold LS
  have step:∀a w,fW o.dst s (λs'=>EV P ops r s' K) a w->LS P ops Q r a w:=by
   rintro a w ⟨s',h1,rfl,rfl,h4,h5⟩;refine uv hP r s' Q hQ h1 h5 λa w hp=>hq a w ?_
   obtain ⟨s'',g1,g2,g3,g4,g5⟩:=hp;refine ⟨s'',g1,g2,g3,(h4.mono (AN λx hx=> ?_)).trans (g4.mono λx hx=> ?_),g5⟩
   ·simp [dstsOf,hx]
   ·simp only [dstsOf,List.filterMap_cons];split
    ·exact hx
    ·exact Dt _ hx
  rcases PB (Q:=Q) hQ hP aU h with ⟨h1,h2⟩|⟨h1,h2⟩
  ·rw [if_pos h1];exact Oper.np step h2
  ·rw [if_neg (by simp [h1])];exact step _ _ h2
end
structure oo where
 i:Nat
 p:Option Addr
 vs:List Value
def oo.holds(q:oo)(w:World):Prop:=au w q.p 0 q.vs
def Il(o:Oper)(i:Nat):Bool:=o.after.any λe=>Region.binds .any e && e.on==i
def stays(ops:Array Oper)(j:Nat)(l:List oo):List oo:=l.filter λq=>match ops[j]? with|some o=> !Il o q.i|none=>true
section
variable {P:Program} {s:St} {o:Oper} {K:St->Prop} {Q:Exit->Act->World->Prop} {ops:Array Oper}
def oR(P:Program)(ops:Array Oper)(Q:Exit->Act->World->Prop)(i:Nat)(K:Act->World->Prop)(a:Act)(w:World):Prop:=
 match ops[i]? with
 |none=>K a w
 |some o=>if Region.wanted o (yielded ops a.tmps) then o.QI P a w K Q else K (a.put o.dst undef) w
def ou{i:Nat}{a:Act}{w:World}{K K':Act->World->Prop}(h:∀a w,K a w->K' a w)(hh:oR P ops Q i K a w):oR P ops Q i K' a w:=by
 unfold oR at*;split
 ·exact h _ _ (by simpa [*] using hh)
 ·rename_i o ho;simp only [ho] at hh;split
  ·rename_i hw;simp only [hw,if_true] at hh;exact Oper.np h hh
  ·rename_i hw;simp only [hw] at hh;exact h _ _ hh
def To{F:Fence}{n:Nat}(hF:Wd F){i:Nat}{a:Act}{w:World}{K:Act->World->Prop}(hh:oR P ops Q i K a w):wpOpIn F n P ops Q i K a w:=by
 unfold oR at hh;unfold wpOpIn;split
 ·simpa [*] using hh
 ·rename_i o ho;simp only [ho] at hh;split
  ·rename_i hw;simp only [hw,if_true] at hh;exact xl hF hh
  ·rename_i hw;simp only [hw] at hh;exact ⟨λf _=>hF.fn f,hh⟩
def PC(P:Program)(ops:Array Oper)(Q:Exit->Act->World->Prop):Nat->List oo->Array Bool->Act->World->Prop
 |0,_,listed,a,w=>Region.ready .any ops listed=[]/\Q .normal a w
 |fuel+1,l,listed,a,w=>
  (Region.ready .any ops listed=[]->Q .normal a w)/\
  ∀j ∈ Region.ready .any ops listed,oR P ops Q j (λa' w'=>(∀q ∈ stays ops j l,q.holds w')/\PC P ops Q fuel (stays ops j l) (listed.setIfInBounds j true) a' w') a w
def Nl{F:Fence}{n:Nat}(hF:Wd F):∀(fuel:Nat)(l:List oo)(listed:Array Bool)(a:Act)(w:World),PC P ops Q fuel l listed a w->wpAnyIn F n P .any ops Q fuel listed a w
 |0,_,_,_,_,h=>h
 |fuel+1,l,listed,a,w,h=>⟨h.1,λj hj=>To hF (ou (λa' w' hk=>Nl hF fuel _ _ _ _ hk.2) (h.2 j hj))⟩
def lv{j:Nat}{l:List oo}{q:oo}(h:q ∈ stays ops j l):q ∈ l:=(jJ.1 h).1
def AO:∀(fuel:Nat)(l l':List oo)(listed:Array Bool)(a:Act)(w:World),(∀q ∈ l',q ∈ l)->PC P ops Q fuel l listed a w->PC P ops Q fuel l' listed a w
 |0,_,_,_,_,_,_,h=>h
 |fuel+1,l,l',listed,a,w,hs,h=>⟨h.1,λj hj=>ou (λa' w' hk=>by
  have:∀q ∈ stays ops j l',q ∈ stays ops j l:=λq hq=>jJ.2 ⟨hs q (lv hq),(jJ.1 hq).2⟩
  exact ⟨λq hq=>hk.1 q (this q hq),AO fuel _ _ _ _ _ this hk.2⟩) (h.2 j hj)⟩
def hJ(P:Program)(ops:Array Oper)(C:World->Prop)(o:Oper)(v:Value)(a:Act):Prop:=
 (Region.wanted o (yielded ops a.tmps)=true/\∀w,C w->(execOp a.eval o).run P w=.ok (.value v) w)\/
 (Region.wanted o (yielded ops a.tmps)=false/\v=undef)
def hJ.wpOp{C:World->Prop}{i:Nat}{o:Oper}{v:Value}{a:Act}(hi:ops[i]? =some o)(hnd:∀c,o.op≠ .defer c)(hy:hJ P ops C o v a)
  {K:Act->World->Prop}{w:World}(hC:C w)(h:K (a.put o.dst v) w):oR P ops Q i K a w:=by
 unfold oR;simp only [hi];rcases hy with ⟨hw,hv⟩|⟨hw,rfl⟩
 ·simp only [hw,if_true];exact ⟨hnd,by rw [hv w hC];exact h⟩
 ·simp only [hw,Bool.false_eq_true,if_false];exact h
def hJ.of_same{C:World->Prop}{o:Oper}{v:Value}{a a':Act}(hy:hJ P ops C o v a)(he:execOp a'.eval o=execOp a.eval o)
  (hw:Region.wanted o (yielded ops a'.tmps)=Region.wanted o (yielded ops a.tmps)):hJ P ops C o v a':=by
 unfold hJ at*;rw [he,hw];exact hy
def PD{C:World->Prop}{j:Nat}{oi oj:Oper}{v:Value}(hj:ops[j]? =some oj)(hap:oi.apart ops oj=true)
  (hsi:∀cs b,oi.op≠ .select cs b)(hsj:∀cs b,oj.op≠ .select cs b)
  (hQ:∀c a w,Q (.panic c) (a.put oi.dst v) w->Q (.panic c) a w){K:Act->World->Prop}{a:Act}{w:World}
  (hy:hJ P ops C oi v a)(h:oR P ops Q j K (a.put oi.dst v) w):
  oR P ops Q j (λa' w'=>hJ P ops C oi v a'/\K (a'.put oi.dst v) w') a w:=by
 obtain ⟨h1,h2,h3⟩:=Oper.apart_spec hap;have bM:∀(a:Act),hJ P ops C oi v a->∀u,hJ P ops C oi v (a.put oj.dst u):=λa hy u=>
  hy.of_same (execOp_put oi hsi a oj.dst u h3) (wanted_put oi a oj.dst u h3)
 have keepD:∀d,hJ P ops C oi v {a with defers:=d::a.defers}:=λd=>hy.of_same rfl rfl
 unfold oR at*;simp only [hj] at*;rw [wanted_put oj a oi.dst v h1] at h;split
 ·rename_i hw;simp only [hw,if_true] at h;refine ⟨h.1,?_⟩;have h:=h.2;rw [execOp_put oj hsj a oi.dst v h1] at h;generalize (execOp a.eval oj).run P w=r at*
  cases r with
  |ok n w'=>
   cases n<;>simp only [Oper.uponIn] at h ⊢
   case value u=>exact ⟨bM a hy u,by rw [<-Act.put_comm a v u h2];exact h⟩
   case skip=>exact ⟨bM a hy _,by rw [<-Act.put_comm a v undef h2];exact h⟩
   case defer d=>
    refine ⟨bM _ (keepD d) _,?_⟩;rw [<-Act.put_comm _ v undef h2,<-Act.put_defers];exact h
   case enter f args=>
    refine ⟨h.1,CallsIn.mono h.2 λe w'' he=> ?_⟩
    cases e with
    |returned u=>exact ⟨bM a hy u,by rw [<-Act.put_comm a v u h2];exact he⟩
    |panicked c=>exact hQ _ _ _ he
    |outgrown=>exact he
   case row row args=>exact ⟨h.1,RowsIn.mono h.2 λu w'' he=>⟨bM a hy u,by rw [<-Act.put_comm a v u h2];exact he⟩⟩
   case round l f tmps assign body=>
    refine ⟨h.1,RoundIn.mono h.2 λe w'' he=> ?_⟩
    cases e with
    |returned u=>exact ⟨bM a hy u,by rw [<-Act.put_comm a v u h2];exact he⟩
    |panicked c=>exact hQ _ _ _ he
    |outgrown=>exact he
  |halt x w'=>
   cases x<;>simp only [Oper.uponIn] at h ⊢
   case panic u=>exact hQ _ _ _ h
 ·rename_i hw;simp only [hw] at h;exact ⟨bM a hy _,by rw [<-Act.put_comm a v undef h2];exact h⟩
def PE{q:oo}{oi:Oper}{v:Value}(hi:ops[q.i]? =some oi)(hnd:∀c,oi.op≠ .defer c)(BG:∀(j:Nat)(o:Oper) cs b,ops[j]? =some o->o.op≠ .select cs b)
  (hQ:∀c a w,Q (.panic c) (a.put oi.dst v) w->Q (.panic c) a w):
  ∀(fuel:Nat)(l:List oo)(listed:Array Bool)(a:Act)(w:World),
   (∀j oj,ops[j]? =some oj->j≠q.i->listed.getD j true=false->(∀e ∈ oj.after,Region.binds .any e=true->e.on≠q.i)->oi.apart ops oj=true)->
   q.i ∈ Region.ready .any ops listed->hJ P ops q.holds oi v a->q.holds w->
   PC P ops Q fuel (q::l) (listed.setIfInBounds q.i true) (a.put oi.dst v) w->(∀x ∈ l,x.holds w)->PC P ops Q (fuel+1) l listed a w:=by
 intro fuel
 induction fuel with
 |zero=>
  intro l listed a w _ hr hy hh H hl;refine ⟨λh=>(by rw [h] at hr;cases hr),λj hj=> ?_⟩;by_cases Ze:j=q.i
  ·subst Ze;exact hy.wpOp hi hnd hh ⟨λx hx=>hl x (lv hx),H⟩
  ·have:=ready_mono hj Ze;rw [H.1] at this
   cases this
 |succ fuel ih=>
  intro l listed a w hfree hr hy hh H hl;refine ⟨λh=>(by rw [h] at hr;cases hr),λj hj=> ?_⟩;by_cases Ze:j=q.i
  ·subst Ze;exact hy.wpOp hi hnd hh ⟨λx hx=>hl x (lv hx),AO _ _ _ _ _ _ (λx hx=>Dt _ (lv hx)) H⟩
  ·have h1:=H.2 j (ready_mono hj Ze);obtain ⟨afh,oj,hoj,jG⟩:=mem_ready.1 hj;have XV:∀e ∈ oj.after,Region.binds .any e=true->e.on≠q.i:=λe he hb heq=>by
    have h1:=jG e he hb;have h0:=(mem_ready.1 hr).1;rw [heq] at h1;rcases fz q.i listed.size with h'|h'
    ·simp [h'] at h0 h1;rw [h0] at h1;cases h1
    ·simp [Array.getElem?_eq_none h'] at h1
   have lT:stays ops j (q::l)=q::stays ops j l:=by unfold stays;rw [pz];simp only [hoj];rw [if_pos];simp only [Il,Bool.not_eq_true'];rw [Array.any_eq_false'];intro e he hx;simp only [gr,beq_iff_eq] at hx;exact XV e he hx.1 hx.2
   rw [lT] at h1;have h2:=PD hoj (hfree j oj hoj Ze afh XV) (λcs b=>BG q.i oi cs b hi) (λcs b=>BG j oj cs b hoj) hQ hy h1;have hfree':∀k ok,ops[k]? =some ok->k≠q.i->(listed.setIfInBounds j true).getD k true=false->
     (∀e ∈ ok.after,Region.binds .any e=true->e.on≠q.i)->oi.apart ops ok=true:=λk ok hk hki hun lk=>by
    refine hfree k ok hk hki ?_ lk;by_cases Yy:j=k
    ·subst Yy;exact afh
    ·rw [Go.getD_set_ne true Yy] at hun;exact hun
   refine ou (λa' w' h3=> ?_) h2;obtain ⟨g1,g2,g3⟩:=h3;refine ⟨λx hx=>g2 x (Dt _ hx),ih (stays ops j l) (listed.setIfInBounds j true) a' w' hfree' (ready_mono hr (Ne.symm Ze)) g1 (g2 q (.head _)) ?_ (λx hx=>g2 x (Dt _ hx))⟩;rw [Array.setIfInBounds_comm _ _ Ze];exact g3
end
def aag:List Nat->(Nat->Prop)->Prop
 | [],_=>True
 | [j],F=>F j
 |j::k::r,F=>F j/\aag (k::r) F
def Im:∀{l:List Nat} {F:Nat->Prop},aag l F->∀j ∈ l,F j
 | [],_,_,j,h=>by cases h
 | [a],_,h,j,hj=>by
   have:j=a:=by simpa using hj
   subst this;exact h
 |a::b::r,F,h,j,hj=>by
  cases hj with
  |head=>exact h.1
  |tail _ hm=>exact Im h.2 j hm
def Io:Op->Bool
 | .move _| .pick .. | .extract .. | .fieldAddr .. | .field .. | .nilCheck _| .indexAddr .. | .index .. | .binOp .. | .unOp .. | .convert .. | .slice .. | .load .. =>true
 | .call {callee:=.builtin .len,..}| .call {callee:=.builtin .cap,..}| .call {callee:=.builtin .min,..}| .call {callee:=.builtin .max,..}=>true
 |_=>false
def aah(P:Program):Op->Bool
 | .index t _ _=>isStr P t
 |_=>true
def Tp(P:Program)(ops:Array Oper)(listed:Array Bool)(i:Nat):Bool:=
 match ops[i]? with
 |some o=>match Io o.op && aah P o.op with|true=>Region.free .any ops listed i|false=>false
 |none=>false
def EY(P:Program)(w:World)(p:Option Addr)(t:TypeId)(F:List Value->Value->Prop):Prop:=
 match nI P t with
 | .sc c=>c.ex λv=>ld w p=some v/\F [v] v
 | .agg l=>if l.length=eY P t/\l.isEmpty=false then VY l λvs=>au w p 0 vs/\F vs (.agg vs.toArray) else False
def EZ(P:Program)(s:St)(d:Option Tmp)(t:TypeId)(x:SV)(K:Option Addr->List Value->St->Prop):Prop:=
 match x with
 | .loc k off=>match s.known k with
   |some kb=>match nI P t with
    | .sc _=>match kb.cells[off]? with|some v=>K (some ⟨kb.idx,off,none⟩) [v] (s.put d (.val v))|none=>False
    | .agg l=>if l.length=eY P t/\off+l.length<=kb.cells.length then K (some ⟨kb.idx,off,none⟩) ((kb.cells.drop off).take l.length) (s.put d (.val (.agg ((kb.cells.drop off).take l.length).toArray))) else False
   |none=>EY P s.w (some ⟨(s.kn.getD k default).idx,off,none⟩) t λvs v=>K (some ⟨(s.kn.getD k default).idx,off,none⟩) vs (s.put d (.val v))
 | .val (.pointer p)=>EY P s.w p t λvs v=>K p vs (s.put d (.val v))
 |_=>False
def Ip(P:Program)(l:List oo)(i:Nat)(o:Oper)(s:St)(K:List oo->St->Prop):Prop:=
 match o.op with
 | .load t x=>match okT P t with|true=>EZ P s o.dst t (s.sv x) λp vs s'=>K (⟨i,p,vs⟩::l) s'|false=>False
 |_=>match Nk P s o.op with
  |some (a,n)=>∃ns:List Int,ns.length=n/\au s.w a 0 (ns.map (Value.int .u8))/\K (⟨i,a,ns.map (Value.int .u8)⟩::l) (s.put o.dst (.val (.string (strOfNums ns))))
  |none=>match dw P s o.op with
   |some (cs,sv)=>bk cs (K l (s.put o.dst sv))
   |none=>False
def quiet(P:Program)(s:St)(o:Oper):Bool:=
 match o.op with
 | .box .. | .alloc .. | .buildSlice .. | .build .. | .makeFunc .. =>true
 |_=>match dw P s o.op with|some _=>true|none=>false
def Nn(P:Program)(s:St)(o:Oper)(l:List oo)(w':World):List Prop:=
 match quiet P s o with
 |true=> []
 |false=>l.map λq=>q.holds w'
def No [PQ] (P:Program)(ops:Array Oper)(K:St->Prop):Nat->List oo->Array Bool->St->Prop
 |0,_,listed,s=>match Region.ready .any ops listed with| []=>K s|_=>False
 |fuel+1,l,listed,s=>
  match (Region.ready .any ops listed).find? (Tp P ops listed) with
  |some i=>match ops[i]? with
   |some o=>nq ops o s (λs=>Ip P l i o s λl' s'=>No P ops K fuel l' (listed.setIfInBounds i true) s')
    (λs=>No P ops K fuel l (listed.setIfInBounds i true) (s.put o.dst (.val undef)))
   |none=>False
  |none=>match Region.ready .any ops listed with
   | []=>K s
   |js=>aag js λj=>match ops[j]? with
    |some o=>nq ops o s (λs=>PA P s o λs'=>bk (Nn P s o (stays ops j l) s'.w) (No P ops K fuel (stays ops j l) (listed.setIfInBounds j true) s'))
     (λs=>No P ops K fuel (stays ops j l) (listed.setIfInBounds j true) (s.put o.dst (.val undef)))
    |none=>False
section
variable {P:Program} {s:St} {o:Oper} {K:St->Prop} {Q:Exit->Act->World->Prop} {ops:Array Oper}
def qV(w w':World):Prop:=∀a v,w.cell? a=some v->w'.cell? a=some v
def qV.refl(w:World):qV w w:=λ_ _ h=>h
def qV.alloc(w:World)(ob:Obj):qV w (w.alloc ob):=λa v h=>by
 rw [World.cell?_alloc_lt];exact h
 unfold World.cell? at h
 split at h
 ·rename_i c e f hb;exact (mQ.1 hb).1
 ·cases h
def qV.ld{w w':World}(h:qV w w'){p:Option Addr}{v:Value}(hl:ld w p=some v):ld w' p=some v:=by
 cases p with
 |none=>simp [Vc.ld] at hl
 |some a=>exact h a v hl
def qV.au{w w':World}(h:qV w w'){p:Option Addr}:∀{i:Nat} {vs:List Value},au w p i vs->au w' p i vs
 |_,[],_=>trivial
 |_,[_],hl=>h.ld hl
 |_,_::_::_,hl=>⟨h.ld hl.1,h.au hl.2⟩
def aai{a:Act}{w w':World}{v:Value}{K':Act->World->Prop}{G:World->Prop}(hr:(execOp a.eval o).run P w=.ok (.value v) w')(hg:G w')
  (h:o.QI P a w K' Q):o.QI P a w (λa' w''=>K' a' w''/\G w'') Q:=by
 obtain ⟨h1,h⟩:=h;refine ⟨h1,?_⟩;rw [hr] at h ⊢;exact ⟨h,hg⟩
def PF [PQ] (aU:s.Ok)(hq:quiet P s o=true)(h:PA P s o K):∃v w',(execOp s.act.eval o).run P s.w=.ok (.value v) w'/\qV s.w w':=by
 rw [St.eval_eq];unfold PA at h;split at h
 ·rename_i cs sv hp;rw [bn] at h;exact ⟨_,_,nK hp h.1 _,qV.refl _⟩
 ·rename_i hp;obtain ⟨dst,op,ty,pos,after,guard⟩:=o;unfold quiet at hq;simp only at hq h hp
  cases op with
  |box t x=>exact ⟨_,_,by
   show (do pure (Next.value (<-Instr.box t (s.ev x))):Sem Next).run P s.w=_;rw [Sem.run_bind,MJ];rfl,qV.alloc _ _⟩
  |alloc t=>
   unfold Dw at h;simp only at h;split at h
   ·rename_i cs hz;exact ⟨_,_,by
     show (do pure (Next.value (<-Instr.alloc t true (.tuple #[]))):Sem Next).run P s.w=_;rw [Sem.run_bind,CW hz];rfl,qV.alloc _ _⟩
   ·cases h
  |build t parts=>
   unfold Dw at h;simp only at h;split at h
   ·rename_i cs hb;exact ⟨_,_,by
     show (do pure (Next.value (<-Instr.build t (parts.map λ(i,x)=>(i,s.ev x)))):Sem Next).run P s.w=_;rw [Sem.run_bind,run_build _ _ _ cs (by simpa using hb)];rfl,qV.refl _⟩
   ·cases h
  |buildSlice t len parts=>
   unfold Dw at h;simp only at h;unfold lj at h;split at h
   ·rename_i e cells hc;exact ⟨_,_,by
     show (do pure (Next.value (<-Instr.buildSlice t len (EP s parts))):Sem Next).run P s.w=_;rw [Sem.run_bind,oQ hc s.w];rfl,qV.alloc _ _⟩
   ·cases h
  |makeFunc fn first captured=>exact ⟨.func fn (first.map s.ev) (captured.map s.ev),s.w,rfl,qV.refl _⟩
  |_=>simp [hp] at hq
def ck(p:Option Addr):ae p 0=p:=by cases p<;>simp [ae,Addr.add]
def AP{t:TypeId}{p:Option Addr}{F:List Value->Value->Prop}{w:World}(hu:(P.underlying t).isSome=true)(h:EY P w p t F):
  ∃a vs v,p=some a/\F vs v/\au w p 0 vs/\∀w',au w' p 0 vs->(Instr.loadAt t (.pointer (some a))).run P w'=.ok v w':=by
 obtain ⟨d,hu⟩:=kS.1 hu;unfold EY at h
 cases ht:nI P t with
 |sc c=>
  rw [ht] at h;obtain ⟨v,h1,h2⟩:=S.jl h
  cases p with
  |none=>simp [ld] at h1
  |some a=>
   refine ⟨a,[v],v,rfl,h2,by simpa [au,ck] using h1,λw' hw'=> ?_⟩;have ND:w'.cell? a=some v:=by simpa [au,ck,ld] using hw'
   simp [Instr.loadAt,Instr.sureAddr,loadVar,kg w' hu,Gn ht,ND]
 |agg l=>
  simp only [ht] at h;split at h
  ·rename_i hl;have:∃vs,vs.length=l.length/\au w p 0 vs/\F vs (.agg vs.toArray):=by
    have key:∀(l:List S)(G:List Value->Prop),VY l G->∃vs,vs.length=l.length/\G vs:=by
     intro l
     induction l with
     |nil=>intro G hG;exact ⟨[],rfl,hG⟩
     |cons c r ih=>
      rintro G ⟨x,hx⟩;obtain ⟨vs,h1,h2⟩:=ih _ hx;exact ⟨_,by simp [h1],h2⟩
    exact key l _ h
   obtain ⟨vs,e,h1,h2⟩:=this;have hi:=info_of_underlying hu;have hp:∃a,p=some a:=by
    cases p with
    |some a=>exact ⟨a,rfl⟩
    |none=>
     have h0:0<vs.length:=by
      cases l with
      |nil=>simp at hl
      |cons _ _=>simp at e;omega
     have:=kh h1 0 h0;simp [ld,ae,cy h0] at this
   obtain ⟨a,rfl⟩:=hp;refine ⟨a,vs,_,rfl,h2,h1,λw' hw'=> ?_⟩;simp only [Instr.loadAt,Instr.sureAddr,loadVar,Sem.run_bind,Sem.run_pure,Result.andThen_ok,kg w' hu,zm ht,if_true,eA hi,loadCells];rw [j6 _ 0 #[] vs aa (λj hj=>by have:=kh hw' j aa;simpa [ld,ae] using this)];simp
  ·cases h
def pT{w:World}{p:Option Addr}:∀{i:Nat} {vs:List Value},(∀j,j<vs.length->ld w (ae p (i+j))=vs[j]?)->au w p i vs
 |_,[],_=>trivial
 |i,[v],h=>by have:=h 0 cx;simpa [au] using this
 |i,v::u::r,h=>⟨by have:=h 0 cx;simpa using this,pT λj hj=>by
  have:=h (j+1) (by simpa using hj)
  rw [show i+(j+1)=i+1+j by omega] at this
  rw [this];simp⟩
def Iq{d:Option Tmp}{t:TypeId}{x:SV}{K2:Option Addr->List Value->St->Prop}(aU:s.Ok)(hu:(P.underlying t).isSome=true)(h:EZ P s d t x K2):
  ∃a vs v,x.bE s.kn=.pointer (some a)/\K2 (some a) vs (s.put d (.val v))/\au s.w (some a) 0 vs/\∀w',au w' (some a) 0 vs->(Instr.loadAt t (.pointer (some a))).run P w'=.ok v w':=by
 unfold EZ at h;split at h
 ·rename_i k off;split at h
  ·rename_i kb Yv;obtain ⟨h1,h2⟩:=nL Yv;have hb:=aU.bj k kb h1 h2;have fS:(s.kn.getD k default).idx=kb.idx:=by simp [dh,h1]
   obtain ⟨dd,hu'⟩:=kS.1 hu;split at h
   ·rename_i c ht;split at h
    ·rename_i v hv;refine ⟨⟨kb.idx,off,none⟩,[v],v,by rw [SV.bE,fS],h,?_,λw' hw'=> ?_⟩
     ·simp [au,ck,ld,cell_of hb,hv]
     ·have ND:w'.cell? ⟨kb.idx,off,none⟩=some v:=by simpa [au,ck,ld] using hw'
      simp [Instr.loadAt,Instr.sureAddr,loadVar,kg _ hu',Gn ht,ND]
    ·cases h
   ·rename_i l ht;split at h
    ·rename_i hl;have ed:((kb.cells.drop off).take l.length).length=l.length:=by simp;omega
     refine ⟨⟨kb.idx,off,none⟩,(kb.cells.drop off).take l.length,_,by rw [SV.bE,fS],h,?_,λw' hw'=> ?_⟩
     ·refine pT λj hj=> ?_
      rw [ed] at hj;simp [ld,ae,kY,cell_of hb,mW,th,hj]
     ·simp only [Instr.loadAt,Instr.sureAddr,loadVar,Sem.run_bind,Sem.run_pure,Result.andThen_ok,kg _ hu',zm ht,if_true,eA (info_of_underlying hu'),loadCells];rw [j6 _ 0 #[] ((kb.cells.drop off).take l.length) aa (λj hj=>by have:=kh hw' j aa;simpa [ld,ae] using this)];simp
    ·cases h
  ·obtain ⟨a,vs,v,h1,h2,h3,h4⟩:=AP hu h
   cases h1
   exact ⟨_,vs,v,rfl,h2,h3,h4⟩
 ·rename_i p;obtain ⟨a,vs,v,h1,h2,h3,h4⟩:=AP hu h;subst h1;exact ⟨a,vs,v,rfl,h2,h3,h4⟩
 ·cases h
end
section
variable {P:Program} {s:St} {o:Oper} {K:St->Prop} {Q:Exit->Act->World->Prop} {ops:Array Oper}
def AQ{q:oo}(hq:∀w,q.holds w):∀(fuel:Nat)(l:List oo)(listed:Array Bool)(a:Act)(w:World),PC P ops Q fuel l listed a w->PC P ops Q fuel (q::l) listed a w
 |0,_,_,_,_,h=>h
 |fuel+1,l,listed,a,w,h=>⟨h.1,λj hj=>ou (λa' w' hk=>by
  have lT:stays ops j (q::l)=q::stays ops j l\/stays ops j (q::l)=stays ops j l:=by unfold stays;rw [pz];split<;>simp
  rcases lT with e|e
  ·rw [e];refine ⟨λx hx=> ?_,AQ hq fuel _ _ _ _ hk.2⟩
   cases hx with
   |head=>exact hq _
   |tail _ hm=>exact hk.1 x hm
  ·rw [e];exact hk) (h.2 j hj)⟩
def Ir{op:Op}(h:Io op=true):∀c,op≠ .defer c:=by rintro c rfl;cases h
def Tq{l:List Nat}{f:Nat->Bool}{i:Nat}(h:l.find? f=some i):i ∈ l/\f i=true:=⟨Yd h,List.find?_some h⟩
def Qr [PQ] (W:List Nat)(s0:St)(K:St->Prop):Exit->Act->World->Prop
 | .normal,a,w=>Yk W s0 K a w
 | .panic c,a,w=>∃q,PQ.q=some q/\a.defers=[]/\q c w
 |_,_,_=>False
def adT [PQ] (W:List Nat)(s0:St)(K:St->Prop):Ih (Qr W s0 K):=λq hq _ _ _ hd hc=>⟨q,hq,hd,hc⟩
def aaj(a:Act)(d:Option Tmp)(v:Value):(a.put d v).defers=a.defers:=by cases d<;>rfl
def lx [PQ] (hP:vx P)(BG:Region.noSelect ops=true)(W:List Nat)(s0:St)(hW:∀(j:Nat)(o:Oper) d,ops[j]? =some o->o.dst=some d->d ∈ W):
  ∀(fuel:Nat)(l:List oo)(listed:Array Bool)(s:St),s.Ok->Fr W s0 s->(∀q ∈ l,q.holds s.w)->No P ops K fuel l listed s->PC P ops (Qr W s0 K) fuel l listed s.act s.w
 |0,l,listed,s,aU,DV,hl,h=>by
  unfold No at h
  split at h
  ·rename_i hr;exact ⟨hr,s,aU,rfl,rfl,DV,h⟩
  ·cases h
 |fuel+1,l,listed,s,aU,DV,hl,h=>by
  unfold No at h
  have FT:∀{j:Nat} {o:Oper},ops[j]? =some o->∀i ∈ o.dst.toList,i ∈ W:=λ{j o} ho=>AN λx hx=>hW j o x ho hx
  split at h
  ·rename_i i hfind
   obtain ⟨u7,hfree⟩:=Tq hfind
   unfold Tp at hfree
   split at h
   ·rename_i o ho
    rw [ho] at hfree
    simp only at hfree
    split at hfree
    case h_2=>cases hfree
    rename_i hkind2
    have hkind:=(gr _ _▸hkind2).1
    have hspec:=Region.free_spec ho hfree
    have first:∀(q:oo)(v:Value)(s':St),q.i=i->hJ P ops q.holds o v s.act->q.holds s.w->s'.Ok->Fr W s0 s'->s'.act=s.act.put o.dst v->s'.w=s.w->
      PC P ops (Qr W s0 K) fuel (q::l) (listed.setIfInBounds i true) s'.act s'.w->PC P ops (Qr W s0 K) (fuel+1) l listed s.act s.w:=by
     rintro q v s' rfl hy hh h1 h2 h3 h4 H;rw [h3,h4] at H;exact PE ho (Ir hkind) (λj o cs b=>Region.noSelect_spec BG j o cs b) (λc a w hq=>by obtain ⟨q,h1,h2,h3⟩:=hq;exact ⟨q,h1,by rw [<-h2,aaj],h3⟩) fuel l listed s.act s.w (λj oj=>hspec j oj) u7 hy hh H hl
    rcases qc aU h with ⟨hw,s1,qx,h1⟩|⟨hw,s1,qx,h1⟩
    ·unfold Ip at h1;have hfr1:Fr W s0 s1:=DV.trans (qx.fr.mono cx);split at h1
     ·rename_i t x hop;split at h1
      case h_2=>cases h1
      rename_i hu;obtain ⟨a,vs,v,g1,g2,g3,g4⟩:=Iq qx.ok (pZ hu) h1;obtain ⟨s2,k1,k2,k3,k4,k5⟩:=di (d:=o.dst) (v:=v) (K:=λs'=>No P ops K fuel (⟨i,some a,vs⟩::l) (listed.setIfInBounds i true) s') qx.ok g2;rw [qx.act] at k2;rw [qx.w] at k3 g3;refine first ⟨i,some a,vs⟩ v s2 rfl (.inl ⟨hw,λw' hw'=> ?_⟩) g3 k1 (hfr1.trans (k4.mono (FT ho))) k2 k3 ?_
      ·rw [<-qx.act,St.eval_eq];have:execOp s1.ev o=(do pure (.value (<-Instr.loadAt t (s1.ev x)))):=by obtain ⟨dst,op,ty,pos,after,guard⟩:=o;simp only at hop;subst hop;rfl
       rw [this,Sem.run_bind,St.ev,g1,g4 w' hw'];rfl
      ·exact lx hP BG W s0 hW fuel _ _ s2 k1 (hfr1.trans (k4.mono (FT ho))) (λq hq=>by
        cases hq with
        |head=>rw [k3];exact g3
        |tail _ hm=>rw [k3];exact hl q hm) k5
     ·split at h1
      ·rename_i a n hc;obtain ⟨ns,hn,g3,h1⟩:=h1;obtain ⟨s2,k1,k2,k3,k4,k5⟩:=di (d:=o.dst) (v:=.string (strOfNums ns)) (K:=λs'=>No P ops K fuel (⟨i,a,ns.map (Value.int .u8)⟩::l) (listed.setIfInBounds i true) s') qx.ok h1;rw [qx.act] at k2;rw [qx.w] at k3 g3;refine first ⟨i,a,ns.map (Value.int .u8)⟩ (.string (strOfNums ns)) s2 rfl (.inl ⟨hw,λw' hw'=> ?_⟩) g3 k1 (hfr1.trans (k4.mono (FT ho))) k2 k3 ?_
       ·rw [<-qx.act,St.eval_eq];exact Dv hc hn hw'
       ·exact lx hP BG W s0 hW fuel _ _ s2 k1 (hfr1.trans (k4.mono (FT ho))) (λq hq=>by
         cases hq with
         |head=>rw [k3];exact g3
         |tail _ hm=>rw [k3];exact hl q hm) k5
      split at h1
      ·rename_i cs sv hp;rw [bn] at h1;obtain ⟨s2,k1,k2,k3,k4,k5⟩:=jn (a:=s1.act.put o.dst (sv.bE s1.kn)) (w:=s1.w) (d:=o.dst) (K:=λs'=>No P ops K fuel l (listed.setIfInBounds i true) s') h1.2 qx.ok rfl (nJ.refl _) qx.ok.bj qx.ok.ne (zg qx.ok hp) rfl rfl;rw [qx.act] at k2;rw [qx.w] at k3;refine first ⟨i,none,[]⟩ (sv.bE s1.kn) s2 rfl (.inl ⟨hw,λw' _=> ?_⟩) trivial k1 (hfr1.trans (k4.mono (FT ho))) k2 k3 ?_
       ·rw [<-qx.act,St.eval_eq];exact nK hp h1.1 w'
       ·exact AQ (q:=⟨i,none,[]⟩) (λ_=>trivial) _ _ _ _ _ (lx hP BG W s0 hW fuel _ _ s2 k1 (hfr1.trans (k4.mono (FT ho))) (λq hq=>by rw [k3];exact hl q hq) k5)
      ·cases h1
    ·have hfr1:Fr W s0 s1:=DV.trans (qx.fr.mono cx);obtain ⟨s2,k1,k2,k3,k4,k5⟩:=di (d:=o.dst) (v:=undef) (K:=λs'=>No P ops K fuel l (listed.setIfInBounds i true) s') qx.ok h1;rw [qx.act] at k2;rw [qx.w] at k3;refine first ⟨i,none,[]⟩ undef s2 rfl (.inr ⟨hw,rfl⟩) trivial k1 (hfr1.trans (k4.mono (FT ho))) k2 k3 ?_;exact AQ (q:=⟨i,none,[]⟩) (λ_=>trivial) _ _ _ _ _ (lx hP BG W s0 hW fuel _ _ s2 k1 (hfr1.trans (k4.mono (FT ho))) (λq hq=>by rw [k3];exact hl q hq) k5)
   ·cases h
  ·split at h
   ·rename_i hr;exact ⟨λ_=>⟨s,aU,rfl,rfl,DV,h⟩,λj hj=>by rw [hr] at hj;cases hj⟩
   ·rename_i hr;refine ⟨λh0=>absurd h0 hr,λj hj=> ?_⟩;have hj':=Im h j hj;split at hj'
    ·rename_i o ho;have step:∀a w,fW o.dst s (λs'=>(∀q ∈ stays ops j l,q.holds s'.w)/\No P ops K fuel (stays ops j l) (listed.setIfInBounds j true) s') a w->
       (∀q ∈ stays ops j l,q.holds w)/\PC P ops (Qr W s0 K) fuel (stays ops j l) (listed.setIfInBounds j true) a w:=by
      rintro a w ⟨s2,k1,rfl,rfl,k4,k5,k6⟩;exact ⟨k5,lx hP BG W s0 hW fuel _ _ s2 k1 (DV.trans (k4.mono (FT ho))) k5 k6⟩
     unfold oR;simp only [ho];rcases qc aU hj' with ⟨hw,s1,qx,h1⟩|⟨hw,s1,qx,h1⟩
     ·rw [if_pos hw];have hl1:∀q ∈ stays ops j l,q.holds s1.w:=λq hq=>by rw [qx.w];exact hl q (lv hq)
      have h2:=AM (Q:=Qr W s0 K) (adT W s0 K) hP qx.ok h1;have h3:o.QI P s1.act s1.w (λa w=>(∀q ∈ stays ops j l,q.holds w)/\PC P ops (Qr W s0 K) fuel (stays ops j l) (listed.setIfInBounds j true) a w) (Qr W s0 K):=by
       cases hq:quiet P s1 o with
       |true=>
        obtain ⟨v,w',g1,g2⟩:=PF qx.ok hq h1;refine Oper.np (λa w hh=> ?_) (aai (G:=λw=>qV s1.w w) g1 g2 h2);obtain ⟨hp,hg⟩:=hh;refine step a w (fW.Tn qx ?_);obtain ⟨s2,k1,k2,k3,k4,k5⟩:=hp;rw [bn] at k5;exact ⟨s2,k1,k2,k3,k4,λq hq=>by rw [k3];exact hg.au (hl1 q hq),k5.2⟩
       |false=>
        refine Oper.np (λa w hp=>step a w (fW.Tn qx ?_)) h2;obtain ⟨s2,k1,k2,k3,k4,k5⟩:=hp;rw [bn] at k5;refine ⟨s2,k1,k2,k3,k4,λq hq'=> ?_,k5.2⟩;refine k5.1 _ ?_;unfold Nn;rw [hq];exact aS.2 ⟨q,hq',rfl⟩
      rw [qx.act,qx.w] at h3;exact h3
     ·rw [if_neg (by simp [hw])];obtain ⟨s2,k1,k2,k3,k4,k5⟩:=di (d:=o.dst) (v:=undef) (K:=λs'=>No P ops K fuel (stays ops j l) (listed.setIfInBounds j true) s') qx.ok h1;rw [qx.act] at k2;rw [qx.w] at k3;rw [<-k2,<-k3];exact step _ _ (fW.Tn qx ⟨s2,k1,rfl,rfl,k4,λq hq=>by rw [k3];exact hl q (lv hq),k5⟩)
    ·cases hj'
end
def writes:Code->List Nat
 | .region _ ops _=>dstsOf ops.toList
 | .seq a b=>writes a++writes b
 | .cond _ a b=>writes a++writes b
 | .block _ a=>writes a
 | .loop a=>writes a
 | .scope a=>writes a
 | .rangeFunc _ ps a b=>ps.toList++writes a++writes b
 |_=> []
def kd:Code->Option Nat
 | .region id _ _=>some id
 | .seq a b=>match kd a with|some i=>some i|none=>kd b
 | .cond _ a b=>match kd a with|some i=>some i|none=>kd b
 | .block _ a=>kd a
 | .loop a=>kd a
 | .scope a=>kd a
 |_=>none
structure Carry where
 lM:List (Nat × S)
 blocks:List (Nat × List S)
 jO:List Nat
structure Vm where
 loops:List (Nat × Carry)
 ahA:List (Nat × Carry)
 ahB:List (Nat × Carry × List T1):=[]
def iE:Code->Bool
 | .seq a b=>iE a && iE b
 | .cond _ a b=>iE a && iE b
 | .block _ a=>iE a
 | .loop a=>iE a
 | .scope _=>false
 | .rangeFunc .. =>false
 |_=>true
def T1.all:T1->(Value->Prop)->Prop
 | .sc s,F=>s.all F
 | .agg l,F=>oY l λvs=>F (.agg vs.toArray)
def aak:List T1->(List Value->Prop)->Prop
 | [],F=>F []
 |t::r,F=>t.all λv=>aak r λvs=>F (v::vs)
structure Step(F F':Nat->Prop)(w w':World):Prop where
 sub:∀i,F' i->F i\/w.heap.size<=i
 size:w.heap.size<=w'.heap.size
 same:∀i,i<w.heap.size->¬F i->w'.heap[i]? =w.heap[i]?
def Step.late{F F':Nat->Prop}{w w':World}(h:Step F F' w w'){k:Nat}:Step (λi=>F i\/k<=i) F' w w':=⟨λi hi=>(h.sub i hi).elim (λq=> .inl (.inl q)) .inr,h.size,λi hi hn=>h.same i hi λq=>hn (.inl q)⟩
def adU{α:Type}(B:Nat)(I:α->(Nat->Prop)->World->Prop):Prop:=
 ∀n F w w',I n F w->Below B w w'->(∀i,F i->w'.heap[i]? =w.heap[i]?)->I n F w'
def Iter(P:Program)(gv:Value)(W0:World)(Rd:Nat->Prop)(xs:List (List Value)):Prop:=
 (∃f first cap,gv=.func (.func f) first cap/\qN P f=true)/\∀(y:Value)(B:Nat)(J:Nat->(Nat->Prop)->World->Prop)(Jx:Unit->(Nat->Prop)->World->Prop)(F0:Nat->Prop)(W:World),
  B<=W.heap.size->adU B J->adU B Jx->(∀n F w,J n F w->∀i,F i->i<w.heap.size)->
  (∀i,Rd i->¬F0 i/\i<W.heap.size/\W.heap[i]? =W0.heap[i]?)->
  (∀n x F w,xs[n]? =some x->J n F w->dJ P y x w λe w'=>
   (e=.returned (.bool true)/\∃F',J (n+1) F' w'/\Step F F' w w')\/(e=.returned (.bool false)/\∃F',Jx () F' w'/\Step F F' w w'))->
  J 0 F0 W->dJ P gv [y] W λe w'=>(∃v,e=.returned v)/\((∃F',J xs.length F' w')\/∃F',Jx () F' w')
structure X9(B:Nat)(w w1:World):Prop where
 ext:Below w.heap.size w w1
 at_:B=w.heap.size
 size:w1.heap.size=B+2
def Tr(l:List (Option Nat)):List (Option Nat)->List (Option Nat)
 | []=>l
 |x::r=>Tr (if l.contains x then l else l++ [x]) r
def iM:Code->List (Option Nat)
 | .exit id=> [some id]
 | .ret=> [none]
 | .seq a b=>Tr (iM a) (iM b)
 | .cond _ a b=>Tr (iM a) (iM b)
 | .block id a=>(iM a).filter (· !=some id)
 | .loop a=>iM a
 |_=> []
def adV:Option Nat->Exit|none=> .ret|some id=> .exit id
def Dx:Option Nat->Code|none=> .ret|some id=> .exit id
def aal:List (Option Nat)->(Option Nat->Prop)->Prop
 | [],_=>True
 | [j],F=>F j
 |j::k::r,F=>F j/\aal (k::r) F
def Is:∀{l:List (Option Nat)} {F:Option Nat->Prop},aal l F->∀j ∈ l,F j
 | [],_,_,j,h=>by cases h
 | [a],_,h,j,hj=>by
   have:j=a:=by simpa using hj
   subst this;exact h
 |a::b::r,F,h,j,hj=>by
  cases hj with
  |head=>exact h.1
  |tail _ hm=>exact Is h.2 j hm
def Carry.bt(c:Carry):List S:=c.lM.map (·.2)++c.blocks.flatMap (·.2)
def Carry.mb(c:Carry)(s:St):List Value:=c.lM.map (λx=>(s.sl.getD x.1 (.val undef)).bE s.kn)++c.blocks.flatMap λx=>(s.kn.getD x.1 default).cells
def ky:List SV->List (Nat × S)->List Value->List SV
 |sl,(i,_)::r,v::vs=>ky (sl.set i (.val v)) r vs
 |sl,_,_=>sl
def ey:List KB->List (Nat × List S)->List Value->List KB
 |kn,(k,ss)::r,vs=>ey (kn.modify k λb=>{b with cells:=vs.take ss.length}) r (vs.drop ss.length)
 |kn,[],_=>kn
def gj(us:Nat->Value)(W:List Nat):Nat->List SV->List SV
 |_,[]=> []
 |i,v::r=>(if W.contains i then .val (us i) else v)::gj us W (i+1) r
def Carry.head(c:Carry)(W:List Nat)(us:Nat->Value)(vs:List Value)(w:World)(s:St):St:=
 {sl:=ky (gj us W 0 s.sl) c.lM vs,w:=w,kn:=ey s.kn c.blocks (vs.drop c.lM.length),df:=s.df}
def Carry.Iu(c:Carry)(s s':St):Bool:=
 s'.df.length==s.df.length &&(List.range s.kn.length).all λk=>(s.kn.getD k default).live==(s'.kn.getD k default).live
def Carry.aam(c:Carry)(s s':St):List Prop:=
 ((List.range s.kn.length).filter λk=>(s.kn.getD k default).live && !(c.blocks.any λx=>x.1==k)).map λk=>(s'.kn.getD k default).cells=(s.kn.getD k default).cells
def Carry.okB(c:Carry)(s:St):Bool:=
 (c.blocks.all λx=>(s.kn.getD x.1 default).cells.length==x.2.length && x.1<s.kn.length)
def Carry.enter(c:Carry)(s s':St)(I:List Value->World->Prop):Prop:=
 match c.Iu s s' && c.okB s' with
 |true=>bk (c.aam s s') (I (c.mb s') s'.w)
 |false=>False
def eQ [PQ] (P:Program)(an:Vm):Code->St->(Exit->St->Prop)->Prop
 | .skip,s,Q=>Q .normal s
 | .region _ ops draw,s,Q=>match draw with
   |false=>EV P ops ops.toList s (Q .normal)
   |true=>match Region.noSelect ops with
    |true=>No P ops (Q .normal) ops.size [] (Array.replicate ops.size false) {s with w:=s.w.drew}
    |false=>False
 | .seq x y,s,Q=>match (kd y).bind λi=>an.ahA.lookup i with
   |none=>eQ P an x s λe s'=>match e with| .normal=>eQ P an y s' Q|e=>Q e s'
   |some c=>let s:=s.kill (c.jO.map λk=> .loc k 0)
    ∃J:QG c.bt (World->Prop),eQ P an x s (λe s'=>match e with| .normal=>c.enter s s' (gH c.bt J)|e=>Q e s')/\
     ∀us:Nat->Value,oY c.bt λvs=>∀w,gH c.bt J vs w->eQ P an y (c.head (writes x) us vs w s) Q
 | .cond c x y,s,Q=>match s.sv c with
   | .val (.bool b)=>Br b (eQ P an x s Q) (eQ P an y s Q)
   |_=>False
 | .block id x,s,Q=>eQ P an x s λe s'=>match e with| .exit id'=>if id'=id then Q .normal s' else Q (.exit id') s'|e=>Q e s'
 | .loop x,s,Q=>match (kd x).bind λi=>an.loops.lookup i with
   |none=>False
   |some c=>let s:=s.kill (c.jO.map λk=> .loc k 0)
    ∃I:Nat->QG c.bt (World->Prop),(∃n,c.enter s s (gH c.bt (I n)))/\
     ∀n:Nat,∀us:Nat->Value,oY c.bt λvs=>∀w,gH c.bt (I n) vs w->
      eQ P an x (c.head (writes x) us vs w s) λe s'=>match e with| .normal=>∃m,m<n/\c.enter s s' (gH c.bt (I m))|e=>Q e s'
 | .exit id,s,Q=>Q (.exit id) s
 | .ret,s,Q=>Q .ret s
 | .label _,s,Q=>Q .normal s
 | .scope x,s,Q=>eQ P an x s λe s'=>match e with| .goto _=>False|e=>Q e s'
 | .rangeFunc g ps assign body,s,Q=>match PQ.q with
   |some _=>False
   |none=>match (kd body).bind λi=>an.ahB.lookup i with
   |none=>False
   |some (c,ts)=>match iE assign && iE body && c.lM.isEmpty && ts.length==ps.size with
    |false=>False
    |true=>let s:=s.kill (c.jO.map λk=> .loc k 0)
     let s0:St:={s with df:=[]}
     ∃(xs:List (List Value))(Rd F0:Nat->Prop)(I:Nat->(Nat->Prop)->QG c.bt (World->Prop))(X:Option Nat->(Nat->Prop)->QG c.bt (World->Prop)),
      (∀x ∈ xs,ex1 ts λpv=>x=pv)/\
      (∀n F,oY c.bt λvs=>∀w w',gH c.bt (I n F) vs w->Below s.w.heap.size w w'->(∀i,F i->w'.heap[i]? =w.heap[i]?)->gH c.bt (I n F) vs w')/\
      (∀n F,oY c.bt λvs=>∀w w',gH c.bt (X n F) vs w->Below s.w.heap.size w w'->(∀i,F i->w'.heap[i]? =w.heap[i]?)->gH c.bt (X n F) vs w')/\
      (∀n F,oY c.bt λvs=>∀w,gH c.bt (I n F) vs w->∀i,F i->i<w.heap.size/\i≠s.w.heap.size/\i≠s.w.heap.size+1)/\
      (∀n F,oY c.bt λvs=>∀w,gH c.bt (X n F) vs w->∀i,F i->i<w.heap.size/\i≠s.w.heap.size/\i≠s.w.heap.size+1)/\
      (∀i,Rd i->i<s.w.heap.size/\¬F0 i/\bk ((fg s.kn).map λk=>i≠k) True)/\
      (∀w1,X9 s.w.heap.size s.w w1->Iter P (s.ev g) w1 Rd xs/\c.enter s0 {s0 with w:=w1} (gH c.bt (I 0 F0)))/\
      (∀n F (us:Nat->Value),oY c.bt λvs=>aak ts λpv=>∀w,xs[n]? =some pv->gH c.bt (I n F) vs w->
       eQ P an assign {c.head [] us vs w s0 with sl:=(ps.toList.zip pv).foldl (λsl p=>sl.set p.1 (.val p.2)) (c.head [] us vs w s0).sl} λe s1=>match e with
        | .normal=>Below w.heap.size w s1.w/\∀w2,Rec (s.w.heap.size+1) s1.w w2->gH c.bt (I n F) vs w2->
          eQ P an body {s1 with w:=w2} λe s2=>match e with
           | .normal=>∃F',c.enter s0 s2 (gH c.bt (I (n+1) F'))/\Step (λi=>(F i\/i ∈ fg s.kn)\/w.heap.size<=i) (λi=>F' i\/i ∈ fg s.kn) w2 s2.w
           | .ret=>(iM body).contains none=true/\∃F',c.enter s0 s2 (gH c.bt (X none F'))/\Step (λi=>(F i\/i ∈ fg s.kn)\/w.heap.size<=i) (λi=>F' i\/i ∈ fg s.kn) w2 s2.w
           | .exit id=>(iM body).contains (some id)=true/\∃F',c.enter s0 s2 (gH c.bt (X (some id) F'))/\Step (λi=>(F i\/i ∈ fg s.kn)\/w.heap.size<=i) (λi=>F' i\/i ∈ fg s.kn) w2 s2.w
           |_=>False
        |_=>False)/\
      (∀F (us:Nat->Value),oY c.bt λvs=>∀w,gH c.bt (I xs.length F) vs w->w.heap[s.w.heap.size]? =some (.deferred (some []))->Q .normal {c.head [] us vs w s with df:=s.w.heap.size::s.df})/\
      aal (iM body) λj=>∀F (us:Nat->Value),oY c.bt λvs=>∀w,gH c.bt (X j F) vs w->w.heap[s.w.heap.size]? =some (.deferred (some []))->Q (adV j) {c.head [] us vs w s with df:=s.w.heap.size::s.df}
 |_,_,_=>False
section
variable {P:Program} {s:St}
def dU:∀{l:List S} {f:QG l (World->Prop)} {vs:List Value} {w:World} {F:List Value->Prop},gH l f vs w->oY l F->F vs/\vs.length=l.length
 | [],_,[],_,_,_,h=>⟨h,rfl⟩
 | [],_,_::_,_,_,ha,_=>ha.elim
 |_::_,_,[],_,_,ha,_=>ha.elim
 |c::r,f,v::vs,w,F,ha,h=>by
  unfold gH at ha
  split at ha
  ·rename_i x hx
   have:=S.Zo hx
   subst this
   have h2:=dU ha (h x)
   exact ⟨h2.1,by simp [h2.2]⟩
  ·exact ha.elim
def Dy(us:Nat->Value)(W:List Nat):∀(l:List SV)(k i:Nat),(gj us W k l)[i]? =(l[i]?).map λv=>if W.contains (k+i) then .val (us (k+i)) else v
 | [],k,i=>by simp [gj]
 |v::r,k,i=>by
  cases i with
  |zero=>simp [gj]
  |succ i=>
   simp only [gj,Yl]
   rw [Dy us W r (k+1) i]
   simp only [show k+1+i=k+(i+1) by omega]
def uw{g:Nat->Value}:∀(cs:List (Nat × S))(sl:List SV)(rest:List Value)(i:Nat),
  (ky sl cs (cs.map (λx=>g x.1)++rest))[i]? =if cs.any (λx=>x.1==i) then (sl[i]?).map λ_=>SV.val (g i) else sl[i]?
 | [],sl,rest,i=>by cases rest<;>simp [ky]
 |(j,c)::r,sl,rest,i=>by
  simp only [dG,List.cons_append,ky]
  rw [uw r]
  by_cases e:j=i
  ·subst e
   simp only [List.any_cons,beq_self_eq_true,Bool.true_or,if_true,il]
   split
   ·split<;>simp_all
   ·split<;>simp_all
  ·simp only [List.any_cons,show (j==i)=false by simpa using e,Bool.false_or,il,if_neg e]
def rz{g:Nat->List Value}:∀(bs:List (Nat × List S))(kn:List KB)(i:Nat),(∀x ∈ bs,(g x.1).length=x.2.length)->
  (ey kn bs (bs.flatMap λx=>g x.1))[i]? =(kn[i]?).map λb=>if bs.any (λx=>x.1==i) then {b with cells:=g i} else b
 | [],kn,i,_=>by simp [ey]
 |(k,ss)::r,kn,i,h=>by
  have hk:(g k).length=ss.length:=h (k,ss) cx
  simp only [List.flatMap_cons,ey]
  rw [<-hk,List.take_left,List.drop_left,rz r _ _ (λx hx=>h x (by simp [hx])),CY]
  by_cases e:k=i
  ·subst e
   simp only [List.any_cons,beq_self_eq_true,Bool.true_or,if_true]
   cases kn[k]? with
   |none=>rfl
   |some b=>simp
  ·simp only [List.any_cons,show (k==i)=false by simpa using e,Bool.false_or,if_neg e]
   cases kn[i]? with
   |none=>rfl
   |some b=>simp
def E0{c:Carry}{s s':St}{W:List Nat}{I:List Value->World->Prop}(aU:s.Ok)(gA:s'.Ok)(DV:Fr W s s')(h:c.enter s s' I):
  ∃us,I (c.mb s') s'.w/\(c.head W us (c.mb s') s'.w s).Ok/\(c.head W us (c.mb s') s'.w s).act=s'.act/\Fr W s (c.head W us (c.mb s') s'.w s):=by
 unfold Carry.enter at h;split at h
 case h_2=>exact h.elim
 rename_i hb;rw [bn] at h;obtain ⟨hcells,hI⟩:=h;rw [gr] at hb;obtain ⟨hlive,hM⟩:=hb;have Mf:s'.df=s.df:=DV.df.2 (by
  unfold Carry.Iu at hlive;rw [gr] at hlive;simpa using hlive.1)
 let g:Nat->Value:=λi=>(s'.sl.getD i (.val undef)).bE s'.kn
 let gb:Nat->List Value:=λk=>(s'.kn.getD k default).cells
 have ed:∀x ∈ c.blocks,(gb x.1).length=x.2.length:=λx hx=>by unfold Carry.okB at hM;have:=zw.1 hM x hx;simp only [gr,beq_iff_eq] at this;exact this.1
 have hvals:c.mb s'=c.lM.map (λx=>g x.1)++c.blocks.flatMap λx=>gb x.1:=rfl
 have hdrop:(c.mb s').drop c.lM.length=c.blocks.flatMap λx=>gb x.1:=by rw [hvals,<-aB (as:=c.lM) (f:=λx=>g x.1),List.drop_left]
 have Fq:∀i,(c.head W g (c.mb s') s'.w s).kn[i]? =(s.kn[i]?).map λb=>if c.blocks.any (λx=>x.1==i) then {b with cells:=gb i} else b:=by intro i;show (ey s.kn c.blocks _)[i]? =_;rw [hdrop,rz _ _ _ ed]
 have fS:nJ s.kn (c.head W g (c.mb s') s'.w s).kn:=λk kb hk=>by refine ⟨_,by rw [Fq,hk];rfl,?_,?_⟩<;>(dsimp only;split<;>rfl)
 have j1:∀i,(c.head W g (c.mb s') s'.w s).sl[i]? =(s.sl[i]?).map λv=>if c.lM.any (λx=>x.1==i) then .val (g i) else if W.contains i then .val (g i) else v:=by intro i;show (ky _ c.lM _)[i]? =_;rw [hvals,uw,Dy];simp only [cP];split<;>cases s.sl[i]? <;>simp
 have hconc:∀(i:Nat)(v:SV),s.sl[i]? =some v->((if c.lM.any (λx=>x.1==i) then SV.val (g i) else if W.contains i then .val (g i) else v).bE (c.head W g (c.mb s') s'.w s).kn)=g i:=by
  intro i v hv;split
  ·rfl
  ·split
   ·rfl
   ·rename_i hW;rw [fS.bE (aU.jP i v hv)];have:=DV.slot i (by simpa using hW);simp only [dh,hv,Option.getD_some] at this;exact this.symm
 have hblkOk:∀(k:Nat)(kb:KB),(c.head W g (c.mb s') s'.w s).kn[k]? =some kb->kb.live=true->∃kb',s'.kn[k]? =some kb'/\kb'.live=true/\kb'.idx=kb.idx/\kb'.ty=kb.ty/\kb'.cells=kb.cells:=by
  intro k kb h1 h2;rw [Fq] at h1
  cases hs:s.kn[k]? with
  |none=>simp [hs] at h1
  |some b=>
   have fH:k<s.kn.length:=(bH.1 hs).1;obtain ⟨kb',e1,e2,e3⟩:=DV.kn k b hs;have hl:b.live=kb'.live:=by unfold Carry.Iu at hlive;rw [gr] at hlive;have:=zw.1 hlive.2 k (Np.2 fH);simpa [dh,hs,e1] using this
   rw [hs] at h1;simp only [mj,Option.some.injEq] at h1;split at h1
   ·subst h1;exact ⟨kb',e1,hl▸h2,e2,e3,by simp [gb,dh,e1]⟩
   ·rename_i XV;subst h1;refine ⟨kb',e1,hl▸h2,e2,e3,?_⟩;have:=hcells ((s'.kn.getD k default).cells=(s.kn.getD k default).cells) (aS.2 ⟨k,jJ.2 ⟨Np.2 fH,?_⟩,rfl⟩)
    ·simpa [dh,hs,e1] using this
    ·simp only [dh,hs,Option.getD_some,h2,re,Bool.not_eq_true'];simpa only [Bool.not_eq_true] using XV
 refine ⟨g,hI,⟨?_,?_,?_⟩,?_,⟨?_,?_,fS,ax _,λ_=>rfl⟩⟩
 ·intro k kb h1 h2;obtain ⟨kb',e1,e2,e3,e4,e5⟩:=hblkOk k kb h1 h2;have:=gA.bj k kb' e1 e2;rw [e3,e4,e5] at this;exact this
 ·intro i j x y h1 h2 h3 h4 h5;obtain ⟨x',a1,a2,a3,_⟩:=hblkOk i x h1 h3;obtain ⟨y',b1,b2,b3,_⟩:=hblkOk j y h2 h4;exact gA.ne i j x' y' a1 b1 a2 b2 (by rw [a3,b3];exact h5)
 ·intro i v hv;rw [j1] at hv
  cases hs:s.sl[i]? with
  |none=>simp [hs] at hv
  |some u=>
   rw [hs] at hv;simp only [mj,Option.some.injEq] at hv;subst hv;split
   ·trivial
   ·split
    ·trivial
    ·exact (aU.jP i u hs).mono fS.length
 ·simp only [St.act];rw [show (c.head W g (c.mb s') s'.w s).df=s'.df from Mf.symm];congr 1;congr 1;apply im;intro i;rw [aV,aV,j1]
  cases hs:s.sl[i]? with
  |none=>
   have:s'.sl[i]? =none:=by rw [List.getElem?_eq_none_iff] at hs ⊢;rw [DV.len];exact hs
   simp [this]
  |some v=>
   have fH:i<s'.sl.length:=by rw [DV.len];exact (bH.1 hs).1
   simp only [mj];rw [hconc i v hs];simp [g,dh,cy fH]
 ·have h1:∀i,(c.head W g (c.mb s') s'.w s).sl[i]? =none ↔ s.sl[i]? =none:=λi=>by rw [j1,Option.map_eq_none_iff]
  have e1:=h1 s.sl.length;have e2:=h1 (c.head W g (c.mb s') s'.w s).sl.length;simp only [List.getElem?_eq_none_iff] at e1 e2;omega
 ·intro i hi;simp only [dh,j1]
  cases hs:s.sl[i]? with
  |none=>rfl
  |some v=>
   simp only [mj,Option.getD_some];rw [hconc i v hs];have:=DV.slot i hi;simp only [dh,hs,Option.getD_some] at this;simp only [g,dh];exact this
def lN [PQ] (W:List Nat)(s:St)(Q:Exit->St->Prop):Exit->Act->World->Prop:=
 λe a w=>(∃s',s'.Ok/\s'.act=a/\s'.w=w/\Fr W s s'/\Q e s')\/∃q c,PQ.q=some q/\e=.panic c/\a.defers=[]/\q c w
def lN.get [PQ] {W:List Nat}{s:St}{Q:Exit->St->Prop}{e:Exit}{a:Act}{w:World}(h:lN W s Q e a w)(he:∀c,e≠ .panic c):∃s',s'.Ok/\s'.act=a/\s'.w=w/\Fr W s s'/\Q e s':=by
 rcases h with h|⟨q,c,hq,h,-⟩
 ·exact h
 ·exact absurd h (he c)
def Ts [PQ] (W:List Nat)(s:St)(Q:Exit->St->Prop):Ih (lN W s Q):=λq hq c _ _ hd hc=> .inr ⟨q,c,hq,rfl,hd,hc⟩
def lN.of [PQ] {W W':List Nat}{s h:St}{Q:Exit->St->Prop}{e:Exit}{a:Act}{w:World}(hp:lN W h Q e a w)(DV:Fr W' s h)(hs:∀i ∈ W,i ∈ W'):lN W' s Q e a w:=by
 rcases hp with ⟨s',h1,h2,h3,h4,h5⟩|hp
 ·exact .inl ⟨s',h1,h2,h3,DV.trans (h4.mono hs),h5⟩
 ·exact .inr hp
def ya{F:Fence}{n:Nat}{P:Program}{Q:Exit->Act->World->Prop}{a:Act}{w:World}{c:Code}(I:Nat->Act->World->Prop)(n₀:Nat)(h₀:I n₀ a w)
  (round:∀m a w,I m a w->c.wpIn F n P (Exit.then (λa' w'=>∃n',n'<m/\I n' a' w') Q) a w):(Code.loop c).wpIn F n P Q a w:=by
 refine wpIn_loop (λa w=>∃n,I n a w) (λa w=>leastOf (λn=>I n a w)) ⟨n₀,h₀⟩ ?_;intro a w hI;refine wpIn_mono (round _ a w (leastOf_spec hI).1) ?_;intro e a' w' hq
 cases e with
 |normal=>
  obtain ⟨n',fH,hI'⟩:=hq;exact show (∃n,I n a' w')/\leastOf (λn=>I n a' w')<leastOf (λn=>I n a w) from ⟨⟨n',hI'⟩,Iw ((leastOf_spec ⟨n',hI'⟩).2 n' hI') fH⟩
 |exit id=>exact hq
 |goto l=>exact hq
 |ret=>exact hq
 |panic ch=>exact hq
 |outgrown=>exact hq
def v7(us:Nat->Value):∀(l:List SV)(i:Nat),gj us [] i l=l
 | [],_=>rfl
 |v::r,i=>by
  show (if ([]:List Nat).contains i then SV.val (us i) else v)::gj us [] (i+1) r=_
  rw [v7 us r (i+1)];rfl
def Dz:∀(bs:List (Nat × List S))(kn:List KB)(vs:List Value),fg (ey kn bs vs)=fg kn
 | [],_,_=>rfl
 |(k,ss)::r,kn,vs=>by
  show fg (ey (kn.modify k λb=>{b with cells:=vs.take ss.length}) r (vs.drop ss.length))=_
  rw [Dz r]
  unfold fg
  induction kn generalizing k with
  |nil=>simp
  |cons b kn ih=>
   cases k with
   |zero=>cases hb:b.live<;>simp [hb]
   |succ k=>
    have:=ih k
    cases hb:b.live<;>simp [hb]<;>simpa using this
def PG{kn:List KB}{k:Nat}{kb:KB}(h:kn[k]? =some kb)(hl:kb.live=true):kb.idx ∈ fg kn:=
 aS.2 ⟨kb,jJ.2 ⟨bf h,hl⟩,rfl⟩
def Tt{s:St}(aU:s.Ok){i:Nat}(h:i ∈ fg s.kn):∃c t,s.w.heap[i]? =some (.cells c t (0,0)):=by obtain ⟨kb,h1,rfl⟩:=aS.1 h;obtain ⟨h1,h2⟩:=jJ.1 h1;obtain ⟨k,hk⟩:=mR h1;exact ⟨_,_,aU.bj k kb hk h2⟩
def Nr:∀{l:List S} {F:List Value->Prop},VY l F->∃vs,F vs/\∀G:List Value->Prop,oY l G->G vs
 | [],_,h=>⟨[],h,λ_ hg=>hg⟩
 |s::r,F,⟨x,hx⟩=>by
  obtain ⟨vs,h1,h2⟩:=Nr hx
  exact ⟨_,h1,λG hg=>h2 _ (hg x)⟩
def T1.aan{t:T1}{F:Value->Prop}(h:t.ex F):∃v,F v/\∀G:Value->Prop,t.all G->G v:=by
 cases t with
 |sc s=>obtain ⟨x,hx⟩:=h;exact ⟨_,hx,λG hg=>hg x⟩
 |agg l=>obtain ⟨vs,h1,h2⟩:=Nr h;exact ⟨_,h1,λG hg=>h2 _ hg⟩
def Ns:∀{l:List T1} {F:List Value->Prop},ex1 l F->∃vs,F vs/\vs.length=l.length/\∀G:List Value->Prop,aak l G->G vs
 | [],_,h=>⟨[],h,rfl,λ_ hg=>hg⟩
 |t::r,F,h=>by
  obtain ⟨v,h1,h2⟩:=T1.aan h
  obtain ⟨vs,h3,h4,h5⟩:=Ns h1
  exact ⟨v::vs,h3,by simp [h4],λG hg=>h5 _ (h2 _ hg)⟩
def AR{c:Carry}{s s':St}{W:List Nat}{I:List Value->World->Prop}(xC:c.lM=[])(aU:s.Ok)(gA:s'.Ok)(DV:Fr W s s')(h:c.enter s s' I):
  ∃us,I (c.mb s') s'.w/\(c.head [] us (c.mb s') s'.w s).Ok/\Fr [] s (c.head [] us (c.mb s') s'.w s)/\(c.head [] us (c.mb s') s'.w s).sl=s.sl:=by
 obtain ⟨us,h1,h2,h3,h4⟩:=E0 aU gA DV h;have j1:(c.head [] us (c.mb s') s'.w s).sl=s.sl:=by show ky (gj us [] 0 s.sl) c.lM _=_;rw [xC,v7];rfl
 have fS:nJ s.kn (c.head [] us (c.mb s') s'.w s).kn:=h4.kn;refine ⟨us,h1,⟨h2.bj,h2.ne,λi v hv=> ?_⟩,⟨by rw [j1],λi _=> ?_,fS,ax _,λ_=>rfl⟩,j1⟩
 ·rw [j1] at hv;exact (aU.jP i v hv).mono fS.length
 ·rw [j1];simp only [dh]
  cases hg:s.sl[i]? with
  |none=>rfl
  |some u=>exact fS.bE (aU.jP i u hg)
def Ix:∀(l:List (Tmp × Value))(sl:List SV)(kn:List KB),(l.foldl (λsl p=>sl.set p.1 (.val p.2)) sl).map (SV.bE kn)=l.foldl (λt p=>t.set p.1 p.2) (sl.map (SV.bE kn))
 | [],_,_=>rfl
 |p::r,sl,kn=>by
  simp only [jL]
  rw [Ix r,mP];rfl
def Iy:∀(l:List (Tmp × Value))(t:List Value),(l.foldl (λt p=>t.set p.1 p.2) t).toArray=l.foldl (λ(t:Array Value) p=>t.setIfInBounds p.1 p.2) t.toArray
 | [],_=>rfl
 |p::r,t=>by
  simp only [jL]
  rw [Iy r];simp
def ku:∀(l:List (Tmp × Value))(sl:List SV),(l.foldl (λsl p=>sl.set p.1 (.val p.2)) sl).length=sl.length
 | [],_=>rfl
 |p::r,sl=>by simp only [jL];rw [ku r];simp
def Iz{n:Nat}:∀(l:List (Tmp × Value))(sl:List SV),(∀(i:Nat)(v:SV),sl[i]? =some v->v.fp n)->∀(i:Nat)(v:SV),(l.foldl (λsl p=>sl.set p.1 (.val p.2)) sl)[i]? =some v->v.fp n
 | [],_,h=>h
 |p::r,sl,h=>by
  simp only [jL]
  refine Iz r _ λi v hv=> ?_
  rw [il] at hv
  split at hv
  ·split at hv
   ·cases hv;trivial
   ·cases hv
  ·exact h i v hv
def DA:∀(l:List (Tmp × Value))(sl:List SV)(i:Nat),i ∉ l.map (·.1)->(l.foldl (λsl p=>sl.set p.1 (.val p.2)) sl)[i]? =sl[i]?
 | [],_,_,_=>rfl
 |p::r,sl,i,h=>by
  simp only [jL]
  rw [DA r _ i (λhm=>h (by simp [hm])),il,if_neg (λe=>h (by simp [e]))]
def Tu [PQ] (hP:vx P){n:Nat}{an:Vm}{g:Operand}{ps:Array Tmp}{assign body:Code}{Q:Exit->St->Prop}(aU:s.Ok)
  (ha:∀(l:Nat)(s:St)(Q:Exit->St->Prop),iE assign=true->s.Ok->eQ P an assign s Q->assign.wpIn (Fence.wide.inRound l) 0 P (lN (writes assign) s Q) s.act s.w)
  (hb:∀(l:Nat)(s:St)(Q:Exit->St->Prop),iE body=true->s.Ok->eQ P an body s Q->body.wpIn (Fence.wide.inRound l) 0 P (lN (writes body) s Q) s.act s.w)
  (h:eQ P an (.rangeFunc g ps assign body) s Q):(Code.rangeFunc g ps assign body).wpIn Fence.wide n P (lN (writes (.rangeFunc g ps assign body)) s Q) s.act s.w:=by
 unfold eQ at h
 split at h
 ·exact h.elim
 rename_i hpq
 split at h
 ·exact h.elim
 rename_i c ts hc
 split at h
 ·exact h.elim
 rename_i hbool
 simp only [gr,List.isEmpty_iff,beq_iff_eq] at hbool
 obtain ⟨⟨⟨hn1,Ga⟩,xC⟩,htl⟩:=hbool
 obtain ⟨q1,q2,q3,q4,q5⟩:=eG (c.jO.map λk=> .loc k 0) aU
 have qa:=kx (l:=c.jO.map λk=> .loc k 0) aU
 have qf:Fr (writes (.rangeFunc g ps assign body)) s (s.kill (c.jO.map λk=> .loc k 0)):=⟨by rw [q2],λi _=>by
  rw [q2]
  simp only [dh]
  cases hg:s.sl[i]? with
  |none=>rfl
  |some u=>exact q4.bE (aU.jP i u hg),q4,by rw [kZ];exact ⟨ax _,λ_=>rfl⟩⟩
 suffices hh:(Code.rangeFunc g ps assign body).wpIn Fence.wide n P (lN (writes (.rangeFunc g ps assign body)) (s.kill (c.jO.map λk=> .loc k 0)) Q) s.act s.w from wpIn_mono hh λe a w hp=>hp.of qf λi hi=>hi
 rw [<-qa,<-q3]
 simp only at h
 generalize s.kill (c.jO.map λk=> .loc k 0)=s at*
 have aU:=q1
 obtain ⟨xs,Rd,F0,I,X,hsh,hsI,hsX,hbI,hbX,hRd,cX,hround,hdone,hexit⟩:=h
 obtain ⟨B,hB⟩:∃B,B=s.w.heap.size:=⟨_,rfl⟩
 rw [<-hB] at hsI hsX hbI hbX hRd cX hround hdone hexit
 obtain ⟨s0,mC⟩:∃s0:St,s0={s with df:=[]}:=⟨_,rfl⟩
 simp only [<-mC] at cX hround
 have hok0:s0.Ok:=by rw [mC];exact ⟨aU.bj,aU.ne,aU.jP⟩
 have e0:s0.sl=s.sl/\s0.w=s.w/\s0.kn=s.kn/\s0.df=[]:=by rw [mC];exact ⟨rfl,rfl,rfl,rfl⟩
 have hlv:∀{i},i ∈ fg s.kn->i<B:=λhi=>by
  obtain ⟨_,_,h1⟩:=Tt aU hi
  rw [hB];exact (mQ.1 h1).1
 refine wpIn_rangeFunc λfn hfn=> ?_
 obtain ⟨rec,j3⟩:∃rec:LoopState->Option Code->Loop,rec=λst pe=>{state:=st,pending:=pe,fn,tmps:=s.act.tmps,params:=ps,assign,body,defers:=B}:=⟨_,rfl⟩
 obtain ⟨W1,XW⟩:∃W1,(s.w.alloc (.deferred (some []))).alloc (.loop (rec .ready none))=W1:=⟨_,rfl⟩
 have hL1:W1.heap[B+1]? =some (.loop (rec .ready none)):=by
  rw [<-XW,hB];have:=World.alloc_heap_new (s.w.alloc (.deferred (some []))) (.loop (rec .ready none));rwa [World.size_alloc] at this
 have hD1:W1.heap[B]? =some (.deferred (some [])):=by
  rw [<-XW,hB];exact (Below.heap_alloc _ _ _ cx).trans (World.alloc_heap_new s.w _)
 have Zd:W1.heap.size=B+2:=by rw [<-XW,hB];simp
 have Bm:Below B s.w W1:=by
  rw [<-XW];exact ((Below.refl _ s.w).alloc aa _).alloc (by simp;omega) _
 obtain ⟨⟨⟨f,first,cap,hg,uI⟩,hit⟩,hen⟩:=cX W1 ⟨hB▸Bm,hB,Zd⟩
 obtain ⟨JJ,hJJ⟩:∃JJ:LoopState->Option Code->((Nat->Prop)->QG c.bt (World->Prop))->(Nat->Prop)->World->Prop,JJ=λst pe K FF w=>∃F us vs,(∀i,FF i ↔(F i\/i ∈ fg s.kn)\/i=B\/i=B+1)/\
   (c.head [] us vs w s0).Ok/\Fr [] s0 (c.head [] us vs w s0)/\(c.head [] us vs w s0).sl=s0.sl/\gH c.bt (K F) vs w/\w.heap[B+1]? =some (.loop (rec st pe))/\w.heap[B]? =some (.deferred (some [])):=⟨_,rfl⟩
 have stabJ:∀{st pe} {K:(Nat->Prop)->QG c.bt (World->Prop)} {FF w w'},(∀F,oY c.bt λvs=>∀w w',gH c.bt (K F) vs w->Below B w w'->(∀i,F i->w'.heap[i]? =w.heap[i]?)->gH c.bt (K F) vs w')->
   JJ st pe K FF w->Below B w w'->(∀i,FF i->w'.heap[i]? =w.heap[i]?)->JJ st pe K FF w':=by
  intro st pe K FF w w' lT hj uM hsame
  rw [hJJ] at hj ⊢
  obtain ⟨F,us,vs,h1,h2,h3,h4,h5,h6,h7⟩:=hj
  refine ⟨F,us,vs,h1,⟨λk kb hk hl=> ?_,h2.ne,h2.jP⟩,⟨h3.len,h3.slot,h3.kn,h3.df⟩,h4,(dU h5 (lT F)).1 w w' h5 uM λi hi=>hsame i ((h1 i).2 (.inl (.inl hi))),?_,?_⟩
  ·have:=h2.bj k kb hk hl
   refine (hsame kb.idx ((h1 _).2 (.inl (.inr ?_)))).trans this
   have hm:=PG hk hl
   rw [show (c.head [] us vs w' s0).kn=ey s0.kn c.blocks (vs.drop c.lM.length) from rfl,Dz,e0.2.2.1] at hm
   exact hm
  ·rw [hsame _ ((h1 _).2 (.inr (.inr rfl)))];exact h6
  ·rw [hsame _ ((h1 _).2 (.inr (.inl rfl)))];exact h7
 have boundJ:∀{st pe} {K:(Nat->Prop)->QG c.bt (World->Prop)} {FF w},(∀F,oY c.bt λvs=>∀w,gH c.bt (K F) vs w->∀i,F i->i<w.heap.size/\i≠B/\i≠B+1)->
   JJ st pe K FF w->∀i,FF i->i<w.heap.size:=by
  intro st pe K FF w uI hj i hi
  rw [hJJ] at hj
  obtain ⟨F,us,vs,h1,h2,h3,h4,h5,h6,h7⟩:=hj
  have hz:=(mQ.1 h6).1
  rcases (h1 i).1 hi with (hi|hi)|rfl|rfl
  ·exact ((dU h5 (uI F)).1 w h5 i hi).1
  ·have:=hlv hi;omega
  ·omega
  ·omega
 have mkJ:∀{st pe} {K:(Nat->Prop)->QG c.bt (World->Prop)} {F:Nat->Prop} {s':St} {W:List Nat},s'.Ok->Fr W s0 s'->c.enter s0 s' (gH c.bt (K F))->s'.w.heap[B+1]? =some (.loop (rec st pe))->s'.w.heap[B]? =some (.deferred (some []))->
   JJ st pe K (λi=>(F i\/i ∈ fg s.kn)\/i=B\/i=B+1) s'.w:=by
  intro st pe K F s' W h1 h2 h3 h4 h5
  obtain ⟨us,g1,g2,g3,g4⟩:=AR xC hok0 h1 h2 h3
  rw [hJJ]
  exact ⟨F,us,c.mb s',λi=>Iff.rfl,g2,g3,g4,g1,h4,h5⟩
 obtain ⟨y,hy⟩:∃y,y=Value.func (.yield (B+1)) #[] #[]:=⟨_,rfl⟩
 have hok1:({s0 with w:=W1}:St).Ok:=⟨λk kb h1 h2=>by
  have:=hok0.bj k kb h1 h2
  rw [e0.2.1] at this
  rw [<-this]
  exact Bm.block _ (by rw [hB];exact (mQ.1 this).1),hok0.ne,hok0.jP⟩
 have hcall:=hit y B (λm=>JJ .ready none (I m)) (λ_ FF w=>∃j,(iM body).contains j=true/\JJ .done (some (Dx j)) (X j) FF w)
  (λi=>(F0 i\/i ∈ fg s.kn)\/i=B\/i=B+1) W1 aa
  (λm FF w w'=>stabJ (hsI m)) (λ_ FF w w' hj uM hs=>by
   obtain ⟨e,he,hj⟩:=hj
   exact ⟨e,he,stabJ (hsX e) hj uM hs⟩)
  (λm FF w=>boundJ (hbI m))
  (λi hi=>by
   obtain ⟨h1,h2,h3⟩:=hRd i hi
   rw [bn] at h3
   refine ⟨?_,by omega,rfl⟩
   rintro ((h4|h4)|h4|h4)
   ·exact h2 h4
   ·exact h3.1 (i≠i) (aS.2 ⟨i,h4,rfl⟩) rfl
   ·omega
   ·omega)
  ?_ (mkJ (s':={s0 with w:=W1}) (W:=[]) hok1 ⟨rfl,λ_ _=>rfl,nJ.refl _,ax _,λ_=>rfl⟩ (by rw [mC] at hen ⊢;exact hen) hL1 hD1)
 ·
  rw [hg] at hcall
  unfold dJ at hcall
  simp only [uI] at hcall
  unfold qN at uI
  split at uI
  case h_2=>cases uI
  rename_i fn' hf'
  split at uI
  case h_2=>cases uI
  rename_i body' hbody'
  have hn':=hP f fn' hf'
  refine ⟨B+1,[{target:=.collected B,args:= #[]}],W1,{target:=.fn (.func f) cap,args:=first++ #[y]},W1,f,first++ #[y]++cap,W1,?_,?_,λ_ _=>trivial,?_,og,callsIn_wide.2 ?_⟩
  ·rw [<-XW,j3,hB];exact run_enterLoop_outer _ _ _ _ _
  ·have hev:s.act.eval g=.func (.func f) first cap:=by rw [St.pq];exact hg
   simp only [resolve,hev,Deferred.ofValue,hy]
   simp [Act.eval]
  ·simp only [invoke,callFunc]
   simp [program,Sem.run,hf',hn',hbody']
  ·have UX:(first.toList++ [y]++cap.toList).toArray=first++ #[y]++cap:=by apply Array.ext';simp
   rw [UX] at hcall
   refine hcall.mono ?_
   have fin:∀{st pe} {K:(Nat->Prop)->QG c.bt (World->Prop)} {FF w w4} {e:Exit},JJ st pe K FF w->Rec (B+1) w w4->(∀F,oY c.bt λvs=>∀w w',gH c.bt (K F) vs w->Below B w w'->(∀i,F i->w'.heap[i]? =w.heap[i]?)->gH c.bt (K F) vs w')->
     (∀F,oY c.bt λvs=>∀w,gH c.bt (K F) vs w->∀i,F i->i<w.heap.size/\i≠B/\i≠B+1)->
     (∀F (us:Nat->Value),oY c.bt λvs=>∀w,gH c.bt (K F) vs w->w.heap[B]? =some (.deferred (some []))->Q e {c.head [] us vs w s with df:=B::s.df})->
     lN (writes (.rangeFunc g ps assign body)) s Q e {tmps:=s.act.tmps,defers:={target:=.collected B,args:= #[]}::s.act.defers} w4:=by
    intro st pe K FF w w4 e hj hr lT uI hq
    rw [hJJ] at hj
    obtain ⟨F,us,vs,h1,h2,h3,h4,h5,h6,h7⟩:=hj
    have h5':=(dU h5 (lT F)).1 w w4 h5 (hr.below aa) λi hi=>hr.same i ((dU h5 (uI F)).1 w h5 i hi).2.2
    have h7':w4.heap[B]? =some (.deferred (some [])):=by rw [hr.same _ aa];exact h7
    have Fq:(c.head [] us vs w4 s).kn=(c.head [] us vs w s0).kn:=by
     show ey s.kn _ _=ey s0.kn _ _
     rw [e0.2.2.1]
    have j1:(c.head [] us vs w4 s).sl=s.sl:=by
     show ky (gj us [] 0 s.sl) c.lM vs=_
     rw [xC,v7];rfl
    have fS:nJ s.kn (c.head [] us vs w4 s).kn:=by rw [Fq,<-e0.2.2.1];exact h3.kn
    refine .inl ⟨{c.head [] us vs w4 s with df:=B::s.df},⟨λk kb hk hl=> ?_,λi j x z hi hj=> ?_,λi v hv=> ?_⟩,?_,rfl,⟨by show (c.head [] us vs w4 s).sl.length=_;rw [j1],λi _=> ?_,fS,by simp,λh=>by simp at h⟩,(dU h5' (hq F us)).1 w4 h5' h7'⟩
    ·have hk':(c.head [] us vs w s0).kn[k]? =some kb:=by rw [<-Fq];exact hk
     have hh:=h2.bj k kb hk' hl
     show w4.heap[kb.idx]? =_
     rw [<-hh]
     refine hr.same _ λe=> ?_
     rw [show (c.head [] us vs w s0).w=w from rfl,e,h6] at hh
     cases hh
    ·exact h2.ne i j x z (by rw [<-Fq];exact hi) (by rw [<-Fq];exact hj)
    ·show v.fp (c.head [] us vs w4 s).kn.length
     rw [show ({c.head [] us vs w4 s with df:=B::s.df}:St).sl=(c.head [] us vs w4 s).sl from rfl,j1] at hv
     exact (aU.jP i v hv).mono fS.length
    ·show ({tmps:=((c.head [] us vs w4 s).sl.map (SV.bE (c.head [] us vs w4 s).kn)).toArray,defers:=marks (B::s.df)}:Act)=_
     rw [j1]
     have:s.sl.map (SV.bE (c.head [] us vs w4 s).kn)=s.sl.map (SV.bE s.kn):=by
      refine wH λx hx=> ?_
      obtain ⟨i,hi⟩:=mR hx
      exact fS.bE (aU.jP i x hi)
     rw [this];rfl
    ·show ((c.head [] us vs w4 s).sl.getD i (.val undef)).bE (c.head [] us vs w4 s).kn=_
     rw [j1]
     simp only [dh]
     cases hg:s.sl[i]? with
     |none=>rfl
     |some u=>exact fS.bE (aU.jP i u hg)
   rintro e w3 ⟨⟨v,rfl⟩,(⟨FF,hj⟩|⟨FF,j,he,hj⟩)⟩
   ·have hl:w3.heap[B+1]? =some (.loop (rec .ready none)):=by
     have:=hj
     rw [hJJ] at this
     obtain ⟨F,us,vs,h1,h2,h3,h4,h5,h6,h7⟩:=this
     exact h6
    have BH:=run_endLoop (P:=P) hl (by rw [j3];simp)
    rw [j3] at BH
    exact ⟨none,_,BH,fin hj (Rec.putObj _ _ _) (hsI _) (hbI _) hdone⟩
   ·have hl:w3.heap[B+1]? =some (.loop (rec .done (some (Dx j)))):=by
     have:=hj
     rw [hJJ] at this
     obtain ⟨F,us,vs,h1,h2,h3,h4,h5,h6,h7⟩:=this
     exact h6
    have BH:=run_endLoop (P:=P) hl (by rw [j3];simp)
    rw [j3] at BH
    refine ⟨some (Dx j),_,BH,?_⟩
    have hq:=Is hexit j (List.contains_iff_mem.1 he)
    cases j with
    |none=>exact wpIn_ret (fin hj (Rec.putObj _ _ _) (hsX _) (hbX _) hq)
    |some id=>exact wpIn_exit (fin hj (Rec.putObj _ _ _) (hsX _) (hbX _) hq)
 ·
  intro m x FF w hx hj
  have hj':=hj
  rw [hJJ] at hj'
  obtain ⟨F,us,vs,h1,h2,h3,h4,h5,h6,h7⟩:=hj'
  have hz:=(mQ.1 h6).1
  obtain ⟨x',hxe,hxl,hxa⟩:=Ns (hsh x (bf hx))
  subst hxe
  have Jq:=run_yield (P:=P) (args:=x.toArray) h6 (by rw [j3];simp [hxl,htl])
  rw [hy]
  refine ⟨⟨rfl,rfl⟩,_,_,_,_,Jq,?_⟩
  have hFb:∀i,F i->i<w.heap.size/\i≠B/\i≠B+1:=(dU h5 (hbI m F)).1 w h5
  have Fq:(c.head [] us vs w s0).kn.length=s0.kn.length/\nJ s0.kn (c.head [] us vs w s0).kn:=⟨by
   show (ey s0.kn c.blocks _).length=_
   have:∀(bs:List (Nat × List S))(kn:List KB)(vs:List Value),(ey kn bs vs).length=kn.length:=by
    intro bs
    induction bs with
    |nil=>intro kn vs;rfl
    |cons p r ih=>intro kn vs;obtain ⟨k,ss⟩:=p;show (ey _ r _).length=_;rw [ih];simp
   exact this _ _ _,h3.kn⟩
  have hvc:=hxa _ ((dU h5 (hround m F us)).1) w hx h5
  obtain ⟨sA,hsA⟩:∃sA:St,sA={c.head [] us vs w s0 with sl:=(ps.toList.zip x).foldl (λsl p=>sl.set p.1 (.val p.2)) (c.head [] us vs w s0).sl}:=⟨_,rfl⟩
  rw [<-hsA] at hvc
  have hokA:sA.Ok:=by
   rw [hsA]
   exact ⟨h2.bj,h2.ne,Iz _ _ h2.jP⟩
  have hwA:sA.w=w:=by rw [hsA];rfl
  have hactA:sA.act={tmps:=(ps.zip x.toArray).foldl (λtmps (p:Tmp × Value)=>tmps.setIfInBounds p.1 p.2) s.act.tmps,defers:=[]}:=by
   rw [hsA]
   show ({tmps:=(((ps.toList.zip x).foldl (λsl p=>sl.set p.1 (.val p.2)) (c.head [] us vs w s0).sl).map (SV.bE (c.head [] us vs w s0).kn)).toArray,defers:=marks s0.df}:Act)=_
   rw [Ix,Iy,h4,e0.2.2.2]
   have ht:s0.sl.map (SV.bE (c.head [] us vs w s0).kn)=s.sl.map (SV.bE s.kn):=by
    rw [e0.1,<-e0.2.2.1]
    refine wH λu hu=> ?_
    obtain ⟨i,hi⟩:=mR hu
    exact Fq.2.bE (hok0.jP i u (by rw [e0.1];exact hi))
   rw [ht]
   congr 1
   rw [<-Array.foldl_toList,Array.toList_zip]
   rfl
  have hfrA:Fr ps.toList s0 sA:=by
   rw [hsA]
   refine ⟨by show (List.foldl (λsl (p:Tmp × Value)=>sl.set p.1 (SV.val p.2)) (c.head [] us vs w s0).sl (ps.toList.zip x)).length=_;rw [ku,h4],λi hi=> ?_,h3.kn,ax _,λ_=>rfl⟩
   have:((ps.toList.zip x).foldl (λsl p=>sl.set p.1 (.val p.2)) (c.head [] us vs w s0).sl)[i]? =(c.head [] us vs w s0).sl[i]? :=DA _ _ _ (λhm=>hi (by
    obtain ⟨p,hp,rfl⟩:=aS.1 hm
    exact (List.of_mem_zip hp).1))
   have h3s:=h3.slot i cx
   simp only [dh] at h3s ⊢
   rw [this];exact h3s
  have hA:=ha (B+1) sA _ hn1 hokA hvc
  rw [hactA,hwA] at hA
  refine roundIn_of_wpIn trivial ?_
  rw [j3]
  refine wpIn_mono hA ?_
  rintro e a1 w1 (⟨s1,k1,rfl,rfl,k4,k5⟩|⟨q,c',hq',-⟩)
  case inr=>rw [hpq] at hq';cases hq'
  cases e with
  |normal=>
   obtain ⟨QA,hbody⟩:=k5
   have hl1:s1.w.heap[B+1]? =some (.loop (rec .ready none)):=by rw [QA.block _ hz];exact h6
   have hd1:s1.w.heap[B]? =some (.deferred (some [])):=by rw [QA.block _ aa];exact h7
   have hbr:=run_beginRound (P:=P) hl1 (by rw [j3])
   refine ⟨_,hbr,?_⟩
   obtain ⟨w2,yE⟩:∃w2,w2=s1.w.putObj (B+1) (.loop {rec .ready none with state:=.busy}):=⟨_,rfl⟩
   have VV:Rec (B+1) s1.w w2:=by rw [yE];exact Rec.putObj _ _ _
   have aqK:=QA.size
   have FQ:w2.heap[B+1]? =some (.loop {rec .ready none with state:=.busy}):=by rw [yE];exact World.putObj_heap_same aa
   have QR:w2.heap[B]? =some (.deferred (some [])):=by rw [VV.same _ aa];exact hd1
   have h5b:=(dU h5 (hsI m F)).1 w w2 h5 ((Below.mono QA aa).trans (VV.below aa)) λi hi=>by
    obtain ⟨g1,g2,g3⟩:=hFb i hi
    rw [VV.same i g3];exact QA.block i g1
   have hok2:=pU k1 (λc t f e=>by rw [hl1] at e;cases e) VV
   have hB2:=hb (B+1) {s1 with w:=w2} _ Ga hok2 (hbody w2 VV h5b)
   rw [show w2=({s1 with w:=w2}:St).w from rfl,yE] at hB2
   rw [<-yE]
   rw [<-yE] at hB2
   refine wpIn_mono hB2 ?_
   have QQ:=VV.size
   have nF:¬((F (B+1)\/B+1 ∈ fg s.kn)\/w.heap.size<=B+1):=by
    rintro ((hh|hh)|hh)
    ·exact (hFb _ hh).2.2 rfl
    ·have:=hlv hh;omega
    ·omega
   have nD:¬((F B\/B ∈ fg s.kn)\/w.heap.size<=B):=by
    rintro ((hh|hh)|hh)
    ·exact (hFb _ hh).2.1 rfl
    ·have:=hlv hh;omega
    ·omega
   have Lj:∀{F':Nat->Prop} {w' w3:World},Step (λi=>(F i\/i ∈ fg s.kn)\/w.heap.size<=i) (λi=>F' i\/i ∈ fg s.kn) w2 w'->Rec (B+1) w' w3->Step FF (λi=>(F' i\/i ∈ fg s.kn)\/i=B\/i=B+1) w w3:=by
    intro F' w' w3 hs hr
    refine ⟨λi hi=> ?_,?_,λi hi hn=> ?_⟩
    ·rcases hi with hi|hi
     ·rcases hs.sub i hi with (hh|hh)|hh
      ·exact .inl ((h1 i).2 (.inl hh))
      ·exact .inr hh
      ·exact .inr aa
     ·exact .inl ((h1 i).2 (.inr hi))
    ·have:=hs.size;have:=hr.size;omega
    ·have hn':¬(F i\/i ∈ fg s.kn):=λhh=>hn ((h1 i).2 (.inl hh))
     have hnb:i≠B+1:=λhh=>hn ((h1 i).2 (.inr (.inr hh)))
     rw [hr.same i hnb,hs.same i aa (λhh=>hh.elim hn' λhh=>by omega),VV.same i hnb,QA.block i hi]
   have frs:∀{s2:St},Fr (writes body) {s1 with w:=w2} s2->Fr (ps.toList++writes assign++writes body) s0 s2:=λ{s2} hh=>
    (hfrA.mono λi hi=>Ay _ (Ay _ hi)).trans (Fr.trans (b:={s1 with w:=w2}) (Fr.mono (W:=writes assign) (W':=ps.toList++writes assign++writes body) (b:={s1 with w:=w2}) ⟨k4.len,k4.slot,k4.kn,k4.df⟩ λi hi=>Ay _ (HU _ hi)) (hh.mono λi hi=>HU _ hi))
   have jump:∀(j:Option Nat)(s2:St),(iM body).contains j=true->s2.Ok->Fr (writes body) {s1 with w:=w2} s2->
     (∃F',c.enter s0 s2 (gH c.bt (X j F'))/\Step (λi=>(F i\/i ∈ fg s.kn)\/w.heap.size<=i) (λi=>F' i\/i ∈ fg s.kn) w2 s2.w)->
     ∃v w3,(Instr.endRound (B+1) (some (Dx j))).run P s2.w=.ok v w3/\((Ending.returned v=.returned (.bool true)/\∃F',JJ .ready none (I (m+1)) F' w3/\Step FF F' w w3)\/
      (Ending.returned v=.returned (.bool false)/\∃F',(∃j,(iM body).contains j=true/\JJ .done (some (Dx j)) (X j) F' w3)/\Step FF F' w w3)):=by
    rintro j s2 he l1 l4 ⟨F',hen2,lT⟩
    generalize hcd:Dx j=cd
    have hl3:s2.w.heap[B+1]? =some (.loop {rec .ready none with state:=.busy}):=by rw [lT.same _ aa nF];exact FQ
    have hd3:s2.w.heap[B]? =some (.deferred (some [])):=by rw [lT.same _ aa nD];exact QR
    have BH:=run_endRound (P:=P) (some cd) hl3
    have hrc:({({rec .ready none with state:=.busy}:Loop) with state:=if (some cd).isNone then .ready else .done,pending:=some cd}:Loop)=rec .done (some cd):=by rw [j3];rfl
    rw [hrc] at BH
    have MD:=Rec.putObj s2.w (B+1) (.loop (rec .done (some cd)))
    refine ⟨_,_,BH,.inr ⟨rfl,_,⟨j,he,?_⟩,Lj lT MD⟩⟩
    rw [hcd]
    have hok3:=pU l1 (λc t f e=>by rw [hl3] at e;cases e) MD
    have QJ:=lT.size
    have hbX':∀i,F' i->i<s2.w.heap.size/\i≠B/\i≠B+1:=by
     obtain ⟨us',g1,_⟩:=AR xC hok0 l1 (frs l4) hen2
     exact (dU g1 (hbX j F')).1 _ g1
    have hen3:c.enter s0 {s2 with w:=s2.w.putObj (B+1) (.loop (rec .done (some cd)))} (gH c.bt (X j F')):=by
     unfold Carry.enter at hen2 ⊢
     split at hen2
     ·rename_i Gj
      rw [show (c.Iu s0 {s2 with w:=s2.w.putObj (B+1) (.loop (rec .done (some cd)))} && c.okB {s2 with w:=s2.w.putObj (B+1) (.loop (rec .done (some cd)))})=true from Gj]
      rw [bn] at hen2 ⊢
      exact ⟨hen2.1,(dU hen2.2 (hsX j F')).1 _ _ hen2.2 (MD.below aa) λi hi=>MD.same i (hbX' i hi).2.2⟩
     ·exact hen2.elim
    refine mkJ (s':={s2 with w:=s2.w.putObj (B+1) (.loop (rec .done (some cd)))}) (W:=ps.toList++writes assign++writes body) hok3 ⟨(frs l4).len,(frs l4).slot,(frs l4).kn,(frs l4).df⟩ hen3 (World.putObj_heap_same aa) ?_
    rw [MD.same _ aa];exact hd3
   rintro e a3 w3 (⟨s2,l1,rfl,rfl,l4,l5⟩|⟨q,c',hq',-⟩)
   case inr=>rw [hpq] at hq';cases hq'
   cases e with
   |normal=>
    obtain ⟨F',hen2,lT⟩:=l5
    have lT:Step (λi=>(F i\/i ∈ fg s.kn)\/w.heap.size<=i) (λi=>F' i\/i ∈ fg s.kn) w2 s2.w:=lT
    have hl3:s2.w.heap[B+1]? =some (.loop {rec .ready none with state:=.busy}):=by rw [lT.same _ aa nF];exact FQ
    have hd3:s2.w.heap[B]? =some (.deferred (some [])):=by rw [lT.same _ aa nD];exact QR
    have BH:=run_endRound (P:=P) none hl3
    have hrc:({({rec .ready none with state:=.busy}:Loop) with state:=if (none:Option Code).isNone then .ready else .done,pending:=none}:Loop)=rec .ready none:=by rw [j3];rfl
    rw [hrc] at BH
    have MD:=Rec.putObj s2.w (B+1) (.loop (rec .ready none))
    refine ⟨_,_,BH,.inl ⟨rfl,_,?_,Lj lT MD⟩⟩
    have hok3:=pU l1 (λc t f e=>by rw [hl3] at e;cases e) MD
    have QJ:=lT.size
    have hbI':∀i,F' i->i<s2.w.heap.size/\i≠B/\i≠B+1:=by
     obtain ⟨us',g1,_⟩:=AR xC hok0 l1 (frs l4) hen2
     exact (dU g1 (hbI (m+1) F')).1 _ g1
    have hen3:c.enter s0 {s2 with w:=s2.w.putObj (B+1) (.loop (rec .ready none))} (gH c.bt (I (m+1) F')):=by
     unfold Carry.enter at hen2 ⊢
     split at hen2
     ·rename_i Gj
      rw [show (c.Iu s0 {s2 with w:=s2.w.putObj (B+1) (.loop (rec .ready none))} && c.okB {s2 with w:=s2.w.putObj (B+1) (.loop (rec .ready none))})=true from Gj]
      rw [bn] at hen2 ⊢
      exact ⟨hen2.1,(dU hen2.2 (hsI (m+1) F')).1 _ _ hen2.2 (MD.below aa) λi hi=>MD.same i (hbI' i hi).2.2⟩
     ·exact hen2.elim
    refine mkJ (s':={s2 with w:=s2.w.putObj (B+1) (.loop (rec .ready none))}) (W:=ps.toList++writes assign++writes body) hok3 ⟨(frs l4).len,(frs l4).slot,(frs l4).kn,(frs l4).df⟩ hen3 (World.putObj_heap_same aa) ?_
    rw [MD.same _ aa];exact hd3
   |ret=>exact jump none s2 l5.1 l1 l4 l5.2
   |exit id=>exact jump (some id) s2 l5.1 l1 l4 l5.2
   |goto t=>exact l5.elim
   |panic ch=>exact l5.elim
   |outgrown=>exact l5.elim
  |_=>exact k5.elim
def cW [PQ] (hP:vx P)(hm:P.follows .mixedOrders=true)(an:Vm){F:Fence}{nn:Nat}(hF:Wd F):∀(c:Code)(s:St)(Q:Exit->St->Prop),(F=Fence.wide\/iE c=true)->s.Ok->eQ P an c s Q->c.wpIn F nn P (lN (writes c) s Q) s.act s.w
 | .skip,s,Q,_,aU,h=>wpIn_skip (.inl ⟨s,aU,rfl,rfl,Fr.refl _ _,h⟩)
 | .region id ops draw,s,Q,_,aU,h=>by
   unfold eQ at h
   cases draw with
   |false=>
    refine wpIn_region ?_
    have he:List.range ops.size=List.range' 0 ops.toList.length:=by rw [List.range_eq_range'];simp
    rw [he];refine EX hF ops.toList 0 _ _ (λj hj=>by simp) ?_;exact uv hP ops.toList s (lN (writes (.region id ops false)) s Q) (Ts _ _ _) aU h λa w hp=> .inl hp
   |true=>
    simp only at h;split at h
    case h_2=>exact h.elim
    rename_i BG;refine wpIn_mono (wpIn_region_any (Q:=Qr (dstsOf ops.toList) s (Q .normal)) hm ?_) λe a w hq=> ?_
    ·refine Nl hF _ [] _ _ _ ?_;have gA:({s with w:=s.w.drew}:St).Ok:=⟨aU.bj,aU.ne,aU.jP⟩;refine lx hP BG (dstsOf ops.toList) s (λj o d h1 h2=> ?_) ops.size [] _ {s with w:=s.w.drew} gA ⟨rfl,λ_ _=>rfl,nJ.refl _,ax _,λ_=>rfl⟩ (λq hq=>by cases hq) h;exact List.mem_filterMap.2 ⟨o,by
      have:=Array.mem_of_getElem? h1;simpa using this,h2⟩
    ·cases e with
     |normal=>exact .inl hq
     |panic c=>obtain ⟨q,h1,h2,h3⟩:=hq;exact .inr ⟨q,c,h1,rfl,h2,h3⟩
     |_=>exact hq.elim
 | .seq x y,s,Q,QT,aU,h=>by
   unfold eQ at h;have hx:F=Fence.wide\/iE x=true:=QT.imp id λh=>by simp [iE] at h;exact h.1
   have hy:F=Fence.wide\/iE y=true:=QT.imp id λh=>by simp [iE] at h;exact h.2
   split at h
   ·refine wpIn_seq (wpIn_mono (cW (nn:=nn) hP hm an hF x s _ hx aU h) λe a w hp=> ?_)
    cases e with
    |normal=>
     obtain ⟨s',h1,rfl,rfl,h4,h5⟩:=hp.get cx;exact wpIn_mono (cW (nn:=nn) hP hm an hF y s' Q hy h1 h5) λe a w hp=>hp.of (h4.mono λi hi=>by simp [writes,hi]) λi hi=>by simp [writes,hi]
    |exit id=>exact hp.of (Fr.refl _ _) λi hi=>by simp [writes,hi]
    |goto l=>exact hp.of (Fr.refl _ _) λi hi=>by simp [writes,hi]
    |ret=>exact hp.of (Fr.refl _ _) λi hi=>by simp [writes,hi]
    |panic ch=>exact hp.of (Fr.refl _ _) λi hi=>by simp [writes,hi]
    |outgrown=>exact hp.of (Fr.refl _ _) λi hi=>by simp [writes,hi]
   ·rename_i c hc;obtain ⟨J,h1,h2⟩:=h;obtain ⟨q1,q2,q3,q4,q5⟩:=eG (c.jO.map λk=> .loc k 0) aU;have qa:=kx (l:=c.jO.map λk=> .loc k 0) aU;have qf:Fr (writes (x.seq y)) s (s.kill (c.jO.map λk=> .loc k 0)):=⟨by rw [q2],λi _=>by
     rw [q2];simp only [dh]
     cases hg:s.sl[i]? with
     |none=>rfl
     |some u=>exact q4.bE (aU.jP i u hg),q4,by rw [kZ];exact ⟨ax _,λ_=>rfl⟩⟩
    suffices hh:(x.seq y).wpIn F nn P (lN (writes (x.seq y)) (s.kill (c.jO.map λk=> .loc k 0)) Q) s.act s.w from wpIn_mono hh λe a w hp=>hp.of qf λi hi=>hi
    rw [<-qa,<-q3];generalize s.kill (c.jO.map λk=> .loc k 0)=s at*;have aU:=q1;refine wpIn_seq (wpIn_mono (cW (nn:=nn) hP hm an hF x s _ hx aU h1) λe a w hp=> ?_)
    cases e with
    |normal=>
     obtain ⟨s',k1,rfl,rfl,k4,k5⟩:=hp.get cx;obtain ⟨us,g1,g2,g3,g4⟩:=E0 aU k1 k4 k5;have hv:=(dU g1 (h2 us)).1 s'.w g1;have h6:=cW (nn:=nn) hP hm an hF y _ Q hy g2 hv;rw [g3] at h6;exact wpIn_mono h6 λe a w hp=>hp.of (g4.mono λi hi=>by simp [writes,hi]) λi hi=>by simp [writes,hi]
    |exit id=>exact hp.of (Fr.refl _ _) λi hi=>by simp [writes,hi]
    |goto l=>exact hp.of (Fr.refl _ _) λi hi=>by simp [writes,hi]
    |ret=>exact hp.of (Fr.refl _ _) λi hi=>by simp [writes,hi]
    |panic ch=>exact hp.of (Fr.refl _ _) λi hi=>by simp [writes,hi]
    |outgrown=>exact hp.of (Fr.refl _ _) λi hi=>by simp [writes,hi]
 | .cond c x y,s,Q,QT,aU,h=>by
   unfold eQ at h;have hx:F=Fence.wide\/iE x=true:=QT.imp id λh=>by simp [iE] at h;exact h.1
   have hy:F=Fence.wide\/iE y=true:=QT.imp id λh=>by simp [iE] at h;exact h.2
   split at h
   ·rename_i b hb;have hc:s.act.eval c=.bool b:=by rw [St.pq,CT hb];rfl
    refine wpIn_cond_split hc (λhb'=> ?_) (λhb'=> ?_)
    ·exact wpIn_mono (cW (nn:=nn) hP hm an hF x s Q hx aU (Br.tt h hb')) λe a w hp=>hp.of (Fr.refl _ _) λi hi=>by simp [writes,hi]
    ·exact wpIn_mono (cW (nn:=nn) hP hm an hF y s Q hy aU (Br.ff h hb')) λe a w hp=>hp.of (Fr.refl _ _) λi hi=>by simp [writes,hi]
   ·exact h.elim
 | .block id x,s,Q,hx,aU,h=>by
   unfold eQ at h;refine wpIn_block (wpIn_mono (cW (nn:=nn) hP hm an hF x s _ hx aU h) λe a w hp=> ?_)
   cases e with
   |exit id'=>
    show if id'=id then _ else _;obtain ⟨s',k1,k2,k3,k4,k5⟩:=hp.get cx;simp only at k5;split
    ·rename_i e;rw [if_pos e] at k5;exact .inl ⟨s',k1,k2,k3,k4,k5⟩
    ·rename_i e;rw [if_neg e] at k5;exact .inl ⟨s',k1,k2,k3,k4,k5⟩
   |_=>exact hp
 | .loop x,s,Q,hx,aU,h=>by
   unfold eQ at h;split at h
   ·exact h.elim
   rename_i c hc;obtain ⟨I,⟨n0,h0⟩,hround⟩:=h;obtain ⟨q1,q2,q3,q4,q5⟩:=eG (c.jO.map λk=> .loc k 0) aU;have qa:=kx (l:=c.jO.map λk=> .loc k 0) aU;have qf:Fr (writes (.loop x)) s (s.kill (c.jO.map λk=> .loc k 0)):=⟨by rw [q2],λi _=>by
    rw [q2];simp only [dh]
    cases hg:s.sl[i]? with
    |none=>rfl
    |some u=>exact q4.bE (aU.jP i u hg),q4,by rw [kZ];exact ⟨ax _,λ_=>rfl⟩⟩
   suffices hh:(Code.loop x).wpIn F nn P (lN (writes (.loop x)) (s.kill (c.jO.map λk=> .loc k 0)) Q) s.act s.w from wpIn_mono hh λe a w hp=>hp.of qf λi hi=>hi
   rw [<-qa,<-q3];generalize s.kill (c.jO.map λk=> .loc k 0)=s at*;have aU:=q1;refine ya (λn a w=>∃s',s'.Ok/\s'.act=a/\s'.w=w/\Fr (writes x) s s'/\c.enter s s' (gH c.bt (I n))) n0 ⟨s,aU,rfl,rfl,Fr.refl _ _,h0⟩ ?_;rintro n a w ⟨s',k1,rfl,rfl,k4,k5⟩;obtain ⟨us,g1,g2,g3,g4⟩:=E0 aU k1 k4 k5;have hv:=(dU g1 (hround n us)).1 s'.w g1;have h6:=cW (nn:=nn) hP hm an hF x _ _ hx g2 hv;rw [g3] at h6;refine wpIn_mono h6 λe a w hp=> ?_
   cases e with
   |normal=>
    obtain ⟨s'',l1,l2,l3,l4,m,fH,l5⟩:=hp.get cx;refine ⟨m,fH,s'',l1,l2,l3,g4.trans l4,?_⟩;exact l5
   |exit id=>exact hp.of g4 λi hi=>hi
   |goto l=>exact hp.of g4 λi hi=>hi
   |ret=>exact hp.of g4 λi hi=>hi
   |panic ch=>exact hp.of g4 λi hi=>hi
   |outgrown=>exact hp.of g4 λi hi=>hi
 | .exit id,s,Q,_,aU,h=>wpIn_exit (.inl ⟨s,aU,rfl,rfl,Fr.refl _ _,h⟩)
 | .ret,s,Q,_,aU,h=>wpIn_ret (.inl ⟨s,aU,rfl,rfl,Fr.refl _ _,h⟩)
 | .rangeFunc g ps assign body,s,Q,QT,aU,h=>by
   have hw:F=Fence.wide:=QT.resolve_right (by simp [iE]);subst hw;exact Tu hP aU (λl s Q h1 h2 h3=>cW hP hm an (Wd.round l) assign s Q (.inr h1) h2 h3) (λl s Q h1 h2 h3=>cW hP hm an (Wd.round l) body s Q (.inr h1) h2 h3) h
 | .scope x,s,Q,QT,aU,h=>by
   have hw:F=Fence.wide:=QT.resolve_right (by simp [iE]);subst hw;unfold eQ at h;refine wpIn_wide.2 (wp_scope_straight (wp_mono (wpIn_wide.1 (cW (nn:=0) hP hm an hF x s _ (.inl rfl) aU h)) λe a w hp=> ?_))
   cases e with
   |goto l=>obtain ⟨s',_,_,_,_,k5⟩:=hp.get cx;exact k5.elim
   |_=>exact hp
 | .label l,s,Q,_,aU,h=>wpIn_label (.inl ⟨s,aU,rfl,rfl,Fr.refl _ _,h⟩)
 | .goto _,_,_,_,_,h=>h.elim
 | .refuse _,_,_,_,_,h=>h.elim
end
def E1(P:Program)(s:St)(t:TypeId)(x:SV)(K:Value->Prop):Prop:=
 match x with
 | .loc k off=>match s.known k with
   |some kb=>match nI P t with
    | .sc _=>match kb.cells[off]? with|some v=>K v|none=>False
    | .agg l=>if l.length=eY P t/\off+l.length<=kb.cells.length then K (.agg ((kb.cells.drop off).take l.length).toArray) else False
   |none=>CV P s.w (some ⟨(s.kn.getD k default).idx,off,none⟩) t K
 | .val (.pointer p)=>CV P s.w p t K
 |_=>False
def ov(P:Program)(s:St):List ResultVar->(List Value->Prop)->Prop
 | [],F=>F []
 | .tmp t::r,F=>ov P s r λvs=>F ((s.sl.getD t (.val undef)).bE s.kn::vs)
 | .cell a t::r,F=>match okT P t with
   |true=>E1 P s t (s.sl.getD a (.val undef)) λv=>ov P s r λvs=>F (v::vs)
   |false=>False
def Nt:List Value->Value
 | [v]=>v
 |vs=> .tuple vs.toArray
def v8:List Nat->World->(World->Prop)->Prop
 | [],w,K=>K w
 |D::r,w,K=>w.heap[D]? =some (.deferred (some []))/\∀w',Rec D w w'->v8 r w' K
def ahC(P:Program)(fn:Func)(R:Ending->World->Prop):Exit->St->Prop
 | .normal,s| .ret,s=>v8 s.df s.w λw'=>ov P {s with w:=w'} fn.results.toList λvs=>R (.returned (Nt vs)) w'
 |_,_=>False
def sy(fn:Func)(args:List Value)(w:World):St:=
 {sl:=args.map .val++List.replicate (fn.ntmps-args.length) (.val undef),w:=w,kn:=[]}
def Tv [PQ] (P:Program)(an:Vm)(fn:Func)(args:List Value)(w:World)(R:Ending->World->Prop):Prop:=
 match fn.body with
 |some c=>eQ P an c (sy fn args w) (ahC P fn R)
 |none=>False
section
variable {P:Program} {s:St}
def IA{t:TypeId}{x:SV}{K:Value->Prop}(aU:s.Ok)(hu:(P.underlying t).isSome=true)(h:E1 P s t x K):
  ∃a v,x.bE s.kn=.pointer (some a)/\K v/\(loadVar t a).run P s.w=.ok v s.w:=by
 have h':zl P {s with sl:=[.val undef]} (some 0) t x (λs'=>K ((s'.sl.getD 0 (.val undef)).bE s'.kn)):=by unfold E1 at h;unfold zl;exact h
 have gA:({s with sl:=[.val undef]}:St).Ok:=⟨aU.bj,aU.ne,λi v hv=>by
  cases i with
  |zero=>simp at hv;subst hv;trivial
  |succ i=>simp at hv⟩
 obtain ⟨a,v,h1,h2,h3⟩:=zo gA hu h';refine ⟨a,v,h1,h2,?_⟩;simpa [Instr.loadAt,Instr.sureAddr] using h3
def E2(tmps:Array Value):ResultVar->Sem Value
 | .tmp t=>pure (tmps.getD t undef)
 | .cell a t=>do loadVar t (<-asAddr (tmps.getD a undef))
def qd(aU:s.Ok):∀(l:List ResultVar)(F:List Value->Prop),ov P s l F->
  ∃vs,F vs/\(l.mapM (E2 s.act.tmps)).run P s.w=.ok vs s.w
 | [],F,h=>⟨[],h,rfl⟩
 | .tmp t::r,F,h=>by
   obtain ⟨vs,h1,h2⟩:=qd aU r _ h
   refine ⟨_,h1,?_⟩
   have:s.act.tmps.getD t undef=(s.sl.getD t (.val undef)).bE s.kn:=s.pq (.tmp t)
   simp only [List.mapM_cons,Sem.run_bind,E2,Sem.run_pure,Result.andThen_ok,h2,this]
 | .cell a t::r,F,h=>by
   unfold ov at h
   split at h
   ·rename_i hu
    obtain ⟨ad,v,e1,e2,e3⟩:=IA aU (pZ hu) h
    obtain ⟨vs,h1,h2⟩:=qd aU r _ e2
    refine ⟨_,h1,?_⟩
    have:s.act.tmps.getD a undef=.pointer (some ad):=(s.pq (.tmp a)).trans e1
    simp only [List.mapM_cons,Sem.run_bind,E2,this,asAddr,Sem.run_pure,Result.andThen_ok,e3,h2]
   ·exact h.elim
def IB(aU:s.Ok){fn:Func}{F:List Value->Prop}(h:ov P s fn.results.toList F):
  ∃vs,F vs/\(results fn s.act.tmps).run P s.w=.ok (Nt vs) s.w:=by
 obtain ⟨vs,h1,h2⟩:=qd aU _ _ h;refine ⟨vs,h1,?_⟩;have:results fn s.act.tmps=(do let vs <-fn.results.mapM (E2 s.act.tmps);pure (if h:vs.size=1 then vs[0] else .tuple vs)):=by unfold results;congr 1
 rw [this,Array.mapM_eq_mapM_toList];simp only [Sem.run_bind,Sem.run_map,h2,Result.andThen_ok,Sem.run_pure];congr 1
 cases vs with
 |nil=>rfl
 |cons v r=>cases r<;>simp [Nt]
end
section
variable {P:Program}
def PH(fn:Func)(args:List Value)(w:World):(sy fn args w).Ok:=
 ⟨λk kb h=>by simp [sy] at h,λi j x y h=>by simp [sy] at h,λi v h=>by
  simp only [sy,List.getElem?_append,aV,Ng] at h;split at h
  ·cases ha:args[i]? with
   |none=>simp [ha] at h
   |some x=>simp [ha] at h;subst h;trivial
  ·split at h
   ·simp at h;subst h;trivial
   ·cases h⟩
def ow{fn:Func}{R:Ending->World->Prop}:∀(l:List Nat)(s:St),s.Ok->v8 l s.w (λw'=>ov P {s with w:=w'} fn.results.toList λvs=>R (.returned (Nt vs)) w')->
  LeavesInM Fence.wide 0 P fn s.act.tmps R (marks l) .returning s.w
 | [],s,aU,h=>by
   obtain ⟨vs,h1,h2⟩:=IB aU h
   exact ⟨_,h2,h1⟩
 |D::r,s,aU,h=>by
  obtain ⟨hD,h⟩:=h
  refine ⟨by simp,.inl ⟨D,s.w.putObj D (.deferred none),rfl,run_takeDeferred hD,?_⟩⟩
  have hr:=Rec.putObj s.w D (.deferred none)
  have gA:=pU aU (λc t f e=>by rw [hD] at e;cases e) hr
  exact ow r {s with w:=s.w.putObj D (.deferred none)} gA (h _ hr)
def E3 [PQ] (hP:vx P)(hm:P.follows .mixedOrders=true){f:FuncId}{fn:Func}{an:Vm}{args:List Value}{w:World}{R:Ending->World->Prop}(hR:∀q,PQ.q=some q->∀c w,q c w->R (.panicked c) w)(hf:P.funcs[f]? =some fn)
  (h:Tv P an fn args w R):Calls P f args.toArray w R:=by
 unfold Tv at h;split at h
 case h_2=>exact h.elim
 rename_i c hc;have h1:=cW (nn:=0) hP hm an Wd.out c _ _ (.inl rfl) (PH fn args w) h;refine callsIn_wide.1 (callsIn_of_wp_marks (n:=0) hf hc trivial ?_);have akL:(sy fn args w).act={tmps:=args.toArray++Array.replicate (fn.ntmps-args.toArray.size) undef,defers:=[]}:=by simp only [St.act,sy];congr 1;apply Array.ext';simp [SV.bE];rw [show (SV.bE [] ∘ SV.val)=id from rfl];simp
 rw [akL] at h1;refine wpIn_mono h1 λe a w' hp=> ?_
 rcases hp with ⟨s',k1,rfl,rfl,k4,k5⟩|⟨q,c,hq,rfl,hd,hc⟩
 case inr=>
  have:=hR q hq c _ hc;show LeavesInM _ _ _ _ _ _ _ _ _;rw [hd];exact this
 cases e with
 |normal=>exact ow s'.df s' k1 k5
 |ret=>exact ow s'.df s' k1 k5
 |_=>exact k5.elim
def Z1(P:Program)(an:Vm)(fn:Func)(args:List Value)(w:World)(R:Ending->World->Prop):Prop:= @Tv ⟨none⟩ P an fn args w R
def Ig(hP:vx P)(hm:P.follows .mixedOrders=true){f:FuncId}{fn:Func}{an:Vm}{args:List Value}{w:World}{R:Ending->World->Prop}(hf:P.funcs[f]? =some fn)
  (h:Z1 P an fn args w R):Calls P f args.toArray w R:= @E3 P ⟨none⟩ hP hm f fn an args w R (λ_ hq=>by cases hq) hf h
end
end Go.Vc
