import Derived.Test.YtkkkfkopcfdmaaaGreatDoorA
set_option linter.all false
namespace Go
open Go.RowKit
def Oper.WU(P:Program)(o:Oper)(a:Act)(w:World)(next:Act->World->Prop)(Q:Exit->Act->World->Prop):Prop:=
 (∀c,o.op≠ .defer c)/\o.uponIn Fence.wide 0 P a next Q ((execOp a.eval o).run P w)
theorem Oper.qw{P:Program}{o:Oper}{a:Act}{w:World}{Q:Exit->Act->World->Prop}{K K':Act->World->Prop}(h:∀a w,K a w->K' a w)(hh:o.WU P a w K Q):o.WU P a w K' Q:=by
 refine ⟨hh.1,?_⟩;have hh:=hh.2;generalize (execOp a.eval o).run P w=r at*
 cases r with
 |ok x w'=>
  cases x<;>simp only [Oper.uponIn] at hh ⊢<;>
   first
    |exact h _ _ hh
    |exact ⟨hh.1,CallsIn.mono hh.2 (λe w'' he=>by cases e<;>first|exact h _ _ he|exact he)⟩
    |exact ⟨hh.1,RowsIn.mono hh.2 (λ_ _ he=>h _ _ he)⟩
    |exact ⟨hh.1,RoundIn.mono hh.2 (λe w'' he=>by cases e<;>first|exact h _ _ he|exact he)⟩
 |halt x w'=>cases x<;>simp only [Oper.uponIn] at hh ⊢<;>exact hh
end Go
namespace Go.Vc
open Go Go.RowKit
section
variable {P:Program} {s:St} {o:Oper} {K:St->Prop} {Q:Exit->Act->World->Prop}
def BX(P:Program):Prop:=∀(f:FuncId) fn,P.funcs[f]? =some fn->fn.name≠ "runtime.NumGoroutine"
def uk(P:Program)(f:FuncId):Bool:=match P.funcs[f]? with|some fn=>(match fn.body with|some _=>true|none=>false)|none=>false
def ags(P:Program)(l:Nat)(args:List Value)(w:World)(R:Ending->World->Prop):Prop:=
 ∃fn tmps assign body,(Instr.yield l args.toArray).run P w=.ok (.round l fn tmps assign body) w/\RoundIn Fence.wide 0 P l fn tmps assign body w R
def ajJ(P:Program)(f:FuncId)(e:Array Value->Sem Value):Prop:=
 ∃fn,P.funcs[f]? =some fn/\fn.body.isNone=true/\Extern.findNext fn=none/\Extern.find fn=some e
def X3(P:Program)(f:FuncId)(args:List Value)(w:World)(R:Ending->World->Prop):Prop:=
 ∃e,ajJ P f e/\∃v w',(e args.toArray).run P w=.ok v w'/\R (.returned v) w'
def cr(P:Program)(fv:Value)(args:List Value)(w:World)(R:Ending->World->Prop):Prop:=
 match fv with
 | .func (.func f) first cap=>match uk P f with
   |true=>Calls P f (first.toList++args++cap.toList).toArray w R
   |false=>X3 P f (first.toList++args++cap.toList) w R
 | .func (.yield l) first cap=>(first= #[]/\cap= #[])/\ags P l args w R
 |_=>False
def aoT(P:Program)(t:TypeId):T2:=
 match P.underlying t with
 |some (.tuple ts)=> .tup (ts.toList.map (sr P))
 |_=> .one (sr P t)
def ED(P:Program)(s:St)(d:Option Tmp)(ty:TypeId)(fv:Value)(args:List SV)(K:St->Prop):Prop:=
 cr P fv (args.map (SV.bY s.kn)) s.w λe w'=>(aoT P ty).ex λv=>e=.returned v/\
  aP (De (s.kill args).kn s.w w') (K ({s.kill args with w:=w'}.put d (.val v)))
theorem ac0{dst:Option Tmp}{ty:TypeId}{pos:String}{after:Array Edge}{guard:Option (Nat × Bool)}{x:Operand}{args:Array Operand}{ats:Array TypeId}(hP:BX P)(bt:s.Ok)
  (hny:∀l f c,s.ev x≠ .func (.yield l) f c)(h:ED P s dst ty (s.ev x) (args.toList.map s.sv) K):
  (Oper.mk dst (.call ⟨.value x,args,ats⟩) ty pos after guard).wp P s.act s.w (iu dst s K) Q:=by
 unfold ED cr at h;split at h
 ·rename_i f first cap hx;split at h
  ·rename_i hb;unfold uk at hb;split at hb
   ·rename_i fn hf;split at hb
    ·rename_i body hbody;have tQ:(execOp s.ev (Oper.mk dst (.call ⟨.value x,args,ats⟩) ty pos after guard)).run P s.w=.ok (.enter f (first++args.map s.ev++cap)) s.w:=by have hn:=hP f fn hf;simp only [execOp,resolve,Deferred.ofValue,hx,invoke,callFunc,Sem.run_bind,Sem.run_pure,Result.andThen_ok];simp [program,Sem.run,hf,hn,hbody]
     unfold Oper.wp;rw [St.eval_eq,tQ,Oper.upon_enter];have abf:(first.toList++(args.toList.map s.sv|>.map (SV.bY s.kn))++cap.toList).toArray=first++args.map s.ev++cap:=by apply Array.ext';simp [St.ev]
     rw [abf] at h;refine h.mono λe w' hr=> ?_
     obtain ⟨v,he,h1⟩:=T2.kL hr;subst he;rw [bE] at h1;obtain ⟨k1,k2,k3,k4,k5⟩:=fb (args.toList.map s.sv) bt;have l8:=lL k1 (w':=w') (by rw [k3];exact h1.1);exact jF h1.2 bt l8 k2 k4 trivial rfl rfl
    ·cases hb
   ·cases hb
  ·obtain ⟨e,⟨fn,hf,hb,Ki,SY⟩,v,w',tQ,hr⟩:=h;have hname:=hP f fn hf;have abf:(first.toList++(args.toList.map s.sv|>.map (SV.bY s.kn))++cap.toList).toArray=first++args.map s.ev++cap:=by apply Array.ext';simp [St.ev]
   rw [abf] at tQ;have hex:=run_callFunc_extern hf (by simpa using hname) hb Ki SY (first++args.map s.ev++cap) s.w;rw [tQ] at hex;have hgo:(execOp s.ev (Oper.mk dst (.call ⟨.value x,args,ats⟩) ty pos after guard)).run P s.w=.ok (.value v) w':=by simp only [execOp,resolve,Deferred.ofValue,hx,invoke,Sem.run_bind,Sem.run_pure,Result.andThen_ok];exact hex
   unfold Oper.wp;rw [St.eval_eq,hgo];obtain ⟨v',he,h1⟩:=T2.kL hr
   cases he
   rw [bE] at h1;obtain ⟨k1,k2,k3,k4,k5⟩:=fb (args.toList.map s.sv) bt;have l8:=lL k1 (w':=w') (by rw [k3];exact h1.1);exact jF (v:=.val v) h1.2 bt l8 k2 k4 trivial rfl rfl
 ·rename_i l f c hx;exact absurd hx (hny l f c)
 ·cases h
theorem rA{n:Nat}(h:Fence.wide.depth.isSome=true):1<=n:=by simp [Fence.wide] at h
inductive Wd:Fence->Prop
 |out:Wd Fence.wide
 |round (l:Nat):Wd (Fence.wide.inRound l)
theorem Wd.fn{F:Fence}(h:Wd F)(f:FuncId):F.fn f:=by cases h<;>trivial
theorem Wd.depth{F:Fence}(h:Wd F):F.depth=none:=by cases h<;>rfl
theorem Wd.calls{F:Fence}(h:Wd F){n:Nat}{f:FuncId}{args:Array Value}{w:World}{R:Ending->World->Prop}:CallsIn F n P f args w R ↔ Calls P f args w R:=by
 cases h with
 |out=>exact callsIn_wide
 |round l=>exact callsIn_wide
theorem Wd.ac1{F:Fence}(h:Wd F){n:Nat}{l:Nat}{f:FuncId}{tmps:Array Value}{assign body:Code}{w:World}{R:Ending->World->Prop}(hr:RoundIn Fence.wide 0 P l f tmps assign body w R):
  RoundIn F n P l f tmps assign body w R:=by
 cases h with
 |out=>exact ⟨trivial,λc cs _=>hr.2 c cs (room_wide _)⟩
 |round l'=>exact ⟨trivial,λc cs _=>hr.2 c cs (room_wide _)⟩
theorem Wd.agt{F:Fence}(h:Wd F){n:Nat}{row:String}{args:Array Value}{w:World}{R:Value->World->Prop}(hr:RowsIn Fence.wide 0 P row args w R):
  RowsIn F n P row args w R:=by
 cases h with
 |out=>exact λc cs _=>hr c cs (room_wide _)
 |round l'=>exact λc cs _=>hr c cs (room_wide _)
theorem U1{o:Oper}{a:Act}{w:World}{Q:Exit->Act->World->Prop}{K:Act->World->Prop}(hd:∀c,o.op≠ .defer c)(hh:o.wp P a w K Q):o.WU P a w K Q:=by
 refine ⟨hd,?_⟩;unfold Oper.wp at hh;generalize (execOp a.eval o).run P w=r at*
 cases r with
 |ok x w'=>
  cases x<;>simp only [Oper.upon,Oper.uponIn] at hh ⊢<;>
   first
    |exact hh
    |exact ⟨rA,callsIn_wide.2 hh⟩
    |exact ⟨rA,λc cs _=>by
     obtain ⟨v,w',h1,h2⟩:=hh c cs;exact ⟨v,w',h1,stepsIn_wide.2 h2⟩⟩
 |halt x w'=>cases x<;>simp only [Oper.upon,Oper.uponIn] at hh ⊢<;>exact hh
theorem By{F:Fence}{n:Nat}(hF:Wd F){o:Oper}{a:Act}{w:World}{Q:Exit->Act->World->Prop}{K:Act->World->Prop}(hh:o.WU P a w K Q):o.wpIn F n P a w K Q:=by
 refine ⟨λf _=>hF.fn f,?_⟩;rw [Oper.semAt_eq _ _ _ hh.1];have hh:=hh.2;have hd:F.depth.isSome=true->1<=n:=λh=>by rw [hF.depth] at h;cases h
 generalize (execOp a.eval o).run P w=r at*
 cases r with
 |ok x w'=>
  cases x<;>simp only [Oper.uponIn] at hh ⊢<;>
   first
    |exact hh
    |exact ⟨hd,hF.calls.2 (callsIn_wide.1 hh.2)⟩
    |exact ⟨hd,hF.agt hh.2⟩
    |exact ⟨hd,hF.ac1 hh.2⟩
 |halt x w'=>cases x<;>simp only [Oper.uponIn] at hh ⊢<;>exact hh
theorem U2{dst:Option Tmp}{ty:TypeId}{pos:String}{after:Array Edge}{guard:Option (Nat × Bool)}{x:Operand}{args:Array Operand}{ats:Array TypeId}(bt:s.Ok)
  {l:Nat}{f c:Array Value}(hx:s.ev x=.func (.yield l) f c)(h:ED P s dst ty (s.ev x) (args.toList.map s.sv) K):
  (Oper.mk dst (.call ⟨.value x,args,ats⟩) ty pos after guard).WU P s.act s.w (iu dst s K) Q:=by
 refine ⟨λc h=>(by cases h),?_⟩;rw [hx] at h;unfold ED cr at h;obtain ⟨⟨rfl,rfl⟩,fn,tmps,assign,body,hy,hr⟩:=h;have tQ:(execOp s.ev (Oper.mk dst (.call ⟨.value x,args,ats⟩) ty pos after guard)).run P s.w=.ok (.round l fn tmps assign body) s.w:=by
  have ha:args.map s.ev=((args.toList.map s.sv).map (SV.bY s.kn)).toArray:=by apply Array.ext';simp [St.ev]
  simp only [execOp,resolve,Deferred.ofValue,hx,invoke,Sem.run_bind,Sem.run_pure,Result.andThen_ok];rw [ha];simpa using hy
 rw [St.eval_eq,tQ,Oper.uponIn_round];refine ⟨rA,hr.mono λe w' hr=> ?_⟩;obtain ⟨v,he,h1⟩:=T2.kL hr;subst he;rw [bE] at h1;obtain ⟨k1,k2,k3,k4,k5⟩:=fb (args.toList.map s.sv) bt;have l8:=lL k1 (w':=w') (by rw [k3];exact h1.1);exact jF h1.2 bt l8 k2 k4 trivial rfl rfl
structure Rec(l:Nat)(w w':World):Prop where
 same:∀i,i≠l->w'.heap[i]? =w.heap[i]?
 size:w'.heap.size=w.heap.size
 os:w'.os=w.os
 tape:w'.tape=w.tape
 output:w'.output=w.output
theorem Rec.below{l:Nat}{w w':World}(h:Rec l w w'){B:Nat}(hB:B<=l):Below B w w':=⟨h.os,h.tape,h.output,Nat.le_of_eq h.size.symm,λk hk=>h.same k ab⟩
theorem Rec.putObj(w:World)(l:Nat)(o:Obj):Rec l w (w.putObj l o):=⟨λi hi=>World.putObj_heap_other hi,by simp,rfl,rfl,rfl⟩
section
variable {P:Program} {s:St} {K:St->Prop}
theorem wu{s:St}{D:Nat}{w':World}(bt:s.Ok)(hD:∀c t f,s.w.heap[D]?≠some (.cells c t f))(h:Rec D s.w w'):({s with w:=w'}:St).Ok:=by refine ⟨λk kb h1 h2=> ?_,bt.ne,bt.lI⟩;have:=bt.aX k kb h1 h2;rw [<-this];exact h.same _ λe=>hD _ _ _ (e▸this)
structure iF(P:Program)(kt:TypeId)(G:Value->Prop):Prop where
 eq:∀x y,G x->G y->∃b,eqV P 20 kt x y=some b/\(b=true ↔ x=y)
 check:∀x,G x->∀b w,(Instr.checkKey b 10000 kt x).run P w=.ok () w
 bits:∀x,G x->Instr.sameBits 10000 x x=true
def cl(G:Value->Prop)(w:World)(m:Option Nat)(kvs:List (Value × Value)):Prop:=
 match m with
 |none=>kvs=[]
 |some r=>∃es clock,w.heap[r]? =some (.map es clock)/\es.toList.map (λe=>(e.key,e.val))=kvs/\(∀e ∈ kvs,G e.1)/\(kvs.map (·.1)).Nodup/\
  (es.toList.map (·.born)).Pairwise (·<·)/\∀e ∈ es.toList,e.born<clock
def Gi(kvs:List (Value × Value))(k z v:Value)(b:Bool):Prop:=
 (b=true/\(k,v) ∈ kvs)\/(b=false/\v=z/\∀e ∈ kvs,e.1≠k)
open Classical in
noncomputable def vQ(kvs:List (Value × Value))(k v:Value):List (Value × Value):=
 if ∃e ∈ kvs,e.1=k then kvs.map (λe=>if e.1=k then (e.1,v) else e) else kvs++ [(k,v)]
open Classical in
noncomputable def EB(kvs:List (Value × Value))(k:Value):List (Value × Value):=kvs.filter λe=>¬e.1=k
theorem YX(a b:ByteArray):(a==b)=true ↔ a=b:=by
 cases a;cases b
 show ByteArray.beq _ _=true ↔ _;simp [ByteArray.beq]
theorem yp{d:TypeDesc}{x y:Value}{b:Bool}(h:Instr.sameNow d x y=some b):b=true ↔ x=y:=by
 unfold Instr.sameNow at h;split at h
 ·split at h
  ·rename_i e;subst e;cases h;simp
  ·cases h
 ·cases h;simp only [Value.string.injEq];exact YX _ _
 ·cases h;simp
 ·cases h
theorem findNow_spec{d:TypeDesc}{k:Value}:∀(es:List MapEntry)(i:Nat)(r:Option (Nat × Value)),Instr.findNow d k es i=some r->
  match r with
  |none=>∀e ∈ es,e.key≠k
  |some (j,v)=>∃m e,j=i+m/\es[m]? =some e/\e.key=k/\e.val=v
 | [],i,r,h=>by unfold Instr.findNow at h;cases h;simp
 |e::es,i,r,h=>by
  unfold Instr.findNow at h
  split at h
  ·rename_i hs
   cases h
   exact ⟨0,e,rfl,rfl,((yp hs).1 rfl).symm,rfl⟩
  ·rename_i hs
   have ih:=findNow_spec es (i+1) r h
   have iM:e.key≠k:=λe=>by have:=(yp hs).2 e.symm;cases this
   cases r with
   |none=>
    intro e' he'
    rcases cB.1 he' with rfl|he'
    ·exact iM
    ·exact ih e' he'
   |some p=>
    obtain ⟨m,e',h1,h2,h3,h4⟩:=ih
    exact ⟨m+1,e',by omega,by simpa using h2,h3,h4⟩
  ·cases h
theorem tE{kt:TypeId}{G:Value->Prop}(hk:iF P kt G){k:Value}(hkG:G k):∀(es:List MapEntry)(i:Nat)(w:World),(∀e ∈ es,G e.key)->
  ∃r,(Instr.findAsking kt k es i).run P w=.ok r w/\match r with
  |none=>∀e ∈ es,e.key≠k
  |some (j,v)=>∃m e,j=i+m/\es[m]? =some e/\e.key=k/\e.val=v
 | [],i,w,_=>⟨none,rfl,by simp⟩
 |e::es,i,w,hG=>by
  obtain ⟨b,h1,h2⟩:=hk.eq k e.key hkG (hG e (.head _))
  have h3:(Op.equal kt k e.key).run P w=.ok b w:=kM (Is 20 kt _ _ _ h1 _ ab w)
  cases b with
  |true=>exact ⟨some (i,e.val),by unfold Instr.findAsking;rw [Sem.run_bind,h3];rfl,0,e,rfl,rfl,(h2.1 rfl).symm,rfl⟩
  |false=>
   obtain ⟨r,g1,g2⟩:=tE hk hkG es (i+1) w λe he=>hG e (.tail _ he)
   have iM:e.key≠k:=λe=>by have:=h2.2 e.symm;cases this
   refine ⟨r,by unfold Instr.findAsking;rw [Sem.run_bind,h3];exact g1,?_⟩
   cases r with
   |none=>
    intro e' he'
    rcases cB.1 he' with rfl|he'
    ·exact iM
    ·exact g2 e' he'
   |some p=>
    obtain ⟨m,e',h1,h2,h3,h4⟩:=g2
    exact ⟨m+1,e',by omega,by simpa using h2,h3,h4⟩
theorem tF{kt:TypeId}{G:Value->Prop}(hk:iF P kt G)(hu:(P.underlying kt).isSome=true){k:Value}(hkG:G k)(es:List MapEntry)(w:World)(hG:∀e ∈ es,G e.key):
  ∃r,(Instr.findKey kt k es).run P w=.ok r w/\match r with
  |none=>∀e ∈ es,e.key≠k
  |some (j,v)=>∃e,es[j]? =some e/\e.key=k/\e.val=v:=by
 obtain ⟨d,hd⟩:=nH.1 hu;have key:∃r,(Instr.findKey kt k es).run P w=.ok r w/\match r with
  |none=>∀e ∈ es,e.key≠k
  |some (j,v)=>∃m e,j=0+m/\es[m]? =some e/\e.key=k/\e.val=v:=by
  unfold Instr.findKey;simp only [Sem.run_bind,aG,hd,Result.andThen_ok]
  cases hf:Instr.findNow d k es 0 with
  |some r=>exact ⟨r,rfl,findNow_spec es 0 r hf⟩
  |none=>exact tE hk hkG es 0 w hG
 obtain ⟨r,h1,h2⟩:=key;refine ⟨r,h1,?_⟩
 cases r with
 |none=>exact h2
 |some p=>
  obtain ⟨m,e,g1,g2,g3,g4⟩:=h2;exact ⟨e,by rw [g1,ep];exact g2,g3,g4⟩
theorem oh{r:Nat}{es:Array MapEntry}{c:Nat}{w:World}(h:w.heap[r]? =some (.map es c)):(getObj r).run P w=.ok (.map es c) w:=by simp [getObj,Sem.run,h]
theorem rC{r:Nat}{es es':Array MapEntry}{c c':Nat}{w:World}(h:w.heap[r]? =some (.map es c)):(setObj r (.map es' c')).run P w=.ok () (w.putObj r (.map es' c')):=by simp [setObj,Sem.run,h,World.putObj]
theorem Az{α β:Type}{f:α->β}:∀{l:List α} {x y:α},(l.map f).Nodup->x ∈ l->y ∈ l->f x=f y->x=y
 | [],_,_,_,h,_,_=>by cases h
 |a::l,x,y,hn,hx,hy,e=>by
  rw [eP,List.nodup_cons] at hn
  rcases cB.1 hx with rfl|hx
  ·rcases cB.1 hy with e2|hy
   ·exact e2.symm
   ·exact absurd (aZ.2 ⟨y,hy,e.symm⟩) hn.1
  ·rcases cB.1 hy with e2|hy
   ·rw [e2] at e
    exact absurd (aZ.2 ⟨x,hx,e⟩) hn.1
   ·exact Az hn.2 hx hy e
def tG(P:Program)(t:TypeId):Option (TypeId × TypeId × Value):=match P.underlying t with
 |some (.map kt et)=>if (P.underlying kt).isSome &&(P.underlying et).isSome then ((P.info? et).bind (·.zero)).map λz=>(kt,et,z) else none
 |_=>none
theorem om{t kt et:TypeId}{z:Value}(h:tG P t=some (kt,et,z)):P.underlying t=some (.map kt et)/\(P.underlying kt).isSome=true/\(P.underlying et).isSome=true/\∀w,(zeroValue et).run P w=.ok z w:=by
 unfold tG at h;split at h
 ·rename_i kt' et' hu;split at h
  ·rename_i hb;rw [fm] at hb
   cases hi:P.info? et' with
   |none=>simp [hi] at h
   |some i=>
    cases hz:i.zero with
    |none=>simp [hi,hz] at h
    |some z'=>
     simp [hi,hz] at h;obtain ⟨rfl,rfl,rfl⟩:=h;exact ⟨hu,hb.1,hb.2,λw=>by simp [zeroValue,dW,hi,hz]⟩
  ·cases h
 ·cases h
theorem nc{kt:TypeId}{G:Value->Prop}(hk:iF P kt G){k:Value}(h:G k)(b:Bool)(w:World):(Instr.checkKey b 10000 kt k).run P w=.ok () w:=hk.check k h b w
theorem HO{kt:TypeId}{z k:Value}{G:Value->Prop}{kvs:List (Value × Value)}{w:World}(hk:iF P kt G)(hu:(P.underlying kt).isSome=true)(hkG:G k){es:List MapEntry}
  (he:es.map (λe=>(e.key,e.val))=kvs)(hG:∀e ∈ kvs,G e.1)(hnd:(kvs.map (·.1)).Nodup){v:Value}{b:Bool}(hl:Gi kvs k z v b):
  ∃r,(Instr.findKey kt k es).run P w=.ok r w/\((r=none/\b=false/\v=z)\/∃j,r=some (j,v)/\b=true):=by
 have hGe:∀e ∈ es,G e.key:=λe hm=>hG (e.key,e.val) (by rw [<-he];exact aZ.2 ⟨e,hm,rfl⟩)
 obtain ⟨rr,g1,g2⟩:=tF hk hu hkG es w hGe;refine ⟨rr,g1,?_⟩
 cases rr with
 |none=>
  rcases hl with ⟨rfl,mg⟩|⟨rfl,rfl,_⟩
  ·rw [<-he] at mg;obtain ⟨e,he1,he2⟩:=aZ.1 mg;exact absurd (congrArg Prod.fst he2) (g2 e he1)
  ·exact .inl ⟨rfl,rfl,rfl⟩
 |some p=>
  obtain ⟨j,v'⟩:=p;obtain ⟨e,g3,g4,g5⟩:=g2;have hme:e ∈ es:=bg g3;rcases hl with ⟨rfl,mg⟩|⟨rfl,rfl,mF⟩
  ·rw [<-he] at mg;obtain ⟨e',he1,he2⟩:=aZ.1 mg;have hkk:e'.key=e.key:=(congrArg Prod.fst he2).trans g4.symm;have hv:e'.val=v:=congrArg Prod.snd he2;have:e'=e:=by rw [<-he,List.map_map] at hnd;exact Az hnd he1 hme hkk
   subst this;rw [hv] at g5;subst g5;exact .inr ⟨j,rfl,rfl⟩
  ·exact absurd g4 (mF (e.key,e.val) (by rw [<-he];exact aZ.2 ⟨e,hme,rfl⟩))
theorem Qi{t kt et:TypeId}{z k:Value}{G:Value->Prop}{r:Option Nat}{kvs:List (Value × Value)}{w:World}(ht:tG P t=some (kt,et,z))(hk:iF P kt G)(hm:cl G w r kvs)(hkG:G k)(ok:Bool){v:Value}{b:Bool}
  (hl:Gi kvs k z v b):(Instr.lookup t (.map r) k ok).run P w=.ok (if ok then .tuple #[v,.bool b] else v) w:=by
 obtain ⟨h1,h2,h3,h4⟩:=om ht;unfold Instr.lookup;simp only [Sem.run_bind,aG,h1,Result.andThen_ok]
 cases r with
 |none=>
  have hkv:kvs=[]:=hm;obtain ⟨rr,g1,g2⟩:=HO (es:=[]) (w:=w) hk h2 hkG hkv.symm (by rw [hkv];simp) (by rw [hkv];simp) hl;simp only [Sem.run_bind,Sem.run_pure,Result.andThen_ok,nc hk hkG];rw [g1];rcases g2 with ⟨rfl,rfl,rfl⟩|⟨j,rfl,rfl⟩<;>simp [h4]
 |some r=>
  obtain ⟨es,clock,e1,e2,e3,e4,_⟩:=hm;obtain ⟨rr,g1,g2⟩:=HO (es:=es.toList) (w:=w) hk h2 hkG e2 e3 e4 hl;simp only [Sem.run_bind,oh e1,Result.andThen_ok,Sem.run_pure,nc hk hkG,g1];rcases g2 with ⟨rfl,rfl,rfl⟩|⟨j,rfl,rfl⟩<;>simp [h4]
theorem yq{α β:Type}{f:α->β}:∀{l:List α},(l.map f).Nodup->l.Nodup
 | [],_=>List.nodup_nil
 |a::l,h=>by
  rw [eP,List.nodup_cons] at h
  exact List.nodup_cons.2 ⟨λhm=>h.1 (aZ.2 ⟨a,hm,rfl⟩),yq h.2⟩
theorem U3{kvs:List (Value × Value)}{k v:Value}:∀e ∈ vQ kvs k v,e.1=k\/∃e' ∈ kvs,e'.1=e.1:=by
 intro e he;unfold vQ at he;split at he
 ·obtain ⟨e',h1,rfl⟩:=aZ.1 he;refine .inr ⟨e',h1,?_⟩;split<;>rfl
 ·rcases di.1 he with he|he
  ·exact .inr ⟨e,he,rfl⟩
  ·simp at he;exact .inl (by rw [he])
theorem EE{kvs:List (Value × Value)}{k v:Value}(h:(kvs.map (·.1)).Nodup):((vQ kvs k v).map (·.1)).Nodup:=by
 classical
 unfold vQ;split
 ·have:(kvs.map λe=>if e.1=k then (e.1,v) else e).map (·.1)=kvs.map (·.1):=by
   rw [List.map_map];refine List.map_congr_left λe _=> ?_
   simp only [Function.comp_apply];split<;>rfl
  rw [this];exact h
 ·rename_i hn;rw [bU];refine List.nodup_append.2 ⟨h,by simp,λa ha b hb e=> ?_⟩;simp at hb;obtain ⟨e',he',rfl⟩:=aZ.1 ha;exact hn ⟨e',he',by rw [e,hb]⟩
theorem EG{t kt et:TypeId}{z k v:Value}{G:Value->Prop}{r:Nat}{kvs:List (Value × Value)}{w:World}(ht:tG P t=some (kt,et,z))(hk:iF P kt G)(hm:cl G w (some r) kvs)(hkG:G k):
  ∃w',(Instr.mapUpdate t (.map (some r)) k v).run P w=.ok () w'/\Rec r w w'/\cl G w' (some r) (vQ kvs k v):=by
 obtain ⟨h1,h2,h3,h4⟩:=om ht;obtain ⟨es,clock,e1,e2,e3,e4,e5,e6⟩:=hm;have hr:=(rP.1 e1).1;have hGe:∀e ∈ es.toList,G e.key:=λe hm=>e3 (e.key,e.val) (by rw [<-e2];exact aZ.2 ⟨e,hm,rfl⟩)
 obtain ⟨rr,g1,g2⟩:=tF hk h2 hkG es.toList w hGe;have hG':∀e ∈ vQ kvs k v,G e.1:=λe he=>by
  rcases U3 e he with h|⟨e',h,h'⟩
  ·rw [h];exact hkG
  ·rw [<-h'];exact e3 e' h
 unfold Instr.mapUpdate;simp only [Sem.run_bind,aG,h1,Result.andThen_ok,oh e1,nc hk hkG,g1]
 cases rr with
 |none=>
  refine ⟨w.putObj r (.map (es.push {key:=k,val:=v,born:=clock}) (clock+1)),rC e1,Rec.putObj _ _ _,?_⟩;have mF:¬∃e ∈ kvs,e.1=k:=by rintro ⟨e,he,hek⟩;rw [<-e2] at he;obtain ⟨e',h5,rfl⟩:=aZ.1 he;exact g2 e' h5 hek
  refine ⟨_,_,World.putObj_heap_same hr,?_,hG',EE e4,?_,?_⟩
  ·unfold vQ;rw [if_neg mF,<-e2];simp
  ·simp only [Array.toList_push,bU,eP,List.map_nil];refine List.pairwise_append.2 ⟨e5,by simp,λa ha b hb=> ?_⟩;simp at hb;subst hb;obtain ⟨e,he,rfl⟩:=aZ.1 ha;exact e6 e he
  ·intro e he;simp only [Array.toList_push,di,List.mem_singleton] at he;rcases he with he|rfl
   ·have:=e6 e he;omega
   ·show clock<clock+1;omega
 |some p=>
  obtain ⟨j,v'⟩:=p;obtain ⟨e,g3,g4,g5⟩:=g2;have hj:j<es.toList.length:=(cG.1 g3).1;have hje:es[j]? =some e:=by simpa using g3
  have arV:((es[j]?).map (·.key)).getD k=k:=by rw [hje];exact g4
  refine ⟨w.putObj r (.map (es.modify j λe=>{e with key:=k,val:=v}) clock),?_,Rec.putObj _ _ _,?_⟩
  ·simp only [arV,Instr.keyThatStays,hk.bits k hkG,if_true,Sem.run_bind,Sem.run_pure,Result.andThen_ok];exact rC e1
  ·have arW:∃e ∈ kvs,e.1=k:=⟨(e.key,e.val),by rw [<-e2];exact aZ.2 ⟨e,bg g3,rfl⟩,g4⟩;have jl:(es.modify j λe=>{e with key:=k,val:=v}).toList=es.toList.modify j λe=>{e with key:=k,val:=v}:=by simp
   have eN:∀i,(es.toList.modify j λe=>{e with key:=k,val:=v})[i]? =(es.toList[i]?).map λe'=>if i=j then {e' with key:=k,val:=v} else e':=by
    intro i;rw [List.getElem?_modify]
    cases es.toList[i]? with
    |none=>rfl
    |some x=>simp [eq_comm]
   refine ⟨_,_,World.putObj_heap_same hr,?_,hG',EE e4,?_,?_⟩
   ·unfold vQ;rw [if_pos arW,<-e2,jl];apply iY;intro i;rw [aU,eN,aU,aU]
    cases hi:es.toList[i]? with
    |none=>rfl
    |some x=>
     simp only [Option.map_some,Option.some.injEq];by_cases hij:i=j
     ·subst hij;rw [g3] at hi;cases hi;rw [if_pos rfl,if_pos (show (e.key,e.val).1=k from g4)];show (k,v)=(e.key,v);rw [g4]
     ·rw [if_neg hij,if_neg];intro hx;refine hij ?_;have hxe:x=e:=by rw [<-e2,List.map_map] at e4;exact Az e4 (bg hi) (bg g3) (show x.key=e.key from (show x.key=k from hx).trans g4.symm)
      have hnd:es.toList.Nodup:=by rw [<-e2,List.map_map] at e4;exact yq e4
      subst hxe;exact (List.getElem?_inj (by exact (cG.1 hi).1) hnd).1 (hi.trans g3.symm)
   ·rw [jl];have:(es.toList.modify j λe=>{e with key:=k,val:=v}).map (·.born)=es.toList.map (·.born):=by
     apply iY;intro i;rw [aU,eN,aU]
     cases es.toList[i]? with
     |none=>rfl
     |some x=>simp only [Option.map_some];split<;>rfl
    rw [this];exact e5
   ·intro e' he';rw [jl] at he';obtain ⟨i,hi⟩:=List.getElem?_of_mem he';rw [eN] at hi
    cases hx:es.toList[i]? with
    |none=>rw [hx] at hi;cases hi
    |some x=>
     rw [hx] at hi;have:=e6 x (bg hx);simp only [Option.map_some,Option.some.injEq] at hi;split at hi<;>(subst hi;exact this)
theorem Qj{t kt et:TypeId}{z k:Value}{G:Value->Prop}{r:Nat}{kvs:List (Value × Value)}{w:World}{ty:TypeId}{ats:Array TypeId}(ha:ats[0]? =some t)(ht:tG P t=some (kt,et,z))(hk:iF P kt G)(hm:cl G w (some r) kvs)(hkG:G k):
  ∃w',(Builtin.delete_ ats ty #[.map (some r),k]).run P w=.ok (.tuple #[]) w'/\Rec r w w'/\cl G w' (some r) (EB kvs k):=by
 obtain ⟨h1,h2,h3,h4⟩:=om ht;obtain ⟨es,clock,e1,e2,e3,e4,e5,e6⟩:=hm;have hr:=(Array.getElem?_eq_some_iff.1 e1).1;have hGe:∀e ∈ es.toList,G e.key:=λe hm=>e3 (e.key,e.val) (by rw [<-e2];exact List.mem_map.2 ⟨e,hm,rfl⟩)
 obtain ⟨rr,g1,g2⟩:=tF hk h2 hkG es.toList w hGe;have eL:(EB kvs k).Sublist kvs:=List.filter_sublist;unfold Builtin.delete_;simp only [ha,show (#[Value.map (some r),k]:Array Value)[0]? =some (.map (some r)) from rfl,show (#[Value.map (some r),k]:Array Value)[1]? =some k from rfl,Sem.run_bind,aG,h1,Result.andThen_ok,oh e1,nc hk hkG,g1]
 cases rr with
 |none=>
  refine ⟨w.putObj r (.map es clock),by rw [Sem.run_bind,rC e1];rfl,Rec.putObj _ _ _,es,clock,World.putObj_heap_same hr,?_,λe he=>e3 e (eL.subset he),(eL.map _).nodup e4,e5,e6⟩;rw [e2];unfold EB;symm;rw [List.filter_eq_self];intro e he;rw [<-e2] at he;obtain ⟨e',h5,rfl⟩:=List.mem_map.1 he;simpa using g2 e' h5
 |some p=>
  obtain ⟨j,v'⟩:=p;obtain ⟨e,g3,g4,g5⟩:=g2;have hj:j<es.toList.length:=(List.getElem?_eq_some_iff.1 g3).1;have hl:(es.eraseIdxIfInBounds j).toList=es.toList.eraseIdx j:=by unfold Array.eraseIdxIfInBounds;rw [dif_pos (by simpa using hj),Array.toList_eraseIdx]
  have hs:(es.toList.eraseIdx j).Sublist es.toList:=List.eraseIdx_sublist _ _;refine ⟨w.putObj r (.map (es.eraseIdxIfInBounds j) clock),by rw [Sem.run_bind,rC e1];rfl,Rec.putObj _ _ _,_,clock,World.putObj_heap_same hr,?_,λe he=>e3 e (eL.subset he),(eL.map _).nodup e4,?_,?_⟩
  ·rw [hl,<-e2];have hnd:(es.toList.map (·.key)).Nodup:=by rw [<-e2,List.map_map] at e4;exact e4
   clear hl hs e2 e3 e4 e5 e6 hGe g1 eL e1 hr h1 h2 h3 h4;generalize es.toList=l at*;unfold EB
   induction l generalizing j with
   |nil=>simp at hj
   |cons x l ih=>
    rw [List.map_cons,List.nodup_cons] at hnd
    cases j with
    |zero=>
     simp at g3;subst g3;simp only [List.eraseIdx_cons_zero,List.map_cons];rw [List.filter_cons_of_neg (by simpa using g4)];symm;rw [List.filter_eq_self];intro y hy;obtain ⟨y',h5,rfl⟩:=List.mem_map.1 hy;have:y'.key≠k:=λhh=>hnd.1 (List.mem_map.2 ⟨y',h5,by rw [hh,g4]⟩)
     simpa using this
    |succ j=>
     have hx:x.key≠k:=λhh=>hnd.1 (List.mem_map.2 ⟨e,List.mem_of_getElem? (by simpa using g3),by rw [g4,hh]⟩)
     simp only [List.eraseIdx_cons_succ,List.map_cons];rw [List.filter_cons_of_pos (by simpa using hx),ih j (by simpa using g3) (by simpa using hj) hnd.2]
  ·rw [hl];exact e5.sublist (hs.map _)
  ·intro e' he';rw [hl] at he';exact e6 e' (hs.subset he')
theorem YY{t kt et:TypeId}{G:Value->Prop}{r:Option Nat}{kvs:List (Value × Value)}{w:World}{ty:TypeId}{ats:Array TypeId}(ha:ats[0]? =some t)(ht:P.underlying t=some (.map kt et))(hm:cl G w r kvs):
  (Builtin.len_ ats ty #[.map r]).run P w=.ok (.int .i64 kvs.length) w:=by
 cases r with
 |none=>
  have:kvs=[]:=hm;subst this;simp [Builtin.len_,ha,aG,ht,goInt]
 |some r=>
  obtain ⟨es,clock,e1,e2,_⟩:=hm;have:kvs.length=es.size:=by rw [<-e2];simp
  simp [Builtin.len_,ha,aG,ht,goInt,oh e1,this]
def YZ(P:Program)(s:St)(d:Option Tmp)(t:TypeId)(m k:Value)(ok:Bool)(K:St->Prop):Prop:=
 match tG P t,m with
 |some (kt,et,z),.map r=>∃(G:Value->Prop)(kvs:List (Value × Value)),iF P kt G/\cl G s.w r kvs/\G k/\
  (sr P et).ex λv=>∃b:Bool,Gi kvs k z v b/\K (s.put d (.val (match ok with|true=> .tuple #[v,.bool b]|false=>v)))
 |_,_=>False
def Y0(P:Program)(s:St)(d:Option Tmp)(t:TypeId)(m k v:Value)(l:List SV)(K:St->Prop):Prop:=
 match tG P t,m with
 |some (kt,_,_),.map r=>∃(G:Value->Prop)(kvs:List (Value × Value)),iF P kt G/\r.isSome=true/\cl G s.w r kvs/\G k/\
  ∀w1,Rec (r.getD 0) s.w w1->cl G w1 r (vQ kvs k v)->K (({s.kill l with w:=w1}).put d (.val undef))
 |_,_=>False
def aeN(P:Program)(s:St)(d:Option Tmp)(ats:List TypeId)(m k:Value)(K:St->Prop):Prop:=
 match ats,m with
 |t::_,.map r=>match tG P t with
  |some (kt,_,_)=>∃(G:Value->Prop)(kvs:List (Value × Value)),iF P kt G/\r.isSome=true/\cl G s.w r kvs/\G k/\
   ∀w1,Rec (r.getD 0) s.w w1->cl G w1 r (EB kvs k)->K (({s with w:=w1}).put d (.val (.tuple #[])))
  |none=>False
 |_,_=>False
def Y1(P:Program)(s:St)(d:Option Tmp)(ats:List TypeId)(m:Value)(K:St->Prop):Prop:=
 match ats,m with
 |t::_,.map r=>match tG P t with
  |some _=>∃(G:Value->Prop)(kvs:List (Value × Value)),cl G s.w r kvs/\K (s.put d (.val (.int .i64 kvs.length)))
  |none=>False
 |_,_=>False
def Sb(P:Program)(s:St)(d:Option Tmp)(t:TypeId)(h:Option Value)(K:St->Prop):Prop:=
 match tG P t,ta h with
 |some _,some _=>∀w1,w1=s.w.alloc (.map #[] 0)->K ({s with w:=w1}.put d (.val (.map (some s.w.heap.size))))
 |_,_=>False
theorem cl.ug{G:Value->Prop}{w:World}{r:Nat}{kvs:List (Value × Value)}(h:cl G w (some r) kvs):∀c t f,w.heap[r]?≠some (.cells c t f):=by obtain ⟨es,clock,e1,_⟩:=h;intro c t f e;rw [e1] at e;cases e
theorem U4{t:TypeId}{h:Option Value}{x:TypeId × TypeId × Value}{y:Option Int}(ht:tG P t=some x)(hh:ta h=some y)(w:World):(Instr.makeMap t h).run P w=.ok (.map (some w.heap.size)) (w.alloc (.map #[] 0)):=by
 obtain ⟨kt,et,z⟩:=x;obtain ⟨h1,_⟩:=om ht
 cases h with
 |none=>simp [Instr.makeMap,jM]
 |some v=>
  cases v<;>simp [ta] at hh
  simp [Instr.makeMap,aG,h1,asInt,asIntOf,jM]
end
def tH(P:Program)(t:TypeId)(len:Nat)(parts:Array (Nat × Value)):Option (TypeId × Array Value):=
 match nO P t with
 |none=>none
 |some (e,i)=>match i.zero with
  |none=>none
  |some z=>match len with
   |0=>(match parts.toList with| []=>some (e,#[])|_=>none)
   |len=>if ¬len*i.size>2 ^ 24/\¬len*i.size=0 then
    (Instr.fill (λj=>some (j*i.size,i.size)) ((Array.range (len*i.size)).map (z.cells[· % z.cells.size]!)) parts.toList).map λcs=>(e,cs)
    else none
def nh(P:Program)(s:St)(d:Option Tmp)(t:TypeId)(len:Nat)(parts:Array (Nat × Value))(K:St->Prop):Prop:=
 match tH P t len parts with
 |some (e,cells)=>∀w1,w1=s.w.alloc (.cells cells e)->K ({s with w:=w1,kn:=s.kn++ [KB.mk s.w.heap.size cells.toList e true]}.put d (.sli s.kn.length len))
 |none=>False
theorem rZ{t:TypeId}{len:Nat}{parts:Array (Nat × Value)}{e:TypeId}{cells:Array Value}(h:tH P t len parts=some (e,cells))(w:World):
  (Instr.buildSlice t len parts).run P w=.ok (.slice (some ⟨w.heap.size,0,none⟩) len len) (w.alloc (.cells cells e)):=by
 unfold tH at h;split at h
 ·cases h
 rename_i e' i he;obtain ⟨ht,hi⟩:=jv he;split at h
 ·cases h
 rename_i z hz;split at h
 ·split at h
  ·rename_i hp
   cases h
   obtain ⟨l⟩:=parts;simp only at hp;subst hp;simp [Instr.buildSlice,aG,ht,sizeOf,typeInfo,hi,Instr.fill,newRow];congr 2;exact Array.eq_empty_of_size_eq_zero bB
  ·cases h
 ·split at h
  ·rename_i hl
   cases hf:Instr.fill (λj=>some (j*i.size,i.size)) ((Array.range (len*i.size)).map (z.cells[· % z.cells.size]!)) parts.toList with
   |none=>rw [hf] at h;cases h
   |some cs=>
    rw [hf] at h
    cases h
    exact run_buildSlice w t e len parts cells i z ht hi hz hl.1 hl.2 hf
  ·cases h
theorem yr{d:Option Tmp}{t:TypeId}{len:Nat}{parts:Array (Nat × Value)}(bt:s.Ok)(h:nh P s d t len parts K):
  ∃v w',(Instr.buildSlice t len parts).run P s.w=.ok v w'/\iu d s K (s.act.put d v) w':=by
 unfold nh at h;split at h
 ·rename_i e cells hc;refine ⟨_,_,rZ hc s.w,?_⟩;have Fe:∀j,j<s.w.heap.size->(s.w.alloc (.cells cells e)).heap[j]? =s.w.heap[j]? :=λj hj=>Below.heap_alloc _ _ _ hj
  have JN:(s.w.alloc (.cells cells e)).heap[s.w.heap.size]? =some (.cells cells e (0,0)):=by show (s.w.heap.push _)[s.w.heap.size]? =_;simp
  have key:∀(i:Nat)(x:KB),(s.kn++ [KB.mk s.w.heap.size cells.toList e true])[i]? =some x->(i<s.kn.length/\s.kn[i]? =some x)\/(i=s.kn.length/\x=KB.mk s.w.heap.size cells.toList e true):=by
   intro i x hx;rcases Nat.lt_or_ge i s.kn.length with gZ|QW
   ·exact .inl ⟨gZ,by rwa [nN gZ] at hx⟩
   ·rw [pY QW] at hx
    cases hz:i-s.kn.length with
    |zero=>simp [hz] at hx;subst hx;exact .inr ⟨by omega,rfl⟩
    |succ n=>simp [hz] at hx
  have h:=h _ rfl;refine j8 h bt rfl (Df _ _) (λk kb h1 h2=> ?_) (λi j x y h1 h2 h3 h4 h5=> ?_) (show s.kn.length<(s.kn++ [_]).length by simp) ?_ rfl
  ·rcases key k kb h1 with ⟨_,a2⟩|⟨_,rfl⟩
   ·rw [<-bt.aX k kb a2 h2];exact Fe _ (bt.lt k kb a2 h2)
   ·simpa using JN
  ·rcases key i x h1 with ⟨a1,a2⟩|⟨a1,rfl⟩<;>rcases key j y h2 with ⟨b1,b2⟩|⟨b1,rfl⟩
   ·exact bt.ne i j x y a2 b2 h3 h4 h5
   ·have:=bt.lt i x a2 h3;simp only at h5;omega
   ·have:=bt.lt j y b2 h4;simp only at h5;omega
   ·omega
  ·simp [SV.bY,dS]
 ·cases h
def okT(P:Program)(t:TypeId):Bool:=match P.underlying t with|some _=>true|none=>false
def okI(P:Program)(t:TypeId):Bool:=match P.info? t with|some _=>true|none=>false
theorem tI{t:TypeId}(h:okT P t=true):(P.underlying t).isSome=true:=by unfold okT at h;split at h<;>simp_all
theorem Y2{t:TypeId}(h:okI P t=true):(P.info? t).isSome=true:=by unfold okI at h;split at h<;>simp_all
def Jm(s:St)(parts:Array (Nat × Operand)):Array (Nat × Value):=parts.map λp=>(p.1,s.ev p.2)
def Jn(P:Program)(s:St)(d:Option Tmp)(t:TypeId)(x i:Value)(K:St->Prop):Prop:=
 match x,i,oS P t with
 | .agg cs,.int _ i,some (n,e)=>match sr P e,gQ P e,okT P e with
   | .sc c,some z,true=>(0<=i/\i<(n:Int))/\c.ex λv=>cs.toList[i.toNat*z]? =some v/\K (s.put d (.val v))
   | .agg l,some z,true=>(0<=i/\i<(n:Int))/\exL l λvs=>(cs.toList.drop (i.toNat*z)).take z=vs/\K (s.put d (.val (.agg vs.toArray)))
   |_,_,_=>False
 |_,_,_=>False
theorem Jo{d:Option Tmp}{t:TypeId}{x i:Value}(bt:s.Ok)(h:Jn P s d t x i K):∃v,(Instr.index t x i).run P s.w=.ok v s.w/\iu d s K (s.act.put d v) s.w:=by
 unfold Jn at h;split at h
 ·rename_i cs k i n e ha;have hu:P.underlying t=some (.array n e):=by
   unfold oS at ha;split at ha
   ·rename_i hu;cases ha;exact hu
   ·cases ha
  split at h
  ·rename_i c z ht hz hue;obtain ⟨hb,hex⟩:=h;obtain ⟨v,hv,hk⟩:=S.kL hex;have hz':(sizeOf e).run P s.w=.ok z s.w:=by
    unfold gQ at hz
    cases hi':P.info? e with
    |none=>simp [hi'] at hz
    |some i'=>simp [hi'] at hz;rw [eS (by simp [hi'])];simp [fH,hi',hz]
   refine ⟨v,?_,fj bt hk⟩;have hp:=(xm (P:=P) (t:=e) (cs:=cs) (off:=i.toNat*z) s.w (by have:=tI hue;cases hq:P.underlying e<;>simp_all)).2 (Ku ht) v (by simpa using hv);simp [Instr.index,asIntOf,aG,hu,hb,hz',hp]
  ·rename_i l z ht hz hue;obtain ⟨hb,hex⟩:=h;obtain ⟨vs,hv,hk⟩:=Im hex;have hz':(sizeOf e).run P s.w=.ok z s.w:=by
    unfold gQ at hz
    cases hi':P.info? e with
    |none=>simp [hi'] at hz
    |some i'=>simp [hi'] at hz;rw [eS (by simp [hi'])];simp [fH,hi',hz]
   have V7:fH P e=z:=by unfold gQ at hz;unfold fH;rw [hz];rfl
   refine ⟨_,?_,fj bt hk⟩;have hp:=(xm (P:=P) (t:=e) (cs:=cs) (off:=i.toNat*z) s.w (by have:=tI hue;cases hq:P.underlying e<;>simp_all)).1 (Di ht);rw [V7,hv] at hp;simp [Instr.index,asIntOf,aG,hu,hb,hz',hp]
  ·cases h
 ·cases h
def Y3(P:Program)(src dst:TypeId):Bool:=
 match P.underlying src,P.underlying dst with
 |some (.slice e),some .string=>match P.underlying e with|some (.int .u8)=>true|_=>false
 |_,_=>false
def Sc(P:Program)(s:St):Op->Option (Option Addr × Nat)
 | .convert src dst x=>match Y3 P src dst with
   |true=>match s.ev x with| .slice a n _=>some (a,n)|_=>none
   |false=>none
 |_=>none
theorem HP{o:Oper}{a:Option Addr}{n:Nat}(h:Sc P s o.op=some (a,n)){ns:List Int}(hn:ns.length=n){w':World}(hl:ag w' a 0 (ns.map (Value.int .u8))):
  (execOp s.ev o).run P w'=.ok (.value (.string (strOfNums ns))) w':=by
 obtain ⟨dst,op,ty,pos,after,guard⟩:=o;simp only at h;unfold Sc at h;split at h
 ·rename_i src dst' x;split at h
  ·rename_i hb;split at h
   ·rename_i a' n' c hx
    cases h
    unfold Y3 at hb;split at hb
    ·rename_i e hs hd;split at hb
     ·rename_i he;show (do pure (Next.value (<-convert src dst' (s.ev x))):Sem Next).run P w'=_;have key:(convert src dst' (s.ev x)).run P w'=.ok (.string (strOfNums ns)) w':=by
       rw [hx]
       cases a with
       |none=>
        have:ns=[]:=by
         cases ns with
         |nil=>rfl
         |cons v r=>have:=lK hl 0 bB;simp [Vc.ld,af] at this
        subst this;rw [run_convert_bytes_nil w' src e hs he _ _ dst' hd];rfl
       |some b=>
        have hc:=run_loadCells_list (P:=P) (w:=w') b (ns.map (Value.int .u8)) (λj v hj=>by have:=lK hl j (cG.1 hj).1;rw [ep,hj] at this;exact this);rw [aN,hn] at hc;rw [run_convert_bytes_string w' src dst' e _ n c hs he hd,run_bytesToString w' _ n c ns hc,foldl_push_bytes];simp [strOfNums,ByteArray.empty,ByteArray.emptyWithCapacity];rfl
      rw [Sem.run_bind,key];rfl
     ·cases hb
    ·cases hb
   ·cases h
  ·cases h
 ·cases h
def HQ(P:Program)(t:TypeId):Bool:=match P.underlying t with|some (.interface _)=>false|some _=>true|none=>false
theorem Qk{t:TypeId}{v:Value}(h:HQ P t=true)(w:World):(Instr.makeInterface t v).run P w=.ok (.iface t v) w:=by
 unfold HQ at h;split at h
 ·cases h
 ·rename_i d hd iM;simp only [Instr.makeInterface,Sem.run_bind,aG,hd,Result.andThen_ok]
  cases d<;>simp_all
 ·cases h
theorem Ql{a xT:TypeId}{v:Value}(h:HQ P a=true)(w:World):(Instr.typeAssert (.iface a v) xT a false).run P w=.ok v w:=by
 unfold HQ at h;split at h
 ·cases h
 ·rename_i d hd iM;simp only [Instr.typeAssert,Sem.run_bind,aG,hd,Result.andThen_ok]
  cases d<;>simp_all
 ·cases h
def HR(P:Program)(s:St)(o:Oper)(K:St->Prop):Prop:=
 match o.op with
 | .index t x i=>Jn P s o.dst t (s.ev x) (s.ev i) K
 | .load t x=>match okT P t with|true=>Dh P s o.dst t (s.sv x) K|false=>False
 | .store t x v=>match okI P t with|true=>Iu P s o.dst t (s.sv x) (s.sv v) K|false=>False
 | .box t v=>match zo P t with
   |true=>zw P (s.kill [s.sv v]) o.dst t (cellsOf (s.ev v)) K
   |false=>aP (j9 (s.ev v)) (zw P (s.kill [s.sv v]) o.dst t [s.ev v] K)
 | .alloc t=>match zeroOf P t with|some cs=>zw P s o.dst t cs K|none=>False
 | .build t parts=>match P.built t (parts.toList.map λ(i,x)=>(i,s.ev x)) with
   |some cs=>K ((s.kill (parts.toList.map λ(_,x)=>s.sv x)).put o.dst (.val (.agg cs)))
   |none=>False
 | .buildSlice t len parts=>nh P (s.kill (parts.toList.map λ(_,x)=>s.sv x)) o.dst t len (Jm s parts) K
 | .makeFunc fn first captured=>K ((s.kill ((first++captured).toList.map s.sv)).put o.dst (.val (.func fn (first.toList.map s.ev).toArray (captured.toList.map s.ev).toArray)))
 | .lookup t x k ok=>YZ P s o.dst t (s.ev x) (s.ev k) ok K
 | .mapUpdate t m k v| .insert t m k v=>Y0 P s o.dst t (s.ev m) (s.ev k) (s.ev v) [s.sv k,s.sv v] K
 | .makeMap t h=>Sb P s o.dst t (h.map s.ev) K
 | .call ⟨.builtin .delete,args,ats⟩=>match args.toList with
   | [m,k]=>aeN P s o.dst ats.toList (s.ev m) (s.ev k) K
   |_=>False
 | .makeSlice t l c=>O1 P s o.dst t (s.ev l) (s.ev c) K
 | .call ⟨.builtin .copy,args,ats⟩=>match args.toList with
   | [x,y]=>O2 P s o.dst ats.toList (s.ev x) (s.ev y) K
   |_=>False
 | .call ⟨.builtin .clear,args,ats⟩=>match args.toList with
   | [x]=>Iw P s o.dst ats.toList (s.ev x) K
   |_=>False
 | .call ⟨.builtin .len,args,ats⟩=>match args.toList with
   | [m]=>Y1 P s o.dst ats.toList (s.ev m) K
   |_=>False
 | .call ⟨.value x,args,_⟩=>ED P s o.dst o.type (s.ev x) (args.toList.map s.sv) K
 | .call ⟨.builtin .append,args,ats⟩=>match args.toList,ats.toList with
   | [x,y],[t,tx]=>Dl P s o.dst t tx (s.sv x) (s.sv y) K
   |_,_=>False
 | .convert .. =>match Sc P s o.op with
   |some (a,n)=>∃ns:List Int,ns.length=n/\ag s.w a 0 (ns.map (Value.int .u8))/\K (s.put o.dst (.val (.string (strOfNums ns))))
   |none=>False
 | .makeInterface t x=>match HQ P t with|true=>K ((s.kill [s.sv x]).put o.dst (.val (.iface t (s.ev x))))|false=>False
 | .typeAssert x _ a false=>match HQ P a with|true=>(sr P a).ex λv=>s.ev x=.iface a v/\K (s.put o.dst (.val v))|false=>False
 |_=>False
def U5(P:Program)(s:St)(o:Oper)(K:St->Prop):Prop:=
 match dU P s o.op with
 |some (cs,sv)=>aP cs (K (s.put o.dst sv))
 |none=>HR P s o K
theorem yt{d:Option Tmp}{s1:St}{a:Act}{w:World}(bt:s.Ok)(h1:s1.sl=s.sl)(h2:su s.kn s1.kn)(h:iu d s1 K a w)(hdf:s1.df=s.df:=by first|rfl|exact mV _ _):iu d s K a w:=by
 obtain ⟨s',a1,a2,a3,a4,a5⟩:=h;refine ⟨s',a1,a2,a3,⟨a4.len.trans (by rw [h1]),λi hi=>(a4.slot i hi).trans ?_,h2.trans a4.kn,by rw [<-hdf];exact a4.df⟩,a5⟩;rw [h1];simp only [dS]
 cases hg:s.sl[i]? with
 |none=>rfl
 |some u=>exact h2.bY (bt.lI i u hg)
theorem lY{l:List SV}(bt:s.Ok):(s.kill l).act=s.act:=by
 obtain ⟨k1,k2,k3,k4,k5⟩:=fb l bt;simp only [St.act,k2,mV];congr 2;refine List.map_congr_left λx hx=> ?_
 obtain ⟨i,hi⟩:=List.getElem?_of_mem hx;exact k4.bY (bt.lI i x hi)
theorem L0(hP:BX P)(bt:s.Ok)(hny:∀x args ats l f c,o.op=.call ⟨.value x,args,ats⟩->s.ev x≠ .func (.yield l) f c)(h:HR P s o K):o.wp P s.act s.w (iu o.dst s K) Q:=by
 obtain ⟨dst,op,ty,pos,after,guard⟩:=o;unfold HR at h;simp only at h;have ev:∀{s':Sem Value} {v:Value} {w':World},(execOp s.ev ⟨dst,op,ty,pos,after,guard⟩=do pure (.value (<-s')))->s'.run P s.w=.ok v w'->iu dst s K (s.act.put dst v) w'->
   (Oper.mk dst op ty pos after guard).wp P s.act s.w (iu dst s K) Q:=by
  intro s' v w' h1 h2 h3;unfold Oper.wp;rw [St.eval_eq,h1,Sem.run_bind,h2];exact h3
 split at h
 ·rename_i t x i;obtain ⟨v,h1,h2⟩:=Jo bt h;exact ev (s':=Instr.index t (s.ev x) (s.ev i)) rfl h1 h2
 ·rename_i t x;split at h
  ·rename_i hu;obtain ⟨a,v,h1,h2,h3⟩:=Dj bt (tI hu) h;refine ev (s':=Instr.loadAt t (s.ev x)) rfl ?_ (fj bt h2);rw [St.ev,h1];exact h3
  ·cases h
 ·rename_i t x v;split at h
  ·rename_i hu;obtain ⟨a,w',h1,h2,h3⟩:=Iv bt (Y2 hu) h;unfold Oper.wp;rw [St.eval_eq];have:execOp s.ev ⟨dst,.store t x v,ty,pos,after,guard⟩=(do Instr.storeAt t (s.ev x) (s.ev v);pure .skip):=rfl;rw [this,Sem.run_bind,St.ev,h1];simp only [St.ev] at h2 ⊢;rw [h2];exact h3
  ·cases h
 ·rename_i t v;have h:zw P (s.kill [s.sv v]) dst t (cellsOf (s.ev v)) K:=by
   revert h
   cases zo P t with
   |true=>exact id
   |false=>
    intro h;obtain ⟨h1,h2⟩:=bE.1 h;have:cellsOf (s.ev v)=[s.ev v]:=by
     generalize s.ev v=x at h1
     cases x<;>first|rfl|exact (h1 False (by simp [j9])).elim
    rw [this];exact h2
  obtain ⟨k1,k2,k3,k4,k5⟩:=fb [s.sv v] bt;have h3:=yt bt k2 k4 (Dg k1 h);rw [lY bt,k3] at h3;exact ev (s':=Instr.box t (s.ev v)) rfl (RH _) h3
 ·rename_i t;split at h
  ·rename_i cs hz;exact ev (s':=Instr.alloc t true (.tuple #[])) rfl (Ha hz _) (Dg bt h)
  ·cases h
 ·rename_i t parts;split at h
  ·rename_i cs hb;obtain ⟨k1,k2,k3,k4,k5⟩:=fb (parts.toList.map λ(_,x)=>s.sv x) bt;have h3:=yt bt k2 k4 (fj k1 h);rw [lY bt,k3] at h3;refine ev (s':=Instr.build t (parts.map λ(i,x)=>(i,s.ev x))) rfl (run_build _ _ _ _ ?_) h3;simpa using hb
  ·cases h
 ·rename_i t len parts;obtain ⟨k1,k2,k3,k4,k5⟩:=fb (parts.toList.map λ(_,x)=>s.sv x) bt;obtain ⟨v,w',h1,h2⟩:=yr k1 h;have h3:=yt bt k2 k4 h2;rw [lY bt] at h3;rw [k3] at h1;exact ev (s':=Instr.buildSlice t len (Jm s parts)) rfl h1 h3
 ·rename_i fn first captured;obtain ⟨k1,k2,k3,k4,k5⟩:=fb ((first++captured).toList.map s.sv) bt;have h3:=yt bt k2 k4 (fj k1 h);rw [lY bt,k3] at h3;refine ev (s':=Instr.makeFunc fn (first.map s.ev) (captured.map s.ev)) (v:=.func fn (first.map s.ev) (captured.map s.ev)) (w':=s.w) rfl rfl ?_;have e1:(first.toList.map s.ev).toArray=first.map s.ev:=by apply Array.ext';simp
  have e2:(captured.toList.map s.ev).toArray=captured.map s.ev:=by apply Array.ext';simp
  rw [e1,e2] at h3;exact h3
 ·rename_i t x k ok;unfold YZ at h;split at h
  case h_2=>exact h.elim
  rename_i kt et z r ht hx;obtain ⟨G,kvs,hk,hm,hG,hex⟩:=h;obtain ⟨v,b,hl,hK⟩:=T1.kL hex;refine ev (s':=Instr.lookup t (s.ev x) (s.ev k) ok) rfl ?_ (fj bt hK);rw [hx,Qi ht hk hm hG ok hl]
  cases ok<;>rfl
 ·rename_i t m k v;unfold Y0 at h;split at h
  case h_2=>exact h.elim
  rename_i kt et z r ht hx;obtain ⟨G,kvs,hk,hr,hm,hG,hK⟩:=h;obtain ⟨r,rfl⟩:=nH.1 hr;obtain ⟨w',h1,h2,h3⟩:=EG (v:=s.ev v) ht hk hm hG;unfold Oper.wp;rw [St.eval_eq];have:execOp s.ev ⟨dst,.mapUpdate t m k v,ty,pos,after,guard⟩=(do Instr.mapUpdate t (s.ev m) (s.ev k) (s.ev v);pure .skip):=rfl;rw [this,Sem.run_bind,hx,h1];obtain ⟨k1,k2,k3,k4,k5⟩:=fb [s.sv k,s.sv v] bt;have l8:=wu k1 (D:=r) (w':=w') (by rw [k3];exact hm.ug) (by rw [k3];exact h2);exact jF (v:=.val undef) (hK w' h2 h3) bt l8 k2 k4 trivial rfl rfl
 ·rename_i t m k v;unfold Y0 at h;split at h
  case h_2=>exact h.elim
  rename_i kt et z r ht hx;obtain ⟨G,kvs,hk,hr,hm,hG,hK⟩:=h;obtain ⟨r,rfl⟩:=nH.1 hr;obtain ⟨w',h1,h2,h3⟩:=EG (v:=s.ev v) ht hk hm hG;unfold Oper.wp;rw [St.eval_eq];have:execOp s.ev ⟨dst,.insert t m k v,ty,pos,after,guard⟩=(do Instr.mapUpdate t (s.ev m) (s.ev k) (s.ev v);pure .skip):=rfl;rw [this,Sem.run_bind,hx,h1];obtain ⟨k1,k2,k3,k4,k5⟩:=fb [s.sv k,s.sv v] bt;have l8:=wu k1 (D:=r) (w':=w') (by rw [k3];exact hm.ug) (by rw [k3];exact h2);exact jF (v:=.val undef) (hK w' h2 h3) bt l8 k2 k4 trivial rfl rfl
 ·rename_i t hh;unfold Sb at h;split at h
  case h_2=>exact h.elim
  rename_i x y ht hy;have JN:=h _ rfl;have tQ:=U4 ht hy s.w;refine ev (s':=Instr.makeMap t (hh.map s.ev)) rfl tQ ?_;exact j8 (s1:={s with w:=s.w.alloc (.map #[] 0)}) (v:=.val (.map (some s.w.heap.size))) JN bt rfl (su.refl _) (λk kb h1 h2=>by rw [<-bt.aX k kb h1 h2];exact Below.heap_alloc _ _ _ (bt.lt k kb h1 h2)) bt.ne trivial rfl rfl
 ·rename_i args ats;split at h
  case h_2=>exact h.elim
  rename_i m k ha;unfold aeN at h;split at h
  case h_2=>exact h.elim
  rename_i t rest r FM hx;split at h
  case h_2=>exact h.elim
  rename_i kt et z ht;obtain ⟨G,kvs,hk,hr,hm,hG,hK⟩:=h;obtain ⟨r,rfl⟩:=nH.1 hr;obtain ⟨args⟩:=args;simp only at ha;subst ha;have hat0:ats[0]? =some t:=by rw [<-Array.getElem?_toList,FM];rfl
  obtain ⟨w',h1,h2,h3⟩:=Qj (ty:=ty) hat0 ht hk hm hG;refine ev (s':=Builtin.delete_ ats ty #[s.ev m,s.ev k]) ?_ (by rw [hx];exact h1) ?_
  ·rw [BigFrame.execOp_builtin];have:Array.map s.ev #[m,k]= #[s.ev m,s.ev k]:=by simp
   rw [this];rfl
  ·have l8:=wu bt (D:=r) (w':=w') hm.ug h2;exact jF (v:=.val (.tuple #[])) (hK w' h2 h3) bt l8 rfl (su.refl _) trivial rfl rfl
 ·rename_i t l c;obtain ⟨v,w',h1,h2⟩:=Ky bt h;exact ev (s':=Instr.makeSlice t (s.ev l) (s.ev c)) rfl h1 h2
 ·rename_i args ats;split at h
  case h_2=>exact h.elim
  rename_i x y ha;obtain ⟨args⟩:=args;simp only at ha;subst ha;obtain ⟨v,w',h1,h2⟩:=Kz (ty:=ty) bt h;refine ev (s':=Builtin.copy_ ats ty #[s.ev x,s.ev y]) ?_ h1 h2;rw [BigFrame.execOp_builtin];have:Array.map s.ev #[x,y]= #[s.ev x,s.ev y]:=by simp
  rw [this];rfl
 ·rename_i args ats;split at h
  case h_2=>exact h.elim
  rename_i x ha;obtain ⟨args⟩:=args;simp only at ha;subst ha;obtain ⟨v,w',h1,h2⟩:=Ix (ty:=ty) bt h;refine ev (s':=Builtin.clear_ ats ty #[s.ev x]) ?_ h1 h2;rw [BigFrame.execOp_builtin];have:Array.map s.ev #[x]= #[s.ev x]:=by simp
  rw [this];rfl
 ·rename_i args ats;split at h
  case h_2=>exact h.elim
  rename_i m ha;unfold Y1 at h;split at h
  case h_2=>exact h.elim
  rename_i t rest r FM hx;split at h
  case h_2=>exact h.elim
  rename_i x ht;obtain ⟨kt,et,z⟩:=x;obtain ⟨G,kvs,hm,hK⟩:=h;obtain ⟨args⟩:=args;simp only at ha;subst ha;have hat0:ats[0]? =some t:=by rw [<-Array.getElem?_toList,FM];rfl
  refine ev (s':=Builtin.len_ ats ty #[s.ev m]) ?_ (by rw [hx];exact YY (ty:=ty) hat0 (om ht).1 hm) (fj bt hK);rw [BigFrame.execOp_builtin];have:Array.map s.ev #[m]= #[s.ev m]:=by simp
  rw [this];rfl
 ·exact ac0 hP bt (λl f c=>hny _ _ _ l f c rfl) h
 ·rename_i args ats;split at h
  ·rename_i x y t tx ha ht;obtain ⟨args⟩:=args;obtain ⟨ats⟩:=ats;simp only at ha ht;subst ha ht;obtain ⟨v,w',h1,h2⟩:=FU (ty:=ty) bt h;unfold Oper.wp;rw [St.eval_eq,BigFrame.execOp_builtin,BigFrame.builtin_append];have:Array.map s.ev #[x,y]= #[s.ev x,s.ev y]:=by simp
   rw [this,Sem.run_bind];simp only [St.ev];rw [h1];exact h2
  ·cases h
 ·split at h
  ·rename_i a n hc;obtain ⟨ns,hn,hl,hk⟩:=h;unfold Oper.wp;rw [St.eval_eq,HP hc hn hl];exact fj bt hk
  ·cases h
 ·rename_i t x;split at h
  ·rename_i hu;obtain ⟨k1,k2,k3,k4,k5⟩:=fb [s.sv x] bt;have h3:=yt bt k2 k4 (fj k1 h);rw [lY bt,k3] at h3;exact ev (s':=Instr.makeInterface t (s.ev x)) rfl (Qk hu _) h3
  ·cases h
 ·rename_i x xT a;split at h
  ·rename_i hu;obtain ⟨v,e,hk⟩:=T1.kL h;refine ev (s':=Instr.typeAssert (s.ev x) xT a false) rfl ?_ (fj bt hk);rw [e];exact Ql hu _
  ·cases h
 ·cases h
theorem EH(hP:BX P)(bt:s.Ok)(h:U5 P s o K):o.WU P s.act s.w (iu o.dst s K) Q:=by
 have hd:∀c,o.op≠ .defer c:=by intro c e;obtain ⟨dst,op,ty,pos,after,guard⟩:=o;simp only at e;subst e;exact h.elim
 by_cases hy:∃x args ats l f c,o.op=.call ⟨.value x,args,ats⟩/\s.ev x=.func (.yield l) f c
 ·obtain ⟨x,args,ats,l,f,c,e,hx⟩:=hy;obtain ⟨dst,op,ty,pos,after,guard⟩:=o;simp only at e;subst e;exact U2 bt hx h
 ·refine U1 hd ?_;unfold U5 at h;split at h
  ·rename_i cs sv hp;exact wp_pure bt hp h
  ·exact L0 hP bt (λx args ats l f c e hx=>hy ⟨x,args,ats,l,f,c,e,hx⟩) h
end
def qx(ops:Array Oper)(o:Oper)(s:St)(yes:St->Prop)(no:St->Prop):Prop:=
 match o.guard with
 |none=>yes s
 |some (j,want)=>match (ops[j]?).bind (·.dst) with
  |some d=>match s.sl.getD d (.val undef) with
   | .val (.bool b)=>Br b (match want with|true=>yes {s with sl:=s.sl.set d (.val (.bool true))}|false=>no {s with sl:=s.sl.set d (.val (.bool true))})
     (match want with|true=>no {s with sl:=s.sl.set d (.val (.bool false))}|false=>yes {s with sl:=s.sl.set d (.val (.bool false))})
   | .val (.tuple _)=>no s
   |_=>False
  |none=>False
def vcG(P:Program)(ops:Array Oper)(s:St)(o:Oper)(K:St->Prop):Prop:=
 qx ops o s (λs=>U5 P s o K) (λs=>K (s.put o.dst (.val undef)))
def Jp(P:Program)(ops:Array Oper):List Oper->St->(St->Prop)->Prop
 | [],s,K=>K s
 |o::r,s,K=>vcG P ops s o λs'=>Jp P ops r s' K
def dstsOf(l:List Oper):List Nat:=l.filterMap (·.dst)
section
variable {P:Program} {s:St} {o:Oper} {K:St->Prop} {Q:Exit->Act->World->Prop} {ops:Array Oper}
structure Jq(s s':St):Prop where
 act:s'.act=s.act
 w:s'.w=s.w
 ok:s'.Ok
 fr:Fr [] s s'
theorem Jq.refl(h:s.Ok):Jq s s:=⟨rfl,rfl,h,Fr.refl _ _⟩
theorem Y4{d:Nat}{b:Bool}(bt:s.Ok)(h:s.sl.getD d (.val undef)=.val (.bool b)):Jq s {s with sl:=s.sl.set d (.val (.bool b))}:=by
 have hd:s.sl[d]? =some (.val (.bool b)):=by
  rw [dS] at h
  cases hh:s.sl[d]? with
  |none=>rw [hh] at h;cases h
  |some v=>rw [hh] at h;simp at h;rw [h]
 have:s.sl.set d (.val (.bool b))=s.sl:=by
  apply iY;intro i;rw [jR];split
  ·rename_i e;subst e;split
   ·exact hd.symm
   ·rename_i hl;rw [ju ab] at hd;cases hd
  ·rfl
 rw [this];exact Jq.refl bt
theorem tJ{yes no:St->Prop}(bt:s.Ok)(h:qx ops o s yes no):
  (Region.wanted o (yielded ops s.act.tmps)=true/\∃s',Jq s s'/\yes s')\/(Region.wanted o (yielded ops s.act.tmps)=false/\∃s',Jq s s'/\no s'):=by
 unfold qx at h;split at h
 ·rename_i hg;exact .inl ⟨by simp [Region.wanted,hg],s,Jq.refl bt,h⟩
 ·rename_i j want hg;split at h
  ·rename_i d hd;have eN:s.act.tmps[d]? =(s.sl[d]?).map (SV.bY s.kn):=by simp [St.act]
   split at h
   ·rename_i b hb;have hs:s.sl[d]? =some (.val (.bool b)):=by
     rw [dS] at hb
     cases hh:s.sl[d]? with
     |none=>rw [hh] at hb;cases hb
     |some v=>rw [hh] at hb;simp at hb;rw [hb]
    have hy:yielded ops s.act.tmps j=some b:=by simp [yielded,hd,eN,hs,SV.bY]
    have hl:=Y4 bt hb
    cases b with
    |true=>
     have h:=Br.tt h rfl
     cases want with
     |true=>exact .inl ⟨by simp [Region.wanted,hg,hy],_,hl,h⟩
     |false=>exact .inr ⟨by simp [Region.wanted,hg,hy],_,hl,h⟩
    |false=>
     have h:=Br.ff h rfl
     cases want with
     |true=>exact .inr ⟨by simp [Region.wanted,hg,hy],_,hl,h⟩
     |false=>exact .inl ⟨by simp [Region.wanted,hg,hy],_,hl,h⟩
   ·rename_i b hb;refine .inr ⟨?_,s,Jq.refl bt,h⟩;have hy:yielded ops s.act.tmps j=none:=by
     rw [dS] at hb
     cases hh:s.sl[d]? with
     |none=>simp [yielded,hd,eN,hh]
     |some v=>rw [hh] at hb;simp at hb;simp [yielded,hd,eN,hh,hb,SV.bY]
    simp [Region.wanted,hg,hy]
   ·cases h
  ·cases h
theorem iu.Y5{d:Option Tmp}{s1:St}{a:Act}{w:World}(hl:Jq s s1)(h:iu d s1 K a w):iu d s K a w:=by obtain ⟨s',h1,h2,h3,h4,h5⟩:=h;exact ⟨s',h1,h2,h3,(hl.fr.mono bB).trans h4,h5⟩
theorem Qm(bt:s.Ok){d:Option Tmp}(h:K (s.put d (.val undef))):iu d s K (s.act.put d undef) s.w:=fj bt h
theorem U6(hP:BX P)(bt:s.Ok)(h:vcG P ops s o K):
  (Region.wanted o (yielded ops s.act.tmps)=true/\o.WU P s.act s.w (iu o.dst s K) Q)\/(Region.wanted o (yielded ops s.act.tmps)=false/\iu o.dst s K (s.act.put o.dst undef) s.w):=by
 rcases tJ bt h with ⟨h1,s',hl,h2⟩|⟨h1,s',hl,h2⟩
 ·left;refine ⟨h1,?_⟩;have:=EH (Q:=Q) hP hl.ok h2;rw [hl.act,hl.w] at this;exact Oper.qw (λa w hp=>iu.Y5 hl hp) this
 ·right;refine ⟨h1,?_⟩;have:=Qm hl.ok h2;rw [hl.act,hl.w] at this;exact iu.Y5 hl this
def aeO(W:List Nat)(s:St)(K:St->Prop):Act->World->Prop:=
 λa w=>∃s',s'.Ok/\s'.act=a/\s'.w=w/\Fr W s s'/\K s'
theorem EI{d:Option Tmp}{l:List Nat}(h:∀x,d=some x->x ∈ l):∀i ∈ d.toList,i ∈ l:=by
 intro i hi;cases d with
 |none=>cases hi
 |some x=>simp at hi;subst hi;exact h _ rfl
def Qn(P:Program)(ops:Array Oper)(Q:Exit->Act->World->Prop):List Oper->Act->World->Prop
 | [],a,w=>Q .normal a w
 |o::r,a,w=>if Region.wanted o (yielded ops a.tmps) then o.WU P a w (Qn P ops Q r) Q else Qn P ops Q r (a.put o.dst undef) w
theorem Jr{F:Fence}{n:Nat}(hF:Wd F):∀(l:List Oper)(i:Nat)(a:Act)(w:World),(∀j,j<l.length->ops[i+j]? =l[j]?)->Qn P ops Q l a w->wpOpsIn F n P ops Q (List.range' i l.length) a w
 | [],i,a,w,_,h=>h
 |o::r,i,a,w,hl,h=>by
  have ho:ops[i]? =some o:=by simpa using hl 0 bB
  have hr:∀j,j<r.length->ops[i+1+j]? =r[j]? :=λj hj=>by have:=hl (j+1) (by simpa using hj);rw [show i+1+j=i+(j+1) by omega,this];simp
  show wpOpsIn F n P ops Q (i::List.range' (i+1) r.length) a w;rw [wpOpsIn_cons];unfold wpOpIn;simp only [ho];unfold Qn at h;split
  ·rename_i hw;rw [if_pos hw] at h;exact By hF (Oper.qw (λa w hh=>Jr hF r (i+1) a w hr hh) h)
  ·rename_i hw;rw [if_neg hw] at h;exact ⟨λf _=>hF.fn f,Jr hF r (i+1) _ w hr h⟩
theorem yu(hP:BX P):∀(l:List Oper)(s:St)(Q:Exit->Act->World->Prop),s.Ok->Jp P ops l s K->(∀a w,aeO (dstsOf l) s K a w->Q .normal a w)->Qn P ops Q l s.act s.w
 | [],s,Q,bt,h,hq=>hq _ _ ⟨s,bt,rfl,rfl,Fr.refl _ _,h⟩
 |o::r,s,Q,bt,h,hq=>by
  unfold Qn
  have step:∀a w,iu o.dst s (λs'=>Jp P ops r s' K) a w->Qn P ops Q r a w:=by
   rintro a w ⟨s',h1,rfl,rfl,h4,h5⟩;refine yu hP r s' Q h1 h5 λa w hp=>hq a w ?_
   obtain ⟨s'',g1,g2,g3,g4,g5⟩:=hp;refine ⟨s'',g1,g2,g3,(h4.mono (EI λx hx=> ?_)).trans (g4.mono λx hx=> ?_),g5⟩
   ·simp [dstsOf,hx]
   ·simp only [dstsOf,List.filterMap_cons];split
    ·exact hx
    ·exact List.mem_cons_of_mem _ hx
  rcases U6 (Q:=Q) hP bt h with ⟨h1,h2⟩|⟨h1,h2⟩
  ·rw [if_pos h1];exact Oper.qw step h2
  ·rw [if_neg (by simp [h1])];exact step _ _ h2
end
structure rD where
 i:Nat
 p:Option Addr
 vs:List Value
def rD.holds(q:rD)(w:World):Prop:=ag w q.p 0 q.vs
def L1(o:Oper)(i:Nat):Bool:=o.after.any λe=>Region.binds .any e && e.on==i
def stays(ops:Array Oper)(j:Nat)(l:List rD):List rD:=l.filter λq=>match ops[j]? with|some o=> !L1 o q.i|none=>true
section
variable {P:Program} {s:St} {o:Oper} {K:St->Prop} {Q:Exit->Act->World->Prop} {ops:Array Oper}
def r6(P:Program)(ops:Array Oper)(Q:Exit->Act->World->Prop)(i:Nat)(K:Act->World->Prop)(a:Act)(w:World):Prop:=
 match ops[i]? with
 |none=>K a w
 |some o=>if Region.wanted o (yielded ops a.tmps) then o.WU P a w K Q else K (a.put o.dst undef) w
theorem rE{i:Nat}{a:Act}{w:World}{K K':Act->World->Prop}(h:∀a w,K a w->K' a w)(hh:r6 P ops Q i K a w):r6 P ops Q i K' a w:=by
 unfold r6 at*;split
 ·exact h _ _ (by simpa [*] using hh)
 ·rename_i o ho;simp only [ho] at hh;split
  ·rename_i hw;simp only [hw,if_true] at hh;exact Oper.qw h hh
  ·rename_i hw;simp only [hw] at hh;exact h _ _ hh
theorem Y6{F:Fence}{n:Nat}(hF:Wd F){i:Nat}{a:Act}{w:World}{K:Act->World->Prop}(hh:r6 P ops Q i K a w):wpOpIn F n P ops Q i K a w:=by
 unfold r6 at hh;unfold wpOpIn;split
 ·simpa [*] using hh
 ·rename_i o ho;simp only [ho] at hh;split
  ·rename_i hw;simp only [hw,if_true] at hh;exact By hF hh
  ·rename_i hw;simp only [hw] at hh;exact ⟨λf _=>hF.fn f,hh⟩
def U7(P:Program)(ops:Array Oper)(Q:Exit->Act->World->Prop):Nat->List rD->Array Bool->Act->World->Prop
 |0,_,listed,a,w=>Region.ready .any ops listed=[]/\Q .normal a w
 |fuel+1,l,listed,a,w=>
  (Region.ready .any ops listed=[]->Q .normal a w)/\
  ∀j ∈ Region.ready .any ops listed,r6 P ops Q j (λa' w'=>(∀q ∈ stays ops j l,q.holds w')/\U7 P ops Q fuel (stays ops j l) (listed.setIfInBounds j true) a' w') a w
theorem Se{F:Fence}{n:Nat}(hF:Wd F):∀(fuel:Nat)(l:List rD)(listed:Array Bool)(a:Act)(w:World),U7 P ops Q fuel l listed a w->wpAnyIn F n P .any ops Q fuel listed a w
 |0,_,_,_,_,h=>h
 |fuel+1,l,listed,a,w,h=>⟨h.1,λj hj=>Y6 hF (rE (λa' w' hk=>Se hF fuel _ _ _ _ hk.2) (h.2 j hj))⟩
theorem nB{j:Nat}{l:List rD}{q:rD}(h:q ∈ stays ops j l):q ∈ l:=(List.mem_filter.1 h).1
theorem EJ:∀(fuel:Nat)(l l':List rD)(listed:Array Bool)(a:Act)(w:World),(∀q ∈ l',q ∈ l)->U7 P ops Q fuel l listed a w->U7 P ops Q fuel l' listed a w
 |0,_,_,_,_,_,_,h=>h
 |fuel+1,l,l',listed,a,w,hs,h=>⟨h.1,λj hj=>rE (λa' w' hk=>by
  have:∀q ∈ stays ops j l',q ∈ stays ops j l:=λq hq=>List.mem_filter.2 ⟨hs q (nB hq),(List.mem_filter.1 hq).2⟩
  exact ⟨λq hq=>hk.1 q (this q hq),EJ fuel _ _ _ _ _ this hk.2⟩) (h.2 j hj)⟩
def iT(P:Program)(ops:Array Oper)(C:World->Prop)(o:Oper)(v:Value)(a:Act):Prop:=
 (Region.wanted o (yielded ops a.tmps)=true/\∀w,C w->(execOp a.eval o).run P w=.ok (.value v) w)\/
 (Region.wanted o (yielded ops a.tmps)=false/\v=undef)
theorem iT.wpOp{C:World->Prop}{i:Nat}{o:Oper}{v:Value}{a:Act}(hi:ops[i]? =some o)(hnd:∀c,o.op≠ .defer c)(hy:iT P ops C o v a)
  {K:Act->World->Prop}{w:World}(hC:C w)(h:K (a.put o.dst v) w):r6 P ops Q i K a w:=by
 unfold r6;simp only [hi];rcases hy with ⟨hw,hv⟩|⟨hw,rfl⟩
 ·simp only [hw,if_true];exact ⟨hnd,by rw [hv w hC];exact h⟩
 ·simp only [hw,Bool.false_eq_true,if_false];exact h
theorem iT.of_same{C:World->Prop}{o:Oper}{v:Value}{a a':Act}(hy:iT P ops C o v a)(he:execOp a'.eval o=execOp a.eval o)
  (hw:Region.wanted o (yielded ops a'.tmps)=Region.wanted o (yielded ops a.tmps)):iT P ops C o v a':=by
 unfold iT at*;rw [he,hw];exact hy
theorem U8{C:World->Prop}{j:Nat}{oi oj:Oper}{v:Value}(hj:ops[j]? =some oj)(hap:oi.apart ops oj=true)
  (hsi:∀cs b,oi.op≠ .select cs b)(hsj:∀cs b,oj.op≠ .select cs b)
  (hQ:∀c a w,Q (.panic c) (a.put oi.dst v) w->Q (.panic c) a w){K:Act->World->Prop}{a:Act}{w:World}
  (hy:iT P ops C oi v a)(h:r6 P ops Q j K (a.put oi.dst v) w):
  r6 P ops Q j (λa' w'=>iT P ops C oi v a'/\K (a'.put oi.dst v) w') a w:=by
 obtain ⟨h1,h2,h3⟩:=Oper.apart_spec hap;have c5:∀(a:Act),iT P ops C oi v a->∀u,iT P ops C oi v (a.put oj.dst u):=λa hy u=>
  hy.of_same (execOp_put oi hsi a oj.dst u h3) (wanted_put oi a oj.dst u h3)
 have keepD:∀d,iT P ops C oi v {a with defers:=d::a.defers}:=λd=>hy.of_same rfl rfl
 unfold r6 at*;simp only [hj] at*;rw [wanted_put oj a oi.dst v h1] at h;split
 ·rename_i hw;simp only [hw,if_true] at h;refine ⟨h.1,?_⟩;have h:=h.2;rw [execOp_put oj hsj a oi.dst v h1] at h;generalize (execOp a.eval oj).run P w=r at*
  cases r with
  |ok n w'=>
   cases n<;>simp only [Oper.uponIn] at h ⊢
   case value u=>exact ⟨c5 a hy u,by rw [<-Act.put_comm a v u h2];exact h⟩
   case skip=>exact ⟨c5 a hy _,by rw [<-Act.put_comm a v undef h2];exact h⟩
   case defer d=>
    refine ⟨c5 _ (keepD d) _,?_⟩;rw [<-Act.put_comm _ v undef h2,<-Act.put_defers];exact h
   case enter f args=>
    refine ⟨h.1,CallsIn.mono h.2 λe w'' he=> ?_⟩
    cases e with
    |returned u=>exact ⟨c5 a hy u,by rw [<-Act.put_comm a v u h2];exact he⟩
    |panicked c=>exact hQ _ _ _ he
    |outgrown=>exact he
   case row row args=>exact ⟨h.1,RowsIn.mono h.2 λu w'' he=>⟨c5 a hy u,by rw [<-Act.put_comm a v u h2];exact he⟩⟩
   case round l f tmps assign body=>
    refine ⟨h.1,RoundIn.mono h.2 λe w'' he=> ?_⟩
    cases e with
    |returned u=>exact ⟨c5 a hy u,by rw [<-Act.put_comm a v u h2];exact he⟩
    |panicked c=>exact hQ _ _ _ he
    |outgrown=>exact he
  |halt x w'=>
   cases x<;>simp only [Oper.uponIn] at h ⊢
   case panic u=>exact hQ _ _ _ h
 ·rename_i hw;simp only [hw] at h;exact ⟨c5 a hy _,by rw [<-Act.put_comm a v undef h2];exact h⟩
theorem U9{q:rD}{oi:Oper}{v:Value}(hi:ops[q.i]? =some oi)(hnd:∀c,oi.op≠ .defer c)(FJ:∀(j:Nat)(o:Oper) cs b,ops[j]? =some o->o.op≠ .select cs b)
  (hQ:∀c a w,Q (.panic c) (a.put oi.dst v) w->Q (.panic c) a w):
  ∀(fuel:Nat)(l:List rD)(listed:Array Bool)(a:Act)(w:World),
   (∀j oj,ops[j]? =some oj->j≠q.i->listed.getD j true=false->(∀e ∈ oj.after,Region.binds .any e=true->e.on≠q.i)->oi.apart ops oj=true)->
   q.i ∈ Region.ready .any ops listed->iT P ops q.holds oi v a->q.holds w->
   U7 P ops Q fuel (q::l) (listed.setIfInBounds q.i true) (a.put oi.dst v) w->(∀x ∈ l,x.holds w)->U7 P ops Q (fuel+1) l listed a w:=by
 intro fuel
 induction fuel with
 |zero=>
  intro l listed a w _ hr hy hh H hl;refine ⟨λh=>(by rw [h] at hr;cases hr),λj hj=> ?_⟩;by_cases hji:j=q.i
  ·subst hji;exact hy.wpOp hi hnd hh ⟨λx hx=>hl x (nB hx),H⟩
  ·have:=ready_mono hj hji;rw [H.1] at this
   cases this
 |succ fuel ih=>
  intro l listed a w hfree hr hy hh H hl;refine ⟨λh=>(by rw [h] at hr;cases hr),λj hj=> ?_⟩;by_cases hji:j=q.i
  ·subst hji;exact hy.wpOp hi hnd hh ⟨λx hx=>hl x (nB hx),EJ _ _ _ _ _ _ (λx hx=>List.mem_cons_of_mem _ (nB hx)) H⟩
  ·have h1:=H.2 j (ready_mono hj hji);obtain ⟨al6,oj,hoj,qA⟩:=mem_ready.1 hj;have aep:∀e ∈ oj.after,Region.binds .any e=true->e.on≠q.i:=λe he hb heq=>by
    have h1:=qA e he hb;have h0:=(mem_ready.1 hr).1;rw [heq] at h1;rcases Nat.lt_or_ge q.i listed.size with h'|h'
    ·simp [h'] at h0 h1;rw [h0] at h1;cases h1
    ·simp [Array.getElem?_eq_none h'] at h1
   have gG:stays ops j (q::l)=q::stays ops j l:=by unfold stays;rw [List.filter_cons];simp only [hoj];rw [if_pos];simp only [L1,Bool.not_eq_true'];rw [Array.any_eq_false'];intro e he hx;simp only [fm,beq_iff_eq] at hx;exact aep e he hx.1 hx.2
   rw [gG] at h1;have h2:=U8 hoj (hfree j oj hoj hji al6 aep) (λcs b=>FJ q.i oi cs b hi) (λcs b=>FJ j oj cs b hoj) hQ hy h1;have hfree':∀k ok,ops[k]? =some ok->k≠q.i->(listed.setIfInBounds j true).getD k true=false->
     (∀e ∈ ok.after,Region.binds .any e=true->e.on≠q.i)->oi.apart ops ok=true:=λk ok hk hki hun mF=>by
    refine hfree k ok hk hki ?_ mF;by_cases Q0:j=k
    ·subst Q0;exact al6
    ·rw [Go.getD_set_ne true Q0] at hun;exact hun
   refine rE (λa' w' h3=> ?_) h2;obtain ⟨g1,g2,g3⟩:=h3;refine ⟨λx hx=>g2 x (List.mem_cons_of_mem _ hx),ih (stays ops j l) (listed.setIfInBounds j true) a' w' hfree' (ready_mono hr (Ne.symm hji)) g1 (g2 q (.head _)) ?_ (λx hx=>g2 x (List.mem_cons_of_mem _ hx))⟩;rw [Array.setIfInBounds_comm _ _ hji];exact g3
end
def agu:List Nat->(Nat->Prop)->Prop
 | [],_=>True
 | [j],F=>F j
 |j::k::r,F=>F j/\agu (k::r) F
theorem L2:∀{l:List Nat} {F:Nat->Prop},agu l F->∀j ∈ l,F j
 | [],_,_,j,h=>by cases h
 | [a],_,h,j,hj=>by
   have:j=a:=by simpa using hj
   subst this;exact h
 |a::b::r,F,h,j,hj=>by
  cases hj with
  |head=>exact h.1
  |tail _ hm=>exact L2 h.2 j hm
def L3:Op->Bool
 | .move _| .pick .. | .extract .. | .fieldAddr .. | .field .. | .nilCheck _| .indexAddr .. | .index .. | .binOp .. | .unOp .. | .convert .. | .slice .. | .load .. =>true
 | .call {callee:=.builtin .len,..}| .call {callee:=.builtin .cap,..}| .call {callee:=.builtin .min,..}| .call {callee:=.builtin .max,..}=>true
 |_=>false
def agv(P:Program):Op->Bool
 | .index t _ _=>isStr P t
 |_=>true
def Y7(P:Program)(ops:Array Oper)(listed:Array Bool)(i:Nat):Bool:=
 match ops[i]? with
 |some o=>match L3 o.op && agv P o.op with|true=>Region.free .any ops listed i|false=>false
 |none=>false
def Js(P:Program)(w:World)(p:Option Addr)(t:TypeId)(F:List Value->Value->Prop):Prop:=
 match sr P t with
 | .sc c=>c.ex λv=>ld w p=some v/\F [v] v
 | .agg l=>if l.length=fH P t/\l.isEmpty=false then exL l λvs=>ag w p 0 vs/\F vs (.agg vs.toArray) else False
def Jt(P:Program)(s:St)(d:Option Tmp)(t:TypeId)(x:SV)(K:Option Addr->List Value->St->Prop):Prop:=
 match x with
 | .loc k off=>match s.known k with
   |some kb=>match sr P t with
    | .sc _=>match kb.cells[off]? with|some v=>K (some ⟨kb.idx,off,none⟩) [v] (s.put d (.val v))|none=>False
    | .agg l=>if l.length=fH P t/\off+l.length<=kb.cells.length then K (some ⟨kb.idx,off,none⟩) ((kb.cells.drop off).take l.length) (s.put d (.val (.agg ((kb.cells.drop off).take l.length).toArray))) else False
   |none=>Js P s.w (some ⟨(s.kn.getD k default).idx,off,none⟩) t λvs v=>K (some ⟨(s.kn.getD k default).idx,off,none⟩) vs (s.put d (.val v))
 | .val (.pointer p)=>Js P s.w p t λvs v=>K p vs (s.put d (.val v))
 |_=>False
def L4(P:Program)(l:List rD)(i:Nat)(o:Oper)(s:St)(K:List rD->St->Prop):Prop:=
 match o.op with
 | .load t x=>match okT P t with|true=>Jt P s o.dst t (s.sv x) λp vs s'=>K (⟨i,p,vs⟩::l) s'|false=>False
 |_=>match Sc P s o.op with
  |some (a,n)=>∃ns:List Int,ns.length=n/\ag s.w a 0 (ns.map (Value.int .u8))/\K (⟨i,a,ns.map (Value.int .u8)⟩::l) (s.put o.dst (.val (.string (strOfNums ns))))
  |none=>match dU P s o.op with
   |some (cs,sv)=>aP cs (K l (s.put o.dst sv))
   |none=>False
def quiet(P:Program)(s:St)(o:Oper):Bool:=
 match o.op with
 | .box .. | .alloc .. | .buildSlice .. | .build .. | .makeFunc .. =>true
 |_=>match dU P s o.op with|some _=>true|none=>false
def Sf(P:Program)(s:St)(o:Oper)(l:List rD)(w':World):List Prop:=
 match quiet P s o with
 |true=> []
 |false=>l.map λq=>q.holds w'
def Sg(P:Program)(ops:Array Oper)(K:St->Prop):Nat->List rD->Array Bool->St->Prop
 |0,_,listed,s=>match Region.ready .any ops listed with| []=>K s|_=>False
 |fuel+1,l,listed,s=>
  match (Region.ready .any ops listed).find? (Y7 P ops listed) with
  |some i=>match ops[i]? with
   |some o=>qx ops o s (λs=>L4 P l i o s λl' s'=>Sg P ops K fuel l' (listed.setIfInBounds i true) s')
    (λs=>Sg P ops K fuel l (listed.setIfInBounds i true) (s.put o.dst (.val undef)))
   |none=>False
  |none=>match Region.ready .any ops listed with
   | []=>K s
   |js=>agu js λj=>match ops[j]? with
    |some o=>qx ops o s (λs=>U5 P s o λs'=>aP (Sf P s o (stays ops j l) s'.w) (Sg P ops K fuel (stays ops j l) (listed.setIfInBounds j true) s'))
     (λs=>Sg P ops K fuel (stays ops j l) (listed.setIfInBounds j true) (s.put o.dst (.val undef)))
    |none=>False
section
variable {P:Program} {s:St} {o:Oper} {K:St->Prop} {Q:Exit->Act->World->Prop} {ops:Array Oper}
def uO(w w':World):Prop:=∀a v,w.cell? a=some v->w'.cell? a=some v
theorem uO.refl(w:World):uO w w:=λ_ _ h=>h
theorem uO.alloc(w:World)(ob:Obj):uO w (w.alloc ob):=λa v h=>by
 rw [World.cell?_alloc_lt];exact h
 unfold World.cell? at h
 split at h
 ·rename_i c e f hb;exact (rP.1 hb).1
 ·cases h
theorem uO.ld{w w':World}(h:uO w w'){p:Option Addr}{v:Value}(hl:ld w p=some v):ld w' p=some v:=by
 cases p with
 |none=>simp [Vc.ld] at hl
 |some a=>exact h a v hl
theorem uO.ag{w w':World}(h:uO w w'){p:Option Addr}:∀{i:Nat} {vs:List Value},ag w p i vs->ag w' p i vs
 |_,[],_=>trivial
 |_,[_],hl=>h.ld hl
 |_,_::_::_,hl=>⟨h.ld hl.1,h.ag hl.2⟩
theorem agw{a:Act}{w w':World}{v:Value}{K':Act->World->Prop}{G:World->Prop}(hr:(execOp a.eval o).run P w=.ok (.value v) w')(hg:G w')
  (h:o.WU P a w K' Q):o.WU P a w (λa' w''=>K' a' w''/\G w'') Q:=by
 obtain ⟨h1,h⟩:=h;refine ⟨h1,?_⟩;rw [hr] at h ⊢;exact ⟨h,hg⟩
theorem Va(bt:s.Ok)(hq:quiet P s o=true)(h:U5 P s o K):∃v w',(execOp s.act.eval o).run P s.w=.ok (.value v) w'/\uO s.w w':=by
 rw [St.eval_eq];unfold U5 at h;split at h
 ·rename_i cs sv hp;rw [bE] at h;exact ⟨_,_,qJ hp h.1 _,uO.refl _⟩
 ·rename_i hp;obtain ⟨dst,op,ty,pos,after,guard⟩:=o;unfold quiet at hq;simp only at hq h hp
  cases op with
  |box t x=>exact ⟨_,_,by
   show (do pure (Next.value (<-Instr.box t (s.ev x))):Sem Next).run P s.w=_;rw [Sem.run_bind,RH];rfl,uO.alloc _ _⟩
  |alloc t=>
   unfold HR at h;simp only at h;split at h
   ·rename_i cs hz;exact ⟨_,_,by
     show (do pure (Next.value (<-Instr.alloc t true (.tuple #[]))):Sem Next).run P s.w=_;rw [Sem.run_bind,Ha hz];rfl,uO.alloc _ _⟩
   ·cases h
  |build t parts=>
   unfold HR at h;simp only at h;split at h
   ·rename_i cs hb;exact ⟨_,_,by
     show (do pure (Next.value (<-Instr.build t (parts.map λ(i,x)=>(i,s.ev x)))):Sem Next).run P s.w=_;rw [Sem.run_bind,run_build _ _ _ cs (by simpa using hb)];rfl,uO.refl _⟩
   ·cases h
  |buildSlice t len parts=>
   unfold HR at h;simp only at h;unfold nh at h;split at h
   ·rename_i e cells hc;exact ⟨_,_,by
     show (do pure (Next.value (<-Instr.buildSlice t len (Jm s parts))):Sem Next).run P s.w=_;rw [Sem.run_bind,rZ hc s.w];rfl,uO.alloc _ _⟩
   ·cases h
  |makeFunc fn first captured=>exact ⟨.func fn (first.map s.ev) (captured.map s.ev),s.w,rfl,uO.refl _⟩
  |_=>simp [hp] at hq
theorem fK(p:Option Addr):af p 0=p:=by cases p<;>simp [af,Addr.add]
theorem EK{t:TypeId}{p:Option Addr}{F:List Value->Value->Prop}{w:World}(hu:(P.underlying t).isSome=true)(h:Js P w p t F):
  ∃a vs v,p=some a/\F vs v/\ag w p 0 vs/\∀w',ag w' p 0 vs->(Instr.loadAt t (.pointer (some a))).run P w'=.ok v w':=by
 obtain ⟨d,hu⟩:=nH.1 hu;unfold Js at h
 cases ht:sr P t with
 |sc c=>
  rw [ht] at h;obtain ⟨v,h1,h2⟩:=S.kL h
  cases p with
  |none=>simp [ld] at h1
  |some a=>
   refine ⟨a,[v],v,rfl,h2,by simpa [ag,fK] using h1,λw' hw'=> ?_⟩;have SX:w'.cell? a=some v:=by simpa [ag,fK,ld] using hw'
   simp [Instr.loadAt,Instr.sureAddr,loadVar,lJ w' hu,Ku ht,SX]
 |agg l=>
  simp only [ht] at h;split at h
  ·rename_i hl;have:∃vs,vs.length=l.length/\ag w p 0 vs/\F vs (.agg vs.toArray):=by
    have key:∀(l:List S)(G:List Value->Prop),exL l G->∃vs,vs.length=l.length/\G vs:=by
     intro l
     induction l with
     |nil=>intro G hG;exact ⟨[],rfl,hG⟩
     |cons c r ih=>
      rintro G ⟨x,hx⟩;obtain ⟨vs,h1,h2⟩:=ih _ hx;exact ⟨_,by simp [h1],h2⟩
    exact key l _ h
   obtain ⟨vs,e,h1,h2⟩:=this;have hi:=info_of_underlying hu;have hp:∃a,p=some a:=by
    cases p with
    |some a=>exact ⟨a,rfl⟩
    |none=>
     have h0:0<vs.length:=by
      cases l with
      |nil=>simp at hl
      |cons _ _=>simp at e;omega
     have:=lK h1 0 h0;simp [ld,af,cZ h0] at this
   obtain ⟨a,rfl⟩:=hp;refine ⟨a,vs,_,rfl,h2,h1,λw' hw'=> ?_⟩;simp only [Instr.loadAt,Instr.sureAddr,loadVar,Sem.run_bind,Sem.run_pure,Result.andThen_ok,lJ w' hu,Di ht,if_true,eS hi,loadCells];rw [lp _ 0 #[] vs ab (λj hj=>by have:=lK hw' j ab;simpa [ld,af] using this)];simp
  ·cases h
theorem lX{w:World}{p:Option Addr}:∀{i:Nat} {vs:List Value},(∀j,j<vs.length->ld w (af p (i+j))=vs[j]?)->ag w p i vs
 |_,[],_=>trivial
 |i,[v],h=>by have:=h 0 bB;simpa [ag] using this
 |i,v::u::r,h=>⟨by have:=h 0 bB;simpa using this,lX λj hj=>by
  have:=h (j+1) (by simpa using hj)
  rw [show i+(j+1)=i+1+j by omega] at this
  rw [this];simp⟩
theorem L5{d:Option Tmp}{t:TypeId}{x:SV}{K2:Option Addr->List Value->St->Prop}(bt:s.Ok)(hu:(P.underlying t).isSome=true)(h:Jt P s d t x K2):
  ∃a vs v,x.bY s.kn=.pointer (some a)/\K2 (some a) vs (s.put d (.val v))/\ag s.w (some a) 0 vs/\∀w',ag w' (some a) 0 vs->(Instr.loadAt t (.pointer (some a))).run P w'=.ok v w':=by
 unfold Jt at h;split at h
 ·rename_i k off;split at h
  ·rename_i kb hkb;obtain ⟨h1,h2⟩:=qK hkb;have hb:=bt.aX k kb h1 h2;have iU:(s.kn.getD k default).idx=kb.idx:=by simp [dS,h1]
   obtain ⟨dd,hu'⟩:=nH.1 hu;split at h
   ·rename_i c ht;split at h
    ·rename_i v hv;refine ⟨⟨kb.idx,off,none⟩,[v],v,by rw [SV.bY,iU],h,?_,λw' hw'=> ?_⟩
     ·simp [ag,fK,ld,cell_of hb,hv]
     ·have SX:w'.cell? ⟨kb.idx,off,none⟩=some v:=by simpa [ag,fK,ld] using hw'
      simp [Instr.loadAt,Instr.sureAddr,loadVar,lJ _ hu',Ku ht,SX]
    ·cases h
   ·rename_i l ht;split at h
    ·rename_i hl;have dI:((kb.cells.drop off).take l.length).length=l.length:=by simp;omega
     refine ⟨⟨kb.idx,off,none⟩,(kb.cells.drop off).take l.length,_,by rw [SV.bY,iU],h,?_,λw' hw'=> ?_⟩
     ·refine lX λj hj=> ?_
      rw [dI] at hj;simp [ld,af,mU,cell_of hb,List.getElem?_take,List.getElem?_drop,hj]
     ·simp only [Instr.loadAt,Instr.sureAddr,loadVar,Sem.run_bind,Sem.run_pure,Result.andThen_ok,lJ _ hu',Di ht,if_true,eS (info_of_underlying hu'),loadCells];rw [lp _ 0 #[] ((kb.cells.drop off).take l.length) ab (λj hj=>by have:=lK hw' j ab;simpa [ld,af] using this)];simp
    ·cases h
  ·obtain ⟨a,vs,v,h1,h2,h3,h4⟩:=EK hu h
   cases h1
   exact ⟨_,vs,v,rfl,h2,h3,h4⟩
 ·rename_i p;obtain ⟨a,vs,v,h1,h2,h3,h4⟩:=EK hu h;subst h1;exact ⟨a,vs,v,rfl,h2,h3,h4⟩
 ·cases h
end
section
variable {P:Program} {s:St} {o:Oper} {K:St->Prop} {Q:Exit->Act->World->Prop} {ops:Array Oper}
theorem EM{q:rD}(hq:∀w,q.holds w):∀(fuel:Nat)(l:List rD)(listed:Array Bool)(a:Act)(w:World),U7 P ops Q fuel l listed a w->U7 P ops Q fuel (q::l) listed a w
 |0,_,_,_,_,h=>h
 |fuel+1,l,listed,a,w,h=>⟨h.1,λj hj=>rE (λa' w' hk=>by
  have gG:stays ops j (q::l)=q::stays ops j l\/stays ops j (q::l)=stays ops j l:=by unfold stays;rw [List.filter_cons];split<;>simp
  rcases gG with e|e
  ·rw [e];refine ⟨λx hx=> ?_,EM hq fuel _ _ _ _ hk.2⟩
   cases hx with
   |head=>exact hq _
   |tail _ hm=>exact hk.1 x hm
  ·rw [e];exact hk) (h.2 j hj)⟩
theorem L6{op:Op}(h:L3 op=true):∀c,op≠ .defer c:=by rintro c rfl;cases h
theorem Y8{l:List Nat}{f:Nat->Bool}{i:Nat}(h:l.find? f=some i):i ∈ l/\f i=true:=⟨List.mem_of_find?_eq_some h,List.find?_some h⟩
def Qr(W:List Nat)(s0:St)(K:St->Prop):Exit->Act->World->Prop
 | .normal,a,w=>aeO W s0 K a w
 |_,_,_=>False
theorem nC(hP:BX P)(FJ:Region.noSelect ops=true)(W:List Nat)(s0:St)(hW:∀(j:Nat)(o:Oper) d,ops[j]? =some o->o.dst=some d->d ∈ W):
  ∀(fuel:Nat)(l:List rD)(listed:Array Bool)(s:St),s.Ok->Fr W s0 s->(∀q ∈ l,q.holds s.w)->Sg P ops K fuel l listed s->U7 P ops (Qr W s0 K) fuel l listed s.act s.w
 |0,l,listed,s,bt,Kj,hl,h=>by
  unfold Sg at h
  split at h
  ·rename_i hr;exact ⟨hr,s,bt,rfl,rfl,Kj,h⟩
  ·cases h
 |fuel+1,l,listed,s,bt,Kj,hl,h=>by
  unfold Sg at h
  have J2:∀{j:Nat} {o:Oper},ops[j]? =some o->∀i ∈ o.dst.toList,i ∈ W:=λ{j o} ho=>EI λx hx=>hW j o x ho hx
  split at h
  ·rename_i i hfind
   obtain ⟨mg,hfree⟩:=Y8 hfind
   unfold Y7 at hfree
   split at h
   ·rename_i o ho
    rw [ho] at hfree
    simp only at hfree
    split at hfree
    case h_2=>cases hfree
    rename_i hkind2
    have hkind:=(fm _ _▸hkind2).1
    have hspec:=Region.free_spec ho hfree
    have first:∀(q:rD)(v:Value)(s':St),q.i=i->iT P ops q.holds o v s.act->q.holds s.w->s'.Ok->Fr W s0 s'->s'.act=s.act.put o.dst v->s'.w=s.w->
      U7 P ops (Qr W s0 K) fuel (q::l) (listed.setIfInBounds i true) s'.act s'.w->U7 P ops (Qr W s0 K) (fuel+1) l listed s.act s.w:=by
     rintro q v s' rfl hy hh h1 h2 h3 h4 H;rw [h3,h4] at H;exact U9 ho (L6 hkind) (λj o cs b=>Region.noSelect_spec FJ j o cs b) (λc a w hq=>hq) fuel l listed s.act s.w (λj oj=>hspec j oj) mg hy hh H hl
    rcases tJ bt h with ⟨hw,s1,pQ,h1⟩|⟨hw,s1,pQ,h1⟩
    ·unfold L4 at h1;have hfr1:Fr W s0 s1:=Kj.trans (pQ.fr.mono bB);split at h1
     ·rename_i t x hop;split at h1
      case h_2=>cases h1
      rename_i hu;obtain ⟨a,vs,v,g1,g2,g3,g4⟩:=L5 pQ.ok (tI hu) h1;obtain ⟨s2,k1,k2,k3,k4,k5⟩:=fj (d:=o.dst) (v:=v) (K:=λs'=>Sg P ops K fuel (⟨i,some a,vs⟩::l) (listed.setIfInBounds i true) s') pQ.ok g2;rw [pQ.act] at k2;rw [pQ.w] at k3 g3;refine first ⟨i,some a,vs⟩ v s2 rfl (.inl ⟨hw,λw' hw'=> ?_⟩) g3 k1 (hfr1.trans (k4.mono (J2 ho))) k2 k3 ?_
      ·rw [<-pQ.act,St.eval_eq];have:execOp s1.ev o=(do pure (.value (<-Instr.loadAt t (s1.ev x)))):=by obtain ⟨dst,op,ty,pos,after,guard⟩:=o;simp only at hop;subst hop;rfl
       rw [this,Sem.run_bind,St.ev,g1,g4 w' hw'];rfl
      ·exact nC hP FJ W s0 hW fuel _ _ s2 k1 (hfr1.trans (k4.mono (J2 ho))) (λq hq=>by
        cases hq with
        |head=>rw [k3];exact g3
        |tail _ hm=>rw [k3];exact hl q hm) k5
     ·split at h1
      ·rename_i a n hc;obtain ⟨ns,hn,g3,h1⟩:=h1;obtain ⟨s2,k1,k2,k3,k4,k5⟩:=fj (d:=o.dst) (v:=.string (strOfNums ns)) (K:=λs'=>Sg P ops K fuel (⟨i,a,ns.map (Value.int .u8)⟩::l) (listed.setIfInBounds i true) s') pQ.ok h1;rw [pQ.act] at k2;rw [pQ.w] at k3 g3;refine first ⟨i,a,ns.map (Value.int .u8)⟩ (.string (strOfNums ns)) s2 rfl (.inl ⟨hw,λw' hw'=> ?_⟩) g3 k1 (hfr1.trans (k4.mono (J2 ho))) k2 k3 ?_
       ·rw [<-pQ.act,St.eval_eq];exact HP hc hn hw'
       ·exact nC hP FJ W s0 hW fuel _ _ s2 k1 (hfr1.trans (k4.mono (J2 ho))) (λq hq=>by
         cases hq with
         |head=>rw [k3];exact g3
         |tail _ hm=>rw [k3];exact hl q hm) k5
      split at h1
      ·rename_i cs sv hp;rw [bE] at h1;obtain ⟨s2,k1,k2,k3,k4,k5⟩:=j8 (a:=s1.act.put o.dst (sv.bY s1.kn)) (w:=s1.w) (d:=o.dst) (K:=λs'=>Sg P ops K fuel l (listed.setIfInBounds i true) s') h1.2 pQ.ok rfl (su.refl _) pQ.ok.aX pQ.ok.ne (Dd pQ.ok hp) rfl rfl;rw [pQ.act] at k2;rw [pQ.w] at k3;refine first ⟨i,none,[]⟩ (sv.bY s1.kn) s2 rfl (.inl ⟨hw,λw' _=> ?_⟩) trivial k1 (hfr1.trans (k4.mono (J2 ho))) k2 k3 ?_
       ·rw [<-pQ.act,St.eval_eq];exact qJ hp h1.1 w'
       ·exact EM (q:=⟨i,none,[]⟩) (λ_=>trivial) _ _ _ _ _ (nC hP FJ W s0 hW fuel _ _ s2 k1 (hfr1.trans (k4.mono (J2 ho))) (λq hq=>by rw [k3];exact hl q hq) k5)
      ·cases h1
    ·have hfr1:Fr W s0 s1:=Kj.trans (pQ.fr.mono bB);obtain ⟨s2,k1,k2,k3,k4,k5⟩:=fj (d:=o.dst) (v:=undef) (K:=λs'=>Sg P ops K fuel l (listed.setIfInBounds i true) s') pQ.ok h1;rw [pQ.act] at k2;rw [pQ.w] at k3;refine first ⟨i,none,[]⟩ undef s2 rfl (.inr ⟨hw,rfl⟩) trivial k1 (hfr1.trans (k4.mono (J2 ho))) k2 k3 ?_;exact EM (q:=⟨i,none,[]⟩) (λ_=>trivial) _ _ _ _ _ (nC hP FJ W s0 hW fuel _ _ s2 k1 (hfr1.trans (k4.mono (J2 ho))) (λq hq=>by rw [k3];exact hl q hq) k5)
   ·cases h
  ·split at h
   ·rename_i hr;exact ⟨λ_=>⟨s,bt,rfl,rfl,Kj,h⟩,λj hj=>by rw [hr] at hj;cases hj⟩
   ·rename_i hr;refine ⟨λh0=>absurd h0 hr,λj hj=> ?_⟩;have hj':=L2 h j hj;split at hj'
    ·rename_i o ho;have step:∀a w,iu o.dst s (λs'=>(∀q ∈ stays ops j l,q.holds s'.w)/\Sg P ops K fuel (stays ops j l) (listed.setIfInBounds j true) s') a w->
       (∀q ∈ stays ops j l,q.holds w)/\U7 P ops (Qr W s0 K) fuel (stays ops j l) (listed.setIfInBounds j true) a w:=by
      rintro a w ⟨s2,k1,rfl,rfl,k4,k5,k6⟩;exact ⟨k5,nC hP FJ W s0 hW fuel _ _ s2 k1 (Kj.trans (k4.mono (J2 ho))) k5 k6⟩
     unfold r6;simp only [ho];rcases tJ bt hj' with ⟨hw,s1,pQ,h1⟩|⟨hw,s1,pQ,h1⟩
     ·rw [if_pos hw];have hl1:∀q ∈ stays ops j l,q.holds s1.w:=λq hq=>by rw [pQ.w];exact hl q (nB hq)
      have h2:=EH (Q:=Qr W s0 K) hP pQ.ok h1;have h3:o.WU P s1.act s1.w (λa w=>(∀q ∈ stays ops j l,q.holds w)/\U7 P ops (Qr W s0 K) fuel (stays ops j l) (listed.setIfInBounds j true) a w) (Qr W s0 K):=by
       cases hq:quiet P s1 o with
       |true=>
        obtain ⟨v,w',g1,g2⟩:=Va pQ.ok hq h1;refine Oper.qw (λa w hh=> ?_) (agw (G:=λw=>uO s1.w w) g1 g2 h2);obtain ⟨hp,hg⟩:=hh;refine step a w (iu.Y5 pQ ?_);obtain ⟨s2,k1,k2,k3,k4,k5⟩:=hp;rw [bE] at k5;exact ⟨s2,k1,k2,k3,k4,λq hq=>by rw [k3];exact hg.ag (hl1 q hq),k5.2⟩
       |false=>
        refine Oper.qw (λa w hp=>step a w (iu.Y5 pQ ?_)) h2;obtain ⟨s2,k1,k2,k3,k4,k5⟩:=hp;rw [bE] at k5;refine ⟨s2,k1,k2,k3,k4,λq hq'=> ?_,k5.2⟩;refine k5.1 _ ?_;unfold Sf;rw [hq];exact aZ.2 ⟨q,hq',rfl⟩
      rw [pQ.act,pQ.w] at h3;exact h3
     ·rw [if_neg (by simp [hw])];obtain ⟨s2,k1,k2,k3,k4,k5⟩:=fj (d:=o.dst) (v:=undef) (K:=λs'=>Sg P ops K fuel (stays ops j l) (listed.setIfInBounds j true) s') pQ.ok h1;rw [pQ.act] at k2;rw [pQ.w] at k3;rw [<-k2,<-k3];exact step _ _ (iu.Y5 pQ ⟨s2,k1,rfl,rfl,k4,λq hq=>by rw [k3];exact hl q (nB hq),k5⟩)
    ·cases hj'
end
def writes:Code->List Nat
 | .region _ ops _=>dstsOf ops.toList
 | .seq a b=>writes a++writes b
 | .cond _ a b=>writes a++writes b
 | .block _ a=>writes a
 | .loop a=>writes a
 | .scope a=>writes a
 | .rangeFunc _ ps a b=>ps.toList++writes a++writes b
 |_=> []
def lr:Code->Option Nat
 | .region id _ _=>some id
 | .seq a b=>match lr a with|some i=>some i|none=>lr b
 | .cond _ a b=>match lr a with|some i=>some i|none=>lr b
 | .block _ a=>lr a
 | .loop a=>lr a
 | .scope a=>lr a
 |_=>none
structure Carry where
 oo:List (Nat × S)
 blocks:List (Nat × List S)
 kH:List Nat
structure Ann where
 loops:List (Nat × Carry)
 aoV:List (Nat × Carry)
 aoW:List (Nat × Carry × List T1):=[]
def jA:Code->Bool
 | .seq a b=>jA a && jA b
 | .cond _ a b=>jA a && jA b
 | .block _ a=>jA a
 | .loop a=>jA a
 | .scope _=>false
 | .rangeFunc .. =>false
 |_=>true
def T1.all:T1->(Value->Prop)->Prop
 | .sc s,F=>s.all F
 | .agg l,F=>sq l λvs=>F (.agg vs.toArray)
def agx:List T1->(List Value->Prop)->Prop
 | [],F=>F []
 |t::r,F=>t.all λv=>agx r λvs=>F (v::vs)
structure Step(F F':Nat->Prop)(w w':World):Prop where
 sub:∀i,F' i->F i\/w.heap.size<=i
 size:w.heap.size<=w'.heap.size
 same:∀i,i<w.heap.size->¬F i->w'.heap[i]? =w.heap[i]?
theorem Step.late{F F':Nat->Prop}{w w':World}(h:Step F F' w w'){k:Nat}:Step (λi=>F i\/k<=i) F' w w':=⟨λi hi=>(h.sub i hi).elim (λq=> .inl (.inl q)) .inr,h.size,λi hi hn=>h.same i hi λq=>hn (.inl q)⟩
def ajK{α:Type}(B:Nat)(I:α->(Nat->Prop)->World->Prop):Prop:=
 ∀n F w w',I n F w->Below B w w'->(∀i,F i->w'.heap[i]? =w.heap[i]?)->I n F w'
def Iter(P:Program)(gv:Value)(W0:World)(Rd:Nat->Prop)(xs:List (List Value)):Prop:=
 (∃f first cap,gv=.func (.func f) first cap/\uk P f=true)/\∀(y:Value)(B:Nat)(J:Nat->(Nat->Prop)->World->Prop)(Jx:Unit->(Nat->Prop)->World->Prop)(F0:Nat->Prop)(W:World),
  B<=W.heap.size->ajK B J->ajK B Jx->(∀n F w,J n F w->∀i,F i->i<w.heap.size)->
  (∀i,Rd i->¬F0 i/\i<W.heap.size/\W.heap[i]? =W0.heap[i]?)->
  (∀n x F w,xs[n]? =some x->J n F w->cr P y x w λe w'=>
   (e=.returned (.bool true)/\∃F',J (n+1) F' w'/\Step F F' w w')\/(e=.returned (.bool false)/\∃F',Jx () F' w'/\Step F F' w w'))->
  J 0 F0 W->cr P gv [y] W λe w'=>(∃v,e=.returned v)/\((∃F',J xs.length F' w')\/∃F',Jx () F' w')
structure KO(B:Nat)(w w1:World):Prop where
 ext:Below w.heap.size w w1
 at_:B=w.heap.size
 size:w1.heap.size=B+2
def Y9(l:List (Option Nat)):List (Option Nat)->List (Option Nat)
 | []=>l
 |x::r=>Y9 (if l.contains x then l else l++ [x]) r
def jI:Code->List (Option Nat)
 | .exit id=> [some id]
 | .ret=> [none]
 | .seq a b=>Y9 (jI a) (jI b)
 | .cond _ a b=>Y9 (jI a) (jI b)
 | .block id a=>(jI a).filter (· !=some id)
 | .loop a=>jI a
 |_=> []
def ajL:Option Nat->Exit|none=> .ret|some id=> .exit id
def HS:Option Nat->Code|none=> .ret|some id=> .exit id
def agy:List (Option Nat)->(Option Nat->Prop)->Prop
 | [],_=>True
 | [j],F=>F j
 |j::k::r,F=>F j/\agy (k::r) F
theorem L7:∀{l:List (Option Nat)} {F:Option Nat->Prop},agy l F->∀j ∈ l,F j
 | [],_,_,j,h=>by cases h
 | [a],_,h,j,hj=>by
   have:j=a:=by simpa using hj
   subst this;exact h
 |a::b::r,F,h,j,hj=>by
  cases hj with
  |head=>exact h.1
  |tail _ hm=>exact L7 h.2 j hm
def Carry.bQ(c:Carry):List S:=c.oo.map (·.2)++c.blocks.flatMap (·.2)
def Carry.oI(c:Carry)(s:St):List Value:=c.oo.map (λx=>(s.sl.getD x.1 (.val undef)).bY s.kn)++c.blocks.flatMap λx=>(s.kn.getD x.1 default).cells
def lZ:List SV->List (Nat × S)->List Value->List SV
 |sl,(i,_)::r,v::vs=>lZ (sl.set i (.val v)) r vs
 |sl,_,_=>sl
def eQ:List KB->List (Nat × List S)->List Value->List KB
 |kn,(k,ss)::r,vs=>eQ (kn.modify k λb=>{b with cells:=vs.take ss.length}) r (vs.drop ss.length)
 |kn,[],_=>kn
def gT(us:Nat->Value)(W:List Nat):Nat->List SV->List SV
 |_,[]=> []
 |i,v::r=>(if W.contains i then .val (us i) else v)::gT us W (i+1) r
def Carry.head(c:Carry)(W:List Nat)(us:Nat->Value)(vs:List Value)(w:World)(s:St):St:=
 {sl:=lZ (gT us W 0 s.sl) c.oo vs,w:=w,kn:=eQ s.kn c.blocks (vs.drop c.oo.length),df:=s.df}
def Carry.L8(c:Carry)(s s':St):Bool:=
 s'.df.length==s.df.length &&(List.range s.kn.length).all λk=>(s.kn.getD k default).live==(s'.kn.getD k default).live
def Carry.agz(c:Carry)(s s':St):List Prop:=
 ((List.range s.kn.length).filter λk=>(s.kn.getD k default).live && !(c.blocks.any λx=>x.1==k)).map λk=>(s'.kn.getD k default).cells=(s.kn.getD k default).cells
def Carry.okB(c:Carry)(s:St):Bool:=
 (c.blocks.all λx=>(s.kn.getD x.1 default).cells.length==x.2.length && x.1<s.kn.length)
def Carry.enter(c:Carry)(s s':St)(I:List Value->World->Prop):Prop:=
 match c.L8 s s' && c.okB s' with
 |true=>aP (c.agz s s') (I (c.oI s') s'.w)
 |false=>False
def ft(P:Program)(an:Ann):Code->St->(Exit->St->Prop)->Prop
 | .skip,s,Q=>Q .normal s
 | .region _ ops draw,s,Q=>match draw with
   |false=>Jp P ops ops.toList s (Q .normal)
   |true=>match Region.noSelect ops with
    |true=>Sg P ops (Q .normal) ops.size [] (Array.replicate ops.size false) {s with w:=s.w.drew}
    |false=>False
 | .seq x y,s,Q=>match (lr y).bind λi=>an.aoV.lookup i with
   |none=>ft P an x s λe s'=>match e with| .normal=>ft P an y s' Q|e=>Q e s'
   |some c=>let s:=s.kill (c.kH.map λk=> .loc k 0)
    ∃J:WR c.bQ (World->Prop),ft P an x s (λe s'=>match e with| .normal=>c.enter s s' (ir c.bQ J)|e=>Q e s')/\
     ∀us:Nat->Value,sq c.bQ λvs=>∀w,ir c.bQ J vs w->ft P an y (c.head (writes x) us vs w s) Q
 | .cond c x y,s,Q=>match s.sv c with
   | .val (.bool b)=>Br b (ft P an x s Q) (ft P an y s Q)
   |_=>False
 | .block id x,s,Q=>ft P an x s λe s'=>match e with| .exit id'=>if id'=id then Q .normal s' else Q (.exit id') s'|e=>Q e s'
 | .loop x,s,Q=>match (lr x).bind λi=>an.loops.lookup i with
   |none=>False
   |some c=>let s:=s.kill (c.kH.map λk=> .loc k 0)
    ∃I:Nat->WR c.bQ (World->Prop),(∃n,c.enter s s (ir c.bQ (I n)))/\
     ∀n:Nat,∀us:Nat->Value,sq c.bQ λvs=>∀w,ir c.bQ (I n) vs w->
      ft P an x (c.head (writes x) us vs w s) λe s'=>match e with| .normal=>∃m,m<n/\c.enter s s' (ir c.bQ (I m))|e=>Q e s'
 | .exit id,s,Q=>Q (.exit id) s
 | .ret,s,Q=>Q .ret s
 | .label _,s,Q=>Q .normal s
 | .scope x,s,Q=>ft P an x s λe s'=>match e with| .goto _=>False|e=>Q e s'
 | .rangeFunc g ps assign body,s,Q=>match (lr body).bind λi=>an.aoW.lookup i with
   |none=>False
   |some (c,ts)=>match jA assign && jA body && c.oo.isEmpty && ts.length==ps.size with
    |false=>False
    |true=>let s:=s.kill (c.kH.map λk=> .loc k 0)
     let s0:St:={s with df:=[]}
     ∃(xs:List (List Value))(Rd F0:Nat->Prop)(I:Nat->(Nat->Prop)->WR c.bQ (World->Prop))(X:Option Nat->(Nat->Prop)->WR c.bQ (World->Prop)),
      (∀x ∈ xs,ex1 ts λpv=>x=pv)/\
      (∀n F,sq c.bQ λvs=>∀w w',ir c.bQ (I n F) vs w->Below s.w.heap.size w w'->(∀i,F i->w'.heap[i]? =w.heap[i]?)->ir c.bQ (I n F) vs w')/\
      (∀n F,sq c.bQ λvs=>∀w w',ir c.bQ (X n F) vs w->Below s.w.heap.size w w'->(∀i,F i->w'.heap[i]? =w.heap[i]?)->ir c.bQ (X n F) vs w')/\
      (∀n F,sq c.bQ λvs=>∀w,ir c.bQ (I n F) vs w->∀i,F i->i<w.heap.size/\i≠s.w.heap.size/\i≠s.w.heap.size+1)/\
      (∀n F,sq c.bQ λvs=>∀w,ir c.bQ (X n F) vs w->∀i,F i->i<w.heap.size/\i≠s.w.heap.size/\i≠s.w.heap.size+1)/\
      (∀i,Rd i->i<s.w.heap.size/\¬F0 i/\aP ((fL s.kn).map λk=>i≠k) True)/\
      (∀w1,KO s.w.heap.size s.w w1->Iter P (s.ev g) w1 Rd xs/\c.enter s0 {s0 with w:=w1} (ir c.bQ (I 0 F0)))/\
      (∀n F (us:Nat->Value),sq c.bQ λvs=>agx ts λpv=>∀w,xs[n]? =some pv->ir c.bQ (I n F) vs w->
       ft P an assign {c.head [] us vs w s0 with sl:=(ps.toList.zip pv).foldl (λsl p=>sl.set p.1 (.val p.2)) (c.head [] us vs w s0).sl} λe s1=>match e with
        | .normal=>Below w.heap.size w s1.w/\∀w2,Rec (s.w.heap.size+1) s1.w w2->ir c.bQ (I n F) vs w2->
          ft P an body {s1 with w:=w2} λe s2=>match e with
           | .normal=>∃F',c.enter s0 s2 (ir c.bQ (I (n+1) F'))/\Step (λi=>(F i\/i ∈ fL s.kn)\/w.heap.size<=i) (λi=>F' i\/i ∈ fL s.kn) w2 s2.w
           | .ret=>(jI body).contains none=true/\∃F',c.enter s0 s2 (ir c.bQ (X none F'))/\Step (λi=>(F i\/i ∈ fL s.kn)\/w.heap.size<=i) (λi=>F' i\/i ∈ fL s.kn) w2 s2.w
           | .exit id=>(jI body).contains (some id)=true/\∃F',c.enter s0 s2 (ir c.bQ (X (some id) F'))/\Step (λi=>(F i\/i ∈ fL s.kn)\/w.heap.size<=i) (λi=>F' i\/i ∈ fL s.kn) w2 s2.w
           |_=>False
        |_=>False)/\
      (∀F (us:Nat->Value),sq c.bQ λvs=>∀w,ir c.bQ (I xs.length F) vs w->w.heap[s.w.heap.size]? =some (.deferred (some []))->Q .normal {c.head [] us vs w s with df:=s.w.heap.size::s.df})/\
      agy (jI body) λj=>∀F (us:Nat->Value),sq c.bQ λvs=>∀w,ir c.bQ (X j F) vs w->w.heap[s.w.heap.size]? =some (.deferred (some []))->Q (ajL j) {c.head [] us vs w s with df:=s.w.heap.size::s.df}
 |_,_,_=>False
section
variable {P:Program} {s:St}
theorem ez:∀{l:List S} {f:WR l (World->Prop)} {vs:List Value} {w:World} {F:List Value->Prop},ir l f vs w->sq l F->F vs/\vs.length=l.length
 | [],_,[],_,_,_,h=>⟨h,rfl⟩
 | [],_,_::_,_,_,ha,_=>ha.elim
 |_::_,_,[],_,_,ha,_=>ha.elim
 |c::r,f,v::vs,w,F,ha,h=>by
  unfold ir at ha
  split at ha
  ·rename_i x hx
   have:=S.afJ hx
   subst this
   have h2:=ez ha (h x)
   exact ⟨h2.1,by simp [h2.2]⟩
  ·exact ha.elim
theorem HT(us:Nat->Value)(W:List Nat):∀(l:List SV)(k i:Nat),(gT us W k l)[i]? =(l[i]?).map λv=>if W.contains (k+i) then .val (us (k+i)) else v
 | [],k,i=>by simp [gT]
 |v::r,k,i=>by
  cases i with
  |zero=>simp [gT]
  |succ i=>
   simp only [gT,Bm]
   rw [HT us W r (k+1) i]
   simp only [show k+1+i=k+(i+1) by omega]
theorem yw{g:Nat->Value}:∀(cs:List (Nat × S))(sl:List SV)(rest:List Value)(i:Nat),
  (lZ sl cs (cs.map (λx=>g x.1)++rest))[i]? =if cs.any (λx=>x.1==i) then (sl[i]?).map λ_=>SV.val (g i) else sl[i]?
 | [],sl,rest,i=>by cases rest<;>simp [lZ]
 |(j,c)::r,sl,rest,i=>by
  simp only [eP,List.cons_append,lZ]
  rw [yw r]
  by_cases e:j=i
  ·subst e
   simp only [List.any_cons,beq_self_eq_true,Bool.true_or,if_true,jR]
   split
   ·split<;>simp_all
   ·split<;>simp_all
  ·simp only [List.any_cons,show (j==i)=false by simpa using e,Bool.false_or,jR,if_neg e]
theorem vo{g:Nat->List Value}:∀(bs:List (Nat × List S))(kn:List KB)(i:Nat),(∀x ∈ bs,(g x.1).length=x.2.length)->
  (eQ kn bs (bs.flatMap λx=>g x.1))[i]? =(kn[i]?).map λb=>if bs.any (λx=>x.1==i) then {b with cells:=g i} else b
 | [],kn,i,_=>by simp [eQ]
 |(k,ss)::r,kn,i,h=>by
  have hk:(g k).length=ss.length:=h (k,ss) bB
  simp only [List.flatMap_cons,eQ]
  rw [<-hk,List.take_left,List.drop_left,vo r _ _ (λx hx=>h x (by simp [hx])),List.getElem?_modify]
  by_cases e:k=i
  ·subst e
   simp only [List.any_cons,beq_self_eq_true,Bool.true_or,if_true]
   cases kn[k]? with
   |none=>rfl
   |some b=>simp
  ·simp only [List.any_cons,show (k==i)=false by simpa using e,Bool.false_or,if_neg e]
   cases kn[i]? with
   |none=>rfl
   |some b=>simp
theorem Ju{c:Carry}{s s':St}{W:List Nat}{I:List Value->World->Prop}(bt:s.Ok)(l8:s'.Ok)(Kj:Fr W s s')(h:c.enter s s' I):
  ∃us,I (c.oI s') s'.w/\(c.head W us (c.oI s') s'.w s).Ok/\(c.head W us (c.oI s') s'.w s).act=s'.act/\Fr W s (c.head W us (c.oI s') s'.w s):=by
 unfold Carry.enter at h;split at h
 case h_2=>exact h.elim
 rename_i hb;rw [bE] at h;obtain ⟨hcells,hI⟩:=h;rw [fm] at hb;obtain ⟨hlive,ik⟩:=hb;have hdf:s'.df=s.df:=Kj.df.2 (by
  unfold Carry.L8 at hlive;rw [fm] at hlive;simpa using hlive.1)
 let g:Nat->Value:=λi=>(s'.sl.getD i (.val undef)).bY s'.kn
 let gb:Nat->List Value:=λk=>(s'.kn.getD k default).cells
 have dI:∀x ∈ c.blocks,(gb x.1).length=x.2.length:=λx hx=>by unfold Carry.okB at ik;have:=List.all_eq_true.1 ik x hx;simp only [fm,beq_iff_eq] at this;exact this.1
 have hvals:c.oI s'=c.oo.map (λx=>g x.1)++c.blocks.flatMap λx=>gb x.1:=rfl
 have hdrop:(c.oI s').drop c.oo.length=c.blocks.flatMap λx=>gb x.1:=by rw [hvals,<-aN (as:=c.oo) (f:=λx=>g x.1),List.drop_left]
 have V6:∀i,(c.head W g (c.oI s') s'.w s).kn[i]? =(s.kn[i]?).map λb=>if c.blocks.any (λx=>x.1==i) then {b with cells:=gb i} else b:=by intro i;show (eQ s.kn c.blocks _)[i]? =_;rw [hdrop,vo _ _ _ dI]
 have iU:su s.kn (c.head W g (c.oI s') s'.w s).kn:=λk kb hk=>by refine ⟨_,by rw [V6,hk];rfl,?_,?_⟩<;>(dsimp only;split<;>rfl)
 have oC:∀i,(c.head W g (c.oI s') s'.w s).sl[i]? =(s.sl[i]?).map λv=>if c.oo.any (λx=>x.1==i) then .val (g i) else if W.contains i then .val (g i) else v:=by intro i;show (lZ _ c.oo _)[i]? =_;rw [hvals,yw,HT];simp only [ep];split<;>cases s.sl[i]? <;>simp
 have hconc:∀(i:Nat)(v:SV),s.sl[i]? =some v->((if c.oo.any (λx=>x.1==i) then SV.val (g i) else if W.contains i then .val (g i) else v).bY (c.head W g (c.oI s') s'.w s).kn)=g i:=by
  intro i v hv;split
  ·rfl
  ·split
   ·rfl
   ·rename_i hW;rw [iU.bY (bt.lI i v hv)];have:=Kj.slot i (by simpa using hW);simp only [dS,hv,Option.getD_some] at this;exact this.symm
 have hblkOk:∀(k:Nat)(kb:KB),(c.head W g (c.oI s') s'.w s).kn[k]? =some kb->kb.live=true->∃kb',s'.kn[k]? =some kb'/\kb'.live=true/\kb'.idx=kb.idx/\kb'.ty=kb.ty/\kb'.cells=kb.cells:=by
  intro k kb h1 h2;rw [V6] at h1
  cases hs:s.kn[k]? with
  |none=>simp [hs] at h1
  |some b=>
   have gZ:k<s.kn.length:=(cG.1 hs).1;obtain ⟨kb',e1,e2,e3⟩:=Kj.kn k b hs;have hl:b.live=kb'.live:=by unfold Carry.L8 at hlive;rw [fm] at hlive;have:=List.all_eq_true.1 hlive.2 k (List.mem_range.2 gZ);simpa [dS,hs,e1] using this
   rw [hs] at h1;simp only [Option.map_some,Option.some.injEq] at h1;split at h1
   ·subst h1;exact ⟨kb',e1,hl▸h2,e2,e3,by simp [gb,dS,e1]⟩
   ·rename_i aep;subst h1;refine ⟨kb',e1,hl▸h2,e2,e3,?_⟩;have:=hcells ((s'.kn.getD k default).cells=(s.kn.getD k default).cells) (aZ.2 ⟨k,List.mem_filter.2 ⟨List.mem_range.2 gZ,?_⟩,rfl⟩)
    ·simpa [dS,hs,e1] using this
    ·simp only [dS,hs,Option.getD_some,h2,Bool.true_and,Bool.not_eq_true'];simpa only [Bool.not_eq_true] using aep
 refine ⟨g,hI,⟨?_,?_,?_⟩,?_,⟨?_,?_,iU,aB _,λ_=>rfl⟩⟩
 ·intro k kb h1 h2;obtain ⟨kb',e1,e2,e3,e4,e5⟩:=hblkOk k kb h1 h2;have:=l8.aX k kb' e1 e2;rw [e3,e4,e5] at this;exact this
 ·intro i j x y h1 h2 h3 h4 h5;obtain ⟨x',a1,a2,a3,_⟩:=hblkOk i x h1 h3;obtain ⟨y',b1,b2,b3,_⟩:=hblkOk j y h2 h4;exact l8.ne i j x' y' a1 b1 a2 b2 (by rw [a3,b3];exact h5)
 ·intro i v hv;rw [oC] at hv
  cases hs:s.sl[i]? with
  |none=>simp [hs] at hv
  |some u=>
   rw [hs] at hv;simp only [Option.map_some,Option.some.injEq] at hv;subst hv;split
   ·trivial
   ·split
    ·trivial
    ·exact (bt.lI i u hs).mono iU.length
 ·simp only [St.act];rw [show (c.head W g (c.oI s') s'.w s).df=s'.df from hdf.symm];congr 1;congr 1;apply iY;intro i;rw [aU,aU,oC]
  cases hs:s.sl[i]? with
  |none=>
   have:s'.sl[i]? =none:=by rw [List.getElem?_eq_none_iff] at hs ⊢;rw [Kj.len];exact hs
   simp [this]
  |some v=>
   have gZ:i<s'.sl.length:=by rw [Kj.len];exact (cG.1 hs).1
   simp only [Option.map_some];rw [hconc i v hs];simp [g,dS,cZ gZ]
 ·have h1:∀i,(c.head W g (c.oI s') s'.w s).sl[i]? =none ↔ s.sl[i]? =none:=λi=>by rw [oC,Option.map_eq_none_iff]
  have e1:=h1 s.sl.length;have e2:=h1 (c.head W g (c.oI s') s'.w s).sl.length;simp only [List.getElem?_eq_none_iff] at e1 e2;omega
 ·intro i hi;simp only [dS,oC]
  cases hs:s.sl[i]? with
  |none=>rfl
  |some v=>
   simp only [Option.map_some,Option.getD_some];rw [hconc i v hs];have:=Kj.slot i hi;simp only [dS,hs,Option.getD_some] at this;simp only [g,dS];exact this
def sa(W:List Nat)(s:St)(Q:Exit->St->Prop):Exit->Act->World->Prop:=
 λe a w=>∃s',s'.Ok/\s'.act=a/\s'.w=w/\Fr W s s'/\Q e s'
theorem sa.of{W W':List Nat}{s h:St}{Q:Exit->St->Prop}{e:Exit}{a:Act}{w:World}(hp:sa W h Q e a w)(Kj:Fr W' s h)(hs:∀i ∈ W,i ∈ W'):sa W' s Q e a w:=by obtain ⟨s',h1,h2,h3,h4,h5⟩:=hp;exact ⟨s',h1,h2,h3,Kj.trans (h4.mono hs),h5⟩
theorem Cc{F:Fence}{n:Nat}{P:Program}{Q:Exit->Act->World->Prop}{a:Act}{w:World}{c:Code}(I:Nat->Act->World->Prop)(n₀:Nat)(h₀:I n₀ a w)
  (round:∀m a w,I m a w->c.wpIn F n P (Exit.then (λa' w'=>∃n',n'<m/\I n' a' w') Q) a w):(Code.loop c).wpIn F n P Q a w:=by
 refine wpIn_loop (λa w=>∃n,I n a w) (λa w=>leastOf (λn=>I n a w)) ⟨n₀,h₀⟩ ?_;intro a w hI;refine wpIn_mono (round _ a w (leastOf_spec hI).1) ?_;intro e a' w' hq
 cases e with
 |normal=>
  obtain ⟨n',gZ,hI'⟩:=hq;exact show (∃n,I n a' w')/\leastOf (λn=>I n a' w')<leastOf (λn=>I n a w) from ⟨⟨n',hI'⟩,Nat.lt_of_le_of_lt ((leastOf_spec ⟨n',hI'⟩).2 n' hI') gZ⟩
 |exit id=>exact hq
 |goto l=>exact hq
 |ret=>exact hq
 |panic ch=>exact hq
 |outgrown=>exact hq
theorem AA(us:Nat->Value):∀(l:List SV)(i:Nat),gT us [] i l=l
 | [],_=>rfl
 |v::r,i=>by
  show (if ([]:List Nat).contains i then SV.val (us i) else v)::gT us [] (i+1) r=_
  rw [AA us r (i+1)];rfl
theorem HU:∀(bs:List (Nat × List S))(kn:List KB)(vs:List Value),fL (eQ kn bs vs)=fL kn
 | [],_,_=>rfl
 |(k,ss)::r,kn,vs=>by
  show fL (eQ (kn.modify k λb=>{b with cells:=vs.take ss.length}) r (vs.drop ss.length))=_
  rw [HU r]
  unfold fL
  induction kn generalizing k with
  |nil=>simp
  |cons b kn ih=>
   cases k with
   |zero=>cases hb:b.live<;>simp [hb]
   |succ k=>
    have:=ih k
    cases hb:b.live<;>simp [hb]<;>simpa using this
theorem Vb{kn:List KB}{k:Nat}{kb:KB}(h:kn[k]? =some kb)(hl:kb.live=true):kb.idx ∈ fL kn:=
 aZ.2 ⟨kb,List.mem_filter.2 ⟨bg h,hl⟩,rfl⟩
theorem Za{s:St}(bt:s.Ok){i:Nat}(h:i ∈ fL s.kn):∃c t,s.w.heap[i]? =some (.cells c t (0,0)):=by obtain ⟨kb,h1,rfl⟩:=aZ.1 h;obtain ⟨h1,h2⟩:=List.mem_filter.1 h1;obtain ⟨k,hk⟩:=List.getElem?_of_mem h1;exact ⟨_,_,bt.aX k kb hk h2⟩
theorem Sh:∀{l:List S} {F:List Value->Prop},exL l F->∃vs,F vs/\∀G:List Value->Prop,sq l G->G vs
 | [],_,h=>⟨[],h,λ_ hg=>hg⟩
 |s::r,F,⟨x,hx⟩=>by
  obtain ⟨vs,h1,h2⟩:=Sh hx
  exact ⟨_,h1,λG hg=>h2 _ (hg x)⟩
theorem T1.agA{t:T1}{F:Value->Prop}(h:t.ex F):∃v,F v/\∀G:Value->Prop,t.all G->G v:=by
 cases t with
 |sc s=>obtain ⟨x,hx⟩:=h;exact ⟨_,hx,λG hg=>hg x⟩
 |agg l=>obtain ⟨vs,h1,h2⟩:=Sh h;exact ⟨_,h1,λG hg=>h2 _ hg⟩
theorem Si:∀{l:List T1} {F:List Value->Prop},ex1 l F->∃vs,F vs/\vs.length=l.length/\∀G:List Value->Prop,agx l G->G vs
 | [],_,h=>⟨[],h,rfl,λ_ hg=>hg⟩
 |t::r,F,h=>by
  obtain ⟨v,h1,h2⟩:=T1.agA h
  obtain ⟨vs,h3,h4,h5⟩:=Si h1
  exact ⟨v::vs,h3,by simp [h4],λG hg=>h5 _ (h2 _ hg)⟩
theorem EN{c:Carry}{s s':St}{W:List Nat}{I:List Value->World->Prop}(xi:c.oo=[])(bt:s.Ok)(l8:s'.Ok)(Kj:Fr W s s')(h:c.enter s s' I):
  ∃us,I (c.oI s') s'.w/\(c.head [] us (c.oI s') s'.w s).Ok/\Fr [] s (c.head [] us (c.oI s') s'.w s)/\(c.head [] us (c.oI s') s'.w s).sl=s.sl:=by
 obtain ⟨us,h1,h2,h3,h4⟩:=Ju bt l8 Kj h;have oC:(c.head [] us (c.oI s') s'.w s).sl=s.sl:=by show lZ (gT us [] 0 s.sl) c.oo _=_;rw [xi,AA];rfl
 have iU:su s.kn (c.head [] us (c.oI s') s'.w s).kn:=h4.kn;refine ⟨us,h1,⟨h2.aX,h2.ne,λi v hv=> ?_⟩,⟨by rw [oC],λi _=> ?_,iU,aB _,λ_=>rfl⟩,oC⟩
 ·rw [oC] at hv;exact (bt.lI i v hv).mono iU.length
 ·rw [oC];simp only [dS]
  cases hg:s.sl[i]? with
  |none=>rfl
  |some u=>exact iU.bY (bt.lI i u hg)
theorem L9:∀(l:List (Tmp × Value))(sl:List SV)(kn:List KB),(l.foldl (λsl p=>sl.set p.1 (.val p.2)) sl).map (SV.bY kn)=l.foldl (λt p=>t.set p.1 p.2) (sl.map (SV.bY kn))
 | [],_,_=>rfl
 |p::r,sl,kn=>by
  simp only [List.foldl_cons]
  rw [L9 r,List.map_set];rfl
theorem Ma:∀(l:List (Tmp × Value))(t:List Value),(l.foldl (λt p=>t.set p.1 p.2) t).toArray=l.foldl (λ(t:Array Value) p=>t.setIfInBounds p.1 p.2) t.toArray
 | [],_=>rfl
 |p::r,t=>by
  simp only [List.foldl_cons]
  rw [Ma r];simp
theorem Mb:∀(l:List (Tmp × Value))(sl:List SV),(l.foldl (λsl p=>sl.set p.1 (.val p.2)) sl).length=sl.length
 | [],_=>rfl
 |p::r,sl=>by simp only [List.foldl_cons];rw [Mb r];simp
theorem Mc{n:Nat}:∀(l:List (Tmp × Value))(sl:List SV),(∀(i:Nat)(v:SV),sl[i]? =some v->v.g9 n)->∀(i:Nat)(v:SV),(l.foldl (λsl p=>sl.set p.1 (.val p.2)) sl)[i]? =some v->v.g9 n
 | [],_,h=>h
 |p::r,sl,h=>by
  simp only [List.foldl_cons]
  refine Mc r _ λi v hv=> ?_
  rw [jR] at hv
  split at hv
  ·split at hv
   ·cases hv;trivial
   ·cases hv
  ·exact h i v hv
theorem HV:∀(l:List (Tmp × Value))(sl:List SV)(i:Nat),i ∉ l.map (·.1)->(l.foldl (λsl p=>sl.set p.1 (.val p.2)) sl)[i]? =sl[i]?
 | [],_,_,_=>rfl
 |p::r,sl,i,h=>by
  simp only [List.foldl_cons]
  rw [HV r _ i (λhm=>h (by simp [hm])),jR,if_neg (λe=>h (by simp [e]))]
theorem Zb(hP : BX P){n : Nat}{an : Ann}{g : Operand}{ps : Array Tmp}{assign body : Code}{Q : Exit → St → Prop}(bt : s.Ok)
  (ha : ∀ (l : Nat) (s : St) (Q : Exit → St → Prop), jA assign = true → s.Ok → ft P an assign s Q → assign.wpIn (Fence.wide.inRound l) 0 P (sa (writes assign) s Q) s.act s.w)
  (hb : ∀ (l : Nat) (s : St) (Q : Exit → St → Prop), jA body = true → s.Ok → ft P an body s Q → body.wpIn (Fence.wide.inRound l) 0 P (sa (writes body) s Q) s.act s.w)
  (h : ft P an (.rangeFunc g ps assign body) s Q) : (Code.rangeFunc g ps assign body).wpIn Fence.wide n P (sa (writes (.rangeFunc g ps assign body)) s Q) s.act s.w := by
 unfold ft at h
 split at h
 ·exact h.elim
 rename_i c ts hc
 split at h
 ·exact h.elim
 rename_i hbool
 simp only [fm, List.isEmpty_iff, beq_iff_eq] at hbool
 obtain ⟨⟨⟨Ki, SY⟩, xi⟩, htl⟩ := hbool
 obtain ⟨q1, q2, q3, q4, q5⟩ := fb (c.kH.map λk => .loc k 0) bt
 have qa := lY (l := c.kH.map λk => .loc k 0) bt
 have qf : Fr (writes (.rangeFunc g ps assign body)) s (s.kill (c.kH.map λk => .loc k 0)) := ⟨by rw [q2], λi _ => by
  rw [q2]
  simp only [dS]
  cases hg : s.sl[i]? with
  | none => rfl
  | some u => exact q4.bY (bt.lI i u hg), q4, by rw [mV]; exact ⟨aB _, λ_ => rfl⟩⟩
 suffices hh : (Code.rangeFunc g ps assign body).wpIn Fence.wide n P (sa (writes (.rangeFunc g ps assign body)) (s.kill (c.kH.map λk => .loc k 0)) Q) s.act s.w from wpIn_mono hh λe a w hp => hp.of qf λi hi => hi
 rw [<- qa, <- q3]
 simp only at h
 generalize s.kill (c.kH.map λk => .loc k 0) = s at *
 have bt := q1
 obtain ⟨xs, Rd, F0, I, X, hsh, hsI, hsX, hbI, hbX, hRd, oq, hround, hdone, hexit⟩ := h
 obtain ⟨B, hB⟩ : ∃ B, B = s.w.heap.size := ⟨_, rfl⟩
 rw [<- hB] at hsI hsX hbI hbX hRd oq hround hdone hexit
 obtain ⟨s0, Kq⟩ : ∃ s0 : St, s0 = { s with df := [] } := ⟨_, rfl⟩
 simp only [<- Kq] at oq hround
 have hok0 : s0.Ok := by rw [Kq]; exact ⟨bt.aX, bt.ne, bt.lI⟩
 have e0 : s0.sl = s.sl ∧ s0.w = s.w ∧ s0.kn = s.kn ∧ s0.df = [] := by rw [Kq]; exact ⟨rfl, rfl, rfl, rfl⟩
 have hlv : ∀ {i}, i ∈ fL s.kn → i < B := λhi => by
  obtain ⟨_, _, h1⟩ := Za bt hi
  rw [hB]; exact (rP.1 h1).1
 refine wpIn_rangeFunc λfn hfn => ?_
 obtain ⟨rec, fQ⟩ : ∃ rec : LoopState → Option Code → Loop, rec = λst pe => { state := st, pending := pe, fn, tmps := s.act.tmps, params := ps, assign, body, defers := B } := ⟨_, rfl⟩
 obtain ⟨W1, hW1⟩ : ∃ W1, (s.w.alloc (.deferred (some []))).alloc (.loop (rec .ready none)) = W1 := ⟨_, rfl⟩
 have hL1 : W1.heap[B + 1]? = some (.loop (rec .ready none)) := by
  rw [<- hW1, hB]; have := World.alloc_heap_new (s.w.alloc (.deferred (some []))) (.loop (rec .ready none)); rwa [World.size_alloc] at this
 have hD1 : W1.heap[B]? = some (.deferred (some [])) := by
  rw [<- hW1, hB]; exact (Below.heap_alloc _ _ _ bB).trans (World.alloc_heap_new s.w _)
 have Om : W1.heap.size = B + 2 := by rw [<- hW1, hB]; simp
 have C4 : Below B s.w W1 := by
  rw [<- hW1]; exact ((Below.refl _ s.w).alloc ab _).alloc (by simp; omega) _
 obtain ⟨⟨⟨f, first, cap, hg, yO⟩, Rk⟩, hen⟩ := oq W1 ⟨hB ▸ C4, hB, Om⟩
 obtain ⟨JJ, hJJ⟩ : ∃ JJ : LoopState → Option Code → ((Nat → Prop) → WR c.bQ (World → Prop)) → (Nat → Prop) → World → Prop, JJ = λst pe K FF w => ∃ F us vs, (∀ i, FF i ↔ (F i ∨ i ∈ fL s.kn) ∨ i = B ∨ i = B + 1) ∧
   (c.head [] us vs w s0).Ok ∧ Fr [] s0 (c.head [] us vs w s0) ∧ (c.head [] us vs w s0).sl = s0.sl ∧ ir c.bQ (K F) vs w ∧ w.heap[B + 1]? = some (.loop (rec st pe)) ∧ w.heap[B]? = some (.deferred (some [])) := ⟨_, rfl⟩
 have stabJ : ∀ {st pe} {K : (Nat → Prop) → WR c.bQ (World → Prop)} {FF w w'}, (∀ F, sq c.bQ λvs => ∀ w w', ir c.bQ (K F) vs w → Below B w w' → (∀ i, F i → w'.heap[i]? = w.heap[i]?) → ir c.bQ (K F) vs w') →
   JJ st pe K FF w → Below B w w' → (∀ i, FF i → w'.heap[i]? = w.heap[i]?) → JJ st pe K FF w' := by
  intro st pe K FF w w' gG hj kD hsame
  rw [hJJ] at hj ⊢
  obtain ⟨F, us, vs, h1, h2, h3, h4, h5, h6, h7⟩ := hj
  refine ⟨F, us, vs, h1, ⟨λk kb hk hl => ?_, h2.ne, h2.lI⟩, ⟨h3.len, h3.slot, h3.kn, h3.df⟩, h4, (ez h5 (gG F)).1 w w' h5 kD λi hi => hsame i ((h1 i).2 (.inl (.inl hi))), ?_, ?_⟩
  ·have := h2.aX k kb hk hl
   refine (hsame kb.idx ((h1 _).2 (.inl (.inr ?_)))).trans this
   have hm := Vb hk hl
   rw [show (c.head [] us vs w' s0).kn = eQ s0.kn c.blocks (vs.drop c.oo.length) from rfl, HU, e0.2.2.1] at hm
   exact hm
  ·rw [hsame _ ((h1 _).2 (.inr (.inr rfl)))]; exact h6
  ·rw [hsame _ ((h1 _).2 (.inr (.inl rfl)))]; exact h7
 have boundJ : ∀ {st pe} {K : (Nat → Prop) → WR c.bQ (World → Prop)} {FF w}, (∀ F, sq c.bQ λvs => ∀ w, ir c.bQ (K F) vs w → ∀ i, F i → i < w.heap.size ∧ i ≠ B ∧ i ≠ B + 1) →
   JJ st pe K FF w → ∀ i, FF i → i < w.heap.size := by
  intro st pe K FF w yO hj i hi
  rw [hJJ] at hj
  obtain ⟨F, us, vs, h1, h2, h3, h4, h5, h6, h7⟩ := hj
  have hz := (rP.1 h6).1
  rcases (h1 i).1 hi with (hi | hi) | rfl | rfl
  ·exact ((ez h5 (yO F)).1 w h5 i hi).1
  ·have := hlv hi; omega
  ·omega
  ·omega
 have mkJ : ∀ {st pe} {K : (Nat → Prop) → WR c.bQ (World → Prop)} {F : Nat → Prop} {s' : St} {W : List Nat}, s'.Ok → Fr W s0 s' → c.enter s0 s' (ir c.bQ (K F)) → s'.w.heap[B + 1]? = some (.loop (rec st pe)) → s'.w.heap[B]? = some (.deferred (some [])) →
   JJ st pe K (λi => (F i ∨ i ∈ fL s.kn) ∨ i = B ∨ i = B + 1) s'.w := by
  intro st pe K F s' W h1 h2 h3 h4 h5
  obtain ⟨us, g1, g2, g3, g4⟩ := EN xi hok0 h1 h2 h3
  rw [hJJ]
  exact ⟨F, us, c.oI s', λi => Iff.rfl, g2, g3, g4, g1, h4, h5⟩
 obtain ⟨y, hy⟩ : ∃ y, y = Value.func (.yield (B + 1)) #[] #[] := ⟨_, rfl⟩
 have hok1 : ({ s0 with w := W1 } : St).Ok := ⟨λk kb h1 h2 => by
  have := hok0.aX k kb h1 h2
  rw [e0.2.1] at this
  rw [<- this]
  exact C4.block _ (by rw [hB]; exact (rP.1 this).1), hok0.ne, hok0.lI⟩
 have hcall := Rk y B (λm => JJ .ready none (I m)) (λ_ FF w => ∃ j, (jI body).contains j = true ∧ JJ .done (some (HS j)) (X j) FF w)
  (λi => (F0 i ∨ i ∈ fL s.kn) ∨ i = B ∨ i = B + 1) W1 ab
  (λm FF w w' => stabJ (hsI m)) (λ_ FF w w' hj kD hs => by
   obtain ⟨e, he, hj⟩ := hj
   exact ⟨e, he, stabJ (hsX e) hj kD hs⟩)
  (λm FF w => boundJ (hbI m))
  (λi hi => by
   obtain ⟨h1, h2, h3⟩ := hRd i hi
   rw [bE] at h3
   refine ⟨?_, by omega, rfl⟩
   rintro ((h4 | h4) | h4 | h4)
   ·exact h2 h4
   ·exact h3.1 (i ≠ i) (aZ.2 ⟨i, h4, rfl⟩) rfl
   ·omega
   ·omega)
  ?_ (mkJ (s' := { s0 with w := W1 }) (W := []) hok1 ⟨rfl, λ_ _ => rfl, su.refl _, aB _, λ_ => rfl⟩ (by rw [Kq] at hen ⊢; exact hen) hL1 hD1)
 ·
  rw [hg] at hcall
  unfold cr at hcall
  simp only [yO] at hcall
  unfold uk at yO
  split at yO
  case h_2 => cases yO
  rename_i fn' hf'
  split at yO
  case h_2 => cases yO
  rename_i body' hbody'
  have hn' := hP f fn' hf'
  refine ⟨B + 1, [{ target := .collected B, args := #[] }], W1, { target := .fn (.func f) cap, args := first ++ #[y] }, W1, f, first ++ #[y] ++ cap, W1, ?_, ?_, λ_ _ => trivial, ?_, rA, callsIn_wide.2 ?_⟩
  ·rw [<- hW1, fQ, hB]; exact run_enterLoop_outer _ _ _ _ _
  ·have hev : s.act.eval g = .func (.func f) first cap := by rw [St.sZ]; exact hg
   simp only [resolve, hev, Deferred.ofValue, hy]
   simp [Act.eval]
  ·simp only [invoke, callFunc]
   simp [program, Sem.run, hf', hn', hbody']
  ·have abf : (first.toList ++ [y] ++ cap.toList).toArray = first ++ #[y] ++ cap := by apply Array.ext'; simp
   rw [abf] at hcall
   refine hcall.mono ?_
   have fin : ∀ {st pe} {K : (Nat → Prop) → WR c.bQ (World → Prop)} {FF w w4} {e : Exit}, JJ st pe K FF w → Rec (B + 1) w w4 → (∀ F, sq c.bQ λvs => ∀ w w', ir c.bQ (K F) vs w → Below B w w' → (∀ i, F i → w'.heap[i]? = w.heap[i]?) → ir c.bQ (K F) vs w') →
     (∀ F, sq c.bQ λvs => ∀ w, ir c.bQ (K F) vs w → ∀ i, F i → i < w.heap.size ∧ i ≠ B ∧ i ≠ B + 1) →
     (∀ F (us : Nat → Value), sq c.bQ λvs => ∀ w, ir c.bQ (K F) vs w → w.heap[B]? = some (.deferred (some [])) → Q e { c.head [] us vs w s with df := B :: s.df }) →
     sa (writes (.rangeFunc g ps assign body)) s Q e { tmps := s.act.tmps, defers := { target := .collected B, args := #[] } :: s.act.defers } w4 := by
    intro st pe K FF w w4 e hj hr gG yO hq
    rw [hJJ] at hj
    obtain ⟨F, us, vs, h1, h2, h3, h4, h5, h6, h7⟩ := hj
    have h5' := (ez h5 (gG F)).1 w w4 h5 (hr.below ab) λi hi => hr.same i ((ez h5 (yO F)).1 w h5 i hi).2.2
    have h7' : w4.heap[B]? = some (.deferred (some [])) := by rw [hr.same _ ab]; exact h7
    have V6 : (c.head [] us vs w4 s).kn = (c.head [] us vs w s0).kn := by
     show eQ s.kn _ _ = eQ s0.kn _ _
     rw [e0.2.2.1]
    have oC : (c.head [] us vs w4 s).sl = s.sl := by
     show lZ (gT us [] 0 s.sl) c.oo vs = _
     rw [xi, AA]; rfl
    have iU : su s.kn (c.head [] us vs w4 s).kn := by rw [V6, <- e0.2.2.1]; exact h3.kn
    refine ⟨{ c.head [] us vs w4 s with df := B :: s.df }, ⟨λk kb hk hl => ?_, λi j x z hi hj => ?_, λi v hv => ?_⟩, ?_, rfl, ⟨by show (c.head [] us vs w4 s).sl.length = _; rw [oC], λi _ => ?_, iU, by simp, λh => by simp at h⟩, (ez h5' (hq F us)).1 w4 h5' h7'⟩
    ·have hk' : (c.head [] us vs w s0).kn[k]? = some kb := by rw [<- V6]; exact hk
     have hh := h2.aX k kb hk' hl
     show w4.heap[kb.idx]? = _
     rw [<- hh]
     refine hr.same _ λe => ?_
     rw [show (c.head [] us vs w s0).w = w from rfl, e, h6] at hh
     cases hh
    ·exact h2.ne i j x z (by rw [<- V6]; exact hi) (by rw [<- V6]; exact hj)
    ·show v.g9 (c.head [] us vs w4 s).kn.length
     rw [show ({ c.head [] us vs w4 s with df := B :: s.df } : St).sl = (c.head [] us vs w4 s).sl from rfl, oC] at hv
     exact (bt.lI i v hv).mono iU.length
    ·show ({ tmps := ((c.head [] us vs w4 s).sl.map (SV.bY (c.head [] us vs w4 s).kn)).toArray, defers := marks (B :: s.df) } : Act) = _
     rw [oC]
     have : s.sl.map (SV.bY (c.head [] us vs w4 s).kn) = s.sl.map (SV.bY s.kn) := by
      refine List.map_congr_left λx hx => ?_
      obtain ⟨i, hi⟩ := List.getElem?_of_mem hx
      exact iU.bY (bt.lI i x hi)
     rw [this]; rfl
    ·show ((c.head [] us vs w4 s).sl.getD i (.val undef)).bY (c.head [] us vs w4 s).kn = _
     rw [oC]
     simp only [dS]
     cases hg : s.sl[i]? with
     | none => rfl
     | some u => exact iU.bY (bt.lI i u hg)
   rintro e w3 ⟨⟨v, rfl⟩, (⟨FF, hj⟩ | ⟨FF, j, he, hj⟩)⟩
   ·have hl : w3.heap[B + 1]? = some (.loop (rec .ready none)) := by
     have := hj
     rw [hJJ] at this
     obtain ⟨F, us, vs, h1, h2, h3, h4, h5, h6, h7⟩ := this
     exact h6
    have yL := run_endLoop (P := P) hl (by rw [fQ]; simp)
    rw [fQ] at yL
    exact ⟨none, _, yL, fin hj (Rec.putObj _ _ _) (hsI _) (hbI _) hdone⟩
   ·have hl : w3.heap[B + 1]? = some (.loop (rec .done (some (HS j)))) := by
     have := hj
     rw [hJJ] at this
     obtain ⟨F, us, vs, h1, h2, h3, h4, h5, h6, h7⟩ := this
     exact h6
    have yL := run_endLoop (P := P) hl (by rw [fQ]; simp)
    rw [fQ] at yL
    refine ⟨some (HS j), _, yL, ?_⟩
    have hq := L7 hexit j (List.contains_iff_mem.1 he)
    cases j with
    | none => exact wpIn_ret (fin hj (Rec.putObj _ _ _) (hsX _) (hbX _) hq)
    | some id => exact wpIn_exit (fin hj (Rec.putObj _ _ _) (hsX _) (hbX _) hq)
 ·
  intro m x FF w hx hj
  have hj' := hj
  rw [hJJ] at hj'
  obtain ⟨F, us, vs, h1, h2, h3, h4, h5, h6, h7⟩ := hj'
  have hz := (rP.1 h6).1
  obtain ⟨x', hxe, hxl, hxa⟩ := Si (hsh x (bg hx))
  subst hxe
  have hyr := run_yield (P := P) (args := x.toArray) h6 (by rw [fQ]; simp [hxl, htl])
  rw [hy]
  refine ⟨⟨rfl, rfl⟩, _, _, _, _, hyr, ?_⟩
  have hFb : ∀ i, F i → i < w.heap.size ∧ i ≠ B ∧ i ≠ B + 1 := (ez h5 (hbI m F)).1 w h5
  have V6 : (c.head [] us vs w s0).kn.length = s0.kn.length ∧ su s0.kn (c.head [] us vs w s0).kn := ⟨by
   show (eQ s0.kn c.blocks _).length = _
   have : ∀ (bs : List (Nat × List S)) (kn : List KB) (vs : List Value), (eQ kn bs vs).length = kn.length := by
    intro bs
    induction bs with
    | nil => intro kn vs; rfl
    | cons p r ih => intro kn vs; obtain ⟨k, ss⟩ := p; show (eQ _ r _).length = _; rw [ih]; simp
   exact this _ _ _, h3.kn⟩
  have hvc := hxa _ ((ez h5 (hround m F us)).1) w hx h5
  obtain ⟨sA, hsA⟩ : ∃ sA : St, sA = { c.head [] us vs w s0 with sl := (ps.toList.zip x).foldl (λsl p => sl.set p.1 (.val p.2)) (c.head [] us vs w s0).sl } := ⟨_, rfl⟩
  rw [<- hsA] at hvc
  have hokA : sA.Ok := by
   rw [hsA]
   exact ⟨h2.aX, h2.ne, Mc _ _ h2.lI⟩
  have hwA : sA.w = w := by rw [hsA]; rfl
  have hactA : sA.act = { tmps := (ps.zip x.toArray).foldl (λtmps (p : Tmp × Value) => tmps.setIfInBounds p.1 p.2) s.act.tmps, defers := [] } := by
   rw [hsA]
   show ({ tmps := (((ps.toList.zip x).foldl (λsl p => sl.set p.1 (.val p.2)) (c.head [] us vs w s0).sl).map (SV.bY (c.head [] us vs w s0).kn)).toArray, defers := marks s0.df } : Act) = _
   rw [L9, Ma, h4, e0.2.2.2]
   have ht : s0.sl.map (SV.bY (c.head [] us vs w s0).kn) = s.sl.map (SV.bY s.kn) := by
    rw [e0.1, <- e0.2.2.1]
    refine List.map_congr_left λu hu => ?_
    obtain ⟨i, hi⟩ := List.getElem?_of_mem hu
    exact V6.2.bY (hok0.lI i u (by rw [e0.1]; exact hi))
   rw [ht]
   congr 1
   rw [<- Array.foldl_toList, Array.toList_zip]
   rfl
  have hfrA : Fr ps.toList s0 sA := by
   rw [hsA]
   refine ⟨by show (List.foldl (λsl (p : Tmp × Value) => sl.set p.1 (SV.val p.2)) (c.head [] us vs w s0).sl (ps.toList.zip x)).length = _; rw [Mb, h4], λi hi => ?_, h3.kn, aB _, λ_ => rfl⟩
   have : ((ps.toList.zip x).foldl (λsl p => sl.set p.1 (.val p.2)) (c.head [] us vs w s0).sl)[i]? = (c.head [] us vs w s0).sl[i]? := HV _ _ _ (λhm => hi (by
    obtain ⟨p, hp, rfl⟩ := aZ.1 hm
    exact (List.of_mem_zip hp).1))
   have h3s := h3.slot i bB
   simp only [dS] at h3s ⊢
   rw [this]; exact h3s
  have hA := ha (B + 1) sA _ Ki hokA hvc
  rw [hactA, hwA] at hA
  refine roundIn_of_wpIn trivial ?_
  rw [fQ]
  refine wpIn_mono hA ?_
  rintro e a1 w1 ⟨s1, k1, rfl, rfl, k4, k5⟩
  cases e with
  | normal =>
    obtain ⟨WG, hbody⟩ := k5
    have hl1 : s1.w.heap[B + 1]? = some (.loop (rec .ready none)) := by rw [WG.block _ hz]; exact h6
    have hd1 : s1.w.heap[B]? = some (.deferred (some [])) := by rw [WG.block _ ab]; exact h7
    have hbr := run_beginRound (P := P) hl1 (by rw [fQ])
    refine ⟨_, hbr, ?_⟩
    obtain ⟨w2, AQ⟩ : ∃ w2, w2 = s1.w.putObj (B + 1) (.loop { rec .ready none with state := .busy }) := ⟨_, rfl⟩
    have hR2 : Rec (B + 1) s1.w w2 := by rw [AQ]; exact Rec.putObj _ _ _
    have ayV := WG.size
    have JM : w2.heap[B + 1]? = some (.loop { rec .ready none with state := .busy }) := by rw [AQ]; exact World.putObj_heap_same ab
    have hd2 : w2.heap[B]? = some (.deferred (some [])) := by rw [hR2.same _ ab]; exact hd1
    have h5b := (ez h5 (hsI m F)).1 w w2 h5 ((Below.mono WG ab).trans (hR2.below ab)) λi hi => by
     obtain ⟨g1, g2, g3⟩ := hFb i hi
     rw [hR2.same i g3]; exact WG.block i g1
    have hok2 := wu k1 (λc t f e => by rw [hl1] at e; cases e) hR2
    have GG := hb (B + 1) { s1 with w := w2 } _ SY hok2 (hbody w2 hR2 h5b)
    rw [show w2 = ({ s1 with w := w2 } : St).w from rfl, AQ] at GG
    rw [<- AQ]
    rw [<- AQ] at GG
    refine wpIn_mono GG ?_
    have hz2 := hR2.size
    have nF : ¬ ((F (B + 1) ∨ B + 1 ∈ fL s.kn) ∨ w.heap.size ≤ B + 1) := by
     rintro ((hh | hh) | hh)
     ·exact (hFb _ hh).2.2 rfl
     ·have := hlv hh; omega
     ·omega
    have nD : ¬ ((F B ∨ B ∈ fL s.kn) ∨ w.heap.size ≤ B) := by
     rintro ((hh | hh) | hh)
     ·exact (hFb _ hh).2.1 rfl
     ·have := hlv hh; omega
     ·omega
    have Yt : ∀ {F' : Nat → Prop} {w' w3 : World}, Step (λi => (F i ∨ i ∈ fL s.kn) ∨ w.heap.size ≤ i) (λi => F' i ∨ i ∈ fL s.kn) w2 w' → Rec (B + 1) w' w3 → Step FF (λi => (F' i ∨ i ∈ fL s.kn) ∨ i = B ∨ i = B + 1) w w3 := by
     intro F' w' w3 hs hr
     refine ⟨λi hi => ?_, ?_, λi hi hn => ?_⟩
     ·rcases hi with hi | hi
      ·rcases hs.sub i hi with (hh | hh) | hh
       ·exact .inl ((h1 i).2 (.inl hh))
       ·exact .inr hh
       ·exact .inr ab
      ·exact .inl ((h1 i).2 (.inr hi))
     ·have := hs.size; have := hr.size; omega
     ·have hn' : ¬ (F i ∨ i ∈ fL s.kn) := λhh => hn ((h1 i).2 (.inl hh))
      have hnb : i ≠ B + 1 := λhh => hn ((h1 i).2 (.inr (.inr hh)))
      rw [hr.same i hnb, hs.same i ab (λhh => hh.elim hn' λhh => by omega), hR2.same i hnb, WG.block i hi]
    have frs : ∀ {s2 : St}, Fr (writes body) { s1 with w := w2 } s2 → Fr (ps.toList ++ writes assign ++ writes body) s0 s2 := λ{s2} hh =>
     (hfrA.mono λi hi => List.mem_append_left _ (List.mem_append_left _ hi)).trans (Fr.trans (b := { s1 with w := w2 }) (Fr.mono (W := writes assign) (W' := ps.toList ++ writes assign ++ writes body) (b := { s1 with w := w2 }) ⟨k4.len, k4.slot, k4.kn, k4.df⟩ λi hi => List.mem_append_left _ (List.mem_append_right _ hi)) (hh.mono λi hi => List.mem_append_right _ hi))
    have jump : ∀ (j : Option Nat) (s2 : St), (jI body).contains j = true → s2.Ok → Fr (writes body) { s1 with w := w2 } s2 →
      (∃ F', c.enter s0 s2 (ir c.bQ (X j F')) ∧ Step (λi => (F i ∨ i ∈ fL s.kn) ∨ w.heap.size ≤ i) (λi => F' i ∨ i ∈ fL s.kn) w2 s2.w) →
      ∃ v w3, (Instr.endRound (B + 1) (some (HS j))).run P s2.w = .ok v w3 ∧ ((Ending.returned v = .returned (.bool true) ∧ ∃ F', JJ .ready none (I (m + 1)) F' w3 ∧ Step FF F' w w3) ∨
       (Ending.returned v = .returned (.bool false) ∧ ∃ F', (∃ j, (jI body).contains j = true ∧ JJ .done (some (HS j)) (X j) F' w3) ∧ Step FF F' w w3)) := by
     rintro j s2 he l1 l4 ⟨F', hen2, gG⟩
     generalize hcd : HS j = cd
     have hl3 : s2.w.heap[B + 1]? = some (.loop { rec .ready none with state := .busy }) := by rw [gG.same _ ab nF]; exact JM
     have hd3 : s2.w.heap[B]? = some (.deferred (some [])) := by rw [gG.same _ ab nD]; exact hd2
     have yL := run_endRound (P := P) (some cd) hl3
     have hrc : ({ ({ rec .ready none with state := .busy } : Loop) with state := if (some cd).isNone then .ready else .done, pending := some cd } : Loop) = rec .done (some cd) := by rw [fQ]; rfl
     rw [hrc] at yL
     have hR3 := Rec.putObj s2.w (B + 1) (.loop (rec .done (some cd)))
     refine ⟨_, _, yL, .inr ⟨rfl, _, ⟨j, he, ?_⟩, Yt gG hR3⟩⟩
     rw [hcd]
     have hok3 := wu l1 (λc t f e => by rw [hl3] at e; cases e) hR3
     have V7 := gG.size
     have hbX' : ∀ i, F' i → i < s2.w.heap.size ∧ i ≠ B ∧ i ≠ B + 1 := by
      obtain ⟨us', g1, _⟩ := EN xi hok0 l1 (frs l4) hen2
      exact (ez g1 (hbX j F')).1 _ g1
     have hen3 : c.enter s0 { s2 with w := s2.w.putObj (B + 1) (.loop (rec .done (some cd))) } (ir c.bQ (X j F')) := by
      unfold Carry.enter at hen2 ⊢
      split at hen2
      ·rename_i hbb
       rw [show (c.L8 s0 { s2 with w := s2.w.putObj (B + 1) (.loop (rec .done (some cd))) } && c.okB { s2 with w := s2.w.putObj (B + 1) (.loop (rec .done (some cd))) }) = true from hbb]
       rw [bE] at hen2 ⊢
       exact ⟨hen2.1, (ez hen2.2 (hsX j F')).1 _ _ hen2.2 (hR3.below ab) λi hi => hR3.same i (hbX' i hi).2.2⟩
      ·exact hen2.elim
     refine mkJ (s' := { s2 with w := s2.w.putObj (B + 1) (.loop (rec .done (some cd))) }) (W := ps.toList ++ writes assign ++ writes body) hok3 ⟨(frs l4).len, (frs l4).slot, (frs l4).kn, (frs l4).df⟩ hen3 (World.putObj_heap_same ab) ?_
     rw [hR3.same _ ab]; exact hd3
    rintro e a3 w3 ⟨s2, l1, rfl, rfl, l4, l5⟩
    cases e with
    | normal =>
      obtain ⟨F', hen2, gG⟩ := l5
      have gG : Step (λi => (F i ∨ i ∈ fL s.kn) ∨ w.heap.size ≤ i) (λi => F' i ∨ i ∈ fL s.kn) w2 s2.w := gG
      have hl3 : s2.w.heap[B + 1]? = some (.loop { rec .ready none with state := .busy }) := by rw [gG.same _ ab nF]; exact JM
      have hd3 : s2.w.heap[B]? = some (.deferred (some [])) := by rw [gG.same _ ab nD]; exact hd2
      have yL := run_endRound (P := P) none hl3
      have hrc : ({ ({ rec .ready none with state := .busy } : Loop) with state := if (none : Option Code).isNone then .ready else .done, pending := none } : Loop) = rec .ready none := by rw [fQ]; rfl
      rw [hrc] at yL
      have hR3 := Rec.putObj s2.w (B + 1) (.loop (rec .ready none))
      refine ⟨_, _, yL, .inl ⟨rfl, _, ?_, Yt gG hR3⟩⟩
      have hok3 := wu l1 (λc t f e => by rw [hl3] at e; cases e) hR3
      have V7 := gG.size
      have hbI' : ∀ i, F' i → i < s2.w.heap.size ∧ i ≠ B ∧ i ≠ B + 1 := by
       obtain ⟨us', g1, _⟩ := EN xi hok0 l1 (frs l4) hen2
       exact (ez g1 (hbI (m + 1) F')).1 _ g1
      have hen3 : c.enter s0 { s2 with w := s2.w.putObj (B + 1) (.loop (rec .ready none)) } (ir c.bQ (I (m + 1) F')) := by
       unfold Carry.enter at hen2 ⊢
       split at hen2
       ·rename_i hbb
        rw [show (c.L8 s0 { s2 with w := s2.w.putObj (B + 1) (.loop (rec .ready none)) } && c.okB { s2 with w := s2.w.putObj (B + 1) (.loop (rec .ready none)) }) = true from hbb]
        rw [bE] at hen2 ⊢
        exact ⟨hen2.1, (ez hen2.2 (hsI (m + 1) F')).1 _ _ hen2.2 (hR3.below ab) λi hi => hR3.same i (hbI' i hi).2.2⟩
       ·exact hen2.elim
      refine mkJ (s' := { s2 with w := s2.w.putObj (B + 1) (.loop (rec .ready none)) }) (W := ps.toList ++ writes assign ++ writes body) hok3 ⟨(frs l4).len, (frs l4).slot, (frs l4).kn, (frs l4).df⟩ hen3 (World.putObj_heap_same ab) ?_
      rw [hR3.same _ ab]; exact hd3
    | ret => exact jump none s2 l5.1 l1 l4 l5.2
    | exit id => exact jump (some id) s2 l5.1 l1 l4 l5.2
    | goto t => exact l5.elim
    | panic ch => exact l5.elim
    | outgrown => exact l5.elim
  | _ => exact k5.elim
theorem dK(hP:BX P)(hm:P.follows .mixedOrders=true)(an:Ann){F:Fence}{nn:Nat}(hF:Wd F):∀(c:Code)(s:St)(Q:Exit->St->Prop),(F=Fence.wide\/jA c=true)->s.Ok->ft P an c s Q->c.wpIn F nn P (sa (writes c) s Q) s.act s.w
 | .skip,s,Q,_,bt,h=>wpIn_skip ⟨s,bt,rfl,rfl,Fr.refl _ _,h⟩
 | .region id ops draw,s,Q,_,bt,h=>by
   unfold ft at h
   cases draw with
   |false=>
    refine wpIn_region ?_
    have he:List.range ops.size=List.range' 0 ops.toList.length:=by rw [List.range_eq_range'];simp
    rw [he];refine Jr hF ops.toList 0 _ _ (λj hj=>by simp) ?_;exact yu hP ops.toList s (sa (writes (.region id ops false)) s Q) bt h λa w hp=>hp
   |true=>
    simp only at h;split at h
    case h_2=>exact h.elim
    rename_i FJ;refine wpIn_mono (wpIn_region_any (Q:=Qr (dstsOf ops.toList) s (Q .normal)) hm ?_) λe a w hq=> ?_
    ·refine Se hF _ [] _ _ _ ?_;have l8:({s with w:=s.w.drew}:St).Ok:=⟨bt.aX,bt.ne,bt.lI⟩;refine nC hP FJ (dstsOf ops.toList) s (λj o d h1 h2=> ?_) ops.size [] _ {s with w:=s.w.drew} l8 ⟨rfl,λ_ _=>rfl,su.refl _,aB _,λ_=>rfl⟩ (λq hq=>by cases hq) h;exact List.mem_filterMap.2 ⟨o,by
      have:=Array.mem_of_getElem? h1;simpa using this,h2⟩
    ·cases e with
     |normal=>exact hq
     |_=>exact hq.elim
 | .seq x y,s,Q,yK,bt,h=>by
   unfold ft at h;have hx:F=Fence.wide\/jA x=true:=yK.imp id λh=>by simp [jA] at h;exact h.1
   have hy:F=Fence.wide\/jA y=true:=yK.imp id λh=>by simp [jA] at h;exact h.2
   split at h
   ·refine wpIn_seq (wpIn_mono (dK (nn:=nn) hP hm an hF x s _ hx bt h) λe a w hp=> ?_)
    cases e with
    |normal=>
     obtain ⟨s',h1,rfl,rfl,h4,h5⟩:=hp;exact wpIn_mono (dK (nn:=nn) hP hm an hF y s' Q hy h1 h5) λe a w hp=>hp.of (h4.mono λi hi=>by simp [writes,hi]) λi hi=>by simp [writes,hi]
    |exit id=>exact hp.of (Fr.refl _ _) λi hi=>by simp [writes,hi]
    |goto l=>exact hp.of (Fr.refl _ _) λi hi=>by simp [writes,hi]
    |ret=>exact hp.of (Fr.refl _ _) λi hi=>by simp [writes,hi]
    |panic ch=>exact hp.of (Fr.refl _ _) λi hi=>by simp [writes,hi]
    |outgrown=>exact hp.of (Fr.refl _ _) λi hi=>by simp [writes,hi]
   ·rename_i c hc;obtain ⟨J,h1,h2⟩:=h;obtain ⟨q1,q2,q3,q4,q5⟩:=fb (c.kH.map λk=> .loc k 0) bt;have qa:=lY (l:=c.kH.map λk=> .loc k 0) bt;have qf:Fr (writes (x.seq y)) s (s.kill (c.kH.map λk=> .loc k 0)):=⟨by rw [q2],λi _=>by
     rw [q2];simp only [dS]
     cases hg:s.sl[i]? with
     |none=>rfl
     |some u=>exact q4.bY (bt.lI i u hg),q4,by rw [mV];exact ⟨aB _,λ_=>rfl⟩⟩
    suffices hh:(x.seq y).wpIn F nn P (sa (writes (x.seq y)) (s.kill (c.kH.map λk=> .loc k 0)) Q) s.act s.w from wpIn_mono hh λe a w hp=>hp.of qf λi hi=>hi
    rw [<-qa,<-q3];generalize s.kill (c.kH.map λk=> .loc k 0)=s at*;have bt:=q1;refine wpIn_seq (wpIn_mono (dK (nn:=nn) hP hm an hF x s _ hx bt h1) λe a w hp=> ?_)
    cases e with
    |normal=>
     obtain ⟨s',k1,rfl,rfl,k4,k5⟩:=hp;obtain ⟨us,g1,g2,g3,g4⟩:=Ju bt k1 k4 k5;have hv:=(ez g1 (h2 us)).1 s'.w g1;have h6:=dK (nn:=nn) hP hm an hF y _ Q hy g2 hv;rw [g3] at h6;exact wpIn_mono h6 λe a w hp=>hp.of (g4.mono λi hi=>by simp [writes,hi]) λi hi=>by simp [writes,hi]
    |exit id=>exact hp.of (Fr.refl _ _) λi hi=>by simp [writes,hi]
    |goto l=>exact hp.of (Fr.refl _ _) λi hi=>by simp [writes,hi]
    |ret=>exact hp.of (Fr.refl _ _) λi hi=>by simp [writes,hi]
    |panic ch=>exact hp.of (Fr.refl _ _) λi hi=>by simp [writes,hi]
    |outgrown=>exact hp.of (Fr.refl _ _) λi hi=>by simp [writes,hi]
 | .cond c x y,s,Q,yK,bt,h=>by
   unfold ft at h;have hx:F=Fence.wide\/jA x=true:=yK.imp id λh=>by simp [jA] at h;exact h.1
   have hy:F=Fence.wide\/jA y=true:=yK.imp id λh=>by simp [jA] at h;exact h.2
   split at h
   ·rename_i b hb;have hc:s.act.eval c=.bool b:=by rw [St.sZ,G8 hb];rfl
    refine wpIn_cond_split hc (λhb'=> ?_) (λhb'=> ?_)
    ·exact wpIn_mono (dK (nn:=nn) hP hm an hF x s Q hx bt (Br.tt h hb')) λe a w hp=>hp.of (Fr.refl _ _) λi hi=>by simp [writes,hi]
    ·exact wpIn_mono (dK (nn:=nn) hP hm an hF y s Q hy bt (Br.ff h hb')) λe a w hp=>hp.of (Fr.refl _ _) λi hi=>by simp [writes,hi]
   ·exact h.elim
 | .block id x,s,Q,hx,bt,h=>by
   unfold ft at h;refine wpIn_block (wpIn_mono (dK (nn:=nn) hP hm an hF x s _ hx bt h) λe a w hp=> ?_)
   cases e with
   |exit id'=>
    show if id'=id then _ else _;obtain ⟨s',k1,k2,k3,k4,k5⟩:=hp;simp only at k5;split
    ·rename_i e;rw [if_pos e] at k5;exact ⟨s',k1,k2,k3,k4,k5⟩
    ·rename_i e;rw [if_neg e] at k5;exact ⟨s',k1,k2,k3,k4,k5⟩
   |_=>exact hp
 | .loop x,s,Q,hx,bt,h=>by
   unfold ft at h;split at h
   ·exact h.elim
   rename_i c hc;obtain ⟨I,⟨n0,h0⟩,hround⟩:=h;obtain ⟨q1,q2,q3,q4,q5⟩:=fb (c.kH.map λk=> .loc k 0) bt;have qa:=lY (l:=c.kH.map λk=> .loc k 0) bt;have qf:Fr (writes (.loop x)) s (s.kill (c.kH.map λk=> .loc k 0)):=⟨by rw [q2],λi _=>by
    rw [q2];simp only [dS]
    cases hg:s.sl[i]? with
    |none=>rfl
    |some u=>exact q4.bY (bt.lI i u hg),q4,by rw [mV];exact ⟨aB _,λ_=>rfl⟩⟩
   suffices hh:(Code.loop x).wpIn F nn P (sa (writes (.loop x)) (s.kill (c.kH.map λk=> .loc k 0)) Q) s.act s.w from wpIn_mono hh λe a w hp=>hp.of qf λi hi=>hi
   rw [<-qa,<-q3];generalize s.kill (c.kH.map λk=> .loc k 0)=s at*;have bt:=q1;refine Cc (λn a w=>∃s',s'.Ok/\s'.act=a/\s'.w=w/\Fr (writes x) s s'/\c.enter s s' (ir c.bQ (I n))) n0 ⟨s,bt,rfl,rfl,Fr.refl _ _,h0⟩ ?_;rintro n a w ⟨s',k1,rfl,rfl,k4,k5⟩;obtain ⟨us,g1,g2,g3,g4⟩:=Ju bt k1 k4 k5;have hv:=(ez g1 (hround n us)).1 s'.w g1;have h6:=dK (nn:=nn) hP hm an hF x _ _ hx g2 hv;rw [g3] at h6;refine wpIn_mono h6 λe a w hp=> ?_
   cases e with
   |normal=>
    obtain ⟨s'',l1,l2,l3,l4,m,gZ,l5⟩:=hp;refine ⟨m,gZ,s'',l1,l2,l3,g4.trans l4,?_⟩;exact l5
   |exit id=>exact hp.of g4 λi hi=>hi
   |goto l=>exact hp.of g4 λi hi=>hi
   |ret=>exact hp.of g4 λi hi=>hi
   |panic ch=>exact hp.of g4 λi hi=>hi
   |outgrown=>exact hp.of g4 λi hi=>hi
 | .exit id,s,Q,_,bt,h=>wpIn_exit ⟨s,bt,rfl,rfl,Fr.refl _ _,h⟩
 | .ret,s,Q,_,bt,h=>wpIn_ret ⟨s,bt,rfl,rfl,Fr.refl _ _,h⟩
 | .rangeFunc g ps assign body,s,Q,yK,bt,h=>by
   have hw:F=Fence.wide:=yK.resolve_right (by simp [jA]);subst hw;exact Zb hP bt (λl s Q h1 h2 h3=>dK hP hm an (Wd.round l) assign s Q (.inr h1) h2 h3) (λl s Q h1 h2 h3=>dK hP hm an (Wd.round l) body s Q (.inr h1) h2 h3) h
 | .scope x,s,Q,yK,bt,h=>by
   have hw:F=Fence.wide:=yK.resolve_right (by simp [jA]);subst hw;unfold ft at h;refine wpIn_wide.2 (wp_scope_straight (wp_mono (wpIn_wide.1 (dK (nn:=0) hP hm an hF x s _ (.inl rfl) bt h)) λe a w hp=> ?_))
   cases e with
   |goto l=>obtain ⟨s',_,_,_,_,k5⟩:=hp;exact k5.elim
   |_=>exact hp
 | .label l,s,Q,_,bt,h=>wpIn_label ⟨s,bt,rfl,rfl,Fr.refl _ _,h⟩
 | .goto _,_,_,_,_,h=>h.elim
 | .refuse _,_,_,_,_,h=>h.elim
end
def Jw(P:Program)(s:St)(t:TypeId)(x:SV)(K:Value->Prop):Prop:=
 match x with
 | .loc k off=>match s.known k with
   |some kb=>match sr P t with
    | .sc _=>match kb.cells[off]? with|some v=>K v|none=>False
    | .agg l=>if l.length=fH P t/\off+l.length<=kb.cells.length then K (.agg ((kb.cells.drop off).take l.length).toArray) else False
   |none=>G9 P s.w (some ⟨(s.kn.getD k default).idx,off,none⟩) t K
 | .val (.pointer p)=>G9 P s.w p t K
 |_=>False
def rF(P:Program)(s:St):List ResultVar->(List Value->Prop)->Prop
 | [],F=>F []
 | .tmp t::r,F=>rF P s r λvs=>F ((s.sl.getD t (.val undef)).bY s.kn::vs)
 | .cell a t::r,F=>match okT P t with
   |true=>Jw P s t (s.sl.getD a (.val undef)) λv=>rF P s r λvs=>F (v::vs)
   |false=>False
def Sj:List Value->Value
 | [v]=>v
 |vs=> .tuple vs.toArray
def AB:List Nat->World->(World->Prop)->Prop
 | [],w,K=>K w
 |D::r,w,K=>w.heap[D]? =some (.deferred (some []))/\∀w',Rec D w w'->AB r w' K
def aoX(P:Program)(fn:Func)(R:Ending->World->Prop):Exit->St->Prop
 | .normal,s| .ret,s=>AB s.df s.w λw'=>rF P {s with w:=w'} fn.results.toList λvs=>R (.returned (Sj vs)) w'
 |_,_=>False
def wx(fn:Func)(args:List Value)(w:World):St:=
 {sl:=args.map .val++List.replicate (fn.ntmps-args.length) (.val undef),w:=w,kn:=[]}
def acv(P:Program)(an:Ann)(fn:Func)(args:List Value)(w:World)(R:Ending->World->Prop):Prop:=
 match fn.body with
 |some c=>ft P an c (wx fn args w) (aoX P fn R)
 |none=>False
section
variable {P:Program} {s:St}
theorem Md{t:TypeId}{x:SV}{K:Value->Prop}(bt:s.Ok)(hu:(P.underlying t).isSome=true)(h:Jw P s t x K):
  ∃a v,x.bY s.kn=.pointer (some a)/\K v/\(loadVar t a).run P s.w=.ok v s.w:=by
 have h':Dh P {s with sl:=[.val undef]} (some 0) t x (λs'=>K ((s'.sl.getD 0 (.val undef)).bY s'.kn)):=by unfold Jw at h;unfold Dh;exact h
 have l8:({s with sl:=[.val undef]}:St).Ok:=⟨bt.aX,bt.ne,λi v hv=>by
  cases i with
  |zero=>simp at hv;subst hv;trivial
  |succ i=>simp at hv⟩
 obtain ⟨a,v,h1,h2,h3⟩:=Dj l8 hu h';refine ⟨a,v,h1,h2,?_⟩;simpa [Instr.loadAt,Instr.sureAddr] using h3
def Jy(tmps:Array Value):ResultVar->Sem Value
 | .tmp t=>pure (tmps.getD t undef)
 | .cell a t=>do loadVar t (<-asAddr (tmps.getD a undef))
theorem tK(bt:s.Ok):∀(l:List ResultVar)(F:List Value->Prop),rF P s l F->
  ∃vs,F vs/\(l.mapM (Jy s.act.tmps)).run P s.w=.ok vs s.w
 | [],F,h=>⟨[],h,rfl⟩
 | .tmp t::r,F,h=>by
   obtain ⟨vs,h1,h2⟩:=tK bt r _ h
   refine ⟨_,h1,?_⟩
   have:s.act.tmps.getD t undef=(s.sl.getD t (.val undef)).bY s.kn:=s.sZ (.tmp t)
   simp only [List.mapM_cons,Sem.run_bind,Jy,Sem.run_pure,Result.andThen_ok,h2,this]
 | .cell a t::r,F,h=>by
   unfold rF at h
   split at h
   ·rename_i hu
    obtain ⟨ad,v,e1,e2,e3⟩:=Md bt (tI hu) h
    obtain ⟨vs,h1,h2⟩:=tK bt r _ e2
    refine ⟨_,h1,?_⟩
    have:s.act.tmps.getD a undef=.pointer (some ad):=(s.sZ (.tmp a)).trans e1
    simp only [List.mapM_cons,Sem.run_bind,Jy,this,asAddr,Sem.run_pure,Result.andThen_ok,e3,h2]
   ·exact h.elim
theorem Mf(bt:s.Ok){fn:Func}{F:List Value->Prop}(h:rF P s fn.results.toList F):
  ∃vs,F vs/\(results fn s.act.tmps).run P s.w=.ok (Sj vs) s.w:=by
 obtain ⟨vs,h1,h2⟩:=tK bt _ _ h;refine ⟨vs,h1,?_⟩;have:results fn s.act.tmps=(do let vs <-fn.results.mapM (Jy s.act.tmps);pure (if h:vs.size=1 then vs[0] else .tuple vs)):=by unfold results;congr 1
 rw [this,Array.mapM_eq_mapM_toList];simp only [Sem.run_bind,Sem.run_map,h2,Result.andThen_ok,Sem.run_pure];congr 1
 cases vs with
 |nil=>rfl
 |cons v r=>cases r<;>simp [Sj]
end
section
variable {P:Program}
theorem Vd(fn:Func)(args:List Value)(w:World):(wx fn args w).Ok:=
 ⟨λk kb h=>by simp [wx] at h,λi j x y h=>by simp [wx] at h,λi v h=>by
  simp only [wx,List.getElem?_append,aU,YJ] at h;split at h
  ·cases ha:args[i]? with
   |none=>simp [ha] at h
   |some x=>simp [ha] at h;subst h;trivial
  ·split at h
   ·simp at h;subst h;trivial
   ·cases h⟩
theorem rG{fn:Func}{R:Ending->World->Prop}:∀(l:List Nat)(s:St),s.Ok->AB l s.w (λw'=>rF P {s with w:=w'} fn.results.toList λvs=>R (.returned (Sj vs)) w')->
  LeavesInM Fence.wide 0 P fn s.act.tmps R (marks l) .returning s.w
 | [],s,bt,h=>by
   obtain ⟨vs,h1,h2⟩:=Mf bt h
   exact ⟨_,h2,h1⟩
 |D::r,s,bt,h=>by
  obtain ⟨hD,h⟩:=h
  refine ⟨by simp,.inl ⟨D,s.w.putObj D (.deferred none),rfl,run_takeDeferred hD,?_⟩⟩
  have hr:=Rec.putObj s.w D (.deferred none)
  have l8:=wu bt (λc t f e=>by rw [hD] at e;cases e) hr
  exact rG r {s with w:=s.w.putObj D (.deferred none)} l8 (h _ hr)
theorem LZ(hP:BX P)(hm:P.follows .mixedOrders=true){f:FuncId}{fn:Func}{an:Ann}{args:List Value}{w:World}{R:Ending->World->Prop}(hf:P.funcs[f]? =some fn)
  (h:acv P an fn args w R):Calls P f args.toArray w R:=by
 unfold acv at h;split at h
 case h_2=>exact h.elim
 rename_i c hc;have h1:=dK (nn:=0) hP hm an Wd.out c _ _ (.inl rfl) (Vd fn args w) h;refine callsIn_wide.1 (callsIn_of_wp_marks (n:=0) hf hc trivial ?_);have ar2:(wx fn args w).act={tmps:=args.toArray++Array.replicate (fn.ntmps-args.toArray.size) undef,defers:=[]}:=by simp only [St.act,wx];congr 1;apply Array.ext';simp [SV.bY];rw [show (SV.bY [] ∘ SV.val)=id from rfl];simp
 rw [ar2] at h1;refine wpIn_mono h1 λe a w' hp=> ?_
 obtain ⟨s',k1,rfl,rfl,k4,k5⟩:=hp
 cases e with
 |normal=>exact rG s'.df s' k1 k5
 |ret=>exact rG s'.df s' k1 k5
 |_=>exact k5.elim
end
end Go.Vc
