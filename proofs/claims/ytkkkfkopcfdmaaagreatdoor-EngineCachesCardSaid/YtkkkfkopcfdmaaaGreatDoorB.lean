import Derived.Test.YtkkkfkopcfdmaaaGreatDoorA
import Derived.Lib.Overlaps
set_option linter.all false
namespace Go
open Go.RowKit
def Oper.ZC(P:Program)(o:Oper)(a:Act)(w:World)(next:Act->World->Prop)(Q:Exit->Act->World->Prop):Prop:=
 (∀c,o.op≠ .defer c)/\o.uponIn Fence.wide 0 P a next Q ((execOp a.eval o).run P w)
def Oper.rJ{P:Program}{o:Oper}{a:Act}{w:World}{Q:Exit->Act->World->Prop}{K K':Act->World->Prop}(h:∀a w,K a w->K' a w)(hh:o.ZC P a w K Q):o.ZC P a w K' Q:=by
 refine ⟨hh.1,?_⟩;have hh:=hh.2;generalize (execOp a.eval o).run P w=r at*
 cases r with
 |ok x w'=>
  cases x<;>simp only [Oper.uponIn] at hh ⊢<;>
   first
    |exact h _ _ hh
    |exact ⟨hh.1,CallsIn.mono hh.2 (λe w'' he=>by cases e<;>first|exact h _ _ he|exact he)⟩
    |exact ⟨hh.1,RowsIn.mono hh.2 (λ_ _ he=>h _ _ he)⟩
    |exact ⟨hh.1,RoundIn.mono hh.2 (λe w'' he=>by cases e<;>first|exact h _ _ he|exact he)⟩
 |halt x w'=>cases x<;>simp only [Oper.uponIn] at hh ⊢<;>exact hh
end Go
namespace Go.Vc
open Go Go.RowKit
section
variable {P:Program} {s:St} {o:Oper} {K:St->Prop} {Q:Exit->Act->World->Prop}
def DE(P:Program):Prop:=∀(f:FuncId) fn,P.funcs[f]? =some fn->fn.name≠ "runtime.NumGoroutine"
def vy(P:Program)(f:FuncId):Bool:=match P.funcs[f]? with|some fn=>(match fn.body with|some _=>true|none=>false)|none=>false
def ajq(P:Program)(l:Nat)(args:List Value)(w:World)(R:Ending->World->Prop):Prop:=
 ∃fn tmps assign body,(Instr.yield l args.toArray).run P w=.ok (.round l fn tmps assign body) w/\RoundIn Fence.wide 0 P l fn tmps assign body w R
def amL(P:Program)(f:FuncId)(e:Array Value->Sem Value):Prop:=
 ∃fn,P.funcs[f]? =some fn/\fn.body.isNone=true/\Extern.findNext fn=none/\Extern.find fn=some e
def aaG(P:Program)(f:FuncId)(args:List Value)(w:World)(R:Ending->World->Prop):Prop:=
 ∃e,amL P f e/\∃v w',(e args.toArray).run P w=.ok v w'/\R (.returned v) w'
def cC(P:Program)(fv:Value)(args:List Value)(w:World)(R:Ending->World->Prop):Prop:=
 match fv with
 | .func (.func f) first cap=>match vy P f with
   |true=>Calls P f (first.toList++args++cap.toList).toArray w R
   |false=>aaG P f (first.toList++args++cap.toList) w R
 | .func (.yield l) first cap=>(first= #[]/\cap= #[])/\ajq P l args w R
 |_=>False
def ar3(P:Program)(t:TypeId):T2:=
 match P.underlying t with
 |some (.tuple ts)=> .tup (ts.toList.map (tQ P))
 |_=> .one (tQ P t)
def GA(P:Program)(s:St)(d:Option Tmp)(ty:TypeId)(fv:Value)(args:List SV)(K:St->Prop):Prop:=
 cC P fv (args.map (SV.cg s.kn)) s.w λe w'=>(ar3 P ty).ex λv=>e=.returned v/\
  aP (EX (s.kill args).kn s.w w') (K ({s.kill args with w:=w'}.put d (.val v)))
def afK{dst:Option Tmp}{ty:TypeId}{pos:String}{after:Array Edge}{guard:Option (Nat × Bool)}{x:Operand}{args:Array Operand}{ats:Array TypeId}(hP:DE P)(bn:s.Ok)
  (hny:∀l f c,s.ev x≠ .func (.yield l) f c)(h:GA P s dst ty (s.ev x) (args.toList.map s.sv) K):
  (Oper.mk dst (.call ⟨.value x,args,ats⟩) ty pos after guard).wp P s.act s.w (iO dst s K) Q:=by
 unfold GA cC at h;split at h
 ·rename_i f first cap hx;split at h
  ·rename_i hb;unfold vy at hb;split at hb
   ·rename_i fn hf;split at hb
    ·rename_i body hbody;have uZ:(execOp s.ev (Oper.mk dst (.call ⟨.value x,args,ats⟩) ty pos after guard)).run P s.w=.ok (.enter f (first++args.map s.ev++cap)) s.w:=by have hn:=hP f fn hf;simp only [execOp,resolve,Deferred.ofValue,hx,invoke,callFunc,Sem.run_bind,Sem.run_pure,Result.andThen_ok];simp [program,Sem.run,hf,hn,hbody]
     unfold Oper.wp;rw [St.eval_eq,uZ,Oper.upon_enter];have adR:(first.toList++(args.toList.map s.sv|>.map (SV.cg s.kn))++cap.toList).toArray=first++args.map s.ev++cap:=by apply Array.ext';simp [St.ev]
     rw [adR] at h;refine h.mono λe w' hr=> ?_
     obtain ⟨v,he,h1⟩:=T2.lF hr;subst he;rw [bB] at h1;obtain ⟨k1,k2,k3,k4,k5⟩:=fq (args.toList.map s.sv) bn;have mN:=mw k1 (w':=w') (by rw [k3];exact h1.1);exact j7 h1.2 bn mN k2 k4 trivial rfl rfl
    ·cases hb
   ·cases hb
  ·obtain ⟨e,⟨fn,hf,hb,Ml,Vt⟩,v,w',uZ,hr⟩:=h;have hname:=hP f fn hf;have adR:(first.toList++(args.toList.map s.sv|>.map (SV.cg s.kn))++cap.toList).toArray=first++args.map s.ev++cap:=by apply Array.ext';simp [St.ev]
   rw [adR] at uZ;have hex:=run_callFunc_extern hf (by simpa using hname) hb Ml Vt (first++args.map s.ev++cap) s.w;rw [uZ] at hex;have hgo:(execOp s.ev (Oper.mk dst (.call ⟨.value x,args,ats⟩) ty pos after guard)).run P s.w=.ok (.value v) w':=by simp only [execOp,resolve,Deferred.ofValue,hx,invoke,Sem.run_bind,Sem.run_pure,Result.andThen_ok];exact hex
   unfold Oper.wp;rw [St.eval_eq,hgo];obtain ⟨v',he,h1⟩:=T2.lF hr
   cases he
   rw [bB] at h1;obtain ⟨k1,k2,k3,k4,k5⟩:=fq (args.toList.map s.sv) bn;have mN:=mw k1 (w':=w') (by rw [k3];exact h1.1);exact j7 (v:=.val v) h1.2 bn mN k2 k4 trivial rfl rfl
 ·rename_i l f c hx;exact absurd hx (hny l f c)
 ·cases h
def sO{n:Nat}(h:Fence.wide.depth.isSome=true):1<=n:=by simp [Fence.wide] at h
inductive Wd:Fence->Prop
 |out:Wd Fence.wide
 |round (l:Nat):Wd (Fence.wide.inRound l)
def Wd.fn{F:Fence}(h:Wd F)(f:FuncId):F.fn f:=by cases h<;>trivial
def Wd.depth{F:Fence}(h:Wd F):F.depth=none:=by cases h<;>rfl
def Wd.calls{F:Fence}(h:Wd F){n:Nat}{f:FuncId}{args:Array Value}{w:World}{R:Ending->World->Prop}:CallsIn F n P f args w R ↔ Calls P f args w R:=by
 cases h with
 |out=>exact callsIn_wide
 |round l=>exact callsIn_wide
def Wd.afL{F:Fence}(h:Wd F){n:Nat}{l:Nat}{f:FuncId}{tmps:Array Value}{assign body:Code}{w:World}{R:Ending->World->Prop}(hr:RoundIn Fence.wide 0 P l f tmps assign body w R):
  RoundIn F n P l f tmps assign body w R:=by
 cases h with
 |out=>exact ⟨trivial,λc cs _=>hr.2 c cs (room_wide _)⟩
 |round l'=>exact ⟨trivial,λc cs _=>hr.2 c cs (room_wide _)⟩
def Wd.ajr{F:Fence}(h:Wd F){n:Nat}{row:String}{args:Array Value}{w:World}{R:Value->World->Prop}(hr:RowsIn Fence.wide 0 P row args w R):
  RowsIn F n P row args w R:=by
 cases h with
 |out=>exact λc cs _=>hr c cs (room_wide _)
 |round l'=>exact λc cs _=>hr c cs (room_wide _)
def XA{o:Oper}{a:Act}{w:World}{Q:Exit->Act->World->Prop}{K:Act->World->Prop}(hd:∀c,o.op≠ .defer c)(hh:o.wp P a w K Q):o.ZC P a w K Q:=by
 refine ⟨hd,?_⟩;unfold Oper.wp at hh;generalize (execOp a.eval o).run P w=r at*
 cases r with
 |ok x w'=>
  cases x<;>simp only [Oper.upon,Oper.uponIn] at hh ⊢<;>
   first
    |exact hh
    |exact ⟨sO,callsIn_wide.2 hh⟩
    |exact ⟨sO,λc cs _=>by
     obtain ⟨v,w',h1,h2⟩:=hh c cs;exact ⟨v,w',h1,stepsIn_wide.2 h2⟩⟩
 |halt x w'=>cases x<;>simp only [Oper.upon,Oper.uponIn] at hh ⊢<;>exact hh
def Dd{F:Fence}{n:Nat}(hF:Wd F){o:Oper}{a:Act}{w:World}{Q:Exit->Act->World->Prop}{K:Act->World->Prop}(hh:o.ZC P a w K Q):o.wpIn F n P a w K Q:=by
 refine ⟨λf _=>hF.fn f,?_⟩;rw [Oper.semAt_eq _ _ _ hh.1];have hh:=hh.2;have hd:F.depth.isSome=true->1<=n:=λh=>by rw [hF.depth] at h;cases h
 generalize (execOp a.eval o).run P w=r at*
 cases r with
 |ok x w'=>
  cases x<;>simp only [Oper.uponIn] at hh ⊢<;>
   first
    |exact hh
    |exact ⟨hd,hF.calls.2 (callsIn_wide.1 hh.2)⟩
    |exact ⟨hd,hF.ajr hh.2⟩
    |exact ⟨hd,hF.afL hh.2⟩
 |halt x w'=>cases x<;>simp only [Oper.uponIn] at hh ⊢<;>exact hh
def XB{dst:Option Tmp}{ty:TypeId}{pos:String}{after:Array Edge}{guard:Option (Nat × Bool)}{x:Operand}{args:Array Operand}{ats:Array TypeId}(bn:s.Ok)
  {l:Nat}{f c:Array Value}(hx:s.ev x=.func (.yield l) f c)(h:GA P s dst ty (s.ev x) (args.toList.map s.sv) K):
  (Oper.mk dst (.call ⟨.value x,args,ats⟩) ty pos after guard).ZC P s.act s.w (iO dst s K) Q:=by
 refine ⟨λc h=>(by cases h),?_⟩;rw [hx] at h;unfold GA cC at h;obtain ⟨⟨rfl,rfl⟩,fn,tmps,assign,body,hy,hr⟩:=h;have uZ:(execOp s.ev (Oper.mk dst (.call ⟨.value x,args,ats⟩) ty pos after guard)).run P s.w=.ok (.round l fn tmps assign body) s.w:=by
  have ha:args.map s.ev=((args.toList.map s.sv).map (SV.cg s.kn)).toArray:=by apply Array.ext';simp [St.ev]
  simp only [execOp,resolve,Deferred.ofValue,hx,invoke,Sem.run_bind,Sem.run_pure,Result.andThen_ok];rw [ha];simpa using hy
 rw [St.eval_eq,uZ,Oper.uponIn_round];refine ⟨sO,hr.mono λe w' hr=> ?_⟩;obtain ⟨v,he,h1⟩:=T2.lF hr;subst he;rw [bB] at h1;obtain ⟨k1,k2,k3,k4,k5⟩:=fq (args.toList.map s.sv) bn;have mN:=mw k1 (w':=w') (by rw [k3];exact h1.1);exact j7 h1.2 bn mN k2 k4 trivial rfl rfl
structure Rec(l:Nat)(w w':World):Prop where
 same:∀i,i≠l->w'.heap[i]? =w.heap[i]?
 size:w'.heap.size=w.heap.size
 os:w'.os=w.os
 tape:w'.tape=w.tape
 output:w'.output=w.output
def Rec.below{l:Nat}{w w':World}(h:Rec l w w'){B:Nat}(hB:B<=l):Below B w w':=⟨h.os,h.tape,h.output,Nat.le_of_eq h.size.symm,λk hk=>h.same k ab⟩
def Rec.putObj(w:World)(l:Nat)(o:Obj):Rec l w (w.putObj l o):=⟨λi hi=>World.putObj_heap_other hi,by simp,rfl,rfl,rfl⟩
section
variable {P:Program} {s:St} {K:St->Prop}
def yk{s:St}{D:Nat}{w':World}(bn:s.Ok)(hD:∀c t f,s.w.heap[D]?≠some (.cells c t f))(h:Rec D s.w w'):({s with w:=w'}:St).Ok:=by refine ⟨λk kb h1 h2=> ?_,bn.ne,bn.mj⟩;have:=bn.bf k kb h1 h2;rw [<-this];exact h.same _ λe=>hD _ _ _ (e▸this)
structure iW(P:Program)(kt:TypeId)(G:Value->Prop):Prop where
 eq:∀x y,G x->G y->∃b,eqV P 20 kt x y=some b/\(b=true ↔ x=y)
 check:∀x,G x->∀b w,(Instr.checkKey b 10000 kt x).run P w=.ok () w
 bits:∀x,G x->Instr.sameBits 10000 x x=true
def cD(G:Value->Prop)(w:World)(m:Option Nat)(kvs:List (Value × Value)):Prop:=
 match m with
 |none=>kvs=[]
 |some r=>∃es clock,w.heap[r]? =some (.map es clock)/\es.toList.map (λe=>(e.key,e.val))=kvs/\(∀e ∈ kvs,G e.1)/\(kvs.map (·.1)).Nodup/\
  (es.toList.map (·.born)).Pairwise (·<·)/\∀e ∈ es.toList,e.born<clock
def Ie(kvs:List (Value × Value))(k z v:Value)(b:Bool):Prop:=
 (b=true/\(k,v) ∈ kvs)\/(b=false/\v=z/\∀e ∈ kvs,e.1≠k)
open Classical in
noncomputable def xQ(kvs:List (Value × Value))(k v:Value):List (Value × Value):=
 if ∃e ∈ kvs,e.1=k then kvs.map (λe=>if e.1=k then (e.1,v) else e) else kvs++ [(k,v)]
open Classical in
noncomputable def Gy(kvs:List (Value × Value))(k:Value):List (Value × Value):=kvs.filter λe=>¬e.1=k
def abq(a b:ByteArray):(a==b)=true ↔ a=b:=by
 cases a;cases b
 show ByteArray.beq _ _=true ↔ _;simp [ByteArray.beq]
def An{d:TypeDesc}{x y:Value}{b:Bool}(h:Instr.sameNow d x y=some b):b=true ↔ x=y:=by
 unfold Instr.sameNow at h;split at h
 ·split at h
  ·rename_i e;subst e;cases h;simp
  ·cases h
 ·cases h;simp only [Value.string.injEq];exact abq _ _
 ·cases h;simp
 ·cases h
def findNow_spec{d:TypeDesc}{k:Value}:∀(es:List MapEntry)(i:Nat)(r:Option (Nat × Value)),Instr.findNow d k es i=some r->
  match r with
  |none=>∀e ∈ es,e.key≠k
  |some (j,v)=>∃m e,j=i+m/\es[m]? =some e/\e.key=k/\e.val=v
 | [],i,r,h=>by unfold Instr.findNow at h;cases h;simp
 |e::es,i,r,h=>by
  unfold Instr.findNow at h
  split at h
  ·rename_i hs
   cases h
   exact ⟨0,e,rfl,rfl,((An hs).1 rfl).symm,rfl⟩
  ·rename_i hs
   have ih:=findNow_spec es (i+1) r h
   have jh:e.key≠k:=λe=>by have:=(An hs).2 e.symm;cases this
   cases r with
   |none=>
    intro e' he'
    rcases cB.1 he' with rfl|he'
    ·exact jh
    ·exact ih e' he'
   |some p=>
    obtain ⟨m,e',h1,h2,h3,h4⟩:=ih
    exact ⟨m+1,e',by omega,by simpa using h2,h3,h4⟩
  ·cases h
def uL{kt:TypeId}{G:Value->Prop}(hk:iW P kt G){k:Value}(hkG:G k):∀(es:List MapEntry)(i:Nat)(w:World),(∀e ∈ es,G e.key)->
  ∃r,(Instr.findAsking kt k es i).run P w=.ok r w/\match r with
  |none=>∀e ∈ es,e.key≠k
  |some (j,v)=>∃m e,j=i+m/\es[m]? =some e/\e.key=k/\e.val=v
 | [],i,w,_=>⟨none,rfl,by simp⟩
 |e::es,i,w,hG=>by
  obtain ⟨b,h1,h2⟩:=hk.eq k e.key hkG (hG e (.head _))
  have h3:(Op.equal kt k e.key).run P w=.ok b w:=lG (KL 20 kt _ _ _ h1 _ ab w)
  cases b with
  |true=>exact ⟨some (i,e.val),by unfold Instr.findAsking;rw [Sem.run_bind,h3];rfl,0,e,rfl,rfl,(h2.1 rfl).symm,rfl⟩
  |false=>
   obtain ⟨r,g1,g2⟩:=uL hk hkG es (i+1) w λe he=>hG e (.tail _ he)
   have jh:e.key≠k:=λe=>by have:=h2.2 e.symm;cases this
   refine ⟨r,by unfold Instr.findAsking;rw [Sem.run_bind,h3];exact g1,?_⟩
   cases r with
   |none=>
    intro e' he'
    rcases cB.1 he' with rfl|he'
    ·exact jh
    ·exact g2 e' he'
   |some p=>
    obtain ⟨m,e',h1,h2,h3,h4⟩:=g2
    exact ⟨m+1,e',by omega,by simpa using h2,h3,h4⟩
def uM{kt:TypeId}{G:Value->Prop}(hk:iW P kt G)(hu:(P.underlying kt).isSome=true){k:Value}(hkG:G k)(es:List MapEntry)(w:World)(hG:∀e ∈ es,G e.key):
  ∃r,(Instr.findKey kt k es).run P w=.ok r w/\match r with
  |none=>∀e ∈ es,e.key≠k
  |some (j,v)=>∃e,es[j]? =some e/\e.key=k/\e.val=v:=by
 obtain ⟨d,hd⟩:=oE.1 hu;have key:∃r,(Instr.findKey kt k es).run P w=.ok r w/\match r with
  |none=>∀e ∈ es,e.key≠k
  |some (j,v)=>∃m e,j=0+m/\es[m]? =some e/\e.key=k/\e.val=v:=by
  unfold Instr.findKey;simp only [Sem.run_bind,aI,hd,Result.andThen_ok]
  cases hf:Instr.findNow d k es 0 with
  |some r=>exact ⟨r,rfl,findNow_spec es 0 r hf⟩
  |none=>exact uL hk hkG es 0 w hG
 obtain ⟨r,h1,h2⟩:=key;refine ⟨r,h1,?_⟩
 cases r with
 |none=>exact h2
 |some p=>
  obtain ⟨m,e,g1,g2,g3,g4⟩:=h2;exact ⟨e,by rw [g1,eK];exact g2,g3,g4⟩
def oZ{r:Nat}{es:Array MapEntry}{c:Nat}{w:World}(h:w.heap[r]? =some (.map es c)):(getObj r).run P w=.ok (.map es c) w:=by simp [getObj,Sem.run,h]
def sQ{r:Nat}{es es':Array MapEntry}{c c':Nat}{w:World}(h:w.heap[r]? =some (.map es c)):(setObj r (.map es' c')).run P w=.ok () (w.putObj r (.map es' c')):=by simp [setObj,Sem.run,h,World.putObj]
def B0{α β:Type}{f:α->β}:∀{l:List α} {x y:α},(l.map f).Nodup->x ∈ l->y ∈ l->f x=f y->x=y
 | [],_,_,_,h,_,_=>by cases h
 |a::l,x,y,hn,hx,hy,e=>by
  rw [fu,oL] at hn
  rcases cB.1 hx with rfl|hx
  ·rcases cB.1 hy with e2|hy
   ·exact e2.symm
   ·exact absurd (aW.2 ⟨y,hy,e.symm⟩) hn.1
  ·rcases cB.1 hy with e2|hy
   ·rw [e2] at e
    exact absurd (aW.2 ⟨x,hx,e⟩) hn.1
   ·exact B0 hn.2 hx hy e
def uN(P:Program)(t:TypeId):Option (TypeId × TypeId × Value):=match P.underlying t with
 |some (.map kt et)=>if (P.underlying kt).isSome &&(P.underlying et).isSome then ((P.info? et).bind (·.zero)).map λz=>(kt,et,z) else none
 |_=>none
def o5{t kt et:TypeId}{z:Value}(h:uN P t=some (kt,et,z)):P.underlying t=some (.map kt et)/\(P.underlying kt).isSome=true/\(P.underlying et).isSome=true/\∀w,(zeroValue et).run P w=.ok z w:=by
 unfold uN at h;split at h
 ·rename_i kt' et' hu;split at h
  ·rename_i hb;rw [fk] at hb
   cases hi:P.info? et' with
   |none=>simp [hi] at h
   |some i=>
    cases hz:i.zero with
    |none=>simp [hi,hz] at h
    |some z'=>
     simp [hi,hz] at h;obtain ⟨rfl,rfl,rfl⟩:=h;exact ⟨hu,hb.1,hb.2,λw=>by simp [zeroValue,eo,hi,hz]⟩
  ·cases h
 ·cases h
def od{kt:TypeId}{G:Value->Prop}(hk:iW P kt G){k:Value}(h:G k)(b:Bool)(w:World):(Instr.checkKey b 10000 kt k).run P w=.ok () w:=hk.check k h b w
def J1{kt:TypeId}{z k:Value}{G:Value->Prop}{kvs:List (Value × Value)}{w:World}(hk:iW P kt G)(hu:(P.underlying kt).isSome=true)(hkG:G k){es:List MapEntry}
  (he:es.map (λe=>(e.key,e.val))=kvs)(hG:∀e ∈ kvs,G e.1)(hnd:(kvs.map (·.1)).Nodup){v:Value}{b:Bool}(hl:Ie kvs k z v b):
  ∃r,(Instr.findKey kt k es).run P w=.ok r w/\((r=none/\b=false/\v=z)\/∃j,r=some (j,v)/\b=true):=by
 have hGe:∀e ∈ es,G e.key:=λe hm=>hG (e.key,e.val) (by rw [<-he];exact aW.2 ⟨e,hm,rfl⟩)
 obtain ⟨rr,g1,g2⟩:=uM hk hu hkG es w hGe;refine ⟨rr,g1,?_⟩
 cases rr with
 |none=>
  rcases hl with ⟨rfl,pk⟩|⟨rfl,rfl,_⟩
  ·rw [<-he] at pk;obtain ⟨e,he1,he2⟩:=aW.1 pk;exact absurd (congrArg Prod.fst he2) (g2 e he1)
  ·exact .inl ⟨rfl,rfl,rfl⟩
 |some p=>
  obtain ⟨j,v'⟩:=p;obtain ⟨e,g3,g4,g5⟩:=g2;have hme:e ∈ es:=aX g3;rcases hl with ⟨rfl,pk⟩|⟨rfl,rfl,mO⟩
  ·rw [<-he] at pk;obtain ⟨e',he1,he2⟩:=aW.1 pk;have hkk:e'.key=e.key:=(congrArg Prod.fst he2).trans g4.symm;have hv:e'.val=v:=congrArg Prod.snd he2;have:e'=e:=by rw [<-he,kS] at hnd;exact B0 hnd he1 hme hkk
   subst this;rw [hv] at g5;subst g5;exact .inr ⟨j,rfl,rfl⟩
  ·exact absurd g4 (mO (e.key,e.val) (by rw [<-he];exact aW.2 ⟨e,hme,rfl⟩))
def S2{t kt et:TypeId}{z k:Value}{G:Value->Prop}{r:Option Nat}{kvs:List (Value × Value)}{w:World}(ht:uN P t=some (kt,et,z))(hk:iW P kt G)(hm:cD G w r kvs)(hkG:G k)(ok:Bool){v:Value}{b:Bool}
  (hl:Ie kvs k z v b):(Instr.lookup t (.map r) k ok).run P w=.ok (if ok then .tuple #[v,.bool b] else v) w:=by
 obtain ⟨h1,h2,h3,h4⟩:=o5 ht;unfold Instr.lookup;simp only [Sem.run_bind,aI,h1,Result.andThen_ok]
 cases r with
 |none=>
  have hkv:kvs=[]:=hm;obtain ⟨rr,g1,g2⟩:=J1 (es:=[]) (w:=w) hk h2 hkG hkv.symm (by rw [hkv];simp) (by rw [hkv];simp) hl;simp only [Sem.run_bind,Sem.run_pure,Result.andThen_ok,od hk hkG];rw [g1];rcases g2 with ⟨rfl,rfl,rfl⟩|⟨j,rfl,rfl⟩<;>simp [h4]
 |some r=>
  obtain ⟨es,clock,e1,e2,e3,e4,_⟩:=hm;obtain ⟨rr,g1,g2⟩:=J1 (es:=es.toList) (w:=w) hk h2 hkG e2 e3 e4 hl;simp only [Sem.run_bind,oZ e1,Result.andThen_ok,Sem.run_pure,od hk hkG,g1];rcases g2 with ⟨rfl,rfl,rfl⟩|⟨j,rfl,rfl⟩<;>simp [h4]
def Ao{α β:Type}{f:α->β}:∀{l:List α},(l.map f).Nodup->l.Nodup
 | [],_=>List.nodup_nil
 |a::l,h=>by
  rw [fu,oL] at h
  exact oL.2 ⟨λhm=>h.1 (aW.2 ⟨a,hm,rfl⟩),Ao h.2⟩
def XC{kvs:List (Value × Value)}{k v:Value}:∀e ∈ xQ kvs k v,e.1=k\/∃e' ∈ kvs,e'.1=e.1:=by
 intro e he;unfold xQ at he;split at he
 ·obtain ⟨e',h1,rfl⟩:=aW.1 he;refine .inr ⟨e',h1,?_⟩;split<;>rfl
 ·rcases cV.1 he with he|he
  ·exact .inr ⟨e,he,rfl⟩
  ·simp at he;exact .inl (by rw [he])
def GB{kvs:List (Value × Value)}{k v:Value}(h:(kvs.map (·.1)).Nodup):((xQ kvs k v).map (·.1)).Nodup:=by
 classical
 unfold xQ;split
 ·have:(kvs.map λe=>if e.1=k then (e.1,v) else e).map (·.1)=kvs.map (·.1):=by
   rw [kS];refine wG λe _=> ?_
   simp only [Function.comp_apply];split<;>rfl
  rw [this];exact h
 ·rename_i hn;rw [bW];refine tA.2 ⟨h,by simp,λa ha b hb e=> ?_⟩;simp at hb;obtain ⟨e',he',rfl⟩:=aW.1 ha;exact hn ⟨e',he',by rw [e,hb]⟩
def GD{t kt et:TypeId}{z k v:Value}{G:Value->Prop}{r:Nat}{kvs:List (Value × Value)}{w:World}(ht:uN P t=some (kt,et,z))(hk:iW P kt G)(hm:cD G w (some r) kvs)(hkG:G k):
  ∃w',(Instr.mapUpdate t (.map (some r)) k v).run P w=.ok () w'/\Rec r w w'/\cD G w' (some r) (xQ kvs k v):=by
 obtain ⟨h1,h2,h3,h4⟩:=o5 ht;obtain ⟨es,clock,e1,e2,e3,e4,e5,e6⟩:=hm;have hr:=(tg.1 e1).1;have hGe:∀e ∈ es.toList,G e.key:=λe hm=>e3 (e.key,e.val) (by rw [<-e2];exact aW.2 ⟨e,hm,rfl⟩)
 obtain ⟨rr,g1,g2⟩:=uM hk h2 hkG es.toList w hGe;have hG':∀e ∈ xQ kvs k v,G e.1:=λe he=>by
  rcases XC e he with h|⟨e',h,h'⟩
  ·rw [h];exact hkG
  ·rw [<-h'];exact e3 e' h
 unfold Instr.mapUpdate;simp only [Sem.run_bind,aI,h1,Result.andThen_ok,oZ e1,od hk hkG,g1]
 cases rr with
 |none=>
  refine ⟨w.putObj r (.map (es.push {key:=k,val:=v,born:=clock}) (clock+1)),sQ e1,Rec.putObj _ _ _,?_⟩;have mO:¬∃e ∈ kvs,e.1=k:=by rintro ⟨e,he,hek⟩;rw [<-e2] at he;obtain ⟨e',h5,rfl⟩:=aW.1 he;exact g2 e' h5 hek
  refine ⟨_,_,World.putObj_heap_same hr,?_,hG',GB e4,?_,?_⟩
  ·unfold xQ;rw [if_neg mO,<-e2];simp
  ·simp only [Array.toList_push,bW,fu,List.map_nil];refine List.pairwise_append.2 ⟨e5,by simp,λa ha b hb=> ?_⟩;simp at hb;subst hb;obtain ⟨e,he,rfl⟩:=aW.1 ha;exact e6 e he
  ·intro e he;simp only [Array.toList_push,cV,iN] at he;rcases he with he|rfl
   ·have:=e6 e he;omega
   ·show clock<clock+1;omega
 |some p=>
  obtain ⟨j,v'⟩:=p;obtain ⟨e,g3,g4,g5⟩:=g2;have hj:j<es.toList.length:=(cG.1 g3).1;have hje:es[j]? =some e:=by simpa using g3
  have ava:((es[j]?).map (·.key)).getD k=k:=by rw [hje];exact g4
  refine ⟨w.putObj r (.map (es.modify j λe=>{e with key:=k,val:=v}) clock),?_,Rec.putObj _ _ _,?_⟩
  ·simp only [ava,Instr.keyThatStays,hk.bits k hkG,if_true,Sem.run_bind,Sem.run_pure,Result.andThen_ok];exact sQ e1
  ·have avb:∃e ∈ kvs,e.1=k:=⟨(e.key,e.val),by rw [<-e2];exact aW.2 ⟨e,aX g3,rfl⟩,g4⟩;have qE:(es.modify j λe=>{e with key:=k,val:=v}).toList=es.toList.modify j λe=>{e with key:=k,val:=v}:=by simp
   have gu:∀i,(es.toList.modify j λe=>{e with key:=k,val:=v})[i]? =(es.toList[i]?).map λe'=>if i=j then {e' with key:=k,val:=v} else e':=by
    intro i;rw [Jj]
    cases es.toList[i]? with
    |none=>rfl
    |some x=>simp [eq_comm]
   refine ⟨_,_,World.putObj_heap_same hr,?_,hG',GB e4,?_,?_⟩
   ·unfold xQ;rw [if_pos avb,<-e2,qE];apply iP;intro i;rw [aR,gu,aR,aR]
    cases hi:es.toList[i]? with
    |none=>rfl
    |some x=>
     simp only [nB,Option.some.injEq];by_cases hij:i=j
     ·subst hij;rw [g3] at hi;cases hi;rw [if_pos rfl,if_pos (show (e.key,e.val).1=k from g4)];show (k,v)=(e.key,v);rw [g4]
     ·rw [if_neg hij,if_neg];intro hx;refine hij ?_;have hxe:x=e:=by rw [<-e2,kS] at e4;exact B0 e4 (aX hi) (aX g3) (show x.key=e.key from (show x.key=k from hx).trans g4.symm)
      have hnd:es.toList.Nodup:=by rw [<-e2,kS] at e4;exact Ao e4
      subst hxe;exact (List.getElem?_inj (by exact (cG.1 hi).1) hnd).1 (hi.trans g3.symm)
   ·rw [qE];have:(es.toList.modify j λe=>{e with key:=k,val:=v}).map (·.born)=es.toList.map (·.born):=by
     apply iP;intro i;rw [aR,gu,aR]
     cases es.toList[i]? with
     |none=>rfl
     |some x=>simp only [nB];split<;>rfl
    rw [this];exact e5
   ·intro e' he';rw [qE] at he';obtain ⟨i,hi⟩:=wF he';rw [gu] at hi
    cases hx:es.toList[i]? with
    |none=>rw [hx] at hi;cases hi
    |some x=>
     rw [hx] at hi;have:=e6 x (aX hx);simp only [nB,Option.some.injEq] at hi;split at hi<;>(subst hi;exact this)
def S4{t kt et:TypeId}{z k:Value}{G:Value->Prop}{r:Nat}{kvs:List (Value × Value)}{w:World}{ty:TypeId}{ats:Array TypeId}(ha:ats[0]? =some t)(ht:uN P t=some (kt,et,z))(hk:iW P kt G)(hm:cD G w (some r) kvs)(hkG:G k):
  ∃w',(Builtin.delete_ ats ty #[.map (some r),k]).run P w=.ok (.tuple #[]) w'/\Rec r w w'/\cD G w' (some r) (Gy kvs k):=by
 obtain ⟨h1,h2,h3,h4⟩:=o5 ht;obtain ⟨es,clock,e1,e2,e3,e4,e5,e6⟩:=hm;have hr:=(Array.getElem?_eq_some_iff.1 e1).1;have hGe:∀e ∈ es.toList,G e.key:=λe hm=>e3 (e.key,e.val) (by rw [<-e2];exact List.mem_map.2 ⟨e,hm,rfl⟩)
 obtain ⟨rr,g1,g2⟩:=uM hk h2 hkG es.toList w hGe;have eX:(Gy kvs k).Sublist kvs:=List.filter_sublist;unfold Builtin.delete_;simp only [ha,show (#[Value.map (some r),k]:Array Value)[0]? =some (.map (some r)) from rfl,show (#[Value.map (some r),k]:Array Value)[1]? =some k from rfl,Sem.run_bind,aI,h1,Result.andThen_ok,oZ e1,od hk hkG,g1]
 cases rr with
 |none=>
  refine ⟨w.putObj r (.map es clock),by rw [Sem.run_bind,sQ e1];rfl,Rec.putObj _ _ _,es,clock,World.putObj_heap_same hr,?_,λe he=>e3 e (eX.subset he),(eX.map _).nodup e4,e5,e6⟩;rw [e2];unfold Gy;symm;rw [List.filter_eq_self];intro e he;rw [<-e2] at he;obtain ⟨e',h5,rfl⟩:=List.mem_map.1 he;simpa using g2 e' h5
 |some p=>
  obtain ⟨j,v'⟩:=p;obtain ⟨e,g3,g4,g5⟩:=g2;have hj:j<es.toList.length:=(List.getElem?_eq_some_iff.1 g3).1;have hl:(es.eraseIdxIfInBounds j).toList=es.toList.eraseIdx j:=by unfold Array.eraseIdxIfInBounds;rw [dif_pos (by simpa using hj),Array.toList_eraseIdx]
  have hs:(es.toList.eraseIdx j).Sublist es.toList:=List.eraseIdx_sublist _ _;refine ⟨w.putObj r (.map (es.eraseIdxIfInBounds j) clock),by rw [Sem.run_bind,sQ e1];rfl,Rec.putObj _ _ _,_,clock,World.putObj_heap_same hr,?_,λe he=>e3 e (eX.subset he),(eX.map _).nodup e4,?_,?_⟩
  ·rw [hl,<-e2];have hnd:(es.toList.map (·.key)).Nodup:=by rw [<-e2,List.map_map] at e4;exact e4
   clear hl hs e2 e3 e4 e5 e6 hGe g1 eX e1 hr h1 h2 h3 h4;generalize es.toList=l at*;unfold Gy
   induction l generalizing j with
   |nil=>simp at hj
   |cons x l ih=>
    rw [List.map_cons,List.nodup_cons] at hnd
    cases j with
    |zero=>
     simp at g3;subst g3;simp only [List.eraseIdx_cons_zero,List.map_cons];rw [List.filter_cons_of_neg (by simpa using g4)];symm;rw [List.filter_eq_self];intro y hy;obtain ⟨y',h5,rfl⟩:=List.mem_map.1 hy;have:y'.key≠k:=λhh=>hnd.1 (List.mem_map.2 ⟨y',h5,by rw [hh,g4]⟩)
     simpa using this
    |succ j=>
     have hx:x.key≠k:=λhh=>hnd.1 (List.mem_map.2 ⟨e,List.mem_of_getElem? (by simpa using g3),by rw [g4,hh]⟩)
     simp only [List.eraseIdx_cons_succ,List.map_cons];rw [List.filter_cons_of_pos (by simpa using hx),ih j (by simpa using g3) (by simpa using hj) hnd.2]
  ·rw [hl];exact e5.sublist (hs.map _)
  ·intro e' he';rw [hl] at he';exact e6 e' (hs.subset he')
def abr{t kt et:TypeId}{G:Value->Prop}{r:Option Nat}{kvs:List (Value × Value)}{w:World}{ty:TypeId}{ats:Array TypeId}(ha:ats[0]? =some t)(ht:P.underlying t=some (.map kt et))(hm:cD G w r kvs):
  (Builtin.len_ ats ty #[.map r]).run P w=.ok (.int .i64 kvs.length) w:=by
 cases r with
 |none=>
  have:kvs=[]:=hm;subst this;simp [Builtin.len_,ha,aI,ht,goInt]
 |some r=>
  obtain ⟨es,clock,e1,e2,_⟩:=hm;have:kvs.length=es.size:=by rw [<-e2];simp
  simp [Builtin.len_,ha,aI,ht,goInt,oZ e1,this]
def abt(P:Program)(s:St)(d:Option Tmp)(t:TypeId)(m k:Value)(ok:Bool)(K:St->Prop):Prop:=
 match uN P t,m with
 |some (kt,et,z),.map r=>∃(G:Value->Prop)(kvs:List (Value × Value)),iW P kt G/\cD G s.w r kvs/\G k/\
  (tQ P et).ex λv=>∃b:Bool,Ie kvs k z v b/\K (s.put d (.val (match ok with|true=> .tuple #[v,.bool b]|false=>v)))
 |_,_=>False
def abu(P:Program)(s:St)(d:Option Tmp)(t:TypeId)(m k v:Value)(l:List SV)(K:St->Prop):Prop:=
 match uN P t,m with
 |some (kt,_,_),.map r=>∃(G:Value->Prop)(kvs:List (Value × Value)),iW P kt G/\r.isSome=true/\cD G s.w r kvs/\G k/\
  ∀w1,Rec (r.getD 0) s.w w1->cD G w1 r (xQ kvs k v)->K (({s.kill l with w:=w1}).put d (.val undef))
 |_,_=>False
def ahy(P:Program)(s:St)(d:Option Tmp)(ats:List TypeId)(m k:Value)(K:St->Prop):Prop:=
 match ats,m with
 |t::_,.map r=>match uN P t with
  |some (kt,_,_)=>∃(G:Value->Prop)(kvs:List (Value × Value)),iW P kt G/\r.isSome=true/\cD G s.w r kvs/\G k/\
   ∀w1,Rec (r.getD 0) s.w w1->cD G w1 r (Gy kvs k)->K (({s with w:=w1}).put d (.val (.tuple #[])))
  |none=>False
 |_,_=>False
def abv(P:Program)(s:St)(d:Option Tmp)(ats:List TypeId)(m:Value)(K:St->Prop):Prop:=
 match ats,m with
 |t::_,.map r=>match uN P t with
  |some _=>∃(G:Value->Prop)(kvs:List (Value × Value)),cD G s.w r kvs/\K (s.put d (.val (.int .i64 kvs.length)))
  |none=>False
 |_,_=>False
def U3(P:Program)(s:St)(d:Option Tmp)(t:TypeId)(h:Option Value)(K:St->Prop):Prop:=
 match uN P t,uj h with
 |some _,some _=>∀w1,w1=s.w.alloc (.map #[] 0)->K ({s with w:=w1}.put d (.val (.map (some s.w.heap.size))))
 |_,_=>False
def cD.vr{G:Value->Prop}{w:World}{r:Nat}{kvs:List (Value × Value)}(h:cD G w (some r) kvs):∀c t f,w.heap[r]?≠some (.cells c t f):=by obtain ⟨es,clock,e1,_⟩:=h;intro c t f e;rw [e1] at e;cases e
def XD{t:TypeId}{h:Option Value}{x:TypeId × TypeId × Value}{y:Option Int}(ht:uN P t=some x)(hh:uj h=some y)(w:World):(Instr.makeMap t h).run P w=.ok (.map (some w.heap.size)) (w.alloc (.map #[] 0)):=by
 obtain ⟨kt,et,z⟩:=x;obtain ⟨h1,_⟩:=o5 ht
 cases h with
 |none=>simp [Instr.makeMap,kj]
 |some v=>
  cases v<;>simp [uj] at hh
  simp [Instr.makeMap,aI,h1,asInt,asIntOf,kj]
end
def uO(P:Program)(t:TypeId)(len:Nat)(parts:Array (Nat × Value)):Option (TypeId × Array Value):=
 match oJ P t with
 |none=>none
 |some (e,i)=>match i.zero with
  |none=>none
  |some z=>match len with
   |0=>(match parts.toList with| []=>some (e,#[])|_=>none)
   |len=>if ¬len*i.size>2 ^ 24/\¬len*i.size=0 then
    (Instr.fill (λj=>some (j*i.size,i.size)) ((Array.range (len*i.size)).map (z.cells[· % z.cells.size]!)) parts.toList).map λcs=>(e,cs)
    else none
def oe(P:Program)(s:St)(d:Option Tmp)(t:TypeId)(len:Nat)(parts:Array (Nat × Value))(K:St->Prop):Prop:=
 match uO P t len parts with
 |some (e,cells)=>∀w1,w1=s.w.alloc (.cells cells e)->K ({s with w:=w1,kn:=s.kn++ [KB.mk s.w.heap.size cells.toList e true]}.put d (.sli s.kn.length len))
 |none=>False
def tD{t:TypeId}{len:Nat}{parts:Array (Nat × Value)}{e:TypeId}{cells:Array Value}(h:uO P t len parts=some (e,cells))(w:World):
  (Instr.buildSlice t len parts).run P w=.ok (.slice (some ⟨w.heap.size,0,none⟩) len len) (w.alloc (.cells cells e)):=by
 unfold uO at h;split at h
 ·cases h
 rename_i e' i he;obtain ⟨ht,hi⟩:=jT he;split at h
 ·cases h
 rename_i z hz;split at h
 ·split at h
  ·rename_i hp
   cases h
   obtain ⟨l⟩:=parts;simp only at hp;subst hp;simp [Instr.buildSlice,aI,ht,sizeOf,typeInfo,hi,Instr.fill,newRow];congr 2;exact Array.eq_empty_of_size_eq_zero cp
  ·cases h
 ·split at h
  ·rename_i hl
   cases hf:Instr.fill (λj=>some (j*i.size,i.size)) ((Array.range (len*i.size)).map (z.cells[· % z.cells.size]!)) parts.toList with
   |none=>rw [hf] at h;cases h
   |some cs=>
    rw [hf] at h
    cases h
    exact run_buildSlice w t e len parts cells i z ht hi hz hl.1 hl.2 hf
  ·cases h
def Aq{d:Option Tmp}{t:TypeId}{len:Nat}{parts:Array (Nat × Value)}(bn:s.Ok)(h:oe P s d t len parts K):
  ∃v w',(Instr.buildSlice t len parts).run P s.w=.ok v w'/\iO d s K (s.act.put d v) w':=by
 unfold oe at h;split at h
 ·rename_i e cells hc;refine ⟨_,_,tD hc s.w,?_⟩;have Hk:∀j,j<s.w.heap.size->(s.w.alloc (.cells cells e)).heap[j]? =s.w.heap[j]? :=λj hj=>Below.heap_alloc _ _ _ hj
  have L9:(s.w.alloc (.cells cells e)).heap[s.w.heap.size]? =some (.cells cells e (0,0)):=by show (s.w.heap.push _)[s.w.heap.size]? =_;simp
  have key:∀(i:Nat)(x:KB),(s.kn++ [KB.mk s.w.heap.size cells.toList e true])[i]? =some x->(i<s.kn.length/\s.kn[i]? =some x)\/(i=s.kn.length/\x=KB.mk s.w.heap.size cells.toList e true):=by
   intro i x hx;rcases jD i s.kn.length with iC|TL
   ·exact .inl ⟨iC,by rwa [oI iC] at hx⟩
   ·rw [qW TL] at hx
    cases hz:i-s.kn.length with
    |zero=>simp [hz] at hx;subst hx;exact .inr ⟨by omega,rfl⟩
    |succ n=>simp [hz] at hx
  have h:=h _ rfl;refine kO h bn rfl (EY _ _) (λk kb h1 h2=> ?_) (λi j x y h1 h2 h3 h4 h5=> ?_) (show s.kn.length<(s.kn++ [_]).length by simp) ?_ rfl
  ·rcases key k kb h1 with ⟨_,a2⟩|⟨_,rfl⟩
   ·rw [<-bn.bf k kb a2 h2];exact Hk _ (bn.lt k kb a2 h2)
   ·simpa using L9
  ·rcases key i x h1 with ⟨a1,a2⟩|⟨a1,rfl⟩<;>rcases key j y h2 with ⟨b1,b2⟩|⟨b1,rfl⟩
   ·exact bn.ne i j x y a2 b2 h3 h4 h5
   ·have:=bn.lt i x a2 h3;simp only at h5;omega
   ·have:=bn.lt j y b2 h4;simp only at h5;omega
   ·omega
  ·simp [SV.cg,dZ]
 ·cases h
def okT(P:Program)(t:TypeId):Bool:=match P.underlying t with|some _=>true|none=>false
def okI(P:Program)(t:TypeId):Bool:=match P.info? t with|some _=>true|none=>false
def uP{t:TypeId}(h:okT P t=true):(P.underlying t).isSome=true:=by unfold okT at h;split at h<;>simp_all
def abw{t:TypeId}(h:okI P t=true):(P.info? t).isSome=true:=by unfold okI at h;split at h<;>simp_all
def LD(s:St)(parts:Array (Nat × Operand)):Array (Nat × Value):=parts.map λp=>(p.1,s.ev p.2)
def LF(P:Program)(s:St)(d:Option Tmp)(t:TypeId)(x i:Value)(K:St->Prop):Prop:=
 match x,i,pT P t with
 | .agg cs,.int _ i,some (n,e)=>match tQ P e,gZ P e,okT P e with
   | .sc c,some z,true=>(0<=i/\i<(n:Int))/\c.ex λv=>cs.toList[i.toNat*z]? =some v/\K (s.put d (.val v))
   | .agg l,some z,true=>(0<=i/\i<(n:Int))/\exL l λvs=>(cs.toList.drop (i.toNat*z)).take z=vs/\K (s.put d (.val (.agg vs.toArray)))
   |_,_,_=>False
 |_,_,_=>False
def LG{d:Option Tmp}{t:TypeId}{x i:Value}(bn:s.Ok)(h:LF P s d t x i K):∃v,(Instr.index t x i).run P s.w=.ok v s.w/\iO d s K (s.act.put d v) s.w:=by
 unfold LF at h;split at h
 ·rename_i cs k i n e ha;have hu:P.underlying t=some (.array n e):=by
   unfold pT at ha;split at ha
   ·rename_i hu;cases ha;exact hu
   ·cases ha
  split at h
  ·rename_i c z ht hz hue;obtain ⟨hb,hex⟩:=h;obtain ⟨v,hv,hk⟩:=S.lF hex;have hz':(sizeOf e).run P s.w=.ok z s.w:=by
    unfold gZ at hz
    cases hi':P.info? e with
    |none=>simp [hi'] at hz
    |some i'=>simp [hi'] at hz;rw [fb (by simp [hi'])];simp [fQ,hi',hz]
   refine ⟨v,?_,fy bn hk⟩;have hp:=(yT (P:=P) (t:=e) (cs:=cs) (off:=i.toNat*z) s.w (by have:=uP hue;cases hq:P.underlying e<;>simp_all)).2 (MP ht) v (by simpa using hv);simp [Instr.index,asIntOf,aI,hu,hb,hz',hp]
  ·rename_i l z ht hz hue;obtain ⟨hb,hex⟩:=h;obtain ⟨vs,hv,hk⟩:=KG hex;have hz':(sizeOf e).run P s.w=.ok z s.w:=by
    unfold gZ at hz
    cases hi':P.info? e with
    |none=>simp [hi'] at hz
    |some i'=>simp [hi'] at hz;rw [fb (by simp [hi'])];simp [fQ,hi',hz]
   have YQ:fQ P e=z:=by unfold gZ at hz;unfold fQ;rw [hz];rfl
   refine ⟨_,?_,fy bn hk⟩;have hp:=(yT (P:=P) (t:=e) (cs:=cs) (off:=i.toNat*z) s.w (by have:=uP hue;cases hq:P.underlying e<;>simp_all)).1 (E1 ht);rw [YQ,hv] at hp;simp [Instr.index,asIntOf,aI,hu,hb,hz',hp]
  ·cases h
 ·cases h
def abx(P:Program)(src dst:TypeId):Bool:=
 match P.underlying src,P.underlying dst with
 |some (.slice e),some .string=>match P.underlying e with|some (.int .u8)=>true|_=>false
 |_,_=>false
def U4(P:Program)(s:St):Op->Option (Option Addr × Nat)
 | .convert src dst x=>match abx P src dst with
   |true=>match s.ev x with| .slice a n _=>some (a,n)|_=>none
   |false=>none
 |_=>none
def J2{o:Oper}{a:Option Addr}{n:Nat}(h:U4 P s o.op=some (a,n)){ns:List Int}(hn:ns.length=n){w':World}(hl:af w' a 0 (ns.map (Value.int .u8))):
  (execOp s.ev o).run P w'=.ok (.value (.string (strOfNums ns))) w':=by
 obtain ⟨dst,op,ty,pos,after,guard⟩:=o;simp only at h;unfold U4 at h;split at h
 ·rename_i src dst' x;split at h
  ·rename_i hb;split at h
   ·rename_i a' n' c hx
    cases h
    unfold abx at hb;split at hb
    ·rename_i e hs hd;split at hb
     ·rename_i he;show (do pure (Next.value (<-convert src dst' (s.ev x))):Sem Next).run P w'=_;have key:(convert src dst' (s.ev x)).run P w'=.ok (.string (strOfNums ns)) w':=by
       rw [hx]
       cases a with
       |none=>
        have:ns=[]:=by
         cases ns with
         |nil=>rfl
         |cons v r=>have:=mu hl 0 cp;simp [Vc.ld,ae] at this
        subst this;rw [run_convert_bytes_nil w' src e hs he _ _ dst' hd];rfl
       |some b=>
        have hc:=run_loadCells_list (P:=P) (w:=w') b (ns.map (Value.int .u8)) (λj v hj=>by have:=mu hl j (cG.1 hj).1;rw [eK,hj] at this;exact this);rw [aN,hn] at hc;rw [run_convert_bytes_string w' src dst' e _ n c hs he hd,run_bytesToString w' _ n c ns hc,foldl_push_bytes];simp [strOfNums,ByteArray.empty,ByteArray.emptyWithCapacity];rfl
      rw [Sem.run_bind,key];rfl
     ·cases hb
    ·cases hb
   ·cases h
  ·cases h
 ·cases h
def J3(P:Program)(t:TypeId):Bool:=match P.underlying t with|some (.interface _)=>false|some _=>true|none=>false
def S5{t:TypeId}{v:Value}(h:J3 P t=true)(w:World):(Instr.makeInterface t v).run P w=.ok (.iface t v) w:=by
 unfold J3 at h;split at h
 ·cases h
 ·rename_i d hd jh;simp only [Instr.makeInterface,Sem.run_bind,aI,hd,Result.andThen_ok]
  cases d<;>simp_all
 ·cases h
def S6{a xT:TypeId}{v:Value}(h:J3 P a=true)(w:World):(Instr.typeAssert (.iface a v) xT a false).run P w=.ok v w:=by
 unfold J3 at h;split at h
 ·cases h
 ·rename_i d hd jh;simp only [Instr.typeAssert,Sem.run_bind,aI,hd,Result.andThen_ok]
  cases d<;>simp_all
 ·cases h
def J5(P:Program)(s:St)(o:Oper)(K:St->Prop):Prop:=
 match o.op with
 | .index t x i=>LF P s o.dst t (s.ev x) (s.ev i) K
 | .load t x=>match okT P t with|true=>E0 P s o.dst t (s.sv x) K|false=>False
 | .store t x v=>match okI P t with|true=>KM P s o.dst t (s.sv x) (s.sv v) K|false=>False
 | .box t v=>match A4 P t with
   |true=>A7 P (s.kill [s.sv v]) o.dst t (cellsOf (s.ev v)) K
   |false=>aP (kP (s.ev v)) (A7 P (s.kill [s.sv v]) o.dst t [s.ev v] K)
 | .alloc t=>match zeroOf P t with|some cs=>A7 P s o.dst t cs K|none=>False
 | .build t parts=>match P.built t (parts.toList.map λ(i,x)=>(i,s.ev x)) with
   |some cs=>K ((s.kill (parts.toList.map λ(_,x)=>s.sv x)).put o.dst (.val (.agg cs)))
   |none=>False
 | .buildSlice t len parts=>oe P (s.kill (parts.toList.map λ(_,x)=>s.sv x)) o.dst t len (LD s parts) K
 | .makeFunc fn first captured=>K ((s.kill ((first++captured).toList.map s.sv)).put o.dst (.val (.func fn (first.toList.map s.ev).toArray (captured.toList.map s.ev).toArray)))
 | .lookup t x k ok=>abt P s o.dst t (s.ev x) (s.ev k) ok K
 | .mapUpdate t m k v| .insert t m k v=>abu P s o.dst t (s.ev m) (s.ev k) (s.ev v) [s.sv k,s.sv v] K
 | .makeMap t h=>U3 P s o.dst t (h.map s.ev) K
 | .call ⟨.builtin .delete,args,ats⟩=>match args.toList with
   | [m,k]=>ahy P s o.dst ats.toList (s.ev m) (s.ev k) K
   |_=>False
 | .makeSlice t l c=>Rr P s o.dst t (s.ev l) (s.ev c) K
 | .call ⟨.builtin .copy,args,ats⟩=>match args.toList with
   | [x,y]=>Ru P s o.dst ats.toList (s.ev x) (s.ev y) K
   |_=>False
 | .call ⟨.builtin .clear,args,ats⟩=>match args.toList with
   | [x]=>KO P s o.dst ats.toList (s.ev x) K
   |_=>False
 | .call ⟨.builtin .len,args,ats⟩=>match args.toList with
   | [m]=>abv P s o.dst ats.toList (s.ev m) K
   |_=>False
 | .call ⟨.value x,args,_⟩=>GA P s o.dst o.type (s.ev x) (args.toList.map s.sv) K
 | .call ⟨.builtin .append,args,ats⟩=>match args.toList,ats.toList with
   | [x,y],[t,tx]=>E5 P s o.dst t tx (s.sv x) (s.sv y) K
   |_,_=>False
 | .convert .. =>match U4 P s o.op with
   |some (a,n)=>∃ns:List Int,ns.length=n/\af s.w a 0 (ns.map (Value.int .u8))/\K (s.put o.dst (.val (.string (strOfNums ns))))
   |none=>False
 | .makeInterface t x=>match J3 P t with|true=>K ((s.kill [s.sv x]).put o.dst (.val (.iface t (s.ev x))))|false=>False
 | .typeAssert x _ a false=>match J3 P a with|true=>(tQ P a).ex λv=>s.ev x=.iface a v/\K (s.put o.dst (.val v))|false=>False
 |_=>False
def XE(P:Program)(s:St)(o:Oper)(K:St->Prop):Prop:=
 match ej P s o.op with
 |some (cs,sv)=>aP cs (K (s.put o.dst sv))
 |none=>J5 P s o K
def Ar{d:Option Tmp}{s1:St}{a:Act}{w:World}(bn:s.Ok)(h1:s1.sl=s.sl)(h2:tR s.kn s1.kn)(h:iO d s1 K a w)(hdf:s1.df=s.df:=by first|rfl|exact nQ _ _):iO d s K a w:=by
 obtain ⟨s',a1,a2,a3,a4,a5⟩:=h;refine ⟨s',a1,a2,a3,⟨a4.len.trans (by rw [h1]),λi hi=>(a4.slot i hi).trans ?_,h2.trans a4.kn,by rw [<-hdf];exact a4.df⟩,a5⟩;rw [h1];simp only [dZ]
 cases hg:s.sl[i]? with
 |none=>rfl
 |some u=>exact h2.cg (bn.mj i u hg)
def mJ{l:List SV}(bn:s.Ok):(s.kill l).act=s.act:=by
 obtain ⟨k1,k2,k3,k4,k5⟩:=fq l bn;simp only [St.act,k2,nQ];congr 2;refine wG λx hx=> ?_
 obtain ⟨i,hi⟩:=wF hx;exact k4.cg (bn.mj i x hi)
def Ph(hP:DE P)(bn:s.Ok)(hny:∀x args ats l f c,o.op=.call ⟨.value x,args,ats⟩->s.ev x≠ .func (.yield l) f c)(h:J5 P s o K):o.wp P s.act s.w (iO o.dst s K) Q:=by
 obtain ⟨dst,op,ty,pos,after,guard⟩:=o;unfold J5 at h;simp only at h;have ev:∀{s':Sem Value} {v:Value} {w':World},(execOp s.ev ⟨dst,op,ty,pos,after,guard⟩=do pure (.value (<-s')))->s'.run P s.w=.ok v w'->iO dst s K (s.act.put dst v) w'->
   (Oper.mk dst op ty pos after guard).wp P s.act s.w (iO dst s K) Q:=by
  intro s' v w' h1 h2 h3;unfold Oper.wp;rw [St.eval_eq,h1,Sem.run_bind,h2];exact h3
 split at h
 ·rename_i t x i;obtain ⟨v,h1,h2⟩:=LG bn h;exact ev (s':=Instr.index t (s.ev x) (s.ev i)) rfl h1 h2
 ·rename_i t x;split at h
  ·rename_i hu;obtain ⟨a,v,h1,h2,h3⟩:=E3 bn (uP hu) h;refine ev (s':=Instr.loadAt t (s.ev x)) rfl ?_ (fy bn h2);rw [St.ev,h1];exact h3
  ·cases h
 ·rename_i t x v;split at h
  ·rename_i hu;obtain ⟨a,w',h1,h2,h3⟩:=KN bn (abw hu) h;unfold Oper.wp;rw [St.eval_eq];have:execOp s.ev ⟨dst,.store t x v,ty,pos,after,guard⟩=(do Instr.storeAt t (s.ev x) (s.ev v);pure .skip):=rfl;rw [this,Sem.run_bind,St.ev,h1];simp only [St.ev] at h2 ⊢;rw [h2];exact h3
  ·cases h
 ·rename_i t v;have h:A7 P (s.kill [s.sv v]) dst t (cellsOf (s.ev v)) K:=by
   revert h
   cases A4 P t with
   |true=>exact id
   |false=>
    intro h;obtain ⟨h1,h2⟩:=bB.1 h;have:cellsOf (s.ev v)=[s.ev v]:=by
     generalize s.ev v=x at h1
     cases x<;>first|rfl|exact (h1 False (by simp [kP])).elim
    rw [this];exact h2
  obtain ⟨k1,k2,k3,k4,k5⟩:=fq [s.sv v] bn;have h3:=Ar bn k2 k4 (EZ k1 h);rw [mJ bn,k3] at h3;exact ev (s':=Instr.box t (s.ev v)) rfl (Uu _) h3
 ·rename_i t;split at h
  ·rename_i cs hz;exact ev (s':=Instr.alloc t true (.tuple #[])) rfl (Jh hz _) (EZ bn h)
  ·cases h
 ·rename_i t parts;split at h
  ·rename_i cs hb;obtain ⟨k1,k2,k3,k4,k5⟩:=fq (parts.toList.map λ(_,x)=>s.sv x) bn;have h3:=Ar bn k2 k4 (fy k1 h);rw [mJ bn,k3] at h3;refine ev (s':=Instr.build t (parts.map λ(i,x)=>(i,s.ev x))) rfl (run_build _ _ _ _ ?_) h3;simpa using hb
  ·cases h
 ·rename_i t len parts;obtain ⟨k1,k2,k3,k4,k5⟩:=fq (parts.toList.map λ(_,x)=>s.sv x) bn;obtain ⟨v,w',h1,h2⟩:=Aq k1 h;have h3:=Ar bn k2 k4 h2;rw [mJ bn] at h3;rw [k3] at h1;exact ev (s':=Instr.buildSlice t len (LD s parts)) rfl h1 h3
 ·rename_i fn first captured;obtain ⟨k1,k2,k3,k4,k5⟩:=fq ((first++captured).toList.map s.sv) bn;have h3:=Ar bn k2 k4 (fy k1 h);rw [mJ bn,k3] at h3;refine ev (s':=Instr.makeFunc fn (first.map s.ev) (captured.map s.ev)) (v:=.func fn (first.map s.ev) (captured.map s.ev)) (w':=s.w) rfl rfl ?_;have e1:(first.toList.map s.ev).toArray=first.map s.ev:=by apply Array.ext';simp
  have e2:(captured.toList.map s.ev).toArray=captured.map s.ev:=by apply Array.ext';simp
  rw [e1,e2] at h3;exact h3
 ·rename_i t x k ok;unfold abt at h;split at h
  case h_2=>exact h.elim
  rename_i kt et z r ht hx;obtain ⟨G,kvs,hk,hm,hG,hex⟩:=h;obtain ⟨v,b,hl,hK⟩:=T1.lF hex;refine ev (s':=Instr.lookup t (s.ev x) (s.ev k) ok) rfl ?_ (fy bn hK);rw [hx,S2 ht hk hm hG ok hl]
  cases ok<;>rfl
 ·rename_i t m k v;unfold abu at h;split at h
  case h_2=>exact h.elim
  rename_i kt et z r ht hx;obtain ⟨G,kvs,hk,hr,hm,hG,hK⟩:=h;obtain ⟨r,rfl⟩:=oE.1 hr;obtain ⟨w',h1,h2,h3⟩:=GD (v:=s.ev v) ht hk hm hG;unfold Oper.wp;rw [St.eval_eq];have:execOp s.ev ⟨dst,.mapUpdate t m k v,ty,pos,after,guard⟩=(do Instr.mapUpdate t (s.ev m) (s.ev k) (s.ev v);pure .skip):=rfl;rw [this,Sem.run_bind,hx,h1];obtain ⟨k1,k2,k3,k4,k5⟩:=fq [s.sv k,s.sv v] bn;have mN:=yk k1 (D:=r) (w':=w') (by rw [k3];exact hm.vr) (by rw [k3];exact h2);exact j7 (v:=.val undef) (hK w' h2 h3) bn mN k2 k4 trivial rfl rfl
 ·rename_i t m k v;unfold abu at h;split at h
  case h_2=>exact h.elim
  rename_i kt et z r ht hx;obtain ⟨G,kvs,hk,hr,hm,hG,hK⟩:=h;obtain ⟨r,rfl⟩:=oE.1 hr;obtain ⟨w',h1,h2,h3⟩:=GD (v:=s.ev v) ht hk hm hG;unfold Oper.wp;rw [St.eval_eq];have:execOp s.ev ⟨dst,.insert t m k v,ty,pos,after,guard⟩=(do Instr.mapUpdate t (s.ev m) (s.ev k) (s.ev v);pure .skip):=rfl;rw [this,Sem.run_bind,hx,h1];obtain ⟨k1,k2,k3,k4,k5⟩:=fq [s.sv k,s.sv v] bn;have mN:=yk k1 (D:=r) (w':=w') (by rw [k3];exact hm.vr) (by rw [k3];exact h2);exact j7 (v:=.val undef) (hK w' h2 h3) bn mN k2 k4 trivial rfl rfl
 ·rename_i t hh;unfold U3 at h;split at h
  case h_2=>exact h.elim
  rename_i x y ht hy;have L9:=h _ rfl;have uZ:=XD ht hy s.w;refine ev (s':=Instr.makeMap t (hh.map s.ev)) rfl uZ ?_;exact kO (s1:={s with w:=s.w.alloc (.map #[] 0)}) (v:=.val (.map (some s.w.heap.size))) L9 bn rfl (tR.refl _) (λk kb h1 h2=>by rw [<-bn.bf k kb h1 h2];exact Below.heap_alloc _ _ _ (bn.lt k kb h1 h2)) bn.ne trivial rfl rfl
 ·rename_i args ats;split at h
  case h_2=>exact h.elim
  rename_i m k ha;unfold ahy at h;split at h
  case h_2=>exact h.elim
  rename_i t rest r HR hx;split at h
  case h_2=>exact h.elim
  rename_i kt et z ht;obtain ⟨G,kvs,hk,hr,hm,hG,hK⟩:=h;obtain ⟨r,rfl⟩:=oE.1 hr;obtain ⟨args⟩:=args;simp only at ha;subst ha;have hat0:ats[0]? =some t:=by rw [<-Array.getElem?_toList,HR];rfl
  obtain ⟨w',h1,h2,h3⟩:=S4 (ty:=ty) hat0 ht hk hm hG;refine ev (s':=Builtin.delete_ ats ty #[s.ev m,s.ev k]) ?_ (by rw [hx];exact h1) ?_
  ·rw [BigFrame.execOp_builtin];have:Array.map s.ev #[m,k]= #[s.ev m,s.ev k]:=by simp
   rw [this];rfl
  ·have mN:=yk bn (D:=r) (w':=w') hm.vr h2;exact j7 (v:=.val (.tuple #[])) (hK w' h2 h3) bn mN rfl (tR.refl _) trivial rfl rfl
 ·rename_i t l c;obtain ⟨v,w',h1,h2⟩:=MU bn h;exact ev (s':=Instr.makeSlice t (s.ev l) (s.ev c)) rfl h1 h2
 ·rename_i args ats;split at h
  case h_2=>exact h.elim
  rename_i x y ha;obtain ⟨args⟩:=args;simp only at ha;subst ha;obtain ⟨v,w',h1,h2⟩:=MV (ty:=ty) bn h;refine ev (s':=Builtin.copy_ ats ty #[s.ev x,s.ev y]) ?_ h1 h2;rw [BigFrame.execOp_builtin];have:Array.map s.ev #[x,y]= #[s.ev x,s.ev y]:=by simp
  rw [this];rfl
 ·rename_i args ats;split at h
  case h_2=>exact h.elim
  rename_i x ha;obtain ⟨args⟩:=args;simp only at ha;subst ha;obtain ⟨v,w',h1,h2⟩:=KP (ty:=ty) bn h;refine ev (s':=Builtin.clear_ ats ty #[s.ev x]) ?_ h1 h2;rw [BigFrame.execOp_builtin];have:Array.map s.ev #[x]= #[s.ev x]:=by simp
  rw [this];rfl
 ·rename_i args ats;split at h
  case h_2=>exact h.elim
  rename_i m ha;unfold abv at h;split at h
  case h_2=>exact h.elim
  rename_i t rest r HR hx;split at h
  case h_2=>exact h.elim
  rename_i x ht;obtain ⟨kt,et,z⟩:=x;obtain ⟨G,kvs,hm,hK⟩:=h;obtain ⟨args⟩:=args;simp only at ha;subst ha;have hat0:ats[0]? =some t:=by rw [<-Array.getElem?_toList,HR];rfl
  refine ev (s':=Builtin.len_ ats ty #[s.ev m]) ?_ (by rw [hx];exact abr (ty:=ty) hat0 (o5 ht).1 hm) (fy bn hK);rw [BigFrame.execOp_builtin];have:Array.map s.ev #[m]= #[s.ev m]:=by simp
  rw [this];rfl
 ·exact afK hP bn (λl f c=>hny _ _ _ l f c rfl) h
 ·rename_i args ats;split at h
  ·rename_i x y t tx ha ht;obtain ⟨args⟩:=args;obtain ⟨ats⟩:=ats;simp only at ha ht;subst ha ht;obtain ⟨v,w',h1,h2⟩:=HX (ty:=ty) bn h;unfold Oper.wp;rw [St.eval_eq,BigFrame.execOp_builtin,BigFrame.builtin_append];have:Array.map s.ev #[x,y]= #[s.ev x,s.ev y]:=by simp
   rw [this,Sem.run_bind];simp only [St.ev];rw [h1];exact h2
  ·cases h
 ·split at h
  ·rename_i a n hc;obtain ⟨ns,hn,hl,hk⟩:=h;unfold Oper.wp;rw [St.eval_eq,J2 hc hn hl];exact fy bn hk
  ·cases h
 ·rename_i t x;split at h
  ·rename_i hu;obtain ⟨k1,k2,k3,k4,k5⟩:=fq [s.sv x] bn;have h3:=Ar bn k2 k4 (fy k1 h);rw [mJ bn,k3] at h3;exact ev (s':=Instr.makeInterface t (s.ev x)) rfl (S5 hu _) h3
  ·cases h
 ·rename_i x xT a;split at h
  ·rename_i hu;obtain ⟨v,e,hk⟩:=T1.lF h;refine ev (s':=Instr.typeAssert (s.ev x) xT a false) rfl ?_ (fy bn hk);rw [e];exact S6 hu _
  ·cases h
 ·cases h
def GG(hP:DE P)(bn:s.Ok)(h:XE P s o K):o.ZC P s.act s.w (iO o.dst s K) Q:=by
 have hd:∀c,o.op≠ .defer c:=by intro c e;obtain ⟨dst,op,ty,pos,after,guard⟩:=o;simp only at e;subst e;exact h.elim
 by_cases hy:∃x args ats l f c,o.op=.call ⟨.value x,args,ats⟩/\s.ev x=.func (.yield l) f c
 ·obtain ⟨x,args,ats,l,f,c,e,hx⟩:=hy;obtain ⟨dst,op,ty,pos,after,guard⟩:=o;simp only at e;subst e;exact XB bn hx h
 ·refine XA hd ?_;unfold XE at h;split at h
  ·rename_i cs sv hp;exact wp_pure bn hp h
  ·exact Ph hP bn (λx args ats l f c e hx=>hy ⟨x,args,ats,l,f,c,e,hx⟩) h
end
def rK(ops:Array Oper)(o:Oper)(s:St)(yes:St->Prop)(no:St->Prop):Prop:=
 match o.guard with
 |none=>yes s
 |some (j,want)=>match (ops[j]?).bind (·.dst) with
  |some d=>match s.sl.getD d (.val undef) with
   | .val (.bool b)=>Br b (match want with|true=>yes {s with sl:=s.sl.set d (.val (.bool true))}|false=>no {s with sl:=s.sl.set d (.val (.bool true))})
     (match want with|true=>no {s with sl:=s.sl.set d (.val (.bool false))}|false=>yes {s with sl:=s.sl.set d (.val (.bool false))})
   | .val (.tuple _)=>no s
   |_=>False
  |none=>False
def vcG(P:Program)(ops:Array Oper)(s:St)(o:Oper)(K:St->Prop):Prop:=
 rK ops o s (λs=>XE P s o K) (λs=>K (s.put o.dst (.val undef)))
def LH(P:Program)(ops:Array Oper):List Oper->St->(St->Prop)->Prop
 | [],s,K=>K s
 |o::r,s,K=>vcG P ops s o λs'=>LH P ops r s' K
def dstsOf(l:List Oper):List Nat:=l.filterMap (·.dst)
section
variable {P:Program} {s:St} {o:Oper} {K:St->Prop} {Q:Exit->Act->World->Prop} {ops:Array Oper}
structure LI(s s':St):Prop where
 act:s'.act=s.act
 w:s'.w=s.w
 ok:s'.Ok
 fr:Fr [] s s'
def LI.refl(h:s.Ok):LI s s:=⟨rfl,rfl,h,Fr.refl _ _⟩
def aby{d:Nat}{b:Bool}(bn:s.Ok)(h:s.sl.getD d (.val undef)=.val (.bool b)):LI s {s with sl:=s.sl.set d (.val (.bool b))}:=by
 have hd:s.sl[d]? =some (.val (.bool b)):=by
  rw [dZ] at h
  cases hh:s.sl[d]? with
  |none=>rw [hh] at h;cases h
  |some v=>rw [hh] at h;simp at h;rw [h]
 have:s.sl.set d (.val (.bool b))=s.sl:=by
  apply iP;intro i;rw [jR];split
  ·rename_i e;subst e;split
   ·exact hd.symm
   ·rename_i hl;rw [jS ab] at hd;cases hd
  ·rfl
 rw [this];exact LI.refl bn
def uQ{yes no:St->Prop}(bn:s.Ok)(h:rK ops o s yes no):
  (Region.wanted o (yielded ops s.act.tmps)=true/\∃s',LI s s'/\yes s')\/(Region.wanted o (yielded ops s.act.tmps)=false/\∃s',LI s s'/\no s'):=by
 unfold rK at h;split at h
 ·rename_i hg;exact .inl ⟨by simp [Region.wanted,hg],s,LI.refl bn,h⟩
 ·rename_i j want hg;split at h
  ·rename_i d hd;have gu:s.act.tmps[d]? =(s.sl[d]?).map (SV.cg s.kn):=by simp [St.act]
   split at h
   ·rename_i b hb;have hs:s.sl[d]? =some (.val (.bool b)):=by
     rw [dZ] at hb
     cases hh:s.sl[d]? with
     |none=>rw [hh] at hb;cases hb
     |some v=>rw [hh] at hb;simp at hb;rw [hb]
    have hy:yielded ops s.act.tmps j=some b:=by simp [yielded,hd,gu,hs,SV.cg]
    have hl:=aby bn hb
    cases b with
    |true=>
     have h:=Br.tt h rfl
     cases want with
     |true=>exact .inl ⟨by simp [Region.wanted,hg,hy],_,hl,h⟩
     |false=>exact .inr ⟨by simp [Region.wanted,hg,hy],_,hl,h⟩
    |false=>
     have h:=Br.ff h rfl
     cases want with
     |true=>exact .inr ⟨by simp [Region.wanted,hg,hy],_,hl,h⟩
     |false=>exact .inl ⟨by simp [Region.wanted,hg,hy],_,hl,h⟩
   ·rename_i b hb;refine .inr ⟨?_,s,LI.refl bn,h⟩;have hy:yielded ops s.act.tmps j=none:=by
     rw [dZ] at hb
     cases hh:s.sl[d]? with
     |none=>simp [yielded,hd,gu,hh]
     |some v=>rw [hh] at hb;simp at hb;simp [yielded,hd,gu,hh,hb,SV.cg]
    simp [Region.wanted,hg,hy]
   ·cases h
  ·cases h
def iO.abz{d:Option Tmp}{s1:St}{a:Act}{w:World}(hl:LI s s1)(h:iO d s1 K a w):iO d s K a w:=by obtain ⟨s',h1,h2,h3,h4,h5⟩:=h;exact ⟨s',h1,h2,h3,(hl.fr.mono cp).trans h4,h5⟩
def S7(bn:s.Ok){d:Option Tmp}(h:K (s.put d (.val undef))):iO d s K (s.act.put d undef) s.w:=fy bn h
def XF(hP:DE P)(bn:s.Ok)(h:vcG P ops s o K):
  (Region.wanted o (yielded ops s.act.tmps)=true/\o.ZC P s.act s.w (iO o.dst s K) Q)\/(Region.wanted o (yielded ops s.act.tmps)=false/\iO o.dst s K (s.act.put o.dst undef) s.w):=by
 rcases uQ bn h with ⟨h1,s',hl,h2⟩|⟨h1,s',hl,h2⟩
 ·left;refine ⟨h1,?_⟩;have:=GG (Q:=Q) hP hl.ok h2;rw [hl.act,hl.w] at this;exact Oper.rJ (λa w hp=>iO.abz hl hp) this
 ·right;refine ⟨h1,?_⟩;have:=S7 hl.ok h2;rw [hl.act,hl.w] at this;exact iO.abz hl this
def ahz(W:List Nat)(s:St)(K:St->Prop):Act->World->Prop:=
 λa w=>∃s',s'.Ok/\s'.act=a/\s'.w=w/\Fr W s s'/\K s'
def GH{d:Option Tmp}{l:List Nat}(h:∀x,d=some x->x ∈ l):∀i ∈ d.toList,i ∈ l:=by
 intro i hi;cases d with
 |none=>cases hi
 |some x=>simp at hi;subst hi;exact h _ rfl
def S8(P:Program)(ops:Array Oper)(Q:Exit->Act->World->Prop):List Oper->Act->World->Prop
 | [],a,w=>Q .normal a w
 |o::r,a,w=>if Region.wanted o (yielded ops a.tmps) then o.ZC P a w (S8 P ops Q r) Q else S8 P ops Q r (a.put o.dst undef) w
def LJ{F:Fence}{n:Nat}(hF:Wd F):∀(l:List Oper)(i:Nat)(a:Act)(w:World),(∀j,j<l.length->ops[i+j]? =l[j]?)->S8 P ops Q l a w->wpOpsIn F n P ops Q (List.range' i l.length) a w
 | [],i,a,w,_,h=>h
 |o::r,i,a,w,hl,h=>by
  have ho:ops[i]? =some o:=by simpa using hl 0 cp
  have hr:∀j,j<r.length->ops[i+1+j]? =r[j]? :=λj hj=>by have:=hl (j+1) (by simpa using hj);rw [show i+1+j=i+(j+1) by omega,this];simp
  show wpOpsIn F n P ops Q (i::List.range' (i+1) r.length) a w;rw [wpOpsIn_cons];unfold wpOpIn;simp only [ho];unfold S8 at h;split
  ·rename_i hw;rw [if_pos hw] at h;exact Dd hF (Oper.rJ (λa w hh=>LJ hF r (i+1) a w hr hh) h)
  ·rename_i hw;rw [if_neg hw] at h;exact ⟨λf _=>hF.fn f,LJ hF r (i+1) _ w hr h⟩
def As(hP:DE P):∀(l:List Oper)(s:St)(Q:Exit->Act->World->Prop),s.Ok->LH P ops l s K->(∀a w,ahz (dstsOf l) s K a w->Q .normal a w)->S8 P ops Q l s.act s.w
 | [],s,Q,bn,h,hq=>hq _ _ ⟨s,bn,rfl,rfl,Fr.refl _ _,h⟩
 |o::r,s,Q,bn,h,hq=>by
  unfold S8
  have step:∀a w,iO o.dst s (λs'=>LH P ops r s' K) a w->S8 P ops Q r a w:=by
   rintro a w ⟨s',h1,rfl,rfl,h4,h5⟩;refine As hP r s' Q h1 h5 λa w hp=>hq a w ?_
   obtain ⟨s'',g1,g2,g3,g4,g5⟩:=hp;refine ⟨s'',g1,g2,g3,(h4.mono (GH λx hx=> ?_)).trans (g4.mono λx hx=> ?_),g5⟩
   ·simp [dstsOf,hx]
   ·simp only [dstsOf,List.filterMap_cons];split
    ·exact hx
    ·exact CU _ hx
  rcases XF (Q:=Q) hP bn h with ⟨h1,h2⟩|⟨h1,h2⟩
  ·rw [if_pos h1];exact Oper.rJ step h2
  ·rw [if_neg (by simp [h1])];exact step _ _ h2
end
structure sR where
 i:Nat
 p:Option Addr
 vs:List Value
def sR.holds(q:sR)(w:World):Prop:=af w q.p 0 q.vs
def Pj(o:Oper)(i:Nat):Bool:=o.after.any λe=>Region.binds .any e && e.on==i
def stays(ops:Array Oper)(j:Nat)(l:List sR):List sR:=l.filter λq=>match ops[j]? with|some o=> !Pj o q.i|none=>true
section
variable {P:Program} {s:St} {o:Oper} {K:St->Prop} {Q:Exit->Act->World->Prop} {ops:Array Oper}
def tE(P:Program)(ops:Array Oper)(Q:Exit->Act->World->Prop)(i:Nat)(K:Act->World->Prop)(a:Act)(w:World):Prop:=
 match ops[i]? with
 |none=>K a w
 |some o=>if Region.wanted o (yielded ops a.tmps) then o.ZC P a w K Q else K (a.put o.dst undef) w
def sS{i:Nat}{a:Act}{w:World}{K K':Act->World->Prop}(h:∀a w,K a w->K' a w)(hh:tE P ops Q i K a w):tE P ops Q i K' a w:=by
 unfold tE at*;split
 ·exact h _ _ (by simpa [*] using hh)
 ·rename_i o ho;simp only [ho] at hh;split
  ·rename_i hw;simp only [hw,if_true] at hh;exact Oper.rJ h hh
  ·rename_i hw;simp only [hw] at hh;exact h _ _ hh
def abA{F:Fence}{n:Nat}(hF:Wd F){i:Nat}{a:Act}{w:World}{K:Act->World->Prop}(hh:tE P ops Q i K a w):wpOpIn F n P ops Q i K a w:=by
 unfold tE at hh;unfold wpOpIn;split
 ·simpa [*] using hh
 ·rename_i o ho;simp only [ho] at hh;split
  ·rename_i hw;simp only [hw,if_true] at hh;exact Dd hF hh
  ·rename_i hw;simp only [hw] at hh;exact ⟨λf _=>hF.fn f,hh⟩
def XG(P:Program)(ops:Array Oper)(Q:Exit->Act->World->Prop):Nat->List sR->Array Bool->Act->World->Prop
 |0,_,listed,a,w=>Region.ready .any ops listed=[]/\Q .normal a w
 |fuel+1,l,listed,a,w=>
  (Region.ready .any ops listed=[]->Q .normal a w)/\
  ∀j ∈ Region.ready .any ops listed,tE P ops Q j (λa' w'=>(∀q ∈ stays ops j l,q.holds w')/\XG P ops Q fuel (stays ops j l) (listed.setIfInBounds j true) a' w') a w
def U5{F:Fence}{n:Nat}(hF:Wd F):∀(fuel:Nat)(l:List sR)(listed:Array Bool)(a:Act)(w:World),XG P ops Q fuel l listed a w->wpAnyIn F n P .any ops Q fuel listed a w
 |0,_,_,_,_,h=>h
 |fuel+1,l,listed,a,w,h=>⟨h.1,λj hj=>abA hF (sS (λa' w' hk=>U5 hF fuel _ _ _ _ hk.2) (h.2 j hj))⟩
def oA{j:Nat}{l:List sR}{q:sR}(h:q ∈ stays ops j l):q ∈ l:=(iI.1 h).1
def GJ:∀(fuel:Nat)(l l':List sR)(listed:Array Bool)(a:Act)(w:World),(∀q ∈ l',q ∈ l)->XG P ops Q fuel l listed a w->XG P ops Q fuel l' listed a w
 |0,_,_,_,_,_,_,h=>h
 |fuel+1,l,l',listed,a,w,hs,h=>⟨h.1,λj hj=>sS (λa' w' hk=>by
  have:∀q ∈ stays ops j l',q ∈ stays ops j l:=λq hq=>iI.2 ⟨hs q (oA hq),(iI.1 hq).2⟩
  exact ⟨λq hq=>hk.1 q (this q hq),GJ fuel _ _ _ _ _ this hk.2⟩) (h.2 j hj)⟩
def jt(P:Program)(ops:Array Oper)(C:World->Prop)(o:Oper)(v:Value)(a:Act):Prop:=
 (Region.wanted o (yielded ops a.tmps)=true/\∀w,C w->(execOp a.eval o).run P w=.ok (.value v) w)\/
 (Region.wanted o (yielded ops a.tmps)=false/\v=undef)
def jt.wpOp{C:World->Prop}{i:Nat}{o:Oper}{v:Value}{a:Act}(hi:ops[i]? =some o)(hnd:∀c,o.op≠ .defer c)(hy:jt P ops C o v a)
  {K:Act->World->Prop}{w:World}(hC:C w)(h:K (a.put o.dst v) w):tE P ops Q i K a w:=by
 unfold tE;simp only [hi];rcases hy with ⟨hw,hv⟩|⟨hw,rfl⟩
 ·simp only [hw,if_true];exact ⟨hnd,by rw [hv w hC];exact h⟩
 ·simp only [hw,Bool.false_eq_true,if_false];exact h
def jt.of_same{C:World->Prop}{o:Oper}{v:Value}{a a':Act}(hy:jt P ops C o v a)(he:execOp a'.eval o=execOp a.eval o)
  (hw:Region.wanted o (yielded ops a'.tmps)=Region.wanted o (yielded ops a.tmps)):jt P ops C o v a':=by
 unfold jt at*;rw [he,hw];exact hy
def XH{C:World->Prop}{j:Nat}{oi oj:Oper}{v:Value}(hj:ops[j]? =some oj)(hap:oi.apart ops oj=true)
  (hsi:∀cs b,oi.op≠ .select cs b)(hsj:∀cs b,oj.op≠ .select cs b)
  (hQ:∀c a w,Q (.panic c) (a.put oi.dst v) w->Q (.panic c) a w){K:Act->World->Prop}{a:Act}{w:World}
  (hy:jt P ops C oi v a)(h:tE P ops Q j K (a.put oi.dst v) w):
  tE P ops Q j (λa' w'=>jt P ops C oi v a'/\K (a'.put oi.dst v) w') a w:=by
 obtain ⟨h1,h2,h3⟩:=Oper.apart_spec hap;have de:∀(a:Act),jt P ops C oi v a->∀u,jt P ops C oi v (a.put oj.dst u):=λa hy u=>
  hy.of_same (execOp_put oi hsi a oj.dst u h3) (wanted_put oi a oj.dst u h3)
 have keepD:∀d,jt P ops C oi v {a with defers:=d::a.defers}:=λd=>hy.of_same rfl rfl
 unfold tE at*;simp only [hj] at*;rw [wanted_put oj a oi.dst v h1] at h;split
 ·rename_i hw;simp only [hw,if_true] at h;refine ⟨h.1,?_⟩;have h:=h.2;rw [execOp_put oj hsj a oi.dst v h1] at h;generalize (execOp a.eval oj).run P w=r at*
  cases r with
  |ok n w'=>
   cases n<;>simp only [Oper.uponIn] at h ⊢
   case value u=>exact ⟨de a hy u,by rw [<-Act.put_comm a v u h2];exact h⟩
   case skip=>exact ⟨de a hy _,by rw [<-Act.put_comm a v undef h2];exact h⟩
   case defer d=>
    refine ⟨de _ (keepD d) _,?_⟩;rw [<-Act.put_comm _ v undef h2,<-Act.put_defers];exact h
   case enter f args=>
    refine ⟨h.1,CallsIn.mono h.2 λe w'' he=> ?_⟩
    cases e with
    |returned u=>exact ⟨de a hy u,by rw [<-Act.put_comm a v u h2];exact he⟩
    |panicked c=>exact hQ _ _ _ he
    |outgrown=>exact he
   case row row args=>exact ⟨h.1,RowsIn.mono h.2 λu w'' he=>⟨de a hy u,by rw [<-Act.put_comm a v u h2];exact he⟩⟩
   case round l f tmps assign body=>
    refine ⟨h.1,RoundIn.mono h.2 λe w'' he=> ?_⟩
    cases e with
    |returned u=>exact ⟨de a hy u,by rw [<-Act.put_comm a v u h2];exact he⟩
    |panicked c=>exact hQ _ _ _ he
    |outgrown=>exact he
  |halt x w'=>
   cases x<;>simp only [Oper.uponIn] at h ⊢
   case panic u=>exact hQ _ _ _ h
 ·rename_i hw;simp only [hw] at h;exact ⟨de a hy _,by rw [<-Act.put_comm a v undef h2];exact h⟩
def XI{q:sR}{oi:Oper}{v:Value}(hi:ops[q.i]? =some oi)(hnd:∀c,oi.op≠ .defer c)(HO:∀(j:Nat)(o:Oper) cs b,ops[j]? =some o->o.op≠ .select cs b)
  (hQ:∀c a w,Q (.panic c) (a.put oi.dst v) w->Q (.panic c) a w):
  ∀(fuel:Nat)(l:List sR)(listed:Array Bool)(a:Act)(w:World),
   (∀j oj,ops[j]? =some oj->j≠q.i->listed.getD j true=false->(∀e ∈ oj.after,Region.binds .any e=true->e.on≠q.i)->oi.apart ops oj=true)->
   q.i ∈ Region.ready .any ops listed->jt P ops q.holds oi v a->q.holds w->
   XG P ops Q fuel (q::l) (listed.setIfInBounds q.i true) (a.put oi.dst v) w->(∀x ∈ l,x.holds w)->XG P ops Q (fuel+1) l listed a w:=by
 intro fuel
 induction fuel with
 |zero=>
  intro l listed a w _ hr hy hh H hl;refine ⟨λh=>(by rw [h] at hr;cases hr),λj hj=> ?_⟩;by_cases hji:j=q.i
  ·subst hji;exact hy.wpOp hi hnd hh ⟨λx hx=>hl x (oA hx),H⟩
  ·have:=ready_mono hj hji;rw [H.1] at this
   cases this
 |succ fuel ih=>
  intro l listed a w hfree hr hy hh H hl;refine ⟨λh=>(by rw [h] at hr;cases hr),λj hj=> ?_⟩;by_cases hji:j=q.i
  ·subst hji;exact hy.wpOp hi hnd hh ⟨λx hx=>hl x (oA hx),GJ _ _ _ _ _ _ (λx hx=>CU _ (oA hx)) H⟩
  ·have h1:=H.2 j (ready_mono hj hji);obtain ⟨ao3,oj,hoj,rO⟩:=mem_ready.1 hj;have ag3:∀e ∈ oj.after,Region.binds .any e=true->e.on≠q.i:=λe he hb heq=>by
    have h1:=rO e he hb;have h0:=(mem_ready.1 hr).1;rw [heq] at h1;rcases jD q.i listed.size with h'|h'
    ·simp [h'] at h0 h1;rw [h0] at h1;cases h1
    ·simp [Array.getElem?_eq_none h'] at h1
   have gM:stays ops j (q::l)=q::stays ops j l:=by unfold stays;rw [CH];simp only [hoj];rw [if_pos];simp only [Pj,Bool.not_eq_true'];rw [Array.any_eq_false'];intro e he hx;simp only [fk,beq_iff_eq] at hx;exact ag3 e he hx.1 hx.2
   rw [gM] at h1;have h2:=XH hoj (hfree j oj hoj hji ao3 ag3) (λcs b=>HO q.i oi cs b hi) (λcs b=>HO j oj cs b hoj) hQ hy h1;have hfree':∀k ok,ops[k]? =some ok->k≠q.i->(listed.setIfInBounds j true).getD k true=false->
     (∀e ∈ ok.after,Region.binds .any e=true->e.on≠q.i)->oi.apart ops ok=true:=λk ok hk hki hun mO=>by
    refine hfree k ok hk hki ?_ mO;by_cases hjk:j=k
    ·subst hjk;exact ao3
    ·rw [Go.getD_set_ne true hjk] at hun;exact hun
   refine sS (λa' w' h3=> ?_) h2;obtain ⟨g1,g2,g3⟩:=h3;refine ⟨λx hx=>g2 x (CU _ hx),ih (stays ops j l) (listed.setIfInBounds j true) a' w' hfree' (ready_mono hr (Ne.symm hji)) g1 (g2 q (.head _)) ?_ (λx hx=>g2 x (CU _ hx))⟩;rw [Array.setIfInBounds_comm _ _ hji];exact g3
end
def ajs:List Nat->(Nat->Prop)->Prop
 | [],_=>True
 | [j],F=>F j
 |j::k::r,F=>F j/\ajs (k::r) F
def Pk:∀{l:List Nat} {F:Nat->Prop},ajs l F->∀j ∈ l,F j
 | [],_,_,j,h=>by cases h
 | [a],_,h,j,hj=>by
   have:j=a:=by simpa using hj
   subst this;exact h
 |a::b::r,F,h,j,hj=>by
  cases hj with
  |head=>exact h.1
  |tail _ hm=>exact Pk h.2 j hm
def Pm:Op->Bool
 | .move _| .pick .. | .extract .. | .fieldAddr .. | .field .. | .nilCheck _| .indexAddr .. | .index .. | .binOp .. | .unOp .. | .convert .. | .slice .. | .load .. =>true
 | .call {callee:=.builtin .len,..}| .call {callee:=.builtin .cap,..}| .call {callee:=.builtin .min,..}| .call {callee:=.builtin .max,..}=>true
 |_=>false
def ajt(P:Program):Op->Bool
 | .index t _ _=>isStr P t
 |_=>true
def abB(P:Program)(ops:Array Oper)(listed:Array Bool)(i:Nat):Bool:=
 match ops[i]? with
 |some o=>match Pm o.op && ajt P o.op with|true=>Region.free .any ops listed i|false=>false
 |none=>false
def LK(P:Program)(w:World)(p:Option Addr)(t:TypeId)(F:List Value->Value->Prop):Prop:=
 match tQ P t with
 | .sc c=>c.ex λv=>ld w p=some v/\F [v] v
 | .agg l=>if l.length=fQ P t/\l.isEmpty=false then exL l λvs=>af w p 0 vs/\F vs (.agg vs.toArray) else False
def LM(P:Program)(s:St)(d:Option Tmp)(t:TypeId)(x:SV)(K:Option Addr->List Value->St->Prop):Prop:=
 match x with
 | .loc k off=>match s.known k with
   |some kb=>match tQ P t with
    | .sc _=>match kb.cells[off]? with|some v=>K (some ⟨kb.idx,off,none⟩) [v] (s.put d (.val v))|none=>False
    | .agg l=>if l.length=fQ P t/\off+l.length<=kb.cells.length then K (some ⟨kb.idx,off,none⟩) ((kb.cells.drop off).take l.length) (s.put d (.val (.agg ((kb.cells.drop off).take l.length).toArray))) else False
   |none=>LK P s.w (some ⟨(s.kn.getD k default).idx,off,none⟩) t λvs v=>K (some ⟨(s.kn.getD k default).idx,off,none⟩) vs (s.put d (.val v))
 | .val (.pointer p)=>LK P s.w p t λvs v=>K p vs (s.put d (.val v))
 |_=>False
def Pn(P:Program)(l:List sR)(i:Nat)(o:Oper)(s:St)(K:List sR->St->Prop):Prop:=
 match o.op with
 | .load t x=>match okT P t with|true=>LM P s o.dst t (s.sv x) λp vs s'=>K (⟨i,p,vs⟩::l) s'|false=>False
 |_=>match U4 P s o.op with
  |some (a,n)=>∃ns:List Int,ns.length=n/\af s.w a 0 (ns.map (Value.int .u8))/\K (⟨i,a,ns.map (Value.int .u8)⟩::l) (s.put o.dst (.val (.string (strOfNums ns))))
  |none=>match ej P s o.op with
   |some (cs,sv)=>aP cs (K l (s.put o.dst sv))
   |none=>False
def quiet(P:Program)(s:St)(o:Oper):Bool:=
 match o.op with
 | .box .. | .alloc .. | .buildSlice .. | .build .. | .makeFunc .. =>true
 |_=>match ej P s o.op with|some _=>true|none=>false
def U6(P:Program)(s:St)(o:Oper)(l:List sR)(w':World):List Prop:=
 match quiet P s o with
 |true=> []
 |false=>l.map λq=>q.holds w'
def U7(P:Program)(ops:Array Oper)(K:St->Prop):Nat->List sR->Array Bool->St->Prop
 |0,_,listed,s=>match Region.ready .any ops listed with| []=>K s|_=>False
 |fuel+1,l,listed,s=>
  match (Region.ready .any ops listed).find? (abB P ops listed) with
  |some i=>match ops[i]? with
   |some o=>rK ops o s (λs=>Pn P l i o s λl' s'=>U7 P ops K fuel l' (listed.setIfInBounds i true) s')
    (λs=>U7 P ops K fuel l (listed.setIfInBounds i true) (s.put o.dst (.val undef)))
   |none=>False
  |none=>match Region.ready .any ops listed with
   | []=>K s
   |js=>ajs js λj=>match ops[j]? with
    |some o=>rK ops o s (λs=>XE P s o λs'=>aP (U6 P s o (stays ops j l) s'.w) (U7 P ops K fuel (stays ops j l) (listed.setIfInBounds j true) s'))
     (λs=>U7 P ops K fuel (stays ops j l) (listed.setIfInBounds j true) (s.put o.dst (.val undef)))
    |none=>False
section
variable {P:Program} {s:St} {o:Oper} {K:St->Prop} {Q:Exit->Act->World->Prop} {ops:Array Oper}
def v5(w w':World):Prop:=∀a v,w.cell? a=some v->w'.cell? a=some v
def v5.refl(w:World):v5 w w:=λ_ _ h=>h
def v5.alloc(w:World)(ob:Obj):v5 w (w.alloc ob):=λa v h=>by
 rw [World.cell?_alloc_lt];exact h
 unfold World.cell? at h
 split at h
 ·rename_i c e f hb;exact (tg.1 hb).1
 ·cases h
def v5.ld{w w':World}(h:v5 w w'){p:Option Addr}{v:Value}(hl:ld w p=some v):ld w' p=some v:=by
 cases p with
 |none=>simp [Vc.ld] at hl
 |some a=>exact h a v hl
def v5.af{w w':World}(h:v5 w w'){p:Option Addr}:∀{i:Nat} {vs:List Value},af w p i vs->af w' p i vs
 |_,[],_=>trivial
 |_,[_],hl=>h.ld hl
 |_,_::_::_,hl=>⟨h.ld hl.1,h.af hl.2⟩
def aju{a:Act}{w w':World}{v:Value}{K':Act->World->Prop}{G:World->Prop}(hr:(execOp a.eval o).run P w=.ok (.value v) w')(hg:G w')
  (h:o.ZC P a w K' Q):o.ZC P a w (λa' w''=>K' a' w''/\G w'') Q:=by
 obtain ⟨h1,h⟩:=h;refine ⟨h1,?_⟩;rw [hr] at h ⊢;exact ⟨h,hg⟩
def XJ(bn:s.Ok)(hq:quiet P s o=true)(h:XE P s o K):∃v w',(execOp s.act.eval o).run P s.w=.ok (.value v) w'/\v5 s.w w':=by
 rw [St.eval_eq];unfold XE at h;split at h
 ·rename_i cs sv hp;rw [bB] at h;exact ⟨_,_,sj hp h.1 _,v5.refl _⟩
 ·rename_i hp;obtain ⟨dst,op,ty,pos,after,guard⟩:=o;unfold quiet at hq;simp only at hq h hp
  cases op with
  |box t x=>exact ⟨_,_,by
   show (do pure (Next.value (<-Instr.box t (s.ev x))):Sem Next).run P s.w=_;rw [Sem.run_bind,Uu];rfl,v5.alloc _ _⟩
  |alloc t=>
   unfold J5 at h;simp only at h;split at h
   ·rename_i cs hz;exact ⟨_,_,by
     show (do pure (Next.value (<-Instr.alloc t true (.tuple #[]))):Sem Next).run P s.w=_;rw [Sem.run_bind,Jh hz];rfl,v5.alloc _ _⟩
   ·cases h
  |build t parts=>
   unfold J5 at h;simp only at h;split at h
   ·rename_i cs hb;exact ⟨_,_,by
     show (do pure (Next.value (<-Instr.build t (parts.map λ(i,x)=>(i,s.ev x)))):Sem Next).run P s.w=_;rw [Sem.run_bind,run_build _ _ _ cs (by simpa using hb)];rfl,v5.refl _⟩
   ·cases h
  |buildSlice t len parts=>
   unfold J5 at h;simp only at h;unfold oe at h;split at h
   ·rename_i e cells hc;exact ⟨_,_,by
     show (do pure (Next.value (<-Instr.buildSlice t len (LD s parts))):Sem Next).run P s.w=_;rw [Sem.run_bind,tD hc s.w];rfl,v5.alloc _ _⟩
   ·cases h
  |makeFunc fn first captured=>exact ⟨.func fn (first.map s.ev) (captured.map s.ev),s.w,rfl,v5.refl _⟩
  |_=>simp [hp] at hq
def ik(p:Option Addr):ae p 0=p:=by cases p<;>simp [ae,Addr.add]
def GK{t:TypeId}{p:Option Addr}{F:List Value->Value->Prop}{w:World}(hu:(P.underlying t).isSome=true)(h:LK P w p t F):
  ∃a vs v,p=some a/\F vs v/\af w p 0 vs/\∀w',af w' p 0 vs->(Instr.loadAt t (.pointer (some a))).run P w'=.ok v w':=by
 obtain ⟨d,hu⟩:=oE.1 hu;unfold LK at h
 cases ht:tQ P t with
 |sc c=>
  rw [ht] at h;obtain ⟨v,h1,h2⟩:=S.lF h
  cases p with
  |none=>simp [ld] at h1
  |some a=>
   refine ⟨a,[v],v,rfl,h2,by simpa [af,ik] using h1,λw' hw'=> ?_⟩;have Vs:w'.cell? a=some v:=by simpa [af,ik,ld] using hw'
   simp [Instr.loadAt,Instr.sureAddr,loadVar,ml w' hu,MP ht,Vs]
 |agg l=>
  simp only [ht] at h;split at h
  ·rename_i hl;have:∃vs,vs.length=l.length/\af w p 0 vs/\F vs (.agg vs.toArray):=by
    have key:∀(l:List S)(G:List Value->Prop),exL l G->∃vs,vs.length=l.length/\G vs:=by
     intro l
     induction l with
     |nil=>intro G hG;exact ⟨[],rfl,hG⟩
     |cons c r ih=>
      rintro G ⟨x,hx⟩;obtain ⟨vs,h1,h2⟩:=ih _ hx;exact ⟨_,by simp [h1],h2⟩
    exact key l _ h
   obtain ⟨vs,e,h1,h2⟩:=this;have hi:=info_of_underlying hu;have hp:∃a,p=some a:=by
    cases p with
    |some a=>exact ⟨a,rfl⟩
    |none=>
     have h0:0<vs.length:=by
      cases l with
      |nil=>simp at hl
      |cons _ _=>simp at e;omega
     have:=mu h1 0 h0;simp [ld,ae,dm h0] at this
   obtain ⟨a,rfl⟩:=hp;refine ⟨a,vs,_,rfl,h2,h1,λw' hw'=> ?_⟩;simp only [Instr.loadAt,Instr.sureAddr,loadVar,Sem.run_bind,Sem.run_pure,Result.andThen_ok,ml w' hu,E1 ht,if_true,fb hi,loadCells];rw [mc _ 0 #[] vs ab (λj hj=>by have:=mu hw' j ab;simpa [ld,ae] using this)];simp
  ·cases h
def mI{w:World}{p:Option Addr}:∀{i:Nat} {vs:List Value},(∀j,j<vs.length->ld w (ae p (i+j))=vs[j]?)->af w p i vs
 |_,[],_=>trivial
 |i,[v],h=>by have:=h 0 cp;simpa [af] using this
 |i,v::u::r,h=>⟨by have:=h 0 cp;simpa using this,mI λj hj=>by
  have:=h (j+1) (by simpa using hj)
  rw [show i+(j+1)=i+1+j by omega] at this
  rw [this];simp⟩
def Pp{d:Option Tmp}{t:TypeId}{x:SV}{K2:Option Addr->List Value->St->Prop}(bn:s.Ok)(hu:(P.underlying t).isSome=true)(h:LM P s d t x K2):
  ∃a vs v,x.cg s.kn=.pointer (some a)/\K2 (some a) vs (s.put d (.val v))/\af s.w (some a) 0 vs/\∀w',af w' (some a) 0 vs->(Instr.loadAt t (.pointer (some a))).run P w'=.ok v w':=by
 unfold LM at h;split at h
 ·rename_i k off;split at h
  ·rename_i kb hkb;obtain ⟨h1,h2⟩:=sk hkb;have hb:=bn.bf k kb h1 h2;have jv:(s.kn.getD k default).idx=kb.idx:=by simp [dZ,h1]
   obtain ⟨dd,hu'⟩:=oE.1 hu;split at h
   ·rename_i c ht;split at h
    ·rename_i v hv;refine ⟨⟨kb.idx,off,none⟩,[v],v,by rw [SV.cg,jv],h,?_,λw' hw'=> ?_⟩
     ·simp [af,ik,ld,cell_of hb,hv]
     ·have Vs:w'.cell? ⟨kb.idx,off,none⟩=some v:=by simpa [af,ik,ld] using hw'
      simp [Instr.loadAt,Instr.sureAddr,loadVar,ml _ hu',MP ht,Vs]
    ·cases h
   ·rename_i l ht;split at h
    ·rename_i hl;have dN:((kb.cells.drop off).take l.length).length=l.length:=by simp;omega
     refine ⟨⟨kb.idx,off,none⟩,(kb.cells.drop off).take l.length,_,by rw [SV.cg,jv],h,?_,λw' hw'=> ?_⟩
     ·refine mI λj hj=> ?_
      rw [dN] at hj;simp [ld,ae,nO,cell_of hb,qX,wH,hj]
     ·simp only [Instr.loadAt,Instr.sureAddr,loadVar,Sem.run_bind,Sem.run_pure,Result.andThen_ok,ml _ hu',E1 ht,if_true,fb (info_of_underlying hu'),loadCells];rw [mc _ 0 #[] ((kb.cells.drop off).take l.length) ab (λj hj=>by have:=mu hw' j ab;simpa [ld,ae] using this)];simp
    ·cases h
  ·obtain ⟨a,vs,v,h1,h2,h3,h4⟩:=GK hu h
   cases h1
   exact ⟨_,vs,v,rfl,h2,h3,h4⟩
 ·rename_i p;obtain ⟨a,vs,v,h1,h2,h3,h4⟩:=GK hu h;subst h1;exact ⟨a,vs,v,rfl,h2,h3,h4⟩
 ·cases h
end
section
variable {P:Program} {s:St} {o:Oper} {K:St->Prop} {Q:Exit->Act->World->Prop} {ops:Array Oper}
def GL{q:sR}(hq:∀w,q.holds w):∀(fuel:Nat)(l:List sR)(listed:Array Bool)(a:Act)(w:World),XG P ops Q fuel l listed a w->XG P ops Q fuel (q::l) listed a w
 |0,_,_,_,_,h=>h
 |fuel+1,l,listed,a,w,h=>⟨h.1,λj hj=>sS (λa' w' hk=>by
  have gM:stays ops j (q::l)=q::stays ops j l\/stays ops j (q::l)=stays ops j l:=by unfold stays;rw [CH];split<;>simp
  rcases gM with e|e
  ·rw [e];refine ⟨λx hx=> ?_,GL hq fuel _ _ _ _ hk.2⟩
   cases hx with
   |head=>exact hq _
   |tail _ hm=>exact hk.1 x hm
  ·rw [e];exact hk) (h.2 j hj)⟩
def Pq{op:Op}(h:Pm op=true):∀c,op≠ .defer c:=by rintro c rfl;cases h
def abC{l:List Nat}{f:Nat->Bool}{i:Nat}(h:l.find? f=some i):i ∈ l/\f i=true:=⟨Ju h,List.find?_some h⟩
def Qr(W:List Nat)(s0:St)(K:St->Prop):Exit->Act->World->Prop
 | .normal,a,w=>ahz W s0 K a w
 |_,_,_=>False
def oB(hP:DE P)(HO:Region.noSelect ops=true)(W:List Nat)(s0:St)(hW:∀(j:Nat)(o:Oper) d,ops[j]? =some o->o.dst=some d->d ∈ W):
  ∀(fuel:Nat)(l:List sR)(listed:Array Bool)(s:St),s.Ok->Fr W s0 s->(∀q ∈ l,q.holds s.w)->U7 P ops K fuel l listed s->XG P ops (Qr W s0 K) fuel l listed s.act s.w
 |0,l,listed,s,bn,MJ,hl,h=>by
  unfold U7 at h
  split at h
  ·rename_i hr;exact ⟨hr,s,bn,rfl,rfl,MJ,h⟩
  ·cases h
 |fuel+1,l,listed,s,bn,MJ,hl,h=>by
  unfold U7 at h
  have Mq:∀{j:Nat} {o:Oper},ops[j]? =some o->∀i ∈ o.dst.toList,i ∈ W:=λ{j o} ho=>GH λx hx=>hW j o x ho hx
  split at h
  ·rename_i i hfind
   obtain ⟨pk,hfree⟩:=abC hfind
   unfold abB at hfree
   split at h
   ·rename_i o ho
    rw [ho] at hfree
    simp only at hfree
    split at hfree
    case h_2=>cases hfree
    rename_i hkind2
    have hkind:=(fk _ _▸hkind2).1
    have hspec:=Region.free_spec ho hfree
    have first:∀(q:sR)(v:Value)(s':St),q.i=i->jt P ops q.holds o v s.act->q.holds s.w->s'.Ok->Fr W s0 s'->s'.act=s.act.put o.dst v->s'.w=s.w->
      XG P ops (Qr W s0 K) fuel (q::l) (listed.setIfInBounds i true) s'.act s'.w->XG P ops (Qr W s0 K) (fuel+1) l listed s.act s.w:=by
     rintro q v s' rfl hy hh h1 h2 h3 h4 H;rw [h3,h4] at H;exact XI ho (Pq hkind) (λj o cs b=>Region.noSelect_spec HO j o cs b) (λc a w hq=>hq) fuel l listed s.act s.w (λj oj=>hspec j oj) pk hy hh H hl
    rcases uQ bn h with ⟨hw,s1,rR,h1⟩|⟨hw,s1,rR,h1⟩
    ·unfold Pn at h1;have hfr1:Fr W s0 s1:=MJ.trans (rR.fr.mono cp);split at h1
     ·rename_i t x hop;split at h1
      case h_2=>cases h1
      rename_i hu;obtain ⟨a,vs,v,g1,g2,g3,g4⟩:=Pp rR.ok (uP hu) h1;obtain ⟨s2,k1,k2,k3,k4,k5⟩:=fy (d:=o.dst) (v:=v) (K:=λs'=>U7 P ops K fuel (⟨i,some a,vs⟩::l) (listed.setIfInBounds i true) s') rR.ok g2;rw [rR.act] at k2;rw [rR.w] at k3 g3;refine first ⟨i,some a,vs⟩ v s2 rfl (.inl ⟨hw,λw' hw'=> ?_⟩) g3 k1 (hfr1.trans (k4.mono (Mq ho))) k2 k3 ?_
      ·rw [<-rR.act,St.eval_eq];have:execOp s1.ev o=(do pure (.value (<-Instr.loadAt t (s1.ev x)))):=by obtain ⟨dst,op,ty,pos,after,guard⟩:=o;simp only at hop;subst hop;rfl
       rw [this,Sem.run_bind,St.ev,g1,g4 w' hw'];rfl
      ·exact oB hP HO W s0 hW fuel _ _ s2 k1 (hfr1.trans (k4.mono (Mq ho))) (λq hq=>by
        cases hq with
        |head=>rw [k3];exact g3
        |tail _ hm=>rw [k3];exact hl q hm) k5
     ·split at h1
      ·rename_i a n hc;obtain ⟨ns,hn,g3,h1⟩:=h1;obtain ⟨s2,k1,k2,k3,k4,k5⟩:=fy (d:=o.dst) (v:=.string (strOfNums ns)) (K:=λs'=>U7 P ops K fuel (⟨i,a,ns.map (Value.int .u8)⟩::l) (listed.setIfInBounds i true) s') rR.ok h1;rw [rR.act] at k2;rw [rR.w] at k3 g3;refine first ⟨i,a,ns.map (Value.int .u8)⟩ (.string (strOfNums ns)) s2 rfl (.inl ⟨hw,λw' hw'=> ?_⟩) g3 k1 (hfr1.trans (k4.mono (Mq ho))) k2 k3 ?_
       ·rw [<-rR.act,St.eval_eq];exact J2 hc hn hw'
       ·exact oB hP HO W s0 hW fuel _ _ s2 k1 (hfr1.trans (k4.mono (Mq ho))) (λq hq=>by
         cases hq with
         |head=>rw [k3];exact g3
         |tail _ hm=>rw [k3];exact hl q hm) k5
      split at h1
      ·rename_i cs sv hp;rw [bB] at h1;obtain ⟨s2,k1,k2,k3,k4,k5⟩:=kO (a:=s1.act.put o.dst (sv.cg s1.kn)) (w:=s1.w) (d:=o.dst) (K:=λs'=>U7 P ops K fuel l (listed.setIfInBounds i true) s') h1.2 rR.ok rfl (tR.refl _) rR.ok.bf rR.ok.ne (EW rR.ok hp) rfl rfl;rw [rR.act] at k2;rw [rR.w] at k3;refine first ⟨i,none,[]⟩ (sv.cg s1.kn) s2 rfl (.inl ⟨hw,λw' _=> ?_⟩) trivial k1 (hfr1.trans (k4.mono (Mq ho))) k2 k3 ?_
       ·rw [<-rR.act,St.eval_eq];exact sj hp h1.1 w'
       ·exact GL (q:=⟨i,none,[]⟩) (λ_=>trivial) _ _ _ _ _ (oB hP HO W s0 hW fuel _ _ s2 k1 (hfr1.trans (k4.mono (Mq ho))) (λq hq=>by rw [k3];exact hl q hq) k5)
      ·cases h1
    ·have hfr1:Fr W s0 s1:=MJ.trans (rR.fr.mono cp);obtain ⟨s2,k1,k2,k3,k4,k5⟩:=fy (d:=o.dst) (v:=undef) (K:=λs'=>U7 P ops K fuel l (listed.setIfInBounds i true) s') rR.ok h1;rw [rR.act] at k2;rw [rR.w] at k3;refine first ⟨i,none,[]⟩ undef s2 rfl (.inr ⟨hw,rfl⟩) trivial k1 (hfr1.trans (k4.mono (Mq ho))) k2 k3 ?_;exact GL (q:=⟨i,none,[]⟩) (λ_=>trivial) _ _ _ _ _ (oB hP HO W s0 hW fuel _ _ s2 k1 (hfr1.trans (k4.mono (Mq ho))) (λq hq=>by rw [k3];exact hl q hq) k5)
   ·cases h
  ·split at h
   ·rename_i hr;exact ⟨λ_=>⟨s,bn,rfl,rfl,MJ,h⟩,λj hj=>by rw [hr] at hj;cases hj⟩
   ·rename_i hr;refine ⟨λh0=>absurd h0 hr,λj hj=> ?_⟩;have hj':=Pk h j hj;split at hj'
    ·rename_i o ho;have step:∀a w,iO o.dst s (λs'=>(∀q ∈ stays ops j l,q.holds s'.w)/\U7 P ops K fuel (stays ops j l) (listed.setIfInBounds j true) s') a w->
       (∀q ∈ stays ops j l,q.holds w)/\XG P ops (Qr W s0 K) fuel (stays ops j l) (listed.setIfInBounds j true) a w:=by
      rintro a w ⟨s2,k1,rfl,rfl,k4,k5,k6⟩;exact ⟨k5,oB hP HO W s0 hW fuel _ _ s2 k1 (MJ.trans (k4.mono (Mq ho))) k5 k6⟩
     unfold tE;simp only [ho];rcases uQ bn hj' with ⟨hw,s1,rR,h1⟩|⟨hw,s1,rR,h1⟩
     ·rw [if_pos hw];have hl1:∀q ∈ stays ops j l,q.holds s1.w:=λq hq=>by rw [rR.w];exact hl q (oA hq)
      have h2:=GG (Q:=Qr W s0 K) hP rR.ok h1;have h3:o.ZC P s1.act s1.w (λa w=>(∀q ∈ stays ops j l,q.holds w)/\XG P ops (Qr W s0 K) fuel (stays ops j l) (listed.setIfInBounds j true) a w) (Qr W s0 K):=by
       cases hq:quiet P s1 o with
       |true=>
        obtain ⟨v,w',g1,g2⟩:=XJ rR.ok hq h1;refine Oper.rJ (λa w hh=> ?_) (aju (G:=λw=>v5 s1.w w) g1 g2 h2);obtain ⟨hp,hg⟩:=hh;refine step a w (iO.abz rR ?_);obtain ⟨s2,k1,k2,k3,k4,k5⟩:=hp;rw [bB] at k5;exact ⟨s2,k1,k2,k3,k4,λq hq=>by rw [k3];exact hg.af (hl1 q hq),k5.2⟩
       |false=>
        refine Oper.rJ (λa w hp=>step a w (iO.abz rR ?_)) h2;obtain ⟨s2,k1,k2,k3,k4,k5⟩:=hp;rw [bB] at k5;refine ⟨s2,k1,k2,k3,k4,λq hq'=> ?_,k5.2⟩;refine k5.1 _ ?_;unfold U6;rw [hq];exact aW.2 ⟨q,hq',rfl⟩
      rw [rR.act,rR.w] at h3;exact h3
     ·rw [if_neg (by simp [hw])];obtain ⟨s2,k1,k2,k3,k4,k5⟩:=fy (d:=o.dst) (v:=undef) (K:=λs'=>U7 P ops K fuel (stays ops j l) (listed.setIfInBounds j true) s') rR.ok h1;rw [rR.act] at k2;rw [rR.w] at k3;rw [<-k2,<-k3];exact step _ _ (iO.abz rR ⟨s2,k1,rfl,rfl,k4,λq hq=>by rw [k3];exact hl q (oA hq),k5⟩)
    ·cases hj'
end
def writes:Code->List Nat
 | .region _ ops _=>dstsOf ops.toList
 | .seq a b=>writes a++writes b
 | .cond _ a b=>writes a++writes b
 | .block _ a=>writes a
 | .loop a=>writes a
 | .scope a=>writes a
 | .rangeFunc _ ps a b=>ps.toList++writes a++writes b
 |_=> []
def mf:Code->Option Nat
 | .region id _ _=>some id
 | .seq a b=>match mf a with|some i=>some i|none=>mf b
 | .cond _ a b=>match mf a with|some i=>some i|none=>mf b
 | .block _ a=>mf a
 | .loop a=>mf a
 | .scope a=>mf a
 |_=>none
structure Carry where
 pa:List (Nat × S)
 blocks:List (Nat × List S)
 lA:List Nat
structure Ann where
 loops:List (Nat × Carry)
 ar5:List (Nat × Carry)
 ar6:List (Nat × Carry × List T1):=[]
def jY:Code->Bool
 | .seq a b=>jY a && jY b
 | .cond _ a b=>jY a && jY b
 | .block _ a=>jY a
 | .loop a=>jY a
 | .scope _=>false
 | .rangeFunc .. =>false
 |_=>true
def T1.all:T1->(Value->Prop)->Prop
 | .sc s,F=>s.all F
 | .agg l,F=>tP l λvs=>F (.agg vs.toArray)
def ajv:List T1->(List Value->Prop)->Prop
 | [],F=>F []
 |t::r,F=>t.all λv=>ajv r λvs=>F (v::vs)
structure Step(F F':Nat->Prop)(w w':World):Prop where
 sub:∀i,F' i->F i\/w.heap.size<=i
 size:w.heap.size<=w'.heap.size
 same:∀i,i<w.heap.size->¬F i->w'.heap[i]? =w.heap[i]?
def Step.late{F F':Nat->Prop}{w w':World}(h:Step F F' w w'){k:Nat}:Step (λi=>F i\/k<=i) F' w w':=⟨λi hi=>(h.sub i hi).elim (λq=> .inl (.inl q)) .inr,h.size,λi hi hn=>h.same i hi λq=>hn (.inl q)⟩
def amM{α:Type}(B:Nat)(I:α->(Nat->Prop)->World->Prop):Prop:=
 ∀n F w w',I n F w->Below B w w'->(∀i,F i->w'.heap[i]? =w.heap[i]?)->I n F w'
def Iter(P:Program)(gv:Value)(W0:World)(Rd:Nat->Prop)(xs:List (List Value)):Prop:=
 (∃f first cap,gv=.func (.func f) first cap/\vy P f=true)/\∀(y:Value)(B:Nat)(J:Nat->(Nat->Prop)->World->Prop)(Jx:Unit->(Nat->Prop)->World->Prop)(F0:Nat->Prop)(W:World),
  B<=W.heap.size->amM B J->amM B Jx->(∀n F w,J n F w->∀i,F i->i<w.heap.size)->
  (∀i,Rd i->¬F0 i/\i<W.heap.size/\W.heap[i]? =W0.heap[i]?)->
  (∀n x F w,xs[n]? =some x->J n F w->cC P y x w λe w'=>
   (e=.returned (.bool true)/\∃F',J (n+1) F' w'/\Step F F' w w')\/(e=.returned (.bool false)/\∃F',Jx () F' w'/\Step F F' w w'))->
  J 0 F0 W->cC P gv [y] W λe w'=>(∃v,e=.returned v)/\((∃F',J xs.length F' w')\/∃F',Jx () F' w')
structure Ni(B:Nat)(w w1:World):Prop where
 ext:Below w.heap.size w w1
 at_:B=w.heap.size
 size:w1.heap.size=B+2
def abD(l:List (Option Nat)):List (Option Nat)->List (Option Nat)
 | []=>l
 |x::r=>abD (if l.contains x then l else l++ [x]) r
def ke:Code->List (Option Nat)
 | .exit id=> [some id]
 | .ret=> [none]
 | .seq a b=>abD (ke a) (ke b)
 | .cond _ a b=>abD (ke a) (ke b)
 | .block id a=>(ke a).filter (· !=some id)
 | .loop a=>ke a
 |_=> []
def amN:Option Nat->Exit|none=> .ret|some id=> .exit id
def J6:Option Nat->Code|none=> .ret|some id=> .exit id
def ajw:List (Option Nat)->(Option Nat->Prop)->Prop
 | [],_=>True
 | [j],F=>F j
 |j::k::r,F=>F j/\ajw (k::r) F
def Pr:∀{l:List (Option Nat)} {F:Option Nat->Prop},ajw l F->∀j ∈ l,F j
 | [],_,_,j,h=>by cases h
 | [a],_,h,j,hj=>by
   have:j=a:=by simpa using hj
   subst this;exact h
 |a::b::r,F,h,j,hj=>by
  cases hj with
  |head=>exact h.1
  |tail _ hm=>exact Pr h.2 j hm
def Carry.bS(c:Carry):List S:=c.pa.map (·.2)++c.blocks.flatMap (·.2)
def Carry.pG(c:Carry)(s:St):List Value:=c.pa.map (λx=>(s.sl.getD x.1 (.val undef)).cg s.kn)++c.blocks.flatMap λx=>(s.kn.getD x.1 default).cells
def mL:List SV->List (Nat × S)->List Value->List SV
 |sl,(i,_)::r,v::vs=>mL (sl.set i (.val v)) r vs
 |sl,_,_=>sl
def fa:List KB->List (Nat × List S)->List Value->List KB
 |kn,(k,ss)::r,vs=>fa (kn.modify k λb=>{b with cells:=vs.take ss.length}) r (vs.drop ss.length)
 |kn,[],_=>kn
def il(us:Nat->Value)(W:List Nat):Nat->List SV->List SV
 |_,[]=> []
 |i,v::r=>(if W.contains i then .val (us i) else v)::il us W (i+1) r
def Carry.head(c:Carry)(W:List Nat)(us:Nat->Value)(vs:List Value)(w:World)(s:St):St:=
 {sl:=mL (il us W 0 s.sl) c.pa vs,w:=w,kn:=fa s.kn c.blocks (vs.drop c.pa.length),df:=s.df}
def Carry.Ps(c:Carry)(s s':St):Bool:=
 s'.df.length==s.df.length &&(List.range s.kn.length).all λk=>(s.kn.getD k default).live==(s'.kn.getD k default).live
def Carry.ajx(c:Carry)(s s':St):List Prop:=
 ((List.range s.kn.length).filter λk=>(s.kn.getD k default).live && !(c.blocks.any λx=>x.1==k)).map λk=>(s'.kn.getD k default).cells=(s.kn.getD k default).cells
def Carry.okB(c:Carry)(s:St):Bool:=
 (c.blocks.all λx=>(s.kn.getD x.1 default).cells.length==x.2.length && x.1<s.kn.length)
def Carry.enter(c:Carry)(s s':St)(I:List Value->World->Prop):Prop:=
 match c.Ps s s' && c.okB s' with
 |true=>aP (c.ajx s s') (I (c.pG s') s'.w)
 |false=>False
def fD(P:Program)(an:Ann):Code->St->(Exit->St->Prop)->Prop
 | .skip,s,Q=>Q .normal s
 | .region _ ops draw,s,Q=>match draw with
   |false=>LH P ops ops.toList s (Q .normal)
   |true=>match Region.noSelect ops with
    |true=>U7 P ops (Q .normal) ops.size [] (Array.replicate ops.size false) {s with w:=s.w.drew}
    |false=>False
 | .seq x y,s,Q=>match (mf y).bind λi=>an.ar5.lookup i with
   |none=>fD P an x s λe s'=>match e with| .normal=>fD P an y s' Q|e=>Q e s'
   |some c=>let s:=s.kill (c.lA.map λk=> .loc k 0)
    ∃J:Zy c.bS (World->Prop),fD P an x s (λe s'=>match e with| .normal=>c.enter s s' (iM c.bS J)|e=>Q e s')/\
     ∀us:Nat->Value,tP c.bS λvs=>∀w,iM c.bS J vs w->fD P an y (c.head (writes x) us vs w s) Q
 | .cond c x y,s,Q=>match s.sv c with
   | .val (.bool b)=>Br b (fD P an x s Q) (fD P an y s Q)
   |_=>False
 | .block id x,s,Q=>fD P an x s λe s'=>match e with| .exit id'=>if id'=id then Q .normal s' else Q (.exit id') s'|e=>Q e s'
 | .loop x,s,Q=>match (mf x).bind λi=>an.loops.lookup i with
   |none=>False
   |some c=>let s:=s.kill (c.lA.map λk=> .loc k 0)
    ∃I:Nat->Zy c.bS (World->Prop),(∃n,c.enter s s (iM c.bS (I n)))/\
     ∀n:Nat,∀us:Nat->Value,tP c.bS λvs=>∀w,iM c.bS (I n) vs w->
      fD P an x (c.head (writes x) us vs w s) λe s'=>match e with| .normal=>∃m,m<n/\c.enter s s' (iM c.bS (I m))|e=>Q e s'
 | .exit id,s,Q=>Q (.exit id) s
 | .ret,s,Q=>Q .ret s
 | .label _,s,Q=>Q .normal s
 | .scope x,s,Q=>fD P an x s λe s'=>match e with| .goto _=>False|e=>Q e s'
 | .rangeFunc g ps assign body,s,Q=>match (mf body).bind λi=>an.ar6.lookup i with
   |none=>False
   |some (c,ts)=>match jY assign && jY body && c.pa.isEmpty && ts.length==ps.size with
    |false=>False
    |true=>let s:=s.kill (c.lA.map λk=> .loc k 0)
     let s0:St:={s with df:=[]}
     ∃(xs:List (List Value))(Rd F0:Nat->Prop)(I:Nat->(Nat->Prop)->Zy c.bS (World->Prop))(X:Option Nat->(Nat->Prop)->Zy c.bS (World->Prop)),
      (∀x ∈ xs,ex1 ts λpv=>x=pv)/\
      (∀n F,tP c.bS λvs=>∀w w',iM c.bS (I n F) vs w->Below s.w.heap.size w w'->(∀i,F i->w'.heap[i]? =w.heap[i]?)->iM c.bS (I n F) vs w')/\
      (∀n F,tP c.bS λvs=>∀w w',iM c.bS (X n F) vs w->Below s.w.heap.size w w'->(∀i,F i->w'.heap[i]? =w.heap[i]?)->iM c.bS (X n F) vs w')/\
      (∀n F,tP c.bS λvs=>∀w,iM c.bS (I n F) vs w->∀i,F i->i<w.heap.size/\i≠s.w.heap.size/\i≠s.w.heap.size+1)/\
      (∀n F,tP c.bS λvs=>∀w,iM c.bS (X n F) vs w->∀i,F i->i<w.heap.size/\i≠s.w.heap.size/\i≠s.w.heap.size+1)/\
      (∀i,Rd i->i<s.w.heap.size/\¬F0 i/\aP ((fU s.kn).map λk=>i≠k) True)/\
      (∀w1,Ni s.w.heap.size s.w w1->Iter P (s.ev g) w1 Rd xs/\c.enter s0 {s0 with w:=w1} (iM c.bS (I 0 F0)))/\
      (∀n F (us:Nat->Value),tP c.bS λvs=>ajv ts λpv=>∀w,xs[n]? =some pv->iM c.bS (I n F) vs w->
       fD P an assign {c.head [] us vs w s0 with sl:=(ps.toList.zip pv).foldl (λsl p=>sl.set p.1 (.val p.2)) (c.head [] us vs w s0).sl} λe s1=>match e with
        | .normal=>Below w.heap.size w s1.w/\∀w2,Rec (s.w.heap.size+1) s1.w w2->iM c.bS (I n F) vs w2->
          fD P an body {s1 with w:=w2} λe s2=>match e with
           | .normal=>∃F',c.enter s0 s2 (iM c.bS (I (n+1) F'))/\Step (λi=>(F i\/i ∈ fU s.kn)\/w.heap.size<=i) (λi=>F' i\/i ∈ fU s.kn) w2 s2.w
           | .ret=>(ke body).contains none=true/\∃F',c.enter s0 s2 (iM c.bS (X none F'))/\Step (λi=>(F i\/i ∈ fU s.kn)\/w.heap.size<=i) (λi=>F' i\/i ∈ fU s.kn) w2 s2.w
           | .exit id=>(ke body).contains (some id)=true/\∃F',c.enter s0 s2 (iM c.bS (X (some id) F'))/\Step (λi=>(F i\/i ∈ fU s.kn)\/w.heap.size<=i) (λi=>F' i\/i ∈ fU s.kn) w2 s2.w
           |_=>False
        |_=>False)/\
      (∀F (us:Nat->Value),tP c.bS λvs=>∀w,iM c.bS (I xs.length F) vs w->w.heap[s.w.heap.size]? =some (.deferred (some []))->Q .normal {c.head [] us vs w s with df:=s.w.heap.size::s.df})/\
      ajw (ke body) λj=>∀F (us:Nat->Value),tP c.bS λvs=>∀w,iM c.bS (X j F) vs w->w.heap[s.w.heap.size]? =some (.deferred (some []))->Q (amN j) {c.head [] us vs w s with df:=s.w.heap.size::s.df}
 |_,_,_=>False
section
variable {P:Program} {s:St}
def eN:∀{l:List S} {f:Zy l (World->Prop)} {vs:List Value} {w:World} {F:List Value->Prop},iM l f vs w->tP l F->F vs/\vs.length=l.length
 | [],_,[],_,_,_,h=>⟨h,rfl⟩
 | [],_,_::_,_,_,ha,_=>ha.elim
 |_::_,_,[],_,_,ha,_=>ha.elim
 |c::r,f,v::vs,w,F,ha,h=>by
  unfold iM at ha
  split at ha
  ·rename_i x hx
   have:=S.aiG hx
   subst this
   have h2:=eN ha (h x)
   exact ⟨h2.1,by simp [h2.2]⟩
  ·exact ha.elim
def J7(us:Nat->Value)(W:List Nat):∀(l:List SV)(k i:Nat),(il us W k l)[i]? =(l[i]?).map λv=>if W.contains (k+i) then .val (us (k+i)) else v
 | [],k,i=>by simp [il]
 |v::r,k,i=>by
  cases i with
  |zero=>simp [il]
  |succ i=>
   simp only [il,C2]
   rw [J7 us W r (k+1) i]
   simp only [show k+1+i=k+(i+1) by omega]
def At{g:Nat->Value}:∀(cs:List (Nat × S))(sl:List SV)(rest:List Value)(i:Nat),
  (mL sl cs (cs.map (λx=>g x.1)++rest))[i]? =if cs.any (λx=>x.1==i) then (sl[i]?).map λ_=>SV.val (g i) else sl[i]?
 | [],sl,rest,i=>by cases rest<;>simp [mL]
 |(j,c)::r,sl,rest,i=>by
  simp only [fu,List.cons_append,mL]
  rw [At r]
  by_cases e:j=i
  ·subst e
   simp only [List.any_cons,beq_self_eq_true,Bool.true_or,if_true,jR]
   split
   ·split<;>simp_all
   ·split<;>simp_all
  ·simp only [List.any_cons,show (j==i)=false by simpa using e,Bool.false_or,jR,if_neg e]
def xc{g:Nat->List Value}:∀(bs:List (Nat × List S))(kn:List KB)(i:Nat),(∀x ∈ bs,(g x.1).length=x.2.length)->
  (fa kn bs (bs.flatMap λx=>g x.1))[i]? =(kn[i]?).map λb=>if bs.any (λx=>x.1==i) then {b with cells:=g i} else b
 | [],kn,i,_=>by simp [fa]
 |(k,ss)::r,kn,i,h=>by
  have hk:(g k).length=ss.length:=h (k,ss) cp
  simp only [List.flatMap_cons,fa]
  rw [<-hk,List.take_left,List.drop_left,xc r _ _ (λx hx=>h x (by simp [hx])),Jj]
  by_cases e:k=i
  ·subst e
   simp only [List.any_cons,beq_self_eq_true,Bool.true_or,if_true]
   cases kn[k]? with
   |none=>rfl
   |some b=>simp
  ·simp only [List.any_cons,show (k==i)=false by simpa using e,Bool.false_or,if_neg e]
   cases kn[i]? with
   |none=>rfl
   |some b=>simp
def LN{c:Carry}{s s':St}{W:List Nat}{I:List Value->World->Prop}(bn:s.Ok)(mN:s'.Ok)(MJ:Fr W s s')(h:c.enter s s' I):
  ∃us,I (c.pG s') s'.w/\(c.head W us (c.pG s') s'.w s).Ok/\(c.head W us (c.pG s') s'.w s).act=s'.act/\Fr W s (c.head W us (c.pG s') s'.w s):=by
 unfold Carry.enter at h;split at h
 case h_2=>exact h.elim
 rename_i hb;rw [bB] at h;obtain ⟨hcells,hI⟩:=h;rw [fk] at hb;obtain ⟨hlive,iG⟩:=hb;have hdf:s'.df=s.df:=MJ.df.2 (by
  unfold Carry.Ps at hlive;rw [fk] at hlive;simpa using hlive.1)
 let g:Nat->Value:=λi=>(s'.sl.getD i (.val undef)).cg s'.kn
 let gb:Nat->List Value:=λk=>(s'.kn.getD k default).cells
 have dN:∀x ∈ c.blocks,(gb x.1).length=x.2.length:=λx hx=>by unfold Carry.okB at iG;have:=CG.1 iG x hx;simp only [fk,beq_iff_eq] at this;exact this.1
 have hvals:c.pG s'=c.pa.map (λx=>g x.1)++c.blocks.flatMap λx=>gb x.1:=rfl
 have hdrop:(c.pG s').drop c.pa.length=c.blocks.flatMap λx=>gb x.1:=by rw [hvals,<-aN (as:=c.pa) (f:=λx=>g x.1),List.drop_left]
 have YP:∀i,(c.head W g (c.pG s') s'.w s).kn[i]? =(s.kn[i]?).map λb=>if c.blocks.any (λx=>x.1==i) then {b with cells:=gb i} else b:=by intro i;show (fa s.kn c.blocks _)[i]? =_;rw [hdrop,xc _ _ _ dN]
 have jv:tR s.kn (c.head W g (c.pG s') s'.w s).kn:=λk kb hk=>by refine ⟨_,by rw [YP,hk];rfl,?_,?_⟩<;>(dsimp only;split<;>rfl)
 have pw:∀i,(c.head W g (c.pG s') s'.w s).sl[i]? =(s.sl[i]?).map λv=>if c.pa.any (λx=>x.1==i) then .val (g i) else if W.contains i then .val (g i) else v:=by intro i;show (mL _ c.pa _)[i]? =_;rw [hvals,At,J7];simp only [eK];split<;>cases s.sl[i]? <;>simp
 have hconc:∀(i:Nat)(v:SV),s.sl[i]? =some v->((if c.pa.any (λx=>x.1==i) then SV.val (g i) else if W.contains i then .val (g i) else v).cg (c.head W g (c.pG s') s'.w s).kn)=g i:=by
  intro i v hv;split
  ·rfl
  ·split
   ·rfl
   ·rename_i hW;rw [jv.cg (bn.mj i v hv)];have:=MJ.slot i (by simpa using hW);simp only [dZ,hv,Option.getD_some] at this;exact this.symm
 have hblkOk:∀(k:Nat)(kb:KB),(c.head W g (c.pG s') s'.w s).kn[k]? =some kb->kb.live=true->∃kb',s'.kn[k]? =some kb'/\kb'.live=true/\kb'.idx=kb.idx/\kb'.ty=kb.ty/\kb'.cells=kb.cells:=by
  intro k kb h1 h2;rw [YP] at h1
  cases hs:s.kn[k]? with
  |none=>simp [hs] at h1
  |some b=>
   have iC:k<s.kn.length:=(cG.1 hs).1;obtain ⟨kb',e1,e2,e3⟩:=MJ.kn k b hs;have hl:b.live=kb'.live:=by unfold Carry.Ps at hlive;rw [fk] at hlive;have:=CG.1 hlive.2 k (nt.2 iC);simpa [dZ,hs,e1] using this
   rw [hs] at h1;simp only [nB,Option.some.injEq] at h1;split at h1
   ·subst h1;exact ⟨kb',e1,hl▸h2,e2,e3,by simp [gb,dZ,e1]⟩
   ·rename_i ag3;subst h1;refine ⟨kb',e1,hl▸h2,e2,e3,?_⟩;have:=hcells ((s'.kn.getD k default).cells=(s.kn.getD k default).cells) (aW.2 ⟨k,iI.2 ⟨nt.2 iC,?_⟩,rfl⟩)
    ·simpa [dZ,hs,e1] using this
    ·simp only [dZ,hs,Option.getD_some,h2,pU,Bool.not_eq_true'];simpa only [Bool.not_eq_true] using ag3
 refine ⟨g,hI,⟨?_,?_,?_⟩,?_,⟨?_,?_,jv,aC _,λ_=>rfl⟩⟩
 ·intro k kb h1 h2;obtain ⟨kb',e1,e2,e3,e4,e5⟩:=hblkOk k kb h1 h2;have:=mN.bf k kb' e1 e2;rw [e3,e4,e5] at this;exact this
 ·intro i j x y h1 h2 h3 h4 h5;obtain ⟨x',a1,a2,a3,_⟩:=hblkOk i x h1 h3;obtain ⟨y',b1,b2,b3,_⟩:=hblkOk j y h2 h4;exact mN.ne i j x' y' a1 b1 a2 b2 (by rw [a3,b3];exact h5)
 ·intro i v hv;rw [pw] at hv
  cases hs:s.sl[i]? with
  |none=>simp [hs] at hv
  |some u=>
   rw [hs] at hv;simp only [nB,Option.some.injEq] at hv;subst hv;split
   ·trivial
   ·split
    ·trivial
    ·exact (bn.mj i u hs).mono jv.length
 ·simp only [St.act];rw [show (c.head W g (c.pG s') s'.w s).df=s'.df from hdf.symm];congr 1;congr 1;apply iP;intro i;rw [aR,aR,pw]
  cases hs:s.sl[i]? with
  |none=>
   have:s'.sl[i]? =none:=by rw [List.getElem?_eq_none_iff] at hs ⊢;rw [MJ.len];exact hs
   simp [this]
  |some v=>
   have iC:i<s'.sl.length:=by rw [MJ.len];exact (cG.1 hs).1
   simp only [nB];rw [hconc i v hs];simp [g,dZ,dm iC]
 ·have h1:∀i,(c.head W g (c.pG s') s'.w s).sl[i]? =none ↔ s.sl[i]? =none:=λi=>by rw [pw,Option.map_eq_none_iff]
  have e1:=h1 s.sl.length;have e2:=h1 (c.head W g (c.pG s') s'.w s).sl.length;simp only [List.getElem?_eq_none_iff] at e1 e2;omega
 ·intro i hi;simp only [dZ,pw]
  cases hs:s.sl[i]? with
  |none=>rfl
  |some v=>
   simp only [nB,Option.getD_some];rw [hconc i v hs];have:=MJ.slot i hi;simp only [dZ,hs,Option.getD_some] at this;simp only [g,dZ];exact this
def tF(W:List Nat)(s:St)(Q:Exit->St->Prop):Exit->Act->World->Prop:=
 λe a w=>∃s',s'.Ok/\s'.act=a/\s'.w=w/\Fr W s s'/\Q e s'
def tF.of{W W':List Nat}{s h:St}{Q:Exit->St->Prop}{e:Exit}{a:Act}{w:World}(hp:tF W h Q e a w)(MJ:Fr W' s h)(hs:∀i ∈ W,i ∈ W'):tF W' s Q e a w:=by obtain ⟨s',h1,h2,h3,h4,h5⟩:=hp;exact ⟨s',h1,h2,h3,MJ.trans (h4.mono hs),h5⟩
def DU{F:Fence}{n:Nat}{P:Program}{Q:Exit->Act->World->Prop}{a:Act}{w:World}{c:Code}(I:Nat->Act->World->Prop)(n₀:Nat)(h₀:I n₀ a w)
  (round:∀m a w,I m a w->c.wpIn F n P (Exit.then (λa' w'=>∃n',n'<m/\I n' a' w') Q) a w):(Code.loop c).wpIn F n P Q a w:=by
 refine wpIn_loop (λa w=>∃n,I n a w) (λa w=>leastOf (λn=>I n a w)) ⟨n₀,h₀⟩ ?_;intro a w hI;refine wpIn_mono (round _ a w (leastOf_spec hI).1) ?_;intro e a' w' hq
 cases e with
 |normal=>
  obtain ⟨n',iC,hI'⟩:=hq;exact show (∃n,I n a' w')/\leastOf (λn=>I n a' w')<leastOf (λn=>I n a w) from ⟨⟨n',hI'⟩,Pt ((leastOf_spec ⟨n',hI'⟩).2 n' hI') iC⟩
 |exit id=>exact hq
 |goto l=>exact hq
 |ret=>exact hq
 |panic ch=>exact hq
 |outgrown=>exact hq
def B1(us:Nat->Value):∀(l:List SV)(i:Nat),il us [] i l=l
 | [],_=>rfl
 |v::r,i=>by
  show (if ([]:List Nat).contains i then SV.val (us i) else v)::il us [] (i+1) r=_
  rw [B1 us r (i+1)];rfl
def J8:∀(bs:List (Nat × List S))(kn:List KB)(vs:List Value),fU (fa kn bs vs)=fU kn
 | [],_,_=>rfl
 |(k,ss)::r,kn,vs=>by
  show fU (fa (kn.modify k λb=>{b with cells:=vs.take ss.length}) r (vs.drop ss.length))=_
  rw [J8 r]
  unfold fU
  induction kn generalizing k with
  |nil=>simp
  |cons b kn ih=>
   cases k with
   |zero=>cases hb:b.live<;>simp [hb]
   |succ k=>
    have:=ih k
    cases hb:b.live<;>simp [hb]<;>simpa using this
def XK{kn:List KB}{k:Nat}{kb:KB}(h:kn[k]? =some kb)(hl:kb.live=true):kb.idx ∈ fU kn:=
 aW.2 ⟨kb,iI.2 ⟨aX h,hl⟩,rfl⟩
def abE{s:St}(bn:s.Ok){i:Nat}(h:i ∈ fU s.kn):∃c t,s.w.heap[i]? =some (.cells c t (0,0)):=by obtain ⟨kb,h1,rfl⟩:=aW.1 h;obtain ⟨h1,h2⟩:=iI.1 h1;obtain ⟨k,hk⟩:=wF h1;exact ⟨_,_,bn.bf k kb hk h2⟩
def U8:∀{l:List S} {F:List Value->Prop},exL l F->∃vs,F vs/\∀G:List Value->Prop,tP l G->G vs
 | [],_,h=>⟨[],h,λ_ hg=>hg⟩
 |s::r,F,⟨x,hx⟩=>by
  obtain ⟨vs,h1,h2⟩:=U8 hx
  exact ⟨_,h1,λG hg=>h2 _ (hg x)⟩
def T1.ajy{t:T1}{F:Value->Prop}(h:t.ex F):∃v,F v/\∀G:Value->Prop,t.all G->G v:=by
 cases t with
 |sc s=>obtain ⟨x,hx⟩:=h;exact ⟨_,hx,λG hg=>hg x⟩
 |agg l=>obtain ⟨vs,h1,h2⟩:=U8 h;exact ⟨_,h1,λG hg=>h2 _ hg⟩
def U9:∀{l:List T1} {F:List Value->Prop},ex1 l F->∃vs,F vs/\vs.length=l.length/\∀G:List Value->Prop,ajv l G->G vs
 | [],_,h=>⟨[],h,rfl,λ_ hg=>hg⟩
 |t::r,F,h=>by
  obtain ⟨v,h1,h2⟩:=T1.ajy h
  obtain ⟨vs,h3,h4,h5⟩:=U9 h1
  exact ⟨v::vs,h3,by simp [h4],λG hg=>h5 _ (h2 _ hg)⟩
def GM{c:Carry}{s s':St}{W:List Nat}{I:List Value->World->Prop}(yQ:c.pa=[])(bn:s.Ok)(mN:s'.Ok)(MJ:Fr W s s')(h:c.enter s s' I):
  ∃us,I (c.pG s') s'.w/\(c.head [] us (c.pG s') s'.w s).Ok/\Fr [] s (c.head [] us (c.pG s') s'.w s)/\(c.head [] us (c.pG s') s'.w s).sl=s.sl:=by
 obtain ⟨us,h1,h2,h3,h4⟩:=LN bn mN MJ h;have pw:(c.head [] us (c.pG s') s'.w s).sl=s.sl:=by show mL (il us [] 0 s.sl) c.pa _=_;rw [yQ,B1];rfl
 have jv:tR s.kn (c.head [] us (c.pG s') s'.w s).kn:=h4.kn;refine ⟨us,h1,⟨h2.bf,h2.ne,λi v hv=> ?_⟩,⟨by rw [pw],λi _=> ?_,jv,aC _,λ_=>rfl⟩,pw⟩
 ·rw [pw] at hv;exact (bn.mj i v hv).mono jv.length
 ·rw [pw];simp only [dZ]
  cases hg:s.sl[i]? with
  |none=>rfl
  |some u=>exact jv.cg (bn.mj i u hg)
def Pu:∀(l:List (Tmp × Value))(sl:List SV)(kn:List KB),(l.foldl (λsl p=>sl.set p.1 (.val p.2)) sl).map (SV.cg kn)=l.foldl (λt p=>t.set p.1 p.2) (sl.map (SV.cg kn))
 | [],_,_=>rfl
 |p::r,sl,kn=>by
  simp only [nJ]
  rw [Pu r,jC];rfl
def Pv:∀(l:List (Tmp × Value))(t:List Value),(l.foldl (λt p=>t.set p.1 p.2) t).toArray=l.foldl (λ(t:Array Value) p=>t.setIfInBounds p.1 p.2) t.toArray
 | [],_=>rfl
 |p::r,t=>by
  simp only [nJ]
  rw [Pv r];simp
def Pw:∀(l:List (Tmp × Value))(sl:List SV),(l.foldl (λsl p=>sl.set p.1 (.val p.2)) sl).length=sl.length
 | [],_=>rfl
 |p::r,sl=>by simp only [nJ];rw [Pw r];simp
def Px{n:Nat}:∀(l:List (Tmp × Value))(sl:List SV),(∀(i:Nat)(v:SV),sl[i]? =some v->v.im n)->∀(i:Nat)(v:SV),(l.foldl (λsl p=>sl.set p.1 (.val p.2)) sl)[i]? =some v->v.im n
 | [],_,h=>h
 |p::r,sl,h=>by
  simp only [nJ]
  refine Px r _ λi v hv=> ?_
  rw [jR] at hv
  split at hv
  ·split at hv
   ·cases hv;trivial
   ·cases hv
  ·exact h i v hv
def J9:∀(l:List (Tmp × Value))(sl:List SV)(i:Nat),i ∉ l.map (·.1)->(l.foldl (λsl p=>sl.set p.1 (.val p.2)) sl)[i]? =sl[i]?
 | [],_,_,_=>rfl
 |p::r,sl,i,h=>by
  simp only [nJ]
  rw [J9 r _ i (λhm=>h (by simp [hm])),jR,if_neg (λe=>h (by simp [e]))]
def abF(hP:DE P){n:Nat}{an:Ann}{g:Operand}{ps:Array Tmp}{assign body:Code}{Q:Exit->St->Prop}(bn:s.Ok)
  (ha:∀(l:Nat)(s:St)(Q:Exit->St->Prop),jY assign=true->s.Ok->fD P an assign s Q->assign.wpIn (Fence.wide.inRound l) 0 P (tF (writes assign) s Q) s.act s.w)
  (hb:∀(l:Nat)(s:St)(Q:Exit->St->Prop),jY body=true->s.Ok->fD P an body s Q->body.wpIn (Fence.wide.inRound l) 0 P (tF (writes body) s Q) s.act s.w)
  (h:fD P an (.rangeFunc g ps assign body) s Q):(Code.rangeFunc g ps assign body).wpIn Fence.wide n P (tF (writes (.rangeFunc g ps assign body)) s Q) s.act s.w:=by
 unfold fD at h
 split at h
 ·exact h.elim
 rename_i c ts hc
 split at h
 ·exact h.elim
 rename_i hbool
 simp only [fk,List.isEmpty_iff,beq_iff_eq] at hbool
 obtain ⟨⟨⟨Ml,Vt⟩,yQ⟩,htl⟩:=hbool
 obtain ⟨q1,q2,q3,q4,q5⟩:=fq (c.lA.map λk=> .loc k 0) bn
 have qa:=mJ (l:=c.lA.map λk=> .loc k 0) bn
 have qf:Fr (writes (.rangeFunc g ps assign body)) s (s.kill (c.lA.map λk=> .loc k 0)):=⟨by rw [q2],λi _=>by
  rw [q2]
  simp only [dZ]
  cases hg:s.sl[i]? with
  |none=>rfl
  |some u=>exact q4.cg (bn.mj i u hg),q4,by rw [nQ];exact ⟨aC _,λ_=>rfl⟩⟩
 suffices hh:(Code.rangeFunc g ps assign body).wpIn Fence.wide n P (tF (writes (.rangeFunc g ps assign body)) (s.kill (c.lA.map λk=> .loc k 0)) Q) s.act s.w from wpIn_mono hh λe a w hp=>hp.of qf λi hi=>hi
 rw [<-qa,<-q3]
 simp only at h
 generalize s.kill (c.lA.map λk=> .loc k 0)=s at*
 have bn:=q1
 obtain ⟨xs,Rd,F0,I,X,hsh,hsI,hsX,hbI,hbX,hRd,pc,hround,hdone,hexit⟩:=h
 obtain ⟨B,hB⟩:∃B,B=s.w.heap.size:=⟨_,rfl⟩
 rw [<-hB] at hsI hsX hbI hbX hRd pc hround hdone hexit
 obtain ⟨s0,QY⟩:∃s0:St,s0={s with df:=[]}:=⟨_,rfl⟩
 simp only [<-QY] at pc hround
 have hok0:s0.Ok:=by rw [QY];exact ⟨bn.bf,bn.ne,bn.mj⟩
 have e0:s0.sl=s.sl/\s0.w=s.w/\s0.kn=s.kn/\s0.df=[]:=by rw [QY];exact ⟨rfl,rfl,rfl,rfl⟩
 have hlv:∀{i},i ∈ fU s.kn->i<B:=λhi=>by
  obtain ⟨_,_,h1⟩:=abE bn hi
  rw [hB];exact (tg.1 h1).1
 refine wpIn_rangeFunc λfn hfn=> ?_
 obtain ⟨rec,gJ⟩:∃rec:LoopState->Option Code->Loop,rec=λst pe=>{state:=st,pending:=pe,fn,tmps:=s.act.tmps,params:=ps,assign,body,defers:=B}:=⟨_,rfl⟩
 obtain ⟨W1,hW1⟩:∃W1,(s.w.alloc (.deferred (some []))).alloc (.loop (rec .ready none))=W1:=⟨_,rfl⟩
 have hL1:W1.heap[B+1]? =some (.loop (rec .ready none)):=by
  rw [<-hW1,hB];have:=World.alloc_heap_new (s.w.alloc (.deferred (some []))) (.loop (rec .ready none));rwa [World.size_alloc] at this
 have hD1:W1.heap[B]? =some (.deferred (some [])):=by
  rw [<-hW1,hB];exact (Below.heap_alloc _ _ _ cp).trans (World.alloc_heap_new s.w _)
 have hz1:W1.heap.size=B+2:=by rw [<-hW1,hB];simp
 have HJ:Below B s.w W1:=by
  rw [<-hW1];exact ((Below.refl _ s.w).alloc ab _).alloc (by simp;omega) _
 obtain ⟨⟨⟨f,first,cap,hg,AK⟩,ZI⟩,hen⟩:=pc W1 ⟨hB▸HJ,hB,hz1⟩
 obtain ⟨JJ,hJJ⟩:∃JJ:LoopState->Option Code->((Nat->Prop)->Zy c.bS (World->Prop))->(Nat->Prop)->World->Prop,JJ=λst pe K FF w=>∃F us vs,(∀i,FF i ↔(F i\/i ∈ fU s.kn)\/i=B\/i=B+1)/\
   (c.head [] us vs w s0).Ok/\Fr [] s0 (c.head [] us vs w s0)/\(c.head [] us vs w s0).sl=s0.sl/\iM c.bS (K F) vs w/\w.heap[B+1]? =some (.loop (rec st pe))/\w.heap[B]? =some (.deferred (some [])):=⟨_,rfl⟩
 have stabJ:∀{st pe} {K:(Nat->Prop)->Zy c.bS (World->Prop)} {FF w w'},(∀F,tP c.bS λvs=>∀w w',iM c.bS (K F) vs w->Below B w w'->(∀i,F i->w'.heap[i]? =w.heap[i]?)->iM c.bS (K F) vs w')->
   JJ st pe K FF w->Below B w w'->(∀i,FF i->w'.heap[i]? =w.heap[i]?)->JJ st pe K FF w':=by
  intro st pe K FF w w' gM hj lr hsame
  rw [hJJ] at hj ⊢
  obtain ⟨F,us,vs,h1,h2,h3,h4,h5,h6,h7⟩:=hj
  refine ⟨F,us,vs,h1,⟨λk kb hk hl=> ?_,h2.ne,h2.mj⟩,⟨h3.len,h3.slot,h3.kn,h3.df⟩,h4,(eN h5 (gM F)).1 w w' h5 lr λi hi=>hsame i ((h1 i).2 (.inl (.inl hi))),?_,?_⟩
  ·have:=h2.bf k kb hk hl
   refine (hsame kb.idx ((h1 _).2 (.inl (.inr ?_)))).trans this
   have hm:=XK hk hl
   rw [show (c.head [] us vs w' s0).kn=fa s0.kn c.blocks (vs.drop c.pa.length) from rfl,J8,e0.2.2.1] at hm
   exact hm
  ·rw [hsame _ ((h1 _).2 (.inr (.inr rfl)))];exact h6
  ·rw [hsame _ ((h1 _).2 (.inr (.inl rfl)))];exact h7
 have boundJ:∀{st pe} {K:(Nat->Prop)->Zy c.bS (World->Prop)} {FF w},(∀F,tP c.bS λvs=>∀w,iM c.bS (K F) vs w->∀i,F i->i<w.heap.size/\i≠B/\i≠B+1)->
   JJ st pe K FF w->∀i,FF i->i<w.heap.size:=by
  intro st pe K FF w AK hj i hi
  rw [hJJ] at hj
  obtain ⟨F,us,vs,h1,h2,h3,h4,h5,h6,h7⟩:=hj
  have hz:=(tg.1 h6).1
  rcases (h1 i).1 hi with (hi|hi)|rfl|rfl
  ·exact ((eN h5 (AK F)).1 w h5 i hi).1
  ·have:=hlv hi;omega
  ·omega
  ·omega
 have mkJ:∀{st pe} {K:(Nat->Prop)->Zy c.bS (World->Prop)} {F:Nat->Prop} {s':St} {W:List Nat},s'.Ok->Fr W s0 s'->c.enter s0 s' (iM c.bS (K F))->s'.w.heap[B+1]? =some (.loop (rec st pe))->s'.w.heap[B]? =some (.deferred (some []))->
   JJ st pe K (λi=>(F i\/i ∈ fU s.kn)\/i=B\/i=B+1) s'.w:=by
  intro st pe K F s' W h1 h2 h3 h4 h5
  obtain ⟨us,g1,g2,g3,g4⟩:=GM yQ hok0 h1 h2 h3
  rw [hJJ]
  exact ⟨F,us,c.pG s',λi=>Iff.rfl,g2,g3,g4,g1,h4,h5⟩
 obtain ⟨y,hy⟩:∃y,y=Value.func (.yield (B+1)) #[] #[]:=⟨_,rfl⟩
 have hok1:({s0 with w:=W1}:St).Ok:=⟨λk kb h1 h2=>by
  have:=hok0.bf k kb h1 h2
  rw [e0.2.1] at this
  rw [<-this]
  exact HJ.block _ (by rw [hB];exact (tg.1 this).1),hok0.ne,hok0.mj⟩
 have hcall:=ZI y B (λm=>JJ .ready none (I m)) (λ_ FF w=>∃j,(ke body).contains j=true/\JJ .done (some (J6 j)) (X j) FF w)
  (λi=>(F0 i\/i ∈ fU s.kn)\/i=B\/i=B+1) W1 ab
  (λm FF w w'=>stabJ (hsI m)) (λ_ FF w w' hj lr hs=>by
   obtain ⟨e,he,hj⟩:=hj
   exact ⟨e,he,stabJ (hsX e) hj lr hs⟩)
  (λm FF w=>boundJ (hbI m))
  (λi hi=>by
   obtain ⟨h1,h2,h3⟩:=hRd i hi
   rw [bB] at h3
   refine ⟨?_,by omega,rfl⟩
   rintro ((h4|h4)|h4|h4)
   ·exact h2 h4
   ·exact h3.1 (i≠i) (aW.2 ⟨i,h4,rfl⟩) rfl
   ·omega
   ·omega)
  ?_ (mkJ (s':={s0 with w:=W1}) (W:=[]) hok1 ⟨rfl,λ_ _=>rfl,tR.refl _,aC _,λ_=>rfl⟩ (by rw [QY] at hen ⊢;exact hen) hL1 hD1)
 ·
  rw [hg] at hcall
  unfold cC at hcall
  simp only [AK] at hcall
  unfold vy at AK
  split at AK
  case h_2=>cases AK
  rename_i fn' hf'
  split at AK
  case h_2=>cases AK
  rename_i body' hbody'
  have hn':=hP f fn' hf'
  refine ⟨B+1,[{target:=.collected B,args:= #[]}],W1,{target:=.fn (.func f) cap,args:=first++ #[y]},W1,f,first++ #[y]++cap,W1,?_,?_,λ_ _=>trivial,?_,sO,callsIn_wide.2 ?_⟩
  ·rw [<-hW1,gJ,hB];exact run_enterLoop_outer _ _ _ _ _
  ·have hev:s.act.eval g=.func (.func f) first cap:=by rw [St.ui];exact hg
   simp only [resolve,hev,Deferred.ofValue,hy]
   simp [Act.eval]
  ·simp only [invoke,callFunc]
   simp [program,Sem.run,hf',hn',hbody']
  ·have adR:(first.toList++ [y]++cap.toList).toArray=first++ #[y]++cap:=by apply Array.ext';simp
   rw [adR] at hcall
   refine hcall.mono ?_
   have fin:∀{st pe} {K:(Nat->Prop)->Zy c.bS (World->Prop)} {FF w w4} {e:Exit},JJ st pe K FF w->Rec (B+1) w w4->(∀F,tP c.bS λvs=>∀w w',iM c.bS (K F) vs w->Below B w w'->(∀i,F i->w'.heap[i]? =w.heap[i]?)->iM c.bS (K F) vs w')->
     (∀F,tP c.bS λvs=>∀w,iM c.bS (K F) vs w->∀i,F i->i<w.heap.size/\i≠B/\i≠B+1)->
     (∀F (us:Nat->Value),tP c.bS λvs=>∀w,iM c.bS (K F) vs w->w.heap[B]? =some (.deferred (some []))->Q e {c.head [] us vs w s with df:=B::s.df})->
     tF (writes (.rangeFunc g ps assign body)) s Q e {tmps:=s.act.tmps,defers:={target:=.collected B,args:= #[]}::s.act.defers} w4:=by
    intro st pe K FF w w4 e hj hr gM AK hq
    rw [hJJ] at hj
    obtain ⟨F,us,vs,h1,h2,h3,h4,h5,h6,h7⟩:=hj
    have h5':=(eN h5 (gM F)).1 w w4 h5 (hr.below ab) λi hi=>hr.same i ((eN h5 (AK F)).1 w h5 i hi).2.2
    have h7':w4.heap[B]? =some (.deferred (some [])):=by rw [hr.same _ ab];exact h7
    have YP:(c.head [] us vs w4 s).kn=(c.head [] us vs w s0).kn:=by
     show fa s.kn _ _=fa s0.kn _ _
     rw [e0.2.2.1]
    have pw:(c.head [] us vs w4 s).sl=s.sl:=by
     show mL (il us [] 0 s.sl) c.pa vs=_
     rw [yQ,B1];rfl
    have jv:tR s.kn (c.head [] us vs w4 s).kn:=by rw [YP,<-e0.2.2.1];exact h3.kn
    refine ⟨{c.head [] us vs w4 s with df:=B::s.df},⟨λk kb hk hl=> ?_,λi j x z hi hj=> ?_,λi v hv=> ?_⟩,?_,rfl,⟨by show (c.head [] us vs w4 s).sl.length=_;rw [pw],λi _=> ?_,jv,by simp,λh=>by simp at h⟩,(eN h5' (hq F us)).1 w4 h5' h7'⟩
    ·have hk':(c.head [] us vs w s0).kn[k]? =some kb:=by rw [<-YP];exact hk
     have hh:=h2.bf k kb hk' hl
     show w4.heap[kb.idx]? =_
     rw [<-hh]
     refine hr.same _ λe=> ?_
     rw [show (c.head [] us vs w s0).w=w from rfl,e,h6] at hh
     cases hh
    ·exact h2.ne i j x z (by rw [<-YP];exact hi) (by rw [<-YP];exact hj)
    ·show v.im (c.head [] us vs w4 s).kn.length
     rw [show ({c.head [] us vs w4 s with df:=B::s.df}:St).sl=(c.head [] us vs w4 s).sl from rfl,pw] at hv
     exact (bn.mj i v hv).mono jv.length
    ·show ({tmps:=((c.head [] us vs w4 s).sl.map (SV.cg (c.head [] us vs w4 s).kn)).toArray,defers:=marks (B::s.df)}:Act)=_
     rw [pw]
     have:s.sl.map (SV.cg (c.head [] us vs w4 s).kn)=s.sl.map (SV.cg s.kn):=by
      refine wG λx hx=> ?_
      obtain ⟨i,hi⟩:=wF hx
      exact jv.cg (bn.mj i x hi)
     rw [this];rfl
    ·show ((c.head [] us vs w4 s).sl.getD i (.val undef)).cg (c.head [] us vs w4 s).kn=_
     rw [pw]
     simp only [dZ]
     cases hg:s.sl[i]? with
     |none=>rfl
     |some u=>exact jv.cg (bn.mj i u hg)
   rintro e w3 ⟨⟨v,rfl⟩,(⟨FF,hj⟩|⟨FF,j,he,hj⟩)⟩
   ·have hl:w3.heap[B+1]? =some (.loop (rec .ready none)):=by
     have:=hj
     rw [hJJ] at this
     obtain ⟨F,us,vs,h1,h2,h3,h4,h5,h6,h7⟩:=this
     exact h6
    have AH:=run_endLoop (P:=P) hl (by rw [gJ];simp)
    rw [gJ] at AH
    exact ⟨none,_,AH,fin hj (Rec.putObj _ _ _) (hsI _) (hbI _) hdone⟩
   ·have hl:w3.heap[B+1]? =some (.loop (rec .done (some (J6 j)))):=by
     have:=hj
     rw [hJJ] at this
     obtain ⟨F,us,vs,h1,h2,h3,h4,h5,h6,h7⟩:=this
     exact h6
    have AH:=run_endLoop (P:=P) hl (by rw [gJ];simp)
    rw [gJ] at AH
    refine ⟨some (J6 j),_,AH,?_⟩
    have hq:=Pr hexit j (List.contains_iff_mem.1 he)
    cases j with
    |none=>exact wpIn_ret (fin hj (Rec.putObj _ _ _) (hsX _) (hbX _) hq)
    |some id=>exact wpIn_exit (fin hj (Rec.putObj _ _ _) (hsX _) (hbX _) hq)
 ·
  intro m x FF w hx hj
  have hj':=hj
  rw [hJJ] at hj'
  obtain ⟨F,us,vs,h1,h2,h3,h4,h5,h6,h7⟩:=hj'
  have hz:=(tg.1 h6).1
  obtain ⟨x',hxe,hxl,hxa⟩:=U9 (hsh x (aX hx))
  subst hxe
  have hyr:=run_yield (P:=P) (args:=x.toArray) h6 (by rw [gJ];simp [hxl,htl])
  rw [hy]
  refine ⟨⟨rfl,rfl⟩,_,_,_,_,hyr,?_⟩
  have hFb:∀i,F i->i<w.heap.size/\i≠B/\i≠B+1:=(eN h5 (hbI m F)).1 w h5
  have YP:(c.head [] us vs w s0).kn.length=s0.kn.length/\tR s0.kn (c.head [] us vs w s0).kn:=⟨by
   show (fa s0.kn c.blocks _).length=_
   have:∀(bs:List (Nat × List S))(kn:List KB)(vs:List Value),(fa kn bs vs).length=kn.length:=by
    intro bs
    induction bs with
    |nil=>intro kn vs;rfl
    |cons p r ih=>intro kn vs;obtain ⟨k,ss⟩:=p;show (fa _ r _).length=_;rw [ih];simp
   exact this _ _ _,h3.kn⟩
  have hvc:=hxa _ ((eN h5 (hround m F us)).1) w hx h5
  obtain ⟨sA,hsA⟩:∃sA:St,sA={c.head [] us vs w s0 with sl:=(ps.toList.zip x).foldl (λsl p=>sl.set p.1 (.val p.2)) (c.head [] us vs w s0).sl}:=⟨_,rfl⟩
  rw [<-hsA] at hvc
  have hokA:sA.Ok:=by
   rw [hsA]
   exact ⟨h2.bf,h2.ne,Px _ _ h2.mj⟩
  have hwA:sA.w=w:=by rw [hsA];rfl
  have hactA:sA.act={tmps:=(ps.zip x.toArray).foldl (λtmps (p:Tmp × Value)=>tmps.setIfInBounds p.1 p.2) s.act.tmps,defers:=[]}:=by
   rw [hsA]
   show ({tmps:=(((ps.toList.zip x).foldl (λsl p=>sl.set p.1 (.val p.2)) (c.head [] us vs w s0).sl).map (SV.cg (c.head [] us vs w s0).kn)).toArray,defers:=marks s0.df}:Act)=_
   rw [Pu,Pv,h4,e0.2.2.2]
   have ht:s0.sl.map (SV.cg (c.head [] us vs w s0).kn)=s.sl.map (SV.cg s.kn):=by
    rw [e0.1,<-e0.2.2.1]
    refine wG λu hu=> ?_
    obtain ⟨i,hi⟩:=wF hu
    exact YP.2.cg (hok0.mj i u (by rw [e0.1];exact hi))
   rw [ht]
   congr 1
   rw [<-Array.foldl_toList,Array.toList_zip]
   rfl
  have hfrA:Fr ps.toList s0 sA:=by
   rw [hsA]
   refine ⟨by show (List.foldl (λsl (p:Tmp × Value)=>sl.set p.1 (SV.val p.2)) (c.head [] us vs w s0).sl (ps.toList.zip x)).length=_;rw [Pw,h4],λi hi=> ?_,h3.kn,aC _,λ_=>rfl⟩
   have:((ps.toList.zip x).foldl (λsl p=>sl.set p.1 (.val p.2)) (c.head [] us vs w s0).sl)[i]? =(c.head [] us vs w s0).sl[i]? :=J9 _ _ _ (λhm=>hi (by
    obtain ⟨p,hp,rfl⟩:=aW.1 hm
    exact (List.of_mem_zip hp).1))
   have h3s:=h3.slot i cp
   simp only [dZ] at h3s ⊢
   rw [this];exact h3s
  have hA:=ha (B+1) sA _ Ml hokA hvc
  rw [hactA,hwA] at hA
  refine roundIn_of_wpIn trivial ?_
  rw [gJ]
  refine wpIn_mono hA ?_
  rintro e a1 w1 ⟨s1,k1,rfl,rfl,k4,k5⟩
  cases e with
  |normal=>
   obtain ⟨Zn,hbody⟩:=k5
   have hl1:s1.w.heap[B+1]? =some (.loop (rec .ready none)):=by rw [Zn.block _ hz];exact h6
   have hd1:s1.w.heap[B]? =some (.deferred (some [])):=by rw [Zn.block _ ab];exact h7
   have hbr:=run_beginRound (P:=P) hl1 (by rw [gJ])
   refine ⟨_,hbr,?_⟩
   obtain ⟨w2,Cu⟩:∃w2,w2=s1.w.putObj (B+1) (.loop {rec .ready none with state:=.busy}):=⟨_,rfl⟩
   have hR2:Rec (B+1) s1.w w2:=by rw [Cu];exact Rec.putObj _ _ _
   have aBW:=Zn.size
   have L8:w2.heap[B+1]? =some (.loop {rec .ready none with state:=.busy}):=by rw [Cu];exact World.putObj_heap_same ab
   have hd2:w2.heap[B]? =some (.deferred (some [])):=by rw [hR2.same _ ab];exact hd1
   have h5b:=(eN h5 (hsI m F)).1 w w2 h5 ((Below.mono Zn ab).trans (hR2.below ab)) λi hi=>by
    obtain ⟨g1,g2,g3⟩:=hFb i hi
    rw [hR2.same i g3];exact Zn.block i g1
   have hok2:=yk k1 (λc t f e=>by rw [hl1] at e;cases e) hR2
   have Hg:=hb (B+1) {s1 with w:=w2} _ Vt hok2 (hbody w2 hR2 h5b)
   rw [show w2=({s1 with w:=w2}:St).w from rfl,Cu] at Hg
   rw [<-Cu]
   rw [<-Cu] at Hg
   refine wpIn_mono Hg ?_
   have hz2:=hR2.size
   have nF:¬((F (B+1)\/B+1 ∈ fU s.kn)\/w.heap.size<=B+1):=by
    rintro ((hh|hh)|hh)
    ·exact (hFb _ hh).2.2 rfl
    ·have:=hlv hh;omega
    ·omega
   have nD:¬((F B\/B ∈ fU s.kn)\/w.heap.size<=B):=by
    rintro ((hh|hh)|hh)
    ·exact (hFb _ hh).2.1 rfl
    ·have:=hlv hh;omega
    ·omega
   have aa5:∀{F':Nat->Prop} {w' w3:World},Step (λi=>(F i\/i ∈ fU s.kn)\/w.heap.size<=i) (λi=>F' i\/i ∈ fU s.kn) w2 w'->Rec (B+1) w' w3->Step FF (λi=>(F' i\/i ∈ fU s.kn)\/i=B\/i=B+1) w w3:=by
    intro F' w' w3 hs hr
    refine ⟨λi hi=> ?_,?_,λi hi hn=> ?_⟩
    ·rcases hi with hi|hi
     ·rcases hs.sub i hi with (hh|hh)|hh
      ·exact .inl ((h1 i).2 (.inl hh))
      ·exact .inr hh
      ·exact .inr ab
     ·exact .inl ((h1 i).2 (.inr hi))
    ·have:=hs.size;have:=hr.size;omega
    ·have hn':¬(F i\/i ∈ fU s.kn):=λhh=>hn ((h1 i).2 (.inl hh))
     have hnb:i≠B+1:=λhh=>hn ((h1 i).2 (.inr (.inr hh)))
     rw [hr.same i hnb,hs.same i ab (λhh=>hh.elim hn' λhh=>by omega),hR2.same i hnb,Zn.block i hi]
   have frs:∀{s2:St},Fr (writes body) {s1 with w:=w2} s2->Fr (ps.toList++writes assign++writes body) s0 s2:=λ{s2} hh=>
    (hfrA.mono λi hi=>Ak _ (Ak _ hi)).trans (Fr.trans (b:={s1 with w:=w2}) (Fr.mono (W:=writes assign) (W':=ps.toList++writes assign++writes body) (b:={s1 with w:=w2}) ⟨k4.len,k4.slot,k4.kn,k4.df⟩ λi hi=>Ak _ (O4 _ hi)) (hh.mono λi hi=>O4 _ hi))
   have jump:∀(j:Option Nat)(s2:St),(ke body).contains j=true->s2.Ok->Fr (writes body) {s1 with w:=w2} s2->
     (∃F',c.enter s0 s2 (iM c.bS (X j F'))/\Step (λi=>(F i\/i ∈ fU s.kn)\/w.heap.size<=i) (λi=>F' i\/i ∈ fU s.kn) w2 s2.w)->
     ∃v w3,(Instr.endRound (B+1) (some (J6 j))).run P s2.w=.ok v w3/\((Ending.returned v=.returned (.bool true)/\∃F',JJ .ready none (I (m+1)) F' w3/\Step FF F' w w3)\/
      (Ending.returned v=.returned (.bool false)/\∃F',(∃j,(ke body).contains j=true/\JJ .done (some (J6 j)) (X j) F' w3)/\Step FF F' w w3)):=by
    rintro j s2 he l1 l4 ⟨F',hen2,gM⟩
    generalize hcd:J6 j=cd
    have hl3:s2.w.heap[B+1]? =some (.loop {rec .ready none with state:=.busy}):=by rw [gM.same _ ab nF];exact L8
    have hd3:s2.w.heap[B]? =some (.deferred (some [])):=by rw [gM.same _ ab nD];exact hd2
    have AH:=run_endRound (P:=P) (some cd) hl3
    have hrc:({({rec .ready none with state:=.busy}:Loop) with state:=if (some cd).isNone then .ready else .done,pending:=some cd}:Loop)=rec .done (some cd):=by rw [gJ];rfl
    rw [hrc] at AH
    have hR3:=Rec.putObj s2.w (B+1) (.loop (rec .done (some cd)))
    refine ⟨_,_,AH,.inr ⟨rfl,_,⟨j,he,?_⟩,aa5 gM hR3⟩⟩
    rw [hcd]
    have hok3:=yk l1 (λc t f e=>by rw [hl3] at e;cases e) hR3
    have YQ:=gM.size
    have hbX':∀i,F' i->i<s2.w.heap.size/\i≠B/\i≠B+1:=by
     obtain ⟨us',g1,_⟩:=GM yQ hok0 l1 (frs l4) hen2
     exact (eN g1 (hbX j F')).1 _ g1
    have hen3:c.enter s0 {s2 with w:=s2.w.putObj (B+1) (.loop (rec .done (some cd)))} (iM c.bS (X j F')):=by
     unfold Carry.enter at hen2 ⊢
     split at hen2
     ·rename_i hbb
      rw [show (c.Ps s0 {s2 with w:=s2.w.putObj (B+1) (.loop (rec .done (some cd)))} && c.okB {s2 with w:=s2.w.putObj (B+1) (.loop (rec .done (some cd)))})=true from hbb]
      rw [bB] at hen2 ⊢
      exact ⟨hen2.1,(eN hen2.2 (hsX j F')).1 _ _ hen2.2 (hR3.below ab) λi hi=>hR3.same i (hbX' i hi).2.2⟩
     ·exact hen2.elim
    refine mkJ (s':={s2 with w:=s2.w.putObj (B+1) (.loop (rec .done (some cd)))}) (W:=ps.toList++writes assign++writes body) hok3 ⟨(frs l4).len,(frs l4).slot,(frs l4).kn,(frs l4).df⟩ hen3 (World.putObj_heap_same ab) ?_
    rw [hR3.same _ ab];exact hd3
   rintro e a3 w3 ⟨s2,l1,rfl,rfl,l4,l5⟩
   cases e with
   |normal=>
    obtain ⟨F',hen2,gM⟩:=l5
    have gM:Step (λi=>(F i\/i ∈ fU s.kn)\/w.heap.size<=i) (λi=>F' i\/i ∈ fU s.kn) w2 s2.w:=gM
    have hl3:s2.w.heap[B+1]? =some (.loop {rec .ready none with state:=.busy}):=by rw [gM.same _ ab nF];exact L8
    have hd3:s2.w.heap[B]? =some (.deferred (some [])):=by rw [gM.same _ ab nD];exact hd2
    have AH:=run_endRound (P:=P) none hl3
    have hrc:({({rec .ready none with state:=.busy}:Loop) with state:=if (none:Option Code).isNone then .ready else .done,pending:=none}:Loop)=rec .ready none:=by rw [gJ];rfl
    rw [hrc] at AH
    have hR3:=Rec.putObj s2.w (B+1) (.loop (rec .ready none))
    refine ⟨_,_,AH,.inl ⟨rfl,_,?_,aa5 gM hR3⟩⟩
    have hok3:=yk l1 (λc t f e=>by rw [hl3] at e;cases e) hR3
    have YQ:=gM.size
    have hbI':∀i,F' i->i<s2.w.heap.size/\i≠B/\i≠B+1:=by
     obtain ⟨us',g1,_⟩:=GM yQ hok0 l1 (frs l4) hen2
     exact (eN g1 (hbI (m+1) F')).1 _ g1
    have hen3:c.enter s0 {s2 with w:=s2.w.putObj (B+1) (.loop (rec .ready none))} (iM c.bS (I (m+1) F')):=by
     unfold Carry.enter at hen2 ⊢
     split at hen2
     ·rename_i hbb
      rw [show (c.Ps s0 {s2 with w:=s2.w.putObj (B+1) (.loop (rec .ready none))} && c.okB {s2 with w:=s2.w.putObj (B+1) (.loop (rec .ready none))})=true from hbb]
      rw [bB] at hen2 ⊢
      exact ⟨hen2.1,(eN hen2.2 (hsI (m+1) F')).1 _ _ hen2.2 (hR3.below ab) λi hi=>hR3.same i (hbI' i hi).2.2⟩
     ·exact hen2.elim
    refine mkJ (s':={s2 with w:=s2.w.putObj (B+1) (.loop (rec .ready none))}) (W:=ps.toList++writes assign++writes body) hok3 ⟨(frs l4).len,(frs l4).slot,(frs l4).kn,(frs l4).df⟩ hen3 (World.putObj_heap_same ab) ?_
    rw [hR3.same _ ab];exact hd3
   |ret=>exact jump none s2 l5.1 l1 l4 l5.2
   |exit id=>exact jump (some id) s2 l5.1 l1 l4 l5.2
   |goto t=>exact l5.elim
   |panic ch=>exact l5.elim
   |outgrown=>exact l5.elim
  |_=>exact k5.elim
def dO(hP:DE P)(hm:P.follows .mixedOrders=true)(an:Ann){F:Fence}{nn:Nat}(hF:Wd F):∀(c:Code)(s:St)(Q:Exit->St->Prop),(F=Fence.wide\/jY c=true)->s.Ok->fD P an c s Q->c.wpIn F nn P (tF (writes c) s Q) s.act s.w
 | .skip,s,Q,_,bn,h=>wpIn_skip ⟨s,bn,rfl,rfl,Fr.refl _ _,h⟩
 | .region id ops draw,s,Q,_,bn,h=>by
   unfold fD at h
   cases draw with
   |false=>
    refine wpIn_region ?_
    have he:List.range ops.size=List.range' 0 ops.toList.length:=by rw [List.range_eq_range'];simp
    rw [he];refine LJ hF ops.toList 0 _ _ (λj hj=>by simp) ?_;exact As hP ops.toList s (tF (writes (.region id ops false)) s Q) bn h λa w hp=>hp
   |true=>
    simp only at h;split at h
    case h_2=>exact h.elim
    rename_i HO;refine wpIn_mono (wpIn_region_any (Q:=Qr (dstsOf ops.toList) s (Q .normal)) hm ?_) λe a w hq=> ?_
    ·refine U5 hF _ [] _ _ _ ?_;have mN:({s with w:=s.w.drew}:St).Ok:=⟨bn.bf,bn.ne,bn.mj⟩;refine oB hP HO (dstsOf ops.toList) s (λj o d h1 h2=> ?_) ops.size [] _ {s with w:=s.w.drew} mN ⟨rfl,λ_ _=>rfl,tR.refl _,aC _,λ_=>rfl⟩ (λq hq=>by cases hq) h;exact List.mem_filterMap.2 ⟨o,by
      have:=Array.mem_of_getElem? h1;simpa using this,h2⟩
    ·cases e with
     |normal=>exact hq
     |_=>exact hq.elim
 | .seq x y,s,Q,AY,bn,h=>by
   unfold fD at h;have hx:F=Fence.wide\/jY x=true:=AY.imp id λh=>by simp [jY] at h;exact h.1
   have hy:F=Fence.wide\/jY y=true:=AY.imp id λh=>by simp [jY] at h;exact h.2
   split at h
   ·refine wpIn_seq (wpIn_mono (dO (nn:=nn) hP hm an hF x s _ hx bn h) λe a w hp=> ?_)
    cases e with
    |normal=>
     obtain ⟨s',h1,rfl,rfl,h4,h5⟩:=hp;exact wpIn_mono (dO (nn:=nn) hP hm an hF y s' Q hy h1 h5) λe a w hp=>hp.of (h4.mono λi hi=>by simp [writes,hi]) λi hi=>by simp [writes,hi]
    |exit id=>exact hp.of (Fr.refl _ _) λi hi=>by simp [writes,hi]
    |goto l=>exact hp.of (Fr.refl _ _) λi hi=>by simp [writes,hi]
    |ret=>exact hp.of (Fr.refl _ _) λi hi=>by simp [writes,hi]
    |panic ch=>exact hp.of (Fr.refl _ _) λi hi=>by simp [writes,hi]
    |outgrown=>exact hp.of (Fr.refl _ _) λi hi=>by simp [writes,hi]
   ·rename_i c hc;obtain ⟨J,h1,h2⟩:=h;obtain ⟨q1,q2,q3,q4,q5⟩:=fq (c.lA.map λk=> .loc k 0) bn;have qa:=mJ (l:=c.lA.map λk=> .loc k 0) bn;have qf:Fr (writes (x.seq y)) s (s.kill (c.lA.map λk=> .loc k 0)):=⟨by rw [q2],λi _=>by
     rw [q2];simp only [dZ]
     cases hg:s.sl[i]? with
     |none=>rfl
     |some u=>exact q4.cg (bn.mj i u hg),q4,by rw [nQ];exact ⟨aC _,λ_=>rfl⟩⟩
    suffices hh:(x.seq y).wpIn F nn P (tF (writes (x.seq y)) (s.kill (c.lA.map λk=> .loc k 0)) Q) s.act s.w from wpIn_mono hh λe a w hp=>hp.of qf λi hi=>hi
    rw [<-qa,<-q3];generalize s.kill (c.lA.map λk=> .loc k 0)=s at*;have bn:=q1;refine wpIn_seq (wpIn_mono (dO (nn:=nn) hP hm an hF x s _ hx bn h1) λe a w hp=> ?_)
    cases e with
    |normal=>
     obtain ⟨s',k1,rfl,rfl,k4,k5⟩:=hp;obtain ⟨us,g1,g2,g3,g4⟩:=LN bn k1 k4 k5;have hv:=(eN g1 (h2 us)).1 s'.w g1;have h6:=dO (nn:=nn) hP hm an hF y _ Q hy g2 hv;rw [g3] at h6;exact wpIn_mono h6 λe a w hp=>hp.of (g4.mono λi hi=>by simp [writes,hi]) λi hi=>by simp [writes,hi]
    |exit id=>exact hp.of (Fr.refl _ _) λi hi=>by simp [writes,hi]
    |goto l=>exact hp.of (Fr.refl _ _) λi hi=>by simp [writes,hi]
    |ret=>exact hp.of (Fr.refl _ _) λi hi=>by simp [writes,hi]
    |panic ch=>exact hp.of (Fr.refl _ _) λi hi=>by simp [writes,hi]
    |outgrown=>exact hp.of (Fr.refl _ _) λi hi=>by simp [writes,hi]
 | .cond c x y,s,Q,AY,bn,h=>by
   unfold fD at h;have hx:F=Fence.wide\/jY x=true:=AY.imp id λh=>by simp [jY] at h;exact h.1
   have hy:F=Fence.wide\/jY y=true:=AY.imp id λh=>by simp [jY] at h;exact h.2
   split at h
   ·rename_i b hb;have hc:s.act.eval c=.bool b:=by rw [St.ui,Jf hb];rfl
    refine wpIn_cond_split hc (λhb'=> ?_) (λhb'=> ?_)
    ·exact wpIn_mono (dO (nn:=nn) hP hm an hF x s Q hx bn (Br.tt h hb')) λe a w hp=>hp.of (Fr.refl _ _) λi hi=>by simp [writes,hi]
    ·exact wpIn_mono (dO (nn:=nn) hP hm an hF y s Q hy bn (Br.ff h hb')) λe a w hp=>hp.of (Fr.refl _ _) λi hi=>by simp [writes,hi]
   ·exact h.elim
 | .block id x,s,Q,hx,bn,h=>by
   unfold fD at h;refine wpIn_block (wpIn_mono (dO (nn:=nn) hP hm an hF x s _ hx bn h) λe a w hp=> ?_)
   cases e with
   |exit id'=>
    show if id'=id then _ else _;obtain ⟨s',k1,k2,k3,k4,k5⟩:=hp;simp only at k5;split
    ·rename_i e;rw [if_pos e] at k5;exact ⟨s',k1,k2,k3,k4,k5⟩
    ·rename_i e;rw [if_neg e] at k5;exact ⟨s',k1,k2,k3,k4,k5⟩
   |_=>exact hp
 | .loop x,s,Q,hx,bn,h=>by
   unfold fD at h;split at h
   ·exact h.elim
   rename_i c hc;obtain ⟨I,⟨n0,h0⟩,hround⟩:=h;obtain ⟨q1,q2,q3,q4,q5⟩:=fq (c.lA.map λk=> .loc k 0) bn;have qa:=mJ (l:=c.lA.map λk=> .loc k 0) bn;have qf:Fr (writes (.loop x)) s (s.kill (c.lA.map λk=> .loc k 0)):=⟨by rw [q2],λi _=>by
    rw [q2];simp only [dZ]
    cases hg:s.sl[i]? with
    |none=>rfl
    |some u=>exact q4.cg (bn.mj i u hg),q4,by rw [nQ];exact ⟨aC _,λ_=>rfl⟩⟩
   suffices hh:(Code.loop x).wpIn F nn P (tF (writes (.loop x)) (s.kill (c.lA.map λk=> .loc k 0)) Q) s.act s.w from wpIn_mono hh λe a w hp=>hp.of qf λi hi=>hi
   rw [<-qa,<-q3];generalize s.kill (c.lA.map λk=> .loc k 0)=s at*;have bn:=q1;refine DU (λn a w=>∃s',s'.Ok/\s'.act=a/\s'.w=w/\Fr (writes x) s s'/\c.enter s s' (iM c.bS (I n))) n0 ⟨s,bn,rfl,rfl,Fr.refl _ _,h0⟩ ?_;rintro n a w ⟨s',k1,rfl,rfl,k4,k5⟩;obtain ⟨us,g1,g2,g3,g4⟩:=LN bn k1 k4 k5;have hv:=(eN g1 (hround n us)).1 s'.w g1;have h6:=dO (nn:=nn) hP hm an hF x _ _ hx g2 hv;rw [g3] at h6;refine wpIn_mono h6 λe a w hp=> ?_
   cases e with
   |normal=>
    obtain ⟨s'',l1,l2,l3,l4,m,iC,l5⟩:=hp;refine ⟨m,iC,s'',l1,l2,l3,g4.trans l4,?_⟩;exact l5
   |exit id=>exact hp.of g4 λi hi=>hi
   |goto l=>exact hp.of g4 λi hi=>hi
   |ret=>exact hp.of g4 λi hi=>hi
   |panic ch=>exact hp.of g4 λi hi=>hi
   |outgrown=>exact hp.of g4 λi hi=>hi
 | .exit id,s,Q,_,bn,h=>wpIn_exit ⟨s,bn,rfl,rfl,Fr.refl _ _,h⟩
 | .ret,s,Q,_,bn,h=>wpIn_ret ⟨s,bn,rfl,rfl,Fr.refl _ _,h⟩
 | .rangeFunc g ps assign body,s,Q,AY,bn,h=>by
   have hw:F=Fence.wide:=AY.resolve_right (by simp [jY]);subst hw;exact abF hP bn (λl s Q h1 h2 h3=>dO hP hm an (Wd.round l) assign s Q (.inr h1) h2 h3) (λl s Q h1 h2 h3=>dO hP hm an (Wd.round l) body s Q (.inr h1) h2 h3) h
 | .scope x,s,Q,AY,bn,h=>by
   have hw:F=Fence.wide:=AY.resolve_right (by simp [jY]);subst hw;unfold fD at h;refine wpIn_wide.2 (wp_scope_straight (wp_mono (wpIn_wide.1 (dO (nn:=0) hP hm an hF x s _ (.inl rfl) bn h)) λe a w hp=> ?_))
   cases e with
   |goto l=>obtain ⟨s',_,_,_,_,k5⟩:=hp;exact k5.elim
   |_=>exact hp
 | .label l,s,Q,_,bn,h=>wpIn_label ⟨s,bn,rfl,rfl,Fr.refl _ _,h⟩
 | .goto _,_,_,_,_,h=>h.elim
 | .refuse _,_,_,_,_,h=>h.elim
end
def LO(P:Program)(s:St)(t:TypeId)(x:SV)(K:Value->Prop):Prop:=
 match x with
 | .loc k off=>match s.known k with
   |some kb=>match tQ P t with
    | .sc _=>match kb.cells[off]? with|some v=>K v|none=>False
    | .agg l=>if l.length=fQ P t/\off+l.length<=kb.cells.length then K (.agg ((kb.cells.drop off).take l.length).toArray) else False
   |none=>Jg P s.w (some ⟨(s.kn.getD k default).idx,off,none⟩) t K
 | .val (.pointer p)=>Jg P s.w p t K
 |_=>False
def sT(P:Program)(s:St):List ResultVar->(List Value->Prop)->Prop
 | [],F=>F []
 | .tmp t::r,F=>sT P s r λvs=>F ((s.sl.getD t (.val undef)).cg s.kn::vs)
 | .cell a t::r,F=>match okT P t with
   |true=>LO P s t (s.sl.getD a (.val undef)) λv=>sT P s r λvs=>F (v::vs)
   |false=>False
def Va:List Value->Value
 | [v]=>v
 |vs=> .tuple vs.toArray
def B2:List Nat->World->(World->Prop)->Prop
 | [],w,K=>K w
 |D::r,w,K=>w.heap[D]? =some (.deferred (some []))/\∀w',Rec D w w'->B2 r w' K
def ar7(P:Program)(fn:Func)(R:Ending->World->Prop):Exit->St->Prop
 | .normal,s| .ret,s=>B2 s.df s.w λw'=>sT P {s with w:=w'} fn.results.toList λvs=>R (.returned (Va vs)) w'
 |_,_=>False
def yl(fn:Func)(args:List Value)(w:World):St:=
 {sl:=args.map .val++List.replicate (fn.ntmps-args.length) (.val undef),w:=w,kn:=[]}
def afd(P:Program)(an:Ann)(fn:Func)(args:List Value)(w:World)(R:Ending->World->Prop):Prop:=
 match fn.body with
 |some c=>fD P an c (yl fn args w) (ar7 P fn R)
 |none=>False
section
variable {P:Program} {s:St}
def Py{t:TypeId}{x:SV}{K:Value->Prop}(bn:s.Ok)(hu:(P.underlying t).isSome=true)(h:LO P s t x K):
  ∃a v,x.cg s.kn=.pointer (some a)/\K v/\(loadVar t a).run P s.w=.ok v s.w:=by
 have h':E0 P {s with sl:=[.val undef]} (some 0) t x (λs'=>K ((s'.sl.getD 0 (.val undef)).cg s'.kn)):=by unfold LO at h;unfold E0;exact h
 have mN:({s with sl:=[.val undef]}:St).Ok:=⟨bn.bf,bn.ne,λi v hv=>by
  cases i with
  |zero=>simp at hv;subst hv;trivial
  |succ i=>simp at hv⟩
 obtain ⟨a,v,h1,h2,h3⟩:=E3 mN hu h';refine ⟨a,v,h1,h2,?_⟩;simpa [Instr.loadAt,Instr.sureAddr] using h3
def LP(tmps:Array Value):ResultVar->Sem Value
 | .tmp t=>pure (tmps.getD t undef)
 | .cell a t=>do loadVar t (<-asAddr (tmps.getD a undef))
def uR(bn:s.Ok):∀(l:List ResultVar)(F:List Value->Prop),sT P s l F->
  ∃vs,F vs/\(l.mapM (LP s.act.tmps)).run P s.w=.ok vs s.w
 | [],F,h=>⟨[],h,rfl⟩
 | .tmp t::r,F,h=>by
   obtain ⟨vs,h1,h2⟩:=uR bn r _ h
   refine ⟨_,h1,?_⟩
   have:s.act.tmps.getD t undef=(s.sl.getD t (.val undef)).cg s.kn:=s.ui (.tmp t)
   simp only [List.mapM_cons,Sem.run_bind,LP,Sem.run_pure,Result.andThen_ok,h2,this]
 | .cell a t::r,F,h=>by
   unfold sT at h
   split at h
   ·rename_i hu
    obtain ⟨ad,v,e1,e2,e3⟩:=Py bn (uP hu) h
    obtain ⟨vs,h1,h2⟩:=uR bn r _ e2
    refine ⟨_,h1,?_⟩
    have:s.act.tmps.getD a undef=.pointer (some ad):=(s.ui (.tmp a)).trans e1
    simp only [List.mapM_cons,Sem.run_bind,LP,this,asAddr,Sem.run_pure,Result.andThen_ok,e3,h2]
   ·exact h.elim
def Pz(bn:s.Ok){fn:Func}{F:List Value->Prop}(h:sT P s fn.results.toList F):
  ∃vs,F vs/\(results fn s.act.tmps).run P s.w=.ok (Va vs) s.w:=by
 obtain ⟨vs,h1,h2⟩:=uR bn _ _ h;refine ⟨vs,h1,?_⟩;have:results fn s.act.tmps=(do let vs <-fn.results.mapM (LP s.act.tmps);pure (if h:vs.size=1 then vs[0] else .tuple vs)):=by unfold results;congr 1
 rw [this,Array.mapM_eq_mapM_toList];simp only [Sem.run_bind,Sem.run_map,h2,Result.andThen_ok,Sem.run_pure];congr 1
 cases vs with
 |nil=>rfl
 |cons v r=>cases r<;>simp [Va]
end
section
variable {P:Program}
def XL(fn:Func)(args:List Value)(w:World):(yl fn args w).Ok:=
 ⟨λk kb h=>by simp [yl] at h,λi j x y h=>by simp [yl] at h,λi v h=>by
  simp only [yl,List.getElem?_append,aR,abh] at h;split at h
  ·cases ha:args[i]? with
   |none=>simp [ha] at h
   |some x=>simp [ha] at h;subst h;trivial
  ·split at h
   ·simp at h;subst h;trivial
   ·cases h⟩
def sU{fn:Func}{R:Ending->World->Prop}:∀(l:List Nat)(s:St),s.Ok->B2 l s.w (λw'=>sT P {s with w:=w'} fn.results.toList λvs=>R (.returned (Va vs)) w')->
  LeavesInM Fence.wide 0 P fn s.act.tmps R (marks l) .returning s.w
 | [],s,bn,h=>by
   obtain ⟨vs,h1,h2⟩:=Pz bn h
   exact ⟨_,h2,h1⟩
 |D::r,s,bn,h=>by
  obtain ⟨hD,h⟩:=h
  refine ⟨by simp,.inl ⟨D,s.w.putObj D (.deferred none),rfl,run_takeDeferred hD,?_⟩⟩
  have hr:=Rec.putObj s.w D (.deferred none)
  have mN:=yk bn (λc t f e=>by rw [hD] at e;cases e) hr
  exact sU r {s with w:=s.w.putObj D (.deferred none)} mN (h _ hr)
def Pg(hP:DE P)(hm:P.follows .mixedOrders=true){f:FuncId}{fn:Func}{an:Ann}{args:List Value}{w:World}{R:Ending->World->Prop}(hf:P.funcs[f]? =some fn)
  (h:afd P an fn args w R):Calls P f args.toArray w R:=by
 unfold afd at h;split at h
 case h_2=>exact h.elim
 rename_i c hc;have h1:=dO (nn:=0) hP hm an Wd.out c _ _ (.inl rfl) (XL fn args w) h;refine callsIn_wide.1 (callsIn_of_wp_marks (n:=0) hf hc trivial ?_);have avh:(yl fn args w).act={tmps:=args.toArray++Array.replicate (fn.ntmps-args.toArray.size) undef,defers:=[]}:=by simp only [St.act,yl];congr 1;apply Array.ext';simp [SV.cg];rw [show (SV.cg [] ∘ SV.val)=id from rfl];simp
 rw [avh] at h1;refine wpIn_mono h1 λe a w' hp=> ?_
 obtain ⟨s',k1,rfl,rfl,k4,k5⟩:=hp
 cases e with
 |normal=>exact sU s'.df s' k1 k5
 |ret=>exact sU s'.df s' k1 k5
 |_=>exact k5.elim
end
end Go.Vc
namespace Go.Vc
open Go Go.RowKit
abbrev Ext(w w':World):Prop:=Below w w w'
def Ext.cM(w:World):Ext w w:=Below.refl _ _
def Ext.tr{a b c:World}(h:Ext a b)(k:Ext b c):Ext a c:=Below.trans h (Below.mono k h.size)
def Ext.al(w:World)(o:Obj):Ext w (w.alloc o):=(Below.refl _ w).alloc (aC _) o
def Ext.dr(w:World):Ext w w.drew:=(Below.refl _ w).drew
def Ext.bF{a b c:World}{o:Obj}(h:Ext a b)(e:c=b.alloc o):Ext a c:=by subst e;exact h.tr (Ext.al _ _)
def aQ{b c:World}{o:Obj}(e:c=b.alloc o):Ext b c:=(Ext.cM _).bF e
def Ext.drew{a b:World}(h:Ext a b):Ext a b.drew:=h.tr (Ext.dr _)
def setRow_other(w:World)(g j:Nat)(cs:Array Value)(h:j≠g):(w.setRow g cs).heap[j]? =w.heap[j]? :=by simp only [World.setRow,Array.getElem?_modify,if_neg (Ne.symm h)]
def setRow_size(w:World)(g:Nat)(cs:Array Value):(w.setRow g cs).heap.size=w.heap.size:=by simp [World.setRow]
def Ext.setRow{a b:World}(h:Ext a b){g:Nat}(hg:a.heap.size<=g)(cs:Array Value):Ext a (b.setRow g cs):=
 ⟨h.os,h.tape,h.output,by rw [setRow_size];exact h.size,λk hk=>by rw [setRow_other _ _ _ _ ab];exact h.block k hk⟩
def Ext.ag{a b c:World}{g:Nat}{cs:Array Value}(h:Ext a b)(e:c=b.setRow g cs)(hg:a.heap.size<=g):Ext a c:=by subst e;exact h.setRow hg cs
def U1{w:World}{a:Addr}{v:Value}(h:w.cell? a=some v):a.block<w:=by
 unfold World.cell? at h;split at h
 ·rename_i hb;exact (tg.1 hb).1
 ·cases h
def Ext.ld{w w':World}(h:Ext w w'){p:Option Addr}{v:Value}(hl:ld w p=some v):ld w' p=some v:=by
 cases p with
 |none=>simp [Vc.ld] at hl
 |some a=>
  have hl':w.cell? a=some v:=hl;show w'.cell? a=some v;rw [Below.cell h (U1 hl')];exact hl'
def Ext.heap{w w':World}(h:Ext w w'){i:Nat}(hi:i<w):w'.heap[i]? =w.heap[i]? :=h.block i hi
def Ext.k{w w':World}(h:Ext w w'){i:Nat}(hi:i<w.heap.size:=by omega):w'.heap[i]? =w.heap[i]? :=h.block i hi
def dn(p:Option Addr)(m n:Nat):ae (ae p m) n=ae p (m+n):=by
 cases p with
 |none=>rfl
 |some a=>
  simp only [ae,nB,Option.some.injEq,Addr.add];by_cases hm:m=0
  ·subst hm;simp
  ·by_cases hn:n=0
   ·subst hn;simp [hm]
   ·simp [hm,hn,Nat.add_assoc]
@[simp] def gL(p:Option Addr)(n:Nat):(ae p n).isSome=p.isSome:=by cases p<;>rfl
def c5(p:Option Addr)(n:Nat):bz (ae p n)=bz p:=by
 cases p with
 |none=>rfl
 |some a=>simp only [ae,bz,nB,Addr.add];split<;>rfl
def Row(w:World)(g:Nat)(cs:LV)(t:TypeId):Prop:=w.heap[g]? =some (.cells cs.toArray t (0,0))
def Row.new(w:World)(cs:LV)(t:TypeId):Row (w.alloc (.cells cs.toArray t)) w.heap.size cs t:=by show (w.heap.push _)[w.heap.size]? =_;simp
def Row.lt{w:World}{g:Nat}{cs:LV}{t:TypeId}(h:Row w g cs t):g<w:=(tg.1 h).1
def Row.ext{w w':World}{g:Nat}{cs:LV}{t:TypeId}(h:Row w g cs t)(he:Ext w w'):Row w' g cs t:=(he.heap h.lt).trans h
def Row.same{w w':World}{g:Nat}{cs:LV}{t:TypeId}(h:Row w g cs t)(he:w'.heap[g]? =w.heap[g]?):Row w' g cs t:=he.trans h
def Row.set{w:World}{g:Nat}{cs:LV}{t:TypeId}(h:Row w g cs t)(cs':LV):Row (w.setRow g cs'.toArray) g cs' t:=setRow_heap _ _ _ _ _ _ h
def Row.so{w w':World}{g j:Nat}{cs:List Value}{t:TypeId}{c:Array Value}(h:Row w g cs t)(e:w'=w.setRow j c)(hn:g≠j:=by omega):Row w' g cs t:=h.same (by rw [e];exact setRow_other _ _ _ _ hn)
def Row.nw{w w':World}{l:List Value}{t:TypeId}(e:w'=w.alloc (.cells l.toArray t)):Row w' w.heap.size l t:=by rw [e];exact Row.new _ _ _
def Row.st{w w':World}{g:Nat}{l cs:List Value}{t:TypeId}(h:Row w g cs t)(e:w'=w.setRow g l.toArray):Row w' g l t:=by rw [e];exact h.set _
def Row.ld{w:World}{g:Nat}{cs:LV}{t:TypeId}(h:Row w g cs t)(j:Nat):ld w (some ⟨g,j,none⟩)=cs[j]? :=by simp [Vc.ld,World.cell?,show w.heap[g]? =_ from h]
def bh(g o j:Nat):ae (some ⟨g,o,none⟩) j=some ⟨g,o+j,none⟩:=by simp [ae,nO]
def Row.wr{w:World}{g:Nat}{cs:LV}{t:TypeId}(h:Row w g cs t){o n:Nat}(hn:o+n<=cs.length):Wr w (some ⟨g,o,none⟩) n:=by
 intro i hi;refine ⟨_,rfl,?_,?_⟩
 ·rw [nO];simp [World.cell?,show w.heap[g]? =_ from h];omega
 ·rw [nO];exact VT h _
def Row.bY{w:World}{g:Nat}{cs:LV}{t:TypeId}(h:Row w g cs t){o:Nat}{vs:LV}(hv:∀j,j<vs.length->cs[o+j]? =vs[j]?):af w (some ⟨g,o,none⟩) 0 vs:=
 mI λj hj=>by rw [bh,h.ld];simpa using hv j hj
def Row.aL{w:World}{g:Nat}{cs:LV}{t:TypeId}(h:Row w g cs t){o:Nat}{vs:LV}(hl:o+vs.length<=cs.length)(h1:One vs):
  aL w (some ⟨g,o,none⟩) vs=w.setRow g (aS cs o vs).toArray:=by
 have e1:=gy (P:=default) ⟨g,o,none⟩ vs 0 w h1 (λj hj=>by
  obtain ⟨a,e,q⟩:=h.wr hl j hj
  cases e;simpa using q)
 have e2:=run_storeCells_at default g o t vs 0 cs.toArray w h (by simpa using hl) h1;rw [e1] at e2;injection e2 with _ e3;show qT w _ 0 vs=_;rw [e3,dt _ _ _ hl];simp
inductive Own(B E size:Nat)(w:World):Sl->LV->Prop
 |nil:Own B E size w ⟨none,0,0⟩ []
 |row (g n c:Nat) (cs:LV) (hg:B<=g) (hr:Row w g cs E) (hc:c*size<=cs.length) (hn:n<=c):Own B E size w ⟨some ⟨g,0,none⟩,n,c⟩ (cs.take (n*size))
def Sl.bf(s:Sl):Option Nat:=s.a.map (·.block)
def Own.len{B E size:Nat}{w:World}{s:Sl}{xs:LV}(h:Own B E size w s xs):xs.length=s.n*size:=by
 cases h with
 |nil=>simp
 |row g n c cs hg hr hc hn=>
  have:n*size<=c*size:=wJ _ hn;rw [dK];show min (n*size) _=n*size;omega
def Own.rd{B E size:Nat}{w:World}{s:Sl}{xs:LV}(h:Own B E size w s xs):Rd w s.a xs:=by
 cases h with
 |nil=>intro i v hi;simp at hi
 |row g n c cs hg hr hc hn=>
  intro i v hi;rw [bh,hr.ld];rw [qX] at hi;split at hi
  ·simpa using hi
  ·cases hi
def Own.de{B E size:Nat}{w w':World}{s:Sl}{xs:LV}(h:Own B E size w s xs)(hk:∀g,s.bf=some g->w'.heap[g]? =w.heap[g]?):Own B E size w' s xs:=by
 cases h with
 |nil=>exact .nil
 |row g n c cs hg hr hc hn=>exact .row g n c cs hg (hr.same (hk g rfl)) hc hn
def Own.ext{B E size:Nat}{w w':World}{s:Sl}{xs:LV}(h:Own B E size w s xs)(he:Ext w w'):Own B E size w' s xs:=by
 cases h with
 |nil=>exact .nil
 |row g n c cs hg hr hc hn=>exact .row g n c cs hg (hr.ext he) hc hn
def Own.lt{B E size:Nat}{w:World}{s:Sl}{xs:LV}(h:Own B E size w s xs){g:Nat}(hg:s.bf=some g):B<=g/\g<w:=by
 cases h with
 |nil=>cases hg
 |row g' n c cs hg' hr hc hn=>cases hg;exact ⟨hg',hr.lt⟩
def Own.append{B E size bytes:Nat}{w:World}{s:Sl}{xs:LV}(h:Own B E size w s xs){m:Nat}{news:LV}(hB:B<=w)(hl:news.length=m*size)(h1:One news)
  (hb:(s.n+m)*bytes<=140737488355328)(hb':s.n+m<=9223372036854775807):
  ba bytes size w s m news/\∀(s':Sl)(w':World),aY E size w s m news s' w'->
   Own B E size w' s' (xs++news)/\s'.n=s.n+m/\Below B w w'/\(∀j,s.bf≠some j->j<w.heap.size->w'.heap[j]? =w.heap[j]?)/\(s'.bf=s.bf\/s'.bf=some w.heap.size):=by
 refine ⟨⟨λhf=> ?_,λhg=>⟨xs,h.len,h.rd⟩,λhg=>⟨growslice_fits hg hb,by omega⟩,hl,h1⟩,?_⟩
 ·cases h with
  |nil=>
   have:m=0:=by simp at hf;omega
   subst this;intro i hi;omega
  |row g n c cs hg hr hc hn=>
   rw [bh];refine hr.wr ?_;have:(n+m)*size<=c*size:=wJ _ hf;rw [oK] at this;simp;omega
 ·intro s' w' bk
  cases bk with
  |fits hf=>
   cases h with
   |nil=>
    have:m=0:=by simp at hf;omega
    subst this;have:news=[]:=E2.1 ab;subst this;exact ⟨.nil,rfl,Below.refl _ _,λ_ _ _=>rfl,.inl rfl⟩
   |row g n c cs hg hr hc hn=>
    have hle:n*size+news.length<=cs.length:=by have:(n+m)*size<=c*size:=wJ _ hf;rw [oK] at this;omega
    rw [bh,eK,hr.aL hle h1];have hr':=hr.set (aS cs (n*size) news);have e:cs.take (n*size)++news=(aS cs (n*size) news).take ((n+m)*size):=by
     have e0:(n+m)*size=n*size+news.length:=by rw [oK,hl]
     rw [dt _ _ _ hle,e0];exact ((J0 (by simp;omega)).trans (fN (by simp;omega))).symm
    refine ⟨?_,rfl,⟨rfl,rfl,rfl,by rw [setRow_size];exact aC _,λk hk=>setRow_other _ _ _ _ ab⟩,λj hj _=>setRow_other _ _ _ _ (λe=>hj (by rw [e];rfl)),.inl rfl⟩;rw [e];exact .row g (n+m) c _ hg hr' (by rw [dz];exact hc) hf
  |CE hg fI rest cap e1 e2 e3 e4=>
   have ho:fI=xs:=by
    have kF:=h.rd;have dN:=h.len;apply iP;intro i;rcases jD i xs.length with hi|hi
    ·have h1:=kF i xs[i] (dm hi);have hi':i<fI.length:=by omega
     have h2:=e2 i fI[i] (dm hi');rw [h1] at h2;rw [dm hi,dm hi'];exact h2.symm
    ·rw [jS hi,jS ab]
   subst ho;have L9:=Row.new w.drew (fI++news++rest) E;have dN:=h.len;refine ⟨?_,rfl,?_,λj _ hj=>Below.heap_alloc _ _ _ hj,.inr rfl⟩
   ·have e:fI++news=(fI++news++rest).take ((s.n+m)*size):=by
     have e0:(s.n+m)*size=fI.length+news.length:=by rw [oK,hl,e1]
     rw [e0];exact ((J0 cp).trans (fN cp)).symm
    conv=>rhs;rw [e]
    exact .row w.heap.size (s.n+m) cap _ hB L9 (Nat.le_of_eq e4.symm) e3
   ·exact (Below.refl B w).drew.alloc hB _
def N3{P:Program}{pre:Prop}(hP:DE P)(hm:P.follows .mixedOrders=true){f:FuncId}{fn:Func}{an:Ann}{args:LV}{w:World}{R:Ending->World->Prop}(hf:P.funcs[f]? =some fn)
  (h:pre)(e:pre=afd P an fn args w R):Calls P f args.toArray w R:=Pg hP hm hf (e▸h)
def ngB(P:Program):Bool:=P.funcs.toList.all λfn=>fn.name != "runtime.NumGoroutine"
def ai2{P:Program}(h:ngB P=true):DE P:=λf fn hf he=>by
 have:=CG.1 h fn (by have:=Array.mem_of_getElem? hf;simpa using this)
 simp [he] at this
def bN(n:Int):Prop:= -9223372036854775808<=n/\n<=9223372036854775807
def aK{n:Int}(h:bN n):ao n=n:=by unfold bN at h;unfold IntKind.wrap;simp only [IntKind.bits,IntKind.signed];simp only [pU];split<;>simp_all<;>omega
def wI{n:Int}(h:bN n:=by unfold bN;omega):IntKind.wrap .i64 n=n:=aK h
def nS{j:Nat}(h:bN ((j:Int)+1):=by unfold bN;omega):IntKind.wrap .i64 ((j:Int)+1)=((j+1:Nat):Int):=by rw [aK h];omega
def abn(n:Int):bN (ao n):=by unfold bN IntKind.wrap;simp only [IntKind.bits,IntKind.signed];simp only [pU];split<;>simp_all<;>omega
def S0{H:Type}:DataW H->Value
 | .lit (.int k n)=> .int k n
 | .lit (.bool b)=> .bool b
 | .lit (.string bs)=> .string ⟨bs.toArray⟩
 |_=> .bool false
def abo{H:Type}:DataW H->LV
 | .agg l=>l.flatMap fun
   | .agg m=>m.map S0
   |d=> [S0 d]
 |d=> [S0 d]
def layAll(P:Program)(l:List (String × DataW Unit))(w:World):World:=
 {w with heap:=l.foldl (λh x=>match P.globalNamed x.1 with
   |some g=>h.modify g fun
    | .cells _ t frozen=> .cells (abo x.2).toArray t frozen
    |o=>o
   |none=>h) w.heap}
end Go.Vc
namespace Go.Vc
open Go Go.RowKit
structure RdK(w:World)(s:Sl)(k:Nat)(rows:List (LV)):Prop where
 n:s.n=rows.length
 wd:∀r ∈ rows,r.length=k
 rd:∀i r,rows[i]? =some r->∀j v,r[j]? =some v->ld w (ae s.a (i*k+j))=some v
def RdK.ext{w w':World}{s:Sl}{k:Nat}{rows:List (LV)}(h:RdK w s k rows)(he:Ext w w'):RdK w' s k rows:=
 ⟨h.n,h.wd,λi r hi j v hj=>he.ld (h.rd i r hi j v hj)⟩
def RdK.isSome{w:World}{s:Sl}{k:Nat}{rows:List (LV)}(h:RdK w s k rows)(hk:0<k){i:Nat}(hi:i<rows.length):s.a.isSome=true:=by
 have hr:rows[i]? =some rows[i]:=dm hi;have hl:=h.wd _ (List.getElem_mem hi);have h0:rows[i][0]? =some (rows[i][0]'ab):=dm ab;have:=h.rd i _ hr 0 _ h0
 cases hs:s.a with
 |none=>rw [hs] at this;simp [ld,ae] at this
 |some a=>rfl
def RdK.im{w:World}{s:Sl}{k:Nat}{rows:List (LV)}(h:RdK w s k rows)(hk:0<k){i:Int}(h0:0<=i)(h1:i<(s.n:Int)):eA s.a i s.n:=
 ⟨h.isSome hk (i:=i.toNat) (by have:=h.n;omega),h0,h1⟩
def RdK.at{w:World}{s:Sl}{k:Nat}{rows:List (LV)}(h:RdK w s k rows){i:Nat}{r:LV}(hi:rows[i]? =some r){j:Nat}{v:Value}(hj:r[j]? =some v):ld w (ae (ae s.a (i*k)) j)=some v:=by rw [dn];exact h.rd i r hi j v hj
def Fh{w:World}{p:Option Addr}:∀{vs:LV} {i:Nat},(∀j v,vs[j]? =some v->ld w (ae p (i+j))=some v)->af w p i vs
 | [],_,_=>trivial
 | [v],i,h=>by have:=h 0 v rfl;simpa [af] using this
 |v::u::r,i,h=>⟨by have:=h 0 v rfl;simpa using this,Fh (i:=i+1) λj x hj=>by
  have:=h (j+1) x (by simpa using hj)
  rwa [show i+(j+1)=i+1+j from by omega] at this⟩
def RdK.bY{w:World}{s:Sl}{k:Nat}{rows:List (LV)}(h:RdK w s k rows){i:Nat}{r:LV}(hi:rows[i]? =some r):af w (ae s.a (i*k)) 0 r:=
 Fh λj v hj=>by rw [eK];exact h.at hi hj
def uw{k:Nat}:∀{rows:List (LV)},(∀r ∈ rows,r.length=k)->∀{i:Nat} {r:LV},rows[i]? =some r->∀{j:Nat},j<k->rows.flatten[i*k+j]? =r[j]?
 | [],_,i,r,hi,j,_=>by simp at hi
 |a::rows,h,0,r,hi,j,hj=>by
  simp at hi;subst hi
  have:=h a (.head _)
  rw [kV,oI ab]
  simp
 |a::rows,h,i+1,r,hi,j,hj=>by
  have ha:=h a (.head _)
  rw [kV,qW (by rw [ha,MR];omega)]
  rw [show (i+1)*k+j-a.length=i*k+j from by rw [ha,MR];omega]
  exact uw (λr hr=>h r (.tail _ hr)) (by simpa using hi) hj
def bJ{k:Nat}:∀{rows:List (LV)},(∀r ∈ rows,r.length=k)->rows.flatten.length=rows.length*k
 | [],_=>by simp
 |a::rows,h=>by rw [kV,dv,bJ (λr hr=>h r (.tail _ hr)),h a (.head _),du,MR,um]
structure aE(B E k:Nat)(w:World)(s:Sl)(rows:List (LV)):Prop where
 own:Own B E k w s rows.flatten
 wd:∀r ∈ rows,r.length=k
def aE.rd{B E k:Nat}{w:World}{s:Sl}{rows:List (LV)}(h:aE B E k w s rows)(hk:0<k):RdK w s k rows:=by
 refine ⟨?_,h.wd,λi r hi j v hj=> ?_⟩
 ·have h1:=h.own.len;rw [bJ h.wd] at h1;exact (Nat.eq_of_mul_eq_mul_right hk h1).symm
 ·have hl:=h.wd r (aX hi);have hjk:j<k:=by rw [<-hl];exact (cG.1 hj).1
  exact h.own.rd _ _ ((uw h.wd hi hjk).trans hj)
def aE.nil{B E k:Nat}{w:World}:aE B E k w ⟨none,0,0⟩ []:=⟨.nil,λ_ h=>by cases h⟩
def aE.ext{B E k:Nat}{w w':World}{s:Sl}{rows:List (LV)}(h:aE B E k w s rows)(he:Ext w w'):aE B E k w' s rows:=⟨h.own.ext he,h.wd⟩
def aE.de{B E k:Nat}{w w':World}{s:Sl}{rows:List (LV)}(h:aE B E k w s rows)(hk:∀g,s.bf=some g->w'.heap[g]? =w.heap[g]?):aE B E k w' s rows:=⟨h.own.de hk,h.wd⟩
def aE.low{B B' E k:Nat}{w:World}{s:Sl}{rows:List (LV)}(h:aE B E k w s rows)(hb:B'<=B):aE B' E k w s rows:=by
 refine ⟨?_,h.wd⟩;have ho:=h.own;generalize rows.flatten=xs at ho
 cases ho with
 |nil=>exact .nil
 |row g n c cs hg hr hc hn=>exact .row g n c cs ab hr hc hn
def aE.append{B E k bytes:Nat}{w:World}{s:Sl}{rows:List (LV)}(h:aE B E k w s rows){news:LV}(hB:B<=w)(hl:news.length=k)(h1:One news)
  (hb:(s.n+1)*bytes<=140737488355328)(hb':s.n+1<=9223372036854775807):
  ba bytes k w s 1 news/\∀(s':Sl)(w':World),aY E k w s 1 news s' w'->
   aE B E k w' s' (rows++ [news])/\s'.n=s.n+1/\Below B w w'/\(∀j,s.bf≠some j->j<w.heap.size->w'.heap[j]? =w.heap[j]?)/\(s'.bf=s.bf\/s'.bf=some w.heap.size):=by
 obtain ⟨hp,hr⟩:=h.own.append (bytes:=bytes) (m:=1) (news:=news) hB (by rw [hl,Nat.one_mul]) h1 hb hb';refine ⟨hp,λs' w' bk=> ?_⟩;obtain ⟨ho,hn,hx,hk,Ma⟩:=hr s' w' bk;refine ⟨⟨by rw [CN];simpa using ho,λr hr=> ?_⟩,hn,hx,hk,Ma⟩;rcases cV.1 hr with hr|hr
 ·exact h.wd r hr
 ·simp at hr;rw [hr];exact hl
def Own.set{B E size:Nat}{w:World}{s:Sl}{xs:LV}(h:Own B E size w s xs){m:Nat}{v:Value}(hm:m<xs.length)(hv:v.oneCell'=true):
  (ae s.a m).isSome=true/\Wr w (ae s.a m) 1/\Own B E size (aL w (ae s.a m) [v]) s (xs.set m v)/\(∀j,s.bf≠some j->(aL w (ae s.a m) [v]).heap[j]? =w.heap[j]?):=by
 cases h with
 |nil=>simp at hm
 |row g n c cs hg hr hc hn=>
  rw [dK] at hm;rw [bh];have h1:One [v]:=by intro u hu;simp at hu;subst hu;exact hv
  have hs:=hr.aL (o:=0+m) (vs:=[v]) (by simp;omega) h1;refine ⟨rfl,hr.wr ab,?_,λj hj=> ?_⟩
  ·rw [<-List.take_set];rw [hs];refine .row g n c _ hg ?_ (by simpa using hc) hn;have e:aS cs (0+m) [v]=cs.set m v:=by simp [aS]
   rw [e];exact hr.set (cs.set m v)
  ·rw [hs];exact setRow_other _ _ _ _ (λe=>hj (by rw [e];rfl))
end Go.Vc
namespace Go.Vc
open Go Go.RowKit
def Below.aL{B:Nat}{a b:World}(h:Below B a b){p:Option Addr}{vs:LV}(hp:∀x,p=some x->B<=x.block):Below B a (aL b p vs):=by
 cases p with
 |none=>exact h
 |some x=>
  have hx:=hp x rfl;show Below B a (qT b x 0 vs);have key:∀(vs:LV)(i:Nat)(b:World),Below B a b->Below B a (qT b x i vs):=by
   intro vs
   induction vs with
   |nil=>intro i b h;exact h
   |cons v r ih=>
    intro i b h;refine ih _ _ (Below.setCell h ?_ _);unfold Addr.add;split<;>exact hx
  exact key vs 0 b h
def uu(k:IntKind)(a:Int):One [.int k a]:=by intro v hv;simp at hv;subst hv;rfl
def Bc(k k':IntKind)(a b:Int):One [.int k a,.int k' b]:=by intro v hv;simp at hv;rcases hv with rfl|rfl<;>rfl
def aE.jk{B E k bytes:Nat}{w:World}{s:Sl}{rows:List (LV)}(h:aE B E k w s rows){news:LV}(o:Obj)(hB:B<=w)(hl:news.length=k)(h1:One news)
  (hb:(s.n+1)*bytes<=140737488355328)(hb':s.n+1<=9223372036854775807):
  ba bytes k (w.alloc o) s 1 news/\∀(s':Sl)(w':World),aY E k (w.alloc o) s 1 news s' w'->
   w'.heap[w.heap.size]? =(w.alloc o).heap[w.heap.size]?/\aE B E k w' s' (rows++ [news])/\s'.n=s.n+1/\Below B w w'/\(∀j,s.bf≠some j->j<w.heap.size->w'.heap[j]? =w.heap[j]?)/\(s'.bf=s.bf\/s'.bf=some (w.heap.size+1)):=by
 have xa:=Ext.al w o;obtain ⟨hp,hr⟩:=(h.ext xa).append (bytes:=bytes) (news:=news) (gx hB xa.size) hl h1 hb hb';refine ⟨hp,λs' w' bk=> ?_⟩;obtain ⟨ho,hn,hx,hk,Ma⟩:=hr s' w' bk;have hz:(w.alloc o).heap.size=w.heap.size+1:=by simp
 refine ⟨hk _ (λhb=>absurd (h.own.lt hb).2 (CP _)) cp,ho,hn,(Below.mono xa hB).trans hx,λj hj iC=> ?_,by rw [<-hz];exact Ma⟩;rw [hk j hj ab];exact xa.heap iC
def aE.set{B E k:Nat}{w:World}{s:Sl}{rows:List (List Value)}(h:aE B E k w s rows){i j:Nat}{r:List Value}{v:Value}(hi:rows[i]? =some r)(hj:j<k)(hv:v.oneCell'=true)(hB:B<=w.heap.size):
  (ae (ae s.a (i*k)) j).isSome=true/\Wr w (ae (ae s.a (i*k)) j) 1/\aE B E k (aL w (ae (ae s.a (i*k)) j) [v]) s (rows.set i (r.set j v))/\
   Below B w (aL w (ae (ae s.a (i*k)) j) [v])/\(∀m,s.bf≠some m->(aL w (ae (ae s.a (i*k)) j) [v]).heap[m]? =w.heap[m]?):=by
 have dN:=bJ h.wd;have Ku:i<rows.length:=(List.getElem?_eq_some_iff.1 hi).1;have hm:i*k+j<rows.flatten.length:=by rw [dN];have:(i+1)*k<=rows.length*k:=Nat.mul_le_mul_right _ Ku;rw [Nat.succ_mul] at this;omega
 obtain ⟨h1,h2,h3,h4⟩:=h.own.set (v:=v) hm hv;rw [dn];refine ⟨h1,h2,⟨?_,λq hq=> ?_⟩,?_,h4⟩
 ·have e:(rows.set i (r.set j v)).flatten=rows.flatten.set (i*k+j) v:=by
   have hw:=h.wd;clear h h1 h2 h3 h4 hm dN hv
   induction rows generalizing i with
   |nil=>simp at hi
   |cons a rows ih=>
    have ha:=hw a (.head _)
    cases i with
    |zero=>
     simp at hi;subst hi;simp only [List.set_cons_zero,List.flatten_cons,Nat.zero_mul,Nat.zero_add];rw [List.set_append_left _ _ (by omega)]
    |succ i=>
     simp only [List.set_cons_succ,List.flatten_cons];rw [List.set_append_right _ _ (by rw [ha,Nat.succ_mul];omega),show (i+1)*k+j-a.length=i*k+j from by rw [ha,Nat.succ_mul];omega];rw [ih (by simpa using hi) (by simpa using Ku) (λr hr=>hw r (.tail _ hr))]
  rw [e];exact h3
 ·rcases List.mem_or_eq_of_mem_set hq with hq|rfl
  ·exact h.wd q hq
  ·rw [List.length_set];exact h.wd r (List.mem_of_getElem? hi)
 ·refine Below.aL (Below.refl _ _) λx hx=> ?_
  have ho:=h.own;generalize rows.flatten=xs at ho
  cases ho with
  |nil=>simp [ae] at hx
  |row g n c cs hg hr hc hn=>simp [ae,nO] at hx;subst hx;exact hg
end Go.Vc
namespace Go.Vc
open Go Go.RowKit
def pZ{E size:Nat}{w w':World}{a:Option Addr}{n:Nat}{news:LV}{s':Sl}(h:aY E size w ⟨a,0,0⟩ n news s' w')(hl:news.length=n*size){j:Nat}(hj:j<w):w'.heap[j]? =w.heap[j]? :=by
 cases h with
 |fits hf=>
  have:n=0:=by simp at hf;omega
  subst this;have:news=[]:=CI ab;subst this
  cases hp:ae a (0*size) with
  |none=>simp [hp,Go.Vc.aL]
  |some x=>simp only [hp,Go.Vc.aL];rfl
 |CE hf fI rest cap h1 h2 h3 h4=>exact ((Ext.dr w).tr (Ext.al _ _)).heap hj
def RdK.flat{w:World}{s:Sl}{k:Nat}{rows:List (LV)}(h:RdK w s k rows)(hk:0<k):Rd w s.a rows.flatten:=by
 intro i v hi;have Ku:i<rows.flatten.length:=(cG.1 hi).1;rw [bJ h.wd] at Ku;have hik:i / k<rows.length:=Nat.div_lt_of_lt_mul (by rw [Nat.mul_comm];exact Ku);have hr:rows[i / k]? =some rows[i / k]:=dm hik;have hm:i % k<k:=Nat.mod_lt _ hk;have e:i / k*k+i % k=i:=by rw [Nat.mul_comm];exact Nat.div_add_mod i k
 have:=uw h.wd hr hm;rw [e,hi] at this;have:=h.rd _ _ hr _ v this.symm;rwa [e] at this
def fX{rows:List (LV)}(h:∀r ∈ rows,One r):One rows.flatten:=by intro v hv;obtain ⟨r,hr,hvr⟩:=List.mem_flatten.1 hv;exact h r hr v hvr
end Go.Vc
namespace Go.Vc
open Go Go.RowKit
def wK:∀(vs cs:LV)(off N:Nat),(aS cs off vs).take N=aS (cs.take N) off vs
 | [],_,_,_=>rfl
 |v::r,cs,off,N=>by
  show (aS (cs.set off v) (off+1) r).take N=aS ((cs.take N).set off v) (off+1) r
  rw [wK,List.take_set]
def kW(a:LV):∀(vs b:LV)(o:Nat),aS (a++b) (a.length+o) vs=a++aS b o vs
 | [],_,_=>rfl
 |v::r,b,o=>by
  show aS ((a++b).set (a.length+o) v) (a.length+o+1) r=a++aS (b.set o v) (o+1) r
  rw [List.set_append_right _ _ ab,Nat.add_sub_cancel_left,Nat.add_assoc]
  exact kW a r _ _
def Own.put{B E size:Nat}{w:World}{s:Sl}{xs:LV}(h:Own B E size w s xs){m:Nat}{vs:LV}(hm:m+vs.length<=xs.length)(hx:0<xs.length)(hv:One vs):
  (ae s.a m).isSome=true/\Wr w (ae s.a m) vs.length/\Own B E size (aL w (ae s.a m) vs) s (aS xs m vs)/\(∀j,s.bf≠some j->(aL w (ae s.a m) vs).heap[j]? =w.heap[j]?):=by
 cases h with
 |nil=>simp at hx
 |row g n c cs hg hr hc hn=>
  rw [dK] at hm;rw [bh];have hs:=hr.aL (o:=0+m) (vs:=vs) ab hv;refine ⟨rfl,hr.wr ab,?_,λj hj=> ?_⟩
  ·rw [<-wK,hs,eK];exact .row g n c _ hg (hr.set _) (by rw [Go.Vc.dz];exact hc) hn
  ·rw [hs];exact setRow_other _ _ _ _ (λe=>hj (by rw [e];rfl))
def aE.put{B E k:Nat}{w:World}{s:Sl}{rows:List (List Value)}(h:aE B E k w s rows){i:Nat}{r:List Value}(hi:i<rows.length)(hk:0<k)(hr:r.length=k)(hv:One r):
  (ae s.a (i*k)).isSome=true/\Wr w (ae s.a (i*k)) k/\aE B E k (aL w (ae s.a (i*k)) r) s (rows.set i r)/\
   Below B w (aL w (ae s.a (i*k)) r)/\(∀m,s.bf≠some m->(aL w (ae s.a (i*k)) r).heap[m]? =w.heap[m]?):=by
 have dN:=bJ h.wd;have h1:(i+1)*k<=rows.length*k:=Nat.mul_le_mul_right _ hi;rw [Nat.succ_mul] at h1;obtain ⟨p1,p2,p3,p4⟩:=h.own.put (m:=i*k) (vs:=r) (by omega) (by omega) hv;rw [hr] at p2;refine ⟨p1,p2,⟨?_,λq hq=> ?_⟩,?_,p4⟩
 ·have e:(rows.set i r).flatten=aS rows.flatten (i*k) r:=by
   have hw:=h.wd;clear h p1 p2 p3 p4 dN h1
   induction rows generalizing i with
   |nil=>simp at hi
   |cons a rows ih=>
    have ha:=hw a (.head _)
    cases i with
    |zero=>
     simp only [List.set_cons_zero,List.flatten_cons,Nat.zero_mul];rw [dt _ _ _ (by rw [List.length_append];omega),hr,Nat.zero_add,List.drop_left' ha];simp
    |succ i=>
     simp only [List.set_cons_succ,List.flatten_cons];rw [show (i+1)*k=a.length+i*k from by rw [ha,Nat.succ_mul];omega,kW];rw [ih (by simpa using hi) (λr hr=>hw r (.tail _ hr))]
  rw [e];exact p3
 ·rcases List.mem_or_eq_of_mem_set hq with hq|rfl
  ·exact h.wd q hq
  ·exact hr
 ·refine Below.aL (Below.refl _ _) λx hx=> ?_
  have ho:=h.own;generalize rows.flatten=xs at ho
  cases ho with
  |nil=>simp [ae] at hx
  |row g n c cs hg hr hc hn=>simp [ae,nO] at hx;subst hx;exact hg
def ux(a:Option Addr)(m size j:Nat):ae (aJ a 0 m size) j=ae a j:=by
 unfold aJ;split
 ·rfl
 ·show ae (ae a (0*size)) j=_;rw [dn];simp
def RdK.cut{w:World}{s:Sl}{k:Nat}{rows:List (LV)}(h:RdK w s k rows){m c' c'':Nat}(hm:m<=rows.length):RdK w ⟨aJ s.a 0 c' k,m,c''⟩ k (rows.take m):=by
 refine ⟨by simp;omega,λr hr=>h.wd r (qd hr),λi r hi j v hj=> ?_⟩;show ld w (ae (aJ s.a 0 c' k) _)=_;rw [ux];rw [qX] at hi;split at hi
 ·exact h.rd i r hi j v hj
 ·cases hi
end Go.Vc
namespace Go.Vc
open Go Go.RowKit
def aE.H2{B E k bytes:Nat}{w:World}{s:Sl}{rows more:List (LV)}(h:aE B E k w s rows)(hB:B<=w)(hl:∀r ∈ more,r.length=k)(h1:∀r ∈ more,One r)
  (hb:(s.n+more.length)*bytes<=140737488355328)(hb':s.n+more.length<=9223372036854775807):
  ba bytes k w s more.length more.flatten/\∀(s':Sl)(w':World),aY E k w s more.length more.flatten s' w'->
   aE B E k w' s' (rows++more)/\s'.n=s.n+more.length/\Below B w w'/\(∀j,s.bf≠some j->j<w.heap.size->w'.heap[j]? =w.heap[j]?)/\(s'.bf=s.bf\/s'.bf=some w.heap.size):=by
 obtain ⟨hp,hr⟩:=h.own.append (bytes:=bytes) (m:=more.length) (news:=more.flatten) hB (bJ hl) (fX h1) hb hb';refine ⟨hp,λs' w' bk=> ?_⟩;obtain ⟨ho,hn,hx,hk,Ma⟩:=hr s' w' bk;refine ⟨⟨by rw [CN];exact ho,λr hr=> ?_⟩,hn,hx,hk,Ma⟩;rcases cV.1 hr with hr|hr
 ·exact h.wd r hr
 ·exact hl r hr
end Go.Vc
namespace Go.Vc
open Go Go.RowKit
def RdK.rest{w:World}{s:Sl}{k:Nat}{rows:List (LV)}(h:RdK w s k rows){l m n' c':Nat}(hn:n'=rows.length-l)(hm:m=l->rows.length<=l):RdK w ⟨aJ s.a l m k,n',c'⟩ k (rows.drop l):=by
 refine ⟨by simpa using hn,λr hr=>h.wd r (zg hr),λi r hi j v hj=> ?_⟩;rw [wH] at hi;show ld w (ae (aJ s.a l m k) _)=_;unfold aJ;split
 ·rename_i e;have:=hm e;rw [jS ab] at hi;cases hi
 ·show ld w (ae (ae s.a (l*k)) _)=_;rw [dn];have:=h.rd (l+i) r hi j v hj;rwa [oK,Nat.add_assoc] at this
end Go.Vc
namespace Go.Vc
open Go Go.RowKit
def dw{P:Program}{fv:Value}{args:LV}{w:World}{R R':Ending->World->Prop}(h:cC P fv args w R)(hr:∀e w',R e w'->R' e w'):cC P fv args w R':=by
 unfold cC at h ⊢;split at h
 ·split at h
  ·exact h.mono hr
  ·obtain ⟨e,he,v,w',h1,h2⟩:=h;exact ⟨e,he,v,w',h1,hr _ _ h2⟩
 ·obtain ⟨h1,fn,tmps,assign,body,h2,h3⟩:=h;exact ⟨h1,fn,tmps,assign,body,h2,h3.mono hr⟩
 ·exact h.elim
def abi{P:Program}{f:FuncId}{first cap:Array Value}{args:LV}{w:World}{R:Ending->World->Prop}(hb:vy P f=true)(h:Calls P f (first.toList++args++cap.toList).toArray w R):
  cC P (.func (.func f) first cap) args w R:=by
 unfold cC;simp only [hb];exact h
def cX{P:Program}{f:FuncId}{first cap:Array Value}{args:LV}{w:World}{R:Ending->World->Prop}{asx:Array Value}(hb:vy P f=true)(ha:(first.toList++args++cap.toList).toArray=asx)(h:Calls P f asx w R):
  cC P (.func (.func f) first cap) args w R:=abi hb (by rw [ha];exact h)
def Dc(fn:Fn)(a b:Array Value):KI (.func fn a b)=false:=rfl
def O9(fn:Fn)(a b:Array Value):fnC (.func fn a b)=[]:=rfl
structure Mod(F:Nat->Prop)(w w':World):Prop where
 os:w'.os=w.os
 tape:w'.tape=w.tape
 output:w'.output=w.output
 size:w.heap.size<=w'.heap.size
 same:∀i,i<w.heap.size->¬F i->w'.heap[i]? =w.heap[i]?
def Mod.refl(F:Nat->Prop)(w:World):Mod F w w:=⟨rfl,rfl,rfl,aC _,λ_ _ _=>rfl⟩
def Mod.aH{F:Nat->Prop}{w w':World}(h:Ext w w'):Mod F w w':=⟨h.os,h.tape,h.output,h.size,λi hi _=>h.block i hi⟩
def Mod.trans{F:Nat->Prop}{a b c:World}(h:Mod F a b)(k:Mod F b c):Mod F a c:=
 ⟨k.os.trans h.os,k.tape.trans h.tape,k.output.trans h.output,gx h.size k.size,λi hi hn=>(k.same i (kM hi h.size) hn).trans (h.same i hi hn)⟩
def Mod.mono{F F':Nat->Prop}{a b:World}(h:Mod F a b)(hs:∀i,i<a.heap.size->F i->F' i):Mod F' a b:=⟨h.os,h.tape,h.output,h.size,λi hi hn=>h.same i hi λhf=>hn (hs i hi hf)⟩
def Mod.tr{F F':Nat->Prop}{a b c:World}(h:Mod F a b)(k:Mod F' b c)(hs:∀i,F' i->F i\/a.heap.size<=i):Mod F a c:=
 ⟨k.os.trans h.os,k.tape.trans h.tape,k.output.trans h.output,gx h.size k.size,λi hi hn=>(k.same i (kM hi h.size) λhf=>by
  rcases hs i hf with hf|hf
  ·exact hn hf
  ·omega).trans (h.same i hi hn)⟩
def Mod.below{F:Nat->Prop}{B:Nat}{w w':World}(h:Mod F w w')(hB:B<=w)(hF:∀i,F i->B<=i):Below B w w':=⟨h.os,h.tape,h.output,h.size,λi hi=>h.same i ab λhf=>by have:=hF i hf;omega⟩
def Mod.ext{F:Nat->Prop}{w0 w w':World}(h:Mod F w w')(x:Ext w0 w)(hF:∀i,F i->w0.heap.size<=i):Ext w0 w':=x.trans (h.below x.size hF)
def Mod.sI{r:Nat}{w w':World}(h:Rec r w w'):Mod (λi=>i=r) w w':=⟨h.os,h.tape,h.output,Nat.le_of_eq h.size.symm,λi _ hn=>h.same i hn⟩
def afI{w w':World}{p:Option Addr}(h:∀b,bz p=some b->w'.heap[b]? =w.heap[b]?):ld w' p=ld w p:=by
 cases p with
 |none=>rfl
 |some a=>
  show w'.cell? a=w.cell? a;have:=h a.block rfl;simp only [World.cell?,this]
def RdK.same{w w':World}{s:Sl}{k:Nat}{rows:List (LV)}(h:RdK w s k rows)(hs:∀b,s.bf=some b->w'.heap[b]? =w.heap[b]?):RdK w' s k rows:=
 ⟨h.n,h.wd,λi r hi j v hj=>by rw [afI λb hb=>hs b (by rw [c5] at hb;exact hb)];exact h.rd i r hi j v hj⟩
end Go.Vc
namespace Go.Vc
open Go Go.RowKit
def RdK.Sr{w:World}{s:Sl}{k:Nat}{rows:List (LV)}(h:RdK w s k rows)(hk:0<k)(jh:rows≠ []){b:Nat}(hb:s.bf=some b):b<w:=by
 cases rows with
 |nil=>exact absurd rfl jh
 |cons r rows=>
  have hl:=h.wd r (.head _);have h0:r[0]? =some (r[0]'ab):=dm ab;have:=h.rd 0 r rfl 0 _ h0
  cases ha:s.a with
  |none=>rw [ha] at this;simp [ld,ae] at this
  |some a=>
   rw [ha] at this;have iC:=U1 (w:=w) (a:=a.add (0*k+0)) this;have:(a.add (0*k+0)).block=a.block:=by unfold Addr.add;split<;>rfl
   rw [this] at iC;simp [Sl.bf,ha] at hb;omega
def RdK.ahv{w w':World}{s:Sl}{k:Nat}{rows:List (LV)}(h:RdK w s k rows)(hs:rows≠ []->∀b,s.bf=some b->w'.heap[b]? =w.heap[b]?):RdK w' s k rows:=by
 cases rows with
 |nil=>exact ⟨h.n,h.wd,λi r hi=>by simp at hi⟩
 |cons r rows=>exact h.same (hs cp)
end Go.Vc
namespace Go.Vc
open Go Go.RowKit
end Go.Vc
namespace Go.Vc
open Go Go.RowKit
def aE.form{B E k:Nat}{w:World}{s:Sl}{rows:List (LV)}(h:aE B E k w s rows)(hk:0<k):(s=⟨none,0,0⟩/\rows=[])\/
  ∃g cs,s.a=aB g/\B<=g/\Row w g cs E/\s.c*k<=cs.length/\s.n<=s.c/\cs.take (s.n*k)=rows.flatten/\s.n=rows.length:=by
 have hn:=(h.rd hk).n;have ho:=h.own;have hf:=bJ h.wd;generalize hx:rows.flatten=xs at ho hf
 cases ho with
 |nil=>exact .inl ⟨rfl,CI (by rw [<-hn])⟩
 |row g n c cs hg hr hc hn'=>exact .inr ⟨g,cs,rfl,hg,hr,hc,hn',rfl,hn⟩
def aE.jI{B E k:Nat}{w:World}{g n c:Nat}{cs:LV}{rows:List (LV)}(hg:B<=g)(hr:Row w g cs E)(hc:c*k<=cs.length)(hn:n<=c)(ht:cs.take (n*k)=rows.flatten)(hw:∀r ∈ rows,r.length=k):
  aE B E k w ⟨aB g,n,c⟩ rows:=⟨by rw [<-ht];exact .row g n c cs hg hr hc hn,hw⟩
def eF(a:Option Addr)(m size:Nat):aJ a 0 m size=a:=by
 unfold aJ;split
 ·rfl
 ·cases a<;>simp [Addr.add]
def sC(g l m size:Nat):aJ (aB g) l m size=if m=l then aB g else some ⟨g,l*size,none⟩:=by
 unfold aJ;split
 ·rfl
 ·simp [nO]
def Row.aiR{w:World}{g:Nat}{cs vs:LV}{E:TypeId}(hr:Row w g cs E){l m size:Nat}(hm:m=l->vs=[])(hv:∀j,j<vs.length->cs[l*size+j]? =vs[j]?):Rd w (aJ (aB g) l m size) vs:=by intro j v hj;have iC:=(cG.1 hj).1;rw [sC,if_neg (λe=>by rw [hm e] at iC;simp at iC),bh,hr.ld,hv j iC];exact hj
def Row.aaa{w:World}{g:Nat}{cs vs:LV}{E:TypeId}(hr:Row w g cs E){l m size:Nat}(hm:m=l->vs=[])(hl:l*size+vs.length<=cs.length)(h1:One vs):
  Wr w (aJ (aB g) l m size) vs.length/\Row (Go.Vc.aL w (aJ (aB g) l m size) vs) g (aS cs (l*size) vs) E/\Mod (λi=>i=g) w (Go.Vc.aL w (aJ (aB g) l m size) vs):=by
 by_cases e:m=l
 ·have:=hm e;subst this;rw [sC,if_pos e];exact ⟨λi hi=>by simp at hi,hr,Mod.refl _ _⟩
 ·rw [sC,if_neg e,hr.aL hl h1];exact ⟨hr.wr hl,hr.set _,⟨rfl,rfl,rfl,by rw [setRow_size];exact aC _,λi _ hn=>setRow_other _ _ _ _ hn⟩⟩
def Wi{w:World}{a:Option Addr}{xs ys:LV}(hx:Rd w a xs)(hy:Rd w a ys)(hl:xs.length=ys.length):xs=ys:=by
 apply iP;intro i;rcases jD i xs.length with hi|hi
 ·have h1:=hx i xs[i] (dm hi);have h2:=hy i (ys[i]'ab) (dm ab);rw [h1] at h2;rw [dm hi,dm ab];exact h2
 ·rw [jS hi,jS ab]
def Row.rd0{w:World}{g:Nat}{cs vs:LV}{E:TypeId}(hr:Row w g cs E)(hv:∀j,j<vs.length->cs[j]? =vs[j]?):Rd w (aB g) vs:=by intro j v hj;have iC:=(cG.1 hj).1;rw [bh,hr.ld,eK,hv j iC];exact hj
def Row.ne{w:World}{g g':Nat}{cs cs':LV}{E E':TypeId}(hr:Row w g cs E)(hr':Row w g' cs' E')(hE:E≠E'):g≠g':=by rintro rfl;have:=hr.symm.trans hr';simp at this;exact hE this.2
def Row.jK{w:World}{g r:Nat}{cs:LV}{E:TypeId}{G:Value->Prop}{kvs:List (Value × Value)}(hr:Row w g cs E)(hm:cD G w (some r) kvs):g≠r:=by rintro rfl;exact hm.vr _ _ _ hr
def cD.same{w w':World}{G:Value->Prop}{r:Nat}{kvs:List (Value × Value)}(hm:cD G w (some r) kvs)(h:w'.heap[r]? =w.heap[r]?):cD G w' (some r) kvs:=by obtain ⟨es,c,h1,h2⟩:=hm;exact ⟨es,c,h.trans h1,h2⟩
def cD.lt{w:World}{G:Value->Prop}{r:Nat}{kvs:List (Value × Value)}(hm:cD G w (some r) kvs):r<w:=by obtain ⟨es,c,h1,h2⟩:=hm;exact (tg.1 h1).1
def cD.new{w:World}{G:Value->Prop}:cD G (w.alloc (.map #[] 0)) (some w.heap.size) []:=
 ⟨#[],0,World.alloc_heap_new w _,rfl,by simp,by simp,by simp,by simp⟩
end Go.Vc
namespace Go.Vc
open Go Go.RowKit
def zH{k:Nat}:∀{rows:List (LV)} (m:Nat),(∀r ∈ rows,r.length=k)->rows.flatten.take (m*k)=(rows.take m).flatten
 | [],m,_=>by simp
 |r::rows,0,_=>by simp
 |r::rows,m+1,hw=>by
  have hr:=hw r (.head _)
  rw [List.take_succ_cons,kV,kV,show (m+1)*k=r.length+m*k by rw [MR,hr];omega,List.take_append,fN ab,Nat.add_sub_cancel_left,zH m λq hq=>hw q (.tail _ hq)]
def aE.cut{B E k:Nat}{w:World}{s:Sl}{rows:List (LV)}(h:aE B E k w s rows)(hk:0<k){m:Nat}(hm:m<=rows.length):aE B E k w ⟨aJ s.a 0 m k,m,m⟩ (rows.take m):=by
 rw [eF];rcases h.form hk with ⟨rfl,rfl⟩|⟨g,cs,ha,hg,hr,hc,hn,ht,hl⟩
 ·have:m=0:=by simpa using hm
  subst this;exact .nil
 ·rw [ha];have h1:m*k<=s.n*k:=wJ _ ab;have h2:s.n*k<=s.c*k:=wJ _ hn;refine aE.jI hg hr ab (aC _) ?_ (λr hr=>h.wd r (qd hr));have e1:cs.take (m*k)=(cs.take (s.n*k)).take (m*k):=by rw [List.take_take,Nat.min_eq_left h1]
  rw [e1,ht,zH m h.wd]
end Go.Vc
namespace Go.Vc
open Go Go.RowKit
structure aM(F F':Nat->Prop)(w w':World):Prop where
 mod:Mod F w w'
 sub:∀i,F' i->F i\/w.heap.size<=i
def aM.refl(F:Nat->Prop)(w:World):aM F F w w:=⟨Mod.refl _ _,λ_ h=> .inl h⟩
def aM.trans{F G H:Nat->Prop}{a b c:World}(h:aM F G a b)(k:aM G H b c):aM F H a c:=
 ⟨h.mod.tr k.mod h.sub,λi hi=>by
  rcases k.sub i hi with hg|hg
  ·exact h.sub i hg
  ·exact .inr (gx h.mod.size hg)⟩
def aM.aH{F:Nat->Prop}{w w':World}(h:Ext w w'):aM F F w w':=⟨Mod.aH h,λ_ h=> .inl h⟩
def aM.fresh{F F':Nat->Prop}{w0 w w':World}(h:aM F F' w w')(x:Ext w0 w)(hF:∀i,F i->w0.heap.size<=i):Ext w0 w'/\∀i,F' i->w0.heap.size<=i:=
 ⟨h.mod.ext x hF,λi hi=>by
  rcases h.sub i hi with hf|hf
  ·exact hF i hf
  ·exact gx x.size hf⟩
def aM.apart{F F' G:Nat->Prop}{w w':World}(h:aM F F' w w')(hd:∀i,F i->¬G i)(hl:∀i,G i->i<w.heap.size):∀i,F' i->¬G i:=λi hi hg=>by
 rcases h.sub i hi with hf|hf
 ·exact hd i hf hg
 ·have:=hl i hg;omega
def Mod.xt{w w':World}{s:Sl}(hb:Below 0 w w')(hk:∀j,s.bf≠some j->j<w.heap.size->w'.heap[j]? =w.heap[j]?):Mod (λi=>s.bf=some i) w w':=
 ⟨hb.os,hb.tape,hb.output,hb.size,λi hi hn=>hk i hn hi⟩
def Mod.row{F:Nat->Prop}{w w':World}(h:Mod F w w'){g:Nat}{cs:LV}{t:TypeId}(hr:Row w g cs t)(hn:¬F g):Row w' g cs t:=hr.same (h.same g hr.lt hn)
def Mod.iq{F:Nat->Prop}{w w':World}(h:Mod F w w'){B E k:Nat}{s:Sl}{rows:List (LV)}(ho:aE B E k w s rows)(hn:∀b,s.bf=some b->¬F b):aE B E k w' s rows:=
 ho.de λb hb=>h.same b (ho.own.lt hb).2 (hn b hb)
def Mod.map{F:Nat->Prop}{w w':World}(h:Mod F w w'){G:Value->Prop}{r:Nat}{kvs:List (Value × Value)}(hm:cD G w (some r) kvs)(hn:¬F r):cD G w' (some r) kvs:=hm.same (h.same r hm.lt hn)
def Mod.rdK{F:Nat->Prop}{w w':World}(h:Mod F w w'){s:Sl}{k:Nat}{rows:List (LV)}(hk:0<k)(hr:RdK w s k rows)(hn:rows≠ []->∀b,s.bf=some b->¬F b):RdK w' s k rows:=
 hr.ahv λjh b hb=>h.same b (hr.Sr hk jh hb) (hn jh b hb)
def abN{C x l:LV}{a b N:Nat}(hb:b=a+x.length)(hN:N=b+l.length)(hC:N<=C.length):(aS (aS C a x) b l).take N=C.take a++x++l:=by
 have ha:(C.take a).length=a:=by rw [dK];omega
 rw [dt x C a ab];have hD:(C.take a++x).length=b:=by rw [dv,ha,hb]
 rw [dt _ _ _ (by rw [dv,hD,Af];omega),Fe hD,Fe (by rw [dv,hD];omega)]
def XW{C x l:LV}{a b N:Nat}(hb:b=a+x.length)(hN:N=b+l.length)(hC:N<=C.length):(aS (aS C b l) a x).take N=C.take a++x++l:=by
 have ha:(C.take a).length=a:=by rw [dK];omega
 have lr:(C.take b).length=b:=by rw [dK];omega
 rw [dt l C b ab];have h1:(C.take b++l++C.drop (b+l.length)).take a=C.take a:=by rw [gK,J0 ab,List.take_take,Nat.min_eq_left ab]
 have h2:(C.take b++l++C.drop (b+l.length)).drop (a+x.length)=l++C.drop (b+l.length):=by rw [gK,<-hb,List.drop_left' lr]
 have hl:(C.take b++l++C.drop (b+l.length)).length=C.length:=by simp;omega
 rw [dt _ _ _ (by rw [hl];omega),h1,h2,<-gK,Fe (by simp only [dv,ha];omega)]
def ajE{lo hi:Nat}(h:lo+hi<=1000000):ao (((dc (ao ((lo:Int)+(hi:Int)))):Int).fdiv (2 ^(min (1:Int).toNat 64)))=(((lo+hi) / 2:Nat):Int):=by
 rw [aK (n:=(lo:Int)+hi) (by unfold bN;omega)];have h2:dc ((lo:Int)+hi)=lo+hi:=by unfold IntKind.wrap;simp only [IntKind.bits,IntKind.signed];simp;omega
 rw [h2];have h3:((lo:Int)+hi).fdiv (2 ^(min (1:Int).toNat 64))=(((lo+hi) / 2:Nat):Int):=by show ((lo:Int)+hi).fdiv 2=_;rw [tq _ ab];omega
 rw [h3,wI]
def Row.at{w:World}{g:Nat}{cs:LV}{E:TypeId}(hr:Row w g cs E)(j:Nat){v:Value}(h:cs[j]? =some v):Vc.ld w (ae (aB g) j)=some v:=by rw [bh,hr.ld,eK];exact h
def Row.kl{w:World}{g:Nat}{cs:LV}{E:TypeId}(hr:Row w g cs E){j:Nat}{v:Value}(hj:j<cs.length)(hv:v.oneCell'=true):
  Wr w (ae (aB g) j) 1/\∀w',w'=Vc.aL w (ae (aB g) j) [v]->Row w' g (aS cs j [v]) E/\Mod (λi=>i=g) w w':=by
 rw [bh,eK];have h1:One [v]:=by intro u hu;simp at hu;subst hu;exact hv
 refine ⟨hr.wr ab,λw' e=> ?_⟩;rw [hr.aL (by simp;omega) h1] at e;subst e;exact ⟨hr.set _,rfl,rfl,rfl,by rw [setRow_size];exact aC _,λi _ hn=>setRow_other _ _ _ _ hn⟩
def bc{B E k:Nat}{w:World}{s:Sl}{rows:List (LV)}(h:aE B E k w s rows)(hk:0<k){b:Nat}(hb:s.bf=some b):∃cs,Row w b cs E:=by
 rcases h.form hk with ⟨hs,-⟩|⟨g0,cs,ha,hg0,hr,-⟩
 ·rw [hs] at hb;cases hb
 ·unfold Sl.bf at hb;rw [ha] at hb;have:g0=b:=by simpa using hb
  exact ⟨cs,this▸hr⟩
end Go.Vc
