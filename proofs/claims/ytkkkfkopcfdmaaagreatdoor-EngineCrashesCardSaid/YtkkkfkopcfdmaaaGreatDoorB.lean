import Derived.Test.YtkkkfkopcfdmaaaGreatDoorA
set_option linter.all false
namespace Go
open Go.RowKit
set_option maxRecDepth 100000
set_option maxHeartbeats 8000000
def Oper.wpY(P:Program)(o:Oper)(a:Act)(w:World)(next:Act->World->Prop)(Q:Exit->Act->World->Prop):Prop:=
 (∀c,o.op≠ .defer c)/\o.uponIn Fence.wide 0 P a next Q ((execOp a.eval o).run P w)
def Oper.sC{P:Program}{o:Oper}{a:Act}{w:World}{Q:Exit->Act->World->Prop}{K K':Act->World->Prop}(h:∀a w,K a w->K' a w)(hh:o.wpY P a w K Q):o.wpY P a w K' Q:=by
 refine ⟨hh.1,?_⟩;have hh:=hh.2;generalize (execOp a.eval o).run P w=r at*
 cases r with
 |ok x w'=>
  cases x<;>simp only [Oper.uponIn] at hh ⊢<;>
   first
    |exact h _ _ hh
    |exact ⟨hh.1,CallsIn.mono hh.2 (λe w'' he=>by cases e<;>first|exact h _ _ he|exact he)⟩
    |exact ⟨hh.1,RowsIn.mono hh.2 (λ_ _ he=>h _ _ he)⟩
    |exact ⟨hh.1,RoundIn.mono hh.2 (λe w'' he=>by cases e<;>first|exact h _ _ he|exact he)⟩
 |halt x w'=>cases x<;>simp only [Oper.uponIn] at hh ⊢<;>exact hh
end Go
namespace Go.Vc
open Go Go.RowKit
section
variable {P:Program} {s:St} {o:Oper} {K:St->Prop} {Q:Exit->Act->World->Prop}
def EN(P:Program):Prop:=∀(f:FuncId) fn,P.funcs[f]? =some fn->fn.name≠ "runtime.NumGoroutine"
def wE(P:Program)(f:FuncId):Bool:=match P.funcs[f]? with|some fn=>(match fn.body with|some _=>true|none=>false)|none=>false
def alR(P:Program)(l:Nat)(args:List Value)(w:World)(R:Ending->World->Prop):Prop:=
 ∃fn tmps assign body,(Instr.yield l args.toArray).run P w=.ok (.round l fn tmps assign body) w/\RoundIn Fence.wide 0 P l fn tmps assign body w R
def aqs(P:Program)(f:FuncId)(e:Array Value->Sem Value):Prop:=
 ∃fn,P.funcs[f]? =some fn/\fn.body.isNone=true/\Extern.findNext fn=none/\Extern.find fn=some e
def adf(P:Program)(f:FuncId)(args:List Value)(w:World)(R:Ending->World->Prop):Prop:=
 ∃e,aqs P f e/\∃v w',(e args.toArray).run P w=.ok v w'/\R (.returned v) w'
def bB(P:Program)(fv:Value)(args:List Value)(w:World)(R:Ending->World->Prop):Prop:=
 match fv with
 | .func (.func f) first cap=>match wE P f with
   |true=>Calls P f (first.toList++args++cap.toList).toArray w R
   |false=>adf P f (first.toList++args++cap.toList) w R
 | .func (.yield l) first cap=>(first= #[]/\cap= #[])/\alR P l args w R
 |_=>False
def awm(P:Program)(t:TypeId):T2:=
 match P.underlying t with
 |some (.tuple ts)=> .tup (ts.toList.map (uw P))
 |_=> .one (uw P t)
def HX(P:Program)(s:St)(d:Option Tmp)(ty:TypeId)(fv:Value)(args:List SV)(K:St->Prop):Prop:=
 bB P fv (args.map (SV.bM s.kn)) s.w λe w'=>(awm P ty).ex λv=>e=.returned v/\
  aT (Ge (s.kill args).kn s.w w') (K ({s.kill args with w:=w'}.put d (.val v)))
def ahU{dst:Option Tmp}{ty:TypeId}{pos:String}{after:Array Edge}{guard:Option (Nat × Bool)}{x:Operand}{args:Array Operand}{ats:Array TypeId}(hP:EN P)(bc:s.Ok)
  (hny:∀l f c,s.ev x≠ .func (.yield l) f c)(h:HX P s dst ty (s.ev x) (args.toList.map s.sv) K):
  (Oper.mk dst (.call ⟨.value x,args,ats⟩) ty pos after guard).wp P s.act s.w (jr dst s K) Q:=by
 unfold HX bB at h;split at h
 ·rename_i f first cap hx;split at h
  ·rename_i hb;unfold wE at hb;split at hb
   ·rename_i fn hf;split at hb
    ·rename_i body hbody;have vW:(execOp s.ev (Oper.mk dst (.call ⟨.value x,args,ats⟩) ty pos after guard)).run P s.w=.ok (.enter f (first++args.map s.ev++cap)) s.w:=by have hn:=hP f fn hf;simp only [execOp,resolve,Deferred.ofValue,hx,invoke,callFunc,Sem.run_bind,Sem.run_pure,Result.andThen_ok];simp [program,Sem.run,hf,hn,hbody]
     unfold Oper.wp;rw [St.eval_eq,vW,Oper.upon_enter];have af7:(first.toList++(args.toList.map s.sv|>.map (SV.bM s.kn))++cap.toList).toArray=first++args.map s.ev++cap:=by apply Array.ext';simp [St.ev]
     rw [af7] at h;refine h.mono λe w' hr=> ?_
     obtain ⟨v,he,h1⟩:=T2.mI hr;subst he;rw [bz] at h1;obtain ⟨k1,k2,k3,k4,k5⟩:=fE (args.toList.map s.sv) bc;have og:=nI k1 (w':=w') (by rw [k3];exact h1.1);exact kA h1.2 bc og k2 k4 trivial rfl rfl
    ·cases hb
   ·cases hb
  ·obtain ⟨e,⟨fn,hf,hb,Ov,VM⟩,v,w',vW,hr⟩:=h;have hname:=hP f fn hf;have af7:(first.toList++(args.toList.map s.sv|>.map (SV.bM s.kn))++cap.toList).toArray=first++args.map s.ev++cap:=by apply Array.ext';simp [St.ev]
   rw [af7] at vW;have hex:=run_callFunc_extern hf (by simpa using hname) hb Ov VM (first++args.map s.ev++cap) s.w;rw [vW] at hex;have hgo:(execOp s.ev (Oper.mk dst (.call ⟨.value x,args,ats⟩) ty pos after guard)).run P s.w=.ok (.value v) w':=by simp only [execOp,resolve,Deferred.ofValue,hx,invoke,Sem.run_bind,Sem.run_pure,Result.andThen_ok];exact hex
   unfold Oper.wp;rw [St.eval_eq,hgo];obtain ⟨v',he,h1⟩:=T2.mI hr
   cases he
   rw [bz] at h1;obtain ⟨k1,k2,k3,k4,k5⟩:=fE (args.toList.map s.sv) bc;have og:=nI k1 (w':=w') (by rw [k3];exact h1.1);exact kA (v:=.val v) h1.2 bc og k2 k4 trivial rfl rfl
 ·rename_i l f c hx;exact absurd hx (hny l f c)
 ·cases h
def tF{n:Nat}(h:Fence.wide.depth.isSome=true):1<=n:=by simp [Fence.wide] at h
inductive Wd:Fence->Prop
 |out:Wd Fence.wide
 |round (l:Nat):Wd (Fence.wide.inRound l)
def Wd.fn{F:Fence}(h:Wd F)(f:FuncId):F.fn f:=by cases h<;>trivial
def Wd.depth{F:Fence}(h:Wd F):F.depth=none:=by cases h<;>rfl
def Wd.calls{F:Fence}(h:Wd F){n:Nat}{f:FuncId}{args:Array Value}{w:World}{R:Ending->World->Prop}:CallsIn F n P f args w R ↔ Calls P f args w R:=by
 cases h with
 |out=>exact callsIn_wide
 |round l=>exact callsIn_wide
def Wd.ahV{F:Fence}(h:Wd F){n:Nat}{l:Nat}{f:FuncId}{tmps:Array Value}{assign body:Code}{w:World}{R:Ending->World->Prop}(hr:RoundIn Fence.wide 0 P l f tmps assign body w R):
  RoundIn F n P l f tmps assign body w R:=by
 cases h with
 |out=>exact ⟨trivial,λc cs _=>hr.2 c cs (room_wide _)⟩
 |round l'=>exact ⟨trivial,λc cs _=>hr.2 c cs (room_wide _)⟩
def Wd.alS{F:Fence}(h:Wd F){n:Nat}{row:String}{args:Array Value}{w:World}{R:Value->World->Prop}(hr:RowsIn Fence.wide 0 P row args w R):
  RowsIn F n P row args w R:=by
 cases h with
 |out=>exact λc cs _=>hr c cs (room_wide _)
 |round l'=>exact λc cs _=>hr c cs (room_wide _)
def ZP{o:Oper}{a:Act}{w:World}{Q:Exit->Act->World->Prop}{K:Act->World->Prop}(hd:∀c,o.op≠ .defer c)(hh:o.wp P a w K Q):o.wpY P a w K Q:=by
 refine ⟨hd,?_⟩;unfold Oper.wp at hh;generalize (execOp a.eval o).run P w=r at*
 cases r with
 |ok x w'=>
  cases x<;>simp only [Oper.upon,Oper.uponIn] at hh ⊢<;>
   first
    |exact hh
    |exact ⟨tF,callsIn_wide.2 hh⟩
    |exact ⟨tF,λc cs _=>by
     obtain ⟨v,w',h1,h2⟩:=hh c cs;exact ⟨v,w',h1,stepsIn_wide.2 h2⟩⟩
 |halt x w'=>cases x<;>simp only [Oper.upon,Oper.uponIn] at hh ⊢<;>exact hh
def Ec{F:Fence}{n:Nat}(hF:Wd F){o:Oper}{a:Act}{w:World}{Q:Exit->Act->World->Prop}{K:Act->World->Prop}(hh:o.wpY P a w K Q):o.wpIn F n P a w K Q:=by
 refine ⟨λf _=>hF.fn f,?_⟩;rw [Oper.semAt_eq _ _ _ hh.1];have hh:=hh.2;have hd:F.depth.isSome=true->1<=n:=λh=>by rw [hF.depth] at h;cases h
 generalize (execOp a.eval o).run P w=r at*
 cases r with
 |ok x w'=>
  cases x<;>simp only [Oper.uponIn] at hh ⊢<;>
   first
    |exact hh
    |exact ⟨hd,hF.calls.2 (callsIn_wide.1 hh.2)⟩
    |exact ⟨hd,hF.alS hh.2⟩
    |exact ⟨hd,hF.ahV hh.2⟩
 |halt x w'=>cases x<;>simp only [Oper.uponIn] at hh ⊢<;>exact hh
def ZQ{dst:Option Tmp}{ty:TypeId}{pos:String}{after:Array Edge}{guard:Option (Nat × Bool)}{x:Operand}{args:Array Operand}{ats:Array TypeId}(bc:s.Ok)
  {l:Nat}{f c:Array Value}(hx:s.ev x=.func (.yield l) f c)(h:HX P s dst ty (s.ev x) (args.toList.map s.sv) K):
  (Oper.mk dst (.call ⟨.value x,args,ats⟩) ty pos after guard).wpY P s.act s.w (jr dst s K) Q:=by
 refine ⟨λc h=>(by cases h),?_⟩;rw [hx] at h;unfold HX bB at h;obtain ⟨⟨rfl,rfl⟩,fn,tmps,assign,body,hy,hr⟩:=h;have vW:(execOp s.ev (Oper.mk dst (.call ⟨.value x,args,ats⟩) ty pos after guard)).run P s.w=.ok (.round l fn tmps assign body) s.w:=by
  have ha:args.map s.ev=((args.toList.map s.sv).map (SV.bM s.kn)).toArray:=by apply Array.ext';simp [St.ev]
  simp only [execOp,resolve,Deferred.ofValue,hx,invoke,Sem.run_bind,Sem.run_pure,Result.andThen_ok];rw [ha];simpa using hy
 rw [St.eval_eq,vW,Oper.uponIn_round];refine ⟨tF,hr.mono λe w' hr=> ?_⟩;obtain ⟨v,he,h1⟩:=T2.mI hr;subst he;rw [bz] at h1;obtain ⟨k1,k2,k3,k4,k5⟩:=fE (args.toList.map s.sv) bc;have og:=nI k1 (w':=w') (by rw [k3];exact h1.1);exact kA h1.2 bc og k2 k4 trivial rfl rfl
structure Rec(l:Nat)(w w':World):Prop where
 same:∀i,i≠l->w'.heap[i]? =w.heap[i]?
 size:w'.heap.size=w.heap.size
 os:w'.os=w.os
 tape:w'.tape=w.tape
 output:w'.output=w.output
def Rec.below{l:Nat}{w w':World}(h:Rec l w w'){B:Nat}(hB:B<=l):Below B w w':=⟨h.os,h.tape,h.output,Nat.le_of_eq h.size.symm,λk hk=>h.same k aa⟩
def Rec.putObj(w:World)(l:Nat)(o:Obj):Rec l w (w.putObj l o):=⟨λi hi=>World.putObj_heap_other hi,bg,rfl,rfl,rfl⟩
section
variable {P:Program} {s:St} {K:St->Prop}
def yQ{s:St}{D:Nat}{w':World}(bc:s.Ok)(hD:∀c t f,s.w.heap[D]?≠some (.cells c t f))(h:Rec D s.w w'):({s with w:=w'}:St).Ok:=by refine ⟨λk kb h1 h2=> ?_,bc.ne,bc.nE⟩;have:=bc.aZ k kb h1 h2;rw [<-this];exact h.same _ λe=>hD _ _ _ (e▸this)
structure jh(P:Program)(kt:TypeId)(G:Value->Prop):Prop where
 eq:∀x y,G x->G y->∃b,eqV P 20 kt x y=some b/\(b=true ↔ x=y)
 check:∀x,G x->∀b w,(Instr.checkKey b 10000 kt x).run P w=.ok () w
 bits:∀x,G x->Instr.sameBits 10000 x x=true
def bS(G:Value->Prop)(w:World)(m:Option Nat)(kvs:List (Value × Value)):Prop:=
 match m with
 |none=>kvs=[]
 |some r=>∃es clock,w.heap[r]? =some (.map es clock)/\es.toList.map (λe=>(e.key,e.val))=kvs/\(∀e ∈ kvs,G e.1)/\(kvs.map (·.1)).Nodup/\
  (es.toList.map (·.born)).Pairwise (·<·)/\∀e ∈ es.toList,e.born<clock
def JD(kvs:List (Value × Value))(k z v:Value)(b:Bool):Prop:=
 (b=true/\(k,v) ∈ kvs)\/(b=false/\v=z/\∀e ∈ kvs,e.1≠k)
open Classical in
noncomputable def vo(kvs:List (Value × Value))(k v:Value):List (Value × Value):=
 if ∃e ∈ kvs,e.1=k then kvs.map (λe=>if e.1=k then (e.1,v) else e) else kvs++ [(k,v)]
open Classical in
noncomputable def HV(kvs:List (Value × Value))(k:Value):List (Value × Value):=kvs.filter λe=>¬e.1=k
def ad0(a b:ByteArray):(a==b)=true ↔ a=b:=by
 cases a;cases b
 show ByteArray.beq _ _=true ↔ _;simp [ByteArray.beq]
def Bg{d:TypeDesc}{x y:Value}{b:Bool}(h:Instr.sameNow d x y=some b):b=true ↔ x=y:=by
 unfold Instr.sameNow at h;split at h
 ·split at h
  ·rename_i e;subst e;cases h;simp
  ·cases h
 ·cases h;simp only [Value.string.injEq];exact ad0 _ _
 ·cases h;simp
 ·cases h
def findNow_spec{d:TypeDesc}{k:Value}:∀(es:List MapEntry)(i:Nat)(r:Option (Nat × Value)),Instr.findNow d k es i=some r->
  match r with
  |none=>∀e ∈ es,e.key≠k
  |some (j,v)=>∃m e,j=i+m/\es[m]? =some e/\e.key=k/\e.val=v
 | [],i,r,h=>by unfold Instr.findNow at h;cases h;simp
 |e::es,i,r,h=>by
  unfold Instr.findNow at h
  split at h
  ·rename_i hs
   cases h
   exact ⟨0,e,rfl,rfl,((Bg hs).1 rfl).symm,rfl⟩
  ·rename_i hs
   have ih:=findNow_spec es (i+1) r h
   have hZ:e.key≠k:=λe=>by have:=(Bg hs).2 e.symm;cases this
   cases r with
   |none=>
    intro e' he'
    rcases cp.1 he' with rfl|he'
    ·exact hZ
    ·exact ih e' he'
   |some p=>
    obtain ⟨m,e',h1,h2,h3,h4⟩:=ih
    exact ⟨m+1,e',aa,by simpa using h2,h3,h4⟩
  ·cases h
def vJ{kt:TypeId}{G:Value->Prop}(hk:jh P kt G){k:Value}(hkG:G k):∀(es:List MapEntry)(i:Nat)(w:World),(∀e ∈ es,G e.key)->
  ∃r,(Instr.findAsking kt k es i).run P w=.ok r w/\match r with
  |none=>∀e ∈ es,e.key≠k
  |some (j,v)=>∃m e,j=i+m/\es[m]? =some e/\e.key=k/\e.val=v
 | [],i,w,_=>⟨none,rfl,bg⟩
 |e::es,i,w,hG=>by
  obtain ⟨b,h1,h2⟩:=hk.eq k e.key hkG (hG e (.head _))
  have h3:(Op.equal kt k e.key).run P w=.ok b w:=mJ (Mb 20 kt _ _ _ h1 _ aa w)
  cases b with
  |true=>exact ⟨some (i,e.val),by unfold Instr.findAsking;rw [Sem.run_bind,h3];rfl,0,e,rfl,rfl,(h2.1 rfl).symm,rfl⟩
  |false=>
   obtain ⟨r,g1,g2⟩:=vJ hk hkG es (i+1) w λe he=>hG e (.tail _ he)
   have hZ:e.key≠k:=λe=>by have:=h2.2 e.symm;cases this
   refine ⟨r,by unfold Instr.findAsking;rw [Sem.run_bind,h3];exact g1,?_⟩
   cases r with
   |none=>
    intro e' he'
    rcases cp.1 he' with rfl|he'
    ·exact hZ
    ·exact g2 e' he'
   |some p=>
    obtain ⟨m,e',h1,h2,h3,h4⟩:=g2
    exact ⟨m+1,e',aa,by simpa using h2,h3,h4⟩
def vK{kt:TypeId}{G:Value->Prop}(hk:jh P kt G)(hu:(P.underlying kt).isSome=true){k:Value}(hkG:G k)(es:List MapEntry)(w:World)(hG:∀e ∈ es,G e.key):
  ∃r,(Instr.findKey kt k es).run P w=.ok r w/\match r with
  |none=>∀e ∈ es,e.key≠k
  |some (j,v)=>∃e,es[j]? =some e/\e.key=k/\e.val=v:=by
 obtain ⟨d,hd⟩:=rL.1 hu;have key:∃r,(Instr.findKey kt k es).run P w=.ok r w/\match r with
  |none=>∀e ∈ es,e.key≠k
  |some (j,v)=>∃m e,j=0+m/\es[m]? =some e/\e.key=k/\e.val=v:=by
  unfold Instr.findKey;simp only [Sem.run_bind,aF,hd,Result.andThen_ok]
  cases hf:Instr.findNow d k es 0 with
  |some r=>exact ⟨r,rfl,findNow_spec es 0 r hf⟩
  |none=>exact vJ hk hkG es 0 w hG
 obtain ⟨r,h1,h2⟩:=key;refine ⟨r,h1,?_⟩
 cases r with
 |none=>exact h2
 |some p=>
  obtain ⟨m,e,g1,g2,g3,g4⟩:=h2;exact ⟨e,by rw [g1,eC];exact g2,g3,g4⟩
def qh{r:Nat}{es:Array MapEntry}{c:Nat}{w:World}(h:w.heap[r]? =some (.map es c)):(getObj r).run P w=.ok (.map es c) w:=by simp [getObj,Sem.run,h]
def tG{r:Nat}{es es':Array MapEntry}{c c':Nat}{w:World}(h:w.heap[r]? =some (.map es c)):(setObj r (.map es' c')).run P w=.ok () (w.putObj r (.map es' c')):=by simp [setObj,Sem.run,h,World.putObj]
def C0{α β:Type}{f:α->β}:∀{l:List α} {x y:α},(l.map f).Nodup->x ∈ l->y ∈ l->f x=f y->x=y
 | [],_,_,_,h,_,_=>by cases h
 |a::l,x,y,hn,hx,hy,e=>by
  rw [eQ,oL] at hn
  rcases cp.1 hx with rfl|hx
  ·rcases cp.1 hy with e2|hy
   ·exact e2.symm
   ·exact absurd (aU.2 ⟨y,hy,e.symm⟩) hn.1
  ·rcases cp.1 hy with e2|hy
   ·rw [e2] at e
    exact absurd (aU.2 ⟨x,hx,e⟩) hn.1
   ·exact C0 hn.2 hx hy e
def vL(P:Program)(t:TypeId):Option (TypeId × TypeId × Value):=match P.underlying t with
 |some (.map kt et)=>if (P.underlying kt).isSome &&(P.underlying et).isSome then ((P.info? et).bind (·.zero)).map λz=>(kt,et,z) else none
 |_=>none
def qk{t kt et:TypeId}{z:Value}(h:vL P t=some (kt,et,z)):P.underlying t=some (.map kt et)/\(P.underlying kt).isSome=true/\(P.underlying et).isSome=true/\∀w,(zeroValue et).run P w=.ok z w:=by
 unfold vL at h;split at h
 ·rename_i kt' et' hu;split at h
  ·rename_i hb;rw [fk] at hb
   cases hi:P.info? et' with
   |none=>simp [hi] at h
   |some i=>
    cases hz:i.zero with
    |none=>simp [hi,hz] at h
    |some z'=>
     simp [hi,hz] at h;obtain ⟨rfl,rfl,rfl⟩:=h;exact ⟨hu,hb.1,hb.2,λw=>by simp [zeroValue,dY,hi,hz]⟩
  ·cases h
 ·cases h
def pf{kt:TypeId}{G:Value->Prop}(hk:jh P kt G){k:Value}(h:G k)(b:Bool)(w:World):(Instr.checkKey b 10000 kt k).run P w=.ok () w:=hk.check k h b w
def Lq{kt:TypeId}{z k:Value}{G:Value->Prop}{kvs:List (Value × Value)}{w:World}(hk:jh P kt G)(hu:(P.underlying kt).isSome=true)(hkG:G k){es:List MapEntry}
  (he:es.map (λe=>(e.key,e.val))=kvs)(hG:∀e ∈ kvs,G e.1)(hnd:(kvs.map (·.1)).Nodup){v:Value}{b:Bool}(hl:JD kvs k z v b):
  ∃r,(Instr.findKey kt k es).run P w=.ok r w/\((r=none/\b=false/\v=z)\/∃j,r=some (j,v)/\b=true):=by
 have hGe:∀e ∈ es,G e.key:=λe hm=>hG (e.key,e.val) (by rw [<-he];exact aU.2 ⟨e,hm,rfl⟩)
 obtain ⟨rr,g1,g2⟩:=vK hk hu hkG es w hGe;refine ⟨rr,g1,?_⟩
 cases rr with
 |none=>
  rcases hl with ⟨rfl,fw⟩|⟨rfl,rfl,_⟩
  ·rw [<-he] at fw;obtain ⟨e,he1,he2⟩:=aU.1 fw;exact absurd (congrArg Prod.fst he2) (g2 e he1)
  ·exact .inl ⟨rfl,rfl,rfl⟩
 |some p=>
  obtain ⟨j,v'⟩:=p;obtain ⟨e,g3,g4,g5⟩:=g2;have hme:e ∈ es:=aO g3;rcases hl with ⟨rfl,fw⟩|⟨rfl,rfl,l8⟩
  ·rw [<-he] at fw;obtain ⟨e',he1,he2⟩:=aU.1 fw;have hkk:e'.key=e.key:=(congrArg Prod.fst he2).trans g4.symm;have hv:e'.val=v:=congrArg Prod.snd he2;have:e'=e:=by rw [<-he,pM] at hnd;exact C0 hnd he1 hme hkk
   subst this;rw [hv] at g5;subst g5;exact .inr ⟨j,rfl,rfl⟩
  ·exact absurd g4 (l8 (e.key,e.val) (by rw [<-he];exact aU.2 ⟨e,hme,rfl⟩))
def U4{t kt et:TypeId}{z k:Value}{G:Value->Prop}{r:Option Nat}{kvs:List (Value × Value)}{w:World}(ht:vL P t=some (kt,et,z))(hk:jh P kt G)(hm:bS G w r kvs)(hkG:G k)(ok:Bool){v:Value}{b:Bool}
  (hl:JD kvs k z v b):(Instr.lookup t (.map r) k ok).run P w=.ok (if ok then .tuple #[v,.bool b] else v) w:=by
 obtain ⟨h1,h2,h3,h4⟩:=qk ht;unfold Instr.lookup;simp only [Sem.run_bind,aF,h1,Result.andThen_ok]
 cases r with
 |none=>
  have hkv:kvs=[]:=hm;obtain ⟨rr,g1,g2⟩:=Lq (es:=[]) (w:=w) hk h2 hkG hkv.symm (by rw [hkv];simp) (by rw [hkv];simp) hl;simp only [Sem.run_bind,Sem.run_pure,Result.andThen_ok,pf hk hkG];rw [g1];rcases g2 with ⟨rfl,rfl,rfl⟩|⟨j,rfl,rfl⟩<;>simp [h4]
 |some r=>
  obtain ⟨es,clock,e1,e2,e3,e4,_⟩:=hm;obtain ⟨rr,g1,g2⟩:=Lq (es:=es.toList) (w:=w) hk h2 hkG e2 e3 e4 hl;simp only [Sem.run_bind,qh e1,Result.andThen_ok,Sem.run_pure,pf hk hkG,g1];rcases g2 with ⟨rfl,rfl,rfl⟩|⟨j,rfl,rfl⟩<;>simp [h4]
def Bh{α β:Type}{f:α->β}:∀{l:List α},(l.map f).Nodup->l.Nodup
 | [],_=>List.nodup_nil
 |a::l,h=>by
  rw [eQ,oL] at h
  exact oL.2 ⟨λhm=>h.1 (aU.2 ⟨a,hm,rfl⟩),Bh h.2⟩
def ZR{kvs:List (Value × Value)}{k v:Value}:∀e ∈ vo kvs k v,e.1=k\/∃e' ∈ kvs,e'.1=e.1:=by
 intro e he;unfold vo at he;split at he
 ·obtain ⟨e',h1,rfl⟩:=aU.1 he;refine .inr ⟨e',h1,?_⟩;split<;>rfl
 ·rcases bX.1 he with he|he
  ·exact .inr ⟨e,he,rfl⟩
  ·simp at he;exact .inl (by rw [he])
def HY{kvs:List (Value × Value)}{k v:Value}(h:(kvs.map (·.1)).Nodup):((vo kvs k v).map (·.1)).Nodup:=by
 classical
 unfold vo;split
 ·have:(kvs.map λe=>if e.1=k then (e.1,v) else e).map (·.1)=kvs.map (·.1):=by
   rw [pM];refine zP λe _=> ?_
   simp only [Function.comp_apply];split<;>rfl
  rw [this];exact h
 ·rename_i hn;rw [bJ];refine sh.2 ⟨h,bg,λa ha b hb e=> ?_⟩;simp at hb;obtain ⟨e',he',rfl⟩:=aU.1 ha;exact hn ⟨e',he',by rw [e,hb]⟩
def HZ{t kt et:TypeId}{z k v:Value}{G:Value->Prop}{r:Nat}{kvs:List (Value × Value)}{w:World}(ht:vL P t=some (kt,et,z))(hk:jh P kt G)(hm:bS G w (some r) kvs)(hkG:G k):
  ∃w',(Instr.mapUpdate t (.map (some r)) k v).run P w=.ok () w'/\Rec r w w'/\bS G w' (some r) (vo kvs k v):=by
 obtain ⟨h1,h2,h3,h4⟩:=qk ht;obtain ⟨es,clock,e1,e2,e3,e4,e5,e6⟩:=hm;have hr:=(tQ.1 e1).1;have hGe:∀e ∈ es.toList,G e.key:=λe hm=>e3 (e.key,e.val) (by rw [<-e2];exact aU.2 ⟨e,hm,rfl⟩)
 obtain ⟨rr,g1,g2⟩:=vK hk h2 hkG es.toList w hGe;have hG':∀e ∈ vo kvs k v,G e.1:=λe he=>by
  rcases ZR e he with h|⟨e',h,h'⟩
  ·rw [h];exact hkG
  ·rw [<-h'];exact e3 e' h
 unfold Instr.mapUpdate;simp only [Sem.run_bind,aF,h1,Result.andThen_ok,qh e1,pf hk hkG,g1]
 cases rr with
 |none=>
  refine ⟨w.putObj r (.map (es.push {key:=k,val:=v,born:=clock}) (clock+1)),tG e1,Rec.putObj _ _ _,?_⟩;have l8:¬∃e ∈ kvs,e.1=k:=by rintro ⟨e,he,hek⟩;rw [<-e2] at he;obtain ⟨e',h5,rfl⟩:=aU.1 he;exact g2 e' h5 hek
  refine ⟨_,_,World.putObj_heap_same hr,?_,hG',HY e4,?_,?_⟩
  ·unfold vo;rw [if_neg l8,<-e2];simp
  ·simp only [Array.toList_push,bJ,eQ,List.map_nil];refine List.pairwise_append.2 ⟨e5,bg,λa ha b hb=> ?_⟩;simp at hb;subst hb;obtain ⟨e,he,rfl⟩:=aU.1 ha;exact e6 e he
  ·intro e he;simp only [Array.toList_push,bX,fT] at he;rcases he with he|rfl
   ·have:=e6 e he;omega
   ·show clock<clock+1;omega
 |some p=>
  obtain ⟨j,v'⟩:=p;obtain ⟨e,g3,g4,g5⟩:=g2;have hj:j<es.toList.length:=(bZ.1 g3).1;have hje:es[j]? =some e:=by simpa using g3
  have aAk:((es[j]?).map (·.key)).getD k=k:=by rw [hje];exact g4
  refine ⟨w.putObj r (.map (es.modify j λe=>{e with key:=k,val:=v}) clock),?_,Rec.putObj _ _ _,?_⟩
  ·simp only [aAk,Instr.keyThatStays,hk.bits k hkG,if_true,Sem.run_bind,Sem.run_pure,Result.andThen_ok];exact tG e1
  ·have aAl:∃e ∈ kvs,e.1=k:=⟨(e.key,e.val),by rw [<-e2];exact aU.2 ⟨e,aO g3,rfl⟩,g4⟩;have rj:(es.modify j λe=>{e with key:=k,val:=v}).toList=es.toList.modify j λe=>{e with key:=k,val:=v}:=by simp
   have eI:∀i,(es.toList.modify j λe=>{e with key:=k,val:=v})[i]? =(es.toList[i]?).map λe'=>if i=j then {e' with key:=k,val:=v} else e':=by
    intro i;rw [KC]
    cases es.toList[i]? with
    |none=>rfl
    |some x=>simp [eq_comm]
   refine ⟨_,_,World.putObj_heap_same hr,?_,hG',HY e4,?_,?_⟩
   ·unfold vo;rw [if_pos aAl,<-e2,rj];apply jt;intro i;rw [aS,eI,aS,aS]
    cases hi:es.toList[i]? with
    |none=>rfl
    |some x=>
     simp only [oK,Option.some.injEq];by_cases hij:i=j
     ·subst hij;rw [g3] at hi;cases hi;rw [if_pos rfl,if_pos (show (e.key,e.val).1=k from g4)];show (k,v)=(e.key,v);rw [g4]
     ·rw [if_neg hij,if_neg];intro hx;refine hij ?_;have hxe:x=e:=by rw [<-e2,pM] at e4;exact C0 e4 (aO hi) (aO g3) (show x.key=e.key from (show x.key=k from hx).trans g4.symm)
      have hnd:es.toList.Nodup:=by rw [<-e2,pM] at e4;exact Bh e4
      subst hxe;exact (List.getElem?_inj (by exact (bZ.1 hi).1) hnd).1 (hi.trans g3.symm)
   ·rw [rj];have:(es.toList.modify j λe=>{e with key:=k,val:=v}).map (·.born)=es.toList.map (·.born):=by
     apply jt;intro i;rw [aS,eI,aS]
     cases es.toList[i]? with
     |none=>rfl
     |some x=>simp only [oK];split<;>rfl
    rw [this];exact e5
   ·intro e' he';rw [rj] at he';obtain ⟨i,hi⟩:=tU he';rw [eI] at hi
    cases hx:es.toList[i]? with
    |none=>rw [hx] at hi;cases hi
    |some x=>
     rw [hx] at hi;have:=e6 x (aO hx);simp only [oK,Option.some.injEq] at hi;split at hi<;>(subst hi;exact this)
def U5{t kt et:TypeId}{z k:Value}{G:Value->Prop}{r:Nat}{kvs:List (Value × Value)}{w:World}{ty:TypeId}{ats:Array TypeId}(ha:ats[0]? =some t)(ht:vL P t=some (kt,et,z))(hk:jh P kt G)(hm:bS G w (some r) kvs)(hkG:G k):
  ∃w',(Builtin.delete_ ats ty #[.map (some r),k]).run P w=.ok (.tuple #[]) w'/\Rec r w w'/\bS G w' (some r) (HV kvs k):=by
 obtain ⟨h1,h2,h3,h4⟩:=qk ht;obtain ⟨es,clock,e1,e2,e3,e4,e5,e6⟩:=hm;have hr:=(Array.getElem?_eq_some_iff.1 e1).1;have hGe:∀e ∈ es.toList,G e.key:=λe hm=>e3 (e.key,e.val) (by rw [<-e2];exact List.mem_map.2 ⟨e,hm,rfl⟩)
 obtain ⟨rr,g1,g2⟩:=vK hk h2 hkG es.toList w hGe;have fa:(HV kvs k).Sublist kvs:=List.filter_sublist;unfold Builtin.delete_;simp only [ha,show (#[Value.map (some r),k]:Array Value)[0]? =some (.map (some r)) from rfl,show (#[Value.map (some r),k]:Array Value)[1]? =some k from rfl,Sem.run_bind,aF,h1,Result.andThen_ok,qh e1,pf hk hkG,g1]
 cases rr with
 |none=>
  refine ⟨w.putObj r (.map es clock),by rw [Sem.run_bind,tG e1];rfl,Rec.putObj _ _ _,es,clock,World.putObj_heap_same hr,?_,λe he=>e3 e (fa.subset he),(fa.map _).nodup e4,e5,e6⟩;rw [e2];unfold HV;symm;rw [List.filter_eq_self];intro e he;rw [<-e2] at he;obtain ⟨e',h5,rfl⟩:=List.mem_map.1 he;simpa using g2 e' h5
 |some p=>
  obtain ⟨j,v'⟩:=p;obtain ⟨e,g3,g4,g5⟩:=g2;have hj:j<es.toList.length:=(List.getElem?_eq_some_iff.1 g3).1;have hl:(es.eraseIdxIfInBounds j).toList=es.toList.eraseIdx j:=by unfold Array.eraseIdxIfInBounds;rw [dif_pos (by simpa using hj),Array.toList_eraseIdx]
  have hs:(es.toList.eraseIdx j).Sublist es.toList:=List.eraseIdx_sublist _ _;refine ⟨w.putObj r (.map (es.eraseIdxIfInBounds j) clock),by rw [Sem.run_bind,tG e1];rfl,Rec.putObj _ _ _,_,clock,World.putObj_heap_same hr,?_,λe he=>e3 e (fa.subset he),(fa.map _).nodup e4,?_,?_⟩
  ·rw [hl,<-e2];have hnd:(es.toList.map (·.key)).Nodup:=by rw [<-e2,List.map_map] at e4;exact e4
   clear hl hs e2 e3 e4 e5 e6 hGe g1 fa e1 hr h1 h2 h3 h4;generalize es.toList=l at*;unfold HV
   induction l generalizing j with
   |nil=>simp at hj
   |cons x l ih=>
    rw [List.map_cons,List.nodup_cons] at hnd
    cases j with
    |zero=>
     simp at g3;subst g3;simp only [List.eraseIdx_cons_zero,List.map_cons];rw [List.filter_cons_of_neg (by simpa using g4)];symm;rw [List.filter_eq_self];intro y hy;obtain ⟨y',h5,rfl⟩:=List.mem_map.1 hy;have:y'.key≠k:=λhh=>hnd.1 (List.mem_map.2 ⟨y',h5,by rw [hh,g4]⟩)
     simpa using this
    |succ j=>
     have hx:x.key≠k:=λhh=>hnd.1 (List.mem_map.2 ⟨e,List.mem_of_getElem? (by simpa using g3),by rw [g4,hh]⟩)
     simp only [List.eraseIdx_cons_succ,List.map_cons];rw [List.filter_cons_of_pos (by simpa using hx),ih j (by simpa using g3) (by simpa using hj) hnd.2]
  ·rw [hl];exact e5.sublist (hs.map _)
  ·intro e' he';rw [hl] at he';exact e6 e' (hs.subset he')
def ad1{t kt et:TypeId}{G:Value->Prop}{r:Option Nat}{kvs:List (Value × Value)}{w:World}{ty:TypeId}{ats:Array TypeId}(ha:ats[0]? =some t)(ht:P.underlying t=some (.map kt et))(hm:bS G w r kvs):
  (Builtin.len_ ats ty #[.map r]).run P w=.ok (.int .i64 kvs.length) w:=by
 cases r with
 |none=>
  have:kvs=[]:=hm;subst this;simp [Builtin.len_,ha,aF,ht,goInt]
 |some r=>
  obtain ⟨es,clock,e1,e2,_⟩:=hm;have:kvs.length=es.size:=by rw [<-e2];simp
  simp [Builtin.len_,ha,aF,ht,goInt,qh e1,this]
def ad2(P:Program)(s:St)(d:Option Tmp)(t:TypeId)(m k:Value)(ok:Bool)(K:St->Prop):Prop:=
 match vL P t,m with
 |some (kt,et,z),.map r=>∃(G:Value->Prop)(kvs:List (Value × Value)),jh P kt G/\bS G s.w r kvs/\G k/\
  (uw P et).ex λv=>∃b:Bool,JD kvs k z v b/\K (s.put d (.val (match ok with|true=> .tuple #[v,.bool b]|false=>v)))
 |_,_=>False
def ad3(P:Program)(s:St)(d:Option Tmp)(t:TypeId)(m k v:Value)(l:List SV)(K:St->Prop):Prop:=
 match vL P t,m with
 |some (kt,_,_),.map r=>∃(G:Value->Prop)(kvs:List (Value × Value)),jh P kt G/\r.isSome=true/\bS G s.w r kvs/\G k/\
  ∀w1,Rec (r.getD 0) s.w w1->bS G w1 r (vo kvs k v)->K (({s.kill l with w:=w1}).put d (.val undef))
 |_,_=>False
def ajU(P:Program)(s:St)(d:Option Tmp)(ats:List TypeId)(m k:Value)(K:St->Prop):Prop:=
 match ats,m with
 |t::_,.map r=>match vL P t with
  |some (kt,_,_)=>∃(G:Value->Prop)(kvs:List (Value × Value)),jh P kt G/\r.isSome=true/\bS G s.w r kvs/\G k/\
   ∀w1,Rec (r.getD 0) s.w w1->bS G w1 r (HV kvs k)->K (({s with w:=w1}).put d (.val (.tuple #[])))
  |none=>False
 |_,_=>False
def ad4(P:Program)(s:St)(d:Option Tmp)(ats:List TypeId)(m:Value)(K:St->Prop):Prop:=
 match ats,m with
 |t::_,.map r=>match vL P t with
  |some _=>∃(G:Value->Prop)(kvs:List (Value × Value)),bS G s.w r kvs/\K (s.put d (.val (.int .i64 kvs.length)))
  |none=>False
 |_,_=>False
def Xb(P:Program)(s:St)(d:Option Tmp)(t:TypeId)(h:Option Value)(K:St->Prop):Prop:=
 match vL P t,uY h with
 |some _,some _=>∀w1,w1=s.w.alloc (.map #[] 0)->K ({s with w:=w1}.put d (.val (.map (some s.w.heap.size))))
 |_,_=>False
def bS.wo{G:Value->Prop}{w:World}{r:Nat}{kvs:List (Value × Value)}(h:bS G w (some r) kvs):∀c t f,w.heap[r]?≠some (.cells c t f):=by obtain ⟨es,clock,e1,_⟩:=h;intro c t f e;rw [e1] at e;cases e
def ZS{t:TypeId}{h:Option Value}{x:TypeId × TypeId × Value}{y:Option Int}(ht:vL P t=some x)(hh:uY h=some y)(w:World):(Instr.makeMap t h).run P w=.ok (.map (some w.heap.size)) (w.alloc (.map #[] 0)):=by
 obtain ⟨kt,et,z⟩:=x;obtain ⟨h1,_⟩:=qk ht
 cases h with
 |none=>simp [Instr.makeMap,kI]
 |some v=>
  cases v<;>simp [uY] at hh
  simp [Instr.makeMap,aF,h1,asInt,asIntOf,kI]
end
def vM(P:Program)(t:TypeId)(len:Nat)(parts:Array (Nat × Value)):Option (TypeId × Array Value):=
 match pK P t with
 |none=>none
 |some (e,i)=>match i.zero with
  |none=>none
  |some z=>match len with
   |0=>(match parts.toList with| []=>some (e,#[])|_=>none)
   |len=>if ¬len*i.size>2 ^ 24/\¬len*i.size=0 then
    (Instr.fill (λj=>some (j*i.size,i.size)) ((Array.range (len*i.size)).map (z.cells[· % z.cells.size]!)) parts.toList).map λcs=>(e,cs)
    else none
def pg(P:Program)(s:St)(d:Option Tmp)(t:TypeId)(len:Nat)(parts:Array (Nat × Value))(K:St->Prop):Prop:=
 match vM P t len parts with
 |some (e,cells)=>∀w1,w1=s.w.alloc (.cells cells e)->K ({s with w:=w1,kn:=s.kn++ [KB.mk s.w.heap.size cells.toList e true]}.put d (.sli s.kn.length len))
 |none=>False
def ui{t:TypeId}{len:Nat}{parts:Array (Nat × Value)}{e:TypeId}{cells:Array Value}(h:vM P t len parts=some (e,cells))(w:World):
  (Instr.buildSlice t len parts).run P w=.ok (.slice (some ⟨w.heap.size,0,none⟩) len len) (w.alloc (.cells cells e)):=by
 unfold vM at h;split at h
 ·cases h
 rename_i e' i he;obtain ⟨ht,hi⟩:=ku he;split at h
 ·cases h
 rename_i z hz;split at h
 ·split at h
  ·rename_i hp
   cases h
   obtain ⟨l⟩:=parts;simp only at hp;subst hp;simp [Instr.buildSlice,aF,ht,sizeOf,typeInfo,hi,Instr.fill,newRow];congr 2;exact Array.eq_empty_of_size_eq_zero bg
  ·cases h
 ·split at h
  ·rename_i hl
   cases hf:Instr.fill (λj=>some (j*i.size,i.size)) ((Array.range (len*i.size)).map (z.cells[· % z.cells.size]!)) parts.toList with
   |none=>rw [hf] at h;cases h
   |some cs=>
    rw [hf] at h
    cases h
    exact run_buildSlice w t e len parts cells i z ht hi hz hl.1 hl.2 hf
  ·cases h
def Bi{d:Option Tmp}{t:TypeId}{len:Nat}{parts:Array (Nat × Value)}(bc:s.Ok)(h:pg P s d t len parts K):
  ∃v w',(Instr.buildSlice t len parts).run P s.w=.ok v w'/\jr d s K (s.act.put d v) w':=by
 unfold pg at h;split at h
 ·rename_i e cells hc;refine ⟨_,_,ui hc s.w,?_⟩;have IF:∀j,j<s.w.heap.size->(s.w.alloc (.cells cells e)).heap[j]? =s.w.heap[j]? :=λj hj=>Below.heap_alloc _ _ _ hj
  have zg:(s.w.alloc (.cells cells e)).heap[s.w.heap.size]? =some (.cells cells e (0,0)):=by show (s.w.heap.push _)[s.w.heap.size]? =_;simp
  have key:∀(i:Nat)(x:KB),(s.kn++ [KB.mk s.w.heap.size cells.toList e true])[i]? =some x->(i<s.kn.length/\s.kn[i]? =some x)\/(i=s.kn.length/\x=KB.mk s.w.heap.size cells.toList e true):=by
   intro i x hx;rcases jq i s.kn.length with iQ|Ny
   ·exact .inl ⟨iQ,by rwa [pJ iQ] at hx⟩
   ·rw [qH Ny] at hx
    cases hz:i-s.kn.length with
    |zero=>simp [hz] at hx;subst hx;exact .inr ⟨aa,rfl⟩
    |succ n=>simp [hz] at hx
  have h:=h _ rfl;refine lE h bc rfl (Gf _ _) (λk kb h1 h2=> ?_) (λi j x y h1 h2 h3 h4 h5=> ?_) (show s.kn.length<(s.kn++ [_]).length by simp) ?_ rfl
  ·rcases key k kb h1 with ⟨_,a2⟩|⟨_,rfl⟩
   ·rw [<-bc.aZ k kb a2 h2];exact IF _ (bc.lt k kb a2 h2)
   ·simpa using zg
  ·rcases key i x h1 with ⟨a1,a2⟩|⟨a1,rfl⟩<;>rcases key j y h2 with ⟨b1,b2⟩|⟨b1,rfl⟩
   ·exact bc.ne i j x y a2 b2 h3 h4 h5
   ·have:=bc.lt i x a2 h3;simp only at h5;omega
   ·have:=bc.lt j y b2 h4;simp only at h5;omega
   ·omega
  ·simp [SV.bM,dO]
 ·cases h
def okT(P:Program)(t:TypeId):Bool:=match P.underlying t with|some _=>true|none=>false
def okI(P:Program)(t:TypeId):Bool:=match P.info? t with|some _=>true|none=>false
def vN{t:TypeId}(h:okT P t=true):(P.underlying t).isSome=true:=by unfold okT at h;split at h<;>simp_all
def ad5{t:TypeId}(h:okI P t=true):(P.info? t).isSome=true:=by unfold okI at h;split at h<;>simp_all
def M3(s:St)(parts:Array (Nat × Operand)):Array (Nat × Value):=parts.map λp=>(p.1,s.ev p.2)
def M4(P:Program)(s:St)(d:Option Tmp)(t:TypeId)(x i:Value)(K:St->Prop):Prop:=
 match x,i,qG P t with
 | .agg cs,.int _ i,some (n,e)=>match uw P e,iT P e,okT P e with
   | .sc c,some z,true=>(0<=i/\i<(n:Int))/\c.ex λv=>cs.toList[i.toNat*z]? =some v/\K (s.put d (.val v))
   | .agg l,some z,true=>(0<=i/\i<(n:Int))/\exL l λvs=>(cs.toList.drop (i.toNat*z)).take z=vs/\K (s.put d (.val (.agg vs.toArray)))
   |_,_,_=>False
 |_,_,_=>False
def M5{d:Option Tmp}{t:TypeId}{x i:Value}(bc:s.Ok)(h:M4 P s d t x i K):∃v,(Instr.index t x i).run P s.w=.ok v s.w/\jr d s K (s.act.put d v) s.w:=by
 unfold M4 at h;split at h
 ·rename_i cs k i n e ha;have hu:P.underlying t=some (.array n e):=by
   unfold qG at ha;split at ha
   ·rename_i hu;cases ha;exact hu
   ·cases ha
  split at h
  ·rename_i c z ht hz hue;obtain ⟨hb,hex⟩:=h;obtain ⟨v,hv,hk⟩:=S.mI hex;have hz':(sizeOf e).run P s.w=.ok z s.w:=by
    unfold iT at hz
    cases hi':P.info? e with
    |none=>simp [hi'] at hz
    |some i'=>simp [hi'] at hz;rw [ft (by simp [hi'])];simp [gD,hi',hz]
   refine ⟨v,?_,fU bc hk⟩;have hp:=(zO (P:=P) (t:=e) (cs:=cs) (off:=i.toNat*z) s.w (by have:=vN hue;cases hq:P.underlying e<;>simp_all)).2 (O1 ht) v (by simpa using hv);simp [Instr.index,asIntOf,aF,hu,hb,hz',hp]
  ·rename_i l z ht hz hue;obtain ⟨hb,hex⟩:=h;obtain ⟨vs,hv,hk⟩:=L6 hex;have hz':(sizeOf e).run P s.w=.ok z s.w:=by
    unfold iT at hz
    cases hi':P.info? e with
    |none=>simp [hi'] at hz
    |some i'=>simp [hi'] at hz;rw [ft (by simp [hi'])];simp [gD,hi',hz]
   have hsz:gD P e=z:=by unfold iT at hz;unfold gD;rw [hz];rfl
   refine ⟨_,?_,fU bc hk⟩;have hp:=(zO (P:=P) (t:=e) (cs:=cs) (off:=i.toNat*z) s.w (by have:=vN hue;cases hq:P.underlying e<;>simp_all)).1 (Gi ht);rw [hsz,hv] at hp;simp [Instr.index,asIntOf,aF,hu,hb,hz',hp]
  ·cases h
 ·cases h
def ad6(P:Program)(src dst:TypeId):Bool:=
 match P.underlying src,P.underlying dst with
 |some (.slice e),some .string=>match P.underlying e with|some (.int .u8)=>true|_=>false
 |_,_=>false
def Xc(P:Program)(s:St):Op->Option (Option Addr × Nat)
 | .convert src dst x=>match ad6 P src dst with
   |true=>match s.ev x with| .slice a n _=>some (a,n)|_=>none
   |false=>none
 |_=>none
def Lr{o:Oper}{a:Option Addr}{n:Nat}(h:Xc P s o.op=some (a,n)){ns:List Int}(hn:ns.length=n){w':World}(hl:ah w' a 0 (ns.map (Value.int .u8))):
  (execOp s.ev o).run P w'=.ok (.value (.string (strOfNums ns))) w':=by
 obtain ⟨dst,op,ty,pos,after,guard⟩:=o;simp only at h;unfold Xc at h;split at h
 ·rename_i src dst' x;split at h
  ·rename_i hb;split at h
   ·rename_i a' n' c hx
    cases h
    unfold ad6 at hb;split at hb
    ·rename_i e hs hd;split at hb
     ·rename_i he;show (do pure (Next.value (<-convert src dst' (s.ev x))):Sem Next).run P w'=_;have key:(convert src dst' (s.ev x)).run P w'=.ok (.string (strOfNums ns)) w':=by
       rw [hx]
       cases a with
       |none=>
        have:ns=[]:=by
         cases ns with
         |nil=>rfl
         |cons v r=>have:=nH hl 0 bg;simp [Vc.ld,af] at this
        subst this;rw [run_convert_bytes_nil w' src e hs he _ _ dst' hd];rfl
       |some b=>
        have hc:=run_loadCells_list (P:=P) (w:=w') b (ns.map (Value.int .u8)) (λj v hj=>by have:=nH hl j (bZ.1 hj).1;rw [eC,hj] at this;exact this);rw [aL,hn] at hc;rw [run_convert_bytes_string w' src dst' e _ n c hs he hd,run_bytesToString w' _ n c ns hc,foldl_push_bytes];simp [strOfNums,ByteArray.empty,ByteArray.emptyWithCapacity];rfl
      rw [Sem.run_bind,key];rfl
     ·cases hb
    ·cases hb
   ·cases h
  ·cases h
 ·cases h
def Ls(P:Program)(t:TypeId):Bool:=match P.underlying t with|some (.interface _)=>false|some _=>true|none=>false
def U6{t:TypeId}{v:Value}(h:Ls P t=true)(w:World):(Instr.makeInterface t v).run P w=.ok (.iface t v) w:=by
 unfold Ls at h;split at h
 ·cases h
 ·rename_i d hd hZ;simp only [Instr.makeInterface,Sem.run_bind,aF,hd,Result.andThen_ok]
  cases d<;>simp_all
 ·cases h
def U7{a xT:TypeId}{v:Value}(h:Ls P a=true)(w:World):(Instr.typeAssert (.iface a v) xT a false).run P w=.ok v w:=by
 unfold Ls at h;split at h
 ·cases h
 ·rename_i d hd hZ;simp only [Instr.typeAssert,Sem.run_bind,aF,hd,Result.andThen_ok]
  cases d<;>simp_all
 ·cases h
def Lt(P:Program)(s:St)(o:Oper)(K:St->Prop):Prop:=
 match o.op with
 | .index t x i=>M4 P s o.dst t (s.ev x) (s.ev i) K
 | .load t x=>match okT P t with|true=>Gh P s o.dst t (s.sv x) K|false=>False
 | .store t x v=>match okI P t with|true=>Mc P s o.dst t (s.sv x) (s.sv v) K|false=>False
 | .box t v=>match B0 P t with
   |true=>B2 P (s.kill [s.sv v]) o.dst t (cellsOf (s.ev v)) K
   |false=>aT (lF (s.ev v)) (B2 P (s.kill [s.sv v]) o.dst t [s.ev v] K)
 | .alloc t=>match zeroOf P t with|some cs=>B2 P s o.dst t cs K|none=>False
 | .build t parts=>match P.built t (parts.toList.map λ(i,x)=>(i,s.ev x)) with
   |some cs=>K ((s.kill (parts.toList.map λ(_,x)=>s.sv x)).put o.dst (.val (.agg cs)))
   |none=>False
 | .buildSlice t len parts=>pg P (s.kill (parts.toList.map λ(_,x)=>s.sv x)) o.dst t len (M3 s parts) K
 | .makeFunc fn first captured=>K ((s.kill ((first++captured).toList.map s.sv)).put o.dst (.val (.func fn (first.toList.map s.ev).toArray (captured.toList.map s.ev).toArray)))
 | .lookup t x k ok=>ad2 P s o.dst t (s.ev x) (s.ev k) ok K
 | .mapUpdate t m k v| .insert t m k v=>ad3 P s o.dst t (s.ev m) (s.ev k) (s.ev v) [s.sv k,s.sv v] K
 | .makeMap t h=>Xb P s o.dst t (h.map s.ev) K
 | .call ⟨.builtin .delete,args,ats⟩=>match args.toList with
   | [m,k]=>ajU P s o.dst ats.toList (s.ev m) (s.ev k) K
   |_=>False
 | .makeSlice t l c=>Tx P s o.dst t (s.ev l) (s.ev c) K
 | .call ⟨.builtin .copy,args,ats⟩=>match args.toList with
   | [x,y]=>Tz P s o.dst ats.toList (s.ev x) (s.ev y) K
   |_=>False
 | .call ⟨.builtin .clear,args,ats⟩=>match args.toList with
   | [x]=>Mf P s o.dst ats.toList (s.ev x) K
   |_=>False
 | .call ⟨.builtin .len,args,ats⟩=>match args.toList with
   | [m]=>ad4 P s o.dst ats.toList (s.ev m) K
   |_=>False
 | .call ⟨.value x,args,_⟩=>HX P s o.dst o.type (s.ev x) (args.toList.map s.sv) K
 | .call ⟨.builtin .append,args,ats⟩=>match args.toList,ats.toList with
   | [x,y],[t,tx]=>Gm P s o.dst t tx (s.sv x) (s.sv y) K
   |_,_=>False
 | .convert .. =>match Xc P s o.op with
   |some (a,n)=>∃ns:List Int,ns.length=n/\ah s.w a 0 (ns.map (Value.int .u8))/\K (s.put o.dst (.val (.string (strOfNums ns))))
   |none=>False
 | .makeInterface t x=>match Ls P t with|true=>K ((s.kill [s.sv x]).put o.dst (.val (.iface t (s.ev x))))|false=>False
 | .typeAssert x _ a false=>match Ls P a with|true=>(uw P a).ex λv=>s.ev x=.iface a v/\K (s.put o.dst (.val v))|false=>False
 |_=>False
def ZT(P:Program)(s:St)(o:Oper)(K:St->Prop):Prop:=
 match dX P s o.op with
 |some (cs,sv)=>aT cs (K (s.put o.dst sv))
 |none=>Lt P s o K
def Bj{d:Option Tmp}{s1:St}{a:Act}{w:World}(bc:s.Ok)(h1:s1.sl=s.sl)(h2:ux s.kn s1.kn)(h:jr d s1 K a w)(hdf:s1.df=s.df:=by first|rfl|exact oY _ _):jr d s K a w:=by
 obtain ⟨s',a1,a2,a3,a4,a5⟩:=h;refine ⟨s',a1,a2,a3,⟨a4.len.trans (by rw [h1]),λi hi=>(a4.slot i hi).trans ?_,h2.trans a4.kn,by rw [<-hdf];exact a4.df⟩,a5⟩;rw [h1];simp only [dO]
 cases hg:s.sl[i]? with
 |none=>rfl
 |some u=>exact h2.bM (bc.nE i u hg)
def nY{l:List SV}(bc:s.Ok):(s.kill l).act=s.act:=by
 obtain ⟨k1,k2,k3,k4,k5⟩:=fE l bc;simp only [St.act,k2,oY];congr 2;refine zP λx hx=> ?_
 obtain ⟨i,hi⟩:=tU hx;exact k4.bM (bc.nE i x hi)
def Q3(hP:EN P)(bc:s.Ok)(hny:∀x args ats l f c,o.op=.call ⟨.value x,args,ats⟩->s.ev x≠ .func (.yield l) f c)(h:Lt P s o K):o.wp P s.act s.w (jr o.dst s K) Q:=by
 obtain ⟨dst,op,ty,pos,after,guard⟩:=o;unfold Lt at h;simp only at h;have ev:∀{s':Sem Value} {v:Value} {w':World},(execOp s.ev ⟨dst,op,ty,pos,after,guard⟩=do pure (.value (<-s')))->s'.run P s.w=.ok v w'->jr dst s K (s.act.put dst v) w'->
   (Oper.mk dst op ty pos after guard).wp P s.act s.w (jr dst s K) Q:=by
  intro s' v w' h1 h2 h3;unfold Oper.wp;rw [St.eval_eq,h1,Sem.run_bind,h2];exact h3
 split at h
 ·rename_i t x i;obtain ⟨v,h1,h2⟩:=M5 bc h;exact ev (s':=Instr.index t (s.ev x) (s.ev i)) rfl h1 h2
 ·rename_i t x;split at h
  ·rename_i hu;obtain ⟨a,v,h1,h2,h3⟩:=Gk bc (vN hu) h;refine ev (s':=Instr.loadAt t (s.ev x)) rfl ?_ (fU bc h2);rw [St.ev,h1];exact h3
  ·cases h
 ·rename_i t x v;split at h
  ·rename_i hu;obtain ⟨a,w',h1,h2,h3⟩:=Md bc (ad5 hu) h;unfold Oper.wp;rw [St.eval_eq];have:execOp s.ev ⟨dst,.store t x v,ty,pos,after,guard⟩=(do Instr.storeAt t (s.ev x) (s.ev v);pure .skip):=rfl;rw [this,Sem.run_bind,St.ev,h1];simp only [St.ev] at h2 ⊢;rw [h2];exact h3
  ·cases h
 ·rename_i t v;have h:B2 P (s.kill [s.sv v]) dst t (cellsOf (s.ev v)) K:=by
   revert h
   cases B0 P t with
   |true=>exact id
   |false=>
    intro h;obtain ⟨h1,h2⟩:=bz.1 h;have:cellsOf (s.ev v)=[s.ev v]:=by
     generalize s.ev v=x at h1
     cases x<;>first|rfl|exact (h1 False (by simp [lF])).elim
    rw [this];exact h2
  obtain ⟨k1,k2,k3,k4,k5⟩:=fE [s.sv v] bc;have h3:=Bj bc k2 k4 (Gg k1 h);rw [nY bc,k3] at h3;exact ev (s':=Instr.box t (s.ev v)) rfl (Wk _) h3
 ·rename_i t;split at h
  ·rename_i cs hz;exact ev (s':=Instr.alloc t true (.tuple #[])) rfl (Kz hz _) (Gg bc h)
  ·cases h
 ·rename_i t parts;split at h
  ·rename_i cs hb;obtain ⟨k1,k2,k3,k4,k5⟩:=fE (parts.toList.map λ(_,x)=>s.sv x) bc;have h3:=Bj bc k2 k4 (fU k1 h);rw [nY bc,k3] at h3;refine ev (s':=Instr.build t (parts.map λ(i,x)=>(i,s.ev x))) rfl (run_build _ _ _ _ ?_) h3;simpa using hb
  ·cases h
 ·rename_i t len parts;obtain ⟨k1,k2,k3,k4,k5⟩:=fE (parts.toList.map λ(_,x)=>s.sv x) bc;obtain ⟨v,w',h1,h2⟩:=Bi k1 h;have h3:=Bj bc k2 k4 h2;rw [nY bc] at h3;rw [k3] at h1;exact ev (s':=Instr.buildSlice t len (M3 s parts)) rfl h1 h3
 ·rename_i fn first captured;obtain ⟨k1,k2,k3,k4,k5⟩:=fE ((first++captured).toList.map s.sv) bc;have h3:=Bj bc k2 k4 (fU k1 h);rw [nY bc,k3] at h3;refine ev (s':=Instr.makeFunc fn (first.map s.ev) (captured.map s.ev)) (v:=.func fn (first.map s.ev) (captured.map s.ev)) (w':=s.w) rfl rfl ?_;have e1:(first.toList.map s.ev).toArray=first.map s.ev:=by apply Array.ext';simp
  have e2:(captured.toList.map s.ev).toArray=captured.map s.ev:=by apply Array.ext';simp
  rw [e1,e2] at h3;exact h3
 ·rename_i t x k ok;unfold ad2 at h;split at h
  case h_2=>exact h.elim
  rename_i kt et z r ht hx;obtain ⟨G,kvs,hk,hm,hG,hex⟩:=h;obtain ⟨v,b,hl,hK⟩:=T1.mI hex;refine ev (s':=Instr.lookup t (s.ev x) (s.ev k) ok) rfl ?_ (fU bc hK);rw [hx,U4 ht hk hm hG ok hl]
  cases ok<;>rfl
 ·rename_i t m k v;unfold ad3 at h;split at h
  case h_2=>exact h.elim
  rename_i kt et z r ht hx;obtain ⟨G,kvs,hk,hr,hm,hG,hK⟩:=h;obtain ⟨r,rfl⟩:=rL.1 hr;obtain ⟨w',h1,h2,h3⟩:=HZ (v:=s.ev v) ht hk hm hG;unfold Oper.wp;rw [St.eval_eq];have:execOp s.ev ⟨dst,.mapUpdate t m k v,ty,pos,after,guard⟩=(do Instr.mapUpdate t (s.ev m) (s.ev k) (s.ev v);pure .skip):=rfl;rw [this,Sem.run_bind,hx,h1];obtain ⟨k1,k2,k3,k4,k5⟩:=fE [s.sv k,s.sv v] bc;have og:=yQ k1 (D:=r) (w':=w') (by rw [k3];exact hm.wo) (by rw [k3];exact h2);exact kA (v:=.val undef) (hK w' h2 h3) bc og k2 k4 trivial rfl rfl
 ·rename_i t m k v;unfold ad3 at h;split at h
  case h_2=>exact h.elim
  rename_i kt et z r ht hx;obtain ⟨G,kvs,hk,hr,hm,hG,hK⟩:=h;obtain ⟨r,rfl⟩:=rL.1 hr;obtain ⟨w',h1,h2,h3⟩:=HZ (v:=s.ev v) ht hk hm hG;unfold Oper.wp;rw [St.eval_eq];have:execOp s.ev ⟨dst,.insert t m k v,ty,pos,after,guard⟩=(do Instr.mapUpdate t (s.ev m) (s.ev k) (s.ev v);pure .skip):=rfl;rw [this,Sem.run_bind,hx,h1];obtain ⟨k1,k2,k3,k4,k5⟩:=fE [s.sv k,s.sv v] bc;have og:=yQ k1 (D:=r) (w':=w') (by rw [k3];exact hm.wo) (by rw [k3];exact h2);exact kA (v:=.val undef) (hK w' h2 h3) bc og k2 k4 trivial rfl rfl
 ·rename_i t hh;unfold Xb at h;split at h
  case h_2=>exact h.elim
  rename_i x y ht hy;have zg:=h _ rfl;have vW:=ZS ht hy s.w;refine ev (s':=Instr.makeMap t (hh.map s.ev)) rfl vW ?_;exact lE (s1:={s with w:=s.w.alloc (.map #[] 0)}) (v:=.val (.map (some s.w.heap.size))) zg bc rfl (ux.refl _) (λk kb h1 h2=>by rw [<-bc.aZ k kb h1 h2];exact Below.heap_alloc _ _ _ (bc.lt k kb h1 h2)) bc.ne trivial rfl rfl
 ·rename_i args ats;split at h
  case h_2=>exact h.elim
  rename_i m k ha;unfold ajU at h;split at h
  case h_2=>exact h.elim
  rename_i t rest r Jc hx;split at h
  case h_2=>exact h.elim
  rename_i kt et z ht;obtain ⟨G,kvs,hk,hr,hm,hG,hK⟩:=h;obtain ⟨r,rfl⟩:=rL.1 hr;obtain ⟨args⟩:=args;simp only at ha;subst ha;have hat0:ats[0]? =some t:=by rw [<-Array.getElem?_toList,Jc];rfl
  obtain ⟨w',h1,h2,h3⟩:=U5 (ty:=ty) hat0 ht hk hm hG;refine ev (s':=Builtin.delete_ ats ty #[s.ev m,s.ev k]) ?_ (by rw [hx];exact h1) ?_
  ·rw [BigFrame.execOp_builtin];have:Array.map s.ev #[m,k]= #[s.ev m,s.ev k]:=by simp
   rw [this];rfl
  ·have og:=yQ bc (D:=r) (w':=w') hm.wo h2;exact kA (v:=.val (.tuple #[])) (hK w' h2 h3) bc og rfl (ux.refl _) trivial rfl rfl
 ·rename_i t l c;obtain ⟨v,w',h1,h2⟩:=O6 bc h;exact ev (s':=Instr.makeSlice t (s.ev l) (s.ev c)) rfl h1 h2
 ·rename_i args ats;split at h
  case h_2=>exact h.elim
  rename_i x y ha;obtain ⟨args⟩:=args;simp only at ha;subst ha;obtain ⟨v,w',h1,h2⟩:=O7 (ty:=ty) bc h;refine ev (s':=Builtin.copy_ ats ty #[s.ev x,s.ev y]) ?_ h1 h2;rw [BigFrame.execOp_builtin];have:Array.map s.ev #[x,y]= #[s.ev x,s.ev y]:=by simp
  rw [this];rfl
 ·rename_i args ats;split at h
  case h_2=>exact h.elim
  rename_i x ha;obtain ⟨args⟩:=args;simp only at ha;subst ha;obtain ⟨v,w',h1,h2⟩:=Mg (ty:=ty) bc h;refine ev (s':=Builtin.clear_ ats ty #[s.ev x]) ?_ h1 h2;rw [BigFrame.execOp_builtin];have:Array.map s.ev #[x]= #[s.ev x]:=by simp
  rw [this];rfl
 ·rename_i args ats;split at h
  case h_2=>exact h.elim
  rename_i m ha;unfold ad4 at h;split at h
  case h_2=>exact h.elim
  rename_i t rest r Jc hx;split at h
  case h_2=>exact h.elim
  rename_i x ht;obtain ⟨kt,et,z⟩:=x;obtain ⟨G,kvs,hm,hK⟩:=h;obtain ⟨args⟩:=args;simp only at ha;subst ha;have hat0:ats[0]? =some t:=by rw [<-Array.getElem?_toList,Jc];rfl
  refine ev (s':=Builtin.len_ ats ty #[s.ev m]) ?_ (by rw [hx];exact ad1 (ty:=ty) hat0 (qk ht).1 hm) (fU bc hK);rw [BigFrame.execOp_builtin];have:Array.map s.ev #[m]= #[s.ev m]:=by simp
  rw [this];rfl
 ·exact ahU hP bc (λl f c=>hny _ _ _ l f c rfl) h
 ·rename_i args ats;split at h
  ·rename_i x y t tx ha ht;obtain ⟨args⟩:=args;obtain ⟨ats⟩:=ats;simp only at ha ht;subst ha ht;obtain ⟨v,w',h1,h2⟩:=Jo (ty:=ty) bc h;unfold Oper.wp;rw [St.eval_eq,BigFrame.execOp_builtin,BigFrame.builtin_append];have:Array.map s.ev #[x,y]= #[s.ev x,s.ev y]:=by simp
   rw [this,Sem.run_bind];simp only [St.ev];rw [h1];exact h2
  ·cases h
 ·split at h
  ·rename_i a n hc;obtain ⟨ns,hn,hl,hk⟩:=h;unfold Oper.wp;rw [St.eval_eq,Lr hc hn hl];exact fU bc hk
  ·cases h
 ·rename_i t x;split at h
  ·rename_i hu;obtain ⟨k1,k2,k3,k4,k5⟩:=fE [s.sv x] bc;have h3:=Bj bc k2 k4 (fU k1 h);rw [nY bc,k3] at h3;exact ev (s':=Instr.makeInterface t (s.ev x)) rfl (U6 hu _) h3
  ·cases h
 ·rename_i x xT a;split at h
  ·rename_i hu;obtain ⟨v,e,hk⟩:=T1.mI h;refine ev (s':=Instr.typeAssert (s.ev x) xT a false) rfl ?_ (fU bc hk);rw [e];exact U7 hu _
  ·cases h
 ·cases h
def H0(hP:EN P)(bc:s.Ok)(h:ZT P s o K):o.wpY P s.act s.w (jr o.dst s K) Q:=by
 have hd:∀c,o.op≠ .defer c:=by intro c e;obtain ⟨dst,op,ty,pos,after,guard⟩:=o;simp only at e;subst e;exact h.elim
 by_cases hy:∃x args ats l f c,o.op=.call ⟨.value x,args,ats⟩/\s.ev x=.func (.yield l) f c
 ·obtain ⟨x,args,ats,l,f,c,e,hx⟩:=hy;obtain ⟨dst,op,ty,pos,after,guard⟩:=o;simp only at e;subst e;exact ZQ bc hx h
 ·refine ZP hd ?_;unfold ZT at h;split at h
  ·rename_i cs sv hp;exact wp_pure bc hp h
  ·exact Q3 hP bc (λx args ats l f c e hx=>hy ⟨x,args,ats,l,f,c,e,hx⟩) h
end
def sD(ops:Array Oper)(o:Oper)(s:St)(yes:St->Prop)(no:St->Prop):Prop:=
 match o.guard with
 |none=>yes s
 |some (j,want)=>match (ops[j]?).bind (·.dst) with
  |some d=>match s.sl.getD d (.val undef) with
   | .val (.bool b)=>Br b (match want with|true=>yes {s with sl:=s.sl.set d (.val (.bool true))}|false=>no {s with sl:=s.sl.set d (.val (.bool true))})
     (match want with|true=>no {s with sl:=s.sl.set d (.val (.bool false))}|false=>yes {s with sl:=s.sl.set d (.val (.bool false))})
   | .val (.tuple _)=>no s
   |_=>False
  |none=>False
def vcG(P:Program)(ops:Array Oper)(s:St)(o:Oper)(K:St->Prop):Prop:=
 sD ops o s (λs=>ZT P s o K) (λs=>K (s.put o.dst (.val undef)))
def M6(P:Program)(ops:Array Oper):List Oper->St->(St->Prop)->Prop
 | [],s,K=>K s
 |o::r,s,K=>vcG P ops s o λs'=>M6 P ops r s' K
def dstsOf(l:List Oper):List Nat:=l.filterMap (·.dst)
section
variable {P:Program} {s:St} {o:Oper} {K:St->Prop} {Q:Exit->Act->World->Prop} {ops:Array Oper}
structure M7(s s':St):Prop where
 act:s'.act=s.act
 w:s'.w=s.w
 ok:s'.Ok
 fr:Fr [] s s'
def M7.refl(h:s.Ok):M7 s s:=⟨rfl,rfl,h,Fr.refl _ _⟩
def ad7{d:Nat}{b:Bool}(bc:s.Ok)(h:s.sl.getD d (.val undef)=.val (.bool b)):M7 s {s with sl:=s.sl.set d (.val (.bool b))}:=by
 have hd:s.sl[d]? =some (.val (.bool b)):=by
  rw [dO] at h
  cases hh:s.sl[d]? with
  |none=>rw [hh] at h;cases h
  |some v=>rw [hh] at h;simp at h;rw [h]
 have:s.sl.set d (.val (.bool b))=s.sl:=by
  apply jt;intro i;rw [iD];split
  ·rename_i e;subst e;split
   ·exact hd.symm
   ·rename_i hl;rw [jv aa] at hd;cases hd
  ·rfl
 rw [this];exact M7.refl bc
def vO{yes no:St->Prop}(bc:s.Ok)(h:sD ops o s yes no):
  (Region.wanted o (yielded ops s.act.tmps)=true/\∃s',M7 s s'/\yes s')\/(Region.wanted o (yielded ops s.act.tmps)=false/\∃s',M7 s s'/\no s'):=by
 unfold sD at h;split at h
 ·rename_i hg;exact .inl ⟨by simp [Region.wanted,hg],s,M7.refl bc,h⟩
 ·rename_i j want hg;split at h
  ·rename_i d hd;have eI:s.act.tmps[d]? =(s.sl[d]?).map (SV.bM s.kn):=by simp [St.act]
   split at h
   ·rename_i b hb;have hs:s.sl[d]? =some (.val (.bool b)):=by
     rw [dO] at hb
     cases hh:s.sl[d]? with
     |none=>rw [hh] at hb;cases hb
     |some v=>rw [hh] at hb;simp at hb;rw [hb]
    have hy:yielded ops s.act.tmps j=some b:=by simp [yielded,hd,eI,hs,SV.bM]
    have hl:=ad7 bc hb
    cases b with
    |true=>
     have h:=Br.tt h rfl
     cases want with
     |true=>exact .inl ⟨by simp [Region.wanted,hg,hy],_,hl,h⟩
     |false=>exact .inr ⟨by simp [Region.wanted,hg,hy],_,hl,h⟩
    |false=>
     have h:=Br.ff h rfl
     cases want with
     |true=>exact .inr ⟨by simp [Region.wanted,hg,hy],_,hl,h⟩
     |false=>exact .inl ⟨by simp [Region.wanted,hg,hy],_,hl,h⟩
   ·rename_i b hb;refine .inr ⟨?_,s,M7.refl bc,h⟩;have hy:yielded ops s.act.tmps j=none:=by
     rw [dO] at hb
     cases hh:s.sl[d]? with
     |none=>simp [yielded,hd,eI,hh]
     |some v=>rw [hh] at hb;simp at hb;simp [yielded,hd,eI,hh,hb,SV.bM]
    simp [Region.wanted,hg,hy]
   ·cases h
  ·cases h
def jr.ad8{d:Option Tmp}{s1:St}{a:Act}{w:World}(hl:M7 s s1)(h:jr d s1 K a w):jr d s K a w:=by obtain ⟨s',h1,h2,h3,h4,h5⟩:=h;exact ⟨s',h1,h2,h3,(hl.fr.mono bg).trans h4,h5⟩
def U8(bc:s.Ok){d:Option Tmp}(h:K (s.put d (.val undef))):jr d s K (s.act.put d undef) s.w:=fU bc h
def ZU(hP:EN P)(bc:s.Ok)(h:vcG P ops s o K):
  (Region.wanted o (yielded ops s.act.tmps)=true/\o.wpY P s.act s.w (jr o.dst s K) Q)\/(Region.wanted o (yielded ops s.act.tmps)=false/\jr o.dst s K (s.act.put o.dst undef) s.w):=by
 rcases vO bc h with ⟨h1,s',hl,h2⟩|⟨h1,s',hl,h2⟩
 ·left;refine ⟨h1,?_⟩;have:=H0 (Q:=Q) hP hl.ok h2;rw [hl.act,hl.w] at this;exact Oper.sC (λa w hp=>jr.ad8 hl hp) this
 ·right;refine ⟨h1,?_⟩;have:=U8 hl.ok h2;rw [hl.act,hl.w] at this;exact jr.ad8 hl this
def ajV(W:List Nat)(s:St)(K:St->Prop):Act->World->Prop:=
 λa w=>∃s',s'.Ok/\s'.act=a/\s'.w=w/\Fr W s s'/\K s'
def H2{d:Option Tmp}{l:List Nat}(h:∀x,d=some x->x ∈ l):∀i ∈ d.toList,i ∈ l:=by
 intro i hi;cases d with
 |none=>cases hi
 |some x=>simp at hi;subst hi;exact h _ rfl
def U9(P:Program)(ops:Array Oper)(Q:Exit->Act->World->Prop):List Oper->Act->World->Prop
 | [],a,w=>Q .normal a w
 |o::r,a,w=>if Region.wanted o (yielded ops a.tmps) then o.wpY P a w (U9 P ops Q r) Q else U9 P ops Q r (a.put o.dst undef) w
def M8{F:Fence}{n:Nat}(hF:Wd F):∀(l:List Oper)(i:Nat)(a:Act)(w:World),(∀j,j<l.length->ops[i+j]? =l[j]?)->U9 P ops Q l a w->wpOpsIn F n P ops Q (List.range' i l.length) a w
 | [],i,a,w,_,h=>h
 |o::r,i,a,w,hl,h=>by
  have ho:ops[i]? =some o:=by simpa using hl 0 bg
  have hr:∀j,j<r.length->ops[i+1+j]? =r[j]? :=λj hj=>by have:=hl (j+1) (by simpa using hj);rw [show i+1+j=i+(j+1) by omega,this];simp
  show wpOpsIn F n P ops Q (i::List.range' (i+1) r.length) a w;rw [wpOpsIn_cons];unfold wpOpIn;simp only [ho];unfold U9 at h;split
  ·rename_i hw;rw [if_pos hw] at h;exact Ec hF (Oper.sC (λa w hh=>M8 hF r (i+1) a w hr hh) h)
  ·rename_i hw;rw [if_neg hw] at h;exact ⟨λf _=>hF.fn f,M8 hF r (i+1) _ w hr h⟩
def Bk(hP:EN P):∀(l:List Oper)(s:St)(Q:Exit->Act->World->Prop),s.Ok->M6 P ops l s K->(∀a w,ajV (dstsOf l) s K a w->Q .normal a w)->U9 P ops Q l s.act s.w
 | [],s,Q,bc,h,hq=>hq _ _ ⟨s,bc,rfl,rfl,Fr.refl _ _,h⟩
 |o::r,s,Q,bc,h,hq=>by
  unfold U9
  have step:∀a w,jr o.dst s (λs'=>M6 P ops r s' K) a w->U9 P ops Q r a w:=by
   rintro a w ⟨s',h1,rfl,rfl,h4,h5⟩;refine Bk hP r s' Q h1 h5 λa w hp=>hq a w ?_
   obtain ⟨s'',g1,g2,g3,g4,g5⟩:=hp;refine ⟨s'',g1,g2,g3,(h4.mono (H2 λx hx=> ?_)).trans (g4.mono λx hx=> ?_),g5⟩
   ·simp [dstsOf,hx]
   ·simp only [dstsOf,List.filterMap_cons];split
    ·exact hx
    ·exact DI _ hx
  rcases ZU (Q:=Q) hP bc h with ⟨h1,h2⟩|⟨h1,h2⟩
  ·rw [if_pos h1];exact Oper.sC step h2
  ·rw [if_neg (by simp [h1])];exact step _ _ h2
end
structure tH where
 i:Nat
 p:Option Addr
 vs:List Value
def tH.holds(q:tH)(w:World):Prop:=ah w q.p 0 q.vs
def Q4(o:Oper)(i:Nat):Bool:=o.after.any λe=>Region.binds .any e && e.on==i
def stays(ops:Array Oper)(j:Nat)(l:List tH):List tH:=l.filter λq=>match ops[j]? with|some o=> !Q4 o q.i|none=>true
section
variable {P:Program} {s:St} {o:Oper} {K:St->Prop} {Q:Exit->Act->World->Prop} {ops:Array Oper}
def uj(P:Program)(ops:Array Oper)(Q:Exit->Act->World->Prop)(i:Nat)(K:Act->World->Prop)(a:Act)(w:World):Prop:=
 match ops[i]? with
 |none=>K a w
 |some o=>if Region.wanted o (yielded ops a.tmps) then o.wpY P a w K Q else K (a.put o.dst undef) w
def tI{i:Nat}{a:Act}{w:World}{K K':Act->World->Prop}(h:∀a w,K a w->K' a w)(hh:uj P ops Q i K a w):uj P ops Q i K' a w:=by
 unfold uj at*;split
 ·exact h _ _ (by simpa [*] using hh)
 ·rename_i o ho;simp only [ho] at hh;split
  ·rename_i hw;simp only [hw,if_true] at hh;exact Oper.sC h hh
  ·rename_i hw;simp only [hw] at hh;exact h _ _ hh
def ad9{F:Fence}{n:Nat}(hF:Wd F){i:Nat}{a:Act}{w:World}{K:Act->World->Prop}(hh:uj P ops Q i K a w):wpOpIn F n P ops Q i K a w:=by
 unfold uj at hh;unfold wpOpIn;split
 ·simpa [*] using hh
 ·rename_i o ho;simp only [ho] at hh;split
  ·rename_i hw;simp only [hw,if_true] at hh;exact Ec hF hh
  ·rename_i hw;simp only [hw] at hh;exact ⟨λf _=>hF.fn f,hh⟩
def ZV(P:Program)(ops:Array Oper)(Q:Exit->Act->World->Prop):Nat->List tH->Array Bool->Act->World->Prop
 |0,_,listed,a,w=>Region.ready .any ops listed=[]/\Q .normal a w
 |fuel+1,l,listed,a,w=>
  (Region.ready .any ops listed=[]->Q .normal a w)/\
  ∀j ∈ Region.ready .any ops listed,uj P ops Q j (λa' w'=>(∀q ∈ stays ops j l,q.holds w')/\ZV P ops Q fuel (stays ops j l) (listed.setIfInBounds j true) a' w') a w
def Xd{F:Fence}{n:Nat}(hF:Wd F):∀(fuel:Nat)(l:List tH)(listed:Array Bool)(a:Act)(w:World),ZV P ops Q fuel l listed a w->wpAnyIn F n P .any ops Q fuel listed a w
 |0,_,_,_,_,h=>h
 |fuel+1,l,listed,a,w,h=>⟨h.1,λj hj=>ad9 hF (tI (λa' w' hk=>Xd hF fuel _ _ _ _ hk.2) (h.2 j hj))⟩
def pC{j:Nat}{l:List tH}{q:tH}(h:q ∈ stays ops j l):q ∈ l:=(ju.1 h).1
def H3:∀(fuel:Nat)(l l':List tH)(listed:Array Bool)(a:Act)(w:World),(∀q ∈ l',q ∈ l)->ZV P ops Q fuel l listed a w->ZV P ops Q fuel l' listed a w
 |0,_,_,_,_,_,_,h=>h
 |fuel+1,l,l',listed,a,w,hs,h=>⟨h.1,λj hj=>tI (λa' w' hk=>by
  have:∀q ∈ stays ops j l',q ∈ stays ops j l:=λq hq=>ju.2 ⟨hs q (pC hq),(ju.1 hq).2⟩
  exact ⟨λq hq=>hk.1 q (this q hq),H3 fuel _ _ _ _ _ this hk.2⟩) (h.2 j hj)⟩
def jU(P:Program)(ops:Array Oper)(C:World->Prop)(o:Oper)(v:Value)(a:Act):Prop:=
 (Region.wanted o (yielded ops a.tmps)=true/\∀w,C w->(execOp a.eval o).run P w=.ok (.value v) w)\/
 (Region.wanted o (yielded ops a.tmps)=false/\v=undef)
def jU.wpOp{C:World->Prop}{i:Nat}{o:Oper}{v:Value}{a:Act}(hi:ops[i]? =some o)(hnd:∀c,o.op≠ .defer c)(hy:jU P ops C o v a)
  {K:Act->World->Prop}{w:World}(hC:C w)(h:K (a.put o.dst v) w):uj P ops Q i K a w:=by
 unfold uj;simp only [hi];rcases hy with ⟨hw,hv⟩|⟨hw,rfl⟩
 ·simp only [hw,if_true];exact ⟨hnd,by rw [hv w hC];exact h⟩
 ·simp only [hw,Bool.false_eq_true,if_false];exact h
def jU.of_same{C:World->Prop}{o:Oper}{v:Value}{a a':Act}(hy:jU P ops C o v a)(he:execOp a'.eval o=execOp a.eval o)
  (hw:Region.wanted o (yielded ops a'.tmps)=Region.wanted o (yielded ops a.tmps)):jU P ops C o v a':=by
 unfold jU at*;rw [he,hw];exact hy
def ZW{C:World->Prop}{j:Nat}{oi oj:Oper}{v:Value}(hj:ops[j]? =some oj)(hap:oi.apart ops oj=true)
  (hsi:∀cs b,oi.op≠ .select cs b)(hsj:∀cs b,oj.op≠ .select cs b)
  (hQ:∀c a w,Q (.panic c) (a.put oi.dst v) w->Q (.panic c) a w){K:Act->World->Prop}{a:Act}{w:World}
  (hy:jU P ops C oi v a)(h:uj P ops Q j K (a.put oi.dst v) w):
  uj P ops Q j (λa' w'=>jU P ops C oi v a'/\K (a'.put oi.dst v) w') a w:=by
 obtain ⟨h1,h2,h3⟩:=Oper.apart_spec hap;have aW:∀(a:Act),jU P ops C oi v a->∀u,jU P ops C oi v (a.put oj.dst u):=λa hy u=>
  hy.of_same (execOp_put oi hsi a oj.dst u h3) (wanted_put oi a oj.dst u h3)
 have ql:∀d,jU P ops C oi v {a with defers:=d::a.defers}:=λd=>hy.of_same rfl rfl
 unfold uj at*;simp only [hj] at*;rw [wanted_put oj a oi.dst v h1] at h;split
 ·rename_i hw;simp only [hw,if_true] at h;refine ⟨h.1,?_⟩;have h:=h.2;rw [execOp_put oj hsj a oi.dst v h1] at h;generalize (execOp a.eval oj).run P w=r at*
  cases r with
  |ok n w'=>
   cases n<;>simp only [Oper.uponIn] at h ⊢
   case value u=>exact ⟨aW a hy u,by rw [<-Act.put_comm a v u h2];exact h⟩
   case skip=>exact ⟨aW a hy _,by rw [<-Act.put_comm a v undef h2];exact h⟩
   case defer d=>
    refine ⟨aW _ (ql d) _,?_⟩;rw [<-Act.put_comm _ v undef h2,<-Act.put_defers];exact h
   case enter f args=>
    refine ⟨h.1,CallsIn.mono h.2 λe w'' he=> ?_⟩
    cases e with
    |returned u=>exact ⟨aW a hy u,by rw [<-Act.put_comm a v u h2];exact he⟩
    |panicked c=>exact hQ _ _ _ he
    |outgrown=>exact he
   case row row args=>exact ⟨h.1,RowsIn.mono h.2 λu w'' he=>⟨aW a hy u,by rw [<-Act.put_comm a v u h2];exact he⟩⟩
   case round l f tmps assign body=>
    refine ⟨h.1,RoundIn.mono h.2 λe w'' he=> ?_⟩
    cases e with
    |returned u=>exact ⟨aW a hy u,by rw [<-Act.put_comm a v u h2];exact he⟩
    |panicked c=>exact hQ _ _ _ he
    |outgrown=>exact he
  |halt x w'=>
   cases x<;>simp only [Oper.uponIn] at h ⊢
   case panic u=>exact hQ _ _ _ h
 ·rename_i hw;simp only [hw] at h;exact ⟨aW a hy _,by rw [<-Act.put_comm a v undef h2];exact h⟩
def ZX{q:tH}{oi:Oper}{v:Value}(hi:ops[q.i]? =some oi)(hnd:∀c,oi.op≠ .defer c)(IZ:∀(j:Nat)(o:Oper) cs b,ops[j]? =some o->o.op≠ .select cs b)
  (hQ:∀c a w,Q (.panic c) (a.put oi.dst v) w->Q (.panic c) a w):
  ∀(fuel:Nat)(l:List tH)(listed:Array Bool)(a:Act)(w:World),
   (∀j oj,ops[j]? =some oj->j≠q.i->listed.getD j true=false->(∀e ∈ oj.after,Region.binds .any e=true->e.on≠q.i)->oi.apart ops oj=true)->
   q.i ∈ Region.ready .any ops listed->jU P ops q.holds oi v a->q.holds w->
   ZV P ops Q fuel (q::l) (listed.setIfInBounds q.i true) (a.put oi.dst v) w->(∀x ∈ l,x.holds w)->ZV P ops Q (fuel+1) l listed a w:=by
 intro fuel
 induction fuel with
 |zero=>
  intro l listed a w _ hr hy hh H hl;refine ⟨λh=>(by rw [h] at hr;cases hr),λj hj=> ?_⟩;by_cases hji:j=q.i
  ·subst hji;exact hy.wpOp hi hnd hh ⟨λx hx=>hl x (pC hx),H⟩
  ·have:=ready_mono hj hji;rw [H.1] at this
   cases this
 |succ fuel ih=>
  intro l listed a w hfree hr hy hh H hl;refine ⟨λh=>(by rw [h] at hr;cases hr),λj hj=> ?_⟩;by_cases hji:j=q.i
  ·subst hji;exact hy.wpOp hi hnd hh ⟨λx hx=>hl x (pC hx),H3 _ _ _ _ _ _ (λx hx=>DI _ (pC hx)) H⟩
  ·have h1:=H.2 j (ready_mono hj hji);obtain ⟨atq,oj,hoj,m4⟩:=mem_ready.1 hj;have ajo:∀e ∈ oj.after,Region.binds .any e=true->e.on≠q.i:=λe he hb heq=>by
    have h1:=m4 e he hb;have h0:=(mem_ready.1 hr).1;rw [heq] at h1;rcases jq q.i listed.size with h'|h'
    ·simp [h'] at h0 h1;rw [h0] at h1;cases h1
    ·simp [Array.getElem?_eq_none h'] at h1
   have iC:stays ops j (q::l)=q::stays ops j l:=by unfold stays;rw [Dv];simp only [hoj];rw [if_pos];simp only [Q4,Bool.not_eq_true'];rw [Array.any_eq_false'];intro e he hx;simp only [fk,beq_iff_eq] at hx;exact ajo e he hx.1 hx.2
   rw [iC] at h1;have h2:=ZW hoj (hfree j oj hoj hji atq ajo) (λcs b=>IZ q.i oi cs b hi) (λcs b=>IZ j oj cs b hoj) hQ hy h1;have hfree':∀k ok,ops[k]? =some ok->k≠q.i->(listed.setIfInBounds j true).getD k true=false->
     (∀e ∈ ok.after,Region.binds .any e=true->e.on≠q.i)->oi.apart ops ok=true:=λk ok hk hki hun l8=>by
    refine hfree k ok hk hki ?_ l8;by_cases hjk:j=k
    ·subst hjk;exact atq
    ·rw [Go.getD_set_ne true hjk] at hun;exact hun
   refine tI (λa' w' h3=> ?_) h2;obtain ⟨g1,g2,g3⟩:=h3;refine ⟨λx hx=>g2 x (DI _ hx),ih (stays ops j l) (listed.setIfInBounds j true) a' w' hfree' (ready_mono hr (Ne.symm hji)) g1 (g2 q (.head _)) ?_ (λx hx=>g2 x (DI _ hx))⟩;rw [Array.setIfInBounds_comm _ _ hji];exact g3
end
def alT:List Nat->(Nat->Prop)->Prop
 | [],_=>True
 | [j],F=>F j
 |j::k::r,F=>F j/\alT (k::r) F
def Q5:∀{l:List Nat} {F:Nat->Prop},alT l F->∀j ∈ l,F j
 | [],_,_,j,h=>by cases h
 | [a],_,h,j,hj=>by
   have:j=a:=by simpa using hj
   subst this;exact h
 |a::b::r,F,h,j,hj=>by
  cases hj with
  |head=>exact h.1
  |tail _ hm=>exact Q5 h.2 j hm
def Q6:Op->Bool
 | .move _| .pick .. | .extract .. | .fieldAddr .. | .field .. | .nilCheck _| .indexAddr .. | .index .. | .binOp .. | .unOp .. | .convert .. | .slice .. | .load .. =>true
 | .call {callee:=.builtin .len,..}| .call {callee:=.builtin .cap,..}| .call {callee:=.builtin .min,..}| .call {callee:=.builtin .max,..}=>true
 |_=>false
def alU(P:Program):Op->Bool
 | .index t _ _=>isStr P t
 |_=>true
def aea(P:Program)(ops:Array Oper)(listed:Array Bool)(i:Nat):Bool:=
 match ops[i]? with
 |some o=>match Q6 o.op && alU P o.op with|true=>Region.free .any ops listed i|false=>false
 |none=>false
def M9(P:Program)(w:World)(p:Option Addr)(t:TypeId)(F:List Value->Value->Prop):Prop:=
 match uw P t with
 | .sc c=>c.ex λv=>ld w p=some v/\F [v] v
 | .agg l=>if l.length=gD P t/\l.isEmpty=false then exL l λvs=>ah w p 0 vs/\F vs (.agg vs.toArray) else False
def Na(P:Program)(s:St)(d:Option Tmp)(t:TypeId)(x:SV)(K:Option Addr->List Value->St->Prop):Prop:=
 match x with
 | .loc k off=>match s.known k with
   |some kb=>match uw P t with
    | .sc _=>match kb.cells[off]? with|some v=>K (some ⟨kb.idx,off,none⟩) [v] (s.put d (.val v))|none=>False
    | .agg l=>if l.length=gD P t/\off+l.length<=kb.cells.length then K (some ⟨kb.idx,off,none⟩) ((kb.cells.drop off).take l.length) (s.put d (.val (.agg ((kb.cells.drop off).take l.length).toArray))) else False
   |none=>M9 P s.w (some ⟨(s.kn.getD k default).idx,off,none⟩) t λvs v=>K (some ⟨(s.kn.getD k default).idx,off,none⟩) vs (s.put d (.val v))
 | .val (.pointer p)=>M9 P s.w p t λvs v=>K p vs (s.put d (.val v))
 |_=>False
def Q7(P:Program)(l:List tH)(i:Nat)(o:Oper)(s:St)(K:List tH->St->Prop):Prop:=
 match o.op with
 | .load t x=>match okT P t with|true=>Na P s o.dst t (s.sv x) λp vs s'=>K (⟨i,p,vs⟩::l) s'|false=>False
 |_=>match Xc P s o.op with
  |some (a,n)=>∃ns:List Int,ns.length=n/\ah s.w a 0 (ns.map (Value.int .u8))/\K (⟨i,a,ns.map (Value.int .u8)⟩::l) (s.put o.dst (.val (.string (strOfNums ns))))
  |none=>match dX P s o.op with
   |some (cs,sv)=>aT cs (K l (s.put o.dst sv))
   |none=>False
def quiet(P:Program)(s:St)(o:Oper):Bool:=
 match o.op with
 | .box .. | .alloc .. | .buildSlice .. | .build .. | .makeFunc .. =>true
 |_=>match dX P s o.op with|some _=>true|none=>false
def Xe(P:Program)(s:St)(o:Oper)(l:List tH)(w':World):List Prop:=
 match quiet P s o with
 |true=> []
 |false=>l.map λq=>q.holds w'
def Xf(P:Program)(ops:Array Oper)(K:St->Prop):Nat->List tH->Array Bool->St->Prop
 |0,_,listed,s=>match Region.ready .any ops listed with| []=>K s|_=>False
 |fuel+1,l,listed,s=>
  match (Region.ready .any ops listed).find? (aea P ops listed) with
  |some i=>match ops[i]? with
   |some o=>sD ops o s (λs=>Q7 P l i o s λl' s'=>Xf P ops K fuel l' (listed.setIfInBounds i true) s')
    (λs=>Xf P ops K fuel l (listed.setIfInBounds i true) (s.put o.dst (.val undef)))
   |none=>False
  |none=>match Region.ready .any ops listed with
   | []=>K s
   |js=>alT js λj=>match ops[j]? with
    |some o=>sD ops o s (λs=>ZT P s o λs'=>aT (Xe P s o (stays ops j l) s'.w) (Xf P ops K fuel (stays ops j l) (listed.setIfInBounds j true) s'))
     (λs=>Xf P ops K fuel (stays ops j l) (listed.setIfInBounds j true) (s.put o.dst (.val undef)))
    |none=>False
section
variable {P:Program} {s:St} {o:Oper} {K:St->Prop} {Q:Exit->Act->World->Prop} {ops:Array Oper}
def xf(w w':World):Prop:=∀a v,w.cell? a=some v->w'.cell? a=some v
def xf.refl(w:World):xf w w:=λ_ _ h=>h
def xf.alloc(w:World)(ob:Obj):xf w (w.alloc ob):=λa v h=>by
 rw [World.cell?_alloc_lt];exact h
 unfold World.cell? at h
 split at h
 ·rename_i c e f hb;exact (tQ.1 hb).1
 ·cases h
def xf.ld{w w':World}(h:xf w w'){p:Option Addr}{v:Value}(hl:ld w p=some v):ld w' p=some v:=by
 cases p with
 |none=>simp [Vc.ld] at hl
 |some a=>exact h a v hl
def xf.ah{w w':World}(h:xf w w'){p:Option Addr}:∀{i:Nat} {vs:List Value},ah w p i vs->ah w' p i vs
 |_,[],_=>trivial
 |_,[_],hl=>h.ld hl
 |_,_::_::_,hl=>⟨h.ld hl.1,h.ah hl.2⟩
def alV{a:Act}{w w':World}{v:Value}{K':Act->World->Prop}{G:World->Prop}(hr:(execOp a.eval o).run P w=.ok (.value v) w')(hg:G w')
  (h:o.wpY P a w K' Q):o.wpY P a w (λa' w''=>K' a' w''/\G w'') Q:=by
 obtain ⟨h1,h⟩:=h;refine ⟨h1,?_⟩;rw [hr] at h ⊢;exact ⟨h,hg⟩
def ZY(bc:s.Ok)(hq:quiet P s o=true)(h:ZT P s o K):∃v w',(execOp s.act.eval o).run P s.w=.ok (.value v) w'/\xf s.w w':=by
 rw [St.eval_eq];unfold ZT at h;split at h
 ·rename_i cs sv hp;rw [bz] at h;exact ⟨_,_,sU hp h.1 _,xf.refl _⟩
 ·rename_i hp;obtain ⟨dst,op,ty,pos,after,guard⟩:=o;unfold quiet at hq;simp only at hq h hp
  cases op with
  |box t x=>exact ⟨_,_,by
   show (do pure (Next.value (<-Instr.box t (s.ev x))):Sem Next).run P s.w=_;rw [Sem.run_bind,Wk];rfl,xf.alloc _ _⟩
  |alloc t=>
   unfold Lt at h;simp only at h;split at h
   ·rename_i cs hz;exact ⟨_,_,by
     show (do pure (Next.value (<-Instr.alloc t true (.tuple #[]))):Sem Next).run P s.w=_;rw [Sem.run_bind,Kz hz];rfl,xf.alloc _ _⟩
   ·cases h
  |build t parts=>
   unfold Lt at h;simp only at h;split at h
   ·rename_i cs hb;exact ⟨_,_,by
     show (do pure (Next.value (<-Instr.build t (parts.map λ(i,x)=>(i,s.ev x)))):Sem Next).run P s.w=_;rw [Sem.run_bind,run_build _ _ _ cs (by simpa using hb)];rfl,xf.refl _⟩
   ·cases h
  |buildSlice t len parts=>
   unfold Lt at h;simp only at h;unfold pg at h;split at h
   ·rename_i e cells hc;exact ⟨_,_,by
     show (do pure (Next.value (<-Instr.buildSlice t len (M3 s parts))):Sem Next).run P s.w=_;rw [Sem.run_bind,ui hc s.w];rfl,xf.alloc _ _⟩
   ·cases h
  |makeFunc fn first captured=>exact ⟨.func fn (first.map s.ev) (captured.map s.ev),s.w,rfl,xf.refl _⟩
  |_=>simp [hp] at hq
def fI(p:Option Addr):af p 0=p:=by cases p<;>simp [af,Addr.add]
def H4{t:TypeId}{p:Option Addr}{F:List Value->Value->Prop}{w:World}(hu:(P.underlying t).isSome=true)(h:M9 P w p t F):
  ∃a vs v,p=some a/\F vs v/\ah w p 0 vs/\∀w',ah w' p 0 vs->(Instr.loadAt t (.pointer (some a))).run P w'=.ok v w':=by
 obtain ⟨d,hu⟩:=rL.1 hu;unfold M9 at h
 cases ht:uw P t with
 |sc c=>
  rw [ht] at h;obtain ⟨v,h1,h2⟩:=S.mI h
  cases p with
  |none=>simp [ld] at h1
  |some a=>
   refine ⟨a,[v],v,rfl,h2,by simpa [ah,fI] using h1,λw' hw'=> ?_⟩;have XA:w'.cell? a=some v:=by simpa [ah,fI,ld] using hw'
   simp [Instr.loadAt,Instr.sureAddr,loadVar,nG w' hu,O1 ht,XA]
 |agg l=>
  simp only [ht] at h;split at h
  ·rename_i hl;have:∃vs,vs.length=l.length/\ah w p 0 vs/\F vs (.agg vs.toArray):=by
    have key:∀(l:List S)(G:List Value->Prop),exL l G->∃vs,vs.length=l.length/\G vs:=by
     intro l
     induction l with
     |nil=>intro G hG;exact ⟨[],rfl,hG⟩
     |cons c r ih=>
      rintro G ⟨x,hx⟩;obtain ⟨vs,h1,h2⟩:=ih _ hx;exact ⟨_,by simp [h1],h2⟩
    exact key l _ h
   obtain ⟨vs,e,h1,h2⟩:=this;have hi:=info_of_underlying hu;have hp:∃a,p=some a:=by
    cases p with
    |some a=>exact ⟨a,rfl⟩
    |none=>
     have h0:0<vs.length:=by
      cases l with
      |nil=>simp at hl
      |cons _ _=>simp at e;omega
     have:=nH h1 0 h0;simp [ld,af,cX h0] at this
   obtain ⟨a,rfl⟩:=hp;refine ⟨a,vs,_,rfl,h2,h1,λw' hw'=> ?_⟩;simp only [Instr.loadAt,Instr.sureAddr,loadVar,Sem.run_bind,Sem.run_pure,Result.andThen_ok,nG w' hu,Gi ht,if_true,ft hi,loadCells];rw [nj _ 0 #[] vs aa (λj hj=>by have:=nH hw' j aa;simpa [ld,af] using this)];simp
  ·cases h
def nX{w:World}{p:Option Addr}:∀{i:Nat} {vs:List Value},(∀j,j<vs.length->ld w (af p (i+j))=vs[j]?)->ah w p i vs
 |_,[],_=>trivial
 |i,[v],h=>by have:=h 0 bg;simpa [ah] using this
 |i,v::u::r,h=>⟨by have:=h 0 bg;simpa using this,nX λj hj=>by
  have:=h (j+1) (by simpa using hj)
  rw [show i+(j+1)=i+1+j by omega] at this
  rw [this];simp⟩
def Q8{d:Option Tmp}{t:TypeId}{x:SV}{K2:Option Addr->List Value->St->Prop}(bc:s.Ok)(hu:(P.underlying t).isSome=true)(h:Na P s d t x K2):
  ∃a vs v,x.bM s.kn=.pointer (some a)/\K2 (some a) vs (s.put d (.val v))/\ah s.w (some a) 0 vs/\∀w',ah w' (some a) 0 vs->(Instr.loadAt t (.pointer (some a))).run P w'=.ok v w':=by
 unfold Na at h;split at h
 ·rename_i k off;split at h
  ·rename_i kb LS;obtain ⟨h1,h2⟩:=sV LS;have hb:=bc.aZ k kb h1 h2;have jV:(s.kn.getD k default).idx=kb.idx:=by simp [dO,h1]
   obtain ⟨dd,hu'⟩:=rL.1 hu;split at h
   ·rename_i c ht;split at h
    ·rename_i v hv;refine ⟨⟨kb.idx,off,none⟩,[v],v,by rw [SV.bM,jV],h,?_,λw' hw'=> ?_⟩
     ·simp [ah,fI,ld,cell_of hb,hv]
     ·have XA:w'.cell? ⟨kb.idx,off,none⟩=some v:=by simpa [ah,fI,ld] using hw'
      simp [Instr.loadAt,Instr.sureAddr,loadVar,nG _ hu',O1 ht,XA]
    ·cases h
   ·rename_i l ht;split at h
    ·rename_i hl;have dp:((kb.cells.drop off).take l.length).length=l.length:=by simp;omega
     refine ⟨⟨kb.idx,off,none⟩,(kb.cells.drop off).take l.length,_,by rw [SV.bM,jV],h,?_,λw' hw'=> ?_⟩
     ·refine nX λj hj=> ?_
      rw [dp] at hj;simp [ld,af,oX,cell_of hb,rR,xy,hj]
     ·simp only [Instr.loadAt,Instr.sureAddr,loadVar,Sem.run_bind,Sem.run_pure,Result.andThen_ok,nG _ hu',Gi ht,if_true,ft (info_of_underlying hu'),loadCells];rw [nj _ 0 #[] ((kb.cells.drop off).take l.length) aa (λj hj=>by have:=nH hw' j aa;simpa [ld,af] using this)];simp
    ·cases h
  ·obtain ⟨a,vs,v,h1,h2,h3,h4⟩:=H4 hu h
   cases h1
   exact ⟨_,vs,v,rfl,h2,h3,h4⟩
 ·rename_i p;obtain ⟨a,vs,v,h1,h2,h3,h4⟩:=H4 hu h;subst h1;exact ⟨a,vs,v,rfl,h2,h3,h4⟩
 ·cases h
end
section
variable {P:Program} {s:St} {o:Oper} {K:St->Prop} {Q:Exit->Act->World->Prop} {ops:Array Oper}
def H5{q:tH}(hq:∀w,q.holds w):∀(fuel:Nat)(l:List tH)(listed:Array Bool)(a:Act)(w:World),ZV P ops Q fuel l listed a w->ZV P ops Q fuel (q::l) listed a w
 |0,_,_,_,_,h=>h
 |fuel+1,l,listed,a,w,h=>⟨h.1,λj hj=>tI (λa' w' hk=>by
  have iC:stays ops j (q::l)=q::stays ops j l\/stays ops j (q::l)=stays ops j l:=by unfold stays;rw [Dv];split<;>simp
  rcases iC with e|e
  ·rw [e];refine ⟨λx hx=> ?_,H5 hq fuel _ _ _ _ hk.2⟩
   cases hx with
   |head=>exact hq _
   |tail _ hm=>exact hk.1 x hm
  ·rw [e];exact hk) (h.2 j hj)⟩
def Q9{op:Op}(h:Q6 op=true):∀c,op≠ .defer c:=by rintro c rfl;cases h
def aeb{l:List Nat}{f:Nat->Bool}{i:Nat}(h:l.find? f=some i):i ∈ l/\f i=true:=⟨W5 h,List.find?_some h⟩
def Qr(W:List Nat)(s0:St)(K:St->Prop):Exit->Act->World->Prop
 | .normal,a,w=>ajV W s0 K a w
 |_,_,_=>False
def pD(hP:EN P)(IZ:Region.noSelect ops=true)(W:List Nat)(s0:St)(hW:∀(j:Nat)(o:Oper) d,ops[j]? =some o->o.dst=some d->d ∈ W):
  ∀(fuel:Nat)(l:List tH)(listed:Array Bool)(s:St),s.Ok->Fr W s0 s->(∀q ∈ l,q.holds s.w)->Xf P ops K fuel l listed s->ZV P ops (Qr W s0 K) fuel l listed s.act s.w
 |0,l,listed,s,bc,Jm,hl,h=>by
  unfold Xf at h
  split at h
  ·rename_i hr;exact ⟨hr,s,bc,rfl,rfl,Jm,h⟩
  ·cases h
 |fuel+1,l,listed,s,bc,Jm,hl,h=>by
  unfold Xf at h
  have Oa:∀{j:Nat} {o:Oper},ops[j]? =some o->∀i ∈ o.dst.toList,i ∈ W:=λ{j o} ho=>H2 λx hx=>hW j o x ho hx
  split at h
  ·rename_i i hfind
   obtain ⟨fw,hfree⟩:=aeb hfind
   unfold aea at hfree
   split at h
   ·rename_i o ho
    rw [ho] at hfree
    simp only at hfree
    split at hfree
    case h_2=>cases hfree
    rename_i hkind2
    have hkind:=(fk _ _▸hkind2).1
    have hspec:=Region.free_spec ho hfree
    have first:∀(q:tH)(v:Value)(s':St),q.i=i->jU P ops q.holds o v s.act->q.holds s.w->s'.Ok->Fr W s0 s'->s'.act=s.act.put o.dst v->s'.w=s.w->
      ZV P ops (Qr W s0 K) fuel (q::l) (listed.setIfInBounds i true) s'.act s'.w->ZV P ops (Qr W s0 K) (fuel+1) l listed s.act s.w:=by
     rintro q v s' rfl hy hh h1 h2 h3 h4 H;rw [h3,h4] at H;exact ZX ho (Q9 hkind) (λj o cs b=>Region.noSelect_spec IZ j o cs b) (λc a w hq=>hq) fuel l listed s.act s.w (λj oj=>hspec j oj) fw hy hh H hl
    rcases vO bc h with ⟨hw,s1,sM,h1⟩|⟨hw,s1,sM,h1⟩
    ·unfold Q7 at h1;have hfr1:Fr W s0 s1:=Jm.trans (sM.fr.mono bg);split at h1
     ·rename_i t x hop;split at h1
      case h_2=>cases h1
      rename_i hu;obtain ⟨a,vs,v,g1,g2,g3,g4⟩:=Q8 sM.ok (vN hu) h1;obtain ⟨s2,k1,k2,k3,k4,k5⟩:=fU (d:=o.dst) (v:=v) (K:=λs'=>Xf P ops K fuel (⟨i,some a,vs⟩::l) (listed.setIfInBounds i true) s') sM.ok g2;rw [sM.act] at k2;rw [sM.w] at k3 g3;refine first ⟨i,some a,vs⟩ v s2 rfl (.inl ⟨hw,λw' hw'=> ?_⟩) g3 k1 (hfr1.trans (k4.mono (Oa ho))) k2 k3 ?_
      ·rw [<-sM.act,St.eval_eq];have:execOp s1.ev o=(do pure (.value (<-Instr.loadAt t (s1.ev x)))):=by obtain ⟨dst,op,ty,pos,after,guard⟩:=o;simp only at hop;subst hop;rfl
       rw [this,Sem.run_bind,St.ev,g1,g4 w' hw'];rfl
      ·exact pD hP IZ W s0 hW fuel _ _ s2 k1 (hfr1.trans (k4.mono (Oa ho))) (λq hq=>by
        cases hq with
        |head=>rw [k3];exact g3
        |tail _ hm=>rw [k3];exact hl q hm) k5
     ·split at h1
      ·rename_i a n hc;obtain ⟨ns,hn,g3,h1⟩:=h1;obtain ⟨s2,k1,k2,k3,k4,k5⟩:=fU (d:=o.dst) (v:=.string (strOfNums ns)) (K:=λs'=>Xf P ops K fuel (⟨i,a,ns.map (Value.int .u8)⟩::l) (listed.setIfInBounds i true) s') sM.ok h1;rw [sM.act] at k2;rw [sM.w] at k3 g3;refine first ⟨i,a,ns.map (Value.int .u8)⟩ (.string (strOfNums ns)) s2 rfl (.inl ⟨hw,λw' hw'=> ?_⟩) g3 k1 (hfr1.trans (k4.mono (Oa ho))) k2 k3 ?_
       ·rw [<-sM.act,St.eval_eq];exact Lr hc hn hw'
       ·exact pD hP IZ W s0 hW fuel _ _ s2 k1 (hfr1.trans (k4.mono (Oa ho))) (λq hq=>by
         cases hq with
         |head=>rw [k3];exact g3
         |tail _ hm=>rw [k3];exact hl q hm) k5
      split at h1
      ·rename_i cs sv hp;rw [bz] at h1;obtain ⟨s2,k1,k2,k3,k4,k5⟩:=lE (a:=s1.act.put o.dst (sv.bM s1.kn)) (w:=s1.w) (d:=o.dst) (K:=λs'=>Xf P ops K fuel l (listed.setIfInBounds i true) s') h1.2 sM.ok rfl (ux.refl _) sM.ok.aZ sM.ok.ne (Gd sM.ok hp) rfl rfl;rw [sM.act] at k2;rw [sM.w] at k3;refine first ⟨i,none,[]⟩ (sv.bM s1.kn) s2 rfl (.inl ⟨hw,λw' _=> ?_⟩) trivial k1 (hfr1.trans (k4.mono (Oa ho))) k2 k3 ?_
       ·rw [<-sM.act,St.eval_eq];exact sU hp h1.1 w'
       ·exact H5 (q:=⟨i,none,[]⟩) (λ_=>trivial) _ _ _ _ _ (pD hP IZ W s0 hW fuel _ _ s2 k1 (hfr1.trans (k4.mono (Oa ho))) (λq hq=>by rw [k3];exact hl q hq) k5)
      ·cases h1
    ·have hfr1:Fr W s0 s1:=Jm.trans (sM.fr.mono bg);obtain ⟨s2,k1,k2,k3,k4,k5⟩:=fU (d:=o.dst) (v:=undef) (K:=λs'=>Xf P ops K fuel l (listed.setIfInBounds i true) s') sM.ok h1;rw [sM.act] at k2;rw [sM.w] at k3;refine first ⟨i,none,[]⟩ undef s2 rfl (.inr ⟨hw,rfl⟩) trivial k1 (hfr1.trans (k4.mono (Oa ho))) k2 k3 ?_;exact H5 (q:=⟨i,none,[]⟩) (λ_=>trivial) _ _ _ _ _ (pD hP IZ W s0 hW fuel _ _ s2 k1 (hfr1.trans (k4.mono (Oa ho))) (λq hq=>by rw [k3];exact hl q hq) k5)
   ·cases h
  ·split at h
   ·rename_i hr;exact ⟨λ_=>⟨s,bc,rfl,rfl,Jm,h⟩,λj hj=>by rw [hr] at hj;cases hj⟩
   ·rename_i hr;refine ⟨λh0=>absurd h0 hr,λj hj=> ?_⟩;have hj':=Q5 h j hj;split at hj'
    ·rename_i o ho;have step:∀a w,jr o.dst s (λs'=>(∀q ∈ stays ops j l,q.holds s'.w)/\Xf P ops K fuel (stays ops j l) (listed.setIfInBounds j true) s') a w->
       (∀q ∈ stays ops j l,q.holds w)/\ZV P ops (Qr W s0 K) fuel (stays ops j l) (listed.setIfInBounds j true) a w:=by
      rintro a w ⟨s2,k1,rfl,rfl,k4,k5,k6⟩;exact ⟨k5,pD hP IZ W s0 hW fuel _ _ s2 k1 (Jm.trans (k4.mono (Oa ho))) k5 k6⟩
     unfold uj;simp only [ho];rcases vO bc hj' with ⟨hw,s1,sM,h1⟩|⟨hw,s1,sM,h1⟩
     ·rw [if_pos hw];have hl1:∀q ∈ stays ops j l,q.holds s1.w:=λq hq=>by rw [sM.w];exact hl q (pC hq)
      have h2:=H0 (Q:=Qr W s0 K) hP sM.ok h1;have h3:o.wpY P s1.act s1.w (λa w=>(∀q ∈ stays ops j l,q.holds w)/\ZV P ops (Qr W s0 K) fuel (stays ops j l) (listed.setIfInBounds j true) a w) (Qr W s0 K):=by
       cases hq:quiet P s1 o with
       |true=>
        obtain ⟨v,w',g1,g2⟩:=ZY sM.ok hq h1;refine Oper.sC (λa w hh=> ?_) (alV (G:=λw=>xf s1.w w) g1 g2 h2);obtain ⟨hp,hg⟩:=hh;refine step a w (jr.ad8 sM ?_);obtain ⟨s2,k1,k2,k3,k4,k5⟩:=hp;rw [bz] at k5;exact ⟨s2,k1,k2,k3,k4,λq hq=>by rw [k3];exact hg.ah (hl1 q hq),k5.2⟩
       |false=>
        refine Oper.sC (λa w hp=>step a w (jr.ad8 sM ?_)) h2;obtain ⟨s2,k1,k2,k3,k4,k5⟩:=hp;rw [bz] at k5;refine ⟨s2,k1,k2,k3,k4,λq hq'=> ?_,k5.2⟩;refine k5.1 _ ?_;unfold Xe;rw [hq];exact aU.2 ⟨q,hq',rfl⟩
      rw [sM.act,sM.w] at h3;exact h3
     ·rw [if_neg (by simp [hw])];obtain ⟨s2,k1,k2,k3,k4,k5⟩:=fU (d:=o.dst) (v:=undef) (K:=λs'=>Xf P ops K fuel (stays ops j l) (listed.setIfInBounds j true) s') sM.ok h1;rw [sM.act] at k2;rw [sM.w] at k3;rw [<-k2,<-k3];exact step _ _ (jr.ad8 sM ⟨s2,k1,rfl,rfl,k4,λq hq=>by rw [k3];exact hl q (pC hq),k5⟩)
    ·cases hj'
end
def writes:Code->List Nat
 | .region _ ops _=>dstsOf ops.toList
 | .seq a b=>writes a++writes b
 | .cond _ a b=>writes a++writes b
 | .block _ a=>writes a
 | .loop a=>writes a
 | .scope a=>writes a
 | .rangeFunc _ ps a b=>ps.toList++writes a++writes b
 |_=> []
def nr:Code->Option Nat
 | .region id _ _=>some id
 | .seq a b=>match nr a with|some i=>some i|none=>nr b
 | .cond _ a b=>match nr a with|some i=>some i|none=>nr b
 | .block _ a=>nr a
 | .loop a=>nr a
 | .scope a=>nr a
 |_=>none
structure Carry where
 qm:List (Nat × S)
 blocks:List (Nat × List S)
 mH:List Nat
structure Ann where
 loops:List (Nat × Carry)
 awo:List (Nat × Carry)
 awp:List (Nat × Carry × List T1):=[]
def kv:Code->Bool
 | .seq a b=>kv a && kv b
 | .cond _ a b=>kv a && kv b
 | .block _ a=>kv a
 | .loop a=>kv a
 | .scope _=>false
 | .rangeFunc .. =>false
 |_=>true
def T1.all:T1->(Value->Prop)->Prop
 | .sc s,F=>s.all F
 | .agg l,F=>uv l λvs=>F (.agg vs.toArray)
def alW:List T1->(List Value->Prop)->Prop
 | [],F=>F []
 |t::r,F=>t.all λv=>alW r λvs=>F (v::vs)
structure Step(F F':Nat->Prop)(w w':World):Prop where
 sub:∀i,F' i->F i\/w.heap.size<=i
 size:w.heap.size<=w'.heap.size
 same:∀i,i<w.heap.size->¬F i->w'.heap[i]? =w.heap[i]?
def Step.late{F F':Nat->Prop}{w w':World}(h:Step F F' w w'){k:Nat}:Step (λi=>F i\/k<=i) F' w w':=⟨λi hi=>(h.sub i hi).elim (λq=> .inl (.inl q)) .inr,h.size,λi hi hn=>h.same i hi λq=>hn (.inl q)⟩
def aqt{α:Type}(B:Nat)(I:α->(Nat->Prop)->World->Prop):Prop:=
 ∀n F w w',I n F w->Below B w w'->(∀i,F i->w'.heap[i]? =w.heap[i]?)->I n F w'
def Iter(P:Program)(gv:Value)(W0:World)(Rd:Nat->Prop)(xs:List (List Value)):Prop:=
 (∃f first cap,gv=.func (.func f) first cap/\wE P f=true)/\∀(y:Value)(B:Nat)(J:Nat->(Nat->Prop)->World->Prop)(Jx:Unit->(Nat->Prop)->World->Prop)(F0:Nat->Prop)(W:World),
  B<=W.heap.size->aqt B J->aqt B Jx->(∀n F w,J n F w->∀i,F i->i<w.heap.size)->
  (∀i,Rd i->¬F0 i/\i<W.heap.size/\W.heap[i]? =W0.heap[i]?)->
  (∀n x F w,xs[n]? =some x->J n F w->bB P y x w λe w'=>
   (e=.returned (.bool true)/\∃F',J (n+1) F' w'/\Step F F' w w')\/(e=.returned (.bool false)/\∃F',Jx () F' w'/\Step F F' w w'))->
  J 0 F0 W->bB P gv [y] W λe w'=>(∃v,e=.returned v)/\((∃F',J xs.length F' w')\/∃F',Jx () F' w')
structure PD(B:Nat)(w w1:World):Prop where
 ext:Below w.heap.size w w1
 at_:B=w.heap.size
 size:w1.heap.size=B+2
def aec(l:List (Option Nat)):List (Option Nat)->List (Option Nat)
 | []=>l
 |x::r=>aec (if l.contains x then l else l++ [x]) r
def kF:Code->List (Option Nat)
 | .exit id=> [some id]
 | .ret=> [none]
 | .seq a b=>aec (kF a) (kF b)
 | .cond _ a b=>aec (kF a) (kF b)
 | .block id a=>(kF a).filter (· !=some id)
 | .loop a=>kF a
 |_=> []
def aqu:Option Nat->Exit|none=> .ret|some id=> .exit id
def Lu:Option Nat->Code|none=> .ret|some id=> .exit id
def alX:List (Option Nat)->(Option Nat->Prop)->Prop
 | [],_=>True
 | [j],F=>F j
 |j::k::r,F=>F j/\alX (k::r) F
def Ra:∀{l:List (Option Nat)} {F:Option Nat->Prop},alX l F->∀j ∈ l,F j
 | [],_,_,j,h=>by cases h
 | [a],_,h,j,hj=>by
   have:j=a:=by simpa using hj
   subst this;exact h
 |a::b::r,F,h,j,hj=>by
  cases hj with
  |head=>exact h.1
  |tail _ hm=>exact Ra h.2 j hm
def Carry.bD(c:Carry):List S:=c.qm.map (·.2)++c.blocks.flatMap (·.2)
def Carry.qC(c:Carry)(s:St):List Value:=c.qm.map (λx=>(s.sl.getD x.1 (.val undef)).bM s.kn)++c.blocks.flatMap λx=>(s.kn.getD x.1 default).cells
def nZ:List SV->List (Nat × S)->List Value->List SV
 |sl,(i,_)::r,v::vs=>nZ (sl.set i (.val v)) r vs
 |sl,_,_=>sl
def fo:List KB->List (Nat × List S)->List Value->List KB
 |kn,(k,ss)::r,vs=>fo (kn.modify k λb=>{b with cells:=vs.take ss.length}) r (vs.drop ss.length)
 |kn,[],_=>kn
def iZ(us:Nat->Value)(W:List Nat):Nat->List SV->List SV
 |_,[]=> []
 |i,v::r=>(if W.contains i then .val (us i) else v)::iZ us W (i+1) r
def Carry.head(c:Carry)(W:List Nat)(us:Nat->Value)(vs:List Value)(w:World)(s:St):St:=
 {sl:=nZ (iZ us W 0 s.sl) c.qm vs,w:=w,kn:=fo s.kn c.blocks (vs.drop c.qm.length),df:=s.df}
def Carry.Re(c:Carry)(s s':St):Bool:=
 s'.df.length==s.df.length &&(List.range s.kn.length).all λk=>(s.kn.getD k default).live==(s'.kn.getD k default).live
def Carry.alY(c:Carry)(s s':St):List Prop:=
 ((List.range s.kn.length).filter λk=>(s.kn.getD k default).live && !(c.blocks.any λx=>x.1==k)).map λk=>(s'.kn.getD k default).cells=(s.kn.getD k default).cells
def Carry.okB(c:Carry)(s:St):Bool:=
 (c.blocks.all λx=>(s.kn.getD x.1 default).cells.length==x.2.length && x.1<s.kn.length)
def Carry.enter(c:Carry)(s s':St)(I:List Value->World->Prop):Prop:=
 match c.Re s s' && c.okB s' with
 |true=>aT (c.alY s s') (I (c.qC s') s'.w)
 |false=>False
def gj(P:Program)(an:Ann):Code->St->(Exit->St->Prop)->Prop
 | .skip,s,Q=>Q .normal s
 | .region _ ops draw,s,Q=>match draw with
   |false=>M6 P ops ops.toList s (Q .normal)
   |true=>match Region.noSelect ops with
    |true=>Xf P ops (Q .normal) ops.size [] (Array.replicate ops.size false) {s with w:=s.w.drew}
    |false=>False
 | .seq x y,s,Q=>match (nr y).bind λi=>an.awo.lookup i with
   |none=>gj P an x s λe s'=>match e with| .normal=>gj P an y s' Q|e=>Q e s'
   |some c=>let s:=s.kill (c.mH.map λk=> .loc k 0)
    ∃J:FnL c.bD (World->Prop),gj P an x s (λe s'=>match e with| .normal=>c.enter s s' (jo c.bD J)|e=>Q e s')/\
     ∀us:Nat->Value,uv c.bD λvs=>∀w,jo c.bD J vs w->gj P an y (c.head (writes x) us vs w s) Q
 | .cond c x y,s,Q=>match s.sv c with
   | .val (.bool b)=>Br b (gj P an x s Q) (gj P an y s Q)
   |_=>False
 | .block id x,s,Q=>gj P an x s λe s'=>match e with| .exit id'=>if id'=id then Q .normal s' else Q (.exit id') s'|e=>Q e s'
 | .loop x,s,Q=>match (nr x).bind λi=>an.loops.lookup i with
   |none=>False
   |some c=>let s:=s.kill (c.mH.map λk=> .loc k 0)
    ∃I:Nat->FnL c.bD (World->Prop),(∃n,c.enter s s (jo c.bD (I n)))/\
     ∀n:Nat,∀us:Nat->Value,uv c.bD λvs=>∀w,jo c.bD (I n) vs w->
      gj P an x (c.head (writes x) us vs w s) λe s'=>match e with| .normal=>∃m,m<n/\c.enter s s' (jo c.bD (I m))|e=>Q e s'
 | .exit id,s,Q=>Q (.exit id) s
 | .ret,s,Q=>Q .ret s
 | .label _,s,Q=>Q .normal s
 | .scope x,s,Q=>gj P an x s λe s'=>match e with| .goto _=>False|e=>Q e s'
 | .rangeFunc g ps assign body,s,Q=>match (nr body).bind λi=>an.awp.lookup i with
   |none=>False
   |some (c,ts)=>match kv assign && kv body && c.qm.isEmpty && ts.length==ps.size with
    |false=>False
    |true=>let s:=s.kill (c.mH.map λk=> .loc k 0)
     let s0:St:={s with df:=[]}
     ∃(xs:List (List Value))(Rd F0:Nat->Prop)(I:Nat->(Nat->Prop)->FnL c.bD (World->Prop))(X:Option Nat->(Nat->Prop)->FnL c.bD (World->Prop)),
      (∀x ∈ xs,ex1 ts λpv=>x=pv)/\
      (∀n F,uv c.bD λvs=>∀w w',jo c.bD (I n F) vs w->Below s.w.heap.size w w'->(∀i,F i->w'.heap[i]? =w.heap[i]?)->jo c.bD (I n F) vs w')/\
      (∀n F,uv c.bD λvs=>∀w w',jo c.bD (X n F) vs w->Below s.w.heap.size w w'->(∀i,F i->w'.heap[i]? =w.heap[i]?)->jo c.bD (X n F) vs w')/\
      (∀n F,uv c.bD λvs=>∀w,jo c.bD (I n F) vs w->∀i,F i->i<w.heap.size/\i≠s.w.heap.size/\i≠s.w.heap.size+1)/\
      (∀n F,uv c.bD λvs=>∀w,jo c.bD (X n F) vs w->∀i,F i->i<w.heap.size/\i≠s.w.heap.size/\i≠s.w.heap.size+1)/\
      (∀i,Rd i->i<s.w.heap.size/\¬F0 i/\aT ((gI s.kn).map λk=>i≠k) True)/\
      (∀w1,PD s.w.heap.size s.w w1->Iter P (s.ev g) w1 Rd xs/\c.enter s0 {s0 with w:=w1} (jo c.bD (I 0 F0)))/\
      (∀n F (us:Nat->Value),uv c.bD λvs=>alW ts λpv=>∀w,xs[n]? =some pv->jo c.bD (I n F) vs w->
       gj P an assign {c.head [] us vs w s0 with sl:=(ps.toList.zip pv).foldl (λsl p=>sl.set p.1 (.val p.2)) (c.head [] us vs w s0).sl} λe s1=>match e with
        | .normal=>Below w.heap.size w s1.w/\∀w2,Rec (s.w.heap.size+1) s1.w w2->jo c.bD (I n F) vs w2->
          gj P an body {s1 with w:=w2} λe s2=>match e with
           | .normal=>∃F',c.enter s0 s2 (jo c.bD (I (n+1) F'))/\Step (λi=>(F i\/i ∈ gI s.kn)\/w.heap.size<=i) (λi=>F' i\/i ∈ gI s.kn) w2 s2.w
           | .ret=>(kF body).contains none=true/\∃F',c.enter s0 s2 (jo c.bD (X none F'))/\Step (λi=>(F i\/i ∈ gI s.kn)\/w.heap.size<=i) (λi=>F' i\/i ∈ gI s.kn) w2 s2.w
           | .exit id=>(kF body).contains (some id)=true/\∃F',c.enter s0 s2 (jo c.bD (X (some id) F'))/\Step (λi=>(F i\/i ∈ gI s.kn)\/w.heap.size<=i) (λi=>F' i\/i ∈ gI s.kn) w2 s2.w
           |_=>False
        |_=>False)/\
      (∀F (us:Nat->Value),uv c.bD λvs=>∀w,jo c.bD (I xs.length F) vs w->w.heap[s.w.heap.size]? =some (.deferred (some []))->Q .normal {c.head [] us vs w s with df:=s.w.heap.size::s.df})/\
      alX (kF body) λj=>∀F (us:Nat->Value),uv c.bD λvs=>∀w,jo c.bD (X j F) vs w->w.heap[s.w.heap.size]? =some (.deferred (some []))->Q (aqu j) {c.head [] us vs w s with df:=s.w.heap.size::s.df}
 |_,_,_=>False
section
variable {P:Program} {s:St}
def eH:∀{l:List S} {f:FnL l (World->Prop)} {vs:List Value} {w:World} {F:List Value->Prop},jo l f vs w->uv l F->F vs/\vs.length=l.length
 | [],_,[],_,_,_,h=>⟨h,rfl⟩
 | [],_,_::_,_,_,ha,_=>ha.elim
 |_::_,_,[],_,_,ha,_=>ha.elim
 |c::r,f,v::vs,w,F,ha,h=>by
  unfold jo at ha
  split at ha
  ·rename_i x hx
   have:=S.akV hx
   subst this
   have h2:=eH ha (h x)
   exact ⟨h2.1,by simp [h2.2]⟩
  ·exact ha.elim
def Lv(us:Nat->Value)(W:List Nat):∀(l:List SV)(k i:Nat),(iZ us W k l)[i]? =(l[i]?).map λv=>if W.contains (k+i) then .val (us (k+i)) else v
 | [],k,i=>by simp [iZ]
 |v::r,k,i=>by
  cases i with
  |zero=>simp [iZ]
  |succ i=>
   simp only [iZ,DS]
   rw [Lv us W r (k+1) i]
   simp only [show k+1+i=k+(i+1) by omega]
def Bm{g:Nat->Value}:∀(cs:List (Nat × S))(sl:List SV)(rest:List Value)(i:Nat),
  (nZ sl cs (cs.map (λx=>g x.1)++rest))[i]? =if cs.any (λx=>x.1==i) then (sl[i]?).map λ_=>SV.val (g i) else sl[i]?
 | [],sl,rest,i=>by cases rest<;>simp [nZ]
 |(j,c)::r,sl,rest,i=>by
  simp only [eQ,List.cons_append,nZ]
  rw [Bm r]
  by_cases e:j=i
  ·subst e
   simp only [List.any_cons,beq_self_eq_true,Bool.true_or,if_true,iD]
   split
   ·split<;>simp_all
   ·split<;>simp_all
  ·simp only [List.any_cons,show (j==i)=false by simpa using e,Bool.false_or,iD,if_neg e]
def xP{g:Nat->List Value}:∀(bs:List (Nat × List S))(kn:List KB)(i:Nat),(∀x ∈ bs,(g x.1).length=x.2.length)->
  (fo kn bs (bs.flatMap λx=>g x.1))[i]? =(kn[i]?).map λb=>if bs.any (λx=>x.1==i) then {b with cells:=g i} else b
 | [],kn,i,_=>by simp [fo]
 |(k,ss)::r,kn,i,h=>by
  have hk:(g k).length=ss.length:=h (k,ss) bg
  simp only [List.flatMap_cons,fo]
  rw [<-hk,List.take_left,List.drop_left,xP r _ _ (λx hx=>h x (by simp [hx])),KC]
  by_cases e:k=i
  ·subst e
   simp only [List.any_cons,beq_self_eq_true,Bool.true_or,if_true]
   cases kn[k]? with
   |none=>rfl
   |some b=>simp
  ·simp only [List.any_cons,show (k==i)=false by simpa using e,Bool.false_or,if_neg e]
   cases kn[i]? with
   |none=>rfl
   |some b=>simp
def Nc{c:Carry}{s s':St}{W:List Nat}{I:List Value->World->Prop}(bc:s.Ok)(og:s'.Ok)(Jm:Fr W s s')(h:c.enter s s' I):
  ∃us,I (c.qC s') s'.w/\(c.head W us (c.qC s') s'.w s).Ok/\(c.head W us (c.qC s') s'.w s).act=s'.act/\Fr W s (c.head W us (c.qC s') s'.w s):=by
 unfold Carry.enter at h;split at h
 case h_2=>exact h.elim
 rename_i hb;rw [bz] at h;obtain ⟨hcells,hI⟩:=h;rw [fk] at hb;obtain ⟨hlive,iX⟩:=hb;have hdf:s'.df=s.df:=Jm.df.2 (by
  unfold Carry.Re at hlive;rw [fk] at hlive;simpa using hlive.1)
 let g:Nat->Value:=λi=>(s'.sl.getD i (.val undef)).bM s'.kn
 let gb:Nat->List Value:=λk=>(s'.kn.getD k default).cells
 have dp:∀x ∈ c.blocks,(gb x.1).length=x.2.length:=λx hx=>by unfold Carry.okB at iX;have:=Gt.1 iX x hx;simp only [fk,beq_iff_eq] at this;exact this.1
 have hvals:c.qC s'=c.qm.map (λx=>g x.1)++c.blocks.flatMap λx=>gb x.1:=rfl
 have hdrop:(c.qC s').drop c.qm.length=c.blocks.flatMap λx=>gb x.1:=by rw [hvals,<-aL (as:=c.qm) (f:=λx=>g x.1),List.drop_left]
 have Xz:∀i,(c.head W g (c.qC s') s'.w s).kn[i]? =(s.kn[i]?).map λb=>if c.blocks.any (λx=>x.1==i) then {b with cells:=gb i} else b:=by intro i;show (fo s.kn c.blocks _)[i]? =_;rw [hdrop,xP _ _ _ dp]
 have jV:ux s.kn (c.head W g (c.qC s') s'.w s).kn:=λk kb hk=>by refine ⟨_,by rw [Xz,hk];rfl,?_,?_⟩<;>(dsimp only;split<;>rfl)
 have ow:∀i,(c.head W g (c.qC s') s'.w s).sl[i]? =(s.sl[i]?).map λv=>if c.qm.any (λx=>x.1==i) then .val (g i) else if W.contains i then .val (g i) else v:=by intro i;show (nZ _ c.qm _)[i]? =_;rw [hvals,Bm,Lv];simp only [eC];split<;>cases s.sl[i]? <;>simp
 have hconc:∀(i:Nat)(v:SV),s.sl[i]? =some v->((if c.qm.any (λx=>x.1==i) then SV.val (g i) else if W.contains i then .val (g i) else v).bM (c.head W g (c.qC s') s'.w s).kn)=g i:=by
  intro i v hv;split
  ·rfl
  ·split
   ·rfl
   ·rename_i hW;rw [jV.bM (bc.nE i v hv)];have:=Jm.slot i (by simpa using hW);simp only [dO,hv,Option.getD_some] at this;exact this.symm
 have hblkOk:∀(k:Nat)(kb:KB),(c.head W g (c.qC s') s'.w s).kn[k]? =some kb->kb.live=true->∃kb',s'.kn[k]? =some kb'/\kb'.live=true/\kb'.idx=kb.idx/\kb'.ty=kb.ty/\kb'.cells=kb.cells:=by
  intro k kb h1 h2;rw [Xz] at h1
  cases hs:s.kn[k]? with
  |none=>simp [hs] at h1
  |some b=>
   have iQ:k<s.kn.length:=(bZ.1 hs).1;obtain ⟨kb',e1,e2,e3⟩:=Jm.kn k b hs;have hl:b.live=kb'.live:=by unfold Carry.Re at hlive;rw [fk] at hlive;have:=Gt.1 hlive.2 k (nQ.2 iQ);simpa [dO,hs,e1] using this
   rw [hs] at h1;simp only [oK,Option.some.injEq] at h1;split at h1
   ·subst h1;exact ⟨kb',e1,hl▸h2,e2,e3,by simp [gb,dO,e1]⟩
   ·rename_i ajo;subst h1;refine ⟨kb',e1,hl▸h2,e2,e3,?_⟩;have:=hcells ((s'.kn.getD k default).cells=(s.kn.getD k default).cells) (aU.2 ⟨k,ju.2 ⟨nQ.2 iQ,?_⟩,rfl⟩)
    ·simpa [dO,hs,e1] using this
    ·simp only [dO,hs,Option.getD_some,h2,qI,Bool.not_eq_true'];simpa only [Bool.not_eq_true] using ajo
 refine ⟨g,hI,⟨?_,?_,?_⟩,?_,⟨?_,?_,jV,ak _,λ_=>rfl⟩⟩
 ·intro k kb h1 h2;obtain ⟨kb',e1,e2,e3,e4,e5⟩:=hblkOk k kb h1 h2;have:=og.aZ k kb' e1 e2;rw [e3,e4,e5] at this;exact this
 ·intro i j x y h1 h2 h3 h4 h5;obtain ⟨x',a1,a2,a3,_⟩:=hblkOk i x h1 h3;obtain ⟨y',b1,b2,b3,_⟩:=hblkOk j y h2 h4;exact og.ne i j x' y' a1 b1 a2 b2 (by rw [a3,b3];exact h5)
 ·intro i v hv;rw [ow] at hv
  cases hs:s.sl[i]? with
  |none=>simp [hs] at hv
  |some u=>
   rw [hs] at hv;simp only [oK,Option.some.injEq] at hv;subst hv;split
   ·trivial
   ·split
    ·trivial
    ·exact (bc.nE i u hs).mono jV.length
 ·simp only [St.act];rw [show (c.head W g (c.qC s') s'.w s).df=s'.df from hdf.symm];congr 1;congr 1;apply jt;intro i;rw [aS,aS,ow]
  cases hs:s.sl[i]? with
  |none=>
   have:s'.sl[i]? =none:=by rw [List.getElem?_eq_none_iff] at hs ⊢;rw [Jm.len];exact hs
   simp [this]
  |some v=>
   have iQ:i<s'.sl.length:=by rw [Jm.len];exact (bZ.1 hs).1
   simp only [oK];rw [hconc i v hs];simp [g,dO,cX iQ]
 ·have h1:∀i,(c.head W g (c.qC s') s'.w s).sl[i]? =none ↔ s.sl[i]? =none:=λi=>by rw [ow,Option.map_eq_none_iff]
  have e1:=h1 s.sl.length;have e2:=h1 (c.head W g (c.qC s') s'.w s).sl.length;simp only [List.getElem?_eq_none_iff] at e1 e2;omega
 ·intro i hi;simp only [dO,ow]
  cases hs:s.sl[i]? with
  |none=>rfl
  |some v=>
   simp only [oK,Option.getD_some];rw [hconc i v hs];have:=Jm.slot i hi;simp only [dO,hs,Option.getD_some] at this;simp only [g,dO];exact this
def uk(W:List Nat)(s:St)(Q:Exit->St->Prop):Exit->Act->World->Prop:=
 λe a w=>∃s',s'.Ok/\s'.act=a/\s'.w=w/\Fr W s s'/\Q e s'
def uk.of{W W':List Nat}{s h:St}{Q:Exit->St->Prop}{e:Exit}{a:Act}{w:World}(hp:uk W h Q e a w)(Jm:Fr W' s h)(hs:∀i ∈ W,i ∈ W'):uk W' s Q e a w:=by obtain ⟨s',h1,h2,h3,h4,h5⟩:=hp;exact ⟨s',h1,h2,h3,Jm.trans (h4.mono hs),h5⟩
def E7{F:Fence}{n:Nat}{P:Program}{Q:Exit->Act->World->Prop}{a:Act}{w:World}{c:Code}(I:Nat->Act->World->Prop)(n₀:Nat)(h₀:I n₀ a w)
  (round:∀m a w,I m a w->c.wpIn F n P (Exit.then (λa' w'=>∃n',n'<m/\I n' a' w') Q) a w):(Code.loop c).wpIn F n P Q a w:=by
 refine wpIn_loop (λa w=>∃n,I n a w) (λa w=>leastOf (λn=>I n a w)) ⟨n₀,h₀⟩ ?_;intro a w hI;refine wpIn_mono (round _ a w (leastOf_spec hI).1) ?_;intro e a' w' hq
 cases e with
 |normal=>
  obtain ⟨n',iQ,hI'⟩:=hq;exact show (∃n,I n a' w')/\leastOf (λn=>I n a' w')<leastOf (λn=>I n a w) from ⟨⟨n',hI'⟩,Rf ((leastOf_spec ⟨n',hI'⟩).2 n' hI') iQ⟩
 |exit id=>exact hq
 |goto l=>exact hq
 |ret=>exact hq
 |panic ch=>exact hq
 |outgrown=>exact hq
def C1(us:Nat->Value):∀(l:List SV)(i:Nat),iZ us [] i l=l
 | [],_=>rfl
 |v::r,i=>by
  show (if ([]:List Nat).contains i then SV.val (us i) else v)::iZ us [] (i+1) r=_
  rw [C1 us r (i+1)];rfl
def Lw:∀(bs:List (Nat × List S))(kn:List KB)(vs:List Value),gI (fo kn bs vs)=gI kn
 | [],_,_=>rfl
 |(k,ss)::r,kn,vs=>by
  show gI (fo (kn.modify k λb=>{b with cells:=vs.take ss.length}) r (vs.drop ss.length))=_
  rw [Lw r]
  unfold gI
  induction kn generalizing k with
  |nil=>simp
  |cons b kn ih=>
   cases k with
   |zero=>cases hb:b.live<;>simp [hb]
   |succ k=>
    have:=ih k
    cases hb:b.live<;>simp [hb]<;>simpa using this
def ZZ{kn:List KB}{k:Nat}{kb:KB}(h:kn[k]? =some kb)(hl:kb.live=true):kb.idx ∈ gI kn:=
 aU.2 ⟨kb,ju.2 ⟨aO h,hl⟩,rfl⟩
def aed{s:St}(bc:s.Ok){i:Nat}(h:i ∈ gI s.kn):∃c t,s.w.heap[i]? =some (.cells c t (0,0)):=by obtain ⟨kb,h1,rfl⟩:=aU.1 h;obtain ⟨h1,h2⟩:=ju.1 h1;obtain ⟨k,hk⟩:=tU h1;exact ⟨_,_,bc.aZ k kb hk h2⟩
def Xg:∀{l:List S} {F:List Value->Prop},exL l F->∃vs,F vs/\∀G:List Value->Prop,uv l G->G vs
 | [],_,h=>⟨[],h,λ_ hg=>hg⟩
 |s::r,F,⟨x,hx⟩=>by
  obtain ⟨vs,h1,h2⟩:=Xg hx
  exact ⟨_,h1,λG hg=>h2 _ (hg x)⟩
def T1.alZ{t:T1}{F:Value->Prop}(h:t.ex F):∃v,F v/\∀G:Value->Prop,t.all G->G v:=by
 cases t with
 |sc s=>obtain ⟨x,hx⟩:=h;exact ⟨_,hx,λG hg=>hg x⟩
 |agg l=>obtain ⟨vs,h1,h2⟩:=Xg h;exact ⟨_,h1,λG hg=>h2 _ hg⟩
def Xh:∀{l:List T1} {F:List Value->Prop},ex1 l F->∃vs,F vs/\vs.length=l.length/\∀G:List Value->Prop,alW l G->G vs
 | [],_,h=>⟨[],h,rfl,λ_ hg=>hg⟩
 |t::r,F,h=>by
  obtain ⟨v,h1,h2⟩:=T1.alZ h
  obtain ⟨vs,h3,h4,h5⟩:=Xh h1
  exact ⟨v::vs,h3,by simp [h4],λG hg=>h5 _ (h2 _ hg)⟩
def H6{c:Carry}{s s':St}{W:List Nat}{I:List Value->World->Prop}(uu:c.qm=[])(bc:s.Ok)(og:s'.Ok)(Jm:Fr W s s')(h:c.enter s s' I):
  ∃us,I (c.qC s') s'.w/\(c.head [] us (c.qC s') s'.w s).Ok/\Fr [] s (c.head [] us (c.qC s') s'.w s)/\(c.head [] us (c.qC s') s'.w s).sl=s.sl:=by
 obtain ⟨us,h1,h2,h3,h4⟩:=Nc bc og Jm h;have ow:(c.head [] us (c.qC s') s'.w s).sl=s.sl:=by show nZ (iZ us [] 0 s.sl) c.qm _=_;rw [uu,C1];rfl
 have jV:ux s.kn (c.head [] us (c.qC s') s'.w s).kn:=h4.kn;refine ⟨us,h1,⟨h2.aZ,h2.ne,λi v hv=> ?_⟩,⟨by rw [ow],λi _=> ?_,jV,ak _,λ_=>rfl⟩,ow⟩
 ·rw [ow] at hv;exact (bc.nE i v hv).mono jV.length
 ·rw [ow];simp only [dO]
  cases hg:s.sl[i]? with
  |none=>rfl
  |some u=>exact jV.bM (bc.nE i u hg)
def Rg:∀(l:List (Tmp × Value))(sl:List SV)(kn:List KB),(l.foldl (λsl p=>sl.set p.1 (.val p.2)) sl).map (SV.bM kn)=l.foldl (λt p=>t.set p.1 p.2) (sl.map (SV.bM kn))
 | [],_,_=>rfl
 |p::r,sl,kn=>by
  simp only [nU]
  rw [Rg r,jY];rfl
def Rh:∀(l:List (Tmp × Value))(t:List Value),(l.foldl (λt p=>t.set p.1 p.2) t).toArray=l.foldl (λ(t:Array Value) p=>t.setIfInBounds p.1 p.2) t.toArray
 | [],_=>rfl
 |p::r,t=>by
  simp only [nU]
  rw [Rh r];simp
def Rj:∀(l:List (Tmp × Value))(sl:List SV),(l.foldl (λsl p=>sl.set p.1 (.val p.2)) sl).length=sl.length
 | [],_=>rfl
 |p::r,sl=>by simp only [nU];rw [Rj r];simp
def Rk{n:Nat}:∀(l:List (Tmp × Value))(sl:List SV),(∀(i:Nat)(v:SV),sl[i]? =some v->v.jd n)->∀(i:Nat)(v:SV),(l.foldl (λsl p=>sl.set p.1 (.val p.2)) sl)[i]? =some v->v.jd n
 | [],_,h=>h
 |p::r,sl,h=>by
  simp only [nU]
  refine Rk r _ λi v hv=> ?_
  rw [iD] at hv
  split at hv
  ·split at hv
   ·cases hv;trivial
   ·cases hv
  ·exact h i v hv
def Lx:∀(l:List (Tmp × Value))(sl:List SV)(i:Nat),i ∉ l.map (·.1)->(l.foldl (λsl p=>sl.set p.1 (.val p.2)) sl)[i]? =sl[i]?
 | [],_,_,_=>rfl
 |p::r,sl,i,h=>by
  simp only [nU]
  rw [Lx r _ i (λhm=>h (by simp [hm])),iD,if_neg (λe=>h (by simp [e]))]
def aee(hP:EN P){n:Nat}{an:Ann}{g:Operand}{ps:Array Tmp}{assign body:Code}{Q:Exit->St->Prop}(bc:s.Ok)
  (ha:∀(l:Nat)(s:St)(Q:Exit->St->Prop),kv assign=true->s.Ok->gj P an assign s Q->assign.wpIn (Fence.wide.inRound l) 0 P (uk (writes assign) s Q) s.act s.w)
  (hb:∀(l:Nat)(s:St)(Q:Exit->St->Prop),kv body=true->s.Ok->gj P an body s Q->body.wpIn (Fence.wide.inRound l) 0 P (uk (writes body) s Q) s.act s.w)
  (h:gj P an (.rangeFunc g ps assign body) s Q):(Code.rangeFunc g ps assign body).wpIn Fence.wide n P (uk (writes (.rangeFunc g ps assign body)) s Q) s.act s.w:=by
 unfold gj at h
 split at h
 ·exact h.elim
 rename_i c ts hc
 split at h
 ·exact h.elim
 rename_i hbool
 simp only [fk,List.isEmpty_iff,beq_iff_eq] at hbool
 obtain ⟨⟨⟨Ov,VM⟩,uu⟩,htl⟩:=hbool
 obtain ⟨q1,q2,q3,q4,q5⟩:=fE (c.mH.map λk=> .loc k 0) bc
 have qa:=nY (l:=c.mH.map λk=> .loc k 0) bc
 have qf:Fr (writes (.rangeFunc g ps assign body)) s (s.kill (c.mH.map λk=> .loc k 0)):=⟨by rw [q2],λi _=>by
  rw [q2]
  simp only [dO]
  cases hg:s.sl[i]? with
  |none=>rfl
  |some u=>exact q4.bM (bc.nE i u hg),q4,by rw [oY];exact ⟨ak _,λ_=>rfl⟩⟩
 suffices hh:(Code.rangeFunc g ps assign body).wpIn Fence.wide n P (uk (writes (.rangeFunc g ps assign body)) (s.kill (c.mH.map λk=> .loc k 0)) Q) s.act s.w from wpIn_mono hh λe a w hp=>hp.of qf λi hi=>hi
 rw [<-qa,<-q3]
 simp only at h
 generalize s.kill (c.mH.map λk=> .loc k 0)=s at*
 have bc:=q1
 obtain ⟨xs,Rd,F0,I,X,hsh,hsI,hsX,hbI,hbX,hRd,oh,hround,hdone,hexit⟩:=h
 obtain ⟨B,hB⟩:∃B,B=s.w.heap.size:=⟨_,rfl⟩
 rw [<-hB] at hsI hsX hbI hbX hRd oh hround hdone hexit
 obtain ⟨s0,Dp⟩:∃s0:St,s0={s with df:=[]}:=⟨_,rfl⟩
 simp only [<-Dp] at oh hround
 have hok0:s0.Ok:=by rw [Dp];exact ⟨bc.aZ,bc.ne,bc.nE⟩
 have e0:s0.sl=s.sl/\s0.w=s.w/\s0.kn=s.kn/\s0.df=[]:=by rw [Dp];exact ⟨rfl,rfl,rfl,rfl⟩
 have hlv:∀{i},i ∈ gI s.kn->i<B:=λhi=>by
  obtain ⟨_,_,h1⟩:=aed bc hi
  rw [hB];exact (tQ.1 h1).1
 refine wpIn_rangeFunc λfn hfn=> ?_
 obtain ⟨rec,g8⟩:∃rec:LoopState->Option Code->Loop,rec=λst pe=>{state:=st,pending:=pe,fn,tmps:=s.act.tmps,params:=ps,assign,body,defers:=B}:=⟨_,rfl⟩
 obtain ⟨W1,hW1⟩:∃W1,(s.w.alloc (.deferred (some []))).alloc (.loop (rec .ready none))=W1:=⟨_,rfl⟩
 have hL1:W1.heap[B+1]? =some (.loop (rec .ready none)):=by
  rw [<-hW1,hB];have:=World.alloc_heap_new (s.w.alloc (.deferred (some []))) (.loop (rec .ready none));rwa [World.size_alloc] at this
 have hD1:W1.heap[B]? =some (.deferred (some [])):=by
  rw [<-hW1,hB];exact (Below.heap_alloc _ _ _ bg).trans (World.alloc_heap_new s.w _)
 have hz1:W1.heap.size=B+2:=by rw [<-hW1,hB];simp
 have Ks:Below B s.w W1:=by
  rw [<-hW1];exact ((Below.refl _ s.w).alloc aa _).alloc (by simp;omega) _
 obtain ⟨⟨⟨f,first,cap,hg,zo⟩,hit⟩,hen⟩:=oh W1 ⟨hB▸Ks,hB,hz1⟩
 obtain ⟨JJ,hJJ⟩:∃JJ:LoopState->Option Code->((Nat->Prop)->FnL c.bD (World->Prop))->(Nat->Prop)->World->Prop,JJ=λst pe K FF w=>∃F us vs,(∀i,FF i ↔(F i\/i ∈ gI s.kn)\/i=B\/i=B+1)/\
   (c.head [] us vs w s0).Ok/\Fr [] s0 (c.head [] us vs w s0)/\(c.head [] us vs w s0).sl=s0.sl/\jo c.bD (K F) vs w/\w.heap[B+1]? =some (.loop (rec st pe))/\w.heap[B]? =some (.deferred (some [])):=⟨_,rfl⟩
 have stabJ:∀{st pe} {K:(Nat->Prop)->FnL c.bD (World->Prop)} {FF w w'},(∀F,uv c.bD λvs=>∀w w',jo c.bD (K F) vs w->Below B w w'->(∀i,F i->w'.heap[i]? =w.heap[i]?)->jo c.bD (K F) vs w')->
   JJ st pe K FF w->Below B w w'->(∀i,FF i->w'.heap[i]? =w.heap[i]?)->JJ st pe K FF w':=by
  intro st pe K FF w w' iC hj lj hsame
  rw [hJJ] at hj ⊢
  obtain ⟨F,us,vs,h1,h2,h3,h4,h5,h6,h7⟩:=hj
  refine ⟨F,us,vs,h1,⟨λk kb hk hl=> ?_,h2.ne,h2.nE⟩,⟨h3.len,h3.slot,h3.kn,h3.df⟩,h4,(eH h5 (iC F)).1 w w' h5 lj λi hi=>hsame i ((h1 i).2 (.inl (.inl hi))),?_,?_⟩
  ·have:=h2.aZ k kb hk hl
   refine (hsame kb.idx ((h1 _).2 (.inl (.inr ?_)))).trans this
   have hm:=ZZ hk hl
   rw [show (c.head [] us vs w' s0).kn=fo s0.kn c.blocks (vs.drop c.qm.length) from rfl,Lw,e0.2.2.1] at hm
   exact hm
  ·rw [hsame _ ((h1 _).2 (.inr (.inr rfl)))];exact h6
  ·rw [hsame _ ((h1 _).2 (.inr (.inl rfl)))];exact h7
 have boundJ:∀{st pe} {K:(Nat->Prop)->FnL c.bD (World->Prop)} {FF w},(∀F,uv c.bD λvs=>∀w,jo c.bD (K F) vs w->∀i,F i->i<w.heap.size/\i≠B/\i≠B+1)->
   JJ st pe K FF w->∀i,FF i->i<w.heap.size:=by
  intro st pe K FF w zo hj i hi
  rw [hJJ] at hj
  obtain ⟨F,us,vs,h1,h2,h3,h4,h5,h6,h7⟩:=hj
  have hz:=(tQ.1 h6).1
  rcases (h1 i).1 hi with (hi|hi)|rfl|rfl
  ·exact ((eH h5 (zo F)).1 w h5 i hi).1
  ·have:=hlv hi;omega
  ·omega
  ·omega
 have mkJ:∀{st pe} {K:(Nat->Prop)->FnL c.bD (World->Prop)} {F:Nat->Prop} {s':St} {W:List Nat},s'.Ok->Fr W s0 s'->c.enter s0 s' (jo c.bD (K F))->s'.w.heap[B+1]? =some (.loop (rec st pe))->s'.w.heap[B]? =some (.deferred (some []))->
   JJ st pe K (λi=>(F i\/i ∈ gI s.kn)\/i=B\/i=B+1) s'.w:=by
  intro st pe K F s' W h1 h2 h3 h4 h5
  obtain ⟨us,g1,g2,g3,g4⟩:=H6 uu hok0 h1 h2 h3
  rw [hJJ]
  exact ⟨F,us,c.qC s',λi=>Iff.rfl,g2,g3,g4,g1,h4,h5⟩
 obtain ⟨y,hy⟩:∃y,y=Value.func (.yield (B+1)) #[] #[]:=⟨_,rfl⟩
 have hok1:({s0 with w:=W1}:St).Ok:=⟨λk kb h1 h2=>by
  have:=hok0.aZ k kb h1 h2
  rw [e0.2.1] at this
  rw [<-this]
  exact Ks.block _ (by rw [hB];exact (tQ.1 this).1),hok0.ne,hok0.nE⟩
 have hcall:=hit y B (λm=>JJ .ready none (I m)) (λ_ FF w=>∃j,(kF body).contains j=true/\JJ .done (some (Lu j)) (X j) FF w)
  (λi=>(F0 i\/i ∈ gI s.kn)\/i=B\/i=B+1) W1 aa
  (λm FF w w'=>stabJ (hsI m)) (λ_ FF w w' hj lj hs=>by
   obtain ⟨e,he,hj⟩:=hj
   exact ⟨e,he,stabJ (hsX e) hj lj hs⟩)
  (λm FF w=>boundJ (hbI m))
  (λi hi=>by
   obtain ⟨h1,h2,h3⟩:=hRd i hi
   rw [bz] at h3
   refine ⟨?_,by omega,rfl⟩
   rintro ((h4|h4)|h4|h4)
   ·exact h2 h4
   ·exact h3.1 (i≠i) (aU.2 ⟨i,h4,rfl⟩) rfl
   ·omega
   ·omega)
  ?_ (mkJ (s':={s0 with w:=W1}) (W:=[]) hok1 ⟨rfl,λ_ _=>rfl,ux.refl _,ak _,λ_=>rfl⟩ (by rw [Dp] at hen ⊢;exact hen) hL1 hD1)
 ·
  rw [hg] at hcall
  unfold bB at hcall
  simp only [zo] at hcall
  unfold wE at zo
  split at zo
  case h_2=>cases zo
  rename_i fn' hf'
  split at zo
  case h_2=>cases zo
  rename_i body' hbody'
  have hn':=hP f fn' hf'
  refine ⟨B+1,[{target:=.collected B,args:= #[]}],W1,{target:=.fn (.func f) cap,args:=first++ #[y]},W1,f,first++ #[y]++cap,W1,?_,?_,λ_ _=>trivial,?_,tF,callsIn_wide.2 ?_⟩
  ·rw [<-hW1,g8,hB];exact run_enterLoop_outer _ _ _ _ _
  ·have hev:s.act.eval g=.func (.func f) first cap:=by rw [St.uX];exact hg
   simp only [resolve,hev,Deferred.ofValue,hy]
   simp [Act.eval]
  ·simp only [invoke,callFunc]
   simp [program,Sem.run,hf',hn',hbody']
  ·have af7:(first.toList++ [y]++cap.toList).toArray=first++ #[y]++cap:=by apply Array.ext';simp
   rw [af7] at hcall
   refine hcall.mono ?_
   have fin:∀{st pe} {K:(Nat->Prop)->FnL c.bD (World->Prop)} {FF w w4} {e:Exit},JJ st pe K FF w->Rec (B+1) w w4->(∀F,uv c.bD λvs=>∀w w',jo c.bD (K F) vs w->Below B w w'->(∀i,F i->w'.heap[i]? =w.heap[i]?)->jo c.bD (K F) vs w')->
     (∀F,uv c.bD λvs=>∀w,jo c.bD (K F) vs w->∀i,F i->i<w.heap.size/\i≠B/\i≠B+1)->
     (∀F (us:Nat->Value),uv c.bD λvs=>∀w,jo c.bD (K F) vs w->w.heap[B]? =some (.deferred (some []))->Q e {c.head [] us vs w s with df:=B::s.df})->
     uk (writes (.rangeFunc g ps assign body)) s Q e {tmps:=s.act.tmps,defers:={target:=.collected B,args:= #[]}::s.act.defers} w4:=by
    intro st pe K FF w w4 e hj hr iC zo hq
    rw [hJJ] at hj
    obtain ⟨F,us,vs,h1,h2,h3,h4,h5,h6,h7⟩:=hj
    have h5':=(eH h5 (iC F)).1 w w4 h5 (hr.below aa) λi hi=>hr.same i ((eH h5 (zo F)).1 w h5 i hi).2.2
    have h7':w4.heap[B]? =some (.deferred (some [])):=by rw [hr.same _ aa];exact h7
    have Xz:(c.head [] us vs w4 s).kn=(c.head [] us vs w s0).kn:=by
     show fo s.kn _ _=fo s0.kn _ _
     rw [e0.2.2.1]
    have ow:(c.head [] us vs w4 s).sl=s.sl:=by
     show nZ (iZ us [] 0 s.sl) c.qm vs=_
     rw [uu,C1];rfl
    have jV:ux s.kn (c.head [] us vs w4 s).kn:=by rw [Xz,<-e0.2.2.1];exact h3.kn
    refine ⟨{c.head [] us vs w4 s with df:=B::s.df},⟨λk kb hk hl=> ?_,λi j x z hi hj=> ?_,λi v hv=> ?_⟩,?_,rfl,⟨by show (c.head [] us vs w4 s).sl.length=_;rw [ow],λi _=> ?_,jV,by simp,λh=>by simp at h⟩,(eH h5' (hq F us)).1 w4 h5' h7'⟩
    ·have hk':(c.head [] us vs w s0).kn[k]? =some kb:=by rw [<-Xz];exact hk
     have hh:=h2.aZ k kb hk' hl
     show w4.heap[kb.idx]? =_
     rw [<-hh]
     refine hr.same _ λe=> ?_
     rw [show (c.head [] us vs w s0).w=w from rfl,e,h6] at hh
     cases hh
    ·exact h2.ne i j x z (by rw [<-Xz];exact hi) (by rw [<-Xz];exact hj)
    ·show v.jd (c.head [] us vs w4 s).kn.length
     rw [show ({c.head [] us vs w4 s with df:=B::s.df}:St).sl=(c.head [] us vs w4 s).sl from rfl,ow] at hv
     exact (bc.nE i v hv).mono jV.length
    ·show ({tmps:=((c.head [] us vs w4 s).sl.map (SV.bM (c.head [] us vs w4 s).kn)).toArray,defers:=marks (B::s.df)}:Act)=_
     rw [ow]
     have:s.sl.map (SV.bM (c.head [] us vs w4 s).kn)=s.sl.map (SV.bM s.kn):=by
      refine zP λx hx=> ?_
      obtain ⟨i,hi⟩:=tU hx
      exact jV.bM (bc.nE i x hi)
     rw [this];rfl
    ·show ((c.head [] us vs w4 s).sl.getD i (.val undef)).bM (c.head [] us vs w4 s).kn=_
     rw [ow]
     simp only [dO]
     cases hg:s.sl[i]? with
     |none=>rfl
     |some u=>exact jV.bM (bc.nE i u hg)
   rintro e w3 ⟨⟨v,rfl⟩,(⟨FF,hj⟩|⟨FF,j,he,hj⟩)⟩
   ·have hl:w3.heap[B+1]? =some (.loop (rec .ready none)):=by
     have:=hj
     rw [hJJ] at this
     obtain ⟨F,us,vs,h1,h2,h3,h4,h5,h6,h7⟩:=this
     exact h6
    have BS:=run_endLoop (P:=P) hl (by rw [g8];simp)
    rw [g8] at BS
    exact ⟨none,_,BS,fin hj (Rec.putObj _ _ _) (hsI _) (hbI _) hdone⟩
   ·have hl:w3.heap[B+1]? =some (.loop (rec .done (some (Lu j)))):=by
     have:=hj
     rw [hJJ] at this
     obtain ⟨F,us,vs,h1,h2,h3,h4,h5,h6,h7⟩:=this
     exact h6
    have BS:=run_endLoop (P:=P) hl (by rw [g8];simp)
    rw [g8] at BS
    refine ⟨some (Lu j),_,BS,?_⟩
    have hq:=Ra hexit j (List.contains_iff_mem.1 he)
    cases j with
    |none=>exact wpIn_ret (fin hj (Rec.putObj _ _ _) (hsX _) (hbX _) hq)
    |some id=>exact wpIn_exit (fin hj (Rec.putObj _ _ _) (hsX _) (hbX _) hq)
 ·
  intro m x FF w hx hj
  have hj':=hj
  rw [hJJ] at hj'
  obtain ⟨F,us,vs,h1,h2,h3,h4,h5,h6,h7⟩:=hj'
  have hz:=(tQ.1 h6).1
  obtain ⟨x',hxe,hxl,hxa⟩:=Xh (hsh x (aO hx))
  subst hxe
  have hyr:=run_yield (P:=P) (args:=x.toArray) h6 (by rw [g8];simp [hxl,htl])
  rw [hy]
  refine ⟨⟨rfl,rfl⟩,_,_,_,_,hyr,?_⟩
  have hFb:∀i,F i->i<w.heap.size/\i≠B/\i≠B+1:=(eH h5 (hbI m F)).1 w h5
  have Xz:(c.head [] us vs w s0).kn.length=s0.kn.length/\ux s0.kn (c.head [] us vs w s0).kn:=⟨by
   show (fo s0.kn c.blocks _).length=_
   have:∀(bs:List (Nat × List S))(kn:List KB)(vs:List Value),(fo kn bs vs).length=kn.length:=by
    intro bs
    induction bs with
    |nil=>intro kn vs;rfl
    |cons p r ih=>intro kn vs;obtain ⟨k,ss⟩:=p;show (fo _ r _).length=_;rw [ih];simp
   exact this _ _ _,h3.kn⟩
  have hvc:=hxa _ ((eH h5 (hround m F us)).1) w hx h5
  obtain ⟨sA,hsA⟩:∃sA:St,sA={c.head [] us vs w s0 with sl:=(ps.toList.zip x).foldl (λsl p=>sl.set p.1 (.val p.2)) (c.head [] us vs w s0).sl}:=⟨_,rfl⟩
  rw [<-hsA] at hvc
  have hokA:sA.Ok:=by
   rw [hsA]
   exact ⟨h2.aZ,h2.ne,Rk _ _ h2.nE⟩
  have hwA:sA.w=w:=by rw [hsA];rfl
  have hactA:sA.act={tmps:=(ps.zip x.toArray).foldl (λtmps (p:Tmp × Value)=>tmps.setIfInBounds p.1 p.2) s.act.tmps,defers:=[]}:=by
   rw [hsA]
   show ({tmps:=(((ps.toList.zip x).foldl (λsl p=>sl.set p.1 (.val p.2)) (c.head [] us vs w s0).sl).map (SV.bM (c.head [] us vs w s0).kn)).toArray,defers:=marks s0.df}:Act)=_
   rw [Rg,Rh,h4,e0.2.2.2]
   have ht:s0.sl.map (SV.bM (c.head [] us vs w s0).kn)=s.sl.map (SV.bM s.kn):=by
    rw [e0.1,<-e0.2.2.1]
    refine zP λu hu=> ?_
    obtain ⟨i,hi⟩:=tU hu
    exact Xz.2.bM (hok0.nE i u (by rw [e0.1];exact hi))
   rw [ht]
   congr 1
   rw [<-Array.foldl_toList,Array.toList_zip]
   rfl
  have hfrA:Fr ps.toList s0 sA:=by
   rw [hsA]
   refine ⟨by show (List.foldl (λsl (p:Tmp × Value)=>sl.set p.1 (SV.val p.2)) (c.head [] us vs w s0).sl (ps.toList.zip x)).length=_;rw [Rj,h4],λi hi=> ?_,h3.kn,ak _,λ_=>rfl⟩
   have:((ps.toList.zip x).foldl (λsl p=>sl.set p.1 (.val p.2)) (c.head [] us vs w s0).sl)[i]? =(c.head [] us vs w s0).sl[i]? :=Lx _ _ _ (λhm=>hi (by
    obtain ⟨p,hp,rfl⟩:=aU.1 hm
    exact (List.of_mem_zip hp).1))
   have h3s:=h3.slot i bg
   simp only [dO] at h3s ⊢
   rw [this];exact h3s
  have hA:=ha (B+1) sA _ Ov hokA hvc
  rw [hactA,hwA] at hA
  refine roundIn_of_wpIn trivial ?_
  rw [g8]
  refine wpIn_mono hA ?_
  rintro e a1 w1 ⟨s1,k1,rfl,rfl,k4,k5⟩
  cases e with
  |normal=>
   obtain ⟨abC,hbody⟩:=k5
   have hl1:s1.w.heap[B+1]? =some (.loop (rec .ready none)):=by rw [abC.block _ hz];exact h6
   have hd1:s1.w.heap[B]? =some (.deferred (some [])):=by rw [abC.block _ aa];exact h7
   have hbr:=run_beginRound (P:=P) hl1 (by rw [g8])
   refine ⟨_,hbr,?_⟩
   obtain ⟨w2,Df⟩:∃w2,w2=s1.w.putObj (B+1) (.loop {rec .ready none with state:=.busy}):=⟨_,rfl⟩
   have hR2:Rec (B+1) s1.w w2:=by rw [Df];exact Rec.putObj _ _ _
   have aH3:=abC.size
   have N6:w2.heap[B+1]? =some (.loop {rec .ready none with state:=.busy}):=by rw [Df];exact World.putObj_heap_same aa
   have hd2:w2.heap[B]? =some (.deferred (some [])):=by rw [hR2.same _ aa];exact hd1
   have h5b:=(eH h5 (hsI m F)).1 w w2 h5 ((Below.mono abC aa).trans (hR2.below aa)) λi hi=>by
    obtain ⟨g1,g2,g3⟩:=hFb i hi
    rw [hR2.same i g3];exact abC.block i g1
   have hok2:=yQ k1 (λc t f e=>by rw [hl1] at e;cases e) hR2
   have N9:=hb (B+1) {s1 with w:=w2} _ VM hok2 (hbody w2 hR2 h5b)
   rw [show w2=({s1 with w:=w2}:St).w from rfl,Df] at N9
   rw [<-Df]
   rw [<-Df] at N9
   refine wpIn_mono N9 ?_
   have hz2:=hR2.size
   have nF:¬((F (B+1)\/B+1 ∈ gI s.kn)\/w.heap.size<=B+1):=by
    rintro ((hh|hh)|hh)
    ·exact (hFb _ hh).2.2 rfl
    ·have:=hlv hh;omega
    ·omega
   have nD:¬((F B\/B ∈ gI s.kn)\/w.heap.size<=B):=by
    rintro ((hh|hh)|hh)
    ·exact (hFb _ hh).2.1 rfl
    ·have:=hlv hh;omega
    ·omega
   have QD:∀{F':Nat->Prop} {w' w3:World},Step (λi=>(F i\/i ∈ gI s.kn)\/w.heap.size<=i) (λi=>F' i\/i ∈ gI s.kn) w2 w'->Rec (B+1) w' w3->Step FF (λi=>(F' i\/i ∈ gI s.kn)\/i=B\/i=B+1) w w3:=by
    intro F' w' w3 hs hr
    refine ⟨λi hi=> ?_,?_,λi hi hn=> ?_⟩
    ·rcases hi with hi|hi
     ·rcases hs.sub i hi with (hh|hh)|hh
      ·exact .inl ((h1 i).2 (.inl hh))
      ·exact .inr hh
      ·exact .inr aa
     ·exact .inl ((h1 i).2 (.inr hi))
    ·have:=hs.size;have:=hr.size;omega
    ·have hn':¬(F i\/i ∈ gI s.kn):=λhh=>hn ((h1 i).2 (.inl hh))
     have Oy:i≠B+1:=λhh=>hn ((h1 i).2 (.inr (.inr hh)))
     rw [hr.same i Oy,hs.same i aa (λhh=>hh.elim hn' λhh=>by omega),hR2.same i Oy,abC.block i hi]
   have frs:∀{s2:St},Fr (writes body) {s1 with w:=w2} s2->Fr (ps.toList++writes assign++writes body) s0 s2:=λ{s2} hh=>
    (hfrA.mono λi hi=>xC _ (xC _ hi)).trans (Fr.trans (b:={s1 with w:=w2}) (Fr.mono (W:=writes assign) (W':=ps.toList++writes assign++writes body) (b:={s1 with w:=w2}) ⟨k4.len,k4.slot,k4.kn,k4.df⟩ λi hi=>xC _ (r6 _ hi)) (hh.mono λi hi=>r6 _ hi))
   have jump:∀(j:Option Nat)(s2:St),(kF body).contains j=true->s2.Ok->Fr (writes body) {s1 with w:=w2} s2->
     (∃F',c.enter s0 s2 (jo c.bD (X j F'))/\Step (λi=>(F i\/i ∈ gI s.kn)\/w.heap.size<=i) (λi=>F' i\/i ∈ gI s.kn) w2 s2.w)->
     ∃v w3,(Instr.endRound (B+1) (some (Lu j))).run P s2.w=.ok v w3/\((Ending.returned v=.returned (.bool true)/\∃F',JJ .ready none (I (m+1)) F' w3/\Step FF F' w w3)\/
      (Ending.returned v=.returned (.bool false)/\∃F',(∃j,(kF body).contains j=true/\JJ .done (some (Lu j)) (X j) F' w3)/\Step FF F' w w3)):=by
    rintro j s2 he l1 l4 ⟨F',hen2,iC⟩
    generalize hcd:Lu j=cd
    have hl3:s2.w.heap[B+1]? =some (.loop {rec .ready none with state:=.busy}):=by rw [iC.same _ aa nF];exact N6
    have hd3:s2.w.heap[B]? =some (.deferred (some [])):=by rw [iC.same _ aa nD];exact hd2
    have BS:=run_endRound (P:=P) (some cd) hl3
    have hrc:({({rec .ready none with state:=.busy}:Loop) with state:=if (some cd).isNone then .ready else .done,pending:=some cd}:Loop)=rec .done (some cd):=by rw [g8];rfl
    rw [hrc] at BS
    have hR3:=Rec.putObj s2.w (B+1) (.loop (rec .done (some cd)))
    refine ⟨_,_,BS,.inr ⟨rfl,_,⟨j,he,?_⟩,QD iC hR3⟩⟩
    rw [hcd]
    have hok3:=yQ l1 (λc t f e=>by rw [hl3] at e;cases e) hR3
    have hsz:=iC.size
    have hbX':∀i,F' i->i<s2.w.heap.size/\i≠B/\i≠B+1:=by
     obtain ⟨us',g1,_⟩:=H6 uu hok0 l1 (frs l4) hen2
     exact (eH g1 (hbX j F')).1 _ g1
    have hen3:c.enter s0 {s2 with w:=s2.w.putObj (B+1) (.loop (rec .done (some cd)))} (jo c.bD (X j F')):=by
     unfold Carry.enter at hen2 ⊢
     split at hen2
     ·rename_i hbb
      rw [show (c.Re s0 {s2 with w:=s2.w.putObj (B+1) (.loop (rec .done (some cd)))} && c.okB {s2 with w:=s2.w.putObj (B+1) (.loop (rec .done (some cd)))})=true from hbb]
      rw [bz] at hen2 ⊢
      exact ⟨hen2.1,(eH hen2.2 (hsX j F')).1 _ _ hen2.2 (hR3.below aa) λi hi=>hR3.same i (hbX' i hi).2.2⟩
     ·exact hen2.elim
    refine mkJ (s':={s2 with w:=s2.w.putObj (B+1) (.loop (rec .done (some cd)))}) (W:=ps.toList++writes assign++writes body) hok3 ⟨(frs l4).len,(frs l4).slot,(frs l4).kn,(frs l4).df⟩ hen3 (World.putObj_heap_same aa) ?_
    rw [hR3.same _ aa];exact hd3
   rintro e a3 w3 ⟨s2,l1,rfl,rfl,l4,l5⟩
   cases e with
   |normal=>
    obtain ⟨F',hen2,iC⟩:=l5
    have iC:Step (λi=>(F i\/i ∈ gI s.kn)\/w.heap.size<=i) (λi=>F' i\/i ∈ gI s.kn) w2 s2.w:=iC
    have hl3:s2.w.heap[B+1]? =some (.loop {rec .ready none with state:=.busy}):=by rw [iC.same _ aa nF];exact N6
    have hd3:s2.w.heap[B]? =some (.deferred (some [])):=by rw [iC.same _ aa nD];exact hd2
    have BS:=run_endRound (P:=P) none hl3
    have hrc:({({rec .ready none with state:=.busy}:Loop) with state:=if (none:Option Code).isNone then .ready else .done,pending:=none}:Loop)=rec .ready none:=by rw [g8];rfl
    rw [hrc] at BS
    have hR3:=Rec.putObj s2.w (B+1) (.loop (rec .ready none))
    refine ⟨_,_,BS,.inl ⟨rfl,_,?_,QD iC hR3⟩⟩
    have hok3:=yQ l1 (λc t f e=>by rw [hl3] at e;cases e) hR3
    have hsz:=iC.size
    have hbI':∀i,F' i->i<s2.w.heap.size/\i≠B/\i≠B+1:=by
     obtain ⟨us',g1,_⟩:=H6 uu hok0 l1 (frs l4) hen2
     exact (eH g1 (hbI (m+1) F')).1 _ g1
    have hen3:c.enter s0 {s2 with w:=s2.w.putObj (B+1) (.loop (rec .ready none))} (jo c.bD (I (m+1) F')):=by
     unfold Carry.enter at hen2 ⊢
     split at hen2
     ·rename_i hbb
      rw [show (c.Re s0 {s2 with w:=s2.w.putObj (B+1) (.loop (rec .ready none))} && c.okB {s2 with w:=s2.w.putObj (B+1) (.loop (rec .ready none))})=true from hbb]
      rw [bz] at hen2 ⊢
      exact ⟨hen2.1,(eH hen2.2 (hsI (m+1) F')).1 _ _ hen2.2 (hR3.below aa) λi hi=>hR3.same i (hbI' i hi).2.2⟩
     ·exact hen2.elim
    refine mkJ (s':={s2 with w:=s2.w.putObj (B+1) (.loop (rec .ready none))}) (W:=ps.toList++writes assign++writes body) hok3 ⟨(frs l4).len,(frs l4).slot,(frs l4).kn,(frs l4).df⟩ hen3 (World.putObj_heap_same aa) ?_
    rw [hR3.same _ aa];exact hd3
   |ret=>exact jump none s2 l5.1 l1 l4 l5.2
   |exit id=>exact jump (some id) s2 l5.1 l1 l4 l5.2
   |goto t=>exact l5.elim
   |panic ch=>exact l5.elim
   |outgrown=>exact l5.elim
  |_=>exact k5.elim
def dG(hP:EN P)(hm:P.follows .mixedOrders=true)(an:Ann){F:Fence}{nn:Nat}(hF:Wd F):∀(c:Code)(s:St)(Q:Exit->St->Prop),(F=Fence.wide\/kv c=true)->s.Ok->gj P an c s Q->c.wpIn F nn P (uk (writes c) s Q) s.act s.w
 | .skip,s,Q,_,bc,h=>wpIn_skip ⟨s,bc,rfl,rfl,Fr.refl _ _,h⟩
 | .region id ops draw,s,Q,_,bc,h=>by
   unfold gj at h
   cases draw with
   |false=>
    refine wpIn_region ?_
    have he:List.range ops.size=List.range' 0 ops.toList.length:=by rw [List.range_eq_range'];simp
    rw [he];refine M8 hF ops.toList 0 _ _ (λj hj=>by simp) ?_;exact Bk hP ops.toList s (uk (writes (.region id ops false)) s Q) bc h λa w hp=>hp
   |true=>
    simp only at h;split at h
    case h_2=>exact h.elim
    rename_i IZ;refine wpIn_mono (wpIn_region_any (Q:=Qr (dstsOf ops.toList) s (Q .normal)) hm ?_) λe a w hq=> ?_
    ·refine Xd hF _ [] _ _ _ ?_;have og:({s with w:=s.w.drew}:St).Ok:=⟨bc.aZ,bc.ne,bc.nE⟩;refine pD hP IZ (dstsOf ops.toList) s (λj o d h1 h2=> ?_) ops.size [] _ {s with w:=s.w.drew} og ⟨rfl,λ_ _=>rfl,ux.refl _,ak _,λ_=>rfl⟩ (λq hq=>by cases hq) h;exact List.mem_filterMap.2 ⟨o,by
      have:=Array.mem_of_getElem? h1;simpa using this,h2⟩
    ·cases e with
     |normal=>exact hq
     |_=>exact hq.elim
 | .seq x y,s,Q,Em,bc,h=>by
   unfold gj at h;have hx:F=Fence.wide\/kv x=true:=Em.imp id λh=>by simp [kv] at h;exact h.1
   have hy:F=Fence.wide\/kv y=true:=Em.imp id λh=>by simp [kv] at h;exact h.2
   split at h
   ·refine wpIn_seq (wpIn_mono (dG (nn:=nn) hP hm an hF x s _ hx bc h) λe a w hp=> ?_)
    cases e with
    |normal=>
     obtain ⟨s',h1,rfl,rfl,h4,h5⟩:=hp;exact wpIn_mono (dG (nn:=nn) hP hm an hF y s' Q hy h1 h5) λe a w hp=>hp.of (h4.mono λi hi=>by simp [writes,hi]) λi hi=>by simp [writes,hi]
    |exit id=>exact hp.of (Fr.refl _ _) λi hi=>by simp [writes,hi]
    |goto l=>exact hp.of (Fr.refl _ _) λi hi=>by simp [writes,hi]
    |ret=>exact hp.of (Fr.refl _ _) λi hi=>by simp [writes,hi]
    |panic ch=>exact hp.of (Fr.refl _ _) λi hi=>by simp [writes,hi]
    |outgrown=>exact hp.of (Fr.refl _ _) λi hi=>by simp [writes,hi]
   ·rename_i c hc;obtain ⟨J,h1,h2⟩:=h;obtain ⟨q1,q2,q3,q4,q5⟩:=fE (c.mH.map λk=> .loc k 0) bc;have qa:=nY (l:=c.mH.map λk=> .loc k 0) bc;have qf:Fr (writes (x.seq y)) s (s.kill (c.mH.map λk=> .loc k 0)):=⟨by rw [q2],λi _=>by
     rw [q2];simp only [dO]
     cases hg:s.sl[i]? with
     |none=>rfl
     |some u=>exact q4.bM (bc.nE i u hg),q4,by rw [oY];exact ⟨ak _,λ_=>rfl⟩⟩
    suffices hh:(x.seq y).wpIn F nn P (uk (writes (x.seq y)) (s.kill (c.mH.map λk=> .loc k 0)) Q) s.act s.w from wpIn_mono hh λe a w hp=>hp.of qf λi hi=>hi
    rw [<-qa,<-q3];generalize s.kill (c.mH.map λk=> .loc k 0)=s at*;have bc:=q1;refine wpIn_seq (wpIn_mono (dG (nn:=nn) hP hm an hF x s _ hx bc h1) λe a w hp=> ?_)
    cases e with
    |normal=>
     obtain ⟨s',k1,rfl,rfl,k4,k5⟩:=hp;obtain ⟨us,g1,g2,g3,g4⟩:=Nc bc k1 k4 k5;have hv:=(eH g1 (h2 us)).1 s'.w g1;have h6:=dG (nn:=nn) hP hm an hF y _ Q hy g2 hv;rw [g3] at h6;exact wpIn_mono h6 λe a w hp=>hp.of (g4.mono λi hi=>by simp [writes,hi]) λi hi=>by simp [writes,hi]
    |exit id=>exact hp.of (Fr.refl _ _) λi hi=>by simp [writes,hi]
    |goto l=>exact hp.of (Fr.refl _ _) λi hi=>by simp [writes,hi]
    |ret=>exact hp.of (Fr.refl _ _) λi hi=>by simp [writes,hi]
    |panic ch=>exact hp.of (Fr.refl _ _) λi hi=>by simp [writes,hi]
    |outgrown=>exact hp.of (Fr.refl _ _) λi hi=>by simp [writes,hi]
 | .cond c x y,s,Q,Em,bc,h=>by
   unfold gj at h;have hx:F=Fence.wide\/kv x=true:=Em.imp id λh=>by simp [kv] at h;exact h.1
   have hy:F=Fence.wide\/kv y=true:=Em.imp id λh=>by simp [kv] at h;exact h.2
   split at h
   ·rename_i b hb;have hc:s.act.eval c=.bool b:=by rw [St.uX,Kx hb];rfl
    refine wpIn_cond_split hc (λhb'=> ?_) (λhb'=> ?_)
    ·exact wpIn_mono (dG (nn:=nn) hP hm an hF x s Q hx bc (Br.tt h hb')) λe a w hp=>hp.of (Fr.refl _ _) λi hi=>by simp [writes,hi]
    ·exact wpIn_mono (dG (nn:=nn) hP hm an hF y s Q hy bc (Br.ff h hb')) λe a w hp=>hp.of (Fr.refl _ _) λi hi=>by simp [writes,hi]
   ·exact h.elim
 | .block id x,s,Q,hx,bc,h=>by
   unfold gj at h;refine wpIn_block (wpIn_mono (dG (nn:=nn) hP hm an hF x s _ hx bc h) λe a w hp=> ?_)
   cases e with
   |exit id'=>
    show if id'=id then _ else _;obtain ⟨s',k1,k2,k3,k4,k5⟩:=hp;simp only at k5;split
    ·rename_i e;rw [if_pos e] at k5;exact ⟨s',k1,k2,k3,k4,k5⟩
    ·rename_i e;rw [if_neg e] at k5;exact ⟨s',k1,k2,k3,k4,k5⟩
   |_=>exact hp
 | .loop x,s,Q,hx,bc,h=>by
   unfold gj at h;split at h
   ·exact h.elim
   rename_i c hc;obtain ⟨I,⟨n0,h0⟩,hround⟩:=h;obtain ⟨q1,q2,q3,q4,q5⟩:=fE (c.mH.map λk=> .loc k 0) bc;have qa:=nY (l:=c.mH.map λk=> .loc k 0) bc;have qf:Fr (writes (.loop x)) s (s.kill (c.mH.map λk=> .loc k 0)):=⟨by rw [q2],λi _=>by
    rw [q2];simp only [dO]
    cases hg:s.sl[i]? with
    |none=>rfl
    |some u=>exact q4.bM (bc.nE i u hg),q4,by rw [oY];exact ⟨ak _,λ_=>rfl⟩⟩
   suffices hh:(Code.loop x).wpIn F nn P (uk (writes (.loop x)) (s.kill (c.mH.map λk=> .loc k 0)) Q) s.act s.w from wpIn_mono hh λe a w hp=>hp.of qf λi hi=>hi
   rw [<-qa,<-q3];generalize s.kill (c.mH.map λk=> .loc k 0)=s at*;have bc:=q1;refine E7 (λn a w=>∃s',s'.Ok/\s'.act=a/\s'.w=w/\Fr (writes x) s s'/\c.enter s s' (jo c.bD (I n))) n0 ⟨s,bc,rfl,rfl,Fr.refl _ _,h0⟩ ?_;rintro n a w ⟨s',k1,rfl,rfl,k4,k5⟩;obtain ⟨us,g1,g2,g3,g4⟩:=Nc bc k1 k4 k5;have hv:=(eH g1 (hround n us)).1 s'.w g1;have h6:=dG (nn:=nn) hP hm an hF x _ _ hx g2 hv;rw [g3] at h6;refine wpIn_mono h6 λe a w hp=> ?_
   cases e with
   |normal=>
    obtain ⟨s'',l1,l2,l3,l4,m,iQ,l5⟩:=hp;refine ⟨m,iQ,s'',l1,l2,l3,g4.trans l4,?_⟩;exact l5
   |exit id=>exact hp.of g4 λi hi=>hi
   |goto l=>exact hp.of g4 λi hi=>hi
   |ret=>exact hp.of g4 λi hi=>hi
   |panic ch=>exact hp.of g4 λi hi=>hi
   |outgrown=>exact hp.of g4 λi hi=>hi
 | .exit id,s,Q,_,bc,h=>wpIn_exit ⟨s,bc,rfl,rfl,Fr.refl _ _,h⟩
 | .ret,s,Q,_,bc,h=>wpIn_ret ⟨s,bc,rfl,rfl,Fr.refl _ _,h⟩
 | .rangeFunc g ps assign body,s,Q,Em,bc,h=>by
   have hw:F=Fence.wide:=Em.resolve_right (by simp [kv]);subst hw;exact aee hP bc (λl s Q h1 h2 h3=>dG hP hm an (Wd.round l) assign s Q (.inr h1) h2 h3) (λl s Q h1 h2 h3=>dG hP hm an (Wd.round l) body s Q (.inr h1) h2 h3) h
 | .scope x,s,Q,Em,bc,h=>by
   have hw:F=Fence.wide:=Em.resolve_right (by simp [kv]);subst hw;unfold gj at h;refine wpIn_wide.2 (wp_scope_straight (wp_mono (wpIn_wide.1 (dG (nn:=0) hP hm an hF x s _ (.inl rfl) bc h)) λe a w hp=> ?_))
   cases e with
   |goto l=>obtain ⟨s',_,_,_,_,k5⟩:=hp;exact k5.elim
   |_=>exact hp
 | .label l,s,Q,_,bc,h=>wpIn_label ⟨s,bc,rfl,rfl,Fr.refl _ _,h⟩
 | .goto _,_,_,_,_,h=>h.elim
 | .refuse _,_,_,_,_,h=>h.elim
end
def Nd(P:Program)(s:St)(t:TypeId)(x:SV)(K:Value->Prop):Prop:=
 match x with
 | .loc k off=>match s.known k with
   |some kb=>match uw P t with
    | .sc _=>match kb.cells[off]? with|some v=>K v|none=>False
    | .agg l=>if l.length=gD P t/\off+l.length<=kb.cells.length then K (.agg ((kb.cells.drop off).take l.length).toArray) else False
   |none=>Ky P s.w (some ⟨(s.kn.getD k default).idx,off,none⟩) t K
 | .val (.pointer p)=>Ky P s.w p t K
 |_=>False
def tJ(P:Program)(s:St):List ResultVar->(List Value->Prop)->Prop
 | [],F=>F []
 | .tmp t::r,F=>tJ P s r λvs=>F ((s.sl.getD t (.val undef)).bM s.kn::vs)
 | .cell a t::r,F=>match okT P t with
   |true=>Nd P s t (s.sl.getD a (.val undef)) λv=>tJ P s r λvs=>F (v::vs)
   |false=>False
def Xi:List Value->Value
 | [v]=>v
 |vs=> .tuple vs.toArray
def C2:List Nat->World->(World->Prop)->Prop
 | [],w,K=>K w
 |D::r,w,K=>w.heap[D]? =some (.deferred (some []))/\∀w',Rec D w w'->C2 r w' K
def awq(P:Program)(fn:Func)(R:Ending->World->Prop):Exit->St->Prop
 | .normal,s| .ret,s=>C2 s.df s.w λw'=>tJ P {s with w:=w'} fn.results.toList λvs=>R (.returned (Xi vs)) w'
 |_,_=>False
def yR(fn:Func)(args:List Value)(w:World):St:=
 {sl:=args.map .val++List.replicate (fn.ntmps-args.length) (.val undef),w:=w,kn:=[]}
def ahh(P:Program)(an:Ann)(fn:Func)(args:List Value)(w:World)(R:Ending->World->Prop):Prop:=
 match fn.body with
 |some c=>gj P an c (yR fn args w) (awq P fn R)
 |none=>False
section
variable {P:Program} {s:St}
def Rl{t:TypeId}{x:SV}{K:Value->Prop}(bc:s.Ok)(hu:(P.underlying t).isSome=true)(h:Nd P s t x K):
  ∃a v,x.bM s.kn=.pointer (some a)/\K v/\(loadVar t a).run P s.w=.ok v s.w:=by
 have h':Gh P {s with sl:=[.val undef]} (some 0) t x (λs'=>K ((s'.sl.getD 0 (.val undef)).bM s'.kn)):=by unfold Nd at h;unfold Gh;exact h
 have og:({s with sl:=[.val undef]}:St).Ok:=⟨bc.aZ,bc.ne,λi v hv=>by
  cases i with
  |zero=>simp at hv;subst hv;trivial
  |succ i=>simp at hv⟩
 obtain ⟨a,v,h1,h2,h3⟩:=Gk og hu h';refine ⟨a,v,h1,h2,?_⟩;simpa [Instr.loadAt,Instr.sureAddr] using h3
def Nf(tmps:Array Value):ResultVar->Sem Value
 | .tmp t=>pure (tmps.getD t undef)
 | .cell a t=>do loadVar t (<-asAddr (tmps.getD a undef))
def vP(bc:s.Ok):∀(l:List ResultVar)(F:List Value->Prop),tJ P s l F->
  ∃vs,F vs/\(l.mapM (Nf s.act.tmps)).run P s.w=.ok vs s.w
 | [],F,h=>⟨[],h,rfl⟩
 | .tmp t::r,F,h=>by
   obtain ⟨vs,h1,h2⟩:=vP bc r _ h
   refine ⟨_,h1,?_⟩
   have:s.act.tmps.getD t undef=(s.sl.getD t (.val undef)).bM s.kn:=s.uX (.tmp t)
   simp only [List.mapM_cons,Sem.run_bind,Nf,Sem.run_pure,Result.andThen_ok,h2,this]
 | .cell a t::r,F,h=>by
   unfold tJ at h
   split at h
   ·rename_i hu
    obtain ⟨ad,v,e1,e2,e3⟩:=Rl bc (vN hu) h
    obtain ⟨vs,h1,h2⟩:=vP bc r _ e2
    refine ⟨_,h1,?_⟩
    have:s.act.tmps.getD a undef=.pointer (some ad):=(s.uX (.tmp a)).trans e1
    simp only [List.mapM_cons,Sem.run_bind,Nf,this,asAddr,Sem.run_pure,Result.andThen_ok,e3,h2]
   ·exact h.elim
def Rm(bc:s.Ok){fn:Func}{F:List Value->Prop}(h:tJ P s fn.results.toList F):
  ∃vs,F vs/\(results fn s.act.tmps).run P s.w=.ok (Xi vs) s.w:=by
 obtain ⟨vs,h1,h2⟩:=vP bc _ _ h;refine ⟨vs,h1,?_⟩;have:results fn s.act.tmps=(do let vs <-fn.results.mapM (Nf s.act.tmps);pure (if h:vs.size=1 then vs[0] else .tuple vs)):=by unfold results;congr 1
 rw [this,Array.mapM_eq_mapM_toList];simp only [Sem.run_bind,Sem.run_map,h2,Result.andThen_ok,Sem.run_pure];congr 1
 cases vs with
 |nil=>rfl
 |cons v r=>cases r<;>simp [Xi]
end
section
variable {P:Program}
def Z0(fn:Func)(args:List Value)(w:World):(yR fn args w).Ok:=
 ⟨λk kb h=>by simp [yR] at h,λi j x y h=>by simp [yR] at h,λi v h=>by
  simp only [yR,List.getElem?_append,aS,AV] at h;split at h
  ·cases ha:args[i]? with
   |none=>simp [ha] at h
   |some x=>simp [ha] at h;subst h;trivial
  ·split at h
   ·simp at h;subst h;trivial
   ·cases h⟩
def tK{fn:Func}{R:Ending->World->Prop}:∀(l:List Nat)(s:St),s.Ok->C2 l s.w (λw'=>tJ P {s with w:=w'} fn.results.toList λvs=>R (.returned (Xi vs)) w')->
  LeavesInM Fence.wide 0 P fn s.act.tmps R (marks l) .returning s.w
 | [],s,bc,h=>by
   obtain ⟨vs,h1,h2⟩:=Rm bc h
   exact ⟨_,h2,h1⟩
 |D::r,s,bc,h=>by
  obtain ⟨hD,h⟩:=h
  refine ⟨bg,.inl ⟨D,s.w.putObj D (.deferred none),rfl,run_takeDeferred hD,?_⟩⟩
  have hr:=Rec.putObj s.w D (.deferred none)
  have og:=yQ bc (λc t f e=>by rw [hD] at e;cases e) hr
  exact tK r {s with w:=s.w.putObj D (.deferred none)} og (h _ hr)
def Q0(hP:EN P)(hm:P.follows .mixedOrders=true){f:FuncId}{fn:Func}{an:Ann}{args:List Value}{w:World}{R:Ending->World->Prop}(hf:P.funcs[f]? =some fn)
  (h:ahh P an fn args w R):Calls P f args.toArray w R:=by
 unfold ahh at h;split at h
 case h_2=>exact h.elim
 rename_i c hc;have h1:=dG (nn:=0) hP hm an Wd.out c _ _ (.inl rfl) (Z0 fn args w) h;refine callsIn_wide.1 (callsIn_of_wp_marks (n:=0) hf hc trivial ?_);have aAq:(yR fn args w).act={tmps:=args.toArray++Array.replicate (fn.ntmps-args.toArray.size) undef,defers:=[]}:=by simp only [St.act,yR];congr 1;apply Array.ext';simp [SV.bM];rw [show (SV.bM [] ∘ SV.val)=id from rfl];simp
 rw [aAq] at h1;refine wpIn_mono h1 λe a w' hp=> ?_
 obtain ⟨s',k1,rfl,rfl,k4,k5⟩:=hp
 cases e with
 |normal=>exact tK s'.df s' k1 k5
 |ret=>exact tK s'.df s' k1 k5
 |_=>exact k5.elim
end
abbrev se(A:(Nat->Int->Int->World->Prop)->Nat->Prop)(F:(Nat->Int->Int->World->Prop)->Nat->(Nat->Value)->Int->Int->World->Prop):Prop:=∃I:Nat->Int->Int->World->Prop,(∃n,A I n)/\∀(n:Nat)(us:Nat->Value)(y0:Int)(y1:Int)(w:World),I n y0 y1 w->F I n us y0 y1 w
abbrev oz(A:(Nat->Int->Sl->World->Prop)->Nat->Prop)(F:(Nat->Int->Sl->World->Prop)->Nat->(Nat->Value)->Int->Sl->World->Prop):Prop:=∃I:Nat->Int->Sl->World->Prop,(∃n,A I n)/\∀(n:Nat)(us:Nat->Value)(y0:Int)(y1:Sl)(w:World),I n y0 y1 w->F I n us y0 y1 w
abbrev sN(A:(Nat->Int->World->Prop)->Nat->Prop)(F:(Nat->Int->World->Prop)->Nat->(Nat->Value)->Int->World->Prop):Prop:=∃I:Nat->Int->World->Prop,(∃n,A I n)/\∀(n:Nat)(us:Nat->Value)(y0:Int)(w:World),I n y0 w->F I n us y0 w
abbrev DJ(w:World)(p:Option Addr)(F:Bool->Prop):Prop:=∃x:Bool,ld w p=some (.bool x)/\F x
abbrev kW(w:World)(p:Option Addr)(F:Int->Prop):Prop:=∃x:Int,ld w p=some (.int .i64 x)/\F x
abbrev gZ(w:World)(p:Option Addr)(F:Option Addr->Prop):Prop:=∃x:Option Addr,ld w p=some (.pointer x)/\F x
abbrev Lxm(w:World)(p:Option Addr)(F:Option Nat->Prop):Prop:=∃x:Option Nat,ld w p=some (.map x)/\F x
abbrev kB(w:World)(p:Option Addr)(F:Sl->Prop):Prop:=∃x:Sl,ld w p=some (.slice x.a x.n x.c)/\F x
abbrev mD(w:World)(p:Option Addr)(F:Bool->Bool->Bool->Prop):Prop:=∃(y0 y1 y2:Bool),ah w p 0 [.bool y0,.bool y1,.bool y2]/\F y0 y1 y2
abbrev nR(w:World)(p:Option Addr)(F:Int->Int->Prop):Prop:=∃(y0 y1:Int),ah w p 0 [.int .i64 y0,.int .i64 y1]/\F y0 y1
abbrev gM(w:World)(p:Option Addr)(F:Int->Int->Int->Prop):Prop:=∃(y0 y1 y2:Int),ah w p 0 [.int .i64 y0,.int .i64 y1,.int .i64 y2]/\F y0 y1 y2
abbrev uc(w:World)(p:Option Addr)(F:Int->Int->Int->Int->Prop):Prop:=∃(y0 y1 y2 y3:Int),ah w p 0 [.int .i64 y0,.int .i64 y1,.int .i64 y2,.int .i64 y3]/\F y0 y1 y2 y3
abbrev DM(w:World)(p:Option Addr)(F:Int->Int->Int->Int->Int->Int->Prop):Prop:=∃(y0 y1 y2 y3 y4 y5:Int),ah w p 0 [.int .i64 y0,.int .i64 y1,.int .i64 y2,.int .i64 y3,.int .i64 y4,.int .i64 y5]/\F y0 y1 y2 y3 y4 y5
abbrev ij(w:World)(p:Option Addr)(F:Int->Int->Int->Int->Int->Int->Int->Int->Bool->Prop):Prop:=∃(y0 y1 y2 y3 y4 y5 y6 y7:Int)(y8:Bool),ah w p 0 [.int .i64 y0,.int .i64 y1,.int .i64 y2,.int .i64 y3,.int .i64 y4,.int .i64 y5,.int .i64 y6,.int .i64 y7,.bool y8]/\F y0 y1 y2 y3 y4 y5 y6 y7 y8
abbrev Pw(w:World)(p:Option Addr)(l:List Value)(F:World->Prop):Prop:=∀v,v=bF w p l->F v
abbrev Pv(w:World)(p:Option Addr)(n:Nat)(l:List Value)(F:World->Prop):Prop:=(true=true/\Wr w p n)/\Pw w p l F
abbrev Pt(w:World)(a:Addr)(n:Nat)(l:List Value)(F:World->Prop):Prop:=(true=true/\Wr w (some a) n)/\Pw w (some a) l F
abbrev EK(F:Bool->World->Prop)(e:Ending)(w:World):Prop:=∃(y0:Bool),e=y0/\F y0 w
abbrev ag7(F:Int->Bool->World->Prop)(e:Ending)(w:World):Prop:=∃(y0:Int)(y1:Bool),e=Value.tuple #[.int .u64 y0,y1]/\F y0 y1 w
abbrev Rx0(F:Int->Bool->World->Prop)(e:Ending)(w:World):Prop:=∃(y0:Int)(y1:Bool),e=Value.tuple #[y0,y1]/\F y0 y1 w
abbrev adR(F:Int->World->Prop)(e:Ending)(w:World):Prop:=∃(y0:Int),e=Value.int .u16 y0/\F y0 w
abbrev kX(F:Int->World->Prop)(e:Ending)(w:World):Prop:=∃(y0:Int),e=y0/\F y0 w
abbrev Mq(F:Int->Int->Int->Int->Int->Int->Int->Int->Int->Int->Int->Int->Int->Int->Int->Int->Int->Int->World->Prop)(e:Ending)(w:World):Prop:=∃(y0 y1 y2 y3 y4 y5 y6 y7 y8 y9 y10 y11 y12 y13 y14 y15 y16 y17:Int),e=Value.agg #[y0,y1,y2,y3,y4,y5,y6,y7,y8,y9,y10,y11,y12,y13,y14,y15,y16,y17]/\F y0 y1 y2 y3 y4 y5 y6 y7 y8 y9 y10 y11 y12 y13 y14 y15 y16 y17 w
abbrev Rx1(F:Int->Int->World->Prop)(e:Ending)(w:World):Prop:=∃(y0 y1:Int),e=Value.agg #[y0,y1]/\F y0 y1 w
abbrev Qm(F:Int->Int->World->Prop)(e:Ending)(w:World):Prop:=∃(y0 y1:Int),e=Value.tuple #[y0,y1]/\F y0 y1 w
abbrev Rx9(F:Int->Int->Int->Bool->World->Prop)(e:Ending)(w:World):Prop:=∃(y0 y1 y2:Int)(y3:Bool),e=Value.tuple #[.agg #[y0,y1,y2],y3]/\F y0 y1 y2 y3 w
abbrev T9(F:Int->Int->Int->World->Prop)(e:Ending)(w:World):Prop:=∃(y0 y1 y2:Int),e=Value.agg #[y0,y1,y2]/\F y0 y1 y2 w
abbrev Ch(F:Int->Int->Int->Int->Int->Int->Bool->World->Prop)(e:Ending)(w:World):Prop:=∃(y0 y1 y2 y3 y4 y5:Int)(y6:Bool),e=Value.tuple #[.agg #[y0,y1,y2,y3,y4,y5],y6]/\F y0 y1 y2 y3 y4 y5 y6 w
abbrev pU(F:Int->Int->Int->Int->Int->Int->Bool->Bool->Bool->World->Prop)(e:Ending)(w:World):Prop:=∃(y0 y1 y2 y3 y4 y5:Int)(y6 y7 y8:Bool),e=Value.tuple #[.agg #[y0,y1,y2,y3,y4,y5],.agg #[y6,y7,y8]]/\F y0 y1 y2 y3 y4 y5 y6 y7 y8 w
abbrev aln(F:Int->Int->Int->Int->Int->Int->World->Prop)(e:Ending)(w:World):Prop:=∃(y0 y1 y2 y3 y4 y5:Int),e=Value.agg #[y0,y1,y2,y3,y4,y5]/\F y0 y1 y2 y3 y4 y5 w
abbrev acS(F:Int->Int->Int->Int->Int->Int->World->Prop)(e:Ending)(w:World):Prop:=∃(y0 y1 y2 y3 y4 y5:Int),e=Value.tuple #[.agg #[y0,y1,y2],.agg #[y3,y4,y5]]/\F y0 y1 y2 y3 y4 y5 w
abbrev Yd(F:Int->Int->Int->Int->Int->Int->Int->World->Prop)(e:Ending)(w:World):Prop:=∃(y0 y1 y2 y3 y4 y5 y6:Int),e=Value.tuple #[.agg #[y0,y1,y2,y3,y4,y5],y6]/\F y0 y1 y2 y3 y4 y5 y6 w
abbrev acI(F:Int->Int->Int->Int->Int->Int->Int->Int->Bool->World->Prop)(e:Ending)(w:World):Prop:=∃(y0 y1 y2 y3 y4 y5 y6 y7:Int)(y8:Bool),e=Value.agg #[y0,y1,y2,y3,y4,y5,y6,y7,y8]/\F y0 y1 y2 y3 y4 y5 y6 y7 y8 w
abbrev AG(F:Option Addr->World->Prop)(e:Ending)(w:World):Prop:=∃(y0:Option Addr),e=y0/\F y0 w
abbrev Rx8(F:Option Nat->World->Prop)(e:Ending)(w:World):Prop:=∃(y0:Option Nat),e=Value.map y0/\F y0 w
abbrev Rx7(F:Sl->Int->World->Prop)(e:Ending)(w:World):Prop:=∃(y0:Sl)(y1:Int),e=Value.tuple #[y0,y1]/\F y0 y1 w
abbrev ua(F:Sl->World->Prop)(e:Ending)(w:World):Prop:=∃(y0:Sl),e=y0/\F y0 w
abbrev ahl(F:Value->World->Prop)(e:Ending)(w:World):Prop:=∃(y0:Value),e=y0/\F y0 w
abbrev dS(l:Array Value):Value:=.tuple l
abbrev qY(l:Array Value):Value:=.agg l
abbrev uD(b:Bool):Value:=.bool b
abbrev Of(i j:Nat):Ann:=⟨[(i,⟨[(j,.int .i64)],[],[]⟩)],[],[]⟩
abbrev Yc(i j k:Nat):Ann:=⟨[(i,⟨[(j,.int .i64),(k,.int .i64)],[],[]⟩)],[],[]⟩
abbrev anS(i j k:Nat):Ann:=⟨[(i,⟨[(j,.int .i64),(k,.slice)],[],[]⟩)],[],[]⟩
end Go.Vc
