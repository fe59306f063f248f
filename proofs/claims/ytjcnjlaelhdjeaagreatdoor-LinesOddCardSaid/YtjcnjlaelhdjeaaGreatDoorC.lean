import Derived.Test.YtjcnjlaelhdjeaaGreatDoorB
set_option linter.all false
namespace Go
open Go.RowKit
set_option maxRecDepth 100000
set_option maxHeartbeats 8000000
def Oper.D_(P:Program)(o:Oper)(a:Act)(w:au)(next:Act->au->Prop)(Q:Exit->Act->au->Prop):Prop:=
 (∀c,o.op≠.defer c)/\o.uponIn Fence.wide 0 P a next Q ((execOp a.eval o).run P w)
def Oper.re{P:Program}{o:Oper}{a:Act}{w:au}{Q:Exit->Act->au->Prop}{K K':Act->au->Prop}(h:∀a w,K a w->K' a w)(hh:o.D_ P a w K Q):o.D_ P a w K' Q:=by
 refine⟨hh.1,?_⟩;have hh:=hh.2;generalize (execOp a.eval o).run P w=r at*
 cases r with
 |ok x w'=>
  cases x<;>simp only[Oper.uponIn]at hh⊢<;>
   first
    |exact h _ _ hh
    |exact⟨hh.1,CallsIn.mono hh.2 (λe w'' he=>by cases e<;>first|exact h _ _ he|exact he)⟩
    |exact⟨hh.1,RowsIn.mono hh.2 (λ_ _ he=>h _ _ he)⟩
    |exact⟨hh.1,RoundIn.mono hh.2 (λe w'' he=>by cases e<;>first|exact h _ _ he|exact he)⟩
 |halt x w'=>cases x<;>simp only[Oper.uponIn]at hh⊢<;>exact hh
end Go
namespace Go.Vc
open Go Go.RowKit
class PQ where
 q:Option (List PanicEntry->au->Prop)
def amL [PQ] (df:bf)(e:Ending)(w':au)(A:Prop):Prop:=
 match PQ.q with
 |none=>A
 |some q=>match e with
  | .panicked c=>(match df with| []=>q c w'|_=>False)
  |_=>A
def Rx [PQ] (Q:Exit->Act->au->Prop):Prop:=∀q,PQ.q=some q->∀c a w,a.defers=[]->q c w->Q (.panic c) a w
def Nk [PQ] {df:bf}{e:Ending}{w':au}{A:Prop}(h:amL df e w' A):A\/∃q c,PQ.q=some q/\e=.panicked c/\df=[]/\q c w':=by
 unfold amL at h;split at h
 ·exact .inl h
 ·rename_i q hq;split at h
  ·split at h
   ·exact .inr ⟨q,_,hq,rfl,rfl,h⟩
   ·exact h.elim
  ·exact .inl h
section
variable{P:Program}{s:St}{o:Oper}{K:St->Prop}{Q:Exit->Act->au->Prop}
def xK(P:Program):Prop:=∀(f:bH) fn,P.funcs[f]? =some fn->fn.name≠ "runtime.NumGoroutine"
def vJ(P:Program)(f:bH):aX:=match P.funcs[f]? with|some fn=>(match fn.body with|some _=>true|none=>false)|none=>false
def amM(P:Program)(l:Nat)(args:af)(w:au)(R:Ending->au->Prop):Prop:=
 ∃fn tmps assign body,(Instr.yield l args.toArray).run P w=.ok (.round l fn tmps assign body) w/\RoundIn Fence.wide 0 P l fn tmps assign body w R
def ara(P:Program)(f:bH)(e:ae->Sem aC):Prop:=
 ∃fn,P.funcs[f]? =some fn/\fn.body.isNone=true/\Extern.findNext fn=none/\Extern.find fn=some e
def adP(P:Program)(f:bH)(args:af)(w:au)(R:Ending->au->Prop):Prop:=
 ∃e,ara P f e/\∃v w',(e args.toArray).run P w=.ok v w'/\R (.returned v) w'
def bu(P:Program)(fv:aC)(args:af)(w:au)(R:Ending->au->Prop):Prop:=
 match fv with
 | .func (.func f) first cap=>match vJ P f with
   |true=>Calls P f (first.toList++args++cap.toList).toArray w R
   |false=>adP P f (first.toList++args++cap.toList) w R
 | .func (.yield l) first cap=>(first= #[]/\cap= #[])/\amM P l args w R
 |_=>False
def awt(P:Program)(t:aB):T2:=
 match P.underlying t with
 |some (.tuple ts)=>.tup (ts.toList.map (rI P))
 |_=>.one (rI P t)
def Hu [PQ] (P:Program)(s:St)(d:Option Tmp)(ty:aB)(fv:aC)(args:List SV)(K:St->Prop):Prop:=
 bu P fv (args.map (SV.R s.kn)) s.w λe w'=>amL s.df e w' ((awt P ty).ex λv=>e=.returned v/\
  aO (Fi (s.kill args).kn s.w w') (K ({s.kill args with w:=w'}.put d (.val v))))
variable{dst:Option Tmp}{ty:aB}{after:Array Edge}{guard:Option (Nat×aX)}{x:Operand}{args:Array Operand}{ats:Array aB}
def aiS[PQ](hQ:Rx Q){pos:String}(hP:xK P)(hok:s.h) (hny:∀l f c,s.ev x≠.func (.yield l) f c)(h:Hu P s dst ty (s.ev x) (args.toList.map s.sv) K): (Oper.mk dst (.call ⟨.value x,args,ats⟩) ty pos after guard).wp P s.act s.w (iF dst s K) Q:=by
 unfold Hu bu at h;split at h
 ·rename_i f first cap hx;split at h
  ·rename_i hb;unfold vJ at hb;split at hb
   ·rename_i fn hf;split at hb
    ·rename_i body hbody;have sX:(execOp s.ev (Oper.mk dst (.call ⟨.value x,args,ats⟩) ty pos after guard)).run P s.w=.ok (.enter f (first++args.map s.ev++cap)) s.w:=by have hn:=hP f fn hf;simp only[execOp,resolve,Deferred.ofValue,hx,invoke,callFunc,Aw,ka3,Br];simp[program,Sem.run,hf,hn,hbody]
     unfold Oper.wp;rw[St.eval_eq,sX,Oper.upon_enter];have ag5:(first.toList++(args.toList.map s.sv|>.map (SV.R s.kn))++cap.toList).toArray=first++args.map s.ev++cap:=by apply Array.ext';simp[St.ev]
     rw[ag5]at h;refine h.mono λe w' hr=>?_
     rcases Nk hr with hr|⟨q,c,hq,rfl,Wa,hc⟩
     case inr=>exact hQ q hq c _ _ a1E hc
     have⟨v,he,h1⟩:=T2.kR hr;subst he;rw[bO]at h1;have⟨k1,k2,k3,k4,k5⟩:=fo (args.toList.map s.sv) hok;have kK:=mS k1 (w':=w') (k3▸h1.1);exact kg h1.2 hok kK k2 k4 trivial rfl rfl
    ·cases hb
   ·cases hb
  ·have⟨e,⟨fn,hf,hb,hn1,hn2⟩,v,w',sX,hr⟩:=h;have hname:=hP f fn hf;have ag5:(first.toList++(args.toList.map s.sv|>.map (SV.R s.kn))++cap.toList).toArray=first++args.map s.ev++cap:=by apply Array.ext';simp[St.ev]
   rw[ag5]at sX;have hex:=run_callFunc_extern hf (ds hname) hb hn1 hn2 (first++args.map s.ev++cap) s.w;rw[sX]at hex;have hgo:(execOp s.ev (Oper.mk dst (.call ⟨.value x,args,ats⟩) ty pos after guard)).run P s.w=.ok (.value v) w':=by simp only[execOp,resolve,Deferred.ofValue,hx,invoke,Aw,ka3,Br];exact hex
   unfold Oper.wp;rw[St.eval_eq,hgo];rcases Nk hr with hr|⟨q,c,hq,he,Wa,hc⟩
   case inr=>cases he
   have⟨v',he,h1⟩:=T2.kR hr
   cases he
   rw[bO]at h1;have⟨k1,k2,k3,k4,k5⟩:=fo (args.toList.map s.sv) hok;have kK:=mS k1 (w':=w') (k3▸h1.1);exact kg (v:=.val v) h1.2 hok kK k2 k4 trivial rfl rfl
 next l f c hx=>exact absurd hx (hny l f c)
 ·cases h
variable{n:Nat}
def sK(h:Fence.wide.depth.isSome=true):1<=n:=by simp[Fence.wide]at h
inductive Wd:Fence->Prop
 |out:Wd Fence.wide
 |round (l:Nat):Wd (Fence.wide.inRound l)
variable{F:Fence}(h:Wd F)
def Wd.fn(f:bH):F.fn f:=by cases h<;>trivial
def Wd.depth:F.depth=none:=by cases h<;>rfl
variable{f:bH}{w:au}{R:Ending->au->Prop}
def Wd.calls{args:ae}:CallsIn F n P f args w R↔Calls P f args w R:=by
 cases h with
 |out=>exact callsIn_wide
 |round l=>exact callsIn_wide
variable{l:Nat}
def Wd.aiT{tmps:ae}{assign body:Code}(hr:RoundIn Fence.wide 0 P l f tmps assign body w R): RoundIn F n P l f tmps assign body w R:=by
 cases h with
 |out=>exact⟨trivial,λc cs _=>hr.2 c cs (room_wide _)⟩
 |round l'=>exact⟨trivial,λc cs _=>hr.2 c cs (room_wide _)⟩
variable{R:aC->au->Prop}
def Wd.amN{row:String}{args:ae}(hr:RowsIn Fence.wide 0 P row args w R): RowsIn F n P row args w R:=by
 cases h with
 |out=>exactλc cs _=>hr c cs (room_wide _)
 |round l'=>exactλc cs _=>hr c cs (room_wide _)
variable{a:Act}
def aay{o:Oper}{Q:Exit->Act->au->Prop}{K:Act->au->Prop}(hd:∀c,o.op≠.defer c)(hh:o.wp P a w K Q):o.D_ P a w K Q:=by
 refine⟨hd,?_⟩;unfold Oper.wp at hh;generalize (execOp a.eval o).run P w=r at*
 cases r with
 |ok x w'=>
  cases x<;>simp only[Oper.upon,Oper.uponIn]at hh⊢<;>
   first
    |exact hh
    |exact⟨sK,callsIn_wide.2 hh⟩
    |exact⟨sK,λc cs _=>by
     have⟨v,w',h1,h2⟩:=hh c cs;exact⟨v,w',h1,stepsIn_wide.2 h2⟩⟩
 |halt x w'=>cases x<;>simp only[Oper.upon,Oper.uponIn]at hh⊢<;>exact hh
def Dn(hF:Wd F){o:Oper}{Q:Exit->Act->au->Prop}{K:Act->au->Prop}(hh:o.D_ P a w K Q):o.wpIn F n P a w K Q:=by
 refine⟨λf _=>hF.fn f,?_⟩;rw[Oper.semAt_eq _ _ _ hh.1];have hh:=hh.2;have hd:F.depth.isSome=true->1<=n:=λh=>by rw[hF.depth]at h;cases h
 generalize (execOp a.eval o).run P w=r at*
 cases r with
 |ok x w'=>
  cases x<;>simp only[Oper.uponIn]at hh⊢<;>
   first
    |exact hh
    |exact⟨hd,hF.calls.2 (callsIn_wide.1 hh.2)⟩
    |exact⟨hd,hF.amN hh.2⟩
    |exact⟨hd,hF.aiT hh.2⟩
 |halt x w'=>cases x<;>simp only[Oper.uponIn]at hh⊢<;>exact hh
def aaz[PQ](hQ:Rx Q){pos:String}(hok:s.h) {l:Nat}{f c:ae}(hx:s.ev x=.func (.yield l) f c)(h:Hu P s dst ty (s.ev x) (args.toList.map s.sv) K): (Oper.mk dst (.call ⟨.value x,args,ats⟩) ty pos after guard).D_ P s.act s.w (iF dst s K) Q:=by
 refine⟨λc h=>(by cases h),?_⟩;rw[hx]at h;unfold Hu bu at h;obtain⟨⟨rfl,rfl⟩,fn,tmps,assign,body,hy,hr⟩:=h;have sX:(execOp s.ev (Oper.mk dst (.call ⟨.value x,args,ats⟩) ty pos after guard)).run P s.w=.ok (.round l fn tmps assign body) s.w:=by
  have ha:args.map s.ev=((args.toList.map s.sv).map (SV.R s.kn)).toArray:=by apply Array.ext';simp[St.ev]
  simp only[execOp,resolve,Deferred.ofValue,hx,invoke,Aw,ka3,Br];rw[ha];simpa using hy
 rw[St.eval_eq,sX,Oper.uponIn_round];refine⟨sK,hr.mono λe w' hr=>?_⟩;rcases Nk hr with hr|⟨q,c,hq,rfl,Wa,hc⟩
 case inr=>exact hQ q hq c _ _ a1E hc
 have⟨v,he,h1⟩:=T2.kR hr;subst he;rw[bO]at h1;have⟨k1,k2,k3,k4,k5⟩:=fo (args.toList.map s.sv) hok;have kK:=mS k1 (w':=w') (k3▸h1.1);exact kg h1.2 hok kK k2 k4 trivial rfl rfl
structure Rec(l:Nat)(w w':au):Prop where
 same:∀i,i≠l->w'.heap[i]? =w.heap[i]?
 size:w'.heap.size=w.heap.size
 os:w'.os=w.os
 tape:w'.tape=w.tape
 output:w'.output=w.output
variable{w':au}
def Rec.below(h:Rec l w w'){B:Nat}(hB:B<=l):Below B w w':=⟨h.os,h.tape,h.output,Nat.le_of_eq h.size.symm,λk hk=>h.same k U⟩
def Rec.putObj(w:au)(l:Nat)(o:Obj):Rec l w (w.putObj l o):=⟨λi hi=>World.putObj_heap_other hi,bo,rfl,rfl,rfl⟩
section
variable{P:Program}{s:St}{K:St->Prop}
def vd{s:St}{D:Nat}{w':au}(hok:s.h)(hD:∀c t f,s.w.heap[D]?≠some (.cells c t f))(h:Rec D s.w w'):({s with w:=w'}:St).h:=by refine⟨λk kb h1 h2=>?_,hok.ne,hok.lX⟩;have:=hok.D k kb h1 h2;rw[<-this];exact h.same _ λe=>hD _ _ _ (e▸this)
structure gM(P:Program)(kt:aB)(g_:aC->Prop):Prop where
 eq:∀x y,g_ x->g_ y->∃b,eqV P 20 kt x y=some b/\(b=true↔x=y)
 check:∀x,g_ x->∀b w,(Instr.checkKey b 10000 kt x).run P w=.ok () w
 bits:∀x,g_ x->Instr.sameBits 10000 x x=true
def bG(g_:aC->Prop)(w:au)(m:Option Nat)(kvs:List (aC×aC)):Prop:=
 match m with
 |none=>kvs=[]
 |some r=>∃es clock,w.heap[r]? =some (.map es clock)/\es.toList.map (λe=>(e.key,e.val))=kvs/\(∀e∈kvs,g_ e.1)/\(kvs.map (·.1)).Nodup/\
  (es.toList.map (·.born)).Pairwise (·<·)/\∀e∈es.toList,e.born<clock
def Gq(kvs:List (aC×aC))(k z v:aC)(b:aX):Prop:=
 (b=true/\(k,v)∈kvs)\/(b=false/\v=z/\∀e∈kvs,e.1≠k)
open Classical in
noncomputable def oY(kvs:List (aC×aC))(k v:aC):List (aC×aC):=
 if ∃e∈kvs,e.1=k then kvs.map (λe=>if e.1=k then(e.1,v)else e)else kvs++[(k,v)]
open Classical in
noncomputable def Hr(kvs:List (aC×aC))(k:aC):List (aC×aC):=kvs.filter λe=>¬e.1=k
def Ru(a b:aq):(a==b)=true↔a=b:=by
 cases a;cases b
 show ByteArray.beq _ _=true↔_;simp[ByteArray.beq]
variable{d:TypeDesc}{b:aX}
def AP{x y:aC}(h:Instr.sameNow d x y=some b):b=true↔x=y:=by
 unfold Instr.sameNow at h;split at h
 ·split at h
  next e=>subst e;cases h;simp
  ·cases h
 ·cases h;simp only[Value.string.injEq];exact Ru _ _
 ·cases h;simp
 ·cases h
variable{k:aC}
def findNow_spec:∀(es:List MapEntry)(i:Nat)(r:Option (Nat×aC)),Instr.findNow d k es i=some r->
  match r with
  |none=>∀e∈es,e.key≠k
  |some (j,v)=>∃m e,j=i+m/\es[m]? =some e/\e.key=k/\e.val=v
 | [],i,r,h=>by unfold Instr.findNow at h;cases h;simp
 |e::es,i,r,h=>by
  unfold Instr.findNow at h
  split at h
  ·rename_i hs
   cases h
   exact⟨0,e,rfl,rfl,((AP hs).1 rfl).symm,rfl⟩
  ·rename_i hs
   have ih:=findNow_spec es (i+1) r h
   have gl:e.key≠k:=λe=>by have:=(AP hs).2 e.symm;cases this
   cases r with
   |none=>
    intro e' he'
    rcases cu.1 he' with rfl|he'
    ·exact gl
    ·exact ih e' he'
   |some p=>
    have⟨m,e',h1,h2,h3,h4⟩:=ih
    exact⟨m+1,e',U,ds h2,h3,h4⟩
  ·cases h
variable{kt:aB}{g_:aC->Prop}
def ve(hk:gM P kt g_)(hkG:g_ k):∀(es:List MapEntry)(i:Nat)(w:au),(∀e∈es,g_ e.key)->
  ∃r,(Instr.findAsking kt k es i).run P w=.ok r w/\match r with
  |none=>∀e∈es,e.key≠k
  |some (j,v)=>∃m e,j=i+m/\es[m]? =some e/\e.key=k/\e.val=v
 | [],i,w,_=>⟨none,rfl,bo⟩
 |e::es,i,w,hG=>by
  have⟨b,h1,h2⟩:=hk.eq k e.key hkG (hG e (.head _))
  have h3:(Op.equal kt k e.key).run P w=.ok b w:=lY (Lk 20 kt _ _ _ h1 _ U w)
  cases b with
  |true=>exact⟨some (i,e.val),by unfold Instr.findAsking;rw[Aw,h3];rfl,0,e,rfl,rfl,(h2.1 rfl).symm,rfl⟩
  |false=>
   have⟨r,g1,g2⟩:=ve hk hkG es (i+1) w λe he=>hG e (.tail _ he)
   have gl:e.key≠k:=λe=>by have:=h2.2 e.symm;cases this
   refine⟨r,by unfold Instr.findAsking;rw[Aw,h3];exact g1,?_⟩
   cases r with
   |none=>
    intro e' he'
    rcases cu.1 he' with rfl|he'
    ·exact gl
    ·exact g2 e' he'
   |some p=>
    have⟨m,e',h1,h2,h3,h4⟩:=g2
    exact⟨m+1,e',U,ds h2,h3,h4⟩
def vf(hk:gM P kt g_)(hu:(P.underlying kt).isSome=true)(hkG:g_ k)(es:List MapEntry)(w:au)(hG:∀e∈es,g_ e.key):
  ∃r,(Instr.findKey kt k es).run P w=.ok r w/\match r with
  |none=>∀e∈es,e.key≠k
  |some (j,v)=>∃e,es[j]? =some e/\e.key=k/\e.val=v:=by
 have⟨d,hd⟩:=qI.1 hu;have key:∃r,(Instr.findKey kt k es).run P w=.ok r w/\match r with
  |none=>∀e∈es,e.key≠k
  |some (j,v)=>∃m e,j=0+m/\es[m]? =some e/\e.key=k/\e.val=v:=by
  unfold Instr.findKey;simp only[Aw,aA,hd,Br]
  cases hf:Instr.findNow d k es 0 with
  |some r=>exact⟨r,rfl,findNow_spec es 0 r hf⟩
  |none=>exact ve hk hkG es 0 w hG
 have⟨r,h1,h2⟩:=key;refine⟨r,h1,?_⟩
 cases r with
 |none=>exact h2
 |some p=>
  have⟨m,e,g1,g2,g3,g4⟩:=h2;exact⟨e,by rw[g1,eF];exact g2,g3,g4⟩
variable{r c:Nat}{es:Array MapEntry}{w:au}
def pn(h:w.heap[r]? =some (.map es c)):(getObj r).run P w=.ok (.map es c) w:=by simp[getObj,Sem.run,h]
def sL{es':Array MapEntry}{c':Nat}(h:w.heap[r]? =some (.map es c)):(setObj r (.map es' c')).run P w=.ok () (w.putObj r (.map es' c')):=by simp[setObj,Sem.run,h,World.putObj]
variable{α β:Type}
def Ct{f:α->β}:∀{l:List α}{x y:α},(l.map f).Nodup->x∈l->y∈l->f x=f y->x=y
 | [],_,_,_,h,_,_=>by cases h
 |a::l,x,y,hn,hx,hy,e=>by
  rw[eH,uv]at hn
  rcases cu.1 hx with rfl|hx
  ·rcases cu.1 hy with e2|hy
   ·exact e2.symm
   ·exact absurd (bc.2 ⟨y,hy,e.symm⟩) hn.1
  ·rcases cu.1 hy with e2|hy
   ·rw[e2]at e
    exact absurd (bc.2 ⟨x,hx,e⟩) hn.1
   ·exact Ct hn.2 hx hy e
def tB(P:Program)(t:aB):Option (aB×aB×aC):=match P.underlying t with
 |some (.map kt et)=>if(P.underlying kt).isSome&&(P.underlying et).isSome then((P.info? et).bind (·.zero)).map λz=>(kt,et,z)else none
 |_=>none
variable{t et:aB}{z:aC}
def po(h:tB P t=some (kt,et,z)):P.underlying t=some (.map kt et)/\(P.underlying kt).isSome=true/\(P.underlying et).isSome=true/\∀w,(zeroValue et).run P w=.ok z w:=by
 unfold tB at h;split at h
 ·rename_i kt' et' hu;split at h
  ·rename_i hb;rw[fF]at hb
   cases hi:P.info? et' with
   |none=>simp[hi]at h
   |some i=>
    cases hz:i.zero with
    |none=>simp[hi,hz]at h
    |some z'=>
     simp[hi,hz]at h;obtain⟨rfl,rfl,rfl⟩:=h;exact⟨hu,hb.1,hb.2,λw=>by simp[zeroValue,dB,hi,hz]⟩
  ·cases h
 ·cases h
def oB(hk:gM P kt g_)(h:g_ k)(b:aX)(w:au):(Instr.checkKey b 10000 kt k).run P w=.ok () w:=hk.check k h b w
variable{es:List MapEntry}{kvs:List (aC×aC)}
def Ky(hk:gM P kt g_)(hu:(P.underlying kt).isSome=true)(hkG:g_ k) (he:es.map (λe=>(e.key,e.val))=kvs)(hG:∀e∈kvs,g_ e.1)(hnd:(kvs.map (·.1)).Nodup){v:aC}{b:aX}(hl:Gq kvs k z v b): ∃r,(Instr.findKey kt k es).run P w=.ok r w/\((r=none/\b=false/\v=z)\/∃j,r=some (j,v)/\b=true):=by
 have hGe:∀e∈es,g_ e.key:=λe hm=>hG (e.key,e.val) (by rw[<-he];exact bc.2 ⟨e,hm,rfl⟩)
 have⟨rr,g1,g2⟩:=vf hk hu hkG es w hGe;refine⟨rr,g1,?_⟩
 cases rr with
 |none=>
  rcases hl with⟨rfl,pL⟩|⟨rfl,rfl,_⟩
  ·rw[<-he]at pL;have⟨e,he1,he2⟩:=bc.1 pL;exact absurd (congrArg Prod.fst he2) (g2 e he1)
  ·exact .inl ⟨rfl,rfl,rfl⟩
 |some p=>
  have⟨j,v'⟩:=p;have⟨e,g3,g4,g5⟩:=g2;have hme:e∈es:=aQ g3;rcases hl with⟨rfl,pL⟩|⟨rfl,rfl,lp⟩
  ·rw[<-he]at pL;have⟨e',he1,he2⟩:=bc.1 pL;have hkk:e'.key=e.key:=(congrArg Prod.fst he2).trans g4.symm;have hv:e'.val=v:=congrArg Prod.snd he2;have:e'=e:=by rw[<-he,pR]at hnd;exact Ct hnd he1 hme hkk
   subst this;rw[hv]at g5;subst g5;exact .inr ⟨j,rfl,rfl⟩
  ·exact absurd g4 (lp (e.key,e.val) (by rw[<-he];exact bc.2 ⟨e,hme,rfl⟩))
variable{v:aC}
def yk{r:Option Nat}(ht:tB P t=some (kt,et,z))(hk:gM P kt g_)(hm:bG g_ w r kvs)(hkG:g_ k)(ok:aX) (hl:Gq kvs k z v b):(Instr.lookup t (.map r) k ok).run P w=.ok (if ok then .tuple #[v,.bool b]else v) w:=by
 have⟨h1,h2,h3,h4⟩:=po ht;unfold Instr.lookup;simp only[Aw,aA,h1,Br]
 cases r with
 |none=>
  have hkv:kvs=[]:=hm;have⟨rr,g1,g2⟩:=Ky (es:=[]) (w:=w) hk h2 hkG hkv.symm (by rw[hkv];simp) (by rw[hkv];simp) hl;simp only[Aw,ka3,Br,oB hk hkG];rw[g1];rcases g2 with⟨rfl,rfl,rfl⟩|⟨j,rfl,rfl⟩<;>simp[h4]
 |some r=>
  have⟨es,clock,e1,e2,e3,e4,_⟩:=hm;have⟨rr,g1,g2⟩:=Ky (es:=es.toList) (w:=w) hk h2 hkG e2 e3 e4 hl;simp only[Aw,pn e1,Br,ka3,oB hk hkG,g1];rcases g2 with⟨rfl,rfl,rfl⟩|⟨j,rfl,rfl⟩<;>simp[h4]
def AQ{f:α->β}:∀{l:List α},(l.map f).Nodup->l.Nodup
 | [],_=>List.nodup_nil
 |a::l,h=>by
  rw[eH,uv]at h
  exact uv.2 ⟨λhm=>h.1 (bc.2 ⟨a,hm,rfl⟩),AQ h.2⟩
def aaA:∀e∈oY kvs k v,e.1=k\/∃e'∈kvs,e'.1=e.1:=by
 intro e he;unfold oY at he;split at he
 ·obtain⟨e',h1,rfl⟩:=bc.1 he;refine .inr ⟨e',h1,?_⟩;split<;>rfl
 ·rcases dp.1 he with he|he
  ·exact .inr ⟨e,he,rfl⟩
  ·simp at he;exact .inl (by rw[he])
def Hv(h:(kvs.map (·.1)).Nodup):((oY kvs k v).map (·.1)).Nodup:=by
 classical
 unfold oY;split
 ·have:(kvs.map λe=>if e.1=k then(e.1,v)else e).map (·.1)=kvs.map (·.1):=by
   rw[pR];refine CP λe _=>?_
   simp only[Function.comp_apply];split<;>rfl
  rw[this];exact h
 next hn=>rw[cl];refine GW.2 ⟨h,bo,λa ha b hb e=>?_⟩;simp at hb;obtain⟨e',he',rfl⟩:=bc.1 ha;exact hn ⟨e',he',by rw[e,hb]⟩
def Hw(ht:tB P t=some (kt,et,z))(hk:gM P kt g_)(hm:bG g_ w (some r) kvs)(hkG:g_ k): ∃w',(Instr.mapUpdate t (.map (some r)) k v).run P w=.ok () w'/\Rec r w w'/\bG g_ w' (some r) (oY kvs k v):=by
 have⟨h1,h2,h3,h4⟩:=po ht;have⟨es,clock,e1,e2,e3,e4,e5,e6⟩:=hm;have hr:=(oQ.1 e1).1;have hGe:∀e∈es.toList,g_ e.key:=λe hm=>e3 (e.key,e.val) (by rw[<-e2];exact bc.2 ⟨e,hm,rfl⟩)
 have⟨rr,g1,g2⟩:=vf hk h2 hkG es.toList w hGe;have hG':∀e∈oY kvs k v,g_ e.1:=λe he=>by
  rcases aaA e he with h|⟨e',h,h'⟩
  ·rw[h];exact hkG
  ·rw[<-h'];exact e3 e' h
 unfold Instr.mapUpdate;simp only[Aw,aA,h1,Br,pn e1,oB hk hkG,g1]
 cases rr with
 |none=>
  refine⟨w.putObj r (.map (es.push {key:=k,val:=v,born:=clock}) (clock+1)),sL e1,Rec.putObj _ _ _,?_⟩;have lp:¬∃e∈kvs,e.1=k:=by rintro⟨e,he,hek⟩;rw[<-e2]at he;obtain⟨e',h5,rfl⟩:=bc.1 he;exact g2 e' h5 hek
  refine⟨_,_,World.putObj_heap_same hr,?_,hG',Hv e4,?_,?_⟩
  ·unfold oY;rw[if_neg lp,<-e2];simp
  ·simp only[Array.toList_push,cl,eH,List.map_nil];refine List.pairwise_append.2 ⟨e5,bo,λa ha b hb=>?_⟩;simp at hb;subst hb;obtain⟨e,he,rfl⟩:=bc.1 ha;exact e6 e he
  ·intro e he;simp only[Array.toList_push,dp,ig]at he;rcases he with he|rfl
   ·have:=e6 e he;omega
   ·show clock<clock+1;omega
 |some p=>
  have⟨j,v'⟩:=p;have⟨e,g3,g4,g5⟩:=g2;have hj:j<es.toList.length:=(cG.1 g3).1;have hje:es[j]? =some e:=by simpa using g3
  have aAk:((es[j]?).map (·.key)).getD k=k:=by rw[hje];exact g4
  refine⟨w.putObj r (.map (es.modify j λe=>{e with key:=k,val:=v}) clock),?_,Rec.putObj _ _ _,?_⟩
  ·simp only[aAk,Instr.keyThatStays,hk.bits k hkG,if_true,Aw,ka3,Br];exact sL e1
  ·have aAl:∃e∈kvs,e.1=k:=⟨(e.key,e.val),by rw[<-e2];exact bc.2 ⟨e,aQ g3,rfl⟩,g4⟩;have ub:(es.modify j λe=>{e with key:=k,val:=v}).toList=es.toList.modify j λe=>{e with key:=k,val:=v}:=by simp
   have gd:∀i,(es.toList.modify j λe=>{e with key:=k,val:=v})[i]? =(es.toList[i]?).map λe'=>if i=j then {e' with key:=k,val:=v}else e':=by
    intro i;rw[CR]
    cases es.toList[i]? with
    |none=>rfl
    |some x=>simp[eq_comm]
   refine⟨_,_,World.putObj_heap_same hr,?_,hG',Hv e4,?_,?_⟩
   ·unfold oY;rw[if_pos aAl,<-e2,ub];apply jF;intro i;rw[aW,gd,aW,aW]
    cases hi:es.toList[i]? with
    |none=>rfl
    |some x=>
     simp only[mT,Option.some.injEq];by_cases hij:i=j
     ·subst hij;rw[g3]at hi;cases hi;rw[if_pos rfl,if_pos (show(e.key,e.val).1=k from g4)];show(k,v)=(e.key,v);rw[g4]
     ·rw[if_neg hij,if_neg];intro hx;refine hij ?_;have hxe:x=e:=by rw[<-e2,pR]at e4;exact Ct e4 (aQ hi) (aQ g3) (show x.key=e.key from(show x.key=k from hx).trans g4.symm)
      have hnd:es.toList.Nodup:=by rw[<-e2,pR]at e4;exact AQ e4
      subst hxe;exact(List.getElem?_inj (by exact(cG.1 hi).1) hnd).1 (hi.trans g3.symm)
   ·rw[ub];have:(es.toList.modify j λe=>{e with key:=k,val:=v}).map (·.born)=es.toList.map (·.born):=by
     apply jF;intro i;rw[aW,gd,aW]
     cases es.toList[i]? with
     |none=>rfl
     |some x=>simp only[mT];split<;>rfl
    rw[this];exact e5
   ·intro e' he';rw[ub]at he';have⟨i,hi⟩:=yY he';rw[gd]at hi
    cases hx:es.toList[i]? with
    |none=>rw[hx]at hi;cases hi
    |some x=>
     rw[hx]at hi;have:=e6 x (aQ hx);simp only[mT,Option.some.injEq]at hi;split at hi<;>(subst hi;exact this)
variable{ty:aB}{ats:Array aB}
def Vz(ha:ats[0]? =some t)(ht:tB P t=some (kt,et,z))(hk:gM P kt g_)(hm:bG g_ w (some r) kvs)(hkG:g_ k): ∃w',(Builtin.delete_ ats ty #[.map (some r),k]).run P w=.ok (.tuple #[]) w'/\Rec r w w'/\bG g_ w' (some r) (Hr kvs k):=by
 obtain⟨h1,h2,h3,h4⟩:=po ht;obtain⟨es,clock,e1,e2,e3,e4,e5,e6⟩:=hm;have hr:=(Array.getElem?_eq_some_iff.1 e1).1;have hGe:∀e∈es.toList,g_ e.key:=λe hm=>e3 (e.key,e.val) (by rw[<-e2];exact List.mem_map.2 ⟨e,hm,rfl⟩)
 obtain⟨rr,g1,g2⟩:=vf hk h2 hkG es.toList w hGe;have dP:(Hr kvs k).Sublist kvs:=List.filter_sublist;unfold Builtin.delete_;simp only[ha,show(#[Value.map (some r),k]:ae)[0]? =some (.map (some r))from rfl,show(#[Value.map (some r),k]:ae)[1]? =some k from rfl,Sem.run_bind,aA,h1,Result.andThen_ok,pn e1,oB hk hkG,g1]
 cases rr with
 |none=>
  refine⟨w.putObj r (.map es clock),by rw[Sem.run_bind,sL e1];rfl,Rec.putObj _ _ _,es,clock,World.putObj_heap_same hr,?_,λe he=>e3 e (dP.subset he),(dP.map _).nodup e4,e5,e6⟩;rw[e2];unfold Hr;symm;rw[List.filter_eq_self];intro e he;rw[<-e2]at he;obtain⟨e',h5,rfl⟩:=List.mem_map.1 he;simpa using g2 e' h5
 |some p=>
  obtain⟨j,v'⟩:=p;obtain⟨e,g3,g4,g5⟩:=g2;have hj:j<es.toList.length:=(List.getElem?_eq_some_iff.1 g3).1;have hl:(es.eraseIdxIfInBounds j).toList=es.toList.eraseIdx j:=by unfold Array.eraseIdxIfInBounds;rw[dif_pos (by simpa using hj),Array.toList_eraseIdx]
  have hs:(es.toList.eraseIdx j).Sublist es.toList:=List.eraseIdx_sublist _ _;refine⟨w.putObj r (.map (es.eraseIdxIfInBounds j) clock),by rw[Sem.run_bind,sL e1];rfl,Rec.putObj _ _ _,_,clock,World.putObj_heap_same hr,?_,λe he=>e3 e (dP.subset he),(dP.map _).nodup e4,?_,?_⟩
  ·rw[hl,<-e2];have hnd:(es.toList.map (·.key)).Nodup:=by rw[<-e2,List.map_map]at e4;exact e4
   clear hl hs e2 e3 e4 e5 e6 hGe g1 dP e1 hr h1 h2 h3 h4;generalize es.toList=l at*;unfold Hr
   induction l generalizing j with
   |nil=>simp at hj
   |cons x l ih=>
    rw[List.map_cons,List.nodup_cons]at hnd
    cases j with
    |zero=>
     simp at g3;subst g3;simp only[List.eraseIdx_cons_zero,List.map_cons];rw[List.filter_cons_of_neg (by simpa using g4)];symm;rw[List.filter_eq_self];intro y hy;obtain⟨y',h5,rfl⟩:=List.mem_map.1 hy;have:y'.key≠k:=λhh=>hnd.1 (List.mem_map.2 ⟨y',h5,by rw[hh,g4]⟩)
     simpa using this
    |succ j=>
     have hx:x.key≠k:=λhh=>hnd.1 (List.mem_map.2 ⟨e,List.mem_of_getElem? (by simpa using g3),by rw[g4,hh]⟩)
     simp only[List.eraseIdx_cons_succ,List.map_cons];rw[List.filter_cons_of_pos (by simpa using hx),ih j (by simpa using g3) (by simpa using hj) hnd.2]
  ·rw[hl];exact e5.sublist (hs.map _)
  ·intro e' he';rw[hl]at he';exact e6 e' (hs.subset he')
def aeD{r:Option Nat}(ha:ats[0]? =some t)(ht:P.underlying t=some (.map kt et))(hm:bG g_ w r kvs): (Builtin.len_ ats ty #[.map r]).run P w=.ok (.int .i64 kvs.length) w:=by
 cases r with
 |none=>
  have:kvs=[]:=hm;subst this;simp[Builtin.len_,ha,aA,ht,goInt]
 |some r=>
  have⟨es,clock,e1,e2,_⟩:=hm;have:kvs.length=es.size:=by rw[<-e2];simp
  simp[Builtin.len_,ha,aA,ht,goInt,pn e1,this]
def aeE(P:Program)(s:St)(d:Option Tmp)(t:aB)(m k:aC)(ok:aX)(K:St->Prop):Prop:=
 match tB P t,m with
 |some (kt,et,z),.map r=>∃(g_:aC->Prop)(kvs:List (aC×aC)),gM P kt g_/\bG g_ s.w r kvs/\g_ k/\
  (rI P et).ex λv=>∃b:aX,Gq kvs k z v b/\K (s.put d (.val (match ok with|true=>.tuple #[v,.bool b]|false=>v)))
 |_,_=>False
def aeF(P:Program)(s:St)(d:Option Tmp)(t:aB)(m k v:aC)(l:List SV)(K:St->Prop):Prop:=
 match tB P t,m with
 |some (kt,_,_),.map r=>∃(g_:aC->Prop)(kvs:List (aC×aC)),gM P kt g_/\r.isSome=true/\bG g_ s.w r kvs/\g_ k/\
  ∀w1,Rec (r.getD 0) s.w w1->bG g_ w1 r (oY kvs k v)->K (({s.kill l with w:=w1}).put d (.val undef))
 |_,_=>False
def akT(P:Program)(s:St)(d:Option Tmp)(ats:List aB)(m k:aC)(K:St->Prop):Prop:=
 match ats,m with
 |t::_,.map r=>match tB P t with
  |some (kt,_,_)=>∃(g_:aC->Prop)(kvs:List (aC×aC)),gM P kt g_/\r.isSome=true/\bG g_ s.w r kvs/\g_ k/\
   ∀w1,Rec (r.getD 0) s.w w1->bG g_ w1 r (Hr kvs k)->K (({s with w:=w1}).put d (.val (.tuple #[])))
  |none=>False
 |_,_=>False
def aeG(P:Program)(s:St)(d:Option Tmp)(ats:List aB)(m:aC)(K:St->Prop):Prop:=
 match ats,m with
 |t::_,.map r=>match tB P t with
  |some _=>∃(g_:aC->Prop)(kvs:List (aC×aC)),bG g_ s.w r kvs/\K (s.put d (.val (.int .i64 kvs.length)))
  |none=>False
 |_,_=>False
def XU(P:Program)(s:St)(d:Option Tmp)(t:aB)(h:Option aC)(K:St->Prop):Prop:=
 match tB P t,um h with
 |some _,some _=>∀w1,w1=s.w.alloc (.map #[] 0)->K ({s with w:=w1}.put d (.val (.map (some s.w.heap.size))))
 |_,_=>False
def bG.vC(h:bG g_ w (some r) kvs):∀c t f,w.heap[r]?≠some (.cells c t f):=by have⟨es,clock,e1,_⟩:=h;intro c t f e;rw[e1]at e;cases e
variable{x:aB×aB×aC}{y:Option Int}
def aaB{h:Option aC}(ht:tB P t=some x)(hh:um h=some y)(w:au):(Instr.makeMap t h).run P w=.ok (.map (some w)) (w.alloc (.map #[] 0)):=by
 have⟨kt,et,z⟩:=x;have⟨h1,_⟩:=po ht
 cases h with
 |none=>simp[Instr.makeMap,jf]
 |some v=>
  cases v<;>simp[um]at hh
  simp[Instr.makeMap,aA,h1,asInt,asIntOf,jf]
end
def vg(P:Program)(t:aB)(len:Nat)(parts:Array (Nat×aC)):Option (aB×ae):=
 match oT P t with
 |none=>none
 |some (e,i)=>match i.zero with
  |none=>none
  |some z=>match len with
   |0=>(match parts.toList with| []=>some (e,#[])|_=>none)
   |len=>if ¬len*i.size>2^24/\¬len*i.size=0 then
    (Instr.fill (λj=>some (j*i.size,i.size)) ((Array.range (len*i.size)).map (z.cells[·%z.cells.size]!)) parts.toList).map λcs=>(e,cs)
    else none
def oC(P:Program)(s:St)(d:Option Tmp)(t:aB)(len:Nat)(parts:Array (Nat×aC))(K:St->Prop):Prop:=
 match vg P t len parts with
 |some (e,cells)=>∀w1,w1=s.w.alloc (.cells cells e)->K ({s with w:=w1,kn:=s.kn++[KB.mk s.w.heap.size cells.toList e true]}.put d (.S_ s.kn.length len))
 |none=>False
variable{t:aB}{len:Nat}{parts:Array (Nat×aC)}
def tC{e:aB}{cells:ae}(h:vg P t len parts=some (e,cells))(w:au): (Instr.buildSlice t len parts).run P w=.ok (.slice (some ⟨w,0,none⟩) len len) (w.alloc (.cells cells e)):=by
 unfold vg at h;split at h
 ·cases h
 rename_i e' i he;have⟨ht,hi⟩:=j0 he;split at h
 ·cases h
 rename_i z hz;split at h
 ·split at h
  ·rename_i hp
   cases h
   have⟨l⟩:=parts;simp only at hp;subst hp;simp[Instr.buildSlice,aA,ht,sizeOf,typeInfo,hi,Instr.fill,newRow];congr 2;exact Array.eq_empty_of_size_eq_zero bo
  ·cases h
 ·split at h
  ·rename_i hl
   cases hf:Instr.fill (λj=>some (j*i.size,i.size)) ((Array.range (len*i.size)).map (z.cells[·%z.cells.size]!)) parts.toList with
   |none=>rw[hf]at h;cases h
   |some cs=>
    rw[hf]at h
    cases h
    exact run_buildSlice w t e len parts cells i z ht hi hz hl.1 hl.2 hf
  ·cases h
variable{d:Option Tmp}
def AR(hok:s.h)(h:oC P s d t len parts K): ∃v w',(Instr.buildSlice t len parts).run P s.w=.ok v w'/\iF d s K (s.act.put d v) w':=by
 unfold oC at h;split at h
 ·rename_i e cells hc;refine⟨_,_,tC hc s.w,?_⟩;have H2:∀j,j<s.w.heap.size->(s.w.alloc (.cells cells e)).heap[j]? =s.w.heap[j]? :=λj hj=>Below.heap_alloc _ _ _ hj
  have Ep:(s.w.alloc (.cells cells e)).heap[s.w.heap.size]? =some (.cells cells e (0,0)):=by show(s.w.heap.push _)[s.w.heap.size]? =_;simp
  have key:∀(i:Nat)(x:KB),(s.kn++[KB.mk s.w.heap.size cells.toList e true])[i]? =some x->(i<s.kn.length/\s.kn[i]? =some x)\/(i=s.kn.length/\x=KB.mk s.w.heap.size cells.toList e true):=by
   intro i x hx;rcases iR i s.kn.length with fK|S5
   ·exact .inl ⟨fK,by rwa[oS fK]at hx⟩
   ·rw[pO S5]at hx
    cases hz:i-s.kn.length with
    |zero=>simp[hz]at hx;subst hx;exact .inr ⟨U,rfl⟩
    |succ n=>simp[hz]at hx
  have h:=h _ rfl;refine kT h hok rfl (Fj _ _) (λk kb h1 h2=>?_) (λi j x y h1 h2 h3 h4 h5=>?_) (show s.kn.length<(s.kn++[_]).length by simp) ?_ rfl
  ·rcases key k kb h1 with⟨_,a2⟩|⟨_,rfl⟩
   ·rw[<-hok.D k kb a2 h2];exact H2 _ (hok.lt k kb a2 h2)
   ·simpa using Ep
  ·rcases key i x h1 with⟨a1,a2⟩|⟨a1,rfl⟩<;>rcases key j y h2 with⟨b1,b2⟩|⟨b1,rfl⟩
   ·exact hok.ne i j x y a2 b2 h3 h4 h5
   ·have:=hok.lt i x a2 h3;simp only at h5;omega
   ·have:=hok.lt j y b2 h4;simp only at h5;omega
   ·omega
  ·simp[SV.R,dG]
 ·cases h
def M_(P:Program)(t:aB):aX:=match P.underlying t with|some _=>true|none=>false
def okI(P:Program)(t:aB):aX:=match P.info? t with|some _=>true|none=>false
def vh(h:M_ P t=true):(P.underlying t).isSome=true:=by unfold M_ at h;split at h<;>simp_all
def aeH(h:okI P t=true):(P.info? t).isSome=true:=by unfold okI at h;split at h<;>simp_all
def Nl(s:St)(parts:Array (Nat×Operand)):Array (Nat×aC):=parts.map λp=>(p.1,s.ev p.2)
def Nn(P:Program)(s:St)(d:Option Tmp)(t:aB)(x i:aC)(K:St->Prop):Prop:=
 match x,i,pN P t with
 | .agg cs,.int _ i,some (n,e)=>match rI P e,iE P e,M_ P e with
   | .sc c,some z,true=>(0<=i/\i<(n:Int))/\c.ex λv=>cs.toList[i.toNat*z]? =some v/\K (s.put d (.val v))
   | .agg l,some z,true=>(0<=i/\i<(n:Int))/\exL l λvs=>(cs.toList.drop (i.toNat*z)).take z=vs/\K (s.put d (.val (.agg vs.toArray)))
   |_,_,_=>False
 |_,_,_=>False
variable{x:aC}
def No{i:aC}(hok:s.h)(h:Nn P s d t x i K):∃v,(Instr.index t x i).run P s.w=.ok v s.w/\iF d s K (s.act.put d v) s.w:=by
 unfold Nn at h;split at h
 ·rename_i cs k i n e ha;have hu:P.underlying t=some (.array n e):=by
   unfold pN at ha;split at ha
   next hu=>cases ha;exact hu
   ·cases ha
  split at h
  ·rename_i c z ht hz hue;have⟨hb,hex⟩:=h;have⟨v,hv,hk⟩:=c_.kR hex;have hz':(sizeOf e).run P s.w=.ok z s.w:=by
    unfold iE at hz
    cases hi':P.info? e with
    |none=>simp[hi']at hz
    |some i'=>simp[hi']at hz;rw[fa (by simp[hi'])];simp[fE,hi',hz]
   refine⟨v,?_,dI hok hk⟩;have hp:=(yX (P:=P) (t:=e) (cs:=cs) (off:=i.toNat*z) s.w a1I).2 (O6 ht) v (ds hv);simp[Instr.index,asIntOf,aA,hu,hb,hz',hp]
  ·rename_i l z ht hz hue;have⟨hb,hex⟩:=h;have⟨vs,hv,hk⟩:=Lg hex;have hz':(sizeOf e).run P s.w=.ok z s.w:=by
    unfold iE at hz
    cases hi':P.info? e with
    |none=>simp[hi']at hz
    |some i'=>simp[hi']at hz;rw[fa (by simp[hi'])];simp[fE,hi',hz]
   have nR:fE P e=z:=by unfold iE at hz;unfold fE;rw[hz];rfl
   refine⟨_,?_,dI hok hk⟩;have hp:=(yX (P:=P) (t:=e) (cs:=cs) (off:=i.toNat*z) s.w a1I).1 (Fm ht);rw[nR,hv]at hp;simp[Instr.index,asIntOf,aA,hu,hb,hz',hp]
  ·cases h
 ·cases h
def aeI(P:Program)(src dst:aB):aX:=
 match P.underlying src,P.underlying dst with
 |some (.slice e),some .string=>match P.underlying e with|some (.int .u8)=>true|_=>false
 |_,_=>false
def XV(P:Program)(s:St):Op->Option (ai×Nat)
 | .convert src dst x=>match aeI P src dst with
   |true=>match s.ev x with| .slice a n _=>some (a,n)|_=>none
   |false=>none
 |_=>none
def Kz{o:Oper}{a:ai}(h:XV P s o.op=some (a,n)){ns:ab}(hn:ns.length=n)(hl:ah w' a 0 (ns.map (vc .u8))): (execOp s.ev o).run P w'=.ok (.value (.string (strOfNums ns))) w':=by
 have⟨dst,op,ty,pos,after,guard⟩:=o;simp only at h;unfold XV at h;split at h
 ·rename_i src dst' x;split at h
  ·rename_i hb;split at h
   ·rename_i a' n' c hx
    cases h
    unfold aeI at hb;split at hb
    ·rename_i e hs hd;split at hb
     ·rename_i he;show(do pure (Next.value (<-convert src dst' (s.ev x))):Sem Next).run P w'=_;have key:(convert src dst' (s.ev x)).run P w'=.ok (.string (strOfNums ns)) w':=by
       rw[hx]
       cases a with
       |none=>
        have:ns=[]:=by
         cases ns with
         |nil=>rfl
         |cons v r=>have:=mR hl 0 bo;simp[Vc.ld,N]at this
        subst this;rw[run_convert_bytes_nil w' src e hs he _ _ dst' hd];rfl
       |some b=>
        have hc:=run_loadCells_list (P:=P) (w:=w') b (ns.map (vc .u8)) (λj v hj=>by have:=mR hl j (cG.1 hj).1;rw[eF,hj]at this;exact this);rw[aK,hn]at hc;rw[run_convert_bytes_string w' src dst' e _ n c hs he hd,run_bytesToString w' _ n c ns hc,foldl_push_bytes];simp[strOfNums,ByteArray.empty,ByteArray.emptyWithCapacity];rfl
      rw[Aw,key];rfl
     ·cases hb
    ·cases hb
   ·cases h
  ·cases h
 ·cases h
variable{xT:aB}{v:aC}
def VA{a:aB}(h:uq P a=true)(w:au):(Instr.typeAssert (.iface a v) xT a false).run P w=.ok v w:=by
 unfold uq at h;split at h
 ·cases h
 ·rename_i d hd gl;simp only[Instr.typeAssert,Aw,aA,hd,Br]
  cases d<;>simp_all
 ·cases h
def VB(P:Program)(s:St)(d:Option Tmp)(a:aB)(x:aC)(K:St->Prop):Prop:=
 match uq P a with
 |true=>match (P.info? a).bind (·.zero)with
  |some z=>∃(t:aB)(v:aC),x=.iface t v/\Z (decide (t=a)) ((rI P a).ex λu=>v=u/\K (s.put d (.val (.tuple #[u,.bool true])))) (K (s.put d (.val (.tuple #[z,.bool false]))))
  |none=>False
 |false=>False
def aeJ(P:Program)(t:aB):aX:=match P.underlying t with|some .string=>true|_=>false
def Np(P:Program)(s:St)(d:Option Tmp)(t:aB)(x:aC)(K:St->Prop):Prop:=
 match aeJ P t with
 |true=>match x with
  | .string str=>∀w1,w1=s.w.alloc (.stringIter str 0)->K ({s with w:=w1}.put d (.val (.pointer (some ⟨s.w.heap.size,0,none⟩))))
  |_=>False
 |false=>False
def VC(s:St)(d:Option Tmp)(x:aC)(K:St->Prop):Prop:=
 match x with
 | .pointer p=>∃(r:Nat)(str:aq)(pos:Nat),p=some ⟨r,0,none⟩/\s.w.heap[r]? =some (.stringIter str pos)/\
   Z (decide (pos<str.size)) (∀w1,Rec r s.w w1->w1.heap[r]? =some (.stringIter str (pos+(Utf8.decode str pos).2))->K ({s with w:=w1}.put d (.val (.tuple #[.bool true,.int .i64 pos,.int .i32 (Utf8.decode str pos).1]))))
    (K (s.put d (.val (.tuple #[.bool false]))))
 |_=>False
def akU [PQ] (s:St)(x:aC):Prop:=
 match PQ.q with
 |none=>False
 |some q=>match s.df with
  | []=>match x with| .iface t v=>q [{v:=.iface t v,recovered:=false}] s.w|_=>False
  |_=>False
def KA [PQ] (P:Program)(s:St)(o:Oper)(K:St->Prop):Prop:=
 match o.op with
 | .index t x i=>Nn P s o.dst t (s.ev x) (s.ev i) K
 | .load t x=>match M_ P t with|true=>Fl P s o.dst t (s.sv x) K|false=>False
 | .store t x v=>match okI P t with|true=>Ll P s o.dst t (s.sv x) (s.sv v) K|false=>False
 | .box t v=>match Bq P t with
   |true=>Bt P (s.kill [s.sv v]) o.dst t (cellsOf (s.ev v)) K
   |false=>aO (kq (s.ev v)) (Bt P (s.kill [s.sv v]) o.dst t [s.ev v] K)
 | .alloc t=>match zeroOf P t with|some cs=>Bt P s o.dst t cs K|none=>False
 | .build t parts=>match P.built t (parts.toList.map λ(i,x)=>(i,s.ev x))with
   |some cs=>K ((s.kill (parts.toList.map λ(_,x)=>s.sv x)).put o.dst (.val (.agg cs)))
   |none=>False
 | .buildSlice t len parts=>oC P (s.kill (parts.toList.map λ(_,x)=>s.sv x)) o.dst t len (Nl s parts) K
 | .makeFunc fn first captured=>K ((s.kill ((first++captured).toList.map s.sv)).put o.dst (.val (.func fn (first.toList.map s.ev).toArray (captured.toList.map s.ev).toArray)))
 | .lookup t x k ok=>aeE P s o.dst t (s.ev x) (s.ev k) ok K
 | .mapUpdate t m k v| .insert t m k v=>aeF P s o.dst t (s.ev m) (s.ev k) (s.ev v) [s.sv k,s.sv v] K
 | .makeMap t h=>XU P s o.dst t (h.map s.ev) K
 | .call ⟨.builtin .delete,args,ats⟩=>match args.toList with
   | [m,k]=>akT P s o.dst ats.toList (s.ev m) (s.ev k) K
   |_=>False
 | .makeSlice t l c=>T7 P s o.dst t (s.ev l) (s.ev c) K
 | .call ⟨.builtin .copy,args,ats⟩=>match args.toList with
   | [x,y]=>T8 P s o.dst ats.toList (s.ev x) (s.ev y) K
   |_=>False
 | .call ⟨.builtin .clear,args,ats⟩=>match args.toList with
   | [x]=>Ln P s o.dst ats.toList (s.ev x) K
   |_=>False
 | .call ⟨.builtin .len,args,ats⟩=>match args.toList with
   | [m]=>aeG P s o.dst ats.toList (s.ev m) K
   |_=>False
 | .call ⟨.value x,args,_⟩=>Hu P s o.dst o.type (s.ev x) (args.toList.map s.sv) K
 | .call ⟨.builtin .append,args,ats⟩=>match args.toList,ats.toList with
   | [x,y],[t,tx]=>Fu P s o.dst t tx (s.sv x) (s.sv y) K
   |_,_=>False
 | .convert .. =>match XV P s o.op with
   |some (a,n)=>∃ns:ab,ns.length=n/\ah s.w a 0 (ns.map (vc .u8))/\K (s.put o.dst (.val (.string (strOfNums ns))))
   |none=>False
 | .makeInterface t x=>match uq P t with|true=>K ((s.kill [s.sv x]).put o.dst (.val (.iface t (s.ev x))))|false=>False
 | .typeAssert x _ a ok=>match ok with
   |false=>match uq P a with|true=>(rI P a).ex λv=>s.ev x=.iface a v/\K (s.put o.dst (.val v))|false=>False
   |true=>VB P s o.dst a (s.ev x) K
 | .range t x=>Np P s o.dst t (s.ev x) K
 | .next x isS=>match isS with|true=>VC s o.dst (s.ev x) K|false=>False
 | .panic x=>akU s (s.ev x)
 |_=>False
def aaC [PQ] (P:Program)(s:St)(o:Oper)(K:St->Prop):Prop:=
 match dH P s o.op with
 |some (cs,sv)=>aO cs (K (s.put o.dst sv))
 |none=>KA P s o K
def sM{s1:St}(hok:s.h)(h1:s1.sl=s.sl)(h2:rK s.kn s1.kn)(h:iF d s1 K a w)(Wa:s1.df=s.df:=by first|rfl|exact ov _ _):iF d s K a w:=by
 have⟨s',a1,a2,a3,a4,a5⟩:=h;refine⟨s',a1,a2,a3,⟨a4.len.trans (by rw[h1]),λi hi=>(a4.slot i hi).trans ?_,h2.trans a4.kn,by rw[<-Wa];exact a4.df⟩,a5⟩;rw[h1];simp only[dG]
 cases hg:s.sl[i]? with
 |none=>rfl
 |some u=>exact h2.R (hok.lX i u hg)
variable{l:List SV}
def np(hok:s.h):(s.kill l).act=s.act:=by
 have⟨k1,k2,k3,k4,k5⟩:=fo l hok;simp only[St.act,k2,ov];congr 2;refine CP λx hx=>?_
 have⟨i,hi⟩:=yY hx;exact k4.R (hok.lX i x hi)
variable{a:aB}
def Ry{z:aC}(h:uq P a=true)(hz:(P.info? a).bind (·.zero)=some z)(w:au): (Instr.typeAssert (.iface t v) xT a true).run P w=.ok (if t=a then .tuple #[v,.bool true]else .tuple #[z,.bool false]) w:=by
 have hz':(zeroValue a).run P w=.ok z w:=by
  cases hi:P.info? a with
  |none=>simp[hi]at hz
  |some i=>
   cases IB:i.zero with
   |none=>simp[hi,IB]at hz
   |some z'=>simp[hi,IB]at hz;subst hz;simp[zeroValue,dB,hi,IB]
 unfold uq at h;split at h
 ·cases h
 ·rename_i d hd gl;simp only[Instr.typeAssert,Aw,aA,hd,Br];by_cases e:t=a
  ·cases d<;>simp_all
  ·cases d<;>simp_all
 ·cases h
def Rz(hok:s.h)(h:VB P s d a x K):∃v,(Instr.typeAssert x xT a true).run P s.w=.ok v s.w/\iF d s K (s.act.put d v) s.w:=by
 unfold VB at h;split at h
 ·rename_i hn;split at h
  ·rename_i z hz;obtain⟨t,v,rfl,h⟩:=h;refine⟨_,Ry hn hz s.w,?_⟩;by_cases e:t=a
   ·rw[if_pos e];have h:=Z.tt h (decide_eq_true e);have⟨u,e2,h⟩:=T1.kR h;subst e2;exact dI hok h
   ·rw[if_neg e];exact dI hok (Z.ff h (decide_eq_false e))
  ·cases h
 ·cases h
def Ns(hok:s.h)(h:Np P s d t x K):∃v w',(Instr.range t x).run P s.w=.ok v w'/\iF d s K (s.act.put d v) w':=by
 unfold Np at h;split at h
 ·rename_i ht;split at h
  ·rename_i str;have hu:P.underlying t=some .string:=by
    unfold aeJ at ht;split at ht
    ·assumption
    ·cases ht
   refine⟨.pointer (some ⟨s.w.heap.size,0,none⟩),s.w.alloc (.stringIter str 0),by simp[Instr.range,aA,hu,jf],?_⟩;have h:=h _ rfl;have kK:({s with w:=s.w.alloc (.stringIter str 0)}:St).h:=⟨λk kb h1 h2=>a06,hok.ne,hok.lX⟩;exact sM (s1:={s with w:=s.w.alloc (.stringIter str 0)}) hok rfl (rK.refl _) (dI kK h) rfl
  ·cases h
 ·cases h
def RA(hok:s.h)(h:VC s d x K):∃v w',(Instr.next x true ty).run P s.w=.ok v w'/\iF d s K (s.act.put d v) w':=by
 unfold VC at h;split at h
 ·rename_i p;obtain⟨r,str,pos,rfl,hr,h⟩:=h;by_cases hp:pos<str.size
  ·have h:=Z.tt h (decide_eq_true hp);have fK:r<s.w.heap.size:=(Array.getElem?_eq_some_iff.1 hr).1;refine⟨.tuple #[.bool true,.int .i64 pos,.int .i32 (Utf8.decode str pos).1],s.w.putObj r (.stringIter str (pos+(Utf8.decode str pos).2)),?_,?_⟩
   ·simp only[Instr.next,getObj,setObj,Aw,Sem.run,hr,Result.andThen,hp,if_true];simp[goInt,World.putObj]
   ·have fL:=Rec.putObj s.w r (.stringIter str (pos+(Utf8.decode str pos).2));have kK:=vd hok (λc t f e=>by rw[hr]at e;cases e) fL;have h:=h _ fL (by simp[World.putObj,fK]);exact sM (s1:={s with w:=s.w.putObj r (.stringIter str (pos+(Utf8.decode str pos).2))}) hok rfl (rK.refl _) (dI kK h) rfl
  ·have h:=Z.ff h (decide_eq_false hp);exact⟨.tuple #[.bool false],s.w,by simp[Instr.next,getObj,Sem.run,hr,hp],dI hok h⟩
 ·cases h
def RB [PQ] (hQ:Rx Q)(hP:xK P)(hok:s.h)(hny:∀x args ats l f c,o.op=.call ⟨.value x,args,ats⟩->s.ev x≠.func (.yield l) f c)(h:KA P s o K):o.wp P s.act s.w (iF o.dst s K) Q:=by
 have⟨dst,op,ty,pos,after,guard⟩:=o;unfold KA at h;simp only at h;have ev:∀{s':Sem aC}{v:aC}{w':au},(execOp s.ev ⟨dst,op,ty,pos,after,guard⟩=do pure (.value (<-s')))->s'.run P s.w=.ok v w'->iF dst s K (s.act.put dst v) w'->
   (Oper.mk dst op ty pos after guard).wp P s.act s.w (iF dst s K) Q:=by
  intro s' v w' h1 h2 h3;unfold Oper.wp;rw[St.eval_eq,h1,Aw,h2];exact h3
 split at h
 next t x i=>have⟨v,h1,h2⟩:=No hok h;exact ev (s':=Instr.index t (s.ev x) (s.ev i)) rfl h1 h2
 ·rename_i t x;split at h
  next hu=>have⟨a,v,h1,h2,h3⟩:=Fo hok (vh hu) h;refine ev (s':=Instr.loadAt t (s.ev x)) rfl ?_ (dI hok h2);rw[St.ev,h1];exact h3
  ·cases h
 ·rename_i t x v;split at h
  next hu=>have⟨a,w',h1,h2,h3⟩:=Lm hok (aeH hu) h;unfold Oper.wp;rw[St.eval_eq];have:execOp s.ev ⟨dst,.store t x v,ty,pos,after,guard⟩=(do Instr.storeAt t (s.ev x) (s.ev v);pure .skip):=rfl;rw[this,Aw,St.ev,h1];simp only[St.ev]at h2⊢;rw[h2];exact h3
  ·cases h
 ·rename_i t v;have h:Bt P (s.kill [s.sv v]) dst t (cellsOf (s.ev v)) K:=by
   revert h
   cases Bq P t with
   |true=>exact id
   |false=>
    intro h;have⟨h1,h2⟩:=bO.1 h;have:cellsOf (s.ev v)=[s.ev v]:=by
     generalize s.ev v=x at h1
     cases x<;>first|rfl|exact(h1 False (by simp[kq])).elim
    rw[this];exact h2
  have⟨k1,k2,k3,k4,k5⟩:=fo [s.sv v] hok;have h3:=sM hok k2 k4 (Fk k1 h);rw[np hok,k3]at h3;exact ev (s':=Instr.box t (s.ev v)) rfl (WR _) h3
 ·rename_i t;split at h
  next cs hz=>exact ev (s':=Instr.alloc t true (.tuple #[])) rfl (JH hz _) (Fk hok h)
  ·cases h
 ·rename_i t parts;split at h
  next cs hb=>have⟨k1,k2,k3,k4,k5⟩:=fo (parts.toList.map λ(_,x)=>s.sv x) hok;have h3:=sM hok k2 k4 (dI k1 h);rw[np hok,k3]at h3;refine ev (s':=Instr.build t (parts.map λ(i,x)=>(i,s.ev x))) rfl (run_build _ _ _ _ ?_) h3;simpa using hb
  ·cases h
 next t len parts=>have⟨k1,k2,k3,k4,k5⟩:=fo (parts.toList.map λ(_,x)=>s.sv x) hok;have⟨v,w',h1,h2⟩:=AR k1 h;have h3:=sM hok k2 k4 h2;rw[np hok]at h3;rw[k3]at h1;exact ev (s':=Instr.buildSlice t len (Nl s parts)) rfl h1 h3
 ·rename_i fn first captured;have⟨k1,k2,k3,k4,k5⟩:=fo ((first++captured).toList.map s.sv) hok;have h3:=sM hok k2 k4 (dI k1 h);rw[np hok,k3]at h3;refine ev (s':=Instr.makeFunc fn (first.map s.ev) (captured.map s.ev)) (v:=.func fn (first.map s.ev) (captured.map s.ev)) (w':=s.w) rfl rfl ?_;have e1:(first.toList.map s.ev).toArray=first.map s.ev:=by apply Array.ext';simp
  have e2:(captured.toList.map s.ev).toArray=captured.map s.ev:=by apply Array.ext';simp
  rw[e1,e2]at h3;exact h3
 ·rename_i t x k ok;unfold aeE at h;split at h
  case h_2=>exact h.elim
  rename_i kt et z r ht hx;have⟨g_,kvs,hk,hm,hG,hex⟩:=h;have⟨v,b,hl,hK⟩:=T1.kR hex;refine ev (s':=Instr.lookup t (s.ev x) (s.ev k) ok) rfl ?_ (dI hok hK);rw[hx,yk ht hk hm hG ok hl]
  cases ok<;>rfl
 ·rename_i t m k v;unfold aeF at h;split at h
  case h_2=>exact h.elim
  rename_i kt et z r ht hx;have⟨g_,kvs,hk,hr,hm,hG,hK⟩:=h;obtain⟨r,rfl⟩:=qI.1 hr;have⟨w',h1,h2,h3⟩:=Hw (v:=s.ev v) ht hk hm hG;unfold Oper.wp;rw[St.eval_eq];have:execOp s.ev ⟨dst,.mapUpdate t m k v,ty,pos,after,guard⟩=(do Instr.mapUpdate t (s.ev m) (s.ev k) (s.ev v);pure .skip):=rfl;rw[this,Aw,hx,h1];have⟨k1,k2,k3,k4,k5⟩:=fo [s.sv k,s.sv v] hok;have kK:=vd k1 (D:=r) (w':=w') (k3▸hm.vC) (k3▸h2);exact kg (v:=.val undef) (hK w' h2 h3) hok kK k2 k4 trivial rfl rfl
 ·rename_i t m k v;unfold aeF at h;split at h
  case h_2=>exact h.elim
  rename_i kt et z r ht hx;have⟨g_,kvs,hk,hr,hm,hG,hK⟩:=h;obtain⟨r,rfl⟩:=qI.1 hr;have⟨w',h1,h2,h3⟩:=Hw (v:=s.ev v) ht hk hm hG;unfold Oper.wp;rw[St.eval_eq];have:execOp s.ev ⟨dst,.insert t m k v,ty,pos,after,guard⟩=(do Instr.mapUpdate t (s.ev m) (s.ev k) (s.ev v);pure .skip):=rfl;rw[this,Aw,hx,h1];have⟨k1,k2,k3,k4,k5⟩:=fo [s.sv k,s.sv v] hok;have kK:=vd k1 (D:=r) (w':=w') (k3▸hm.vC) (k3▸h2);exact kg (v:=.val undef) (hK w' h2 h3) hok kK k2 k4 trivial rfl rfl
 ·rename_i t hh;unfold XU at h;split at h
  case h_2=>exact h.elim
  rename_i x y ht hy;have Ep:=h _ rfl;have sX:=aaB ht hy s.w;refine ev (s':=Instr.makeMap t (hh.map s.ev)) rfl sX ?_;exact kT (s1:={s with w:=s.w.alloc (.map #[] 0)}) (v:=.val (.map (some s.w.heap.size))) Ep hok rfl (rK.refl _) (λk kb h1 h2=>a06) hok.ne trivial rfl rfl
 ·rename_i args ats;split at h
  case h_2=>exact h.elim
  rename_i m k ha;unfold akT at h;split at h
  case h_2=>exact h.elim
  rename_i t rest r Ir hx;split at h
  case h_2=>exact h.elim
  rename_i kt et z ht;have⟨g_,kvs,hk,hr,hm,hG,hK⟩:=h;obtain⟨r,rfl⟩:=qI.1 hr;have⟨args⟩:=args;simp only at ha;subst ha;have hat0:ats[0]? =some t:=by rw[<-Array.getElem?_toList,Ir];rfl
  have⟨w',h1,h2,h3⟩:=Vz (ty:=ty) hat0 ht hk hm hG;refine ev (s':=Builtin.delete_ ats ty #[s.ev m,s.ev k]) ?_ (hx▸h1) ?_
  ·rw[BigFrame.execOp_builtin];have:Array.map s.ev #[m,k]= #[s.ev m,s.ev k]:=by simp
   rw[this];rfl
  ·have kK:=vd hok (D:=r) (w':=w') hm.vC h2;exact kg (v:=.val (.tuple #[])) (hK w' h2 h3) hok kK rfl (rK.refl _) trivial rfl rfl
 next t l c=>have⟨v,w',h1,h2⟩:=Pb hok h;exact ev (s':=Instr.makeSlice t (s.ev l) (s.ev c)) rfl h1 h2
 ·rename_i args ats;split at h
  case h_2=>exact h.elim
  rename_i x y ha;have⟨args⟩:=args;simp only at ha;subst ha;have⟨v,w',h1,h2⟩:=Pc (ty:=ty) hok h;refine ev (s':=Builtin.copy_ ats ty #[s.ev x,s.ev y]) ?_ h1 h2;rw[BigFrame.execOp_builtin];have:Array.map s.ev #[x,y]= #[s.ev x,s.ev y]:=by simp
  rw[this];rfl
 ·rename_i args ats;split at h
  case h_2=>exact h.elim
  rename_i x ha;have⟨args⟩:=args;simp only at ha;subst ha;have⟨v,w',h1,h2⟩:=Lp (ty:=ty) hok h;refine ev (s':=Builtin.clear_ ats ty #[s.ev x]) ?_ h1 h2;rw[BigFrame.execOp_builtin];have:Array.map s.ev #[x]= #[s.ev x]:=by simp
  rw[this];rfl
 ·rename_i args ats;split at h
  case h_2=>exact h.elim
  rename_i m ha;unfold aeG at h;split at h
  case h_2=>exact h.elim
  rename_i t rest r Ir hx;split at h
  case h_2=>exact h.elim
  rename_i x ht;have⟨kt,et,z⟩:=x;have⟨g_,kvs,hm,hK⟩:=h;have⟨args⟩:=args;simp only at ha;subst ha;have hat0:ats[0]? =some t:=by rw[<-Array.getElem?_toList,Ir];rfl
  refine ev (s':=Builtin.len_ ats ty #[s.ev m]) ?_ (by rw[hx];exact aeD (ty:=ty) hat0 (po ht).1 hm) (dI hok hK);rw[BigFrame.execOp_builtin];have:Array.map s.ev #[m]= #[s.ev m]:=by simp
  rw[this];rfl
 ·exact aiS hQ hP hok (λl f c=>hny _ _ _ l f c rfl) h
 ·rename_i args ats;split at h
  ·rename_i x y t tx ha ht;have⟨args⟩:=args;have⟨ats⟩:=ats;simp only at ha ht;subst ha ht;have⟨v,w',h1,h2⟩:=IC (ty:=ty) hok h;unfold Oper.wp;rw[St.eval_eq,BigFrame.execOp_builtin,BigFrame.builtin_append];have:Array.map s.ev #[x,y]= #[s.ev x,s.ev y]:=by simp
   rw[this,Aw];simp only[St.ev];rw[h1];exact h2
  ·cases h
 ·split at h
  next a n hc=>have⟨ns,hn,hl,hk⟩:=h;unfold Oper.wp;rw[St.eval_eq,Kz hc hn hl];exact dI hok hk
  ·cases h
 ·rename_i t x;split at h
  next hu=>have⟨k1,k2,k3,k4,k5⟩:=fo [s.sv x] hok;have h3:=sM hok k2 k4 (dI k1 h);rw[np hok,k3]at h3;exact ev (s':=Instr.makeInterface t (s.ev x)) rfl (Fg hu _) h3
  ·cases h
 ·rename_i x xT a ok
  cases ok with
  |false=>
   simp only at h;split at h
   next hu=>have⟨v,e,hk⟩:=T1.kR h;refine ev (s':=Instr.typeAssert (s.ev x) xT a false) rfl ?_ (dI hok hk);rw[e];exact VA hu _
   ·cases h
  |true=>
   have⟨v,h1,h2⟩:=Rz (xT:=xT) hok h;exact ev (s':=Instr.typeAssert (s.ev x) xT a true) rfl h1 h2
 next t x=>have⟨v,w',h1,h2⟩:=Ns hok h;exact ev (s':=Instr.range t (s.ev x)) rfl h1 h2
 ·rename_i x isS;split at h
  ·have⟨v,w',h1,h2⟩:=RA (P:=P) (ty:=ty) hok h;exact ev (s':=Instr.next (s.ev x) true ty) rfl h1 h2
  ·cases h
 ·rename_i x;unfold akU at h;split at h
  ·cases h
  ·rename_i q hq;split at h
   ·rename_i Wa;split at h
    ·rename_i t v hx;have sX:(execOp s.ev (Oper.mk dst (.panic x) ty pos after guard)).run P s.w=.halt (.panic (.iface t v)) s.w:=by show(do pure (Next.value (<-Instr.panic (s.ev x))):Sem Next).run P s.w=_;rw[hx];rfl
     unfold Oper.wp;rw[St.eval_eq,sX];exact hQ q hq _ _ _ a1E h
    ·cases h
   ·cases h
 ·cases h
def Hx [PQ] (hQ:Rx Q)(hP:xK P)(hok:s.h)(h:aaC P s o K):o.D_ P s.act s.w (iF o.dst s K) Q:=by
 have hd:∀c,o.op≠.defer c:=by intro c e;have⟨dst,op,ty,pos,after,guard⟩:=o;simp only at e;subst e;exact h.elim
 by_cases hy:∃x args ats l f c,o.op=.call ⟨.value x,args,ats⟩/\s.ev x=.func (.yield l) f c
 ·have⟨x,args,ats,l,f,c,e,hx⟩:=hy;have⟨dst,op,ty,pos,after,guard⟩:=o;simp only at e;subst e;exact aaz hQ hok hx h
 ·refine aay hd ?_;unfold aaC at h;split at h
  next cs sv hp=>exact wp_pure hok hp h
  ·exact RB hQ hP hok (λx args ats l f c e hx=>hy ⟨x,args,ats,l,f,c,e,hx⟩) h
end
def rf(ops:Array Oper)(o:Oper)(s:St)(yes:St->Prop)(no:St->Prop):Prop:=
 match o.guard with
 |none=>yes s
 |some (j,want)=>match (ops[j]?).bind (·.dst)with
  |some d=>match s.sl.getD d (.val undef)with
   | .val (.bool b)=>Z b (match want with|true=>yes {s with sl:=s.sl.set d (.val (.bool true))}|false=>no {s with sl:=s.sl.set d (.val (.bool true))})
     (match want with|true=>no {s with sl:=s.sl.set d (.val (.bool false))}|false=>yes {s with sl:=s.sl.set d (.val (.bool false))})
   | .val (.tuple _)=>no s
   |_=>False
  |none=>False
def vcG [PQ] (P:Program)(ops:Array Oper)(s:St)(o:Oper)(K:St->Prop):Prop:=
 rf ops o s (λs=>aaC P s o K) (λs=>K (s.put o.dst (.val undef)))
def Nt [PQ] (P:Program)(ops:Array Oper):List Oper->St->(St->Prop)->Prop
 | [],s,K=>K s
 |o::r,s,K=>vcG P ops s o λs'=>Nt P ops r s' K
def dstsOf(l:List Oper):bf:=l.filterMap (·.dst)
section
variable{P:Program}{s:St}{o:Oper}{K:St->Prop}{Q:Exit->Act->au->Prop}{ops:Array Oper}
structure Nu(s s':St):Prop where
 act:s'.act=s.act
 w:s'.w=s.w
 ok:s'.h
 fr:Fr [] s s'
def Nu.refl(h:s.h):Nu s s:=⟨rfl,rfl,h,Fr.refl _ _⟩
def aeK{d:Nat}{b:aX}(hok:s.h)(h:s.sl.getD d (.val undef)=.val (.bool b)):Nu s {s with sl:=s.sl.set d (.val (.bool b))}:=by
 have hd:s.sl[d]? =some (.val (.bool b)):=by
  rw[dG]at h
  cases hh:s.sl[d]? with
  |none=>rw[hh]at h;cases h
  |some v=>rw[hh]at h;simp at h;rw[h]
 have:s.sl.set d (.val (.bool b))=s.sl:=by
  apply jF;intro i;rw[iS];split
  ·rename_i e;subst e;split
   ·exact hd.symm
   next hl=>rw[jZ U]at hd;cases hd
  ·rfl
 rw[this];exact Nu.refl hok
def vi{yes no:St->Prop}(hok:s.h)(h:rf ops o s yes no): (Region.wanted o (yielded ops s.act.tmps)=true/\∃s',Nu s s'/\yes s')\/(Region.wanted o (yielded ops s.act.tmps)=false/\∃s',Nu s s'/\no s'):=by
 unfold rf at h;split at h
 next hg=>exact .inl ⟨by simp[Region.wanted,hg],s,Nu.refl hok,h⟩
 ·rename_i j want hg;split at h
  ·rename_i d hd;have gd:s.act.tmps[d]? =(s.sl[d]?).map (SV.R s.kn):=by simp[St.act]
   split at h
   ·rename_i b hb;have hs:s.sl[d]? =some (.val (.bool b)):=by
     rw[dG]at hb
     cases hh:s.sl[d]? with
     |none=>rw[hh]at hb;cases hb
     |some v=>rw[hh]at hb;simp at hb;rw[hb]
    have hy:yielded ops s.act.tmps j=some b:=by simp[yielded,hd,gd,hs,SV.R]
    have hl:=aeK hok hb
    cases b with
    |true=>
     have h:=Z.tt h rfl
     cases want with
     |true=>exact .inl ⟨a0G,_,hl,h⟩
     |false=>exact .inr ⟨a0G,_,hl,h⟩
    |false=>
     have h:=Z.ff h rfl
     cases want with
     |true=>exact .inr ⟨a0G,_,hl,h⟩
     |false=>exact .inl ⟨a0G,_,hl,h⟩
   ·rename_i b hb;refine .inr ⟨?_,s,Nu.refl hok,h⟩;have hy:yielded ops s.act.tmps j=none:=by
     rw[dG]at hb
     cases hh:s.sl[d]? with
     |none=>simp[yielded,hd,gd,hh]
     |some v=>rw[hh]at hb;simp at hb;simp[yielded,hd,gd,hh,hb,SV.R]
    simp[Region.wanted,hg,hy]
   ·cases h
  ·cases h
def iF.aeL{d:Option Tmp}{s1:St}{a:Act}{w:au}(hl:Nu s s1)(h:iF d s1 K a w):iF d s K a w:=by have⟨s',h1,h2,h3,h4,h5⟩:=h;exact⟨s',h1,h2,h3,(hl.fr.mono bo).trans h4,h5⟩
def VD(hok:s.h){d:Option Tmp}(h:K (s.put d (.val undef))):iF d s K (s.act.put d undef) s.w:=dI hok h
def aaD [PQ] (hQ:Rx Q)(hP:xK P)(hok:s.h)(h:vcG P ops s o K): (Region.wanted o (yielded ops s.act.tmps)=true/\o.D_ P s.act s.w (iF o.dst s K) Q)\/(Region.wanted o (yielded ops s.act.tmps)=false/\iF o.dst s K (s.act.put o.dst undef) s.w):=by
 rcases vi hok h with⟨h1,s',hl,h2⟩|⟨h1,s',hl,h2⟩
 ·left;refine⟨h1,?_⟩;have:=Hx (Q:=Q) hQ hP hl.ok h2;rw[hl.act,hl.w]at this;exact Oper.re (λa w hp=>iF.aeL hl hp) this
 ·right;refine⟨h1,?_⟩;have:=VD hl.ok h2;rw[hl.act,hl.w]at this;exact iF.aeL hl this
def akV(W:bf)(s:St)(K:St->Prop):Act->au->Prop:=
 λa w=>∃s',s'.h/\s'.act=a/\s'.w=w/\Fr W s s'/\K s'
def Hy{d:Option Tmp}{l:bf}(h:∀x,d=some x->x∈l):∀i∈d.toList,i∈l:=by
 intro i hi;cases d with
 |none=>cases hi
 |some x=>simp at hi;subst hi;exact h _ rfl
def VE(P:Program)(ops:Array Oper)(Q:Exit->Act->au->Prop):List Oper->Act->au->Prop
 | [],a,w=>Q .normal a w
 |o::r,a,w=>if Region.wanted o (yielded ops a.tmps)then o.D_ P a w (VE P ops Q r) Q else VE P ops Q r (a.put o.dst undef) w
def Nv{F:Fence}{n:Nat}(hF:Wd F):∀(l:List Oper)(i:Nat)(a:Act)(w:au),(∀j,j<l.length->ops[i+j]? =l[j]?)->VE P ops Q l a w->wpOpsIn F n P ops Q (List.range' i l.length) a w
 | [],i,a,w,_,h=>h
 |o::r,i,a,w,hl,h=>by
  have ho:ops[i]? =some o:=by simpa using hl 0 bo
  have hr:∀j,j<r.length->ops[i+1+j]? =r[j]? :=λj hj=>by have:=hl (j+1) (ds hj);rw[show i+1+j=i+(j+1)by omega,this];simp
  show wpOpsIn F n P ops Q (i::List.range' (i+1) r.length) a w;rw[wpOpsIn_cons];unfold wpOpIn;simp only[ho];unfold VE at h;split
  next hw=>rw[if_pos hw]at h;exact Dn hF (Oper.re (λa w hh=>Nv hF r (i+1) a w hr hh) h)
  next hw=>rw[if_neg hw]at h;exact⟨λf _=>hF.fn f,Nv hF r (i+1) _ w hr h⟩
def AS [PQ] (hP:xK P):∀(l:List Oper)(s:St)(Q:Exit->Act->au->Prop),Rx Q->s.h->Nt P ops l s K->(∀a w,akV (dstsOf l) s K a w->Q .normal a w)->VE P ops Q l s.act s.w
 | [],s,Q,hQ,hok,h,hq=>hq _ _ ⟨s,hok,rfl,rfl,Fr.refl _ _,h⟩
 |o::r,s,Q,hQ,hok,h,hq=>by
  unfold VE
  have step:∀a w,iF o.dst s (λs'=>Nt P ops r s' K) a w->VE P ops Q r a w:=by
   rintro a w ⟨s',h1,rfl,rfl,h4,h5⟩;refine AS hP r s' Q hQ h1 h5 λa w hp=>hq a w ?_
   have⟨s'',g1,g2,g3,g4,g5⟩:=hp;refine⟨s'',g1,g2,g3,(h4.mono (Hy λx hx=>?_)).trans (g4.mono λx hx=>?_),g5⟩
   ·simp[dstsOf,hx]
   ·simp only[dstsOf,List.filterMap_cons];split
    ·exact hx
    ·exact qQ _ hx
  rcases aaD (Q:=Q) hQ hP hok h with⟨h1,h2⟩|⟨h1,h2⟩
  ·rw[if_pos h1];exact Oper.re step h2
  ·rw[if_neg (by simp[h1])];exact step _ _ h2
end
structure sN where
 i:Nat
 p:ai
 vs:af
def sN.holds(q:sN)(w:au):Prop:=ah w q.p 0 q.vs
def RC(o:Oper)(i:Nat):aX:=o.after.any λe=>Region.binds .any e&&e.on==i
def stays(ops:Array Oper)(j:Nat)(l:List sN):List sN:=l.filter λq=>match ops[j]? with|some o=> !RC o q.i|none=>true
section
variable{P:Program}{s:St}{o:Oper}{K:St->Prop}{Q:Exit->Act->au->Prop}{ops:Array Oper}
def tD(P:Program)(ops:Array Oper)(Q:Exit->Act->au->Prop)(i:Nat)(K:Act->au->Prop)(a:Act)(w:au):Prop:=
 match ops[i]? with
 |none=>K a w
 |some o=>if Region.wanted o (yielded ops a.tmps)then o.D_ P a w K Q else K (a.put o.dst undef) w
variable{i:Nat}{a:Act}{w:au}
def sO{K K':Act->au->Prop}(h:∀a w,K a w->K' a w)(hh:tD P ops Q i K a w):tD P ops Q i K' a w:=by
 unfold tD at*;split
 ·exact h _ _ (by simpa[*]using hh)
 ·rename_i o ho;simp only[ho]at hh;split
  next hw=>simp only[hw,if_true]at hh;exact Oper.re h hh
  next hw=>simp only[hw]at hh;exact h _ _ hh
variable{F:Fence}{n:Nat}
def aeM(hF:Wd F){K:Act->au->Prop}(hh:tD P ops Q i K a w):wpOpIn F n P ops Q i K a w:=by
 unfold tD at hh;unfold wpOpIn;split
 ·simpa[*]using hh
 ·rename_i o ho;simp only[ho]at hh;split
  next hw=>simp only[hw,if_true]at hh;exact Dn hF hh
  next hw=>simp only[hw]at hh;exact⟨λf _=>hF.fn f,hh⟩
def A_(P:Program)(ops:Array Oper)(Q:Exit->Act->au->Prop):Nat->List sN->Array aX->Act->au->Prop
 |0,_,listed,a,w=>Region.ready .any ops listed=[]/\Q .normal a w
 |fuel+1,l,listed,a,w=>
  (Region.ready .any ops listed=[]->Q .normal a w)/\
  ∀j∈Region.ready .any ops listed,tD P ops Q j (λa' w'=>(∀q∈stays ops j l,q.holds w')/\A_ P ops Q fuel (stays ops j l) (listed.setIfInBounds j true) a' w') a w
def XW(hF:Wd F):∀(fuel:Nat)(l:List sN)(listed:Array aX)(a:Act)(w:au),A_ P ops Q fuel l listed a w->wpAnyIn F n P .any ops Q fuel listed a w
 |0,_,_,_,_,h=>h
 |fuel+1,l,listed,a,w,h=>⟨h.1,λj hj=>aeM hF (sO (λa' w' hk=>XW hF fuel _ _ _ _ hk.2) (h.2 j hj))⟩
variable{j:Nat}{q:sN}
def oL{l:List sN}(h:q∈stays ops j l):q∈l:=(jY.1 h).1
def Hz:∀(fuel:Nat)(l l':List sN)(listed:Array aX)(a:Act)(w:au),(∀q∈l',q∈l)->A_ P ops Q fuel l listed a w->A_ P ops Q fuel l' listed a w
 |0,_,_,_,_,_,_,h=>h
 |fuel+1,l,l',listed,a,w,hs,h=>⟨h.1,λj hj=>sO (λa' w' hk=>by
  have:∀q∈stays ops j l',q∈stays ops j l:=λq hq=>jY.2 ⟨hs q (oL hq),(jY.1 hq).2⟩
  exact⟨λq hq=>hk.1 q (this q hq),Hz fuel _ _ _ _ _ this hk.2⟩) (h.2 j hj)⟩
def jB(P:Program)(ops:Array Oper)(C:au->Prop)(o:Oper)(v:aC)(a:Act):Prop:=
 (Region.wanted o (yielded ops a.tmps)=true/\∀w,C w->(execOp a.eval o).run P w=.ok (.value v) w)\/
 (Region.wanted o (yielded ops a.tmps)=false/\v=undef)
variable{C:au->Prop}{v:aC}
def jB.wpOp{o:Oper}(hi:ops[i]? =some o)(hnd:∀c,o.op≠.defer c)(hy:jB P ops C o v a) {K:Act->au->Prop}{w:au}(hC:C w)(h:K (a.put o.dst v) w):tD P ops Q i K a w:=by
 unfold tD;simp only[hi];rcases hy with⟨hw,hv⟩|⟨hw,rfl⟩
 ·simp only[hw,if_true];exact⟨hnd,by rw[hv w hC];exact h⟩
 ·simp only[hw,Bool.false_eq_true,if_false];exact h
def jB.of_same{o:Oper}{a':Act}(hy:jB P ops C o v a)(he:execOp a'.eval o=execOp a.eval o) (hw:Region.wanted o (yielded ops a'.tmps)=Region.wanted o (yielded ops a.tmps)):jB P ops C o v a':=by
 unfold jB at*;rw[he,hw];exact hy
variable{oi:Oper}
def aaF{oj:Oper}(hj:ops[j]? =some oj)(hap:oi.apart ops oj=true) (hsi:∀cs b,oi.op≠.select cs b)(hsj:∀cs b,oj.op≠.select cs b) (hQ:∀c a w,Q (.panic c) (a.put oi.dst v) w->Q (.panic c) a w){K:Act->au->Prop}{a:Act}{w:au} (hy:jB P ops C oi v a)(h:tD P ops Q j K (a.put oi.dst v) w): tD P ops Q j (λa' w'=>jB P ops C oi v a'/\K (a'.put oi.dst v) w') a w:=by
 have⟨h1,h2,h3⟩:=Oper.apart_spec hap;have aV:∀(a:Act),jB P ops C oi v a->∀u,jB P ops C oi v (a.put oj.dst u):=λa hy u=>
  hy.of_same (execOp_put oi hsi a oj.dst u h3) (wanted_put oi a oj.dst u h3)
 have nq:∀d,jB P ops C oi v {a with defers:=d::a.defers}:=λd=>hy.of_same rfl rfl
 unfold tD at*;simp only[hj]at*;rw[wanted_put oj a oi.dst v h1]at h;split
 ·rename_i hw;simp only[hw,if_true]at h;refine⟨h.1,?_⟩;have h:=h.2;rw[execOp_put oj hsj a oi.dst v h1]at h;generalize (execOp a.eval oj).run P w=r at*
  cases r with
  |ok n w'=>
   cases n<;>simp only[Oper.uponIn]at h⊢
   case value u=>exact⟨aV a hy u,by rw[<-Act.put_comm a v u h2];exact h⟩
   case skip=>exact⟨aV a hy _,by rw[<-Act.put_comm a v undef h2];exact h⟩
   case defer d=>
    refine⟨aV _ (nq d) _,?_⟩;rw[<-Act.put_comm _ v undef h2,<-Act.put_defers];exact h
   case enter f args=>
    refine⟨h.1,CallsIn.mono h.2 λe w'' he=>?_⟩
    cases e with
    |returned u=>exact⟨aV a hy u,a0N⟩
    |panicked c=>exact hQ _ _ _ he
    |outgrown=>exact he
   case row row args=>exact⟨h.1,RowsIn.mono h.2 λu w'' he=>⟨aV a hy u,a0N⟩⟩
   case round l f tmps assign body=>
    refine⟨h.1,RoundIn.mono h.2 λe w'' he=>?_⟩
    cases e with
    |returned u=>exact⟨aV a hy u,a0N⟩
    |panicked c=>exact hQ _ _ _ he
    |outgrown=>exact he
  |halt x w'=>
   cases x<;>simp only[Oper.uponIn]at h⊢
   case panic u=>exact hQ _ _ _ h
 next hw=>simp only[hw]at h;exact⟨aV a hy _,by rw[<-Act.put_comm a v undef h2];exact h⟩
def aaG(hi:ops[q.i]? =some oi)(hnd:∀c,oi.op≠.defer c)(Il:∀(j:Nat)(o:Oper) cs b,ops[j]? =some o->o.op≠.select cs b) (hQ:∀c a w,Q (.panic c) (a.put oi.dst v) w->Q (.panic c) a w): ∀(fuel:Nat)(l:List sN)(listed:Array aX)(a:Act)(w:au),(∀j oj,ops[j]? =some oj->j≠q.i->listed.getD j true=false->(∀e∈oj.after,Region.binds .any e=true->e.on≠q.i)->oi.apart ops oj=true)->q.i∈Region.ready .any ops listed->jB P ops q.holds oi v a->q.holds w->A_ P ops Q fuel (q::l) (listed.setIfInBounds q.i true) (a.put oi.dst v) w->(∀x∈l,x.holds w)->A_ P ops Q (fuel+1) l listed a w:=by
 intro fuel
 induction fuel with
 |zero=>
  intro l listed a w _ hr hy hh d_ hl;refine⟨λh=>(by rw[h]at hr;cases hr),λj hj=>?_⟩;by_cases hji:j=q.i
  ·subst hji;exact hy.wpOp hi hnd hh ⟨λx hx=>hl x (oL hx),d_⟩
  ·have:=ready_mono hj hji;rw[d_.1]at this
   cases this
 |succ fuel ih=>
  intro l listed a w hfree hr hy hh d_ hl;refine⟨λh=>(by rw[h]at hr;cases hr),λj hj=>?_⟩;by_cases hji:j=q.i
  ·subst hji;exact hy.wpOp hi hnd hh ⟨λx hx=>hl x (oL hx),Hz _ _ _ _ _ _ (λx hx=>qQ _ (oL hx)) d_⟩
  ·have h1:=d_.2 j (ready_mono hj hji);have⟨atP,oj,hoj,wo⟩:=mem_ready.1 hj;have aki:∀e∈oj.after,Region.binds .any e=true->e.on≠q.i:=λe he hb heq=>by
    have h1:=wo e he hb;have h0:=(mem_ready.1 hr).1;rw[heq]at h1;rcases iR q.i listed.size with h'|h'
    ·simp[h']at h0 h1;rw[h0]at h1;cases h1
    ·simp[Array.getElem?_eq_none h']at h1
   have gm:stays ops j (q::l)=q::stays ops j l:=by unfold stays;rw[CU];simp only[hoj];rw[if_pos];simp only[RC,Bool.not_eq_true'];rw[Array.any_eq_false'];intro e he hx;simp only[fF,beq_iff_eq]at hx;exact aki e he hx.1 hx.2
   rw[gm]at h1;have h2:=aaF hoj (hfree j oj hoj hji atP aki) (λcs b=>Il q.i oi cs b hi) (λcs b=>Il j oj cs b hoj) hQ hy h1;have hfree':∀k ok,ops[k]? =some ok->k≠q.i->(listed.setIfInBounds j true).getD k true=false->
     (∀e∈ok.after,Region.binds .any e=true->e.on≠q.i)->oi.apart ops ok=true:=λk ok hk hki hun lp=>by
    refine hfree k ok hk hki ?_ lp;by_cases hjk:j=k
    ·subst hjk;exact atP
    ·rw[Go.getD_set_ne true hjk]at hun;exact hun
   refine sO (λa' w' h3=>?_) h2;have⟨g1,g2,g3⟩:=h3;refine⟨λx hx=>g2 x (qQ _ hx),ih (stays ops j l) (listed.setIfInBounds j true) a' w' hfree' (ready_mono hr (Ne.symm hji)) g1 (g2 q (.head _)) ?_ (λx hx=>g2 x (qQ _ hx))⟩;rw[Array.setIfInBounds_comm _ _ hji];exact g3
end
def amO:bf->(Nat->Prop)->Prop
 | [],_=>True
 | [j],F=>F j
 |j::k::r,F=>F j/\amO (k::r) F
def RD:∀{l:bf}{F:Nat->Prop},amO l F->∀j∈l,F j
 | [],_,_,j,h=>by cases h
 | [a],_,h,j,hj=>by
   have:j=a:=a1l
   subst this;exact h
 |a::b::r,F,h,j,hj=>by
  cases hj with
  |head=>exact h.1
  |tail _ hm=>exact RD h.2 j hm
def RE:Op->aX
 | .move _| .pick .. | .extract .. | .fieldAddr .. | .field .. | .nilCheck _| .indexAddr .. | .index .. | .binOp .. | .unOp .. | .convert .. | .slice .. | .load .. | .makeInterface .. =>true
 | .call {callee:=.builtin .len,..}| .call {callee:=.builtin .cap,..}| .call {callee:=.builtin .min,..}| .call {callee:=.builtin .max,..}=>true
 |_=>false
def amP(P:Program):Op->aX
 | .index t _ _=>isStr P t
 |_=>true
def aeN(P:Program)(ops:Array Oper)(listed:Array aX)(i:Nat):aX:=
 match ops[i]? with
 |some o=>match RE o.op&&amP P o.op with|true=>Region.free .any ops listed i|false=>false
 |none=>false
def RF(P:Program)(l:List sN)(i:Nat)(o:Oper)(s:St)(K:List sN->St->Prop):Prop:=
 match o.op with
 | .load t x=>match M_ P t with|true=>Ny P s o.dst t (s.sv x) λp vs s'=>K (⟨i,p,vs⟩::l) s'|false=>False
 |_=>match XV P s o.op with
  |some (a,n)=>∃ns:ab,ns.length=n/\ah s.w a 0 (ns.map (vc .u8))/\K (⟨i,a,ns.map (vc .u8)⟩::l) (s.put o.dst (.val (.string (strOfNums ns))))
  |none=>match dH P s o.op with
   |some (cs,sv)=>aO cs (K l (s.put o.dst sv))
   |none=>False
def quiet(P:Program)(s:St)(o:Oper):aX:=
 match o.op with
 | .box .. | .alloc .. | .buildSlice .. | .build .. | .makeFunc .. =>true
 |_=>match dH P s o.op with|some _=>true|none=>false
def XX(P:Program)(s:St)(o:Oper)(l:List sN)(w':au):List Prop:=
 match quiet P s o with
 |true=>[]
 |false=>l.map λq=>q.holds w'
def XY [PQ] (P:Program)(ops:Array Oper)(K:St->Prop):Nat->List sN->Array aX->St->Prop
 |0,_,listed,s=>match Region.ready .any ops listed with| []=>K s|_=>False
 |fuel+1,l,listed,s=>
  match (Region.ready .any ops listed).find? (aeN P ops listed)with
  |some i=>match ops[i]? with
   |some o=>rf ops o s (λs=>RF P l i o s λl' s'=>XY P ops K fuel l' (listed.setIfInBounds i true) s')
    (λs=>XY P ops K fuel l (listed.setIfInBounds i true) (s.put o.dst (.val undef)))
   |none=>False
  |none=>match Region.ready .any ops listed with
   | []=>K s
   |js=>amO js λj=>match ops[j]? with
    |some o=>rf ops o s (λs=>aaC P s o λs'=>aO (XX P s o (stays ops j l) s'.w) (XY P ops K fuel (stays ops j l) (listed.setIfInBounds j true) s'))
     (λs=>XY P ops K fuel (stays ops j l) (listed.setIfInBounds j true) (s.put o.dst (.val undef)))
    |none=>False
section
variable{P:Program}{s:St}{o:Oper}{K:St->Prop}{Q:Exit->Act->au->Prop}{ops:Array Oper}
def Grow(w w':au):Prop:=∀a v,w.cell? a=some v->w'.cell? a=some v
def Grow.refl(w:au):Grow w w:=λ_ _ h=>h
def Grow.alloc(w:au)(ob:Obj):Grow w (w.alloc ob):=λa v h=>by
 rw[World.cell?_alloc_lt];exact h
 unfold World.cell? at h
 split at h
 next c e f hb=>exact(oQ.1 hb).1
 ·cases h
variable{w w':au}{p:ai}{v:aC}(h:Grow w w')
def Grow.ld(hl:ld w p=some v):ld w' p=some v:=by
 cases p with
 |none=>simp[Vc.ld]at hl
 |some a=>exact h a v hl
def Grow.ah(h:Grow w w'):∀{i:Nat}{vs:af},ah w p i vs->ah w' p i vs
 |_,[],_=>trivial
 |_,[_],hl=>h.ld hl
 |_,_::_::_,hl=>⟨h.ld hl.1,h.ah hl.2⟩
def amQ{a:Act}{K':Act->au->Prop}{g_:au->Prop}(hr:(execOp a.eval o).run P w=.ok (.value v) w')(hg:g_ w') (h:o.D_ P a w K' Q):o.D_ P a w (λa' w''=>K' a' w''/\g_ w'') Q:=by
 have⟨h1,h⟩:=h;refine⟨h1,?_⟩;rw[hr]at h⊢;exact⟨h,hg⟩
def aaH [PQ] (hok:s.h)(hq:quiet P s o=true)(h:aaC P s o K):∃v w',(execOp s.act.eval o).run P s.w=.ok (.value v) w'/\Grow s.w w':=by
 rw[St.eval_eq];unfold aaC at h;split at h
 next cs sv hp=>rw[bO]at h;exact⟨_,_,rL hp h.1 _,Grow.refl _⟩
 ·rename_i hp;have⟨dst,op,ty,pos,after,guard⟩:=o;unfold quiet at hq;simp only at hq h hp
  cases op with
  |box t x=>exact⟨_,_,by
   show(do pure (Next.value (<-Instr.box t (s.ev x))):Sem Next).run P s.w=_;rw[Aw,WR];rfl,Grow.alloc _ _⟩
  |alloc t=>
   unfold KA at h;simp only at h;split at h
   ·rename_i cs hz;exact⟨_,_,by
     show(do pure (Next.value (<-Instr.alloc t true (.tuple #[]))):Sem Next).run P s.w=_;rw[Aw,JH hz];rfl,Grow.alloc _ _⟩
   ·cases h
  |build t parts=>
   unfold KA at h;simp only at h;split at h
   ·rename_i cs hb;exact⟨_,_,by
     show(do pure (Next.value (<-Instr.build t (parts.map λ(i,x)=>(i,s.ev x)))):Sem Next).run P s.w=_;rw[Aw,run_build _ _ _ cs (ds hb)];rfl,Grow.refl _⟩
   ·cases h
  |buildSlice t len parts=>
   unfold KA at h;simp only at h;unfold oC at h;split at h
   ·rename_i e cells hc;exact⟨_,_,by
     show(do pure (Next.value (<-Instr.buildSlice t len (Nl s parts))):Sem Next).run P s.w=_;rw[Aw,tC hc s.w];rfl,Grow.alloc _ _⟩
   ·cases h
  |makeFunc fn first captured=>exact⟨.func fn (first.map s.ev) (captured.map s.ev),s.w,rfl,Grow.refl _⟩
  |_=>simp[hp]at hq
end
section
variable{P:Program}{s:St}{o:Oper}{K:St->Prop}{Q:Exit->Act->au->Prop}{ops:Array Oper}
def HB{q:sN}(hq:∀w,q.holds w):∀(fuel:Nat)(l:List sN)(listed:Array aX)(a:Act)(w:au),A_ P ops Q fuel l listed a w->A_ P ops Q fuel (q::l) listed a w
 |0,_,_,_,_,h=>h
 |fuel+1,l,listed,a,w,h=>⟨h.1,λj hj=>sO (λa' w' hk=>by
  have gm:stays ops j (q::l)=q::stays ops j l\/stays ops j (q::l)=stays ops j l:=by unfold stays;rw[CU];split<;>simp
  rcases gm with e|e
  ·rw[e];refine⟨λx hx=>?_,HB hq fuel _ _ _ _ hk.2⟩
   cases hx with
   |head=>exact hq _
   |tail _ hm=>exact hk.1 x hm
  ·rw[e];exact hk) (h.2 j hj)⟩
def RH{op:Op}(h:RE op=true):∀c,op≠.defer c:=by rintro c rfl;cases h
def aeO{l:bf}{f:Nat->aX}{i:Nat}(h:l.find? f=some i):i∈l/\f i=true:=⟨G6 h,List.find?_some h⟩
def Qr [PQ] (W:bf)(s0:St)(K:St->Prop):Exit->Act->au->Prop
 | .normal,a,w=>akV W s0 K a w
 | .panic c,a,w=>∃q,PQ.q=some q/\a.defers=[]/\q c w
 |_,_,_=>False
def arb [PQ] (W:bf)(s0:St)(K:St->Prop):Rx (Qr W s0 K):=λq hq _ _ _ hd hc=>⟨q,hq,hd,hc⟩
def amR(a:Act)(d:Option Tmp)(v:aC):(a.put d v).defers=a.defers:=by cases d<;>rfl
def oM [PQ] (hP:xK P)(Il:Region.noSelect ops=true)(W:bf)(s0:St)(hW:∀(j:Nat)(o:Oper) d,ops[j]? =some o->o.dst=some d->d∈W):
  ∀(fuel:Nat)(l:List sN)(listed:Array aX)(s:St),s.h->Fr W s0 s->(∀q∈l,q.holds s.w)->XY P ops K fuel l listed s->A_ P ops (Qr W s0 K) fuel l listed s.act s.w
 |0,l,listed,s,hok,Le,hl,h=>by
  unfold XY at h
  split at h
  ·rename_i hr;exact⟨hr,s,hok,rfl,rfl,Le,h⟩
  ·cases h
 |fuel+1,l,listed,s,hok,Le,hl,h=>by
  unfold XY at h
  have OO:∀{j:Nat}{o:Oper},ops[j]? =some o->∀i∈o.dst.toList,i∈W:=λ{j o} ho=>Hy λx hx=>hW j o x ho hx
  split at h
  ·rename_i i hfind
   obtain⟨pL,hfree⟩:=aeO hfind
   unfold aeN at hfree
   split at h
   ·rename_i o ho
    rw[ho]at hfree
    simp only at hfree
    split at hfree
    case h_2=>cases hfree
    rename_i hkind2
    have hkind:=(fF _ _▸hkind2).1
    have hspec:=Region.free_spec ho hfree
    have first:∀(q:sN)(v:aC)(s':St),q.i=i->jB P ops q.holds o v s.act->q.holds s.w->s'.h->Fr W s0 s'->s'.act=s.act.put o.dst v->s'.w=s.w->
      A_ P ops (Qr W s0 K) fuel (q::l) (listed.setIfInBounds i true) s'.act s'.w->A_ P ops (Qr W s0 K) (fuel+1) l listed s.act s.w:=by
     rintro q v s' rfl hy hh h1 h2 h3 h4 d_;rw[h3,h4]at d_;exact aaG ho (RH hkind) (λj o cs b=>Region.noSelect_spec Il j o cs b) (λc a w hq=>by obtain⟨q,h1,h2,h3⟩:=hq;exact⟨q,h1,by rw[<-h2,amR],h3⟩) fuel l listed s.act s.w (λj oj=>hspec j oj) pL hy hh d_ hl
    rcases vi hok h with⟨hw,s1,qG,h1⟩|⟨hw,s1,qG,h1⟩
    ·unfold RF at h1;have hfr1:Fr W s0 s1:=Le.trans (qG.fr.mono bo);split at h1
     ·rename_i t x hop;split at h1
      case h_2=>cases h1
      rename_i hu;obtain⟨a,vs,v,g1,g2,g3,g4⟩:=RG qG.ok (vh hu) h1;obtain⟨s2,k1,k2,k3,k4,k5⟩:=dI (d:=o.dst) (v:=v) (K:=λs'=>XY P ops K fuel (⟨i,some a,vs⟩::l) (listed.setIfInBounds i true) s') qG.ok g2;rw[qG.act]at k2;rw[qG.w]at k3 g3;refine first ⟨i,some a,vs⟩ v s2 rfl (.inl ⟨hw,λw' hw'=>?_⟩) g3 k1 (hfr1.trans (k4.mono (OO ho))) k2 k3 ?_
      ·rw[<-qG.act,St.eval_eq];have:execOp s1.ev o=(do pure (.value (<-Instr.loadAt t (s1.ev x)))):=by obtain⟨dst,op,ty,pos,after,guard⟩:=o;simp only at hop;subst hop;rfl
       rw[this,Sem.run_bind,St.ev,g1,g4 w' hw'];rfl
      ·exact oM hP Il W s0 hW fuel _ _ s2 k1 (hfr1.trans (k4.mono (OO ho))) (λq hq=>by
        cases hq with
        |head=>rw[k3];exact g3
        |tail _ hm=>rw[k3];exact hl q hm) k5
     ·split at h1
      ·rename_i a n hc;obtain⟨ns,hn,g3,h1⟩:=h1;obtain⟨s2,k1,k2,k3,k4,k5⟩:=dI (d:=o.dst) (v:=.string (strOfNums ns)) (K:=λs'=>XY P ops K fuel (⟨i,a,ns.map (Value.int .u8)⟩::l) (listed.setIfInBounds i true) s') qG.ok h1;rw[qG.act]at k2;rw[qG.w]at k3 g3;refine first ⟨i,a,ns.map (Value.int .u8)⟩ (.string (strOfNums ns)) s2 rfl (.inl ⟨hw,λw' hw'=>?_⟩) g3 k1 (hfr1.trans (k4.mono (OO ho))) k2 k3 ?_
       ·rw[<-qG.act,St.eval_eq];exact Kz hc hn hw'
       ·exact oM hP Il W s0 hW fuel _ _ s2 k1 (hfr1.trans (k4.mono (OO ho))) (λq hq=>by
         cases hq with
         |head=>rw[k3];exact g3
         |tail _ hm=>rw[k3];exact hl q hm) k5
      split at h1
      ·rename_i cs sv hp;rw[bO]at h1;obtain⟨s2,k1,k2,k3,k4,k5⟩:=kT (a:=s1.act.put o.dst (sv.R s1.kn)) (w:=s1.w) (d:=o.dst) (K:=λs'=>XY P ops K fuel l (listed.setIfInBounds i true) s') h1.2 qG.ok rfl (rK.refl _) qG.ok.D qG.ok.ne (Fh qG.ok hp) rfl rfl;rw[qG.act]at k2;rw[qG.w]at k3;refine first ⟨i,none,[]⟩ (sv.R s1.kn) s2 rfl (.inl ⟨hw,λw' _=>?_⟩) trivial k1 (hfr1.trans (k4.mono (OO ho))) k2 k3 ?_
       ·rw[<-qG.act,St.eval_eq];exact rL hp h1.1 w'
       ·exact HB (q:=⟨i,none,[]⟩) (λ_=>trivial) _ _ _ _ _ (oM hP Il W s0 hW fuel _ _ s2 k1 (hfr1.trans (k4.mono (OO ho))) (λq hq=>by rw[k3];exact hl q hq) k5)
      ·cases h1
    ·have hfr1:Fr W s0 s1:=Le.trans (qG.fr.mono bo);obtain⟨s2,k1,k2,k3,k4,k5⟩:=dI (d:=o.dst) (v:=undef) (K:=λs'=>XY P ops K fuel l (listed.setIfInBounds i true) s') qG.ok h1;rw[qG.act]at k2;rw[qG.w]at k3;refine first ⟨i,none,[]⟩ undef s2 rfl (.inr ⟨hw,rfl⟩) trivial k1 (hfr1.trans (k4.mono (OO ho))) k2 k3 ?_;exact HB (q:=⟨i,none,[]⟩) (λ_=>trivial) _ _ _ _ _ (oM hP Il W s0 hW fuel _ _ s2 k1 (hfr1.trans (k4.mono (OO ho))) (λq hq=>by rw[k3];exact hl q hq) k5)
   ·cases h
  ·split at h
   ·rename_i hr;exact⟨λ_=>⟨s,hok,rfl,rfl,Le,h⟩,λj hj=>by rw[hr]at hj;cases hj⟩
   ·rename_i hr;refine⟨λh0=>absurd h0 hr,λj hj=>?_⟩;have hj':=RD h j hj;split at hj'
    ·rename_i o ho;have step:∀a w,iF o.dst s (λs'=>(∀q∈stays ops j l,q.holds s'.w)/\XY P ops K fuel (stays ops j l) (listed.setIfInBounds j true) s') a w->
       (∀q∈stays ops j l,q.holds w)/\A_ P ops (Qr W s0 K) fuel (stays ops j l) (listed.setIfInBounds j true) a w:=by
      rintro a w ⟨s2,k1,rfl,rfl,k4,k5,k6⟩;exact⟨k5,oM hP Il W s0 hW fuel _ _ s2 k1 (Le.trans (k4.mono (OO ho))) k5 k6⟩
     unfold tD;simp only[ho];rcases vi hok hj' with⟨hw,s1,qG,h1⟩|⟨hw,s1,qG,h1⟩
     ·rw[if_pos hw];have hl1:∀q∈stays ops j l,q.holds s1.w:=λq hq=>by rw[qG.w];exact hl q (oL hq)
      have h2:=Hx (Q:=Qr W s0 K) (arb W s0 K) hP qG.ok h1;have h3:o.D_ P s1.act s1.w (λa w=>(∀q∈stays ops j l,q.holds w)/\A_ P ops (Qr W s0 K) fuel (stays ops j l) (listed.setIfInBounds j true) a w) (Qr W s0 K):=by
       cases hq:quiet P s1 o with
       |true=>
        obtain⟨v,w',g1,g2⟩:=aaH qG.ok hq h1;refine Oper.re (λa w hh=>?_) (amQ (g_:=λw=>Grow s1.w w) g1 g2 h2);obtain⟨hp,hg⟩:=hh;refine step a w (iF.aeL qG ?_);obtain⟨s2,k1,k2,k3,k4,k5⟩:=hp;rw[bO]at k5;exact⟨s2,k1,k2,k3,k4,λq hq=>by rw[k3];exact hg.ah (hl1 q hq),k5.2⟩
       |false=>
        refine Oper.re (λa w hp=>step a w (iF.aeL qG ?_)) h2;obtain⟨s2,k1,k2,k3,k4,k5⟩:=hp;rw[bO]at k5;refine⟨s2,k1,k2,k3,k4,λq hq'=>?_,k5.2⟩;refine k5.1 _ ?_;unfold XX;rw[hq];exact bc.2 ⟨q,hq',rfl⟩
      rw[qG.act,qG.w]at h3;exact h3
     ·rw[if_neg (by simp[hw])];obtain⟨s2,k1,k2,k3,k4,k5⟩:=dI (d:=o.dst) (v:=undef) (K:=λs'=>XY P ops K fuel (stays ops j l) (listed.setIfInBounds j true) s') qG.ok h1;rw[qG.act]at k2;rw[qG.w]at k3;rw[<-k2,<-k3];exact step _ _ (iF.aeL qG ⟨s2,k1,rfl,rfl,k4,λq hq=>by rw[k3];exact hl q (oL hq),k5⟩)
    ·cases hj'
end
def writes:Code->bf
 | .region _ ops _=>dstsOf ops.toList
 | .seq a b=>writes a++writes b
 | .cond _ a b=>writes a++writes b
 | .block _ a=>writes a
 | .loop a=>writes a
 | .scope a=>writes a
 | .rangeFunc _ ps a b=>ps.toList++writes a++writes b
 |_=>[]
def mL:Code->Option Nat
 | .region id _ _=>some id
 | .seq a b=>match mL a with|some i=>some i|none=>mL b
 | .cond _ a b=>match mL a with|some i=>some i|none=>mL b
 | .block _ a=>mL a
 | .loop a=>mL a
 | .scope a=>mL a
 |_=>none
structure Carry where
 pq:List (Nat×c_)
 blocks:List (Nat×List c_)
 lT:bf
structure Qi where
 loops:List (Nat×Carry)
 awv:List (Nat×Carry)
 aww:List (Nat×Carry×List T1):=[]
def kd:Code->aX
 | .seq a b=>kd a&&kd b
 | .cond _ a b=>kd a&&kd b
 | .block _ a=>kd a
 | .loop a=>kd a
 | .scope _=>false
 | .rangeFunc .. =>false
 |_=>true
def T1.all:T1->(aC->Prop)->Prop
 | .sc s,F=>s.all F
 | .agg l,F=>kG l λvs=>F (.agg vs.toArray)
def amS:List T1->(af->Prop)->Prop
 | [],F=>F []
 |t::r,F=>t.all λv=>amS r λvs=>F (v::vs)
structure Step(F F':Nat->Prop)(w w':au):Prop where
 sub:∀i,F' i->F i\/w.heap.size<=i
 size:w.heap.size<=w'.heap.size
 same:∀i,i<w.heap.size->¬F i->w'.heap[i]? =w.heap[i]?
def Step.late{F F':Nat->Prop}{w w':au}(h:Step F F' w w'){k:Nat}:Step (λi=>F i\/k<=i) F' w w':=⟨λi hi=>(h.sub i hi).elim (λq=>.inl (.inl q)) .inr,h.size,λi hi hn=>h.same i hi λq=>hn (.inl q)⟩
def arc{α:Type}(B:Nat)(f_:α->(Nat->Prop)->au->Prop):Prop:=
 ∀n F w w',f_ n F w->Below B w w'->(∀i,F i->w'.heap[i]? =w.heap[i]?)->f_ n F w'
def Iter(P:Program)(gv:aC)(W0:au)(Rd:Nat->Prop)(xs:List af):Prop:=
 (∃f first cap,gv=.func (.func f) first cap/\vJ P f=true)/\∀(y:aC)(B:Nat)(a_:Nat->(Nat->Prop)->au->Prop)(Jx:Unit->(Nat->Prop)->au->Prop)(F0:Nat->Prop)(W:au),
  B<=W->arc B a_->arc B Jx->(∀n F w,a_ n F w->∀i,F i->i<w.heap.size)->
  (∀i,Rd i->¬F0 i/\i<W.heap.size/\W.heap[i]? =W0.heap[i]?)->
  (∀n x F w,xs[n]? =some x->a_ n F w->bu P y x w λe w'=>
   (e=.returned (.bool true)/\∃F',a_ (n+1) F' w'/\Step F F' w w')\/(e=.returned (.bool false)/\∃F',Jx () F' w'/\Step F F' w w'))->
  a_ 0 F0 W->bu P gv [y] W λe w'=>(∃v,e=.returned v)/\((∃F',a_ xs.length F' w')\/∃F',Jx () F' w')
structure PW(B:Nat)(w w1:au):Prop where
 ext:Below w w w1
 at_:B=w
 size:w1=B+2
def aeP(l:List (Option Nat)):List (Option Nat)->List (Option Nat)
 | []=>l
 |x::r=>aeP (if l.contains x then l else l++[x]) r
def km:Code->List (Option Nat)
 | .exit id=>[some id]
 | .ret=>[none]
 | .seq a b=>aeP (km a) (km b)
 | .cond _ a b=>aeP (km a) (km b)
 | .block id a=>(km a).filter (· !=some id)
 | .loop a=>km a
 |_=>[]
def ard:Option Nat->Exit|none=>.ret|some id=>.exit id
def KC:Option Nat->Code|none=>.ret|some id=>.exit id
def amT:List (Option Nat)->(Option Nat->Prop)->Prop
 | [],_=>True
 | [j],F=>F j
 |j::k::r,F=>F j/\amT (k::r) F
def RI:∀{l:List (Option Nat)}{F:Option Nat->Prop},amT l F->∀j∈l,F j
 | [],_,_,j,h=>by cases h
 | [a],_,h,j,hj=>by
   have:j=a:=a1l
   subst this;exact h
 |a::b::r,F,h,j,hj=>by
  cases hj with
  |head=>exact h.1
  |tail _ hm=>exact RI h.2 j hm
def Carry.bC(c:Carry):List c_:=c.pq.map (·.2)++c.blocks.flatMap (·.2)
def Carry.pF(c:Carry)(s:St):af:=c.pq.map (λx=>(s.sl.getD x.1 (.val undef)).R s.kn)++c.blocks.flatMap λx=>(s.kn.getD x.1 default).cells
def nr:List SV->List (Nat×c_)->af->List SV
 |sl,(i,_)::r,v::vs=>nr (sl.set i (.val v)) r vs
 |sl,_,_=>sl
def eZ:List KB->List (Nat×List c_)->af->List KB
 |kn,(k,ss)::r,vs=>eZ (kn.modify k λb=>{b with cells:=vs.take ss.length}) r (vs.drop ss.length)
 |kn,[],_=>kn
def iM(us:Nat->aC)(W:bf):Nat->List SV->List SV
 |_,[]=>[]
 |i,v::r=>(if W.contains i then .val (us i)else v)::iM us W (i+1) r
def Carry.head(c:Carry)(W:bf)(us:Nat->aC)(vs:af)(w:au)(s:St):St:=
 {sl:=nr (iM us W 0 s.sl) c.pq vs,w:=w,kn:=eZ s.kn c.blocks (vs.drop c.pq.length),df:=s.df}
def Carry.RJ(c:Carry)(s s':St):aX:=
 s'.df.length==s.df.length&&(List.range s.kn.length).all λk=>(s.kn.getD k default).live==(s'.kn.getD k default).live
def Carry.amU(c:Carry)(s s':St):List Prop:=
 ((List.range s.kn.length).filter λk=>(s.kn.getD k default).live&&!(c.blocks.any λx=>x.1==k)).map λk=>(s'.kn.getD k default).cells=(s.kn.getD k default).cells
def Carry.okB(c:Carry)(s:St):aX:=
 (c.blocks.all λx=>(s.kn.getD x.1 default).cells.length==x.2.length&&x.1<s.kn.length)
def Carry.enter(c:Carry)(s s':St)(f_:af->au->Prop):Prop:=
 match c.RJ s s'&&c.okB s' with
 |true=>aO (c.amU s s') (f_ (c.pF s') s'.w)
 |false=>False
def fI [PQ] (P:Program)(an:Qi):Code->St->(Exit->St->Prop)->Prop
 | .skip,s,Q=>Q .normal s
 | .region _ ops draw,s,Q=>match draw with
   |false=>Nt P ops ops.toList s (Q .normal)
   |true=>match Region.noSelect ops with
    |true=>XY P ops (Q .normal) ops.size [] (Array.replicate ops.size false) {s with w:=s.w.drew}
    |false=>False
 | .seq x y,s,Q=>match (mL y).bind λi=>an.awv.lookup i with
   |none=>fI P an x s λe s'=>match e with| .normal=>fI P an y s' Q|e=>Q e s'
   |some c=>let s:=s.kill (c.lT.map λk=> .loc k 0)
    ∃a_:E_ c.bC (au->Prop),fI P an x s (λe s'=>match e with| .normal=>c.enter s s' (je c.bC a_)|e=>Q e s')/\
     ∀us:Nat->aC,kG c.bC λvs=>∀w,je c.bC a_ vs w->fI P an y (c.head (writes x) us vs w s) Q
 | .cond c x y,s,Q=>match s.sv c with
   | .val (.bool b)=>Z b (fI P an x s Q) (fI P an y s Q)
   |_=>False
 | .block id x,s,Q=>fI P an x s λe s'=>match e with| .exit id'=>if id'=id then Q .normal s' else Q (.exit id') s'|e=>Q e s'
 | .loop x,s,Q=>match (mL x).bind λi=>an.loops.lookup i with
   |none=>False
   |some c=>let s:=s.kill (c.lT.map λk=> .loc k 0)
    ∃f_:Nat->E_ c.bC (au->Prop),(∃n,c.enter s s (je c.bC (f_ n)))/\
     ∀n:Nat,∀us:Nat->aC,kG c.bC λvs=>∀w,je c.bC (f_ n) vs w->
      fI P an x (c.head (writes x) us vs w s) λe s'=>match e with| .normal=>∃m,m<n/\c.enter s s' (je c.bC (f_ m))|e=>Q e s'
 | .exit id,s,Q=>Q (.exit id) s
 | .ret,s,Q=>Q .ret s
 | .label _,s,Q=>Q .normal s
 | .scope x,s,Q=>fI P an x s λe s'=>match e with| .goto _=>False|e=>Q e s'
 | .rangeFunc g ps assign body,s,Q=>match PQ.q with
   |some _=>False
   |none=>match (mL body).bind λi=>an.aww.lookup i with
   |none=>False
   |some (c,ts)=>match kd assign && kd body && c.pq.isEmpty && ts.length==ps.size with
    |false=>False
    |true=>let s:=s.kill (c.lT.map λk=> .loc k 0)
     let s0:St:={s with df:=[]}
     ∃(xs:List af)(Rd F0:Nat->Prop)(f_:Nat->(Nat->Prop)->E_ c.bC (au->Prop))(e_:Option Nat->(Nat->Prop)->E_ c.bC (au->Prop)),
      (∀x ∈ xs,ex1 ts λpv=>x=pv)/\
      (∀n F,kG c.bC λvs=>∀w w',je c.bC (f_ n F) vs w->Below s.w.heap.size w w'->(∀i,F i->w'.heap[i]? =w.heap[i]?)->je c.bC (f_ n F) vs w')/\
      (∀n F,kG c.bC λvs=>∀w w',je c.bC (e_ n F) vs w->Below s.w.heap.size w w'->(∀i,F i->w'.heap[i]? =w.heap[i]?)->je c.bC (e_ n F) vs w')/\
      (∀n F,kG c.bC λvs=>∀w,je c.bC (f_ n F) vs w->∀i,F i->i<w.heap.size/\i≠s.w.heap.size/\i≠s.w.heap.size+1)/\
      (∀n F,kG c.bC λvs=>∀w,je c.bC (e_ n F) vs w->∀i,F i->i<w.heap.size/\i≠s.w.heap.size/\i≠s.w.heap.size+1)/\
      (∀i,Rd i->i<s.w.heap.size/\¬F0 i/\aO ((gw s.kn).map λk=>i≠k) True)/\
      (∀w1,PW s.w.heap.size s.w w1->Iter P (s.ev g) w1 Rd xs/\c.enter s0 {s0 with w:=w1} (je c.bC (f_ 0 F0)))/\
      (∀n F (us:Nat->aC),kG c.bC λvs=>amS ts λpv=>∀w,xs[n]? =some pv->je c.bC (f_ n F) vs w->
       fI P an assign {c.head [] us vs w s0 with sl:=(ps.toList.zip pv).foldl (λsl p=>sl.set p.1 (.val p.2)) (c.head [] us vs w s0).sl} λe s1=>match e with
        | .normal=>Below w.heap.size w s1.w/\∀w2,Rec (s.w.heap.size+1) s1.w w2->je c.bC (f_ n F) vs w2->
          fI P an body {s1 with w:=w2} λe s2=>match e with
           | .normal=>∃F',c.enter s0 s2 (je c.bC (f_ (n+1) F'))/\Step (λi=>(F i\/i ∈ gw s.kn)\/w.heap.size<=i) (λi=>F' i\/i ∈ gw s.kn) w2 s2.w
           | .ret=>(km body).contains none=true/\∃F',c.enter s0 s2 (je c.bC (e_ none F'))/\Step (λi=>(F i\/i ∈ gw s.kn)\/w.heap.size<=i) (λi=>F' i\/i ∈ gw s.kn) w2 s2.w
           | .exit id=>(km body).contains (some id)=true/\∃F',c.enter s0 s2 (je c.bC (e_ (some id) F'))/\Step (λi=>(F i\/i ∈ gw s.kn)\/w.heap.size<=i) (λi=>F' i\/i ∈ gw s.kn) w2 s2.w
           |_=>False
        |_=>False)/\
      (∀F (us:Nat->aC),kG c.bC λvs=>∀w,je c.bC (f_ xs.length F) vs w->w.heap[s.w.heap.size]? =some (.deferred (some []))->Q .normal {c.head [] us vs w s with df:=s.w.heap.size::s.df})/\
      amT (km body) λj=>∀F (us:Nat->aC),kG c.bC λvs=>∀w,je c.bC (e_ j F) vs w->w.heap[s.w.heap.size]? =some (.deferred (some []))->Q (ard j) {c.head [] us vs w s with df:=s.w.heap.size::s.df}
 |_,_,_=>False
section
variable{P:Program}{s:St}
def eC:∀{l:List c_}{f:E_ l (au->Prop)}{vs:af}{w:au}{F:af->Prop},je l f vs w->kG l F->F vs/\vs.length=l.length
 | [],_,[],_,_,_,h=>⟨h,rfl⟩
 | [],_,_::_,_,_,ha,_=>ha.elim
 |_::_,_,[],_,_,ha,_=>ha.elim
 |c::r,f,v::vs,w,F,ha,h=>by
  unfold je at ha
  split at ha
  ·rename_i x hx
   have:=c_.alZ hx
   subst this
   have h2:=eC ha (h x)
   exact⟨h2.1,by simp[h2.2]⟩
  ·exact ha.elim
def KD(us:Nat->aC)(W:bf):∀(l:List SV)(k i:Nat),(iM us W k l)[i]? =(l[i]?).map λv=>if W.contains (k+i)then .val (us (k+i))else v
 | [],k,i=>by simp[iM]
 |v::r,k,i=>by
  cases i with
  |zero=>simp[iM]
  |succ i=>
   simp only[iM,Kh]
   rw[KD us W r (k+1) i]
   simp only[show k+1+i=k+(i+1)by omega]
variable{g:Nat->aC}
def AT:∀(cs:List (Nat×c_))(sl:List SV)(rest:af)(i:Nat),
  (nr sl cs (cs.map (λx=>g x.1)++rest))[i]? =if cs.any (λx=>x.1==i)then(sl[i]?).map λ_=>SV.val (g i)else sl[i]?
 | [],sl,rest,i=>by cases rest<;>simp[nr]
 |(j,c)::r,sl,rest,i=>by
  simp only[eH,List.cons_append,nr]
  rw[AT r]
  by_cases e:j=i
  ·subst e
   simp only[List.any_cons,beq_self_eq_true,Bool.true_or,if_true,iS]
   split
   ·split<;>simp_all
   ·split<;>simp_all
  ·simp only[List.any_cons,show(j==i)=false by simpa using e,Bool.false_or,iS,if_neg e]
variable{g:Nat->af}
def xc:∀(bs:List (Nat×List c_))(kn:List KB)(i:Nat),(∀x∈bs,(g x.1).length=x.2.length)->(eZ kn bs (bs.flatMap λx=>g x.1))[i]? =(kn[i]?).map λb=>if bs.any (λx=>x.1==i)then {b with cells:=g i}else b
 | [],kn,i,_=>by simp[eZ]
 |(k,ss)::r,kn,i,h=>by
  have hk:(g k).length=ss.length:=h (k,ss) bo
  simp only[List.flatMap_cons,eZ]
  rw[<-hk,List.take_left,List.drop_left,xc r _ _ (λx hx=>h x (by simp[hx])),CR]
  by_cases e:k=i
  ·subst e
   simp only[List.any_cons,beq_self_eq_true,Bool.true_or,if_true]
   cases kn[k]? with
   |none=>rfl
   |some b=>simp
  ·simp only[List.any_cons,show(k==i)=false by simpa using e,Bool.false_or,if_neg e]
   cases kn[i]? with
   |none=>rfl
   |some b=>simp
variable{c:Carry}{s':St}{W:bf}{f_:af->au->Prop}
def Nz{s:St}(hok:s.h)(kK:s'.h)(Le:Fr W s s')(h:c.enter s s' f_): ∃us,f_ (c.pF s') s'.w/\(c.head W us (c.pF s') s'.w s).h/\(c.head W us (c.pF s') s'.w s).act=s'.act/\Fr W s (c.head W us (c.pF s') s'.w s):=by
 unfold Carry.enter at h;split at h
 case h_2=>exact h.elim
 rename_i hb;rw[bO]at h;have⟨hcells,hI⟩:=h;rw[fF]at hb;have⟨hlive,iK⟩:=hb;have Wa:s'.df=s.df:=Le.df.2 (by
  unfold Carry.RJ at hlive;rw[fF]at hlive;simpa using hlive.1)
 let g:Nat->aC:=λi=>(s'.sl.getD i (.val undef)).R s'.kn
 let gb:Nat->af:=λk=>(s'.kn.getD k default).cells
 have cX:∀x∈c.blocks,(gb x.1).length=x.2.length:=λx hx=>by unfold Carry.okB at iK;have:=JK.1 iK x hx;simp only[fF,beq_iff_eq]at this;exact this.1
 have hvals:c.pF s'=c.pq.map (λx=>g x.1)++c.blocks.flatMap λx=>gb x.1:=rfl
 have hdrop:(c.pF s').drop c.pq.length=c.blocks.flatMap λx=>gb x.1:=by rw[hvals,<-aK (as:=c.pq) (f:=λx=>g x.1),List.drop_left]
 have Wb:∀i,(c.head W g (c.pF s') s'.w s).kn[i]? =(s.kn[i]?).map λb=>if c.blocks.any (λx=>x.1==i)then {b with cells:=gb i}else b:=by intro i;show(eZ s.kn c.blocks _)[i]? =_;rw[hdrop,xc _ _ _ cX]
 have jC:rK s.kn (c.head W g (c.pF s') s'.w s).kn:=λk kb hk=>by refine⟨_,by rw[Wb,hk];rfl,?_,?_⟩<;>(dsimp only;split<;>rfl)
 have lE:∀i,(c.head W g (c.pF s') s'.w s).sl[i]? =(s.sl[i]?).map λv=>if c.pq.any (λx=>x.1==i)then .val (g i)else if W.contains i then .val (g i)else v:=by intro i;show(nr _ c.pq _)[i]? =_;rw[hvals,AT,KD];simp only[eF];split<;>cases s.sl[i]? <;>simp
 have hconc:∀(i:Nat)(v:SV),s.sl[i]? =some v->((if c.pq.any (λx=>x.1==i)then SV.val (g i)else if W.contains i then .val (g i)else v).R (c.head W g (c.pF s') s'.w s).kn)=g i:=by
  intro i v hv;split
  ·rfl
  ·split
   ·rfl
   next hW=>rw[jC.R (hok.lX i v hv)];have:=Le.slot i (ds hW);simp only[dG,hv,Option.getD_some]at this;exact this.symm
 have hblkOk:∀(k:Nat)(kb:KB),(c.head W g (c.pF s') s'.w s).kn[k]? =some kb->kb.live=true->∃kb',s'.kn[k]? =some kb'/\kb'.live=true/\kb'.idx=kb.idx/\kb'.ty=kb.ty/\kb'.cells=kb.cells:=by
  intro k kb h1 h2;rw[Wb]at h1
  cases hs:s.kn[k]? with
  |none=>simp[hs]at h1
  |some b=>
   have fK:k<s.kn.length:=(cG.1 hs).1;have⟨kb',e1,e2,e3⟩:=Le.kn k b hs;have hl:b.live=kb'.live:=by unfold Carry.RJ at hlive;rw[fF]at hlive;have:=JK.1 hlive.2 k (qc.2 fK);simpa[dG,hs,e1]using this
   rw[hs]at h1;simp only[mT,Option.some.injEq]at h1;split at h1
   ·subst h1;exact⟨kb',e1,hl▸h2,e2,e3,by simp[gb,dG,e1]⟩
   ·rename_i aki;subst h1;refine⟨kb',e1,hl▸h2,e2,e3,?_⟩;have:=hcells ((s'.kn.getD k default).cells=(s.kn.getD k default).cells) (bc.2 ⟨k,jY.2 ⟨qc.2 fK,?_⟩,rfl⟩)
    ·simpa[dG,hs,e1]using this
    ·simp only[dG,hs,Option.getD_some,h2,oU,Bool.not_eq_true'];simpa only[Bool.not_eq_true]using aki
 refine⟨g,hI,⟨?_,?_,?_⟩,?_,⟨?_,?_,jC,ak _,λ_=>rfl⟩⟩
 ·intro k kb h1 h2;have⟨kb',e1,e2,e3,e4,e5⟩:=hblkOk k kb h1 h2;have:=kK.D k kb' e1 e2;rw[e3,e4,e5]at this;exact this
 ·intro i j x y h1 h2 h3 h4 h5;have⟨x',a1,a2,a3,_⟩:=hblkOk i x h1 h3;have⟨y',b1,b2,b3,_⟩:=hblkOk j y h2 h4;exact kK.ne i j x' y' a1 b1 a2 b2 (by rw[a3,b3];exact h5)
 ·intro i v hv;rw[lE]at hv
  cases hs:s.sl[i]? with
  |none=>simp[hs]at hv
  |some u=>
   rw[hs]at hv;simp only[mT,Option.some.injEq]at hv;subst hv;split
   ·trivial
   ·split
    ·trivial
    ·exact(hok.lX i u hs).mono jC.length
 ·simp only[St.act];rw[show(c.head W g (c.pF s') s'.w s).df=s'.df from Wa.symm];congr 1;congr 1;apply jF;intro i;rw[aW,aW,lE]
  cases hs:s.sl[i]? with
  |none=>
   have:s'.sl[i]? =none:=by rw[List.getElem?_eq_none_iff]at hs⊢;rw[Le.len];exact hs
   simp[this]
  |some v=>
   have fK:i<s'.sl.length:=by rw[Le.len];exact(cG.1 hs).1
   simp only[mT];rw[hconc i v hs];simp[g,dG,cK fK]
 ·have h1:∀i,(c.head W g (c.pF s') s'.w s).sl[i]? =none↔s.sl[i]? =none:=λi=>by rw[lE,Option.map_eq_none_iff]
  have e1:=h1 s.sl.length;have e2:=h1 (c.head W g (c.pF s') s'.w s).sl.length;simp only[List.getElem?_eq_none_iff]at e1 e2;omega
 ·intro i hi;simp only[dG,lE]
  cases hs:s.sl[i]? with
  |none=>rfl
  |some v=>
   simp only[mT,Option.getD_some];rw[hconc i v hs];have:=Le.slot i hi;simp only[dG,hs,Option.getD_some]at this;simp only[g,dG];exact this
def pr [PQ] (W:bf)(s:St)(Q:Exit->St->Prop):Exit->Act->au->Prop:=
 λe a w=>(∃s',s'.h/\s'.act=a/\s'.w=w/\Fr W s s'/\Q e s')\/∃q c,PQ.q=some q/\e=.panic c/\a.defers=[]/\q c w
variable{Q:Exit->St->Prop}{e:Exit}{a:Act}{w:au}
def pr.get[PQ]{s:St}(h:pr W s Q e a w)(he:∀c,e≠.panic c):∃s',s'.h/\s'.act=a/\s'.w=w/\Fr W s s'/\Q e s':=by
 rcases h with h|⟨q,c,hq,h,-⟩
 ·exact h
 ·exact absurd h (he c)
def aeQ [PQ] (W:bf)(s:St)(Q:Exit->St->Prop):Rx (pr W s Q):=λq hq c _ _ hd hc=>.inr ⟨q,c,hq,rfl,hd,hc⟩
def pr.of[PQ]{W':bf}{s h:St}(hp:pr W h Q e a w)(Le:Fr W' s h)(hs:∀i∈W,i∈W'):pr W' s Q e a w:=by
 rcases hp with⟨s',h1,h2,h3,h4,h5⟩|hp
 ·exact .inl ⟨s',h1,h2,h3,Le.trans (h4.mono hs),h5⟩
 ·exact .inr hp
variable{F:Fence}{n:Nat}
def Ei{P:Program}{Q:Exit->Act->au->Prop}{c:Code}(f_:Nat->Act->au->Prop)(n₀:Nat)(h₀:f_ n₀ a w) (round:∀m a w,f_ m a w->c.wpIn F n P (Exit.then (λa' w'=>∃n',n'<m/\f_ n' a' w') Q) a w):(Code.loop c).wpIn F n P Q a w:=by
 refine wpIn_loop (λa w=>∃n,f_ n a w) (λa w=>leastOf (λn=>f_ n a w)) ⟨n₀,h₀⟩ ?_;intro a w hI;refine wpIn_mono (round _ a w (leastOf_spec hI).1) ?_;intro e a' w' hq
 cases e with
 |normal=>
  have⟨n',fK,hI'⟩:=hq;exact show(∃n,f_ n a' w')/\leastOf (λn=>f_ n a' w')<leastOf (λn=>f_ n a w)from⟨⟨n',hI'⟩,RL ((leastOf_spec ⟨n',hI'⟩).2 n' hI') fK⟩
 |exit id=>exact hq
 |goto l=>exact hq
 |ret=>exact hq
 |panic ch=>exact hq
 |outgrown=>exact hq
def Cu(us:Nat->aC):∀(l:List SV)(i:Nat),iM us [] i l=l
 | [],_=>rfl
 |v::r,i=>by
  show(if([]:bf).contains i then SV.val (us i)else v)::iM us [] (i+1) r=_
  rw[Cu us r (i+1)];rfl
def KE:∀(bs:List (Nat×List c_))(kn:List KB)(vs:af),gw (eZ kn bs vs)=gw kn
 | [],_,_=>rfl
 |(k,ss)::r,kn,vs=>by
  show gw (eZ (kn.modify k λb=>{b with cells:=vs.take ss.length}) r (vs.drop ss.length))=_
  rw[KE r]
  unfold gw
  induction kn generalizing k with
  |nil=>simp
  |cons b kn ih=>
   cases k with
   |zero=>cases hb:b.live<;>simp[hb]
   |succ k=>
    have:=ih k
    cases hb:b.live<;>simp[hb]<;>simpa using this
def aaI{kn:List KB}{k:Nat}{kb:KB}(h:kn[k]? =some kb)(hl:kb.live=true):kb.idx∈gw kn:=
 bc.2 ⟨kb,jY.2 ⟨aQ h,hl⟩,rfl⟩
def aeR{s:St}(hok:s.h){i:Nat}(h:i∈gw s.kn):∃c t,s.w.heap[i]? =some (.cells c t (0,0)):=by obtain⟨kb,h1,rfl⟩:=bc.1 h;have⟨h1,h2⟩:=jY.1 h1;have⟨k,hk⟩:=yY h1;exact⟨_,_,hok.D k kb hk h2⟩
def XZ:∀{l:List c_}{F:af->Prop},exL l F->∃vs,F vs/\∀g_:af->Prop,kG l g_->g_ vs
 | [],_,h=>⟨[],h,λ_ hg=>hg⟩
 |s::r,F,⟨x,hx⟩=>by
  have⟨vs,h1,h2⟩:=XZ hx
  exact⟨_,h1,λG hg=>h2 _ (hg x)⟩
def T1.amV{t:T1}{F:aC->Prop}(h:t.ex F):∃v,F v/\∀g_:aC->Prop,t.all g_->g_ v:=by
 cases t with
 |sc s=>have⟨x,hx⟩:=h;exact⟨_,hx,λG hg=>hg x⟩
 |agg l=>have⟨vs,h1,h2⟩:=XZ h;exact⟨_,h1,λG hg=>h2 _ hg⟩
def X0:∀{l:List T1}{F:af->Prop},ex1 l F->∃vs,F vs/\vs.length=l.length/\∀g_:af->Prop,amS l g_->g_ vs
 | [],_,h=>⟨[],h,rfl,λ_ hg=>hg⟩
 |t::r,F,h=>by
  have⟨v,h1,h2⟩:=T1.amV h
  have⟨vs,h3,h4,h5⟩:=X0 h1
  exact⟨v::vs,h3,by simp[h4],λG hg=>h5 _ (h2 _ hg)⟩
def HC{s:St}(tc:c.pq=[])(hok:s.h)(kK:s'.h)(Le:Fr W s s')(h:c.enter s s' f_): ∃us,f_ (c.pF s') s'.w/\(c.head [] us (c.pF s') s'.w s).h/\Fr [] s (c.head [] us (c.pF s') s'.w s)/\(c.head [] us (c.pF s') s'.w s).sl=s.sl:=by
 have⟨us,h1,h2,h3,h4⟩:=Nz hok kK Le h;have lE:(c.head [] us (c.pF s') s'.w s).sl=s.sl:=by show nr (iM us [] 0 s.sl) c.pq _=_;rw[tc,Cu];rfl
 have jC:rK s.kn (c.head [] us (c.pF s') s'.w s).kn:=h4.kn;refine⟨us,h1,⟨h2.D,h2.ne,λi v hv=>?_⟩,⟨by rw[lE],λi _=>?_,jC,ak _,λ_=>rfl⟩,lE⟩
 ·rw[lE]at hv;exact(hok.lX i v hv).mono jC.length
 ·rw[lE];simp only[dG]
  cases hg:s.sl[i]? with
  |none=>rfl
  |some u=>exact jC.R (hok.lX i u hg)
def RM:∀(l:List (Tmp×aC))(sl:List SV)(kn:List KB),(l.foldl (λsl p=>sl.set p.1 (.val p.2)) sl).map (SV.R kn)=l.foldl (λt p=>t.set p.1 p.2) (sl.map (SV.R kn))
 | [],_,_=>rfl
 |p::r,sl,kn=>by
  simp only[qY]
  rw[RM r,pM];rfl
def RN:∀(l:List (Tmp×aC))(t:af),(l.foldl (λt p=>t.set p.1 p.2) t).toArray=l.foldl (λ(t:ae) p=>t.setIfInBounds p.1 p.2) t.toArray
 | [],_=>rfl
 |p::r,t=>by
  simp only[qY]
  rw[RN r];simp
def RO:∀(l:List (Tmp×aC))(sl:List SV),(l.foldl (λsl p=>sl.set p.1 (.val p.2)) sl).length=sl.length
 | [],_=>rfl
 |p::r,sl=>by simp only[qY];rw[RO r];simp
def RP:∀(l:List (Tmp×aC))(sl:List SV),(∀(i:Nat)(v:SV),sl[i]? =some v->v.jX n)->∀(i:Nat)(v:SV),(l.foldl (λsl p=>sl.set p.1 (.val p.2)) sl)[i]? =some v->v.jX n
 | [],_,h=>h
 |p::r,sl,h=>by
  simp only[qY]
  refine RP r _ λi v hv=>?_
  rw[iS]at hv
  split at hv
  ·split at hv
   ·cases hv;trivial
   ·cases hv
  ·exact h i v hv
def KF:∀(l:List (Tmp×aC))(sl:List SV)(i:Nat),i∉l.map (·.1)->(l.foldl (λsl p=>sl.set p.1 (.val p.2)) sl)[i]? =sl[i]?
 | [],_,_,_=>rfl
 |p::r,sl,i,h=>by
  simp only[qY]
  rw[KF r _ i (λhm=>h (by simp[hm])),iS,if_neg (λe=>h (by simp[e]))]
variable{g:Operand}
def aeS[PQ](hP:xK P){an:Qi}{ps:Array Tmp}{assign body:Code}(hok:s.h) (ha:∀(l:Nat)(s:St)(Q:Exit->St->Prop),kd assign=true->s.h->fI P an assign s Q->assign.wpIn (Fence.wide.inRound l) 0 P (pr (writes assign) s Q) s.act s.w) (hb:∀(l:Nat)(s:St)(Q:Exit->St->Prop),kd body=true->s.h->fI P an body s Q->body.wpIn (Fence.wide.inRound l) 0 P (pr (writes body) s Q) s.act s.w) (h:fI P an (.rangeFunc g ps assign body) s Q):(Code.rangeFunc g ps assign body).wpIn Fence.wide n P (pr (writes (.rangeFunc g ps assign body)) s Q) s.act s.w:=by
 unfold fI at h
 split at h
 ·exact h.elim
 rename_i hpq
 split at h
 ·exact h.elim
 rename_i c ts hc
 split at h
 ·exact h.elim
 rename_i hbool
 simp only [fF,List.isEmpty_iff,beq_iff_eq] at hbool
 obtain ⟨⟨⟨hn1,hn2⟩,tc⟩,htl⟩:=hbool
 obtain ⟨q1,q2,q3,q4,q5⟩:=fo (c.lT.map λk=> .loc k 0) hok
 have qa:=np (l:=c.lT.map λk=> .loc k 0) hok
 have qf:Fr (writes (.rangeFunc g ps assign body)) s (s.kill (c.lT.map λk=> .loc k 0)):=⟨by rw [q2],λi _=>by
  rw [q2]
  simp only [dG]
  cases hg:s.sl[i]? with
  |none=>rfl
  |some u=>exact q4.R (hok.lX i u hg),q4,by rw [ov];exact ⟨ak _,λ_=>rfl⟩⟩
 suffices hh:(Code.rangeFunc g ps assign body).wpIn Fence.wide n P (pr (writes (.rangeFunc g ps assign body)) (s.kill (c.lT.map λk=> .loc k 0)) Q) s.act s.w from wpIn_mono hh λe a w hp=>hp.of qf λi hi=>hi
 rw [<-qa,<-q3]
 simp only at h
 generalize s.kill (c.lT.map λk=> .loc k 0)=s at*
 have hok:=q1
 obtain ⟨xs,Rd,F0,f_,e_,hsh,hsI,hsX,hbI,hbX,hRd,px,hround,hdone,hexit⟩:=h
 obtain ⟨B,hB⟩:∃B,B=s.w.heap.size:=⟨_,rfl⟩
 rw [<-hB] at hsI hsX hbI hbX hRd px hround hdone hexit
 obtain ⟨s0,Fb⟩:∃s0:St,s0={s with df:=[]}:=⟨_,rfl⟩
 simp only [<-Fb] at px hround
 have hok0:s0.h:=by rw [Fb];exact ⟨hok.D,hok.ne,hok.lX⟩
 have e0:s0.sl=s.sl/\s0.w=s.w/\s0.kn=s.kn/\s0.df=[]:=by rw [Fb];exact ⟨rfl,rfl,rfl,rfl⟩
 have hlv:∀{i},i ∈ gw s.kn->i<B:=λhi=>by
  obtain ⟨_,_,h1⟩:=aeR hok hi
  rw [hB];exact (oQ.1 h1).1
 refine wpIn_rangeFunc λfn hfn=> ?_
 obtain ⟨rec,fL⟩:∃rec:LoopState->Option Code->Loop,rec=λst pe=>{state:=st,pending:=pe,fn,tmps:=s.act.tmps,params:=ps,assign,body,defers:=B}:=⟨_,rfl⟩
 obtain ⟨W1,hW1⟩:∃W1,(s.w.alloc (.deferred (some []))).alloc (.loop (rec .ready none))=W1:=⟨_,rfl⟩
 have hL1:W1.heap[B+1]? =some (.loop (rec .ready none)):=by
  rw [<-hW1,hB];have:=World.alloc_heap_new (s.w.alloc (.deferred (some []))) (.loop (rec .ready none));rwa [World.size_alloc] at this
 have hD1:W1.heap[B]? =some (.deferred (some [])):=by
  rw [<-hW1,hB];exact (Below.heap_alloc _ _ _ bo).trans (World.alloc_heap_new s.w _)
 have hz1:W1.heap.size=B+2:=by rw [<-hW1,hB];simp
 have Yx:Below B s.w W1:=by
  rw [<-hW1];exact ((Below.refl _ s.w).alloc U _).alloc (by simp;omega) _
 obtain ⟨⟨⟨f,first,cap,hg,yQ⟩,hit⟩,hen⟩:=px W1 ⟨hB▸Yx,hB,hz1⟩
 obtain ⟨JJ,hJJ⟩:∃JJ:LoopState->Option Code->((Nat->Prop)->E_ c.bC (au->Prop))->(Nat->Prop)->au->Prop,JJ=λst pe K FF w=>∃F us vs,(∀i,FF i ↔(F i\/i ∈ gw s.kn)\/i=B\/i=B+1)/\
   (c.head [] us vs w s0).h/\Fr [] s0 (c.head [] us vs w s0)/\(c.head [] us vs w s0).sl=s0.sl/\je c.bC (K F) vs w/\w.heap[B+1]? =some (.loop (rec st pe))/\w.heap[B]? =some (.deferred (some [])):=⟨_,rfl⟩
 have stabJ:∀{st pe} {K:(Nat->Prop)->E_ c.bC (au->Prop)} {FF w w'},(∀F,kG c.bC λvs=>∀w w',je c.bC (K F) vs w->Below B w w'->(∀i,F i->w'.heap[i]? =w.heap[i]?)->je c.bC (K F) vs w')->
   JJ st pe K FF w->Below B w w'->(∀i,FF i->w'.heap[i]? =w.heap[i]?)->JJ st pe K FF w':=by
  intro st pe K FF w w' gm hj kQ hsame
  rw [hJJ] at hj ⊢
  obtain ⟨F,us,vs,h1,h2,h3,h4,h5,h6,h7⟩:=hj
  refine ⟨F,us,vs,h1,⟨λk kb hk hl=> ?_,h2.ne,h2.lX⟩,⟨h3.len,h3.slot,h3.kn,h3.df⟩,h4,(eC h5 (gm F)).1 w w' h5 kQ λi hi=>hsame i ((h1 i).2 (.inl (.inl hi))),?_,?_⟩
  ·have:=h2.D k kb hk hl
   refine (hsame kb.idx ((h1 _).2 (.inl (.inr ?_)))).trans this
   have hm:=aaI hk hl
   rw [show (c.head [] us vs w' s0).kn=eZ s0.kn c.blocks (vs.drop c.pq.length) from rfl,KE,e0.2.2.1] at hm
   exact hm
  ·rw [hsame _ ((h1 _).2 (.inr (.inr rfl)))];exact h6
  ·rw [hsame _ ((h1 _).2 (.inr (.inl rfl)))];exact h7
 have boundJ:∀{st pe} {K:(Nat->Prop)->E_ c.bC (au->Prop)} {FF w},(∀F,kG c.bC λvs=>∀w,je c.bC (K F) vs w->∀i,F i->i<w.heap.size/\i≠B/\i≠B+1)->
   JJ st pe K FF w->∀i,FF i->i<w.heap.size:=by
  intro st pe K FF w yQ hj i hi
  rw [hJJ] at hj
  obtain ⟨F,us,vs,h1,h2,h3,h4,h5,h6,h7⟩:=hj
  have hz:=(oQ.1 h6).1
  rcases (h1 i).1 hi with (hi|hi)|rfl|rfl
  ·exact ((eC h5 (yQ F)).1 w h5 i hi).1
  ·have:=hlv hi;omega
  ·omega
  ·omega
 have mkJ:∀{st pe} {K:(Nat->Prop)->E_ c.bC (au->Prop)} {F:Nat->Prop} {s':St} {W:bf},s'.h->Fr W s0 s'->c.enter s0 s' (je c.bC (K F))->s'.w.heap[B+1]? =some (.loop (rec st pe))->s'.w.heap[B]? =some (.deferred (some []))->
   JJ st pe K (λi=>(F i\/i ∈ gw s.kn)\/i=B\/i=B+1) s'.w:=by
  intro st pe K F s' W h1 h2 h3 h4 h5
  obtain ⟨us,g1,g2,g3,g4⟩:=HC tc hok0 h1 h2 h3
  rw [hJJ]
  exact ⟨F,us,c.pF s',λi=>Iff.rfl,g2,g3,g4,g1,h4,h5⟩
 obtain ⟨y,hy⟩:∃y,y=Value.func (.yield (B+1)) #[] #[]:=⟨_,rfl⟩
 have hok1:({s0 with w:=W1}:St).h:=⟨λk kb h1 h2=>by
  have:=hok0.D k kb h1 h2
  rw [e0.2.1] at this
  rw [<-this]
  exact Yx.block _ (by rw [hB];exact (oQ.1 this).1),hok0.ne,hok0.lX⟩
 have hcall:=hit y B (λm=>JJ .ready none (f_ m)) (λ_ FF w=>∃j,(km body).contains j=true/\JJ .done (some (KC j)) (e_ j) FF w)
  (λi=>(F0 i\/i ∈ gw s.kn)\/i=B\/i=B+1) W1 U
  (λm FF w w'=>stabJ (hsI m)) (λ_ FF w w' hj kQ hs=>by
   obtain ⟨e,he,hj⟩:=hj
   exact ⟨e,he,stabJ (hsX e) hj kQ hs⟩)
  (λm FF w=>boundJ (hbI m))
  (λi hi=>by
   obtain ⟨h1,h2,h3⟩:=hRd i hi
   rw [bO] at h3
   refine ⟨?_,by omega,rfl⟩
   rintro ((h4|h4)|h4|h4)
   ·exact h2 h4
   ·exact h3.1 (i≠i) (bc.2 ⟨i,h4,rfl⟩) rfl
   ·omega
   ·omega)
  ?_ (mkJ (s':={s0 with w:=W1}) (W:=[]) hok1 ⟨rfl,λ_ _=>rfl,rK.refl _,ak _,λ_=>rfl⟩ (by rw [Fb] at hen ⊢;exact hen) hL1 hD1)
 ·
  rw [hg] at hcall
  unfold bu at hcall
  simp only [yQ] at hcall
  unfold vJ at yQ
  split at yQ
  case h_2=>cases yQ
  rename_i fn' hf'
  split at yQ
  case h_2=>cases yQ
  rename_i body' hbody'
  have hn':=hP f fn' hf'
  refine ⟨B+1,[{target:=.collected B,args:= #[]}],W1,{target:=.fn (.func f) cap,args:=first++ #[y]},W1,f,first++ #[y]++cap,W1,?_,?_,λ_ _=>trivial,?_,sK,callsIn_wide.2 ?_⟩
  ·rw [<-hW1,fL,hB];exact run_enterLoop_outer _ _ _ _ _
  ·have hev:s.act.eval g=.func (.func f) first cap:=by rw [St.uk];exact hg
   simp only [resolve,hev,Deferred.ofValue,hy]
   simp [Act.eval]
  ·simp only [invoke,callFunc]
   simp [program,Sem.run,hf',hn',hbody']
  ·have ag5:(first.toList++ [y]++cap.toList).toArray=first++ #[y]++cap:=by apply Array.ext';simp
   rw [ag5] at hcall
   refine hcall.mono ?_
   have fin:∀{st pe} {K:(Nat->Prop)->E_ c.bC (au->Prop)} {FF w w4} {e:Exit},JJ st pe K FF w->Rec (B+1) w w4->(∀F,kG c.bC λvs=>∀w w',je c.bC (K F) vs w->Below B w w'->(∀i,F i->w'.heap[i]? =w.heap[i]?)->je c.bC (K F) vs w')->
     (∀F,kG c.bC λvs=>∀w,je c.bC (K F) vs w->∀i,F i->i<w.heap.size/\i≠B/\i≠B+1)->
     (∀F (us:Nat->aC),kG c.bC λvs=>∀w,je c.bC (K F) vs w->w.heap[B]? =some (.deferred (some []))->Q e {c.head [] us vs w s with df:=B::s.df})->
     pr (writes (.rangeFunc g ps assign body)) s Q e {tmps:=s.act.tmps,defers:={target:=.collected B,args:= #[]}::s.act.defers} w4:=by
    intro st pe K FF w w4 e hj hr gm yQ hq
    rw [hJJ] at hj
    obtain ⟨F,us,vs,h1,h2,h3,h4,h5,h6,h7⟩:=hj
    have h5':=(eC h5 (gm F)).1 w w4 h5 (hr.below U) λi hi=>hr.same i ((eC h5 (yQ F)).1 w h5 i hi).2.2
    have h7':w4.heap[B]? =some (.deferred (some [])):=by rw [hr.same _ U];exact h7
    have Wb:(c.head [] us vs w4 s).kn=(c.head [] us vs w s0).kn:=by
     show eZ s.kn _ _=eZ s0.kn _ _
     rw [e0.2.2.1]
    have lE:(c.head [] us vs w4 s).sl=s.sl:=by
     show nr (iM us [] 0 s.sl) c.pq vs=_
     rw [tc,Cu];rfl
    have jC:rK s.kn (c.head [] us vs w4 s).kn:=by rw [Wb,<-e0.2.2.1];exact h3.kn
    refine .inl ⟨{c.head [] us vs w4 s with df:=B::s.df},⟨λk kb hk hl=> ?_,λi j x z hi hj=> ?_,λi v hv=> ?_⟩,?_,rfl,⟨by show (c.head [] us vs w4 s).sl.length=_;rw [lE],λi _=> ?_,jC,by simp,λh=>by simp at h⟩,(eC h5' (hq F us)).1 w4 h5' h7'⟩
    ·have hk':(c.head [] us vs w s0).kn[k]? =some kb:=by rw [<-Wb];exact hk
     have hh:=h2.D k kb hk' hl
     show w4.heap[kb.idx]? =_
     rw [<-hh]
     refine hr.same _ λe=> ?_
     rw [show (c.head [] us vs w s0).w=w from rfl,e,h6] at hh
     cases hh
    ·exact h2.ne i j x z (by rw [<-Wb];exact hi) (by rw [<-Wb];exact hj)
    ·show v.jX (c.head [] us vs w4 s).kn.length
     rw [show ({c.head [] us vs w4 s with df:=B::s.df}:St).sl=(c.head [] us vs w4 s).sl from rfl,lE] at hv
     exact (hok.lX i v hv).mono jC.length
    ·show ({tmps:=((c.head [] us vs w4 s).sl.map (SV.R (c.head [] us vs w4 s).kn)).toArray,defers:=marks (B::s.df)}:Act)=_
     rw [lE]
     have:s.sl.map (SV.R (c.head [] us vs w4 s).kn)=s.sl.map (SV.R s.kn):=by
      refine CP λx hx=> ?_
      obtain ⟨i,hi⟩:=yY hx
      exact jC.R (hok.lX i x hi)
     rw [this];rfl
    ·show ((c.head [] us vs w4 s).sl.getD i (.val undef)).R (c.head [] us vs w4 s).kn=_
     rw [lE]
     simp only [dG]
     cases hg:s.sl[i]? with
     |none=>rfl
     |some u=>exact jC.R (hok.lX i u hg)
   rintro e w3 ⟨⟨v,rfl⟩,(⟨FF,hj⟩|⟨FF,j,he,hj⟩)⟩
   ·have hl:w3.heap[B+1]? =some (.loop (rec .ready none)):=by
     have:=hj
     rw [hJJ] at this
     obtain ⟨F,us,vs,h1,h2,h3,h4,h5,h6,h7⟩:=this
     exact h6
    have Im:=run_endLoop (P:=P) hl (by rw [fL];simp)
    rw [fL] at Im
    exact ⟨none,_,Im,fin hj (Rec.putObj _ _ _) (hsI _) (hbI _) hdone⟩
   ·have hl:w3.heap[B+1]? =some (.loop (rec .done (some (KC j)))):=by
     have:=hj
     rw [hJJ] at this
     obtain ⟨F,us,vs,h1,h2,h3,h4,h5,h6,h7⟩:=this
     exact h6
    have Im:=run_endLoop (P:=P) hl (by rw [fL];simp)
    rw [fL] at Im
    refine ⟨some (KC j),_,Im,?_⟩
    have hq:=RI hexit j (List.contains_iff_mem.1 he)
    cases j with
    |none=>exact wpIn_ret (fin hj (Rec.putObj _ _ _) (hsX _) (hbX _) hq)
    |some id=>exact wpIn_exit (fin hj (Rec.putObj _ _ _) (hsX _) (hbX _) hq)
 ·
  intro m x FF w hx hj
  have hj':=hj
  rw [hJJ] at hj'
  obtain ⟨F,us,vs,h1,h2,h3,h4,h5,h6,h7⟩:=hj'
  have hz:=(oQ.1 h6).1
  obtain ⟨x',hxe,hxl,hxa⟩:=X0 (hsh x (aQ hx))
  subst hxe
  have hyr:=run_yield (P:=P) (args:=x.toArray) h6 (by rw [fL];simp [hxl,htl])
  rw [hy]
  refine ⟨⟨rfl,rfl⟩,_,_,_,_,hyr,?_⟩
  have hFb:∀i,F i->i<w.heap.size/\i≠B/\i≠B+1:=(eC h5 (hbI m F)).1 w h5
  have Wb:(c.head [] us vs w s0).kn.length=s0.kn.length/\rK s0.kn (c.head [] us vs w s0).kn:=⟨by
   show (eZ s0.kn c.blocks _).length=_
   have:∀(bs:List (Nat × List c_))(kn:List KB)(vs:af),(eZ kn bs vs).length=kn.length:=by
    intro bs
    induction bs with
    |nil=>intro kn vs;rfl
    |cons p r ih=>intro kn vs;obtain ⟨k,ss⟩:=p;show (eZ _ r _).length=_;rw [ih];simp
   exact this _ _ _,h3.kn⟩
  have hvc:=hxa _ ((eC h5 (hround m F us)).1) w hx h5
  obtain ⟨sA,hsA⟩:∃sA:St,sA={c.head [] us vs w s0 with sl:=(ps.toList.zip x).foldl (λsl p=>sl.set p.1 (.val p.2)) (c.head [] us vs w s0).sl}:=⟨_,rfl⟩
  rw [<-hsA] at hvc
  have hokA:sA.h:=by
   rw [hsA]
   exact ⟨h2.D,h2.ne,RP _ _ h2.lX⟩
  have hwA:sA.w=w:=by rw [hsA];rfl
  have hactA:sA.act={tmps:=(ps.zip x.toArray).foldl (λtmps (p:Tmp × aC)=>tmps.setIfInBounds p.1 p.2) s.act.tmps,defers:=[]}:=by
   rw [hsA]
   show ({tmps:=(((ps.toList.zip x).foldl (λsl p=>sl.set p.1 (.val p.2)) (c.head [] us vs w s0).sl).map (SV.R (c.head [] us vs w s0).kn)).toArray,defers:=marks s0.df}:Act)=_
   rw [RM,RN,h4,e0.2.2.2]
   have ht:s0.sl.map (SV.R (c.head [] us vs w s0).kn)=s.sl.map (SV.R s.kn):=by
    rw [e0.1,<-e0.2.2.1]
    refine CP λu hu=> ?_
    obtain ⟨i,hi⟩:=yY hu
    exact Wb.2.R (hok0.lX i u (by rw [e0.1];exact hi))
   rw [ht]
   congr 1
   rw [<-Array.foldl_toList,Array.toList_zip]
   rfl
  have hfrA:Fr ps.toList s0 sA:=by
   rw [hsA]
   refine ⟨by show (List.foldl (λsl (p:Tmp × aC)=>sl.set p.1 (SV.val p.2)) (c.head [] us vs w s0).sl (ps.toList.zip x)).length=_;rw [RO,h4],λi hi=> ?_,h3.kn,ak _,λ_=>rfl⟩
   have:((ps.toList.zip x).foldl (λsl p=>sl.set p.1 (.val p.2)) (c.head [] us vs w s0).sl)[i]? =(c.head [] us vs w s0).sl[i]? :=KF _ _ _ (λhm=>hi (by
    obtain ⟨p,hp,rfl⟩:=bc.1 hm
    exact (List.of_mem_zip hp).1))
   have h3s:=h3.slot i bo
   simp only [dG] at h3s ⊢
   rw [this];exact h3s
  have hA:=ha (B+1) sA _ hn1 hokA hvc
  rw [hactA,hwA] at hA
  refine roundIn_of_wpIn trivial ?_
  rw [fL]
  refine wpIn_mono hA ?_
  rintro e a1 w1 (⟨s1,k1,rfl,rfl,k4,k5⟩|⟨q,c',hq',-⟩)
  case inr=>rw [hpq] at hq';cases hq'
  cases e with
  |normal=>
   obtain ⟨ab8,hbody⟩:=k5
   have hl1:s1.w.heap[B+1]? =some (.loop (rec .ready none)):=by rw [ab8.block _ hz];exact h6
   have hd1:s1.w.heap[B]? =some (.deferred (some [])):=by rw [ab8.block _ U];exact h7
   have hbr:=run_beginRound (P:=P) hl1 (by rw [fL])
   refine ⟨_,hbr,?_⟩
   obtain ⟨w2,yE⟩:∃w2,w2=s1.w.putObj (B+1) (.loop {rec .ready none with state:=.busy}):=⟨_,rfl⟩
   have hR2:Rec (B+1) s1.w w2:=by rw [yE];exact Rec.putObj _ _ _
   have aHD:=ab8.size
   have TE:w2.heap[B+1]? =some (.loop {rec .ready none with state:=.busy}):=by rw [yE];exact World.putObj_heap_same U
   have hd2:w2.heap[B]? =some (.deferred (some [])):=by rw [hR2.same _ U];exact hd1
   have h5b:=(eC h5 (hsI m F)).1 w w2 h5 ((Below.mono ab8 U).trans (hR2.below U)) λi hi=>by
    obtain ⟨g1,g2,g3⟩:=hFb i hi
    rw [hR2.same i g3];exact ab8.block i g1
   have hok2:=vd k1 (λc t f e=>by rw [hl1] at e;cases e) hR2
   have hB2:=hb (B+1) {s1 with w:=w2} _ hn2 hok2 (hbody w2 hR2 h5b)
   rw [show w2=({s1 with w:=w2}:St).w from rfl,yE] at hB2
   rw [<-yE]
   rw [<-yE] at hB2
   refine wpIn_mono hB2 ?_
   have IB:=hR2.size
   have nF:¬((F (B+1)\/B+1 ∈ gw s.kn)\/w.heap.size<=B+1):=by
    rintro ((hh|hh)|hh)
    ·exact (hFb _ hh).2.2 rfl
    ·have:=hlv hh;omega
    ·omega
   have nD:¬((F B\/B ∈ gw s.kn)\/w.heap.size<=B):=by
    rintro ((hh|hh)|hh)
    ·exact (hFb _ hh).2.1 rfl
    ·have:=hlv hh;omega
    ·omega
   have aeg:∀{F':Nat->Prop} {w' w3:au},Step (λi=>(F i\/i ∈ gw s.kn)\/w.heap.size<=i) (λi=>F' i\/i ∈ gw s.kn) w2 w'->Rec (B+1) w' w3->Step FF (λi=>(F' i\/i ∈ gw s.kn)\/i=B\/i=B+1) w w3:=by
    intro F' w' w3 hs hr
    refine ⟨λi hi=> ?_,?_,λi hi hn=> ?_⟩
    ·rcases hi with hi|hi
     ·rcases hs.sub i hi with (hh|hh)|hh
      ·exact .inl ((h1 i).2 (.inl hh))
      ·exact .inr hh
      ·exact .inr U
     ·exact .inl ((h1 i).2 (.inr hi))
    ·have:=hs.size;have:=hr.size;omega
    ·have hn':¬(F i\/i ∈ gw s.kn):=λhh=>hn ((h1 i).2 (.inl hh))
     have hnb:i≠B+1:=λhh=>hn ((h1 i).2 (.inr (.inr hh)))
     rw [hr.same i hnb,hs.same i U (λhh=>hh.elim hn' λhh=>by omega),hR2.same i hnb,ab8.block i hi]
   have frs:∀{s2:St},Fr (writes body) {s1 with w:=w2} s2->Fr (ps.toList++writes assign++writes body) s0 s2:=λ{s2} hh=>
    (hfrA.mono λi hi=>Ha _ (Ha _ hi)).trans (Fr.trans (b:={s1 with w:=w2}) (Fr.mono (W:=writes assign) (W':=ps.toList++writes assign++writes body) (b:={s1 with w:=w2}) ⟨k4.len,k4.slot,k4.kn,k4.df⟩ λi hi=>Ha _ (Dc _ hi)) (hh.mono λi hi=>Dc _ hi))
   have jump:∀(j:Option Nat)(s2:St),(km body).contains j=true->s2.h->Fr (writes body) {s1 with w:=w2} s2->
     (∃F',c.enter s0 s2 (je c.bC (e_ j F'))/\Step (λi=>(F i\/i ∈ gw s.kn)\/w.heap.size<=i) (λi=>F' i\/i ∈ gw s.kn) w2 s2.w)->
     ∃v w3,(Instr.endRound (B+1) (some (KC j))).run P s2.w=.ok v w3/\((Ending.returned v=.returned (.bool true)/\∃F',JJ .ready none (f_ (m+1)) F' w3/\Step FF F' w w3)\/
      (Ending.returned v=.returned (.bool false)/\∃F',(∃j,(km body).contains j=true/\JJ .done (some (KC j)) (e_ j) F' w3)/\Step FF F' w w3)):=by
    rintro j s2 he l1 l4 ⟨F',hen2,gm⟩
    generalize hcd:KC j=cd
    have hl3:s2.w.heap[B+1]? =some (.loop {rec .ready none with state:=.busy}):=by rw [gm.same _ U nF];exact TE
    have hd3:s2.w.heap[B]? =some (.deferred (some [])):=by rw [gm.same _ U nD];exact hd2
    have Im:=run_endRound (P:=P) (some cd) hl3
    have hrc:({({rec .ready none with state:=.busy}:Loop) with state:=if (some cd).isNone then .ready else .done,pending:=some cd}:Loop)=rec .done (some cd):=by rw [fL];rfl
    rw [hrc] at Im
    have hR3:=Rec.putObj s2.w (B+1) (.loop (rec .done (some cd)))
    refine ⟨_,_,Im,.inr ⟨rfl,_,⟨j,he,?_⟩,aeg gm hR3⟩⟩
    rw [hcd]
    have hok3:=vd l1 (λc t f e=>by rw [hl3] at e;cases e) hR3
    have nR:=gm.size
    have hbX':∀i,F' i->i<s2.w.heap.size/\i≠B/\i≠B+1:=by
     obtain ⟨us',g1,_⟩:=HC tc hok0 l1 (frs l4) hen2
     exact (eC g1 (hbX j F')).1 _ g1
    have hen3:c.enter s0 {s2 with w:=s2.w.putObj (B+1) (.loop (rec .done (some cd)))} (je c.bC (e_ j F')):=by
     unfold Carry.enter at hen2 ⊢
     split at hen2
     ·rename_i hbb
      rw [show (c.RJ s0 {s2 with w:=s2.w.putObj (B+1) (.loop (rec .done (some cd)))} && c.okB {s2 with w:=s2.w.putObj (B+1) (.loop (rec .done (some cd)))})=true from hbb]
      rw [bO] at hen2 ⊢
      exact ⟨hen2.1,(eC hen2.2 (hsX j F')).1 _ _ hen2.2 (hR3.below U) λi hi=>hR3.same i (hbX' i hi).2.2⟩
     ·exact hen2.elim
    refine mkJ (s':={s2 with w:=s2.w.putObj (B+1) (.loop (rec .done (some cd)))}) (W:=ps.toList++writes assign++writes body) hok3 ⟨(frs l4).len,(frs l4).slot,(frs l4).kn,(frs l4).df⟩ hen3 (World.putObj_heap_same U) ?_
    rw [hR3.same _ U];exact hd3
   rintro e a3 w3 (⟨s2,l1,rfl,rfl,l4,l5⟩|⟨q,c',hq',-⟩)
   case inr=>rw [hpq] at hq';cases hq'
   cases e with
   |normal=>
    obtain ⟨F',hen2,gm⟩:=l5
    have gm:Step (λi=>(F i\/i ∈ gw s.kn)\/w.heap.size<=i) (λi=>F' i\/i ∈ gw s.kn) w2 s2.w:=gm
    have hl3:s2.w.heap[B+1]? =some (.loop {rec .ready none with state:=.busy}):=by rw [gm.same _ U nF];exact TE
    have hd3:s2.w.heap[B]? =some (.deferred (some [])):=by rw [gm.same _ U nD];exact hd2
    have Im:=run_endRound (P:=P) none hl3
    have hrc:({({rec .ready none with state:=.busy}:Loop) with state:=if (none:Option Code).isNone then .ready else .done,pending:=none}:Loop)=rec .ready none:=by rw [fL];rfl
    rw [hrc] at Im
    have hR3:=Rec.putObj s2.w (B+1) (.loop (rec .ready none))
    refine ⟨_,_,Im,.inl ⟨rfl,_,?_,aeg gm hR3⟩⟩
    have hok3:=vd l1 (λc t f e=>by rw [hl3] at e;cases e) hR3
    have nR:=gm.size
    have hbI':∀i,F' i->i<s2.w.heap.size/\i≠B/\i≠B+1:=by
     obtain ⟨us',g1,_⟩:=HC tc hok0 l1 (frs l4) hen2
     exact (eC g1 (hbI (m+1) F')).1 _ g1
    have hen3:c.enter s0 {s2 with w:=s2.w.putObj (B+1) (.loop (rec .ready none))} (je c.bC (f_ (m+1) F')):=by
     unfold Carry.enter at hen2 ⊢
     split at hen2
     ·rename_i hbb
      rw [show (c.RJ s0 {s2 with w:=s2.w.putObj (B+1) (.loop (rec .ready none))} && c.okB {s2 with w:=s2.w.putObj (B+1) (.loop (rec .ready none))})=true from hbb]
      rw [bO] at hen2 ⊢
      exact ⟨hen2.1,(eC hen2.2 (hsI (m+1) F')).1 _ _ hen2.2 (hR3.below U) λi hi=>hR3.same i (hbI' i hi).2.2⟩
     ·exact hen2.elim
    refine mkJ (s':={s2 with w:=s2.w.putObj (B+1) (.loop (rec .ready none))}) (W:=ps.toList++writes assign++writes body) hok3 ⟨(frs l4).len,(frs l4).slot,(frs l4).kn,(frs l4).df⟩ hen3 (World.putObj_heap_same U) ?_
    rw [hR3.same _ U];exact hd3
   |ret=>exact jump none s2 l5.1 l1 l4 l5.2
   |exit id=>exact jump (some id) s2 l5.1 l1 l4 l5.2
   |goto t=>exact l5.elim
   |panic ch=>exact l5.elim
   |outgrown=>exact l5.elim
  |_=>exact k5.elim
def dE [PQ] (hP:xK P)(hm:P.follows .mixedOrders=true)(an:Qi){F:Fence}{nn:Nat}(hF:Wd F):∀(c:Code)(s:St)(Q:Exit->St->Prop),(F=Fence.wide\/kd c=true)->s.h->fI P an c s Q->c.wpIn F nn P (pr (writes c) s Q) s.act s.w
 | .skip,s,Q,_,hok,h=>wpIn_skip (.inl ⟨s,hok,rfl,rfl,Fr.refl _ _,h⟩)
 | .region id ops draw,s,Q,_,hok,h=>by
   unfold fI at h
   cases draw with
   |false=>
    refine wpIn_region ?_
    have he:List.range ops.size=List.range' 0 ops.toList.length:=by rw [List.range_eq_range'];simp
    rw [he];refine Nv hF ops.toList 0 _ _ (λj hj=>by simp) ?_;exact AS hP ops.toList s (pr (writes (.region id ops false)) s Q) (aeQ _ _ _) hok h λa w hp=> .inl hp
   |true=>
    simp only at h;split at h
    case h_2=>exact h.elim
    rename_i Il;refine wpIn_mono (wpIn_region_any (Q:=Qr (dstsOf ops.toList) s (Q .normal)) hm ?_) λe a w hq=> ?_
    ·refine XW hF _ [] _ _ _ ?_;have kK:({s with w:=s.w.drew}:St).h:=⟨hok.D,hok.ne,hok.lX⟩;refine oM hP Il (dstsOf ops.toList) s (λj o d h1 h2=> ?_) ops.size [] _ {s with w:=s.w.drew} kK ⟨rfl,λ_ _=>rfl,rK.refl _,ak _,λ_=>rfl⟩ (λq hq=>by cases hq) h;exact List.mem_filterMap.2 ⟨o,by
      have:=Array.mem_of_getElem? h1;simpa using this,h2⟩
    ·cases e with
     |normal=>exact .inl hq
     |panic c=>obtain ⟨q,h1,h2,h3⟩:=hq;exact .inr ⟨q,c,h1,rfl,h2,h3⟩
     |_=>exact hq.elim
 | .seq x y,s,Q,hnr,hok,h=>by
   unfold fI at h;have hx:F=Fence.wide\/kd x=true:=hnr.imp id λh=>by simp [kd] at h;exact h.1
   have hy:F=Fence.wide\/kd y=true:=hnr.imp id λh=>by simp [kd] at h;exact h.2
   split at h
   ·refine wpIn_seq (wpIn_mono (dE (nn:=nn) hP hm an hF x s _ hx hok h) λe a w hp=> ?_)
    cases e with
    |normal=>
     obtain ⟨s',h1,rfl,rfl,h4,h5⟩:=hp.get bo;exact wpIn_mono (dE (nn:=nn) hP hm an hF y s' Q hy h1 h5) λe a w hp=>hp.of (h4.mono λi hi=>by simp [writes,hi]) λi hi=>by simp [writes,hi]
    |exit id=>exact hp.of (Fr.refl _ _) λi hi=>by simp [writes,hi]
    |goto l=>exact hp.of (Fr.refl _ _) λi hi=>by simp [writes,hi]
    |ret=>exact hp.of (Fr.refl _ _) λi hi=>by simp [writes,hi]
    |panic ch=>exact hp.of (Fr.refl _ _) λi hi=>by simp [writes,hi]
    |outgrown=>exact hp.of (Fr.refl _ _) λi hi=>by simp [writes,hi]
   ·rename_i c hc;obtain ⟨a_,h1,h2⟩:=h;obtain ⟨q1,q2,q3,q4,q5⟩:=fo (c.lT.map λk=> .loc k 0) hok;have qa:=np (l:=c.lT.map λk=> .loc k 0) hok;have qf:Fr (writes (x.seq y)) s (s.kill (c.lT.map λk=> .loc k 0)):=⟨by rw [q2],λi _=>by
     rw [q2];simp only [dG]
     cases hg:s.sl[i]? with
     |none=>rfl
     |some u=>exact q4.R (hok.lX i u hg),q4,by rw [ov];exact ⟨ak _,λ_=>rfl⟩⟩
    suffices hh:(x.seq y).wpIn F nn P (pr (writes (x.seq y)) (s.kill (c.lT.map λk=> .loc k 0)) Q) s.act s.w from wpIn_mono hh λe a w hp=>hp.of qf λi hi=>hi
    rw [<-qa,<-q3];generalize s.kill (c.lT.map λk=> .loc k 0)=s at*;have hok:=q1;refine wpIn_seq (wpIn_mono (dE (nn:=nn) hP hm an hF x s _ hx hok h1) λe a w hp=> ?_)
    cases e with
    |normal=>
     obtain ⟨s',k1,rfl,rfl,k4,k5⟩:=hp.get bo;obtain ⟨us,g1,g2,g3,g4⟩:=Nz hok k1 k4 k5;have hv:=(eC g1 (h2 us)).1 s'.w g1;have h6:=dE (nn:=nn) hP hm an hF y _ Q hy g2 hv;rw [g3] at h6;exact wpIn_mono h6 λe a w hp=>hp.of (g4.mono λi hi=>by simp [writes,hi]) λi hi=>by simp [writes,hi]
    |exit id=>exact hp.of (Fr.refl _ _) λi hi=>by simp [writes,hi]
    |goto l=>exact hp.of (Fr.refl _ _) λi hi=>by simp [writes,hi]
    |ret=>exact hp.of (Fr.refl _ _) λi hi=>by simp [writes,hi]
    |panic ch=>exact hp.of (Fr.refl _ _) λi hi=>by simp [writes,hi]
    |outgrown=>exact hp.of (Fr.refl _ _) λi hi=>by simp [writes,hi]
 | .cond c x y,s,Q,hnr,hok,h=>by
   unfold fI at h;have hx:F=Fence.wide\/kd x=true:=hnr.imp id λh=>by simp [kd] at h;exact h.1
   have hy:F=Fence.wide\/kd y=true:=hnr.imp id λh=>by simp [kd] at h;exact h.2
   split at h
   ·rename_i b hb;have hc:s.act.eval c=.bool b:=by rw [St.uk,Ff hb];rfl
    refine wpIn_cond_split hc (λhb'=> ?_) (λhb'=> ?_)
    ·exact wpIn_mono (dE (nn:=nn) hP hm an hF x s Q hx hok (Z.tt h hb')) λe a w hp=>hp.of (Fr.refl _ _) λi hi=>by simp [writes,hi]
    ·exact wpIn_mono (dE (nn:=nn) hP hm an hF y s Q hy hok (Z.ff h hb')) λe a w hp=>hp.of (Fr.refl _ _) λi hi=>by simp [writes,hi]
   ·exact h.elim
 | .block id x,s,Q,hx,hok,h=>by
   unfold fI at h;refine wpIn_block (wpIn_mono (dE (nn:=nn) hP hm an hF x s _ hx hok h) λe a w hp=> ?_)
   cases e with
   |exit id'=>
    show if id'=id then _ else _;obtain ⟨s',k1,k2,k3,k4,k5⟩:=hp.get bo;simp only at k5;split
    ·rename_i e;rw [if_pos e] at k5;exact .inl ⟨s',k1,k2,k3,k4,k5⟩
    ·rename_i e;rw [if_neg e] at k5;exact .inl ⟨s',k1,k2,k3,k4,k5⟩
   |_=>exact hp
 | .loop x,s,Q,hx,hok,h=>by
   unfold fI at h;split at h
   ·exact h.elim
   rename_i c hc;obtain ⟨f_,⟨n0,h0⟩,hround⟩:=h;obtain ⟨q1,q2,q3,q4,q5⟩:=fo (c.lT.map λk=> .loc k 0) hok;have qa:=np (l:=c.lT.map λk=> .loc k 0) hok;have qf:Fr (writes (.loop x)) s (s.kill (c.lT.map λk=> .loc k 0)):=⟨by rw [q2],λi _=>by
    rw [q2];simp only [dG]
    cases hg:s.sl[i]? with
    |none=>rfl
    |some u=>exact q4.R (hok.lX i u hg),q4,by rw [ov];exact ⟨ak _,λ_=>rfl⟩⟩
   suffices hh:(Code.loop x).wpIn F nn P (pr (writes (.loop x)) (s.kill (c.lT.map λk=> .loc k 0)) Q) s.act s.w from wpIn_mono hh λe a w hp=>hp.of qf λi hi=>hi
   rw [<-qa,<-q3];generalize s.kill (c.lT.map λk=> .loc k 0)=s at*;have hok:=q1;refine Ei (λn a w=>∃s',s'.h/\s'.act=a/\s'.w=w/\Fr (writes x) s s'/\c.enter s s' (je c.bC (f_ n))) n0 ⟨s,hok,rfl,rfl,Fr.refl _ _,h0⟩ ?_;rintro n a w ⟨s',k1,rfl,rfl,k4,k5⟩;obtain ⟨us,g1,g2,g3,g4⟩:=Nz hok k1 k4 k5;have hv:=(eC g1 (hround n us)).1 s'.w g1;have h6:=dE (nn:=nn) hP hm an hF x _ _ hx g2 hv;rw [g3] at h6;refine wpIn_mono h6 λe a w hp=> ?_
   cases e with
   |normal=>
    obtain ⟨s'',l1,l2,l3,l4,m,fK,l5⟩:=hp.get bo;refine ⟨m,fK,s'',l1,l2,l3,g4.trans l4,?_⟩;exact l5
   |exit id=>exact hp.of g4 λi hi=>hi
   |goto l=>exact hp.of g4 λi hi=>hi
   |ret=>exact hp.of g4 λi hi=>hi
   |panic ch=>exact hp.of g4 λi hi=>hi
   |outgrown=>exact hp.of g4 λi hi=>hi
 | .exit id,s,Q,_,hok,h=>wpIn_exit (.inl ⟨s,hok,rfl,rfl,Fr.refl _ _,h⟩)
 | .ret,s,Q,_,hok,h=>wpIn_ret (.inl ⟨s,hok,rfl,rfl,Fr.refl _ _,h⟩)
 | .rangeFunc g ps assign body,s,Q,hnr,hok,h=>by
   have hw:F=Fence.wide:=hnr.resolve_right (by simp [kd]);subst hw;exact aeS hP hok (λl s Q h1 h2 h3=>dE hP hm an (Wd.round l) assign s Q (.inr h1) h2 h3) (λl s Q h1 h2 h3=>dE hP hm an (Wd.round l) body s Q (.inr h1) h2 h3) h
 | .scope x,s,Q,hnr,hok,h=>by
   have hw:F=Fence.wide:=hnr.resolve_right (by simp [kd]);subst hw;unfold fI at h;refine wpIn_wide.2 (wp_scope_straight (wp_mono (wpIn_wide.1 (dE (nn:=0) hP hm an hF x s _ (.inl rfl) hok h)) λe a w hp=> ?_))
   cases e with
   |goto l=>obtain ⟨s',_,_,_,_,k5⟩:=hp.get bo;exact k5.elim
   |_=>exact hp
 | .label l,s,Q,_,hok,h=>wpIn_label (.inl ⟨s,hok,rfl,rfl,Fr.refl _ _,h⟩)
 | .goto _,_,_,_,_,h=>h.elim
 | .refuse _,_,_,_,_,h=>h.elim
end
def NH(P:Program)(s:St)(t:aB)(x:SV)(K:aC->Prop):Prop:=
 match x with
 | .loc k off=>match s.known k with
   |some kb=>match rI P t with
    | .sc _=>match kb.cells[off]? with|some v=>K v|none=>False
    | .agg l=>if l.length=fE P t/\off+l.length<=kb.cells.length then K (.agg ((kb.cells.drop off).take l.length).toArray)else False
   |none=>JG P s.w (some ⟨(s.kn.getD k default).idx,off,none⟩) t K
 | .val (.pointer p)=>JG P s.w p t K
 |_=>False
def sQ(P:Program)(s:St):List ResultVar->(af->Prop)->Prop
 | [],F=>F []
 | .tmp t::r,F=>sQ P s r λvs=>F ((s.sl.getD t (.val undef)).R s.kn::vs)
 | .cell a t::r,F=>match M_ P t with
   |true=>NH P s t (s.sl.getD a (.val undef)) λv=>sQ P s r λvs=>F (v::vs)
   |false=>False
def X1:af->aC
 | [v]=>v
 |vs=>.tuple vs.toArray
def Cv:bf->au->(au->Prop)->Prop
 | [],w,K=>K w
 |D::r,w,K=>w.heap[D]? =some (.deferred (some []))/\∀w',Rec D w w'->Cv r w' K
def awx(P:Program)(fn:Func)(R:Ending->au->Prop):Exit->St->Prop
 | .normal,s| .ret,s=>Cv s.df s.w λw'=>sQ P {s with w:=w'} fn.results.toList λvs=>R (.returned (X1 vs)) w'
 |_,_=>False
def yl(fn:Func)(args:af)(w:au):St:=
 {sl:=args.map .val++List.replicate (fn.ntmps-args.length) (.val undef),w:=w,kn:=[]}
def X2 [PQ] (P:Program)(an:Qi)(fn:Func)(args:af)(w:au)(R:Ending->au->Prop):Prop:=
 match fn.body with
 |some c=>fI P an c (yl fn args w) (awx P fn R)
 |none=>False
section
variable{P:Program}{s:St}
def RQ{t:aB}{x:SV}{K:aC->Prop}(hok:s.h)(hu:(P.underlying t).isSome=true)(h:NH P s t x K): ∃a v,x.R s.kn=.pointer (some a)/\K v/\(loadVar t a).run P s.w=.ok v s.w:=by
 have h':Fl P {s with sl:=[.val undef]} (some 0) t x (λs'=>K ((s'.sl.getD 0 (.val undef)).R s'.kn)):=by unfold NH at h;unfold Fl;exact h
 have kK:({s with sl:=[.val undef]}:St).h:=⟨hok.D,hok.ne,λi v hv=>by
  cases i with
  |zero=>simp at hv;subst hv;trivial
  |succ i=>simp at hv⟩
 obtain ⟨a,v,h1,h2,h3⟩:=Fo kK hu h';refine ⟨a,v,h1,h2,?_⟩;simpa [Instr.loadAt,Instr.sureAddr] using h3
def NI(tmps:ae):ResultVar->Sem aC
 | .tmp t=>pure (tmps.getD t undef)
 | .cell a t=>do loadVar t (<-asAddr (tmps.getD a undef))
def vj(hok:s.h):∀(l:List ResultVar)(F:af->Prop),sQ P s l F->
  ∃vs,F vs/\(l.mapM (NI s.act.tmps)).run P s.w=.ok vs s.w
 | [],F,h=>⟨[],h,rfl⟩
 | .tmp t::r,F,h=>by
   have⟨vs,h1,h2⟩:=vj hok r _ h
   refine⟨_,h1,?_⟩
   have:s.act.tmps.getD t undef=(s.sl.getD t (.val undef)).R s.kn:=s.uk (.tmp t)
   simp only[List.mapM_cons,Aw,NI,ka3,Br,h2,this]
 | .cell a t::r,F,h=>by
   unfold sQ at h
   split at h
   ·rename_i hu
    have⟨ad,v,e1,e2,e3⟩:=RQ hok (vh hu) h
    have⟨vs,h1,h2⟩:=vj hok r _ e2
    refine⟨_,h1,?_⟩
    have:s.act.tmps.getD a undef=.pointer (some ad):=(s.uk (.tmp a)).trans e1
    simp only[List.mapM_cons,Aw,NI,this,asAddr,ka3,Br,e3,h2]
   ·exact h.elim
def RR(hok:s.h){fn:Func}{F:af->Prop}(h:sQ P s fn.results.toList F): ∃vs,F vs/\(results fn s.act.tmps).run P s.w=.ok (X1 vs) s.w:=by
 have⟨vs,h1,h2⟩:=vj hok _ _ h;refine⟨vs,h1,?_⟩;have:results fn s.act.tmps=(do let vs <-fn.results.mapM (NI s.act.tmps);pure (if h:vs.size=1 then vs[0]else .tuple vs)):=by unfold results;congr 1
 rw[this,Array.mapM_eq_mapM_toList];simp only[Aw,Sem.run_map,h2,Br,ka3];congr 1
 cases vs with
 |nil=>rfl
 |cons v r=>cases r<;>simp[X1]
end
section
variable{P:Program}
def aaJ(fn:Func)(args:af)(w:au):(yl fn args w).h:=
 ⟨λk kb h=>by simp[yl]at h,λi j x y h=>by simp[yl]at h,λi v h=>by
  simp only[yl,List.getElem?_append,aW,Ao]at h;split at h
  ·cases ha:args[i]? with
   |none=>simp[ha]at h
   |some x=>simp[ha]at h;subst h;trivial
  ·split at h
   ·simp at h;subst h;trivial
   ·cases h⟩
variable{fn:Func}{R:Ending->au->Prop}
def sR:∀(l:bf)(s:St),s.h->Cv l s.w (λw'=>sQ P {s with w:=w'} fn.results.toList λvs=>R (.returned (X1 vs)) w')->
  LeavesInM Fence.wide 0 P fn s.act.tmps R (marks l) .returning s.w
 | [],s,hok,h=>by
   have⟨vs,h1,h2⟩:=RR hok h
   exact⟨_,h2,h1⟩
 |D::r,s,hok,h=>by
  have⟨hD,h⟩:=h
  refine⟨bo,.inl ⟨D,s.w.putObj D (.deferred none),rfl,run_takeDeferred hD,?_⟩⟩
  have hr:=Rec.putObj s.w D (.deferred none)
  have kK:=vd hok (λc t f e=>by rw[hD]at e;cases e) hr
  exact sR r {s with w:=s.w.putObj D (.deferred none)} kK (h _ hr)
variable{f:bH}{an:Qi}{args:af}{w:au}
def AU [PQ] (hP:xK P)(hm:P.follows .mixedOrders=true){f:bH}{fn:Func}{an:Qi}{args:af}{w:au}{R:Ending->au->Prop}(hR:∀q,PQ.q=some q->∀c w,q c w->R (.panicked c) w)(hf:P.funcs[f]? =some fn) (h:X2 P an fn args w R):Calls P f args.toArray w R:=by
 unfold X2 at h;split at h
 case h_2=>exact h.elim
 rename_i c hc;have h1:=dE (nn:=0) hP hm an Wd.out c _ _ (.inl rfl) (aaJ fn args w) h;refine callsIn_wide.1 (callsIn_of_wp_marks (n:=0) hf hc trivial ?_);have aAt:(yl fn args w).act={tmps:=args.toArray++Array.replicate (fn.ntmps-args.toArray.size) undef,defers:=[]}:=by simp only[St.act,yl];congr 1;apply Array.ext';simp[SV.R];rw[show(SV.R [] ∘ SV.val)=id from rfl];simp
 rw[aAt]at h1;refine wpIn_mono h1 λe a w' hp=>?_
 rcases hp with⟨s',k1,rfl,rfl,k4,k5⟩|⟨q,c,hq,rfl,hd,hc⟩
 case inr=>
  have:=hR q hq c _ hc;show LeavesInM _ _ _ _ _ _ _ _ _;rw[hd];exact this
 cases e with
 |normal=>exact sR s'.df s' k1 k5
 |ret=>exact sR s'.df s' k1 k5
 |_=>exact k5.elim
def amq(P:Program)(an:Qi)(fn:Func)(args:af)(w:au)(R:Ending->au->Prop):Prop:=@X2 ⟨none⟩ P an fn args w R
def adI(P:Program)(an:Qi)(fn:Func)(args:af)(w:au)(R:Ending->au->Prop):Prop:=@X2 ⟨some λc w=>R (.panicked c) w⟩ P an fn args w R
def Rw(hP:xK P)(hm:P.follows .mixedOrders=true){f:bH}{fn:Func}{an:Qi}{args:af}{w:au}{R:Ending->au->Prop}(hf:P.funcs[f]? =some fn) (h:amq P an fn args w R):Calls P f args.toArray w R:=@AU P ⟨none⟩ hP hm f fn an args w R (λ_ hq=>by cases hq) hf h
def Nj(hP:xK P)(hm:P.follows .mixedOrders=true){f:bH}{fn:Func}{an:Qi}{args:af}{w:au}{R:Ending->au->Prop}(hf:P.funcs[f]? =some fn) (h:adI P an fn args w R):Calls P f args.toArray w R:= @AU P ⟨some λc w=>R (.panicked c) w⟩ hP hm f fn an args w R (λ_ hq _ _ hc=>by cases hq;exact hc) hf h
end
abbrev qx(A:(Nat->Int->Int->au->Prop)->Nat->Prop)(F:(Nat->Int->Int->au->Prop)->Nat->(Nat->aC)->Int->Int->au->Prop):Prop:=∃f_:Nat->Int->Int->au->Prop,(∃n,A f_ n)/\∀(n:Nat)(us:Nat->aC)(y0:Int)(y1:Int)(w:au),f_ n y0 y1 w->F f_ n us y0 y1 w
abbrev pf(A:(Nat->Int->H->au->Prop)->Nat->Prop)(F:(Nat->Int->H->au->Prop)->Nat->(Nat->aC)->Int->H->au->Prop):Prop:=∃f_:Nat->Int->H->au->Prop,(∃n,A f_ n)/\∀(n:Nat)(us:Nat->aC)(y0:Int)(y1:H)(w:au),f_ n y0 y1 w->F f_ n us y0 y1 w
abbrev rP(A:(Nat->Int->au->Prop)->Nat->Prop)(F:(Nat->Int->au->Prop)->Nat->(Nat->aC)->Int->au->Prop):Prop:=∃f_:Nat->Int->au->Prop,(∃n,A f_ n)/\∀(n:Nat)(us:Nat->aC)(y0:Int)(w:au),f_ n y0 w->F f_ n us y0 w
abbrev Mp(w:au)(p:ai)(F:aX->Prop):Prop:=∃x:aX,ld w p=some (.bool x)/\F x
abbrev jr(w:au)(p:ai)(F:Int->Prop):Prop:=∃x:Int,ld w p=some (.int .i64 x)/\F x
abbrev eO(w:au)(p:ai)(F:ai->Prop):Prop:=∃x:ai,ld w p=some (.pointer x)/\F x
abbrev P'(w:au)(p:ai)(F:Option Nat->Prop):Prop:=∃x:Option Nat,ld w p=some (.map x)/\F x
abbrev lR(w:au)(p:ai)(F:H->Prop):Prop:=∃x:H,ld w p=some (.slice x.a x.n x.c)/\F x
abbrev lQ(w:au)(p:ai)(F:aX->aX->aX->Prop):Prop:=∃(y0 y1 y2:aX),ah w p 0 [.bool y0,.bool y1,.bool y2]/\F y0 y1 y2
abbrev adM(w:au)(p:ai)(F:aq->aq->aq->aq->aq->aq->aq->aq->aq->aq->aq->aq->aq->aq->aq->aq->Prop):Prop:=∃(y0 y1 y2 y3 y4 y5 y6 y7 y8 y9 y10 y11 WI y13 y14 y15:aq),ah w p 0 [.string y0,.string y1,.string y2,.string y3,.string y4,.string y5,.string y6,.string y7,.string y8,.string y9,.string y10,.string y11,.string WI,.string y13,.string y14,.string y15]/\F y0 y1 y2 y3 y4 y5 y6 y7 y8 y9 y10 y11 WI y13 y14 y15
abbrev lS(w:au)(p:ai)(F:Int->Int->Prop):Prop:=∃(y0 y1:Int),ah w p 0 [.int .i64 y0,.int .i64 y1]/\F y0 y1
abbrev gU(w:au)(p:ai)(F:Int->Int->Int->Prop):Prop:=∃(y0 y1 y2:Int),ah w p 0 [.int .i64 y0,.int .i64 y1,.int .i64 y2]/\F y0 y1 y2
abbrev ti(w:au)(p:ai)(F:Int->Int->Int->Int->Prop):Prop:=∃(y0 y1 y2 y3:Int),ah w p 0 [.int .i64 y0,.int .i64 y1,.int .i64 y2,.int .i64 y3]/\F y0 y1 y2 y3
abbrev C3(w:au)(p:ai)(F:Int->Int->Int->Int->Int->Int->Prop):Prop:=∃(y0 y1 y2 y3 y4 y5:Int),ah w p 0 [.int .i64 y0,.int .i64 y1,.int .i64 y2,.int .i64 y3,.int .i64 y4,.int .i64 y5]/\F y0 y1 y2 y3 y4 y5
abbrev jR(w:au)(p:ai)(F:Int->Int->Int->Int->Int->Int->Int->Int->aX->Prop):Prop:=∃(y0 y1 y2 y3 y4 y5 y6 y7:Int)(y8:aX),ah w p 0 [.int .i64 y0,.int .i64 y1,.int .i64 y2,.int .i64 y3,.int .i64 y4,.int .i64 y5,.int .i64 y6,.int .i64 y7,.bool y8]/\F y0 y1 y2 y3 y4 y5 y6 y7 y8
abbrev Pw(w:au)(p:ai)(l:af)(F:au->Prop):Prop:=∀v,v=bB w p l->F v
abbrev Pv(w:au)(p:ai)(n:Nat)(l:af)(F:au->Prop):Prop:=(true=true/\Wr w p n)/\Pw w p l F
abbrev Pt(w:au)(a:Addr)(n:Nat)(l:af)(F:au->Prop):Prop:=(true=true/\Wr w (some a) n)/\Pw w (some a) l F
abbrev yM(F:aX->au->Prop)(e:Ending)(w:au):Prop:=∃(y0:aX),e=y0/\F y0 w
abbrev aq6(F:aq->aX->au->Prop)(e:Ending)(w:au):Prop:=∃(y0:aq)(y1:aX),e=bT #[.string y0,y1]/\F y0 y1 w
abbrev lu(F:aq->au->Prop)(e:Ending)(w:au):Prop:=∃(y0:aq),e=bP y0/\F y0 w
abbrev Rx8(F:aq->aq->aq->aq->aq->aq->aq->aq->aq->aq->aq->aq->aq->aq->aq->aq->au->Prop)(e:Ending)(w:au):Prop:=∃(y0 y1 y2 y3 y4 y5 y6 y7 y8 y9 y10 y11 WI y13 y14 y15:aq),e=vI #[.string y0,.string y1,.string y2,.string y3,.string y4,.string y5,.string y6,.string y7,.string y8,.string y9,.string y10,.string y11,.string WI,.string y13,.string y14,.string y15]/\F y0 y1 y2 y3 y4 y5 y6 y7 y8 y9 y10 y11 WI y13 y14 y15 w
abbrev ah0(F:Int->aX->au->Prop)(e:Ending)(w:au):Prop:=∃(y0:Int)(y1:aX),e=bT #[.int .u64 y0,y1]/\F y0 y1 w
abbrev Xf(F:Int->aX->au->Prop)(e:Ending)(w:au):Prop:=∃(y0:Int)(y1:aX),e=bT #[y0,y1]/\F y0 y1 w
abbrev aev(F:Int->au->Prop)(e:Ending)(w:au):Prop:=∃(y0:Int),e=vc .u16 y0/\F y0 w
abbrev fw(F:Int->au->Prop)(e:Ending)(w:au):Prop:=∃(y0:Int),e=y0/\F y0 w
abbrev Qd(F:Int->Int->Int->Int->Int->Int->Int->Int->Int->Int->Int->Int->Int->Int->Int->Int->Int->Int->au->Prop)(e:Ending)(w:au):Prop:=∃(y0 y1 y2 y3 y4 y5 y6 y7 y8 y9 y10 y11 WI y13 y14 y15 y16 y17:Int),e=vI #[y0,y1,y2,y3,y4,y5,y6,y7,y8,y9,y10,y11,WI,y13,y14,y15,y16,y17]/\F y0 y1 y2 y3 y4 y5 y6 y7 y8 y9 y10 y11 WI y13 y14 y15 y16 y17 w
abbrev Rx2(F:Int->Int->au->Prop)(e:Ending)(w:au):Prop:=∃(y0 y1:Int),e=vI #[y0,y1]/\F y0 y1 w
abbrev X'(F:Int->Int->au->Prop)(e:Ending)(w:au):Prop:=∃(y0 y1:Int),e=bT #[y0,y1]/\F y0 y1 w
abbrev amr(F:Int->Int->Int->aX->au->Prop)(e:Ending)(w:au):Prop:=∃(y0 y1 y2:Int)(y3:aX),e=bT #[.agg #[y0,y1,y2],y3]/\F y0 y1 y2 y3 w
abbrev zK(F:Int->Int->Int->au->Prop)(e:Ending)(w:au):Prop:=∃(y0 y1 y2:Int),e=vI #[y0,y1,y2]/\F y0 y1 y2 w
abbrev Mo(F:Int->Int->Int->Int->Int->Int->aX->au->Prop)(e:Ending)(w:au):Prop:=∃(y0 y1 y2 y3 y4 y5:Int)(y6:aX),e=bT #[.agg #[y0,y1,y2,y3,y4,y5],y6]/\F y0 y1 y2 y3 y4 y5 y6 w
abbrev pa(F:Int->Int->Int->Int->Int->Int->aX->aX->aX->au->Prop)(e:Ending)(w:au):Prop:=∃(y0 y1 y2 y3 y4 y5:Int)(y6 y7 y8:aX),e=bT #[.agg #[y0,y1,y2,y3,y4,y5],.agg #[y6,y7,y8]]/\F y0 y1 y2 y3 y4 y5 y6 y7 y8 w
abbrev amx(F:Int->Int->Int->Int->Int->Int->au->Prop)(e:Ending)(w:au):Prop:=∃(y0 y1 y2 y3 y4 y5:Int),e=vI #[y0,y1,y2,y3,y4,y5]/\F y0 y1 y2 y3 y4 y5 w
abbrev adq(F:Int->Int->Int->Int->Int->Int->au->Prop)(e:Ending)(w:au):Prop:=∃(y0 y1 y2 y3 y4 y5:Int),e=bT #[.agg #[y0,y1,y2],.agg #[y3,y4,y5]]/\F y0 y1 y2 y3 y4 y5 w
abbrev Y_(F:Int->Int->Int->Int->Int->Int->Int->au->Prop)(e:Ending)(w:au):Prop:=∃(y0 y1 y2 y3 y4 y5 y6:Int),e=bT #[.agg #[y0,y1,y2,y3,y4,y5],y6]/\F y0 y1 y2 y3 y4 y5 y6 w
abbrev ah1(F:Int->Int->Int->Int->Int->Int->Int->Int->aX->au->Prop)(e:Ending)(w:au):Prop:=∃(y0 y1 y2 y3 y4 y5 y6 y7:Int)(y8:aX),e=vI #[y0,y1,y2,y3,y4,y5,y6,y7,y8]/\F y0 y1 y2 y3 y4 y5 y6 y7 y8 w
abbrev nH(F:ai->au->Prop)(e:Ending)(w:au):Prop:=∃(y0:ai),e=y0/\F y0 w
abbrev aie(F:Option Nat->au->Prop)(e:Ending)(w:au):Prop:=∃(y0:Option Nat),e=Value.map y0/\F y0 w
abbrev Rx9(F:H->Int->au->Prop)(e:Ending)(w:au):Prop:=∃(y0:H)(y1:Int),e=bT #[y0,y1]/\F y0 y1 w
abbrev rA(F:H->au->Prop)(e:Ending)(w:au):Prop:=∃(y0:H),e=y0/\F y0 w
abbrev Gr(F:aC->au->Prop)(e:Ending)(w:au):Prop:=∃(y0:aC),e=y0/\F y0 w
abbrev eP(l:ae):aC:=.tuple l
abbrev tO(l:ae):aC:=.agg l
abbrev Ga(b:aX):aC:=.bool b
abbrev Mq(i j:Nat):Qi:=⟨[(i,⟨[(j,.int .i64)],[],[]⟩)],[],[]⟩
abbrev A'(i j k:Nat):Qi:=⟨[(i,⟨[(j,.int .i64),(k,.int .i64)],[],[]⟩)],[],[]⟩
abbrev P_(i j k:Nat):Qi:=⟨[(i,⟨[(j,.int .i64),(k,.slice)],[],[]⟩)],[],[]⟩
end Go.Vc
