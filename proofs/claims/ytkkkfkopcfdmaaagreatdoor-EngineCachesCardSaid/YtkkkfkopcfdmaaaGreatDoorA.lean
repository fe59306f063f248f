import Derived.WalkKit
import Derived.Laws.BytesArg
import Derived.Great.BuildSlice
import Derived.Deep.AppendSrc
import Derived.Deep.LoopGhost
import Derived.RangeFuncNested
import Derived.RangeFuncLeaves
import Derived.OrdersIn
set_option linter.all false
def ab{p:Prop}(h:p:=by omega):p:=h
def aF{p:Prop}(h:p:=by decide):p:=h
def cp{p:Prop}(h:p:=by simp):p:=h
abbrev aX:= @List.mem_of_getElem?
abbrev aN:= @List.length_map
abbrev aR:= @List.getElem?_map
abbrev cG:= @List.getElem?_eq_some_iff
abbrev dm:= @List.getElem?_eq_getElem
abbrev dZ:= @List.getD_eq_getElem?_getD
abbrev aW:= @List.mem_map
abbrev dv:= @List.length_append
abbrev bW:= @List.map_append
abbrev dR:= @List.take_add_one
abbrev du:= @List.length_cons
abbrev fN:= @List.take_of_length_le
abbrev dK:= @List.length_take
abbrev jS:= @List.getElem?_eq_none
abbrev hX:= @List.mem_or_eq_of_mem_set
abbrev gK:= @List.append_assoc
abbrev cB:= @List.mem_cons
abbrev fu:= @List.map_cons
abbrev oI:= @List.getElem?_append_left
abbrev qW:= @List.getElem?_append_right
abbrev iP:= @List.ext_getElem?
abbrev kV:= @List.flatten_cons
abbrev tg:= @Array.getElem?_eq_some_iff
abbrev rj:= @Int.tdiv_eq_ediv_of_nonneg
abbrev tq:= @Int.fdiv_eq_ediv_of_nonneg
abbrev cV:= @List.mem_append
abbrev iR:= @List.take_length
abbrev cN:= @decide_eq_true_eq
abbrev fm:= @decide_eq_false_iff_not
abbrev oE:= @Option.isSome_iff_exists
abbrev dQ:= @Int.toNat_natCast
abbrev gW:= @List.length_set
abbrev pR:= @List.getElem?_set_self
abbrev jR:= @List.getElem?_set
abbrev aC:= @Nat.le_refl
abbrev kM:= @Nat.lt_of_lt_of_le
abbrev iJ:= @List.not_mem_nil
abbrev eK:= @Nat.zero_add
abbrev qc:= @List.filter_append
abbrev fk:= @Bool.and_eq_true
abbrev CO:= @List.take_zero
abbrev gx:= @Nat.le_trans
abbrev C2:= @List.getElem?_cons_succ
abbrev amO:= @List.getElem?_cons_zero
abbrev q8:= @List.append_nil
abbrev aac:= @List.nil_append
abbrev Gt:= @List.length_replicate
abbrev abh:= @List.getElem?_replicate
abbrev Z0:= @List.mem_replicate
abbrev C1:= @List.length_range
abbrev PE:= @BitVec.getLsbD_and
abbrev Vd:= @BitVec.getLsbD_shiftLeft
abbrev zK:= @BitVec.toNat_and
abbrev y9:= @BitVec.toNat_ofInt
abbrev C5:= @Bool.false_and
abbrev pU:= @Bool.true_and
abbrev oP:= @Int.le_refl
abbrev tn:= @Int.lt_or_le
abbrev Fq:= @Int.mul_nonneg
abbrev CT:= @Int.tmod_eq_emod_of_nonneg
abbrev CG:= @List.all_eq_true
abbrev zU:= @List.drop_eq_getElem_cons
abbrev Js:= @List.drop_of_length_le
abbrev CI:= @List.eq_nil_of_length_eq_zero
abbrev Jz:= @List.eraseIdx_eq_take_drop_succ
abbrev wP:= @List.eraseIdx_sublist
abbrev CH:= @List.filter_cons
abbrev Jy:= @List.filter_cons_of_neg
abbrev Jw:= @List.filter_cons_of_pos
abbrev MZ:= @List.filter_eq_self
abbrev Oj:= @List.find?_eq_none
abbrev CN:= @List.flatten_append
abbrev oT:= @List.foldl_append
abbrev nJ:= @List.foldl_cons
abbrev wH:= @List.getElem?_drop
abbrev Jj:= @List.getElem?_modify
abbrev wF:= @List.getElem?_of_mem
abbrev Jk:= @List.getElem?_range
abbrev Aa:= @List.getElem?_set_ne
abbrev qX:= @List.getElem?_take
abbrev Af:= @List.length_drop
abbrev E2:= @List.length_eq_zero_iff
abbrev wM:= @List.length_filter_le
abbrev mH:= @List.length_nil
abbrev wG:= @List.map_congr_left
abbrev kS:= @List.map_map
abbrev jC:= @List.map_set
abbrev Ak:= @List.mem_append_left
abbrev O4:= @List.mem_append_right
abbrev CU:= @List.mem_cons_of_mem
abbrev iI:= @List.mem_filter
abbrev Nd:= @List.mem_iff_getElem?
abbrev Ju:= @List.mem_of_find?_eq_some
abbrev zg:= @List.mem_of_mem_drop
abbrev qd:= @List.mem_of_mem_take
abbrev nt:= @List.mem_range
abbrev iN:= @List.mem_singleton
abbrev tA:= @List.nodup_append
abbrev oL:= @List.nodup_cons
abbrev wQ:= @List.range_succ
abbrev aaI:= @List.set_cons_succ
abbrev JU:= @List.takeWhile_append_dropWhile
abbrev qZ:= @List.take_append_drop
abbrev J0:= @List.take_append_of_le_length
abbrev Fe:= @List.take_left'
abbrev um:= @Nat.add_comm
abbrev oK:= @Nat.add_mul
abbrev E4:= @Nat.eq_zero_or_pos
abbrev oN:= @Nat.le_succ
abbrev CP:= @Nat.lt_irrefl
abbrev Pt:= @Nat.lt_of_le_of_lt
abbrev JG:= @Nat.lt_of_not_le
abbrev jD:= @Nat.lt_or_ge
abbrev wJ:= @Nat.mul_le_mul_right
abbrev zh:= @Nat.mul_one
abbrev MR:= @Nat.succ_mul
abbrev g7:= @Nat.zero_le
abbrev JM:= @Option.join_eq_some_iff
abbrev zD:= @Option.map_eq_some_iff
abbrev nB:= @Option.map_some
namespace Go.Vc
open Go Go.RowKit
inductive S where
 |bool|int (k:IntKind)|str|ptr|slice|map|raw
inductive T1 where
 |sc (s:S)|agg (l:List S)
inductive T2 where
 |one (t:T1)|tup (l:List T1)
structure Sl where
 a:Option Addr
 n:Nat
 c:Nat
instance:Coe Int Value:=⟨λn=> .int .i64 n⟩
instance:Coe Sl Value:=⟨λs=> .slice s.a s.n s.c⟩
instance:Coe World Nat:=⟨λw=>w.heap.size⟩
abbrev Kp(i:Nat)(a b:World):Prop:=b.heap[i]? =a.heap[i]?
abbrev aO(l:List Value):Prop:=l=l
instance:Coe Bool Value:=⟨.bool⟩
instance:Coe (Option Addr) Value:=⟨.pointer⟩
instance:Coe Value Ending:=⟨.returned⟩
inductive WQ|a|b
inductive TQ|a
abbrev po:TQ:=.a
instance:Coe TQ Value:=⟨λ_=> .tuple #[]⟩
abbrev LV:=List Value
instance:Coe World (Option Addr):=⟨λw=>some ⟨w.heap.size,0,none⟩⟩
instance:Coe Nat (Option Addr):=⟨λw=>some ⟨w,0,none⟩⟩
inductive WQ8|a
abbrev fi:WQ8:=.a
instance:CoeFun WQ8 (λ_=>Int->Int):=⟨λ_=>IntKind.wrap .u8⟩
inductive amh|a
abbrev mY:amh:=.a
instance:CoeFun amh (λ_=>Int->Int):=⟨λ_=>IntKind.wrap .u16⟩
inductive ami|a
abbrev azJ:ami:=.a
instance:CoeFun ami (λ_=>Int->Int):=⟨λ_=>IntKind.wrap .u32⟩
inductive amj|a
abbrev dc:amj:=.a
instance:CoeFun amj (λ_=>Int->Int):=⟨λ_=>IntKind.wrap .u64⟩
abbrev ao:WQ:=.a
abbrev aa:WQ:=.b
instance:CoeFun WQ (λ_=>Int->Int):=⟨λ_=>IntKind.wrap .i64⟩
instance:Coe WQ Value:=⟨λ_=> .int .i64 0⟩
abbrev aB(b:Nat):Option Addr:=some ⟨b,0,none⟩
abbrev dC(b o:Nat):Option Addr:=some ⟨b,o,none⟩
class Qdq (b v:Bool) (p:outParam Prop):Prop where
 f:b=v->p
instance {p:Prop} [Decidable p]:Qdq (decide p) true p:=⟨of_decide_eq_true⟩
instance {p:Prop} [Decidable p]:Qdq (decide p) false (¬p):=⟨of_decide_eq_false⟩
instance {a b:Int}:Qdq (a !=b) true (a≠b):=⟨λh=>by simpa using h⟩
instance {a b:Int}:Qdq (a !=b) false (a=b):=⟨λh=>by simpa using h⟩
instance {a b:Int}:Qdq (a==b) true (a=b):=⟨λh=>by simpa using h⟩
instance {a b:Int}:Qdq (a==b) false (a≠b):=⟨λh=>by simpa using h⟩
def cU{b v:Bool}{p:Prop} [q:Qdq b v p] (h:b=v):p:=q.f h
def lE(w:World):w.drew.heap.size=w.heap.size:=rfl
def nA{p:Prop} [Decidable p] (h:decide p=true):p:=of_decide_eq_true h
def nN{p:Prop} [Decidable p] (h:decide p=false):¬p:=of_decide_eq_false h
def QY{v w:World}{g:Nat}{c:Array Value}(e:v=w.setRow g c):v.heap.size=w.heap.size:=by rw [e];simp
def eR{v w:World}{o:Obj}(e:v=w.alloc o):v.heap.size=w.heap.size+1:=by rw [e];simp
def AU{v w u:World}{o:Obj}{g:Nat}{c:Array Value}(e:v=w.alloc o)(f:u=v.setRow g c):u.heap.size=w.heap.size+1:=by rw [f,e];simp
@[reducible] def S.Ty:S->Type
 | .bool=>Bool| .int _=>Int| .str=>ByteArray| .ptr=>Option Addr| .slice=>Sl| .map=>Option Nat| .raw=>Value
def S.mk:(s:S)->s.Ty->Value
 | .bool,b=> .bool b| .int k,n=> .int k n| .str,s=> .string s| .ptr,p=> .pointer p| .slice,s=> .slice s.a s.n s.c
 | .map,r=> .map r| .raw,v=>v
def S.get:(s:S)->Value->Option s.Ty
 | .bool,.bool b=>some b
 | .int .i64,.int .i64 n=>some n| .int .i32,.int .i32 n=>some n| .int .i16,.int .i16 n=>some n| .int .i8,.int .i8 n=>some n
 | .int .u64,.int .u64 n=>some n| .int .u32,.int .u32 n=>some n| .int .u16,.int .u16 n=>some n| .int .u8,.int .u8 n=>some n
 | .str,.string s=>some s| .ptr,.pointer p=>some p| .slice,.slice a n c=>some ⟨a,n,c⟩| .map,.map r=>some r
 | .raw,v=>some v
 |_,_=>none
def S.aiG{s:S}{v:Value}{x:s.Ty}(h:s.get v=some x):v=s.mk x:=by unfold S.get at h;split at h<;>(try cases h)<;>rfl
def S.ex(s:S)(F:Value->Prop):Prop:=∃x:s.Ty,F (s.mk x)
def S.all(s:S)(F:Value->Prop):Prop:=∀x:s.Ty,F (s.mk x)
def exL:List S->(List Value->Prop)->Prop
 | [],F=>F []
 |s::r,F=>s.ex λv=>exL r λvs=>F (v::vs)
def tP:List S->(List Value->Prop)->Prop
 | [],F=>F []
 |s::r,F=>s.all λv=>tP r λvs=>F (v::vs)
def T1.ex:T1->(Value->Prop)->Prop
 | .sc s,F=>s.ex F
 | .agg l,F=>exL l λvs=>F (.agg vs.toArray)
def ex1:List T1->(List Value->Prop)->Prop
 | [],F=>F []
 |t::r,F=>t.ex λv=>ex1 r λvs=>F (v::vs)
def T2.ex:T2->(Value->Prop)->Prop
 | .one t,F=>t.ex F
 | .tup l,F=>ex1 l λvs=>F (.tuple vs.toArray)
def S.lF{s:S}{F:Value->Prop}(h:s.ex F):∃v,F v:=⟨_,h.choose_spec⟩
def KG:∀{l:List S} {F:List Value->Prop},exL l F->∃vs,F vs
 | [],_,h=>⟨[],h⟩
 |_::_,_,⟨_,h⟩=>let ⟨vs,h'⟩:=KG h;⟨_,h'⟩
def T1.lF{t:T1}{F:Value->Prop}(h:t.ex F):∃v,F v:=by
 cases t with
 |sc s=>exact S.lF h
 |agg l=>exact let ⟨_,h'⟩:=KG h;⟨_,h'⟩
def Us:∀{l:List T1} {F:List Value->Prop},ex1 l F->∃vs,F vs
 | [],_,h=>⟨[],h⟩
 |_::_,_,h=>let ⟨_,h1⟩:=T1.lF h;let ⟨_,h2⟩:=Us h1;⟨_,h2⟩
def T2.lF{t:T2}{F:Value->Prop}(h:t.ex F):∃v,F v:=by
 cases t with
 |one t=>exact T1.lF h
 |tup l=>exact let ⟨_,h'⟩:=Us h;⟨_,h'⟩
def aml(P:Program)(t:TypeId):S:=
 match P.underlying t with
 |some .bool=> .bool|some (.int k)=> .int k|some .string=> .str|some (.pointer _)=> .ptr
 |some (.slice _)=> .slice|some (.map _ _)=> .map|_=> .raw
def flat(P:Program):Nat->TypeId->List S
 |0,_=> []
 |d+1,t=>match P.underlying t with
  |some (.struct fs)=>fs.toList.flatMap λf=>flat P d f.type
  |some (.array n e)=>(List.replicate n (flat P d e)).flatten
  |_=> [aml P t]
def A4(P:Program)(t:TypeId):Bool:=
 match P.underlying t with
 |some (.struct _)|some (.array _ _)=>true
 |_=>false
def tQ(P:Program)(t:TypeId):T1:=if A4 P t then .agg (flat P 20 t) else .sc (aml P t)
def axf(P:Program)(l:List TypeId):T2:=
 match l with
 | [t]=> .one (tQ P t)
 |l=> .tup (l.map (tQ P))
def fQ(P:Program)(t:TypeId):Nat:=((P.info? t).map (·.size)).getD 0
@[reducible] def Zy:List S->Type->Type
 | [],β=>β
 |s::r,β=>s.Ty->Zy r β
def iM:(l:List S)->Zy l (World->Prop)->List Value->World->Prop
 | [],f,[],w=>f w
 |s::r,f,v::vs,w=>match s.get v with|some x=>iM r (f x) vs w|none=>False
 |_,_,_,_=>False
def Br(b:Bool)(A B:Prop):Prop:=match b with|true=>A|false=>B
def Br.mk{b:Bool}{A B:Prop}(h1:b=true->A)(h2:b=false->B):Br b A B:=by
 cases b
 ·exact h2 rfl
 ·exact h1 rfl
def Br.tt{b:Bool}{A B:Prop}(h:Br b A B)(hb:b=true):A:=by subst hb;exact h
def Br.ff{b:Bool}{A B:Prop}(h:Br b A B)(hb:b=false):B:=by subst hb;exact h
def aP(l:List Prop)(K:Prop):Prop:=l.foldr And K
def bB{l:List Prop}{K:Prop}:aP l K ↔(∀p ∈ l,p)/\K:=by
 induction l with
 |nil=>simp [aP]
 |cons a l ih=>
  simp only [aP,List.foldr_cons] at ih ⊢;rw [ih,<-and_assoc];exact and_congr_left λ_=>⟨λh q hq=>by cases hq with|head=>exact h.1|tail _ hm=>exact h.2 q hm,λh=>⟨h a (.head _),λq hq=>h q (.tail _ hq)⟩⟩
def dq:Option Addr->List Prop
 |some _=> []
 |none=> [False]
def Mt(y:Int):List Prop:=if y=0 then [False] else []
def eA(a:Option Addr)(i:Int)(n:Nat):Prop:=a.isSome=true/\0<=i/\i<(n:Int)
def ngC(y:Int):List Prop:=if y<0 then [False] else []
def aiH:(∀q ∈ [False],q) ↔ False:=⟨λh=>h _ (.head _),False.elim⟩
def jj{p:Option Addr}:(∀q ∈ dq p,q) ↔ p.isSome=true:=by
 cases p with
 |none=>exact aiH.trans cp
 |some a=>simp [dq]
def si{y:Int}:(∀q ∈ Mt y,q) ↔ y≠0:=by
 unfold Mt;split
 ·rename_i h;exact aiH.trans (by simp [h])
 ·rename_i h;simp [h]
def Eh{y:Int}:(∀q ∈ ngC y,q) ↔ 0<=y:=by
 unfold ngC;split
 ·rename_i h;exact aiH.trans (by simp;omega)
 ·rename_i h;simp;omega
@[simp] def qS{K:Prop}:aP [] K ↔ K:=by simp [aP]
@[simp] def Ei{p:Option Addr}{K:Prop}:aP (dq p) K ↔ p.isSome=true/\K:=by rw [bB,jj]
@[simp] def Ut{y:Int}{K:Prop}:aP (Mt y) K ↔ y≠0/\K:=by rw [bB,si]
@[simp] def aeL{y:Int}{K:Prop}:aP (ngC y) K ↔ 0<=y/\K:=by rw [bB,Eh]
def ae(p:Option Addr)(n:Nat):Option Addr:=p.map (·.add n)
def ld(w:World)(p:Option Addr):Option Value:=p.bind w.cell?
inductive SV where
 |val (v:Value)
 |loc (k off:Nat)
 |sli (k n:Nat)
structure KB where
 idx:Nat
 cells:List Value
 ty:TypeId
 live:Bool
instance:Inhabited KB:=⟨⟨0,[],0,false⟩⟩
def SV.im(n:Nat):SV->Prop
 | .val _=>True
 | .loc k _| .sli k _=>k<n
structure St where
 sl:List SV
 w:World
 kn:List KB
 df:List Nat:=[]
def SV.cg(kn:List KB):SV->Value
 | .val v=>v
 | .loc k off=> .pointer (some ⟨(kn.getD k default).idx,off,none⟩)
 | .sli k n=> .slice (some ⟨(kn.getD k default).idx,0,none⟩) n n
def marks(l:List Nat):List Deferred:=l.map λD=>{target:=.collected D,args:= #[]}
def St.act(s:St):Act:={tmps:=(s.sl.map (SV.cg s.kn)).toArray,defers:=marks s.df}
def St.sv(s:St):Operand->SV
 | .tmp t=>s.sl.getD t (.val undef)
 | .const v=> .val v
 | .global g=> .val (.pointer (some ⟨g,0,none⟩))
 | .func f=> .val (.func (.func f) #[] #[])
def St.ev(s:St)(x:Operand):Value:=(s.sv x).cg s.kn
def St.put(s:St)(d:Option Tmp)(v:SV):St:=
 match d with
 |some d=>{s with sl:=s.sl.set d v}
 |none=>s
def St.ui(s:St)(x:Operand):s.act.eval x=s.ev x:=by
 cases x with
 |tmp t=>
  simp only [Act.eval,St.act,St.ev,St.sv,Array.getD_eq_getD_getElem?,List.getElem?_toArray,aR,dZ]
  cases s.sl[t]? <;>rfl
 |_=>rfl
def St.aeN(s:St)(d:Option Tmp)(v:SV):(s.put d v).act=s.act.put d (v.cg s.kn):=by
 cases d with
 |none=>rfl
 |some d=>simp [St.put,St.act,Act.put,jC]
def St.eval_eq(s:St):s.act.eval=s.ev:=funext s.ui
structure St.Ok(s:St):Prop where
 bf:∀(k:Nat)(kb:KB),s.kn[k]? =some kb->kb.live=true->s.w.heap[kb.idx]? =some (.cells kb.cells.toArray kb.ty (0,0))
 ne:∀(i j:Nat)(x y:KB),s.kn[i]? =some x->s.kn[j]? =some y->x.live=true->y.live=true->x.idx=y.idx->i=j
 mj:∀(i:Nat)(v:SV),s.sl[i]? =some v->v.im s.kn.length
def St.Ok.lt{s:St}(h:s.Ok)(k:Nat)(kb:KB)(hk:s.kn[k]? =some kb)(hl:kb.live=true):kb.idx<s.w.heap.size:=
 (tg.1 (h.bf k kb hk hl)).1
def St.Ok.sv{s:St}(h:s.Ok)(x:Operand):(s.sv x).im s.kn.length:=by
 cases x with
 |tmp t=>
  simp only [St.sv,dZ]
  cases hv:s.sl[t]? with
  |none=>trivial
  |some v=>exact h.mj t v hv
 |_=>trivial
def tR(kn kn':List KB):Prop:=∀(k:Nat)(kb:KB),kn[k]? =some kb->∃kb',kn'[k]? =some kb'/\kb'.idx=kb.idx/\kb'.ty=kb.ty
def tR.refl(kn:List KB):tR kn kn:=λ_ kb h=>⟨kb,h,rfl,rfl⟩
def tR.trans{a b c:List KB}(h:tR a b)(h':tR b c):tR a c:=λk kb hk=>by
 obtain ⟨kb',h1,h2,h2'⟩:=h k kb hk
 obtain ⟨kb'',h3,h4,h4'⟩:=h' k kb' h1
 exact ⟨kb'',h3,h4.trans h2,h4'.trans h2'⟩
def tR.length{a b:List KB}(h:tR a b):a.length<=b.length:=by
 rcases jD b.length a.length with iC|TL
 ·obtain ⟨kb',h1,_⟩:=h b.length a[b.length] (dm iC);simp at h1
 ·exact TL
def tR.cg{kn kn':List KB}(h:tR kn kn'){v:SV}(hv:v.im kn.length):v.cg kn'=v.cg kn:=by
 cases v with
 |val v=>rfl
 |loc k off=>
  obtain ⟨kb',h1,h2,_⟩:=h k kn[k] (dm hv);simp [SV.cg,dZ,h1,h2,dm (show k<kn.length from hv)]
 |sli k n=>
  obtain ⟨kb',h1,h2,_⟩:=h k kn[k] (dm hv);simp [SV.cg,dZ,h1,h2,dm (show k<kn.length from hv)]
def SV.im.mono{n m:Nat}{v:SV}(h:v.im n)(hm:n<=m):v.im m:=by
 cases v
 ·trivial
 ·exact kM h hm
 ·exact kM h hm
structure Fr(W:List Nat)(s s':St):Prop where
 len:s'.sl.length=s.sl.length
 slot:∀i,i ∉ W->(s'.sl.getD i (.val undef)).cg s'.kn=(s.sl.getD i (.val undef)).cg s.kn
 kn:tR s.kn s'.kn
 df:s.df.length<=s'.df.length/\(s'.df.length=s.df.length->s'.df=s.df)
def Fr.refl(W:List Nat)(s:St):Fr W s s:=⟨rfl,λ_ _=>rfl,tR.refl _,aC _,λ_=>rfl⟩
def Fr.trans{W:List Nat}{a b c:St}(h:Fr W a b)(h':Fr W b c):Fr W a c:=
 ⟨h'.len.trans h.len,λi hi=>(h'.slot i hi).trans (h.slot i hi),h.kn.trans h'.kn,gx h.df.1 h'.df.1,λe=>by have h1:=h.df.1;have h2:=h'.df.1;have h3:=h.df.2 ab;have h4:=h'.df.2 ab;exact h4.trans h3⟩
def Fr.mono{W W':List Nat}{a b:St}(h:Fr W a b)(hs:∀i ∈ W,i ∈ W'):Fr W' a b:=
 ⟨h.len,λi hi=>h.slot i (λh'=>hi (hs i h')),h.kn,h.df⟩
def oG(k:IntKind)(x y:Int):Int:=k.wrap ((BitVec.ofInt k.bits x &&& BitVec.ofInt k.bits y).toNat:Nat)
def MM(k:IntKind)(x y:Int):Int:=k.wrap ((BitVec.ofInt k.bits x|||BitVec.ofInt k.bits y).toNat:Nat)
def lk(k:IntKind)(x y:Int):Int:=k.wrap ((BitVec.ofInt k.bits x ^^^ BitVec.ofInt k.bits y).toNat:Nat)
def l8(k:IntKind)(x y:Int):Int:=k.wrap ((BitVec.ofInt k.bits x &&& ~~~ BitVec.ofInt k.bits y).toNat:Nat)
def ti(x y:ByteArray):Bool:=x.toList==y.toList
def strLt(x y:ByteArray):Bool:=Op.bytesLess x.toList y.toList
def aiI(op:BinOp)(k:IntKind)(x y:Int):Option (List Prop × Value):=
 match op with
 | .add=>some ([],.int k (k.wrap (x+y)))
 | .sub=>some ([],.int k (k.wrap (x-y)))
 | .mul=>some ([],.int k (k.wrap (x*y)))
 | .quo=>some (Mt y,.int k (k.wrap (x.tdiv y)))
 | .rem=>some (Mt y,.int k (x.tmod y))
 | .and=>some ([],.int k (oG k x y))
 | .or=>some ([],.int k (MM k x y))
 | .xor=>some ([],.int k (lk k x y))
 | .andNot=>some ([],.int k (l8 k x y))
 | .eql=>some ([],.bool (x==y))
 | .neq=>some ([],.bool (x !=y))
 | .lss=>some ([],.bool (decide (x<y)))
 | .leq=>some ([],.bool (decide (x<=y)))
 | .gtr=>some ([],.bool (decide (x>y)))
 | .geq=>some ([],.bool (decide (x>=y)))
 |_=>none
def aiJ(op:BinOp)(x y:ByteArray):Option (List Prop × Value):=
 match op with
 | .add=>some ([((x.size+y.size:Nat):Int)<=IntKind.i64.max],.string (x++y))
 | .eql=>some ([],.bool (ti x y))
 | .neq=>some ([],.bool (!ti x y))
 | .lss=>some ([],.bool (strLt x y))
 | .leq=>some ([],.bool (strLt x y||ti x y))
 | .gtr=>some ([],.bool (!(strLt x y||ti x y)))
 | .geq=>some ([],.bool (!strLt x y))
 |_=>none
def aiK(op:BinOp)(x y:Bool):Option (List Prop × Value):=
 match op with
 | .eql=>some ([],.bool (x==y))
 | .neq=>some ([],.bool (!(x==y)))
 |_=>none
def ZR(op:BinOp)(k:IntKind)(x y:Int):Option (List Prop × Value):=
 match op with
 | .shl=>some (ngC y,.int k (k.wrap (x*2 ^(min y.toNat k.bits))))
 | .shr=>some (ngC y,.int k (x.fdiv (2 ^(min y.toNat k.bits))))
 |_=>none
def amm:BinOp->Bool| .shl| .shr=>true|_=>false
def KH(P:Program)(t:TypeId):Bool:=match P.underlying t with|some .bool=>true|_=>false
def aeO:Value->Bool| .nilFunc=>true|_=>false
def VO(tb:Bool)(op:BinOp)(x y:Value):Option (List Prop × Value):=
 match aeO y with
 |true=>none
 |false=>match amm op with
 |true=>match x,y with
  | .int k a,.int _ b=>ZR op k a b
  |_,_=>none
 |false=>match x,y with
  | .int k a,.int k' b=>if k=k' then aiI op k a b else none
  | .string a,.string b=>aiJ op a b
  | .bool a,.bool b=>match tb with|true=>aiK op a b|false=>none
  |_,_=>none
def Ej(P:Program)(t:TypeId)(f:Nat):Option Field:=
 match P.underlying t with
 |some (.struct fs)=>fs[f]?
 |_=>none
def aJ(a:Option Addr)(l m size:Nat):Option Addr:=if m=l then a else a.map (·.add (l*size))
def isStr(P:Program)(t:TypeId):Bool:=match P.underlying t with|some .string=>true|_=>false
def gZ(P:Program)(t:TypeId):Option Nat:=(P.info? t).map (·.size)
def ow(P:Program)(t:TypeId):Option (TypeId × Nat):=match P.underlying t with|some (.slice e)=>(gZ P e).map λn=>(e,n)|_=>none
def pT(P:Program)(t:TypeId):Option (Nat × TypeId):=match P.underlying t with|some (.array n e)=>some (n,e)|_=>none
def ap2(v:Option Value)(dflt:Int):Option Int:=match v with|none=>some dflt|some (.int _ i)=>some i|_=>none
def EU(lo hi mx:Option Int)(len cap:Nat):List Prop × Nat × Nat × Nat:=
 match mx with
 |some m=>match hi,lo with
  |some h,some l=>([0<=m,m<=(cap:Int),0<=h,h<=m,0<=l,l<=h],l.toNat,h.toNat,m.toNat)
  |some h,none=>([0<=m,m<=(cap:Int),0<=h,h<=m],0,h.toNat,m.toNat)
  |none,_=>([False],0,0,0)
 |none=>match hi,lo with
  |some h,some l=>([0<=h,h<=(cap:Int),0<=l,l<=h],l.toNat,h.toNat,cap)
  |some h,none=>([0<=h,h<=(cap:Int)],0,h.toNat,cap)
  |none,some l=>([0<=l,l<=(len:Int)],l.toNat,len,cap)
  |none,none=>([],0,len,cap)
def azK:Value->Option Int| .int _ i=>some i|_=>none
def uj:Option Value->Option (Option Int)
 |none=>some none
 |some (.int _ i)=>some (some i)
 |_=>none
def Rm(P:Program)(t:TypeId)(x:Value)(lo hi mx:Option Value):Option (List Prop × Value):=
 match uj lo,uj hi,uj mx with
 |some lo,some hi,some mx=>
  match x with
  | .slice a n c=>match ow P t with
    |some (_,z)=>match EU lo hi mx n c with
     |(cs,l,h,m)=>some (cs,.slice (aJ a l m z) (h-l) (m-l))
    |none=>none
  | .string s=>match isStr P t,mx with
    |true,none=>match EU lo hi none s.size s.size with
     |(cs,l,h,_)=>some (cs,.string (s.extract l h))
    |_,_=>none
  | .pointer p=>match pT P t with
    |some (n,e)=>match gZ P e with
     |some z=>match EU lo hi mx n n with
      |(cs,l,h,m)=>some (dq p++cs,.slice (aJ p l m z) (h-l) (m-l))
     |none=>none
    |none=>none
  |_=>none
 |_,_,_=>none
def arP(P:Program)(t:TypeId)(parts:Array (Nat × Value)):Option (List Value):=
 match (Instr.build t parts).run P default with
 | .ok (.agg cs) _=>some cs.toList
 |_=>none
def ZS:SV->Nat->Option (List Prop × SV)
 | .loc k off,n=>some ([],.loc k (off+n))
 | .val (.pointer p),n=>some (dq p,.val (.pointer (ae p n)))
 |_,_=>none
def aiL(x y:Value):Option Value:=match x,y with| .int k a,.int _ b=>some (.int k (if b<a then b else a))|_,_=>none
def aiM(x y:Value):Option Value:=match x,y with| .int k a,.int _ b=>some (.int k (if b>a then b else a))|_,_=>none
def Jc(f:Value->Value->Option Value):List Value->Value->Option Value
 | [],x=>some x
 |y::r,x=>match f x y with|some z=>Jc f r z|none=>none
def uk(P:Program)(b:Builtin)(ats:Array TypeId)(args:List Value):Option Value:=
 match b,args with
 | .len,[.slice _ n _]=>match ats[0]?.bind (ow P) with|some _=>some (.int .i64 n)|none=>none
 | .len,[.string s]=>match ats[0]?.map (isStr P) with|some true=>some (.int .i64 s.size)|_=>none
 | .cap,[.slice _ _ c]=>match ats[0]?.bind (ow P) with|some _=>some (.int .i64 c)|none=>none
 | .len,[.agg _]=>match ats[0]?.bind (pT P) with|some (n,_)=>some (.int .i64 n)|none=>none
 | .min,x::r=>Jc aiL r x
 | .max,x::r=>Jc aiM r x
 |_,_=>none
def Jd(P:Program)(t:TypeId)(cs:Array Value)(off:Nat):Option Value:=
 match P.underlying t with
 |none=>none
 |some _=>if A4 P t then some (.agg ((cs.toList.drop off).take (fQ P t)).toArray) else cs[off]?
def VP(P:Program)(g:TypeId->Value->Value->Option Bool)(xs ys:Array Value):List Field->Option Bool
 | []=>some true
 | [f]=>if f.name= "_" then none else match Jd P f.type xs f.offset,Jd P f.type ys f.offset with
   |some a,some b=>g f.type a b
   |_,_=>none
 |f::h::r=>if f.name= "_" then none else match Jd P f.type xs f.offset,Jd P f.type ys f.offset with
  |some a,some b=>match g f.type a b,VP P g xs ys (h::r) with
   |some p,some q=>some (p && q)
   |_,_=>none
  |_,_=>none
def eqV(P:Program):Nat->TypeId->Value->Value->Option Bool
 |0,_,_,_=>none
 |d+1,t,x,y=>match P.underlying t,x,y with
  |some (.int _),.int k a,.int k' b=>if k=k' then some (a==b) else none
  |some .bool,.bool a,.bool b=>some (a==b)
  |some .string,.string a,.string b=>some (ti a b)
  |some (.struct fs),.agg xs,.agg ys=>if P.stoodInHeld t then none else VP P (eqV P d) xs ys fs.toList
  |_,_,_=>none
def KI:Value->Bool
 | .nilFunc=>true
 |_=>false
def fnC:Value->List Prop
 | .nilFunc| .func .. => []
 |_=> [False]
def amn(a b:Option Addr):List Prop:=match b with|none=> []|some _=> [a=none]
def amo(a b:Option Addr):Bool:=match b with|none=>a.isNone|some _=>false
def aiN(P:Program)(t:TypeId)(x y:Value):Option (List Prop × Bool):=
 match y with
 | .slice none _ _=>match x,P.underlying t with
   | .slice a _ _,some (.slice _)=>some ([],a.isNone)
   |_,_=>none
 | .pointer b=>match x,P.underlying t with
   | .pointer a,some (.pointer _)=>some (amn a b,amo a b)
   |_,_=>none
 | .map none=>match x,P.underlying t with
   | .map a,some (.map _ _)=>some ([],a.isNone)
   |_,_=>none
 | .nilFunc=>match P.underlying t with
   |some (.func _ _ _)=>some (fnC x,KI x)
   |_=>none
 | .agg ys=>match x with
   | .agg xs=>match P.eqGuardType P.depth t with
     |false=>(eqV P 20 t (.agg xs) (.agg ys)).map λb=>([],b)
     |true=>none
   |_=>none
 |_=>none
def aiO:BinOp->Option Bool| .eql=>some true| .neq=>some false|_=>none
def ZT(P:Program)(op:BinOp)(t:TypeId)(x y:Value):Option (List Prop × Value):=
 match aiO op,aiN P t x y with
 |some true,some (c,b)=>some (c,.bool b)
 |some false,some (c,b)=>some (c,.bool (!b))
 |_,_=>none
def ej(P:Program)(s:St)(op:Op):Option (List Prop × SV):=
 match op with
 | .move x| .assign x=>some ([],s.sv x)
 | .pick c a b=>match s.sv c with
   | .val (.bool c)=>some ([],match c with|true=>s.sv a|false=>s.sv b)
   |_=>none
 | .extract t i=>match s.sv t with
   | .val (.tuple vs)=>vs[i]?.map λv=>([],.val v)
   |_=>none
 | .fieldAddr t x f=>match Ej P t f with
   |some fd=>if fQ P fd.type=0 then none else ZS (s.sv x) fd.offset
   |none=>none
 | .field t x f=>match s.sv x,Ej P t f with
   | .val (.agg cs),some fd=>if (P.underlying fd.type).isNone then none else if A4 P fd.type then some ([],.val (.agg ((cs.toList.drop fd.offset).take (fQ P fd.type)).toArray)) else cs[fd.offset]?.map λv=>([],.val v)
   |_,_=>none
 | .nilCheck x=>match s.sv x with
   | .loc k off=>some ([],.loc k off)
   | .val (.pointer p)=>some (dq p,.val (.pointer p))
   |_=>none
 | .indexAddr t x i=>match s.ev i with
   | .int _ i=>match ow P t,s.ev x with
     |some (_,z),.slice a n _=>some ([eA a i n],.val (.pointer (ae a (i.toNat*z))))
     |none,.pointer p=>match pT P t with
      |some (n,e)=>(gZ P e).map λz=>(dq p++ [0<=i,i<(n:Int)],.val (.pointer (ae p (i.toNat*z))))
      |none=>none
     |_,_=>none
   |_=>none
 | .index t x i=>match s.ev x,s.ev i with
   | .string b,.int _ i=>if isStr P t then some ([0<=i,i<(b.size:Int)],.val (.int .u8 (b.data.toList.getD i.toNat 0).toNat)) else none
   |_,_=>none
 | .binOp op t x y _=>match VO (KH P t) op (s.ev x) (s.ev y) with
   |some (c,v)=>some (c,.val v)
   |none=>(ZT P op t (s.ev x) (s.ev y)).map λ(c,v)=>(c,.val v)
 | .unOp .not _ x=>match s.ev x with
   | .bool b=>some ([],.val (.bool !b))
   |_=>none
 | .unOp .neg _ x=>match s.ev x with
   | .int k n=>some ([],.val (.int k (k.wrap (0-n))))
   |_=>none
 | .convert src dst x=>match P.underlying src,P.underlying dst,s.ev x with
   |some (.int _),some (.int k),.int _ n=>some ([],.val (.int k (k.wrap n)))
   |some .string,some .string,.string b=>some ([],.val (.string b))
   |_,_,_=>none
 | .slice t x lo hi mx=>(Rm P t (s.ev x) (lo.map s.ev) (hi.map s.ev) (mx.map s.ev)).map λ(c,v)=>(c,.val v)
 | .call {callee:=.builtin b,args,argTypes}=>(uk P b argTypes (args.toList.map s.ev)).map λv=>([],.val v)
 |_=>none
def aI(P:Program)(t:TypeId)(w:World):(underlying t).run P w=match P.underlying t with|some d=> .ok d w|none=> .halt (.stuck "no such type") w:=by
 simp only [underlying,program,bind,Sem.bind,Sem.run]
 cases P.underlying t<;>rfl
def eo(P:Program)(t:TypeId)(w:World):(typeInfo t).run P w=match P.info? t with|some d=> .ok d w|none=> .halt (.stuck "no such type") w:=by
 simp only [typeInfo,program,bind,Sem.bind,Sem.run]
 cases P.info? t<;>rfl
def fb{P:Program}{t:TypeId}{w:World}(h:(P.info? t).isSome=true):(sizeOf t).run P w=.ok (fQ P t) w:=by
 simp only [sizeOf,Sem.run_bind,eo,fQ]
 cases h':P.info? t<;>simp_all
def info_of_underlying{P:Program}{t:TypeId}{d:TypeDesc}(h:P.underlying t=some d):(P.info? t).isSome=true:=by
 unfold Program.underlying at h
 cases h':P.info? t<;>simp_all
def ahk(P:Program)(ρ:Operand->Value)(o:Oper)(v:Value):Prop:=∀w,(execOp ρ o).run P w=.ok (.value v) w
def ZU{a b:List Prop}(h:∀p ∈ a++b,p):(∀p ∈ a,p)/\∀p ∈ b,p:=⟨λp hp=>h p (cV.2 (.inl hp)),λp hp=>h p (cV.2 (.inr hp))⟩
section
variable {P:Program} {ρ:Operand->Value} {o:Oper}
def eD{v:Value}{s:Sem Value}(he:execOp ρ o=(do pure (.value (<-s))))(h:∀w,s.run P w=.ok v w):ahk P ρ o v:=by intro w;rw [he,Sem.run_bind,h];rfl
def ZV{op:BinOp}{t:TypeId}{k:IntKind}{x y:Int}{cs:List Prop}{v:Value}(hs:amm op=false)(h:aiI op k x y=some (cs,v))(hc:∀p ∈ cs,p)(w:World):
  (binOp op t (.int k x) (.int k y)).run P w=.ok v w:=by
 cases op<;>simp only [aiI,Option.some.injEq,Prod.mk.injEq,reduceCtorEq] at h<;>(try exact absurd hs aF)<;>(try (obtain ⟨rfl,rfl⟩:=h))
 all_goals (try simp [binOp,Op.intArith,Op.intBits,Op.intCmp,oG,MM,lk,l8];done)
 all_goals
  rw [si] at hc
  simp [binOp,Op.intDiv,hc]
def ZW{op:BinOp}{t:TypeId}{x y:ByteArray}{cs:List Prop}{v:Value}(h:aiJ op x y=some (cs,v))(hc:∀p ∈ cs,p)(w:World):
  (binOp op t (.string x) (.string y)).run P w=.ok v w:=by
 cases op<;>simp only [aiJ,Option.some.injEq,Prod.mk.injEq,reduceCtorEq] at h<;>(try (obtain ⟨rfl,rfl⟩:=h))
 all_goals (try simp [binOp,Op.stringOp,ti,strLt];done)
 have:=hc _ (iN.2 rfl);simp only [binOp,Op.stringOp];rw [if_neg ab];rfl
def ZX{op:BinOp}{t:TypeId}{x y:Bool}{cs:List Prop}{v:Value}(ht:P.underlying t=some .bool)(h:aiK op x y=some (cs,v))(w:World):
  (binOp op t (.bool x) (.bool y)).run P w=.ok v w:=by
 have e:(Op.equal t (.bool x) (.bool y)).run P w=.ok (x==y) w:=by unfold Op.equal Op.maxDepth;rw [show (10000:Nat)=9999+1 from rfl,Op.equalIn,Sem.run_bind,aI,ht];rfl
 cases op<;>simp only [aiK,Option.some.injEq,Prod.mk.injEq,reduceCtorEq] at h<;>(try (obtain ⟨rfl,rfl⟩:=h))
 all_goals (show (binOp _ t (.bool x) (.bool y)).run P w=_;unfold binOp;rw [Sem.run_bind,e];rfl)
def VQ{op:BinOp}{t:TypeId}{k k':IntKind}{x y:Int}{cs:List Prop}{v:Value}(h:ZR op k x y=some (cs,v))(hc:∀p ∈ cs,p)(w:World):
  (binOp op t (.int k x) (.int k' y)).run P w=.ok v w:=by
 cases op<;>simp only [ZR,Option.some.injEq,Prod.mk.injEq,reduceCtorEq] at h<;>(try (obtain ⟨rfl,rfl⟩:=h))
 all_goals
  rw [Eh] at hc
  simp only [binOp,Op.shift]
  rw [if_neg ab];rfl
def CD(op:BinOp)(t:TypeId)(x y:Operand)(a b:Value)(h1:a≠ .nilIface)(h2:∀c,a≠ .agg c)(w:World):(eqGuard op t x y a b).run P w=.ok () w:=by cases op<;>first|rfl|(cases a<;>first|rfl|exact absurd rfl h1|exact absurd rfl (h2 _))
def ZY{op:BinOp}{t:TypeId}{x y:Value}{cs:List Prop}{v:Value}(h:VO (KH P t) op x y=some (cs,v))(hc:∀p ∈ cs,p)(w:World):
  (binOp op t x y).run P w=.ok v w:=by
 unfold VO at h;split at h
 ·cases h
 split at h
 ·split at h
  ·exact VQ h hc w
  ·exact absurd h cp
 ·rename_i hs;split at h
  ·split at h
   ·rename_i e;subst e;exact ZV hs h hc w
   ·exact absurd h cp
  ·exact ZW h hc w
  ·split at h
   ·rename_i ht;have ht:P.underlying t=some .bool:=by
     unfold KH at ht;split at ht
     ·assumption
     ·cases ht
    exact ZX ht h w
   ·cases h
  ·exact absurd h cp
def VR{tb:Bool}{op:BinOp}{x y:Value}{r:List Prop × Value}(h:VO tb op x y=some r):x≠ .nilIface/\∀c,x≠ .agg c:=by
 constructor
 ·rintro rfl;unfold VO at h;split at h
  ·cases h
  ·split at h<;>simp at h
 ·rintro c rfl;unfold VO at h;split at h
  ·cases h
  ·split at h<;>simp at h
end
section
variable {P:Program} {s:St} {o:Oper}
def yS{t:TypeId}{f:Nat}{fd:Field}(h:Ej P t f=some fd):∃fs,P.underlying t=some (.struct fs)/\fs[f]? =some fd:=by
 unfold Ej at h;split at h
 ·rename_i fs hu;exact ⟨fs,hu,h⟩
 ·cases h
def kN{t e:TypeId}{z:Nat}(h:ow P t=some (e,z)):P.underlying t=some (.slice e)/\∀w,(sizeOf e).run P w=.ok z w:=by
 unfold ow at h;split at h
 ·rename_i e' hu;unfold gZ at h
  cases h':P.info? e' with
  |none=>simp [h'] at h
  |some i=>
   simp [h'] at h;obtain ⟨rfl,rfl⟩:=h;exact ⟨hu,λw=>by rw [fb (by simp [h'])];simp [fQ,h']⟩
 ·cases h
def c2{a b:Prop}(h:∀p ∈ [a,b],p):a/\b:=⟨h a cp,h b cp⟩
def c4{a b c d:Prop}(h:∀p ∈ [a,b,c,d],p):a/\b/\c/\d:=⟨h a cp,h b cp,h c cp,h d cp⟩
def c6{a b c d e f:Prop}(h:∀p ∈ [a,b,c,d,e,f],p):a/\b/\c/\d/\e/\f:=⟨h a cp,h b cp,h c cp,h d cp,h e cp,h f cp⟩
def oH{t:TypeId}(h:isStr P t=true):P.underlying t=some .string:=by
 unfold isStr at h;split at h
 ·assumption
 ·cases h
def KJ{isS:Bool}{lo hi mx:Option Value}{lo' hi' mx':Option Int}{len cap:Nat}{cs:List Prop}{l h m:Nat}(e1:uj lo=some lo')(e2:uj hi=some hi')(e3:uj mx=some mx')
  (og:EU lo' hi' mx' len cap=(cs,l,h,m))(hc:∀p ∈ cs,p)(w:World):(Instr.sliceBounds isS len cap lo hi mx).run P w=.ok (l,h,m) w:=by
 have key:∀(x:Value)(i:Int)(y:Nat)(code:BoundsCode)(w:World),uj (some x)=some (some i)->0<=i->i<=(y:Int)->(Instr.sliceBound x y code).run P w=.ok i.toNat w:=by
  intro x i y code w hx h0 h1
  cases x<;>simp [uj] at hx
  subst hx;simp [Instr.sliceBound,asIntOf,h0,h1]
 have n3:∀{x:Option Value},uj x=some none->x=none:=by intro x hx;unfold uj at hx;split at hx<;>simp_all
 have s3:∀{x:Option Value} {i:Int},uj x=some (some i)->∃v,x=some v/\uj (some v)=some (some i):=by
  intro x i hx;cases x with
  |none=>simp [uj] at hx
  |some v=>exact ⟨v,rfl,hx⟩
 unfold Instr.sliceBounds
 cases mx' with
 |none=>
  obtain rfl:=n3 e3
  cases hi' with
  |none=>
   obtain rfl:=n3 e2
   cases lo' with
   |none=>obtain rfl:=n3 e1;simp [EU] at og;obtain ⟨rfl,rfl,rfl,rfl⟩:=og;rfl
   |some i=>
    obtain ⟨v,rfl,hv⟩:=s3 e1;simp [EU] at og;obtain ⟨rfl,rfl,rfl,rfl⟩:=og;have hc:=c2 hc;simp [key v i len _ w hv hc.1 hc.2]
  |some j=>
   obtain ⟨u,rfl,hu⟩:=s3 e2
   cases lo' with
   |none=>
    obtain rfl:=n3 e1;simp [EU] at og;obtain ⟨rfl,rfl,rfl,rfl⟩:=og;have hc:=c2 hc;simp [key u j cap _ w hu hc.1 hc.2]
   |some i=>
    obtain ⟨v,rfl,hv⟩:=s3 e1;simp [EU] at og;obtain ⟨rfl,rfl,rfl,rfl⟩:=og;have hc:=c4 hc;simp [key u j cap _ w hu hc.1 hc.2.1,key v i j.toNat _ w hv hc.2.2.1 ab]
 |some q=>
  obtain ⟨x,rfl,hx⟩:=s3 e3
  cases hi' with
  |none=>simp [EU] at og;obtain ⟨rfl,_⟩:=og;exact (hc _ (iN.2 rfl)).elim
  |some j=>
   obtain ⟨u,rfl,hu⟩:=s3 e2
   cases lo' with
   |none=>
    obtain rfl:=n3 e1;simp [EU] at og;obtain ⟨rfl,rfl,rfl,rfl⟩:=og;have hc:=c4 hc;simp [key x q cap _ w hx hc.1 hc.2.1,key u j q.toNat _ w hu hc.2.2.1 ab]
   |some i=>
    obtain ⟨v,rfl,hv⟩:=s3 e1;simp [EU] at og;obtain ⟨rfl,rfl,rfl,rfl⟩:=og;have hc:=c6 hc;simp [key x q cap _ w hx hc.1 hc.2.1,key u j q.toNat _ w hu hc.2.2.1 ab,key v i j.toNat _ w hv hc.2.2.2.2.1 ab]
def Ro{t:TypeId}{x:Value}{lo hi mx:Option Value}{cs:List Prop}{v:Value}(h:Rm P t x lo hi mx=some (cs,v))(hc:∀p ∈ cs,p)(w:World):
  (Instr.sliceAt t x lo hi mx).run P w=.ok v w:=by
 unfold Rm at h;split at h
 ·rename_i lo' hi' mx' e1 e2 e3;split at h
  ·rename_i a n c;split at h
   ·rename_i e z he;split at h;rename_i cs' l q m og;simp only [Option.some.injEq,Prod.mk.injEq] at h;obtain ⟨rfl,rfl⟩:=h;obtain ⟨hu,hz⟩:=kN he;simp only [Instr.sliceAt,Sem.run_bind,aI,hu,Result.andThen_ok,Instr.slice,KJ e1 e2 e3 og hc,hz];rfl
   ·cases h
  ·rename_i b;split at h
   ·have he:isStr P t=true:=by assumption
    split at h;rename_i cs' l q m og;simp only [Option.some.injEq,Prod.mk.injEq] at h;obtain ⟨rfl,rfl⟩:=h;have hu:=oH he;have hmx:mx=none:=by
     cases mx with
     |none=>rfl
     |some u=>cases u<;>simp [uj] at e3
    subst hmx;simp only [Instr.sliceAt,Sem.run_bind,aI,hu,Result.andThen_ok,Instr.slice];have am4:=KJ (P:=P) (isS:=false) e1 e2 (mx:=none) (mx':=none) rfl og hc w;simp [am4]
   ·cases h
  ·rename_i p;split at h
   ·rename_i n e he;split at h
    ·rename_i z hz;split at h;rename_i cs' l q m og;simp only [Option.some.injEq,Prod.mk.injEq] at h;obtain ⟨rfl,rfl⟩:=h;obtain ⟨h1,h2⟩:=ZU hc;obtain ⟨a,rfl⟩:=oE.1 (jj.1 h1);have hu:P.underlying t=some (.array n e):=by
      unfold pT at he;split at he
      ·rename_i hu;cases he;exact hu
      ·cases he
     have hz':(sizeOf e).run P w=.ok z w:=by
      unfold gZ at hz
      cases hi':P.info? e with
      |none=>simp [hi'] at hz
      |some i'=>simp [hi'] at hz;rw [fb (by simp [hi'])];simp [fQ,hi',hz]
     simp only [Instr.sliceAt,Instr.sureAddr,Sem.run_bind,Sem.run_pure,aI,hu,Result.andThen_ok,KJ (isS:=false) e1 e2 e3 og h2,hz'];unfold aJ;split<;>rfl
    ·cases h
   ·cases h
  ·cases h
 ·cases h
def EV{a:Addr}{f:Field}(h:fQ P f.type≠0)(w:World):(fieldPlace a f).run P w=.ok (a.add f.offset) w:=by
 have hs:(P.info? f.type).isSome=true:=by
  cases h':P.info? f.type with
  |none=>simp [fQ,h'] at h
  |some i=>rfl
 simp only [fieldPlace,Sem.run_bind,fb hs,Result.andThen_ok,if_neg h];rfl
def ZZ{x:SV}{kn:List KB}{n:Nat}{cs:List Prop}{sv:SV}(h:ZS x n=some (cs,sv))(hc:∀p ∈ cs,p):
  ∃a:Addr,x.cg kn=.pointer (some a)/\sv.cg kn=.pointer (some (a.add n)):=by
 cases x with
 |loc k off=>
  simp only [ZS,Option.some.injEq,Prod.mk.injEq] at h;obtain ⟨rfl,rfl⟩:=h;refine ⟨_,rfl,?_⟩;simp only [SV.cg,Addr.add];split
  ·rename_i h0;rw [h0];rfl
  ·rfl
 |sli k n=>cases h
 |val v=>
  cases v<;>simp [ZS] at h
  rename_i p;obtain ⟨rfl,rfl⟩:=h;rw [jj] at hc
  cases p with
  |none=>cases hc
  |some a=>exact ⟨a,rfl,rfl⟩
def Je{f:Value->Value->Option Value}{g:Value->Value->Sem Value}(hfg:∀x y z,f x y=some z->∀w,(g x y).run P w=.ok z w):
  ∀(l:List Value)(x z:Value),Jc f l x=some z->∀w,(l.foldlM g x).run P w=.ok z w:=by
 intro l
 induction l with
 |nil=>intro x z h w;simp only [Jc,Option.some.injEq] at h;subst h;rfl
 |cons y r ih=>
  intro x z h w;simp only [Jc] at h;split at h
  ·rename_i u hu;rw [List.foldlM_cons,Sem.run_bind,hfg _ _ _ hu];exact ih _ _ h w
  ·cases h
def KK{b:Builtin}{ats:Array TypeId}{ty:TypeId}{cs:Array Bool}{args:Array Value}{v:Value}(h:uk P b ats args.toList=some v)(w:World):
  (builtin b ats ty cs args).run P w=.ok (.value v) w:=by
 obtain ⟨l⟩:=args;simp only at h;unfold uk at h;split at h
 ·split at h
  ·rename_i hx
   cases h
   cases ha:ats[0]? with
   |none=>simp [ha] at hx
   |some t=>
    simp [ha] at hx;obtain ⟨hu,_⟩:=kN hx;simp [builtin,Builtin.len_,ha,aI,hu,goInt]
  ·cases h
 ·split at h
  ·rename_i hx
   cases h
   cases ha:ats[0]? with
   |none=>simp [ha] at hx
   |some t=>
    simp [ha] at hx;have hu:=oH hx;simp [builtin,Builtin.len_,ha,aI,hu,goInt]
  ·cases h
 ·split at h
  ·rename_i hx
   cases h
   cases ha:ats[0]? with
   |none=>simp [ha] at hx
   |some t=>
    simp [ha] at hx;obtain ⟨hu,_⟩:=kN hx;simp [builtin,Builtin.cap_,ha,aI,hu,goInt]
  ·cases h
 ·split at h
  ·rename_i n e hx
   cases h
   cases ha:ats[0]? with
   |none=>simp [ha] at hx
   |some t=>
    simp [ha] at hx;have hu:P.underlying t=some (.array n e):=by
     unfold pT at hx;split at hx
     ·rename_i hu;cases hx;exact hu
     ·cases hx
    simp [builtin,Builtin.len_,ha,aI,hu,goInt]
  ·cases h
 ·have:=Je (P:=P) (f:=aiL) (g:=Builtin.min2) (by
   intro x y z hz w
   cases x<;>cases y<;>simp [aiL] at hz
   subst hz;rfl) _ _ _ h w
  simp only [builtin,Builtin.min_,Sem.run_bind,this];rfl
 ·have:=Je (P:=P) (f:=aiM) (g:=Builtin.max2) (by
   intro x y z hz w
   cases x<;>cases y<;>simp [aiM] at hz
   subst hz;rfl) _ _ _ h w
  simp only [builtin,Builtin.max_,Sem.run_bind,this];rfl
 ·cases h
def eS{α β:Type}{a c:α}{b d:β}(h:some (a,b)=some (c,d)):a=c/\b=d:=by cases h;exact ⟨rfl,rfl⟩
def aeP{x:Option (List Prop × Value)}{cs:List Prop}{sv:SV}(h:(x.map λ(c,v)=>(c,SV.val v))=some (cs,sv)):∃v,x=some (cs,v)/\sv=.val v:=by
 cases x with
 |none=>cases h
 |some p=>obtain ⟨a,b⟩:=p;cases h;exact ⟨b,rfl,rfl⟩
def Jf{x:Operand}{v:SV}(h:s.sv x=v):s.ev x=v.cg s.kn:=by simp only [St.ev,h]
def yT{t:TypeId}{cs:Array Value}{off:Nat}(w:World)(hn:(P.underlying t).isNone=false):
  (A4 P t=true->(part t cs off).run P w=.ok (.agg ((cs.toList.drop off).take (fQ P t)).toArray) w)/\(A4 P t=false->∀v,cs[off]? =some v->(part t cs off).run P w=.ok v w):=by
 have hu:∃d,P.underlying t=some d:=by
  cases hh:P.underlying t with
  |some d=>exact ⟨d,rfl⟩
  |none=>simp [hh] at hn
 obtain ⟨d,hu⟩:=hu;have hi:=info_of_underlying hu;constructor
 ·intro h;have:(isAgg t).run P w=.ok true w:=by
   simp only [isAgg,Sem.run_bind,aI,hu,Result.andThen_ok];unfold A4 at h;rw [hu] at h
   cases d<;>first|rfl|(simp at h)
  simp only [part,Sem.run_bind,this,Result.andThen_ok,if_true,fb hi,Sem.run_pure];congr 2;apply Array.ext';simp [List.take_drop,um]
 ·intro h v hv;have:(isAgg t).run P w=.ok false w:=by
   simp only [isAgg,Sem.run_bind,aI,hu,Result.andThen_ok];unfold A4 at h;rw [hu] at h
   cases d<;>first|rfl|(simp at h)
  simp [part,this,hv]
def vl{t:TypeId}{cs:Array Value}{off:Nat}{v:Value}(h:Jd P t cs off=some v)(w:World):(part t cs off).run P w=.ok v w:=by
 unfold Jd at h;split at h
 ·cases h
 ·rename_i d hu;have hp:=yT (P:=P) (t:=t) (cs:=cs) (off:=off) w (by rw [hu];rfl);split at h
  ·rename_i ha;cases h;exact hp.1 ha
  ·rename_i ha;exact hp.2 (by simpa using ha) v h
def MN{g:TypeId->Value->Value->Option Bool}{d:Nat}(hg:∀t x y b,g t x y=some b->∀w,(Op.equalIn d t x y).run P w=.ok b w)(xs ys:Array Value):
  ∀(fs:List Field)(b:Bool),VP P g xs ys fs=some b->∀w,(Op.eqFields d xs ys fs).run P w=.ok b w
 | [],b,h,w=>by simp only [VP,Option.some.injEq] at h;subst h;rfl
 | [f],b,h,w=>by
   unfold VP at h
   split at h
   ·cases h
   ·rename_i hn
    split at h
    ·rename_i x y hx hy
     simp only [Op.eqFields,if_pos (show f.name≠ "_" from hn),Sem.run_bind,vl hx,vl hy,Result.andThen_ok,hg _ _ _ _ h]
     cases b<;>rfl
    ·cases h
 |f::f'::r,b,h,w=>by
  unfold VP at h
  split at h
  ·cases h
  ·rename_i hn
   split at h
   ·rename_i x y hx hy
    split at h
    ·rename_i p q hp hq
     cases h
     rw [Op.eqFields,if_pos (show f.name≠ "_" from hn)]
     simp only [Sem.run_bind,vl hx,vl hy,Result.andThen_ok,hg _ _ _ _ hp]
     cases p with
     |false=>rfl
     |true=>simpa using MN hg xs ys (f'::r) q hq w
    ·cases h
   ·cases h
def KL:∀(d:Nat)(t:TypeId)(x y:Value)(b:Bool),eqV P d t x y=some b->∀(n:Nat),d<=n->∀w,(Op.equalIn n t x y).run P w=.ok b w
 |0,t,x,y,b,h,n,hn,w=>by cases h
 |d+1,t,x,y,b,h,n,hn,w=>by
  obtain ⟨m,rfl⟩:∃m,n=m+1:=⟨n-1,by omega⟩
  unfold eqV at h
  split at h
  ·rename_i k0 k a k' b' hu
   split at h
   ·rename_i e;subst e;cases h;exact run_equalIn_int w m t k k0 a b' hu
   ·cases h
  ·rename_i a b' hu;cases h;exact run_equalIn_bool w m t a b' hu
  ·rename_i a b' hu;cases h;exact run_equalIn_string w m t a b' hu
  ·rename_i fs xs ys hu
   split at h
   ·cases h
   ·rename_i hs
    have hf:P.fieldsOf t=fs:=by simp [Program.fieldsOf,hu]
    rw [run_equalIn_struct w m t xs ys (by rw [hf];exact hu) (by simpa using hs),hf];exact MN (λt x y b hb w=>KL d t x y b hb m ab w) xs ys fs.toList b h w
  ·cases h
def lG{t:TypeId}{x y:Value}{b:Bool}{w:World}(h:(Op.equalIn (9999+1) t x y).run P w=.ok b w):(Op.equal t x y).run P w=.ok b w:=h
def MO{t:TypeId}{x y:Value}{cs:List Prop}{b:Bool}(h:aiN P t x y=some (cs,b))(hc:∀p ∈ cs,p)(w:World):
  (Op.equal t x y).run P w=.ok b w/\(∀op (xo yo:Operand),(eqGuard op t xo yo x y).run P w=.ok () w)/\(x≠ .nilIface)/\
  (∀op,(binOp op t x y)=match op with| .eql=>(do pure (.bool (<-Op.equal t x y)))| .neq=>(do pure (.bool (!(<-Op.equal t x y))))|o=>binOp o t x y):=by
 have g:∀op (xo yo:Operand),x≠ .nilIface->(∀c,x≠ .agg c)->(eqGuard op t xo yo x y).run P w=.ok () w:=λop xo yo h1 h2=>CD op t xo yo x y h1 h2 w
 unfold aiN at h;split at h
 ·split at h
  ·rename_i a n c e hu;obtain ⟨rfl,rfl⟩:=eS h;refine ⟨lG ?_,λop xo yo=>g op xo yo cp cp,by simp,λop=>by cases op<;>rfl⟩;rw [Op.equalIn,Sem.run_bind,aI,hu]
   cases a<;>rfl
  ·cases h
 ·rename_i b;split at h
  ·rename_i a e hu;obtain ⟨rfl,rfl⟩:=eS h;refine ⟨lG ?_,λop xo yo=>g op xo yo cp cp,by simp,λop=>by cases op<;>rfl⟩;rw [Op.equalIn,Sem.run_bind,aI,hu]
   cases b with
   |none=>cases a<;>rfl
   |some y=>
    have ha:a=none:=hc _ (iN.2 rfl);subst ha;rfl
  ·cases h
 ·split at h
  ·rename_i a k e hu;obtain ⟨rfl,rfl⟩:=eS h;refine ⟨lG ?_,λop xo yo=>g op xo yo cp cp,by simp,λop=>by cases op<;>rfl⟩;rw [Op.equalIn,Sem.run_bind,aI,hu]
   cases a<;>rfl
  ·cases h
 ·split at h
  ·rename_i a1 a2 a3 hu;obtain ⟨rfl,rfl⟩:=eS h
   cases x with
   |nilFunc=>
    refine ⟨lG ?_,λop xo yo=>g op xo yo cp cp,by simp,λop=>by cases op<;>rfl⟩;rw [Op.equalIn,Sem.run_bind,aI,hu];rfl
   |func fn fs cs=>
    refine ⟨lG ?_,λop xo yo=>g op xo yo cp cp,by simp,λop=>by cases op<;>rfl⟩;rw [Op.equalIn,Sem.run_bind,aI,hu];rfl
   |_=>exact (hc False (iN.2 rfl)).elim
  ·cases h
 ·rename_i ys;split at h
  ·rename_i xs;split at h
   ·rename_i hg
    cases he:eqV P 20 t (.agg xs) (.agg ys) with
    |none=>rw [he] at h;cases h
    |some b'=>
     rw [he] at h;obtain ⟨rfl,rfl⟩:=eS h;refine ⟨lG (KL 20 t _ _ _ he _ ab w),λop xo yo=>run_eqGuard_agg w op t xo yo _ _ hg,by simp,λop=>by cases op<;>rfl⟩
   ·cases h
  ·cases h
 ·cases h
def VS{op:BinOp}{t:TypeId}{x y:Value}{cs:List Prop}{v:Value}(h:ZT P op t x y=some (cs,v))(hc:∀p ∈ cs,p)(w:World)(xo yo:Operand):
  (eqGuard op t xo yo x y).run P w=.ok () w/\(binOp op t x y).run P w=.ok v w:=by
 unfold ZT at h;split at h
 ·rename_i c b ho hcv;obtain ⟨rfl,rfl⟩:=eS h;obtain ⟨h1,h2,_,h4⟩:=MO hcv hc w;refine ⟨h2 op xo yo,?_⟩
  cases op<;>simp [aiO] at ho
  rw [h4,Sem.run_bind,h1];rfl
 ·rename_i c b ho hcv;obtain ⟨rfl,rfl⟩:=eS h;obtain ⟨h1,h2,_,h4⟩:=MO hcv hc w;refine ⟨h2 op xo yo,?_⟩
  cases op<;>simp [aiO] at ho
  rw [h4,Sem.run_bind,h1];rfl
 ·cases h
def sj{cs:List Prop}{sv:SV}(h:ej P s o.op=some (cs,sv))(hc:∀p ∈ cs,p):ahk P s.ev o (sv.cg s.kn):=by
 obtain ⟨dst,op,ty,pos,after,guard⟩:=o;simp only at h
 cases op with
 |move x=>obtain ⟨rfl,rfl⟩:=eS h;exact λw=>rfl
 |assign x=>obtain ⟨rfl,rfl⟩:=eS h;exact λw=>rfl
 |pick c a b=>
  simp only [ej] at h;split at h
  ·rename_i t hx;obtain ⟨rfl,rfl⟩:=eS h;intro w;simp only [execOp,Jf hx]
   cases t<;>rfl
  ·cases h
 |extract t i=>
  simp only [ej] at h;split at h
  ·rename_i vs hx
   cases hv:vs[i]? with
   |none=>simp [hv] at h
   |some v=>
    simp [hv] at h;obtain ⟨rfl,rfl⟩:=h;intro w;simp [execOp,Jf hx,Instr.extract,hv,SV.cg]
  ·cases h
 |fieldAddr t x f=>
  simp only [ej] at h;split at h
  ·rename_i fd hf;split at h
   ·cases h
   ·rename_i hz;obtain ⟨a,e1,e2⟩:=ZZ (kn:=s.kn) h hc;obtain ⟨fs,hu,hfs⟩:=yS hf;refine eD rfl λw=> ?_
    simp only [Instr.fieldAt,Sem.run_bind,aI,hu,Result.andThen_ok,hfs,St.ev,e1,Instr.sureAddr,Sem.run_pure,EV hz,e2]
  ·cases h
 |field t x f=>
  simp only [ej] at h;split at h
  ·rename_i cs' fd hx hf;obtain ⟨fs,hu,hfs⟩:=yS hf;refine eD rfl λw=> ?_
   simp only [Instr.field,Sem.run_bind,aI,hu,Result.andThen_ok,hfs,Jf hx,SV.cg,asAgg,Sem.run_pure];split at h
   ·cases h
   rename_i hn;have hp:=yT (P:=P) (t:=fd.type) (cs:=cs') (off:=fd.offset) w (by cases hq:P.underlying fd.type<;>simp_all);split at h
   ·rename_i ha;obtain ⟨rfl,rfl⟩:=eS h;exact hp.1 ha
   ·rename_i ha
    cases hv:cs'[fd.offset]? with
    |none=>simp [hv] at h
    |some v=>
     simp [hv] at h;obtain ⟨rfl,rfl⟩:=h;exact hp.2 (by simpa using ha) v hv
  ·cases h
 |nilCheck x=>
  simp only [ej] at h;split at h
  ·rename_i k off hx;obtain ⟨rfl,rfl⟩:=eS h;intro w;simp only [execOp,Jf hx,SV.cg];rfl
  ·rename_i p hx;obtain ⟨rfl,rfl⟩:=eS h;rw [jj] at hc;intro w
   cases p with
   |none=>cases hc
   |some a=>simp only [execOp,Jf hx,SV.cg];rfl
  ·cases h
 |indexAddr t x i=>
  simp only [ej] at h;split at h
  ·rename_i k iv hi;split at h
   ·rename_i e z a n c he hx;obtain ⟨rfl,rfl⟩:=eS h;obtain ⟨hu,hz⟩:=kN he;obtain ⟨h1,h3,h4⟩:=hc _ (iN.2 rfl);refine eD rfl λw=> ?_
    cases a with
    |none=>cases h1
    |some a=>simp [Instr.indexAt,aI,hu,hx,SV.cg,hi,asIntOf,h3,h4,hz,ae]
   ·rename_i p he hx;split at h
    ·rename_i n e ha;have hu:P.underlying t=some (.array n e):=by
      unfold pT at ha;split at ha
      ·rename_i hu;cases ha;exact hu
      ·cases ha
     cases hz:gZ P e with
     |none=>simp [hz] at h
     |some z=>
      rw [hz] at h;obtain ⟨rfl,rfl⟩:=eS h;obtain ⟨h1,h2⟩:=ZU hc;rw [jj] at h1;obtain ⟨h3,h4⟩:=c2 h2;have hz':∀w,(sizeOf e).run P w=.ok z w:=λw=>by
       unfold gZ at hz
       cases hi':P.info? e with
       |none=>simp [hi'] at hz
       |some i'=>simp [hi'] at hz;rw [fb (by simp [hi'])];simp [fQ,hi',hz]
      refine eD rfl λw=> ?_
      cases p with
      |none=>cases h1
      |some a=>simp [Instr.indexAt,aI,hu,hx,SV.cg,hi,asIntOf,h3,h4,hz',ae,Instr.sureAddr]
    ·cases h
   ·cases h
  ·cases h
 |index t x i=>
  simp only [ej] at h;split at h
  ·rename_i b k iv hx hi;split at h
   ·rename_i ht;have hu:=oH ht;obtain ⟨rfl,rfl⟩:=eS h;obtain ⟨h3,h4⟩:=c2 hc;refine eD rfl λw=> ?_
    have iC:iv.toNat<b.size:=by omega
    have hg:b[iv.toNat]? =some (b.data.toList.getD iv.toNat 0):=by
     rw [getElem?_pos b iv.toNat iC];have:iv.toNat<b.data.toList.length:=by simpa using iC
     simp [dZ,dm this];rfl
    simp [Instr.index,aI,hu,hx,hi,asIntOf,h3,hg,SV.cg]
   ·cases h
  ·cases h
 |binOp op t x y u=>
  simp only [ej] at h;split at h
  ·rename_i c v hv;obtain ⟨rfl,rfl⟩:=eS h;refine eD rfl λw=> ?_
   obtain ⟨n1,n2⟩:=VR hv;rw [Sem.run_bind,CD _ _ _ _ _ _ n1 n2,Result.andThen_ok,ZY hv hc];rfl
  ·obtain ⟨v,hv,rfl⟩:=aeP h;refine eD rfl λw=> ?_
   obtain ⟨h1,h2⟩:=VS hv hc w x y;rw [Sem.run_bind,h1,Result.andThen_ok,h2];rfl
 |unOp op t x=>
  cases op with
  |not=>
   simp only [ej] at h;split at h
   ·rename_i b hx;obtain ⟨rfl,rfl⟩:=eS h;exact eD rfl λw=>by simp only [hx];rfl
   ·cases h
  |neg=>
   simp only [ej] at h;split at h
   ·rename_i k n hx;obtain ⟨rfl,rfl⟩:=eS h;exact eD rfl λw=>by simp only [hx];rfl
   ·cases h
  |_=>cases h
 |convert a b x=>
  simp only [ej] at h;split at h
  ·rename_i k' k k'' n hu1 hu2 hx;obtain ⟨rfl,rfl⟩:=eS h;refine eD rfl λw=> ?_
   simp only [convert,Sem.run_bind,aI,hu1,hu2,Result.andThen_ok,hx];rfl
  ·rename_i bb hu1 hu2 hx;obtain ⟨rfl,rfl⟩:=eS h;refine eD rfl λw=> ?_
   simp only [convert,Sem.run_bind,aI,hu1,hu2,Result.andThen_ok,hx];rfl
  ·cases h
 |slice t x lo hi mx=>
  obtain ⟨v,hv,rfl⟩:=aeP h;exact eD rfl λw=>Ro hv hc w
 |call c=>
  obtain ⟨callee,args,argTypes⟩:=c
  cases callee with
  |builtin b=>
   simp only [ej] at h
   cases hb:uk P b argTypes (args.toList.map s.ev) with
   |none=>simp [hb] at h
   |some v=>
    simp [hb] at h;obtain ⟨rfl,rfl⟩:=h;intro w;have:=KK (P:=P) (ty:=ty) (cs:=(args.map fun| .const _=>true|_=>false)) (args:=args.map s.ev) (by simpa using hb) w;rw [BigFrame.execOp_builtin];exact this
  |_=>cases h
 |_=>cases h
end
section
variable {P:Program} {s:St} {o:Oper}
def EW(hs:s.Ok){op:Op}{cs:List Prop}{sv:SV}(h:ej P s op=some (cs,sv)):sv.im s.kn.length:=by
 cases op with
 |move x=>obtain ⟨rfl,rfl⟩:=eS h;exact hs.sv x
 |assign x=>obtain ⟨rfl,rfl⟩:=eS h;exact hs.sv x
 |pick c a b=>
  simp only [ej] at h;split at h
  ·rename_i t hx;obtain ⟨rfl,rfl⟩:=eS h
   cases t
   ·exact hs.sv b
   ·exact hs.sv a
  ·cases h
 |extract t i=>
  simp only [ej] at h;split at h
  ·rename_i vs hx
   cases hv:vs[i]? with
   |none=>simp [hv] at h
   |some v=>simp [hv] at h;obtain ⟨rfl,rfl⟩:=h;trivial
  ·cases h
 |fieldAddr t x f=>
  simp only [ej] at h;split at h
  ·split at h
   ·cases h
   ·have hx:=hs.sv x;unfold ZS at h;split at h
    ·rename_i e;rw [e] at hx;obtain ⟨rfl,rfl⟩:=eS h;exact hx
    ·obtain ⟨rfl,rfl⟩:=eS h;trivial
    ·cases h
  ·cases h
 |field t x f=>
  simp only [ej] at h;split at h
  ·rename_i cs' fd hx hf;split at h
   ·cases h
   split at h
   ·obtain ⟨rfl,rfl⟩:=eS h;trivial
   ·cases hv:cs'[fd.offset]? with
    |none=>simp [hv] at h
    |some v=>simp [hv] at h;obtain ⟨rfl,rfl⟩:=h;trivial
  ·cases h
 |nilCheck x=>
  simp only [ej] at h;have hx:=hs.sv x;split at h
  ·rename_i e;rw [e] at hx;obtain ⟨rfl,rfl⟩:=eS h;exact hx
  ·obtain ⟨rfl,rfl⟩:=eS h;trivial
  ·cases h
 |indexAddr t x i=>
  simp only [ej] at h;split at h
  ·split at h
   ·obtain ⟨rfl,rfl⟩:=eS h;trivial
   ·split at h
    ·rename_i n e ha
     cases hz:gZ P e with
     |none=>simp [hz] at h
     |some z=>rw [hz] at h;obtain ⟨rfl,rfl⟩:=eS h;trivial
    ·cases h
   ·cases h
  ·cases h
 |index t x i=>
  simp only [ej] at h;split at h
  ·split at h
   ·obtain ⟨rfl,rfl⟩:=eS h;trivial
   ·cases h
  ·cases h
 |binOp op t x y u=>
  simp only [ej] at h;split at h
  ·obtain ⟨rfl,rfl⟩:=eS h;trivial
  ·obtain ⟨v,_,rfl⟩:=aeP h;trivial
 |unOp op t x=>
  cases op<;>simp only [ej] at h<;>first|(cases h;done)|(split at h<;>first|(cases h;done)|(obtain ⟨rfl,rfl⟩:=eS h;trivial))
 |convert a b x=>
  simp only [ej] at h;split at h
  ·obtain ⟨rfl,rfl⟩:=eS h;trivial
  ·obtain ⟨rfl,rfl⟩:=eS h;trivial
  ·cases h
 |slice t x lo hi mx=>obtain ⟨v,_,rfl⟩:=aeP h;trivial
 |call c=>
  obtain ⟨callee,args,argTypes⟩:=c
  cases callee with
  |builtin b=>
   simp only [ej] at h
   cases hb:uk P b argTypes (args.toList.map s.ev) with
   |none=>simp [hb] at h
   |some v=>simp [hb] at h;obtain ⟨rfl,rfl⟩:=h;trivial
  |_=>cases h
 |_=>cases h
end
def iO(d:Option Tmp)(s:St)(K:St->Prop):Act->World->Prop:=
 λa w=>∃s',s'.Ok/\s'.act=a/\s'.w=w/\Fr d.toList s s'/\K s'
def getD_set_ne{α:Type}(l:List α)(i j:Nat)(v d:α)(h:i≠j):(l.set i v).getD j d=l.getD j d:=by simp [dZ,h]
def kO{s:St}{d:Option Tmp}{K:St->Prop}{a:Act}{w:World}{s1:St}{v:SV}(hk:K (s1.put d v))
  (bn:s.Ok)(pw:s1.sl=s.sl)(jv:tR s.kn s1.kn)
  (iG:∀(k:Nat)(kb:KB),s1.kn[k]? =some kb->kb.live=true->s1.w.heap[kb.idx]? =some (.cells kb.cells.toArray kb.ty (0,0)))
  (jh:∀(i j:Nat)(x y:KB),s1.kn[i]? =some x->s1.kn[j]? =some y->x.live=true->y.live=true->x.idx=y.idx->i=j)
  (hv:v.im s1.kn.length)(ha:s.act.put d (v.cg s1.kn)=a)(hw:s1.w=w)(hdf:s1.df=s.df:=by rfl):iO d s K a w:=by
 have hcl:∀x ∈ s.sl,x.cg s1.kn=x.cg s.kn:=λx hx=>by obtain ⟨i,hi⟩:=wF hx;exact jv.cg (bn.mj i x hi)
 refine ⟨s1.put d v,⟨?_,?_,?_⟩,?_,?_,⟨?_,?_,?_,?_⟩,hk⟩
 ·cases d<;>exact iG
 ·cases d<;>exact jh
 ·have hl:∀(i:Nat)(u:SV),s1.sl[i]? =some u->u.im s1.kn.length:=λi u hu=>(bn.mj i u (by rw [<-pw];exact hu)).mono jv.length
  cases d with
  |none=>exact hl
  |some d=>
   intro i u hu;simp only [St.put,jR] at hu;split at hu
   ·split at hu
    ·cases hu;exact hv
    ·cases hu
   ·exact hl i u hu
 ·rw [St.aeN,<-ha];have:s1.act=s.act:=by simp only [St.act,pw,hdf];congr 2;exact wG hcl
  rw [this]
 ·cases d<;>exact hw
 ·cases d<;>simp [St.put,pw]
 ·intro i hi;have:(s1.put d v).sl.getD i (.val undef)=s.sl.getD i (.val undef):=by
   cases d with
   |none=>simp [St.put,pw]
   |some d=>simp only [St.put,pw];exact getD_set_ne _ _ _ _ _ (λe=>hi (by simp [e]))
  rw [this];have YP:(s1.put d v).kn=s1.kn:=by cases d<;>rfl
  rw [YP];simp only [dZ]
  cases hg:s.sl[i]? with
  |none=>rfl
  |some u=>exact jv.cg (bn.mj i u hg)
 ·cases d<;>exact jv
 ·have:(s1.put d v).df=s.df:=by cases d<;>exact hdf
  rw [this];exact ⟨aC _,λ_=>rfl⟩
def wp_pure{P:Program}{s:St}{o:Oper}{K:St->Prop}{Q:Exit->Act->World->Prop}{cs:List Prop}{sv:SV}(bn:s.Ok)(h:ej P s o.op=some (cs,sv))(hk:aP cs (K (s.put o.dst sv))):
  o.wp P s.act s.w (iO o.dst s K) Q:=by
 rw [bB] at hk;unfold Oper.wp;rw [St.eval_eq,sj h hk.1];exact kO hk.2 bn rfl (tR.refl _) bn.bf bn.ne (EW bn h) rfl rfl
def af(w:World)(p:Option Addr):Nat->List Value->Prop
 |_,[]=>True
 |i,[v]=>ld w (ae p i)=some v
 |i,v::u::r=>ld w (ae p i)=some v/\af w p (i+1) (u::r)
def Jg(P:Program)(w:World)(p:Option Addr)(t:TypeId)(F:Value->Prop):Prop:=
 match tQ P t with
 | .sc c=>c.ex λv=>ld w p=some v/\F v
 | .agg l=>if l.length=fQ P t/\l.isEmpty=false then exL l λvs=>af w p 0 vs/\F (.agg vs.toArray) else False
def cellsOf:Value->List Value
 | .agg cs=>cs.toList
 |v=> [v]
def qT(w:World)(a:Addr):Nat->List Value->World
 |_,[]=>w
 |i,v::r=>qT (w.setCell (a.add i) v) a (i+1) r
def aL(w:World)(p:Option Addr)(vs:List Value):World:=match p with|some a=>qT w a 0 vs|none=>w
def Wr(w:World)(p:Option Addr)(n:Nat):Prop:=∀i,i<n->∃a,p=some a/\(w.cell? (a.add i)).isSome=true/\w.frozen? (a.add i)=false
def kP:Value->List Prop
 | .agg _| .tuple _=> [False]
 |_=> []
def bz:Option Addr->Option Nat:=λp=>p.map (·.block)
def fU(kn:List KB):List Nat:=(kn.filter (·.live)).map (·.idx)
def EX(kn:List KB)(w w':World):List Prop:=(fU kn).map λi=>w'.heap[i]? =w.heap[i]?
def A6(kn:List KB)(p:Option Addr):List Prop:=(fU kn).map λi=>bz p≠some i
def aS(cs:List Value)(off:Nat):List Value->List Value
 | []=>cs
 |v::r=>aS (cs.set off v) (off+1) r
def St.qU(s:St)(k:Nat):St:={s with kn:=s.kn.modify k λkb=>{kb with live:=false}}
def St.kill(s:St):List SV->St
 | []=>s
 | .loc k _::r| .sli k _::r=>(s.qU k).kill r
 | .val _::r=>s.kill r
def amp(P:Program)(t:TypeId):Bool:=match P.underlying t with|some (.array _ _)=>true|_=>false
def A7(P:Program)(s:St)(d:Option Tmp)(t:TypeId)(cs:List Value)(K:St->Prop):Prop:=
 match amp P t with
 |true=>∀w1,w1=s.w.alloc (.cells cs.toArray t)->K ({s with w:=w1}.put d (.val (.pointer (some ⟨s.w.heap.size,0,none⟩))))
 |false=>∀w1,w1=s.w.alloc (.cells cs.toArray t)->K ({s with w:=w1,kn:=s.kn++ [KB.mk s.w.heap.size cs t true]}.put d (.loc s.kn.length 0))
def zeroOf(P:Program)(t:TypeId):Option (List Value):=((P.info? t).bind (·.zero)).map cellsOf
section
variable {P:Program} {s:St} {o:Oper} {K:St->Prop} {Q:Exit->Act->World->Prop}
def fy{d:Option Tmp}{v:Value}(bn:s.Ok)(hk:K (s.put d (.val v))):iO d s K (s.act.put d v) s.w:=
 kO hk bn rfl (tR.refl _) bn.bf bn.ne trivial rfl rfl
def EY(kn:List KB)(l:List KB):tR kn (kn++l):=λk kb hk=>⟨kb,by
 rw [oI (by have:=(cG.1 hk).1;exact this)];exact hk,rfl,rfl⟩
def qV(v:Value):v.cells.toList=cellsOf v:=by cases v<;>rfl
def ox(v:Value):v.cells=(cellsOf v).toArray:=by cases v<;>rfl
def EZ{d:Option Tmp}{t:TypeId}{cs:List Value}(bn:s.Ok)(hk:A7 P s d t cs K):
  iO d s K (s.act.put d (.pointer (some ⟨s.w.heap.size,0,none⟩))) (s.w.alloc (.cells cs.toArray t)):=by
 have Hk:∀i,i<s.w.heap.size->(s.w.alloc (.cells cs.toArray t)).heap[i]? =s.w.heap[i]? :=λi hi=>Below.heap_alloc _ _ _ hi
 have L9:(s.w.alloc (.cells cs.toArray t)).heap[s.w.heap.size]? =some (.cells cs.toArray t (0,0)):=by show (s.w.heap.push _)[s.w.heap.size]? =_;simp
 unfold A7 at hk;split at hk
 ·have hk:=hk _ rfl;exact kO hk bn rfl (tR.refl _) (λk kb h1 h2=>by rw [<-bn.bf k kb h1 h2];exact Hk _ (bn.lt k kb h1 h2)) bn.ne trivial rfl rfl
 ·have hk:=hk _ rfl;refine kO hk bn rfl (EY _ _) (λk kb h1 h2=> ?_) (λi j x y h1 h2 h3 h4 h5=> ?_) (show s.kn.length<(s.kn++ [_]).length by simp) ?_ rfl
  ·rcases jD k s.kn.length with iC|TL
   ·simp only [oI iC] at h1;rw [<-bn.bf k kb h1 h2];exact Hk _ (bn.lt k kb h1 h2)
   ·simp only [qW TL] at h1
    cases hz:k-s.kn.length with
    |zero=>simp [hz] at h1;subst h1;exact L9
    |succ n=>simp [hz] at h1
  ·have key:∀(i:Nat)(x:KB),(s.kn++ [KB.mk s.w.heap.size cs t true])[i]? =some x->(i<s.kn.length/\s.kn[i]? =some x)\/(i=s.kn.length/\x.idx=s.w.heap.size):=by
    intro i x hx;rcases jD i s.kn.length with iC|TL
    ·exact .inl ⟨iC,by rwa [oI iC] at hx⟩
    ·rw [qW TL] at hx
     cases hz:i-s.kn.length with
     |zero=>simp [hz] at hx;subst hx;exact .inr ⟨by omega,rfl⟩
     |succ n=>simp [hz] at hx
   rcases key i x h1 with ⟨a1,a2⟩|⟨a1,a2⟩<;>rcases key j y h2 with ⟨b1,b2⟩|⟨b1,b2⟩
   ·exact bn.ne i j x y a2 b2 h3 h4 h5
   ·have:=bn.lt i x a2 h3;omega
   ·have:=bn.lt j y b2 h4;omega
   ·omega
  ·simp [SV.cg,dZ]
def kj(ob:Obj)(w:World):(newObj ob).run P w=.ok w.heap.size (w.alloc ob):=rfl
def Jh{t:TypeId}{cs:List Value}(h:zeroOf P t=some cs)(w:World):
  (Instr.alloc t true (.tuple #[])).run P w=.ok (.pointer (some ⟨w.heap.size,0,none⟩)) (w.alloc (.cells cs.toArray t)):=by
 unfold zeroOf at h
 cases hi:P.info? t with
 |none=>simp [hi] at h
 |some i=>
  cases hz:i.zero with
  |none=>simp [hi,hz] at h
  |some v=>
   simp [hi,hz] at h;subst h;simp [Instr.alloc,zeroValue,eo,hi,hz,newVar,newRow,kj,ox]
def Uu{t:TypeId}{v:Value}(w:World):
  (Instr.box t v).run P w=.ok (.pointer (some ⟨w.heap.size,0,none⟩)) (w.alloc (.cells (cellsOf v).toArray t)):=by
 simp [Instr.box,newVar,newRow,kj,ox]
end
section
variable {P:Program} {s:St} {o:Oper} {K:St->Prop} {Q:Exit->Act->World->Prop}
def St.known(s:St)(k:Nat):Option KB:=match s.kn[k]? with|some kb=>(match kb.live with|true=>some kb|false=>none)|none=>none
def sk{k:Nat}{kb:KB}(h:s.known k=some kb):s.kn[k]? =some kb/\kb.live=true:=by
 unfold St.known at h;split at h
 ·split at h
  ·cases h;exact ⟨by assumption,by assumption⟩
  ·cases h
 ·cases h
def E0(P:Program)(s:St)(d:Option Tmp)(t:TypeId)(x:SV)(K:St->Prop):Prop:=
 match x with
 | .loc k off=>match s.known k with
   |some kb=>match tQ P t with
    | .sc _=>match kb.cells[off]? with|some v=>K (s.put d (.val v))|none=>False
    | .agg l=>if l.length=fQ P t/\off+l.length<=kb.cells.length then K (s.put d (.val (.agg ((kb.cells.drop off).take l.length).toArray))) else False
   |none=>Jg P s.w (some ⟨(s.kn.getD k default).idx,off,none⟩) t λv=>K (s.put d (.val v))
 | .val (.pointer p)=>Jg P s.w p t λv=>K (s.put d (.val v))
 |_=>False
def ml{t:TypeId}(w:World){d:TypeDesc}(hu:P.underlying t=some d):(isAgg t).run P w=.ok (A4 P t) w:=by
 simp only [isAgg,Sem.run_bind,aI,hu,Result.andThen_ok,A4]
 cases d<;>rfl
def MP{t:TypeId}{c:S}(h:tQ P t=.sc c):A4 P t=false:=by
 unfold tQ at h;split at h
 ·cases h
 ·rename_i h';simpa using h'
def E1{t:TypeId}{l:List S}(h:tQ P t=.agg l):A4 P t=true:=by
 unfold tQ at h;split at h
 ·assumption
 ·cases h
def mc{a:Addr}{w:World}:∀(n i:Nat)(acc:Array Value)(vs:List Value),vs.length=n->(∀j,j<n->w.cell? (a.add (i+j))=vs[j]?)->
  (loadCellsFrom a i n acc).run P w=.ok (acc++vs.toArray) w:=by
 intro n
 induction n with
 |zero=>intro i acc vs hl _;have:vs=[]:=E2.1 hl;subst this;simp [loadCellsFrom]
 |succ n ih=>
  intro i acc vs hl h
  cases vs with
  |nil=>simp at hl
  |cons v r=>
   have h0:=h 0 ab;simp at h0;simp only [loadCellsFrom,Sem.run_bind,run_load,h0,Result.andThen_ok];rw [ih (i+1) _ r (by simpa using hl) (λj hj=>by have:=h (j+1) ab;simpa [Nat.add_assoc,um 1 j] using this)];simp
def mu{w:World}{p:Option Addr}:∀{i:Nat} {vs:List Value},af w p i vs->∀j,j<vs.length->ld w (ae p (i+j))=vs[j]?
 |_,[],_,j,hj=>by simp at hj
 |i,[v],h,j,hj=>by
  have:j=0:=by simp at hj;exact hj
  subst this;exact h
 |i,v::u::r,h,j,hj=>by
  cases j with
  |zero=>exact h.1
  |succ j=>
   have:=mu h.2 j (by simpa using hj);rw [show i+(j+1)=i+1+j by omega,this];simp
def Ji{t:TypeId}{p:Option Addr}{F:Value->Prop}{w:World}(hu:(P.underlying t).isSome=true)(h:Jg P w p t F):
  ∃a v,p=some a/\F v/\(Instr.loadAt t (.pointer (some a))).run P w=.ok v w:=by
 obtain ⟨d,hu⟩:=oE.1 hu;unfold Jg at h
 cases ht:tQ P t with
 |sc c=>
  rw [ht] at h;obtain ⟨v,h1,h2⟩:=S.lF h
  cases p with
  |none=>simp [ld] at h1
  |some a=>
   refine ⟨a,v,rfl,h2,?_⟩;have Vs:w.cell? a=some v:=h1;simp [Instr.loadAt,Instr.sureAddr,loadVar,ml w hu,MP ht,Vs]
 |agg l=>
  simp only [ht] at h;split at h
  ·rename_i hl;have:∃vs,vs.length=l.length/\af w p 0 vs/\F (.agg vs.toArray):=by
    have key:∀(l:List S)(G:List Value->Prop),exL l G->∃vs,vs.length=l.length/\G vs:=by
     intro l
     induction l with
     |nil=>intro G hG;exact ⟨[],rfl,hG⟩
     |cons c r ih=>
      rintro G ⟨x,hx⟩;obtain ⟨vs,h1,h2⟩:=ih _ hx;exact ⟨_,by simp [h1],h2⟩
    exact key l _ h
   obtain ⟨vs,e,h1,h2⟩:=this;have hi:=info_of_underlying hu;have hp:∃a,p=some a:=by
    cases p with
    |some a=>exact ⟨a,rfl⟩
    |none=>
     have h0:0<vs.length:=by
      cases l with
      |nil=>simp at hl
      |cons _ _=>simp at e;omega
     have:=mu h1 0 h0;simp [ld,ae,dm h0] at this
   obtain ⟨a,rfl⟩:=hp;refine ⟨a,_,rfl,h2,?_⟩;simp only [Instr.loadAt,Instr.sureAddr,loadVar,Sem.run_bind,Sem.run_pure,Result.andThen_ok,ml w hu,E1 ht,if_true,fb hi,loadCells];rw [mc _ 0 #[] vs ab (λj hj=>by have:=mu h1 j ab;simpa [ld,ae] using this)];simp
  ·cases h
end
section
variable {P:Program} {s:St} {o:Oper} {K:St->Prop} {Q:Exit->Act->World->Prop}
def cell_of{w:World}{i:Nat}{c:Array Value}{t:TypeId}{f:Nat × Nat}(h:w.heap[i]? =some (.cells c t f))(j:Nat):w.cell? ⟨i,j,none⟩=c[j]? :=by simp [World.cell?,h]
def VT{w:World}{i:Nat}{c:Array Value}{t:TypeId}(h:w.heap[i]? =some (.cells c t (0,0)))(j:Nat):w.frozen? ⟨i,j,none⟩=false:=by simp [World.frozen?,h]
def nO(i o n:Nat):(⟨i,o,none⟩:Addr).add n=⟨i,o+n,none⟩:=by unfold Addr.add;split<;>simp_all
def E3{d:Option Tmp}{t:TypeId}{x:SV}(bn:s.Ok)(hu:(P.underlying t).isSome=true)(h:E0 P s d t x K):
  ∃a v,x.cg s.kn=.pointer (some a)/\K (s.put d (.val v))/\(Instr.loadAt t (.pointer (some a))).run P s.w=.ok v s.w:=by
 unfold E0 at h;split at h
 ·rename_i k off;split at h
  ·rename_i kb hkb;obtain ⟨h1,h2⟩:=sk hkb;have hb:=bn.bf k kb h1 h2;have jv:(s.kn.getD k default).idx=kb.idx:=by simp [dZ,h1]
   refine ⟨⟨kb.idx,off,none⟩,?_⟩;obtain ⟨dd,hu'⟩:=oE.1 hu;split at h
   ·rename_i c ht;split at h
    ·rename_i v hv;refine ⟨v,by rw [SV.cg,jv],h,?_⟩;have hc:s.w.cell? ⟨kb.idx,off,none⟩=some v:=by rw [cell_of hb];simpa using hv
     simp [Instr.loadAt,Instr.sureAddr,loadVar,ml _ hu',MP ht,hc]
    ·cases h
   ·rename_i l ht;split at h
    ·rename_i hl;refine ⟨_,by rw [SV.cg,jv],h,?_⟩;simp only [Instr.loadAt,Instr.sureAddr,loadVar,Sem.run_bind,Sem.run_pure,Result.andThen_ok,ml _ hu',E1 ht,if_true,fb (info_of_underlying hu'),loadCells];rw [mc _ 0 #[] ((kb.cells.drop off).take l.length) (by simp;omega) (λj hj=>by rw [nO,cell_of hb];simp [qX,wH,show j<l.length by omega])];simp
    ·cases h
  ·obtain ⟨a,v,h1,h2,h3⟩:=Ji hu h
   cases h1
   exact ⟨_,v,rfl,h2,h3⟩
 ·rename_i p;obtain ⟨a,v,h1,h2,h3⟩:=Ji hu h;subst h1;exact ⟨a,v,rfl,h2,h3⟩
 ·cases h
def KM(P:Program)(s:St)(d:Option Tmp)(t:TypeId)(x v:SV)(K:St->Prop):Prop:=
 let vs:=cellsOf (v.cg s.kn)
 aP (vs.flatMap kP)<|if vs.length=fQ P t then
  match x with
  | .loc k off=>match s.known k with
    |some kb=>if off+vs.length<=kb.cells.length then
     ∀w1,w1=s.w.setRow kb.idx (aS kb.cells off vs).toArray->K ((({s with w:=w1,kn:=s.kn.modify k λb=>{b with cells:=aS kb.cells off vs}}).kill [v]).put d (.val undef)) else False
    |none=>Wr s.w (some ⟨(s.kn.getD k default).idx,off,none⟩) vs.length/\aP (A6 s.kn (some ⟨(s.kn.getD k default).idx,off,none⟩)) (∀w1,w1=aL s.w (some ⟨(s.kn.getD k default).idx,off,none⟩) vs->K ((({s with w:=w1}).kill [v]).put d (.val undef)))
  | .val (.pointer p)=>(p.isSome=true/\Wr s.w p vs.length)/\aP (A6 s.kn p) (∀w1,w1=aL s.w p vs->K ((({s with w:=w1}).kill [v]).put d (.val undef)))
  |_=>False
 else False
def dt:∀(vs:List Value)(cs:List Value)(off:Nat),off+vs.length<=cs.length->aS cs off vs=cs.take off++vs++cs.drop (off+vs.length)
 | [],cs,off,_=>by simp [aS]
 |v::r,cs,off,h=>by
  simp only [du] at h
  rw [aS,dt r _ _ (by simp;omega)]
  have h1:(cs.set off v).take (off+1)=cs.take off++ [v]:=by
   apply iP;intro j;simp only [qX,jR,List.getElem?_append,dK];rcases Nat.lt_trichotomy j off with hj|hj|hj
   ·simp [hj,show j<off+1 by omega,show ¬off=j by omega,show j<min off cs.length by omega]
   ·subst hj;simp [show j<cs.length by omega,show ¬j<min j cs.length by omega,show j-min j cs.length=0 by omega]
   ·simp [show ¬j<off+1 by omega,show ¬j<min off cs.length by omega,show ¬j<off by omega];have:j-min off cs.length≠0:=by omega
    cases hz:j-min off cs.length with
    |zero=>omega
    |succ n=>simp
  have h2:(cs.set off v).drop (off+1+r.length)=cs.drop (off+(r.length+1)):=by apply iP;intro j;simp only [wH,jR];simp [show ¬off=off+1+r.length+j by omega];congr 1;omega
  rw [h1,h2];simp
def dz(vs:List Value):∀(cs:List Value)(off:Nat),(aS cs off vs).length=cs.length:=by
 induction vs with
 |nil=>intro cs off;rfl
 |cons v r ih=>intro cs off;rw [aS,ih];simp
def Uv{vs:List Value}(h:∀p ∈ vs.flatMap kP,p):∀v ∈ vs,v.oneCell'=true:=by
 intro v hv
 cases v with
 |agg c=>exact (h False (List.mem_flatMap.2 ⟨_,hv,by simp [kP]⟩)).elim
 |tuple c=>exact (h False (List.mem_flatMap.2 ⟨_,hv,by simp [kP]⟩)).elim
 |_=>rfl
def gy(a:Addr):∀(vs:List Value)(i:Nat)(w:World),(∀v ∈ vs,v.oneCell'=true)->
  (∀j,j<vs.length->(w.cell? (a.add (i+j))).isSome=true/\w.frozen? (a.add (i+j))=false)->(storeCells a vs i).run P w=.ok () (qT w a i vs)
 | [],i,w,_,_=>rfl
 |v::r,i,w,h1,h2=>by
  obtain ⟨u,hu⟩:=oE.1 (h2 0 cp).1
  have hf:=(h2 0 cp).2
  simp only [Nat.add_zero] at hu hf
  simp only [storeCells,Sem.run_bind,run_store P w _ v _ (h1 v cp),hu,hf]
  simp only [Bool.false_eq_true,if_false,Result.andThen_ok,qT]
  refine gy a r (i+1) _ (λv hv=>h1 v (by simp [hv])) (λj hj=> ?_)
  have:=h2 (j+1) (by simpa using hj)
  rw [show i+(j+1)=i+1+j by omega] at this
  refine ⟨?_,by rw [World.frozen?_setCell];exact this.2⟩
  by_cases e:a.add i=a.add (i+1+j)
  ·rw [<-e,World.cell?_setCell_same _ _ _ hu];rfl
  ·rw [World.cell?_setCell_other _ _ _ _ e];exact this.1
def MQ{s:St}(bn:s.Ok)(k:Nat):(s.qU k).Ok/\(s.qU k).sl=s.sl/\(s.qU k).w=s.w/\tR s.kn (s.qU k).kn/\(s.qU k).kn.length=s.kn.length:=by
 have key:∀(i:Nat)(x:KB),(s.qU k).kn[i]? =some x->x.live=true->s.kn[i]? =some x:=by
  intro i x hx hl;simp only [St.qU,Jj] at hx;split at hx
  ·cases hy:s.kn[i]? with
   |none=>simp [hy] at hx
   |some y=>simp [hy] at hx;subst hx;simp at hl
  ·cases hy:s.kn[i]? with
   |none=>simp [hy] at hx
   |some y=>simpa [hy] using hx
 refine ⟨⟨λi x h1 h2=>bn.bf i x (key i x h1 h2) h2,λi j x y h1 h2 h3 h4 h5=>bn.ne i j x y (key i x h1 h3) (key j y h2 h4) h3 h4 h5,?_⟩,rfl,rfl,?_,by simp [St.qU]⟩
 ·intro i v hv;have:=bn.mj i v hv;simpa [St.qU] using this
 ·intro i x hx;refine ⟨if k=i then {x with live:=false} else x,?_,by split<;>rfl,by split<;>rfl⟩;simp only [St.qU,Jj,hx];split<;>rfl
def fq:∀(l:List SV) {s:St},s.Ok->(s.kill l).Ok/\(s.kill l).sl=s.sl/\(s.kill l).w=s.w/\tR s.kn (s.kill l).kn/\(s.kill l).kn.length=s.kn.length
 | [],s,h=>⟨h,rfl,rfl,tR.refl _,rfl⟩
 | .val _::r,s,h=>fq r h
 | .loc k _::r,s,h=>by
   obtain ⟨a1,a2,a3,a4,a5⟩:=MQ h k
   obtain ⟨b1,b2,b3,b4,b5⟩:=fq r a1
   exact ⟨b1,b2.trans a2,b3.trans a3,a4.trans b4,b5.trans a5⟩
 | .sli k _::r,s,h=>by
   obtain ⟨a1,a2,a3,a4,a5⟩:=MQ h k
   obtain ⟨b1,b2,b3,b4,b5⟩:=fq r a1
   exact ⟨b1,b2.trans a2,b3.trans a3,a4.trans b4,b5.trans a5⟩
def nQ:∀(l:List SV)(s:St),(s.kill l).df=s.df
 | [],_=>rfl
 | .val _::r,s=>nQ r s
 | .loc k _::r,s=>nQ r (s.qU k)
 | .sli k _::r,s=>nQ r (s.qU k)
def j7{d:Option Tmp}{a:Act}{w:World}{s1:St}{v:SV}(hk:K (s1.put d v))(bn:s.Ok)(h1:s1.Ok)(pw:s1.sl=s.sl)(jv:tR s.kn s1.kn)
  (hv:v.im s1.kn.length)(ha:s.act.put d (v.cg s1.kn)=a)(hw:s1.w=w)(hdf:s1.df=s.df:=by first|rfl|exact nQ _ _):iO d s K a w:=
 kO hk bn pw jv h1.bf h1.ne hv ha hw hdf
def mw{s:St}(bn:s.Ok){w':World}(h:∀p ∈ EX s.kn s.w w',p):({s with w:=w'}:St).Ok:=by refine ⟨λk kb h1 h2=> ?_,bn.ne,bn.mj⟩;rw [<-bn.bf k kb h1 h2];refine h _ (aW.2 ⟨kb.idx,?_,rfl⟩);exact aW.2 ⟨kb,iI.2 ⟨aX h1,h2⟩,rfl⟩
def KN{d:Option Tmp}{t:TypeId}{x v:SV}(bn:s.Ok)(hi:(P.info? t).isSome=true)(h:KM P s d t x v K):
  ∃a w',x.cg s.kn=.pointer (some a)/\(Instr.storeAt t (.pointer (some a)) (v.cg s.kn)).run P s.w=.ok () w'/\iO d s K (s.act.put d undef) w':=by
 unfold KM at h;simp only [bB] at h;obtain ⟨we,h⟩:=h;have we:=Uv we;split at h
 case isFalse=>cases h
 rename_i YQ;have uZ:∀(a:Addr)(w':World),(storeCells a (cellsOf (v.cg s.kn)) 0).run P s.w=.ok () w'->(Instr.storeAt t (.pointer (some a)) (v.cg s.kn)).run P s.w=.ok () w':=by
  intro a w' hw;have:(v.cg s.kn).cells.size=fQ P t:=by rw [ox,<-YQ];simp
  simp only [Instr.storeAt,Instr.sureAddr,storeVar,Sem.run_bind,Sem.run_pure,Result.andThen_ok,fb hi,this,ne_eq,not_true_eq_false,if_false,qV];exact hw
 have am6:∀(p:Option Addr),x.cg s.kn=.pointer p->p.isSome=true->Wr s.w p (cellsOf (v.cg s.kn)).length->(∀q ∈ A6 s.kn p,q)->
   K ((({s with w:=aL s.w p (cellsOf (v.cg s.kn))}).kill [v]).put d (.val undef))->
   ∃a w',x.cg s.kn=.pointer (some a)/\(Instr.storeAt t (.pointer (some a)) (v.cg s.kn)).run P s.w=.ok () w'/\iO d s K (s.act.put d undef) w':=by
  intro p hx hp hwr hap hk;obtain ⟨a,rfl⟩:=oE.1 hp;have iG:∀(vs:List Value)(w:World)(i k:Nat),k≠a.block->(qT w a i vs).heap[k]? =w.heap[k]? :=by
   intro vs
   induction vs with
   |nil=>intro w i k _;rfl
   |cons u r ih=>
    intro w i k hk;rw [qT,ih _ _ _ hk];exact Below.heap_setCell _ _ _ _ (by unfold Addr.add;split<;>exact hk)
  have mN:({s with w:=qT s.w a 0 (cellsOf (v.cg s.kn))}:St).Ok:=by
   refine mw bn λq hq=> ?_
   obtain ⟨i,hi,rfl⟩:=aW.1 hq;refine iG _ _ _ _ ?_;have:=hap (bz (some a)≠some i) (aW.2 ⟨i,hi,rfl⟩);intro e;exact this (by simp [bz,e])
  obtain ⟨k1,k2,k3,k4,k5⟩:=fq [v] mN;refine ⟨a,_,hx,uZ a _ (gy a _ 0 _ we λj hj=> ?_),j7 hk bn k1 k2 k4 trivial rfl k3⟩;obtain ⟨a',e,h1,h2⟩:=hwr j hj
  cases e
  simp only [eK];exact ⟨h1,h2⟩
 split at h
 ·rename_i k off;split at h
  ·rename_i kb hkb;split at h
   case isFalse=>cases h
   rename_i dN;obtain ⟨h1,h2⟩:=sk hkb;have hb:=bn.bf k kb h1 h2;have jv:(s.kn.getD k default).idx=kb.idx:=by simp [dZ,h1]
   have dy:∀j,j≠kb.idx->(s.w.setRow kb.idx (aS kb.cells off (cellsOf (v.cg s.kn))).toArray).heap[j]? =s.w.heap[j]? :=by intro j hj;simp only [World.setRow,Array.getElem?_modify,if_neg (Ne.symm hj)]
   have mN:({s with w:=s.w.setRow kb.idx (aS kb.cells off (cellsOf (v.cg s.kn))).toArray,kn:=s.kn.modify k λb=>{b with cells:=aS kb.cells off (cellsOf (v.cg s.kn))}}:St).Ok:=by
    have key:∀(i:Nat)(y:KB),(s.kn.modify k λb=>{b with cells:=aS kb.cells off (cellsOf (v.cg s.kn))})[i]? =some y->∃z,s.kn[i]? =some z/\y.idx=z.idx/\y.live=z.live/\y.ty=z.ty/\(i≠k->y=z)/\(i=k->y.cells=aS kb.cells off (cellsOf (v.cg s.kn))):=by
     intro i y hy;simp only [Jj] at hy;split at hy
     ·rename_i e;subst e;rw [h1] at hy;simp at hy;subst hy;exact ⟨kb,h1,rfl,rfl,rfl,λe=>absurd rfl e,λ_=>rfl⟩
     ·rename_i e
      cases hz:s.kn[i]? with
      |none=>simp [hz] at hy
      |some z=>simp [hz] at hy;subst hy;exact ⟨_,rfl,rfl,rfl,rfl,λ_=>rfl,λe'=>absurd e'.symm e⟩
    refine ⟨λi y hy hl=> ?_,λi j x y hx hy l1 l2 e=> ?_,λi u hu=>by simpa using bn.mj i u hu⟩
    ·obtain ⟨z,z1,z2,z3,z4,z5,z6⟩:=key i y hy;by_cases e:i=k
     ·subst e;rw [h1] at z1;cases z1;rw [z6 rfl,z2,z4];exact setRow_heap _ _ _ _ _ _ hb
     ·have:=z5 e;subst this;have jh:y.idx≠kb.idx:=λe'=>e (bn.ne i k y kb z1 h1 hl h2 e')
      show (s.w.setRow _ _).heap[_]? =_;rw [dy _ jh];exact bn.bf i y z1 hl
    ·obtain ⟨z,z1,z2,z3,_⟩:=key i x hx;obtain ⟨z',z1',z2',z3',_⟩:=key j y hy;exact bn.ne i j z z' z1 z1' (by rw [<-z3];exact l1) (by rw [<-z3'];exact l2) (by rw [<-z2,<-z2'];exact e)
   have am7:tR s.kn (s.kn.modify k λb=>{b with cells:=aS kb.cells off (cellsOf (v.cg s.kn))}):=by intro i y hy;refine ⟨if k=i then {y with cells:=aS kb.cells off (cellsOf (v.cg s.kn))} else y,?_,by split<;>rfl,by split<;>rfl⟩;simp only [Jj,hy];split<;>rfl
   obtain ⟨k1,k2,k3,k4,k5⟩:=fq [v] mN;have h:=h _ rfl;refine ⟨⟨kb.idx,off,none⟩,_,by rw [SV.cg,jv],uZ _ _ ?_,j7 h bn k1 k2 (am7.trans k4) trivial rfl k3⟩;rw [run_storeCells_at P kb.idx off kb.ty _ 0 _ _ hb (by simpa using dN) we];rw [dt _ _ _ dN];simp
  ·obtain ⟨h1,h2⟩:=h;exact am6 _ rfl rfl h1 h2.1 (h2.2 _ rfl)
 ·rename_i p;obtain ⟨h1,h2⟩:=h;exact am6 p rfl h1.1 h1.2 h2.1 (h2.2 _ rfl)
 ·cases h
end
section
variable {P:Program} {s:St} {o:Oper} {K:St->Prop} {Q:Exit->Act->World->Prop}
def Rd(w:World)(p:Option Addr)(vs:List Value):Prop:=∀i v,vs[i]? =some v->ld w (ae p i)=some v
def One(vs:List Value):Prop:=∀u ∈ vs,u.oneCell'=true
structure ba(bytes size:Nat)(w:World)(sl:Sl)(n:Nat)(news:List Value):Prop where
 fits:sl.n+n<=sl.c->Wr w (ae sl.a (sl.n*size)) news.length
 fI:sl.c<sl.n+n->∃fI:List Value,fI.length=sl.n*size/\Rd w sl.a fI
 room:sl.c<sl.n+n->Builtin.nextslicecap (sl.n+n) sl.c*bytes<=281474976710656/\((sl.n+n:Nat):Int)<=9223372036854775807
 len:news.length=n*size
 one:One news
inductive aY(E size:Nat)(w:World)(sl:Sl)(n:Nat)(news:List Value):Sl->World->Prop
 |fits (h:sl.n+n<=sl.c):aY E size w sl n news ⟨sl.a,sl.n+n,sl.c⟩ (aL w (ae sl.a (sl.n*size)) news)
 |CE (h:sl.c<sl.n+n) (fI rest:List Value) (cap:Nat) (h1:fI.length=sl.n*size) (h2:Rd w sl.a fI) (h3:sl.n+n<=cap) (h4:(fI++news++rest).length=cap*size):
  aY E size w sl n news ⟨some ⟨w.heap.size,0,none⟩,sl.n+n,cap⟩ (w.drew.alloc (.cells (fI++news++rest).toArray E))
def oJ(P:Program)(t:TypeId):Option (TypeId × TypeInfo):=match P.underlying t with|some (.slice e)=>(P.info? e).map λi=>(e,i)|_=>none
def Uw(P:Program)(tx:TypeId):Bool:=match P.underlying tx with|some (.slice _)=>true|_=>false
def grownCap_ge{w:World}{need c:Nat}{e:TypeId}(h:((need:Nat):Int)<=9223372036854775807):need<=grownCap w need c e:=by simp only [grownCap,Question.cut];omega
def bo(z:List Value)(n:Nat):List Value:=(List.replicate n z).flatten
def kQ(z:List Value)(n:Nat):(bo z n).length=n*z.length:=by simp [bo]
def yU(z:List Value):∀(n i:Nat),i<n*z.length->(bo z n)[i]? =z[i % z.length]?
 |0,i,h=>by omega
 |n+1,i,h=>by
  have e:bo z (n+1)=z++bo z n:=by simp [bo,List.replicate_succ]
  rw [e];rcases jD i z.length with hi|hi
  ·rw [oI hi,Nat.mod_eq_of_lt hi]
  ·rw [MR] at h;rw [qW hi,yU z n _ ab,Nat.mod_eq_sub_mod hi]
def yV(z:Array Value)(m:Nat)(n:Nat)(hm:m=n*z.size):((Array.range m).map λi=>z[i % z.size]!).toList=bo z.toList n:=by
 subst hm;apply iP;intro i;rcases jD i (n*z.size) with hi|hi
 ·rw [yU _ _ _ (by simpa using hi)];have hz:0<z.size:=by
   rcases E4 z.size with h|h
   ·rw [h] at hi;omega
   ·exact h
  have iC:i % z.size<z.size:=Nat.mod_lt _ hz;simp [Jk hi,iC]
 ·rw [jS (by simpa using hi),jS (by rw [kQ];simpa using hi)]
def nR(z:Array Value)(n:Nat):(Builtin.zeroCells z n).toList=bo z.toList n:=yV z (n*z.size) n rfl
def MS{t tx ty e:TypeId}{i:TypeInfo}{z:Value}{k k':IntKind}{x:Int}{a:Option Addr}{l c:Nat}{w:World}(ht:P.underlying t=some (.slice e))(hi:P.info? e=some i)(hz:i.zero=some z)
  (Q1:(cellsOf z).length=i.size)(hux:P.underlying tx=some (.int k'))(h0:0<=x)(hx:IntKind.wrap .i64 x=x)(h48:x*i.bytes<=2 ^ 48)(hp:ba i.bytes i.size w ⟨a,l,c⟩ x.toNat (bo (cellsOf z) x.toNat)):
  ∃(sl:Sl)(w':World),aY e i.size w ⟨a,l,c⟩ x.toNat (bo (cellsOf z) x.toNat) sl w'/\(Builtin.append_ #[t,tx] ty #[.slice a l c,.int k x]).run P w=.ok (sl) w':=by
 obtain ⟨n,hn⟩:∃n,n=x.toNat:=⟨_,rfl⟩;rw [<-hn] at hp ⊢;have hxn:x=(n:Int):=by omega
 have iC:¬((n:Int)<0):=by omega
 have az3:¬((n:Int)*i.bytes>2 ^ 48):=by rw [<-hxn];omega
 have hz6:z.cells.size=i.size:=by rw [ox,<-Q1];simp
 have hnews:∀w:World,(if n*i.size=0 then (pure #[]:Sem (Array Value)) else do pure (Builtin.zeroCells (<-zeroValue e).cells n)).run P w=.ok (bo (cellsOf z) n).toArray w:=by
  intro w;split
  ·rename_i h0;have:bo (cellsOf z) n=[]:=E2.1 (by rw [kQ,Q1];exact h0);rw [this];rfl
  ·simp only [Sem.run_bind,zeroValue,eo,hi,Result.andThen_ok,hz,Sem.run_pure];congr 1;apply Array.ext';rw [nR,qV]
 have hwx:IntKind.wrap .i64 (n:Int)=(n:Int):=by rw [<-hxn];exact hx
 rcases jD c (l+n) with hg|hroom
 ·obtain ⟨fI,h1,h2⟩:=hp.fI hg;obtain ⟨h3,h4⟩:=hp.room hg;dsimp only at h1 h2 h3 h4;refine ⟨_,_,.CE hg fI (Builtin.zeroCells z.cells (grownCap w (l+n) c e-(l+n))).toList (grownCap w (l+n) c e) h1 h2 (grownCap_ge h4) ?_,?_⟩
  ·have h5:=grownCap_ge (w:=w) (c:=c) (e:=e) h4;have Vs:fI.length=l*i.size:=h1;simp only [dv,Vs,hp.len,Builtin.zeroCells,Array.length_toList,Array.size_map,Array.size_range,hz6];rw [<-oK,<-oK];congr 1;omega
  ·have Hk:(Builtin.firstCells i.size l (.slice a l c)).run P w.drew=.ok fI.toArray w.drew:=by
    cases a with
    |none=>
     have:fI=[]:=by
      cases fI with
      |nil=>rfl
      |cons v r=>have:=h2 0 v rfl;simp [ld,ae] at this
     subst this;exact run_firstCells_none w.drew i.size l l c
    |some a=>exact run_firstCells_some w.drew i.size l a l c fI h1 (λj u hj=>by have:=h2 j u hj;simpa [ld,ae] using this)
   have hn':¬(l+n<=c):=by omega
   have am8:¬(9223372036854775807<((l:Int)+(n:Int))):=by omega
   have h48b:¬(281474976710656<Builtin.nextslicecap (l+n) c*i.bytes):=by omega
   have h48c:¬(281474976710656<(n:Int)*i.bytes):=by omega
   have hnd:=hnews w.drew;rw [hxn];by_cases Q2:n*i.size=0
   ·rw [if_pos Q2] at hnd;have he:bo (cellsOf z) n=[]:=by have:=congrArg (λr:Result (Array Value)=>match r with| .ok v _=>v|_=> #[.bool true]) hnd;simpa using this.symm
    simp [Builtin.append_,run_underlying ht,run_underlying hux,sizeOf,typeInfo,zeroValue,hi,hz,asInt,asIntOf,hwx,hn',am8,h48b,h48c,Question.forced,Q2,iC,Hk,newRow,grownCap,he];congr 2;apply Array.ext';simp
   ·simp [Builtin.append_,run_underlying ht,run_underlying hux,sizeOf,typeInfo,zeroValue,hi,hz,asInt,asIntOf,hwx,hn',am8,h48b,h48c,Question.forced,Q2,iC,Hk,newRow,grownCap];congr 2;apply Array.ext';simp [nR,qV]
 ·refine ⟨_,_,.fits hroom,?_⟩;have hw:=hp.fits hroom;have hnd:=hnews w;have h48c:¬(281474976710656<(n:Int)*i.bytes):=by omega
  rw [hxn]
  cases a with
  |none=>
   by_cases Q2:n*i.size=0
   ·simp [Builtin.append_,run_underlying ht,run_underlying hux,sizeOf,typeInfo,hi,hroom,asInt,asIntOf,hwx,Q2,iC,h48c,ae,aL]
   ·simp [Builtin.append_,run_underlying ht,run_underlying hux,sizeOf,typeInfo,zeroValue,hi,hz,hroom,asInt,asIntOf,hwx,Q2,iC,h48c,ae,aL]
  |some a=>
   have gM:=gy (P:=P) (a.add (l*i.size)) (bo (cellsOf z) n) 0 w hp.one (λj hj=>by obtain ⟨a',e1,e2⟩:=hw j hj;simp only [ae,nB,Option.some.injEq] at e1;subst e1;simpa using e2);by_cases Q2:n*i.size=0
   ·have he:bo (cellsOf z) n=[]:=E2.1 (by rw [kQ,Q1];exact Q2);rw [he] at gM;simp [Builtin.append_,run_underlying ht,run_underlying hux,sizeOf,typeInfo,hi,hroom,asInt,asIntOf,hwx,Q2,iC,h48c,ae,aL,he,gM]
   ·have hzc:(Builtin.zeroCells z.cells n).toList=bo (cellsOf z) n:=by rw [nR,qV]
    simp [Builtin.append_,run_underlying ht,run_underlying hux,sizeOf,typeInfo,zeroValue,hi,hz,hroom,asInt,asIntOf,hwx,Q2,iC,h48c,ae,aL,hzc,gM]
def Rp(P:Program)(t:TypeId):Bool:=match P.underlying t with|some (.int _)=>true|_=>false
def MT{t:TypeId}(h:Rp P t=true):∃k,P.underlying t=some (.int k):=by
 unfold Rp at h;split at h
 ·rename_i k hu;exact ⟨k,hu⟩
 ·cases h
def E5(P:Program)(s:St)(d:Option Tmp)(t tx:TypeId)(sx x:SV)(K:St->Prop):Prop:=
 match oJ P t with
 |none=>False
 |some (e,i)=>match i.zero with
  |none=>False
  |some z=>if (cellsOf z).length=i.size then
   match sx.cg s.kn with
   | .slice a n c=>
     let body (m:Nat) (news:List Value):Prop:=ba i.bytes i.size s.w ⟨a,n,c⟩ m news/\
      ∀(sl:Sl)(w':World),aY e i.size s.w ⟨a,n,c⟩ m news sl w'->aP (EX s.kn s.w w') (K ({s with w:=w'}.put d (.val (sl))))
     match x with
     | .sli k m=>match Uw P tx with
       |true=>(match s.known k with
        |some kb=>body m kb.cells
        |none=>False)
       |false=>False
     | .val (.slice b m _)=>match Uw P tx with
       |true=>∃news,Rd s.w b news/\body m news
       |false=>False
     | .val (.string st)=>match isStr P tx with
       |true=>body st.size (byteCells st)
       |false=>False
     | .val (.int _ x)=>match Rp P tx with
       |true=>(0<=x/\IntKind.wrap .i64 x=x/\x*i.bytes<=281474976710656)/\body x.toNat (bo (cellsOf z) x.toNat)
       |false=>False
     |_=>False
   |_=>False
   else False
def Rq{t tx ty e:TypeId}{i:TypeInfo}{z:Value}{x:Value}{n:Nat}{news:List Value}{a:Option Addr}{l c:Nat}{w:World}(ht:P.underlying t=some (.slice e))(hi:P.info? e=some i)(hz:i.zero=some z)
  (Q1:(cellsOf z).length=i.size)(hs:Src P i.size tx x n news w)(hp:ba i.bytes i.size w ⟨a,l,c⟩ n news):
  ∃(sl:Sl)(w':World),aY e i.size w ⟨a,l,c⟩ n news sl w'/\(Builtin.append_ #[t,tx] ty #[.slice a l c,x]).run P w=.ok (sl) w':=by
 rcases jD c (l+n) with hg|hroom
 ·obtain ⟨fI,h1,h2⟩:=hp.fI hg;obtain ⟨h3,h4⟩:=hp.room hg;dsimp only at h1 h2 h3 h4;refine ⟨_,_,.CE hg fI (Builtin.zeroCells z.cells (grownCap w (l+n) c e-(l+n))).toList (grownCap w (l+n) c e) h1 h2 (grownCap_ge h4) ?_,?_⟩
  ·have h5:=grownCap_ge (w:=w) (c:=c) (e:=e) h4;have h6:z.cells.size=i.size:=by rw [ox,<-Q1];simp
   have Vs:fI.length=l*i.size:=h1;simp only [dv,Vs,hp.len,Builtin.zeroCells,Array.length_toList,Array.size_map,Array.size_range,h6];rw [<-oK,<-oK];congr 1;omega
  ·have Hk:(Builtin.firstCells i.size l (.slice a l c)).run P w.drew=.ok fI.toArray w.drew:=by
    cases a with
    |none=>
     have:fI=[]:=by
      cases fI with
      |nil=>rfl
      |cons v r=>have:=h2 0 v rfl;simp [ld,ae] at this
     subst this;exact run_firstCells_none w.drew i.size l l c
    |some a=>exact run_firstCells_some w.drew i.size l a l c fI h1 (λj u hj=>by have:=h2 j u hj;simpa [ld,ae] using this)
   rw [run_append_grow_src w t tx ty e i z ht hi hz a l c fI Hk x n news hs hg h4 h3];congr 3;apply Array.ext';simp
 ·refine ⟨_,_,.fits hroom,?_⟩;have hw:=hp.fits hroom
  cases a with
  |none=>
   rcases hs.kind with ⟨e',hk⟩|hk<;>simp [Builtin.append_,run_underlying ht,run_underlying hk,sizeOf,typeInfo,hi,hs.len,hroom,hs.cells,ae,aL]
  |some a=>
   have gM:=gy (P:=P) (a.add (l*i.size)) news 0 w hs.one (λj hj=>by obtain ⟨a',e1,e2⟩:=hw j hj;simp only [ae,nB,Option.some.injEq] at e1;subst e1;simpa using e2);rcases hs.kind with ⟨e',hk⟩|hk<;>simp [Builtin.append_,run_underlying ht,run_underlying hk,sizeOf,typeInfo,hi,hs.len,hroom,hs.cells,ae,aL,gM]
def jT{t e:TypeId}{i:TypeInfo}(h:oJ P t=some (e,i)):P.underlying t=some (.slice e)/\P.info? e=some i:=by
 unfold oJ at h;split at h
 ·rename_i e' hu
  cases hi:P.info? e' with
  |none=>simp [hi] at h
  |some j=>simp [hi] at h;obtain ⟨rfl,rfl⟩:=h;exact ⟨hu,hi⟩
 ·cases h
def E6{t:TypeId}(h:Uw P t=true):∃e,P.underlying t=some (.slice e):=by
 unfold Uw at h;split at h
 ·rename_i e hu;exact ⟨e,hu⟩
 ·cases h
def HX{d:Option Tmp}{t tx ty:TypeId}{sx x:SV}(bn:s.Ok)(h:E5 P s d t tx sx x K):
  ∃v w',(Builtin.append_ #[t,tx] ty #[sx.cg s.kn,x.cg s.kn]).run P s.w=.ok v w'/\iO d s K (s.act.put d v) w':=by
 unfold E5 at h;split at h
 ·cases h
 rename_i e i he;obtain ⟨ht,hi⟩:=jT he;split at h
 ·cases h
 rename_i z hz;split at h
 case isFalse=>cases h
 rename_i Q1;split at h
 ·rename_i a l c hsx;rw [hsx];simp only at h;have main:∀(m:Nat)(news:List Value),Src P i.size tx (x.cg s.kn) m news s.w->ba i.bytes i.size s.w ⟨a,l,c⟩ m news->
    (∀(sl:Sl)(w':World),aY e i.size s.w ⟨a,l,c⟩ m news sl w'->aP (EX s.kn s.w w') (K ({s with w:=w'}.put d (.val (sl)))))->
    ∃v w',(Builtin.append_ #[t,tx] ty #[.slice a l c,x.cg s.kn]).run P s.w=.ok v w'/\iO d s K (s.act.put d v) w':=by
   intro m news hs hp hk;obtain ⟨sl,w',h1,h2⟩:=Rq (ty:=ty) ht hi hz Q1 hs hp;have h3:=hk sl w' h1;rw [bB] at h3;exact ⟨_,w',h2,j7 h3.2 bn (mw bn h3.1) rfl (tR.refl _) trivial rfl rfl⟩
  split at h
  ·rename_i k m;split at h
   ·rename_i YR;split at h
    ·rename_i kb hkb;obtain ⟨h1,h2⟩:=sk hkb;have hb:=bn.bf k kb h1 h2;obtain ⟨e',hu⟩:=E6 YR;refine main m kb.cells ?_ h.1 h.2;have jv:(s.kn.getD k default).idx=kb.idx:=by simp [dZ,h1]
     rw [SV.cg,jv];refine Src.ofSlice _ hu _ _ _ _ h.1.len (λj u hj=> ?_) h.1.one;rw [nO,cell_of hb];simpa using hj
    ·cases h
   ·cases h
  ·rename_i b m c';split at h
   ·rename_i YR;obtain ⟨news,hr,h1,h2⟩:=h;obtain ⟨e',hu⟩:=E6 YR;refine main m news ?_ h1 h2
    cases b with
    |none=>
     have hn:news=[]:=by
      cases news with
      |nil=>rfl
      |cons v r=>have:=hr 0 v rfl;simp [ld,ae] at this
     subst hn;exact ⟨.inl ⟨e',hu⟩,λ_=>rfl,run_firstCells_none s.w i.size m m c',run_firstCells_none s.w.drew i.size m m c',h1.len,h1.one⟩
    |some b=>exact Src.ofSlice _ hu _ _ _ _ h1.len (λj u hj=>by have:=hr j u hj;simpa [ld,ae] using this) h1.one
   ·cases h
  ·rename_i st;split at h
   ·rename_i YR;have h1:=h.1.len;rw [byteCells_length] at h1;have hss:i.size=1\/st.size=0:=by
     rcases E4 st.size with h0|h0
     ·exact .inr h0
     ·left;have:st.size*i.size=st.size*1:=by omega
      exact Nat.eq_of_mul_eq_mul_left h0 this
    refine main st.size _ ?_ h.1 h.2;rcases hss with h3|h3
    ·rw [h3];exact Src.ofString s.w (oH YR) st
    ·refine ⟨.inr (oH YR),λ_=>rfl,?_,?_,h.1.len,h.1.one⟩<;>
     ·have:byteCells st=[]:=E2.1 (by rw [byteCells_length,h3]);rw [this];simp only [SV.cg,Builtin.firstCells,h3];simp
   ·cases h
  ·rename_i k x;split at h
   ·rename_i hint;obtain ⟨k',hux⟩:=MT hint;obtain ⟨⟨g1,g2,g3⟩,hp,hk⟩:=h;obtain ⟨sl,w',h1,h2⟩:=MS (ty:=ty) (k:=k) ht hi hz Q1 hux g1 g2 ab hp;have h3:=hk sl w' h1;rw [bB] at h3;exact ⟨_,w',h2,j7 h3.2 bn (mw bn h3.1) rfl (tR.refl _) trivial rfl rfl⟩
   ·cases h
  ·cases h
 ·cases h
def Rr(P:Program)(s:St)(d:Option Tmp)(t:TypeId)(l c:Value)(K:St->Prop):Prop:=
 match oJ P t,l,c with
 |some (e,i),.int _ l,.int _ c=>match i.zero with
  |some z=>if (cellsOf z).length=i.size then (0<=l/\l<=c/\c<=140737488355328/\c*i.bytes<=140737488355328)/\
   ∀w1,w1=s.w.alloc (.cells (bo (cellsOf z) c.toNat).toArray e)->K ({s with w:=w1}.put d (.val (.slice (some ⟨s.w.heap.size,0,none⟩) l.toNat c.toNat))) else False
  |none=>False
 |_,_,_=>False
def MU{d:Option Tmp}{t:TypeId}{l c:Value}(bn:s.Ok)(h:Rr P s d t l c K):∃v w',(Instr.makeSlice t l c).run P s.w=.ok v w'/\iO d s K (s.act.put d v) w':=by
 unfold Rr at h;split at h
 ·rename_i e i _ l _ c he;obtain ⟨ht,hi⟩:=jT he;split at h
  ·rename_i z hz;split at h
   case isFalse=>cases h
   rename_i Q1;obtain ⟨⟨h0,h1,h2,h3⟩,hk⟩:=h;have hk:=hk _ rfl;have hwl:IntKind.wrap .i64 l=l:=by unfold IntKind.wrap;simp only [IntKind.bits,IntKind.signed];simp only [pU];split<;>simp_all<;>omega
   have hwc:IntKind.wrap .i64 c=c:=by unfold IntKind.wrap;simp only [IntKind.bits,IntKind.signed];simp only [pU];split<;>simp_all<;>omega
   have hz6:z.cells.size=i.size:=by rw [ox,<-Q1];simp
   refine ⟨.slice (some ⟨s.w.heap.size,0,none⟩) l.toNat c.toNat,s.w.alloc (.cells (bo (cellsOf z) c.toNat).toArray e),?_,?_⟩
   ·have e1:¬(c<0):=by omega
    have e2:¬(l<0):=by omega
    have e3:¬(c<l):=by omega
    have e4:¬(281474976710656<(i.bytes:Int)*c):=by rw [Int.mul_comm];omega
    have e5:¬(140737488355328<c.toNat*i.bytes):=by
     have:((c.toNat*i.bytes:Nat):Int)=c*i.bytes:=by rw [Int.natCast_mul];congr 1;omega
     omega
    have hcells:∀zz:Array Value,(zz=z.cells\/c.toNat*i.size=0)->((Array.range (c.toNat*i.size)).map λj=>zz[j % zz.size]!)=(bo (cellsOf z) c.toNat).toArray:=by
     intro zz hh;apply Array.ext';rcases hh with rfl|hh
     ·rw [yV z.cells _ c.toNat (by rw [hz6]),qV]
     ·rw [hh];have:bo (cellsOf z) c.toNat=[]:=E2.1 (by rw [kQ,Q1];exact hh);simp [this]
    by_cases Q2:c.toNat*i.size=0
    ·have:=hcells #[] (.inr Q2);simp only [Instr.makeSlice,asInt,asIntOf,Sem.run_bind,Sem.run_pure,aI,ht,Result.andThen_ok,eo,hi,hwl,hwc];simp [e1,e2,e3,e4,askRoom,roomBytes,e5,sizeOf,eo,hi,newRow,kj];simp [Q2] at this ⊢;rw [this]
    ·have:=hcells z.cells (.inl rfl);simp only [Instr.makeSlice,asInt,asIntOf,Sem.run_bind,Sem.run_pure,aI,ht,Result.andThen_ok,eo,hi,hwl,hwc];simp [e1,e2,e3,e4,askRoom,roomBytes,e5,sizeOf,eo,hi,newRow,kj,zeroValue,hz,Q2];simp [this]
   ·exact kO (s1:={s with w:=s.w.alloc (.cells (bo (cellsOf z) c.toNat).toArray e)}) (v:=.val (.slice (some ⟨s.w.heap.size,0,none⟩) l.toNat c.toNat)) hk bn rfl (tR.refl _) (λk kb h1 h2=>by rw [<-bn.bf k kb h1 h2];exact Below.heap_alloc _ _ _ (bn.lt k kb h1 h2)) bn.ne trivial rfl rfl
  ·cases h
 ·cases h
def Ru(P:Program)(s:St)(d:Option Tmp)(ats:List TypeId)(x y:Value)(K:St->Prop):Prop:=
 match ats,x,y with
 |t::_,.slice a n _,.slice b m _=>match oJ P t with
  |some (_,i)=>∃vs:List Value,(vs.length=min m n*i.size/\Rd s.w b vs/\One vs/\Wr s.w a vs.length)/\
   aP (A6 s.kn a) (∀w1,w1=aL s.w a vs->K ({s with w:=w1}.put d (.val (.int .i64 ((min m n:Nat):Int)))))
  |none=>False
 |_,_,_=>False
def E7{a:Addr}{vs:List Value}{w:World}(h1:One vs)(hw:Wr w (some a) vs.length):(storeCells a vs).run P w=.ok () (aL w (some a) vs):=
 gy (P:=P) a vs 0 w h1 λj hj=>by
  obtain ⟨a',e1,e2⟩:=hw j hj
  cases e1;simpa using e2
def CF{a:Option Addr}{vs:List Value}{w:World}{kn:List KB}(h:∀p ∈ A6 kn a,p):∀p ∈ EX kn w (aL w a vs),p:=by
 intro p hp;obtain ⟨i,hi,rfl⟩:=aW.1 hp;have:=h (bz a≠some i) (aW.2 ⟨i,hi,rfl⟩)
 cases a with
 |none=>rfl
 |some a=>
  have jh:a.block≠i:=λe=>this (by simp [bz,e])
  have key:∀(vs:List Value)(j:Nat)(w:World),(qT w a j vs).heap[i]? =w.heap[i]? :=by
   intro vs
   induction vs with
   |nil=>intro j w;rfl
   |cons v r ih=>
    intro j w;show (qT _ a (j+1) r).heap[i]? =_;rw [ih];have hb:(a.add j).block=a.block:=by unfold Addr.add;split<;>rfl
    simp only [World.setCell,Array.getElem?_modify,hb,if_neg jh]
  exact key vs 0 w
def MV{d:Option Tmp}{ats:Array TypeId}{ty:TypeId}{x y:Value}(bn:s.Ok)(h:Ru P s d ats.toList x y K):∃v w',(Builtin.copy_ ats ty #[x,y]).run P s.w=.ok v w'/\iO d s K (s.act.put d v) w':=by
 unfold Ru at h;split at h
 ·rename_i t r a n c b m c' HR;have ha:ats[0]? =some t:=by rw [<-Array.getElem?_toList,HR];rfl
  split at h
  ·rename_i e i he;obtain ⟨ht,hi⟩:=jT he;obtain ⟨vs,⟨h1,h2,h3,h4⟩,h5⟩:=h;rw [bB] at h5;have hk:=h5.2 _ rfl;have hload:(Builtin.firstCells i.size (min m n) (.slice b m c')).run P s.w=.ok vs.toArray s.w:=by
    cases b with
    |none=>
     have:vs=[]:=by
      cases vs with
      |nil=>rfl
      |cons v r=>have:=h2 0 v rfl;simp [ld,ae] at this
     subst this;exact run_firstCells_none s.w i.size _ m c'
    |some b=>exact run_firstCells_some s.w i.size (min m n) b m c' vs h1 (λj u hj=>by have:=h2 j u hj;simpa [ld,ae] using this)
   refine ⟨.int .i64 ((min m n:Nat):Int),aL s.w a vs,?_,?_⟩
   ·cases a with
    |none=>
     have:vs=[]:=by
      cases vs with
      |nil=>rfl
      |cons v r=>obtain ⟨a',e1,_⟩:=h4 0 cp;cases e1
     subst this;simp [Builtin.copy_,ha,run_underlying ht,Builtin.lenOf,sizeOf,eo,hi,hload,goInt,aL]
    |some a=>
     have gM:=E7 (P:=P) h3 h4;simp [Builtin.copy_,ha,run_underlying ht,Builtin.lenOf,sizeOf,eo,hi,hload,goInt,gM]
   ·exact j7 (v:=.val (.int .i64 ((min m n:Nat):Int))) hk bn (mw bn (CF h5.1)) rfl (tR.refl _) trivial rfl rfl
  ·cases h
 ·cases h
def KO(P:Program)(s:St)(d:Option Tmp)(ats:List TypeId)(x:Value)(K:St->Prop):Prop:=
 match ats,x with
 |t::_,.slice a n _=>match oJ P t with
  |some (_,i)=>match i.zero with
   |some z=>aP ((cellsOf z).flatMap kP) (Wr s.w a (n*(cellsOf z).length)/\aP (A6 s.kn a) (∀w1,w1=aL s.w a (bo (cellsOf z) n)->K ({s with w:=w1}.put d (.val (.tuple #[])))))
   |none=>False
  |none=>False
 |_,_=>False
def KP{d:Option Tmp}{ats:Array TypeId}{ty:TypeId}{x:Value}(bn:s.Ok)(h:KO P s d ats.toList x K):∃v w',(Builtin.clear_ ats ty #[x]).run P s.w=.ok v w'/\iO d s K (s.act.put d v) w':=by
 unfold KO at h;split at h
 ·rename_i t r a n c HR;have ha:ats[0]? =some t:=by rw [<-Array.getElem?_toList,HR];rfl
  split at h
  ·rename_i e i he;obtain ⟨ht,hi⟩:=jT he;split at h
   ·rename_i z hz;rw [bB] at h;obtain ⟨h1,h4,h5⟩:=h;have h1:=Uv h1;rw [bB] at h5;have hk:=h5.2 _ rfl;have we:One (bo (cellsOf z) n):=by intro u hu;obtain ⟨l,hl,hul⟩:=List.mem_flatten.1 hu;rw [(Z0.1 hl).2] at hul;exact h1 u hul
    refine ⟨.tuple #[],aL s.w a (bo (cellsOf z) n),?_,?_⟩
    ·cases a with
     |none=>simp [Builtin.clear_,ha,run_underlying ht,aL]
     |some a=>
      have gM:=E7 (P:=P) (w:=s.w) (a:=a) we (by rw [kQ];exact h4)
      cases n with
      |zero=>simp [Builtin.clear_,ha,run_underlying ht,aL,bo,qT]
      |succ n=>
       have hzc:(Builtin.zeroCells z.cells (n+1)).toList=bo (cellsOf z) (n+1):=by rw [nR,qV]
       simp [Builtin.clear_,ha,run_underlying ht,zeroValue,eo,hi,hz,hzc,gM]
    ·exact j7 (v:=.val (.tuple #[])) hk bn (mw bn (CF h5.1)) rfl (tR.refl _) trivial rfl rfl
   ·cases h
  ·cases h
 ·cases h
end
end Go.Vc
