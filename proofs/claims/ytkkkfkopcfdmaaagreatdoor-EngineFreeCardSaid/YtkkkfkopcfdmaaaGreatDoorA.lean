import Derived.WalkKit
import Derived.Laws.BytesArg
import Derived.Great.BuildSlice
import Derived.Deep.AppendSrc
import Derived.Deep.LoopGhost
import Derived.RangeFuncNested
import Derived.RangeFuncLeaves
import Derived.OrdersIn
set_option linter.all false
def ab{p:Prop}(h:p:=by omega):p:=h
def aG{p:Prop}(h:p:=by decide):p:=h
def cj{p:Prop}(h:p:=by simp):p:=h
abbrev aU:= @List.mem_of_getElem?
abbrev aN:= @List.length_map
abbrev aV:= @List.getElem?_map
abbrev cK:= @List.getElem?_eq_some_iff
abbrev dv:= @List.getElem?_eq_getElem
abbrev dY:= @List.getD_eq_getElem?_getD
abbrev aY:= @List.mem_map
abbrev cS:= @List.length_append
abbrev bX:= @List.map_append
abbrev dP:= @List.take_add_one
abbrev c8:= @List.length_cons
abbrev fz:= @List.take_of_length_le
abbrev dI:= @List.length_take
abbrev jX:= @List.getElem?_eq_none
abbrev jZ:= @List.mem_or_eq_of_mem_set
abbrev gV:= @List.append_assoc
abbrev cR:= @List.mem_cons
abbrev fT:= @List.map_cons
abbrev pU:= @List.getElem?_append_left
abbrev sV:= @List.getElem?_append_right
abbrev jB:= @List.ext_getElem?
abbrev kY:= @List.flatten_cons
abbrev sT:= @Array.getElem?_eq_some_iff
abbrev qT:= @Int.tdiv_eq_ediv_of_nonneg
abbrev sZ:= @Int.fdiv_eq_ediv_of_nonneg
abbrev c5:= @List.mem_append
abbrev ja:= @List.take_length
abbrev cX:= @decide_eq_true_eq
abbrev fk:= @decide_eq_false_iff_not
abbrev oP:= @Option.isSome_iff_exists
abbrev eC:= @Int.toNat_natCast
abbrev jU:= @List.length_set
abbrev oS:= @List.getElem?_set_self
abbrev jW:= @List.getElem?_set
abbrev aD:= @Nat.le_refl
abbrev kB:= @Nat.lt_of_lt_of_le
abbrev oQ:= @List.not_mem_nil
abbrev eD:= @Nat.zero_add
abbrev qd:= @List.filter_append
abbrev fy:= @Bool.and_eq_true
abbrev CA:= @List.take_zero
abbrev gD:= @Nat.le_trans
abbrev CM:= @List.getElem?_cons_succ
abbrev ane:= @List.getElem?_cons_zero
abbrev qQ:= @List.append_nil
abbrev aaA:= @List.nil_append
abbrev JM:= @List.length_replicate
abbrev ahQ:= @List.getElem?_replicate
abbrev aan:= @List.mem_replicate
abbrev FM:= @List.length_range
abbrev Pz:= @BitVec.getLsbD_and
abbrev Vj:= @BitVec.getLsbD_shiftLeft
abbrev zB:= @BitVec.toNat_and
abbrev Ct:= @BitVec.toNat_ofInt
abbrev CP:= @Bool.false_and
abbrev pW:= @Bool.true_and
abbrev pf:= @Int.le_refl
abbrev sX:= @Int.lt_or_le
abbrev Fh:= @Int.mul_nonneg
abbrev CE:= @Int.tmod_eq_emod_of_nonneg
abbrev E6:= @List.all_eq_true
abbrev zM:= @List.drop_eq_getElem_cons
abbrev Cy:= @List.drop_of_length_le
abbrev Cu:= @List.eq_nil_of_length_eq_zero
abbrev Jk:= @List.eraseIdx_eq_take_drop_succ
abbrev wJ:= @List.eraseIdx_sublist
abbrev Cs:= @List.filter_cons
abbrev Ji:= @List.filter_cons_of_neg
abbrev Jh:= @List.filter_cons_of_pos
abbrev ML:= @List.filter_eq_self
abbrev CR:= @List.find?_eq_none
abbrev Cz:= @List.flatten_append
abbrev pk:= @List.foldl_append
abbrev tc:= @List.foldl_cons
abbrev wB:= @List.getElem?_drop
abbrev IZ:= @List.getElem?_modify
abbrev sU:= @List.getElem?_of_mem
abbrev I9:= @List.getElem?_range
abbrev zT:= @List.getElem?_set_ne
abbrev qN:= @List.getElem?_take
abbrev zX:= @List.length_drop
abbrev EZ:= @List.length_eq_zero_iff
abbrev zf:= @List.length_filter_le
abbrev m8:= @List.length_nil
abbrev yT:= @List.map_congr_left
abbrev mS:= @List.map_map
abbrev jV:= @List.map_set
abbrev Gm:= @List.mem_append_left
abbrev Ot:= @List.mem_append_right
abbrev CF:= @List.mem_cons_of_mem
abbrev kA:= @List.mem_filter
abbrev Jj:= @List.mem_iff_getElem?
abbrev U0:= @List.mem_of_find?_eq_some
abbrev za:= @List.mem_of_mem_drop
abbrev qR:= @List.mem_of_mem_take
abbrev oO:= @List.mem_range
abbrev gU:= @List.mem_singleton
abbrev td:= @List.nodup_append
abbrev oY:= @List.nodup_cons
abbrev wK:= @List.range_succ
abbrev aa3:= @List.set_cons_succ
abbrev JG:= @List.takeWhile_append_dropWhile
abbrev qP:= @List.take_append_drop
abbrev C1:= @List.take_append_of_le_length
abbrev Fa:= @List.take_left'
abbrev uk:= @Nat.add_comm
abbrev oX:= @Nat.add_mul
abbrev Cq:= @Nat.eq_zero_or_pos
abbrev oZ:= @Nat.le_succ
abbrev CB:= @Nat.lt_irrefl
abbrev Pn:= @Nat.lt_of_le_of_lt
abbrev Js:= @Nat.lt_of_not_le
abbrev jA:= @Nat.lt_or_ge
abbrev wC:= @Nat.mul_le_mul_right
abbrev zc:= @Nat.mul_one
abbrev MC:= @Nat.succ_mul
abbrev iI:= @Nat.zero_le
abbrev abh:= @Option.join_eq_some_iff
abbrev CJ:= @Option.map_eq_some_iff
abbrev pV:= @Option.map_some
namespace Go.Vc
open Go Go.RowKit
inductive S where
 |bool|int (k:IntKind)|str|ptr|slice|map|raw
inductive T1 where
 |sc (s:S)|agg (l:List S)
inductive T2 where
 |one (t:T1)|tup (l:List T1)
structure Sl where
 a:Option Addr
 n:Nat
 c:Nat
instance:Coe Int Value:=⟨λn=> .int .i64 n⟩
instance:Coe Sl Value:=⟨λs=> .slice s.a s.n s.c⟩
instance:Coe World Nat:=⟨λw=>w.heap.size⟩
abbrev Kp(i:Nat)(a b:World):Prop:=b.heap[i]? =a.heap[i]?
abbrev aL(l:List Value):Prop:=l=l
instance:Coe Bool Value:=⟨.bool⟩
instance:Coe (Option Addr) Value:=⟨.pointer⟩
instance:Coe Value Ending:=⟨.returned⟩
inductive WQ|a|b
inductive TQ|a
abbrev ug:TQ:=.a
instance:Coe TQ Value:=⟨λ_=> .tuple #[]⟩
abbrev LV:=List Value
instance:Coe World (Option Addr):=⟨λw=>some ⟨w.heap.size,0,none⟩⟩
instance:Coe Nat (Option Addr):=⟨λw=>some ⟨w,0,none⟩⟩
inductive WQ8|a
abbrev fi:WQ8:=.a
instance:CoeFun WQ8 (λ_=>Int->Int):=⟨λ_=>IntKind.wrap .u8⟩
inductive amD|a
abbrev nv:amD:=.a
instance:CoeFun amD (λ_=>Int->Int):=⟨λ_=>IntKind.wrap .u16⟩
inductive amE|a
abbrev aAi:amE:=.a
instance:CoeFun amE (λ_=>Int->Int):=⟨λ_=>IntKind.wrap .u32⟩
inductive amF|a
abbrev di:amF:=.a
instance:CoeFun amF (λ_=>Int->Int):=⟨λ_=>IntKind.wrap .u64⟩
abbrev ak:WQ:=.a
abbrev aa:WQ:=.b
instance:CoeFun WQ (λ_=>Int->Int):=⟨λ_=>IntKind.wrap .i64⟩
instance:Coe WQ Value:=⟨λ_=> .int .i64 0⟩
abbrev aB(b:Nat):Option Addr:=some ⟨b,0,none⟩
abbrev dU(b o:Nat):Option Addr:=some ⟨b,o,none⟩
class Qdq (b v:Bool) (p:outParam Prop):Prop where
 f:b=v->p
instance {p:Prop} [Decidable p]:Qdq (decide p) true p:=⟨of_decide_eq_true⟩
instance {p:Prop} [Decidable p]:Qdq (decide p) false (¬p):=⟨of_decide_eq_false⟩
instance {a b:Int}:Qdq (a !=b) true (a≠b):=⟨λh=>by simpa using h⟩
instance {a b:Int}:Qdq (a !=b) false (a=b):=⟨λh=>by simpa using h⟩
instance {a b:Int}:Qdq (a==b) true (a=b):=⟨λh=>by simpa using h⟩
instance {a b:Int}:Qdq (a==b) false (a≠b):=⟨λh=>by simpa using h⟩
def dn{b v:Bool}{p:Prop} [q:Qdq b v p] (h:b=v):p:=q.f h
def mN(w:World):w.drew.heap.size=w.heap.size:=rfl
def nG{p:Prop} [Decidable p] (h:decide p=true):p:=of_decide_eq_true h
def nT{p:Prop} [Decidable p] (h:decide p=false):¬p:=of_decide_eq_false h
def IQ{v w:World}{g:Nat}{c:Array Value}(e:v=w.setRow g c):v.heap.size=w.heap.size:=by rw [e];simp
def eN{v w:World}{o:Obj}(e:v=w.alloc o):v.heap.size=w.heap.size+1:=by rw [e];simp
def Db{v w u:World}{o:Obj}{g:Nat}{c:Array Value}(e:v=w.alloc o)(f:u=v.setRow g c):u.heap.size=w.heap.size+1:=by rw [f,e];simp
@[reducible] def S.Ty:S->Type
 | .bool=>Bool| .int _=>Int| .str=>ByteArray| .ptr=>Option Addr| .slice=>Sl| .map=>Option Nat| .raw=>Value
def S.mk:(s:S)->s.Ty->Value
 | .bool,b=> .bool b| .int k,n=> .int k n| .str,s=> .string s| .ptr,p=> .pointer p| .slice,s=> .slice s.a s.n s.c
 | .map,r=> .map r| .raw,v=>v
def S.get:(s:S)->Value->Option s.Ty
 | .bool,.bool b=>some b
 | .int .i64,.int .i64 n=>some n| .int .i32,.int .i32 n=>some n| .int .i16,.int .i16 n=>some n| .int .i8,.int .i8 n=>some n
 | .int .u64,.int .u64 n=>some n| .int .u32,.int .u32 n=>some n| .int .u16,.int .u16 n=>some n| .int .u8,.int .u8 n=>some n
 | .str,.string s=>some s| .ptr,.pointer p=>some p| .slice,.slice a n c=>some ⟨a,n,c⟩| .map,.map r=>some r
 | .raw,v=>some v
 |_,_=>none
def S.ai1{s:S}{v:Value}{x:s.Ty}(h:s.get v=some x):v=s.mk x:=by unfold S.get at h;split at h<;>(try cases h)<;>rfl
def S.ex(s:S)(F:Value->Prop):Prop:=∃x:s.Ty,F (s.mk x)
def S.all(s:S)(F:Value->Prop):Prop:=∀x:s.Ty,F (s.mk x)
def exL:List S->(List Value->Prop)->Prop
 | [],F=>F []
 |s::r,F=>s.ex λv=>exL r λvs=>F (v::vs)
def tw:List S->(List Value->Prop)->Prop
 | [],F=>F []
 |s::r,F=>s.all λv=>tw r λvs=>F (v::vs)
def T1.ex:T1->(Value->Prop)->Prop
 | .sc s,F=>s.ex F
 | .agg l,F=>exL l λvs=>F (.agg vs.toArray)
def ex1:List T1->(List Value->Prop)->Prop
 | [],F=>F []
 |t::r,F=>t.ex λv=>ex1 r λvs=>F (v::vs)
def T2.ex:T2->(Value->Prop)->Prop
 | .one t,F=>t.ex F
 | .tup l,F=>ex1 l λvs=>F (.tuple vs.toArray)
def S.lT{s:S}{F:Value->Prop}(h:s.ex F):∃v,F v:=⟨_,h.choose_spec⟩
def Ks:∀{l:List S} {F:List Value->Prop},exL l F->∃vs,F vs
 | [],_,h=>⟨[],h⟩
 |_::_,_,⟨_,h⟩=>let ⟨vs,h'⟩:=Ks h;⟨_,h'⟩
def T1.lT{t:T1}{F:Value->Prop}(h:t.ex F):∃v,F v:=by
 cases t with
 |sc s=>exact S.lT h
 |agg l=>exact let ⟨_,h'⟩:=Ks h;⟨_,h'⟩
def Us:∀{l:List T1} {F:List Value->Prop},ex1 l F->∃vs,F vs
 | [],_,h=>⟨[],h⟩
 |_::_,_,h=>let ⟨_,h1⟩:=T1.lT h;let ⟨_,h2⟩:=Us h1;⟨_,h2⟩
def T2.lT{t:T2}{F:Value->Prop}(h:t.ex F):∃v,F v:=by
 cases t with
 |one t=>exact T1.lT h
 |tup l=>exact let ⟨_,h'⟩:=Us h;⟨_,h'⟩
def amH(P:Program)(t:TypeId):S:=
 match P.underlying t with
 |some .bool=> .bool|some (.int k)=> .int k|some .string=> .str|some (.pointer _)=> .ptr
 |some (.slice _)=> .slice|some (.map _ _)=> .map|_=> .raw
def flat(P:Program):Nat->TypeId->List S
 |0,_=> []
 |d+1,t=>match P.underlying t with
  |some (.struct fs)=>fs.toList.flatMap λf=>flat P d f.type
  |some (.array n e)=>(List.replicate n (flat P d e)).flatten
  |_=> [amH P t]
def A2(P:Program)(t:TypeId):Bool:=
 match P.underlying t with
 |some (.struct _)|some (.array _ _)=>true
 |_=>false
def tz(P:Program)(t:TypeId):T1:=if A2 P t then .agg (flat P 20 t) else .sc (amH P t)
def axC(P:Program)(l:List TypeId):T2:=
 match l with
 | [t]=> .one (tz P t)
 |l=> .tup (l.map (tz P))
def fX(P:Program)(t:TypeId):Nat:=((P.info? t).map (·.size)).getD 0
@[reducible] def ZP:List S->Type->Type
 | [],β=>β
 |s::r,β=>s.Ty->ZP r β
def iW:(l:List S)->ZP l (World->Prop)->List Value->World->Prop
 | [],f,[],w=>f w
 |s::r,f,v::vs,w=>match s.get v with|some x=>iW r (f x) vs w|none=>False
 |_,_,_,_=>False
def Br(b:Bool)(A B:Prop):Prop:=match b with|true=>A|false=>B
def Br.mk{b:Bool}{A B:Prop}(h1:b=true->A)(h2:b=false->B):Br b A B:=by
 cases b
 ·exact h2 rfl
 ·exact h1 rfl
def Br.tt{b:Bool}{A B:Prop}(h:Br b A B)(hb:b=true):A:=by subst hb;exact h
def Br.ff{b:Bool}{A B:Prop}(h:Br b A B)(hb:b=false):B:=by subst hb;exact h
def aS(l:List Prop)(K:Prop):Prop:=l.foldr And K
def bD{l:List Prop}{K:Prop}:aS l K ↔(∀p ∈ l,p)/\K:=by
 induction l with
 |nil=>simp [aS]
 |cons a l ih=>
  simp only [aS,List.foldr_cons] at ih ⊢;rw [ih,<-and_assoc];exact and_congr_left λ_=>⟨λh q hq=>by cases hq with|head=>exact h.1|tail _ hm=>exact h.2 q hm,λh=>⟨h a (.head _),λq hq=>h q (.tail _ hq)⟩⟩
def dK:Option Addr->List Prop
 |some _=> []
 |none=> [False]
def L8(y:Int):List Prop:=if y=0 then [False] else []
def ez(a:Option Addr)(i:Int)(n:Nat):Prop:=a.isSome=true/\0<=i/\i<(n:Int)
def ngC(y:Int):List Prop:=if y<0 then [False] else []
def ai2:(∀q ∈ [False],q) ↔ False:=⟨λh=>h _ (.head _),False.elim⟩
def jl{p:Option Addr}:(∀q ∈ dK p,q) ↔ p.isSome=true:=by
 cases p with
 |none=>exact ai2.trans cj
 |some a=>simp [dK]
def rM{y:Int}:(∀q ∈ L8 y,q) ↔ y≠0:=by
 unfold L8;split
 ·rename_i h;exact ai2.trans (by simp [h])
 ·rename_i h;simp [h]
def Ei{y:Int}:(∀q ∈ ngC y,q) ↔ 0<=y:=by
 unfold ngC;split
 ·rename_i h;exact ai2.trans (by simp;omega)
 ·rename_i h;simp;omega
@[simp] def qJ{K:Prop}:aS [] K ↔ K:=by simp [aS]
@[simp] def Ej{p:Option Addr}{K:Prop}:aS (dK p) K ↔ p.isSome=true/\K:=by rw [bD,jl]
@[simp] def Ut{y:Int}{K:Prop}:aS (L8 y) K ↔ y≠0/\K:=by rw [bD,rM]
@[simp] def ae4{y:Int}{K:Prop}:aS (ngC y) K ↔ 0<=y/\K:=by rw [bD,Ei]
def ae(p:Option Addr)(n:Nat):Option Addr:=p.map (·.add n)
def ld(w:World)(p:Option Addr):Option Value:=p.bind w.cell?
inductive SV where
 |val (v:Value)
 |loc (k off:Nat)
 |sli (k n:Nat)
structure KB where
 idx:Nat
 cells:List Value
 ty:TypeId
 live:Bool
instance:Inhabited KB:=⟨⟨0,[],0,false⟩⟩
def SV.iz(n:Nat):SV->Prop
 | .val _=>True
 | .loc k _| .sli k _=>k<n
structure St where
 sl:List SV
 w:World
 kn:List KB
 df:List Nat:=[]
def SV.cc(kn:List KB):SV->Value
 | .val v=>v
 | .loc k off=> .pointer (some ⟨(kn.getD k default).idx,off,none⟩)
 | .sli k n=> .slice (some ⟨(kn.getD k default).idx,0,none⟩) n n
def marks(l:List Nat):List Deferred:=l.map λD=>{target:=.collected D,args:= #[]}
def St.act(s:St):Act:={tmps:=(s.sl.map (SV.cc s.kn)).toArray,defers:=marks s.df}
def St.sv(s:St):Operand->SV
 | .tmp t=>s.sl.getD t (.val undef)
 | .const v=> .val v
 | .global g=> .val (.pointer (some ⟨g,0,none⟩))
 | .func f=> .val (.func (.func f) #[] #[])
def St.ev(s:St)(x:Operand):Value:=(s.sv x).cc s.kn
def St.put(s:St)(d:Option Tmp)(v:SV):St:=
 match d with
 |some d=>{s with sl:=s.sl.set d v}
 |none=>s
def St.uh(s:St)(x:Operand):s.act.eval x=s.ev x:=by
 cases x with
 |tmp t=>
  simp only [Act.eval,St.act,St.ev,St.sv,Array.getD_eq_getD_getElem?,List.getElem?_toArray,aV,dY]
  cases s.sl[t]? <;>rfl
 |_=>rfl
def St.ae6(s:St)(d:Option Tmp)(v:SV):(s.put d v).act=s.act.put d (v.cc s.kn):=by
 cases d with
 |none=>rfl
 |some d=>simp [St.put,St.act,Act.put,jV]
def St.eval_eq(s:St):s.act.eval=s.ev:=funext s.uh
structure St.Ok(s:St):Prop where
 bj:∀(k:Nat)(kb:KB),s.kn[k]? =some kb->kb.live=true->s.w.heap[kb.idx]? =some (.cells kb.cells.toArray kb.ty (0,0))
 ne:∀(i j:Nat)(x y:KB),s.kn[i]? =some x->s.kn[j]? =some y->x.live=true->y.live=true->x.idx=y.idx->i=j
 mO:∀(i:Nat)(v:SV),s.sl[i]? =some v->v.iz s.kn.length
def St.Ok.lt{s:St}(h:s.Ok)(k:Nat)(kb:KB)(hk:s.kn[k]? =some kb)(hl:kb.live=true):kb.idx<s.w.heap.size:=
 (sT.1 (h.bj k kb hk hl)).1
def St.Ok.sv{s:St}(h:s.Ok)(x:Operand):(s.sv x).iz s.kn.length:=by
 cases x with
 |tmp t=>
  simp only [St.sv,dY]
  cases hv:s.sl[t]? with
  |none=>trivial
  |some v=>exact h.mO t v hv
 |_=>trivial
def tA(kn kn':List KB):Prop:=∀(k:Nat)(kb:KB),kn[k]? =some kb->∃kb',kn'[k]? =some kb'/\kb'.idx=kb.idx/\kb'.ty=kb.ty
def tA.refl(kn:List KB):tA kn kn:=λ_ kb h=>⟨kb,h,rfl,rfl⟩
def tA.trans{a b c:List KB}(h:tA a b)(h':tA b c):tA a c:=λk kb hk=>by
 obtain ⟨kb',h1,h2,h2'⟩:=h k kb hk
 obtain ⟨kb'',h3,h4,h4'⟩:=h' k kb' h1
 exact ⟨kb'',h3,h4.trans h2,h4'.trans h2'⟩
def tA.length{a b:List KB}(h:tA a b):a.length<=b.length:=by
 rcases jA b.length a.length with iS|Qj
 ·obtain ⟨kb',h1,_⟩:=h b.length a[b.length] (dv iS);simp at h1
 ·exact Qj
def tA.cc{kn kn':List KB}(h:tA kn kn'){v:SV}(hv:v.iz kn.length):v.cc kn'=v.cc kn:=by
 cases v with
 |val v=>rfl
 |loc k off=>
  obtain ⟨kb',h1,h2,_⟩:=h k kn[k] (dv hv);simp [SV.cc,dY,h1,h2,dv (show k<kn.length from hv)]
 |sli k n=>
  obtain ⟨kb',h1,h2,_⟩:=h k kn[k] (dv hv);simp [SV.cc,dY,h1,h2,dv (show k<kn.length from hv)]
def SV.iz.mono{n m:Nat}{v:SV}(h:v.iz n)(hm:n<=m):v.iz m:=by
 cases v
 ·trivial
 ·exact kB h hm
 ·exact kB h hm
structure Fr(W:List Nat)(s s':St):Prop where
 len:s'.sl.length=s.sl.length
 slot:∀i,i ∉ W->(s'.sl.getD i (.val undef)).cc s'.kn=(s.sl.getD i (.val undef)).cc s.kn
 kn:tA s.kn s'.kn
 df:s.df.length<=s'.df.length/\(s'.df.length=s.df.length->s'.df=s.df)
def Fr.refl(W:List Nat)(s:St):Fr W s s:=⟨rfl,λ_ _=>rfl,tA.refl _,aD _,λ_=>rfl⟩
def Fr.trans{W:List Nat}{a b c:St}(h:Fr W a b)(h':Fr W b c):Fr W a c:=
 ⟨h'.len.trans h.len,λi hi=>(h'.slot i hi).trans (h.slot i hi),h.kn.trans h'.kn,gD h.df.1 h'.df.1,λe=>by have h1:=h.df.1;have h2:=h'.df.1;have h3:=h.df.2 ab;have h4:=h'.df.2 ab;exact h4.trans h3⟩
def Fr.mono{W W':List Nat}{a b:St}(h:Fr W a b)(hs:∀i ∈ W,i ∈ W'):Fr W' a b:=
 ⟨h.len,λi hi=>h.slot i (λh'=>hi (hs i h')),h.kn,h.df⟩
def oU(k:IntKind)(x y:Int):Int:=k.wrap ((BitVec.ofInt k.bits x &&& BitVec.ofInt k.bits y).toNat:Nat)
def Mx(k:IntKind)(x y:Int):Int:=k.wrap ((BitVec.ofInt k.bits x|||BitVec.ofInt k.bits y).toNat:Nat)
def lD(k:IntKind)(x y:Int):Int:=k.wrap ((BitVec.ofInt k.bits x ^^^ BitVec.ofInt k.bits y).toNat:Nat)
def mB(k:IntKind)(x y:Int):Int:=k.wrap ((BitVec.ofInt k.bits x &&& ~~~ BitVec.ofInt k.bits y).toNat:Nat)
def wA(x y:ByteArray):Bool:=x.toList==y.toList
def strLt(x y:ByteArray):Bool:=Op.bytesLess x.toList y.toList
def ai3(op:BinOp)(k:IntKind)(x y:Int):Option (List Prop × Value):=
 match op with
 | .add=>some ([],.int k (k.wrap (x+y)))
 | .sub=>some ([],.int k (k.wrap (x-y)))
 | .mul=>some ([],.int k (k.wrap (x*y)))
 | .quo=>some (L8 y,.int k (k.wrap (x.tdiv y)))
 | .rem=>some (L8 y,.int k (x.tmod y))
 | .and=>some ([],.int k (oU k x y))
 | .or=>some ([],.int k (Mx k x y))
 | .xor=>some ([],.int k (lD k x y))
 | .andNot=>some ([],.int k (mB k x y))
 | .eql=>some ([],.bool (x==y))
 | .neq=>some ([],.bool (x !=y))
 | .lss=>some ([],.bool (decide (x<y)))
 | .leq=>some ([],.bool (decide (x<=y)))
 | .gtr=>some ([],.bool (decide (x>y)))
 | .geq=>some ([],.bool (decide (x>=y)))
 |_=>none
def ai4(op:BinOp)(x y:ByteArray):Option (List Prop × Value):=
 match op with
 | .add=>some ([((x.size+y.size:Nat):Int)<=IntKind.i64.max],.string (x++y))
 | .eql=>some ([],.bool (wA x y))
 | .neq=>some ([],.bool (!wA x y))
 | .lss=>some ([],.bool (strLt x y))
 | .leq=>some ([],.bool (strLt x y||wA x y))
 | .gtr=>some ([],.bool (!(strLt x y||wA x y)))
 | .geq=>some ([],.bool (!strLt x y))
 |_=>none
def ai5(op:BinOp)(x y:Bool):Option (List Prop × Value):=
 match op with
 | .eql=>some ([],.bool (x==y))
 | .neq=>some ([],.bool (!(x==y)))
 |_=>none
def aad(op:BinOp)(k:IntKind)(x y:Int):Option (List Prop × Value):=
 match op with
 | .shl=>some (ngC y,.int k (k.wrap (x*2 ^(min y.toNat k.bits))))
 | .shr=>some (ngC y,.int k (x.fdiv (2 ^(min y.toNat k.bits))))
 |_=>none
def amI:BinOp->Bool| .shl| .shr=>true|_=>false
def Kt(P:Program)(t:TypeId):Bool:=match P.underlying t with|some .bool=>true|_=>false
def ae7:Value->Bool| .nilFunc=>true|_=>false
def aae(tb:Bool)(op:BinOp)(x y:Value):Option (List Prop × Value):=
 match ae7 y with
 |true=>none
 |false=>match amI op with
 |true=>match x,y with
  | .int k a,.int _ b=>aad op k a b
  |_,_=>none
 |false=>match x,y with
  | .int k a,.int k' b=>if k=k' then ai3 op k a b else none
  | .string a,.string b=>ai4 op a b
  | .bool a,.bool b=>match tb with|true=>ai5 op a b|false=>none
  |_,_=>none
def Ek(P:Program)(t:TypeId)(f:Nat):Option Field:=
 match P.underlying t with
 |some (.struct fs)=>fs[f]?
 |_=>none
def aJ(a:Option Addr)(l m size:Nat):Option Addr:=if m=l then a else a.map (·.add (l*size))
def isStr(P:Program)(t:TypeId):Bool:=match P.underlying t with|some .string=>true|_=>false
def ir(P:Program)(t:TypeId):Option Nat:=(P.info? t).map (·.size)
def oC(P:Program)(t:TypeId):Option (TypeId × Nat):=match P.underlying t with|some (.slice e)=>(ir P e).map λn=>(e,n)|_=>none
def pT(P:Program)(t:TypeId):Option (Nat × TypeId):=match P.underlying t with|some (.array n e)=>some (n,e)|_=>none
def aqz(v:Option Value)(dflt:Int):Option Int:=match v with|none=>some dflt|some (.int _ i)=>some i|_=>none
def ER(lo hi mx:Option Int)(len cap:Nat):List Prop × Nat × Nat × Nat:=
 match mx with
 |some m=>match hi,lo with
  |some h,some l=>([0<=m,m<=(cap:Int),0<=h,h<=m,0<=l,l<=h],l.toNat,h.toNat,m.toNat)
  |some h,none=>([0<=m,m<=(cap:Int),0<=h,h<=m],0,h.toNat,m.toNat)
  |none,_=>([False],0,0,0)
 |none=>match hi,lo with
  |some h,some l=>([0<=h,h<=(cap:Int),0<=l,l<=h],l.toNat,h.toNat,cap)
  |some h,none=>([0<=h,h<=(cap:Int)],0,h.toNat,cap)
  |none,some l=>([0<=l,l<=(len:Int)],l.toNat,len,cap)
  |none,none=>([],0,len,cap)
def aAj:Value->Option Int| .int _ i=>some i|_=>none
def ui:Option Value->Option (Option Int)
 |none=>some none
 |some (.int _ i)=>some (some i)
 |_=>none
def Ro(P:Program)(t:TypeId)(x:Value)(lo hi mx:Option Value):Option (List Prop × Value):=
 match ui lo,ui hi,ui mx with
 |some lo,some hi,some mx=>
  match x with
  | .slice a n c=>match oC P t with
    |some (_,z)=>match ER lo hi mx n c with
     |(cs,l,h,m)=>some (cs,.slice (aJ a l m z) (h-l) (m-l))
    |none=>none
  | .string s=>match isStr P t,mx with
    |true,none=>match ER lo hi none s.size s.size with
     |(cs,l,h,_)=>some (cs,.string (s.extract l h))
    |_,_=>none
  | .pointer p=>match pT P t with
    |some (n,e)=>match ir P e with
     |some z=>match ER lo hi mx n n with
      |(cs,l,h,m)=>some (dK p++cs,.slice (aJ p l m z) (h-l) (m-l))
     |none=>none
    |none=>none
  |_=>none
 |_,_,_=>none
def asm(P:Program)(t:TypeId)(parts:Array (Nat × Value)):Option (List Value):=
 match (Instr.build t parts).run P default with
 | .ok (.agg cs) _=>some cs.toList
 |_=>none
def aaf:SV->Nat->Option (List Prop × SV)
 | .loc k off,n=>some ([],.loc k (off+n))
 | .val (.pointer p),n=>some (dK p,.val (.pointer (ae p n)))
 |_,_=>none
def ai6(x y:Value):Option Value:=match x,y with| .int k a,.int _ b=>some (.int k (if b<a then b else a))|_,_=>none
def ai7(x y:Value):Option Value:=match x,y with| .int k a,.int _ b=>some (.int k (if b>a then b else a))|_,_=>none
def IS(f:Value->Value->Option Value):List Value->Value->Option Value
 | [],x=>some x
 |y::r,x=>match f x y with|some z=>IS f r z|none=>none
def uj(P:Program)(b:Builtin)(ats:Array TypeId)(args:List Value):Option Value:=
 match b,args with
 | .len,[.slice _ n _]=>match ats[0]?.bind (oC P) with|some _=>some (.int .i64 n)|none=>none
 | .len,[.string s]=>match ats[0]?.map (isStr P) with|some true=>some (.int .i64 s.size)|_=>none
 | .cap,[.slice _ _ c]=>match ats[0]?.bind (oC P) with|some _=>some (.int .i64 c)|none=>none
 | .len,[.agg _]=>match ats[0]?.bind (pT P) with|some (n,_)=>some (.int .i64 n)|none=>none
 | .min,x::r=>IS ai6 r x
 | .max,x::r=>IS ai7 r x
 |_,_=>none
def IT(P:Program)(t:TypeId)(cs:Array Value)(off:Nat):Option Value:=
 match P.underlying t with
 |none=>none
 |some _=>if A2 P t then some (.agg ((cs.toList.drop off).take (fX P t)).toArray) else cs[off]?
def V2(P:Program)(g:TypeId->Value->Value->Option Bool)(xs ys:Array Value):List Field->Option Bool
 | []=>some true
 | [f]=>if f.name= "_" then none else match IT P f.type xs f.offset,IT P f.type ys f.offset with
   |some a,some b=>g f.type a b
   |_,_=>none
 |f::h::r=>if f.name= "_" then none else match IT P f.type xs f.offset,IT P f.type ys f.offset with
  |some a,some b=>match g f.type a b,V2 P g xs ys (h::r) with
   |some p,some q=>some (p && q)
   |_,_=>none
  |_,_=>none
def eqV(P:Program):Nat->TypeId->Value->Value->Option Bool
 |0,_,_,_=>none
 |d+1,t,x,y=>match P.underlying t,x,y with
  |some (.int _),.int k a,.int k' b=>if k=k' then some (a==b) else none
  |some .bool,.bool a,.bool b=>some (a==b)
  |some .string,.string a,.string b=>some (wA a b)
  |some (.struct fs),.agg xs,.agg ys=>if P.stoodInHeld t then none else V2 P (eqV P d) xs ys fs.toList
  |_,_,_=>none
def Ku:Value->Bool
 | .nilFunc=>true
 |_=>false
def fnC:Value->List Prop
 | .nilFunc| .func .. => []
 |_=> [False]
def amJ(a b:Option Addr):List Prop:=match b with|none=> []|some _=> [a=none]
def amK(a b:Option Addr):Bool:=match b with|none=>a.isNone|some _=>false
def ai8(P:Program)(t:TypeId)(x y:Value):Option (List Prop × Bool):=
 match y with
 | .slice none _ _=>match x,P.underlying t with
   | .slice a _ _,some (.slice _)=>some ([],a.isNone)
   |_,_=>none
 | .pointer b=>match x,P.underlying t with
   | .pointer a,some (.pointer _)=>some (amJ a b,amK a b)
   |_,_=>none
 | .map none=>match x,P.underlying t with
   | .map a,some (.map _ _)=>some ([],a.isNone)
   |_,_=>none
 | .nilFunc=>match P.underlying t with
   |some (.func _ _ _)=>some (fnC x,Ku x)
   |_=>none
 | .agg ys=>match x with
   | .agg xs=>match P.eqGuardType P.depth t with
     |false=>(eqV P 20 t (.agg xs) (.agg ys)).map λb=>([],b)
     |true=>none
   |_=>none
 |_=>none
def ai9:BinOp->Option Bool| .eql=>some true| .neq=>some false|_=>none
def aag(P:Program)(op:BinOp)(t:TypeId)(x y:Value):Option (List Prop × Value):=
 match ai9 op,ai8 P t x y with
 |some true,some (c,b)=>some (c,.bool b)
 |some false,some (c,b)=>some (c,.bool (!b))
 |_,_=>none
def dZ(P:Program)(s:St)(op:Op):Option (List Prop × SV):=
 match op with
 | .move x| .assign x=>some ([],s.sv x)
 | .pick c a b=>match s.sv c with
   | .val (.bool c)=>some ([],match c with|true=>s.sv a|false=>s.sv b)
   |_=>none
 | .extract t i=>match s.sv t with
   | .val (.tuple vs)=>vs[i]?.map λv=>([],.val v)
   |_=>none
 | .fieldAddr t x f=>match Ek P t f with
   |some fd=>if fX P fd.type=0 then none else aaf (s.sv x) fd.offset
   |none=>none
 | .field t x f=>match s.sv x,Ek P t f with
   | .val (.agg cs),some fd=>if (P.underlying fd.type).isNone then none else if A2 P fd.type then some ([],.val (.agg ((cs.toList.drop fd.offset).take (fX P fd.type)).toArray)) else cs[fd.offset]?.map λv=>([],.val v)
   |_,_=>none
 | .nilCheck x=>match s.sv x with
   | .loc k off=>some ([],.loc k off)
   | .val (.pointer p)=>some (dK p,.val (.pointer p))
   |_=>none
 | .indexAddr t x i=>match s.ev i with
   | .int _ i=>match oC P t,s.ev x with
     |some (_,z),.slice a n _=>some ([ez a i n],.val (.pointer (ae a (i.toNat*z))))
     |none,.pointer p=>match pT P t with
      |some (n,e)=>(ir P e).map λz=>(dK p++ [0<=i,i<(n:Int)],.val (.pointer (ae p (i.toNat*z))))
      |none=>none
     |_,_=>none
   |_=>none
 | .index t x i=>match s.ev x,s.ev i with
   | .string b,.int _ i=>if isStr P t then some ([0<=i,i<(b.size:Int)],.val (.int .u8 (b.data.toList.getD i.toNat 0).toNat)) else none
   |_,_=>none
 | .binOp op t x y _=>match aae (Kt P t) op (s.ev x) (s.ev y) with
   |some (c,v)=>some (c,.val v)
   |none=>(aag P op t (s.ev x) (s.ev y)).map λ(c,v)=>(c,.val v)
 | .unOp .not _ x=>match s.ev x with
   | .bool b=>some ([],.val (.bool !b))
   |_=>none
 | .unOp .neg _ x=>match s.ev x with
   | .int k n=>some ([],.val (.int k (k.wrap (0-n))))
   |_=>none
 | .convert src dst x=>match P.underlying src,P.underlying dst,s.ev x with
   |some (.int _),some (.int k),.int _ n=>some ([],.val (.int k (k.wrap n)))
   |some .string,some .string,.string b=>some ([],.val (.string b))
   |_,_,_=>none
 | .slice t x lo hi mx=>(Ro P t (s.ev x) (lo.map s.ev) (hi.map s.ev) (mx.map s.ev)).map λ(c,v)=>(c,.val v)
 | .call {callee:=.builtin b,args,argTypes}=>(uj P b argTypes (args.toList.map s.ev)).map λv=>([],.val v)
 |_=>none
def aI(P:Program)(t:TypeId)(w:World):(underlying t).run P w=match P.underlying t with|some d=> .ok d w|none=> .halt (.stuck "no such type") w:=by
 simp only [underlying,program,bind,Sem.bind,Sem.run]
 cases P.underlying t<;>rfl
def ea(P:Program)(t:TypeId)(w:World):(typeInfo t).run P w=match P.info? t with|some d=> .ok d w|none=> .halt (.stuck "no such type") w:=by
 simp only [typeInfo,program,bind,Sem.bind,Sem.run]
 cases P.info? t<;>rfl
def fa{P:Program}{t:TypeId}{w:World}(h:(P.info? t).isSome=true):(sizeOf t).run P w=.ok (fX P t) w:=by
 simp only [sizeOf,Sem.run_bind,ea,fX]
 cases h':P.info? t<;>simp_all
def info_of_underlying{P:Program}{t:TypeId}{d:TypeDesc}(h:P.underlying t=some d):(P.info? t).isSome=true:=by
 unfold Program.underlying at h
 cases h':P.info? t<;>simp_all
def ahE(P:Program)(ρ:Operand->Value)(o:Oper)(v:Value):Prop:=∀w,(execOp ρ o).run P w=.ok (.value v) w
def aah{a b:List Prop}(h:∀p ∈ a++b,p):(∀p ∈ a,p)/\∀p ∈ b,p:=⟨λp hp=>h p (c5.2 (.inl hp)),λp hp=>h p (c5.2 (.inr hp))⟩
section
variable {P:Program} {ρ:Operand->Value} {o:Oper}
def eh{v:Value}{s:Sem Value}(he:execOp ρ o=(do pure (.value (<-s))))(h:∀w,s.run P w=.ok v w):ahE P ρ o v:=by intro w;rw [he,Sem.run_bind,h];rfl
def aai{op:BinOp}{t:TypeId}{k:IntKind}{x y:Int}{cs:List Prop}{v:Value}(hs:amI op=false)(h:ai3 op k x y=some (cs,v))(hc:∀p ∈ cs,p)(w:World):
  (binOp op t (.int k x) (.int k y)).run P w=.ok v w:=by
 cases op<;>simp only [ai3,Option.some.injEq,Prod.mk.injEq,reduceCtorEq] at h<;>(try exact absurd hs aG)<;>(try (obtain ⟨rfl,rfl⟩:=h))
 all_goals (try simp [binOp,Op.intArith,Op.intBits,Op.intCmp,oU,Mx,lD,mB];done)
 all_goals
  rw [rM] at hc
  simp [binOp,Op.intDiv,hc]
def aaj{op:BinOp}{t:TypeId}{x y:ByteArray}{cs:List Prop}{v:Value}(h:ai4 op x y=some (cs,v))(hc:∀p ∈ cs,p)(w:World):
  (binOp op t (.string x) (.string y)).run P w=.ok v w:=by
 cases op<;>simp only [ai4,Option.some.injEq,Prod.mk.injEq,reduceCtorEq] at h<;>(try (obtain ⟨rfl,rfl⟩:=h))
 all_goals (try simp [binOp,Op.stringOp,wA,strLt];done)
 have:=hc _ (gU.2 rfl);simp only [binOp,Op.stringOp];rw [if_neg ab];rfl
def aak{op:BinOp}{t:TypeId}{x y:Bool}{cs:List Prop}{v:Value}(ht:P.underlying t=some .bool)(h:ai5 op x y=some (cs,v))(w:World):
  (binOp op t (.bool x) (.bool y)).run P w=.ok v w:=by
 have e:(Op.equal t (.bool x) (.bool y)).run P w=.ok (x==y) w:=by unfold Op.equal Op.maxDepth;rw [show (10000:Nat)=9999+1 from rfl,Op.equalIn,Sem.run_bind,aI,ht];rfl
 cases op<;>simp only [ai5,Option.some.injEq,Prod.mk.injEq,reduceCtorEq] at h<;>(try (obtain ⟨rfl,rfl⟩:=h))
 all_goals (show (binOp _ t (.bool x) (.bool y)).run P w=_;unfold binOp;rw [Sem.run_bind,e];rfl)
def V3{op:BinOp}{t:TypeId}{k k':IntKind}{x y:Int}{cs:List Prop}{v:Value}(h:aad op k x y=some (cs,v))(hc:∀p ∈ cs,p)(w:World):
  (binOp op t (.int k x) (.int k' y)).run P w=.ok v w:=by
 cases op<;>simp only [aad,Option.some.injEq,Prod.mk.injEq,reduceCtorEq] at h<;>(try (obtain ⟨rfl,rfl⟩:=h))
 all_goals
  rw [Ei] at hc
  simp only [binOp,Op.shift]
  rw [if_neg ab];rfl
def Co(op:BinOp)(t:TypeId)(x y:Operand)(a b:Value)(h1:a≠ .nilIface)(h2:∀c,a≠ .agg c)(w:World):(eqGuard op t x y a b).run P w=.ok () w:=by cases op<;>first|rfl|(cases a<;>first|rfl|exact absurd rfl h1|exact absurd rfl (h2 _))
def aal{op:BinOp}{t:TypeId}{x y:Value}{cs:List Prop}{v:Value}(h:aae (Kt P t) op x y=some (cs,v))(hc:∀p ∈ cs,p)(w:World):
  (binOp op t x y).run P w=.ok v w:=by
 unfold aae at h;split at h
 ·cases h
 split at h
 ·split at h
  ·exact V3 h hc w
  ·exact absurd h cj
 ·rename_i hs;split at h
  ·split at h
   ·rename_i e;subst e;exact aai hs h hc w
   ·exact absurd h cj
  ·exact aaj h hc w
  ·split at h
   ·rename_i ht;have ht:P.underlying t=some .bool:=by
     unfold Kt at ht;split at ht
     ·assumption
     ·cases ht
    exact aak ht h w
   ·cases h
  ·exact absurd h cj
def V4{tb:Bool}{op:BinOp}{x y:Value}{r:List Prop × Value}(h:aae tb op x y=some r):x≠ .nilIface/\∀c,x≠ .agg c:=by grind [aae]
end
section
variable {P:Program} {s:St} {o:Oper}
def yR{t:TypeId}{f:Nat}{fd:Field}(h:Ek P t f=some fd):∃fs,P.underlying t=some (.struct fs)/\fs[f]? =some fd:=by
 unfold Ek at h;split at h
 ·rename_i fs hu;exact ⟨fs,hu,h⟩
 ·cases h
def kS{t e:TypeId}{z:Nat}(h:oC P t=some (e,z)):P.underlying t=some (.slice e)/\∀w,(sizeOf e).run P w=.ok z w:=by
 unfold oC at h;split at h
 ·rename_i e' hu;unfold ir at h
  cases h':P.info? e' with
  |none=>simp [h'] at h
  |some i=>
   simp [h'] at h;obtain ⟨rfl,rfl⟩:=h;exact ⟨hu,λw=>by rw [fa (by simp [h'])];simp [fX,h']⟩
 ·cases h
def c2{a b:Prop}(h:∀p ∈ [a,b],p):a/\b:=⟨h a cj,h b cj⟩
def c4{a b c d:Prop}(h:∀p ∈ [a,b,c,d],p):a/\b/\c/\d:=⟨h a cj,h b cj,h c cj,h d cj⟩
def c6{a b c d e f:Prop}(h:∀p ∈ [a,b,c,d,e,f],p):a/\b/\c/\d/\e/\f:=⟨h a cj,h b cj,h c cj,h d cj,h e cj,h f cj⟩
def oV{t:TypeId}(h:isStr P t=true):P.underlying t=some .string:=by
 unfold isStr at h;split at h
 ·assumption
 ·cases h
def Kv{isS:Bool}{lo hi mx:Option Value}{lo' hi' mx':Option Int}{len cap:Nat}{cs:List Prop}{l h m:Nat}(e1:ui lo=some lo')(e2:ui hi=some hi')(e3:ui mx=some mx')
  (oq:ER lo' hi' mx' len cap=(cs,l,h,m))(hc:∀p ∈ cs,p)(w:World):(Instr.sliceBounds isS len cap lo hi mx).run P w=.ok (l,h,m) w:=by
 have key:∀(x:Value)(i:Int)(y:Nat)(code:BoundsCode)(w:World),ui (some x)=some (some i)->0<=i->i<=(y:Int)->(Instr.sliceBound x y code).run P w=.ok i.toNat w:=by
  intro x i y code w hx h0 h1
  cases x<;>simp [ui] at hx
  subst hx;simp [Instr.sliceBound,asIntOf,h0,h1]
 have n3:∀{x:Option Value},ui x=some none->x=none:=by intro x hx;unfold ui at hx;split at hx<;>simp_all
 have s3:∀{x:Option Value} {i:Int},ui x=some (some i)->∃v,x=some v/\ui (some v)=some (some i):=by
  intro x i hx;cases x with
  |none=>simp [ui] at hx
  |some v=>exact ⟨v,rfl,hx⟩
 unfold Instr.sliceBounds
 cases mx' with
 |none=>
  obtain rfl:=n3 e3
  cases hi' with
  |none=>
   obtain rfl:=n3 e2
   cases lo' with
   |none=>obtain rfl:=n3 e1;simp [ER] at oq;obtain ⟨rfl,rfl,rfl,rfl⟩:=oq;rfl
   |some i=>
    obtain ⟨v,rfl,hv⟩:=s3 e1;simp [ER] at oq;obtain ⟨rfl,rfl,rfl,rfl⟩:=oq;have hc:=c2 hc;simp [key v i len _ w hv hc.1 hc.2]
  |some j=>
   obtain ⟨u,rfl,hu⟩:=s3 e2
   cases lo' with
   |none=>
    obtain rfl:=n3 e1;simp [ER] at oq;obtain ⟨rfl,rfl,rfl,rfl⟩:=oq;have hc:=c2 hc;simp [key u j cap _ w hu hc.1 hc.2]
   |some i=>
    obtain ⟨v,rfl,hv⟩:=s3 e1;simp [ER] at oq;obtain ⟨rfl,rfl,rfl,rfl⟩:=oq;have hc:=c4 hc;simp [key u j cap _ w hu hc.1 hc.2.1,key v i j.toNat _ w hv hc.2.2.1 ab]
 |some q=>
  obtain ⟨x,rfl,hx⟩:=s3 e3
  cases hi' with
  |none=>simp [ER] at oq;obtain ⟨rfl,_⟩:=oq;exact (hc _ (gU.2 rfl)).elim
  |some j=>
   obtain ⟨u,rfl,hu⟩:=s3 e2
   cases lo' with
   |none=>
    obtain rfl:=n3 e1;simp [ER] at oq;obtain ⟨rfl,rfl,rfl,rfl⟩:=oq;have hc:=c4 hc;simp [key x q cap _ w hx hc.1 hc.2.1,key u j q.toNat _ w hu hc.2.2.1 ab]
   |some i=>
    obtain ⟨v,rfl,hv⟩:=s3 e1;simp [ER] at oq;obtain ⟨rfl,rfl,rfl,rfl⟩:=oq;have hc:=c6 hc;simp [key x q cap _ w hx hc.1 hc.2.1,key u j q.toNat _ w hu hc.2.2.1 ab,key v i j.toNat _ w hv hc.2.2.2.2.1 ab]
def Rp{t:TypeId}{x:Value}{lo hi mx:Option Value}{cs:List Prop}{v:Value}(h:Ro P t x lo hi mx=some (cs,v))(hc:∀p ∈ cs,p)(w:World):
  (Instr.sliceAt t x lo hi mx).run P w=.ok v w:=by
 unfold Ro at h;split at h
 ·rename_i lo' hi' mx' e1 e2 e3;split at h
  ·rename_i a n c;split at h
   ·rename_i e z he;split at h;rename_i cs' l q m oq;simp only [Option.some.injEq,Prod.mk.injEq] at h;obtain ⟨rfl,rfl⟩:=h;obtain ⟨hu,hz⟩:=kS he;simp only [Instr.sliceAt,Sem.run_bind,aI,hu,Result.andThen_ok,Instr.slice,Kv e1 e2 e3 oq hc,hz];rfl
   ·cases h
  ·rename_i b;split at h
   ·have he:isStr P t=true:=by assumption
    split at h;rename_i cs' l q m oq;simp only [Option.some.injEq,Prod.mk.injEq] at h;obtain ⟨rfl,rfl⟩:=h;have hu:=oV he;have hmx:mx=none:=by
     cases mx with
     |none=>rfl
     |some u=>cases u<;>simp [ui] at e3
    subst hmx;simp only [Instr.sliceAt,Sem.run_bind,aI,hu,Result.andThen_ok,Instr.slice];have ant:=Kv (P:=P) (isS:=false) e1 e2 (mx:=none) (mx':=none) rfl oq hc w;simp [ant]
   ·cases h
  ·rename_i p;split at h
   ·rename_i n e he;split at h
    ·rename_i z hz;split at h;rename_i cs' l q m oq;simp only [Option.some.injEq,Prod.mk.injEq] at h;obtain ⟨rfl,rfl⟩:=h;obtain ⟨h1,h2⟩:=aah hc;obtain ⟨a,rfl⟩:=oP.1 (jl.1 h1);have hu:P.underlying t=some (.array n e):=by
      unfold pT at he;split at he
      ·rename_i hu;cases he;exact hu
      ·cases he
     have hz':(sizeOf e).run P w=.ok z w:=by
      unfold ir at hz
      cases hi':P.info? e with
      |none=>simp [hi'] at hz
      |some i'=>simp [hi'] at hz;rw [fa (by simp [hi'])];simp [fX,hi',hz]
     simp only [Instr.sliceAt,Instr.sureAddr,Sem.run_bind,Sem.run_pure,aI,hu,Result.andThen_ok,Kv (isS:=false) e1 e2 e3 oq h2,hz'];unfold aJ;split<;>rfl
    ·cases h
   ·cases h
  ·cases h
 ·cases h
def ES{a:Addr}{f:Field}(h:fX P f.type≠0)(w:World):(fieldPlace a f).run P w=.ok (a.add f.offset) w:=by
 have hs:(P.info? f.type).isSome=true:=by
  cases h':P.info? f.type with
  |none=>simp [fX,h'] at h
  |some i=>rfl
 simp only [fieldPlace,Sem.run_bind,fa hs,Result.andThen_ok,if_neg h];rfl
def aam{x:SV}{kn:List KB}{n:Nat}{cs:List Prop}{sv:SV}(h:aaf x n=some (cs,sv))(hc:∀p ∈ cs,p):
  ∃a:Addr,x.cc kn=.pointer (some a)/\sv.cc kn=.pointer (some (a.add n)):=by
 cases x with
 |loc k off=>
  simp only [aaf,Option.some.injEq,Prod.mk.injEq] at h;obtain ⟨rfl,rfl⟩:=h;refine ⟨_,rfl,?_⟩;simp only [SV.cc,Addr.add];split
  ·rename_i h0;rw [h0];rfl
  ·rfl
 |sli k n=>cases h
 |val v=>
  cases v<;>simp [aaf] at h
  rename_i p;obtain ⟨rfl,rfl⟩:=h;rw [jl] at hc
  cases p with
  |none=>cases hc
  |some a=>exact ⟨a,rfl,rfl⟩
def IU{f:Value->Value->Option Value}{g:Value->Value->Sem Value}(hfg:∀x y z,f x y=some z->∀w,(g x y).run P w=.ok z w):
  ∀(l:List Value)(x z:Value),IS f l x=some z->∀w,(l.foldlM g x).run P w=.ok z w:=by
 intro l
 induction l with
 |nil=>intro x z h w;simp only [IS,Option.some.injEq] at h;subst h;rfl
 |cons y r ih=>
  intro x z h w;simp only [IS] at h;split at h
  ·rename_i u hu;rw [List.foldlM_cons,Sem.run_bind,hfg _ _ _ hu];exact ih _ _ h w
  ·cases h
def Kw{b:Builtin}{ats:Array TypeId}{ty:TypeId}{cs:Array Bool}{args:Array Value}{v:Value}(h:uj P b ats args.toList=some v)(w:World):
  (builtin b ats ty cs args).run P w=.ok (.value v) w:=by
 obtain ⟨l⟩:=args;simp only at h;unfold uj at h;split at h
 ·split at h
  ·rename_i hx
   cases h
   cases ha:ats[0]? with
   |none=>simp [ha] at hx
   |some t=>
    simp [ha] at hx;obtain ⟨hu,_⟩:=kS hx;simp [builtin,Builtin.len_,ha,aI,hu,goInt]
  ·cases h
 ·split at h
  ·rename_i hx
   cases h
   cases ha:ats[0]? with
   |none=>simp [ha] at hx
   |some t=>
    simp [ha] at hx;have hu:=oV hx;simp [builtin,Builtin.len_,ha,aI,hu,goInt]
  ·cases h
 ·split at h
  ·rename_i hx
   cases h
   cases ha:ats[0]? with
   |none=>simp [ha] at hx
   |some t=>
    simp [ha] at hx;obtain ⟨hu,_⟩:=kS hx;simp [builtin,Builtin.cap_,ha,aI,hu,goInt]
  ·cases h
 ·split at h
  ·rename_i n e hx
   cases h
   cases ha:ats[0]? with
   |none=>simp [ha] at hx
   |some t=>
    simp [ha] at hx;have hu:P.underlying t=some (.array n e):=by
     unfold pT at hx;split at hx
     ·rename_i hu;cases hx;exact hu
     ·cases hx
    simp [builtin,Builtin.len_,ha,aI,hu,goInt]
  ·cases h
 ·have:=IU (P:=P) (f:=ai6) (g:=Builtin.min2) (by
   intro x y z hz w
   cases x<;>cases y<;>simp [ai6] at hz
   subst hz;rfl) _ _ _ h w
  simp only [builtin,Builtin.min_,Sem.run_bind,this];rfl
 ·have:=IU (P:=P) (f:=ai7) (g:=Builtin.max2) (by
   intro x y z hz w
   cases x<;>cases y<;>simp [ai7] at hz
   subst hz;rfl) _ _ _ h w
  simp only [builtin,Builtin.max_,Sem.run_bind,this];rfl
 ·cases h
def eI{α β:Type}{a c:α}{b d:β}(h:some (a,b)=some (c,d)):a=c/\b=d:=by cases h;exact ⟨rfl,rfl⟩
def ae8{x:Option (List Prop × Value)}{cs:List Prop}{sv:SV}(h:(x.map λ(c,v)=>(c,SV.val v))=some (cs,sv)):∃v,x=some (cs,v)/\sv=.val v:=by
 cases x with
 |none=>cases h
 |some p=>obtain ⟨a,b⟩:=p;cases h;exact ⟨b,rfl,rfl⟩
def IV{x:Operand}{v:SV}(h:s.sv x=v):s.ev x=v.cc s.kn:=by simp only [St.ev,h]
def yS{t:TypeId}{cs:Array Value}{off:Nat}(w:World)(hn:(P.underlying t).isNone=false):
  (A2 P t=true->(part t cs off).run P w=.ok (.agg ((cs.toList.drop off).take (fX P t)).toArray) w)/\(A2 P t=false->∀v,cs[off]? =some v->(part t cs off).run P w=.ok v w):=by
 have hu:∃d,P.underlying t=some d:=by
  cases hh:P.underlying t with
  |some d=>exact ⟨d,rfl⟩
  |none=>simp [hh] at hn
 obtain ⟨d,hu⟩:=hu;have hi:=info_of_underlying hu;constructor
 ·intro h;have:(isAgg t).run P w=.ok true w:=by
   simp only [isAgg,Sem.run_bind,aI,hu,Result.andThen_ok];unfold A2 at h;rw [hu] at h
   cases d<;>first|rfl|(simp at h)
  simp only [part,Sem.run_bind,this,Result.andThen_ok,if_true,fa hi,Sem.run_pure];congr 2;apply Array.ext';simp [List.take_drop,uk]
 ·intro h v hv;have:(isAgg t).run P w=.ok false w:=by
   simp only [isAgg,Sem.run_bind,aI,hu,Result.andThen_ok];unfold A2 at h;rw [hu] at h
   cases d<;>first|rfl|(simp at h)
  simp [part,this,hv]
def vk{t:TypeId}{cs:Array Value}{off:Nat}{v:Value}(h:IT P t cs off=some v)(w:World):(part t cs off).run P w=.ok v w:=by
 unfold IT at h;split at h
 ·cases h
 ·rename_i d hu;have hp:=yS (P:=P) (t:=t) (cs:=cs) (off:=off) w (by rw [hu];rfl);split at h
  ·rename_i ha;cases h;exact hp.1 ha
  ·rename_i ha;exact hp.2 (by simpa using ha) v h
def My{g:TypeId->Value->Value->Option Bool}{d:Nat}(hg:∀t x y b,g t x y=some b->∀w,(Op.equalIn d t x y).run P w=.ok b w)(xs ys:Array Value):
  ∀(fs:List Field)(b:Bool),V2 P g xs ys fs=some b->∀w,(Op.eqFields d xs ys fs).run P w=.ok b w
 | [],b,h,w=>by simp only [V2,Option.some.injEq] at h;subst h;rfl
 | [f],b,h,w=>by
   unfold V2 at h
   split at h
   ·cases h
   ·rename_i hn
    split at h
    ·rename_i x y hx hy
     simp only [Op.eqFields,if_pos (show f.name≠ "_" from hn),Sem.run_bind,vk hx,vk hy,Result.andThen_ok,hg _ _ _ _ h]
     cases b<;>rfl
    ·cases h
 |f::f'::r,b,h,w=>by
  unfold V2 at h
  split at h
  ·cases h
  ·rename_i hn
   split at h
   ·rename_i x y hx hy
    split at h
    ·rename_i p q hp hq
     cases h
     rw [Op.eqFields,if_pos (show f.name≠ "_" from hn)]
     simp only [Sem.run_bind,vk hx,vk hy,Result.andThen_ok,hg _ _ _ _ hp]
     cases p with
     |false=>rfl
     |true=>simpa using My hg xs ys (f'::r) q hq w
    ·cases h
   ·cases h
def Kx:∀(d:Nat)(t:TypeId)(x y:Value)(b:Bool),eqV P d t x y=some b->∀(n:Nat),d<=n->∀w,(Op.equalIn n t x y).run P w=.ok b w
 |0,t,x,y,b,h,n,hn,w=>by cases h
 |d+1,t,x,y,b,h,n,hn,w=>by
  obtain ⟨m,rfl⟩:∃m,n=m+1:=⟨n-1,by omega⟩
  unfold eqV at h
  split at h
  ·rename_i k0 k a k' b' hu
   split at h
   ·rename_i e;subst e;cases h;exact run_equalIn_int w m t k k0 a b' hu
   ·cases h
  ·rename_i a b' hu;cases h;exact run_equalIn_bool w m t a b' hu
  ·rename_i a b' hu;cases h;exact run_equalIn_string w m t a b' hu
  ·rename_i fs xs ys hu
   split at h
   ·cases h
   ·rename_i hs
    have hf:P.fieldsOf t=fs:=by simp [Program.fieldsOf,hu]
    rw [run_equalIn_struct w m t xs ys (by rw [hf];exact hu) (by simpa using hs),hf];exact My (λt x y b hb w=>Kx d t x y b hb m ab w) xs ys fs.toList b h w
  ·cases h
def lU{t:TypeId}{x y:Value}{b:Bool}{w:World}(h:(Op.equalIn (9999+1) t x y).run P w=.ok b w):(Op.equal t x y).run P w=.ok b w:=h
def Mz{t:TypeId}{x y:Value}{cs:List Prop}{b:Bool}(h:ai8 P t x y=some (cs,b))(hc:∀p ∈ cs,p)(w:World):
  (Op.equal t x y).run P w=.ok b w/\(∀op (xo yo:Operand),(eqGuard op t xo yo x y).run P w=.ok () w)/\(x≠ .nilIface)/\
  (∀op,(binOp op t x y)=match op with| .eql=>(do pure (.bool (<-Op.equal t x y)))| .neq=>(do pure (.bool (!(<-Op.equal t x y))))|o=>binOp o t x y):=by
 have g:∀op (xo yo:Operand),x≠ .nilIface->(∀c,x≠ .agg c)->(eqGuard op t xo yo x y).run P w=.ok () w:=λop xo yo h1 h2=>Co op t xo yo x y h1 h2 w
 unfold ai8 at h;split at h
 ·split at h
  ·rename_i a n c e hu;obtain ⟨rfl,rfl⟩:=eI h;refine ⟨lU ?_,λop xo yo=>g op xo yo cj cj,by simp,λop=>by cases op<;>rfl⟩;rw [Op.equalIn,Sem.run_bind,aI,hu]
   cases a<;>rfl
  ·cases h
 ·rename_i b;split at h
  ·rename_i a e hu;obtain ⟨rfl,rfl⟩:=eI h;refine ⟨lU ?_,λop xo yo=>g op xo yo cj cj,by simp,λop=>by cases op<;>rfl⟩;rw [Op.equalIn,Sem.run_bind,aI,hu]
   cases b with
   |none=>cases a<;>rfl
   |some y=>
    have ha:a=none:=hc _ (gU.2 rfl);subst ha;rfl
  ·cases h
 ·split at h
  ·rename_i a k e hu;obtain ⟨rfl,rfl⟩:=eI h;refine ⟨lU ?_,λop xo yo=>g op xo yo cj cj,by simp,λop=>by cases op<;>rfl⟩;rw [Op.equalIn,Sem.run_bind,aI,hu]
   cases a<;>rfl
  ·cases h
 ·split at h
  ·rename_i a1 a2 a3 hu;obtain ⟨rfl,rfl⟩:=eI h
   cases x with
   |nilFunc=>
    refine ⟨lU ?_,λop xo yo=>g op xo yo cj cj,by simp,λop=>by cases op<;>rfl⟩;rw [Op.equalIn,Sem.run_bind,aI,hu];rfl
   |func fn fs cs=>
    refine ⟨lU ?_,λop xo yo=>g op xo yo cj cj,by simp,λop=>by cases op<;>rfl⟩;rw [Op.equalIn,Sem.run_bind,aI,hu];rfl
   |_=>exact (hc False (gU.2 rfl)).elim
  ·cases h
 ·rename_i ys;split at h
  ·rename_i xs;split at h
   ·rename_i hg
    cases he:eqV P 20 t (.agg xs) (.agg ys) with
    |none=>rw [he] at h;cases h
    |some b'=>
     rw [he] at h;obtain ⟨rfl,rfl⟩:=eI h;refine ⟨lU (Kx 20 t _ _ _ he _ ab w),λop xo yo=>run_eqGuard_agg w op t xo yo _ _ hg,by simp,λop=>by cases op<;>rfl⟩
   ·cases h
  ·cases h
 ·cases h
def V5{op:BinOp}{t:TypeId}{x y:Value}{cs:List Prop}{v:Value}(h:aag P op t x y=some (cs,v))(hc:∀p ∈ cs,p)(w:World)(xo yo:Operand):
  (eqGuard op t xo yo x y).run P w=.ok () w/\(binOp op t x y).run P w=.ok v w:=by
 unfold aag at h;split at h
 ·rename_i c b ho hcv;obtain ⟨rfl,rfl⟩:=eI h;obtain ⟨h1,h2,_,h4⟩:=Mz hcv hc w;refine ⟨h2 op xo yo,?_⟩
  cases op<;>simp [ai9] at ho
  rw [h4,Sem.run_bind,h1];rfl
 ·rename_i c b ho hcv;obtain ⟨rfl,rfl⟩:=eI h;obtain ⟨h1,h2,_,h4⟩:=Mz hcv hc w;refine ⟨h2 op xo yo,?_⟩
  cases op<;>simp [ai9] at ho
  rw [h4,Sem.run_bind,h1];rfl
 ·cases h
def rO{cs:List Prop}{sv:SV}(h:dZ P s o.op=some (cs,sv))(hc:∀p ∈ cs,p):ahE P s.ev o (sv.cc s.kn):=by
 obtain ⟨dst,op,ty,pos,after,guard⟩:=o;simp only at h
 cases op with
 |move x=>obtain ⟨rfl,rfl⟩:=eI h;exact λw=>rfl
 |assign x=>obtain ⟨rfl,rfl⟩:=eI h;exact λw=>rfl
 |pick c a b=>
  simp only [dZ] at h;split at h
  ·rename_i t hx;obtain ⟨rfl,rfl⟩:=eI h;intro w;simp only [execOp,IV hx]
   cases t<;>rfl
  ·cases h
 |extract t i=>
  simp only [dZ] at h;split at h
  ·rename_i vs hx
   cases hv:vs[i]? with
   |none=>simp [hv] at h
   |some v=>
    simp [hv] at h;obtain ⟨rfl,rfl⟩:=h;intro w;simp [execOp,IV hx,Instr.extract,hv,SV.cc]
  ·cases h
 |fieldAddr t x f=>
  simp only [dZ] at h;split at h
  ·rename_i fd hf;split at h
   ·cases h
   ·rename_i hz;obtain ⟨a,e1,e2⟩:=aam (kn:=s.kn) h hc;obtain ⟨fs,hu,hfs⟩:=yR hf;refine eh rfl λw=> ?_
    simp only [Instr.fieldAt,Sem.run_bind,aI,hu,Result.andThen_ok,hfs,St.ev,e1,Instr.sureAddr,Sem.run_pure,ES hz,e2]
  ·cases h
 |field t x f=>
  simp only [dZ] at h;split at h
  ·rename_i cs' fd hx hf;obtain ⟨fs,hu,hfs⟩:=yR hf;refine eh rfl λw=> ?_
   simp only [Instr.field,Sem.run_bind,aI,hu,Result.andThen_ok,hfs,IV hx,SV.cc,asAgg,Sem.run_pure];split at h
   ·cases h
   rename_i hn;have hp:=yS (P:=P) (t:=fd.type) (cs:=cs') (off:=fd.offset) w (by cases hq:P.underlying fd.type<;>simp_all);split at h
   ·rename_i ha;obtain ⟨rfl,rfl⟩:=eI h;exact hp.1 ha
   ·rename_i ha
    cases hv:cs'[fd.offset]? with
    |none=>simp [hv] at h
    |some v=>
     simp [hv] at h;obtain ⟨rfl,rfl⟩:=h;exact hp.2 (by simpa using ha) v hv
  ·cases h
 |nilCheck x=>
  simp only [dZ] at h;split at h
  ·rename_i k off hx;obtain ⟨rfl,rfl⟩:=eI h;intro w;simp only [execOp,IV hx,SV.cc];rfl
  ·rename_i p hx;obtain ⟨rfl,rfl⟩:=eI h;rw [jl] at hc;intro w
   cases p with
   |none=>cases hc
   |some a=>simp only [execOp,IV hx,SV.cc];rfl
  ·cases h
 |indexAddr t x i=>
  simp only [dZ] at h;split at h
  ·rename_i k iv hi;split at h
   ·rename_i e z a n c he hx;obtain ⟨rfl,rfl⟩:=eI h;obtain ⟨hu,hz⟩:=kS he;obtain ⟨h1,h3,h4⟩:=hc _ (gU.2 rfl);refine eh rfl λw=> ?_
    cases a with
    |none=>cases h1
    |some a=>simp [Instr.indexAt,aI,hu,hx,SV.cc,hi,asIntOf,h3,h4,hz,ae]
   ·rename_i p he hx;split at h
    ·rename_i n e ha;have hu:P.underlying t=some (.array n e):=by
      unfold pT at ha;split at ha
      ·rename_i hu;cases ha;exact hu
      ·cases ha
     cases hz:ir P e with
     |none=>simp [hz] at h
     |some z=>
      rw [hz] at h;obtain ⟨rfl,rfl⟩:=eI h;obtain ⟨h1,h2⟩:=aah hc;rw [jl] at h1;obtain ⟨h3,h4⟩:=c2 h2;have hz':∀w,(sizeOf e).run P w=.ok z w:=λw=>by
       unfold ir at hz
       cases hi':P.info? e with
       |none=>simp [hi'] at hz
       |some i'=>simp [hi'] at hz;rw [fa (by simp [hi'])];simp [fX,hi',hz]
      refine eh rfl λw=> ?_
      cases p with
      |none=>cases h1
      |some a=>simp [Instr.indexAt,aI,hu,hx,SV.cc,hi,asIntOf,h3,h4,hz',ae,Instr.sureAddr]
    ·cases h
   ·cases h
  ·cases h
 |index t x i=>
  simp only [dZ] at h;split at h
  ·rename_i b k iv hx hi;split at h
   ·rename_i ht;have hu:=oV ht;obtain ⟨rfl,rfl⟩:=eI h;obtain ⟨h3,h4⟩:=c2 hc;refine eh rfl λw=> ?_
    have iS:iv.toNat<b.size:=by omega
    have hg:b[iv.toNat]? =some (b.data.toList.getD iv.toNat 0):=by
     rw [getElem?_pos b iv.toNat iS];have:iv.toNat<b.data.toList.length:=by simpa using iS
     simp [dY,dv this];rfl
    simp [Instr.index,aI,hu,hx,hi,asIntOf,h3,hg,SV.cc]
   ·cases h
  ·cases h
 |binOp op t x y u=>
  simp only [dZ] at h;split at h
  ·rename_i c v hv;obtain ⟨rfl,rfl⟩:=eI h;refine eh rfl λw=> ?_
   obtain ⟨n1,n2⟩:=V4 hv;rw [Sem.run_bind,Co _ _ _ _ _ _ n1 n2,Result.andThen_ok,aal hv hc];rfl
  ·obtain ⟨v,hv,rfl⟩:=ae8 h;refine eh rfl λw=> ?_
   obtain ⟨h1,h2⟩:=V5 hv hc w x y;rw [Sem.run_bind,h1,Result.andThen_ok,h2];rfl
 |unOp op t x=>
  cases op with
  |not=>
   simp only [dZ] at h;split at h
   ·rename_i b hx;obtain ⟨rfl,rfl⟩:=eI h;exact eh rfl λw=>by simp only [hx];rfl
   ·cases h
  |neg=>
   simp only [dZ] at h;split at h
   ·rename_i k n hx;obtain ⟨rfl,rfl⟩:=eI h;exact eh rfl λw=>by simp only [hx];rfl
   ·cases h
  |_=>cases h
 |convert a b x=>
  simp only [dZ] at h;split at h
  ·rename_i k' k k'' n hu1 hu2 hx;obtain ⟨rfl,rfl⟩:=eI h;refine eh rfl λw=> ?_
   simp only [convert,Sem.run_bind,aI,hu1,hu2,Result.andThen_ok,hx];rfl
  ·rename_i bb hu1 hu2 hx;obtain ⟨rfl,rfl⟩:=eI h;refine eh rfl λw=> ?_
   simp only [convert,Sem.run_bind,aI,hu1,hu2,Result.andThen_ok,hx];rfl
  ·cases h
 |slice t x lo hi mx=>
  obtain ⟨v,hv,rfl⟩:=ae8 h;exact eh rfl λw=>Rp hv hc w
 |call c=>
  obtain ⟨callee,args,argTypes⟩:=c
  cases callee with
  |builtin b=>
   simp only [dZ] at h
   cases hb:uj P b argTypes (args.toList.map s.ev) with
   |none=>simp [hb] at h
   |some v=>
    simp [hb] at h;obtain ⟨rfl,rfl⟩:=h;intro w;have:=Kw (P:=P) (ty:=ty) (cs:=(args.map fun| .const _=>true|_=>false)) (args:=args.map s.ev) (by simpa using hb) w;rw [BigFrame.execOp_builtin];exact this
  |_=>cases h
 |_=>cases h
end
section
variable {P:Program} {s:St} {o:Oper}
def ET(hs:s.Ok){op:Op}{cs:List Prop}{sv:SV}(h:dZ P s op=some (cs,sv)):sv.iz s.kn.length:=by
 cases op with
 |move x=>obtain ⟨rfl,rfl⟩:=eI h;exact hs.sv x
 |assign x=>obtain ⟨rfl,rfl⟩:=eI h;exact hs.sv x
 |pick c a b=>
  simp only [dZ] at h;split at h
  ·rename_i t hx;obtain ⟨rfl,rfl⟩:=eI h
   cases t
   ·exact hs.sv b
   ·exact hs.sv a
  ·cases h
 |extract t i=>
  simp only [dZ] at h;split at h
  ·rename_i vs hx
   cases hv:vs[i]? with
   |none=>simp [hv] at h
   |some v=>simp [hv] at h;obtain ⟨rfl,rfl⟩:=h;trivial
  ·cases h
 |fieldAddr t x f=>
  simp only [dZ] at h;split at h
  ·split at h
   ·cases h
   ·have hx:=hs.sv x;unfold aaf at h;split at h
    ·rename_i e;rw [e] at hx;obtain ⟨rfl,rfl⟩:=eI h;exact hx
    ·obtain ⟨rfl,rfl⟩:=eI h;trivial
    ·cases h
  ·cases h
 |field t x f=>
  simp only [dZ] at h;split at h
  ·rename_i cs' fd hx hf;split at h
   ·cases h
   split at h
   ·obtain ⟨rfl,rfl⟩:=eI h;trivial
   ·cases hv:cs'[fd.offset]? with
    |none=>simp [hv] at h
    |some v=>simp [hv] at h;obtain ⟨rfl,rfl⟩:=h;trivial
  ·cases h
 |nilCheck x=>
  simp only [dZ] at h;have hx:=hs.sv x;split at h
  ·rename_i e;rw [e] at hx;obtain ⟨rfl,rfl⟩:=eI h;exact hx
  ·obtain ⟨rfl,rfl⟩:=eI h;trivial
  ·cases h
 |indexAddr t x i=>
  simp only [dZ] at h;split at h
  ·split at h
   ·obtain ⟨rfl,rfl⟩:=eI h;trivial
   ·split at h
    ·rename_i n e ha
     cases hz:ir P e with
     |none=>simp [hz] at h
     |some z=>rw [hz] at h;obtain ⟨rfl,rfl⟩:=eI h;trivial
    ·cases h
   ·cases h
  ·cases h
 |index t x i=>
  simp only [dZ] at h;split at h
  ·split at h
   ·obtain ⟨rfl,rfl⟩:=eI h;trivial
   ·cases h
  ·cases h
 |binOp op t x y u=>
  simp only [dZ] at h;split at h
  ·obtain ⟨rfl,rfl⟩:=eI h;trivial
  ·obtain ⟨v,_,rfl⟩:=ae8 h;trivial
 |unOp op t x=>
  cases op<;>simp only [dZ] at h<;>first|(cases h;done)|(split at h<;>first|(cases h;done)|(obtain ⟨rfl,rfl⟩:=eI h;trivial))
 |convert a b x=>
  simp only [dZ] at h;split at h
  ·obtain ⟨rfl,rfl⟩:=eI h;trivial
  ·obtain ⟨rfl,rfl⟩:=eI h;trivial
  ·cases h
 |slice t x lo hi mx=>obtain ⟨v,_,rfl⟩:=ae8 h;trivial
 |call c=>
  obtain ⟨callee,args,argTypes⟩:=c
  cases callee with
  |builtin b=>
   simp only [dZ] at h
   cases hb:uj P b argTypes (args.toList.map s.ev) with
   |none=>simp [hb] at h
   |some v=>simp [hb] at h;obtain ⟨rfl,rfl⟩:=h;trivial
  |_=>cases h
 |_=>cases h
end
def iX(d:Option Tmp)(s:St)(K:St->Prop):Act->World->Prop:=
 λa w=>∃s',s'.Ok/\s'.act=a/\s'.w=w/\Fr d.toList s s'/\K s'
def getD_set_ne{α:Type}(l:List α)(i j:Nat)(v d:α)(h:i≠j):(l.set i v).getD j d=l.getD j d:=by simp [dY,h]
def kT{s:St}{d:Option Tmp}{K:St->Prop}{a:Act}{w:World}{s1:St}{v:SV}(hk:K (s1.put d v))
  (bq:s.Ok)(oJ:s1.sl=s.sl)(jw:tA s.kn s1.kn)
  (iQ:∀(k:Nat)(kb:KB),s1.kn[k]? =some kb->kb.live=true->s1.w.heap[kb.idx]? =some (.cells kb.cells.toArray kb.ty (0,0)))
  (gy:∀(i j:Nat)(x y:KB),s1.kn[i]? =some x->s1.kn[j]? =some y->x.live=true->y.live=true->x.idx=y.idx->i=j)
  (hv:v.iz s1.kn.length)(ha:s.act.put d (v.cc s1.kn)=a)(hw:s1.w=w)(hdf:s1.df=s.df:=by rfl):iX d s K a w:=by
 have Y2:∀x ∈ s.sl,x.cc s1.kn=x.cc s.kn:=λx hx=>by obtain ⟨i,hi⟩:=sU hx;exact jw.cc (bq.mO i x hi)
 refine ⟨s1.put d v,⟨?_,?_,?_⟩,?_,?_,⟨?_,?_,?_,?_⟩,hk⟩
 ·cases d<;>exact iQ
 ·cases d<;>exact gy
 ·have hl:∀(i:Nat)(u:SV),s1.sl[i]? =some u->u.iz s1.kn.length:=λi u hu=>(bq.mO i u (by rw [<-oJ];exact hu)).mono jw.length
  cases d with
  |none=>exact hl
  |some d=>
   intro i u hu;simp only [St.put,jW] at hu;split at hu
   ·split at hu
    ·cases hu;exact hv
    ·cases hu
   ·exact hl i u hu
 ·rw [St.ae6,<-ha];have:s1.act=s.act:=by simp only [St.act,oJ,hdf];congr 2;exact yT Y2
  rw [this]
 ·cases d<;>exact hw
 ·cases d<;>simp [St.put,oJ]
 ·intro i hi;have:(s1.put d v).sl.getD i (.val undef)=s.sl.getD i (.val undef):=by
   cases d with
   |none=>simp [St.put,oJ]
   |some d=>simp only [St.put,oJ];exact getD_set_ne _ _ _ _ _ (λe=>hi (by simp [e]))
  rw [this];have Y3:(s1.put d v).kn=s1.kn:=by cases d<;>rfl
  rw [Y3];simp only [dY]
  cases hg:s.sl[i]? with
  |none=>rfl
  |some u=>exact jw.cc (bq.mO i u hg)
 ·cases d<;>exact jw
 ·have:(s1.put d v).df=s.df:=by cases d<;>exact hdf
  rw [this];exact ⟨aD _,λ_=>rfl⟩
def wp_pure{P:Program}{s:St}{o:Oper}{K:St->Prop}{Q:Exit->Act->World->Prop}{cs:List Prop}{sv:SV}(bq:s.Ok)(h:dZ P s o.op=some (cs,sv))(hk:aS cs (K (s.put o.dst sv))):
  o.wp P s.act s.w (iX o.dst s K) Q:=by
 rw [bD] at hk;unfold Oper.wp;rw [St.eval_eq,rO h hk.1];exact kT hk.2 bq rfl (tA.refl _) bq.bj bq.ne (ET bq h) rfl rfl
def af(w:World)(p:Option Addr):Nat->List Value->Prop
 |_,[]=>True
 |i,[v]=>ld w (ae p i)=some v
 |i,v::u::r=>ld w (ae p i)=some v/\af w p (i+1) (u::r)
def IW(P:Program)(w:World)(p:Option Addr)(t:TypeId)(F:Value->Prop):Prop:=
 match tz P t with
 | .sc c=>c.ex λv=>ld w p=some v/\F v
 | .agg l=>if l.length=fX P t/\l.isEmpty=false then exL l λvs=>af w p 0 vs/\F (.agg vs.toArray) else False
def cellsOf:Value->List Value
 | .agg cs=>cs.toList
 |v=> [v]
def qK(w:World)(a:Addr):Nat->List Value->World
 |_,[]=>w
 |i,v::r=>qK (w.setCell (a.add i) v) a (i+1) r
def aK(w:World)(p:Option Addr)(vs:List Value):World:=match p with|some a=>qK w a 0 vs|none=>w
def Wr(w:World)(p:Option Addr)(n:Nat):Prop:=∀i,i<n->∃a,p=some a/\(w.cell? (a.add i)).isSome=true/\w.frozen? (a.add i)=false
def kU:Value->List Prop
 | .agg _| .tuple _=> [False]
 |_=> []
def bt:Option Addr->Option Nat:=λp=>p.map (·.block)
def gg(kn:List KB):List Nat:=(kn.filter (·.live)).map (·.idx)
def EU(kn:List KB)(w w':World):List Prop:=(gg kn).map λi=>w'.heap[i]? =w.heap[i]?
def A3(kn:List KB)(p:Option Addr):List Prop:=(gg kn).map λi=>bt p≠some i
def aW(cs:List Value)(off:Nat):List Value->List Value
 | []=>cs
 |v::r=>aW (cs.set off v) (off+1) r
def St.qL(s:St)(k:Nat):St:={s with kn:=s.kn.modify k λkb=>{kb with live:=false}}
def St.kill(s:St):List SV->St
 | []=>s
 | .loc k _::r| .sli k _::r=>(s.qL k).kill r
 | .val _::r=>s.kill r
def amL(P:Program)(t:TypeId):Bool:=match P.underlying t with|some (.array _ _)=>true|_=>false
def A4(P:Program)(s:St)(d:Option Tmp)(t:TypeId)(cs:List Value)(K:St->Prop):Prop:=
 match amL P t with
 |true=>∀w1,w1=s.w.alloc (.cells cs.toArray t)->K ({s with w:=w1}.put d (.val (.pointer (some ⟨s.w.heap.size,0,none⟩))))
 |false=>∀w1,w1=s.w.alloc (.cells cs.toArray t)->K ({s with w:=w1,kn:=s.kn++ [KB.mk s.w.heap.size cs t true]}.put d (.loc s.kn.length 0))
def zeroOf(P:Program)(t:TypeId):Option (List Value):=((P.info? t).bind (·.zero)).map cellsOf
section
variable {P:Program} {s:St} {o:Oper} {K:St->Prop} {Q:Exit->Act->World->Prop}
def fH{d:Option Tmp}{v:Value}(bq:s.Ok)(hk:K (s.put d (.val v))):iX d s K (s.act.put d v) s.w:=
 kT hk bq rfl (tA.refl _) bq.bj bq.ne trivial rfl rfl
def EV(kn:List KB)(l:List KB):tA kn (kn++l):=λk kb hk=>⟨kb,by
 rw [pU (by have:=(cK.1 hk).1;exact this)];exact hk,rfl,rfl⟩
def qM(v:Value):v.cells.toList=cellsOf v:=by cases v<;>rfl
def oD(v:Value):v.cells=(cellsOf v).toArray:=by cases v<;>rfl
def EW{d:Option Tmp}{t:TypeId}{cs:List Value}(bq:s.Ok)(hk:A4 P s d t cs K):
  iX d s K (s.act.put d (.pointer (some ⟨s.w.heap.size,0,none⟩))) (s.w.alloc (.cells cs.toArray t)):=by
 have Hj:∀i,i<s.w.heap.size->(s.w.alloc (.cells cs.toArray t)).heap[i]? =s.w.heap[i]? :=λi hi=>Below.heap_alloc _ _ _ hi
 have DR:(s.w.alloc (.cells cs.toArray t)).heap[s.w.heap.size]? =some (.cells cs.toArray t (0,0)):=by show (s.w.heap.push _)[s.w.heap.size]? =_;simp
 unfold A4 at hk;split at hk
 ·have hk:=hk _ rfl;exact kT hk bq rfl (tA.refl _) (λk kb h1 h2=>by rw [<-bq.bj k kb h1 h2];exact Hj _ (bq.lt k kb h1 h2)) bq.ne trivial rfl rfl
 ·have hk:=hk _ rfl;refine kT hk bq rfl (EV _ _) (λk kb h1 h2=> ?_) (λi j x y h1 h2 h3 h4 h5=> ?_) (show s.kn.length<(s.kn++ [_]).length by simp) ?_ rfl
  ·rcases jA k s.kn.length with iS|Qj
   ·simp only [pU iS] at h1;rw [<-bq.bj k kb h1 h2];exact Hj _ (bq.lt k kb h1 h2)
   ·simp only [sV Qj] at h1
    cases hz:k-s.kn.length with
    |zero=>simp [hz] at h1;subst h1;exact DR
    |succ n=>simp [hz] at h1
  ·have key:∀(i:Nat)(x:KB),(s.kn++ [KB.mk s.w.heap.size cs t true])[i]? =some x->(i<s.kn.length/\s.kn[i]? =some x)\/(i=s.kn.length/\x.idx=s.w.heap.size):=by
    intro i x hx;rcases jA i s.kn.length with iS|Qj
    ·exact .inl ⟨iS,by rwa [pU iS] at hx⟩
    ·rw [sV Qj] at hx
     cases hz:i-s.kn.length with
     |zero=>simp [hz] at hx;subst hx;exact .inr ⟨by omega,rfl⟩
     |succ n=>simp [hz] at hx
   rcases key i x h1 with ⟨a1,a2⟩|⟨a1,a2⟩<;>rcases key j y h2 with ⟨b1,b2⟩|⟨b1,b2⟩
   ·exact bq.ne i j x y a2 b2 h3 h4 h5
   ·have:=bq.lt i x a2 h3;omega
   ·have:=bq.lt j y b2 h4;omega
   ·omega
  ·simp [SV.cc,dY]
def km(ob:Obj)(w:World):(newObj ob).run P w=.ok w.heap.size (w.alloc ob):=rfl
def IX{t:TypeId}{cs:List Value}(h:zeroOf P t=some cs)(w:World):
  (Instr.alloc t true (.tuple #[])).run P w=.ok (.pointer (some ⟨w.heap.size,0,none⟩)) (w.alloc (.cells cs.toArray t)):=by
 unfold zeroOf at h
 cases hi:P.info? t with
 |none=>simp [hi] at h
 |some i=>
  cases hz:i.zero with
  |none=>simp [hi,hz] at h
  |some v=>
   simp [hi,hz] at h;subst h;simp [Instr.alloc,zeroValue,ea,hi,hz,newVar,newRow,km,oD]
def Uu{t:TypeId}{v:Value}(w:World):
  (Instr.box t v).run P w=.ok (.pointer (some ⟨w.heap.size,0,none⟩)) (w.alloc (.cells (cellsOf v).toArray t)):=by
 simp [Instr.box,newVar,newRow,km,oD]
end
section
variable {P:Program} {s:St} {o:Oper} {K:St->Prop} {Q:Exit->Act->World->Prop}
def St.known(s:St)(k:Nat):Option KB:=match s.kn[k]? with|some kb=>(match kb.live with|true=>some kb|false=>none)|none=>none
def rP{k:Nat}{kb:KB}(h:s.known k=some kb):s.kn[k]? =some kb/\kb.live=true:=by grind [St.known]
def EX(P:Program)(s:St)(d:Option Tmp)(t:TypeId)(x:SV)(K:St->Prop):Prop:=
 match x with
 | .loc k off=>match s.known k with
   |some kb=>match tz P t with
    | .sc _=>match kb.cells[off]? with|some v=>K (s.put d (.val v))|none=>False
    | .agg l=>if l.length=fX P t/\off+l.length<=kb.cells.length then K (s.put d (.val (.agg ((kb.cells.drop off).take l.length).toArray))) else False
   |none=>IW P s.w (some ⟨(s.kn.getD k default).idx,off,none⟩) t λv=>K (s.put d (.val v))
 | .val (.pointer p)=>IW P s.w p t λv=>K (s.put d (.val v))
 |_=>False
def mP{t:TypeId}(w:World){d:TypeDesc}(hu:P.underlying t=some d):(isAgg t).run P w=.ok (A2 P t) w:=by
 simp only [isAgg,Sem.run_bind,aI,hu,Result.andThen_ok,A2]
 cases d<;>rfl
def MA{t:TypeId}{c:S}(h:tz P t=.sc c):A2 P t=false:=by
 unfold tz at h;split at h
 ·cases h
 ·rename_i h';simpa using h'
def EY{t:TypeId}{l:List S}(h:tz P t=.agg l):A2 P t=true:=by
 unfold tz at h;split at h
 ·assumption
 ·cases h
def mC{a:Addr}{w:World}:∀(n i:Nat)(acc:Array Value)(vs:List Value),vs.length=n->(∀j,j<n->w.cell? (a.add (i+j))=vs[j]?)->
  (loadCellsFrom a i n acc).run P w=.ok (acc++vs.toArray) w:=by
 intro n
 induction n with
 |zero=>intro i acc vs hl _;have:vs=[]:=EZ.1 hl;subst this;simp [loadCellsFrom]
 |succ n ih=>
  intro i acc vs hl h
  cases vs with
  |nil=>simp at hl
  |cons v r=>
   have h0:=h 0 ab;simp at h0;simp only [loadCellsFrom,Sem.run_bind,run_load,h0,Result.andThen_ok];rw [ih (i+1) _ r (by simpa using hl) (λj hj=>by have:=h (j+1) ab;simpa [Nat.add_assoc,uk 1 j] using this)];simp
def mQ{w:World}{p:Option Addr}:∀{i:Nat} {vs:List Value},af w p i vs->∀j,j<vs.length->ld w (ae p (i+j))=vs[j]?
 |_,[],_,j,hj=>by simp at hj
 |i,[v],h,j,hj=>by
  have:j=0:=by simp at hj;exact hj
  subst this;exact h
 |i,v::u::r,h,j,hj=>by
  cases j with
  |zero=>exact h.1
  |succ j=>
   have:=mQ h.2 j (by simpa using hj);rw [show i+(j+1)=i+1+j by omega,this];simp
def IY{t:TypeId}{p:Option Addr}{F:Value->Prop}{w:World}(hu:(P.underlying t).isSome=true)(h:IW P w p t F):
  ∃a v,p=some a/\F v/\(Instr.loadAt t (.pointer (some a))).run P w=.ok v w:=by
 obtain ⟨d,hu⟩:=oP.1 hu;unfold IW at h
 cases ht:tz P t with
 |sc c=>
  rw [ht] at h;obtain ⟨v,h1,h2⟩:=S.lT h
  cases p with
  |none=>simp [ld] at h1
  |some a=>
   refine ⟨a,v,rfl,h2,?_⟩;have VA:w.cell? a=some v:=h1;simp [Instr.loadAt,Instr.sureAddr,loadVar,mP w hu,MA ht,VA]
 |agg l=>
  simp only [ht] at h;split at h
  ·rename_i hl;have:∃vs,vs.length=l.length/\af w p 0 vs/\F (.agg vs.toArray):=by
    have key:∀(l:List S)(G:List Value->Prop),exL l G->∃vs,vs.length=l.length/\G vs:=by
     intro l
     induction l with
     |nil=>intro G hG;exact ⟨[],rfl,hG⟩
     |cons c r ih=>
      rintro G ⟨x,hx⟩;obtain ⟨vs,h1,h2⟩:=ih _ hx;exact ⟨_,by simp [h1],h2⟩
    exact key l _ h
   obtain ⟨vs,e,h1,h2⟩:=this;have hi:=info_of_underlying hu;have hp:∃a,p=some a:=by
    cases p with
    |some a=>exact ⟨a,rfl⟩
    |none=>
     have h0:0<vs.length:=by
      cases l with
      |nil=>simp at hl
      |cons _ _=>simp at e;omega
     have:=mQ h1 0 h0;simp [ld,ae,dv h0] at this
   obtain ⟨a,rfl⟩:=hp;refine ⟨a,_,rfl,h2,?_⟩;simp only [Instr.loadAt,Instr.sureAddr,loadVar,Sem.run_bind,Sem.run_pure,Result.andThen_ok,mP w hu,EY ht,if_true,fa hi,loadCells];rw [mC _ 0 #[] vs ab (λj hj=>by have:=mQ h1 j ab;simpa [ld,ae] using this)];simp
  ·cases h
end
section
variable {P:Program} {s:St} {o:Oper} {K:St->Prop} {Q:Exit->Act->World->Prop}
def cell_of{w:World}{i:Nat}{c:Array Value}{t:TypeId}{f:Nat × Nat}(h:w.heap[i]? =some (.cells c t f))(j:Nat):w.cell? ⟨i,j,none⟩=c[j]? :=by simp [World.cell?,h]
def V6{w:World}{i:Nat}{c:Array Value}{t:TypeId}(h:w.heap[i]? =some (.cells c t (0,0)))(j:Nat):w.frozen? ⟨i,j,none⟩=false:=by simp [World.frozen?,h]
def nU(i o n:Nat):(⟨i,o,none⟩:Addr).add n=⟨i,o+n,none⟩:=by unfold Addr.add;split<;>simp_all
def E0{d:Option Tmp}{t:TypeId}{x:SV}(bq:s.Ok)(hu:(P.underlying t).isSome=true)(h:EX P s d t x K):
  ∃a v,x.cc s.kn=.pointer (some a)/\K (s.put d (.val v))/\(Instr.loadAt t (.pointer (some a))).run P s.w=.ok v s.w:=by
 unfold EX at h;split at h
 ·rename_i k off;split at h
  ·rename_i kb hkb;obtain ⟨h1,h2⟩:=rP hkb;have hb:=bq.bj k kb h1 h2;have jw:(s.kn.getD k default).idx=kb.idx:=by simp [dY,h1]
   refine ⟨⟨kb.idx,off,none⟩,?_⟩;obtain ⟨dd,hu'⟩:=oP.1 hu;split at h
   ·rename_i c ht;split at h
    ·rename_i v hv;refine ⟨v,by rw [SV.cc,jw],h,?_⟩;have hc:s.w.cell? ⟨kb.idx,off,none⟩=some v:=by rw [cell_of hb];simpa using hv
     simp [Instr.loadAt,Instr.sureAddr,loadVar,mP _ hu',MA ht,hc]
    ·cases h
   ·rename_i l ht;split at h
    ·rename_i hl;refine ⟨_,by rw [SV.cc,jw],h,?_⟩;simp only [Instr.loadAt,Instr.sureAddr,loadVar,Sem.run_bind,Sem.run_pure,Result.andThen_ok,mP _ hu',EY ht,if_true,fa (info_of_underlying hu'),loadCells];rw [mC _ 0 #[] ((kb.cells.drop off).take l.length) (by simp;omega) (λj hj=>by rw [nU,cell_of hb];simp [qN,wB,show j<l.length by omega])];simp
    ·cases h
  ·obtain ⟨a,v,h1,h2,h3⟩:=IY hu h
   cases h1
   exact ⟨_,v,rfl,h2,h3⟩
 ·rename_i p;obtain ⟨a,v,h1,h2,h3⟩:=IY hu h;subst h1;exact ⟨a,v,rfl,h2,h3⟩
 ·cases h
def Ky(P:Program)(s:St)(d:Option Tmp)(t:TypeId)(x v:SV)(K:St->Prop):Prop:=
 let vs:=cellsOf (v.cc s.kn)
 aS (vs.flatMap kU)<|if vs.length=fX P t then
  match x with
  | .loc k off=>match s.known k with
    |some kb=>if off+vs.length<=kb.cells.length then
     ∀w1,w1=s.w.setRow kb.idx (aW kb.cells off vs).toArray->K ((({s with w:=w1,kn:=s.kn.modify k λb=>{b with cells:=aW kb.cells off vs}}).kill [v]).put d (.val undef)) else False
    |none=>Wr s.w (some ⟨(s.kn.getD k default).idx,off,none⟩) vs.length/\aS (A3 s.kn (some ⟨(s.kn.getD k default).idx,off,none⟩)) (∀w1,w1=aK s.w (some ⟨(s.kn.getD k default).idx,off,none⟩) vs->K ((({s with w:=w1}).kill [v]).put d (.val undef)))
  | .val (.pointer p)=>(p.isSome=true/\Wr s.w p vs.length)/\aS (A3 s.kn p) (∀w1,w1=aK s.w p vs->K ((({s with w:=w1}).kill [v]).put d (.val undef)))
  |_=>False
 else False
def dw:∀(vs:List Value)(cs:List Value)(off:Nat),off+vs.length<=cs.length->aW cs off vs=cs.take off++vs++cs.drop (off+vs.length)
 | [],cs,off,_=>by simp [aW]
 |v::r,cs,off,h=>by
  simp only [c8] at h
  rw [aW,dw r _ _ (by simp;omega)]
  have h1:(cs.set off v).take (off+1)=cs.take off++ [v]:=by
   apply jB;intro j;simp only [qN,jW,List.getElem?_append,dI];rcases Nat.lt_trichotomy j off with hj|hj|hj
   ·simp [hj,show j<off+1 by omega,show ¬off=j by omega,show j<min off cs.length by omega]
   ·subst hj;simp [show j<cs.length by omega,show ¬j<min j cs.length by omega,show j-min j cs.length=0 by omega]
   ·simp [show ¬j<off+1 by omega,show ¬j<min off cs.length by omega,show ¬j<off by omega];have:j-min off cs.length≠0:=by omega
    cases hz:j-min off cs.length with
    |zero=>omega
    |succ n=>simp
  have h2:(cs.set off v).drop (off+1+r.length)=cs.drop (off+(r.length+1)):=by apply jB;intro j;simp only [wB,jW];simp [show ¬off=off+1+r.length+j by omega];congr 1;omega
  rw [h1,h2];simp
def dB(vs:List Value):∀(cs:List Value)(off:Nat),(aW cs off vs).length=cs.length:=by
 induction vs with
 |nil=>intro cs off;rfl
 |cons v r ih=>intro cs off;rw [aW,ih];simp
def Uv{vs:List Value}(h:∀p ∈ vs.flatMap kU,p):∀v ∈ vs,v.oneCell'=true:=by
 intro v hv
 cases v with
 |agg c=>exact (h False (List.mem_flatMap.2 ⟨_,hv,by simp [kU]⟩)).elim
 |tuple c=>exact (h False (List.mem_flatMap.2 ⟨_,hv,by simp [kU]⟩)).elim
 |_=>rfl
def gE(a:Addr):∀(vs:List Value)(i:Nat)(w:World),(∀v ∈ vs,v.oneCell'=true)->
  (∀j,j<vs.length->(w.cell? (a.add (i+j))).isSome=true/\w.frozen? (a.add (i+j))=false)->(storeCells a vs i).run P w=.ok () (qK w a i vs)
 | [],i,w,_,_=>rfl
 |v::r,i,w,h1,h2=>by
  obtain ⟨u,hu⟩:=oP.1 (h2 0 cj).1
  have hf:=(h2 0 cj).2
  simp only [Nat.add_zero] at hu hf
  simp only [storeCells,Sem.run_bind,run_store P w _ v _ (h1 v cj),hu,hf]
  simp only [Bool.false_eq_true,if_false,Result.andThen_ok,qK]
  refine gE a r (i+1) _ (λv hv=>h1 v (by simp [hv])) (λj hj=> ?_)
  have:=h2 (j+1) (by simpa using hj)
  rw [show i+(j+1)=i+1+j by omega] at this
  refine ⟨?_,by rw [World.frozen?_setCell];exact this.2⟩
  by_cases e:a.add i=a.add (i+1+j)
  ·rw [<-e,World.cell?_setCell_same _ _ _ hu];rfl
  ·rw [World.cell?_setCell_other _ _ _ _ e];exact this.1
def MB{s:St}(bq:s.Ok)(k:Nat):(s.qL k).Ok/\(s.qL k).sl=s.sl/\(s.qL k).w=s.w/\tA s.kn (s.qL k).kn/\(s.qL k).kn.length=s.kn.length:=by
 have key:∀(i:Nat)(x:KB),(s.qL k).kn[i]? =some x->x.live=true->s.kn[i]? =some x:=by
  intro i x hx hl;simp only [St.qL,IZ] at hx;split at hx
  ·cases hy:s.kn[i]? with
   |none=>simp [hy] at hx
   |some y=>simp [hy] at hx;subst hx;simp at hl
  ·cases hy:s.kn[i]? with
   |none=>simp [hy] at hx
   |some y=>simpa [hy] using hx
 refine ⟨⟨λi x h1 h2=>bq.bj i x (key i x h1 h2) h2,λi j x y h1 h2 h3 h4 h5=>bq.ne i j x y (key i x h1 h3) (key j y h2 h4) h3 h4 h5,?_⟩,rfl,rfl,?_,by simp [St.qL]⟩
 ·intro i v hv;have:=bq.mO i v hv;simpa [St.qL] using this
 ·intro i x hx;refine ⟨if k=i then {x with live:=false} else x,?_,by split<;>rfl,by split<;>rfl⟩;simp only [St.qL,IZ,hx];split<;>rfl
def fo:∀(l:List SV) {s:St},s.Ok->(s.kill l).Ok/\(s.kill l).sl=s.sl/\(s.kill l).w=s.w/\tA s.kn (s.kill l).kn/\(s.kill l).kn.length=s.kn.length
 | [],s,h=>⟨h,rfl,rfl,tA.refl _,rfl⟩
 | .val _::r,s,h=>fo r h
 | .loc k _::r,s,h=>by
   obtain ⟨a1,a2,a3,a4,a5⟩:=MB h k
   obtain ⟨b1,b2,b3,b4,b5⟩:=fo r a1
   exact ⟨b1,b2.trans a2,b3.trans a3,a4.trans b4,b5.trans a5⟩
 | .sli k _::r,s,h=>by
   obtain ⟨a1,a2,a3,a4,a5⟩:=MB h k
   obtain ⟨b1,b2,b3,b4,b5⟩:=fo r a1
   exact ⟨b1,b2.trans a2,b3.trans a3,a4.trans b4,b5.trans a5⟩
def nV:∀(l:List SV)(s:St),(s.kill l).df=s.df
 | [],_=>rfl
 | .val _::r,s=>nV r s
 | .loc k _::r,s=>nV r (s.qL k)
 | .sli k _::r,s=>nV r (s.qL k)
def j9{d:Option Tmp}{a:Act}{w:World}{s1:St}{v:SV}(hk:K (s1.put d v))(bq:s.Ok)(h1:s1.Ok)(oJ:s1.sl=s.sl)(jw:tA s.kn s1.kn)
  (hv:v.iz s1.kn.length)(ha:s.act.put d (v.cc s1.kn)=a)(hw:s1.w=w)(hdf:s1.df=s.df:=by first|rfl|exact nV _ _):iX d s K a w:=
 kT hk bq oJ jw h1.bj h1.ne hv ha hw hdf
def mR{s:St}(bq:s.Ok){w':World}(h:∀p ∈ EU s.kn s.w w',p):({s with w:=w'}:St).Ok:=by refine ⟨λk kb h1 h2=> ?_,bq.ne,bq.mO⟩;rw [<-bq.bj k kb h1 h2];refine h _ (aY.2 ⟨kb.idx,?_,rfl⟩);exact aY.2 ⟨kb,kA.2 ⟨aU h1,h2⟩,rfl⟩
def Kz{d:Option Tmp}{t:TypeId}{x v:SV}(bq:s.Ok)(hi:(P.info? t).isSome=true)(h:Ky P s d t x v K):
  ∃a w',x.cc s.kn=.pointer (some a)/\(Instr.storeAt t (.pointer (some a)) (v.cc s.kn)).run P s.w=.ok () w'/\iX d s K (s.act.put d undef) w':=by
 unfold Ky at h;simp only [bD] at h;obtain ⟨vS,h⟩:=h;have vS:=Uv vS;split at h
 case isFalse=>cases h
 rename_i Y4;have u9:∀(a:Addr)(w':World),(storeCells a (cellsOf (v.cc s.kn)) 0).run P s.w=.ok () w'->(Instr.storeAt t (.pointer (some a)) (v.cc s.kn)).run P s.w=.ok () w':=by
  intro a w' hw;have:(v.cc s.kn).cells.size=fX P t:=by rw [oD,<-Y4];simp
  simp only [Instr.storeAt,Instr.sureAddr,storeVar,Sem.run_bind,Sem.run_pure,Result.andThen_ok,fa hi,this,ne_eq,not_true_eq_false,if_false,qM];exact hw
 have anv:∀(p:Option Addr),x.cc s.kn=.pointer p->p.isSome=true->Wr s.w p (cellsOf (v.cc s.kn)).length->(∀q ∈ A3 s.kn p,q)->
   K ((({s with w:=aK s.w p (cellsOf (v.cc s.kn))}).kill [v]).put d (.val undef))->
   ∃a w',x.cc s.kn=.pointer (some a)/\(Instr.storeAt t (.pointer (some a)) (v.cc s.kn)).run P s.w=.ok () w'/\iX d s K (s.act.put d undef) w':=by
  intro p hx hp hwr hap hk;obtain ⟨a,rfl⟩:=oP.1 hp;have iQ:∀(vs:List Value)(w:World)(i k:Nat),k≠a.block->(qK w a i vs).heap[k]? =w.heap[k]? :=by
   intro vs
   induction vs with
   |nil=>intro w i k _;rfl
   |cons u r ih=>
    intro w i k hk;rw [qK,ih _ _ _ hk];exact Below.heap_setCell _ _ _ _ (by unfold Addr.add;split<;>exact hk)
  have nr:({s with w:=qK s.w a 0 (cellsOf (v.cc s.kn))}:St).Ok:=by
   refine mR bq λq hq=> ?_
   obtain ⟨i,hi,rfl⟩:=aY.1 hq;refine iQ _ _ _ _ ?_;have:=hap (bt (some a)≠some i) (aY.2 ⟨i,hi,rfl⟩);intro e;exact this (by simp [bt,e])
  obtain ⟨k1,k2,k3,k4,k5⟩:=fo [v] nr;refine ⟨a,_,hx,u9 a _ (gE a _ 0 _ vS λj hj=> ?_),j9 hk bq k1 k2 k4 trivial rfl k3⟩;obtain ⟨a',e,h1,h2⟩:=hwr j hj
  cases e
  simp only [eD];exact ⟨h1,h2⟩
 split at h
 ·rename_i k off;split at h
  ·rename_i kb hkb;split at h
   case isFalse=>cases h
   rename_i dD;obtain ⟨h1,h2⟩:=rP hkb;have hb:=bq.bj k kb h1 h2;have jw:(s.kn.getD k default).idx=kb.idx:=by simp [dY,h1]
   have dq:∀j,j≠kb.idx->(s.w.setRow kb.idx (aW kb.cells off (cellsOf (v.cc s.kn))).toArray).heap[j]? =s.w.heap[j]? :=by intro j hj;simp only [World.setRow,Array.getElem?_modify,if_neg (Ne.symm hj)]
   have nr:({s with w:=s.w.setRow kb.idx (aW kb.cells off (cellsOf (v.cc s.kn))).toArray,kn:=s.kn.modify k λb=>{b with cells:=aW kb.cells off (cellsOf (v.cc s.kn))}}:St).Ok:=by
    have key:∀(i:Nat)(y:KB),(s.kn.modify k λb=>{b with cells:=aW kb.cells off (cellsOf (v.cc s.kn))})[i]? =some y->∃z,s.kn[i]? =some z/\y.idx=z.idx/\y.live=z.live/\y.ty=z.ty/\(i≠k->y=z)/\(i=k->y.cells=aW kb.cells off (cellsOf (v.cc s.kn))):=by
     intro i y hy;simp only [IZ] at hy;split at hy
     ·rename_i e;subst e;rw [h1] at hy;simp at hy;subst hy;exact ⟨kb,h1,rfl,rfl,rfl,λe=>absurd rfl e,λ_=>rfl⟩
     ·rename_i e
      cases hz:s.kn[i]? with
      |none=>simp [hz] at hy
      |some z=>simp [hz] at hy;subst hy;exact ⟨_,rfl,rfl,rfl,rfl,λ_=>rfl,λe'=>absurd e'.symm e⟩
    refine ⟨λi y hy hl=> ?_,λi j x y hx hy l1 l2 e=> ?_,λi u hu=>by simpa using bq.mO i u hu⟩
    ·obtain ⟨z,z1,z2,z3,z4,z5,z6⟩:=key i y hy;by_cases e:i=k
     ·subst e;rw [h1] at z1;cases z1;rw [z6 rfl,z2,z4];exact setRow_heap _ _ _ _ _ _ hb
     ·have:=z5 e;subst this;have gy:y.idx≠kb.idx:=λe'=>e (bq.ne i k y kb z1 h1 hl h2 e')
      show (s.w.setRow _ _).heap[_]? =_;rw [dq _ gy];exact bq.bj i y z1 hl
    ·obtain ⟨z,z1,z2,z3,_⟩:=key i x hx;obtain ⟨z',z1',z2',z3',_⟩:=key j y hy;exact bq.ne i j z z' z1 z1' (by rw [<-z3];exact l1) (by rw [<-z3'];exact l2) (by rw [<-z2,<-z2'];exact e)
   have anw:tA s.kn (s.kn.modify k λb=>{b with cells:=aW kb.cells off (cellsOf (v.cc s.kn))}):=by intro i y hy;refine ⟨if k=i then {y with cells:=aW kb.cells off (cellsOf (v.cc s.kn))} else y,?_,by split<;>rfl,by split<;>rfl⟩;simp only [IZ,hy];split<;>rfl
   obtain ⟨k1,k2,k3,k4,k5⟩:=fo [v] nr;have h:=h _ rfl;refine ⟨⟨kb.idx,off,none⟩,_,by rw [SV.cc,jw],u9 _ _ ?_,j9 h bq k1 k2 (anw.trans k4) trivial rfl k3⟩;rw [run_storeCells_at P kb.idx off kb.ty _ 0 _ _ hb (by simpa using dD) vS];rw [dw _ _ _ dD];simp
  ·obtain ⟨h1,h2⟩:=h;exact anv _ rfl rfl h1 h2.1 (h2.2 _ rfl)
 ·rename_i p;obtain ⟨h1,h2⟩:=h;exact anv p rfl h1.1 h1.2 h2.1 (h2.2 _ rfl)
 ·cases h
end
section
variable {P:Program} {s:St} {o:Oper} {K:St->Prop} {Q:Exit->Act->World->Prop}
def Rd(w:World)(p:Option Addr)(vs:List Value):Prop:=∀i v,vs[i]? =some v->ld w (ae p i)=some v
def One(vs:List Value):Prop:=∀u ∈ vs,u.oneCell'=true
structure ba(bytes size:Nat)(w:World)(sl:Sl)(n:Nat)(news:List Value):Prop where
 fits:sl.n+n<=sl.c->Wr w (ae sl.a (sl.n*size)) news.length
 fP:sl.c<sl.n+n->∃fP:List Value,fP.length=sl.n*size/\Rd w sl.a fP
 room:sl.c<sl.n+n->Builtin.nextslicecap (sl.n+n) sl.c*bytes<=281474976710656/\((sl.n+n:Nat):Int)<=9223372036854775807
 len:news.length=n*size
 one:One news
inductive aX(E size:Nat)(w:World)(sl:Sl)(n:Nat)(news:List Value):Sl->World->Prop
 |fits (h:sl.n+n<=sl.c):aX E size w sl n news ⟨sl.a,sl.n+n,sl.c⟩ (aK w (ae sl.a (sl.n*size)) news)
 |Cp (h:sl.c<sl.n+n) (fP rest:List Value) (cap:Nat) (h1:fP.length=sl.n*size) (h2:Rd w sl.a fP) (h3:sl.n+n<=cap) (h4:(fP++news++rest).length=cap*size):
  aX E size w sl n news ⟨some ⟨w.heap.size,0,none⟩,sl.n+n,cap⟩ (w.drew.alloc (.cells (fP++news++rest).toArray E))
def oW(P:Program)(t:TypeId):Option (TypeId × TypeInfo):=match P.underlying t with|some (.slice e)=>(P.info? e).map λi=>(e,i)|_=>none
def Uw(P:Program)(tx:TypeId):Bool:=match P.underlying tx with|some (.slice _)=>true|_=>false
def grownCap_ge{w:World}{need c:Nat}{e:TypeId}(h:((need:Nat):Int)<=9223372036854775807):need<=grownCap w need c e:=by simp only [grownCap,Question.cut];omega
def br(z:List Value)(n:Nat):List Value:=(List.replicate n z).flatten
def kV(z:List Value)(n:Nat):(br z n).length=n*z.length:=by simp [br]
def yU(z:List Value):∀(n i:Nat),i<n*z.length->(br z n)[i]? =z[i % z.length]?
 |0,i,h=>by omega
 |n+1,i,h=>by
  have e:br z (n+1)=z++br z n:=by simp [br,List.replicate_succ]
  rw [e];rcases jA i z.length with hi|hi
  ·rw [pU hi,Nat.mod_eq_of_lt hi]
  ·rw [MC] at h;rw [sV hi,yU z n _ ab,Nat.mod_eq_sub_mod hi]
def yV(z:Array Value)(m:Nat)(n:Nat)(hm:m=n*z.size):((Array.range m).map λi=>z[i % z.size]!).toList=br z.toList n:=by
 subst hm;apply jB;intro i;rcases jA i (n*z.size) with hi|hi
 ·rw [yU _ _ _ (by simpa using hi)];have hz:0<z.size:=by
   rcases Cq z.size with h|h
   ·rw [h] at hi;omega
   ·exact h
  have iS:i % z.size<z.size:=Nat.mod_lt _ hz;simp [I9 hi,iS]
 ·rw [jX (by simpa using hi),jX (by rw [kV];simpa using hi)]
def nX(z:Array Value)(n:Nat):(Builtin.zeroCells z n).toList=br z.toList n:=yV z (n*z.size) n rfl
def MD{t tx ty e:TypeId}{i:TypeInfo}{z:Value}{k k':IntKind}{x:Int}{a:Option Addr}{l c:Nat}{w:World}(ht:P.underlying t=some (.slice e))(hi:P.info? e=some i)(hz:i.zero=some z)
  (QX:(cellsOf z).length=i.size)(hux:P.underlying tx=some (.int k'))(h0:0<=x)(hx:IntKind.wrap .i64 x=x)(h48:x*i.bytes<=2 ^ 48)(hp:ba i.bytes i.size w ⟨a,l,c⟩ x.toNat (br (cellsOf z) x.toNat)):
  ∃(sl:Sl)(w':World),aX e i.size w ⟨a,l,c⟩ x.toNat (br (cellsOf z) x.toNat) sl w'/\(Builtin.append_ #[t,tx] ty #[.slice a l c,.int k x]).run P w=.ok (sl) w':=by
 obtain ⟨n,hn⟩:∃n,n=x.toNat:=⟨_,rfl⟩;rw [<-hn] at hp ⊢;have hxn:x=(n:Int):=by omega
 have iS:¬((n:Int)<0):=by omega
 have aAH:¬((n:Int)*i.bytes>2 ^ 48):=by rw [<-hxn];omega
 have hz6:z.cells.size=i.size:=by rw [oD,<-QX];simp
 have hnews:∀w:World,(if n*i.size=0 then (pure #[]:Sem (Array Value)) else do pure (Builtin.zeroCells (<-zeroValue e).cells n)).run P w=.ok (br (cellsOf z) n).toArray w:=by
  intro w;split
  ·rename_i h0;have:br (cellsOf z) n=[]:=EZ.1 (by rw [kV,QX];exact h0);rw [this];rfl
  ·simp only [Sem.run_bind,zeroValue,ea,hi,Result.andThen_ok,hz,Sem.run_pure];congr 1;apply Array.ext';rw [nX,qM]
 have hwx:IntKind.wrap .i64 (n:Int)=(n:Int):=by rw [<-hxn];exact hx
 rcases jA c (l+n) with hg|hroom
 ·obtain ⟨fP,h1,h2⟩:=hp.fP hg;obtain ⟨h3,h4⟩:=hp.room hg;dsimp only at h1 h2 h3 h4;refine ⟨_,_,.Cp hg fP (Builtin.zeroCells z.cells (grownCap w (l+n) c e-(l+n))).toList (grownCap w (l+n) c e) h1 h2 (grownCap_ge h4) ?_,?_⟩
  ·have h5:=grownCap_ge (w:=w) (c:=c) (e:=e) h4;have VA:fP.length=l*i.size:=h1;simp only [cS,VA,hp.len,Builtin.zeroCells,Array.length_toList,Array.size_map,Array.size_range,hz6];rw [<-oX,<-oX];congr 1;omega
  ·have Hj:(Builtin.firstCells i.size l (.slice a l c)).run P w.drew=.ok fP.toArray w.drew:=by
    cases a with
    |none=>
     have:fP=[]:=by
      cases fP with
      |nil=>rfl
      |cons v r=>have:=h2 0 v rfl;simp [ld,ae] at this
     subst this;exact run_firstCells_none w.drew i.size l l c
    |some a=>exact run_firstCells_some w.drew i.size l a l c fP h1 (λj u hj=>by have:=h2 j u hj;simpa [ld,ae] using this)
   have hn':¬(l+n<=c):=by omega
   have anx:¬(9223372036854775807<((l:Int)+(n:Int))):=by omega
   have h48b:¬(281474976710656<Builtin.nextslicecap (l+n) c*i.bytes):=by omega
   have h48c:¬(281474976710656<(n:Int)*i.bytes):=by omega
   have hnd:=hnews w.drew;rw [hxn];by_cases QY:n*i.size=0
   ·rw [if_pos QY] at hnd;have he:br (cellsOf z) n=[]:=by have:=congrArg (λr:Result (Array Value)=>match r with| .ok v _=>v|_=> #[.bool true]) hnd;simpa using this.symm
    simp [Builtin.append_,run_underlying ht,run_underlying hux,sizeOf,typeInfo,zeroValue,hi,hz,asInt,asIntOf,hwx,hn',anx,h48b,h48c,Question.forced,QY,iS,Hj,newRow,grownCap,he];congr 2;apply Array.ext';simp
   ·simp [Builtin.append_,run_underlying ht,run_underlying hux,sizeOf,typeInfo,zeroValue,hi,hz,asInt,asIntOf,hwx,hn',anx,h48b,h48c,Question.forced,QY,iS,Hj,newRow,grownCap];congr 2;apply Array.ext';simp [nX,qM]
 ·refine ⟨_,_,.fits hroom,?_⟩;have hw:=hp.fits hroom;have hnd:=hnews w;have h48c:¬(281474976710656<(n:Int)*i.bytes):=by omega
  rw [hxn]
  cases a with
  |none=>
   by_cases QY:n*i.size=0
   ·simp [Builtin.append_,run_underlying ht,run_underlying hux,sizeOf,typeInfo,hi,hroom,asInt,asIntOf,hwx,QY,iS,h48c,ae,aK]
   ·simp [Builtin.append_,run_underlying ht,run_underlying hux,sizeOf,typeInfo,zeroValue,hi,hz,hroom,asInt,asIntOf,hwx,QY,iS,h48c,ae,aK]
  |some a=>
   have g7:=gE (P:=P) (a.add (l*i.size)) (br (cellsOf z) n) 0 w hp.one (λj hj=>by obtain ⟨a',e1,e2⟩:=hw j hj;simp only [ae,pV,Option.some.injEq] at e1;subst e1;simpa using e2);by_cases QY:n*i.size=0
   ·have he:br (cellsOf z) n=[]:=EZ.1 (by rw [kV,QX];exact QY);rw [he] at g7;simp [Builtin.append_,run_underlying ht,run_underlying hux,sizeOf,typeInfo,hi,hroom,asInt,asIntOf,hwx,QY,iS,h48c,ae,aK,he,g7]
   ·have hzc:(Builtin.zeroCells z.cells n).toList=br (cellsOf z) n:=by rw [nX,qM]
    simp [Builtin.append_,run_underlying ht,run_underlying hux,sizeOf,typeInfo,zeroValue,hi,hz,hroom,asInt,asIntOf,hwx,QY,iS,h48c,ae,aK,hzc,g7]
def Rq(P:Program)(t:TypeId):Bool:=match P.underlying t with|some (.int _)=>true|_=>false
def ME{t:TypeId}(h:Rq P t=true):∃k,P.underlying t=some (.int k):=by
 unfold Rq at h;split at h
 ·rename_i k hu;exact ⟨k,hu⟩
 ·cases h
def E1(P:Program)(s:St)(d:Option Tmp)(t tx:TypeId)(sx x:SV)(K:St->Prop):Prop:=
 match oW P t with
 |none=>False
 |some (e,i)=>match i.zero with
  |none=>False
  |some z=>if (cellsOf z).length=i.size then
   match sx.cc s.kn with
   | .slice a n c=>
     let body (m:Nat) (news:List Value):Prop:=ba i.bytes i.size s.w ⟨a,n,c⟩ m news/\
      ∀(sl:Sl)(w':World),aX e i.size s.w ⟨a,n,c⟩ m news sl w'->aS (EU s.kn s.w w') (K ({s with w:=w'}.put d (.val (sl))))
     match x with
     | .sli k m=>match Uw P tx with
       |true=>(match s.known k with
        |some kb=>body m kb.cells
        |none=>False)
       |false=>False
     | .val (.slice b m _)=>match Uw P tx with
       |true=>∃news,Rd s.w b news/\body m news
       |false=>False
     | .val (.string st)=>match isStr P tx with
       |true=>body st.size (byteCells st)
       |false=>False
     | .val (.int _ x)=>match Rq P tx with
       |true=>(0<=x/\IntKind.wrap .i64 x=x/\x*i.bytes<=281474976710656)/\body x.toNat (br (cellsOf z) x.toNat)
       |false=>False
     |_=>False
   |_=>False
   else False
def Rr{t tx ty e:TypeId}{i:TypeInfo}{z:Value}{x:Value}{n:Nat}{news:List Value}{a:Option Addr}{l c:Nat}{w:World}(ht:P.underlying t=some (.slice e))(hi:P.info? e=some i)(hz:i.zero=some z)
  (QX:(cellsOf z).length=i.size)(hs:Src P i.size tx x n news w)(hp:ba i.bytes i.size w ⟨a,l,c⟩ n news):
  ∃(sl:Sl)(w':World),aX e i.size w ⟨a,l,c⟩ n news sl w'/\(Builtin.append_ #[t,tx] ty #[.slice a l c,x]).run P w=.ok (sl) w':=by
 rcases jA c (l+n) with hg|hroom
 ·obtain ⟨fP,h1,h2⟩:=hp.fP hg;obtain ⟨h3,h4⟩:=hp.room hg;dsimp only at h1 h2 h3 h4;refine ⟨_,_,.Cp hg fP (Builtin.zeroCells z.cells (grownCap w (l+n) c e-(l+n))).toList (grownCap w (l+n) c e) h1 h2 (grownCap_ge h4) ?_,?_⟩
  ·have h5:=grownCap_ge (w:=w) (c:=c) (e:=e) h4;have h6:z.cells.size=i.size:=by rw [oD,<-QX];simp
   have VA:fP.length=l*i.size:=h1;simp only [cS,VA,hp.len,Builtin.zeroCells,Array.length_toList,Array.size_map,Array.size_range,h6];rw [<-oX,<-oX];congr 1;omega
  ·have Hj:(Builtin.firstCells i.size l (.slice a l c)).run P w.drew=.ok fP.toArray w.drew:=by
    cases a with
    |none=>
     have:fP=[]:=by
      cases fP with
      |nil=>rfl
      |cons v r=>have:=h2 0 v rfl;simp [ld,ae] at this
     subst this;exact run_firstCells_none w.drew i.size l l c
    |some a=>exact run_firstCells_some w.drew i.size l a l c fP h1 (λj u hj=>by have:=h2 j u hj;simpa [ld,ae] using this)
   rw [run_append_grow_src w t tx ty e i z ht hi hz a l c fP Hj x n news hs hg h4 h3];congr 3;apply Array.ext';simp
 ·refine ⟨_,_,.fits hroom,?_⟩;have hw:=hp.fits hroom
  cases a with
  |none=>
   rcases hs.kind with ⟨e',hk⟩|hk<;>simp [Builtin.append_,run_underlying ht,run_underlying hk,sizeOf,typeInfo,hi,hs.len,hroom,hs.cells,ae,aK]
  |some a=>
   have g7:=gE (P:=P) (a.add (l*i.size)) news 0 w hs.one (λj hj=>by obtain ⟨a',e1,e2⟩:=hw j hj;simp only [ae,pV,Option.some.injEq] at e1;subst e1;simpa using e2);rcases hs.kind with ⟨e',hk⟩|hk<;>simp [Builtin.append_,run_underlying ht,run_underlying hk,sizeOf,typeInfo,hi,hs.len,hroom,hs.cells,ae,aK,g7]
def jY{t e:TypeId}{i:TypeInfo}(h:oW P t=some (e,i)):P.underlying t=some (.slice e)/\P.info? e=some i:=by
 unfold oW at h;split at h
 ·rename_i e' hu
  cases hi:P.info? e' with
  |none=>simp [hi] at h
  |some j=>simp [hi] at h;obtain ⟨rfl,rfl⟩:=h;exact ⟨hu,hi⟩
 ·cases h
def E2{t:TypeId}(h:Uw P t=true):∃e,P.underlying t=some (.slice e):=by
 unfold Uw at h;split at h
 ·rename_i e hu;exact ⟨e,hu⟩
 ·cases h
def HR{d:Option Tmp}{t tx ty:TypeId}{sx x:SV}(bq:s.Ok)(h:E1 P s d t tx sx x K):
  ∃v w',(Builtin.append_ #[t,tx] ty #[sx.cc s.kn,x.cc s.kn]).run P s.w=.ok v w'/\iX d s K (s.act.put d v) w':=by
 unfold E1 at h;split at h
 ·cases h
 rename_i e i he;obtain ⟨ht,hi⟩:=jY he;split at h
 ·cases h
 rename_i z hz;split at h
 case isFalse=>cases h
 rename_i QX;split at h
 ·rename_i a l c hsx;rw [hsx];simp only at h;have main:∀(m:Nat)(news:List Value),Src P i.size tx (x.cc s.kn) m news s.w->ba i.bytes i.size s.w ⟨a,l,c⟩ m news->
    (∀(sl:Sl)(w':World),aX e i.size s.w ⟨a,l,c⟩ m news sl w'->aS (EU s.kn s.w w') (K ({s with w:=w'}.put d (.val (sl)))))->
    ∃v w',(Builtin.append_ #[t,tx] ty #[.slice a l c,x.cc s.kn]).run P s.w=.ok v w'/\iX d s K (s.act.put d v) w':=by
   intro m news hs hp hk;obtain ⟨sl,w',h1,h2⟩:=Rr (ty:=ty) ht hi hz QX hs hp;have h3:=hk sl w' h1;rw [bD] at h3;exact ⟨_,w',h2,j9 h3.2 bq (mR bq h3.1) rfl (tA.refl _) trivial rfl rfl⟩
  split at h
  ·rename_i k m;split at h
   ·rename_i Y5;split at h
    ·rename_i kb hkb;obtain ⟨h1,h2⟩:=rP hkb;have hb:=bq.bj k kb h1 h2;obtain ⟨e',hu⟩:=E2 Y5;refine main m kb.cells ?_ h.1 h.2;have jw:(s.kn.getD k default).idx=kb.idx:=by simp [dY,h1]
     rw [SV.cc,jw];refine Src.ofSlice _ hu _ _ _ _ h.1.len (λj u hj=> ?_) h.1.one;rw [nU,cell_of hb];simpa using hj
    ·cases h
   ·cases h
  ·rename_i b m c';split at h
   ·rename_i Y5;obtain ⟨news,hr,h1,h2⟩:=h;obtain ⟨e',hu⟩:=E2 Y5;refine main m news ?_ h1 h2
    cases b with
    |none=>
     have hn:news=[]:=by
      cases news with
      |nil=>rfl
      |cons v r=>have:=hr 0 v rfl;simp [ld,ae] at this
     subst hn;exact ⟨.inl ⟨e',hu⟩,λ_=>rfl,run_firstCells_none s.w i.size m m c',run_firstCells_none s.w.drew i.size m m c',h1.len,h1.one⟩
    |some b=>exact Src.ofSlice _ hu _ _ _ _ h1.len (λj u hj=>by have:=hr j u hj;simpa [ld,ae] using this) h1.one
   ·cases h
  ·rename_i st;split at h
   ·rename_i Y5;have h1:=h.1.len;rw [byteCells_length] at h1;have hss:i.size=1\/st.size=0:=by
     rcases Cq st.size with h0|h0
     ·exact .inr h0
     ·left;have:st.size*i.size=st.size*1:=by omega
      exact Nat.eq_of_mul_eq_mul_left h0 this
    refine main st.size _ ?_ h.1 h.2;rcases hss with h3|h3
    ·rw [h3];exact Src.ofString s.w (oV Y5) st
    ·refine ⟨.inr (oV Y5),λ_=>rfl,?_,?_,h.1.len,h.1.one⟩<;>
     ·have:byteCells st=[]:=EZ.1 (by rw [byteCells_length,h3]);rw [this];simp only [SV.cc,Builtin.firstCells,h3];simp
   ·cases h
  ·rename_i k x;split at h
   ·rename_i hint;obtain ⟨k',hux⟩:=ME hint;obtain ⟨⟨g1,g2,g3⟩,hp,hk⟩:=h;obtain ⟨sl,w',h1,h2⟩:=MD (ty:=ty) (k:=k) ht hi hz QX hux g1 g2 ab hp;have h3:=hk sl w' h1;rw [bD] at h3;exact ⟨_,w',h2,j9 h3.2 bq (mR bq h3.1) rfl (tA.refl _) trivial rfl rfl⟩
   ·cases h
  ·cases h
 ·cases h
def Ru(P:Program)(s:St)(d:Option Tmp)(t:TypeId)(l c:Value)(K:St->Prop):Prop:=
 match oW P t,l,c with
 |some (e,i),.int _ l,.int _ c=>match i.zero with
  |some z=>if (cellsOf z).length=i.size then (0<=l/\l<=c/\c<=140737488355328/\c*i.bytes<=140737488355328)/\
   ∀w1,w1=s.w.alloc (.cells (br (cellsOf z) c.toNat).toArray e)->K ({s with w:=w1}.put d (.val (.slice (some ⟨s.w.heap.size,0,none⟩) l.toNat c.toNat))) else False
  |none=>False
 |_,_,_=>False
def MG{d:Option Tmp}{t:TypeId}{l c:Value}(bq:s.Ok)(h:Ru P s d t l c K):∃v w',(Instr.makeSlice t l c).run P s.w=.ok v w'/\iX d s K (s.act.put d v) w':=by
 unfold Ru at h;split at h
 ·rename_i e i _ l _ c he;obtain ⟨ht,hi⟩:=jY he;split at h
  ·rename_i z hz;split at h
   case isFalse=>cases h
   rename_i QX;obtain ⟨⟨h0,h1,h2,h3⟩,hk⟩:=h;have hk:=hk _ rfl;have hwl:IntKind.wrap .i64 l=l:=by unfold IntKind.wrap;simp only [IntKind.bits,IntKind.signed];simp only [pW];split<;>simp_all<;>omega
   have hwc:IntKind.wrap .i64 c=c:=by unfold IntKind.wrap;simp only [IntKind.bits,IntKind.signed];simp only [pW];split<;>simp_all<;>omega
   have hz6:z.cells.size=i.size:=by rw [oD,<-QX];simp
   refine ⟨.slice (some ⟨s.w.heap.size,0,none⟩) l.toNat c.toNat,s.w.alloc (.cells (br (cellsOf z) c.toNat).toArray e),?_,?_⟩
   ·have e1:¬(c<0):=by omega
    have e2:¬(l<0):=by omega
    have e3:¬(c<l):=by omega
    have e4:¬(281474976710656<(i.bytes:Int)*c):=by rw [Int.mul_comm];omega
    have e5:¬(140737488355328<c.toNat*i.bytes):=by
     have:((c.toNat*i.bytes:Nat):Int)=c*i.bytes:=by rw [Int.natCast_mul];congr 1;omega
     omega
    have hcells:∀zz:Array Value,(zz=z.cells\/c.toNat*i.size=0)->((Array.range (c.toNat*i.size)).map λj=>zz[j % zz.size]!)=(br (cellsOf z) c.toNat).toArray:=by
     intro zz hh;apply Array.ext';rcases hh with rfl|hh
     ·rw [yV z.cells _ c.toNat (by rw [hz6]),qM]
     ·rw [hh];have:br (cellsOf z) c.toNat=[]:=EZ.1 (by rw [kV,QX];exact hh);simp [this]
    by_cases QY:c.toNat*i.size=0
    ·have:=hcells #[] (.inr QY);simp only [Instr.makeSlice,asInt,asIntOf,Sem.run_bind,Sem.run_pure,aI,ht,Result.andThen_ok,ea,hi,hwl,hwc];simp [e1,e2,e3,e4,askRoom,roomBytes,e5,sizeOf,ea,hi,newRow,km];simp [QY] at this ⊢;rw [this]
    ·have:=hcells z.cells (.inl rfl);simp only [Instr.makeSlice,asInt,asIntOf,Sem.run_bind,Sem.run_pure,aI,ht,Result.andThen_ok,ea,hi,hwl,hwc];simp [e1,e2,e3,e4,askRoom,roomBytes,e5,sizeOf,ea,hi,newRow,km,zeroValue,hz,QY];simp [this]
   ·exact kT (s1:={s with w:=s.w.alloc (.cells (br (cellsOf z) c.toNat).toArray e)}) (v:=.val (.slice (some ⟨s.w.heap.size,0,none⟩) l.toNat c.toNat)) hk bq rfl (tA.refl _) (λk kb h1 h2=>by rw [<-bq.bj k kb h1 h2];exact Below.heap_alloc _ _ _ (bq.lt k kb h1 h2)) bq.ne trivial rfl rfl
  ·cases h
 ·cases h
def Rw(P:Program)(s:St)(d:Option Tmp)(ats:List TypeId)(x y:Value)(K:St->Prop):Prop:=
 match ats,x,y with
 |t::_,.slice a n _,.slice b m _=>match oW P t with
  |some (_,i)=>∃vs:List Value,(vs.length=min m n*i.size/\Rd s.w b vs/\One vs/\Wr s.w a vs.length)/\
   aS (A3 s.kn a) (∀w1,w1=aK s.w a vs->K ({s with w:=w1}.put d (.val (.int .i64 ((min m n:Nat):Int)))))
  |none=>False
 |_,_,_=>False
def E3{a:Addr}{vs:List Value}{w:World}(h1:One vs)(hw:Wr w (some a) vs.length):(storeCells a vs).run P w=.ok () (aK w (some a) vs):=
 gE (P:=P) a vs 0 w h1 λj hj=>by
  obtain ⟨a',e1,e2⟩:=hw j hj
  cases e1;simpa using e2
def Cr{a:Option Addr}{vs:List Value}{w:World}{kn:List KB}(h:∀p ∈ A3 kn a,p):∀p ∈ EU kn w (aK w a vs),p:=by
 intro p hp;obtain ⟨i,hi,rfl⟩:=aY.1 hp;have:=h (bt a≠some i) (aY.2 ⟨i,hi,rfl⟩)
 cases a with
 |none=>rfl
 |some a=>
  have gy:a.block≠i:=λe=>this (by simp [bt,e])
  have key:∀(vs:List Value)(j:Nat)(w:World),(qK w a j vs).heap[i]? =w.heap[i]? :=by
   intro vs
   induction vs with
   |nil=>intro j w;rfl
   |cons v r ih=>
    intro j w;show (qK _ a (j+1) r).heap[i]? =_;rw [ih];have hb:(a.add j).block=a.block:=by unfold Addr.add;split<;>rfl
    simp only [World.setCell,Array.getElem?_modify,hb,if_neg gy]
  exact key vs 0 w
def MH{d:Option Tmp}{ats:Array TypeId}{ty:TypeId}{x y:Value}(bq:s.Ok)(h:Rw P s d ats.toList x y K):∃v w',(Builtin.copy_ ats ty #[x,y]).run P s.w=.ok v w'/\iX d s K (s.act.put d v) w':=by
 unfold Rw at h;split at h
 ·rename_i t r a n c b m c' HK;have ha:ats[0]? =some t:=by rw [<-Array.getElem?_toList,HK];rfl
  split at h
  ·rename_i e i he;obtain ⟨ht,hi⟩:=jY he;obtain ⟨vs,⟨h1,h2,h3,h4⟩,h5⟩:=h;rw [bD] at h5;have hk:=h5.2 _ rfl;have hload:(Builtin.firstCells i.size (min m n) (.slice b m c')).run P s.w=.ok vs.toArray s.w:=by
    cases b with
    |none=>
     have:vs=[]:=by
      cases vs with
      |nil=>rfl
      |cons v r=>have:=h2 0 v rfl;simp [ld,ae] at this
     subst this;exact run_firstCells_none s.w i.size _ m c'
    |some b=>exact run_firstCells_some s.w i.size (min m n) b m c' vs h1 (λj u hj=>by have:=h2 j u hj;simpa [ld,ae] using this)
   refine ⟨.int .i64 ((min m n:Nat):Int),aK s.w a vs,?_,?_⟩
   ·cases a with
    |none=>
     have:vs=[]:=by
      cases vs with
      |nil=>rfl
      |cons v r=>obtain ⟨a',e1,_⟩:=h4 0 cj;cases e1
     subst this;simp [Builtin.copy_,ha,run_underlying ht,Builtin.lenOf,sizeOf,ea,hi,hload,goInt,aK]
    |some a=>
     have g7:=E3 (P:=P) h3 h4;simp [Builtin.copy_,ha,run_underlying ht,Builtin.lenOf,sizeOf,ea,hi,hload,goInt,g7]
   ·exact j9 (v:=.val (.int .i64 ((min m n:Nat):Int))) hk bq (mR bq (Cr h5.1)) rfl (tA.refl _) trivial rfl rfl
  ·cases h
 ·cases h
def KA(P:Program)(s:St)(d:Option Tmp)(ats:List TypeId)(x:Value)(K:St->Prop):Prop:=
 match ats,x with
 |t::_,.slice a n _=>match oW P t with
  |some (_,i)=>match i.zero with
   |some z=>aS ((cellsOf z).flatMap kU) (Wr s.w a (n*(cellsOf z).length)/\aS (A3 s.kn a) (∀w1,w1=aK s.w a (br (cellsOf z) n)->K ({s with w:=w1}.put d (.val (.tuple #[])))))
   |none=>False
  |none=>False
 |_,_=>False
def KC{d:Option Tmp}{ats:Array TypeId}{ty:TypeId}{x:Value}(bq:s.Ok)(h:KA P s d ats.toList x K):∃v w',(Builtin.clear_ ats ty #[x]).run P s.w=.ok v w'/\iX d s K (s.act.put d v) w':=by
 unfold KA at h;split at h
 ·rename_i t r a n c HK;have ha:ats[0]? =some t:=by rw [<-Array.getElem?_toList,HK];rfl
  split at h
  ·rename_i e i he;obtain ⟨ht,hi⟩:=jY he;split at h
   ·rename_i z hz;rw [bD] at h;obtain ⟨h1,h4,h5⟩:=h;have h1:=Uv h1;rw [bD] at h5;have hk:=h5.2 _ rfl;have vS:One (br (cellsOf z) n):=by intro u hu;obtain ⟨l,hl,hul⟩:=List.mem_flatten.1 hu;rw [(aan.1 hl).2] at hul;exact h1 u hul
    refine ⟨.tuple #[],aK s.w a (br (cellsOf z) n),?_,?_⟩
    ·cases a with
     |none=>simp [Builtin.clear_,ha,run_underlying ht,aK]
     |some a=>
      have g7:=E3 (P:=P) (w:=s.w) (a:=a) vS (by rw [kV];exact h4)
      cases n with
      |zero=>simp [Builtin.clear_,ha,run_underlying ht,aK,br,qK]
      |succ n=>
       have hzc:(Builtin.zeroCells z.cells (n+1)).toList=br (cellsOf z) (n+1):=by rw [nX,qM]
       simp [Builtin.clear_,ha,run_underlying ht,zeroValue,ea,hi,hz,hzc,g7]
    ·exact j9 (v:=.val (.tuple #[])) hk bq (mR bq (Cr h5.1)) rfl (tA.refl _) trivial rfl rfl
   ·cases h
  ·cases h
 ·cases h
end
end Go.Vc
