import Derived.Test.YtjcnjlaelhdjeaaGreatDoorA
import Derived.WalkKit
import Derived.Laws.BytesArg
import Derived.Great.BuildSlice
import Derived.Deep.AppendSrc
import Derived.Deep.LoopGhost
import Derived.RangeFuncNested
import Derived.RangeFuncLeaves
import Derived.OrdersIn
set_option linter.all false
namespace Go.Vc
open Go Go.RowKit
set_option maxRecDepth 100000
set_option maxHeartbeats 8000000
inductive S where
 |bool|int (k:IntKind)|str|ptr|slice|map|raw
inductive T1 where
 |sc (s:S)|agg (l:List S)
inductive T2 where
 |one (t:T1)|tup (l:List T1)
structure Sl where
 a:Option Addr
 n:Nat
 c:Nat
instance:Coe Int Value:=⟨λn=> .int .i64 n⟩
instance:Coe Sl Value:=⟨λs=> .slice s.a s.n s.c⟩
instance:Coe World Nat:=⟨λw=>w.heap.size⟩
abbrev Kp(i:Nat)(a b:World):Prop:=b.heap[i]? =a.heap[i]?
abbrev aP(l:List Value):Prop:=l=l
instance:Coe Bool Value:=⟨.bool⟩
instance:Coe (Option Addr) Value:=⟨.pointer⟩
instance:Coe Value Ending:=⟨.returned⟩
inductive WQ|a|b
inductive TQ|a
abbrev pH:TQ:=.a
instance:Coe TQ Value:=⟨λ_=> .tuple #[]⟩
abbrev LV:=List Value
instance:Coe World (Option Addr):=⟨λw=>some ⟨w.heap.size,0,none⟩⟩
instance:Coe Nat (Option Addr):=⟨λw=>some ⟨w,0,none⟩⟩
inductive WQ8|a
abbrev tO:WQ8:=.a
instance:CoeFun WQ8 (λ_=>Int->Int):=⟨λ_=>IntKind.wrap .u8⟩
inductive ap9|a
abbrev qB:ap9:=.a
instance:CoeFun ap9 (λ_=>Int->Int):=⟨λ_=>IntKind.wrap .u16⟩
inductive aqa|a
instance:CoeFun aqa (λ_=>Int->Int):=⟨λ_=>IntKind.wrap .u32⟩
inductive aqb|a
abbrev fJ:aqb:=.a
instance:CoeFun aqb (λ_=>Int->Int):=⟨λ_=>IntKind.wrap .u64⟩
abbrev aC:WQ:=.a
abbrev ai:WQ:=.b
instance:CoeFun WQ (λ_=>Int->Int):=⟨λ_=>IntKind.wrap .i64⟩
instance:Coe WQ Value:=⟨λ_=> .int .i64 0⟩
abbrev pno:Value:=.pointer none
abbrev aB(b:Nat):Option Addr:=some ⟨b,0,none⟩
abbrev jS(b o:Nat):Option Addr:=some ⟨b,o,none⟩
class Qdq (b v:Bool) (p:outParam Prop):Prop where
 f:b=v->p
instance {p:Prop} [Decidable p]:Qdq (decide p) true p:=⟨of_decide_eq_true⟩
instance {p:Prop} [Decidable p]:Qdq (decide p) false (¬p):=⟨of_decide_eq_false⟩
instance {a b:Int}:Qdq (a !=b) true (a≠b):=⟨λh=>by simpa using h⟩
instance {a b:Int}:Qdq (a !=b) false (a=b):=⟨λh=>by simpa using h⟩
instance {a b:Int}:Qdq (a==b) true (a=b):=⟨λh=>by simpa using h⟩
instance {a b:Int}:Qdq (a==b) false (a≠b):=⟨λh=>by simpa using h⟩
def fC{b v:Bool}{p:Prop} [q:Qdq b v p] (h:b=v):p:=q.f h
def oa(w:World):w.drew.heap.size=w.heap.size:=rfl
def lT{p:Prop} [Decidable p] (h:decide p=true):p:=of_decide_eq_true h
def l6{p:Prop} [Decidable p] (h:decide p=false):¬p:=of_decide_eq_false h
def Fc{v w:World}{g:Nat}{c:Array Value}(e:v=w.setRow g c):v.heap.size=w.heap.size:=by rw [e];simp
def fE{v w:World}{o:Obj}(e:v=w.alloc o):v.heap.size=w.heap.size+1:=by rw [e];simp
def xh{v w u:World}{o:Obj}{g:Nat}{c:Array Value}(e:v=w.alloc o)(f:u=v.setRow g c):u.heap.size=w.heap.size+1:=by rw [f,e];simp
@[reducible] def S.Ty:S->Type
 | .bool=>Bool| .int _=>Int| .str=>ByteArray| .ptr=>Option Addr| .slice=>Sl| .map=>Option Nat| .raw=>Value
def S.mk:(s:S)->s.Ty->Value
 | .bool,b=> .bool b| .int k,n=> .int k n| .str,s=> .string s| .ptr,p=> .pointer p| .slice,s=> .slice s.a s.n s.c
 | .map,r=> .map r| .raw,v=>v
def S.get:(s:S)->Value->Option s.Ty
 | .bool,.bool b=>some b
 | .int .i64,.int .i64 n=>some n| .int .i32,.int .i32 n=>some n| .int .i16,.int .i16 n=>some n| .int .i8,.int .i8 n=>some n
 | .int .u64,.int .u64 n=>some n| .int .u32,.int .u32 n=>some n| .int .u16,.int .u16 n=>some n| .int .u8,.int .u8 n=>some n
 | .str,.string s=>some s| .ptr,.pointer p=>some p| .slice,.slice a n c=>some ⟨a,n,c⟩| .map,.map r=>some r
 | .raw,v=>some v
 |_,_=>none
def S.alH{s:S}{v:Value}{x:s.Ty}(h:s.get v=some x):v=s.mk x:=by unfold S.get at h;split at h<;>(try cases h)<;>rfl
def S.ex(s:S)(F:Value->Prop):Prop:=∃x:s.Ty,F (s.mk x)
def S.all(s:S)(F:Value->Prop):Prop:=∀x:s.Ty,F (s.mk x)
def exL:List S->(List Value->Prop)->Prop
 | [],F=>F []
 |s::r,F=>s.ex λv=>exL r λvs=>F (v::vs)
def kF:List S->(List Value->Prop)->Prop
 | [],F=>F []
 |s::r,F=>s.all λv=>kF r λvs=>F (v::vs)
def T1.ex:T1->(Value->Prop)->Prop
 | .sc s,F=>s.ex F
 | .agg l,F=>exL l λvs=>F (.agg vs.toArray)
def ex1:List T1->(List Value->Prop)->Prop
 | [],F=>F []
 |t::r,F=>t.ex λv=>ex1 r λvs=>F (v::vs)
def T2.ex:T2->(Value->Prop)->Prop
 | .one t,F=>t.ex F
 | .tup l,F=>ex1 l λvs=>F (.tuple vs.toArray)
def S.kP{s:S}{F:Value->Prop}(h:s.ex F):∃v,F v:=⟨_,h.choose_spec⟩
def La:∀{l:List S} {F:List Value->Prop},exL l F->∃vs,F vs
 | [],_,h=>⟨[],h⟩
 |_::_,_,⟨_,h⟩=>let ⟨vs,h'⟩:=La h;⟨_,h'⟩
def T1.kP{t:T1}{F:Value->Prop}(h:t.ex F):∃v,F v:=by
 cases t with
 |sc s=>exact S.kP h
 |agg l=>exact let ⟨_,h'⟩:=La h;⟨_,h'⟩
def WE:∀{l:List T1} {F:List Value->Prop},ex1 l F->∃vs,F vs
 | [],_,h=>⟨[],h⟩
 |_::_,_,h=>let ⟨_,h1⟩:=T1.kP h;let ⟨_,h2⟩:=WE h1;⟨_,h2⟩
def T2.kP{t:T2}{F:Value->Prop}(h:t.ex F):∃v,F v:=by
 cases t with
 |one t=>exact T1.kP h
 |tup l=>exact let ⟨_,h'⟩:=WE h;⟨_,h'⟩
def aqd(P:Program)(t:TypeId):S:=
 match P.underlying t with
 |some .bool=> .bool|some (.int k)=> .int k|some .string=> .str|some (.pointer _)=> .ptr
 |some (.slice _)=> .slice|some (.map _ _)=> .map|_=> .raw
def flat(P:Program):Nat->TypeId->List S
 |0,_=> []
 |d+1,t=>match P.underlying t with
  |some (.struct fs)=>fs.toList.flatMap λf=>flat P d f.type
  |some (.array n e)=>(List.replicate n (flat P d e)).flatten
  |_=> [aqd P t]
def Bn(P:Program)(t:TypeId):Bool:=
 match P.underlying t with
 |some (.struct _)|some (.array _ _)=>true
 |_=>false
def rP(P:Program)(t:TypeId):T1:=if Bn P t then .agg (flat P 20 t) else .sc (aqd P t)
def fK(P:Program)(t:TypeId):Nat:=((P.info? t).map (·.size)).getD 0
@[reducible] def FnL:List S->Type->Type
 | [],β=>β
 |s::r,β=>s.Ty->FnL r β
def jj:(l:List S)->FnL l (World->Prop)->List Value->World->Prop
 | [],f,[],w=>f w
 |s::r,f,v::vs,w=>match s.get v with|some x=>jj r (f x) vs w|none=>False
 |_,_,_,_=>False
def Br(b:Bool)(A B:Prop):Prop:=match b with|true=>A|false=>B
def Br.mk{b:Bool}{A B:Prop}(h1:b=true->A)(h2:b=false->B):Br b A B:=by
 cases b
 ·exact h2 rfl
 ·exact h1 rfl
def Br.tt{b:Bool}{A B:Prop}(h:Br b A B)(hb:b=true):A:=by subst hb;exact h
def Br.ff{b:Bool}{A B:Prop}(h:Br b A B)(hb:b=false):B:=by subst hb;exact h
def aN(l:List Prop)(K:Prop):Prop:=l.foldr And K
def bT{l:List Prop}{K:Prop}:aN l K ↔(∀p ∈ l,p)/\K:=by
 induction l with
 |nil=>simp [aN]
 |cons a l ih=>
  simp only [aN,List.foldr_cons] at ih ⊢;rw [ih,<-and_assoc];exact and_congr_left λ_=>⟨λh q hq=>by cases hq with|head=>exact h.1|tail _ hm=>exact h.2 q hm,λh=>⟨h a (.head _),λq hq=>h q (.tail _ hq)⟩⟩
def eI:Option Addr->List Prop
 |some _=> []
 |none=> [False]
def nzC(y:Int):List Prop:=if y=0 then [False] else []
def gJ(a:Option Addr)(i:Int)(n:Nat):Prop:=a.isSome=true/\0<=i/\i<(n:Int)
def ngC(y:Int):List Prop:=if y<0 then [False] else []
def alI:(∀q ∈ [False],q) ↔ False:=⟨λh=>h _ (.head _),False.elim⟩
def rR{p:Option Addr}:(∀q ∈ eI p,q) ↔ p.isSome=true:=by
 cases p with
 |none=>exact alI.trans bo
 |some a=>simp [eI]
def EI{y:Int}:(∀q ∈ nzC y,q) ↔ y≠0:=by
 unfold nzC;split
 ·rename_i h;exact alI.trans (by simp [h])
 ·rename_i h;simp [h]
def EJ{y:Int}:(∀q ∈ ngC y,q) ↔ 0<=y:=by
 unfold ngC;split
 ·rename_i h;exact alI.trans smo
 ·rename_i h;simp;omega
@[simp] def uw{K:Prop}:aN [] K ↔ K:=by simp [aN]
@[simp] def cJ{p:Option Addr}{K:Prop}:aN (eI p) K ↔ p.isSome=true/\K:=by rw [bT,rR]
@[simp] def aho{y:Int}{K:Prop}:aN (ngC y) K ↔ 0<=y/\K:=by rw [bT,EJ]
def ab(p:Option Addr)(n:Nat):Option Addr:=p.map (·.add n)
def ld(w:World)(p:Option Addr):Option Value:=p.bind w.cell?
inductive SV where
 |val (v:Value)
 |loc (k off:Nat)
 |sli (k n:Nat)
structure KB where
 idx:Nat
 cells:List Value
 ty:TypeId
 live:Bool
instance:Inhabited KB:=⟨⟨0,[],0,false⟩⟩
def SV.j2(n:Nat):SV->Prop
 | .val _=>True
 | .loc k _| .sli k _=>k<n
structure St where
 sl:List SV
 w:World
 kn:List KB
 df:List Nat:=[]
def SV.bP(kn:List KB):SV->Value
 | .val v=>v
 | .loc k off=> .pointer (some ⟨(kn.getD k default).idx,off,none⟩)
 | .sli k n=> .slice (some ⟨(kn.getD k default).idx,0,none⟩) n n
def marks(l:List Nat):List Deferred:=l.map λD=>{target:=.collected D,args:= #[]}
def St.act(s:St):Act:={tmps:=(s.sl.map (SV.bP s.kn)).toArray,defers:=marks s.df}
def St.sv(s:St):Operand->SV
 | .tmp t=>s.sl.getD t (.val undef)
 | .const v=> .val v
 | .global g=> .val (.pointer (some ⟨g,0,none⟩))
 | .func f=> .val (.func (.func f) #[] #[])
def St.ev(s:St)(x:Operand):Value:=(s.sv x).bP s.kn
def St.put(s:St)(d:Option Tmp)(v:SV):St:=
 match d with
 |some d=>{s with sl:=s.sl.set d v}
 |none=>s
def St.ux(s:St)(x:Operand):s.act.eval x=s.ev x:=by
 cases x with
 |tmp t=>
  simp only [Act.eval,St.act,St.ev,St.sv,Array.getD_eq_getD_getElem?,List.getElem?_toArray,aZ,dn]
  cases s.sl[t]? <;>rfl
 |_=>rfl
def St.ahq(s:St)(d:Option Tmp)(v:SV):(s.put d v).act=s.act.put d (v.bP s.kn):=by
 cases d with
 |none=>rfl
 |some d=>simp [St.put,St.act,Act.put,pW]
def St.eval_eq(s:St):s.act.eval=s.ev:=funext s.ux
structure St.Ok(s:St):Prop where
 aX:∀(k:Nat)(kb:KB),s.kn[k]? =some kb->kb.live=true->s.w.heap[kb.idx]? =some (.cells kb.cells.toArray kb.ty (0,0))
 ne:∀(i j:Nat)(x y:KB),s.kn[i]? =some x->s.kn[j]? =some y->x.live=true->y.live=true->x.idx=y.idx->i=j
 l8:∀(i:Nat)(v:SV),s.sl[i]? =some v->v.j2 s.kn.length
def St.Ok.lt{s:St}(h:s.Ok)(k:Nat)(kb:KB)(hk:s.kn[k]? =some kb)(hl:kb.live=true):kb.idx<s.w.heap.size:=
 (oV.1 (h.aX k kb hk hl)).1
def St.Ok.sv{s:St}(h:s.Ok)(x:Operand):(s.sv x).j2 s.kn.length:=by
 cases x with
 |tmp t=>
  simp only [St.sv,dn]
  cases hv:s.sl[t]? with
  |none=>trivial
  |some v=>exact h.l8 t v hv
 |_=>trivial
def rT(kn kn':List KB):Prop:=∀(k:Nat)(kb:KB),kn[k]? =some kb->∃kb',kn'[k]? =some kb'/\kb'.idx=kb.idx/\kb'.ty=kb.ty
def rT.refl(kn:List KB):rT kn kn:=λ_ kb h=>⟨kb,h,rfl,rfl⟩
def rT.trans{a b c:List KB}(h:rT a b)(h':rT b c):rT a c:=λk kb hk=>by
 obtain ⟨kb',h1,h2,V3⟩:=h k kb hk
 obtain ⟨kb'',h3,h4,h4'⟩:=h' k kb' h1
 exact ⟨kb'',h3,h4.trans h2,h4'.trans V3⟩
def rT.length{a b:List KB}(h:rT a b):a.length<=b.length:=by
 rcases iW b.length a.length with fD|OK
 ·obtain ⟨kb',h1,_⟩:=h b.length a[b.length] (cO fD);simp at h1
 ·exact OK
def rT.bP{kn kn':List KB}(h:rT kn kn'){v:SV}(hv:v.j2 kn.length):v.bP kn'=v.bP kn:=by
 cases v with
 |val v=>rfl
 |loc k off=>
  obtain ⟨kb',h1,h2,_⟩:=h k kn[k] (cO hv);simp [SV.bP,dn,h1,h2,cO (show k<kn.length from hv)]
 |sli k n=>
  obtain ⟨kb',h1,h2,_⟩:=h k kn[k] (cO hv);simp [SV.bP,dn,h1,h2,cO (show k<kn.length from hv)]
def SV.j2.mono{n m:Nat}{v:SV}(h:v.j2 n)(hm:n<=m):v.j2 m:=by
 cases v
 ·trivial
 ·exact gA h hm
 ·exact gA h hm
structure Fr(W:List Nat)(s s':St):Prop where
 len:s'.sl.length=s.sl.length
 slot:∀i,i ∉ W->(s'.sl.getD i (.val undef)).bP s'.kn=(s.sl.getD i (.val undef)).bP s.kn
 kn:rT s.kn s'.kn
 df:s.df.length<=s'.df.length/\(s'.df.length=s.df.length->s'.df=s.df)
def Fr.refl(W:List Nat)(s:St):Fr W s s:=⟨rfl,λ_ _=>rfl,rT.refl _,ak _,λ_=>rfl⟩
def Fr.trans{W:List Nat}{a b c:St}(h:Fr W a b)(h':Fr W b c):Fr W a c:=
 ⟨h'.len.trans h.len,λi hi=>(h'.slot i hi).trans (h.slot i hi),h.kn.trans h'.kn,c8 h.df.1 h'.df.1,λe=>by have h1:=h.df.1;have h2:=h'.df.1;have h3:=h.df.2 aa;have h4:=h'.df.2 aa;exact h4.trans h3⟩
def Fr.mono{W W':List Nat}{a b:St}(h:Fr W a b)(hs:∀i ∈ W,i ∈ W'):Fr W' a b:=
 ⟨h.len,λi hi=>h.slot i (λh'=>hi (hs i h')),h.kn,h.df⟩
def tP(k:IntKind)(x y:Int):Int:=k.wrap ((BitVec.ofInt k.bits x &&& BitVec.ofInt k.bits y).toNat:Nat)
def TE(k:IntKind)(x y:Int):Int:=k.wrap ((BitVec.ofInt k.bits x|||BitVec.ofInt k.bits y).toNat:Nat)
def lF(k:IntKind)(x y:Int):Int:=k.wrap ((BitVec.ofInt k.bits x ^^^ BitVec.ofInt k.bits y).toNat:Nat)
def mI(k:IntKind)(x y:Int):Int:=k.wrap ((BitVec.ofInt k.bits x &&& ~~~ BitVec.ofInt k.bits y).toNat:Nat)
def ej(x y:ByteArray):Bool:=x.toList==y.toList
def strLt(x y:ByteArray):Bool:=Op.bytesLess x.toList y.toList
def alJ(op:BinOp)(k:IntKind)(x y:Int):Option (List Prop × Value):=
 match op with
 | .add=>some ([],.int k (k.wrap (x+y)))
 | .sub=>some ([],.int k (k.wrap (x-y)))
 | .mul=>some ([],.int k (k.wrap (x*y)))
 | .quo=>some (nzC y,.int k (k.wrap (x.tdiv y)))
 | .rem=>some (nzC y,.int k (x.tmod y))
 | .and=>some ([],.int k (tP k x y))
 | .or=>some ([],.int k (TE k x y))
 | .xor=>some ([],.int k (lF k x y))
 | .andNot=>some ([],.int k (mI k x y))
 | .eql=>some ([],.bool (x==y))
 | .neq=>some ([],.bool (x !=y))
 | .lss=>some ([],.bool (decide (x<y)))
 | .leq=>some ([],.bool (decide (x<=y)))
 | .gtr=>some ([],.bool (decide (x>y)))
 | .geq=>some ([],.bool (decide (x>=y)))
 |_=>none
def alK(op:BinOp)(x y:ByteArray):Option (List Prop × Value):=
 match op with
 | .add=>some ([((x.size+y.size:Nat):Int)<=IntKind.i64.max],.string (x++y))
 | .eql=>some ([],.bool (ej x y))
 | .neq=>some ([],.bool (!ej x y))
 | .lss=>some ([],.bool (strLt x y))
 | .leq=>some ([],.bool (strLt x y||ej x y))
 | .gtr=>some ([],.bool (!(strLt x y||ej x y)))
 | .geq=>some ([],.bool (!strLt x y))
 |_=>none
def alL(op:BinOp)(x y:Bool):Option (List Prop × Value):=
 match op with
 | .eql=>some ([],.bool (x==y))
 | .neq=>some ([],.bool (!(x==y)))
 |_=>none
def aci(op:BinOp)(k:IntKind)(x y:Int):Option (List Prop × Value):=
 match op with
 | .shl=>some (ngC y,.int k (k.wrap (x*2 ^(min y.toNat k.bits))))
 | .shr=>some (ngC y,.int k (x.fdiv (2 ^(min y.toNat k.bits))))
 |_=>none
def aqe:BinOp->Bool| .shl| .shr=>true|_=>false
def Lb(P:Program)(t:TypeId):Bool:=match P.underlying t with|some .bool=>true|_=>false
def ahr:Value->Bool| .nilFunc=>true|_=>false
def Yi(tb:Bool)(op:BinOp)(x y:Value):Option (List Prop × Value):=
 match ahr y with
 |true=>none
 |false=>match aqe op with
 |true=>match x,y with
  | .int k a,.int _ b=>aci op k a b
  |_,_=>none
 |false=>match x,y with
  | .int k a,.int k' b=>if k=k' then alJ op k a b else none
  | .string a,.string b=>alK op a b
  | .bool a,.bool b=>match tb with|true=>alL op a b|false=>none
  |_,_=>none
def EK(P:Program)(t:TypeId)(f:Nat):Option Field:=
 match P.underlying t with
 |some (.struct fs)=>fs[f]?
 |_=>none
def aE(a:Option Addr)(l m size:Nat):Option Addr:=if m=l then a else a.map (·.add (l*size))
def isStr(P:Program)(t:TypeId):Bool:=match P.underlying t with|some .string=>true|_=>false
def iJ(P:Program)(t:TypeId):Option Nat:=(P.info? t).map (·.size)
def oN(P:Program)(t:TypeId):Option (TypeId × Nat):=match P.underlying t with|some (.slice e)=>(iJ P e).map λn=>(e,n)|_=>none
def pX(P:Program)(t:TypeId):Option (Nat × TypeId):=match P.underlying t with|some (.array n e)=>some (n,e)|_=>none
def Fe(lo hi mx:Option Int)(len cap:Nat):List Prop × Nat × Nat × Nat:=
 match mx with
 |some m=>match hi,lo with
  |some h,some l=>([0<=m,m<=(cap:Int),0<=h,h<=m,0<=l,l<=h],l.toNat,h.toNat,m.toNat)
  |some h,none=>([0<=m,m<=(cap:Int),0<=h,h<=m],0,h.toNat,m.toNat)
  |none,_=>([False],0,0,0)
 |none=>match hi,lo with
  |some h,some l=>([0<=h,h<=(cap:Int),0<=l,l<=h],l.toNat,h.toNat,cap)
  |some h,none=>([0<=h,h<=(cap:Int)],0,h.toNat,cap)
  |none,some l=>([0<=l,l<=(len:Int)],l.toNat,len,cap)
  |none,none=>([],0,len,cap)
def uy:Option Value->Option (Option Int)
 |none=>some none
 |some (.int _ i)=>some (some i)
 |_=>none
def TW(P:Program)(t:TypeId)(x:Value)(lo hi mx:Option Value):Option (List Prop × Value):=
 match uy lo,uy hi,uy mx with
 |some lo,some hi,some mx=>
  match x with
  | .slice a n c=>match oN P t with
    |some (_,z)=>match Fe lo hi mx n c with
     |(cs,l,h,m)=>some (cs,.slice (aE a l m z) (h-l) (m-l))
    |none=>none
  | .string s=>match isStr P t,mx with
    |true,none=>match Fe lo hi none s.size s.size with
     |(cs,l,h,_)=>some (cs,.string (s.extract l h))
    |_,_=>none
  | .pointer p=>match pX P t with
    |some (n,e)=>match iJ P e with
     |some z=>match Fe lo hi mx n n with
      |(cs,l,h,m)=>some (eI p++cs,.slice (aE p l m z) (h-l) (m-l))
     |none=>none
    |none=>none
  |_=>none
 |_,_,_=>none
def acj:SV->Nat->Option (List Prop × SV)
 | .loc k off,n=>some ([],.loc k (off+n))
 | .val (.pointer p),n=>some (eI p,.val (.pointer (ab p n)))
 |_,_=>none
def alM(x y:Value):Option Value:=match x,y with| .int k a,.int _ b=>some (.int k (if b<a then b else a))|_,_=>none
def alN(x y:Value):Option Value:=match x,y with| .int k a,.int _ b=>some (.int k (if b>a then b else a))|_,_=>none
def Jv(f:Value->Value->Option Value):List Value->Value->Option Value
 | [],x=>some x
 |y::r,x=>match f x y with|some z=>Jv f r z|none=>none
def uz(P:Program)(b:Builtin)(ats:Array TypeId)(args:List Value):Option Value:=
 match b,args with
 | .len,[.slice _ n _]=>match ats[0]?.bind (oN P) with|some _=>some (.int .i64 n)|none=>none
 | .len,[.string s]=>match ats[0]?.map (isStr P) with|some true=>some (.int .i64 s.size)|_=>none
 | .cap,[.slice _ _ c]=>match ats[0]?.bind (oN P) with|some _=>some (.int .i64 c)|none=>none
 | .len,[.agg _]=>match ats[0]?.bind (pX P) with|some (n,_)=>some (.int .i64 n)|none=>none
 | .min,x::r=>Jv alM r x
 | .max,x::r=>Jv alN r x
 |_,_=>none
def Jw(P:Program)(t:TypeId)(cs:Array Value)(off:Nat):Option Value:=
 match P.underlying t with
 |none=>none
 |some _=>if Bn P t then some (.agg ((cs.toList.drop off).take (fK P t)).toArray) else cs[off]?
def Yj(P:Program)(g:TypeId->Value->Value->Option Bool)(xs ys:Array Value):List Field->Option Bool
 | []=>some true
 | [f]=>if f.name= "_" then none else match Jw P f.type xs f.offset,Jw P f.type ys f.offset with
   |some a,some b=>g f.type a b
   |_,_=>none
 |f::h::r=>if f.name= "_" then none else match Jw P f.type xs f.offset,Jw P f.type ys f.offset with
  |some a,some b=>match g f.type a b,Yj P g xs ys (h::r) with
   |some p,some q=>some (p && q)
   |_,_=>none
  |_,_=>none
def eqV(P:Program):Nat->TypeId->Value->Value->Option Bool
 |0,_,_,_=>none
 |d+1,t,x,y=>match P.underlying t,x,y with
  |some (.int _),.int k a,.int k' b=>if k=k' then some (a==b) else none
  |some .bool,.bool a,.bool b=>some (a==b)
  |some .string,.string a,.string b=>some (ej a b)
  |some (.struct fs),.agg xs,.agg ys=>if P.stoodInHeld t then none else Yj P (eqV P d) xs ys fs.toList
  |_,_,_=>none
def alO:Value->Bool
 | .nilFunc=>true
 |_=>false
def fnC:Value->List Prop
 | .nilFunc| .func .. => []
 |_=> [False]
def aqf(a b:Option Addr):List Prop:=match b with|none=> []|some _=> [a=none]
def aqg(a b:Option Addr):Bool:=match b with|none=>a.isNone|some _=>false
def alP(P:Program)(t:TypeId)(x y:Value):Option (List Prop × Bool):=
 match y with
 | .slice none _ _=>match x,P.underlying t with
   | .slice a _ _,some (.slice _)=>some ([],a.isNone)
   |_,_=>none
 | .pointer b=>match x,P.underlying t with
   | .pointer a,some (.pointer _)=>some (aqf a b,aqg a b)
   |_,_=>none
 | .map none=>match x,P.underlying t with
   | .map a,some (.map _ _)=>some ([],a.isNone)
   |_,_=>none
 | .nilFunc=>match P.underlying t with
   |some (.func _ _ _)=>some (fnC x,alO x)
   |_=>none
 | .agg ys=>match x with
   | .agg xs=>match P.eqGuardType P.depth t with
     |false=>(eqV P 20 t (.agg xs) (.agg ys)).map λb=>([],b)
     |true=>none
   |_=>none
 |_=>none
def alQ:BinOp->Option Bool| .eql=>some true| .neq=>some false|_=>none
def ack(P:Program)(op:BinOp)(t:TypeId)(x y:Value):Option (List Prop × Value):=
 match alQ op,alP P t x y with
 |some true,some (c,b)=>some (c,.bool b)
 |some false,some (c,b)=>some (c,.bool (!b))
 |_,_=>none
def uA(P:Program)(t:TypeId):Bool:=match P.underlying t with|some (.interface _)=>false|some _=>true|none=>false
def dJ(P:Program)(s:St)(op:Op):Option (List Prop × SV):=
 match op with
 | .move x| .assign x=>some ([],s.sv x)
 | .pick c a b=>match s.sv c with
   | .val (.bool c)=>some ([],match c with|true=>s.sv a|false=>s.sv b)
   |_=>none
 | .extract t i=>match s.sv t with
   | .val (.tuple vs)=>vs[i]?.map λv=>([],.val v)
   |_=>none
 | .fieldAddr t x f=>match EK P t f with
   |some fd=>if fK P fd.type=0 then none else acj (s.sv x) fd.offset
   |none=>none
 | .field t x f=>match s.sv x,EK P t f with
   | .val (.agg cs),some fd=>if (P.underlying fd.type).isNone then none else if Bn P fd.type then some ([],.val (.agg ((cs.toList.drop fd.offset).take (fK P fd.type)).toArray)) else cs[fd.offset]?.map λv=>([],.val v)
   |_,_=>none
 | .nilCheck x=>match s.sv x with
   | .loc k off=>some ([],.loc k off)
   | .val (.pointer p)=>some (eI p,.val (.pointer p))
   |_=>none
 | .indexAddr t x i=>match s.ev i with
   | .int _ i=>match oN P t,s.ev x with
     |some (_,z),.slice a n _=>some ([gJ a i n],.val (.pointer (ab a (i.toNat*z))))
     |none,.pointer p=>match pX P t with
      |some (n,e)=>(iJ P e).map λz=>(eI p++ [0<=i,i<(n:Int)],.val (.pointer (ab p (i.toNat*z))))
      |none=>none
     |_,_=>none
   |_=>none
 | .index t x i=>match s.ev x,s.ev i with
   | .string b,.int _ i=>if isStr P t then some ([0<=i,i<(b.size:Int)],.val (.int .u8 (b.data.toList.getD i.toNat 0).toNat)) else none
   |_,_=>none
 | .binOp op t x y _=>match Yi (Lb P t) op (s.ev x) (s.ev y) with
   |some (c,v)=>some (c,.val v)
   |none=>(ack P op t (s.ev x) (s.ev y)).map λ(c,v)=>(c,.val v)
 | .unOp .not _ x=>match s.ev x with
   | .bool b=>some ([],.val (.bool !b))
   |_=>none
 | .unOp .neg _ x=>match s.ev x with
   | .int k n=>some ([],.val (.int k (k.wrap (0-n))))
   |_=>none
 | .convert src dst x=>match P.underlying src,P.underlying dst,s.ev x with
   |some (.int _),some (.int k),.int _ n=>some ([],.val (.int k (k.wrap n)))
   |some .string,some .string,.string b=>some ([],.val (.string b))
   |_,_,_=>none
 | .slice t x lo hi mx=>(TW P t (s.ev x) (lo.map s.ev) (hi.map s.ev) (mx.map s.ev)).map λ(c,v)=>(c,.val v)
 | .call {callee:=.builtin b,args,argTypes}=>(uz P b argTypes (args.toList.map s.ev)).map λv=>([],.val v)
 | .makeInterface t x=>match uA P t,s.sv x with
   |true,.val v=>some ([],.val (.iface t v))
   |_,_=>none
 |_=>none
def aA(P:Program)(t:TypeId)(w:World):(underlying t).run P w=match P.underlying t with|some d=> .ok d w|none=> .halt (.stuck "no such type") w:=by
 simp only [underlying,program,bind,Sem.bind,Sem.run]
 cases P.underlying t<;>rfl
def dD(P:Program)(t:TypeId)(w:World):(typeInfo t).run P w=match P.info? t with|some d=> .ok d w|none=> .halt (.stuck "no such type") w:=by
 simp only [typeInfo,program,bind,Sem.bind,Sem.run]
 cases P.info? t<;>rfl
def fg{P:Program}{t:TypeId}{w:World}(h:(P.info? t).isSome=true):(sizeOf t).run P w=.ok (fK P t) w:=by
 simp only [sizeOf,Sem.run_bind,dD,fK]
 cases h':P.info? t<;>simp_all
def info_of_underlying{P:Program}{t:TypeId}{d:TypeDesc}(h:P.underlying t=some d):(P.info? t).isSome=true:=by
 unfold Program.underlying at h
 cases h':P.info? t<;>simp_all
def ake(P:Program)(ρ:Operand->Value)(o:Oper)(v:Value):Prop:=∀w,(execOp ρ o).run P w=.ok (.value v) w
def acm{a b:List Prop}(h:∀p ∈ a++b,p):(∀p ∈ a,p)/\∀p ∈ b,p:=⟨λp hp=>h p (dp.2 (.inl hp)),λp hp=>h p (dp.2 (.inr hp))⟩
section
variable {P:Program} {ρ:Operand->Value} {o:Oper}
def dY{v:Value}{s:Sem Value}(he:execOp ρ o=(do pure (.value (<-s))))(h:∀w,s.run P w=.ok v w):ake P ρ o v:=by intro w;rw [he,Sem.run_bind,h];rfl
def acn{op:BinOp}{t:TypeId}{k:IntKind}{x y:Int}{cs:List Prop}{v:Value}(hs:aqe op=false)(h:alJ op k x y=some (cs,v))(hc:∀p ∈ cs,p)(w:World):
  (binOp op t (.int k x) (.int k y)).run P w=.ok v w:=by
 cases op<;>simp only [alJ,Option.some.injEq,Prod.mk.injEq,reduceCtorEq] at h<;>(try exact absurd hs aw)<;>(try (obtain ⟨rfl,rfl⟩:=h))
 all_goals (try simp [binOp,Op.intArith,Op.intBits,Op.intCmp,tP,TE,lF,mI];done)
 all_goals
  rw [EI] at hc
  simp [binOp,Op.intDiv,hc]
def aco{op:BinOp}{t:TypeId}{x y:ByteArray}{cs:List Prop}{v:Value}(h:alK op x y=some (cs,v))(hc:∀p ∈ cs,p)(w:World):
  (binOp op t (.string x) (.string y)).run P w=.ok v w:=by
 cases op<;>simp only [alK,Option.some.injEq,Prod.mk.injEq,reduceCtorEq] at h<;>(try (obtain ⟨rfl,rfl⟩:=h))
 all_goals (try simp [binOp,Op.stringOp,ej,strLt];done)
 have:=hc _ (gU.2 rfl);simp only [binOp,Op.stringOp];rw [if_neg aa];rfl
def acp{op:BinOp}{t:TypeId}{x y:Bool}{cs:List Prop}{v:Value}(ht:P.underlying t=some .bool)(h:alL op x y=some (cs,v))(w:World):
  (binOp op t (.bool x) (.bool y)).run P w=.ok v w:=by
 have e:(Op.equal t (.bool x) (.bool y)).run P w=.ok (x==y) w:=by unfold Op.equal Op.maxDepth;rw [show (10000:Nat)=9999+1 from rfl,Op.equalIn,Sem.run_bind,aA,ht];rfl
 cases op<;>simp only [alL,Option.some.injEq,Prod.mk.injEq,reduceCtorEq] at h<;>(try (obtain ⟨rfl,rfl⟩:=h))
 all_goals (show (binOp _ t (.bool x) (.bool y)).run P w=_;unfold binOp;rw [Sem.run_bind,e];rfl)
def Yk{op:BinOp}{t:TypeId}{k k':IntKind}{x y:Int}{cs:List Prop}{v:Value}(h:aci op k x y=some (cs,v))(hc:∀p ∈ cs,p)(w:World):
  (binOp op t (.int k x) (.int k' y)).run P w=.ok v w:=by
 cases op<;>simp only [aci,Option.some.injEq,Prod.mk.injEq,reduceCtorEq] at h<;>(try (obtain ⟨rfl,rfl⟩:=h))
 all_goals
  rw [EJ] at hc
  simp only [binOp,Op.shift]
  rw [if_neg aa];rfl
def CJ(op:BinOp)(t:TypeId)(x y:Operand)(a b:Value)(h1:a≠ .nilIface)(h2:∀c,a≠ .agg c)(w:World):(eqGuard op t x y a b).run P w=.ok () w:=by cases op<;>first|rfl|(cases a<;>first|rfl|exact absurd rfl h1|exact absurd rfl (h2 _))
def acq{op:BinOp}{t:TypeId}{x y:Value}{cs:List Prop}{v:Value}(h:Yi (Lb P t) op x y=some (cs,v))(hc:∀p ∈ cs,p)(w:World):
  (binOp op t x y).run P w=.ok v w:=by
 unfold Yi at h;split at h
 ·cases h
 split at h
 ·split at h
  ·exact Yk h hc w
  ·exact absurd h bo
 ·rename_i hs;split at h
  ·split at h
   ·rename_i e;subst e;exact acn hs h hc w
   ·exact absurd h bo
  ·exact aco h hc w
  ·split at h
   ·rename_i ht;have ht:P.underlying t=some .bool:=by
     unfold Lb at ht;split at ht
     ·assumption
     ·cases ht
    exact acp ht h w
   ·cases h
  ·exact absurd h bo
def Yl{tb:Bool}{op:BinOp}{x y:Value}{r:List Prop × Value}(h:Yi tb op x y=some r):x≠ .nilIface/\∀c,x≠ .agg c:=by
 constructor
 ·rintro rfl;unfold Yi at h;split at h
  ·cases h
  ·split at h<;>simp at h
 ·rintro c rfl;unfold Yi at h;split at h
  ·cases h
  ·split at h<;>simp at h
end
section
variable {P:Program} {s:St} {o:Oper}
def yR{t:TypeId}{f:Nat}{fd:Field}(h:EK P t f=some fd):∃fs,P.underlying t=some (.struct fs)/\fs[f]? =some fd:=by
 unfold EK at h;split at h
 ·rename_i fs hu;exact ⟨fs,hu,h⟩
 ·cases h
def kQ{t e:TypeId}{z:Nat}(h:oN P t=some (e,z)):P.underlying t=some (.slice e)/\∀w,(sizeOf e).run P w=.ok z w:=by
 unfold oN at h;split at h
 ·rename_i e' hu;unfold iJ at h
  cases h':P.info? e' with
  |none=>simp [h'] at h
  |some i=>
   simp [h'] at h;obtain ⟨rfl,rfl⟩:=h;exact ⟨hu,λw=>by rw [fg (by simp [h'])];simp [fK,h']⟩
 ·cases h
def c2{a b:Prop}(h:∀p ∈ [a,b],p):a/\b:=⟨h a bo,h b bo⟩
def c4{a b c d:Prop}(h:∀p ∈ [a,b,c,d],p):a/\b/\c/\d:=⟨h a bo,h b bo,h c bo,h d bo⟩
def c6{a b c d e f:Prop}(h:∀p ∈ [a,b,c,d,e,f],p):a/\b/\c/\d/\e/\f:=⟨h a bo,h b bo,h c bo,h d bo,h e bo,h f bo⟩
def oW{t:TypeId}(h:isStr P t=true):P.underlying t=some .string:=by
 unfold isStr at h;split at h
 ·assumption
 ·cases h
def Lc{isS:Bool}{lo hi mx:Option Value}{lo' hi' mx':Option Int}{len cap:Nat}{cs:List Prop}{l h m:Nat}(e1:uy lo=some lo')(e2:uy hi=some hi')(e3:uy mx=some mx')
  (mH:Fe lo' hi' mx' len cap=(cs,l,h,m))(hc:∀p ∈ cs,p)(w:World):(Instr.sliceBounds isS len cap lo hi mx).run P w=.ok (l,h,m) w:=by
 have key:∀(x:Value)(i:Int)(y:Nat)(code:BoundsCode)(w:World),uy (some x)=some (some i)->0<=i->i<=(y:Int)->(Instr.sliceBound x y code).run P w=.ok i.toNat w:=by
  intro x i y code w hx h0 h1
  cases x<;>simp [uy] at hx
  subst hx;simp [Instr.sliceBound,asIntOf,h0,h1]
 have n3:∀{x:Option Value},uy x=some none->x=none:=by intro x hx;unfold uy at hx;split at hx<;>simp_all
 have s3:∀{x:Option Value} {i:Int},uy x=some (some i)->∃v,x=some v/\uy (some v)=some (some i):=by
  intro x i hx;cases x with
  |none=>simp [uy] at hx
  |some v=>exact ⟨v,rfl,hx⟩
 unfold Instr.sliceBounds
 cases mx' with
 |none=>
  obtain rfl:=n3 e3
  cases hi' with
  |none=>
   obtain rfl:=n3 e2
   cases lo' with
   |none=>obtain rfl:=n3 e1;simp [Fe] at mH;obtain ⟨rfl,rfl,rfl,rfl⟩:=mH;rfl
   |some i=>
    obtain ⟨v,rfl,hv⟩:=s3 e1;simp [Fe] at mH;obtain ⟨rfl,rfl,rfl,rfl⟩:=mH;have hc:=c2 hc;simp [key v i len _ w hv hc.1 hc.2]
  |some j=>
   obtain ⟨u,rfl,hu⟩:=s3 e2
   cases lo' with
   |none=>
    obtain rfl:=n3 e1;simp [Fe] at mH;obtain ⟨rfl,rfl,rfl,rfl⟩:=mH;have hc:=c2 hc;simp [key u j cap _ w hu hc.1 hc.2]
   |some i=>
    obtain ⟨v,rfl,hv⟩:=s3 e1;simp [Fe] at mH;obtain ⟨rfl,rfl,rfl,rfl⟩:=mH;have hc:=c4 hc;simp [key u j cap _ w hu hc.1 hc.2.1,key v i j.toNat _ w hv hc.2.2.1 aa]
 |some q=>
  obtain ⟨x,rfl,hx⟩:=s3 e3
  cases hi' with
  |none=>simp [Fe] at mH;obtain ⟨rfl,_⟩:=mH;exact (hc _ (gU.2 rfl)).elim
  |some j=>
   obtain ⟨u,rfl,hu⟩:=s3 e2
   cases lo' with
   |none=>
    obtain rfl:=n3 e1;simp [Fe] at mH;obtain ⟨rfl,rfl,rfl,rfl⟩:=mH;have hc:=c4 hc;simp [key x q cap _ w hx hc.1 hc.2.1,key u j q.toNat _ w hu hc.2.2.1 aa]
   |some i=>
    obtain ⟨v,rfl,hv⟩:=s3 e1;simp [Fe] at mH;obtain ⟨rfl,rfl,rfl,rfl⟩:=mH;have hc:=c6 hc;simp [key x q cap _ w hx hc.1 hc.2.1,key u j q.toNat _ w hu hc.2.2.1 aa,key v i j.toNat _ w hv hc.2.2.2.2.1 aa]
def TX{t:TypeId}{x:Value}{lo hi mx:Option Value}{cs:List Prop}{v:Value}(h:TW P t x lo hi mx=some (cs,v))(hc:∀p ∈ cs,p)(w:World):
  (Instr.sliceAt t x lo hi mx).run P w=.ok v w:=by
 unfold TW at h;split at h
 ·rename_i lo' hi' mx' e1 e2 e3;split at h
  ·rename_i a n c;split at h
   ·rename_i e z he;split at h;rename_i cs' l q m mH;simp only [Option.some.injEq,Prod.mk.injEq] at h;obtain ⟨rfl,rfl⟩:=h;obtain ⟨hu,hz⟩:=kQ he;simp only [Instr.sliceAt,Sem.run_bind,aA,hu,Result.andThen_ok,Instr.slice,Lc e1 e2 e3 mH hc,hz];rfl
   ·cases h
  ·rename_i b;split at h
   ·have he:isStr P t=true:=by assumption
    split at h;rename_i cs' l q m mH;simp only [Option.some.injEq,Prod.mk.injEq] at h;obtain ⟨rfl,rfl⟩:=h;have hu:=oW he;have hmx:mx=none:=by
     cases mx with
     |none=>rfl
     |some u=>cases u<;>simp [uy] at e3
    subst hmx;simp only [Instr.sliceAt,Sem.run_bind,aA,hu,Result.andThen_ok,Instr.slice];have aqX:=Lc (P:=P) (isS:=false) e1 e2 (mx:=none) (mx':=none) rfl mH hc w;simp [aqX]
   ·cases h
  ·rename_i p;split at h
   ·rename_i n e he;split at h
    ·rename_i z hz;split at h;rename_i cs' l q m mH;simp only [Option.some.injEq,Prod.mk.injEq] at h;obtain ⟨rfl,rfl⟩:=h;obtain ⟨h1,h2⟩:=acm hc;obtain ⟨a,rfl⟩:=qO.1 (rR.1 h1);have hu:P.underlying t=some (.array n e):=by
      unfold pX at he;split at he
      ·rename_i hu;cases he;exact hu
      ·cases he
     have hz':(sizeOf e).run P w=.ok z w:=by
      unfold iJ at hz
      cases hi':P.info? e with
      |none=>simp [hi'] at hz
      |some i'=>simp [hi'] at hz;rw [fg (by simp [hi'])];simp [fK,hi',hz]
     simp only [Instr.sliceAt,Instr.sureAddr,Sem.run_bind,Sem.run_pure,aA,hu,Result.andThen_ok,Lc (isS:=false) e1 e2 e3 mH h2,hz'];unfold aE;split<;>rfl
    ·cases h
   ·cases h
  ·cases h
 ·cases h
def Ff{a:Addr}{f:Field}(h:fK P f.type≠0)(w:World):(fieldPlace a f).run P w=.ok (a.add f.offset) w:=by
 have hs:(P.info? f.type).isSome=true:=by
  cases h':P.info? f.type with
  |none=>simp [fK,h'] at h
  |some i=>rfl
 simp only [fieldPlace,Sem.run_bind,fg hs,Result.andThen_ok,if_neg h];rfl
def acr{x:SV}{kn:List KB}{n:Nat}{cs:List Prop}{sv:SV}(h:acj x n=some (cs,sv))(hc:∀p ∈ cs,p):
  ∃a:Addr,x.bP kn=.pointer (some a)/\sv.bP kn=.pointer (some (a.add n)):=by
 cases x with
 |loc k off=>
  simp only [acj,Option.some.injEq,Prod.mk.injEq] at h;obtain ⟨rfl,rfl⟩:=h;refine ⟨_,rfl,?_⟩;simp only [SV.bP,Addr.add];split
  ·rename_i h0;rw [h0];rfl
  ·rfl
 |sli k n=>cases h
 |val v=>
  cases v<;>simp [acj] at h
  rename_i p;obtain ⟨rfl,rfl⟩:=h;rw [rR] at hc
  cases p with
  |none=>cases hc
  |some a=>exact ⟨a,rfl,rfl⟩
def Jy{f:Value->Value->Option Value}{g:Value->Value->Sem Value}(hfg:∀x y z,f x y=some z->∀w,(g x y).run P w=.ok z w):
  ∀(l:List Value)(x z:Value),Jv f l x=some z->∀w,(l.foldlM g x).run P w=.ok z w:=by
 intro l
 induction l with
 |nil=>intro x z h w;simp only [Jv,Option.some.injEq] at h;subst h;rfl
 |cons y r ih=>
  intro x z h w;simp only [Jv] at h;split at h
  ·rename_i u hu;rw [List.foldlM_cons,Sem.run_bind,hfg _ _ _ hu];exact ih _ _ h w
  ·cases h
def Ld{b:Builtin}{ats:Array TypeId}{ty:TypeId}{cs:Array Bool}{args:Array Value}{v:Value}(h:uz P b ats args.toList=some v)(w:World):
  (builtin b ats ty cs args).run P w=.ok (.value v) w:=by
 obtain ⟨l⟩:=args;simp only at h;unfold uz at h;split at h
 ·split at h
  ·rename_i hx
   cases h
   cases ha:ats[0]? with
   |none=>simp [ha] at hx
   |some t=>
    simp [ha] at hx;obtain ⟨hu,_⟩:=kQ hx;simp [builtin,Builtin.len_,ha,aA,hu,goInt]
  ·cases h
 ·split at h
  ·rename_i hx
   cases h
   cases ha:ats[0]? with
   |none=>simp [ha] at hx
   |some t=>
    simp [ha] at hx;have hu:=oW hx;simp [builtin,Builtin.len_,ha,aA,hu,goInt]
  ·cases h
 ·split at h
  ·rename_i hx
   cases h
   cases ha:ats[0]? with
   |none=>simp [ha] at hx
   |some t=>
    simp [ha] at hx;obtain ⟨hu,_⟩:=kQ hx;simp [builtin,Builtin.cap_,ha,aA,hu,goInt]
  ·cases h
 ·split at h
  ·rename_i n e hx
   cases h
   cases ha:ats[0]? with
   |none=>simp [ha] at hx
   |some t=>
    simp [ha] at hx;have hu:P.underlying t=some (.array n e):=by
     unfold pX at hx;split at hx
     ·rename_i hu;cases hx;exact hu
     ·cases hx
    simp [builtin,Builtin.len_,ha,aA,hu,goInt]
  ·cases h
 ·have:=Jy (P:=P) (f:=alM) (g:=Builtin.min2) (by
   intro x y z hz w
   cases x<;>cases y<;>simp [alM] at hz
   subst hz;rfl) _ _ _ h w
  simp only [builtin,Builtin.min_,Sem.run_bind,this];rfl
 ·have:=Jy (P:=P) (f:=alN) (g:=Builtin.max2) (by
   intro x y z hz w
   cases x<;>cases y<;>simp [alN] at hz
   subst hz;rfl) _ _ _ h w
  simp only [builtin,Builtin.max_,Sem.run_bind,this];rfl
 ·cases h
def dZ{α β:Type}{a c:α}{b d:β}(h:some (a,b)=some (c,d)):a=c/\b=d:=by cases h;exact ⟨rfl,rfl⟩
def ahs{x:Option (List Prop × Value)}{cs:List Prop}{sv:SV}(h:(x.map λ(c,v)=>(c,SV.val v))=some (cs,sv)):∃v,x=some (cs,v)/\sv=.val v:=by
 cases x with
 |none=>cases h
 |some p=>obtain ⟨a,b⟩:=p;cases h;exact ⟨b,rfl,rfl⟩
def Fg{x:Operand}{v:SV}(h:s.sv x=v):s.ev x=v.bP s.kn:=by simp only [St.ev,h]
def yS{t:TypeId}{cs:Array Value}{off:Nat}(w:World)(hn:(P.underlying t).isNone=false):
  (Bn P t=true->(part t cs off).run P w=.ok (.agg ((cs.toList.drop off).take (fK P t)).toArray) w)/\(Bn P t=false->∀v,cs[off]? =some v->(part t cs off).run P w=.ok v w):=by
 have hu:∃d,P.underlying t=some d:=by
  cases hh:P.underlying t with
  |some d=>exact ⟨d,rfl⟩
  |none=>simp [hh] at hn
 obtain ⟨d,hu⟩:=hu;have hi:=info_of_underlying hu;constructor
 ·intro h;have:(isAgg t).run P w=.ok true w:=by
   simp only [isAgg,Sem.run_bind,aA,hu,Result.andThen_ok];unfold Bn at h;rw [hu] at h
   cases d<;>first|rfl|(simp at h)
  simp only [part,Sem.run_bind,this,Result.andThen_ok,if_true,fg hi,Sem.run_pure];congr 2;apply Array.ext';simp [List.take_drop,yT]
 ·intro h v hv;have:(isAgg t).run P w=.ok false w:=by
   simp only [isAgg,Sem.run_bind,aA,hu,Result.andThen_ok];unfold Bn at h;rw [hu] at h
   cases d<;>first|rfl|(simp at h)
  simp [part,this,hv]
def vz{t:TypeId}{cs:Array Value}{off:Nat}{v:Value}(h:Jw P t cs off=some v)(w:World):(part t cs off).run P w=.ok v w:=by
 unfold Jw at h;split at h
 ·cases h
 ·rename_i d hu;have hp:=yS (P:=P) (t:=t) (cs:=cs) (off:=off) w (by rw [hu];rfl);split at h
  ·rename_i ha;cases h;exact hp.1 ha
  ·rename_i ha;exact hp.2 (by simpa using ha) v h
def OV{g:TypeId->Value->Value->Option Bool}{d:Nat}(hg:∀t x y b,g t x y=some b->∀w,(Op.equalIn d t x y).run P w=.ok b w)(xs ys:Array Value):
  ∀(fs:List Field)(b:Bool),Yj P g xs ys fs=some b->∀w,(Op.eqFields d xs ys fs).run P w=.ok b w
 | [],b,h,w=>by simp only [Yj,Option.some.injEq] at h;subst h;rfl
 | [f],b,h,w=>by
   unfold Yj at h
   split at h
   ·cases h
   ·rename_i hn
    split at h
    ·rename_i x y hx hy
     simp only [Op.eqFields,if_pos (show f.name≠ "_" from hn),Sem.run_bind,vz hx,vz hy,Result.andThen_ok,hg _ _ _ _ h]
     cases b<;>rfl
    ·cases h
 |f::f'::r,b,h,w=>by
  unfold Yj at h
  split at h
  ·cases h
  ·rename_i hn
   split at h
   ·rename_i x y hx hy
    split at h
    ·rename_i p q hp hq
     cases h
     rw [Op.eqFields,if_pos (show f.name≠ "_" from hn)]
     simp only [Sem.run_bind,vz hx,vz hy,Result.andThen_ok,hg _ _ _ _ hp]
     cases p with
     |false=>rfl
     |true=>simpa using OV hg xs ys (f'::r) q hq w
    ·cases h
   ·cases h
def Le:∀(d:Nat)(t:TypeId)(x y:Value)(b:Bool),eqV P d t x y=some b->∀(n:Nat),d<=n->∀w,(Op.equalIn n t x y).run P w=.ok b w
 |0,t,x,y,b,h,n,hn,w=>by cases h
 |d+1,t,x,y,b,h,n,hn,w=>by
  obtain ⟨m,rfl⟩:∃m,n=m+1:=⟨n-1,aa⟩
  unfold eqV at h
  split at h
  ·rename_i k0 k a k' b' hu
   split at h
   ·rename_i e;subst e;cases h;exact run_equalIn_int w m t k k0 a b' hu
   ·cases h
  ·rename_i a b' hu;cases h;exact run_equalIn_bool w m t a b' hu
  ·rename_i a b' hu;cases h;exact run_equalIn_string w m t a b' hu
  ·rename_i fs xs ys hu
   split at h
   ·cases h
   ·rename_i hs
    have hf:P.fieldsOf t=fs:=by simp [Program.fieldsOf,hu]
    rw [run_equalIn_struct w m t xs ys (by rw [hf];exact hu) (by simpa using hs),hf];exact OV (λt x y b hb w=>Le d t x y b hb m aa w) xs ys fs.toList b h w
  ·cases h
def mc{t:TypeId}{x y:Value}{b:Bool}{w:World}(h:(Op.equalIn (9999+1) t x y).run P w=.ok b w):(Op.equal t x y).run P w=.ok b w:=h
def OW{t:TypeId}{x y:Value}{cs:List Prop}{b:Bool}(h:alP P t x y=some (cs,b))(hc:∀p ∈ cs,p)(w:World):
  (Op.equal t x y).run P w=.ok b w/\(∀op (xo yo:Operand),(eqGuard op t xo yo x y).run P w=.ok () w)/\(x≠ .nilIface)/\
  (∀op,(binOp op t x y)=match op with| .eql=>(do pure (.bool (<-Op.equal t x y)))| .neq=>(do pure (.bool (!(<-Op.equal t x y))))|o=>binOp o t x y):=by
 have g:∀op (xo yo:Operand),x≠ .nilIface->(∀c,x≠ .agg c)->(eqGuard op t xo yo x y).run P w=.ok () w:=λop xo yo h1 h2=>CJ op t xo yo x y h1 h2 w
 unfold alP at h;split at h
 ·split at h
  ·rename_i a n c e hu;obtain ⟨rfl,rfl⟩:=dZ h;refine ⟨mc ?_,λop xo yo=>g op xo yo bo bo,bo,λop=>by cases op<;>rfl⟩;rw [Op.equalIn,Sem.run_bind,aA,hu]
   cases a<;>rfl
  ·cases h
 ·rename_i b;split at h
  ·rename_i a e hu;obtain ⟨rfl,rfl⟩:=dZ h;refine ⟨mc ?_,λop xo yo=>g op xo yo bo bo,bo,λop=>by cases op<;>rfl⟩;rw [Op.equalIn,Sem.run_bind,aA,hu]
   cases b with
   |none=>cases a<;>rfl
   |some y=>
    have ha:a=none:=hc _ (gU.2 rfl);subst ha;rfl
  ·cases h
 ·split at h
  ·rename_i a k e hu;obtain ⟨rfl,rfl⟩:=dZ h;refine ⟨mc ?_,λop xo yo=>g op xo yo bo bo,bo,λop=>by cases op<;>rfl⟩;rw [Op.equalIn,Sem.run_bind,aA,hu]
   cases a<;>rfl
  ·cases h
 ·split at h
  ·rename_i a1 a2 a3 hu;obtain ⟨rfl,rfl⟩:=dZ h
   cases x with
   |nilFunc=>
    refine ⟨mc ?_,λop xo yo=>g op xo yo bo bo,bo,λop=>by cases op<;>rfl⟩;rw [Op.equalIn,Sem.run_bind,aA,hu];rfl
   |func fn fs cs=>
    refine ⟨mc ?_,λop xo yo=>g op xo yo bo bo,bo,λop=>by cases op<;>rfl⟩;rw [Op.equalIn,Sem.run_bind,aA,hu];rfl
   |_=>exact (hc False (gU.2 rfl)).elim
  ·cases h
 ·rename_i ys;split at h
  ·rename_i xs;split at h
   ·rename_i hg
    cases he:eqV P 20 t (.agg xs) (.agg ys) with
    |none=>rw [he] at h;cases h
    |some b'=>
     rw [he] at h;obtain ⟨rfl,rfl⟩:=dZ h;refine ⟨mc (Le 20 t _ _ _ he _ aa w),λop xo yo=>run_eqGuard_agg w op t xo yo _ _ hg,bo,λop=>by cases op<;>rfl⟩
   ·cases h
  ·cases h
 ·cases h
def Ym{op:BinOp}{t:TypeId}{x y:Value}{cs:List Prop}{v:Value}(h:ack P op t x y=some (cs,v))(hc:∀p ∈ cs,p)(w:World)(xo yo:Operand):
  (eqGuard op t xo yo x y).run P w=.ok () w/\(binOp op t x y).run P w=.ok v w:=by
 unfold ack at h;split at h
 ·rename_i c b ho hcv;obtain ⟨rfl,rfl⟩:=dZ h;obtain ⟨h1,h2,_,h4⟩:=OW hcv hc w;refine ⟨h2 op xo yo,?_⟩
  cases op<;>simp [alQ] at ho
  rw [h4,Sem.run_bind,h1];rfl
 ·rename_i c b ho hcv;obtain ⟨rfl,rfl⟩:=dZ h;obtain ⟨h1,h2,_,h4⟩:=OW hcv hc w;refine ⟨h2 op xo yo,?_⟩
  cases op<;>simp [alQ] at ho
  rw [h4,Sem.run_bind,h1];rfl
 ·cases h
def Fh{t:TypeId}{v:Value}(h:uA P t=true)(w:World):(Instr.makeInterface t v).run P w=.ok (.iface t v) w:=by
 unfold uA at h;split at h
 ·cases h
 ·rename_i d hd fA;simp only [Instr.makeInterface,Sem.run_bind,aA,hd,Result.andThen_ok]
  cases d<;>simp_all
 ·cases h
def rU{cs:List Prop}{sv:SV}(h:dJ P s o.op=some (cs,sv))(hc:∀p ∈ cs,p):ake P s.ev o (sv.bP s.kn):=by
 obtain ⟨dst,op,ty,pos,after,guard⟩:=o;simp only at h
 cases op with
 |move x=>obtain ⟨rfl,rfl⟩:=dZ h;exact λw=>rfl
 |assign x=>obtain ⟨rfl,rfl⟩:=dZ h;exact λw=>rfl
 |pick c a b=>
  simp only [dJ] at h;split at h
  ·rename_i t hx;obtain ⟨rfl,rfl⟩:=dZ h;intro w;simp only [execOp,Fg hx]
   cases t<;>rfl
  ·cases h
 |extract t i=>
  simp only [dJ] at h;split at h
  ·rename_i vs hx
   cases hv:vs[i]? with
   |none=>simp [hv] at h
   |some v=>
    simp [hv] at h;obtain ⟨rfl,rfl⟩:=h;intro w;simp [execOp,Fg hx,Instr.extract,hv,SV.bP]
  ·cases h
 |fieldAddr t x f=>
  simp only [dJ] at h;split at h
  ·rename_i fd hf;split at h
   ·cases h
   ·rename_i hz;obtain ⟨a,e1,e2⟩:=acr (kn:=s.kn) h hc;obtain ⟨fs,hu,hfs⟩:=yR hf;refine dY rfl λw=> ?_
    simp only [Instr.fieldAt,Sem.run_bind,aA,hu,Result.andThen_ok,hfs,St.ev,e1,Instr.sureAddr,Sem.run_pure,Ff hz,e2]
  ·cases h
 |field t x f=>
  simp only [dJ] at h;split at h
  ·rename_i cs' fd hx hf;obtain ⟨fs,hu,hfs⟩:=yR hf;refine dY rfl λw=> ?_
   simp only [Instr.field,Sem.run_bind,aA,hu,Result.andThen_ok,hfs,Fg hx,SV.bP,asAgg,Sem.run_pure];split at h
   ·cases h
   rename_i hn;have hp:=yS (P:=P) (t:=fd.type) (cs:=cs') (off:=fd.offset) w (by cases hq:P.underlying fd.type<;>simp_all);split at h
   ·rename_i ha;obtain ⟨rfl,rfl⟩:=dZ h;exact hp.1 ha
   ·rename_i ha
    cases hv:cs'[fd.offset]? with
    |none=>simp [hv] at h
    |some v=>
     simp [hv] at h;obtain ⟨rfl,rfl⟩:=h;exact hp.2 (by simpa using ha) v hv
  ·cases h
 |nilCheck x=>
  simp only [dJ] at h;split at h
  ·rename_i k off hx;obtain ⟨rfl,rfl⟩:=dZ h;intro w;simp only [execOp,Fg hx,SV.bP];rfl
  ·rename_i p hx;obtain ⟨rfl,rfl⟩:=dZ h;rw [rR] at hc;intro w
   cases p with
   |none=>cases hc
   |some a=>simp only [execOp,Fg hx,SV.bP];rfl
  ·cases h
 |indexAddr t x i=>
  simp only [dJ] at h;split at h
  ·rename_i k iv hi;split at h
   ·rename_i e z a n c he hx;obtain ⟨rfl,rfl⟩:=dZ h;obtain ⟨hu,hz⟩:=kQ he;obtain ⟨h1,h3,h4⟩:=hc _ (gU.2 rfl);refine dY rfl λw=> ?_
    cases a with
    |none=>cases h1
    |some a=>simp [Instr.indexAt,aA,hu,hx,SV.bP,hi,asIntOf,h3,h4,hz,ab]
   ·rename_i p he hx;split at h
    ·rename_i n e ha;have hu:P.underlying t=some (.array n e):=by
      unfold pX at ha;split at ha
      ·rename_i hu;cases ha;exact hu
      ·cases ha
     cases hz:iJ P e with
     |none=>simp [hz] at h
     |some z=>
      rw [hz] at h;obtain ⟨rfl,rfl⟩:=dZ h;obtain ⟨h1,h2⟩:=acm hc;rw [rR] at h1;obtain ⟨h3,h4⟩:=c2 h2;have hz':∀w,(sizeOf e).run P w=.ok z w:=λw=>by
       unfold iJ at hz
       cases hi':P.info? e with
       |none=>simp [hi'] at hz
       |some i'=>simp [hi'] at hz;rw [fg (by simp [hi'])];simp [fK,hi',hz]
      refine dY rfl λw=> ?_
      cases p with
      |none=>cases h1
      |some a=>simp [Instr.indexAt,aA,hu,hx,SV.bP,hi,asIntOf,h3,h4,hz',ab,Instr.sureAddr]
    ·cases h
   ·cases h
  ·cases h
 |index t x i=>
  simp only [dJ] at h;split at h
  ·rename_i b k iv hx hi;split at h
   ·rename_i ht;have hu:=oW ht;obtain ⟨rfl,rfl⟩:=dZ h;obtain ⟨h3,h4⟩:=c2 hc;refine dY rfl λw=> ?_
    have fD:iv.toNat<b.size:=by omega
    have hg:b[iv.toNat]? =some (b.data.toList.getD iv.toNat 0):=by
     rw [getElem?_pos b iv.toNat fD];have:iv.toNat<b.data.toList.length:=by simpa using fD
     simp [dn,cO this];rfl
    simp [Instr.index,aA,hu,hx,hi,asIntOf,h3,hg,SV.bP]
   ·cases h
  ·cases h
 |binOp op t x y u=>
  simp only [dJ] at h;split at h
  ·rename_i c v hv;obtain ⟨rfl,rfl⟩:=dZ h;refine dY rfl λw=> ?_
   obtain ⟨n1,n2⟩:=Yl hv;rw [Sem.run_bind,CJ _ _ _ _ _ _ n1 n2,Result.andThen_ok,acq hv hc];rfl
  ·obtain ⟨v,hv,rfl⟩:=ahs h;refine dY rfl λw=> ?_
   obtain ⟨h1,h2⟩:=Ym hv hc w x y;rw [Sem.run_bind,h1,Result.andThen_ok,h2];rfl
 |unOp op t x=>
  cases op with
  |not=>
   simp only [dJ] at h;split at h
   ·rename_i b hx;obtain ⟨rfl,rfl⟩:=dZ h;exact dY rfl λw=>by simp only [hx];rfl
   ·cases h
  |neg=>
   simp only [dJ] at h;split at h
   ·rename_i k n hx;obtain ⟨rfl,rfl⟩:=dZ h;exact dY rfl λw=>by simp only [hx];rfl
   ·cases h
  |_=>cases h
 |convert a b x=>
  simp only [dJ] at h;split at h
  ·rename_i k' k k'' n hu1 hu2 hx;obtain ⟨rfl,rfl⟩:=dZ h;refine dY rfl λw=> ?_
   simp only [convert,Sem.run_bind,aA,hu1,hu2,Result.andThen_ok,hx];rfl
  ·rename_i bb hu1 hu2 hx;obtain ⟨rfl,rfl⟩:=dZ h;refine dY rfl λw=> ?_
   simp only [convert,Sem.run_bind,aA,hu1,hu2,Result.andThen_ok,hx];rfl
  ·cases h
 |slice t x lo hi mx=>
  obtain ⟨v,hv,rfl⟩:=ahs h;exact dY rfl λw=>TX hv hc w
 |call c=>
  obtain ⟨callee,args,argTypes⟩:=c
  cases callee with
  |builtin b=>
   simp only [dJ] at h
   cases hb:uz P b argTypes (args.toList.map s.ev) with
   |none=>simp [hb] at h
   |some v=>
    simp [hb] at h;obtain ⟨rfl,rfl⟩:=h;intro w;have:=Ld (P:=P) (ty:=ty) (cs:=(args.map fun| .const _=>true|_=>false)) (args:=args.map s.ev) (by simpa using hb) w;rw [BigFrame.execOp_builtin];exact this
  |_=>cases h
 |makeInterface t x=>
  simp only [dJ] at h;split at h
  ·rename_i v hu hx;obtain ⟨rfl,rfl⟩:=dZ h;intro w;have e:s.ev x=v:=Fg hx;simp only [execOp,Sem.run_bind,e,Fh hu,Result.andThen_ok];rfl
  ·cases h
 |_=>cases h
end
section
variable {P:Program} {s:St} {o:Oper}
def Fi(hs:s.Ok){op:Op}{cs:List Prop}{sv:SV}(h:dJ P s op=some (cs,sv)):sv.j2 s.kn.length:=by
 cases op with
 |move x=>obtain ⟨rfl,rfl⟩:=dZ h;exact hs.sv x
 |assign x=>obtain ⟨rfl,rfl⟩:=dZ h;exact hs.sv x
 |pick c a b=>
  simp only [dJ] at h;split at h
  ·rename_i t hx;obtain ⟨rfl,rfl⟩:=dZ h
   cases t
   ·exact hs.sv b
   ·exact hs.sv a
  ·cases h
 |extract t i=>
  simp only [dJ] at h;split at h
  ·rename_i vs hx
   cases hv:vs[i]? with
   |none=>simp [hv] at h
   |some v=>simp [hv] at h;obtain ⟨rfl,rfl⟩:=h;trivial
  ·cases h
 |fieldAddr t x f=>
  simp only [dJ] at h;split at h
  ·split at h
   ·cases h
   ·have hx:=hs.sv x;unfold acj at h;split at h
    ·rename_i e;rw [e] at hx;obtain ⟨rfl,rfl⟩:=dZ h;exact hx
    ·obtain ⟨rfl,rfl⟩:=dZ h;trivial
    ·cases h
  ·cases h
 |field t x f=>
  simp only [dJ] at h;split at h
  ·rename_i cs' fd hx hf;split at h
   ·cases h
   split at h
   ·obtain ⟨rfl,rfl⟩:=dZ h;trivial
   ·cases hv:cs'[fd.offset]? with
    |none=>simp [hv] at h
    |some v=>simp [hv] at h;obtain ⟨rfl,rfl⟩:=h;trivial
  ·cases h
 |nilCheck x=>
  simp only [dJ] at h;have hx:=hs.sv x;split at h
  ·rename_i e;rw [e] at hx;obtain ⟨rfl,rfl⟩:=dZ h;exact hx
  ·obtain ⟨rfl,rfl⟩:=dZ h;trivial
  ·cases h
 |indexAddr t x i=>
  simp only [dJ] at h;split at h
  ·split at h
   ·obtain ⟨rfl,rfl⟩:=dZ h;trivial
   ·split at h
    ·rename_i n e ha
     cases hz:iJ P e with
     |none=>simp [hz] at h
     |some z=>rw [hz] at h;obtain ⟨rfl,rfl⟩:=dZ h;trivial
    ·cases h
   ·cases h
  ·cases h
 |index t x i=>
  simp only [dJ] at h;split at h
  ·split at h
   ·obtain ⟨rfl,rfl⟩:=dZ h;trivial
   ·cases h
  ·cases h
 |binOp op t x y u=>
  simp only [dJ] at h;split at h
  ·obtain ⟨rfl,rfl⟩:=dZ h;trivial
  ·obtain ⟨v,_,rfl⟩:=ahs h;trivial
 |unOp op t x=>
  cases op<;>simp only [dJ] at h<;>first|(cases h;done)|(split at h<;>first|(cases h;done)|(obtain ⟨rfl,rfl⟩:=dZ h;trivial))
 |convert a b x=>
  simp only [dJ] at h;split at h
  ·obtain ⟨rfl,rfl⟩:=dZ h;trivial
  ·obtain ⟨rfl,rfl⟩:=dZ h;trivial
  ·cases h
 |slice t x lo hi mx=>obtain ⟨v,_,rfl⟩:=ahs h;trivial
 |call c=>
  obtain ⟨callee,args,argTypes⟩:=c
  cases callee with
  |builtin b=>
   simp only [dJ] at h
   cases hb:uz P b argTypes (args.toList.map s.ev) with
   |none=>simp [hb] at h
   |some v=>simp [hb] at h;obtain ⟨rfl,rfl⟩:=h;trivial
  |_=>cases h
 |makeInterface t x=>
  simp only [dJ] at h;split at h
  ·obtain ⟨rfl,rfl⟩:=dZ h;trivial
  ·cases h
 |_=>cases h
end
def iK(d:Option Tmp)(s:St)(K:St->Prop):Act->World->Prop:=
 λa w=>∃s',s'.Ok/\s'.act=a/\s'.w=w/\Fr d.toList s s'/\K s'
def getD_set_ne{α:Type}(l:List α)(i j:Nat)(v d:α)(h:i≠j):(l.set i v).getD j d=l.getD j d:=by simp [dn,h]
def kR{s:St}{d:Option Tmp}{K:St->Prop}{a:Act}{w:World}{s1:St}{v:SV}(hk:K (s1.put d v))
  (hok:s.Ok)(mP:s1.sl=s.sl)(jG:rT s.kn s1.kn)
  (iN:∀(k:Nat)(kb:KB),s1.kn[k]? =some kb->kb.live=true->s1.w.heap[kb.idx]? =some (.cells kb.cells.toArray kb.ty (0,0)))
  (fA:∀(i j:Nat)(x y:KB),s1.kn[i]? =some x->s1.kn[j]? =some y->x.live=true->y.live=true->x.idx=y.idx->i=j)
  (hv:v.j2 s1.kn.length)(ha:s.act.put d (v.bP s1.kn)=a)(hw:s1.w=w)(V4:s1.df=s.df:=by rfl):iK d s K a w:=by
 have hcl:∀x ∈ s.sl,x.bP s1.kn=x.bP s.kn:=λx hx=>by obtain ⟨i,hi⟩:=yU hx;exact jG.bP (hok.l8 i x hi)
 refine ⟨s1.put d v,⟨?_,?_,?_⟩,?_,?_,⟨?_,?_,?_,?_⟩,hk⟩
 ·cases d<;>exact iN
 ·cases d<;>exact fA
 ·have hl:∀(i:Nat)(u:SV),s1.sl[i]? =some u->u.j2 s1.kn.length:=λi u hu=>(hok.l8 i u (by rw [<-mP];exact hu)).mono jG.length
  cases d with
  |none=>exact hl
  |some d=>
   intro i u hu;simp only [St.put,iX] at hu;split at hu
   ·split at hu
    ·cases hu;exact hv
    ·cases hu
   ·exact hl i u hu
 ·rw [St.ahq,<-ha];have:s1.act=s.act:=by simp only [St.act,mP,V4];congr 2;exact yV hcl
  rw [this]
 ·cases d<;>exact hw
 ·cases d<;>simp [St.put,mP]
 ·intro i hi;have:(s1.put d v).sl.getD i (.val undef)=s.sl.getD i (.val undef):=by
   cases d with
   |none=>simp [St.put,mP]
   |some d=>simp only [St.put,mP];exact getD_set_ne _ _ _ _ _ (λe=>hi (by simp [e]))
  rw [this];have X2:(s1.put d v).kn=s1.kn:=by cases d<;>rfl
  rw [X2];simp only [dn]
  cases hg:s.sl[i]? with
  |none=>rfl
  |some u=>exact jG.bP (hok.l8 i u hg)
 ·cases d<;>exact jG
 ·have:(s1.put d v).df=s.df:=by cases d<;>exact V4
  rw [this];exact ⟨ak _,λ_=>rfl⟩
def wp_pure{P:Program}{s:St}{o:Oper}{K:St->Prop}{Q:Exit->Act->World->Prop}{cs:List Prop}{sv:SV}(hok:s.Ok)(h:dJ P s o.op=some (cs,sv))(hk:aN cs (K (s.put o.dst sv))):
  o.wp P s.act s.w (iK o.dst s K) Q:=by
 rw [bT] at hk;unfold Oper.wp;rw [St.eval_eq,rU h hk.1];exact kR hk.2 hok rfl (rT.refl _) hok.aX hok.ne (Fi hok h) rfl rfl
def ah(w:World)(p:Option Addr):Nat->List Value->Prop
 |_,[]=>True
 |i,[v]=>ld w (ab p i)=some v
 |i,v::u::r=>ld w (ab p i)=some v/\ah w p (i+1) (u::r)
def Jz(P:Program)(w:World)(p:Option Addr)(t:TypeId)(F:Value->Prop):Prop:=
 match rP P t with
 | .sc c=>c.ex λv=>ld w p=some v/\F v
 | .agg l=>if l.length=fK P t/\l.isEmpty=false then exL l λvs=>ah w p 0 vs/\F (.agg vs.toArray) else False
def cellsOf:Value->List Value
 | .agg cs=>cs.toList
 |v=> [v]
def qP(w:World)(a:Addr):Nat->List Value->World
 |_,[]=>w
 |i,v::r=>qP (w.setCell (a.add i) v) a (i+1) r
def bC(w:World)(p:Option Addr)(vs:List Value):World:=match p with|some a=>qP w a 0 vs|none=>w
def Wr(w:World)(p:Option Addr)(n:Nat):Prop:=∀i,i<n->∃a,p=some a/\(w.cell? (a.add i)).isSome=true/\w.frozen? (a.add i)=false
def kr:Value->List Prop
 | .agg _| .tuple _=> [False]
 |_=> []
def bN:Option Addr->Option Nat:=λp=>p.map (·.block)
def gC(kn:List KB):List Nat:=(kn.filter (·.live)).map (·.idx)
def Fj(kn:List KB)(w w':World):List Prop:=(gC kn).map λi=>w'.heap[i]? =w.heap[i]?
def Bo(kn:List KB)(p:Option Addr):List Prop:=(gC kn).map λi=>bN p≠some i
def putCells(cs:List Value)(off:Nat):List Value->List Value
 | []=>cs
 |v::r=>putCells (cs.set off v) (off+1) r
def St.qQ(s:St)(k:Nat):St:={s with kn:=s.kn.modify k λkb=>{kb with live:=false}}
def St.kill(s:St):List SV->St
 | []=>s
 | .loc k _::r| .sli k _::r=>(s.qQ k).kill r
 | .val _::r=>s.kill r
def aqh(P:Program)(t:TypeId):Bool:=match P.underlying t with|some (.array _ _)=>true|_=>false
def Bp(P:Program)(s:St)(d:Option Tmp)(t:TypeId)(cs:List Value)(K:St->Prop):Prop:=
 match aqh P t with
 |true=>∀w1,w1=s.w.alloc (.cells cs.toArray t)->K ({s with w:=w1}.put d (.val (.pointer (some ⟨s.w.heap.size,0,none⟩))))
 |false=>∀w1,w1=s.w.alloc (.cells cs.toArray t)->K ({s with w:=w1,kn:=s.kn++ [KB.mk s.w.heap.size cs t true]}.put d (.loc s.kn.length 0))
def zeroOf(P:Program)(t:TypeId):Option (List Value):=((P.info? t).bind (·.zero)).map cellsOf
section
variable {P:Program} {s:St} {o:Oper} {K:St->Prop} {Q:Exit->Act->World->Prop}
def dO{d:Option Tmp}{v:Value}(hok:s.Ok)(hk:K (s.put d (.val v))):iK d s K (s.act.put d v) s.w:=
 kR hk hok rfl (rT.refl _) hok.aX hok.ne trivial rfl rfl
def Fk(kn:List KB)(l:List KB):rT kn (kn++l):=λk kb hk=>⟨kb,by
 rw [oX (by have:=(cP.1 hk).1;exact this)];exact hk,rfl,rfl⟩
def qR(v:Value):v.cells.toList=cellsOf v:=by cases v<;>rfl
def oO(v:Value):v.cells=(cellsOf v).toArray:=by cases v<;>rfl
def Fl{d:Option Tmp}{t:TypeId}{cs:List Value}(hok:s.Ok)(hk:Bp P s d t cs K):
  iK d s K (s.act.put d (.pointer (some ⟨s.w.heap.size,0,none⟩))) (s.w.alloc (.cells cs.toArray t)):=by
 have HT:∀i,i<s.w.heap.size->(s.w.alloc (.cells cs.toArray t)).heap[i]? =s.w.heap[i]? :=λi hi=>Below.heap_alloc _ _ _ hi
 have Em:(s.w.alloc (.cells cs.toArray t)).heap[s.w.heap.size]? =some (.cells cs.toArray t (0,0)):=by show (s.w.heap.push _)[s.w.heap.size]? =_;simp
 unfold Bp at hk;split at hk
 ·have hk:=hk _ rfl;exact kR hk hok rfl (rT.refl _) (λk kb h1 h2=>by rw [<-hok.aX k kb h1 h2];exact HT _ (hok.lt k kb h1 h2)) hok.ne trivial rfl rfl
 ·have hk:=hk _ rfl;refine kR hk hok rfl (Fk _ _) (λk kb h1 h2=> ?_) (λi j x y h1 h2 h3 h4 h5=> ?_) (show s.kn.length<(s.kn++ [_]).length by simp) ?_ rfl
  ·rcases iW k s.kn.length with fD|OK
   ·simp only [oX fD] at h1;rw [<-hok.aX k kb h1 h2];exact HT _ (hok.lt k kb h1 h2)
   ·simp only [pY OK] at h1
    cases hz:k-s.kn.length with
    |zero=>simp [hz] at h1;subst h1;exact Em
    |succ n=>simp [hz] at h1
  ·have key:∀(i:Nat)(x:KB),(s.kn++ [KB.mk s.w.heap.size cs t true])[i]? =some x->(i<s.kn.length/\s.kn[i]? =some x)\/(i=s.kn.length/\x.idx=s.w.heap.size):=by
    intro i x hx;rcases iW i s.kn.length with fD|OK
    ·exact .inl ⟨fD,by rwa [oX fD] at hx⟩
    ·rw [pY OK] at hx
     cases hz:i-s.kn.length with
     |zero=>simp [hz] at hx;subst hx;exact .inr ⟨aa,rfl⟩
     |succ n=>simp [hz] at hx
   rcases key i x h1 with ⟨a1,a2⟩|⟨a1,a2⟩<;>rcases key j y h2 with ⟨b1,b2⟩|⟨b1,b2⟩
   ·exact hok.ne i j x y a2 b2 h3 h4 h5
   ·have:=hok.lt i x a2 h3;omega
   ·have:=hok.lt j y b2 h4;omega
   ·omega
  ·simp [SV.bP,dn]
def jk(ob:Obj)(w:World):(newObj ob).run P w=.ok w.heap.size (w.alloc ob):=rfl
def JA{t:TypeId}{cs:List Value}(h:zeroOf P t=some cs)(w:World):
  (Instr.alloc t true (.tuple #[])).run P w=.ok (.pointer (some ⟨w.heap.size,0,none⟩)) (w.alloc (.cells cs.toArray t)):=by
 unfold zeroOf at h
 cases hi:P.info? t with
 |none=>simp [hi] at h
 |some i=>
  cases hz:i.zero with
  |none=>simp [hi,hz] at h
  |some v=>
   simp [hi,hz] at h;subst h;simp [Instr.alloc,zeroValue,dD,hi,hz,newVar,newRow,jk,oO]
def WG{t:TypeId}{v:Value}(w:World):
  (Instr.box t v).run P w=.ok (.pointer (some ⟨w.heap.size,0,none⟩)) (w.alloc (.cells (cellsOf v).toArray t)):=by
 simp [Instr.box,newVar,newRow,jk,oO]
end
section
variable {P:Program} {s:St} {o:Oper} {K:St->Prop} {Q:Exit->Act->World->Prop}
def St.known(s:St)(k:Nat):Option KB:=match s.kn[k]? with|some kb=>(match kb.live with|true=>some kb|false=>none)|none=>none
def rV{k:Nat}{kb:KB}(h:s.known k=some kb):s.kn[k]? =some kb/\kb.live=true:=by
 unfold St.known at h;split at h
 ·split at h
  ·cases h;exact ⟨by assumption,by assumption⟩
  ·cases h
 ·cases h
def Fm(P:Program)(s:St)(d:Option Tmp)(t:TypeId)(x:SV)(K:St->Prop):Prop:=
 match x with
 | .loc k off=>match s.known k with
   |some kb=>match rP P t with
    | .sc _=>match kb.cells[off]? with|some v=>K (s.put d (.val v))|none=>False
    | .agg l=>if l.length=fK P t/\off+l.length<=kb.cells.length then K (s.put d (.val (.agg ((kb.cells.drop off).take l.length).toArray))) else False
   |none=>Jz P s.w (some ⟨(s.kn.getD k default).idx,off,none⟩) t λv=>K (s.put d (.val v))
 | .val (.pointer p)=>Jz P s.w p t λv=>K (s.put d (.val v))
 |_=>False
def mS{t:TypeId}(w:World){d:TypeDesc}(hu:P.underlying t=some d):(isAgg t).run P w=.ok (Bn P t) w:=by
 simp only [isAgg,Sem.run_bind,aA,hu,Result.andThen_ok,Bn]
 cases d<;>rfl
def OX{t:TypeId}{c:S}(h:rP P t=.sc c):Bn P t=false:=by
 unfold rP at h;split at h
 ·cases h
 ·rename_i h';simpa using h'
def Fo{t:TypeId}{l:List S}(h:rP P t=.agg l):Bn P t=true:=by
 unfold rP at h;split at h
 ·assumption
 ·cases h
def mJ{a:Addr}{w:World}:∀(n i:Nat)(acc:Array Value)(vs:List Value),vs.length=n->(∀j,j<n->w.cell? (a.add (i+j))=vs[j]?)->
  (loadCellsFrom a i n acc).run P w=.ok (acc++vs.toArray) w:=by
 intro n
 induction n with
 |zero=>intro i acc vs hl _;have:vs=[]:=tj.1 hl;subst this;simp [loadCellsFrom]
 |succ n ih=>
  intro i acc vs hl h
  cases vs with
  |nil=>simp at hl
  |cons v r=>
   have h0:=h 0 aa;simp at h0;simp only [loadCellsFrom,Sem.run_bind,run_load,h0,Result.andThen_ok];rw [ih (i+1) _ r (by simpa using hl) (λj hj=>by have:=h (j+1) aa;simpa [Nat.add_assoc,yT 1 j] using this)];simp
def mT{w:World}{p:Option Addr}:∀{i:Nat} {vs:List Value},ah w p i vs->∀j,j<vs.length->ld w (ab p (i+j))=vs[j]?
 |_,[],_,j,hj=>by simp at hj
 |i,[v],h,j,hj=>by
  have:j=0:=by simp at hj;exact hj
  subst this;exact h
 |i,v::u::r,h,j,hj=>by
  cases j with
  |zero=>exact h.1
  |succ j=>
   have:=mT h.2 j (by simpa using hj);rw [show i+(j+1)=i+1+j by omega,this];simp
def JB{t:TypeId}{p:Option Addr}{F:Value->Prop}{w:World}(hu:(P.underlying t).isSome=true)(h:Jz P w p t F):
  ∃a v,p=some a/\F v/\(Instr.loadAt t (.pointer (some a))).run P w=.ok v w:=by
 obtain ⟨d,hu⟩:=qO.1 hu;unfold Jz at h
 cases ht:rP P t with
 |sc c=>
  rw [ht] at h;obtain ⟨v,h1,h2⟩:=S.kP h
  cases p with
  |none=>simp [ld] at h1
  |some a=>
   refine ⟨a,v,rfl,h2,?_⟩;have S1:w.cell? a=some v:=h1;simp [Instr.loadAt,Instr.sureAddr,loadVar,mS w hu,OX ht,S1]
 |agg l=>
  simp only [ht] at h;split at h
  ·rename_i hl;have:∃vs,vs.length=l.length/\ah w p 0 vs/\F (.agg vs.toArray):=by
    have key:∀(l:List S)(G:List Value->Prop),exL l G->∃vs,vs.length=l.length/\G vs:=by
     intro l
     induction l with
     |nil=>intro G hG;exact ⟨[],rfl,hG⟩
     |cons c r ih=>
      rintro G ⟨x,hx⟩;obtain ⟨vs,h1,h2⟩:=ih _ hx;exact ⟨_,by simp [h1],h2⟩
    exact key l _ h
   obtain ⟨vs,e,h1,h2⟩:=this;have hi:=info_of_underlying hu;have hp:∃a,p=some a:=by
    cases p with
    |some a=>exact ⟨a,rfl⟩
    |none=>
     have h0:0<vs.length:=by
      cases l with
      |nil=>simp at hl
      |cons _ _=>simp at e;omega
     have:=mT h1 0 h0;simp [ld,ab,cO h0] at this
   obtain ⟨a,rfl⟩:=hp;refine ⟨a,_,rfl,h2,?_⟩;simp only [Instr.loadAt,Instr.sureAddr,loadVar,Sem.run_bind,Sem.run_pure,Result.andThen_ok,mS w hu,Fo ht,if_true,fg hi,loadCells];rw [mJ _ 0 #[] vs aa (λj hj=>by have:=mT h1 j aa;simpa [ld,ab] using this)];simp
  ·cases h
end
section
variable {P:Program} {s:St} {o:Oper} {K:St->Prop} {Q:Exit->Act->World->Prop}
def cell_of{w:World}{i:Nat}{c:Array Value}{t:TypeId}{f:Nat × Nat}(h:w.heap[i]? =some (.cells c t f))(j:Nat):w.cell? ⟨i,j,none⟩=c[j]? :=by simp [World.cell?,h]
def oP{w:World}{i:Nat}{c:Array Value}{t:TypeId}(h:w.heap[i]? =some (.cells c t (0,0)))(j:Nat):w.frozen? ⟨i,j,none⟩=false:=by simp [World.frozen?,h]
def oy(i o n:Nat):(⟨i,o,none⟩:Addr).add n=⟨i,o+n,none⟩:=by unfold Addr.add;split<;>simp_all
def Fp{d:Option Tmp}{t:TypeId}{x:SV}(hok:s.Ok)(hu:(P.underlying t).isSome=true)(h:Fm P s d t x K):
  ∃a v,x.bP s.kn=.pointer (some a)/\K (s.put d (.val v))/\(Instr.loadAt t (.pointer (some a))).run P s.w=.ok v s.w:=by
 unfold Fm at h;split at h
 ·rename_i k off;split at h
  ·rename_i kb KN;obtain ⟨h1,h2⟩:=rV KN;have hb:=hok.aX k kb h1 h2;have jG:(s.kn.getD k default).idx=kb.idx:=by simp [dn,h1]
   refine ⟨⟨kb.idx,off,none⟩,?_⟩;obtain ⟨dd,hu'⟩:=qO.1 hu;split at h
   ·rename_i c ht;split at h
    ·rename_i v hv;refine ⟨v,by rw [SV.bP,jG],h,?_⟩;have hc:s.w.cell? ⟨kb.idx,off,none⟩=some v:=by rw [cell_of hb];simpa using hv
     simp [Instr.loadAt,Instr.sureAddr,loadVar,mS _ hu',OX ht,hc]
    ·cases h
   ·rename_i l ht;split at h
    ·rename_i hl;refine ⟨_,by rw [SV.bP,jG],h,?_⟩;simp only [Instr.loadAt,Instr.sureAddr,loadVar,Sem.run_bind,Sem.run_pure,Result.andThen_ok,mS _ hu',Fo ht,if_true,fg (info_of_underlying hu'),loadCells];rw [mJ _ 0 #[] ((kb.cells.drop off).take l.length) smo (λj hj=>by rw [oy,cell_of hb];simp [qS,yW,show j<l.length by omega])];simp
    ·cases h
  ·obtain ⟨a,v,h1,h2,h3⟩:=JB hu h
   cases h1
   exact ⟨_,v,rfl,h2,h3⟩
 ·rename_i p;obtain ⟨a,v,h1,h2,h3⟩:=JB hu h;subst h1;exact ⟨a,v,rfl,h2,h3⟩
 ·cases h
def Lf(P:Program)(s:St)(d:Option Tmp)(t:TypeId)(x v:SV)(K:St->Prop):Prop:=
 let vs:=cellsOf (v.bP s.kn)
 aN (vs.flatMap kr)<|if vs.length=fK P t then
  match x with
  | .loc k off=>match s.known k with
    |some kb=>if off+vs.length<=kb.cells.length then
     ∀w1,w1=s.w.setRow kb.idx (putCells kb.cells off vs).toArray->K ((({s with w:=w1,kn:=s.kn.modify k λb=>{b with cells:=putCells kb.cells off vs}}).kill [v]).put d (.val undef)) else False
    |none=>Wr s.w (some ⟨(s.kn.getD k default).idx,off,none⟩) vs.length/\aN (Bo s.kn (some ⟨(s.kn.getD k default).idx,off,none⟩)) (∀w1,w1=bC s.w (some ⟨(s.kn.getD k default).idx,off,none⟩) vs->K ((({s with w:=w1}).kill [v]).put d (.val undef)))
  | .val (.pointer p)=>(p.isSome=true/\Wr s.w p vs.length)/\aN (Bo s.kn p) (∀w1,w1=bC s.w p vs->K ((({s with w:=w1}).kill [v]).put d (.val undef)))
  |_=>False
 else False
def ed:∀(vs:List Value)(cs:List Value)(off:Nat),off+vs.length<=cs.length->putCells cs off vs=cs.take off++vs++cs.drop (off+vs.length)
 | [],cs,off,_=>by simp [putCells]
 |v::r,cs,off,h=>by
  simp only [cD] at h
  rw [putCells,ed r _ _ smo]
  have h1:(cs.set off v).take (off+1)=cs.take off++ [v]:=by
   apply jK;intro j;simp only [qS,iX,List.getElem?_append,cK];rcases Nat.lt_trichotomy j off with hj|hj|hj
   ·simp [hj,show j<off+1 by omega,show ¬off=j by omega,show j<min off cs.length by omega]
   ·subst hj;simp [show j<cs.length by omega,show ¬j<min j cs.length by omega,show j-min j cs.length=0 by omega]
   ·simp [show ¬j<off+1 by omega,show ¬j<min off cs.length by omega,show ¬j<off by omega];have:j-min off cs.length≠0:=by omega
    cases hz:j-min off cs.length with
    |zero=>omega
    |succ n=>simp
  have h2:(cs.set off v).drop (off+1+r.length)=cs.drop (off+(r.length+1)):=by apply jK;intro j;simp only [yW,iX];simp [show ¬off=off+1+r.length+j by omega];congr 1;omega
  rw [h1,h2];simp
def dc(vs:List Value):∀(cs:List Value)(off:Nat),(putCells cs off vs).length=cs.length:=by
 induction vs with
 |nil=>intro cs off;rfl
 |cons v r ih=>intro cs off;rw [putCells,ih];simp
def WH{vs:List Value}(h:∀p ∈ vs.flatMap kr,p):∀v ∈ vs,v.oneCell'=true:=by
 intro v hv
 cases v with
 |agg c=>exact (h False (List.mem_flatMap.2 ⟨_,hv,by simp [kr]⟩)).elim
 |tuple c=>exact (h False (List.mem_flatMap.2 ⟨_,hv,by simp [kr]⟩)).elim
 |_=>rfl
def gV(a:Addr):∀(vs:List Value)(i:Nat)(w:World),(∀v ∈ vs,v.oneCell'=true)->
  (∀j,j<vs.length->(w.cell? (a.add (i+j))).isSome=true/\w.frozen? (a.add (i+j))=false)->(storeCells a vs i).run P w=.ok () (qP w a i vs)
 | [],i,w,_,_=>rfl
 |v::r,i,w,h1,h2=>by
  obtain ⟨u,hu⟩:=qO.1 (h2 0 bo).1
  have hf:=(h2 0 bo).2
  simp only [Nat.add_zero] at hu hf
  simp only [storeCells,Sem.run_bind,run_store P w _ v _ (h1 v bo),hu,hf]
  simp only [Bool.false_eq_true,if_false,Result.andThen_ok,qP]
  refine gV a r (i+1) _ (λv hv=>h1 v (by simp [hv])) (λj hj=> ?_)
  have:=h2 (j+1) (by simpa using hj)
  rw [show i+(j+1)=i+1+j by omega] at this
  refine ⟨?_,by rw [World.frozen?_setCell];exact this.2⟩
  by_cases e:a.add i=a.add (i+1+j)
  ·rw [<-e,World.cell?_setCell_same _ _ _ hu];rfl
  ·rw [World.cell?_setCell_other _ _ _ _ e];exact this.1
def OY{s:St}(hok:s.Ok)(k:Nat):(s.qQ k).Ok/\(s.qQ k).sl=s.sl/\(s.qQ k).w=s.w/\rT s.kn (s.qQ k).kn/\(s.qQ k).kn.length=s.kn.length:=by
 have key:∀(i:Nat)(x:KB),(s.qQ k).kn[i]? =some x->x.live=true->s.kn[i]? =some x:=by
  intro i x hx hl;simp only [St.qQ,CK] at hx;split at hx
  ·cases hy:s.kn[i]? with
   |none=>simp [hy] at hx
   |some y=>simp [hy] at hx;subst hx;simp at hl
  ·cases hy:s.kn[i]? with
   |none=>simp [hy] at hx
   |some y=>simpa [hy] using hx
 refine ⟨⟨λi x h1 h2=>hok.aX i x (key i x h1 h2) h2,λi j x y h1 h2 h3 h4 h5=>hok.ne i j x y (key i x h1 h3) (key j y h2 h4) h3 h4 h5,?_⟩,rfl,rfl,?_,by simp [St.qQ]⟩
 ·intro i v hv;have:=hok.l8 i v hv;simpa [St.qQ] using this
 ·intro i x hx;refine ⟨if k=i then {x with live:=false} else x,?_,by split<;>rfl,by split<;>rfl⟩;simp only [St.qQ,CK,hx];split<;>rfl
def fy:∀(l:List SV) {s:St},s.Ok->(s.kill l).Ok/\(s.kill l).sl=s.sl/\(s.kill l).w=s.w/\rT s.kn (s.kill l).kn/\(s.kill l).kn.length=s.kn.length
 | [],s,h=>⟨h,rfl,rfl,rT.refl _,rfl⟩
 | .val _::r,s,h=>fy r h
 | .loc k _::r,s,h=>by
   obtain ⟨a1,a2,a3,a4,a5⟩:=OY h k
   obtain ⟨b1,b2,b3,b4,b5⟩:=fy r a1
   exact ⟨b1,b2.trans a2,b3.trans a3,a4.trans b4,b5.trans a5⟩
 | .sli k _::r,s,h=>by
   obtain ⟨a1,a2,a3,a4,a5⟩:=OY h k
   obtain ⟨b1,b2,b3,b4,b5⟩:=fy r a1
   exact ⟨b1,b2.trans a2,b3.trans a3,a4.trans b4,b5.trans a5⟩
def oz:∀(l:List SV)(s:St),(s.kill l).df=s.df
 | [],_=>rfl
 | .val _::r,s=>oz r s
 | .loc k _::r,s=>oz r (s.qQ k)
 | .sli k _::r,s=>oz r (s.qQ k)
def ki{d:Option Tmp}{a:Act}{w:World}{s1:St}{v:SV}(hk:K (s1.put d v))(hok:s.Ok)(h1:s1.Ok)(mP:s1.sl=s.sl)(jG:rT s.kn s1.kn)
  (hv:v.j2 s1.kn.length)(ha:s.act.put d (v.bP s1.kn)=a)(hw:s1.w=w)(V4:s1.df=s.df:=by first|rfl|exact oz _ _):iK d s K a w:=
 kR hk hok mP jG h1.aX h1.ne hv ha hw V4
def mU{s:St}(hok:s.Ok){w':World}(h:∀p ∈ Fj s.kn s.w w',p):({s with w:=w'}:St).Ok:=by refine ⟨λk kb h1 h2=> ?_,hok.ne,hok.l8⟩;rw [<-hok.aX k kb h1 h2];refine h _ (bf.2 ⟨kb.idx,?_,rfl⟩);exact bf.2 ⟨kb,j3.2 ⟨aQ h1,h2⟩,rfl⟩
def Lg{d:Option Tmp}{t:TypeId}{x v:SV}(hok:s.Ok)(hi:(P.info? t).isSome=true)(h:Lf P s d t x v K):
  ∃a w',x.bP s.kn=.pointer (some a)/\(Instr.storeAt t (.pointer (some a)) (v.bP s.kn)).run P s.w=.ok () w'/\iK d s K (s.act.put d undef) w':=by
 unfold Lf at h;simp only [bT] at h;obtain ⟨HU,h⟩:=h;have HU:=WH HU;split at h
 case isFalse=>cases h
 rename_i nE;have tf:∀(a:Addr)(w':World),(storeCells a (cellsOf (v.bP s.kn)) 0).run P s.w=.ok () w'->(Instr.storeAt t (.pointer (some a)) (v.bP s.kn)).run P s.w=.ok () w':=by
  intro a w' hw;have:(v.bP s.kn).cells.size=fK P t:=by rw [oO,<-nE];simp
  simp only [Instr.storeAt,Instr.sureAddr,storeVar,Sem.run_bind,Sem.run_pure,Result.andThen_ok,fg hi,this,ne_eq,not_true_eq_false,if_false,qR];exact hw
 have aqY:∀(p:Option Addr),x.bP s.kn=.pointer p->p.isSome=true->Wr s.w p (cellsOf (v.bP s.kn)).length->(∀q ∈ Bo s.kn p,q)->
   K ((({s with w:=bC s.w p (cellsOf (v.bP s.kn))}).kill [v]).put d (.val undef))->
   ∃a w',x.bP s.kn=.pointer (some a)/\(Instr.storeAt t (.pointer (some a)) (v.bP s.kn)).run P s.w=.ok () w'/\iK d s K (s.act.put d undef) w':=by
  intro p hx hp hwr hap hk;obtain ⟨a,rfl⟩:=qO.1 hp;have iN:∀(vs:List Value)(w:World)(i k:Nat),k≠a.block->(qP w a i vs).heap[k]? =w.heap[k]? :=by
   intro vs
   induction vs with
   |nil=>intro w i k _;rfl
   |cons u r ih=>
    intro w i k hk;rw [qP,ih _ _ _ hk];exact Below.heap_setCell _ _ _ _ (by unfold Addr.add;split<;>exact hk)
  have kJ:({s with w:=qP s.w a 0 (cellsOf (v.bP s.kn))}:St).Ok:=by
   refine mU hok λq hq=> ?_
   obtain ⟨i,hi,rfl⟩:=bf.1 hq;refine iN _ _ _ _ ?_;have:=hap (bN (some a)≠some i) (bf.2 ⟨i,hi,rfl⟩);intro e;exact this (by simp [bN,e])
  obtain ⟨k1,k2,k3,k4,k5⟩:=fy [v] kJ;refine ⟨a,_,hx,tf a _ (gV a _ 0 _ HU λj hj=> ?_),ki hk hok k1 k2 k4 trivial rfl k3⟩;obtain ⟨a',e,h1,h2⟩:=hwr j hj
  cases e
  simp only [eK];exact ⟨h1,h2⟩
 split at h
 ·rename_i k off;split at h
  ·rename_i kb KN;split at h
   case isFalse=>cases h
   rename_i db;obtain ⟨h1,h2⟩:=rV KN;have hb:=hok.aX k kb h1 h2;have jG:(s.kn.getD k default).idx=kb.idx:=by simp [dn,h1]
   have dh:∀j,j≠kb.idx->(s.w.setRow kb.idx (putCells kb.cells off (cellsOf (v.bP s.kn))).toArray).heap[j]? =s.w.heap[j]? :=by intro j hj;simp only [World.setRow,Array.getElem?_modify,if_neg (Ne.symm hj)]
   have kJ:({s with w:=s.w.setRow kb.idx (putCells kb.cells off (cellsOf (v.bP s.kn))).toArray,kn:=s.kn.modify k λb=>{b with cells:=putCells kb.cells off (cellsOf (v.bP s.kn))}}:St).Ok:=by
    have key:∀(i:Nat)(y:KB),(s.kn.modify k λb=>{b with cells:=putCells kb.cells off (cellsOf (v.bP s.kn))})[i]? =some y->∃z,s.kn[i]? =some z/\y.idx=z.idx/\y.live=z.live/\y.ty=z.ty/\(i≠k->y=z)/\(i=k->y.cells=putCells kb.cells off (cellsOf (v.bP s.kn))):=by
     intro i y hy;simp only [CK] at hy;split at hy
     ·rename_i e;subst e;rw [h1] at hy;simp at hy;subst hy;exact ⟨kb,h1,rfl,rfl,rfl,λe=>absurd rfl e,λ_=>rfl⟩
     ·rename_i e
      cases hz:s.kn[i]? with
      |none=>simp [hz] at hy
      |some z=>simp [hz] at hy;subst hy;exact ⟨_,rfl,rfl,rfl,rfl,λ_=>rfl,λe'=>absurd e'.symm e⟩
    refine ⟨λi y hy hl=> ?_,λi j x y hx hy l1 l2 e=> ?_,λi u hu=>by simpa using hok.l8 i u hu⟩
    ·obtain ⟨z,z1,z2,z3,z4,z5,z6⟩:=key i y hy;by_cases e:i=k
     ·subst e;rw [h1] at z1;cases z1;rw [z6 rfl,z2,z4];exact setRow_heap _ _ _ _ _ _ hb
     ·have:=z5 e;subst this;have fA:y.idx≠kb.idx:=λe'=>e (hok.ne i k y kb z1 h1 hl h2 e')
      show (s.w.setRow _ _).heap[_]? =_;rw [dh _ fA];exact hok.aX i y z1 hl
    ·obtain ⟨z,z1,z2,z3,_⟩:=key i x hx;obtain ⟨z',z1',z2',z3',_⟩:=key j y hy;exact hok.ne i j z z' z1 z1' (by rw [<-z3];exact l1) (by rw [<-z3'];exact l2) (by rw [<-z2,<-z2'];exact e)
   have aqZ:rT s.kn (s.kn.modify k λb=>{b with cells:=putCells kb.cells off (cellsOf (v.bP s.kn))}):=by intro i y hy;refine ⟨if k=i then {y with cells:=putCells kb.cells off (cellsOf (v.bP s.kn))} else y,?_,by split<;>rfl,by split<;>rfl⟩;simp only [CK,hy];split<;>rfl
   obtain ⟨k1,k2,k3,k4,k5⟩:=fy [v] kJ;have h:=h _ rfl;refine ⟨⟨kb.idx,off,none⟩,_,by rw [SV.bP,jG],tf _ _ ?_,ki h hok k1 k2 (aqZ.trans k4) trivial rfl k3⟩;rw [run_storeCells_at P kb.idx off kb.ty _ 0 _ _ hb (by simpa using db) HU];rw [ed _ _ _ db];simp
  ·obtain ⟨h1,h2⟩:=h;exact aqY _ rfl rfl h1 h2.1 (h2.2 _ rfl)
 ·rename_i p;obtain ⟨h1,h2⟩:=h;exact aqY p rfl h1.1 h1.2 h2.1 (h2.2 _ rfl)
 ·cases h
end
section
variable {P:Program} {s:St} {o:Oper} {K:St->Prop} {Q:Exit->Act->World->Prop}
def Rd(w:World)(p:Option Addr)(vs:List Value):Prop:=∀i v,vs[i]? =some v->ld w (ab p i)=some v
def One(vs:List Value):Prop:=∀u ∈ vs,u.oneCell'=true
structure aY(bytes size:Nat)(w:World)(sl:Sl)(n:Nat)(news:List Value):Prop where
 fits:sl.n+n<=sl.c->Wr w (ab sl.a (sl.n*size)) news.length
 fV:sl.c<sl.n+n->∃fV:List Value,fV.length=sl.n*size/\Rd w sl.a fV
 room:sl.c<sl.n+n->Builtin.nextslicecap (sl.n+n) sl.c*bytes<=281474976710656/\((sl.n+n:Nat):Int)<=9223372036854775807
 len:news.length=n*size
 one:One news
inductive aT(E size:Nat)(w:World)(sl:Sl)(n:Nat)(news:List Value):Sl->World->Prop
 |fits (h:sl.n+n<=sl.c):aT E size w sl n news ⟨sl.a,sl.n+n,sl.c⟩ (bC w (ab sl.a (sl.n*size)) news)
 |grows (h:sl.c<sl.n+n) (fV rest:List Value) (cap:Nat) (h1:fV.length=sl.n*size) (h2:Rd w sl.a fV) (h3:sl.n+n<=cap) (h4:(fV++news++rest).length=cap*size):
  aT E size w sl n news ⟨some ⟨w.heap.size,0,none⟩,sl.n+n,cap⟩ (w.drew.alloc (.cells (fV++news++rest).toArray E))
def oY(P:Program)(t:TypeId):Option (TypeId × TypeInfo):=match P.underlying t with|some (.slice e)=>(P.info? e).map λi=>(e,i)|_=>none
def WI(P:Program)(tx:TypeId):Bool:=match P.underlying tx with|some (.slice _)=>true|_=>false
def grownCap_ge{w:World}{need c:Nat}{e:TypeId}(h:((need:Nat):Int)<=9223372036854775807):need<=grownCap w need c e:=by simp only [grownCap,Question.cut];omega
def bF(z:List Value)(n:Nat):List Value:=(List.replicate n z).flatten
def kS(z:List Value)(n:Nat):(bF z n).length=n*z.length:=by simp [bF]
def yX(z:List Value):∀(n i:Nat),i<n*z.length->(bF z n)[i]? =z[i % z.length]?
 |0,i,h=>by omega
 |n+1,i,h=>by
  have e:bF z (n+1)=z++bF z n:=by simp [bF,List.replicate_succ]
  rw [e];rcases iW i z.length with hi|hi
  ·rw [oX hi,Nat.mod_eq_of_lt hi]
  ·rw [OZ] at h;rw [pY hi,yX z n _ aa,Nat.mod_eq_sub_mod hi]
def yY(z:Array Value)(m:Nat)(n:Nat)(hm:m=n*z.size):((Array.range m).map λi=>z[i % z.size]!).toList=bF z.toList n:=by
 subst hm;apply jK;intro i;rcases iW i (n*z.size) with hi|hi
 ·rw [yX _ _ _ (by simpa using hi)];have hz:0<z.size:=by
   rcases Fq z.size with h|h
   ·rw [h] at hi;omega
   ·exact h
  have fD:i % z.size<z.size:=Nat.mod_lt _ hz;simp [Fu hi,fD]
 ·rw [j4 (by simpa using hi),j4 (by rw [kS];simpa using hi)]
def oA(z:Array Value)(n:Nat):(Builtin.zeroCells z n).toList=bF z.toList n:=yY z (n*z.size) n rfl
def O0{t tx ty e:TypeId}{i:TypeInfo}{z:Value}{k k':IntKind}{x:Int}{a:Option Addr}{l c:Nat}{w:World}(ht:P.underlying t=some (.slice e))(hi:P.info? e=some i)(hz:i.zero=some z)
  (TM:(cellsOf z).length=i.size)(hux:P.underlying tx=some (.int k'))(h0:0<=x)(hx:IntKind.wrap .i64 x=x)(h48:x*i.bytes<=2 ^ 48)(hp:aY i.bytes i.size w ⟨a,l,c⟩ x.toNat (bF (cellsOf z) x.toNat)):
  ∃(sl:Sl)(w':World),aT e i.size w ⟨a,l,c⟩ x.toNat (bF (cellsOf z) x.toNat) sl w'/\(Builtin.append_ #[t,tx] ty #[.slice a l c,.int k x]).run P w=.ok (sl) w':=by
 obtain ⟨n,hn⟩:∃n,n=x.toNat:=⟨_,rfl⟩;rw [<-hn] at hp ⊢;have hxn:x=(n:Int):=by omega
 have fD:¬((n:Int)<0):=by omega
 have aEm:¬((n:Int)*i.bytes>2 ^ 48):=by rw [<-hxn];omega
 have hz6:z.cells.size=i.size:=by rw [oO,<-TM];simp
 have hnews:∀w:World,(if n*i.size=0 then (pure #[]:Sem (Array Value)) else do pure (Builtin.zeroCells (<-zeroValue e).cells n)).run P w=.ok (bF (cellsOf z) n).toArray w:=by
  intro w;split
  ·rename_i h0;have:bF (cellsOf z) n=[]:=tj.1 (by rw [kS,TM];exact h0);rw [this];rfl
  ·simp only [Sem.run_bind,zeroValue,dD,hi,Result.andThen_ok,hz,Sem.run_pure];congr 1;apply Array.ext';rw [oA,qR]
 have hwx:IntKind.wrap .i64 (n:Int)=(n:Int):=by rw [<-hxn];exact hx
 rcases iW c (l+n) with hg|hroom
 ·obtain ⟨fV,h1,h2⟩:=hp.fV hg;obtain ⟨h3,h4⟩:=hp.room hg;dsimp only at h1 h2 h3 h4;refine ⟨_,_,.grows hg fV (Builtin.zeroCells z.cells (grownCap w (l+n) c e-(l+n))).toList (grownCap w (l+n) c e) h1 h2 (grownCap_ge h4) ?_,?_⟩
  ·have h5:=grownCap_ge (w:=w) (c:=c) (e:=e) h4;have S1:fV.length=l*i.size:=h1;simp only [bY,S1,hp.len,Builtin.zeroCells,Array.length_toList,Array.size_map,Array.size_range,hz6];rw [<-pZ,<-pZ];congr 1;omega
  ·have HT:(Builtin.firstCells i.size l (.slice a l c)).run P w.drew=.ok fV.toArray w.drew:=by
    cases a with
    |none=>
     have:fV=[]:=by
      cases fV with
      |nil=>rfl
      |cons v r=>have:=h2 0 v rfl;simp [ld,ab] at this
     subst this;exact run_firstCells_none w.drew i.size l l c
    |some a=>exact run_firstCells_some w.drew i.size l a l c fV h1 (λj u hj=>by have:=h2 j u hj;simpa [ld,ab] using this)
   have hn':¬(l+n<=c):=by omega
   have aq0:¬(9223372036854775807<((l:Int)+(n:Int))):=by omega
   have h48b:¬(281474976710656<Builtin.nextslicecap (l+n) c*i.bytes):=by omega
   have h48c:¬(281474976710656<(n:Int)*i.bytes):=by omega
   have hnd:=hnews w.drew;rw [hxn];by_cases Eo:n*i.size=0
   ·rw [if_pos Eo] at hnd;have he:bF (cellsOf z) n=[]:=by have:=congrArg (λr:Result (Array Value)=>match r with| .ok v _=>v|_=> #[.bool true]) hnd;simpa using this.symm
    simp [Builtin.append_,run_underlying ht,run_underlying hux,sizeOf,typeInfo,zeroValue,hi,hz,asInt,asIntOf,hwx,hn',aq0,h48b,h48c,Question.forced,Eo,fD,HT,newRow,grownCap,he];congr 2;apply Array.ext';simp
   ·simp [Builtin.append_,run_underlying ht,run_underlying hux,sizeOf,typeInfo,zeroValue,hi,hz,asInt,asIntOf,hwx,hn',aq0,h48b,h48c,Question.forced,Eo,fD,HT,newRow,grownCap];congr 2;apply Array.ext';simp [oA,qR]
 ·refine ⟨_,_,.fits hroom,?_⟩;have hw:=hp.fits hroom;have hnd:=hnews w;have h48c:¬(281474976710656<(n:Int)*i.bytes):=by omega
  rw [hxn]
  cases a with
  |none=>
   by_cases Eo:n*i.size=0
   ·simp [Builtin.append_,run_underlying ht,run_underlying hux,sizeOf,typeInfo,hi,hroom,asInt,asIntOf,hwx,Eo,fD,h48c,ab,bC]
   ·simp [Builtin.append_,run_underlying ht,run_underlying hux,sizeOf,typeInfo,zeroValue,hi,hz,hroom,asInt,asIntOf,hwx,Eo,fD,h48c,ab,bC]
  |some a=>
   have gy:=gV (P:=P) (a.add (l*i.size)) (bF (cellsOf z) n) 0 w hp.one (λj hj=>by obtain ⟨a',e1,e2⟩:=hw j hj;simp only [ab,mV,Option.some.injEq] at e1;subst e1;simpa using e2);by_cases Eo:n*i.size=0
   ·have he:bF (cellsOf z) n=[]:=tj.1 (by rw [kS,TM];exact Eo);rw [he] at gy;simp [Builtin.append_,run_underlying ht,run_underlying hux,sizeOf,typeInfo,hi,hroom,asInt,asIntOf,hwx,Eo,fD,h48c,ab,bC,he,gy]
   ·have hzc:(Builtin.zeroCells z.cells n).toList=bF (cellsOf z) n:=by rw [oA,qR]
    simp [Builtin.append_,run_underlying ht,run_underlying hux,sizeOf,typeInfo,zeroValue,hi,hz,hroom,asInt,asIntOf,hwx,Eo,fD,h48c,ab,bC,hzc,gy]
def TY(P:Program)(t:TypeId):Bool:=match P.underlying t with|some (.int _)=>true|_=>false
def O1{t:TypeId}(h:TY P t=true):∃k,P.underlying t=some (.int k):=by
 unfold TY at h;split at h
 ·rename_i k hu;exact ⟨k,hu⟩
 ·cases h
def Fv(P:Program)(s:St)(d:Option Tmp)(t tx:TypeId)(sx x:SV)(K:St->Prop):Prop:=
 match oY P t with
 |none=>False
 |some (e,i)=>match i.zero with
  |none=>False
  |some z=>if (cellsOf z).length=i.size then
   match sx.bP s.kn with
   | .slice a n c=>
     let body (m:Nat) (news:List Value):Prop:=aY i.bytes i.size s.w ⟨a,n,c⟩ m news/\
      ∀(sl:Sl)(w':World),aT e i.size s.w ⟨a,n,c⟩ m news sl w'->aN (Fj s.kn s.w w') (K ({s with w:=w'}.put d (.val (sl))))
     match x with
     | .sli k m=>match WI P tx with
       |true=>(match s.known k with
        |some kb=>body m kb.cells
        |none=>False)
       |false=>False
     | .val (.slice b m _)=>match WI P tx with
       |true=>∃news,Rd s.w b news/\body m news
       |false=>False
     | .val (.string st)=>match isStr P tx with
       |true=>body st.size (byteCells st)
       |false=>False
     | .val (.int _ x)=>match TY P tx with
       |true=>(0<=x/\IntKind.wrap .i64 x=x/\x*i.bytes<=281474976710656)/\body x.toNat (bF (cellsOf z) x.toNat)
       |false=>False
     |_=>False
   |_=>False
   else False
def TZ{t tx ty e:TypeId}{i:TypeInfo}{z:Value}{x:Value}{n:Nat}{news:List Value}{a:Option Addr}{l c:Nat}{w:World}(ht:P.underlying t=some (.slice e))(hi:P.info? e=some i)(hz:i.zero=some z)
  (TM:(cellsOf z).length=i.size)(hs:Src P i.size tx x n news w)(hp:aY i.bytes i.size w ⟨a,l,c⟩ n news):
  ∃(sl:Sl)(w':World),aT e i.size w ⟨a,l,c⟩ n news sl w'/\(Builtin.append_ #[t,tx] ty #[.slice a l c,x]).run P w=.ok (sl) w':=by
 rcases iW c (l+n) with hg|hroom
 ·obtain ⟨fV,h1,h2⟩:=hp.fV hg;obtain ⟨h3,h4⟩:=hp.room hg;dsimp only at h1 h2 h3 h4;refine ⟨_,_,.grows hg fV (Builtin.zeroCells z.cells (grownCap w (l+n) c e-(l+n))).toList (grownCap w (l+n) c e) h1 h2 (grownCap_ge h4) ?_,?_⟩
  ·have h5:=grownCap_ge (w:=w) (c:=c) (e:=e) h4;have h6:z.cells.size=i.size:=by rw [oO,<-TM];simp
   have S1:fV.length=l*i.size:=h1;simp only [bY,S1,hp.len,Builtin.zeroCells,Array.length_toList,Array.size_map,Array.size_range,h6];rw [<-pZ,<-pZ];congr 1;omega
  ·have HT:(Builtin.firstCells i.size l (.slice a l c)).run P w.drew=.ok fV.toArray w.drew:=by
    cases a with
    |none=>
     have:fV=[]:=by
      cases fV with
      |nil=>rfl
      |cons v r=>have:=h2 0 v rfl;simp [ld,ab] at this
     subst this;exact run_firstCells_none w.drew i.size l l c
    |some a=>exact run_firstCells_some w.drew i.size l a l c fV h1 (λj u hj=>by have:=h2 j u hj;simpa [ld,ab] using this)
   rw [run_append_grow_src w t tx ty e i z ht hi hz a l c fV HT x n news hs hg h4 h3];congr 3;apply Array.ext';simp
 ·refine ⟨_,_,.fits hroom,?_⟩;have hw:=hp.fits hroom
  cases a with
  |none=>
   rcases hs.kind with ⟨e',hk⟩|hk<;>simp [Builtin.append_,run_underlying ht,run_underlying hk,sizeOf,typeInfo,hi,hs.len,hroom,hs.cells,ab,bC]
  |some a=>
   have gy:=gV (P:=P) (a.add (l*i.size)) news 0 w hs.one (λj hj=>by obtain ⟨a',e1,e2⟩:=hw j hj;simp only [ab,mV,Option.some.injEq] at e1;subst e1;simpa using e2);rcases hs.kind with ⟨e',hk⟩|hk<;>simp [Builtin.append_,run_underlying ht,run_underlying hk,sizeOf,typeInfo,hi,hs.len,hroom,hs.cells,ab,bC,gy]
def j5{t e:TypeId}{i:TypeInfo}(h:oY P t=some (e,i)):P.underlying t=some (.slice e)/\P.info? e=some i:=by
 unfold oY at h;split at h
 ·rename_i e' hu
  cases hi:P.info? e' with
  |none=>simp [hi] at h
  |some j=>simp [hi] at h;obtain ⟨rfl,rfl⟩:=h;exact ⟨hu,hi⟩
 ·cases h
def Fx{t:TypeId}(h:WI P t=true):∃e,P.underlying t=some (.slice e):=by
 unfold WI at h;split at h
 ·rename_i e hu;exact ⟨e,hu⟩
 ·cases h
def Im{d:Option Tmp}{t tx ty:TypeId}{sx x:SV}(hok:s.Ok)(h:Fv P s d t tx sx x K):
  ∃v w',(Builtin.append_ #[t,tx] ty #[sx.bP s.kn,x.bP s.kn]).run P s.w=.ok v w'/\iK d s K (s.act.put d v) w':=by
 unfold Fv at h;split at h
 ·cases h
 rename_i e i he;obtain ⟨ht,hi⟩:=j5 he;split at h
 ·cases h
 rename_i z hz;split at h
 case isFalse=>cases h
 rename_i TM;split at h
 ·rename_i a l c hsx;rw [hsx];simp only at h;have main:∀(m:Nat)(news:List Value),Src P i.size tx (x.bP s.kn) m news s.w->aY i.bytes i.size s.w ⟨a,l,c⟩ m news->
    (∀(sl:Sl)(w':World),aT e i.size s.w ⟨a,l,c⟩ m news sl w'->aN (Fj s.kn s.w w') (K ({s with w:=w'}.put d (.val (sl)))))->
    ∃v w',(Builtin.append_ #[t,tx] ty #[.slice a l c,x.bP s.kn]).run P s.w=.ok v w'/\iK d s K (s.act.put d v) w':=by
   intro m news hs hp hk;obtain ⟨sl,w',h1,h2⟩:=TZ (ty:=ty) ht hi hz TM hs hp;have h3:=hk sl w' h1;rw [bT] at h3;exact ⟨_,w',h2,ki h3.2 hok (mU hok h3.1) rfl (rT.refl _) trivial rfl rfl⟩
  split at h
  ·rename_i k m;split at h
   ·rename_i abe;split at h
    ·rename_i kb KN;obtain ⟨h1,h2⟩:=rV KN;have hb:=hok.aX k kb h1 h2;obtain ⟨e',hu⟩:=Fx abe;refine main m kb.cells ?_ h.1 h.2;have jG:(s.kn.getD k default).idx=kb.idx:=by simp [dn,h1]
     rw [SV.bP,jG];refine Src.ofSlice _ hu _ _ _ _ h.1.len (λj u hj=> ?_) h.1.one;rw [oy,cell_of hb];simpa using hj
    ·cases h
   ·cases h
  ·rename_i b m c';split at h
   ·rename_i abe;obtain ⟨news,hr,h1,h2⟩:=h;obtain ⟨e',hu⟩:=Fx abe;refine main m news ?_ h1 h2
    cases b with
    |none=>
     have hn:news=[]:=by
      cases news with
      |nil=>rfl
      |cons v r=>have:=hr 0 v rfl;simp [ld,ab] at this
     subst hn;exact ⟨.inl ⟨e',hu⟩,λ_=>rfl,run_firstCells_none s.w i.size m m c',run_firstCells_none s.w.drew i.size m m c',h1.len,h1.one⟩
    |some b=>exact Src.ofSlice _ hu _ _ _ _ h1.len (λj u hj=>by have:=hr j u hj;simpa [ld,ab] using this) h1.one
   ·cases h
  ·rename_i st;split at h
   ·rename_i abe;have h1:=h.1.len;rw [byteCells_length] at h1;have hss:i.size=1\/st.size=0:=by
     rcases Fq st.size with h0|h0
     ·exact .inr h0
     ·left;have:st.size*i.size=st.size*1:=by omega
      exact Nat.eq_of_mul_eq_mul_left h0 this
    refine main st.size _ ?_ h.1 h.2;rcases hss with h3|h3
    ·rw [h3];exact Src.ofString s.w (oW abe) st
    ·refine ⟨.inr (oW abe),λ_=>rfl,?_,?_,h.1.len,h.1.one⟩<;>
     ·have:byteCells st=[]:=tj.1 (by rw [byteCells_length,h3]);rw [this];simp only [SV.bP,Builtin.firstCells,h3];simp
   ·cases h
  ·rename_i k x;split at h
   ·rename_i hint;obtain ⟨k',hux⟩:=O1 hint;obtain ⟨⟨g1,g2,g3⟩,hp,hk⟩:=h;obtain ⟨sl,w',h1,h2⟩:=O0 (ty:=ty) (k:=k) ht hi hz TM hux g1 g2 aa hp;have h3:=hk sl w' h1;rw [bT] at h3;exact ⟨_,w',h2,ki h3.2 hok (mU hok h3.1) rfl (rT.refl _) trivial rfl rfl⟩
   ·cases h
  ·cases h
 ·cases h
def T3(P:Program)(s:St)(d:Option Tmp)(t:TypeId)(l c:Value)(K:St->Prop):Prop:=
 match oY P t,l,c with
 |some (e,i),.int _ l,.int _ c=>match i.zero with
  |some z=>if (cellsOf z).length=i.size then (0<=l/\l<=c/\c<=140737488355328/\c*i.bytes<=140737488355328)/\
   ∀w1,w1=s.w.alloc (.cells (bF (cellsOf z) c.toNat).toArray e)->K ({s with w:=w1}.put d (.val (.slice (some ⟨s.w.heap.size,0,none⟩) l.toNat c.toNat))) else False
  |none=>False
 |_,_,_=>False
def O2{d:Option Tmp}{t:TypeId}{l c:Value}(hok:s.Ok)(h:T3 P s d t l c K):∃v w',(Instr.makeSlice t l c).run P s.w=.ok v w'/\iK d s K (s.act.put d v) w':=by
 unfold T3 at h;split at h
 ·rename_i e i _ l _ c he;obtain ⟨ht,hi⟩:=j5 he;split at h
  ·rename_i z hz;split at h
   case isFalse=>cases h
   rename_i TM;obtain ⟨⟨h0,h1,h2,h3⟩,hk⟩:=h;have hk:=hk _ rfl;have hwl:IntKind.wrap .i64 l=l:=by unfold IntKind.wrap;simp only [IntKind.bits,IntKind.signed];simp only [oZ];split<;>simp_all<;>omega
   have hwc:IntKind.wrap .i64 c=c:=by unfold IntKind.wrap;simp only [IntKind.bits,IntKind.signed];simp only [oZ];split<;>simp_all<;>omega
   have hz6:z.cells.size=i.size:=by rw [oO,<-TM];simp
   refine ⟨.slice (some ⟨s.w.heap.size,0,none⟩) l.toNat c.toNat,s.w.alloc (.cells (bF (cellsOf z) c.toNat).toArray e),?_,?_⟩
   ·have e1:¬(c<0):=by omega
    have e2:¬(l<0):=by omega
    have e3:¬(c<l):=by omega
    have e4:¬(281474976710656<(i.bytes:Int)*c):=by rw [Int.mul_comm];omega
    have e5:¬(140737488355328<c.toNat*i.bytes):=by
     have:((c.toNat*i.bytes:Nat):Int)=c*i.bytes:=by rw [Int.natCast_mul];congr 1;omega
     omega
    have hcells:∀zz:Array Value,(zz=z.cells\/c.toNat*i.size=0)->((Array.range (c.toNat*i.size)).map λj=>zz[j % zz.size]!)=(bF (cellsOf z) c.toNat).toArray:=by
     intro zz hh;apply Array.ext';rcases hh with rfl|hh
     ·rw [yY z.cells _ c.toNat (by rw [hz6]),qR]
     ·rw [hh];have:bF (cellsOf z) c.toNat=[]:=tj.1 (by rw [kS,TM];exact hh);simp [this]
    by_cases Eo:c.toNat*i.size=0
    ·have:=hcells #[] (.inr Eo);simp only [Instr.makeSlice,asInt,asIntOf,Sem.run_bind,Sem.run_pure,aA,ht,Result.andThen_ok,dD,hi,hwl,hwc];simp [e1,e2,e3,e4,askRoom,roomBytes,e5,sizeOf,dD,hi,newRow,jk];simp [Eo] at this ⊢;rw [this]
    ·have:=hcells z.cells (.inl rfl);simp only [Instr.makeSlice,asInt,asIntOf,Sem.run_bind,Sem.run_pure,aA,ht,Result.andThen_ok,dD,hi,hwl,hwc];simp [e1,e2,e3,e4,askRoom,roomBytes,e5,sizeOf,dD,hi,newRow,jk,zeroValue,hz,Eo];simp [this]
   ·exact kR (s1:={s with w:=s.w.alloc (.cells (bF (cellsOf z) c.toNat).toArray e)}) (v:=.val (.slice (some ⟨s.w.heap.size,0,none⟩) l.toNat c.toNat)) hk hok rfl (rT.refl _) (λk kb h1 h2=>by rw [<-hok.aX k kb h1 h2];exact Below.heap_alloc _ _ _ (hok.lt k kb h1 h2)) hok.ne trivial rfl rfl
  ·cases h
 ·cases h
def T4(P:Program)(s:St)(d:Option Tmp)(ats:List TypeId)(x y:Value)(K:St->Prop):Prop:=
 match ats,x,y with
 |t::_,.slice a n _,.slice b m _=>match oY P t with
  |some (_,i)=>∃vs:List Value,(vs.length=min m n*i.size/\Rd s.w b vs/\One vs/\Wr s.w a vs.length)/\
   aN (Bo s.kn a) (∀w1,w1=bC s.w a vs->K ({s with w:=w1}.put d (.val (.int .i64 ((min m n:Nat):Int)))))
  |none=>False
 |_,_,_=>False
def Fy{a:Addr}{vs:List Value}{w:World}(h1:One vs)(hw:Wr w (some a) vs.length):(storeCells a vs).run P w=.ok () (bC w (some a) vs):=
 gV (P:=P) a vs 0 w h1 λj hj=>by
  obtain ⟨a',e1,e2⟩:=hw j hj
  cases e1;simpa using e2
def CL{a:Option Addr}{vs:List Value}{w:World}{kn:List KB}(h:∀p ∈ Bo kn a,p):∀p ∈ Fj kn w (bC w a vs),p:=by
 intro p hp;obtain ⟨i,hi,rfl⟩:=bf.1 hp;have:=h (bN a≠some i) (bf.2 ⟨i,hi,rfl⟩)
 cases a with
 |none=>rfl
 |some a=>
  have fA:a.block≠i:=λe=>this (by simp [bN,e])
  have key:∀(vs:List Value)(j:Nat)(w:World),(qP w a j vs).heap[i]? =w.heap[i]? :=by
   intro vs
   induction vs with
   |nil=>intro j w;rfl
   |cons v r ih=>
    intro j w;show (qP _ a (j+1) r).heap[i]? =_;rw [ih];have hb:(a.add j).block=a.block:=by unfold Addr.add;split<;>rfl
    simp only [World.setCell,Array.getElem?_modify,hb,if_neg fA]
  exact key vs 0 w
def O3{d:Option Tmp}{ats:Array TypeId}{ty:TypeId}{x y:Value}(hok:s.Ok)(h:T4 P s d ats.toList x y K):∃v w',(Builtin.copy_ ats ty #[x,y]).run P s.w=.ok v w'/\iK d s K (s.act.put d v) w':=by
 unfold T4 at h;split at h
 ·rename_i t r a n c b m c' Ia;have ha:ats[0]? =some t:=by rw [<-Array.getElem?_toList,Ia];rfl
  split at h
  ·rename_i e i he;obtain ⟨ht,hi⟩:=j5 he;obtain ⟨vs,⟨h1,h2,h3,h4⟩,h5⟩:=h;rw [bT] at h5;have hk:=h5.2 _ rfl;have hload:(Builtin.firstCells i.size (min m n) (.slice b m c')).run P s.w=.ok vs.toArray s.w:=by
    cases b with
    |none=>
     have:vs=[]:=by
      cases vs with
      |nil=>rfl
      |cons v r=>have:=h2 0 v rfl;simp [ld,ab] at this
     subst this;exact run_firstCells_none s.w i.size _ m c'
    |some b=>exact run_firstCells_some s.w i.size (min m n) b m c' vs h1 (λj u hj=>by have:=h2 j u hj;simpa [ld,ab] using this)
   refine ⟨.int .i64 ((min m n:Nat):Int),bC s.w a vs,?_,?_⟩
   ·cases a with
    |none=>
     have:vs=[]:=by
      cases vs with
      |nil=>rfl
      |cons v r=>obtain ⟨a',e1,_⟩:=h4 0 bo;cases e1
     subst this;simp [Builtin.copy_,ha,run_underlying ht,Builtin.lenOf,sizeOf,dD,hi,hload,goInt,bC]
    |some a=>
     have gy:=Fy (P:=P) h3 h4;simp [Builtin.copy_,ha,run_underlying ht,Builtin.lenOf,sizeOf,dD,hi,hload,goInt,gy]
   ·exact ki (v:=.val (.int .i64 ((min m n:Nat):Int))) hk hok (mU hok (CL h5.1)) rfl (rT.refl _) trivial rfl rfl
  ·cases h
 ·cases h
def Lh(P:Program)(s:St)(d:Option Tmp)(ats:List TypeId)(x:Value)(K:St->Prop):Prop:=
 match ats,x with
 |t::_,.slice a n _=>match oY P t with
  |some (_,i)=>match i.zero with
   |some z=>aN ((cellsOf z).flatMap kr) (Wr s.w a (n*(cellsOf z).length)/\aN (Bo s.kn a) (∀w1,w1=bC s.w a (bF (cellsOf z) n)->K ({s with w:=w1}.put d (.val (.tuple #[])))))
   |none=>False
  |none=>False
 |_,_=>False
def Li{d:Option Tmp}{ats:Array TypeId}{ty:TypeId}{x:Value}(hok:s.Ok)(h:Lh P s d ats.toList x K):∃v w',(Builtin.clear_ ats ty #[x]).run P s.w=.ok v w'/\iK d s K (s.act.put d v) w':=by
 unfold Lh at h;split at h
 ·rename_i t r a n c Ia;have ha:ats[0]? =some t:=by rw [<-Array.getElem?_toList,Ia];rfl
  split at h
  ·rename_i e i he;obtain ⟨ht,hi⟩:=j5 he;split at h
   ·rename_i z hz;rw [bT] at h;obtain ⟨h1,h4,h5⟩:=h;have h1:=WH h1;rw [bT] at h5;have hk:=h5.2 _ rfl;have HU:One (bF (cellsOf z) n):=by intro u hu;obtain ⟨l,hl,hul⟩:=List.mem_flatten.1 hu;rw [(O4.1 hl).2] at hul;exact h1 u hul
    refine ⟨.tuple #[],bC s.w a (bF (cellsOf z) n),?_,?_⟩
    ·cases a with
     |none=>simp [Builtin.clear_,ha,run_underlying ht,bC]
     |some a=>
      have gy:=Fy (P:=P) (w:=s.w) (a:=a) HU (by rw [kS];exact h4)
      cases n with
      |zero=>simp [Builtin.clear_,ha,run_underlying ht,bC,bF,qP]
      |succ n=>
       have hzc:(Builtin.zeroCells z.cells (n+1)).toList=bF (cellsOf z) (n+1):=by rw [oA,qR]
       simp [Builtin.clear_,ha,run_underlying ht,zeroValue,dD,hi,hz,hzc,gy]
    ·exact ki (v:=.val (.tuple #[])) hk hok (mU hok (CL h5.1)) rfl (rT.refl _) trivial rfl rfl
   ·cases h
  ·cases h
 ·cases h
end
end Go.Vc
