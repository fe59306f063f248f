import Derived.Test.YtalpkjfpmdpbiaaGreatDoorAli
import Derived.WalkKit
import Derived.Laws.BytesArg
import Derived.Great.BuildSlice
import Derived.Deep.AppendSrc
import Derived.Deep.LoopGhost
import Derived.RangeFuncNested
import Derived.RangeFuncLeaves
import Derived.OrdersIn
set_option linter.all false
namespace Go.Vc
open Go Go.RowKit
inductive S where
 |bool|int (k:IntKind)|str|ptr|slice|map|raw
inductive T1 where
 |sc (s:S)|agg (l:List S)
inductive T2 where
 |one (t:T1)|tup (l:List T1)
structure Sl where
 a:Option Addr
 n:Nat
 c:Nat
instance:Coe Int Value:=⟨λn=> .int .i64 n⟩
instance:Coe Sl Value:=⟨λs=> .slice s.a s.n s.c⟩
instance:Coe World Nat:=⟨λw=>w.heap.size⟩
abbrev Kp(i:Nat)(a b:World):Prop:=b.heap[i]? =a.heap[i]?
abbrev aP(l:List Value):Prop:=l=l
instance:Coe Bool Value:=⟨.bool⟩
instance:Coe (Option Addr) Value:=⟨.pointer⟩
instance:Coe Value Ending:=⟨.returned⟩
inductive WQ|a|b
inductive TQ|a
abbrev Fl:TQ:=.a
instance:Coe TQ Value:=⟨λ_=> .tuple #[]⟩
abbrev LV:=List Value
instance:Coe World (Option Addr):=⟨λw=>some ⟨w.heap.size,0,none⟩⟩
instance:Coe Nat (Option Addr):=⟨λw=>some ⟨w,0,none⟩⟩
inductive WQ8|a
abbrev me:WQ8:=.a
instance:CoeFun WQ8 (λ_=>Int->Int):=⟨λ_=>IntKind.wrap .u8⟩
inductive acL|a
abbrev kA:acL:=.a
instance:CoeFun acL (λ_=>Int->Int):=⟨λ_=>IntKind.wrap .u16⟩
inductive acM|a
abbrev anO:acM:=.a
instance:CoeFun acM (λ_=>Int->Int):=⟨λ_=>IntKind.wrap .u32⟩
inductive acN|a
abbrev bD:acN:=.a
instance:CoeFun acN (λ_=>Int->Int):=⟨λ_=>IntKind.wrap .u64⟩
abbrev ai:WQ:=.a
abbrev af:WQ:=.b
instance:CoeFun WQ (λ_=>Int->Int):=⟨λ_=>IntKind.wrap .i64⟩
instance:Coe WQ Value:=⟨λ_=> .int .i64 0⟩
abbrev bu(b:Nat):Option Addr:=some ⟨b,0,none⟩
abbrev pd(b o:Nat):Option Addr:=some ⟨b,o,none⟩
class Yz (b v:Bool) (p:outParam Prop):Prop where
 f:b=v->p
instance {p:Prop} [Decidable p]:Yz (decide p) true p:=⟨of_decide_eq_true⟩
instance {p:Prop} [Decidable p]:Yz (decide p) false (¬p):=⟨of_decide_eq_false⟩
instance {a b:Int}:Yz (a !=b) true (a≠b):=⟨λh=>by simpa using h⟩
instance {a b:Int}:Yz (a !=b) false (a=b):=⟨λh=>by simpa using h⟩
instance {a b:Int}:Yz (a==b) true (a=b):=⟨λh=>by simpa using h⟩
instance {a b:Int}:Yz (a==b) false (a≠b):=⟨λh=>by simpa using h⟩
def kB{b v:Bool}{p:Prop} [q:Yz b v p] (h:b=v):p:=q.f h
def lW(w:World):w.drew.heap.size=w.heap.size:=rfl
def fj{p:Prop} [Decidable p] (h:decide p=true):p:=of_decide_eq_true h
def fh{p:Prop} [Decidable p] (h:decide p=false):¬p:=of_decide_eq_false h
def mL{v w:World}{g:Nat}{c:Array Value}(e:v=w.setRow g c):v.heap.size=w.heap.size:=by rw [e];simp
def du{v w:World}{o:Obj}(e:v=w.alloc o):v.heap.size=w.heap.size+1:=by rw [e];simp
def kC{v w u:World}{o:Obj}{g:Nat}{c:Array Value}(e:v=w.alloc o)(f:u=v.setRow g c):u.heap.size=w.heap.size+1:=by rw [f,e];simp
@[reducible] def S.Ty:S->Type
 | .bool=>Bool| .int _=>Int| .str=>ByteArray| .ptr=>Option Addr| .slice=>Sl| .map=>Option Nat| .raw=>Value
def S.mk:(s:S)->s.Ty->Value
 | .bool,b=> .bool b| .int k,n=> .int k n| .str,s=> .string s| .ptr,p=> .pointer p| .slice,s=> .slice s.a s.n s.c
 | .map,r=> .map r| .raw,v=>v
def S.get:(s:S)->Value->Option s.Ty
 | .bool,.bool b=>some b
 | .int .i64,.int .i64 n=>some n| .int .i32,.int .i32 n=>some n| .int .i16,.int .i16 n=>some n| .int .i8,.int .i8 n=>some n
 | .int .u64,.int .u64 n=>some n| .int .u32,.int .u32 n=>some n| .int .u16,.int .u16 n=>some n| .int .u8,.int .u8 n=>some n
 | .str,.string s=>some s| .ptr,.pointer p=>some p| .slice,.slice a n c=>some ⟨a,n,c⟩| .map,.map r=>some r
 | .raw,v=>some v
 |_,_=>none
def S.YF{s:S}{v:Value}{x:s.Ty}(h:s.get v=some x):v=s.mk x:=by unfold S.get at h;split at h<;>(try cases h)<;>rfl
def S.ex(s:S)(F:Value->Prop):Prop:=∃x:s.Ty,F (s.mk x)
def S.all(s:S)(F:Value->Prop):Prop:=∀x:s.Ty,F (s.mk x)
def Vl:List S->(List Value->Prop)->Prop
 | [],F=>F []
 |s::r,F=>s.ex λv=>Vl r λvs=>F (v::vs)
def oR:List S->(List Value->Prop)->Prop
 | [],F=>F []
 |s::r,F=>s.all λv=>oR r λvs=>F (v::vs)
def T1.ex:T1->(Value->Prop)->Prop
 | .sc s,F=>s.ex F
 | .agg l,F=>Vl l λvs=>F (.agg vs.toArray)
def ex1:List T1->(List Value->Prop)->Prop
 | [],F=>F []
 |t::r,F=>t.ex λv=>ex1 r λvs=>F (v::vs)
def T2.ex:T2->(Value->Prop)->Prop
 | .one t,F=>t.ex F
 | .tup l,F=>ex1 l λvs=>F (.tuple vs.toArray)
def S.jl{s:S}{F:Value->Prop}(h:s.ex F):∃v,F v:=⟨_,h.choose_spec⟩
def Dw:∀{l:List S} {F:List Value->Prop},Vl l F->∃vs,F vs
 | [],_,h=>⟨[],h⟩
 |_::_,_,⟨_,h⟩=>let ⟨vs,h'⟩:=Dw h;⟨_,h'⟩
def T1.jl{t:T1}{F:Value->Prop}(h:t.ex F):∃v,F v:=by
 cases t with
 |sc s=>exact S.jl h
 |agg l=>exact let ⟨_,h'⟩:=Dw h;⟨_,h'⟩
def LZ:∀{l:List T1} {F:List Value->Prop},ex1 l F->∃vs,F vs
 | [],_,h=>⟨[],h⟩
 |_::_,_,h=>let ⟨_,h1⟩:=T1.jl h;let ⟨_,h2⟩:=LZ h1;⟨_,h2⟩
def T2.jl{t:T2}{F:Value->Prop}(h:t.ex F):∃v,F v:=by
 cases t with
 |one t=>exact T1.jl h
 |tup l=>exact let ⟨_,h'⟩:=LZ h;⟨_,h'⟩
def acP(P:Program)(t:TypeId):S:=
 match P.underlying t with
 |some .bool=> .bool|some (.int k)=> .int k|some .string=> .str|some (.pointer _)=> .ptr
 |some (.slice _)=> .slice|some (.map _ _)=> .map|_=> .raw
def flat(P:Program):Nat->TypeId->List S
 |0,_=> []
 |d+1,t=>match P.underlying t with
  |some (.struct fs)=>fs.toList.flatMap λf=>flat P d f.type
  |some (.array n e)=>(List.replicate n (flat P d e)).flatten
  |_=> [acP P t]
def uH(P:Program)(t:TypeId):Bool:=
 match P.underlying t with
 |some (.struct _)|some (.array _ _)=>true
 |_=>false
def nB(P:Program)(t:TypeId):T1:=if uH P t then .agg (flat P 20 t) else .sc (acP P t)
def alC(P:Program)(l:List TypeId):T2:=
 match l with
 | [t]=> .one (nB P t)
 |l=> .tup (l.map (nB P))
def eS(P:Program)(t:TypeId):Nat:=((P.info? t).map (·.size)).getD 0
@[reducible] def Qa:List S->Type->Type
 | [],β=>β
 |s::r,β=>s.Ty->Qa r β
def gu:(l:List S)->Qa l (World->Prop)->List Value->World->Prop
 | [],f,[],w=>f w
 |s::r,f,v::vs,w=>match s.get v with|some x=>gu r (f x) vs w|none=>False
 |_,_,_,_=>False
def Br(b:Bool)(A B:Prop):Prop:=match b with|true=>A|false=>B
def Br.mk{b:Bool}{A B:Prop}(h1:b=true->A)(h2:b=false->B):Br b A B:=by
 cases b
 ·exact h2 rfl
 ·exact h1 rfl
def Br.tt{b:Bool}{A B:Prop}(h:Br b A B)(hb:b=true):A:=by subst hb;exact h
def Br.ff{b:Bool}{A B:Prop}(h:Br b A B)(hb:b=false):B:=by subst hb;exact h
def bn(l:List Prop)(K:Prop):Prop:=l.foldr And K
def bj{l:List Prop}{K:Prop}:bn l K ↔(∀p ∈ l,p)/\K:=by
 induction l with
 |nil=>simp [bn]
 |cons a l ih=>
  simp only [bn,List.foldr_cons] at ih ⊢;rw [ih,<-and_assoc];exact and_congr_left λ_=>⟨λh q hq=>by cases hq with|head=>exact h.1|tail _ hm=>exact h.2 q hm,λh=>⟨h a (.head _),λq hq=>h q (.tail _ hq)⟩⟩
def eQ:Option Addr->List Prop
 |some _=> []
 |none=> [False]
def Na(y:Int):List Prop:=if y=0 then [False] else []
def cB(a:Option Addr)(i:Int)(n:Nat):Prop:=a.isSome=true/\0<=i/\i<(n:Int)
def YL(y:Int):List Prop:=if y<0 then [False] else []
def YN:(∀q ∈ [False],q) ↔ False:=⟨λh=>h _ (.head _),False.elim⟩
def gj{p:Option Addr}:(∀q ∈ eQ p,q) ↔ p.isSome=true:=by
 cases p with
 |none=>exact YN.trans cy
 |some a=>simp [eQ]
def mf{y:Int}:(∀q ∈ Na y,q) ↔ y≠0:=by
 unfold Na;split
 ·rename_i h;exact YN.trans (by simp [h])
 ·rename_i h;simp [h]
def Dx{y:Int}:(∀q ∈ YL y,q) ↔ 0<=y:=by
 unfold YL;split
 ·rename_i h;exact YN.trans (by simp;omega)
 ·rename_i h;simp;omega
@[simp] def dS{p:Option Addr}{K:Prop}:bn (eQ p) K ↔ p.isSome=true/\K:=by rw [bj,gj]
@[simp] def L0{y:Int}{K:Prop}:bn (Na y) K ↔ y≠0/\K:=by rw [bj,mf]
@[simp] def Vm{y:Int}{K:Prop}:bn (YL y) K ↔ 0<=y/\K:=by rw [bj,Dx]
def ae(p:Option Addr)(n:Nat):Option Addr:=p.map (·.add n)
def ld(w:World)(p:Option Addr):Option Value:=p.bind w.cell?
inductive SV where
 |val (v:Value)
 |loc (k off:Nat)
 |Vn (k n:Nat)
structure KB where
 idx:Nat
 cells:List Value
 ty:TypeId
 live:Bool
instance:Inhabited KB:=⟨⟨0,[],0,false⟩⟩
def SV.fN(n:Nat):SV->Prop
 | .val _=>True
 | .loc k _| .Vn k _=>k<n
structure St where
 sl:List SV
 w:World
 kn:List KB
 df:List Nat:=[]
def SV.bE(kn:List KB):SV->Value
 | .val v=>v
 | .loc k off=> .pointer (some ⟨(kn.getD k default).idx,off,none⟩)
 | .Vn k n=> .slice (some ⟨(kn.getD k default).idx,0,none⟩) n n
def marks(l:List Nat):List Deferred:=l.map λD=>{target:=.collected D,args:= #[]}
def St.act(s:St):Act:={tmps:=(s.sl.map (SV.bE s.kn)).toArray,defers:=marks s.df}
def St.sv(s:St):Operand->SV
 | .tmp t=>s.sl.getD t (.val undef)
 | .const v=> .val v
 | .global g=> .val (.pointer (some ⟨g,0,none⟩))
 | .func f=> .val (.func (.func f) #[] #[])
def St.ev(s:St)(x:Operand):Value:=(s.sv x).bE s.kn
def St.put(s:St)(d:Option Tmp)(v:SV):St:=
 match d with
 |some d=>{s with sl:=s.sl.set d v}
 |none=>s
def St.pf(s:St)(x:Operand):s.act.eval x=s.ev x:=by
 cases x with
 |tmp t=>
  simp only [Act.eval,St.act,St.ev,St.sv,Array.getD_eq_getD_getElem?,List.getElem?_toArray,aX,cZ]
  cases s.sl[t]? <;>rfl
 |_=>rfl
def St.Vo(s:St)(d:Option Tmp)(v:SV):(s.put d v).act=s.act.put d (v.bE s.kn):=by
 cases d with
 |none=>rfl
 |some d=>simp [St.put,St.act,Act.put,mM]
def St.eval_eq(s:St):s.act.eval=s.ev:=funext s.pf
structure St.Ok(s:St):Prop where
 bg:∀(k:Nat)(kb:KB),s.kn[k]? =some kb->kb.live=true->s.w.heap[kb.idx]? =some (.cells kb.cells.toArray kb.ty (0,0))
 ne:∀(i j:Nat)(x y:KB),s.kn[i]? =some x->s.kn[j]? =some y->x.live=true->y.live=true->x.idx=y.idx->i=j
 jL:∀(i:Nat)(v:SV),s.sl[i]? =some v->v.fN s.kn.length
def St.Ok.lt{s:St}(h:s.Ok)(k:Nat)(kb:KB)(hk:s.kn[k]? =some kb)(hl:kb.live=true):kb.idx<s.w.heap.size:=
 (mN.1 (h.bg k kb hk hl)).1
def St.Ok.sv{s:St}(h:s.Ok)(x:Operand):(s.sv x).fN s.kn.length:=by
 cases x with
 |tmp t=>
  simp only [St.sv,cZ]
  cases hv:s.sl[t]? with
  |none=>trivial
  |some v=>exact h.jL t v hv
 |_=>trivial
def nC(kn kn':List KB):Prop:=∀(k:Nat)(kb:KB),kn[k]? =some kb->∃kb',kn'[k]? =some kb'/\kb'.idx=kb.idx/\kb'.ty=kb.ty
def nC.refl(kn:List KB):nC kn kn:=λ_ kb h=>⟨kb,h,rfl,rfl⟩
def nC.trans{a b c:List KB}(h:nC a b)(h':nC b c):nC a c:=λk kb hk=>by
 obtain ⟨kb',h1,h2,UO⟩:=h k kb hk
 obtain ⟨kb'',h3,h4,h4'⟩:=h' k kb' h1
 exact ⟨kb'',h3,h4.trans h2,h4'.trans UO⟩
def nC.length{a b:List KB}(h:nC a b):a.length<=b.length:=by
 rcases fx b.length a.length with ft|Lv
 ·obtain ⟨kb',h1,_⟩:=h b.length a[b.length] (cr ft);simp at h1
 ·exact Lv
def nC.bE{kn kn':List KB}(h:nC kn kn'){v:SV}(hv:v.fN kn.length):v.bE kn'=v.bE kn:=by
 cases v with
 |val v=>rfl
 |loc k off=>
  obtain ⟨kb',h1,h2,_⟩:=h k kn[k] (cr hv);simp [SV.bE,cZ,h1,h2,cr (show k<kn.length from hv)]
 |Vn k n=>
  obtain ⟨kb',h1,h2,_⟩:=h k kn[k] (cr hv);simp [SV.bE,cZ,h1,h2,cr (show k<kn.length from hv)]
def SV.fN.mono{n m:Nat}{v:SV}(h:v.fN n)(hm:n<=m):v.fN m:=by
 cases v
 ·trivial
 ·exact kN h hm
 ·exact kN h hm
structure Fr(W:List Nat)(s s':St):Prop where
 len:s'.sl.length=s.sl.length
 slot:∀i,i ∉ W->(s'.sl.getD i (.val undef)).bE s'.kn=(s.sl.getD i (.val undef)).bE s.kn
 kn:nC s.kn s'.kn
 df:s.df.length<=s'.df.length/\(s'.df.length=s.df.length->s'.df=s.df)
def Fr.refl(W:List Nat)(s:St):Fr W s s:=⟨rfl,λ_ _=>rfl,nC.refl _,ax _,λ_=>rfl⟩
def Fr.trans{W:List Nat}{a b c:St}(h:Fr W a b)(h':Fr W b c):Fr W a c:=
 ⟨h'.len.trans h.len,λi hi=>(h'.slot i hi).trans (h.slot i hi),h.kn.trans h'.kn,fy h.df.1 h'.df.1,λe=>by have h1:=h.df.1;have h2:=h'.df.1;have h3:=h.df.2 aa;have h4:=h'.df.2 aa;exact h4.trans h3⟩
def Fr.mono{W W':List Nat}{a b:St}(h:Fr W a b)(hs:∀i ∈ W,i ∈ W'):Fr W' a b:=
 ⟨h.len,λi hi=>h.slot i (λh'=>hi (hs i h')),h.kn,h.df⟩
def Bw(k:IntKind)(x y:Int):Int:=k.wrap ((BitVec.ofInt k.bits x &&& BitVec.ofInt k.bits y).toNat:Nat)
def FI(k:IntKind)(x y:Int):Int:=k.wrap ((BitVec.ofInt k.bits x|||BitVec.ofInt k.bits y).toNat:Nat)
def gw(k:IntKind)(x y:Int):Int:=k.wrap ((BitVec.ofInt k.bits x ^^^ BitVec.ofInt k.bits y).toNat:Nat)
def jZ(k:IntKind)(x y:Int):Int:=k.wrap ((BitVec.ofInt k.bits x &&& ~~~ BitVec.ofInt k.bits y).toNat:Nat)
def qM(x y:ByteArray):Bool:=x.toList==y.toList
def strLt(x y:ByteArray):Bool:=Op.bytesLess x.toList y.toList
def YO(op:BinOp)(k:IntKind)(x y:Int):Option (List Prop × Value):=
 match op with
 | .add=>some ([],.int k (k.wrap (x+y)))
 | .sub=>some ([],.int k (k.wrap (x-y)))
 | .mul=>some ([],.int k (k.wrap (x*y)))
 | .quo=>some (Na y,.int k (k.wrap (x.tdiv y)))
 | .rem=>some (Na y,.int k (x.tmod y))
 | .and=>some ([],.int k (Bw k x y))
 | .or=>some ([],.int k (FI k x y))
 | .xor=>some ([],.int k (gw k x y))
 | .andNot=>some ([],.int k (jZ k x y))
 | .eql=>some ([],.bool (x==y))
 | .neq=>some ([],.bool (x !=y))
 | .lss=>some ([],.bool (decide (x<y)))
 | .leq=>some ([],.bool (decide (x<=y)))
 | .gtr=>some ([],.bool (decide (x>y)))
 | .geq=>some ([],.bool (decide (x>=y)))
 |_=>none
def YP(op:BinOp)(x y:ByteArray):Option (List Prop × Value):=
 match op with
 | .add=>some ([((x.size+y.size:Nat):Int)<=IntKind.i64.max],.string (x++y))
 | .eql=>some ([],.bool (qM x y))
 | .neq=>some ([],.bool (!qM x y))
 | .lss=>some ([],.bool (strLt x y))
 | .leq=>some ([],.bool (strLt x y||qM x y))
 | .gtr=>some ([],.bool (!(strLt x y||qM x y)))
 | .geq=>some ([],.bool (!strLt x y))
 |_=>none
def YU(op:BinOp)(x y:Bool):Option (List Prop × Value):=
 match op with
 | .eql=>some ([],.bool (x==y))
 | .neq=>some ([],.bool (!(x==y)))
 |_=>none
def Qq(op:BinOp)(k:IntKind)(x y:Int):Option (List Prop × Value):=
 match op with
 | .shl=>some (YL y,.int k (k.wrap (x*2 ^(min y.toNat k.bits))))
 | .shr=>some (YL y,.int k (x.fdiv (2 ^(min y.toNat k.bits))))
 |_=>none
def acQ:BinOp->Bool| .shl| .shr=>true|_=>false
def Dy(P:Program)(t:TypeId):Bool:=match P.underlying t with|some .bool=>true|_=>false
def Vp:Value->Bool| .nilFunc=>true|_=>false
def Nc(tb:Bool)(op:BinOp)(x y:Value):Option (List Prop × Value):=
 match Vp y with
 |true=>none
 |false=>match acQ op with
 |true=>match x,y with
  | .int k a,.int _ b=>Qq op k a b
  |_,_=>none
 |false=>match x,y with
  | .int k a,.int k' b=>if k=k' then YO op k a b else none
  | .string a,.string b=>YP op a b
  | .bool a,.bool b=>match tb with|true=>YU op a b|false=>none
  |_,_=>none
def yt(P:Program)(t:TypeId)(f:Nat):Option Field:=
 match P.underlying t with
 |some (.struct fs)=>fs[f]?
 |_=>none
def aA(a:Option Addr)(l m size:Nat):Option Addr:=if m=l then a else a.map (·.add (l*size))
def isStr(P:Program)(t:TypeId):Bool:=match P.underlying t with|some .string=>true|_=>false
def fP(P:Program)(t:TypeId):Option Nat:=(P.info? t).map (·.size)
def lp(P:Program)(t:TypeId):Option (TypeId × Nat):=match P.underlying t with|some (.slice e)=>(fP P e).map λn=>(e,n)|_=>none
def mg(P:Program)(t:TypeId):Option (Nat × TypeId):=match P.underlying t with|some (.array n e)=>some (n,e)|_=>none
def afG(v:Option Value)(dflt:Int):Option Int:=match v with|none=>some dflt|some (.int _ i)=>some i|_=>none
def yM(lo hi mx:Option Int)(len cap:Nat):List Prop × Nat × Nat × Nat:=
 match mx with
 |some m=>match hi,lo with
  |some h,some l=>([0<=m,m<=(cap:Int),0<=h,h<=m,0<=l,l<=h],l.toNat,h.toNat,m.toNat)
  |some h,none=>([0<=m,m<=(cap:Int),0<=h,h<=m],0,h.toNat,m.toNat)
  |none,_=>([False],0,0,0)
 |none=>match hi,lo with
  |some h,some l=>([0<=h,h<=(cap:Int),0<=l,l<=h],l.toNat,h.toNat,cap)
  |some h,none=>([0<=h,h<=(cap:Int)],0,h.toNat,cap)
  |none,some l=>([0<=l,l<=(len:Int)],l.toNat,len,cap)
  |none,none=>([],0,len,cap)
def anP:Value->Option Int| .int _ i=>some i|_=>none
def pg:Option Value->Option (Option Int)
 |none=>some none
 |some (.int _ i)=>some (some i)
 |_=>none
def Jw(P:Program)(t:TypeId)(x:Value)(lo hi mx:Option Value):Option (List Prop × Value):=
 match pg lo,pg hi,pg mx with
 |some lo,some hi,some mx=>
  match x with
  | .slice a n c=>match lp P t with
    |some (_,z)=>match yM lo hi mx n c with
     |(cs,l,h,m)=>some (cs,.slice (aA a l m z) (h-l) (m-l))
    |none=>none
  | .string s=>match isStr P t,mx with
    |true,none=>match yM lo hi none s.size s.size with
     |(cs,l,h,_)=>some (cs,.string (s.extract l h))
    |_,_=>none
  | .pointer p=>match mg P t with
    |some (n,e)=>match fP P e with
     |some z=>match yM lo hi mx n n with
      |(cs,l,h,m)=>some (eQ p++cs,.slice (aA p l m z) (h-l) (m-l))
     |none=>none
    |none=>none
  |_=>none
 |_,_,_=>none
def agL(P:Program)(t:TypeId)(parts:Array (Nat × Value)):Option (List Value):=
 match (Instr.build t parts).run P default with
 | .ok (.agg cs) _=>some cs.toList
 |_=>none
def Qs:SV->Nat->Option (List Prop × SV)
 | .loc k off,n=>some ([],.loc k (off+n))
 | .val (.pointer p),n=>some (eQ p,.val (.pointer (ae p n)))
 |_,_=>none
def YV(x y:Value):Option Value:=match x,y with| .int k a,.int _ b=>some (.int k (if b<a then b else a))|_,_=>none
def YX(x y:Value):Option Value:=match x,y with| .int k a,.int _ b=>some (.int k (if b>a then b else a))|_,_=>none
def Cp(f:Value->Value->Option Value):List Value->Value->Option Value
 | [],x=>some x
 |y::r,x=>match f x y with|some z=>Cp f r z|none=>none
def ph(P:Program)(b:Builtin)(ats:Array TypeId)(args:List Value):Option Value:=
 match b,args with
 | .len,[.slice _ n _]=>match ats[0]?.bind (lp P) with|some _=>some (.int .i64 n)|none=>none
 | .len,[.string s]=>match ats[0]?.map (isStr P) with|some true=>some (.int .i64 s.size)|_=>none
 | .cap,[.slice _ _ c]=>match ats[0]?.bind (lp P) with|some _=>some (.int .i64 c)|none=>none
 | .len,[.agg _]=>match ats[0]?.bind (mg P) with|some (n,_)=>some (.int .i64 n)|none=>none
 | .min,x::r=>Cp YV r x
 | .max,x::r=>Cp YX r x
 |_,_=>none
def Cq(P:Program)(t:TypeId)(cs:Array Value)(off:Nat):Option Value:=
 match P.underlying t with
 |none=>none
 |some _=>if uH P t then some (.agg ((cs.toList.drop off).take (eS P t)).toArray) else cs[off]?
def Nd(P:Program)(g:TypeId->Value->Value->Option Bool)(xs ys:Array Value):List Field->Option Bool
 | []=>some true
 | [f]=>if f.name= "_" then none else match Cq P f.type xs f.offset,Cq P f.type ys f.offset with
   |some a,some b=>g f.type a b
   |_,_=>none
 |f::h::r=>if f.name= "_" then none else match Cq P f.type xs f.offset,Cq P f.type ys f.offset with
  |some a,some b=>match g f.type a b,Nd P g xs ys (h::r) with
   |some p,some q=>some (p && q)
   |_,_=>none
  |_,_=>none
def eqV(P:Program):Nat->TypeId->Value->Value->Option Bool
 |0,_,_,_=>none
 |d+1,t,x,y=>match P.underlying t,x,y with
  |some (.int _),.int k a,.int k' b=>if k=k' then some (a==b) else none
  |some .bool,.bool a,.bool b=>some (a==b)
  |some .string,.string a,.string b=>some (qM a b)
  |some (.struct fs),.agg xs,.agg ys=>if P.stoodInHeld t then none else Nd P (eqV P d) xs ys fs.toList
  |_,_,_=>none
def YY:Value->Bool
 | .nilFunc=>true
 |_=>false
def fnC:Value->List Prop
 | .nilFunc| .func .. => []
 |_=> [False]
def agM(a b:Option Addr):List Prop:=match b with|none=> []|some _=> [a=none]
def agN(a b:Option Addr):Bool:=match b with|none=>a.isNone|some _=>false
def YZ(P:Program)(t:TypeId)(x y:Value):Option (List Prop × Bool):=
 match y with
 | .slice none _ _=>match x,P.underlying t with
   | .slice a _ _,some (.slice _)=>some ([],a.isNone)
   |_,_=>none
 | .pointer b=>match x,P.underlying t with
   | .pointer a,some (.pointer _)=>some (agM a b,agN a b)
   |_,_=>none
 | .map none=>match x,P.underlying t with
   | .map a,some (.map _ _)=>some ([],a.isNone)
   |_,_=>none
 | .nilFunc=>match P.underlying t with
   |some (.func _ _ _)=>some (fnC x,YY x)
   |_=>none
 | .agg ys=>match x with
   | .agg xs=>match P.eqGuardType P.depth t with
     |false=>(eqV P 20 t (.agg xs) (.agg ys)).map λb=>([],b)
     |true=>none
   |_=>none
 |_=>none
def Y0:BinOp->Option Bool| .eql=>some true| .neq=>some false|_=>none
def Qt(P:Program)(op:BinOp)(t:TypeId)(x y:Value):Option (List Prop × Value):=
 match Y0 op,YZ P t x y with
 |some true,some (c,b)=>some (c,.bool b)
 |some false,some (c,b)=>some (c,.bool (!b))
 |_,_=>none
def dm(P:Program)(s:St)(op:Op):Option (List Prop × SV):=
 match op with
 | .move x| .assign x=>some ([],s.sv x)
 | .pick c a b=>match s.sv c with
   | .val (.bool c)=>some ([],match c with|true=>s.sv a|false=>s.sv b)
   |_=>none
 | .extract t i=>match s.sv t with
   | .val (.tuple vs)=>vs[i]?.map λv=>([],.val v)
   |_=>none
 | .fieldAddr t x f=>match yt P t f with
   |some fd=>if eS P fd.type=0 then none else Qs (s.sv x) fd.offset
   |none=>none
 | .field t x f=>match s.sv x,yt P t f with
   | .val (.agg cs),some fd=>if (P.underlying fd.type).isNone then none else if uH P fd.type then some ([],.val (.agg ((cs.toList.drop fd.offset).take (eS P fd.type)).toArray)) else cs[fd.offset]?.map λv=>([],.val v)
   |_,_=>none
 | .nilCheck x=>match s.sv x with
   | .loc k off=>some ([],.loc k off)
   | .val (.pointer p)=>some (eQ p,.val (.pointer p))
   |_=>none
 | .indexAddr t x i=>match s.ev i with
   | .int _ i=>match lp P t,s.ev x with
     |some (_,z),.slice a n _=>some ([cB a i n],.val (.pointer (ae a (i.toNat*z))))
     |none,.pointer p=>match mg P t with
      |some (n,e)=>(fP P e).map λz=>(eQ p++ [0<=i,i<(n:Int)],.val (.pointer (ae p (i.toNat*z))))
      |none=>none
     |_,_=>none
   |_=>none
 | .index t x i=>match s.ev x,s.ev i with
   | .string b,.int _ i=>if isStr P t then some ([0<=i,i<(b.size:Int)],.val (.int .u8 (b.data.toList.getD i.toNat 0).toNat)) else none
   |_,_=>none
 | .binOp op t x y _=>match Nc (Dy P t) op (s.ev x) (s.ev y) with
   |some (c,v)=>some (c,.val v)
   |none=>(Qt P op t (s.ev x) (s.ev y)).map λ(c,v)=>(c,.val v)
 | .unOp .not _ x=>match s.ev x with
   | .bool b=>some ([],.val (.bool !b))
   |_=>none
 | .unOp .neg _ x=>match s.ev x with
   | .int k n=>some ([],.val (.int k (k.wrap (0-n))))
   |_=>none
 | .convert src dst x=>match P.underlying src,P.underlying dst,s.ev x with
   |some (.int _),some (.int k),.int _ n=>some ([],.val (.int k (k.wrap n)))
   |some .string,some .string,.string b=>some ([],.val (.string b))
   |_,_,_=>none
 | .slice t x lo hi mx=>(Jw P t (s.ev x) (lo.map s.ev) (hi.map s.ev) (mx.map s.ev)).map λ(c,v)=>(c,.val v)
 | .call {callee:=.builtin b,args,argTypes}=>(ph P b argTypes (args.toList.map s.ev)).map λv=>([],.val v)
 |_=>none
def aC(P:Program)(t:TypeId)(w:World):(underlying t).run P w=match P.underlying t with|some d=> .ok d w|none=> .halt (.stuck "no such type") w:=by
 simp only [underlying,program,bind,Sem.bind,Sem.run]
 cases P.underlying t<;>rfl
def cT(P:Program)(t:TypeId)(w:World):(typeInfo t).run P w=match P.info? t with|some d=> .ok d w|none=> .halt (.stuck "no such type") w:=by
 simp only [typeInfo,program,bind,Sem.bind,Sem.run]
 cases P.info? t<;>rfl
def ep{P:Program}{t:TypeId}{w:World}(h:(P.info? t).isSome=true):(sizeOf t).run P w=.ok (eS P t) w:=by
 simp only [sizeOf,Sem.run_bind,cT,eS]
 cases h':P.info? t<;>simp_all
def info_of_underlying{P:Program}{t:TypeId}{d:TypeDesc}(h:P.underlying t=some d):(P.info? t).isSome=true:=by
 unfold Program.underlying at h
 cases h':P.info? t<;>simp_all
def Xu(P:Program)(ρ:Operand->Value)(o:Oper)(v:Value):Prop:=∀w,(execOp ρ o).run P w=.ok (.value v) w
def Qu{a b:List Prop}(h:∀p ∈ a++b,p):(∀p ∈ a,p)/\∀p ∈ b,p:=⟨λp hp=>h p (ct.2 (.inl hp)),λp hp=>h p (ct.2 (.inr hp))⟩
section
variable {P:Program} {ρ:Operand->Value} {o:Oper}
def dz{v:Value}{s:Sem Value}(he:execOp ρ o=(do pure (.value (<-s))))(h:∀w,s.run P w=.ok v w):Xu P ρ o v:=by intro w;rw [he,Sem.run_bind,h];rfl
def Qv{op:BinOp}{t:TypeId}{k:IntKind}{x y:Int}{cs:List Prop}{v:Value}(hs:acQ op=false)(h:YO op k x y=some (cs,v))(hc:∀p ∈ cs,p)(w:World):
  (binOp op t (.int k x) (.int k y)).run P w=.ok v w:=by
 cases op<;>simp only [YO,Option.some.injEq,Prod.mk.injEq,reduceCtorEq] at h<;>(try exact absurd hs aE)<;>(try (obtain ⟨rfl,rfl⟩:=h))
 all_goals (try simp [binOp,Op.intArith,Op.intBits,Op.intCmp,Bw,FI,gw,jZ];done)
 all_goals
  rw [mf] at hc
  simp [binOp,Op.intDiv,hc]
def Qw{op:BinOp}{t:TypeId}{x y:ByteArray}{cs:List Prop}{v:Value}(h:YP op x y=some (cs,v))(hc:∀p ∈ cs,p)(w:World):
  (binOp op t (.string x) (.string y)).run P w=.ok v w:=by
 cases op<;>simp only [YP,Option.some.injEq,Prod.mk.injEq,reduceCtorEq] at h<;>(try (obtain ⟨rfl,rfl⟩:=h))
 all_goals (try simp [binOp,Op.stringOp,qM,strLt];done)
 have:=hc _ (fH.2 rfl);simp only [binOp,Op.stringOp];rw [if_neg aa];rfl
def Qx{op:BinOp}{t:TypeId}{x y:Bool}{cs:List Prop}{v:Value}(ht:P.underlying t=some .bool)(h:YU op x y=some (cs,v))(w:World):
  (binOp op t (.bool x) (.bool y)).run P w=.ok v w:=by
 have e:(Op.equal t (.bool x) (.bool y)).run P w=.ok (x==y) w:=by unfold Op.equal Op.maxDepth;rw [show (10000:Nat)=9999+1 from rfl,Op.equalIn,Sem.run_bind,aC,ht];rfl
 cases op<;>simp only [YU,Option.some.injEq,Prod.mk.injEq,reduceCtorEq] at h<;>(try (obtain ⟨rfl,rfl⟩:=h))
 all_goals (show (binOp _ t (.bool x) (.bool y)).run P w=_;unfold binOp;rw [Sem.run_bind,e];rfl)
def Ng{op:BinOp}{t:TypeId}{k k':IntKind}{x y:Int}{cs:List Prop}{v:Value}(h:Qq op k x y=some (cs,v))(hc:∀p ∈ cs,p)(w:World):
  (binOp op t (.int k x) (.int k' y)).run P w=.ok v w:=by
 cases op<;>simp only [Qq,Option.some.injEq,Prod.mk.injEq,reduceCtorEq] at h<;>(try (obtain ⟨rfl,rfl⟩:=h))
 all_goals
  rw [Dx] at hc
  simp only [binOp,Op.shift]
  rw [if_neg aa];rfl
def vT(op:BinOp)(t:TypeId)(x y:Operand)(a b:Value)(h1:a≠ .nilIface)(h2:∀c,a≠ .agg c)(w:World):(eqGuard op t x y a b).run P w=.ok () w:=by cases op<;>first|rfl|(cases a<;>first|rfl|exact absurd rfl h1|exact absurd rfl (h2 _))
def Qy{op:BinOp}{t:TypeId}{x y:Value}{cs:List Prop}{v:Value}(h:Nc (Dy P t) op x y=some (cs,v))(hc:∀p ∈ cs,p)(w:World):
  (binOp op t x y).run P w=.ok v w:=by
 unfold Nc at h;split at h
 ·cases h
 split at h
 ·split at h
  ·exact Ng h hc w
  ·exact absurd h cy
 ·rename_i hs;split at h
  ·split at h
   ·rename_i e;subst e;exact Qv hs h hc w
   ·exact absurd h cy
  ·exact Qw h hc w
  ·split at h
   ·rename_i ht;have ht:P.underlying t=some .bool:=by
     unfold Dy at ht;split at ht
     ·assumption
     ·cases ht
    exact Qx ht h w
   ·cases h
  ·exact absurd h cy
def Nh{tb:Bool}{op:BinOp}{x y:Value}{r:List Prop × Value}(h:Nc tb op x y=some r):x≠ .nilIface/\∀c,x≠ .agg c:=by
 constructor
 ·rintro rfl;unfold Nc at h;split at h
  ·cases h
  ·split at h<;>simp at h
 ·rintro c rfl;unfold Nc at h;split at h
  ·cases h
  ·split at h<;>simp at h
end
section
variable {P:Program} {s:St} {o:Oper}
def sD{t:TypeId}{f:Nat}{fd:Field}(h:yt P t f=some fd):∃fs,P.underlying t=some (.struct fs)/\fs[f]? =some fd:=by
 unfold yt at h;split at h
 ·rename_i fs hu;exact ⟨fs,hu,h⟩
 ·cases h
def jm{t e:TypeId}{z:Nat}(h:lp P t=some (e,z)):P.underlying t=some (.slice e)/\∀w,(sizeOf e).run P w=.ok z w:=by
 unfold lp at h;split at h
 ·rename_i e' hu;unfold fP at h
  cases h':P.info? e' with
  |none=>simp [h'] at h
  |some i=>
   simp [h'] at h;obtain ⟨rfl,rfl⟩:=h;exact ⟨hu,λw=>by rw [ep (by simp [h'])];simp [eS,h']⟩
 ·cases h
def c2{a b:Prop}(h:∀p ∈ [a,b],p):a/\b:=⟨h a cy,h b cy⟩
def c4{a b c d:Prop}(h:∀p ∈ [a,b,c,d],p):a/\b/\c/\d:=⟨h a cy,h b cy,h c cy,h d cy⟩
def c6{a b c d e f:Prop}(h:∀p ∈ [a,b,c,d,e,f],p):a/\b/\c/\d/\e/\f:=⟨h a cy,h b cy,h c cy,h d cy,h e cy,h f cy⟩
def lB{t:TypeId}(h:isStr P t=true):P.underlying t=some .string:=by
 unfold isStr at h;split at h
 ·assumption
 ·cases h
def Dz{isS:Bool}{lo hi mx:Option Value}{lo' hi' mx':Option Int}{len cap:Nat}{cs:List Prop}{l h m:Nat}(e1:pg lo=some lo')(e2:pg hi=some hi')(e3:pg mx=some mx')
  (jC:yM lo' hi' mx' len cap=(cs,l,h,m))(hc:∀p ∈ cs,p)(w:World):(Instr.sliceBounds isS len cap lo hi mx).run P w=.ok (l,h,m) w:=by
 have key:∀(x:Value)(i:Int)(y:Nat)(code:BoundsCode)(w:World),pg (some x)=some (some i)->0<=i->i<=(y:Int)->(Instr.sliceBound x y code).run P w=.ok i.toNat w:=by
  intro x i y code w hx h0 h1
  cases x<;>simp [pg] at hx
  subst hx;simp [Instr.sliceBound,asIntOf,h0,h1]
 have n3:∀{x:Option Value},pg x=some none->x=none:=by intro x hx;unfold pg at hx;split at hx<;>simp_all
 have s3:∀{x:Option Value} {i:Int},pg x=some (some i)->∃v,x=some v/\pg (some v)=some (some i):=by
  intro x i hx;cases x with
  |none=>simp [pg] at hx
  |some v=>exact ⟨v,rfl,hx⟩
 unfold Instr.sliceBounds
 cases mx' with
 |none=>
  obtain rfl:=n3 e3
  cases hi' with
  |none=>
   obtain rfl:=n3 e2
   cases lo' with
   |none=>obtain rfl:=n3 e1;simp [yM] at jC;obtain ⟨rfl,rfl,rfl,rfl⟩:=jC;rfl
   |some i=>
    obtain ⟨v,rfl,hv⟩:=s3 e1;simp [yM] at jC;obtain ⟨rfl,rfl,rfl,rfl⟩:=jC;have hc:=c2 hc;simp [key v i len _ w hv hc.1 hc.2]
  |some j=>
   obtain ⟨u,rfl,hu⟩:=s3 e2
   cases lo' with
   |none=>
    obtain rfl:=n3 e1;simp [yM] at jC;obtain ⟨rfl,rfl,rfl,rfl⟩:=jC;have hc:=c2 hc;simp [key u j cap _ w hu hc.1 hc.2]
   |some i=>
    obtain ⟨v,rfl,hv⟩:=s3 e1;simp [yM] at jC;obtain ⟨rfl,rfl,rfl,rfl⟩:=jC;have hc:=c4 hc;simp [key u j cap _ w hu hc.1 hc.2.1,key v i j.toNat _ w hv hc.2.2.1 aa]
 |some q=>
  obtain ⟨x,rfl,hx⟩:=s3 e3
  cases hi' with
  |none=>simp [yM] at jC;obtain ⟨rfl,_⟩:=jC;exact (hc _ (fH.2 rfl)).elim
  |some j=>
   obtain ⟨u,rfl,hu⟩:=s3 e2
   cases lo' with
   |none=>
    obtain rfl:=n3 e1;simp [yM] at jC;obtain ⟨rfl,rfl,rfl,rfl⟩:=jC;have hc:=c4 hc;simp [key x q cap _ w hx hc.1 hc.2.1,key u j q.toNat _ w hu hc.2.2.1 aa]
   |some i=>
    obtain ⟨v,rfl,hv⟩:=s3 e1;simp [yM] at jC;obtain ⟨rfl,rfl,rfl,rfl⟩:=jC;have hc:=c6 hc;simp [key x q cap _ w hx hc.1 hc.2.1,key u j q.toNat _ w hu hc.2.2.1 aa,key v i j.toNat _ w hv hc.2.2.2.2.1 aa]
def Jy{t:TypeId}{x:Value}{lo hi mx:Option Value}{cs:List Prop}{v:Value}(h:Jw P t x lo hi mx=some (cs,v))(hc:∀p ∈ cs,p)(w:World):
  (Instr.sliceAt t x lo hi mx).run P w=.ok v w:=by
 unfold Jw at h;split at h
 ·rename_i lo' hi' mx' e1 e2 e3;split at h
  ·rename_i a n c;split at h
   ·rename_i e z he;split at h;rename_i cs' l q m jC;simp only [Option.some.injEq,Prod.mk.injEq] at h;obtain ⟨rfl,rfl⟩:=h;obtain ⟨hu,hz⟩:=jm he;simp only [Instr.sliceAt,Sem.run_bind,aC,hu,Result.andThen_ok,Instr.slice,Dz e1 e2 e3 jC hc,hz];rfl
   ·cases h
  ·rename_i b;split at h
   ·have he:isStr P t=true:=by assumption
    split at h;rename_i cs' l q m jC;simp only [Option.some.injEq,Prod.mk.injEq] at h;obtain ⟨rfl,rfl⟩:=h;have hu:=lB he;have hmx:mx=none:=by
     cases mx with
     |none=>rfl
     |some u=>cases u<;>simp [pg] at e3
    subst hmx;simp only [Instr.sliceAt,Sem.run_bind,aC,hu,Result.andThen_ok,Instr.slice];have adg:=Dz (P:=P) (isS:=false) e1 e2 (mx:=none) (mx':=none) rfl jC hc w;simp [adg]
   ·cases h
  ·rename_i p;split at h
   ·rename_i n e he;split at h
    ·rename_i z hz;split at h;rename_i cs' l q m jC;simp only [Option.some.injEq,Prod.mk.injEq] at h;obtain ⟨rfl,rfl⟩:=h;obtain ⟨h1,h2⟩:=Qu hc;obtain ⟨a,rfl⟩:=kO.1 (gj.1 h1);have hu:P.underlying t=some (.array n e):=by
      unfold mg at he;split at he
      ·rename_i hu;cases he;exact hu
      ·cases he
     have hz':(sizeOf e).run P w=.ok z w:=by
      unfold fP at hz
      cases hi':P.info? e with
      |none=>simp [hi'] at hz
      |some i'=>simp [hi'] at hz;rw [ep (by simp [hi'])];simp [eS,hi',hz]
     simp only [Instr.sliceAt,Instr.sureAddr,Sem.run_bind,Sem.run_pure,aC,hu,Result.andThen_ok,Dz (isS:=false) e1 e2 e3 jC h2,hz'];unfold aA;split<;>rfl
    ·cases h
   ·cases h
  ·cases h
 ·cases h
def yN{a:Addr}{f:Field}(h:eS P f.type≠0)(w:World):(fieldPlace a f).run P w=.ok (a.add f.offset) w:=by
 have hs:(P.info? f.type).isSome=true:=by
  cases h':P.info? f.type with
  |none=>simp [eS,h'] at h
  |some i=>rfl
 simp only [fieldPlace,Sem.run_bind,ep hs,Result.andThen_ok,if_neg h];rfl
def Qz{x:SV}{kn:List KB}{n:Nat}{cs:List Prop}{sv:SV}(h:Qs x n=some (cs,sv))(hc:∀p ∈ cs,p):
  ∃a:Addr,x.bE kn=.pointer (some a)/\sv.bE kn=.pointer (some (a.add n)):=by
 cases x with
 |loc k off=>
  simp only [Qs,Option.some.injEq,Prod.mk.injEq] at h;obtain ⟨rfl,rfl⟩:=h;refine ⟨_,rfl,?_⟩;simp only [SV.bE,Addr.add];split
  ·rename_i h0;rw [h0];rfl
  ·rfl
 |Vn k n=>cases h
 |val v=>
  cases v<;>simp [Qs] at h
  rename_i p;obtain ⟨rfl,rfl⟩:=h;rw [gj] at hc
  cases p with
  |none=>cases hc
  |some a=>exact ⟨a,rfl,rfl⟩
def Cr{f:Value->Value->Option Value}{g:Value->Value->Sem Value}(hfg:∀x y z,f x y=some z->∀w,(g x y).run P w=.ok z w):
  ∀(l:List Value)(x z:Value),Cp f l x=some z->∀w,(l.foldlM g x).run P w=.ok z w:=by
 intro l
 induction l with
 |nil=>intro x z h w;simp only [Cp,Option.some.injEq] at h;subst h;rfl
 |cons y r ih=>
  intro x z h w;simp only [Cp] at h;split at h
  ·rename_i u hu;rw [List.foldlM_cons,Sem.run_bind,hfg _ _ _ hu];exact ih _ _ h w
  ·cases h
def DA{b:Builtin}{ats:Array TypeId}{ty:TypeId}{cs:Array Bool}{args:Array Value}{v:Value}(h:ph P b ats args.toList=some v)(w:World):
  (builtin b ats ty cs args).run P w=.ok (.value v) w:=by
 obtain ⟨l⟩:=args;simp only at h;unfold ph at h;split at h
 ·split at h
  ·rename_i hx
   cases h
   cases ha:ats[0]? with
   |none=>simp [ha] at hx
   |some t=>
    simp [ha] at hx;obtain ⟨hu,_⟩:=jm hx;simp [builtin,Builtin.len_,ha,aC,hu,goInt]
  ·cases h
 ·split at h
  ·rename_i hx
   cases h
   cases ha:ats[0]? with
   |none=>simp [ha] at hx
   |some t=>
    simp [ha] at hx;have hu:=lB hx;simp [builtin,Builtin.len_,ha,aC,hu,goInt]
  ·cases h
 ·split at h
  ·rename_i hx
   cases h
   cases ha:ats[0]? with
   |none=>simp [ha] at hx
   |some t=>
    simp [ha] at hx;obtain ⟨hu,_⟩:=jm hx;simp [builtin,Builtin.cap_,ha,aC,hu,goInt]
  ·cases h
 ·split at h
  ·rename_i n e hx
   cases h
   cases ha:ats[0]? with
   |none=>simp [ha] at hx
   |some t=>
    simp [ha] at hx;have hu:P.underlying t=some (.array n e):=by
     unfold mg at hx;split at hx
     ·rename_i hu;cases hx;exact hu
     ·cases hx
    simp [builtin,Builtin.len_,ha,aC,hu,goInt]
  ·cases h
 ·have:=Cr (P:=P) (f:=YV) (g:=Builtin.min2) (by
   intro x y z hz w
   cases x<;>cases y<;>simp [YV] at hz
   subst hz;rfl) _ _ _ h w
  simp only [builtin,Builtin.min_,Sem.run_bind,this];rfl
 ·have:=Cr (P:=P) (f:=YX) (g:=Builtin.max2) (by
   intro x y z hz w
   cases x<;>cases y<;>simp [YX] at hz
   subst hz;rfl) _ _ _ h w
  simp only [builtin,Builtin.max_,Sem.run_bind,this];rfl
 ·cases h
def dP{α β:Type}{a c:α}{b d:β}(h:some (a,b)=some (c,d)):a=c/\b=d:=by cases h;exact ⟨rfl,rfl⟩
def Vq{x:Option (List Prop × Value)}{cs:List Prop}{sv:SV}(h:(x.map λ(c,v)=>(c,SV.val v))=some (cs,sv)):∃v,x=some (cs,v)/\sv=.val v:=by
 cases x with
 |none=>cases h
 |some p=>obtain ⟨a,b⟩:=p;cases h;exact ⟨b,rfl,rfl⟩
def Cs{x:Operand}{v:SV}(h:s.sv x=v):s.ev x=v.bE s.kn:=by simp only [St.ev,h]
def sE{t:TypeId}{cs:Array Value}{off:Nat}(w:World)(hn:(P.underlying t).isNone=false):
  (uH P t=true->(part t cs off).run P w=.ok (.agg ((cs.toList.drop off).take (eS P t)).toArray) w)/\(uH P t=false->∀v,cs[off]? =some v->(part t cs off).run P w=.ok v w):=by
 have hu:∃d,P.underlying t=some d:=by
  cases hh:P.underlying t with
  |some d=>exact ⟨d,rfl⟩
  |none=>simp [hh] at hn
 obtain ⟨d,hu⟩:=hu;have hi:=info_of_underlying hu;constructor
 ·intro h;have:(isAgg t).run P w=.ok true w:=by
   simp only [isAgg,Sem.run_bind,aC,hu,Result.andThen_ok];unfold uH at h;rw [hu] at h
   cases d<;>first|rfl|(simp at h)
  simp only [part,Sem.run_bind,this,Result.andThen_ok,if_true,ep hi,Sem.run_pure];congr 2;apply Array.ext';simp [List.take_drop,Ct]
 ·intro h v hv;have:(isAgg t).run P w=.ok false w:=by
   simp only [isAgg,Sem.run_bind,aC,hu,Result.andThen_ok];unfold uH at h;rw [hu] at h
   cases d<;>first|rfl|(simp at h)
  simp [part,this,hv]
def qg{t:TypeId}{cs:Array Value}{off:Nat}{v:Value}(h:Cq P t cs off=some v)(w:World):(part t cs off).run P w=.ok v w:=by
 unfold Cq at h;split at h
 ·cases h
 ·rename_i d hu;have hp:=sE (P:=P) (t:=t) (cs:=cs) (off:=off) w (by rw [hu];rfl);split at h
  ·rename_i ha;cases h;exact hp.1 ha
  ·rename_i ha;exact hp.2 (by simpa using ha) v h
def FJ{g:TypeId->Value->Value->Option Bool}{d:Nat}(hg:∀t x y b,g t x y=some b->∀w,(Op.equalIn d t x y).run P w=.ok b w)(xs ys:Array Value):
  ∀(fs:List Field)(b:Bool),Nd P g xs ys fs=some b->∀w,(Op.eqFields d xs ys fs).run P w=.ok b w
 | [],b,h,w=>by simp only [Nd,Option.some.injEq] at h;subst h;rfl
 | [f],b,h,w=>by
   unfold Nd at h
   split at h
   ·cases h
   ·rename_i hn
    split at h
    ·rename_i x y hx hy
     simp only [Op.eqFields,if_pos (show f.name≠ "_" from hn),Sem.run_bind,qg hx,qg hy,Result.andThen_ok,hg _ _ _ _ h]
     cases b<;>rfl
    ·cases h
 |f::f'::r,b,h,w=>by
  unfold Nd at h
  split at h
  ·cases h
  ·rename_i hn
   split at h
   ·rename_i x y hx hy
    split at h
    ·rename_i p q hp hq
     cases h
     rw [Op.eqFields,if_pos (show f.name≠ "_" from hn)]
     simp only [Sem.run_bind,qg hx,qg hy,Result.andThen_ok,hg _ _ _ _ hp]
     cases p with
     |false=>rfl
     |true=>simpa using FJ hg xs ys (f'::r) q hq w
    ·cases h
   ·cases h
def DB:∀(d:Nat)(t:TypeId)(x y:Value)(b:Bool),eqV P d t x y=some b->∀(n:Nat),d<=n->∀w,(Op.equalIn n t x y).run P w=.ok b w
 |0,t,x,y,b,h,n,hn,w=>by cases h
 |d+1,t,x,y,b,h,n,hn,w=>by
  obtain ⟨m,rfl⟩:∃m,n=m+1:=⟨n-1,by omega⟩
  unfold eqV at h
  split at h
  ·rename_i k0 k a k' b' hu
   split at h
   ·rename_i e;subst e;cases h;exact run_equalIn_int w m t k k0 a b' hu
   ·cases h
  ·rename_i a b' hu;cases h;exact run_equalIn_bool w m t a b' hu
  ·rename_i a b' hu;cases h;exact run_equalIn_string w m t a b' hu
  ·rename_i fs xs ys hu
   split at h
   ·cases h
   ·rename_i hs
    have hf:P.fieldsOf t=fs:=by simp [Program.fieldsOf,hu]
    rw [run_equalIn_struct w m t xs ys (by rw [hf];exact hu) (by simpa using hs),hf];exact FJ (λt x y b hb w=>DB d t x y b hb m aa w) xs ys fs.toList b h w
  ·cases h
def jM{t:TypeId}{x y:Value}{b:Bool}{w:World}(h:(Op.equalIn (9999+1) t x y).run P w=.ok b w):(Op.equal t x y).run P w=.ok b w:=h
def FK{t:TypeId}{x y:Value}{cs:List Prop}{b:Bool}(h:YZ P t x y=some (cs,b))(hc:∀p ∈ cs,p)(w:World):
  (Op.equal t x y).run P w=.ok b w/\(∀op (xo yo:Operand),(eqGuard op t xo yo x y).run P w=.ok () w)/\(x≠ .nilIface)/\
  (∀op,(binOp op t x y)=match op with| .eql=>(do pure (.bool (<-Op.equal t x y)))| .neq=>(do pure (.bool (!(<-Op.equal t x y))))|o=>binOp o t x y):=by
 have g:∀op (xo yo:Operand),x≠ .nilIface->(∀c,x≠ .agg c)->(eqGuard op t xo yo x y).run P w=.ok () w:=λop xo yo h1 h2=>vT op t xo yo x y h1 h2 w
 unfold YZ at h;split at h
 ·split at h
  ·rename_i a n c e hu;obtain ⟨rfl,rfl⟩:=dP h;refine ⟨jM ?_,λop xo yo=>g op xo yo cy cy,by simp,λop=>by cases op<;>rfl⟩;rw [Op.equalIn,Sem.run_bind,aC,hu]
   cases a<;>rfl
  ·cases h
 ·rename_i b;split at h
  ·rename_i a e hu;obtain ⟨rfl,rfl⟩:=dP h;refine ⟨jM ?_,λop xo yo=>g op xo yo cy cy,by simp,λop=>by cases op<;>rfl⟩;rw [Op.equalIn,Sem.run_bind,aC,hu]
   cases b with
   |none=>cases a<;>rfl
   |some y=>
    have ha:a=none:=hc _ (fH.2 rfl);subst ha;rfl
  ·cases h
 ·split at h
  ·rename_i a k e hu;obtain ⟨rfl,rfl⟩:=dP h;refine ⟨jM ?_,λop xo yo=>g op xo yo cy cy,by simp,λop=>by cases op<;>rfl⟩;rw [Op.equalIn,Sem.run_bind,aC,hu]
   cases a<;>rfl
  ·cases h
 ·split at h
  ·rename_i a1 a2 a3 hu;obtain ⟨rfl,rfl⟩:=dP h
   cases x with
   |nilFunc=>
    refine ⟨jM ?_,λop xo yo=>g op xo yo cy cy,by simp,λop=>by cases op<;>rfl⟩;rw [Op.equalIn,Sem.run_bind,aC,hu];rfl
   |func fn fs cs=>
    refine ⟨jM ?_,λop xo yo=>g op xo yo cy cy,by simp,λop=>by cases op<;>rfl⟩;rw [Op.equalIn,Sem.run_bind,aC,hu];rfl
   |_=>exact (hc False (fH.2 rfl)).elim
  ·cases h
 ·rename_i ys;split at h
  ·rename_i xs;split at h
   ·rename_i hg
    cases he:eqV P 20 t (.agg xs) (.agg ys) with
    |none=>rw [he] at h;cases h
    |some b'=>
     rw [he] at h;obtain ⟨rfl,rfl⟩:=dP h;refine ⟨jM (DB 20 t _ _ _ he _ aa w),λop xo yo=>run_eqGuard_agg w op t xo yo _ _ hg,by simp,λop=>by cases op<;>rfl⟩
   ·cases h
  ·cases h
 ·cases h
def Ni{op:BinOp}{t:TypeId}{x y:Value}{cs:List Prop}{v:Value}(h:Qt P op t x y=some (cs,v))(hc:∀p ∈ cs,p)(w:World)(xo yo:Operand):
  (eqGuard op t xo yo x y).run P w=.ok () w/\(binOp op t x y).run P w=.ok v w:=by
 unfold Qt at h;split at h
 ·rename_i c b ho hcv;obtain ⟨rfl,rfl⟩:=dP h;obtain ⟨h1,h2,_,h4⟩:=FK hcv hc w;refine ⟨h2 op xo yo,?_⟩
  cases op<;>simp [Y0] at ho
  rw [h4,Sem.run_bind,h1];rfl
 ·rename_i c b ho hcv;obtain ⟨rfl,rfl⟩:=dP h;obtain ⟨h1,h2,_,h4⟩:=FK hcv hc w;refine ⟨h2 op xo yo,?_⟩
  cases op<;>simp [Y0] at ho
  rw [h4,Sem.run_bind,h1];rfl
 ·cases h
def nE{cs:List Prop}{sv:SV}(h:dm P s o.op=some (cs,sv))(hc:∀p ∈ cs,p):Xu P s.ev o (sv.bE s.kn):=by
 obtain ⟨dst,op,ty,pos,after,guard⟩:=o;simp only at h
 cases op with
 |move x=>obtain ⟨rfl,rfl⟩:=dP h;exact λw=>rfl
 |assign x=>obtain ⟨rfl,rfl⟩:=dP h;exact λw=>rfl
 |pick c a b=>
  simp only [dm] at h;split at h
  ·rename_i t hx;obtain ⟨rfl,rfl⟩:=dP h;intro w;simp only [execOp,Cs hx]
   cases t<;>rfl
  ·cases h
 |extract t i=>
  simp only [dm] at h;split at h
  ·rename_i vs hx
   cases hv:vs[i]? with
   |none=>simp [hv] at h
   |some v=>
    simp [hv] at h;obtain ⟨rfl,rfl⟩:=h;intro w;simp [execOp,Cs hx,Instr.extract,hv,SV.bE]
  ·cases h
 |fieldAddr t x f=>
  simp only [dm] at h;split at h
  ·rename_i fd hf;split at h
   ·cases h
   ·rename_i hz;obtain ⟨a,e1,e2⟩:=Qz (kn:=s.kn) h hc;obtain ⟨fs,hu,hfs⟩:=sD hf;refine dz rfl λw=> ?_
    simp only [Instr.fieldAt,Sem.run_bind,aC,hu,Result.andThen_ok,hfs,St.ev,e1,Instr.sureAddr,Sem.run_pure,yN hz,e2]
  ·cases h
 |field t x f=>
  simp only [dm] at h;split at h
  ·rename_i cs' fd hx hf;obtain ⟨fs,hu,hfs⟩:=sD hf;refine dz rfl λw=> ?_
   simp only [Instr.field,Sem.run_bind,aC,hu,Result.andThen_ok,hfs,Cs hx,SV.bE,asAgg,Sem.run_pure];split at h
   ·cases h
   rename_i hn;have hp:=sE (P:=P) (t:=fd.type) (cs:=cs') (off:=fd.offset) w (by cases hq:P.underlying fd.type<;>simp_all);split at h
   ·rename_i ha;obtain ⟨rfl,rfl⟩:=dP h;exact hp.1 ha
   ·rename_i ha
    cases hv:cs'[fd.offset]? with
    |none=>simp [hv] at h
    |some v=>
     simp [hv] at h;obtain ⟨rfl,rfl⟩:=h;exact hp.2 (by simpa using ha) v hv
  ·cases h
 |nilCheck x=>
  simp only [dm] at h;split at h
  ·rename_i k off hx;obtain ⟨rfl,rfl⟩:=dP h;intro w;simp only [execOp,Cs hx,SV.bE];rfl
  ·rename_i p hx;obtain ⟨rfl,rfl⟩:=dP h;rw [gj] at hc;intro w
   cases p with
   |none=>cases hc
   |some a=>simp only [execOp,Cs hx,SV.bE];rfl
  ·cases h
 |indexAddr t x i=>
  simp only [dm] at h;split at h
  ·rename_i k iv hi;split at h
   ·rename_i e z a n c he hx;obtain ⟨rfl,rfl⟩:=dP h;obtain ⟨hu,hz⟩:=jm he;obtain ⟨h1,h3,h4⟩:=hc _ (fH.2 rfl);refine dz rfl λw=> ?_
    cases a with
    |none=>cases h1
    |some a=>simp [Instr.indexAt,aC,hu,hx,SV.bE,hi,asIntOf,h3,h4,hz,ae]
   ·rename_i p he hx;split at h
    ·rename_i n e ha;have hu:P.underlying t=some (.array n e):=by
      unfold mg at ha;split at ha
      ·rename_i hu;cases ha;exact hu
      ·cases ha
     cases hz:fP P e with
     |none=>simp [hz] at h
     |some z=>
      rw [hz] at h;obtain ⟨rfl,rfl⟩:=dP h;obtain ⟨h1,h2⟩:=Qu hc;rw [gj] at h1;obtain ⟨h3,h4⟩:=c2 h2;have hz':∀w,(sizeOf e).run P w=.ok z w:=λw=>by
       unfold fP at hz
       cases hi':P.info? e with
       |none=>simp [hi'] at hz
       |some i'=>simp [hi'] at hz;rw [ep (by simp [hi'])];simp [eS,hi',hz]
      refine dz rfl λw=> ?_
      cases p with
      |none=>cases h1
      |some a=>simp [Instr.indexAt,aC,hu,hx,SV.bE,hi,asIntOf,h3,h4,hz',ae,Instr.sureAddr]
    ·cases h
   ·cases h
  ·cases h
 |index t x i=>
  simp only [dm] at h;split at h
  ·rename_i b k iv hx hi;split at h
   ·rename_i ht;have hu:=lB ht;obtain ⟨rfl,rfl⟩:=dP h;obtain ⟨h3,h4⟩:=c2 hc;refine dz rfl λw=> ?_
    have ft:iv.toNat<b.size:=by omega
    have hg:b[iv.toNat]? =some (b.data.toList.getD iv.toNat 0):=by
     rw [getElem?_pos b iv.toNat ft];have:iv.toNat<b.data.toList.length:=by simpa using ft
     simp [cZ,cr this];rfl
    simp [Instr.index,aC,hu,hx,hi,asIntOf,h3,hg,SV.bE]
   ·cases h
  ·cases h
 |binOp op t x y u=>
  simp only [dm] at h;split at h
  ·rename_i c v hv;obtain ⟨rfl,rfl⟩:=dP h;refine dz rfl λw=> ?_
   obtain ⟨n1,n2⟩:=Nh hv;rw [Sem.run_bind,vT _ _ _ _ _ _ n1 n2,Result.andThen_ok,Qy hv hc];rfl
  ·obtain ⟨v,hv,rfl⟩:=Vq h;refine dz rfl λw=> ?_
   obtain ⟨h1,h2⟩:=Ni hv hc w x y;rw [Sem.run_bind,h1,Result.andThen_ok,h2];rfl
 |unOp op t x=>
  cases op with
  |not=>
   simp only [dm] at h;split at h
   ·rename_i b hx;obtain ⟨rfl,rfl⟩:=dP h;exact dz rfl λw=>by simp only [hx];rfl
   ·cases h
  |neg=>
   simp only [dm] at h;split at h
   ·rename_i k n hx;obtain ⟨rfl,rfl⟩:=dP h;exact dz rfl λw=>by simp only [hx];rfl
   ·cases h
  |_=>cases h
 |convert a b x=>
  simp only [dm] at h;split at h
  ·rename_i k' k k'' n hu1 hu2 hx;obtain ⟨rfl,rfl⟩:=dP h;refine dz rfl λw=> ?_
   simp only [convert,Sem.run_bind,aC,hu1,hu2,Result.andThen_ok,hx];rfl
  ·rename_i bb hu1 hu2 hx;obtain ⟨rfl,rfl⟩:=dP h;refine dz rfl λw=> ?_
   simp only [convert,Sem.run_bind,aC,hu1,hu2,Result.andThen_ok,hx];rfl
  ·cases h
 |slice t x lo hi mx=>
  obtain ⟨v,hv,rfl⟩:=Vq h;exact dz rfl λw=>Jy hv hc w
 |call c=>
  obtain ⟨callee,args,argTypes⟩:=c
  cases callee with
  |builtin b=>
   simp only [dm] at h
   cases hb:ph P b argTypes (args.toList.map s.ev) with
   |none=>simp [hb] at h
   |some v=>
    simp [hb] at h;obtain ⟨rfl,rfl⟩:=h;intro w;have:=DA (P:=P) (ty:=ty) (cs:=(args.map fun| .const _=>true|_=>false)) (args:=args.map s.ev) (by simpa using hb) w;rw [BigFrame.execOp_builtin];exact this
  |_=>cases h
 |_=>cases h
end
section
variable {P:Program} {s:St} {o:Oper}
def yO(hs:s.Ok){op:Op}{cs:List Prop}{sv:SV}(h:dm P s op=some (cs,sv)):sv.fN s.kn.length:=by
 cases op with
 |move x=>obtain ⟨rfl,rfl⟩:=dP h;exact hs.sv x
 |assign x=>obtain ⟨rfl,rfl⟩:=dP h;exact hs.sv x
 |pick c a b=>
  simp only [dm] at h;split at h
  ·rename_i t hx;obtain ⟨rfl,rfl⟩:=dP h
   cases t
   ·exact hs.sv b
   ·exact hs.sv a
  ·cases h
 |extract t i=>
  simp only [dm] at h;split at h
  ·rename_i vs hx
   cases hv:vs[i]? with
   |none=>simp [hv] at h
   |some v=>simp [hv] at h;obtain ⟨rfl,rfl⟩:=h;trivial
  ·cases h
 |fieldAddr t x f=>
  simp only [dm] at h;split at h
  ·split at h
   ·cases h
   ·have hx:=hs.sv x;unfold Qs at h;split at h
    ·rename_i e;rw [e] at hx;obtain ⟨rfl,rfl⟩:=dP h;exact hx
    ·obtain ⟨rfl,rfl⟩:=dP h;trivial
    ·cases h
  ·cases h
 |field t x f=>
  simp only [dm] at h;split at h
  ·rename_i cs' fd hx hf;split at h
   ·cases h
   split at h
   ·obtain ⟨rfl,rfl⟩:=dP h;trivial
   ·cases hv:cs'[fd.offset]? with
    |none=>simp [hv] at h
    |some v=>simp [hv] at h;obtain ⟨rfl,rfl⟩:=h;trivial
  ·cases h
 |nilCheck x=>
  simp only [dm] at h;have hx:=hs.sv x;split at h
  ·rename_i e;rw [e] at hx;obtain ⟨rfl,rfl⟩:=dP h;exact hx
  ·obtain ⟨rfl,rfl⟩:=dP h;trivial
  ·cases h
 |indexAddr t x i=>
  simp only [dm] at h;split at h
  ·split at h
   ·obtain ⟨rfl,rfl⟩:=dP h;trivial
   ·split at h
    ·rename_i n e ha
     cases hz:fP P e with
     |none=>simp [hz] at h
     |some z=>rw [hz] at h;obtain ⟨rfl,rfl⟩:=dP h;trivial
    ·cases h
   ·cases h
  ·cases h
 |index t x i=>
  simp only [dm] at h;split at h
  ·split at h
   ·obtain ⟨rfl,rfl⟩:=dP h;trivial
   ·cases h
  ·cases h
 |binOp op t x y u=>
  simp only [dm] at h;split at h
  ·obtain ⟨rfl,rfl⟩:=dP h;trivial
  ·obtain ⟨v,_,rfl⟩:=Vq h;trivial
 |unOp op t x=>
  cases op<;>simp only [dm] at h<;>first|(cases h;done)|(split at h<;>first|(cases h;done)|(obtain ⟨rfl,rfl⟩:=dP h;trivial))
 |convert a b x=>
  simp only [dm] at h;split at h
  ·obtain ⟨rfl,rfl⟩:=dP h;trivial
  ·obtain ⟨rfl,rfl⟩:=dP h;trivial
  ·cases h
 |slice t x lo hi mx=>obtain ⟨v,_,rfl⟩:=Vq h;trivial
 |call c=>
  obtain ⟨callee,args,argTypes⟩:=c
  cases callee with
  |builtin b=>
   simp only [dm] at h
   cases hb:ph P b argTypes (args.toList.map s.ev) with
   |none=>simp [hb] at h
   |some v=>simp [hb] at h;obtain ⟨rfl,rfl⟩:=h;trivial
  |_=>cases h
 |_=>cases h
end
def fQ(d:Option Tmp)(s:St)(K:St->Prop):Act->World->Prop:=
 λa w=>∃s',s'.Ok/\s'.act=a/\s'.w=w/\Fr d.toList s s'/\K s'
def getD_set_ne{α:Type}(l:List α)(i j:Nat)(v d:α)(h:i≠j):(l.set i v).getD j d=l.getD j d:=by simp [cZ,h]
def jn{s:St}{d:Option Tmp}{K:St->Prop}{a:Act}{w:World}{s1:St}{v:SV}(hk:K (s1.put d v))
  (aU:s.Ok)(kI:s1.sl=s.sl)(fM:nC s.kn s1.kn)
  (gX:∀(k:Nat)(kb:KB),s1.kn[k]? =some kb->kb.live=true->s1.w.heap[kb.idx]? =some (.cells kb.cells.toArray kb.ty (0,0)))
  (dI:∀(i j:Nat)(x y:KB),s1.kn[i]? =some x->s1.kn[j]? =some y->x.live=true->y.live=true->x.idx=y.idx->i=j)
  (hv:v.fN s1.kn.length)(ha:s.act.put d (v.bE s1.kn)=a)(hw:s1.w=w)(Lx:s1.df=s.df:=by rfl):fQ d s K a w:=by
 have Pp:∀x ∈ s.sl,x.bE s1.kn=x.bE s.kn:=λx hx=>by obtain ⟨i,hi⟩:=mO hx;exact fM.bE (aU.jL i x hi)
 refine ⟨s1.put d v,⟨?_,?_,?_⟩,?_,?_,⟨?_,?_,?_,?_⟩,hk⟩
 ·cases d<;>exact gX
 ·cases d<;>exact dI
 ·have hl:∀(i:Nat)(u:SV),s1.sl[i]? =some u->u.fN s1.kn.length:=λi u hu=>(aU.jL i u (by rw [<-kI];exact hu)).mono fM.length
  cases d with
  |none=>exact hl
  |some d=>
   intro i u hu;simp only [St.put,ij] at hu;split at hu
   ·split at hu
    ·cases hu;exact hv
    ·cases hu
   ·exact hl i u hu
 ·rw [St.Vo,<-ha];have:s1.act=s.act:=by simp only [St.act,kI,Lx];congr 2;exact vU Pp
  rw [this]
 ·cases d<;>exact hw
 ·cases d<;>simp [St.put,kI]
 ·intro i hi;have:(s1.put d v).sl.getD i (.val undef)=s.sl.getD i (.val undef):=by
   cases d with
   |none=>simp [St.put,kI]
   |some d=>simp only [St.put,kI];exact getD_set_ne _ _ _ _ _ (λe=>hi (by simp [e]))
  rw [this];have Fq:(s1.put d v).kn=s1.kn:=by cases d<;>rfl
  rw [Fq];simp only [cZ]
  cases hg:s.sl[i]? with
  |none=>rfl
  |some u=>exact fM.bE (aU.jL i u hg)
 ·cases d<;>exact fM
 ·have:(s1.put d v).df=s.df:=by cases d<;>exact Lx
  rw [this];exact ⟨ax _,λ_=>rfl⟩
def wp_pure{P:Program}{s:St}{o:Oper}{K:St->Prop}{Q:Exit->Act->World->Prop}{cs:List Prop}{sv:SV}(aU:s.Ok)(h:dm P s o.op=some (cs,sv))(hk:bn cs (K (s.put o.dst sv))):
  o.wp P s.act s.w (fQ o.dst s K) Q:=by
 rw [bj] at hk;unfold Oper.wp;rw [St.eval_eq,nE h hk.1];exact jn hk.2 aU rfl (nC.refl _) aU.bg aU.ne (yO aU h) rfl rfl
def av(w:World)(p:Option Addr):Nat->List Value->Prop
 |_,[]=>True
 |i,[v]=>ld w (ae p i)=some v
 |i,v::u::r=>ld w (ae p i)=some v/\av w p (i+1) (u::r)
def Cu(P:Program)(w:World)(p:Option Addr)(t:TypeId)(F:Value->Prop):Prop:=
 match nB P t with
 | .sc c=>c.ex λv=>ld w p=some v/\F v
 | .agg l=>if l.length=eS P t/\l.isEmpty=false then Vl l λvs=>av w p 0 vs/\F (.agg vs.toArray) else False
def cellsOf:Value->List Value
 | .agg cs=>cs.toList
 |v=> [v]
def mP(w:World)(a:Addr):Nat->List Value->World
 |_,[]=>w
 |i,v::r=>mP (w.setCell (a.add i) v) a (i+1) r
def aZ(w:World)(p:Option Addr)(vs:List Value):World:=match p with|some a=>mP w a 0 vs|none=>w
def Wr(w:World)(p:Option Addr)(n:Nat):Prop:=∀i,i<n->∃a,p=some a/\(w.cell? (a.add i)).isSome=true/\w.frozen? (a.add i)=false
def Jz:Value->List Prop
 | .agg _| .tuple _=> [False]
 |_=> []
def cQ:Option Addr->Option Nat:=λp=>p.map (·.block)
def fa(kn:List KB):List Nat:=(kn.filter (·.live)).map (·.idx)
def yP(kn:List KB)(w w':World):List Prop:=(fa kn).map λi=>w'.heap[i]? =w.heap[i]?
def uI(kn:List KB)(p:Option Addr):List Prop:=(fa kn).map λi=>cQ p≠some i
def aV(cs:List Value)(off:Nat):List Value->List Value
 | []=>cs
 |v::r=>aV (cs.set off v) (off+1) r
def St.mQ(s:St)(k:Nat):St:={s with kn:=s.kn.modify k λkb=>{kb with live:=false}}
def St.kill(s:St):List SV->St
 | []=>s
 | .loc k _::r| .Vn k _::r=>(s.mQ k).kill r
 | .val _::r=>s.kill r
def acR(P:Program)(t:TypeId):Bool:=match P.underlying t with|some (.array _ _)=>true|_=>false
def uJ(P:Program)(s:St)(d:Option Tmp)(t:TypeId)(cs:List Value)(K:St->Prop):Prop:=
 match acR P t with
 |true=>∀w1,w1=s.w.alloc (.cells cs.toArray t)->K ({s with w:=w1}.put d (.val (.pointer (some ⟨s.w.heap.size,0,none⟩))))
 |false=>∀w1,w1=s.w.alloc (.cells cs.toArray t)->K ({s with w:=w1,kn:=s.kn++ [KB.mk s.w.heap.size cs t true]}.put d (.loc s.kn.length 0))
def zeroOf(P:Program)(t:TypeId):Option (List Value):=((P.info? t).bind (·.zero)).map cellsOf
section
variable {P:Program} {s:St} {o:Oper} {K:St->Prop} {Q:Exit->Act->World->Prop}
def c9{d:Option Tmp}{v:Value}(aU:s.Ok)(hk:K (s.put d (.val v))):fQ d s K (s.act.put d v) s.w:=
 jn hk aU rfl (nC.refl _) aU.bg aU.ne trivial rfl rfl
def yQ(kn:List KB)(l:List KB):nC kn (kn++l):=λk kb hk=>⟨kb,by
 rw [kP (by have:=(bF.1 hk).1;exact this)];exact hk,rfl,rfl⟩
def mR(v:Value):v.cells.toList=cellsOf v:=by cases v<;>rfl
def lq(v:Value):v.cells=(cellsOf v).toArray:=by cases v<;>rfl
def yR{d:Option Tmp}{t:TypeId}{cs:List Value}(aU:s.Ok)(hk:uJ P s d t cs K):
  fQ d s K (s.act.put d (.pointer (some ⟨s.w.heap.size,0,none⟩))) (s.w.alloc (.cells cs.toArray t)):=by
 have AT:∀i,i<s.w.heap.size->(s.w.alloc (.cells cs.toArray t)).heap[i]? =s.w.heap[i]? :=λi hi=>Below.heap_alloc _ _ _ hi
 have AU:(s.w.alloc (.cells cs.toArray t)).heap[s.w.heap.size]? =some (.cells cs.toArray t (0,0)):=by show (s.w.heap.push _)[s.w.heap.size]? =_;simp
 unfold uJ at hk;split at hk
 ·have hk:=hk _ rfl;exact jn hk aU rfl (nC.refl _) (λk kb h1 h2=>by rw [<-aU.bg k kb h1 h2];exact AT _ (aU.lt k kb h1 h2)) aU.ne trivial rfl rfl
 ·have hk:=hk _ rfl;refine jn hk aU rfl (yQ _ _) (λk kb h1 h2=> ?_) (λi j x y h1 h2 h3 h4 h5=> ?_) (show s.kn.length<(s.kn++ [_]).length by simp) ?_ rfl
  ·rcases fx k s.kn.length with ft|Lv
   ·simp only [kP ft] at h1;rw [<-aU.bg k kb h1 h2];exact AT _ (aU.lt k kb h1 h2)
   ·simp only [mS Lv] at h1
    cases hz:k-s.kn.length with
    |zero=>simp [hz] at h1;subst h1;exact AU
    |succ n=>simp [hz] at h1
  ·have key:∀(i:Nat)(x:KB),(s.kn++ [KB.mk s.w.heap.size cs t true])[i]? =some x->(i<s.kn.length/\s.kn[i]? =some x)\/(i=s.kn.length/\x.idx=s.w.heap.size):=by
    intro i x hx;rcases fx i s.kn.length with ft|Lv
    ·exact .inl ⟨ft,by rwa [kP ft] at hx⟩
    ·rw [mS Lv] at hx
     cases hz:i-s.kn.length with
     |zero=>simp [hz] at hx;subst hx;exact .inr ⟨by omega,rfl⟩
     |succ n=>simp [hz] at hx
   rcases key i x h1 with ⟨a1,a2⟩|⟨a1,a2⟩<;>rcases key j y h2 with ⟨b1,b2⟩|⟨b1,b2⟩
   ·exact aU.ne i j x y a2 b2 h3 h4 h5
   ·have:=aU.lt i x a2 h3;omega
   ·have:=aU.lt j y b2 h4;omega
   ·omega
  ·simp [SV.bE,cZ]
def gx(ob:Obj)(w:World):(newObj ob).run P w=.ok w.heap.size (w.alloc ob):=rfl
def Cv{t:TypeId}{cs:List Value}(h:zeroOf P t=some cs)(w:World):
  (Instr.alloc t true (.tuple #[])).run P w=.ok (.pointer (some ⟨w.heap.size,0,none⟩)) (w.alloc (.cells cs.toArray t)):=by
 unfold zeroOf at h
 cases hi:P.info? t with
 |none=>simp [hi] at h
 |some i=>
  cases hz:i.zero with
  |none=>simp [hi,hz] at h
  |some v=>
   simp [hi,hz] at h;subst h;simp [Instr.alloc,zeroValue,cT,hi,hz,newVar,newRow,gx,lq]
def L1{t:TypeId}{v:Value}(w:World):
  (Instr.box t v).run P w=.ok (.pointer (some ⟨w.heap.size,0,none⟩)) (w.alloc (.cells (cellsOf v).toArray t)):=by
 simp [Instr.box,newVar,newRow,gx,lq]
end
section
variable {P:Program} {s:St} {o:Oper} {K:St->Prop} {Q:Exit->Act->World->Prop}
def St.known(s:St)(k:Nat):Option KB:=match s.kn[k]? with|some kb=>(match kb.live with|true=>some kb|false=>none)|none=>none
def nG{k:Nat}{kb:KB}(h:s.known k=some kb):s.kn[k]? =some kb/\kb.live=true:=by
 unfold St.known at h;split at h
 ·split at h
  ·cases h;exact ⟨by assumption,by assumption⟩
  ·cases h
 ·cases h
def yS(P:Program)(s:St)(d:Option Tmp)(t:TypeId)(x:SV)(K:St->Prop):Prop:=
 match x with
 | .loc k off=>match s.known k with
   |some kb=>match nB P t with
    | .sc _=>match kb.cells[off]? with|some v=>K (s.put d (.val v))|none=>False
    | .agg l=>if l.length=eS P t/\off+l.length<=kb.cells.length then K (s.put d (.val (.agg ((kb.cells.drop off).take l.length).toArray))) else False
   |none=>Cu P s.w (some ⟨(s.kn.getD k default).idx,off,none⟩) t λv=>K (s.put d (.val v))
 | .val (.pointer p)=>Cu P s.w p t λv=>K (s.put d (.val v))
 |_=>False
def j8{t:TypeId}(w:World){d:TypeDesc}(hu:P.underlying t=some d):(isAgg t).run P w=.ok (uH P t) w:=by
 simp only [isAgg,Sem.run_bind,aC,hu,Result.andThen_ok,uH]
 cases d<;>rfl
def FL{t:TypeId}{c:S}(h:nB P t=.sc c):uH P t=false:=by
 unfold nB at h;split at h
 ·cases h
 ·rename_i h';simpa using h'
def yT{t:TypeId}{l:List S}(h:nB P t=.agg l):uH P t=true:=by
 unfold nB at h;split at h
 ·assumption
 ·cases h
def j0{a:Addr}{w:World}:∀(n i:Nat)(acc:Array Value)(vs:List Value),vs.length=n->(∀j,j<n->w.cell? (a.add (i+j))=vs[j]?)->
  (loadCellsFrom a i n acc).run P w=.ok (acc++vs.toArray) w:=by
 intro n
 induction n with
 |zero=>intro i acc vs hl _;have:vs=[]:=yU.1 hl;subst this;simp [loadCellsFrom]
 |succ n ih=>
  intro i acc vs hl h
  cases vs with
  |nil=>simp at hl
  |cons v r=>
   have h0:=h 0 aa;simp at h0;simp only [loadCellsFrom,Sem.run_bind,run_load,h0,Result.andThen_ok];rw [ih (i+1) _ r (by simpa using hl) (λj hj=>by have:=h (j+1) aa;simpa [Nat.add_assoc,Ct 1 j] using this)];simp
def j9{w:World}{p:Option Addr}:∀{i:Nat} {vs:List Value},av w p i vs->∀j,j<vs.length->ld w (ae p (i+j))=vs[j]?
 |_,[],_,j,hj=>by simp at hj
 |i,[v],h,j,hj=>by
  have:j=0:=by simp at hj;exact hj
  subst this;exact h
 |i,v::u::r,h,j,hj=>by
  cases j with
  |zero=>exact h.1
  |succ j=>
   have:=j9 h.2 j (by simpa using hj);rw [show i+(j+1)=i+1+j by omega,this];simp
def Cw{t:TypeId}{p:Option Addr}{F:Value->Prop}{w:World}(hu:(P.underlying t).isSome=true)(h:Cu P w p t F):
  ∃a v,p=some a/\F v/\(Instr.loadAt t (.pointer (some a))).run P w=.ok v w:=by
 obtain ⟨d,hu⟩:=kO.1 hu;unfold Cu at h
 cases ht:nB P t with
 |sc c=>
  rw [ht] at h;obtain ⟨v,h1,h2⟩:=S.jl h
  cases p with
  |none=>simp [ld] at h1
  |some a=>
   refine ⟨a,v,rfl,h2,?_⟩;have MP:w.cell? a=some v:=h1;simp [Instr.loadAt,Instr.sureAddr,loadVar,j8 w hu,FL ht,MP]
 |agg l=>
  simp only [ht] at h;split at h
  ·rename_i hl;have:∃vs,vs.length=l.length/\av w p 0 vs/\F (.agg vs.toArray):=by
    have key:∀(l:List S)(G:List Value->Prop),Vl l G->∃vs,vs.length=l.length/\G vs:=by
     intro l
     induction l with
     |nil=>intro G hG;exact ⟨[],rfl,hG⟩
     |cons c r ih=>
      rintro G ⟨x,hx⟩;obtain ⟨vs,h1,h2⟩:=ih _ hx;exact ⟨_,by simp [h1],h2⟩
    exact key l _ h
   obtain ⟨vs,e,h1,h2⟩:=this;have hi:=info_of_underlying hu;have hp:∃a,p=some a:=by
    cases p with
    |some a=>exact ⟨a,rfl⟩
    |none=>
     have h0:0<vs.length:=by
      cases l with
      |nil=>simp at hl
      |cons _ _=>simp at e;omega
     have:=j9 h1 0 h0;simp [ld,ae,cr h0] at this
   obtain ⟨a,rfl⟩:=hp;refine ⟨a,_,rfl,h2,?_⟩;simp only [Instr.loadAt,Instr.sureAddr,loadVar,Sem.run_bind,Sem.run_pure,Result.andThen_ok,j8 w hu,yT ht,if_true,ep hi,loadCells];rw [j0 _ 0 #[] vs aa (λj hj=>by have:=j9 h1 j aa;simpa [ld,ae] using this)];simp
  ·cases h
end
section
variable {P:Program} {s:St} {o:Oper} {K:St->Prop} {Q:Exit->Act->World->Prop}
def cell_of{w:World}{i:Nat}{c:Array Value}{t:TypeId}{f:Nat × Nat}(h:w.heap[i]? =some (.cells c t f))(j:Nat):w.cell? ⟨i,j,none⟩=c[j]? :=by simp [World.cell?,h]
def Nj{w:World}{i:Nat}{c:Array Value}{t:TypeId}(h:w.heap[i]? =some (.cells c t (0,0)))(j:Nat):w.frozen? ⟨i,j,none⟩=false:=by simp [World.frozen?,h]
def kU(i o n:Nat):(⟨i,o,none⟩:Addr).add n=⟨i,o+n,none⟩:=by unfold Addr.add;split<;>simp_all
def yV{d:Option Tmp}{t:TypeId}{x:SV}(aU:s.Ok)(hu:(P.underlying t).isSome=true)(h:yS P s d t x K):
  ∃a v,x.bE s.kn=.pointer (some a)/\K (s.put d (.val v))/\(Instr.loadAt t (.pointer (some a))).run P s.w=.ok v s.w:=by
 unfold yS at h;split at h
 ·rename_i k off;split at h
  ·rename_i kb XT;obtain ⟨h1,h2⟩:=nG XT;have hb:=aU.bg k kb h1 h2;have fM:(s.kn.getD k default).idx=kb.idx:=by simp [cZ,h1]
   refine ⟨⟨kb.idx,off,none⟩,?_⟩;obtain ⟨dd,hu'⟩:=kO.1 hu;split at h
   ·rename_i c ht;split at h
    ·rename_i v hv;refine ⟨v,by rw [SV.bE,fM],h,?_⟩;have hc:s.w.cell? ⟨kb.idx,off,none⟩=some v:=by rw [cell_of hb];simpa using hv
     simp [Instr.loadAt,Instr.sureAddr,loadVar,j8 _ hu',FL ht,hc]
    ·cases h
   ·rename_i l ht;split at h
    ·rename_i hl;refine ⟨_,by rw [SV.bE,fM],h,?_⟩;simp only [Instr.loadAt,Instr.sureAddr,loadVar,Sem.run_bind,Sem.run_pure,Result.andThen_ok,j8 _ hu',yT ht,if_true,ep (info_of_underlying hu'),loadCells];rw [j0 _ 0 #[] ((kb.cells.drop off).take l.length) (by simp;omega) (λj hj=>by rw [kU,cell_of hb];simp [mT,sG,show j<l.length by omega])];simp
    ·cases h
  ·obtain ⟨a,v,h1,h2,h3⟩:=Cw hu h
   cases h1
   exact ⟨_,v,rfl,h2,h3⟩
 ·rename_i p;obtain ⟨a,v,h1,h2,h3⟩:=Cw hu h;subst h1;exact ⟨a,v,rfl,h2,h3⟩
 ·cases h
def DC(P:Program)(s:St)(d:Option Tmp)(t:TypeId)(x v:SV)(K:St->Prop):Prop:=
 let vs:=cellsOf (v.bE s.kn)
 bn (vs.flatMap Jz)<|if vs.length=eS P t then
  match x with
  | .loc k off=>match s.known k with
    |some kb=>if off+vs.length<=kb.cells.length then
     ∀w1,w1=s.w.setRow kb.idx (aV kb.cells off vs).toArray->K ((({s with w:=w1,kn:=s.kn.modify k λb=>{b with cells:=aV kb.cells off vs}}).kill [v]).put d (.val undef)) else False
    |none=>Wr s.w (some ⟨(s.kn.getD k default).idx,off,none⟩) vs.length/\bn (uI s.kn (some ⟨(s.kn.getD k default).idx,off,none⟩)) (∀w1,w1=aZ s.w (some ⟨(s.kn.getD k default).idx,off,none⟩) vs->K ((({s with w:=w1}).kill [v]).put d (.val undef)))
  | .val (.pointer p)=>(p.isSome=true/\Wr s.w p vs.length)/\bn (uI s.kn p) (∀w1,w1=aZ s.w p vs->K ((({s with w:=w1}).kill [v]).put d (.val undef)))
  |_=>False
 else False
def dA:∀(vs:List Value)(cs:List Value)(off:Nat),off+vs.length<=cs.length->aV cs off vs=cs.take off++vs++cs.drop (off+vs.length)
 | [],cs,off,_=>by simp [aV]
 |v::r,cs,off,h=>by
  simp only [fR] at h
  rw [aV,dA r _ _ (by simp;omega)]
  have h1:(cs.set off v).take (off+1)=cs.take off++ [v]:=by
   apply ik;intro j;simp only [mT,ij,List.getElem?_append,bG];rcases Nat.lt_trichotomy j off with hj|hj|hj
   ·simp [hj,show j<off+1 by omega,show ¬off=j by omega,show j<min off cs.length by omega]
   ·subst hj;simp [show j<cs.length by omega,show ¬j<min j cs.length by omega,show j-min j cs.length=0 by omega]
   ·simp [show ¬j<off+1 by omega,show ¬j<min off cs.length by omega,show ¬j<off by omega];have:j-min off cs.length≠0:=by omega
    cases hz:j-min off cs.length with
    |zero=>omega
    |succ n=>simp
  have h2:(cs.set off v).drop (off+1+r.length)=cs.drop (off+(r.length+1)):=by apply ik;intro j;simp only [sG,ij];simp [show ¬off=off+1+r.length+j by omega];congr 1;omega
  rw [h1,h2];simp
def cG(vs:List Value):∀(cs:List Value)(off:Nat),(aV cs off vs).length=cs.length:=by
 induction vs with
 |nil=>intro cs off;rfl
 |cons v r ih=>intro cs off;rw [aV,ih];simp
def L2{vs:List Value}(h:∀p ∈ vs.flatMap Jz,p):∀v ∈ vs,v.oneCell'=true:=by
 intro v hv
 cases v with
 |agg c=>exact (h False (List.mem_flatMap.2 ⟨_,hv,by simp [Jz]⟩)).elim
 |tuple c=>exact (h False (List.mem_flatMap.2 ⟨_,hv,by simp [Jz]⟩)).elim
 |_=>rfl
def fz(a:Addr):∀(vs:List Value)(i:Nat)(w:World),(∀v ∈ vs,v.oneCell'=true)->
  (∀j,j<vs.length->(w.cell? (a.add (i+j))).isSome=true/\w.frozen? (a.add (i+j))=false)->(storeCells a vs i).run P w=.ok () (mP w a i vs)
 | [],i,w,_,_=>rfl
 |v::r,i,w,h1,h2=>by
  obtain ⟨u,hu⟩:=kO.1 (h2 0 cy).1
  have hf:=(h2 0 cy).2
  simp only [Nat.add_zero] at hu hf
  simp only [storeCells,Sem.run_bind,run_store P w _ v _ (h1 v cy),hu,hf]
  simp only [Bool.false_eq_true,if_false,Result.andThen_ok,mP]
  refine fz a r (i+1) _ (λv hv=>h1 v (by simp [hv])) (λj hj=> ?_)
  have:=h2 (j+1) (by simpa using hj)
  rw [show i+(j+1)=i+1+j by omega] at this
  refine ⟨?_,by rw [World.frozen?_setCell];exact this.2⟩
  by_cases e:a.add i=a.add (i+1+j)
  ·rw [<-e,World.cell?_setCell_same _ _ _ hu];rfl
  ·rw [World.cell?_setCell_other _ _ _ _ e];exact this.1
def FN{s:St}(aU:s.Ok)(k:Nat):(s.mQ k).Ok/\(s.mQ k).sl=s.sl/\(s.mQ k).w=s.w/\nC s.kn (s.mQ k).kn/\(s.mQ k).kn.length=s.kn.length:=by
 have key:∀(i:Nat)(x:KB),(s.mQ k).kn[i]? =some x->x.live=true->s.kn[i]? =some x:=by
  intro i x hx hl;simp only [St.mQ,Cx] at hx;split at hx
  ·cases hy:s.kn[i]? with
   |none=>simp [hy] at hx
   |some y=>simp [hy] at hx;subst hx;simp at hl
  ·cases hy:s.kn[i]? with
   |none=>simp [hy] at hx
   |some y=>simpa [hy] using hx
 refine ⟨⟨λi x h1 h2=>aU.bg i x (key i x h1 h2) h2,λi j x y h1 h2 h3 h4 h5=>aU.ne i j x y (key i x h1 h3) (key j y h2 h4) h3 h4 h5,?_⟩,rfl,rfl,?_,by simp [St.mQ]⟩
 ·intro i v hv;have:=aU.jL i v hv;simpa [St.mQ] using this
 ·intro i x hx;refine ⟨if k=i then {x with live:=false} else x,?_,by split<;>rfl,by split<;>rfl⟩;simp only [St.mQ,Cx,hx];split<;>rfl
def eD:∀(l:List SV) {s:St},s.Ok->(s.kill l).Ok/\(s.kill l).sl=s.sl/\(s.kill l).w=s.w/\nC s.kn (s.kill l).kn/\(s.kill l).kn.length=s.kn.length
 | [],s,h=>⟨h,rfl,rfl,nC.refl _,rfl⟩
 | .val _::r,s,h=>eD r h
 | .loc k _::r,s,h=>by
   obtain ⟨a1,a2,a3,a4,a5⟩:=FN h k
   obtain ⟨b1,b2,b3,b4,b5⟩:=eD r a1
   exact ⟨b1,b2.trans a2,b3.trans a3,a4.trans b4,b5.trans a5⟩
 | .Vn k _::r,s,h=>by
   obtain ⟨a1,a2,a3,a4,a5⟩:=FN h k
   obtain ⟨b1,b2,b3,b4,b5⟩:=eD r a1
   exact ⟨b1,b2.trans a2,b3.trans a3,a4.trans b4,b5.trans a5⟩
def kV:∀(l:List SV)(s:St),(s.kill l).df=s.df
 | [],_=>rfl
 | .val _::r,s=>kV r s
 | .loc k _::r,s=>kV r (s.mQ k)
 | .Vn k _::r,s=>kV r (s.mQ k)
def iC{d:Option Tmp}{a:Act}{w:World}{s1:St}{v:SV}(hk:K (s1.put d v))(aU:s.Ok)(h1:s1.Ok)(kI:s1.sl=s.sl)(fM:nC s.kn s1.kn)
  (hv:v.fN s1.kn.length)(ha:s.act.put d (v.bE s1.kn)=a)(hw:s1.w=w)(Lx:s1.df=s.df:=by first|rfl|exact kV _ _):fQ d s K a w:=
 jn hk aU kI fM h1.bg h1.ne hv ha hw Lx
def kc{s:St}(aU:s.Ok){w':World}(h:∀p ∈ yP s.kn s.w w',p):({s with w:=w'}:St).Ok:=by refine ⟨λk kb h1 h2=> ?_,aU.ne,aU.jL⟩;rw [<-aU.bg k kb h1 h2];refine h _ (aR.2 ⟨kb.idx,?_,rfl⟩);exact aR.2 ⟨kb,jH.2 ⟨bc h1,h2⟩,rfl⟩
def DD{d:Option Tmp}{t:TypeId}{x v:SV}(aU:s.Ok)(hi:(P.info? t).isSome=true)(h:DC P s d t x v K):
  ∃a w',x.bE s.kn=.pointer (some a)/\(Instr.storeAt t (.pointer (some a)) (v.bE s.kn)).run P s.w=.ok () w'/\fQ d s K (s.act.put d undef) w':=by
 unfold DC at h;simp only [bj] at h;obtain ⟨B1,h⟩:=h;have B1:=L2 B1;split at h
 case isFalse=>cases h
 rename_i Qf;have oo:∀(a:Addr)(w':World),(storeCells a (cellsOf (v.bE s.kn)) 0).run P s.w=.ok () w'->(Instr.storeAt t (.pointer (some a)) (v.bE s.kn)).run P s.w=.ok () w':=by
  intro a w' hw;have:(v.bE s.kn).cells.size=eS P t:=by rw [lq,<-Qf];simp
  simp only [Instr.storeAt,Instr.sureAddr,storeVar,Sem.run_bind,Sem.run_pure,Result.andThen_ok,ep hi,this,ne_eq,not_true_eq_false,if_false,mR];exact hw
 have adh:∀(p:Option Addr),x.bE s.kn=.pointer p->p.isSome=true->Wr s.w p (cellsOf (v.bE s.kn)).length->(∀q ∈ uI s.kn p,q)->
   K ((({s with w:=aZ s.w p (cellsOf (v.bE s.kn))}).kill [v]).put d (.val undef))->
   ∃a w',x.bE s.kn=.pointer (some a)/\(Instr.storeAt t (.pointer (some a)) (v.bE s.kn)).run P s.w=.ok () w'/\fQ d s K (s.act.put d undef) w':=by
  intro p hx hp hwr hap hk;obtain ⟨a,rfl⟩:=kO.1 hp;have gX:∀(vs:List Value)(w:World)(i k:Nat),k≠a.block->(mP w a i vs).heap[k]? =w.heap[k]? :=by
   intro vs
   induction vs with
   |nil=>intro w i k _;rfl
   |cons u r ih=>
    intro w i k hk;rw [mP,ih _ _ _ hk];exact Below.heap_setCell _ _ _ _ (by unfold Addr.add;split<;>exact hk)
  have gp:({s with w:=mP s.w a 0 (cellsOf (v.bE s.kn))}:St).Ok:=by
   refine kc aU λq hq=> ?_
   obtain ⟨i,hi,rfl⟩:=aR.1 hq;refine gX _ _ _ _ ?_;have:=hap (cQ (some a)≠some i) (aR.2 ⟨i,hi,rfl⟩);intro e;exact this (by simp [cQ,e])
  obtain ⟨k1,k2,k3,k4,k5⟩:=eD [v] gp;refine ⟨a,_,hx,oo a _ (fz a _ 0 _ B1 λj hj=> ?_),iC hk aU k1 k2 k4 trivial rfl k3⟩;obtain ⟨a',e,h1,h2⟩:=hwr j hj
  cases e
  simp only [cO];exact ⟨h1,h2⟩
 split at h
 ·rename_i k off;split at h
  ·rename_i kb XT;split at h
   case isFalse=>cases h
   rename_i dY;obtain ⟨h1,h2⟩:=nG XT;have hb:=aU.bg k kb h1 h2;have fM:(s.kn.getD k default).idx=kb.idx:=by simp [cZ,h1]
   have jx:∀j,j≠kb.idx->(s.w.setRow kb.idx (aV kb.cells off (cellsOf (v.bE s.kn))).toArray).heap[j]? =s.w.heap[j]? :=by intro j hj;simp only [World.setRow,Array.getElem?_modify,if_neg (Ne.symm hj)]
   have gp:({s with w:=s.w.setRow kb.idx (aV kb.cells off (cellsOf (v.bE s.kn))).toArray,kn:=s.kn.modify k λb=>{b with cells:=aV kb.cells off (cellsOf (v.bE s.kn))}}:St).Ok:=by
    have key:∀(i:Nat)(y:KB),(s.kn.modify k λb=>{b with cells:=aV kb.cells off (cellsOf (v.bE s.kn))})[i]? =some y->∃z,s.kn[i]? =some z/\y.idx=z.idx/\y.live=z.live/\y.ty=z.ty/\(i≠k->y=z)/\(i=k->y.cells=aV kb.cells off (cellsOf (v.bE s.kn))):=by
     intro i y hy;simp only [Cx] at hy;split at hy
     ·rename_i e;subst e;rw [h1] at hy;simp at hy;subst hy;exact ⟨kb,h1,rfl,rfl,rfl,λe=>absurd rfl e,λ_=>rfl⟩
     ·rename_i e
      cases hz:s.kn[i]? with
      |none=>simp [hz] at hy
      |some z=>simp [hz] at hy;subst hy;exact ⟨_,rfl,rfl,rfl,rfl,λ_=>rfl,λe'=>absurd e'.symm e⟩
    refine ⟨λi y hy hl=> ?_,λi j x y hx hy l1 l2 e=> ?_,λi u hu=>by simpa using aU.jL i u hu⟩
    ·obtain ⟨z,z1,z2,z3,z4,z5,z6⟩:=key i y hy;by_cases e:i=k
     ·subst e;rw [h1] at z1;cases z1;rw [z6 rfl,z2,z4];exact setRow_heap _ _ _ _ _ _ hb
     ·have:=z5 e;subst this;have dI:y.idx≠kb.idx:=λe'=>e (aU.ne i k y kb z1 h1 hl h2 e')
      show (s.w.setRow _ _).heap[_]? =_;rw [jx _ dI];exact aU.bg i y z1 hl
    ·obtain ⟨z,z1,z2,z3,_⟩:=key i x hx;obtain ⟨z',z1',z2',z3',_⟩:=key j y hy;exact aU.ne i j z z' z1 z1' (by rw [<-z3];exact l1) (by rw [<-z3'];exact l2) (by rw [<-z2,<-z2'];exact e)
   have adi:nC s.kn (s.kn.modify k λb=>{b with cells:=aV kb.cells off (cellsOf (v.bE s.kn))}):=by intro i y hy;refine ⟨if k=i then {y with cells:=aV kb.cells off (cellsOf (v.bE s.kn))} else y,?_,by split<;>rfl,by split<;>rfl⟩;simp only [Cx,hy];split<;>rfl
   obtain ⟨k1,k2,k3,k4,k5⟩:=eD [v] gp;have h:=h _ rfl;refine ⟨⟨kb.idx,off,none⟩,_,by rw [SV.bE,fM],oo _ _ ?_,iC h aU k1 k2 (adi.trans k4) trivial rfl k3⟩;rw [run_storeCells_at P kb.idx off kb.ty _ 0 _ _ hb (by simpa using dY) B1];rw [dA _ _ _ dY];simp
  ·obtain ⟨h1,h2⟩:=h;exact adh _ rfl rfl h1 h2.1 (h2.2 _ rfl)
 ·rename_i p;obtain ⟨h1,h2⟩:=h;exact adh p rfl h1.1 h1.2 h2.1 (h2.2 _ rfl)
 ·cases h
end
section
variable {P:Program} {s:St} {o:Oper} {K:St->Prop} {Q:Exit->Act->World->Prop}
def Rd(w:World)(p:Option Addr)(vs:List Value):Prop:=∀i v,vs[i]? =some v->ld w (ae p i)=some v
def One(vs:List Value):Prop:=∀u ∈ vs,u.oneCell'=true
structure aF(bytes size:Nat)(w:World)(sl:Sl)(n:Nat)(news:List Value):Prop where
 fits:sl.n+n<=sl.c->Wr w (ae sl.a (sl.n*size)) news.length
 eP:sl.c<sl.n+n->∃eP:List Value,eP.length=sl.n*size/\Rd w sl.a eP
 room:sl.c<sl.n+n->Builtin.nextslicecap (sl.n+n) sl.c*bytes<=281474976710656/\((sl.n+n:Nat):Int)<=9223372036854775807
 len:news.length=n*size
 one:One news
inductive aD(E size:Nat)(w:World)(sl:Sl)(n:Nat)(news:List Value):Sl->World->Prop
 |fits (h:sl.n+n<=sl.c):aD E size w sl n news ⟨sl.a,sl.n+n,sl.c⟩ (aZ w (ae sl.a (sl.n*size)) news)
 |vV (h:sl.c<sl.n+n) (eP rest:List Value) (cap:Nat) (h1:eP.length=sl.n*size) (h2:Rd w sl.a eP) (h3:sl.n+n<=cap) (h4:(eP++news++rest).length=cap*size):
  aD E size w sl n news ⟨some ⟨w.heap.size,0,none⟩,sl.n+n,cap⟩ (w.drew.alloc (.cells (eP++news++rest).toArray E))
def lC(P:Program)(t:TypeId):Option (TypeId × TypeInfo):=match P.underlying t with|some (.slice e)=>(P.info? e).map λi=>(e,i)|_=>none
def L3(P:Program)(tx:TypeId):Bool:=match P.underlying tx with|some (.slice _)=>true|_=>false
def grownCap_ge{w:World}{need c:Nat}{e:TypeId}(h:((need:Nat):Int)<=9223372036854775807):need<=grownCap w need c e:=by simp only [grownCap,Question.cut];omega
def bo(z:List Value)(n:Nat):List Value:=(List.replicate n z).flatten
def jo(z:List Value)(n:Nat):(bo z n).length=n*z.length:=by simp [bo]
def sH(z:List Value):∀(n i:Nat),i<n*z.length->(bo z n)[i]? =z[i % z.length]?
 |0,i,h=>by omega
 |n+1,i,h=>by
  have e:bo z (n+1)=z++bo z n:=by simp [bo,List.replicate_succ]
  rw [e];rcases fx i z.length with hi|hi
  ·rw [kP hi,Nat.mod_eq_of_lt hi]
  ·rw [FO] at h;rw [mS hi,sH z n _ aa,Nat.mod_eq_sub_mod hi]
def sI(z:Array Value)(m:Nat)(n:Nat)(hm:m=n*z.size):((Array.range m).map λi=>z[i % z.size]!).toList=bo z.toList n:=by
 subst hm;apply ik;intro i;rcases fx i (n*z.size) with hi|hi
 ·rw [sH _ _ _ (by simpa using hi)];have hz:0<z.size:=by
   rcases sJ z.size with h|h
   ·rw [h] at hi;omega
   ·exact h
  have ft:i % z.size<z.size:=Nat.mod_lt _ hz;simp [FP hi,ft]
 ·rw [il (by simpa using hi),il (by rw [jo];simpa using hi)]
def kW(z:Array Value)(n:Nat):(Builtin.zeroCells z n).toList=bo z.toList n:=sI z (n*z.size) n rfl
def FQ{t tx ty e:TypeId}{i:TypeInfo}{z:Value}{k k':IntKind}{x:Int}{a:Option Addr}{l c:Nat}{w:World}(ht:P.underlying t=some (.slice e))(hi:P.info? e=some i)(hz:i.zero=some z)
  (Jf:(cellsOf z).length=i.size)(XU:P.underlying tx=some (.int k'))(h0:0<=x)(hx:IntKind.wrap .i64 x=x)(h48:x*i.bytes<=2 ^ 48)(hp:aF i.bytes i.size w ⟨a,l,c⟩ x.toNat (bo (cellsOf z) x.toNat)):
  ∃(sl:Sl)(w':World),aD e i.size w ⟨a,l,c⟩ x.toNat (bo (cellsOf z) x.toNat) sl w'/\(Builtin.append_ #[t,tx] ty #[.slice a l c,.int k x]).run P w=.ok (sl) w':=by
 obtain ⟨n,hn⟩:∃n,n=x.toNat:=⟨_,rfl⟩;rw [<-hn] at hp ⊢;have Ws:x=(n:Int):=by omega
 have ft:¬((n:Int)<0):=by omega
 have an4:¬((n:Int)*i.bytes>2 ^ 48):=by rw [<-Ws];omega
 have hz6:z.cells.size=i.size:=by rw [lq,<-Jf];simp
 have hnews:∀w:World,(if n*i.size=0 then (pure #[]:Sem (Array Value)) else do pure (Builtin.zeroCells (<-zeroValue e).cells n)).run P w=.ok (bo (cellsOf z) n).toArray w:=by
  intro w;split
  ·rename_i h0;have:bo (cellsOf z) n=[]:=yU.1 (by rw [jo,Jf];exact h0);rw [this];rfl
  ·simp only [Sem.run_bind,zeroValue,cT,hi,Result.andThen_ok,hz,Sem.run_pure];congr 1;apply Array.ext';rw [kW,mR]
 have Qg:IntKind.wrap .i64 (n:Int)=(n:Int):=by rw [<-Ws];exact hx
 rcases fx c (l+n) with hg|hroom
 ·obtain ⟨eP,h1,h2⟩:=hp.eP hg;obtain ⟨h3,h4⟩:=hp.room hg;dsimp only at h1 h2 h3 h4;refine ⟨_,_,.vV hg eP (Builtin.zeroCells z.cells (grownCap w (l+n) c e-(l+n))).toList (grownCap w (l+n) c e) h1 h2 (grownCap_ge h4) ?_,?_⟩
  ·have h5:=grownCap_ge (w:=w) (c:=c) (e:=e) h4;have MP:eP.length=l*i.size:=h1;simp only [eK,MP,hp.len,Builtin.zeroCells,Array.length_toList,Array.size_map,Array.size_range,hz6];rw [<-qN,<-qN];congr 1;omega
  ·have AT:(Builtin.firstCells i.size l (.slice a l c)).run P w.drew=.ok eP.toArray w.drew:=by
    cases a with
    |none=>
     have:eP=[]:=by
      cases eP with
      |nil=>rfl
      |cons v r=>have:=h2 0 v rfl;simp [ld,ae] at this
     subst this;exact run_firstCells_none w.drew i.size l l c
    |some a=>exact run_firstCells_some w.drew i.size l a l c eP h1 (λj u hj=>by have:=h2 j u hj;simpa [ld,ae] using this)
   have hn':¬(l+n<=c):=by omega
   have adj:¬(9223372036854775807<((l:Int)+(n:Int))):=by omega
   have h48b:¬(281474976710656<Builtin.nextslicecap (l+n) c*i.bytes):=by omega
   have h48c:¬(281474976710656<(n:Int)*i.bytes):=by omega
   have hnd:=hnews w.drew;rw [Ws];by_cases Ft:n*i.size=0
   ·rw [if_pos Ft] at hnd;have he:bo (cellsOf z) n=[]:=by have:=congrArg (λr:Result (Array Value)=>match r with| .ok v _=>v|_=> #[.bool true]) hnd;simpa using this.symm
    simp [Builtin.append_,run_underlying ht,run_underlying XU,sizeOf,typeInfo,zeroValue,hi,hz,asInt,asIntOf,Qg,hn',adj,h48b,h48c,Question.forced,Ft,ft,AT,newRow,grownCap,he];congr 2;apply Array.ext';simp
   ·simp [Builtin.append_,run_underlying ht,run_underlying XU,sizeOf,typeInfo,zeroValue,hi,hz,asInt,asIntOf,Qg,hn',adj,h48b,h48c,Question.forced,Ft,ft,AT,newRow,grownCap];congr 2;apply Array.ext';simp [kW,mR]
 ·refine ⟨_,_,.fits hroom,?_⟩;have hw:=hp.fits hroom;have hnd:=hnews w;have h48c:¬(281474976710656<(n:Int)*i.bytes):=by omega
  rw [Ws]
  cases a with
  |none=>
   by_cases Ft:n*i.size=0
   ·simp [Builtin.append_,run_underlying ht,run_underlying XU,sizeOf,typeInfo,hi,hroom,asInt,asIntOf,Qg,Ft,ft,h48c,ae,aZ]
   ·simp [Builtin.append_,run_underlying ht,run_underlying XU,sizeOf,typeInfo,zeroValue,hi,hz,hroom,asInt,asIntOf,Qg,Ft,ft,h48c,ae,aZ]
  |some a=>
   have lT:=fz (P:=P) (a.add (l*i.size)) (bo (cellsOf z) n) 0 w hp.one (λj hj=>by obtain ⟨a',e1,e2⟩:=hw j hj;simp only [ae,mh,Option.some.injEq] at e1;subst e1;simpa using e2);by_cases Ft:n*i.size=0
   ·have he:bo (cellsOf z) n=[]:=yU.1 (by rw [jo,Jf];exact Ft);rw [he] at lT;simp [Builtin.append_,run_underlying ht,run_underlying XU,sizeOf,typeInfo,hi,hroom,asInt,asIntOf,Qg,Ft,ft,h48c,ae,aZ,he,lT]
   ·have hzc:(Builtin.zeroCells z.cells n).toList=bo (cellsOf z) n:=by rw [kW,mR]
    simp [Builtin.append_,run_underlying ht,run_underlying XU,sizeOf,typeInfo,zeroValue,hi,hz,hroom,asInt,asIntOf,Qg,Ft,ft,h48c,ae,aZ,hzc,lT]
def JA(P:Program)(t:TypeId):Bool:=match P.underlying t with|some (.int _)=>true|_=>false
def FR{t:TypeId}(h:JA P t=true):∃k,P.underlying t=some (.int k):=by
 unfold JA at h;split at h
 ·rename_i k hu;exact ⟨k,hu⟩
 ·cases h
def yW(P:Program)(s:St)(d:Option Tmp)(t tx:TypeId)(sx x:SV)(K:St->Prop):Prop:=
 match lC P t with
 |none=>False
 |some (e,i)=>match i.zero with
  |none=>False
  |some z=>if (cellsOf z).length=i.size then
   match sx.bE s.kn with
   | .slice a n c=>
     let body (m:Nat) (news:List Value):Prop:=aF i.bytes i.size s.w ⟨a,n,c⟩ m news/\
      ∀(sl:Sl)(w':World),aD e i.size s.w ⟨a,n,c⟩ m news sl w'->bn (yP s.kn s.w w') (K ({s with w:=w'}.put d (.val (sl))))
     match x with
     | .Vn k m=>match L3 P tx with
       |true=>(match s.known k with
        |some kb=>body m kb.cells
        |none=>False)
       |false=>False
     | .val (.slice b m _)=>match L3 P tx with
       |true=>∃news,Rd s.w b news/\body m news
       |false=>False
     | .val (.string st)=>match isStr P tx with
       |true=>body st.size (byteCells st)
       |false=>False
     | .val (.int _ x)=>match JA P tx with
       |true=>(0<=x/\IntKind.wrap .i64 x=x/\x*i.bytes<=281474976710656)/\body x.toNat (bo (cellsOf z) x.toNat)
       |false=>False
     |_=>False
   |_=>False
   else False
def JB{t tx ty e:TypeId}{i:TypeInfo}{z:Value}{x:Value}{n:Nat}{news:List Value}{a:Option Addr}{l c:Nat}{w:World}(ht:P.underlying t=some (.slice e))(hi:P.info? e=some i)(hz:i.zero=some z)
  (Jf:(cellsOf z).length=i.size)(hs:Src P i.size tx x n news w)(hp:aF i.bytes i.size w ⟨a,l,c⟩ n news):
  ∃(sl:Sl)(w':World),aD e i.size w ⟨a,l,c⟩ n news sl w'/\(Builtin.append_ #[t,tx] ty #[.slice a l c,x]).run P w=.ok (sl) w':=by
 rcases fx c (l+n) with hg|hroom
 ·obtain ⟨eP,h1,h2⟩:=hp.eP hg;obtain ⟨h3,h4⟩:=hp.room hg;dsimp only at h1 h2 h3 h4;refine ⟨_,_,.vV hg eP (Builtin.zeroCells z.cells (grownCap w (l+n) c e-(l+n))).toList (grownCap w (l+n) c e) h1 h2 (grownCap_ge h4) ?_,?_⟩
  ·have h5:=grownCap_ge (w:=w) (c:=c) (e:=e) h4;have h6:z.cells.size=i.size:=by rw [lq,<-Jf];simp
   have MP:eP.length=l*i.size:=h1;simp only [eK,MP,hp.len,Builtin.zeroCells,Array.length_toList,Array.size_map,Array.size_range,h6];rw [<-qN,<-qN];congr 1;omega
  ·have AT:(Builtin.firstCells i.size l (.slice a l c)).run P w.drew=.ok eP.toArray w.drew:=by
    cases a with
    |none=>
     have:eP=[]:=by
      cases eP with
      |nil=>rfl
      |cons v r=>have:=h2 0 v rfl;simp [ld,ae] at this
     subst this;exact run_firstCells_none w.drew i.size l l c
    |some a=>exact run_firstCells_some w.drew i.size l a l c eP h1 (λj u hj=>by have:=h2 j u hj;simpa [ld,ae] using this)
   rw [run_append_grow_src w t tx ty e i z ht hi hz a l c eP AT x n news hs hg h4 h3];congr 3;apply Array.ext';simp
 ·refine ⟨_,_,.fits hroom,?_⟩;have hw:=hp.fits hroom
  cases a with
  |none=>
   rcases hs.kind with ⟨e',hk⟩|hk<;>simp [Builtin.append_,run_underlying ht,run_underlying hk,sizeOf,typeInfo,hi,hs.len,hroom,hs.cells,ae,aZ]
  |some a=>
   have lT:=fz (P:=P) (a.add (l*i.size)) news 0 w hs.one (λj hj=>by obtain ⟨a',e1,e2⟩:=hw j hj;simp only [ae,mh,Option.some.injEq] at e1;subst e1;simpa using e2);rcases hs.kind with ⟨e',hk⟩|hk<;>simp [Builtin.append_,run_underlying ht,run_underlying hk,sizeOf,typeInfo,hi,hs.len,hroom,hs.cells,ae,aZ,lT]
def im{t e:TypeId}{i:TypeInfo}(h:lC P t=some (e,i)):P.underlying t=some (.slice e)/\P.info? e=some i:=by
 unfold lC at h;split at h
 ·rename_i e' hu
  cases hi:P.info? e' with
  |none=>simp [hi] at h
  |some j=>simp [hi] at h;obtain ⟨rfl,rfl⟩:=h;exact ⟨hu,hi⟩
 ·cases h
def yX{t:TypeId}(h:L3 P t=true):∃e,P.underlying t=some (.slice e):=by
 unfold L3 at h;split at h
 ·rename_i e hu;exact ⟨e,hu⟩
 ·cases h
def By{d:Option Tmp}{t tx ty:TypeId}{sx x:SV}(aU:s.Ok)(h:yW P s d t tx sx x K):
  ∃v w',(Builtin.append_ #[t,tx] ty #[sx.bE s.kn,x.bE s.kn]).run P s.w=.ok v w'/\fQ d s K (s.act.put d v) w':=by
 unfold yW at h;split at h
 ·cases h
 rename_i e i he;obtain ⟨ht,hi⟩:=im he;split at h
 ·cases h
 rename_i z hz;split at h
 case isFalse=>cases h
 rename_i Jf;split at h
 ·rename_i a l c hsx;rw [hsx];simp only at h;have main:∀(m:Nat)(news:List Value),Src P i.size tx (x.bE s.kn) m news s.w->aF i.bytes i.size s.w ⟨a,l,c⟩ m news->
    (∀(sl:Sl)(w':World),aD e i.size s.w ⟨a,l,c⟩ m news sl w'->bn (yP s.kn s.w w') (K ({s with w:=w'}.put d (.val (sl)))))->
    ∃v w',(Builtin.append_ #[t,tx] ty #[.slice a l c,x.bE s.kn]).run P s.w=.ok v w'/\fQ d s K (s.act.put d v) w':=by
   intro m news hs hp hk;obtain ⟨sl,w',h1,h2⟩:=JB (ty:=ty) ht hi hz Jf hs hp;have h3:=hk sl w' h1;rw [bj] at h3;exact ⟨_,w',h2,iC h3.2 aU (kc aU h3.1) rfl (nC.refl _) trivial rfl rfl⟩
  split at h
  ·rename_i k m;split at h
   ·rename_i Pq;split at h
    ·rename_i kb XT;obtain ⟨h1,h2⟩:=nG XT;have hb:=aU.bg k kb h1 h2;obtain ⟨e',hu⟩:=yX Pq;refine main m kb.cells ?_ h.1 h.2;have fM:(s.kn.getD k default).idx=kb.idx:=by simp [cZ,h1]
     rw [SV.bE,fM];refine Src.ofSlice _ hu _ _ _ _ h.1.len (λj u hj=> ?_) h.1.one;rw [kU,cell_of hb];simpa using hj
    ·cases h
   ·cases h
  ·rename_i b m c';split at h
   ·rename_i Pq;obtain ⟨news,hr,h1,h2⟩:=h;obtain ⟨e',hu⟩:=yX Pq;refine main m news ?_ h1 h2
    cases b with
    |none=>
     have hn:news=[]:=by
      cases news with
      |nil=>rfl
      |cons v r=>have:=hr 0 v rfl;simp [ld,ae] at this
     subst hn;exact ⟨.inl ⟨e',hu⟩,λ_=>rfl,run_firstCells_none s.w i.size m m c',run_firstCells_none s.w.drew i.size m m c',h1.len,h1.one⟩
    |some b=>exact Src.ofSlice _ hu _ _ _ _ h1.len (λj u hj=>by have:=hr j u hj;simpa [ld,ae] using this) h1.one
   ·cases h
  ·rename_i st;split at h
   ·rename_i Pq;have h1:=h.1.len;rw [byteCells_length] at h1;have hss:i.size=1\/st.size=0:=by
     rcases sJ st.size with h0|h0
     ·exact .inr h0
     ·left;have:st.size*i.size=st.size*1:=by omega
      exact Nat.eq_of_mul_eq_mul_left h0 this
    refine main st.size _ ?_ h.1 h.2;rcases hss with h3|h3
    ·rw [h3];exact Src.ofString s.w (lB Pq) st
    ·refine ⟨.inr (lB Pq),λ_=>rfl,?_,?_,h.1.len,h.1.one⟩<;>
     ·have:byteCells st=[]:=yU.1 (by rw [byteCells_length,h3]);rw [this];simp only [SV.bE,Builtin.firstCells,h3];simp
   ·cases h
  ·rename_i k x;split at h
   ·rename_i hint;obtain ⟨k',XU⟩:=FR hint;obtain ⟨⟨g1,g2,g3⟩,hp,hk⟩:=h;obtain ⟨sl,w',h1,h2⟩:=FQ (ty:=ty) (k:=k) ht hi hz Jf XU g1 g2 aa hp;have h3:=hk sl w' h1;rw [bj] at h3;exact ⟨_,w',h2,iC h3.2 aU (kc aU h3.1) rfl (nC.refl _) trivial rfl rfl⟩
   ·cases h
  ·cases h
 ·cases h
def JC(P:Program)(s:St)(d:Option Tmp)(t:TypeId)(l c:Value)(K:St->Prop):Prop:=
 match lC P t,l,c with
 |some (e,i),.int _ l,.int _ c=>match i.zero with
  |some z=>if (cellsOf z).length=i.size then (0<=l/\l<=c/\c<=140737488355328/\c*i.bytes<=140737488355328)/\
   ∀w1,w1=s.w.alloc (.cells (bo (cellsOf z) c.toNat).toArray e)->K ({s with w:=w1}.put d (.val (.slice (some ⟨s.w.heap.size,0,none⟩) l.toNat c.toNat))) else False
  |none=>False
 |_,_,_=>False
def FT{d:Option Tmp}{t:TypeId}{l c:Value}(aU:s.Ok)(h:JC P s d t l c K):∃v w',(Instr.makeSlice t l c).run P s.w=.ok v w'/\fQ d s K (s.act.put d v) w':=by
 unfold JC at h;split at h
 ·rename_i e i _ l _ c he;obtain ⟨ht,hi⟩:=im he;split at h
  ·rename_i z hz;split at h
   case isFalse=>cases h
   rename_i Jf;obtain ⟨⟨h0,h1,h2,h3⟩,hk⟩:=h;have hk:=hk _ rfl;have hwl:IntKind.wrap .i64 l=l:=by unfold IntKind.wrap;simp only [IntKind.bits,IntKind.signed];simp only [qO];split<;>simp_all<;>omega
   have hwc:IntKind.wrap .i64 c=c:=by unfold IntKind.wrap;simp only [IntKind.bits,IntKind.signed];simp only [qO];split<;>simp_all<;>omega
   have hz6:z.cells.size=i.size:=by rw [lq,<-Jf];simp
   refine ⟨.slice (some ⟨s.w.heap.size,0,none⟩) l.toNat c.toNat,s.w.alloc (.cells (bo (cellsOf z) c.toNat).toArray e),?_,?_⟩
   ·have e1:¬(c<0):=by omega
    have e2:¬(l<0):=by omega
    have e3:¬(c<l):=by omega
    have e4:¬(281474976710656<(i.bytes:Int)*c):=by rw [Int.mul_comm];omega
    have e5:¬(140737488355328<c.toNat*i.bytes):=by
     have:((c.toNat*i.bytes:Nat):Int)=c*i.bytes:=by rw [Int.natCast_mul];congr 1;omega
     omega
    have hcells:∀zz:Array Value,(zz=z.cells\/c.toNat*i.size=0)->((Array.range (c.toNat*i.size)).map λj=>zz[j % zz.size]!)=(bo (cellsOf z) c.toNat).toArray:=by
     intro zz hh;apply Array.ext';rcases hh with rfl|hh
     ·rw [sI z.cells _ c.toNat (by rw [hz6]),mR]
     ·rw [hh];have:bo (cellsOf z) c.toNat=[]:=yU.1 (by rw [jo,Jf];exact hh);simp [this]
    by_cases Ft:c.toNat*i.size=0
    ·have:=hcells #[] (.inr Ft);simp only [Instr.makeSlice,asInt,asIntOf,Sem.run_bind,Sem.run_pure,aC,ht,Result.andThen_ok,cT,hi,hwl,hwc];simp [e1,e2,e3,e4,askRoom,roomBytes,e5,sizeOf,cT,hi,newRow,gx];simp [Ft] at this ⊢;rw [this]
    ·have:=hcells z.cells (.inl rfl);simp only [Instr.makeSlice,asInt,asIntOf,Sem.run_bind,Sem.run_pure,aC,ht,Result.andThen_ok,cT,hi,hwl,hwc];simp [e1,e2,e3,e4,askRoom,roomBytes,e5,sizeOf,cT,hi,newRow,gx,zeroValue,hz,Ft];simp [this]
   ·exact jn (s1:={s with w:=s.w.alloc (.cells (bo (cellsOf z) c.toNat).toArray e)}) (v:=.val (.slice (some ⟨s.w.heap.size,0,none⟩) l.toNat c.toNat)) hk aU rfl (nC.refl _) (λk kb h1 h2=>by rw [<-aU.bg k kb h1 h2];exact Below.heap_alloc _ _ _ (aU.lt k kb h1 h2)) aU.ne trivial rfl rfl
  ·cases h
 ·cases h
def JD(P:Program)(s:St)(d:Option Tmp)(ats:List TypeId)(x y:Value)(K:St->Prop):Prop:=
 match ats,x,y with
 |t::_,.slice a n _,.slice b m _=>match lC P t with
  |some (_,i)=>∃vs:List Value,(vs.length=min m n*i.size/\Rd s.w b vs/\One vs/\Wr s.w a vs.length)/\
   bn (uI s.kn a) (∀w1,w1=aZ s.w a vs->K ({s with w:=w1}.put d (.val (.int .i64 ((min m n:Nat):Int)))))
  |none=>False
 |_,_,_=>False
def yY{a:Addr}{vs:List Value}{w:World}(h1:One vs)(hw:Wr w (some a) vs.length):(storeCells a vs).run P w=.ok () (aZ w (some a) vs):=
 fz (P:=P) a vs 0 w h1 λj hj=>by
  obtain ⟨a',e1,e2⟩:=hw j hj
  cases e1;simpa using e2
def vW{a:Option Addr}{vs:List Value}{w:World}{kn:List KB}(h:∀p ∈ uI kn a,p):∀p ∈ yP kn w (aZ w a vs),p:=by
 intro p hp;obtain ⟨i,hi,rfl⟩:=aR.1 hp;have:=h (cQ a≠some i) (aR.2 ⟨i,hi,rfl⟩)
 cases a with
 |none=>rfl
 |some a=>
  have dI:a.block≠i:=λe=>this (by simp [cQ,e])
  have key:∀(vs:List Value)(j:Nat)(w:World),(mP w a j vs).heap[i]? =w.heap[i]? :=by
   intro vs
   induction vs with
   |nil=>intro j w;rfl
   |cons v r ih=>
    intro j w;show (mP _ a (j+1) r).heap[i]? =_;rw [ih];have hb:(a.add j).block=a.block:=by unfold Addr.add;split<;>rfl
    simp only [World.setCell,Array.getElem?_modify,hb,if_neg dI]
  exact key vs 0 w
def FU{d:Option Tmp}{ats:Array TypeId}{ty:TypeId}{x y:Value}(aU:s.Ok)(h:JD P s d ats.toList x y K):∃v w',(Builtin.copy_ ats ty #[x,y]).run P s.w=.ok v w'/\fQ d s K (s.act.put d v) w':=by
 unfold JD at h;split at h
 ·rename_i t r a n c b m c' Ly;have ha:ats[0]? =some t:=by rw [<-Array.getElem?_toList,Ly];rfl
  split at h
  ·rename_i e i he;obtain ⟨ht,hi⟩:=im he;obtain ⟨vs,⟨h1,h2,h3,h4⟩,h5⟩:=h;rw [bj] at h5;have hk:=h5.2 _ rfl;have hload:(Builtin.firstCells i.size (min m n) (.slice b m c')).run P s.w=.ok vs.toArray s.w:=by
    cases b with
    |none=>
     have:vs=[]:=by
      cases vs with
      |nil=>rfl
      |cons v r=>have:=h2 0 v rfl;simp [ld,ae] at this
     subst this;exact run_firstCells_none s.w i.size _ m c'
    |some b=>exact run_firstCells_some s.w i.size (min m n) b m c' vs h1 (λj u hj=>by have:=h2 j u hj;simpa [ld,ae] using this)
   refine ⟨.int .i64 ((min m n:Nat):Int),aZ s.w a vs,?_,?_⟩
   ·cases a with
    |none=>
     have:vs=[]:=by
      cases vs with
      |nil=>rfl
      |cons v r=>obtain ⟨a',e1,_⟩:=h4 0 cy;cases e1
     subst this;simp [Builtin.copy_,ha,run_underlying ht,Builtin.lenOf,sizeOf,cT,hi,hload,goInt,aZ]
    |some a=>
     have lT:=yY (P:=P) h3 h4;simp [Builtin.copy_,ha,run_underlying ht,Builtin.lenOf,sizeOf,cT,hi,hload,goInt,lT]
   ·exact iC (v:=.val (.int .i64 ((min m n:Nat):Int))) hk aU (kc aU (vW h5.1)) rfl (nC.refl _) trivial rfl rfl
  ·cases h
 ·cases h
def DE(P:Program)(s:St)(d:Option Tmp)(ats:List TypeId)(x:Value)(K:St->Prop):Prop:=
 match ats,x with
 |t::_,.slice a n _=>match lC P t with
  |some (_,i)=>match i.zero with
   |some z=>bn ((cellsOf z).flatMap Jz) (Wr s.w a (n*(cellsOf z).length)/\bn (uI s.kn a) (∀w1,w1=aZ s.w a (bo (cellsOf z) n)->K ({s with w:=w1}.put d (.val (.tuple #[])))))
   |none=>False
  |none=>False
 |_,_=>False
def DF{d:Option Tmp}{ats:Array TypeId}{ty:TypeId}{x:Value}(aU:s.Ok)(h:DE P s d ats.toList x K):∃v w',(Builtin.clear_ ats ty #[x]).run P s.w=.ok v w'/\fQ d s K (s.act.put d v) w':=by
 unfold DE at h;split at h
 ·rename_i t r a n c Ly;have ha:ats[0]? =some t:=by rw [<-Array.getElem?_toList,Ly];rfl
  split at h
  ·rename_i e i he;obtain ⟨ht,hi⟩:=im he;split at h
   ·rename_i z hz;rw [bj] at h;obtain ⟨h1,h4,h5⟩:=h;have h1:=L2 h1;rw [bj] at h5;have hk:=h5.2 _ rfl;have B1:One (bo (cellsOf z) n):=by intro u hu;obtain ⟨l,hl,hul⟩:=List.mem_flatten.1 hu;rw [(QA.1 hl).2] at hul;exact h1 u hul
    refine ⟨.tuple #[],aZ s.w a (bo (cellsOf z) n),?_,?_⟩
    ·cases a with
     |none=>simp [Builtin.clear_,ha,run_underlying ht,aZ]
     |some a=>
      have lT:=yY (P:=P) (w:=s.w) (a:=a) B1 (by rw [jo];exact h4)
      cases n with
      |zero=>simp [Builtin.clear_,ha,run_underlying ht,aZ,bo,mP]
      |succ n=>
       have hzc:(Builtin.zeroCells z.cells (n+1)).toList=bo (cellsOf z) (n+1):=by rw [kW,mR]
       simp [Builtin.clear_,ha,run_underlying ht,zeroValue,cT,hi,hz,hzc,lT]
    ·exact iC (v:=.val (.tuple #[])) hk aU (kc aU (vW h5.1)) rfl (nC.refl _) trivial rfl rfl
   ·cases h
  ·cases h
 ·cases h
end
end Go.Vc
