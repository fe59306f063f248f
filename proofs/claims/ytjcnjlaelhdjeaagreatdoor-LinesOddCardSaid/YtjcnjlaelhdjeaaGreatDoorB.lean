import Derived.Test.YtjcnjlaelhdjeaaGreatDoorA
import Derived.WalkKit
import Derived.Laws.BytesArg
import Derived.Great.BuildSlice
import Derived.Deep.AppendSrc
import Derived.Deep.LoopGhost
import Derived.RangeFuncNested
import Derived.RangeFuncLeaves
import Derived.OrdersIn
set_option linter.all false
namespace Go.Vc
open Go Go.RowKit
set_option maxRecDepth 100000
set_option maxHeartbeats 8000000
inductive c_ where
 |bool|int (k:IntKind)|str|ptr|slice|map|raw
inductive T1 where
 |sc (s:c_)|agg (l:List c_)
inductive T2 where
 |one (t:T1)|tup (l:List T1)
structure H where
 a:ai
 n:Nat
 c:Nat
instance:Coe Int aC:=⟨λn=>.int .i64 n⟩
instance:Coe H aC:=⟨λs=>.slice s.a s.n s.c⟩
instance:Coe au Nat:=⟨λw=>w.heap.size⟩
abbrev Kp(i:Nat)(a b:au):Prop:=b.heap[i]? =a.heap[i]?
abbrev aR(l:af):Prop:=l=l
instance:Coe aX aC:=⟨.bool⟩
instance:Coe ai aC:=⟨.pointer⟩
instance:Coe aC Ending:=⟨.returned⟩
inductive WQ|a|b
inductive TQ|a
abbrev pz:TQ:=.a
instance:Coe TQ aC:=⟨λ_=>.tuple #[]⟩
abbrev LV:=af
instance:Coe au ai:=⟨λw=>some ⟨w,0,none⟩⟩
instance:Coe Nat ai:=⟨λw=>some ⟨w,0,none⟩⟩
inductive WQ8|a
abbrev qH:WQ8:=.a
instance:CoeFun WQ8 (λ_=>Int->Int):=⟨λ_=>IntKind.wrap .u8⟩
inductive aqz|a
abbrev qq:aqz:=.a
instance:CoeFun aqz (λ_=>Int->Int):=⟨λ_=>IntKind.wrap .u16⟩
inductive aqA|a
instance:CoeFun aqA (λ_=>Int->Int):=⟨λ_=>IntKind.wrap .u32⟩
inductive aqB|a
abbrev fC:aqB:=.a
instance:CoeFun aqB (λ_=>Int->Int):=⟨λ_=>IntKind.wrap .u64⟩
abbrev I:WQ:=.a
abbrev J:WQ:=.b
instance:CoeFun WQ (λ_=>Int->Int):=⟨λ_=>IntKind.wrap .i64⟩
instance:Coe WQ aC:=⟨λ_=>.int .i64 0⟩
abbrev i_:aC:=.pointer none
abbrev O(b:Nat):ai:=some ⟨b,0,none⟩
abbrev jM(b o:Nat):ai:=some ⟨b,o,none⟩
class Qdq (b v:aX) (p:outParam Prop):Prop where
 f:b=v->p
instance {p:Prop}[Decidable p]:Qdq (decide p) true p:=⟨of_decide_eq_true⟩
instance {p:Prop}[Decidable p]:Qdq (decide p) false (¬p):=⟨of_decide_eq_false⟩
instance {a b:Int}:Qdq (a !=b) true (a≠b):=⟨λh=>by simpa using h⟩
instance {a b:Int}:Qdq (a !=b) false (a=b):=⟨λh=>by simpa using h⟩
instance {a b:Int}:Qdq (a==b) true (a=b):=⟨λh=>by simpa using h⟩
instance {a b:Int}:Qdq (a==b) false (a≠b):=⟨λh=>by simpa using h⟩
section
variable{b:aX}{p:Prop}
def eK{v:aX}[q:Qdq b v p](h:b=v):p:=q.f h
def nV(w:au):w.drew.heap.size=w:=rfl
def lM[Decidable p](h:decide p=true):p:=of_decide_eq_true h
def lW[Decidable p](h:decide p=false):¬p:=of_decide_eq_false h
variable{v w:au}{g:Nat}{c:ae}
def Fb(e:v=w.setRow g c):v.heap.size=w.heap.size:=by rw[e];simp
variable{o:Obj}
def fD(e:v=w.alloc o):v.heap.size=w.heap.size+1:=by rw[e];simp
def yL{u:au}(e:v=w.alloc o)(f:u=v.setRow g c):u.heap.size=w.heap.size+1:=by rw[f,e];simp
@[reducible] def c_.Ty:c_->Type
 | .bool=>aX| .int _=>Int| .str=>aq| .ptr=>ai| .slice=>H| .map=>Option Nat| .raw=>aC
def c_.mk:(s:c_)->s.Ty->aC
 | .bool,b=>.bool b| .int k,n=>.int k n| .str,s=>.string s| .ptr,p=>.pointer p| .slice,s=>.slice s.a s.n s.c
 | .map,r=>.map r| .raw,v=>v
def c_.get:(s:c_)->aC->Option s.Ty
 | .bool,.bool b=>some b
 | .int .i64,.int .i64 n=>some n| .int .i32,.int .i32 n=>some n| .int .i16,.int .i16 n=>some n| .int .i8,.int .i8 n=>some n
 | .int .u64,.int .u64 n=>some n| .int .u32,.int .u32 n=>some n| .int .u16,.int .u16 n=>some n| .int .u8,.int .u8 n=>some n
 | .str,.string s=>some s| .ptr,.pointer p=>some p| .slice,.slice a n c=>some ⟨a,n,c⟩| .map,.map r=>some r
 | .raw,v=>some v
 |_,_=>none
variable{v:aC}{s:c_}
def c_.alZ{x:s.Ty}(h:s.get v=some x):v=s.mk x:=by unfold c_.get at h;split at h<;>(try cases h)<;>rfl
def c_.ex(s:c_)(F:aC->Prop):Prop:=∃x:s.Ty,F (s.mk x)
def c_.all(s:c_)(F:aC->Prop):Prop:=∀x:s.Ty,F (s.mk x)
def exL:List c_->(af->Prop)->Prop
 | [],F=>F []
 |s::r,F=>s.ex λv=>exL r λvs=>F (v::vs)
def kG:List c_->(af->Prop)->Prop
 | [],F=>F []
 |s::r,F=>s.all λv=>kG r λvs=>F (v::vs)
def T1.ex:T1->(aC->Prop)->Prop
 | .sc s,F=>s.ex F
 | .agg l,F=>exL l λvs=>F (.agg vs.toArray)
def ex1:List T1->(af->Prop)->Prop
 | [],F=>F []
 |t::r,F=>t.ex λv=>ex1 r λvs=>F (v::vs)
def T2.ex:T2->(aC->Prop)->Prop
 | .one t,F=>t.ex F
 | .tup l,F=>ex1 l λvs=>F (.tuple vs.toArray)
variable{F:aC->Prop}
def c_.kR(h:s.ex F):∃v,F v:=⟨_,h.choose_spec⟩
def Lg:∀{l:List c_}{F:af->Prop},exL l F->∃vs,F vs
 | [],_,h=>⟨[],h⟩
 |_::_,_,⟨_,h⟩=>let⟨vs,h'⟩:=Lg h;⟨_,h'⟩
variable{t:T1}
def T1.kR(h:t.ex F):∃v,F v:=by
 cases t with
 |sc s=>exact c_.kR h
 |agg l=>exact let⟨_,h'⟩:=Lg h;⟨_,h'⟩
def WM:∀{l:List T1}{F:af->Prop},ex1 l F->∃vs,F vs
 | [],_,h=>⟨[],h⟩
 |_::_,_,h=>let⟨_,h1⟩:=T1.kR h;let⟨_,h2⟩:=WM h1;⟨_,h2⟩
variable{t:T2}
def T2.kR(h:t.ex F):∃v,F v:=by
 cases t with
 |one t=>exact T1.kR h
 |tup l=>exact let⟨_,h'⟩:=WM h;⟨_,h'⟩
def aqD(P:Program)(t:aB):c_:=
 match P.underlying t with
 |some .bool=>.bool|some (.int k)=>.int k|some .string=>.str|some (.pointer _)=>.ptr
 |some (.slice _)=>.slice|some (.map _ _)=>.map|_=>.raw
def flat(P:Program):Nat->aB->List c_
 |0,_=>[]
 |d+1,t=>match P.underlying t with
  |some (.struct fs)=>fs.toList.flatMap λf=>flat P d f.type
  |some (.array n e)=>(List.replicate n (flat P d e)).flatten
  |_=>[aqD P t]
def Bq(P:Program)(t:aB):aX:=
 match P.underlying t with
 |some (.struct _)|some (.array _ _)=>true
 |_=>false
def rI(P:Program)(t:aB):T1:=if Bq P t then .agg (flat P 20 t)else .sc (aqD P t)
def fE(P:Program)(t:aB):Nat:=((P.info? t).map (·.size)).getD 0
@[reducible] def E_:List c_->Type->Type
 | [],β=>β
 |s::r,β=>s.Ty->E_ r β
def je:(l:List c_)->E_ l (au->Prop)->af->au->Prop
 | [],f,[],w=>f w
 |s::r,f,v::vs,w=>match s.get v with|some x=>je r (f x) vs w|none=>False
 |_,_,_,_=>False
def Z(b:aX)(A B:Prop):Prop:=match b with|true=>A|false=>B
variable{A B:Prop}
def Z.mk(h1:b=true->A)(h2:b=false->B):Z b A B:=by
 cases b
 ·exact h2 rfl
 ·exact h1 rfl
def Z.tt(h:Z b A B)(hb:b=true):A:=a1F
def Z.ff(h:Z b A B)(hb:b=false):B:=a1F
def aO(l:List Prop)(K:Prop):Prop:=l.foldr And K
variable{K:Prop}
def bO{l:List Prop}:aO l K↔(∀p∈l,p)/\K:=by
 induction l with
 |nil=>simp[aO]
 |cons a l ih=>
  simp only[aO,List.foldr_cons]at ih⊢;rw[ih,<-and_assoc];exact and_congr_left λ_=>⟨λh q hq=>by cases hq with|head=>exact h.1|tail _ hm=>exact h.2 q hm,λh=>⟨h a (.head _),λq hq=>h q (.tail _ hq)⟩⟩
def eE:ai->List Prop
 |some _=>[]
 |none=>[False]
def WN(y:Int):List Prop:=if y=0 then [False]else []
def gD(a:ai)(i:Int)(n:Nat):Prop:=a.isSome=true/\0<=i/\i<(n:Int)
def S'(y:Int):List Prop:=if y<0 then [False]else []
def al0:(∀q∈[False],q)↔False:=⟨λh=>h _ (.head _),False.elim⟩
variable{p:ai}
def rJ:(∀q∈eE p,q)↔p.isSome=true:=by
 cases p with
 |none=>exact al0.trans bo
 |some a=>simp[eE]
variable{y:Int}
def yV:(∀q∈WN y,q)↔y≠0:=by
 unfold WN;split
 next h=>exact al0.trans (by simp[h])
 next h=>simp[h]
def EJ:(∀q∈S' y,q)↔0<=y:=by
 unfold S';split
 next h=>exact al0.trans m_
 next h=>simp;omega
@[simp] def uj:aO [] K↔K:=by simp[aO]
@[simp] def cA{p:ai}{K:Prop}:aO (eE p) K↔p.isSome=true/\K:=by rw[bO,rJ]
@[simp] def WO{y:Int}{K:Prop}:aO (WN y) K↔y≠0/\K:=by rw[bO,yV]
@[simp] def ahG{y:Int}{K:Prop}:aO (S' y) K↔0<=y/\K:=by rw[bO,EJ]
def N(p:ai)(n:Nat):ai:=p.map (·.add n)
def ld(w:au)(p:ai):Option aC:=p.bind w.cell?
inductive SV where
 |val (v:aC)
 |loc (k off:Nat)
 |S_ (k n:Nat)
structure KB where
 idx:Nat
 cells:af
 ty:aB
 live:aX
instance:Inhabited KB:=⟨⟨0,[],0,false⟩⟩
def SV.jX(n:Nat):SV->Prop
 | .val _=>True
 | .loc k _| .S_ k _=>k<n
structure St where
 sl:List SV
 w:au
 kn:List KB
 df:bf:=[]
def SV.R(kn:List KB):SV->aC
 | .val v=>v
 | .loc k off=>.pointer (some ⟨(kn.getD k default).idx,off,none⟩)
 | .S_ k n=>.slice (some ⟨(kn.getD k default).idx,0,none⟩) n n
def marks(l:bf):List Deferred:=l.map λD=>{target:=.collected D,args:= #[]}
def St.act(s:St):Act:={tmps:=(s.sl.map (SV.R s.kn)).toArray,defers:=marks s.df}
def St.sv(s:St):Operand->SV
 | .tmp t=>s.sl.getD t (.val undef)
 | .const v=>.val v
 | .global g=>.val (.pointer (some ⟨g,0,none⟩))
 | .func f=>.val (.func (.func f) #[] #[])
def St.ev(s:St)(x:Operand):aC:=(s.sv x).R s.kn
def St.put(s:St)(d:Option Tmp)(v:SV):St:=
 match d with
 |some d=>{s with sl:=s.sl.set d v}
 |none=>s
def St.uk(s:St)(x:Operand):s.act.eval x=s.ev x:=by
 cases x with
 |tmp t=>
  simp only[Act.eval,St.act,St.ev,St.sv,Array.getD_eq_getD_getElem?,List.getElem?_toArray,aW,dG]
  cases s.sl[t]? <;>rfl
 |_=>rfl
def St.ahI(s:St)(d:Option Tmp)(v:SV):(s.put d v).act=s.act.put d (v.R s.kn):=by
 cases d with
 |none=>rfl
 |some d=>simp[St.put,St.act,Act.put,pM]
def St.eval_eq(s:St):s.act.eval=s.ev:=funext s.uk
structure St.h(s:St):Prop where
 D:∀(k:Nat)(kb:KB),s.kn[k]? =some kb->kb.live=true->s.w.heap[kb.idx]? =some (.cells kb.cells.toArray kb.ty (0,0))
 ne:∀(i j:Nat)(x y:KB),s.kn[i]? =some x->s.kn[j]? =some y->x.live=true->y.live=true->x.idx=y.idx->i=j
 lX:∀(i:Nat)(v:SV),s.sl[i]? =some v->v.jX s.kn.length
variable{s:St}
def St.h.lt(h:s.h)(k:Nat)(kb:KB)(hk:s.kn[k]? =some kb)(hl:kb.live=true):kb.idx<s.w.heap.size:=
 (oQ.1 (h.D k kb hk hl)).1
def St.h.sv(h:s.h)(x:Operand):(s.sv x).jX s.kn.length:=by
 cases x with
 |tmp t=>
  simp only[St.sv,dG]
  cases hv:s.sl[t]? with
  |none=>trivial
  |some v=>exact h.lX t v hv
 |_=>trivial
def rK(kn kn':List KB):Prop:=∀(k:Nat)(kb:KB),kn[k]? =some kb->∃kb',kn'[k]? =some kb'/\kb'.idx=kb.idx/\kb'.ty=kb.ty
def rK.refl(kn:List KB):rK kn kn:=λ_ kb h=>⟨kb,h,rfl,rfl⟩
variable{b a:List KB}
def rK.trans{c:List KB}(h:rK a b)(h':rK b c):rK a c:=λk kb hk=>by
 have⟨kb',h1,h2,V9⟩:=h k kb hk
 have⟨kb'',h3,h4,h4'⟩:=h' k kb' h1
 exact⟨kb'',h3,h4.trans h2,h4'.trans V9⟩
def rK.length(h:rK a b):a.length<=b.length:=by
 rcases iR b.length a.length with fK|S5
 ·have⟨kb',h1,_⟩:=h b.length a[b.length] (cK fK);simp at h1
 ·exact S5
variable{v:SV}
def rK.R{kn kn':List KB}(h:rK kn kn')(hv:v.jX kn.length):v.R kn'=v.R kn:=by
 cases v with
 |val v=>rfl
 |loc k off=>
  have⟨kb',h1,h2,_⟩:=h k kn[k] (cK hv);simp[SV.R,dG,h1,h2,cK (show k<kn.length from hv)]
 |S_ k n=>
  have⟨kb',h1,h2,_⟩:=h k kn[k] (cK hv);simp[SV.R,dG,h1,h2,cK (show k<kn.length from hv)]
def SV.jX.mono{n m:Nat}(h:v.jX n)(hm:n<=m):v.jX m:=by
 cases v
 ·trivial
 ·exact gK h hm
 ·exact gK h hm
structure Fr(W:bf)(s s':St):Prop where
 len:s'.sl.length=s.sl.length
 slot:∀i,i∉W->(s'.sl.getD i (.val undef)).R s'.kn=(s.sl.getD i (.val undef)).R s.kn
 kn:rK s.kn s'.kn
 df:s.df.length<=s'.df.length/\(s'.df.length=s.df.length->s'.df=s.df)
def Fr.refl(W:bf)(s:St):Fr W s s:=⟨rfl,λ_ _=>rfl,rK.refl _,ak _,λ_=>rfl⟩
variable{b a:St}{W:bf}
def Fr.trans{c:St}(h:Fr W a b)(h':Fr W b c):Fr W a c:=
 ⟨h'.len.trans h.len,λi hi=>(h'.slot i hi).trans (h.slot i hi),h.kn.trans h'.kn,cV h.df.1 h'.df.1,λe=>by have h1:=h.df.1;have h2:=h'.df.1;have h3:=h.df.2 U;have h4:=h'.df.2 U;exact h4.trans h3⟩
def Fr.mono{W':bf}(h:Fr W a b)(hs:∀i∈W,i∈W'):Fr W' a b:=
 ⟨h.len,λi hi=>h.slot i (λh'=>hi (hs i h')),h.kn,h.df⟩
def tI(k:IntKind)(x y:Int):Int:=k.wrap ((Ok k.bits x &&&Ok k.bits y).toNat:Nat)
def TJ(k:IntKind)(x y:Int):Int:=k.wrap ((Ok k.bits x|||Ok k.bits y).toNat:Nat)
def lA(k:IntKind)(x y:Int):Int:=k.wrap ((Ok k.bits x ^^^Ok k.bits y).toNat:Nat)
def mH(k:IntKind)(x y:Int):Int:=k.wrap ((Ok k.bits x &&& ~~~ Ok k.bits y).toNat:Nat)
def gu(x y:aq):aX:=x.toList==y.toList
def strLt(x y:aq):aX:=Op.bytesLess x.toList y.toList
def al1(op:BinOp)(k:IntKind)(x y:Int):Option (List Prop×aC):=
 match op with
 | .add=>some ([],.int k (k.wrap (x+y)))
 | .sub=>some ([],.int k (k.wrap (x-y)))
 | .mul=>some ([],.int k (k.wrap (x*y)))
 | .quo=>some (WN y,.int k (k.wrap (x.tdiv y)))
 | .rem=>some (WN y,.int k (x.tmod y))
 | .and=>some ([],.int k (tI k x y))
 | .or=>some ([],.int k (TJ k x y))
 | .xor=>some ([],.int k (lA k x y))
 | .andNot=>some ([],.int k (mH k x y))
 | .eql=>some ([],.bool (x==y))
 | .neq=>some ([],.bool (x !=y))
 | .lss=>some ([],.bool (decide (x<y)))
 | .leq=>some ([],.bool (decide (x<=y)))
 | .gtr=>some ([],.bool (decide (x>y)))
 | .geq=>some ([],.bool (decide (x>=y)))
 |_=>none
def al2(op:BinOp)(x y:aq):Option (List Prop×aC):=
 match op with
 | .add=>some ([((x.size+y.size:Nat):Int)<=IntKind.i64.max],.string (x++y))
 | .eql=>some ([],.bool (gu x y))
 | .neq=>some ([],.bool (!gu x y))
 | .lss=>some ([],.bool (strLt x y))
 | .leq=>some ([],.bool (strLt x y||gu x y))
 | .gtr=>some ([],.bool (!(strLt x y||gu x y)))
 | .geq=>some ([],.bool (!strLt x y))
 |_=>none
def al3(op:BinOp)(x y:aX):Option (List Prop×aC):=
 match op with
 | .eql=>some ([],.bool (x==y))
 | .neq=>some ([],.bool (!(x==y)))
 |_=>none
def acJ(op:BinOp)(k:IntKind)(x y:Int):Option (List Prop×aC):=
 match op with
 | .shl=>some (S' y,.int k (k.wrap (x*2^(min y.toNat k.bits))))
 | .shr=>some (S' y,.int k (x.fdiv (2^(min y.toNat k.bits))))
 |_=>none
def aqE:BinOp->aX| .shl| .shr=>true|_=>false
def Lh(P:Program)(t:aB):aX:=match P.underlying t with|some .bool=>true|_=>false
def ahJ:aC->aX| .nilFunc=>true|_=>false
def Yz(tb:aX)(op:BinOp)(x y:aC):Option (List Prop×aC):=
 match ahJ y with
 |true=>none
 |false=>match aqE op with
 |true=>match x,y with
  | .int k a,.int _ b=>acJ op k a b
  |_,_=>none
 |false=>match x,y with
  | .int k a,.int k' b=>if k=k' then al1 op k a b else none
  | .string a,.string b=>al2 op a b
  | .bool a,.bool b=>match tb with|true=>al3 op a b|false=>none
  |_,_=>none
def EK(P:Program)(t:aB)(f:Nat):Option Field:=
 match P.underlying t with
 |some (.struct fs)=>fs[f]?
 |_=>none
def aE(a:ai)(l m size:Nat):ai:=if m=l then a else a.map (·.add (l*size))
def isStr(P:Program)(t:aB):aX:=match P.underlying t with|some .string=>true|_=>false
def iE(P:Program)(t:aB):Option Nat:=(P.info? t).map (·.size)
def oH(P:Program)(t:aB):Option (aB×Nat):=match P.underlying t with|some (.slice e)=>(iE P e).map λn=>(e,n)|_=>none
def pN(P:Program)(t:aB):Option (Nat×aB):=match P.underlying t with|some (.array n e)=>some (n,e)|_=>none
def Fc(lo hi mx:Option Int)(len cap:Nat):List Prop×Nat×Nat×Nat:=
 match mx with
 |some m=>match hi,lo with
  |some h,some l=>([0<=m,m<=(cap:Int),0<=h,h<=m,0<=l,l<=h],l.toNat,h.toNat,m.toNat)
  |some h,none=>([0<=m,m<=(cap:Int),0<=h,h<=m],0,h.toNat,m.toNat)
  |none,_=>([False],0,0,0)
 |none=>match hi,lo with
  |some h,some l=>([0<=h,h<=(cap:Int),0<=l,l<=h],l.toNat,h.toNat,cap)
  |some h,none=>([0<=h,h<=(cap:Int)],0,h.toNat,cap)
  |none,some l=>([0<=l,l<=(len:Int)],l.toNat,len,cap)
  |none,none=>([],0,len,cap)
def um:Option aC->Option (Option Int)
 |none=>some none
 |some (.int _ i)=>some (some i)
 |_=>none
def TZ(P:Program)(t:aB)(x:aC)(lo hi mx:Option aC):Option (List Prop×aC):=
 match um lo,um hi,um mx with
 |some lo,some hi,some mx=>
  match x with
  | .slice a n c=>match oH P t with
    |some (_,z)=>match Fc lo hi mx n c with
     |(cs,l,h,m)=>some (cs,.slice (aE a l m z) (h-l) (m-l))
    |none=>none
  | .string s=>match isStr P t,mx with
    |true,none=>match Fc lo hi none s.size s.size with
     |(cs,l,h,_)=>some (cs,.string (s.extract l h))
    |_,_=>none
  | .pointer p=>match pN P t with
    |some (n,e)=>match iE P e with
     |some z=>match Fc lo hi mx n n with
      |(cs,l,h,m)=>some (eE p++cs,.slice (aE p l m z) (h-l) (m-l))
     |none=>none
    |none=>none
  |_=>none
 |_,_,_=>none
def acK:SV->Nat->Option (List Prop×SV)
 | .loc k off,n=>some ([],.loc k (off+n))
 | .val (.pointer p),n=>some (eE p,.val (.pointer (N p n)))
 |_,_=>none
def al4(x y:aC):Option aC:=match x,y with| .int k a,.int _ b=>some (.int k (if b<a then b else a))|_,_=>none
def al5(x y:aC):Option aC:=match x,y with| .int k a,.int _ b=>some (.int k (if b>a then b else a))|_,_=>none
def JD(f:aC->aC->Option aC):af->aC->Option aC
 | [],x=>some x
 |y::r,x=>match f x y with|some z=>JD f r z|none=>none
def uo(P:Program)(b:Builtin)(ats:Array aB)(args:af):Option aC:=
 match b,args with
 | .len,[.slice _ n _]=>match ats[0]?.bind (oH P)with|some _=>some (.int .i64 n)|none=>none
 | .len,[.string s]=>match ats[0]?.map (isStr P)with|some true=>some (.int .i64 s.size)|_=>none
 | .cap,[.slice _ _ c]=>match ats[0]?.bind (oH P)with|some _=>some (.int .i64 c)|none=>none
 | .len,[.agg _]=>match ats[0]?.bind (pN P)with|some (n,_)=>some (.int .i64 n)|none=>none
 | .min,x::r=>JD al4 r x
 | .max,x::r=>JD al5 r x
 |_,_=>none
def JE(P:Program)(t:aB)(cs:ae)(off:Nat):Option aC:=
 match P.underlying t with
 |none=>none
 |some _=>if Bq P t then some (.agg ((cs.toList.drop off).take (fE P t)).toArray)else cs[off]?
def YF(P:Program)(g:aB->aC->aC->Option aX)(xs ys:ae):List Field->Option aX
 | []=>some true
 | [f]=>if f.name= "_" then none else match JE P f.type xs f.offset,JE P f.type ys f.offset with
   |some a,some b=>g f.type a b
   |_,_=>none
 |f::h::r=>if f.name= "_" then none else match JE P f.type xs f.offset,JE P f.type ys f.offset with
  |some a,some b=>match g f.type a b,YF P g xs ys (h::r)with
   |some p,some q=>some (p&&q)
   |_,_=>none
  |_,_=>none
def eqV(P:Program):Nat->aB->aC->aC->Option aX
 |0,_,_,_=>none
 |d+1,t,x,y=>match P.underlying t,x,y with
  |some (.int _),.int k a,.int k' b=>if k=k' then some (a==b)else none
  |some .bool,.bool a,.bool b=>some (a==b)
  |some .string,.string a,.string b=>some (gu a b)
  |some (.struct fs),.agg xs,.agg ys=>if P.stoodInHeld t then none else YF P (eqV P d) xs ys fs.toList
  |_,_,_=>none
def acL:aC->aX
 | .nilFunc=>true
 |_=>false
def fnC:aC->List Prop
 | .nilFunc| .func .. =>[]
 |_=>[False]
def aqF(a b:ai):List Prop:=match b with|none=>[]|some _=>[a=none]
def aqG(a b:ai):aX:=match b with|none=>a.isNone|some _=>false
def al6(P:Program)(t:aB)(x y:aC):Option (List Prop×aX):=
 match y with
 | .slice none _ _=>match x,P.underlying t with
   | .slice a _ _,some (.slice _)=>some ([],a.isNone)
   |_,_=>none
 | .pointer b=>match x,P.underlying t with
   | .pointer a,some (.pointer _)=>some (aqF a b,aqG a b)
   |_,_=>none
 | .map none=>match x,P.underlying t with
   | .map a,some (.map _ _)=>some ([],a.isNone)
   |_,_=>none
 | .nilFunc=>match P.underlying t with
   |some (.func _ _ _)=>some (fnC x,acL x)
   |_=>none
 | .agg ys=>match x with
   | .agg xs=>match P.eqGuardType P.depth t with
     |false=>(eqV P 20 t (.agg xs) (.agg ys)).map λb=>([],b)
     |true=>none
   |_=>none
 |_=>none
def al7:BinOp->Option aX| .eql=>some true| .neq=>some false|_=>none
def acM(P:Program)(op:BinOp)(t:aB)(x y:aC):Option (List Prop×aC):=
 match al7 op,al6 P t x y with
 |some true,some (c,b)=>some (c,.bool b)
 |some false,some (c,b)=>some (c,.bool (!b))
 |_,_=>none
def uq(P:Program)(t:aB):aX:=match P.underlying t with|some (.interface _)=>false|some _=>true|none=>false
def dH(P:Program)(s:St)(op:Op):Option (List Prop×SV):=
 match op with
 | .move x| .assign x=>some ([],s.sv x)
 | .pick c a b=>match s.sv c with
   | .val (.bool c)=>some ([],match c with|true=>s.sv a|false=>s.sv b)
   |_=>none
 | .extract t i=>match s.sv t with
   | .val (.tuple vs)=>vs[i]?.map λv=>([],.val v)
   |_=>none
 | .fieldAddr t x f=>match EK P t f with
   |some fd=>if fE P fd.type=0 then none else acK (s.sv x) fd.offset
   |none=>none
 | .field t x f=>match s.sv x,EK P t f with
   | .val (.agg cs),some fd=>if(P.underlying fd.type).isNone then none else if Bq P fd.type then some ([],.val (.agg ((cs.toList.drop fd.offset).take (fE P fd.type)).toArray))else cs[fd.offset]?.map λv=>([],.val v)
   |_,_=>none
 | .nilCheck x=>match s.sv x with
   | .loc k off=>some ([],.loc k off)
   | .val (.pointer p)=>some (eE p,.val (.pointer p))
   |_=>none
 | .indexAddr t x i=>match s.ev i with
   | .int _ i=>match oH P t,s.ev x with
     |some (_,z),.slice a n _=>some ([gD a i n],.val (.pointer (N a (i.toNat*z))))
     |none,.pointer p=>match pN P t with
      |some (n,e)=>(iE P e).map λz=>(eE p++[0<=i,i<(n:Int)],.val (.pointer (N p (i.toNat*z))))
      |none=>none
     |_,_=>none
   |_=>none
 | .index t x i=>match s.ev x,s.ev i with
   | .string b,.int _ i=>if isStr P t then some ([0<=i,i<(b.size:Int)],.val (.int .u8 (b.data.toList.getD i.toNat 0).toNat))else none
   |_,_=>none
 | .binOp op t x y _=>match Yz (Lh P t) op (s.ev x) (s.ev y)with
   |some (c,v)=>some (c,.val v)
   |none=>(acM P op t (s.ev x) (s.ev y)).map λ(c,v)=>(c,.val v)
 | .unOp .not _ x=>match s.ev x with
   | .bool b=>some ([],.val (.bool !b))
   |_=>none
 | .unOp .neg _ x=>match s.ev x with
   | .int k n=>some ([],.val (.int k (k.wrap (0-n))))
   |_=>none
 | .convert src dst x=>match P.underlying src,P.underlying dst,s.ev x with
   |some (.int _),some (.int k),.int _ n=>some ([],.val (.int k (k.wrap n)))
   |some .string,some .string,.string b=>some ([],.val (.string b))
   |_,_,_=>none
 | .slice t x lo hi mx=>(TZ P t (s.ev x) (lo.map s.ev) (hi.map s.ev) (mx.map s.ev)).map λ(c,v)=>(c,.val v)
 | .call {callee:=.builtin b,args,argTypes}=>(uo P b argTypes (args.toList.map s.ev)).map λv=>([],.val v)
 | .makeInterface t x=>match uq P t,s.sv x with
   |true,.val v=>some ([],.val (.iface t v))
   |_,_=>none
 |_=>none
def aA(P:Program)(t:aB)(w:au):(underlying t).run P w=match P.underlying t with|some d=>.ok d w|none=>.halt (.stuck "no such type") w:=by
 simp only[underlying,program,bind,Sem.bind,Sem.run]
 cases P.underlying t<;>rfl
def dB(P:Program)(t:aB)(w:au):(typeInfo t).run P w=match P.info? t with|some d=>.ok d w|none=>.halt (.stuck "no such type") w:=by
 simp only[typeInfo,program,bind,Sem.bind,Sem.run]
 cases P.info? t<;>rfl
variable{t:aB}{P:Program}
def fa(h:(P.info? t).isSome=true):(sizeOf t).run P w=.ok (fE P t) w:=by
 simp only[sizeOf,Aw,dB,fE]
 cases h':P.info? t<;>simp_all
variable{d:TypeDesc}
def info_of_underlying(h:P.underlying t=some d):(P.info? t).isSome=true:=by
 unfold Program.underlying at h
 cases h':P.info? t<;>simp_all
def aku(P:Program)(ρ:Operand->aC)(o:Oper)(v:aC):Prop:=∀w,(execOp ρ o).run P w=.ok (.value v) w
def acN{a b:List Prop}(h:∀p∈a++b,p):(∀p∈a,p)/\∀p∈b,p:=⟨λp hp=>h p (dp.2 (.inl hp)),λp hp=>h p (dp.2 (.inr hp))⟩
section
variable{P:Program}{ρ:Operand->aC}{o:Oper}
variable{v:aC}
def dV{s:Sem aC}(he:execOp ρ o=(do pure (.value (<-s))))(h:∀w,s.run P w=.ok v w):aku P ρ o v:=by intro w;rw[he,Aw,h];rfl
variable{op:BinOp}{t:aB}{k:IntKind}{x y:Int}{cs:List Prop}
def acO(hs:aqE op=false)(h:al1 op k x y=some (cs,v))(hc:∀p∈cs,p)(w:au): (binOp op t (.int k x) (.int k y)).run P w=.ok v w:=by
 cases op<;>simp only[al1,Option.some.injEq,Prod.mk.injEq,reduceCtorEq]at h<;>(try exact absurd hs X)<;>(try (obtain⟨rfl,rfl⟩:=h))
 all_goals (try simp[binOp,Op.intArith,Op.intBits,Op.intCmp,tI,TJ,lA,mH];done)
 all_goals
  rw[yV]at hc
  simp[binOp,Op.intDiv,hc]
def acP{x y:aq}(h:al2 op x y=some (cs,v))(hc:∀p∈cs,p)(w:au): (binOp op t (.string x) (.string y)).run P w=.ok v w:=by
 cases op<;>simp only[al2,Option.some.injEq,Prod.mk.injEq,reduceCtorEq]at h<;>(try (obtain⟨rfl,rfl⟩:=h))
 all_goals (try simp[binOp,Op.stringOp,gu,strLt];done)
 have:=hc _ (ig.2 rfl);simp only[binOp,Op.stringOp];rw[if_neg U];rfl
def acQ{x y:aX}(ht:P.underlying t=some .bool)(h:al3 op x y=some (cs,v))(w:au): (binOp op t (.bool x) (.bool y)).run P w=.ok v w:=by
 have e:(Op.equal t (.bool x) (.bool y)).run P w=.ok (x==y) w:=by unfold Op.equal Op.maxDepth;rw[show(10000:Nat)=9999+1 from rfl,Op.equalIn,Aw,aA,ht];rfl
 cases op<;>simp only[al3,Option.some.injEq,Prod.mk.injEq,reduceCtorEq]at h<;>(try (obtain⟨rfl,rfl⟩:=h))
 all_goals (show(binOp _ t (.bool x) (.bool y)).run P w=_;unfold binOp;rw[Aw,e];rfl)
def YI{k':IntKind}(h:acJ op k x y=some (cs,v))(hc:∀p∈cs,p)(w:au): (binOp op t (.int k x) (.int k' y)).run P w=.ok v w:=by
 cases op<;>simp only[acJ,Option.some.injEq,Prod.mk.injEq,reduceCtorEq]at h<;>(try (obtain⟨rfl,rfl⟩:=h))
 all_goals
  rw[EJ]at hc
  simp only[binOp,Op.shift]
  rw[if_neg U];rfl
def CN(op:BinOp)(t:aB)(x y:Operand)(a b:aC)(h1:a≠.nilIface)(h2:∀c,a≠.agg c)(w:au):(eqGuard op t x y a b).run P w=.ok () w:=by cases op<;>first|rfl|(cases a<;>first|rfl|exact absurd rfl h1|exact absurd rfl (h2 _))
variable{x y:aC}
def acR(h:Yz (Lh P t) op x y=some (cs,v))(hc:∀p∈cs,p)(w:au): (binOp op t x y).run P w=.ok v w:=by
 unfold Yz at h;split at h
 ·cases h
 split at h
 ·split at h
  ·exact YI h hc w
  ·exact absurd h bo
 ·rename_i hs;split at h
  ·split at h
   next e=>subst e;exact acO hs h hc w
   ·exact absurd h bo
  ·exact acP h hc w
  ·split at h
   ·rename_i ht;have ht:P.underlying t=some .bool:=by
     unfold Lh at ht;split at ht
     ·assumption
     ·cases ht
    exact acQ ht h w
   ·cases h
  ·exact absurd h bo
def YJ{tb:aX}{r:List Prop×aC}(h:Yz tb op x y=some r):x≠.nilIface/\∀c,x≠.agg c:=by
 constructor
 ·rintro rfl;unfold Yz at h;split at h
  ·cases h
  ·split at h<;>simp at h
 ·rintro c rfl;unfold Yz at h;split at h
  ·cases h
  ·split at h<;>simp at h
end
section
variable{P:Program}{s:St}{o:Oper}
variable{t:aB}{f:Nat}
def yW{fd:Field}(h:EK P t f=some fd):∃fs,P.underlying t=some (.struct fs)/\fs[f]? =some fd:=by
 unfold EK at h;split at h
 next fs hu=>exact⟨fs,hu,h⟩
 ·cases h
def kS{e:aB}{z:Nat}(h:oH P t=some (e,z)):P.underlying t=some (.slice e)/\∀w,(sizeOf e).run P w=.ok z w:=by
 unfold oH at h;split at h
 ·rename_i e' hu;unfold iE at h
  cases h':P.info? e' with
  |none=>simp[h']at h
  |some i=>
   simp[h']at h;obtain⟨rfl,rfl⟩:=h;exact⟨hu,λw=>by rw[fa (by simp[h'])];simp[fE,h']⟩
 ·cases h
variable{a b:Prop}
def c2(h:∀p∈[a,b],p):a/\b:=⟨h a bo,h b bo⟩
def c4{c d:Prop}(h:∀p∈[a,b,c,d],p):a/\b/\c/\d:=⟨h a bo,h b bo,h c bo,h d bo⟩
def c6{c d e f:Prop}(h:∀p∈[a,b,c,d,e,f],p):a/\b/\c/\d/\e/\f:=⟨h a bo,h b bo,h c bo,h d bo,h e bo,h f bo⟩
def oR(h:isStr P t=true):P.underlying t=some .string:=by
 unfold isStr at h;split at h
 ·assumption
 ·cases h
variable{lo hi mx:Option aC}{cs:List Prop}
def Li{isS:aX}{lo' hi' mx':Option Int}{len cap:Nat}{l h m:Nat}(e1:um lo=some lo')(e2:um hi=some hi')(e3:um mx=some mx') (mF:Fc lo' hi' mx' len cap=(cs,l,h,m))(hc:∀p∈cs,p)(w:au):(Instr.sliceBounds isS len cap lo hi mx).run P w=.ok (l,h,m) w:=by
 have key:∀(x:aC)(i:Int)(y:Nat)(code:BoundsCode)(w:au),um (some x)=some (some i)->0<=i->i<=(y:Int)->(Instr.sliceBound x y code).run P w=.ok i.toNat w:=by
  intro x i y code w hx h0 h1
  cases x<;>simp[um]at hx
  subst hx;simp[Instr.sliceBound,asIntOf,h0,h1]
 have n3:∀{x:Option aC},um x=some none->x=none:=by intro x hx;unfold um at hx;split at hx<;>simp_all
 have s3:∀{x:Option aC}{i:Int},um x=some (some i)->∃v,x=some v/\um (some v)=some (some i):=by
  intro x i hx;cases x with
  |none=>simp[um]at hx
  |some v=>exact⟨v,rfl,hx⟩
 unfold Instr.sliceBounds
 cases mx' with
 |none=>
  obtain rfl:=n3 e3
  cases hi' with
  |none=>
   obtain rfl:=n3 e2
   cases lo' with
   |none=>obtain rfl:=n3 e1;simp[Fc]at mF;obtain⟨rfl,rfl,rfl,rfl⟩:=mF;rfl
   |some i=>
    obtain⟨v,rfl,hv⟩:=s3 e1;simp[Fc]at mF;obtain⟨rfl,rfl,rfl,rfl⟩:=mF;have hc:=c2 hc;simp[key v i len _ w hv hc.1 hc.2]
  |some j=>
   obtain⟨u,rfl,hu⟩:=s3 e2
   cases lo' with
   |none=>
    obtain rfl:=n3 e1;simp[Fc]at mF;obtain⟨rfl,rfl,rfl,rfl⟩:=mF;have hc:=c2 hc;simp[key u j cap _ w hu hc.1 hc.2]
   |some i=>
    obtain⟨v,rfl,hv⟩:=s3 e1;simp[Fc]at mF;obtain⟨rfl,rfl,rfl,rfl⟩:=mF;have hc:=c4 hc;simp[key u j cap _ w hu hc.1 hc.2.1,key v i j.toNat _ w hv hc.2.2.1 U]
 |some q=>
  obtain⟨x,rfl,hx⟩:=s3 e3
  cases hi' with
  |none=>simp[Fc]at mF;obtain⟨rfl,_⟩:=mF;exact(hc _ (ig.2 rfl)).elim
  |some j=>
   obtain⟨u,rfl,hu⟩:=s3 e2
   cases lo' with
   |none=>
    obtain rfl:=n3 e1;simp[Fc]at mF;obtain⟨rfl,rfl,rfl,rfl⟩:=mF;have hc:=c4 hc;simp[key x q cap _ w hx hc.1 hc.2.1,key u j q.toNat _ w hu hc.2.2.1 U]
   |some i=>
    obtain⟨v,rfl,hv⟩:=s3 e1;simp[Fc]at mF;obtain⟨rfl,rfl,rfl,rfl⟩:=mF;have hc:=c6 hc;simp[key x q cap _ w hx hc.1 hc.2.1,key u j q.toNat _ w hu hc.2.2.1 U,key v i j.toNat _ w hv hc.2.2.2.2.1 U]
variable{x v:aC}
def T3(h:TZ P t x lo hi mx=some (cs,v))(hc:∀p∈cs,p)(w:au): (Instr.sliceAt t x lo hi mx).run P w=.ok v w:=by
 unfold TZ at h;split at h
 ·rename_i lo' hi' mx' e1 e2 e3;split at h
  ·rename_i a n c;split at h
   next e z he=>split at h;rename_i cs' l q m mF;simp only[Option.some.injEq,Prod.mk.injEq]at h;obtain⟨rfl,rfl⟩:=h;have⟨hu,hz⟩:=kS he;simp only[Instr.sliceAt,Aw,aA,hu,Br,Instr.slice,Li e1 e2 e3 mF hc,hz];rfl
   ·cases h
  ·rename_i b;split at h
   ·have he:isStr P t=true:=by assumption
    split at h;rename_i cs' l q m mF;simp only[Option.some.injEq,Prod.mk.injEq]at h;obtain⟨rfl,rfl⟩:=h;have hu:=oR he;have hmx:mx=none:=by
     cases mx with
     |none=>rfl
     |some u=>cases u<;>simp[um]at e3
    subst hmx;simp only[Instr.sliceAt,Aw,aA,hu,Br,Instr.slice];have arq:=Li (P:=P) (isS:=false) e1 e2 (mx:=none) (mx':=none) rfl mF hc w;simp[arq]
   ·cases h
  ·rename_i p;split at h
   ·rename_i n e he;split at h
    ·rename_i z hz;split at h;rename_i cs' l q m mF;simp only[Option.some.injEq,Prod.mk.injEq]at h;obtain⟨rfl,rfl⟩:=h;have⟨h1,h2⟩:=acN hc;obtain⟨a,rfl⟩:=qI.1 (rJ.1 h1);have hu:P.underlying t=some (.array n e):=by
      unfold pN at he;split at he
      next hu=>cases he;exact hu
      ·cases he
     have hz':(sizeOf e).run P w=.ok z w:=by
      unfold iE at hz
      cases hi':P.info? e with
      |none=>simp[hi']at hz
      |some i'=>simp[hi']at hz;rw[fa (by simp[hi'])];simp[fE,hi',hz]
     simp only[Instr.sliceAt,Instr.sureAddr,Aw,ka3,aA,hu,Br,Li (isS:=false) e1 e2 e3 mF h2,hz'];unfold aE;split<;>rfl
    ·cases h
   ·cases h
  ·cases h
 ·cases h
variable{f:Field}{a:Addr}
def Fe(h:fE P f.type≠0)(w:au):(fieldPlace a f).run P w=.ok (a.add f.offset) w:=by
 have hs:(P.info? f.type).isSome=true:=by
  cases h':P.info? f.type with
  |none=>simp[fE,h']at h
  |some i=>rfl
 simp only[fieldPlace,Aw,fa hs,Br,if_neg h];rfl
variable{sv:SV}
def acS{x:SV}{kn:List KB}{n:Nat}(h:acK x n=some (cs,sv))(hc:∀p∈cs,p): ∃a:Addr,x.R kn=.pointer (some a)/\sv.R kn=.pointer (some (a.add n)):=by
 cases x with
 |loc k off=>
  simp only[acK,Option.some.injEq,Prod.mk.injEq]at h;obtain⟨rfl,rfl⟩:=h;refine⟨_,rfl,?_⟩;simp only[SV.R,Addr.add];split
  next h0=>rw[h0];rfl
  ·rfl
 |S_ k n=>cases h
 |val v=>
  cases v<;>simp[acK]at h
  rename_i p;obtain⟨rfl,rfl⟩:=h;rw[rJ]at hc
  cases p with
  |none=>cases hc
  |some a=>exact⟨a,rfl,rfl⟩
variable{f:aC->aC->Option aC}{g:aC->aC->Sem aC}
def JF(hfg:∀x y z,f x y=some z->∀w,(g x y).run P w=.ok z w): ∀(l:af)(x z:aC),JD f l x=some z->∀w,(l.foldlM g x).run P w=.ok z w:=by
 intro l
 induction l with
 |nil=>intro x z h w;simp only[JD,Option.some.injEq]at h;subst h;rfl
 |cons y r ih=>
  intro x z h w;simp only[JD]at h;split at h
  next u hu=>rw[List.foldlM_cons,Aw,hfg _ _ _ hu];exact ih _ _ h w
  ·cases h
variable{b:Builtin}
def Lj{ats:Array aB}{ty:aB}{cs:Array aX}{args:ae}(h:uo P b ats args.toList=some v)(w:au): (builtin b ats ty cs args).run P w=.ok (.value v) w:=by
 have⟨l⟩:=args;simp only at h;unfold uo at h;split at h
 ·split at h
  ·rename_i hx
   cases h
   cases ha:ats[0]? with
   |none=>simp[ha]at hx
   |some t=>
    simp[ha]at hx;have⟨hu,_⟩:=kS hx;simp[builtin,Builtin.len_,ha,aA,hu,goInt]
  ·cases h
 ·split at h
  ·rename_i hx
   cases h
   cases ha:ats[0]? with
   |none=>simp[ha]at hx
   |some t=>
    simp[ha]at hx;have hu:=oR hx;simp[builtin,Builtin.len_,ha,aA,hu,goInt]
  ·cases h
 ·split at h
  ·rename_i hx
   cases h
   cases ha:ats[0]? with
   |none=>simp[ha]at hx
   |some t=>
    simp[ha]at hx;have⟨hu,_⟩:=kS hx;simp[builtin,Builtin.cap_,ha,aA,hu,goInt]
  ·cases h
 ·split at h
  ·rename_i n e hx
   cases h
   cases ha:ats[0]? with
   |none=>simp[ha]at hx
   |some t=>
    simp[ha]at hx;have hu:P.underlying t=some (.array n e):=by
     unfold pN at hx;split at hx
     next hu=>cases hx;exact hu
     ·cases hx
    simp[builtin,Builtin.len_,ha,aA,hu,goInt]
  ·cases h
 ·have:=JF (P:=P) (f:=al4) (g:=Builtin.min2) (by
   intro x y z hz w
   cases x<;>cases y<;>simp[al4]at hz
   subst hz;rfl) _ _ _ h w
  simp only[builtin,Builtin.min_,Aw,this];rfl
 ·have:=JF (P:=P) (f:=al5) (g:=Builtin.max2) (by
   intro x y z hz w
   cases x<;>cases y<;>simp[al5]at hz
   subst hz;rfl) _ _ _ h w
  simp only[builtin,Builtin.max_,Aw,this];rfl
 ·cases h
def dW{α β:Type}{a c:α}{b d:β}(h:some (a,b)=some (c,d)):a=c/\b=d:=by cases h;exact⟨rfl,rfl⟩
def ahK{x:Option (List Prop×aC)}(h:(x.map λ(c,v)=>(c,SV.val v))=some (cs,sv)):∃v,x=some (cs,v)/\sv=.val v:=by
 cases x with
 |none=>cases h
 |some p=>have⟨a,b⟩:=p;cases h;exact⟨b,rfl,rfl⟩
def Ff{x:Operand}{v:SV}(h:s.sv x=v):s.ev x=v.R s.kn:=by simp only[St.ev,h]
variable{off:Nat}
def yX{cs:ae}(w:au)(hn:(P.underlying t).isNone=false): (Bq P t=true->(part t cs off).run P w=.ok (.agg ((cs.toList.drop off).take (fE P t)).toArray) w)/\(Bq P t=false->∀v,cs[off]? =some v->(part t cs off).run P w=.ok v w):=by
 have hu:∃d,P.underlying t=some d:=by
  cases hh:P.underlying t with
  |some d=>exact⟨d,rfl⟩
  |none=>simp[hh]at hn
 have⟨d,hu⟩:=hu;have hi:=info_of_underlying hu;constructor
 ·intro h;have:(isAgg t).run P w=.ok true w:=by
   simp only[isAgg,Aw,aA,hu,Br];unfold Bq at h;rw[hu]at h
   cases d<;>first|rfl|(simp at h)
  simp only[part,Aw,this,Br,if_true,fa hi,ka3];congr 2;apply Array.ext';simp[List.take_drop,CO]
 ·intro h v hv;have:(isAgg t).run P w=.ok false w:=by
   simp only[isAgg,Aw,aA,hu,Br];unfold Bq at h;rw[hu]at h
   cases d<;>first|rfl|(simp at h)
  simp[part,this,hv]
def vw{cs:ae}(h:JE P t cs off=some v)(w:au):(part t cs off).run P w=.ok v w:=by
 unfold JE at h;split at h
 ·cases h
 ·rename_i d hu;have hp:=yX (P:=P) (t:=t) (cs:=cs) (off:=off) w (hu▸rfl);split at h
  next ha=>cases h;exact hp.1 ha
  next ha=>exact hp.2 (ds ha) v h
variable{d:Nat}{g:aB->aC->aC->Option aX}
def O4(hg:∀t x y b,g t x y=some b->∀w,(Op.equalIn d t x y).run P w=.ok b w)(xs ys:ae):
  ∀(fs:List Field)(b:aX),YF P g xs ys fs=some b->∀w,(Op.eqFields d xs ys fs).run P w=.ok b w
 | [],b,h,w=>by simp only[YF,Option.some.injEq]at h;subst h;rfl
 | [f],b,h,w=>by
   unfold YF at h
   split at h
   ·cases h
   ·rename_i hn
    split at h
    ·rename_i x y hx hy
     simp only[Op.eqFields,if_pos (show f.name≠ "_" from hn),Aw,vw hx,vw hy,Br,hg _ _ _ _ h]
     cases b<;>rfl
    ·cases h
 |f::f'::r,b,h,w=>by
  unfold YF at h
  split at h
  ·cases h
  ·rename_i hn
   split at h
   ·rename_i x y hx hy
    split at h
    ·rename_i p q hp hq
     cases h
     rw[Op.eqFields,if_pos (show f.name≠ "_" from hn)]
     simp only[Aw,vw hx,vw hy,Br,hg _ _ _ _ hp]
     cases p with
     |false=>rfl
     |true=>simpa using O4 hg xs ys (f'::r) q hq w
    ·cases h
   ·cases h
def Lk:∀(d:Nat)(t:aB)(x y:aC)(b:aX),eqV P d t x y=some b->∀(n:Nat),d<=n->∀w,(Op.equalIn n t x y).run P w=.ok b w
 |0,t,x,y,b,h,n,hn,w=>by cases h
 |d+1,t,x,y,b,h,n,hn,w=>by
  obtain⟨m,rfl⟩:∃m,n=m+1:=⟨n-1,U⟩
  unfold eqV at h
  split at h
  ·rename_i k0 k a k' b' hu
   split at h
   next e=>subst e;cases h;exact run_equalIn_int w m t k k0 a b' hu
   ·cases h
  next a b' hu=>cases h;exact run_equalIn_bool w m t a b' hu
  next a b' hu=>cases h;exact run_equalIn_string w m t a b' hu
  ·rename_i fs xs ys hu
   split at h
   ·cases h
   ·rename_i hs
    have hf:P.fieldsOf t=fs:=by simp[Program.fieldsOf,hu]
    rw[run_equalIn_struct w m t xs ys (hf▸hu) (ds hs),hf];exact O4 (λt x y b hb w=>Lk d t x y b hb m U w) xs ys fs.toList b h w
  ·cases h
variable{b:aX}{y:aC}
def lY{w:au}(h:(Op.equalIn (9999+1) t x y).run P w=.ok b w):(Op.equal t x y).run P w=.ok b w:=h
def O5(h:al6 P t x y=some (cs,b))(hc:∀p∈cs,p)(w:au): (Op.equal t x y).run P w=.ok b w/\(∀op (xo yo:Operand),(eqGuard op t xo yo x y).run P w=.ok () w)/\(x≠.nilIface)/\(∀op,(binOp op t x y)=match op with| .eql=>(do pure (.bool (<-Op.equal t x y)))| .neq=>(do pure (.bool (!(<-Op.equal t x y))))|o=>binOp o t x y):=by
 have g:∀op (xo yo:Operand),x≠.nilIface->(∀c,x≠.agg c)->(eqGuard op t xo yo x y).run P w=.ok () w:=λop xo yo h1 h2=>CN op t xo yo x y h1 h2 w
 unfold al6 at h;split at h
 ·split at h
  ·rename_i a n c e hu;obtain⟨rfl,rfl⟩:=dW h;refine⟨lY ?_,λop xo yo=>g op xo yo bo bo,bo,λop=>a0P⟩;rw[Op.equalIn,Aw,aA,hu]
   cases a<;>rfl
  ·cases h
 ·rename_i b;split at h
  ·rename_i a e hu;obtain⟨rfl,rfl⟩:=dW h;refine⟨lY ?_,λop xo yo=>g op xo yo bo bo,bo,λop=>a0P⟩;rw[Op.equalIn,Aw,aA,hu]
   cases b with
   |none=>cases a<;>rfl
   |some y=>
    have ha:a=none:=hc _ (ig.2 rfl);subst ha;rfl
  ·cases h
 ·split at h
  ·rename_i a k e hu;obtain⟨rfl,rfl⟩:=dW h;refine⟨lY ?_,λop xo yo=>g op xo yo bo bo,bo,λop=>a0P⟩;rw[Op.equalIn,Aw,aA,hu]
   cases a<;>rfl
  ·cases h
 ·split at h
  ·rename_i a1 a2 a3 hu;obtain⟨rfl,rfl⟩:=dW h
   cases x with
   |nilFunc=>
    refine⟨lY ?_,λop xo yo=>g op xo yo bo bo,bo,λop=>a0P⟩;rw[Op.equalIn,Aw,aA,hu];rfl
   |func fn fs cs=>
    refine⟨lY ?_,λop xo yo=>g op xo yo bo bo,bo,λop=>a0P⟩;rw[Op.equalIn,Aw,aA,hu];rfl
   |_=>exact(hc False (ig.2 rfl)).elim
  ·cases h
 ·rename_i ys;split at h
  ·rename_i xs;split at h
   ·rename_i hg
    cases he:eqV P 20 t (.agg xs) (.agg ys)with
    |none=>rw[he]at h;cases h
    |some b'=>
     rw[he]at h;obtain⟨rfl,rfl⟩:=dW h;refine⟨lY (Lk 20 t _ _ _ he _ U w),λop xo yo=>run_eqGuard_agg w op t xo yo _ _ hg,bo,λop=>a0P⟩
   ·cases h
  ·cases h
 ·cases h
def YK{op:BinOp}(h:acM P op t x y=some (cs,v))(hc:∀p∈cs,p)(w:au)(xo yo:Operand): (eqGuard op t xo yo x y).run P w=.ok () w/\(binOp op t x y).run P w=.ok v w:=by
 unfold acM at h;split at h
 ·rename_i c b ho hcv;obtain⟨rfl,rfl⟩:=dW h;have⟨h1,h2,_,h4⟩:=O5 hcv hc w;refine⟨h2 op xo yo,?_⟩
  cases op<;>simp[al7]at ho
  rw[h4,Aw,h1];rfl
 ·rename_i c b ho hcv;obtain⟨rfl,rfl⟩:=dW h;have⟨h1,h2,_,h4⟩:=O5 hcv hc w;refine⟨h2 op xo yo,?_⟩
  cases op<;>simp[al7]at ho
  rw[h4,Aw,h1];rfl
 ·cases h
def Fg(h:uq P t=true)(w:au):(Instr.makeInterface t v).run P w=.ok (.iface t v) w:=by
 unfold uq at h;split at h
 ·cases h
 ·rename_i d hd gl;simp only[Instr.makeInterface,Aw,aA,hd,Br]
  cases d<;>simp_all
 ·cases h
def rL(h:dH P s o.op=some (cs,sv))(hc:∀p∈cs,p):aku P s.ev o (sv.R s.kn):=by
 have⟨dst,op,ty,pos,after,guard⟩:=o;simp only at h
 cases op with
 |move x=>obtain⟨rfl,rfl⟩:=dW h;exactλw=>rfl
 |assign x=>obtain⟨rfl,rfl⟩:=dW h;exactλw=>rfl
 |pick c a b=>
  simp only[dH]at h;split at h
  ·rename_i t hx;obtain⟨rfl,rfl⟩:=dW h;intro w;simp only[execOp,Ff hx]
   cases t<;>rfl
  ·cases h
 |extract t i=>
  simp only[dH]at h;split at h
  ·rename_i vs hx
   cases hv:vs[i]? with
   |none=>simp[hv]at h
   |some v=>
    simp[hv]at h;obtain⟨rfl,rfl⟩:=h;intro w;simp[execOp,Ff hx,Instr.extract,hv,SV.R]
  ·cases h
 |fieldAddr t x f=>
  simp only[dH]at h;split at h
  ·rename_i fd hf;split at h
   ·cases h
   ·rename_i hz;have⟨a,e1,e2⟩:=acS (kn:=s.kn) h hc;have⟨fs,hu,hfs⟩:=yW hf;refine dV rfl λw=>?_
    simp only[Instr.fieldAt,Aw,aA,hu,Br,hfs,St.ev,e1,Instr.sureAddr,ka3,Fe hz,e2]
  ·cases h
 |field t x f=>
  simp only[dH]at h;split at h
  ·rename_i cs' fd hx hf;have⟨fs,hu,hfs⟩:=yW hf;refine dV rfl λw=>?_
   simp only[Instr.field,Aw,aA,hu,Br,hfs,Ff hx,SV.R,asAgg,ka3];split at h
   ·cases h
   rename_i hn;have hp:=yX (P:=P) (t:=fd.type) (cs:=cs') (off:=fd.offset) w (by cases hq:P.underlying fd.type<;>simp_all);split at h
   next ha=>obtain⟨rfl,rfl⟩:=dW h;exact hp.1 ha
   ·rename_i ha
    cases hv:cs'[fd.offset]? with
    |none=>simp[hv]at h
    |some v=>
     simp[hv]at h;obtain⟨rfl,rfl⟩:=h;exact hp.2 (ds ha) v hv
  ·cases h
 |nilCheck x=>
  simp only[dH]at h;split at h
  next k off hx=>obtain⟨rfl,rfl⟩:=dW h;intro w;simp only[execOp,Ff hx,SV.R];rfl
  ·rename_i p hx;obtain⟨rfl,rfl⟩:=dW h;rw[rJ]at hc;intro w
   cases p with
   |none=>cases hc
   |some a=>simp only[execOp,Ff hx,SV.R];rfl
  ·cases h
 |indexAddr t x i=>
  simp only[dH]at h;split at h
  ·rename_i k iv hi;split at h
   ·rename_i e z a n c he hx;obtain⟨rfl,rfl⟩:=dW h;have⟨hu,hz⟩:=kS he;have⟨h1,h3,h4⟩:=hc _ (ig.2 rfl);refine dV rfl λw=>?_
    cases a with
    |none=>cases h1
    |some a=>simp[Instr.indexAt,aA,hu,hx,SV.R,hi,asIntOf,h3,h4,hz,N]
   ·rename_i p he hx;split at h
    ·rename_i n e ha;have hu:P.underlying t=some (.array n e):=by
      unfold pN at ha;split at ha
      next hu=>cases ha;exact hu
      ·cases ha
     cases hz:iE P e with
     |none=>simp[hz]at h
     |some z=>
      rw[hz]at h;obtain⟨rfl,rfl⟩:=dW h;have⟨h1,h2⟩:=acN hc;rw[rJ]at h1;have⟨h3,h4⟩:=c2 h2;have hz':∀w,(sizeOf e).run P w=.ok z w:=λw=>by
       unfold iE at hz
       cases hi':P.info? e with
       |none=>simp[hi']at hz
       |some i'=>simp[hi']at hz;rw[fa (by simp[hi'])];simp[fE,hi',hz]
      refine dV rfl λw=>?_
      cases p with
      |none=>cases h1
      |some a=>simp[Instr.indexAt,aA,hu,hx,SV.R,hi,asIntOf,h3,h4,hz',N,Instr.sureAddr]
    ·cases h
   ·cases h
  ·cases h
 |index t x i=>
  simp only[dH]at h;split at h
  ·rename_i b k iv hx hi;split at h
   ·rename_i ht;have hu:=oR ht;obtain⟨rfl,rfl⟩:=dW h;have⟨h3,h4⟩:=c2 hc;refine dV rfl λw=>?_
    have fK:iv.toNat<b.size:=by omega
    have hg:b[iv.toNat]? =some (b.data.toList.getD iv.toNat 0):=by
     rw[getElem?_pos b iv.toNat fK];have:iv.toNat<b.data.toList.length:=by simpa using fK
     simp[dG,cK this];rfl
    simp[Instr.index,aA,hu,hx,hi,asIntOf,h3,hg,SV.R]
   ·cases h
  ·cases h
 |binOp op t x y u=>
  simp only[dH]at h;split at h
  ·rename_i c v hv;obtain⟨rfl,rfl⟩:=dW h;refine dV rfl λw=>?_
   have⟨n1,n2⟩:=YJ hv;rw[Aw,CN _ _ _ _ _ _ n1 n2,Br,acR hv hc];rfl
  ·obtain⟨v,hv,rfl⟩:=ahK h;refine dV rfl λw=>?_
   have⟨h1,h2⟩:=YK hv hc w x y;rw[Aw,h1,Br,h2];rfl
 |unOp op t x=>
  cases op with
  |not=>
   simp only[dH]at h;split at h
   next b hx=>obtain⟨rfl,rfl⟩:=dW h;exact dV rfl λw=>by simp only[hx];rfl
   ·cases h
  |neg=>
   simp only[dH]at h;split at h
   next k n hx=>obtain⟨rfl,rfl⟩:=dW h;exact dV rfl λw=>by simp only[hx];rfl
   ·cases h
  |_=>cases h
 |convert a b x=>
  simp only[dH]at h;split at h
  ·rename_i k' k k'' n hu1 hu2 hx;obtain⟨rfl,rfl⟩:=dW h;refine dV rfl λw=>?_
   simp only[convert,Aw,aA,hu1,hu2,Br,hx];rfl
  ·rename_i bb hu1 hu2 hx;obtain⟨rfl,rfl⟩:=dW h;refine dV rfl λw=>?_
   simp only[convert,Aw,aA,hu1,hu2,Br,hx];rfl
  ·cases h
 |slice t x lo hi mx=>
  obtain⟨v,hv,rfl⟩:=ahK h;exact dV rfl λw=>T3 hv hc w
 |call c=>
  have⟨callee,args,argTypes⟩:=c
  cases callee with
  |builtin b=>
   simp only[dH]at h
   cases hb:uo P b argTypes (args.toList.map s.ev)with
   |none=>simp[hb]at h
   |some v=>
    simp[hb]at h;obtain⟨rfl,rfl⟩:=h;intro w;have:=Lj (P:=P) (ty:=ty) (cs:=(args.map fun| .const _=>true|_=>false)) (args:=args.map s.ev) (ds hb) w;rw[BigFrame.execOp_builtin];exact this
  |_=>cases h
 |makeInterface t x=>
  simp only[dH]at h;split at h
  next v hu hx=>obtain⟨rfl,rfl⟩:=dW h;intro w;have e:s.ev x=v:=Ff hx;simp only[execOp,Aw,e,Fg hu,Br];rfl
  ·cases h
 |_=>cases h
end
section
variable{P:Program}{s:St}{o:Oper}
def Fh(hs:s.h){op:Op}{cs:List Prop}{sv:SV}(h:dH P s op=some (cs,sv)):sv.jX s.kn.length:=by
 cases op with
 |move x=>obtain⟨rfl,rfl⟩:=dW h;exact hs.sv x
 |assign x=>obtain⟨rfl,rfl⟩:=dW h;exact hs.sv x
 |pick c a b=>
  simp only[dH]at h;split at h
  ·rename_i t hx;obtain⟨rfl,rfl⟩:=dW h
   cases t
   ·exact hs.sv b
   ·exact hs.sv a
  ·cases h
 |extract t i=>
  simp only[dH]at h;split at h
  ·rename_i vs hx
   cases hv:vs[i]? with
   |none=>simp[hv]at h
   |some v=>simp[hv]at h;obtain⟨rfl,rfl⟩:=h;trivial
  ·cases h
 |fieldAddr t x f=>
  simp only[dH]at h;split at h
  ·split at h
   ·cases h
   ·have hx:=hs.sv x;unfold acK at h;split at h
    next e=>rw[e]at hx;obtain⟨rfl,rfl⟩:=dW h;exact hx
    ·exact a0z
    ·cases h
  ·cases h
 |field t x f=>
  simp only[dH]at h;split at h
  ·rename_i cs' fd hx hf;split at h
   ·cases h
   split at h
   ·exact a0z
   ·cases hv:cs'[fd.offset]? with
    |none=>simp[hv]at h
    |some v=>simp[hv]at h;obtain⟨rfl,rfl⟩:=h;trivial
  ·cases h
 |nilCheck x=>
  simp only[dH]at h;have hx:=hs.sv x;split at h
  next e=>rw[e]at hx;obtain⟨rfl,rfl⟩:=dW h;exact hx
  ·obtain⟨rfl,rfl⟩:=dW h;trivial
  ·cases h
 |indexAddr t x i=>
  simp only[dH]at h;split at h
  ·split at h
   ·obtain⟨rfl,rfl⟩:=dW h;trivial
   ·split at h
    ·rename_i n e ha
     cases hz:iE P e with
     |none=>simp[hz]at h
     |some z=>rw[hz]at h;obtain⟨rfl,rfl⟩:=dW h;trivial
    ·cases h
   ·cases h
  ·cases h
 |index t x i=>
  simp only[dH]at h;split at h
  ·split at h
   ·obtain⟨rfl,rfl⟩:=dW h;trivial
   ·cases h
  ·cases h
 |binOp op t x y u=>
  simp only[dH]at h;split at h
  ·exact a0z
  ·obtain⟨v,_,rfl⟩:=ahK h;trivial
 |unOp op t x=>
  cases op<;>simp only[dH]at h<;>first|(cases h;done)|(split at h<;>first|(cases h;done)|(obtain⟨rfl,rfl⟩:=dW h;trivial))
 |convert a b x=>
  simp only[dH]at h;split at h
  ·exact a0z
  ·obtain⟨rfl,rfl⟩:=dW h;trivial
  ·cases h
 |slice t x lo hi mx=>obtain⟨v,_,rfl⟩:=ahK h;trivial
 |call c=>
  have⟨callee,args,argTypes⟩:=c
  cases callee with
  |builtin b=>
   simp only[dH]at h
   cases hb:uo P b argTypes (args.toList.map s.ev)with
   |none=>simp[hb]at h
   |some v=>simp[hb]at h;obtain⟨rfl,rfl⟩:=h;trivial
  |_=>cases h
 |makeInterface t x=>
  simp only[dH]at h;split at h
  ·exact a0z
  ·cases h
 |_=>cases h
end
def iF(d:Option Tmp)(s:St)(K:St->Prop):Act->au->Prop:=
 λa w=>∃s',s'.h/\s'.act=a/\s'.w=w/\Fr d.toList s s'/\K s'
def getD_set_ne{α:Type}(l:List α)(i j:Nat)(v d:α)(h:i≠j):(l.set i v).getD j d=l.getD j d:=by simp[dG,h]
variable{K:St->Prop}{a:Act}{d:Option Tmp}
def kT{s1:St}(hk:K (s1.put d v)) (hok:s.h)(lE:s1.sl=s.sl)(jC:rK s.kn s1.kn) (iK:∀(k:Nat)(kb:KB),s1.kn[k]? =some kb->kb.live=true->s1.w.heap[kb.idx]? =some (.cells kb.cells.toArray kb.ty (0,0))) (gl:∀(i j:Nat)(x y:KB),s1.kn[i]? =some x->s1.kn[j]? =some y->x.live=true->y.live=true->x.idx=y.idx->i=j) (hv:v.jX s1.kn.length)(ha:s.act.put d (v.R s1.kn)=a)(hw:s1.w=w)(Wa:s1.df=s.df:=by rfl):iF d s K a w:=by
 have hcl:∀x∈s.sl,x.R s1.kn=x.R s.kn:=λx hx=>by have⟨i,hi⟩:=yY hx;exact jC.R (hok.lX i x hi)
 refine⟨s1.put d v,⟨?_,?_,?_⟩,?_,?_,⟨?_,?_,?_,?_⟩,hk⟩
 ·cases d<;>exact iK
 ·cases d<;>exact gl
 ·have hl:∀(i:Nat)(u:SV),s1.sl[i]? =some u->u.jX s1.kn.length:=λi u hu=>(hok.lX i u (lE▸hu)).mono jC.length
  cases d with
  |none=>exact hl
  |some d=>
   intro i u hu;simp only[St.put,iS]at hu;split at hu
   ·split at hu
    ·cases hu;exact hv
    ·cases hu
   ·exact hl i u hu
 ·rw[St.ahI,<-ha];have:s1.act=s.act:=by simp only[St.act,lE,Wa];congr 2;exact CP hcl
  rw[this]
 ·cases d<;>exact hw
 ·cases d<;>simp[St.put,lE]
 ·intro i hi;have:(s1.put d v).sl.getD i (.val undef)=s.sl.getD i (.val undef):=by
   cases d with
   |none=>simp[St.put,lE]
   |some d=>simp only[St.put,lE];exact getD_set_ne _ _ _ _ _ (λe=>hi (by simp[e]))
  rw[this];have Wb:(s1.put d v).kn=s1.kn:=by cases d<;>rfl
  rw[Wb];simp only[dG]
  cases hg:s.sl[i]? with
  |none=>rfl
  |some u=>exact jC.R (hok.lX i u hg)
 ·cases d<;>exact jC
 ·have:(s1.put d v).df=s.df:=by cases d<;>exact Wa
  rw[this];exact⟨ak _,λ_=>rfl⟩
variable{o:Oper}
def wp_pure{Q:Exit->Act->au->Prop}{cs:List Prop}{sv:SV}(hok:s.h)(h:dH P s o.op=some (cs,sv))(hk:aO cs (K (s.put o.dst sv))): o.wp P s.act s.w (iF o.dst s K) Q:=by
 rw[bO]at hk;unfold Oper.wp;rw[St.eval_eq,rL h hk.1];exact kT hk.2 hok rfl (rK.refl _) hok.D hok.ne (Fh hok h) rfl rfl
def ah(w:au)(p:ai):Nat->af->Prop
 |_,[]=>True
 |i,[v]=>ld w (N p i)=some v
 |i,v::u::r=>ld w (N p i)=some v/\ah w p (i+1) (u::r)
def Nw(P:Program)(w:au)(p:ai)(t:aB)(F:af->aC->Prop):Prop:=
 match rI P t with
 | .sc c=>c.ex λv=>ld w p=some v/\F [v] v
 | .agg l=>if l.length=fE P t/\l.isEmpty=false then exL l λvs=>ah w p 0 vs/\F vs (.agg vs.toArray)else False
def JG(P:Program)(w:au)(p:ai)(t:aB)(F:aC->Prop):Prop:=Nw P w p t λ_=>F
def cellsOf:aC->af
 | .agg cs=>cs.toList
 |v=>[v]
def qJ(w:au)(a:Addr):Nat->af->au
 |_,[]=>w
 |i,v::r=>qJ (w.setCell (a.add i) v) a (i+1) r
def bB(w:au)(p:ai)(vs:af):au:=match p with|some a=>qJ w a 0 vs|none=>w
def Wr(w:au)(p:ai)(n:Nat):Prop:=∀i,i<n->∃a,p=some a/\(w.cell? (a.add i)).isSome=true/\w.frozen? (a.add i)=false
def kq:aC->List Prop
 | .agg _| .tuple _=>[False]
 |_=>[]
def bM:ai->Option Nat:=λp=>p.map (·.block)
def gw(kn:List KB):bf:=(kn.filter (·.live)).map (·.idx)
def Fi(kn:List KB)(w w':au):List Prop:=(gw kn).map λi=>w'.heap[i]? =w.heap[i]?
def Bs(kn:List KB)(p:ai):List Prop:=(gw kn).map λi=>bM p≠some i
def putCells(cs:af)(off:Nat):af->af
 | []=>cs
 |v::r=>putCells (cs.set off v) (off+1) r
def St.qK(s:St)(k:Nat):St:={s with kn:=s.kn.modify k λkb=>{kb with live:=false}}
def St.kill(s:St):List SV->St
 | []=>s
 | .loc k _::r| .S_ k _::r=>(s.qK k).kill r
 | .val _::r=>s.kill r
def aqH(P:Program)(t:aB):aX:=match P.underlying t with|some (.array _ _)=>true|_=>false
def Bt(P:Program)(s:St)(d:Option Tmp)(t:aB)(cs:af)(K:St->Prop):Prop:=
 match aqH P t with
 |true=>∀w1,w1=s.w.alloc (.cells cs.toArray t)->K ({s with w:=w1}.put d (.val (.pointer (some ⟨s.w.heap.size,0,none⟩))))
 |false=>∀w1,w1=s.w.alloc (.cells cs.toArray t)->K ({s with w:=w1,kn:=s.kn++[KB.mk s.w.heap.size cs t true]}.put d (.loc s.kn.length 0))
def zeroOf(P:Program)(t:aB):Option af:=((P.info? t).bind (·.zero)).map cellsOf
section
variable{P:Program}{s:St}{o:Oper}{K:St->Prop}{Q:Exit->Act->au->Prop}
variable{d:Option Tmp}{v:aC}
def dI(hok:s.h)(hk:K (s.put d (.val v))):iF d s K (s.act.put d v) s.w:=
 kT hk hok rfl (rK.refl _) hok.D hok.ne trivial rfl rfl
def Fj(kn:List KB)(l:List KB):rK kn (kn++l):=λk kb hk=>⟨kb,by
 rw[oS (by have:=(cG.1 hk).1;exact this)];exact hk,rfl,rfl⟩
def qL(v:aC):v.cells.toList=cellsOf v:=by cases v<;>rfl
def oI(v:aC):v.cells=(cellsOf v).toArray:=by cases v<;>rfl
variable{t:aB}{cs:af}
def Fk(hok:s.h)(hk:Bt P s d t cs K): iF d s K (s.act.put d (.pointer (some ⟨s.w.heap.size,0,none⟩))) (s.w.alloc (.cells cs.toArray t)):=by
 have H2:∀i,i<s.w.heap.size->(s.w.alloc (.cells cs.toArray t)).heap[i]? =s.w.heap[i]? :=λi hi=>Below.heap_alloc _ _ _ hi
 have Ep:(s.w.alloc (.cells cs.toArray t)).heap[s.w.heap.size]? =some (.cells cs.toArray t (0,0)):=by show(s.w.heap.push _)[s.w.heap.size]? =_;simp
 unfold Bt at hk;split at hk
 ·have hk:=hk _ rfl;exact kT hk hok rfl (rK.refl _) (λk kb h1 h2=>by rw[<-hok.D k kb h1 h2];exact H2 _ (hok.lt k kb h1 h2)) hok.ne trivial rfl rfl
 ·have hk:=hk _ rfl;refine kT hk hok rfl (Fj _ _) (λk kb h1 h2=>?_) (λi j x y h1 h2 h3 h4 h5=>?_) (show s.kn.length<(s.kn++[_]).length by simp) ?_ rfl
  ·rcases iR k s.kn.length with fK|S5
   ·simp only[oS fK]at h1;rw[<-hok.D k kb h1 h2];exact H2 _ (hok.lt k kb h1 h2)
   ·simp only[pO S5]at h1
    cases hz:k-s.kn.length with
    |zero=>simp[hz]at h1;subst h1;exact Ep
    |succ n=>simp[hz]at h1
  ·have key:∀(i:Nat)(x:KB),(s.kn++[KB.mk s.w.heap.size cs t true])[i]? =some x->(i<s.kn.length/\s.kn[i]? =some x)\/(i=s.kn.length/\x.idx=s.w.heap.size):=by
    intro i x hx;rcases iR i s.kn.length with fK|S5
    ·exact .inl ⟨fK,by rwa[oS fK]at hx⟩
    ·rw[pO S5]at hx
     cases hz:i-s.kn.length with
     |zero=>simp[hz]at hx;subst hx;exact .inr ⟨U,rfl⟩
     |succ n=>simp[hz]at hx
   rcases key i x h1 with⟨a1,a2⟩|⟨a1,a2⟩<;>rcases key j y h2 with⟨b1,b2⟩|⟨b1,b2⟩
   ·exact hok.ne i j x y a2 b2 h3 h4 h5
   ·have:=hok.lt i x a2 h3;omega
   ·have:=hok.lt j y b2 h4;omega
   ·omega
  ·simp[SV.R,dG]
def jf(ob:Obj)(w:au):(newObj ob).run P w=.ok w (w.alloc ob):=rfl
def JH(h:zeroOf P t=some cs)(w:au): (Instr.alloc t true (.tuple #[])).run P w=.ok (.pointer (some ⟨w,0,none⟩)) (w.alloc (.cells cs.toArray t)):=by
 unfold zeroOf at h
 cases hi:P.info? t with
 |none=>simp[hi]at h
 |some i=>
  cases hz:i.zero with
  |none=>simp[hi,hz]at h
  |some v=>
   simp[hi,hz]at h;subst h;simp[Instr.alloc,zeroValue,dB,hi,hz,newVar,newRow,jf,oI]
def WR(w:au): (Instr.box t v).run P w=.ok (.pointer (some ⟨w,0,none⟩)) (w.alloc (.cells (cellsOf v).toArray t)):=by
 simp[Instr.box,newVar,newRow,jf,oI]
end
section
variable{P:Program}{s:St}{o:Oper}{K:St->Prop}{Q:Exit->Act->au->Prop}
def St.known(s:St)(k:Nat):Option KB:=match s.kn[k]? with|some kb=>(match kb.live with|true=>some kb|false=>none)|none=>none
def rM{k:Nat}{kb:KB}(h:s.known k=some kb):s.kn[k]? =some kb/\kb.live=true:=by
 unfold St.known at h;split at h
 ·split at h
  ·cases h;exact⟨by assumption,by assumption⟩
  ·cases h
 ·cases h
def Ny(P:Program)(s:St)(d:Option Tmp)(t:aB)(x:SV)(K:ai->af->St->Prop):Prop:=
 match x with
 | .loc k off=>match s.known k with
   |some kb=>match rI P t with
    | .sc _=>match kb.cells[off]? with|some v=>K (some ⟨kb.idx,off,none⟩) [v] (s.put d (.val v))|none=>False
    | .agg l=>if l.length=fE P t/\off+l.length<=kb.cells.length then K (some ⟨kb.idx,off,none⟩) ((kb.cells.drop off).take l.length) (s.put d (.val (.agg ((kb.cells.drop off).take l.length).toArray)))else False
   |none=>Nw P s.w (some ⟨(s.kn.getD k default).idx,off,none⟩) t λvs v=>K (some ⟨(s.kn.getD k default).idx,off,none⟩) vs (s.put d (.val v))
 | .val (.pointer p)=>Nw P s.w p t λvs v=>K p vs (s.put d (.val v))
 |_=>False
def Fl(P:Program)(s:St)(d:Option Tmp)(t:aB)(x:SV)(K:St->Prop):Prop:=Ny P s d t x λ_ _=>K
def mQ{t:aB}(w:au){d:TypeDesc}(hu:P.underlying t=some d):(isAgg t).run P w=.ok (Bq P t) w:=by
 simp only[isAgg,Aw,aA,hu,Br,Bq]
 cases d<;>rfl
def O6{t:aB}{c:c_}(h:rI P t=.sc c):Bq P t=false:=by
 unfold rI at h;split at h
 ·cases h
 next h'=>simpa using h'
def Fm{t:aB}{l:List c_}(h:rI P t=.agg l):Bq P t=true:=by
 unfold rI at h;split at h
 ·assumption
 ·cases h
def mI{a:Addr}{w:au}:∀(n i:Nat)(acc:ae)(vs:af),vs.length=n->(∀j,j<n->w.cell? (a.add (i+j))=vs[j]?)->(loadCellsFrom a i n acc).run P w=.ok (acc++vs.toArray) w:=by
 intro n
 induction n with
 |zero=>intro i acc vs hl _;have:vs=[]:=ur.1 hl;subst this;simp[loadCellsFrom]
 |succ n ih=>
  intro i acc vs hl h
  cases vs with
  |nil=>simp at hl
  |cons v r=>
   have h0:=h 0 U;simp at h0;simp only[loadCellsFrom,Aw,run_load,h0,Br];rw[ih (i+1) _ r (ds hl) (λj hj=>by have:=h (j+1) U;simpa[Nat.add_assoc,CO 1 j]using this)];simp
def mR{w:au}{p:ai}:∀{i:Nat}{vs:af},ah w p i vs->∀j,j<vs.length->ld w (N p (i+j))=vs[j]?
 |_,[],_,j,hj=>by simp at hj
 |i,[v],h,j,hj=>by
  have:j=0:=by simp at hj;exact hj
  subst this;exact h
 |i,v::u::r,h,j,hj=>by
  cases j with
  |zero=>exact h.1
  |succ j=>
   have:=mR h.2 j (ds hj);rw[show i+(j+1)=i+1+j by omega,this];simp
def fu(p:ai):N p 0=p:=by cases p<;>simp[N,Addr.add]
def HA{t:aB}{p:ai}{F:af->aC->Prop}{w:au}(hu:(P.underlying t).isSome=true)(h:Nw P w p t F): ∃a vs v,p=some a/\F vs v/\ah w p 0 vs/\∀w',ah w' p 0 vs->(Instr.loadAt t (.pointer (some a))).run P w'=.ok v w':=by
 have⟨d,hu⟩:=qI.1 hu;unfold Nw at h
 cases ht:rI P t with
 |sc c=>
  rw[ht]at h;have⟨v,h1,h2⟩:=c_.kR h
  cases p with
  |none=>simp[ld]at h1
  |some a=>
   refine⟨a,[v],v,rfl,h2,by simpa[ah,fu]using h1,λw' hw'=>?_⟩;have S6:w'.cell? a=some v:=by simpa[ah,fu,ld]using hw'
   simp[Instr.loadAt,Instr.sureAddr,loadVar,mQ w' hu,O6 ht,S6]
 |agg l=>
  simp only[ht]at h;split at h
  ·rename_i hl;have:∃vs,vs.length=l.length/\ah w p 0 vs/\F vs (.agg vs.toArray):=by
    have key:∀(l:List c_)(g_:af->Prop),exL l g_->∃vs,vs.length=l.length/\g_ vs:=by
     intro l
     induction l with
     |nil=>intro g_ hG;exact⟨[],rfl,hG⟩
     |cons c r ih=>
      rintro g_ ⟨x,hx⟩;have⟨vs,h1,h2⟩:=ih _ hx;exact⟨_,by simp[h1],h2⟩
    exact key l _ h
   have⟨vs,e,h1,h2⟩:=this;have hi:=info_of_underlying hu;have hp:∃a,p=some a:=by
    cases p with
    |some a=>exact⟨a,rfl⟩
    |none=>
     have h0:0<vs.length:=by
      cases l with
      |nil=>simp at hl
      |cons _ _=>simp at e;omega
     have:=mR h1 0 h0;simp[ld,N,cK h0]at this
   obtain⟨a,rfl⟩:=hp;refine⟨a,vs,_,rfl,h2,h1,λw' hw'=>?_⟩;simp only[Instr.loadAt,Instr.sureAddr,loadVar,Aw,ka3,Br,mQ w' hu,Fm ht,if_true,fa hi,loadCells];rw[mI _ 0 #[] vs U (λj hj=>by have:=mR hw' j U;simpa[ld,N]using this)];simp
  ·cases h
def JI{t:aB}{p:ai}{F:aC->Prop}{w:au}(hu:(P.underlying t).isSome=true)(h:JG P w p t F): ∃a v,p=some a/\F v/\(Instr.loadAt t (.pointer (some a))).run P w=.ok v w:=
 let⟨a,_,v,h1,h2,h3,h4⟩:=HA hu h;⟨a,v,h1,h2,h4 w h3⟩
end
section
variable{P:Program}{s:St}{o:Oper}{K:St->Prop}{Q:Exit->Act->au->Prop}
variable{w:au}{i:Nat}{c:ae}{t:aB}
def cell_of{f:Nat×Nat}(h:w.heap[i]? =some (.cells c t f))(j:Nat):w.cell? ⟨i,j,none⟩=c[j]? :=by simp[World.cell?,h]
def oJ(h:w.heap[i]? =some (.cells c t (0,0)))(j:Nat):w.frozen? ⟨i,j,none⟩=false:=by simp[World.frozen?,h]
def ou(i o n:Nat):(⟨i,o,none⟩:Addr).add n=⟨i,o+n,none⟩:=by unfold Addr.add;split<;>simp_all
def vb{p:ai}:∀{i:Nat}{vs:af},(∀j,j<vs.length->ld w (N p (i+j))=vs[j]?)->ah w p i vs
 |_,[],_=>trivial
 |i,[v],h=>by have:=h 0 bo;simpa[ah]using this
 |i,v::u::r,h=>⟨by have:=h 0 bo;simpa using this,vb λj hj=>by
  have:=h (j+1) (ds hj)
  rw[show i+(j+1)=i+1+j by omega]at this
  rw[this];simp⟩
variable{d:Option Tmp}{x:SV}
def RG{K2:ai->af->St->Prop}(hok:s.h)(hu:(P.underlying t).isSome=true)(h:Ny P s d t x K2): ∃a vs v,x.R s.kn=.pointer (some a)/\K2 (some a) vs (s.put d (.val v))/\ah s.w (some a) 0 vs/\∀w',ah w' (some a) 0 vs->(Instr.loadAt t (.pointer (some a))).run P w'=.ok v w':=by
 unfold Ny at h;split at h
 ·rename_i k off;split at h
  ·rename_i kb KW;have⟨h1,h2⟩:=rM KW;have hb:=hok.D k kb h1 h2;have jC:(s.kn.getD k default).idx=kb.idx:=by simp[dG,h1]
   have⟨dd,hu'⟩:=qI.1 hu;split at h
   ·rename_i c ht;split at h
    ·rename_i v hv;refine⟨⟨kb.idx,off,none⟩,[v],v,by rw[SV.R,jC],h,?_,λw' hw'=>?_⟩
     ·simp[ah,fu,ld,cell_of hb,hv]
     ·have S6:w'.cell? ⟨kb.idx,off,none⟩=some v:=by simpa[ah,fu,ld]using hw'
      simp[Instr.loadAt,Instr.sureAddr,loadVar,mQ _ hu',O6 ht,S6]
    ·cases h
   ·rename_i l ht;split at h
    ·rename_i hl;have cX:((kb.cells.drop off).take l.length).length=l.length:=by simp;omega
     refine⟨⟨kb.idx,off,none⟩,(kb.cells.drop off).take l.length,_,by rw[SV.R,jC],h,?_,λw' hw'=>?_⟩
     ·refine vb λj hj=>?_
      rw[cX]at hj;simp[ld,N,ou,cell_of hb,qM,yZ,hj]
     ·simp only[Instr.loadAt,Instr.sureAddr,loadVar,Aw,ka3,Br,mQ _ hu',Fm ht,if_true,fa (info_of_underlying hu'),loadCells];rw[mI _ 0 #[] ((kb.cells.drop off).take l.length) U (λj hj=>by have:=mR hw' j U;simpa[ld,N]using this)];simp
    ·cases h
  ·have⟨a,vs,v,h1,h2,h3,h4⟩:=HA hu h
   cases h1
   exact⟨_,vs,v,rfl,h2,h3,h4⟩
 next p=>have⟨a,vs,v,h1,h2,h3,h4⟩:=HA hu h;subst h1;exact⟨a,vs,v,rfl,h2,h3,h4⟩
 ·cases h
def Fo(hok:s.h)(hu:(P.underlying t).isSome=true)(h:Fl P s d t x K): ∃a v,x.R s.kn=.pointer (some a)/\K (s.put d (.val v))/\(Instr.loadAt t (.pointer (some a))).run P s.w=.ok v s.w:=
 let⟨a,_,v,h1,h2,h3,h4⟩:=RG hok hu h;⟨a,v,h1,h2,h4 _ h3⟩
def Ll(P:Program)(s:St)(d:Option Tmp)(t:aB)(x v:SV)(K:St->Prop):Prop:=
 let vs:=cellsOf (v.R s.kn)
 aO (vs.flatMap kq)<|if vs.length=fE P t then
  match x with
  | .loc k off=>match s.known k with
    |some kb=>if off+vs.length<=kb.cells.length then
     ∀w1,w1=s.w.setRow kb.idx (putCells kb.cells off vs).toArray->K ((({s with w:=w1,kn:=s.kn.modify k λb=>{b with cells:=putCells kb.cells off vs}}).kill [v]).put d (.val undef))else False
    |none=>Wr s.w (some ⟨(s.kn.getD k default).idx,off,none⟩) vs.length/\aO (Bs s.kn (some ⟨(s.kn.getD k default).idx,off,none⟩)) (∀w1,w1=bB s.w (some ⟨(s.kn.getD k default).idx,off,none⟩) vs->K ((({s with w:=w1}).kill [v]).put d (.val undef)))
  | .val (.pointer p)=>(p.isSome=true/\Wr s.w p vs.length)/\aO (Bs s.kn p) (∀w1,w1=bB s.w p vs->K ((({s with w:=w1}).kill [v]).put d (.val undef)))
  |_=>False
 else False
def dX:∀(vs:af)(cs:af)(off:Nat),off+vs.length<=cs.length->putCells cs off vs=cs.take off++vs++cs.drop (off+vs.length)
 | [],cs,off,_=>by simp[putCells]
 |v::r,cs,off,h=>by
  simp only[cL]at h
  rw[putCells,dX r _ _ m_]
  have h1:(cs.set off v).take (off+1)=cs.take off++[v]:=by
   apply jF;intro j;simp only[qM,iS,List.getElem?_append,cS];rcases Nat.lt_trichotomy j off with hj|hj|hj
   ·simp[hj,show j<off+1 by omega,show ¬off=j by omega,show j<min off cs.length by omega]
   ·subst hj;simp[show j<cs.length by omega,show ¬j<min j cs.length by omega,show j-min j cs.length=0 by omega]
   ·simp[show ¬j<off+1 by omega,show ¬j<min off cs.length by omega,show ¬j<off by omega];have:j-min off cs.length≠0:=by omega
    cases hz:j-min off cs.length with
    |zero=>omega
    |succ n=>simp
  have h2:(cs.set off v).drop (off+1+r.length)=cs.drop (off+(r.length+1)):=by apply jF;intro j;simp only[yZ,iS];simp[show ¬off=off+1+r.length+j by omega];congr 1;omega
  rw[h1,h2];simp
def db(vs:af):∀(cs:af)(off:Nat),(putCells cs off vs).length=cs.length:=by
 induction vs with
 |nil=>intro cs off;rfl
 |cons v r ih=>intro cs off;rw[putCells,ih];simp
def WS{vs:af}(h:∀p∈vs.flatMap kq,p):∀v∈vs,v.oneCell'=true:=by
 intro v hv
 cases v with
 |agg c=>exact(h False (List.mem_flatMap.2 ⟨_,hv,by simp[kq]⟩)).elim
 |tuple c=>exact(h False (List.mem_flatMap.2 ⟨_,hv,by simp[kq]⟩)).elim
 |_=>rfl
def gQ(a:Addr):∀(vs:af)(i:Nat)(w:au),(∀v∈vs,v.oneCell'=true)->
  (∀j,j<vs.length->(w.cell? (a.add (i+j))).isSome=true/\w.frozen? (a.add (i+j))=false)->(storeCells a vs i).run P w=.ok () (qJ w a i vs)
 | [],i,w,_,_=>rfl
 |v::r,i,w,h1,h2=>by
  have⟨u,hu⟩:=qI.1 (h2 0 bo).1
  have hf:=(h2 0 bo).2
  simp only[Nat.add_zero]at hu hf
  simp only[storeCells,Aw,run_store P w _ v _ (h1 v bo),hu,hf]
  simp only[Bool.false_eq_true,if_false,Br,qJ]
  refine gQ a r (i+1) _ (λv hv=>h1 v (by simp[hv])) (λj hj=>?_)
  have:=h2 (j+1) (ds hj)
  rw[show i+(j+1)=i+1+j by omega]at this
  refine⟨?_,by rw[World.frozen?_setCell];exact this.2⟩
  by_cases e:a.add i=a.add (i+1+j)
  ·rw[<-e,World.cell?_setCell_same _ _ _ hu];rfl
  ·rw[World.cell?_setCell_other _ _ _ _ e];exact this.1
def O7{s:St}(hok:s.h)(k:Nat):(s.qK k).h/\(s.qK k).sl=s.sl/\(s.qK k).w=s.w/\rK s.kn (s.qK k).kn/\(s.qK k).kn.length=s.kn.length:=by
 have key:∀(i:Nat)(x:KB),(s.qK k).kn[i]? =some x->x.live=true->s.kn[i]? =some x:=by
  intro i x hx hl;simp only[St.qK,CR]at hx;split at hx
  ·cases hy:s.kn[i]? with
   |none=>simp[hy]at hx
   |some y=>simp[hy]at hx;subst hx;simp at hl
  ·cases hy:s.kn[i]? with
   |none=>simp[hy]at hx
   |some y=>simpa[hy]using hx
 refine⟨⟨λi x h1 h2=>hok.D i x (key i x h1 h2) h2,λi j x y h1 h2 h3 h4 h5=>hok.ne i j x y (key i x h1 h3) (key j y h2 h4) h3 h4 h5,?_⟩,rfl,rfl,?_,by simp[St.qK]⟩
 ·intro i v hv;have:=hok.lX i v hv;simpa[St.qK]using this
 ·intro i x hx;refine⟨if k=i then {x with live:=false}else x,?_,by split<;>rfl,by split<;>rfl⟩;simp only[St.qK,CR,hx];split<;>rfl
def fo:∀(l:List SV) {s:St},s.h->(s.kill l).h/\(s.kill l).sl=s.sl/\(s.kill l).w=s.w/\rK s.kn (s.kill l).kn/\(s.kill l).kn.length=s.kn.length
 | [],s,h=>⟨h,rfl,rfl,rK.refl _,rfl⟩
 | .val _::r,s,h=>fo r h
 | .loc k _::r,s,h=>by
   have⟨a1,a2,a3,a4,a5⟩:=O7 h k
   have⟨b1,b2,b3,b4,b5⟩:=fo r a1
   exact⟨b1,b2.trans a2,b3.trans a3,a4.trans b4,b5.trans a5⟩
 | .S_ k _::r,s,h=>by
   have⟨a1,a2,a3,a4,a5⟩:=O7 h k
   have⟨b1,b2,b3,b4,b5⟩:=fo r a1
   exact⟨b1,b2.trans a2,b3.trans a3,a4.trans b4,b5.trans a5⟩
def ov:∀(l:List SV)(s:St),(s.kill l).df=s.df
 | [],_=>rfl
 | .val _::r,s=>ov r s
 | .loc k _::r,s=>ov r (s.qK k)
 | .S_ k _::r,s=>ov r (s.qK k)
variable{v:SV}
def kg{a:Act}{s1:St}(hk:K (s1.put d v))(hok:s.h)(h1:s1.h)(lE:s1.sl=s.sl)(jC:rK s.kn s1.kn) (hv:v.jX s1.kn.length)(ha:s.act.put d (v.R s1.kn)=a)(hw:s1.w=w)(Wa:s1.df=s.df:=by first|rfl|exact ov _ _):iF d s K a w:=
 kT hk hok lE jC h1.D h1.ne hv ha hw Wa
def mS{s:St}(hok:s.h){w':au}(h:∀p∈Fi s.kn s.w w',p):({s with w:=w'}:St).h:=by refine⟨λk kb h1 h2=>?_,hok.ne,hok.lX⟩;rw[<-hok.D k kb h1 h2];refine h _ (bc.2 ⟨kb.idx,?_,rfl⟩);exact bc.2 ⟨kb,jY.2 ⟨aQ h1,h2⟩,rfl⟩
def Lm(hok:s.h)(hi:(P.info? t).isSome=true)(h:Ll P s d t x v K): ∃a w',x.R s.kn=.pointer (some a)/\(Instr.storeAt t (.pointer (some a)) (v.R s.kn)).run P s.w=.ok () w'/\iF d s K (s.act.put d undef) w':=by
 unfold Ll at h;simp only [bO] at h;obtain ⟨H3,h⟩:=h;have H3:=WS H3;split at h
 case isFalse=>cases h
 rename_i nR;have sX:∀(a:Addr)(w':au),(storeCells a (cellsOf (v.R s.kn)) 0).run P s.w=.ok () w'->(Instr.storeAt t (.pointer (some a)) (v.R s.kn)).run P s.w=.ok () w':=by
  intro a w' hw;have:(v.R s.kn).cells.size=fE P t:=by rw [oI,<-nR];simp
  simp only [Instr.storeAt,Instr.sureAddr,storeVar,Sem.run_bind,Sem.run_pure,Result.andThen_ok,fa hi,this,ne_eq,not_true_eq_false,if_false,qL];exact hw
 have ars:∀(p:ai),x.R s.kn=.pointer p->p.isSome=true->Wr s.w p (cellsOf (v.R s.kn)).length->(∀q ∈ Bs s.kn p,q)->
   K ((({s with w:=bB s.w p (cellsOf (v.R s.kn))}).kill [v]).put d (.val undef))->
   ∃a w',x.R s.kn=.pointer (some a)/\(Instr.storeAt t (.pointer (some a)) (v.R s.kn)).run P s.w=.ok () w'/\iF d s K (s.act.put d undef) w':=by
  intro p hx hp hwr hap hk;obtain ⟨a,rfl⟩:=qI.1 hp;have iK:∀(vs:af)(w:au)(i k:Nat),k≠a.block->(qJ w a i vs).heap[k]? =w.heap[k]? :=by
   intro vs
   induction vs with
   |nil=>intro w i k _;rfl
   |cons u r ih=>
    intro w i k hk;rw [qJ,ih _ _ _ hk];exact Below.heap_setCell _ _ _ _ (by unfold Addr.add;split<;>exact hk)
  have kK:({s with w:=qJ s.w a 0 (cellsOf (v.R s.kn))}:St).h:=by
   refine mS hok λq hq=> ?_
   obtain ⟨i,hi,rfl⟩:=bc.1 hq;refine iK _ _ _ _ ?_;have:=hap (bM (some a)≠some i) (bc.2 ⟨i,hi,rfl⟩);intro e;exact this (by simp [bM,e])
  obtain ⟨k1,k2,k3,k4,k5⟩:=fo [v] kK;refine ⟨a,_,hx,sX a _ (gQ a _ 0 _ H3 λj hj=> ?_),kg hk hok k1 k2 k4 trivial rfl k3⟩;obtain ⟨a',e,h1,h2⟩:=hwr j hj
  cases e
  simp only [eF];exact ⟨h1,h2⟩
 split at h
 ·rename_i k off;split at h
  ·rename_i kb KW;split at h
   case isFalse=>cases h
   rename_i cX;obtain ⟨h1,h2⟩:=rM KW;have hb:=hok.D k kb h1 h2;have jC:(s.kn.getD k default).idx=kb.idx:=by simp [dG,h1]
   have de:∀j,j≠kb.idx->(s.w.setRow kb.idx (putCells kb.cells off (cellsOf (v.R s.kn))).toArray).heap[j]? =s.w.heap[j]? :=by intro j hj;simp only [World.setRow,Array.getElem?_modify,if_neg (Ne.symm hj)]
   have kK:({s with w:=s.w.setRow kb.idx (putCells kb.cells off (cellsOf (v.R s.kn))).toArray,kn:=s.kn.modify k λb=>{b with cells:=putCells kb.cells off (cellsOf (v.R s.kn))}}:St).h:=by
    have key:∀(i:Nat)(y:KB),(s.kn.modify k λb=>{b with cells:=putCells kb.cells off (cellsOf (v.R s.kn))})[i]? =some y->∃z,s.kn[i]? =some z/\y.idx=z.idx/\y.live=z.live/\y.ty=z.ty/\(i≠k->y=z)/\(i=k->y.cells=putCells kb.cells off (cellsOf (v.R s.kn))):=by
     intro i y hy;simp only [CR] at hy;split at hy
     ·rename_i e;subst e;rw [h1] at hy;simp at hy;subst hy;exact ⟨kb,h1,rfl,rfl,rfl,λe=>absurd rfl e,λ_=>rfl⟩
     ·rename_i e
      cases hz:s.kn[i]? with
      |none=>simp [hz] at hy
      |some z=>simp [hz] at hy;subst hy;exact ⟨_,rfl,rfl,rfl,rfl,λ_=>rfl,λe'=>absurd e'.symm e⟩
    refine ⟨λi y hy hl=> ?_,λi j x y hx hy l1 l2 e=> ?_,λi u hu=>by simpa using hok.lX i u hu⟩
    ·obtain ⟨z,z1,z2,z3,z4,z5,z6⟩:=key i y hy;by_cases e:i=k
     ·subst e;rw [h1] at z1;cases z1;rw [z6 rfl,z2,z4];exact setRow_heap _ _ _ _ _ _ hb
     ·have:=z5 e;subst this;have gl:y.idx≠kb.idx:=λe'=>e (hok.ne i k y kb z1 h1 hl h2 e')
      show (s.w.setRow _ _).heap[_]? =_;rw [de _ gl];exact hok.D i y z1 hl
    ·obtain ⟨z,z1,z2,z3,_⟩:=key i x hx;obtain ⟨z',z1',z2',z3',_⟩:=key j y hy;exact hok.ne i j z z' z1 z1' (by rw [<-z3];exact l1) (by rw [<-z3'];exact l2) (by rw [<-z2,<-z2'];exact e)
   have art:rK s.kn (s.kn.modify k λb=>{b with cells:=putCells kb.cells off (cellsOf (v.R s.kn))}):=by intro i y hy;refine ⟨if k=i then {y with cells:=putCells kb.cells off (cellsOf (v.R s.kn))} else y,?_,by split<;>rfl,by split<;>rfl⟩;simp only [CR,hy];split<;>rfl
   obtain ⟨k1,k2,k3,k4,k5⟩:=fo [v] kK;have h:=h _ rfl;refine ⟨⟨kb.idx,off,none⟩,_,by rw [SV.R,jC],sX _ _ ?_,kg h hok k1 k2 (art.trans k4) trivial rfl k3⟩;rw [run_storeCells_at P kb.idx off kb.ty _ 0 _ _ hb (by simpa using cX) H3];rw [dX _ _ _ cX];simp
  ·obtain ⟨h1,h2⟩:=h;exact ars _ rfl rfl h1 h2.1 (h2.2 _ rfl)
 ·rename_i p;obtain ⟨h1,h2⟩:=h;exact ars p rfl h1.1 h1.2 h2.1 (h2.2 _ rfl)
 ·cases h
end
section
variable{P:Program}{s:St}{o:Oper}{K:St->Prop}{Q:Exit->Act->au->Prop}
def Rd(w:au)(p:ai)(vs:af):Prop:=∀i v,vs[i]? =some v->ld w (N p i)=some v
def One(vs:af):Prop:=∀u∈vs,u.oneCell'=true
structure bj(bytes size:Nat)(w:au)(sl:H)(n:Nat)(news:af):Prop where
 fits:sl.n+n<=sl.c->Wr w (N sl.a (sl.n*size)) news.length
 fP:sl.c<sl.n+n->∃fP:af,fP.length=sl.n*size/\Rd w sl.a fP
 room:sl.c<sl.n+n->Builtin.nextslicecap (sl.n+n) sl.c*bytes<=281474976710656/\((sl.n+n:Nat):Int)<=9223372036854775807
 len:news.length=n*size
 one:One news
inductive aY(E size:Nat)(w:au)(sl:H)(n:Nat)(news:af):H->au->Prop
 |fits (h:sl.n+n<=sl.c):aY E size w sl n news ⟨sl.a,sl.n+n,sl.c⟩ (bB w (N sl.a (sl.n*size)) news)
 |grows (h:sl.c<sl.n+n) (fP rest:af) (cap:Nat) (h1:fP.length=sl.n*size) (h2:Rd w sl.a fP) (h3:sl.n+n<=cap) (h4:(fP++news++rest).length=cap*size):
  aY E size w sl n news ⟨some ⟨w,0,none⟩,sl.n+n,cap⟩ (w.drew.alloc (.cells (fP++news++rest).toArray E))
def oT(P:Program)(t:aB):Option (aB×TypeInfo):=match P.underlying t with|some (.slice e)=>(P.info? e).map λi=>(e,i)|_=>none
def WT(P:Program)(tx:aB):aX:=match P.underlying tx with|some (.slice _)=>true|_=>false
variable{w:au}{c:Nat}{e:aB}
def grownCap_ge{need:Nat}(h:((need:Nat):Int)<=9223372036854775807):need<=grownCap w need c e:=by simp only[grownCap,Question.cut];omega
def bD(z:af)(n:Nat):af:=(List.replicate n z).flatten
def kU(z:af)(n:Nat):(bD z n).length=n*z.length:=by simp[bD]
def za(z:af):∀(n i:Nat),i<n*z.length->(bD z n)[i]? =z[i%z.length]?
 |0,i,h=>by omega
 |n+1,i,h=>by
  have e:bD z (n+1)=z++bD z n:=by simp[bD,List.replicate_succ]
  rw[e];rcases iR i z.length with hi|hi
  ·rw[oS hi,Nat.mod_eq_of_lt hi]
  ·rw[O8]at h;rw[pO hi,za z n _ U,Nat.mod_eq_sub_mod hi]
def zb(z:ae)(m:Nat)(n:Nat)(hm:m=n*z.size):((Array.range m).map λi=>z[i%z.size]!).toList=bD z.toList n:=by
 subst hm;apply jF;intro i;rcases iR i (n*z.size)with hi|hi
 ·rw[za _ _ _ (ds hi)];have hz:0<z.size:=by
   rcases Fp z.size with h|h
   ·rw[h]at hi;omega
   ·exact h
  have fK:i%z.size<z.size:=Nat.mod_lt _ hz;simp[Fq hi,fK]
 ·rw[jZ (ds hi),jZ (by rw[kU];simpa using hi)]
def ow(z:ae)(n:Nat):(Builtin.zeroCells z n).toList=bD z.toList n:=zb z (n*z.size) n rfl
variable{t tx ty:aB}{i:TypeInfo}{z:aC}{x:Int}{a:ai}{l:Nat}
def O9{k k':IntKind}(ht:P.underlying t=some (.slice e))(hi:P.info? e=some i)(hz:i.zero=some z) (TS:(cellsOf z).length=i.size)(hux:P.underlying tx=some (.int k'))(h0:0<=x)(hx:IntKind.wrap .i64 x=x)(h48:x*i.bytes<=2^48)(hp:bj i.bytes i.size w ⟨a,l,c⟩ x.toNat (bD (cellsOf z) x.toNat)): ∃(sl:H)(w':au),aY e i.size w ⟨a,l,c⟩ x.toNat (bD (cellsOf z) x.toNat) sl w'/\(Builtin.append_ #[t,tx] ty #[.slice a l c,.int k x]).run P w=.ok (sl) w':=by
 obtain⟨n,hn⟩:∃n,n=x.toNat:=⟨_,rfl⟩;rw[<-hn]at hp⊢;have hxn:x=(n:Int):=by omega
 have fK:¬((n:Int)<0):=by omega
 have aE0:¬((n:Int)*i.bytes>2^48):=by rw[<-hxn];omega
 have hz6:z.cells.size=i.size:=by rw[oI,<-TS];simp
 have hnews:∀w:au,(if n*i.size=0 then(pure #[]:Sem ae)else do pure (Builtin.zeroCells (<-zeroValue e).cells n)).run P w=.ok (bD (cellsOf z) n).toArray w:=by
  intro w;split
  next h0=>have:bD (cellsOf z) n=[]:=ur.1 (by rw[kU,TS];exact h0);rw[this];rfl
  ·simp only[Aw,zeroValue,dB,hi,Br,hz,ka3];congr 1;apply Array.ext';rw[ow,qL]
 have hwx:IntKind.wrap .i64 (n:Int)=(n:Int):=by rw[<-hxn];exact hx
 rcases iR c (l+n)with hg|hroom
 ·have⟨fP,h1,h2⟩:=hp.fP hg;have⟨h3,h4⟩:=hp.room hg;dsimp only at h1 h2 h3 h4;refine⟨_,_,.grows hg fP (Builtin.zeroCells z.cells (grownCap w (l+n) c e-(l+n))).toList (grownCap w (l+n) c e) h1 h2 (grownCap_ge h4) ?_,?_⟩
  ·have h5:=grownCap_ge (w:=w) (c:=c) (e:=e) h4;have S6:fP.length=l*i.size:=h1;simp only[cj,S6,hp.len,Builtin.zeroCells,Array.length_toList,Array.size_map,Array.size_range,hz6];rw[<-pP,<-pP];congr 1;omega
  ·have H2:(Builtin.firstCells i.size l (.slice a l c)).run P w.drew=.ok fP.toArray w.drew:=by
    cases a with
    |none=>
     have:fP=[]:=by
      cases fP with
      |nil=>rfl
      |cons v r=>have:=h2 0 v rfl;simp[ld,N]at this
     subst this;exact run_firstCells_none w.drew i.size l l c
    |some a=>exact run_firstCells_some w.drew i.size l a l c fP h1 (λj u hj=>a0E)
   have hn':¬(l+n<=c):=by omega
   have aru:¬(9223372036854775807<((l:Int)+(n:Int))):=by omega
   have h48b:¬(281474976710656<Builtin.nextslicecap (l+n) c*i.bytes):=by omega
   have h48c:¬(281474976710656<(n:Int)*i.bytes):=by omega
   have hnd:=hnews w.drew;rw[hxn];by_cases Er:n*i.size=0
   ·rw[if_pos Er]at hnd;have he:bD (cellsOf z) n=[]:=by have:=congrArg (λr:Result ae=>match r with| .ok v _=>v|_=> #[.bool true]) hnd;simpa using this.symm
    simp[Builtin.append_,run_underlying ht,run_underlying hux,sizeOf,typeInfo,zeroValue,hi,hz,asInt,asIntOf,hwx,hn',aru,h48b,h48c,Question.forced,Er,fK,H2,newRow,grownCap,he];congr 2;apply Array.ext';simp
   ·simp[Builtin.append_,run_underlying ht,run_underlying hux,sizeOf,typeInfo,zeroValue,hi,hz,asInt,asIntOf,hwx,hn',aru,h48b,h48c,Question.forced,Er,fK,H2,newRow,grownCap];congr 2;apply Array.ext';simp[ow,qL]
 ·refine⟨_,_,.fits hroom,?_⟩;have hw:=hp.fits hroom;have hnd:=hnews w;have h48c:¬(281474976710656<(n:Int)*i.bytes):=by omega
  rw[hxn]
  cases a with
  |none=>
   by_cases Er:n*i.size=0
   ·simp[Builtin.append_,run_underlying ht,run_underlying hux,sizeOf,typeInfo,hi,hroom,asInt,asIntOf,hwx,Er,fK,h48c,N,bB]
   ·simp[Builtin.append_,run_underlying ht,run_underlying hux,sizeOf,typeInfo,zeroValue,hi,hz,hroom,asInt,asIntOf,hwx,Er,fK,h48c,N,bB]
  |some a=>
   have gm:=gQ (P:=P) (a.add (l*i.size)) (bD (cellsOf z) n) 0 w hp.one (λj hj=>a0w);by_cases Er:n*i.size=0
   ·have he:bD (cellsOf z) n=[]:=ur.1 (by rw[kU,TS];exact Er);rw[he]at gm;simp[Builtin.append_,run_underlying ht,run_underlying hux,sizeOf,typeInfo,hi,hroom,asInt,asIntOf,hwx,Er,fK,h48c,N,bB,he,gm]
   ·have hzc:(Builtin.zeroCells z.cells n).toList=bD (cellsOf z) n:=by rw[ow,qL]
    simp[Builtin.append_,run_underlying ht,run_underlying hux,sizeOf,typeInfo,zeroValue,hi,hz,hroom,asInt,asIntOf,hwx,Er,fK,h48c,N,bB,hzc,gm]
def T4(P:Program)(t:aB):aX:=match P.underlying t with|some (.int _)=>true|_=>false
def Pa(h:T4 P t=true):∃k,P.underlying t=some (.int k):=by
 unfold T4 at h;split at h
 next k hu=>exact⟨k,hu⟩
 ·cases h
def Fu(P:Program)(s:St)(d:Option Tmp)(t tx:aB)(sx x:SV)(K:St->Prop):Prop:=
 match oT P t with
 |none=>False
 |some (e,i)=>match i.zero with
  |none=>False
  |some z=>if(cellsOf z).length=i.size then
   match sx.R s.kn with
   | .slice a n c=>
     let body (m:Nat) (news:af):Prop:=bj i.bytes i.size s.w ⟨a,n,c⟩ m news/\
      ∀(sl:H)(w':au),aY e i.size s.w ⟨a,n,c⟩ m news sl w'->aO (Fi s.kn s.w w') (K ({s with w:=w'}.put d (.val (sl))))
     match x with
     | .S_ k m=>match WT P tx with
       |true=>(match s.known k with
        |some kb=>body m kb.cells
        |none=>False)
       |false=>False
     | .val (.slice b m _)=>match WT P tx with
       |true=>∃news,Rd s.w b news/\body m news
       |false=>False
     | .val (.string st)=>match isStr P tx with
       |true=>body st.size (byteCells st)
       |false=>False
     | .val (.int _ x)=>match T4 P tx with
       |true=>(0<=x/\IntKind.wrap .i64 x=x/\x*i.bytes<=281474976710656)/\body x.toNat (bD (cellsOf z) x.toNat)
       |false=>False
     |_=>False
   |_=>False
   else False
variable{x:aC}
def T6{n:Nat}{news:af}(ht:P.underlying t=some (.slice e))(hi:P.info? e=some i)(hz:i.zero=some z) (TS:(cellsOf z).length=i.size)(hs:Src P i.size tx x n news w)(hp:bj i.bytes i.size w ⟨a,l,c⟩ n news): ∃(sl:H)(w':au),aY e i.size w ⟨a,l,c⟩ n news sl w'/\(Builtin.append_ #[t,tx] ty #[.slice a l c,x]).run P w=.ok (sl) w':=by
 rcases iR c (l+n)with hg|hroom
 ·have⟨fP,h1,h2⟩:=hp.fP hg;have⟨h3,h4⟩:=hp.room hg;dsimp only at h1 h2 h3 h4;refine⟨_,_,.grows hg fP (Builtin.zeroCells z.cells (grownCap w (l+n) c e-(l+n))).toList (grownCap w (l+n) c e) h1 h2 (grownCap_ge h4) ?_,?_⟩
  ·have h5:=grownCap_ge (w:=w) (c:=c) (e:=e) h4;have h6:z.cells.size=i.size:=by rw[oI,<-TS];simp
   have S6:fP.length=l*i.size:=h1;simp only[cj,S6,hp.len,Builtin.zeroCells,Array.length_toList,Array.size_map,Array.size_range,h6];rw[<-pP,<-pP];congr 1;omega
  ·have H2:(Builtin.firstCells i.size l (.slice a l c)).run P w.drew=.ok fP.toArray w.drew:=by
    cases a with
    |none=>
     have:fP=[]:=by
      cases fP with
      |nil=>rfl
      |cons v r=>have:=h2 0 v rfl;simp[ld,N]at this
     subst this;exact run_firstCells_none w.drew i.size l l c
    |some a=>exact run_firstCells_some w.drew i.size l a l c fP h1 (λj u hj=>a0E)
   rw[run_append_grow_src w t tx ty e i z ht hi hz a l c fP H2 x n news hs hg h4 h3];congr 3;apply Array.ext';simp
 ·refine⟨_,_,.fits hroom,?_⟩;have hw:=hp.fits hroom
  cases a with
  |none=>
   rcases hs.kind with⟨e',hk⟩|hk<;>simp[Builtin.append_,run_underlying ht,run_underlying hk,sizeOf,typeInfo,hi,hs.len,hroom,hs.cells,N,bB]
  |some a=>
   have gm:=gQ (P:=P) (a.add (l*i.size)) news 0 w hs.one (λj hj=>a0w);rcases hs.kind with⟨e',hk⟩|hk<;>simp[Builtin.append_,run_underlying ht,run_underlying hk,sizeOf,typeInfo,hi,hs.len,hroom,hs.cells,N,bB,gm]
def j0(h:oT P t=some (e,i)):P.underlying t=some (.slice e)/\P.info? e=some i:=by
 unfold oT at h;split at h
 ·rename_i e' hu
  cases hi:P.info? e' with
  |none=>simp[hi]at h
  |some j=>simp[hi]at h;obtain⟨rfl,rfl⟩:=h;exact⟨hu,hi⟩
 ·cases h
def Fv(h:WT P t=true):∃e,P.underlying t=some (.slice e):=by
 unfold WT at h;split at h
 next e hu=>exact⟨e,hu⟩
 ·cases h
variable{d:Option Tmp}
def IC{sx x:SV}(hok:s.h)(h:Fu P s d t tx sx x K): ∃v w',(Builtin.append_ #[t,tx] ty #[sx.R s.kn,x.R s.kn]).run P s.w=.ok v w'/\iF d s K (s.act.put d v) w':=by
 unfold Fu at h;split at h
 ·cases h
 rename_i e i he;have⟨ht,hi⟩:=j0 he;split at h
 ·cases h
 rename_i z hz;split at h
 case isFalse=>cases h
 rename_i TS;split at h
 ·rename_i a l c hsx;rw[hsx];simp only at h;have main:∀(m:Nat)(news:af),Src P i.size tx (x.R s.kn) m news s.w->bj i.bytes i.size s.w ⟨a,l,c⟩ m news->
    (∀(sl:H)(w':au),aY e i.size s.w ⟨a,l,c⟩ m news sl w'->aO (Fi s.kn s.w w') (K ({s with w:=w'}.put d (.val (sl)))))->
    ∃v w',(Builtin.append_ #[t,tx] ty #[.slice a l c,x.R s.kn]).run P s.w=.ok v w'/\iF d s K (s.act.put d v) w':=by
   intro m news hs hp hk;have⟨sl,w',h1,h2⟩:=T6 (ty:=ty) ht hi hz TS hs hp;have h3:=hk sl w' h1;rw[bO]at h3;exact⟨_,w',h2,kg h3.2 hok (mS hok h3.1) rfl (rK.refl _) trivial rfl rfl⟩
  split at h
  ·rename_i k m;split at h
   ·rename_i abE;split at h
    ·rename_i kb KW;have⟨h1,h2⟩:=rM KW;have hb:=hok.D k kb h1 h2;have⟨e',hu⟩:=Fv abE;refine main m kb.cells ?_ h.1 h.2;have jC:(s.kn.getD k default).idx=kb.idx:=by simp[dG,h1]
     rw[SV.R,jC];refine Src.ofSlice _ hu _ _ _ _ h.1.len (λj u hj=>?_) h.1.one;rw[ou,cell_of hb];simpa using hj
    ·cases h
   ·cases h
  ·rename_i b m c';split at h
   ·rename_i abE;have⟨news,hr,h1,h2⟩:=h;have⟨e',hu⟩:=Fv abE;refine main m news ?_ h1 h2
    cases b with
    |none=>
     have hn:news=[]:=by
      cases news with
      |nil=>rfl
      |cons v r=>have:=hr 0 v rfl;simp[ld,N]at this
     subst hn;exact⟨.inl ⟨e',hu⟩,λ_=>rfl,run_firstCells_none s.w i.size m m c',run_firstCells_none s.w.drew i.size m m c',h1.len,h1.one⟩
    |some b=>exact Src.ofSlice _ hu _ _ _ _ h1.len (λj u hj=>by have:=hr j u hj;simpa[ld,N]using this) h1.one
   ·cases h
  ·rename_i st;split at h
   ·rename_i abE;have h1:=h.1.len;rw[byteCells_length]at h1;have hss:i.size=1\/st.size=0:=by
     rcases Fp st.size with h0|h0
     ·exact .inr h0
     ·left;have:st.size*i.size=st.size*1:=by omega
      exact Nat.eq_of_mul_eq_mul_left h0 this
    refine main st.size _ ?_ h.1 h.2;rcases hss with h3|h3
    ·rw[h3];exact Src.ofString s.w (oR abE) st
    ·refine⟨.inr (oR abE),λ_=>rfl,?_,?_,h.1.len,h.1.one⟩<;>
     ·have:byteCells st=[]:=ur.1 (by rw[byteCells_length,h3]);rw[this];simp only[SV.R,Builtin.firstCells,h3];simp
   ·cases h
  ·rename_i k x;split at h
   next hint=>have⟨k',hux⟩:=Pa hint;have⟨⟨g1,g2,g3⟩,hp,hk⟩:=h;have⟨sl,w',h1,h2⟩:=O9 (ty:=ty) (k:=k) ht hi hz TS hux g1 g2 U hp;have h3:=hk sl w' h1;rw[bO]at h3;exact⟨_,w',h2,kg h3.2 hok (mS hok h3.1) rfl (rK.refl _) trivial rfl rfl⟩
   ·cases h
  ·cases h
 ·cases h
def T7(P:Program)(s:St)(d:Option Tmp)(t:aB)(l c:aC)(K:St->Prop):Prop:=
 match oT P t,l,c with
 |some (e,i),.int _ l,.int _ c=>match i.zero with
  |some z=>if(cellsOf z).length=i.size then(0<=l/\l<=c/\c<=140737488355328/\c*i.bytes<=140737488355328)/\
   ∀w1,w1=s.w.alloc (.cells (bD (cellsOf z) c.toNat).toArray e)->K ({s with w:=w1}.put d (.val (.slice (some ⟨s.w.heap.size,0,none⟩) l.toNat c.toNat)))else False
  |none=>False
 |_,_,_=>False
def Pb{l c:aC}(hok:s.h)(h:T7 P s d t l c K):∃v w',(Instr.makeSlice t l c).run P s.w=.ok v w'/\iF d s K (s.act.put d v) w':=by
 unfold T7 at h;split at h
 ·rename_i e i _ l _ c he;have⟨ht,hi⟩:=j0 he;split at h
  ·rename_i z hz;split at h
   case isFalse=>cases h
   rename_i TS;have⟨⟨h0,h1,h2,h3⟩,hk⟩:=h;have hk:=hk _ rfl;have hwl:IntKind.wrap .i64 l=l:=a01
   have hwc:IntKind.wrap .i64 c=c:=a01
   have hz6:z.cells.size=i.size:=by rw[oI,<-TS];simp
   refine⟨.slice (some ⟨s.w.heap.size,0,none⟩) l.toNat c.toNat,s.w.alloc (.cells (bD (cellsOf z) c.toNat).toArray e),?_,?_⟩
   ·have e1:¬(c<0):=by omega
    have e2:¬(l<0):=by omega
    have e3:¬(c<l):=by omega
    have e4:¬(281474976710656<(i.bytes:Int)*c):=by rw[Int.mul_comm];omega
    have e5:¬(140737488355328<c.toNat*i.bytes):=by
     have:((c.toNat*i.bytes:Nat):Int)=c*i.bytes:=by rw[Int.natCast_mul];congr 1;omega
     omega
    have hcells:∀zz:ae,(zz=z.cells\/c.toNat*i.size=0)->((Array.range (c.toNat*i.size)).map λj=>zz[j%zz.size]!)=(bD (cellsOf z) c.toNat).toArray:=by
     intro zz hh;apply Array.ext';rcases hh with rfl|hh
     ·rw[zb z.cells _ c.toNat (by rw[hz6]),qL]
     ·rw[hh];have:bD (cellsOf z) c.toNat=[]:=ur.1 (by rw[kU,TS];exact hh);simp[this]
    by_cases Er:c.toNat*i.size=0
    ·have:=hcells #[] (.inr Er);simp only[Instr.makeSlice,asInt,asIntOf,Aw,ka3,aA,ht,Br,dB,hi,hwl,hwc];simp[e1,e2,e3,e4,askRoom,roomBytes,e5,sizeOf,dB,hi,newRow,jf];simp[Er]at this⊢;rw[this]
    ·have:=hcells z.cells (.inl rfl);simp only[Instr.makeSlice,asInt,asIntOf,Aw,ka3,aA,ht,Br,dB,hi,hwl,hwc];simp[e1,e2,e3,e4,askRoom,roomBytes,e5,sizeOf,dB,hi,newRow,jf,zeroValue,hz,Er];simp[this]
   ·exact kT (s1:={s with w:=s.w.alloc (.cells (bD (cellsOf z) c.toNat).toArray e)}) (v:=.val (.slice (some ⟨s.w.heap.size,0,none⟩) l.toNat c.toNat)) hk hok rfl (rK.refl _) (λk kb h1 h2=>a06) hok.ne trivial rfl rfl
  ·cases h
 ·cases h
def T8(P:Program)(s:St)(d:Option Tmp)(ats:List aB)(x y:aC)(K:St->Prop):Prop:=
 match ats,x,y with
 |t::_,.slice a n _,.slice b m _=>match oT P t with
  |some (_,i)=>∃vs:af,(vs.length=min m n*i.size/\Rd s.w b vs/\One vs/\Wr s.w a vs.length)/\
   aO (Bs s.kn a) (∀w1,w1=bB s.w a vs->K ({s with w:=w1}.put d (.val (.int .i64 ((min m n:Nat):Int)))))
  |none=>False
 |_,_,_=>False
variable{vs:af}
def Fx{a:Addr}(h1:One vs)(hw:Wr w (some a) vs.length):(storeCells a vs).run P w=.ok () (bB w (some a) vs):=
 gQ (P:=P) a vs 0 w h1 λj hj=>by
  have⟨a',e1,e2⟩:=hw j hj
  cases e1;simpa using e2
def CS{kn:List KB}(h:∀p∈Bs kn a,p):∀p∈Fi kn w (bB w a vs),p:=by
 intro p hp;obtain⟨i,hi,rfl⟩:=bc.1 hp;have:=h (bM a≠some i) (bc.2 ⟨i,hi,rfl⟩)
 cases a with
 |none=>rfl
 |some a=>
  have gl:a.block≠i:=λe=>this (by simp[bM,e])
  have key:∀(vs:af)(j:Nat)(w:au),(qJ w a j vs).heap[i]? =w.heap[i]? :=by
   intro vs
   induction vs with
   |nil=>intro j w;rfl
   |cons v r ih=>
    intro j w;show(qJ _ a (j+1) r).heap[i]? =_;rw[ih];have hb:(a.add j).block=a.block:=by unfold Addr.add;split<;>rfl
    simp only[World.setCell,Array.getElem?_modify,hb,if_neg gl]
  exact key vs 0 w
variable{ats:Array aB}
def Pc{y:aC}(hok:s.h)(h:T8 P s d ats.toList x y K):∃v w',(Builtin.copy_ ats ty #[x,y]).run P s.w=.ok v w'/\iF d s K (s.act.put d v) w':=by
 unfold T8 at h;split at h
 ·rename_i t r a n c b m c' Ir;have ha:ats[0]? =some t:=by rw[<-Array.getElem?_toList,Ir];rfl
  split at h
  ·rename_i e i he;have⟨ht,hi⟩:=j0 he;have⟨vs,⟨h1,h2,h3,h4⟩,h5⟩:=h;rw[bO]at h5;have hk:=h5.2 _ rfl;have hload:(Builtin.firstCells i.size (min m n) (.slice b m c')).run P s.w=.ok vs.toArray s.w:=by
    cases b with
    |none=>
     have:vs=[]:=by
      cases vs with
      |nil=>rfl
      |cons v r=>have:=h2 0 v rfl;simp[ld,N]at this
     subst this;exact run_firstCells_none s.w i.size _ m c'
    |some b=>exact run_firstCells_some s.w i.size (min m n) b m c' vs h1 (λj u hj=>a0E)
   refine⟨.int .i64 ((min m n:Nat):Int),bB s.w a vs,?_,?_⟩
   ·cases a with
    |none=>
     have:vs=[]:=by
      cases vs with
      |nil=>rfl
      |cons v r=>have⟨a',e1,_⟩:=h4 0 bo;cases e1
     subst this;simp[Builtin.copy_,ha,run_underlying ht,Builtin.lenOf,sizeOf,dB,hi,hload,goInt,bB]
    |some a=>
     have gm:=Fx (P:=P) h3 h4;simp[Builtin.copy_,ha,run_underlying ht,Builtin.lenOf,sizeOf,dB,hi,hload,goInt,gm]
   ·exact kg (v:=.val (.int .i64 ((min m n:Nat):Int))) hk hok (mS hok (CS h5.1)) rfl (rK.refl _) trivial rfl rfl
  ·cases h
 ·cases h
def Ln(P:Program)(s:St)(d:Option Tmp)(ats:List aB)(x:aC)(K:St->Prop):Prop:=
 match ats,x with
 |t::_,.slice a n _=>match oT P t with
  |some (_,i)=>match i.zero with
   |some z=>aO ((cellsOf z).flatMap kq) (Wr s.w a (n*(cellsOf z).length)/\aO (Bs s.kn a) (∀w1,w1=bB s.w a (bD (cellsOf z) n)->K ({s with w:=w1}.put d (.val (.tuple #[])))))
   |none=>False
  |none=>False
 |_,_=>False
def Lp(hok:s.h)(h:Ln P s d ats.toList x K):∃v w',(Builtin.clear_ ats ty #[x]).run P s.w=.ok v w'/\iF d s K (s.act.put d v) w':=by
 unfold Ln at h;split at h
 ·rename_i t r a n c Ir;have ha:ats[0]? =some t:=by rw[<-Array.getElem?_toList,Ir];rfl
  split at h
  ·rename_i e i he;have⟨ht,hi⟩:=j0 he;split at h
   ·rename_i z hz;rw[bO]at h;have⟨h1,h4,h5⟩:=h;have h1:=WS h1;rw[bO]at h5;have hk:=h5.2 _ rfl;have H3:One (bD (cellsOf z) n):=by intro u hu;have⟨l,hl,hul⟩:=List.mem_flatten.1 hu;rw[(Pd.1 hl).2]at hul;exact h1 u hul
    refine⟨.tuple #[],bB s.w a (bD (cellsOf z) n),?_,?_⟩
    ·cases a with
     |none=>simp[Builtin.clear_,ha,run_underlying ht,bB]
     |some a=>
      have gm:=Fx (P:=P) (w:=s.w) (a:=a) H3 (by rw[kU];exact h4)
      cases n with
      |zero=>simp[Builtin.clear_,ha,run_underlying ht,bB,bD,qJ]
      |succ n=>
       have hzc:(Builtin.zeroCells z.cells (n+1)).toList=bD (cellsOf z) (n+1):=by rw[ow,qL]
       simp[Builtin.clear_,ha,run_underlying ht,zeroValue,dB,hi,hz,hzc,gm]
    ·exact kg (v:=.val (.tuple #[])) hk hok (mS hok (CS h5.1)) rfl (rK.refl _) trivial rfl rfl
   ·cases h
  ·cases h
 ·cases h
end
end
end Go.Vc
