import Derived.Test.YtkkkfkopcfdmaaaGreatDoorB
import Derived.Test.YtkkkfkopcfdmaaaGreatDoorC
set_option linter.all false
namespace Go.aZ
open Go Go.Vc
abbrev Rn:=Int × Int
def cH(l:List Rn):List Int:=l.flatMap λr=>List.replicate r.1.toNat r.2
def jE(out:List Rn)(r:Rn):List Rn:=
 if r.1<1 then out else
 match out.getLast? with
 |some q=>if q.2=r.2 then out.dropLast++ [(q.1+r.1,q.2)] else out++ [r]
 |none=>out++ [r]
def gz(c:List Int):List Rn:=c.foldl (λo b=>jE o (1,b)) []
def bF(l:List Rn):Int:=(l.map (·.1)).sum
inductive Nm:List Rn->Prop
 |nil:Nm []
 |snoc (l:List Rn) (r:Rn) (h:Nm l) (h1:1<=r.1) (h2:∀q,l.getLast? =some q->q.2≠r.2):Nm (l++ [r])
def mg{o:List Rn}{r:Rn}(h:r.1<1):jE o r=o:=by unfold jE;rw [if_pos h]
def kF{l:List Rn}{q r:Rn}(h1:1<=r.1)(e:q.2=r.2):jE (l++ [q]) r=l++ [(q.1+r.1,q.2)]:=by
 unfold jE;have hl:(l++ [q]).getLast? =some q:=by simp
 rw [if_neg ab,hl];simp [e]
def gN{l:List Rn}{r:Rn}(h1:1<=r.1)(h2:∀q,l.getLast? =some q->q.2≠r.2):jE l r=l++ [r]:=by
 unfold jE;rw [if_neg ab];split
 ·rename_i q hq;rw [if_neg (h2 q hq)]
 ·rfl
def xU(l:List Rn):l=[]\/∃m q,l=m++ [q]:=by
 rcases List.eq_nil_or_concat l with h|⟨m,q,h⟩
 ·exact .inl h
 ·exact .inr ⟨m,q,by simpa using h⟩
def Xs(o:List Rn){a c b:Int}(ha:1<=a)(hc:1<=c):jE (jE o (a,b)) (c,b)=jE o (a+c,b):=by
 have hac:1<=a+c:=by omega
 rcases xU o with rfl|⟨m,q,rfl⟩
 ·rw [gN (l:=[]) (r:=(a,b)) ha cj,gN (l:=[]) (r:=(a+c,b)) hac cj,kF (q:=(a,b)) (r:=(c,b)) hc rfl]
 ·by_cases e:q.2=b
  ·rw [kF (r:=(a,b)) ha e,kF (r:=(a+c,b)) hac e,kF (q:=(q.1+a,q.2)) (r:=(c,b)) hc e];simp [Int.add_assoc]
  ·have h2:∀x:Int,∀p,(m++ [q]).getLast? =some p->p.2≠((x,b):Rn).2:=by intro x p hp;simp at hp;subst hp;exact e
   rw [gN (r:=(a,b)) ha (h2 a),gN (r:=(a+c,b)) hac (h2 _),kF (q:=(a,b)) (r:=(c,b)) hc rfl]
def Ou(o:List Rn)(b:Int):∀n:Nat,(List.replicate n b).foldl (λo b=>jE o (1,b)) o=jE o ((n:Int),b)
 |0=>by rw [mg cj];rfl
 |n+1=>by
  rw [List.replicate_succ',pk,Ou o b n]
  show jE (jE o ((n:Int),b)) (1,b)=_
  rcases Cq n with rfl|hn
  ·rw [mg (r:=(((0:Nat):Int),b)) cj];rfl
  ·rw [Xs o ab ab];rfl
def afS(c d:List Int):gz (c++d)=d.foldl (λo b=>jE o (1,b)) (gz c):=by unfold gz;rw [pk]
def On(c:List Int)(r:Rn):jE (gz c) r=gz (c++List.replicate r.1.toNat r.2):=by
 rw [afS,Ou];rcases sX r.1 1 with h|h
 ·rw [mg h,mg (by show ((r.1.toNat:Nat):Int)<1;omega)]
 ·rw [show ((r.1.toNat:Nat):Int)=r.1 from by omega]
def Nm.push{o:List Rn}(h:Nm o)(r:Rn):Nm (jE o r):=by
 rcases sX r.1 1 with h1|h1
 ·rw [mg h1];exact h
 ·cases h with
  |nil=>rw [gN h1 cj];exact .snoc _ _ .nil h1 cj
  |snoc l q hl hq h2=>
   by_cases e:q.2=r.2
   ·rw [kF h1 e];exact .snoc _ _ hl (by show 1<=q.1+r.1;omega) h2
   ·have h3:∀p,(l++ [q]).getLast? =some p->p.2≠r.2:=by intro p hp;simp at hp;subst hp;exact e
    rw [gN h1 h3];exact .snoc _ _ (.snoc _ _ hl hq h2) h1 h3
def FY(c:List Int):Nm (gz c):=by
 have:∀(c:List Int)(o:List Rn),Nm o->Nm (c.foldl (λo b=>jE o (1,b)) o):=by
  intro c
  induction c with
  |nil=>intro o h;exact h
  |cons b c ih=>intro o h;exact ih _ (h.push _)
 exact this c [] .nil
def ig(l m:List Rn):cH (l++m)=cH l++cH m:=by unfold cH;rw [List.flatMap_append]
def jh(r:Rn):cH [r]=List.replicate r.1.toNat r.2:=by simp [cH]
def Nm.fix{l:List Rn}(h:Nm l):gz (cH l)=l:=by
 induction h with
 |nil=>rfl
 |snoc l r hl h1 h2 ih=>
  rw [ig,jh,<-On,ih,gN h1 h2]
def Nm.pos{l:List Rn}(h:Nm l):∀r ∈ l,1<=r.1:=by
 induction h with
 |nil=>simp
 |snoc l r hl h1 h2 ih=>
  intro q hq;rcases c5.1 hq with hq|hq
  ·exact ih q hq
  ·simp at hq;rw [hq];exact h1
def Sy{o:List Rn}(h:Nm o)(r:Rn):cH (jE o r)=cH o++List.replicate r.1.toNat r.2:=by
 rcases sX r.1 1 with h1|h1
 ·rw [mg h1,show r.1.toNat=0 from by omega];simp
 ·cases h with
  |nil=>rw [gN h1 cj,ig,jh]
  |snoc l q hl hq h2=>
   by_cases e:q.2=r.2
   ·rw [kF h1 e,ig,ig,jh,jh];show _++List.replicate (q.1+r.1).toNat q.2=_;rw [show (q.1+r.1).toNat=q.1.toNat+r.1.toNat from by omega,<-List.replicate_append_replicate,e];simp
   ·rw [gN h1 (by intro p hp;simp at hp;subst hp;exact e),ig,jh]
def me(c:List Int):cH (gz c)=c:=by
 have:∀(c:List Int)(o:List Rn),Nm o->cH (c.foldl (λo b=>jE o (1,b)) o)=cH o++c:=by
  intro c
  induction c with
  |nil=>intro o h;simp
  |cons b c ih=>intro o h;rw [tc,ih _ (h.push _),Sy h];simp
 rw [gz,this c [] .nil];rfl
def Ov(l m:List Rn):bF (l++m)=bF l+bF m:=by simp [bF]
def ee{l:List Rn}(h:∀r ∈ l,0<=r.1):bF l=((cH l).length:Nat):=by
 induction l with
 |nil=>rfl
 |cons r l ih=>
  have:=ih λq hq=>h q (.tail _ hq)
  have hr:=h r (.head _);simp only [bF,fT,List.sum_cons] at this ⊢;rw [this];simp [cH];omega
def mX(c:List Int):bF (gz c)=(c.length:Nat):=by rw [ee λr hr=>by have:=(FY c).pos r hr;omega,me]
def Nm.ajE{l:List Rn}(h:Nm l):l.length<=(cH l).length:=by
 induction h with
 |nil=>simp
 |snoc l r hl h1 h2 ih=>rw [ig,jh];simp;omega
def sb(c:List Int):(gz c).length<=c.length:=by have:=(FY c).ajE;rwa [me] at this
end Go.aZ
namespace Go.aZ
def afT{l:List Rn}(h:∀r ∈ l,0<=r.1){q:Rn}(hq:q ∈ l):q.1<=bF l:=by
 induction l with
 |nil=>cases hq
 |cons r l ih=>
  have hr:=h r (.head _);have hl:0<=bF l:=by rw [ee λq hq=>h q (.tail _ hq)];omega
  have e:bF (r::l)=r.1+bF l:=by simp [bF]
  rw [e];rcases cR.1 hq with rfl|hq
  ·omega
  ·have:=ih (λq hq=>h q (.tail _ hq)) hq;omega
def mF{c:List Int}{q:Rn}(hq:q ∈ gz c):1<=q.1/\q.1<=(c.length:Nat):=by have h:=(FY c).pos;refine ⟨h q hq,?_⟩;rw [<-mX];exact afT (λr hr=>by have:=h r hr;omega) hq
def Ie(c:List Int)(a b:Int):List Int:=(c.take b.toNat).drop a.toNat
def abA(c:List Int)(n:Nat)(x a b:Int)(ha:0<=a)(hb:0<=b):
  Ie (c++List.replicate n x) a b=Ie c a b++List.replicate (min b (c.length+n:Nat)-max a (c.length:Nat)).toNat x:=by
 unfold Ie;rw [List.take_append,List.drop_append,List.take_replicate,List.drop_replicate,dI];congr 2;omega
end Go.aZ
namespace Go.aZ
def Ac(c:List Int)(a b x:Int):List Int:=c.mapIdx λi y=>if a<=(i:Int)/\(i:Int)<b then x else y
def Xt(c:List Int)(a b x:Int):(Ac c a b x).length=c.length:=by simp [Ac]
def Sz(c:List Int)(a b x:Int)(h:min (max b 0) (c.length:Int)<=min (max a 0) (c.length:Int)):Ac c a b x=c:=by
 apply jB;intro i;unfold Ac;rw [List.getElem?_mapIdx];rcases jA i c.length with hi|hi
 ·rw [dv hi];show some (if _ then x else _)=_;rw [if_neg ab]
 ·rw [jX hi];rfl
def JL(c:List Int)(a b x:Int)(h:min (max a 0) (c.length:Int)<min (max b 0) (c.length:Int)):
  Ac c a b x=Ie c 0 (min (max a 0) (c.length:Int))++List.replicate (min (max b 0) (c.length:Int)-min (max a 0) (c.length:Int)).toNat x++Ie c (min (max b 0) (c.length:Int)) c.length:=by
 have h1:(Ie c 0 (min (max a 0) (c.length:Int))).length=(min (max a 0) (c.length:Int)).toNat:=by unfold Ie;simp;omega
 apply jB;intro i;unfold Ac;rw [List.getElem?_mapIdx,gV];rcases jA i c.length with hi|hi
 ·rw [dv hi];show some (if _ then x else _)=_;rcases jA i (min (max a 0) (c.length:Int)).toNat with hl|hl
  ·rw [if_neg ab,pU ab];unfold Ie;rw [wB,qN];simp only [Int.toNat_zero,eD];rw [if_pos hl,dv hi]
  ·rw [sV ab,h1];rcases jA i (min (max b 0) (c.length:Int)).toNat with hm|hm
   ·rw [if_pos ab,pU (by rw [JM];omega),ahQ,if_pos ab]
   ·rw [if_neg ab,sV (by rw [JM];omega),JM];unfold Ie;rw [wB,qN,if_pos ab];rw [show (min (max b 0) (c.length:Int)).toNat+(i-(min (max a 0) (c.length:Int)).toNat-(min (max b 0) (c.length:Int)-min (max a 0) (c.length:Int)).toNat)=i from by omega];rw [dv hi]
 ·rw [jX hi];symm;rw [Option.map_none,jX];simp only [cS,JM,h1];unfold Ie;simp;omega
def Xu(c:List Int)(i x:Int)(h0:0<=i)(h1:i<(c.length:Int)):Ac c i (i+1) x=c.set i.toNat x:=by
 apply jB;intro j;unfold Ac;rw [List.getElem?_mapIdx,jW];rcases jA j c.length with hj|hj
 ·rw [dv hj];show some (if _ then x else _)=_;by_cases e:i.toNat=j
  ·rw [if_pos ab,if_pos e,if_pos ab]
  ·rw [if_neg ab,if_neg e]
 ·rw [jX hj,if_neg ab];rfl
def atC(c:List Int)(i:Int):Int:=if i<0 then -1 else c.getD i.toNat (-1)
def afU(c:List Int)(i:Int)(h:i<0\/(c.length:Int)<=i):atC c i= -1:=by
 unfold atC;split
 ·rfl
 ·rw [dY,jX ab];rfl
def ajF(c d:List Int)(n:Nat)(x i:Int)(h0:(c.length:Int)<=i)(h1:i<(c.length:Int)+n):atC (c++List.replicate n x++d) i=x:=by grind [atC]
def vP(may:Int->Bool):Option Int->Int->List Rn->Bool
 |_,left,[]=>left==0
 |prev,left,r::t=>if r.1<1\/r.1>left\/may r.2=false\/prev=some r.2 then false else vP may (some r.2) (left-r.1) t
def sj(may:Int->Bool)(l:List Rn)(n:Int):Bool:=decide (0<n) && vP may none n l
def Ow{may:Int->Bool}:∀{l:List Rn} {prev:Option Int} {left:Int},vP may prev left l=true->bF l=left
 | [],_,left,h=>by simp [vP] at h;rw [h];rfl
 |r::t,prev,left,h=>by
  unfold vP at h
  split at h
  ·cases h
  ·have:=Ow h
   simp only [bF,fT,List.sum_cons] at this ⊢
   omega
def Bq{may:Int->Bool}:∀{l:List Rn} {prev:Option Int} {left:Int},(∀r ∈ l,1<=r.1/\may r.2=true)->(∀i q r,l[i]? =some q->l[i+1]? =some r->q.2≠r.2)->(∀r,l.head? =some r->prev≠some r.2)->bF l=left->vP may prev left l=true
 | [],_,left,_,_,_,h=>by simp [vP,<-h,bF]
 |r::t,prev,left,h1,h2,h3,h=>by
  have hr:=h1 r (.head _)
  have ht:0<=bF t:=by rw [ee λq hq=>by have:=h1 q (.tail _ hq);omega];omega
  have e:bF (r::t)=r.1+bF t:=by simp [bF]
  unfold vP;rw [if_neg (by
   have:=h3 r rfl;rintro (h|h|h|h)
   ·omega
   ·omega
   ·rw [hr.2] at h;cases h
   ·exact this h)]
  refine Bq (λq hq=>h1 q (.tail _ hq)) (λi q s hq hs=>h2 (i+1) q s (by simpa using hq) (by simpa using hs)) (λq hq=> ?_) ab;have:=h2 0 r q rfl (by cases t<;>simp_all);intro e2;exact this (Option.some.inj e2)
def Nm.next{l:List Rn}(h:Nm l):∀i q r,l[i]? =some q->l[i+1]? =some r->q.2≠r.2:=by
 induction h with
 |nil=>intro i q r h;simp at h
 |snoc l p hl h1 h2 ih=>
  intro i q r hq hr;rcases jA (i+1) l.length with iS|Qj
  ·rw [pU ab] at hq hr;exact ih i q r hq hr
  ·have hi:=(cK.1 hr).1;simp at hi;have:i+1=l.length:=by omega
   rw [pU ab] at hq;rw [sV ab,this] at hr;simp at hr;subst hr;refine h2 q ?_;rw [List.getLast?_eq_getElem?,show l.length-1=i from by omega];exact hq
def W9{l:List Rn}{r:Rn}(h:r ∈ l)(h1:1<=r.1):r.2 ∈ cH l:=by unfold cH;refine List.mem_flatMap.2 ⟨r,h,?_⟩;rw [aan];exact ⟨by omega,rfl⟩
end Go.aZ
namespace Go.aZ
def afV{c:List Int}{i:Int}(h0:0<=i)(h1:i<(c.length:Int)):c[i.toNat]? =some (atC c i):=by grind [atC]
end Go.aZ
namespace Go.Code
open Go Go.Vc Go.aZ
def nB:Nat->Int->List Int
 |0,_=> []
 |k+1,x=>if x<128 then [x] else (128+x % 128)::nB k (x / 128)
def iF(n:Int):List Int:=if n<0\/n>1048576 then [] else nB 3 n
def qW:Nat->Nat->Int->List Int->Int × Int × Int
 |0,_,_,_=>(0,0,2)
 |_+1,_,_,[]=>(0,0,3)
 |k+1,i,n,c::t=>if c>=128 then qW k (i+1) (n+c % 128*128 ^ i) t
  else if (c=0/\0<i)\/n+c % 128*128 ^ i>1048576 then (0,0,2) else (n+c % 128*128 ^ i,(i:Int)+1,0)
def fm(b:List Int):Int × Int × Int:=qW 3 0 0 b
def wrap_u8(x:Int):fi x=x % 256:=by unfold IntKind.wrap;simp [IntKind.bits,IntKind.signed]
def amR(x:Int)(h:0<=x):Mx .u8 (fi x) 128=128+x % 128:=by
 rw [wrap_u8];have key:∀a<256,Mx .u8 ((a:Nat):Int) 128=128+((a:Nat):Int) % 128:=by decide+kernel
 have:=key (x % 256).toNat ab;rw [show (((x % 256).toNat:Nat):Int)=x % 256 from by omega] at this;rw [this];omega
def Wq(c:Int)(h:0<=c)(h':c<256):mB .u8 c 128=c % 128:=by
 have key:∀a<256,mB .u8 ((a:Nat):Int) 128=((a:Nat):Int) % 128:=by decide+kernel
 have:=key c.toNat ab;rwa [show ((c.toNat:Nat):Int)=c from by omega] at this
def aji(n c k:Nat)(h:n<2 ^ k)(hb:n+c*2 ^ k<4611686018427387904):Mx .i64 (n:Int) ((c*2 ^ k:Nat):Int)=((n+c*2 ^ k:Nat):Int):=by
 unfold Mx;have e1:∀m:Nat,m<4611686018427387904->(BitVec.ofInt IntKind.i64.bits (m:Int)).toNat=m:=by intro m hm;rw [Ct];show ((m:Int) %((2 ^ 64:Nat):Int)).toNat=m;rw [show ((2 ^ 64:Nat):Int)=18446744073709551616 from by decide];omega
 rw [BitVec.toNat_or,e1 n ab,e1 _ ab,Nat.or_comm];have:=Nat.shiftLeft_add_eq_or_of_lt h c;rw [Nat.shiftLeft_eq] at this;rw [<-this,uk];exact wI
end Go.Code
namespace Go.Code
open Go Go.Vc Go.aZ
def ajj(k:Nat)(hk:k<3)(n c:Int)(h0:0<=n)(h1:n<128 ^ k)(hc:0<=c)(hc':c<256):
  Mx .i64 n (ak ((ak (mB .u8 c 128))*2 ^(min ((ak (7*(k:Int))):Int).toNat 64)))=n+c % 128*128 ^ k/\0<=ak (7*(k:Int)):=by
 have hw:=aM (n:=7*(k:Int)) (by unfold bT;omega);rw [hw,Wq c hc hc',aM (n:=c % 128) (by unfold bT;omega)];refine ⟨?_,by omega⟩;have e:((2:Int) ^(min ((7*(k:Int)):Int).toNat 64))=128 ^ k:=by
  have:k=0\/k=1\/k=2:=by omega
  rcases this with rfl|rfl|rfl<;>decide
 rw [e];have hp:(128:Int) ^ k<=16384/\1<=(128:Int) ^ k:=by
  have:k=0\/k=1\/k=2:=by omega
  rcases this with rfl|rfl|rfl<;>decide
 have hm:c % 128*128 ^ k<=127*16384:=by
  have:k=0\/k=1\/k=2:=by omega
  rcases this with rfl|rfl|rfl<;>simp<;>omega
 have hm0:0<=c % 128*128 ^ k:=Fh ab ab;rw [aM (n:=c % 128*128 ^ k) (by unfold bT;omega)];have e7:((2 ^(7*k):Nat):Int)=128 ^ k:=by
  have:k=0\/k=1\/k=2:=by omega
  rcases this with rfl|rfl|rfl<;>decide
 have e2:c % 128*128 ^ k=(((c % 128).toNat*2 ^(7*k):Nat):Int):=by rw [Int.natCast_mul,e7,show (((c % 128).toNat:Nat):Int)=c % 128 from by omega]
 have:=aji n.toNat (c % 128).toNat (7*k) (by
  have:((n.toNat:Nat):Int)<((2 ^(7*k):Nat):Int):=by rw [e7];omega
  omega) (by
  have:(((c % 128).toNat*2 ^(7*k):Nat):Int)<=127*16384:=by rw [<-e2];exact hm
  omega)
 rw [e2,show n=((n.toNat:Nat):Int) from by omega];rw [this];simp
def si{k j:Nat}{n c:Int}{t:List Int}:qW (j+1) k n (c::t)=if c>=128 then qW j (k+1) (n+c % 128*128 ^ k) t
   else if (c=0/\0<k)\/n+c % 128*128 ^ k>1048576 then (0,0,2) else (n+c % 128*128 ^ k,(k:Int)+1,0):=rfl
def aaK(k:Nat)(n c:Int)(h1:n<128 ^ k):n+c % 128*128 ^ k<128 ^(k+1):=by have hp:0<=(128:Int) ^ k:=Int.pow_nonneg ab;have:c % 128*128 ^ k<=127*128 ^ k:=Int.mul_le_mul_of_nonneg_right ab hp;rw [Int.pow_succ];omega
end Go.Code
namespace Go.Code
open Go Go.Vc Go.aZ
def FC:Int->List Rn->Bool
 |_,[]=>true
 |left,r::t=>if r.1<1\/r.1>left then false else FC (left-r.1) t
def M9:∀{l:List Rn} {left:Int},FC left l=true->(∀r ∈ l,1<=r.1)/\(l≠ []->bF l<=left)
 | [],_,_=>⟨by simp,λh=>absurd rfl h⟩
 |r::t,left,h=>by
  unfold FC at h
  split at h
  ·cases h
  ·obtain ⟨h1,h2⟩:=M9 h
   refine ⟨λq hq=> ?_,λ_=> ?_⟩
   ·rcases cR.1 hq with rfl|hq
    ·omega
    ·exact h1 q hq
   ·have e:bF (r::t)=r.1+bF t:=by simp [bF]
    by_cases ht:t=[]
    ·subst ht;rw [e];simp [bF];omega
    ·have:=h2 ht;omega
def okW(may:Int->Bool)(l:List Rn):Bool:=FC 1048576 l && sj may l (bF l)
def lM(l:List Rn):List Int:=l.flatMap λr=>r.2 % 256::iF r.1
def afo(l m:List Rn):lM (l++m)=lM l++lM m:=by unfold lM;rw [List.flatMap_append]
def aaL{l:List Rn}{k:Nat}{r:Rn}(hr:l[k]? =some r):lM (l.take (k+1))=lM (l.take k)++(r.2 % 256::iF r.1):=by rw [dP,hr,afo];simp [lM]
def Na:∀(k:Nat)(x:Int),(nB k x).length<=k
 |0,_=>by simp [nB]
 |k+1,x=>by
  unfold nB
  split
  ·simp
  ·have:=Na k (x / 128);simp;omega
def FD(n:Int):(iF n).length<=3:=by
 unfold iF;split
 ·simp
 ·exact Na 3 n
def UE(l:List Rn):(lM l).length<=4*l.length:=by
 induction l with
 |nil=>simp [lM]
 |cons r l ih=>
  have:=FD r.1;unfold lM at ih ⊢;rw [List.flatMap_cons,cS,c8,c8];omega
def UI:∀(k:Nat)(x:Int),0<=x->∀c ∈ nB k x,0<=c/\c<256
 |0,_,_,c,h=>by simp [nB] at h
 |k+1,x,hx,c,h=>by
  unfold nB at h
  split at h
  ·simp at h;omega
  ·rcases cR.1 h with rfl|h
   ·omega
   ·exact UI k (x / 128) ab c h
def afp(n:Int):∀c ∈ iF n,0<=c/\c<256:=by
 intro c h;unfold iF at h;split at h
 ·simp at h
 ·exact UI 3 n ab c h
def aje(l:List Rn):∀c ∈ lM l,0<=c/\c<256:=by
 intro c h;unfold lM at h;obtain ⟨r,_,hc⟩:=List.mem_flatMap.1 h;rcases cR.1 hc with rfl|hc
 ·omega
 ·exact afp r.1 c hc
end Go.Code
namespace Go.Code
open Go Go.Vc Go.aZ
def UJ:∀(k i:Nat)(m x:Int)(t:List Int),1<=k->0<=x->x<128 ^ k->(x=0->i=0)->m+x*128 ^ i<=1048576->
  qW k i m (nB k x++t)=(m+x*128 ^ i,(i:Int)+(nB k x).length,0)
 |0,_,_,_,_,h,_,_,_,_=>by omega
 |k+1,i,m,x,t,_,h0,h1,hz,hm=>by
  by_cases hx:x<128
  ·have e:nB (k+1) x=[x]:=by unfold nB;rw [if_pos hx]
   rw [e,List.singleton_append,si,if_neg ab,show x % 128=x from by omega,if_neg (by
    rintro (⟨h,h'⟩|h)
    ·have:=hz h;omega
    ·omega)]
   simp
  ·have e:nB (k+1) x=(128+x % 128)::nB k (x / 128):=by show (if x<128 then [x] else (128+x % 128)::nB k (x / 128))=_;rw [if_neg hx]
   have hk:1<=k:=by
    rcases Cq k with rfl|h
    ·simp at h1;omega
    ·exact h
   have atY:(128:Int) ^(i+1)=128 ^ i*128:=Int.pow_succ _ _;have AS:m+x % 128*128 ^ i+x / 128*128 ^(i+1)=m+x*128 ^ i:=by
    rw [atY];have:x % 128*128 ^ i+x / 128*(128 ^ i*128)=x*128 ^ i:=by rw [Int.mul_comm (128 ^ i) 128,<-Int.mul_assoc,<-Int.add_mul];congr 1;omega
    omega
   rw [e,List.cons_append,si,if_pos ab,show (128+x % 128) % 128=x % 128 from by omega];rw [UJ k (i+1) _ (x / 128) t hk ab (by rw [Int.pow_succ] at h1;omega) ab (by rw [AS];exact hm),AS];simp;omega
def aaM{n:Int}(h0:0<=n)(h1:n<=1048576)(t:List Int):fm (iF n++t)=(n,((iF n).length:Int),0):=by
 have e:iF n=nB 3 n:=by unfold iF;rw [if_neg ab]
 rw [e];unfold fm;rw [UJ 3 0 0 n t ab h0 ab (λ_=>rfl) (by simp;omega)];simp
end Go.Code
namespace Go.Code
open Go Go.Vc Go.aZ
def Jp:∀{l:List Rn} {left:Int},(∀r ∈ l,1<=r.1)->bF l<=left->FC left l=true
 | [],_,_,_=>rfl
 |r::t,left,h,hs=>by
  have e:bF (r::t)=r.1+bF t:=by simp [bF]
  have h1:=h r (.head _);have ht:0<=bF t:=by rw [ee λq hq=>by have:=h q (.tail _ hq);omega];omega
  unfold FC;rw [if_neg ab];exact Jp (λq hq=>h q (.tail _ hq)) ab
def ajk{may:Int->Bool}{l:List Rn}(h:Nm l)(hm:∀r ∈ l,may r.2=true)(hs:bF l<=1048576)(gy:l≠ []):okW may l=true:=by
 unfold okW;rw [Jp h.pos hs];unfold sj;have hp:0<bF l:=by
  cases l with
  |nil=>exact absurd rfl gy
  |cons r t=>
   have e:bF (r::t)=r.1+bF t:=by simp [bF]
   have h1:=h.pos r (.head _);have ht:0<=bF t:=by rw [ee λq hq=>by have:=h.pos q (.tail _ hq);omega];omega
   omega
 rw [decide_eq_true hp,Bq (λr hr=>⟨h.pos r hr,hm r hr⟩) h.next (λr _=>by simp) rfl];rfl
end Go.Code
namespace Go.Code
open Go Go.Vc Go.aZ
def kE(may:Int->Bool):Nat->List Int->Int->Int->List Rn->List Rn × Int
 |0,_,_,_,_=>([],3)
 |_+1,[],n,_,acc=>if n>0 then ([],3) else (acc,0)
 |f+1,c::t,n,last,acc=>
  if may c=false\/c=last then ([],2)
  else if (fm t).2.2≠0 then ([],(fm t).2.2)
  else if (fm t).1=0\/(fm t).1>n then ([],2)
  else if n-(fm t).1=0 then (if t.drop (fm t).2.1.toNat=[] then (acc++ [((fm t).1,c)],0) else ([],2))
  else kE may f (t.drop (fm t).2.1.toNat) (n-(fm t).1) c (acc++ [((fm t).1,c)])
def jC(may:Int->Bool)(b:List Int)(n:Int):List Rn × Int:=kE may (b.length+1) b n (-1) []
def Er:∀(k i:Nat)(m:Int)(b:List Int),0<=m->(qW k i m b).2.2=0->0<=(qW k i m b).1/\(qW k i m b).1<=1048576/\(i:Int)+1<=(qW k i m b).2.1/\(qW k i m b).2.1<=(i:Int)+b.length
 |0,_,_,_,_,h=>by simp [qW] at h
 |k+1,i,m,[],_,h=>by simp [qW] at h
 |k+1,i,m,c::t,h0,h=>by
  have hp:0<=c % 128*128 ^ i:=Fh ab (Int.pow_nonneg ab)
  rw [si] at h ⊢
  split
  ·rename_i hc
   rw [if_pos hc] at h
   have:=Er k (i+1) _ t ab h
   simp only [c8]
   omega
  ·rename_i hc
   rw [if_neg hc] at h
   split
   ·rename_i hz;rw [if_pos hz] at h;simp at h
   ·rename_i hz
    simp only [c8]
    refine ⟨by omega,?_,by omega,by omega⟩
    rcases sX 1048576 (m+c % 128*128 ^ i) with hh|hh
    ·exact absurd (.inr hh) hz
    ·exact hh
end Go.Code
namespace Go.Code
open Go Go.Vc Go.aZ
def Kc{may:Int->Bool}{f:Nat}{n last:Int}{acc:List Rn}:kE may (f+1) [] n last acc=if n>0 then ([],3) else (acc,0):=rfl
def uW(may:Int->Bool)(f:Nat)(c:Int)(t:List Int)(n last:Int)(acc:List Rn):kE may (f+1) (c::t) n last acc=
  if may c=false\/c=last then ([],2)
  else if (fm t).2.2≠0 then ([],(fm t).2.2)
  else if (fm t).1=0\/(fm t).1>n then ([],2)
  else if n-(fm t).1=0 then (if t.drop (fm t).2.1.toNat=[] then (acc++ [((fm t).1,c)],0) else ([],2))
  else kE may f (t.drop (fm t).2.1.toNat) (n-(fm t).1) c (acc++ [((fm t).1,c)]):=rfl
def Kd{may:Int->Bool}:∀(f:Nat)(b:List Int)(n last:Int)(acc:List Rn),(kE may f b n last acc).1.length<=acc.length+b.length
 |0,_,_,_,_=>by simp [kE]
 |f+1,[],n,_,acc=>by rw [Kc];split<;>simp
 |f+1,c::t,n,last,acc=>by
  rw [uW]
  split
  ·simp
  split
  ·simp
  split
  ·simp
  split
  ·split<;>simp
  ·have:=Kd (may:=may) f (t.drop (fm t).2.1.toNat) (n-(fm t).1) c (acc++ [((fm t).1,c)])
   simp only [cS,c8,m8,zX] at this ⊢
   omega
def Yy{may:Int->Bool}(b:List Int)(n:Int):(jC may b n).1.length<=b.length:=by have:=Kd (may:=may) (b.length+1) b n (-1) [];simpa [jC] using this
def ie(may:Int->Bool):Int->List Rn->Prop
 |_,[]=>True
 |last,r::t=>1<=r.1/\r.1<=1048576/\0<=r.2/\r.2<256/\may r.2=true/\r.2≠last/\ie may r.2 t
def ie.pos{may:Int->Bool}:∀{l:List Rn} {last:Int},ie may last l->∀r ∈ l,1<=r.1
 | [],_,_=>by simp
 |q::t,_,h=>by
  obtain ⟨h1,_,_,_,_,_,h7⟩:=h
  intro r hr
  rcases cR.1 hr with rfl|hr
  ·exact h1
  ·exact h7.pos r hr
def GW(r:Rn)(t:List Rn)(h:0<=r.2/\r.2<256):lM (r::t)=r.2::(iF r.1++lM t):=by unfold lM;rw [List.flatMap_cons,Int.emod_eq_of_lt h.1 h.2];rfl
def B1(r:Rn)(t:List Rn):bF (r::t)=r.1+bF t:=by simp [bF]
def Yz{may:Int->Bool}{f:Nat}{r:Rn}{t:List Int}{n last:Int}{acc:List Rn}(h1:1<=r.1)(h2:r.1<=1048576)(h5:may r.2=true)(h6:r.2≠last):
  kE may (f+1) (r.2::(iF r.1++t)) n last acc=if r.1>n then ([],2) else if n-r.1=0 then (if t=[] then (acc++ [r],0) else ([],2)) else kE may f t (n-r.1) r.2 (acc++ [r]):=by
 rw [uW,aaM ab h2,if_neg (by
  rintro (h|h)
  ·rw [h5] at h;cases h
  ·exact h6 h),if_neg cj]
 by_cases hn:r.1>n
 ·rw [if_pos (.inr hn),if_pos hn]
 ·rw [if_neg (by show ¬(r.1=0\/r.1>n);omega),if_neg hn];have e:(iF r.1++t).drop (((iF r.1).length:Int)).toNat=t:=by simp
  show (if n-r.1=0 then (if (iF r.1++t).drop (((iF r.1).length:Int)).toNat=[] then (acc++ [(r.1,r.2)],0) else ([],2)) else kE may f ((iF r.1++t).drop (((iF r.1).length:Int)).toNat) (n-r.1) r.2 (acc++ [(r.1,r.2)]))=_;rw [e]
def Ke{may:Int->Bool}:∀(l:List Rn)(f:Nat)(t:List Int)(last:Int)(acc:List Rn),ie may last l->l≠ []->(lM l++t).length<f->
  kE may f (lM l++t) (bF l) last acc=if t=[] then (acc++l,0) else ([],2)
 | [],_,_,_,_,_,h,_=>absurd rfl h
 |r::l,0,_,_,_,_,_,hf=>by omega
 |r::l,f+1,t,last,acc,hF,_,hf=>by
  obtain ⟨h1,h2,h3,h4,h5,h6,hF'⟩:=hF
  have e:lM (r::l)++t=r.2::(iF r.1++(lM l++t)):=by rw [GW r l ⟨h3,h4⟩];simp
  rw [e] at hf ⊢;simp only [c8,cS] at hf;have IQ:0<=bF l:=by rw [ee λq hq=>by have:=hF'.pos q hq;omega];omega
  rw [Yz h1 h2 h5 h6,B1,if_neg ab,show r.1+bF l-r.1=bF l from by omega];by_cases hl:l=[]
  ·subst hl;rw [if_pos (show bF []=0 from rfl)];simp [lM]
  ·have hsp:1<=bF l:=by
    cases l with
    |nil=>exact absurd rfl hl
    |cons q m=>
     have:=hF'.pos q (.head _);have hm:0<=bF m:=by rw [ee λp hp=>by have:=hF'.pos p (.tail _ hp);omega];omega
     rw [B1];omega
   rw [if_neg ab,Ke l f t r.2 (acc++ [r]) hF' hl (by simp only [cS];omega)];simp
def acB{t:List Int}(hi:∀c ∈ t,0<=c/\c<256)(h:(fm t).2.2=0):iF (fm t).1=t.take (fm t).2.1.toNat:=by
 unfold fm at h ⊢
 cases t with
 |nil=>simp [qW] at h
 |cons a t=>
  have ha:=hi a (.head _);rw [si] at h ⊢;split
  ·rename_i ha2;rw [if_pos ha2] at h
   cases t with
   |nil=>simp [qW] at h
   |cons b t=>
    have hb:=hi b (.tail _ (.head _));rw [si] at h ⊢;split
    ·rename_i j8;rw [if_pos j8] at h
     cases t with
     |nil=>simp [qW] at h
     |cons c t=>
      have hc:=hi c (.tail _ (.tail _ (.head _)));rw [si] at h ⊢;split
      ·rename_i oK;rw [if_pos oK] at h;simp [qW] at h
      ·rename_i oK;rw [if_neg oK] at h;split
       ·rename_i hz;rw [if_pos hz] at h;simp at h
       ·rename_i hz;have e:(0+a % 128*128 ^ 0+b % 128*128 ^(0+1)+c % 128*128 ^(0+1+1):Int)=a % 128+b % 128*128+c % 128*16384:=by simp
        rw [e] at hz ⊢;have QY:c≠0:=λe0=>hz (.inl ⟨e0,by omega⟩)
        have hle:a % 128+b % 128*128+c % 128*16384<=1048576:=by
         rcases sX 1048576 (a % 128+b % 128*128+c % 128*16384) with hh|hh
         ·exact absurd (.inr hh) hz
         ·exact hh
        have ec:c % 128=c:=by omega
        rw [ec] at hle ⊢;unfold iF;rw [if_neg ab];simp only [nB];rw [if_neg ab,if_neg ab,if_pos ab];have e1:128+(a % 128+b % 128*128+c*16384) % 128=a:=by omega
        have e2:128+(a % 128+b % 128*128+c*16384) / 128 % 128=b:=by omega
        have e3:(a % 128+b % 128*128+c*16384) / 128 / 128=c:=by omega
        rw [e1,e2,e3];rfl
    ·rename_i j8;rw [if_neg j8] at h;split
     ·rename_i hz;rw [if_pos hz] at h;simp at h
     ·rename_i hz;have e:(0+a % 128*128 ^ 0+b % 128*128 ^(0+1):Int)=a % 128+b % 128*128:=by simp
      rw [e] at hz ⊢;have VH:b≠0:=λe0=>hz (.inl ⟨e0,by omega⟩)
      have ec:b % 128=b:=by omega
      rw [ec] at hz ⊢;unfold iF;rw [if_neg ab];simp only [nB];rw [if_neg ab,if_pos ab];have e1:128+(a % 128+b*128) % 128=a:=by omega
      have e2:(a % 128+b*128) / 128=b:=by omega
      rw [e1,e2];rfl
  ·rename_i ha2;rw [if_neg ha2] at h;split
   ·rename_i hz;rw [if_pos hz] at h;simp at h
   ·have ec:a % 128=a:=by omega
    rw [ec];have e:(0+a*128 ^ 0:Int)=a:=by simp
    rw [e];unfold iF;rw [if_neg ab];simp only [nB];rw [if_pos ab];rfl
def C7{may:Int->Bool}:∀(f:Nat)(b:List Int)(n last:Int)(acc:List Rn),(∀c ∈ b,0<=c/\c<256)->1<=n->(kE may f b n last acc).2=0->
  ∃l,(kE may f b n last acc).1=acc++l/\lM l=b/\ie may last l/\bF l=n/\l≠ []
 |0,_,_,_,_,_,_,h=>by simp [kE] at h
 |f+1,[],n,_,acc,_,hn,h=>by rw [Kc,if_pos ab] at h;simp at h
 |f+1,c::t,n,last,acc,hi,hn,h=>by
  have hc:=hi c (.head _)
  have ht:∀c ∈ t,0<=c/\c<256:=λq hq=>hi q (.tail _ hq)
  rw [uW] at h ⊢
  split
  ·rename_i h1;rw [if_pos h1] at h;simp at h
  rename_i h1
  rw [if_neg h1] at h
  split
  ·rename_i h2;rw [if_pos h2] at h;exact absurd h h2
  rename_i h2
  rw [if_neg h2] at h
  split
  ·rename_i h3;rw [if_pos h3] at h;simp at h
  rename_i h3
  rw [if_neg h3] at h
  have h2':(fm t).2.2=0:=Decidable.not_not.1 h2
  have hd:=Er 3 0 0 t ab h2'
  have ap7:=acB ht h2'
  rw [show qW 3 0 0 t=fm t from rfl] at hd
  generalize hdg:fm t=d at*
  obtain ⟨sz,k,er⟩:=d
  simp only at h h3 hd ap7 ⊢
  have ZF:may c=true:=by
   cases hm:may c with
   |true=>rfl
   |false=>exact absurd (.inl hm) h1
  have Y2:c≠last:=λe=>h1 (.inr e)
  have wW:iF sz++t.drop k.toNat=t:=by rw [ap7];exact qP _ _
  split
  ·rename_i h4;rw [if_pos h4] at h;split
   ·rename_i h5;refine ⟨[(sz,c)],rfl,?_,⟨by show 1<=sz;omega,by show sz<=1048576;omega,hc.1,hc.2,ZF,Y2,trivial⟩,by simp [bF];omega,by simp⟩;rw [GW _ _ hc];rw [h5,qQ] at wW;simp [wW,lM]
   ·rename_i h5;rw [if_neg h5] at h;simp at h
  ·rename_i h4;rw [if_neg h4] at h;obtain ⟨l,e1,e2,e3,e4,e5⟩:=C7 f (t.drop k.toNat) (n-sz) c (acc++ [(sz,c)]) (λq hq=>ht q (za hq)) ab h;refine ⟨(sz,c)::l,by rw [e1];simp,?_,⟨by show 1<=sz;omega,by show sz<=1048576;omega,hc.1,hc.2,ZF,Y2,e3⟩,by rw [B1];show sz+bF l=n;omega,by simp⟩;rw [GW _ _ hc,e2];show c::(iF sz++t.drop k.toNat)=_;rw [wW]
def ie.of{may:Int->Bool}:∀{l:List Rn} {last:Int},(∀r ∈ l,1<=r.1/\r.1<=1048576/\0<=r.2/\r.2<256/\may r.2=true)->(∀i q r,l[i]? =some q->l[i+1]? =some r->q.2≠r.2)->(∀r,l.head? =some r->r.2≠last)->ie may last l
 | [],_,_,_,_=>trivial
 |r::t,last,h1,h2,h3=>by
  obtain ⟨a,b,c,d,e⟩:=h1 r (.head _)
  refine ⟨a,b,c,d,e,h3 r rfl,ie.of (λq hq=>h1 q (.tail _ hq)) (λi q s hq hs=>h2 (i+1) q s (by simpa using hq) (by simpa using hs)) (λq hq=> ?_)⟩
  have:=h2 0 r q rfl (by cases t<;>simp_all)
  exact λe=>this e.symm
def ie.next{may:Int->Bool}:∀{l:List Rn} {last:Int},ie may last l->∀i q r,l[i]? =some q->l[i+1]? =some r->q.2≠r.2
 | [],_,_,i,q,r,h,_=>by simp at h
 | [x],_,_,i,q,r,h,h'=>by simp at h'
 |x::y::t,_,h,0,q,r,hq,hr=>by
  simp at hq hr;subst hq;subst hr
  exact λe=>h.2.2.2.2.2.2.2.2.2.2.2.1 e.symm
 |x::y::t,_,h,i+1,q,r,hq,hr=>h.2.2.2.2.2.2.next i q r (by simpa using hq) (by simpa using hr)
def ie.mem{may:Int->Bool}:∀{l:List Rn} {last:Int},ie may last l->∀r ∈ l,1<=r.1/\r.1<=1048576/\0<=r.2/\r.2<256/\may r.2=true
 | [],_,_,r,h=>by cases h
 |q::t,_,h,r,hr=>by
  rcases cR.1 hr with rfl|hr
  ·exact ⟨h.1,h.2.1,h.2.2.1,h.2.2.2.1,h.2.2.2.2.1⟩
  ·exact h.2.2.2.2.2.2.mem r hr
def ie.sj{may:Int->Bool}{l:List Rn}{last:Int}(h:ie may last l)(gy:1<=bF l):sj may l (bF l)=true:=by unfold Go.aZ.sj;rw [decide_eq_true ab,Bq (λr hr=>⟨h.pos r hr,(h.mem r hr).2.2.2.2⟩) h.next (λr _=>by simp) rfl];rfl
end Go.Code
namespace Go.dm
open Go Go.Vc
abbrev Ce:=Int × Int × Int
abbrev Po:=Int × Int
def tdm{a b:Int}(hb:0<b):(a.tmod b<0->a / b=a.tdiv b-1/\a % b=a.tmod b+b)/\(0<=a.tmod b->a / b=a.tdiv b/\a % b=a.tmod b)/\-b<a.tmod b/\a.tmod b<b:=by
 have h1:b*a.tdiv b+a.tmod b=a:=Int.mul_tdiv_add_tmod a b;have h2:a.tmod b<b:=Int.tmod_lt_of_pos a hb;have h3: -b<a.tmod b:=by have:=Int.tmod_lt_of_pos (-a) hb;rw [Int.neg_tmod] at this;omega
 refine ⟨λh=> ?_,λh=> ?_,h3,h2⟩
 ·have:=(Int.ediv_emod_unique hb (a:=a) (q:=a.tdiv b-1) (r:=a.tmod b+b)).2 ⟨by rw [Int.mul_sub];omega,by omega,by omega⟩;exact this
 ·exact (Int.ediv_emod_unique hb (a:=a) (q:=a.tdiv b) (r:=a.tmod b)).2 ⟨by omega,by omega,by omega⟩
def UA{a b:Int}(ha:bT a)(hb:0<b):bT (a / b):=by
 unfold bT at*;have h1:=Int.emod_nonneg a (by omega:b≠0);have h2:=Int.emod_lt_of_pos a hb;have h3:=Int.mul_ediv_add_emod a b;rcases sX a 0 with h|h
 ·have h4:a<=a / b:=by rw [Int.le_ediv_iff_mul_le hb];have:=Int.mul_le_mul_of_nonpos_left (a:=a) (b:=b) (c:=1) ab ab;omega
  have h5:a / b<0:=Int.ediv_neg_of_neg_of_pos h hb;omega
 ·have h4:a / b<=a:=Int.ediv_le_self b h;have h5:0<=a / b:=Int.ediv_nonneg h ab;omega
def UB{a b:Int}(ha:bT a)(hb:0<b):bT (a.tdiv b):=by
 unfold bT at*;rcases sX a 0 with h|h
 ·have h1:a.tdiv b= -((-a) / b):=by rw [<-qT ab,Int.neg_tdiv];omega
  have h4:(-a) / b<=-a:=Int.ediv_le_self b ab;have h5:0<=(-a) / b:=Int.ediv_nonneg ab ab;omega
 ·rw [qT h];have h4:a / b<=a:=Int.ediv_le_self b h;have h5:0<=a / b:=Int.ediv_nonneg h ab;omega
def u64_in(n:Int):0<=di n/\di n<18446744073709551616:=by unfold IntKind.wrap;simp only [IntKind.bits,IntKind.signed];simp;omega
def xC{n:Int}(h:0<=n/\n<18446744073709551616):di n=n:=by unfold IntKind.wrap;simp only [IntKind.bits,IntKind.signed];simp;omega
def mix(ai x z:Int):Int:=di ((di ((di ((di ai)*11400714819323198485))+(di ((di x)*14029467366897019727))))+(di ((di z)*1609587929392839161)))
def hash(ai x z:Int):Int:=
 lD .u64 (di ((lD .u64 (mix ai x z) (mix ai x z / 536870912))*13787848793156543929)) (di ((lD .u64 (mix ai x z) (mix ai x z / 536870912))*13787848793156543929) / 4294967296)
def afm(ai x z:Int):0<=hash ai x z:=by unfold hash lD;exact (u64_in _).1
def asq(n:Int):(di n).fdiv (2 ^(min (29:Int).toNat 64))=di n / 536870912:=sZ _ aG
def asr(n:Int):(di n).fdiv (2 ^(min (32:Int).toNat 64))=di n / 4294967296:=sZ _ aG
def ia(ai x z:Int):Int:=hash ai x z % 9
def ground(ai x z:Int):Int:=
 6+(ia ai (x / 8) (z / 8)*((8-x % 8)*(8-z % 8))+ia ai (x / 8+1) (z / 8)*(x % 8*(8-z % 8))+ia ai (x / 8) (z / 8+1)*((8-x % 8)*(z % 8))+ia ai (x / 8+1) (z / 8+1)*(x % 8*(z % 8))) / 64
def RU(y g:Int):Int:=
 if y<0\/32<=y then 0 else if y=0\/y<g-3 then 1 else if y<g-1\/(y=g-1/\9<g) then 2 else if y=g-1 then 3 else if y<9 then 8 else 0
def uz{c u v:Int}(hc:0<=c/\c<=8)(hu:0<=u/\u<=8)(hv:0<=v/\v<=8):0<=u*v/\u*v<=64/\0<=c*(u*v)/\c*(u*v)<=512:=by have h1:0<=u*v:=Fh hu.1 hv.1;have h2:u*v<=8*8:=Int.mul_le_mul hu.2 hv.2 hv.1 aG;have h3:0<=c*(u*v):=Fh hc.1 h1;have h4:c*(u*v)<=8*64:=Int.mul_le_mul hc.2 h2 h1 aG;exact ⟨h1,h2,h3,h4⟩
def jr(s x z:Int):0<=ia s x z/\ia s x z<=8:=by unfold ia;omega
def Jn(s x z:Int):6<=ground s x z/\ground s x z<=100:=by unfold ground;have a:=uz (jr s (x / 8) (z / 8)) (u:=8-x % 8) (v:=8-z % 8) ab ab;have b:=uz (jr s (x / 8+1) (z / 8)) (u:=x % 8) (v:=8-z % 8) ab ab;have c:=uz (jr s (x / 8) (z / 8+1)) (u:=8-x % 8) (v:=z % 8) ab ab;have d:=uz (jr s (x / 8+1) (z / 8+1)) (u:=x % 8) (v:=z % 8) ab ab;omega
def idx(c:Ce):Int:=(c.2.1*16+c.2.2 % 16)*16+c.1 % 16
def Eo(c:Ce):Prop:=0<=c.2.1/\c.2.1<32
def pos(c:Ce):Po:=(c.1 / 16,c.2.2 / 16)
def cellAt(p:Po)(i:Int):Ce:=(p.1*16+i % 16,i / 256,p.2*16+i / 16 % 16)
def xV{c:Ce}(h:Eo c):0<=idx c/\idx c<8192:=by unfold idx;unfold Eo at h;omega
def made(ai:Int)(p:Po):List Int:=(List.range 8192).map λi:Nat=>RU ((i:Int) / 256) (ground ai (p.1*16+(i:Int) % 16) (p.2*16+(i:Int) / 16 % 16))
def qV(ai:Int)(p:Po):(made ai p).length=8192:=by simp [made]
def Xq(y g:Int):RU y g=0\/RU y g=1\/RU y g=2\/RU y g=3\/RU y g=8:=by grind [RU]
end Go.dm
namespace Go.dm
open Go Go.Vc Go.aZ
end Go.dm
namespace Go.dm
open Go Go.Vc Go.aZ
end Go.dm
namespace Go.dm
open Go Go.Vc Go.aZ
def ahX:∀(n:Nat)(l:List Rn),l.length=n->(∀r ∈ l,1<=r.1)->(∀i q r,l[i]? =some q->l[i+1]? =some r->q.2≠r.2)->Nm l
 |0,l,hn,_,_=>by
  have:l=[]:=Cu hn
  subst this;exact .nil
 |n+1,l,hn,h1,h2=>by
  rcases xU l with rfl|⟨m,q,rfl⟩
  ·simp at hn
  ·have hm:m.length=n:=by simpa using hn
   refine .snoc m q (ahX n m hm (λr hr=>h1 r (Gm _ hr)) (λi a b ha hb=> ?_)) (h1 q cj) (λp hp=> ?_)
   ·have hb':=(cK.1 hb).1;exact h2 i a b (by rw [pU ab];exact ha) (by rw [pU ab];exact hb)
   ·have gy:m≠ []:=by rintro rfl;simp at hp
    have dD:0<m.length:=List.length_pos_iff.2 gy;rw [List.getLast?_eq_getElem?] at hp;refine h2 (m.length-1) p q ?_ ?_
    ·rw [pU ab];exact hp
    ·rw [show m.length-1+1=m.length by omega,sV (aD _),Nat.sub_self];rfl
def Pv{may:Int->Bool}:∀{l:List Rn} {prev:Option Int} {left:Int},vP may prev left l=true->
  (∀r ∈ l,1<=r.1/\may r.2=true)/\(∀i q r,l[i]? =some q->l[i+1]? =some r->q.2≠r.2)/\∀r,l.head? =some r->prev≠some r.2
 | [],_,_,_=>⟨by simp,by simp,by simp⟩
 |r::t,prev,left,h=>by
  unfold vP at h
  split at h
  ·cases h
  ·rename_i hn
   obtain ⟨a1,a2,a3⟩:=Pv h
   have hm:may r.2=true:=by
    cases hq:may r.2 with
    |true=>rfl
    |false=>exact absurd (.inr (.inr (.inl hq))) hn
   have hp:prev≠some r.2:=λe=>hn (.inr (.inr (.inr e)))
   refine ⟨λq hq=> ?_,λi q s hq hs=> ?_,λq hq=> ?_⟩
   ·rcases cR.1 hq with rfl|hq
    ·exact ⟨by omega,hm⟩
    ·exact a1 q hq
   ·cases i with
    |zero=>
     simp only [ane,Option.some.injEq] at hq;subst hq;simp only [CM] at hs;have:t.head? =some s:=by cases t<;>simp_all
     intro e;exact a3 s this (by rw [e])
    |succ i=>exact a2 i q s (by simpa using hq) (by simpa using hs)
   ·simp only [List.head?_cons,Option.some.injEq] at hq;subst hq;exact hp
def Pw{may:Int->Bool}{l:List Rn}{n:Int}(h:sj may l n=true):gz (cH l)=l/\(∀b ∈ cH l,may b=true)/\((cH l).length:Int)=n:=by
 unfold sj at h;rw [fy] at h;obtain ⟨a1,a2,_⟩:=Pv h.2;refine ⟨(ahX l.length l rfl (λr hr=>(a1 r hr).1) a2).fix,λb hb=> ?_,?_⟩
 ·unfold cH at hb;obtain ⟨r,hr,hb⟩:=List.mem_flatMap.1 hb;rw [(aan.1 hb).2];exact (a1 r hr).2
 ·rw [<-ee λr hr=>by have:=(a1 r hr).1;omega];exact Ow h.2
end Go.dm
namespace Go.dm
open Go Go.Vc Go.aZ
def oE(p:Po):Prop:=(-524288<=p.1/\p.1<524288)/\-524288<=p.2/\p.2<524288
instance (p:Po):Decidable (oE p):=by unfold oE;exact inferInstance
def pd(p:Po):Int:=if oE p then (p.1+524288)*1048576+(p.2+524288)+1 else 0
def KL{p:Po}(h:oE p):1<=pd p/\pd p<=1099511627776:=by unfold pd;rw [if_pos h];unfold oE at h;omega
def UC{p:Po}(h:¬oE p):pd p=0:=by unfold pd;rw [if_neg h]
def aff{p q:Po}(hp:oE p)(hq:oE q):pd p=pd q ↔ p=q:=by grind [pd,oE]
end Go.dm
namespace Go.dm
open Go Go.Vc Go.aZ
def cE{α:Type}(q:α->Bool):List α->Int
 | []=> -1
 |x::t=>if q x then 0 else if cE q t<0 then -1 else cE q t+1
def jc{α:Type}{q:α->Bool}:∀{l:List α},(∀y ∈ l,q y=false)->cE q l= -1
 | [],_=>rfl
 |x::t,h=>by
  have h1:=h x (.head _)
  have h2:=jc (l:=t) λy hy=>h y (.tail _ hy)
  unfold cE
  rw [if_neg (by rw [h1];decide),if_pos ab]
def oF{α:Type}{q:α->Bool}:∀{l:List α} {k:Nat} {x:α},l[k]? =some x->q x=true->(∀j,j<k->∀y,l[j]? =some y->q y=false)->cE q l=k
 | [],k,x,h,_,_=>by simp at h
 |y::t,0,x,h,hq,_=>by
  simp at h;subst h
  unfold cE
  rw [if_pos hq];rfl
 |y::t,k+1,x,h,hq,hn=>by
  have h1:=hn 0 ab y rfl
  have h2:=oF (l:=t) (k:=k) (x:=x) (by simpa using h) hq (λj hj z hz=>hn (j+1) ab z (by simpa using hz))
  unfold cE
  rw [if_neg (by rw [h1];decide),if_neg ab,h2]
  omega
def eK{α:Type}(q:α->Bool):∀(l:List α),(cE q l= -1/\∀y ∈ l,q y=false)\/∃k x,l[k]? =some x/\q x=true/\cE q l=(k:Nat)/\∀j,j<k->∀y,l[j]? =some y->q y=false
 | []=> .inl ⟨rfl,by simp⟩
 |x::t=>by
  cases hq:q x with
  |true=>exact .inr ⟨0,x,rfl,hq,by unfold cE;rw [if_pos hq];rfl,by omega⟩
  |false=>
   rcases eK q t with ⟨h1,h2⟩|⟨k,y,h1,h2,h3,h4⟩
   ·refine .inl ⟨by unfold cE;rw [if_neg (by rw [hq];decide),if_pos ab],λy hy=> ?_⟩
    rcases cR.1 hy with rfl|hy
    ·exact hq
    ·exact h2 y hy
   ·refine .inr ⟨k+1,y,by simpa using h1,h2,by unfold cE;rw [if_neg (by rw [hq];decide),if_neg ab,h3];omega,λj hj z hz=> ?_⟩
    cases j with
    |zero=>simp at hz;subst hz;exact hq
    |succ j=>exact h4 j ab z (by simpa using hz)
def lY{α β:Type}(f:α->β)(q:β->Bool):∀l:List α,cE q (l.map f)=cE (λa=>q (f a)) l
 | []=>rfl
 |x::t=>by simp only [fT,cE,lY f q t]
end Go.dm
namespace Go.dm
open Go Go.Vc Go.aZ
abbrev mH:=BitVec 16
abbrev oa(b:List Int):Prop:=∀c ∈ b,0<=c/\c<256
def cI(v:mH):Int:=(v.toNat:Nat)
def QV(c:mH):mH:=if c.msb then (c<<<1) ^^^ 0x1021#16 else c<<<1
def Ih(c:mH):mH:=QV (QV (QV (QV c)))
def Mb(c:mH):mH:=Ih (Ih c)
def oI(x:Int):mH:=BitVec.ofInt 16 x
def anp(c:mH)(x:Int):mH:=Mb (c ^^^(oI x<<<8))
def PB(c:mH)(b:List Int):mH:=b.foldl anp c
def rV(b:List Int):mH:=PB 0xFFFF#16 b
def KG(b:List Int):List Int:=[cI (rV b) / 256,cI (rV b) % 256]
def At(v:mH):0<=cI v/\cI v<65536:=by unfold cI;have:=v.isLt;omega
def Tf{a b:mH}:cI a=cI b ↔ a=b:=by unfold cI;refine ⟨λh=>BitVec.eq_of_toNat_eq ab,λh=>by rw [h]⟩
def ql{x:Int}(h:0<=x/\x<65536):(oI x).toNat=x.toNat:=by grind [oI]
def Te{x:Int}(h:0<=x/\x<65536):cI (oI x)=x:=by unfold cI;rw [ql h];omega
def akc(v:mH):oI (cI v)=v:=Tf.1 (Te (At v))
def Hc{a b:mH}(h:∀i:Nat,i<16->a.getLsbD i=b.getLsbD i):a=b:=BitVec.eq_of_getLsbD_eq h
def YU{i:Nat}(h:i<16):i=0\/i=1\/i=2\/i=3\/i=4\/i=5\/i=6\/i=7\/i=8\/i=9\/i=10\/i=11\/i=12\/i=13\/i=14\/i=15:=by omega
def aqF(a b:mH)(n:Nat):(a ^^^ b)<<<n=(a<<<n) ^^^(b<<<n):=by grind
def Ey(a b:mH):QV (a ^^^ b)=QV a ^^^ QV b:=by grind [QV]
def Ez(a b:mH):Ih (a ^^^ b)=Ih a ^^^ Ih b:=by unfold Ih;rw [Ey,Ey,Ey,Ey]
def agr(a b:mH):Mb (a ^^^ b)=Mb a ^^^ Mb b:=by unfold Mb;rw [Ez,Ez]
def Vx(c:mH):c.msb=true ↔ 32768<=c.toNat:=by rw [BitVec.msb_eq_decide];simp
def AD{c:mH}(h:c.toNat<32768):QV c=c<<<1/\(c<<<1).toNat=2*c.toNat:=by
 constructor
 ·unfold QV;rw [if_neg];rw [Vx];omega
 ·rw [BitVec.toNat_shiftLeft,Nat.shiftLeft_eq];omega
def nq{c:mH}(h:QV c=0#16):c=0#16:=by
 unfold QV at h;split at h
 ·have:=congrArg (λv:mH=>v.getLsbD 0) h;simp at this
 ·rename_i hm;have hm:c.toNat<32768:=by rw [Vx] at hm;omega
  have h2:=(AD hm).2;rw [h] at h2;exact BitVec.eq_of_toNat_eq (by simp at h2 ⊢;omega)
def Qb{c:mH}(h:Mb c=0#16):c=0#16:=by unfold Mb Ih at h;exact nq (nq (nq (nq (nq (nq (nq (nq h)))))))
def AE{a b:mH}:a ^^^ b=0#16 ↔ a=b:=by (simp_all;done)
def ags{a b:mH}(h:Mb a=Mb b):a=b:=by rw [<-AE] at h ⊢;rw [<-agr] at h;exact Qb h
def AF(c:mH)(m n:Nat):(c<<<m)<<<n=c<<<(m+n):=(BitVec.shiftLeft_add c m n).symm
def EA{c:mH}(h:c.toNat<4096):Ih c=c<<<4:=by unfold Ih;have h1:=AD (c:=c) ab;rw [h1.1];have h2:=AD (c:=c<<<1) ab;rw [h2.1];have h3:=AD (c:=c<<<1<<<1) ab;rw [h3.1];have h4:=AD (c:=c<<<1<<<1<<<1) ab;rw [h4.1,AF,AF,AF]
def Qc(v y:mH)(hy:y.toNat<16):(v<<<4) ^^^ Ih (((v>>>12) ^^^ y)<<<12)=Ih (v ^^^(y<<<12)):=by
 have e:v ^^^(y<<<12)=(((v>>>12) ^^^ y)<<<12) ^^^(v &&& 0xFFF#16):=by apply Hc;intro i hi;simp only [BitVec.getLsbD_xor,Vj,BitVec.getLsbD_ushiftRight,Pz];rcases YU hi with rfl|rfl|rfl|rfl|rfl|rfl|rfl|rfl|rfl|rfl|rfl|rfl|rfl|rfl|rfl|rfl<;>simp
 have hl:(v &&& 0xFFF#16).toNat<4096:=by rw [zB];exact Pn Nat.and_le_right aG
 have e2:(v &&& 0xFFF#16)<<<4=v<<<4:=by apply Hc;intro i hi;simp only [Vj,Pz];rcases YU hi with rfl|rfl|rfl|rfl|rfl|rfl|rfl|rfl|rfl|rfl|rfl|rfl|rfl|rfl|rfl|rfl<;>simp
 rw [e,Ez,EA hl,e2,BitVec.xor_comm]
def YV(v x:mH)(hx:x.toNat<256):Ih (Ih (v ^^^((x>>>4)<<<12)) ^^^((x &&& 15#16)<<<12))=Mb (v ^^^(x<<<8)):=by
 have e:v ^^^(x<<<8)=(v ^^^((x>>>4)<<<12)) ^^^((x &&& 15#16)<<<8):=by apply Hc;intro i hi;simp only [BitVec.getLsbD_xor,Vj,BitVec.getLsbD_ushiftRight,Pz];rcases YU hi with rfl|rfl|rfl|rfl|rfl|rfl|rfl|rfl|rfl|rfl|rfl|rfl|rfl|rfl|rfl|rfl<;>simp
 have hl:(x &&& 15#16).toNat<16:=by rw [zB];exact Pn Nat.and_le_right aG
 have Hg:((x &&& 15#16)<<<8).toNat<4096:=by rw [BitVec.toNat_shiftLeft,Nat.shiftLeft_eq];omega
 unfold Mb;rw [e,Ez (v ^^^ _),EA Hg,AF]
def Vy{c:mH}(h:c.toNat<256):Mb c=c<<<8:=by unfold Mb;rw [EA (c:=c) ab,EA (c:=c<<<4) (by rw [BitVec.toNat_shiftLeft,Nat.shiftLeft_eq];omega),AF]
def C3(c:mH)(a b:List Int):PB c (a++b)=PB (PB c a) b:=pk ..
def agp(c:mH){h l:Int}(hh:0<=h/\h<256)(hl:0<=l/\l<256):PB c [h,l]=0#16 ↔ cI c=h*256+l:=by
 show Mb (Mb (c ^^^(oI h<<<8)) ^^^(oI l<<<8))=0#16 ↔ _;have n1:(oI l).toNat<256:=by rw [ql ab];omega
 have n2:(oI h).toNat<256:=by rw [ql ab];omega
 have z:Mb 0#16=0#16:=by decide
 have e1:Mb (Mb (c ^^^(oI h<<<8)) ^^^(oI l<<<8))=0#16 ↔ c=(oI h<<<8) ^^^ oI l:=by
  constructor
  ·intro q;have q1:=Qb q;rw [AE,<-Vy n1] at q1;have q2:=ags q1;rw [<-q2,BitVec.xor_comm,BitVec.xor_assoc,BitVec.xor_self,BitVec.xor_zero]
  ·rintro rfl;rw [show (oI h<<<8 ^^^ oI l) ^^^ oI h<<<8=oI l by rw [BitVec.xor_comm,<-BitVec.xor_assoc,BitVec.xor_self,BitVec.zero_xor],Vy n1,BitVec.xor_self,z]
 rw [e1];have e2:((oI h<<<8) ^^^ oI l).toNat=h.toNat*256+l.toNat:=by
  have:(oI h<<<8) ^^^ oI l=(oI h<<<8)|||oI l:=by
   apply Hc;intro i hi;have hb:∀j,8<=j->(oI l).getLsbD j=false:=λj hj=>Nat.testBit_lt_two_pow (kB n1 (Nat.pow_le_pow_right (n:=2) aG hj))
   simp only [BitVec.getLsbD_xor,BitVec.getLsbD_or,Vj];by_cases h8:i<8
   ·simp [h8]
   ·rw [hb i ab];simp
  rw [this,BitVec.toNat_or,BitVec.toNat_shiftLeft,ql (x:=h) ab,ql (x:=l) ab,Nat.shiftLeft_eq];rw [Nat.mod_eq_of_lt ab];have:=Nat.two_pow_add_eq_or_of_lt (i:=8) (b:=l.toNat) ab h.toNat;rw [Nat.mul_comm h.toNat,<-this]
 constructor
 ·intro q;rw [q];unfold cI;rw [e2];omega
 ·intro q;apply BitVec.eq_of_toNat_eq;rw [e2];unfold cI at q;omega
def wrap_u16(x:Int):nv x=x % 65536:=by simp [IntKind.wrap,IntKind.bits,IntKind.signed]
def AG(n:Nat)(hn:16<=n)(v:mH):(BitVec.ofInt n (cI v)).toNat=v.toNat:=by unfold cI;rw [Ct];have h1:=v.isLt;have h2:(2:Nat) ^ 16<=2 ^ n:=Nat.pow_le_pow_right aG hn;generalize (2:Nat) ^ n=m at*;rw [Int.emod_eq_of_lt ab ab];omega
def GL(a b:mH):lD .u16 (cI a) (cI b)=cI (a ^^^ b):=by show nv ((BitVec.ofInt 16 (cI a) ^^^ BitVec.ofInt 16 (cI b)).toNat:Nat)=_;rw [BitVec.toNat_xor,AG 16 aG,AG 16 aG,<-BitVec.toNat_xor,wrap_u16];show cI _ % 65536=cI _;have:=At (a ^^^ b);omega
def akd(v:mH)(n:Nat):cI (v<<<n)=cI v*2 ^ n % 65536:=by unfold cI;rw [BitVec.toNat_shiftLeft,Nat.shiftLeft_eq,Int.natCast_emod,Int.natCast_mul,Int.natCast_pow];rfl
def Tg(v:mH)(n:Nat):cI (v>>>n)=cI v / 2 ^ n:=by unfold cI;rw [BitVec.toNat_ushiftRight,Nat.shiftRight_eq_div_pow,Int.natCast_ediv,Int.natCast_pow];rfl
def Vl(v:mH):cI (v &&& 0x8000#16)=0 ↔ v.msb=false:=by
 have pQ:v.msb=v.getLsbD 15:=rfl;constructor
 ·intro h;have h0:v &&& 0x8000#16=0#16:=Tf.1 (by rw [h];rfl);have:=congrArg (λu:mH=>u.getLsbD 15) h0;simp only [Pz] at this;rw [pQ];simpa using this
 ·intro h;have h0:v &&& 0x8000#16=0#16:=by apply Hc;intro i hi;rw [pQ] at h;simp only [Pz];rcases YU hi with rfl|rfl|rfl|rfl|rfl|rfl|rfl|rfl|rfl|rfl|rfl|rfl|rfl|rfl|rfl|rfl<;>first|(simp;done)|simpa using h
  rw [h0];rfl
def ajX(a b:mH):oU .u16 (cI a) (cI b)=cI (a &&& b):=by show nv ((BitVec.ofInt 16 (cI a) &&& BitVec.ofInt 16 (cI b)).toNat:Nat)=_;rw [zB,AG 16 aG,AG 16 aG,<-zB,wrap_u16];show cI _ % 65536=cI _;have:=At (a &&& b);omega
def Vk(v:mH)(n:Nat):nv (cI v*2 ^ n)=cI (v<<<n):=by rw [wrap_u16,akd]
def acd(v:mH)(n:Nat):(cI v).fdiv (2 ^ n)=cI (v>>>n):=by rw [Tg,sZ];exact Int.le_of_lt (Int.pow_pos aG)
def asG{x:Int}(h:0<=x/\x<256):nv (x.fdiv (2 ^ 4))=cI (oI x>>>4):=by rw [Tg,Te ab,sZ _ aG,wrap_u16];simp only [show (2:Int) ^ 4=16 from rfl];omega
def asH{x:Int}(h:0<=x/\x<256):nv (oU .u8 x 15)=cI (oI x &&& 15#16):=by
 have e:oU .u8 x 15=cI (oI x &&& 15#16):=by
  show fi ((BitVec.ofInt 8 x &&& BitVec.ofInt 8 15).toNat:Nat)=_;have e8:(BitVec.ofInt 8 x).toNat=(oI x).toNat:=by rw [ql ab,Ct];simp only [show ((2 ^ 8:Nat):Int)=256 from rfl];rw [Int.emod_eq_of_lt h.1 h.2]
  rw [zB,e8];unfold cI;rw [zB];have:(oI x).toNat &&&(15#16).toNat<16:=Pn Nat.and_le_right aG;show fi (((oI x).toNat &&&(15#16).toNat:Nat):Int)=_;simp only [IntKind.wrap,IntKind.bits,IntKind.signed,CP,Bool.false_eq_true,if_false,show (2:Int) ^ 8=256 from rfl];omega
 rw [e,wrap_u16];have:=At (oI x &&& 15#16);omega
def ace{a b:mH}(ha:a.toNat<16)(hb:b.toNat<16):(a ^^^ b).toNat<16:=by rw [BitVec.toNat_xor];exact Nat.xor_lt_two_pow (n:=4) ha hb
def acf(v:mH):(v>>>12).toNat<16:=by rw [BitVec.toNat_ushiftRight,Nat.shiftRight_eq_div_pow];have:=v.isLt;omega
def ah0{x:Int}(h:0<=x/\x<256):(oI x>>>4).toNat<16:=by rw [BitVec.toNat_ushiftRight,Nat.shiftRight_eq_div_pow,ql ab];omega
def ah2(x:mH):(x &&& 15#16).toNat<16:=by rw [zB];exact Pn Nat.and_le_right aG
def tv(i:Nat):Value:=.int .u16 (cI (Ih (oI i<<<12)))
def tS:LV:=[tv 0,tv 1,tv 2,tv 3,tv 4,tv 5,tv 6,tv 7,tv 8,tv 9,tv 10,tv 11,tv 12,tv 13,tv 14,tv 15]
def tT(k:Nat):LV:=tS.take k++List.replicate (16-k) (.int .u16 0)
def ajY{k:Nat}(hk:k<16):(tT k).set k (tv k)=tT (k+1):=by rcases YU hk with rfl|rfl|rfl|rfl|rfl|rfl|rfl|rfl|rfl|rfl|rfl|rfl|rfl|rfl|rfl|rfl<;>rfl
def ah1{u:mH}(hu:u.toNat<16):tS[(cI u).toNat]? =some (.int .u16 (cI (Ih (u<<<12)))):=by
 have e:∀k:Nat,k<16->tS[k]? =some (tv k):=λk hk=>by rcases YU hk with rfl|rfl|rfl|rfl|rfl|rfl|rfl|rfl|rfl|rfl|rfl|rfl|rfl|rfl|rfl|rfl<;>rfl
 have h1:(cI u).toNat=u.toNat:=rfl;rw [h1,e _ hu];unfold tv;have:oI (u.toNat:Int)=u:=akc u;rw [this]
def X2(v:mH){x:Int}(h:0<=x/\x<256):
  cI ((((v<<<4) ^^^ Ih (((v>>>12) ^^^(oI x>>>4))<<<12))<<<4) ^^^ Ih (((((v<<<4) ^^^ Ih (((v>>>12) ^^^(oI x>>>4))<<<12))>>>12) ^^^(oI x &&& 15#16))<<<12))=cI (anp v x):=by
 rw [Qc v _ (ah0 h),Qc _ _ (ah2 _),YV v _ (by rw [ql ab];omega)];rfl
def be:Nat->Int->List Int
 |0,_=> []
 |m+1,n=>n / 256 ^ m % 256::be m n
def fY(b:List Int):Int:=b.foldl (λn c=>n*256+c) 0
def fG(v:Int)(body:List Int):List Int:=be 4 v++be 3 body.length++body
def fV(b:List Int):List Int:=b++KG b
def yJ(v:Int)(body:List Int):List Int × Int:=if v<1\/v>1073741824\/(body.length:Int)>65536 then ([],1) else (fV (fG v body),0)
def uu(b:List Int):List Int × Int:=if b.length<2 then ([],3) else if rV b=0#16 then (b.take (b.length-2),0) else ([],4)
def nZ(b:List Int):Int × List Int × Int:=
 if (uu b).2≠0 then (0,[],(uu b).2)
 else if (uu b).1.length<7 then (0,[],3)
 else if fY ((uu b).1.take 4)<1\/fY ((uu b).1.take 4)>1073741824\/fY (((uu b).1.drop 4).take 3)>65536\/fY (((uu b).1.drop 4).take 3)≠(((uu b).1.drop 7).length:Int) then (0,[],2)
 else (fY ((uu b).1.take 4),(uu b).1.drop 7,0)
def yg:∀(m:Nat)(n:Int),(be m n).length=m
 |0,_=>rfl
 |m+1,n=>by simp [be,yg m n]
def acJ:∀(m:Nat)(n:Int),oa (be m n)
 |0,_=>λc hc=>by cases hc
 |m+1,n=>λc hc=>by
  rcases cR.1 hc with rfl|hc
  ·omega
  ·exact acJ m n c hc
def PK(b:List Int)(c:Int):fY (b++ [c])=fY b*256+c:=by unfold fY;rw [pk];rfl
def be4{n:Int}(h:0<=n/\n<4294967296):fY (be 4 n)=n:=by simp only [be,fY,tc,List.foldl_nil,show (256:Int) ^ 3=16777216 from rfl,show (256:Int) ^ 2=65536 from rfl,show (256:Int) ^ 1=256 from rfl,show (256:Int) ^ 0=1 from rfl];omega
def be3{n:Int}(h:0<=n/\n<16777216):fY (be 3 n)=n:=by simp only [be,fY,tc,List.foldl_nil,show (256:Int) ^ 2=65536 from rfl,show (256:Int) ^ 1=256 from rfl,show (256:Int) ^ 0=1 from rfl];omega
def ago(b:List Int):oa (KG b):=λc hc=>by
 have:=At (rV b)
 simp only [KG,cR,oQ,or_false] at hc
 rcases hc with rfl|rfl<;>omega
def P6(b:List Int):(KG b).length=2:=rfl
def acK(b:List Int):rV (fV b)=0#16:=by unfold fV rV;rw [C3];have:=At (rV b);exact (agp _ ab ab).2 (by unfold rV at*;omega)
def agq(b:List Int):uu (fV b)=(b,0):=by
 have hl:(fV b).length=b.length+2:=by unfold fV;rw [cS,P6]
 unfold uu;rw [if_neg ab,if_pos (acK b),hl];unfold fV;simp
def oa.app{a b:List Int}(ha:oa a)(hb:oa b):oa (a++b):=λc hc=>(c5.1 hc).elim (ha c) (hb c)
def Vr{v:Int}{body:List Int}(h:oa body):oa (fG v body):=((acJ 4 v).app (acJ 3 _)).app h
def acL{b:List Int}(h:oa b):oa (fV b):=h.app (ago b)
def aj9{v:Int}{body:List Int}(h:oa body):oa (yJ v body).1:=by
 unfold yJ;split
 ·intro c hc;cases hc
 ·exact acL (Vr h)
def GM(v:Int)(body:List Int):(fG v body).length=7+body.length:=by unfold fG;simp [yg];omega
def Je(b:List Int):(fV b).length=b.length+2:=by unfold fV;rw [cS,P6]
def amZ{v:Int}{body:List Int}(hv:1<=v/\v<=1073741824)(hb:(body.length:Int)<=65536):nZ (fV (fG v body))=(v,body,0):=by
 have e4:=yg 4 v;have e3:=yg 3 (body.length:Int);have t4:(fG v body).take 4=be 4 v:=by unfold fG;rw [gV,C1 ab,fz ab]
 have d4:(fG v body).drop 4=be 3 body.length++body:=by unfold fG;rw [gV,List.drop_append_of_le_length ab,Cy ab];rfl
 have d7:(fG v body).drop 7=body:=by unfold fG;rw [List.drop_append_of_le_length (by rw [cS];omega),Cy (by rw [cS];omega)];rfl
 have t3:((fG v body).drop 4).take 3=be 3 body.length:=by rw [d4,C1 ab,fz ab]
 unfold nZ;simp only [agq];rw [if_neg cj,if_neg (by rw [GM];omega),t4,t3,d7,be4 ab,be3 ab,if_neg ab]
def amN{b:List Int}:(nZ b).2.2=0->1<=(nZ b).1/\(nZ b).1<=1073741824:=by grind [nZ]
def ahF{b:List Int}:(nZ b).2.2≠0->(nZ b).1=0/\(nZ b).2.1=[]:=by grind [nZ]
def Vw{b:List Int}(hb:oa b):∀k:Nat,0<=fY (b.take k)/\fY (b.take k)<256 ^ k
 |0=>by rw [CA];exact ⟨pf 0,by decide⟩
 |k+1=>by
  obtain ⟨h1,h2⟩:=Vw hb k
  rw [dP]
  cases hx:b[k]? with
  |none=>
   rw [Int.pow_succ]
   simp only [Option.toList_none,qQ]
   generalize (256:Int) ^ k=p at*
   omega
  |some x=>
   have:=hb x (aU hx)
   rw [Int.pow_succ]
   simp only [Option.toList_some]
   rw [PK]
   generalize (256:Int) ^ k=p at*
   omega
def Tr{b:List Int}(hb:oa b){k:Nat}(hk:k<=4):0<=fY (b.take k)/\fY (b.take k)<4294967296:=by
 obtain ⟨h1,h2⟩:=Vw hb k;have h3:(256:Int) ^ k<=4294967296:=by
  rcases k with _|_|_|_|_|k
  ·decide
  ·decide
  ·decide
  ·decide
  ·decide
  ·omega
 exact ⟨h1,Int.lt_of_lt_of_le h2 h3⟩
def acm{n c:Int}(hn:0<=n/\n<281474976710656)(hc:0<=c/\c<256):Mx .i64 (n*256) c=n*256+c:=by
 show ak ((BitVec.ofInt 64 (n*256)|||BitVec.ofInt 64 c).toNat:Nat)=_;have e1:(BitVec.ofInt 64 (n*256)).toNat=2 ^ 8*n.toNat:=by rw [Ct];simp only [show ((2 ^ 64:Nat):Int)=18446744073709551616 from rfl,show (2:Nat) ^ 8=256 from rfl];omega
 have e2:(BitVec.ofInt 64 c).toNat=c.toNat:=by rw [Ct];simp only [show ((2 ^ 64:Nat):Int)=18446744073709551616 from rfl];omega
 rw [BitVec.toNat_or,e1,e2,<-Nat.two_pow_add_eq_or_of_lt (i:=8) (b:=c.toNat) ab n.toNat];simp only [show (2:Nat) ^ 8=256 from rfl];have:((256*n.toNat+c.toNat:Nat):Int)=n*256+c:=by omega
 rw [this];exact wI
abbrev qn:=Int × List Int
structure Dk where
 room:Int
 nM:Int
 wait:Int
 safe:List qn
 l:List qn
def acM:Bool->List qn->qn->List qn
 |done,[],w=>if done then [] else [w]
 |done,x::t,w=>(if done=false/\x.1>=w.1 then [w] else [])++(if x.1≠w.1 then [x] else [])++acM (done||decide (x.1>=w.1)) t w
def lay(l:List qn)(w:qn):List qn:=acM false l w
def tH(d:Dk):List qn:=d.l.foldl lay d.safe
def mY(l:List qn):Nat:=(l.map λx=>x.2.length).sum
def lI(l:List qn)(k:Int):Option (List Int):=(l.find? λx=>x.1==k).map (·.2)
def iY(d:Dk):Dk × Bool:=if 0<d.wait then ({d with wait:=0},false) else if 0<d.nM then ({d with nM:=d.nM-1},true) else (d,false)
def lE(d:Dk)(k:Int)(b:List Int):Dk × Int:=
 if (iY d).2=true then ((iY d).1,9) else if (mY (lay (tH d) (k,b)):Int)>d.room then ((iY d).1,8) else ({(iY d).1 with l:=d.l++ [(k,b)]},0)
def getD(d:Dk)(k:Int):List Int:=(lI (tH d) k).getD []
def qO(d:Dk):Dk × Int:=if (iY d).2=true then ((iY d).1,9) else ({(iY d).1 with safe:=tH d,l:=[]},0)
def Ki:∀(l:List qn)(w:qn),acM true l w=l.filter λx=>decide (x.1≠w.1)
 | [],_=>rfl
 |x::t,w=>by
  unfold acM
  rw [if_neg cj,Bool.true_or,Ki t w,Cs]
  by_cases h:x.1=w.1<;>simp [h]
def ur:∀(l:List qn)(w:qn),(lay l w).Perm (w::l.filter λx=>decide (x.1≠w.1))
 | [],_=> .refl _
 |x::t,w=>by
  unfold lay acM
  rw [Bool.false_or]
  by_cases h:x.1>=w.1
  ·rw [if_pos ⟨rfl,h⟩,decide_eq_true h,Ki,Cs]
   by_cases h2:x.1=w.1
   ·rw [if_neg (by simp [h2]),if_neg (by simp [h2])];exact .refl _
   ·rw [if_pos h2,if_pos (by simp [h2])];exact .refl _
  ·rw [if_neg λq=>h q.2,decide_eq_false h,if_pos ab,Cs,if_pos (by simp;omega)]
   have ih:=ur t w
   unfold lay at ih
   exact (List.Perm.cons x ih).trans (List.Perm.swap _ _ _)
def iD(l:List qn):List Int:=l.map (·.1)
def LQ{l:List qn}(p:qn->Bool)(h:(iD l).Nodup):(iD (l.filter p)).Nodup:=h.sublist ((List.filter_sublist).map _)
def Kj{l:List qn}{w:qn}(h:(iD l).Nodup):(iD (lay l w)).Nodup:=by refine ((ur l w).map (·.1)).nodup_iff.2 ?_;rw [fT];refine oY.2 ⟨λhm=> ?_,LQ _ h⟩;obtain ⟨x,hx,e⟩:=aY.1 hm;have:=(kA.1 hx).2;simp at this;exact this e
def uI:∀(t:List qn) {l:List qn},(iD l).Nodup->(iD (t.foldl lay l)).Nodup
 | [],_,h=>h
 |w::t,_,h=>uI t (Kj h)
def JE{a b:List qn}(h:a.Perm b):mY a=mY b:=(h.map λx:qn=>x.2.length).sum_nat
def q8(x:qn)(t:List qn):mY (x::t)=x.2.length+mY t:=rfl
def BD{l:List qn}(h:(iD l).Nodup){k:Int}{b:List Int}:lI l k=some b ↔(k,b) ∈ l:=by
 unfold lI
 induction l with
 |nil=>simp
 |cons x t ih=>
  have hn:=oY.1 h;rw [List.find?_cons];by_cases e:x.1=k
  ·rw [beq_iff_eq.2 e];simp only [pV,Option.some.injEq,cR];constructor
   ·rintro rfl;exact .inl (by rw [<-e])
   ·rintro (q|q)
    ·rw [<-q]
    ·exact absurd (aY.2 ⟨_,q,e.symm⟩) hn.1
  ·rw [show (x.1==k)=false by simpa using e,ih hn.2];simp only [cR];constructor
   ·exact .inr
   ·rintro (q|q)
    ·exact absurd (by rw [<-q]) e
    ·exact q
def BC{l:List qn}{k:Int}:lI l k=none ↔ ∀x ∈ l,x.1≠k:=by unfold lI;rw [Option.map_eq_none_iff,CR];simp
def Jz{a b:List qn}(h:a.Perm b)(ha:(iD a).Nodup)(k:Int):lI a k=lI b k:=by
 have hb:(iD b).Nodup:=(h.map λx:qn=>x.1).nodup_iff.1 ha
 cases q:lI b k with
 |some x=>exact (BD ha).2 (h.mem_iff.2 ((BD hb).1 q))
 |none=>exact BC.2 λx hx=>BC.1 q x (h.mem_iff.1 hx)
def ab5{l:List qn}(h:(iD l).Nodup)(w:qn)(k:Int):lI (lay l w) k=if k=w.1 then some w.2 else lI l k:=by
 rw [Jz (ur l w) (Kj h)];by_cases e:k=w.1
 ·rw [if_pos e];unfold lI;rw [List.find?_cons,beq_iff_eq.2 e.symm];rfl
 ·rw [if_neg e];unfold lI;rw [List.find?_cons,show (w.1==k)=false by simpa using λq=>e q.symm,List.find?_filter];show Option.map _ (List.find? _ l)=Option.map _ (List.find? _ l);congr 1;congr 1;funext x;by_cases q:x.1=k
  ·simp [q,e]
  ·simp [q]
def CT{l:List qn}(h:(iD l).Nodup)(k:Int):mY (l.filter λx=>decide (x.1≠k))+((lI l k).getD []).length=mY l:=by
 induction l with
 |nil=>rfl
 |cons x t ih=>
  have hn:=oY.1 h;rw [Cs];by_cases e:x.1=k
  ·rw [if_neg (by simp [e])];have hg:lI (x::t) k=some x.2:=by unfold lI;rw [List.find?_cons,beq_iff_eq.2 e];rfl
   have ht:t.filter (λx=>decide (x.1≠k))=t:=ML.2 λy hy=>by simp only [ne_eq,decide_not,Bool.not_eq_true',fk];intro q;exact hn.1 (aY.2 ⟨y,hy,q.trans e.symm⟩)
   rw [hg,ht,q8,Option.getD_some];omega
  ·rw [if_pos (by simp [e])];have hg:lI (x::t) k=lI t k:=by unfold lI;rw [List.find?_cons,show (x.1==k)=false by simpa using e]
   have:=ih hn.2;rw [hg,q8,q8];omega
def aby{l:List qn}(h:(iD l).Nodup)(w:qn):mY (lay l w)+((lI l w.1).getD []).length=mY l+w.2.length:=by have:=CT h w.1;rw [JE (ur l w),q8];omega
structure rU(d:Dk):Prop where
 nd:(iD d.safe).Nodup
 len:∀k,(mY ((d.l.take k).foldl lay d.safe):Int)<=d.room
 w:0<=d.wait/\d.wait<=1
 f:0<=d.nM/\d.nM<=9223372036854775807
 r:0<=d.room/\d.room<=1048576
def rU.now{d:Dk}(h:rU d):(iD (tH d)).Nodup:=uI _ h.nd
def rU.ajy{d:Dk}(h:rU d):(mY (tH d):Int)<=d.room:=by have:=h.len d.l.length;rwa [ja] at this
def lV(d:Dk):(iY d).1.safe=d.safe/\(iY d).1.l=d.l/\(iY d).1.room=d.room:=by
 unfold iY;split
 ·exact ⟨rfl,rfl,rfl⟩
 ·split<;>exact ⟨rfl,rfl,rfl⟩
def rU.ask{d:Dk}(h:rU d):rU (iY d).1:=by
 obtain ⟨e1,e2,e3⟩:=lV d;refine ⟨by rw [e1];exact h.nd,by rw [e1,e2,e3];exact h.len,?_,?_,by rw [e3];exact h.r⟩
 ·unfold iY;have:=h.w;split
  ·simp
  ·split<;>exact this
 ·unfold iY;have:=h.f;split
  ·exact this
  ·split
   ·simp only;omega
   ·exact this
def rU.put{d:Dk}(h:rU d)(k:Int)(b:List Int):rU (lE d k b).1:=by
 have ha:=h.ask;obtain ⟨e1,e2,e3⟩:=lV d;unfold lE;split
 ·exact ha
 ·split
  ·exact ha
  ·rename_i hr;refine ⟨by rw [e1];exact h.nd,λn=> ?_,ha.w,ha.f,ha.r⟩;rw [e1,e3];simp only;by_cases hn:n<=d.l.length
   ·rw [C1 hn];exact h.len n
   ·rw [fz (by simp;omega),pk];show (mY (lay (tH d) (k,b)):Int)<=_;omega
def rU.sync{d:Dk}(h:rU d):rU (qO d).1:=by
 have ha:=h.ask;obtain ⟨e1,e2,e3⟩:=lV d;unfold qO;split
 ·exact ha
 ·refine ⟨h.now,λn=> ?_,ha.w,ha.f,ha.r⟩;simp only [List.take_nil,List.foldl_nil];rw [e3];exact h.ajy
open Classical in
noncomputable def KE{α:Type}(f:α->Int)(l:List α)(x:α):List α:=if ∃y ∈ l,f y=f x then l.map (λy=>if f y=f x then x else y) else l++ [x]
def Jc{α:Type}(f:α->Int)(x:α):∀{l:List α},(l.map f).Nodup->(KE f l x).Perm (x::l.filter λy=>decide (f y≠f x))
 | [],_=>by unfold KE;rw [if_neg cj];exact .refl _
 |y::t,h=>by
  have hn:=oY.1 h
  have ih:=Jc f x hn.2
  by_cases e:f y=f x
  ·have lq:∀z ∈ t,f z≠f x:=λz hz q=>hn.1 (aY.2 ⟨z,hz,q.trans e.symm⟩)
   unfold KE
   rw [if_pos ⟨y,.head _,e⟩,fT,if_pos e,Cs,if_neg (by simp [e])]
   rw [ML.2 (λz hz=>by simpa using lq z hz)]
   have:t.map (λy=>if f y=f x then x else y)=t:=by
    conv=>rhs;rw [<-List.map_id t]
    exact yT λz hz=>by rw [if_neg (lq z hz)];rfl
   rw [this]
  ·rw [Cs,if_pos (by simp [e])];refine List.Perm.trans ?_ (List.Perm.swap _ _ _);refine List.Perm.trans ?_ (List.Perm.cons y ih);unfold KE;by_cases q:∃z ∈ t,f z=f x
   ·obtain ⟨z,hz,qz⟩:=q;rw [if_pos ⟨z,.tail _ hz,qz⟩,if_pos ⟨z,hz,qz⟩,fT,if_neg e]
   ·rw [if_neg (by
     rintro ⟨z,hz,qz⟩;rcases cR.1 hz with rfl|hz
     ·exact e qz
     ·exact q ⟨z,hz,qz⟩),if_neg q]
    exact .refl _
def aap{α:Type}{f:α->Int}{l:List α}{x y:α}(h:y ∈ KE f l x):y=x\/y ∈ l:=by
 unfold KE at h;split at h
 ·obtain ⟨z,hz,e⟩:=aY.1 h;split at e
  ·exact .inl e.symm
  ·exact .inr (e▸hz)
 ·rcases c5.1 h with h|h
  ·exact .inr h
  ·exact .inl (by simpa using h)
def aaq{α:Type}{f:α->Int}{g:α->List Int}{l:List α}{s:List qn}(x:α)(h:(l.map λy=>(f y,g y)).Perm s)(hn:(iD s).Nodup):((KE f l x).map λy=>(f y,g y)).Perm (lay s (f x,g x)):=by
 have hk:(l.map f).Nodup:=by have:=(h.map λy:qn=>y.1).nodup_iff.2 hn;rwa [mS] at this
 refine ((Jc f x hk).map _).trans ?_;refine List.Perm.trans ?_ (ur s (f x,g x)).symm;rw [fT];refine List.Perm.cons _ ?_;have:=h.filter λy=>decide (y.1≠f x)
 rw [List.filter_map] at this;exact this
abbrev Rc:=Int × Int × List Int
def fA(best:Rc)(slot:Int)(r:Int × List Int × Int):Rc:=if r.2.2=0/\r.1>best.2.1 then (slot,r.1,r.2.1) else best
def fU(D:Dk)(id:Int):Rc:=fA (fA (2*id+1,0,[]) (2*id) (nZ (getD D (2*id)))) (2*id+1) (nZ (getD D (2*id+1)))
def tB(id:Int):Bool:=decide (0<=id) && decide (id<=1099511627776)
def tU(D:Dk)(id:Int):List Int × Int × Bool:=if tB id=true then ((fU D id).2.2,(fU D id).2.1,decide ((fU D id).2.1>0)) else ([],0,false)
def nH(D:Dk)(id:Int)(body:List Int):Dk × Int:=
 if tB id=true then
  if (yJ ((fU D id).2.1+1) body).2≠0 then (D,(yJ ((fU D id).2.1+1) body).2)
  else if (lE D (4*id+1-(fU D id).1) (yJ ((fU D id).2.1+1) body).1).2≠0 then lE D (4*id+1-(fU D id).1) (yJ ((fU D id).2.1+1) body).1
  else qO (lE D (4*id+1-(fU D id).1) (yJ ((fU D id).2.1+1) body).1).1
 else (D,1)
def afb(n:Nat):(2*n) ^^^ 1=2*n+1/\(2*n+1) ^^^ 1=2*n:=by
 have h1:=Nat.xor_div_two (a:=2*n) (b:=1);have par:∀a:Nat,(a ^^^ 1) % 2=1 ↔ ¬a % 2=1:=λa=>by have:=Nat.testBit_xor a 1 0;rw [Nat.testBit_zero,Nat.testBit_zero,Nat.testBit_zero] at this;simp only [Nat.reduceMod,decide_true,Bool.xor_true] at this;rw [<-decide_eq_true_iff (p:=(a ^^^ 1) % 2=1),this];simp
 have h2:=par (2*n);have h3:=Nat.xor_div_two (a:=2*n+1) (b:=1);have h4:=par (2*n+1);rw [show 1 / 2=0 from rfl,Nat.xor_zero] at h1 h3;omega
def aar{id:Int}(h:0<=id/\id<=1099511627776):lD .i64 (2*id) 1=2*id+1/\lD .i64 (2*id+1) 1=2*id:=by
 have key:∀n:Nat,n<=2 ^ 60->lD .i64 (n:Int) 1=((n ^^^ 1:Nat):Int):=λn hn=>by
  show ak ((BitVec.ofInt 64 (n:Int) ^^^ BitVec.ofInt 64 1).toNat:Nat)=_;have e1:(BitVec.ofInt 64 (n:Int)).toNat=n:=by rw [Ct];simp only [show ((2 ^ 64:Nat):Int)=18446744073709551616 from rfl];omega
  rw [BitVec.toNat_xor,e1];show ak ((n ^^^ 1:Nat):Int)=_;have:n ^^^ 1<2 ^ 61:=Nat.xor_lt_two_pow ab aG;exact wI
 obtain ⟨x1,x2⟩:=afb id.toNat;constructor
 ·have:=key (2*id.toNat) ab;rw [x1] at this;rw [show 2*id=((2*id.toNat:Nat):Int) by omega,this];omega
 ·have:=key (2*id.toNat+1) ab;rw [x2] at this;rw [show 2*id+1=((2*id.toNat+1:Nat):Int) by omega,this];omega
def E7{best:Rc}{slot:Int}{r:Int × List Int × Int}:(fA best slot r).1=best.1\/(fA best slot r).1=slot:=by
 unfold fA;split
 ·exact .inr rfl
 ·exact .inl rfl
def MM(D:Dk)(id:Int):(fU D id).1=2*id\/(fU D id).1=2*id+1:=by
 unfold fU;rcases E7 (best:=fA (2*id+1,0,[]) (2*id) (nZ (getD D (2*id)))) (slot:=2*id+1) (r:=nZ (getD D (2*id+1))) with h|h
 ·rw [h];rcases E7 (best:=(2*id+1,0,[])) (slot:=2*id) (r:=nZ (getD D (2*id))) with h|h
  ·exact .inr h
  ·exact .inl h
 ·exact .inr h
def aja(b:List Int):0<=(nZ b).1/\(nZ b).1<=1073741824:=by
 by_cases h:(nZ b).2.2=0
 ·have:=amN h;omega
 ·rw [(ahF h).1];omega
def Ux{best:Rc}{slot:Int}(b:List Int)(h:0<=best.2.1/\best.2.1<=1073741824):0<=(fA best slot (nZ b)).2.1/\(fA best slot (nZ b)).2.1<=1073741824:=by
 unfold fA;split
 ·exact aja b
 ·exact h
def aas(D:Dk)(id:Int):0<=(fU D id).2.1/\(fU D id).2.1<=1073741824:=Ux _ (Ux _ (show (0:Int)<=0/\(0:Int)<=1073741824 by decide))
def rU.save{D:Dk}(h:rU D)(id:Int)(b:List Int):rU (nH D id b).1:=by
 unfold nH;split
 ·split
  ·exact h
  ·split
   ·exact h.put _ _
   ·exact (h.put _ _).sync
 ·exact h
def aat(D:Dk):(iY D).1.l=D.l:=(lV D).2.1
def aau(D:Dk)(k:Int)(b:List Int):(lE D k b).1.l.length<=D.l.length+1:=by
 unfold lE;split
 ·rw [aat];omega
 ·split
  ·rw [aat];omega
  ·simp
def ajb(D:Dk):(qO D).1.l.length<=D.l.length:=by
 unfold qO;split
 ·rw [aat];omega
 ·simp
def aav(D:Dk)(id:Int)(b:List Int):(nH D id b).1.l.length<=D.l.length+1:=by
 unfold nH;split
 ·split
  ·exact oZ _
  ·split
   ·exact aau _ _ _
   ·exact gD (ajb _) (aau _ _ _)
 ·exact oZ _
structure Cln(D:Dk):Prop where
 l:D.l=[]
 f:D.nM=0
 w:D.wait=0
def Cln.ask{D:Dk}(h:Cln D):iY D=(D,false):=by unfold iY;rw [if_neg (by rw [h.w];decide),if_neg (by rw [h.f];decide)]
def Cln.now{D:Dk}(h:Cln D):tH D=D.safe:=by unfold tH;rw [h.l];rfl
def abd{D:Dk}(h:Cln D)(k:Int):getD D k=(lI D.safe k).getD []:=by unfold getD;rw [h.now]
def Oa{best:Rc}{slot:Int}{r:Int × List Int × Int}:best.2.1<=(fA best slot r).2.1:=by
 unfold fA;split
 ·rename_i h;simp only;omega
 ·exact pf _
def Jw{best:Rc}{slot:Int}(b:List Int)(hb:0<=best.2.1):(nZ b).1<=(fA best slot (nZ b)).2.1:=by
 unfold fA;split
 ·simp only;omega
 ·rename_i h;by_cases q:(nZ b).2.2=0
  ·have:¬(nZ b).1>best.2.1:=λq2=>h ⟨q,q2⟩
   omega
  ·rw [(ahF q).1];exact hb
def ajr(D:Dk)(id:Int):(nZ (getD D (2*id))).1<=(fU D id).2.1/\(nZ (getD D (2*id+1))).1<=(fU D id).2.1:=by have h0:(0:Int)<=((2*id+1,0,[]):Rc).2.1:=pf 0;have h1:=Jw (best:=(2*id+1,0,[])) (slot:=2*id) (getD D (2*id)) h0;have h2:0<=(fA (2*id+1,0,[]) (2*id) (nZ (getD D (2*id)))).2.1:=Int.le_trans h0 Oa;exact ⟨Int.le_trans h1 Oa,Jw _ h2⟩
def afA{D:Dk}{id:Int}{body:List Int}(hc:Cln D)(hid:0<=id/\id<=1099511627776)(hv:(fU D id).2.1<1073741824)(hb:(body.length:Int)<=65536)
  (hroom:(mY (lay D.safe (4*id+1-(fU D id).1,fV (fG ((fU D id).2.1+1) body))):Int)<=D.room):
  nH D id body=({D with safe:=lay D.safe (4*id+1-(fU D id).1,fV (fG ((fU D id).2.1+1) body)),l:=[]},0):=by
 have h0:=aas D id;have hw:yJ ((fU D id).2.1+1) body=(fV (fG ((fU D id).2.1+1) body),0):=by unfold yJ;rw [if_neg ab]
 have hm:tB id=true:=by unfold tB;simp;omega
 have hp:lE D (4*id+1-(fU D id).1) (fV (fG ((fU D id).2.1+1) body))=({D with l:=[(4*id+1-(fU D id).1,fV (fG ((fU D id).2.1+1) body))]},0):=by unfold lE;rw [hc.ask,if_neg cj,hc.now,if_neg ab,hc.l];rfl
 unfold nH;rw [if_pos hm,hw,if_neg cj,hp,if_neg cj];unfold qO;have ha:iY {D with l:=[(4*id+1-(fU D id).1,fV (fG ((fU D id).2.1+1) body))]}=({D with l:=[(4*id+1-(fU D id).1,fV (fG ((fU D id).2.1+1) body))]},false):=by unfold iY;rw [if_neg (by show ¬0<D.wait;rw [hc.w];decide),if_neg (by show ¬0<D.nM;rw [hc.f];decide)]
 simp only [ha];rw [if_neg cj];rfl
def abe{v:Int}{body:List Int}(hv:1<=v/\v<=1073741824)(hb:(body.length:Int)<=65536):nZ (fV (fG v body))=(v,body,0):=amZ hv hb
def abf{D D':Dk}{id:Int}(h:fU D' id=fU D id):tU D' id=tU D id:=by unfold tU;rw [h]
def UT{room id:Int}:tU ⟨room,0,0,[],[]⟩ id=([],0,false):=by unfold tU;split<;>rfl
end Go.dm
namespace Go.fZ
open Go Go.Vc
abbrev Cl:=Int × Int × Int
abbrev It:=Int × Cl
def cv(c:Cl):Value:=.agg #[c.1,c.2.1,c.2.2]
def tv(t:Int):Value:=.int .i64 t
abbrev dO(c:Cl):LV:=[.int .i64 c.1,.int .i64 c.2.1,.int .i64 c.2.2]
abbrev gj(x:It):LV:=[.int .i64 x.1,.int .i64 x.2.1,.int .i64 x.2.2.1,.int .i64 x.2.2.2]
def Gi{a b:Cl}(h:cv a=cv b):a=b:=by grind [cv]
structure QS where
 room:Int
 lost:Int
 l:List It
def iu(l:List It)(c:Cl):List It:=l.filter λx=>x.2 !=c
def xR(l:List It)(x:It):List It:=l.takeWhile (λy=>y.1<=x.1)++x::l.dropWhile (λy=>y.1<=x.1)
def pq(l:List It)(c:Cl):Option Int:=(l.find? λx=>x.2==c).map (·.1)
def pM(q:QS)(c:Cl)(t:Int):QS × Bool:=
 match pq q.l c with
 |some was=>if was<=t then (q,false) else ({q with l:=xR (iu q.l c) (t,c)},true)
 |none=>if (q.l.length:Int)>=q.room then ({q with lost:=q.lost+1},false) else ({q with l:=xR q.l (t,c)},true)
def iG(l:List It)(now many:Int):Nat:=min (l.takeWhile λy=>y.1<=now).length many.toNat
def Ll(q:QS)(now many:Int):QS × List Cl:=({q with l:=q.l.drop (iG q.l now many)},(q.l.take (iG q.l now many)).map (·.2))
structure Lk(q:QS):Prop where
 room:1<=q.room/\q.room<=4096
 len:(q.l.length:Int)<=q.room
 sorted:q.l.Pairwise λa b=>a.1<=b.1
 nodup:(q.l.map (·.2)).Nodup
def BN(l:List It)(c:Cl):(iu l c).Sublist l:=List.filter_sublist
def Gj{l:List It}{c:Cl}{t:Int}(h:pq l c=some t):(t,c) ∈ l:=by
 unfold pq at h
 cases hf:l.find? (λx=>x.2==c) with
 |none=>rw [hf] at h;cases h
 |some x=>
  rw [hf] at h;have h1:=List.find?_some hf;have h2:=U0 hf;obtain ⟨a,b⟩:=x;simp at h h1;subst h;subst h1;exact h2
def sB{l:List It}{c:Cl}(h:pq l c=none):∀x ∈ l,x.2≠c:=by unfold pq at h;rw [Option.map_eq_none_iff,CR] at h;intro x hx e;exact h x hx (by simp [e])
def JF{l:List It}(h:l.Pairwise λa b=>a.1<=b.1)(t:Int):(∀y ∈ l.takeWhile (λy=>y.1<=t),y.1<=t)/\(∀y ∈ l.dropWhile (λy=>y.1<=t),t<y.1):=by
 induction l with
 |nil=>simp
 |cons a l ih=>
  rw [List.pairwise_cons] at h;by_cases ha:a.1<=t
  ·rw [List.takeWhile_cons_of_pos (by simpa using ha),List.dropWhile_cons_of_pos (by simpa using ha)];obtain ⟨i1,i2⟩:=ih h.2;refine ⟨λy hy=> ?_,i2⟩;rcases cR.1 hy with rfl|hy
   ·exact ha
   ·exact i1 y hy
  ·rw [List.takeWhile_cons_of_neg (by simpa using ha),List.dropWhile_cons_of_neg (by simpa using ha)];refine ⟨by simp,λy hy=> ?_⟩;rcases cR.1 hy with rfl|hy
   ·omega
   ·have:=h.1 y hy;omega
def Ab{l:List It}(h:l.Pairwise λa b=>a.1<=b.1)(t:Int){i:Nat}{y:It}(hi:l[i]? =some y):i<(l.takeWhile (λy=>y.1<=t)).length ↔ y.1<=t:=by
 have hs:=JF h t;have e:=JG (p:=λy:It=>decide (y.1<=t)) (l:=l);constructor
 ·intro iS;rw [<-e,pU iS] at hi;exact hs.1 y (aU hi)
 ·intro hle;rcases jA i (l.takeWhile (λy=>y.1<=t)).length with iS|Qj
  ·exact iS
  ·rw [<-e,sV Qj] at hi;have:=hs.2 y (aU hi);omega
def afO(l:List It)(x:It):l.take (l.takeWhile λy=>decide (y.1<=x.1)).length++x::l.drop (l.takeWhile λy=>decide (y.1<=x.1)).length=xR l x:=by
 have h:∀(a b l:List It),a++b=l->l.take a.length++x::l.drop a.length=a++x::b:=by rintro a b _ rfl;simp
 exact h _ _ _ (JG (p:=λy:It=>decide (y.1<=x.1)) (l:=l))
def Oq(l:List It)(x:It):(xR l x).length=l.length+1:=by have e:=congrArg List.length (JG (p:=λy:It=>decide (y.1<=x.1)) (l:=l));unfold xR;simp only [cS,c8] at e ⊢;omega
def Gk(l:List It)(x y:It):y ∈ xR l x ↔ y=x\/y ∈ l:=by
 unfold xR;conv=>rhs;rw [<-JG (p:=λy:It=>decide (y.1<=x.1)) (l:=l)]
 simp only [c5,cR];constructor
 ·rintro (h|h|h)
  ·exact .inr (.inl h)
  ·exact .inl h
  ·exact .inr (.inr h)
 ·rintro (h|h|h)
  ·exact .inr (.inl h)
  ·exact .inl h
  ·exact .inr (.inr h)
def CX{l:List It}(h:l.Pairwise λa b=>a.1<=b.1)(x:It):(xR l x).Pairwise λa b=>a.1<=b.1:=by
 have hs:=JF h x.1;have e:=JG (p:=λy:It=>decide (y.1<=x.1)) (l:=l);unfold xR;rw [<-e,List.pairwise_append] at h;rw [List.pairwise_append];refine ⟨h.1,List.pairwise_cons.2 ⟨λy hy=>by have:=hs.2 y hy;omega,h.2.1⟩,λa ha b hb=> ?_⟩;rcases cR.1 hb with rfl|hb
 ·exact hs.1 a ha
 ·exact h.2.2 a ha b hb
def Gl{l:List It}(h:(l.map (·.2)).Nodup){x:It}(hx:∀y ∈ l,y.2≠x.2):((xR l x).map (·.2)).Nodup:=by
 have e:=JG (p:=λy:It=>decide (y.1<=x.1)) (l:=l);unfold xR;have hx':∀y ∈ l.takeWhile (λy=>y.1<=x.1)++l.dropWhile (λy=>y.1<=x.1),y.2≠x.2:=by rw [e];exact hx
 rw [<-e,bX,td] at h;rw [bX,fT,td];refine ⟨h.1,oY.2 ⟨λhm=> ?_,h.2.1⟩,λa ha b hb=> ?_⟩
 ·obtain ⟨y,hy,e⟩:=aY.1 hm;exact hx' y (Ot _ hy) e
 ·rcases cR.1 hb with rfl|hb
  ·obtain ⟨y,hy,rfl⟩:=aY.1 ha;exact hx' y (Gm _ hy)
  ·exact h.2.2 a ha b hb
def Lk.add{q:QS}(h:Lk q)(c:Cl)(t:Int):Lk (pM q c t).1:=by
 unfold pM;split
 ·rename_i was hw;split
  ·exact h
  ·have eQ:=BN q.l c;have iS:(iu q.l c).length<q.l.length:=by
    have hm:=Gj hw;have:(iu q.l c).length≠q.l.length:=λe=>by have:=eQ.eq_of_length e;rw [<-this] at hm;unfold iu at hm;simp at hm
    have:=eQ.length_le;omega
   have:=h.len;exact ⟨h.room,by rw [Oq];show ((_:Nat):Int)<=q.room;omega,CX (h.sorted.sublist eQ) _,Gl ((eQ.map _).nodup h.nodup) (λy hy=>by unfold iu at hy;simp at hy;exact hy.2)⟩
 ·rename_i hn;split
  ·exact ⟨h.room,h.len,h.sorted,h.nodup⟩
  ·exact ⟨h.room,by rw [Oq];show ((_:Nat):Int)<=q.room;omega,CX h.sorted _,Gl h.nodup (sB hn)⟩
def Lk.drop{q:QS}(h:Lk q)(c:Cl):Lk {q with l:=iu q.l c}:=by have eQ:=BN q.l c;have:=eQ.length_le;have:=h.len;exact ⟨h.room,by show ((iu q.l c).length:Int)<=q.room;omega,h.sorted.sublist eQ,(eQ.map _).nodup h.nodup⟩
def Lk.due{q:QS}(h:Lk q)(now many:Int):Lk (Ll q now many).1:=by have eQ:(q.l.drop (iG q.l now many)).Sublist q.l:=List.drop_sublist _ _;have:=eQ.length_le;have:=h.len;exact ⟨h.room,by show ((q.l.drop (iG q.l now many)).length:Int)<=q.room;omega,h.sorted.sublist eQ,(eQ.map _).nodup h.nodup⟩
def JB(q:QS)(c:Cl)(t:Int):q.lost<=(pM q c t).1.lost/\(pM q c t).1.lost<=q.lost+1:=by grind [pM]
def Xo{q:QS}(h:Lk q)(now many:Int){k:Nat}{x:It}(hx:q.l[k]? =some x):k<iG q.l now many ↔(k:Int)<many/\x.1<=now:=by have:=Ab h.sorted now hx;unfold iG;rw [<-this];omega
def Xp(l:List It)(now many:Int):iG l now many<=l.length:=by have:=(List.takeWhile_sublist (λy:It=>decide (y.1<=now)) (l:=l)).length_le;unfold iG;omega
end Go.fZ
namespace Go.fZ
end Go.fZ
namespace Go.fh
open Go Go.Vc Go.dm Go.fZ
abbrev Cg:=Ce × Int
def qU(b:Int):Bool:=decide (8<=b) && decide (b<16)
def jL(b:Int):Int:=if b=3 then 2 else if qU b then 5 else 0
def hZ(b:Int):Int:=if qU b then b-8 else -1
def jb(l:Int):Int:=8+min (max l 0) 7
def kg(b:Int):Bool:=decide (b=0)||qU b
def fu(c:Ce):Ce:=(c.1,c.2.1-1,c.2.2)
def C4(c:Ce):Ce:=(c.1,c.2.1+1,c.2.2)
def dy(c:Ce):List Ce:=[(c.1-1,c.2.1,c.2.2),(c.1+1,c.2.1,c.2.2),(c.1,c.2.1,c.2.2-1),(c.1,c.2.1,c.2.2+1)]
def sa(c:Ce):List Ce:=[(c.1-1,c.2.1,c.2.2),(c.1+1,c.2.1,c.2.2),fu c,C4 c,(c.1,c.2.1,c.2.2-1),(c.1,c.2.1,c.2.2+1)]
def sy(V:Ce->Int)(c:Ce):List Ce:=(c::sa c).filter λn=>decide (0<jL (V n))
def Gc(V:Ce->Int)(now:Int)(q:QS)(c:Ce):QS:=(sy V c).foldl (λq n=>(pM q n (now+jL (V n))).1) q
def KK(V:Ce->Int)(l:List Ce):Int:=l.foldl (λm n=>if 0<=hZ (V n) then min m (hZ (V n)) else m) 7
def hX(V:Ce->Int)(c:Ce):Int × Bool:=if qU (V (C4 c)) then (1,true) else if KK V (dy c)=7 then (0,false) else (KK V (dy c)+1,true)
def Kb(V:Ce->Int)(c:Ce):List Cg:=if kg (V (fu c)) then [(c,V (fu c)),(fu c,3)] else []
def lW(V:Ce->Int)(c:Ce)(level:Int):List Cg:=
 if 0<level/\(hX V c).2=false then [(c,0)]
 else if 0<level/\(hX V c).1≠level then [(c,jb (hX V c).1)]
 else if V (fu c)=0 then [(fu c,jb 1)]
 else if qU (V (fu c))=true\/7<=level then []
 else ((dy c).filter λn=>decide (V n=0)).map λn=>(n,jb (level+1))
def gF(V:Ce->Int)(c:Ce):List Cg:=if V c=3 then Kb V c else if qU (V c) then lW V c (hZ (V c)) else []
end Go.fh
namespace Go.iU
open Go Go.Vc Go.dm
abbrev Bx:=Ce × Ce
def dz(n:Int):Int:=min (max n (-140737488355328)) 140737488355328
def fI(a b:Int):Int:=dz (dz a+dz b)
def lG(a b:Int):Int:=dz (dz a-dz b)
def bV(n:Int):Int:=dz n / 65536
def uA(n:Int):Int:=dz n % 65536
def nL(n:Int):Int:=min (max n (-2147483648)) 2147483648*65536
def kc(n:Int): -140737488355328<=dz n/\dz n<=140737488355328:=by unfold dz;omega
def Bs(n:Int): -2147483648<=bV n/\bV n<=2147483648:=by have:=kc n;unfold bV;omega
def fO{n:Int}(h: -140737488355328<=n/\n<=140737488355328):dz n=n:=by unfold dz;omega
def bZ(v:Ce)(i:Int):Int:=if i=0 then v.1 else if i=1 then v.2.1 else if i=2 then v.2.2 else 0
def Ni(f:Int->Int->Int)(v:Ce):Ce:=(f 0 v.1,f 1 v.2.1,f 2 v.2.2)
def jK(a b:Ce):Ce:=Ni (λi n=>fI n (bZ b i)) a
def xt(a b:Ce):Ce:=Ni (λi n=>lG n (bZ b i)) a
def gJ(v:Ce)(ax n:Int):Ce:=Ni (λi own=>if i=ax then dz n else own) v
def k8(aE:Ce)(w h:Int):Bx:=(xt aE (max w 0 / 2,0,max w 0 / 2),jK aE (max w 0 / 2,max h 0,max w 0 / 2))
def bw(v:Ce):Ce:=(bV v.1,bV v.2.1,bV v.2.2)
def k9(b:Bx)(i:Int):Bool:=decide (bZ b.1 i=bZ b.2 i) && decide (uA (bZ b.1 i)=0)
abbrev Bo(b:Bx):Ce:=bw (jK b.2 (-1,-1,-1))
def gI(b:Bx):Ce:=(if b.1.1=b.2.1 then (bw b.1).1 else (Bo b).1,if b.1.2.1=b.2.2.1 then (bw b.1).2.1 else (Bo b).2.1,if b.1.2.2=b.2.2.2 then (bw b.1).2.2 else (Bo b).2.2)
def wH(b:Bx):Bool:= !(k9 b 0||k9 b 1||k9 b 2)
def cB(a b:Int):Nat:=(b-a+1).toNat
def K0(a b:Ce):List Ce:=(List.range (cB a.2.1 b.2.1*cB a.2.2 b.2.2*cB a.1 b.1)).map λk:Nat=>
 (a.1+((k % cB a.1 b.1:Nat):Int),a.2.1+((k / cB a.1 b.1 / cB a.2.2 b.2.2:Nat):Int),a.2.2+((k / cB a.1 b.1 % cB a.2.2 b.2.2:Nat):Int))
def kr(b:Bx):List Ce:=if wH b then K0 (bw b.1) (gI b) else []
def g9(V:Ce->Int)(b:Bx)(p:Int->Bool):Bool:=(kr b).any λc=>p (V c)
def iZ(b:Bx):Bx:=(gJ b.1 1 (lG b.1.2.1 1),gJ b.2 1 b.1.2.1)
def vt(v:Ce):(-2147483648<=(bw v).1/\(bw v).1<=2147483648)/\(-2147483648<=(bw v).2.1/\(bw v).2.1<=2147483648)/\-2147483648<=(bw v).2.2/\(bw v).2.2<=2147483648:=⟨Bs _,Bs _,Bs _⟩
def UK(b:Bx):(-2147483648<=(gI b).1/\(gI b).1<=2147483648)/\(-2147483648<=(gI b).2.1/\(gI b).2.1<=2147483648)/\-2147483648<=(gI b).2.2/\(gI b).2.2<=2147483648:=by have h1:=vt b.1;have h2:=vt (jK b.2 (-1,-1,-1));unfold gI Bo;simp only;refine ⟨?_,?_,?_⟩<;>split<;>omega
def UL{a b i n:Nat}(h:i<n)(ha:a<b):a*n+i<b*n:=by have:=wC n (show a+1<=b from ha);rw [oX,Nat.one_mul] at this;omega
def UM{a i n:Nat}(h:i<n):(a*n+i) % n=i/\(a*n+i) / n=a:=by
 constructor
 ·rw [Nat.mul_add_mod',Nat.mod_eq_of_lt h]
 ·rw [uk,Nat.add_mul_div_right _ _ ab,Nat.div_eq_of_lt h,eD]
def UN(a b:Ce){jy jz jx:Nat}(hy:jy<cB a.2.1 b.2.1)(hz:jz<cB a.2.2 b.2.2)(hx:jx<cB a.1 b.1):
  (K0 a b)[(jy*cB a.2.2 b.2.2+jz)*cB a.1 b.1+jx]? =some (a.1+(jx:Int),a.2.1+(jy:Int),a.2.2+(jz:Int)):=by
 unfold K0;rw [aV,I9 (UL hx (UL hz hy))];obtain ⟨h1,h2⟩:=UM (a:=jy*cB a.2.2 b.2.2+jz) hx;obtain ⟨h3,h4⟩:=UM (a:=jy) hz;simp only [pV,h1,h2,h3,h4]
def aaR(a b:Ce):(K0 a b).length=cB a.2.1 b.2.1*cB a.2.2 b.2.2*cB a.1 b.1:=by unfold K0;simp
def Nj{a b c:Ce}(h:c ∈ K0 a b):(a.1<=c.1/\c.1<=b.1)/\(a.2.1<=c.2.1/\c.2.1<=b.2.1)/\a.2.2<=c.2.2/\c.2.2<=b.2.2:=by
 unfold K0 at h;obtain ⟨k,hk,rfl⟩:=aY.1 h;have hk:=oO.1 hk;have hx:0<cB a.1 b.1:=by
  by_cases q:cB a.1 b.1=0
  ·rw [q,Nat.mul_zero] at hk;omega
  ·omega
 have hz:0<cB a.2.2 b.2.2:=by
  by_cases q:cB a.2.2 b.2.2=0
  ·rw [q,Nat.mul_zero,Nat.zero_mul] at hk;omega
  ·omega
 have h1:=Nat.mod_lt k hx;have h2:=Nat.mod_lt (k / cB a.1 b.1) hz;have h3:k / cB a.1 b.1 / cB a.2.2 b.2.2<cB a.2.1 b.2.1:=by rw [Nat.div_div_eq_div_mul];refine Nat.div_lt_of_lt_mul ?_;rw [Nat.mul_comm (cB a.1 b.1),Nat.mul_comm,<-Nat.mul_assoc];exact hk
 generalize k % cB a.1 b.1=p1 at*;generalize k / cB a.1 b.1 / cB a.2.2 b.2.2=p2 at*;generalize k / cB a.1 b.1 % cB a.2.2 b.2.2=p3 at*;unfold cB at*;simp only;omega
def zC(n:Int):Int:=min (max n (-65536)) 65536 / 4
def Ar(n:Int):Int:=min (max n (-70368744177664)) 70368744177664
def kv(aE d:Ce):Ce:=xt (Ar (jK aE d).1,Ar (jK aE d).2.1,Ar (jK aE d).2.2) aE
def gl(h:Bool × Bool × Bool)(v:Ce):Ce:=(λv=>if h.2.2 then gJ v 2 0 else v) ((λv=>if h.2.1 then gJ v 1 0 else v) (if h.1 then gJ v 0 0 else v))
def lf(b:Bx)(ax k:Int):Bx:=(gJ b.1 ax (nL k),gJ b.2 ax (nL (k+1)))
def kN(d:Int):Int:=min (max d (-4194304)) 4194304
def S1(top d k:Int):Nat:=((top+d-k*65536+65535) / 65536).toNat
def pw(low d k:Int):Nat:=(((k+1)*65536-(low+d)+65535) / 65536).toNat
def cN(b:Bx)(ax d:Int):List (Int × Int):=
 if 0<d then (List.range (S1 (bZ b.2 ax) d (bV (bZ b.2 ax+65535)))).map λi:Nat=>(bV (bZ b.2 ax+65535)+i,(bV (bZ b.2 ax+65535)+i)*65536-bZ b.2 ax)
 else (List.range (pw (bZ b.1 ax) d (bV (bZ b.1 ax)-1))).map λi:Nat=>(bV (bZ b.1 ax)-1-i,(bV (bZ b.1 ax)-1-i+1)*65536-bZ b.1 ax)
def eE(V:Ce->Int)(p:Int->Bool)(b:Bx)(ax d:Int):Int × Bool:=
 match (cN b ax (kN d)).find? (λx=>g9 V (lf b ax x.1) p) with
 |some x=>(x.2,true)
 |none=>(kN d,false)
def UQ(b:Bx)(v:Ce):Bx:=(jK b.1 v,jK b.2 v)
def cw(V:Ce->Int)(p:Int->Bool)(b:Bx)(ax d:Int):Bx × Bool:=(UQ b (gJ (0,0,0) ax (eE V p b ax d).1),(eE V p b ax d).2)
def bY(b:Bx)(m:Int):Prop:=((-m<=b.1.1/\b.1.1<=m)/\(-m<=b.1.2.1/\b.1.2.1<=m)/\-m<=b.1.2.2/\b.1.2.2<=m)/\(-m<=b.2.1/\b.2.1<=m)/\(-m<=b.2.2.1/\b.2.2.1<=m)/\-m<=b.2.2.2/\b.2.2.2<=m
def bY.ax{b:Bx}{m:Int}(h:bY b m)(hm:0<=m)(i:Int):(-m<=bZ b.1 i/\bZ b.1 i<=m)/\-m<=bZ b.2 i/\bZ b.2 i<=m:=by unfold bY at h;unfold bZ;refine ⟨?_,?_⟩<;>(repeat' split)<;>omega
def U8{top d k:Int}{i:Nat}(h:top+d-k*65536<=100000000):(k+(i:Int))*65536<top+d ↔ i<S1 top d k:=by unfold S1;omega
def JR{low d k:Int}{i:Nat}:low+d<(k-(i:Int)+1)*65536 ↔ i<pw low d k:=by unfold pw;omega
def zL(d:Int): -4194304<=kN d/\kN d<=4194304:=by unfold kN;omega
def N5{b:Bx}{ax d:Int}(hb:bY b 100000000000000)(hd: -4194304<=d/\d<=4194304):∀x ∈ cN b ax d,(-1525900000<=x.1/\x.1<=1525900000)/\-4194304<=x.2/\x.2<=4194304:=by
 have hn:=hb.ax aG ax;have c1:=fO (n:=bZ b.2 ax+65535) ab;have c2:=fO (n:=bZ b.1 ax) ab;intro x hx;unfold cN at hx;split at hx
 ·obtain ⟨i,hi,rfl⟩:=aY.1 hx;have hi:=oO.1 hi;unfold S1 at hi;unfold bV at hi ⊢;rw [c1] at hi ⊢;simp only;omega
 ·obtain ⟨i,hi,rfl⟩:=aY.1 hx;have hi:=oO.1 hi;unfold pw at hi;unfold bV at hi ⊢;rw [c2] at hi ⊢;simp only;omega
def KO{V:Ce->Int}{p:Int->Bool}{b:Bx}{ax d:Int}(hb:bY b 100000000000000): -4194304<=(eE V p b ax d).1/\(eE V p b ax d).1<=4194304:=by
 unfold eE;split
 ·rename_i x hx;exact (N5 hb (zL d) x (U0 hx)).2
 ·exact zL d
def jq{a n m k:Int}(ha: -m<=a/\a<=m)(hn: -k<=n/\n<=k)(Zh:m+k<=140737488355328):fI a n=a+n/\-(m+k)<=fI a n/\fI a n<=m+k:=by unfold fI dz;omega
def XZ{b:Bx}{v:Ce}{m k:Int}(hb:bY b m)(hv:(-k<=v.1/\v.1<=k)/\(-k<=v.2.1/\v.2.1<=k)/\-k<=v.2.2/\v.2.2<=k)(Zh:m+k<=140737488355328):bY (UQ b v) (m+k):=by unfold bY at hb ⊢;obtain ⟨⟨h1,h2,h3⟩,h4,h5,h6⟩:=hb;obtain ⟨v1,v2,v3⟩:=hv;exact ⟨⟨(jq h1 v1 Zh).2,(jq h2 v2 Zh).2,(jq h3 v3 Zh).2⟩,(jq h4 v1 Zh).2,(jq h5 v2 Zh).2,(jq h6 v3 Zh).2⟩
def Jm{ax n k:Int}(hn: -k<=n/\n<=k)(hk:0<=k):(-k<=(gJ (0,0,0) ax n).1/\(gJ (0,0,0) ax n).1<=k)/\(-k<=(gJ (0,0,0) ax n).2.1/\(gJ (0,0,0) ax n).2.1<=k)/\-k<=(gJ (0,0,0) ax n).2.2/\(gJ (0,0,0) ax n).2.2<=k:=by grind [dz,gJ,Ni]
def dS{V:Ce->Int}{p:Int->Bool}{b:Bx}{ax d m:Int}(hb:bY b m)(hm:m<=100000000000000):bY (cw V p b ax d).1 (m+4194304):=by
 have hb':bY b 100000000000000:=by unfold bY at hb ⊢;omega
 exact XZ hb (Jm (KO hb') aG) ab
def kC(V:Ce->Int)(p:Int->Bool)(b:Bx)(d:Ce):Bx ×(Bool × Bool × Bool):=
 let y:=cw V p b 1 d.2.1
 let x:=cw V p y.1 0 d.1
 let z:=cw V p x.1 2 d.2.2
 (z.1,(x.2,y.2,z.2))
def KP{V:Ce->Int}{p:Int->Bool}{b:Bx}{d:Ce}{m:Int}(hb:bY b m)(hm:m<=99990000000000):bY (kC V p b d).1 (m+12582912):=by
 have h1:=dS (V:=V) (p:=p) (ax:=1) (d:=d.2.1) hb ab;have h2:=dS (V:=V) (p:=p) (ax:=0) (d:=d.1) h1 ab;have h3:=dS (V:=V) (p:=p) (ax:=2) (d:=d.2.2) h2 ab;have:m+4194304+4194304+4194304=m+12582912:=by omega
 rw [this] at h3;exact h3
def Oy(a b:Bx):Int:=max (b.1.1-a.1.1) (-(b.1.1-a.1.1))+max (b.1.2.2-a.1.2.2) (-(b.1.2.2-a.1.2.2))
def gG(V:Ce->Int)(p:Int->Bool)(b:Bx)(d:Ce)(up:Int):Bx ×(Bool × Bool × Bool):=
 let m:=kC V p b d
 if (!m.2.1 && !m.2.2.2)||decide (up<=0)|| !g9 V (iZ b) p then m
 else
  let high:=cw V p b 1 (min up 65536)
  let x:=cw V p high.1 0 d.1
  let z:=cw V p x.1 2 d.2.2
  let y:=cw V p z.1 1 (-(high.1.1.2.1-b.1.2.1))
  if Oy b y.1<=Oy b m.1 then m else (y.1,(x.2,true,z.2))
def eJ(a:Ce)(m:Int):Prop:=(-m<=a.1/\a.1<=m)/\(-m<=a.2.1/\a.2.1<=m)/\-m<=a.2.2/\a.2.2<=m
def vK(a b:Ce)(k:Int):Prop:=(-k<=b.1-a.1/\b.1-a.1<=k)/\(-k<=b.2.1-a.2.1/\b.2.1-a.2.1<=k)/\-k<=b.2.2-a.2.2/\b.2.2-a.2.2<=k
def vK.tr{a b c:Ce}{k n:Int}(h:vK a b k)(h':vK b c n):vK a c (k+n):=by unfold vK at*;omega
def vK.up{a b:Ce}{k n:Int}(h:vK a b k)(hn:k<=n):vK a b n:=by unfold vK at*;omega
def bY.lo{b:Bx}{m:Int}(h:bY b m):eJ b.1 m:=h.1
def bY.up{b:Bx}{m n:Int}(h:bY b m)(hmn:m<=n):bY b n:=by unfold bY at h ⊢;omega
def eJ.up{b:Ce}{m n:Int}(h:eJ b m)(hmn:m<=n):eJ b n:=by unfold eJ at h ⊢;omega
def UH{a v:Ce}{m k:Int}(ha:eJ a m)(hv:(-k<=v.1/\v.1<=k)/\(-k<=v.2.1/\v.2.1<=k)/\-k<=v.2.2/\v.2.2<=k)(Zh:m+k<=140737488355328):eJ (jK a v) (m+k)/\vK a (jK a v) k:=by obtain ⟨h1,h2,h3⟩:=ha;obtain ⟨v1,v2,v3⟩:=hv;have q1:=jq h1 v1 Zh;have q2:=jq h2 v2 Zh;have q3:=jq h3 v3 Zh;have e1:(jK a v).1=fI a.1 v.1:=rfl;have e2:(jK a v).2.1=fI a.2.1 v.2.1:=rfl;have e3:(jK a v).2.2=fI a.2.2 v.2.2:=rfl;unfold eJ vK;rw [e1,e2,e3];omega
def l6{V:Ce->Int}{p:Int->Bool}{b:Bx}{ax d m:Int}(hb:bY b m)(hm:m<=100000000000000):vK b.1 (cw V p b ax d).1.1 4194304:=by have hb':bY b 100000000000000:=hb.up hm;exact (UH hb.lo (Jm (KO hb') aG) ab).2
def MX{V:Ce->Int}{p:Int->Bool}{b:Bx}{d:Ce}{m:Int}(hb:bY b m)(hm:m<=99990000000000):vK b.1 (kC V p b d).1.1 12582912:=by have h1:=dS (V:=V) (p:=p) (ax:=1) (d:=d.2.1) hb ab;have h2:=dS (V:=V) (p:=p) (ax:=0) (d:=d.1) h1 ab;have o1:=l6 (V:=V) (p:=p) (ax:=1) (d:=d.2.1) hb ab;have o2:=l6 (V:=V) (p:=p) (ax:=0) (d:=d.1) h1 ab;have o3:=l6 (V:=V) (p:=p) (ax:=2) (d:=d.2.2) h2 ab;exact ((o1.tr o2).tr o3).up aG
def aaG{V:Ce->Int}{p:Int->Bool}{b:Bx}{d:Ce}{up m:Int}(hb:bY b m)(hm:m<=99980000000000):vK b.1 (gG V p b d up).1.1 16777216/\bY (gG V p b d up).1 (m+16777216):=by
 have mo:=MX (V:=V) (p:=p) (d:=d) hb ab;have mn:=KP (V:=V) (p:=p) (d:=d) hb ab;have h1:=dS (V:=V) (p:=p) (ax:=1) (d:=min up 65536) hb ab;have h2:=dS (V:=V) (p:=p) (ax:=0) (d:=d.1) h1 ab;have h3:=dS (V:=V) (p:=p) (ax:=2) (d:=d.2.2) h2 ab;have h4:=dS (V:=V) (p:=p) (ax:=1) (d:= -((cw V p b 1 (min up 65536)).1.1.2.1-b.1.2.1)) h3 ab;have o1:=l6 (V:=V) (p:=p) (ax:=1) (d:=min up 65536) hb ab;have o2:=l6 (V:=V) (p:=p) (ax:=0) (d:=d.1) h1 ab;have o3:=l6 (V:=V) (p:=p) (ax:=2) (d:=d.2.2) h2 ab;have o4:=l6 (V:=V) (p:=p) (ax:=1) (d:= -((cw V p b 1 (min up 65536)).1.1.2.1-b.1.2.1)) h3 ab;have o:=((o1.tr o2).tr o3).tr o4;unfold gG;simp only;split
 ·exact ⟨mo.up aG,mn.up ab⟩
 ·split
  ·exact ⟨mo.up aG,mn.up ab⟩
  ·exact ⟨o.up aG,h4.up ab⟩
def RM{aE:Ce}{wd ht m:Int}(hf:eJ aE m)(hw:0<=wd/\wd<=1000000)(hh:0<=ht/\ht<=1000000)(hm:m+1000000<=140737488355328):bY (k8 aE wd ht) (m+1000000):=by
 have AN:0<=max wd 0 / 2/\max wd 0 / 2<=1000000:=by omega
 have hh2:0<=max ht 0/\max ht 0<=1000000:=by omega
 generalize hq:max wd 0 / 2=q at*;generalize hr:max ht 0=r at*;obtain ⟨h1,h2,h3⟩:=hf;have e:k8 aE wd ht=((lG aE.1 q,lG aE.2.1 0,lG aE.2.2 q),(fI aE.1 q,fI aE.2.1 r,fI aE.2.2 q)):=by unfold k8;rw [hq,hr];rfl
 rw [e];unfold bY lG fI dz;simp only;omega
def MY{aE b c:Ce}{m n k:Int}(hf:eJ aE m)(hb:eJ b n)(hc:eJ c n)(ho:vK b c k)(hn:n<=140737488355328)(hk:0<=k)(Zh:m+k<=140737488355328):eJ (jK aE (xt c b)) (m+k):=by
 have hm:0<=m:=by unfold eJ at hf;omega
 refine (UH hf ?_ Zh).1;have e1:(xt c b).1=lG c.1 b.1:=rfl;have e2:(xt c b).2.1=lG c.2.1 b.2.1:=rfl;have e3:(xt c b).2.2=lG c.2.2 b.2.2:=rfl;rw [e1,e2,e3];unfold vK at ho;unfold eJ at hb hc;unfold lG dz;omega
end Go.iU
namespace Go.dm
open Go Go.Vc Go.aZ
structure Stf(n:Nat)(D:Dk):Prop where
 c:Cln D
 ok:rU D
 v:∀id,(fU D id).2.1<=n
def Stf.mono{n m:Nat}{D:Dk}(h:Stf n D)(hm:n<=m):Stf m D:=⟨h.c,h.ok,λid=>Int.le_trans (h.v id) ab⟩
def Stf.save{n:Nat}{D:Dk}(h:Stf n D){id:Int}{body:List Int}(hid:0<=id/\id<=1099511627776)(hn:n<1073741824):
  Stf (n+1) (nH D id body).1/\(∀id',id'≠id->fU (nH D id body).1 id'=fU D id')/\((nH D id body).2=0->(tU (nH D id body).1 id).1=body)/\((nH D id body).2≠0->(nH D id body).1=D):=by
 have hv:=h.v id;have hv0:=aas D id;have oJ:=MM D id;have Qj:=ajr D id;by_cases j8:(body.length:Int)<=65536
 case neg=>
  have hw:yJ ((fU D id).2.1+1) body=([],1):=by unfold yJ;rw [if_pos ab]
  have hm:tB id=true:=by unfold tB;simp;omega
  have hs:nH D id body=(D,1):=by unfold nH;rw [if_pos hm,hw,if_pos cj]
  rw [hs];exact ⟨h.mono ab,λ_ _=>rfl,λq=>by simp at q,λ_=>rfl⟩
 by_cases hroom:(mY (lay D.safe (4*id+1-(fU D id).1,fV (fG ((fU D id).2.1+1) body))):Int)<=D.room
 case neg=>
  have hw:yJ ((fU D id).2.1+1) body=(fV (fG ((fU D id).2.1+1) body),0):=by unfold yJ;rw [if_neg ab]
  have hm:tB id=true:=by unfold tB;simp;omega
  have hp:lE D (4*id+1-(fU D id).1) (fV (fG ((fU D id).2.1+1) body))=(D,8):=by unfold lE;rw [h.c.ask,if_neg cj,h.c.now,if_pos ab]
  have hs:nH D id body=(D,8):=by unfold nH;rw [if_pos hm,hw,if_neg cj,hp,if_pos cj]
  rw [hs];exact ⟨h.mono ab,λ_ _=>rfl,λq=>by simp at q,λ_=>rfl⟩
 have hsv:=afA h.c hid ab j8 hroom;have bq:=h.ok.save id body;rw [hsv] at bq ⊢;have fL:∀k,getD {D with safe:=lay D.safe (4*id+1-(fU D id).1,fV (fG ((fU D id).2.1+1) body)),l:=[]} k=if k=4*id+1-(fU D id).1 then fV (fG ((fU D id).2.1+1) body) else getD D k:=λk=>by rw [abd h.c];show ((lI (lay D.safe _) k).getD [])=_;rw [ab5 h.ok.nd];split<;>rfl
 have jj:=abe (v:=(fU D id).2.1+1) (body:=body) ab j8;have Y2:Cln ({D with safe:=lay D.safe (4*id+1-(fU D id).1,fV (fG ((fU D id).2.1+1) body)),l:=[]}:Dk):=⟨rfl,h.c.f,h.c.w⟩;generalize ({D with safe:=lay D.safe (4*id+1-(fU D id).1,fV (fG ((fU D id).2.1+1) body)),l:=[]}:Dk)=D' at*;have oe:∀(D:Dk)(id:Int),fU D id=fA (fA (2*id+1,0,[]) (2*id) (nZ (getD D (2*id)))) (2*id+1) (nZ (getD D (2*id+1))):=λ_ _=>rfl
 have hother:∀id',id'≠id->fU D' id'=fU D id':=λid' gy=>by rw [oe D' id',oe D id',fL,fL,if_neg ab,if_neg ab]
 have vb:fU D' id=(4*id+1-(fU D id).1,(fU D id).2.1+1,body):=by
  rw [oe D' id,fL,fL];generalize fU D id=s at*;rcases oJ with e|e
  ·rw [if_neg ab,if_pos ab,jj];have eN:(fA (2*id+1,0,[]) (2*id) (nZ (getD D (2*id)))).2.1<=s.2.1:=by
    unfold fA;split
    ·exact Qj.1
    ·exact hv0.1
   generalize fA (2*id+1,0,[]) (2*id) (nZ (getD D (2*id)))=b at*;unfold fA;rw [if_pos ⟨rfl,by simp only;omega⟩];simp only;rw [show 4*id+1-s.1=2*id+1 by omega]
  ·rw [if_pos ab,jj,if_neg ab];have e1:fA (2*id+1,0,[]) (2*id) (s.2.1+1,body,0)=(2*id,s.2.1+1,body):=by unfold fA;rw [if_pos ⟨rfl,by simp only;omega⟩]
   rw [e1];unfold fA;rw [if_neg (by simp only;omega),show 4*id+1-s.1=2*id by omega]
 refine ⟨⟨Y2,bq,λid'=> ?_⟩,hother,λ_=> ?_,λq=>absurd rfl q⟩
 ·by_cases q:id'=id
  ·rw [q,vb];simp only;omega
  ·rw [hother id' q];have:=h.v id';omega
 ·unfold tU;have hm:tB id=true:=by unfold tB;simp;omega
  rw [if_pos hm,vb]
def Stf.new{room:Int}:Stf 0 ⟨min (max room 0) 1048576,0,0,[],[]⟩:=
 ⟨⟨rfl,rfl,rfl⟩,⟨List.nodup_nil,λk=>by simp [mY];omega,by simp,by simp,by simp only;omega⟩,λid=>pf 0⟩
end Go.dm
namespace Go.iU
open Go Go.Vc Go.dm
def pN(b:Bx)(c:Ce):Prop:=(c.1*65536<b.2.1/\b.1.1<c.1*65536+65536)/\(c.2.1*65536<b.2.2.1/\b.1.2.1<c.2.1*65536+65536)/\c.2.2*65536<b.2.2.2/\b.1.2.2<c.2.2*65536+65536
def sM(b:Bx):Prop:=b.1.1<b.2.1/\b.1.2.1<b.2.2.1/\b.1.2.2<b.2.2.2
def U5(v:Ce):bZ v 0=v.1:=by unfold bZ;rw [if_pos rfl]
def U6(v:Ce):bZ v 1=v.2.1:=by unfold bZ;rw [if_neg aG,if_pos rfl]
def U7(v:Ce):bZ v 2=v.2.2:=by unfold bZ;rw [if_neg aG,if_neg aG,if_pos rfl]
def ab9{a t c:Ce}:c ∈ K0 a t ↔(a.1<=c.1/\c.1<=t.1)/\(a.2.1<=c.2.1/\c.2.1<=t.2.1)/\a.2.2<=c.2.2/\c.2.2<=t.2.2:=by
 refine ⟨Nj,λ⟨⟨h1,h2⟩,⟨h3,h4⟩,h5,h6⟩=> ?_⟩;have hx:(c.1-a.1).toNat<cB a.1 t.1:=by unfold cB;omega
 have hy:(c.2.1-a.2.1).toNat<cB a.2.1 t.2.1:=by unfold cB;omega
 have hz:(c.2.2-a.2.2).toNat<cB a.2.2 t.2.2:=by unfold cB;omega
 have:=UN a t hy hz hx;have e:(a.1+(((c.1-a.1).toNat:Nat):Int),a.2.1+(((c.2.1-a.2.1).toNat:Nat):Int),a.2.2+(((c.2.2-a.2.2).toNat:Nat):Int))=c:=by obtain ⟨x,y,z⟩:=c;simp only at h1 h3 h5 ⊢;rw [Int.toNat_of_nonneg ab,Int.toNat_of_nonneg ab,Int.toNat_of_nonneg ab];simp only [Prod.mk.injEq];omega
 rw [e] at this;exact aU this
def BS{b:Bx}(hn:bY b 100000000000000)(hf:sM b)(c:Ce):c ∈ kr b ↔ pN b c:=by
 unfold bY at hn;unfold sM at hf;have hs:wH b=true:=by
  have t0:k9 b 0=false:=by unfold k9;rw [U5,U5,decide_eq_false ab];rfl
  have t1:k9 b 1=false:=by unfold k9;rw [U6,U6,decide_eq_false ab];rfl
  have t2:k9 b 2=false:=by unfold k9;rw [U7,U7,decide_eq_false ab];rfl
  unfold wH;rw [t0,t1,t2];rfl
 have e:gI b=Bo b:=by unfold gI;rw [if_neg ab,if_neg ab,if_neg ab]
 have e1:jK b.2 (-1,-1,-1)=(b.2.1-1,b.2.2.1-1,b.2.2.2-1):=by show (fI b.2.1 (-1),fI b.2.2.1 (-1),fI b.2.2.2 (-1))=_;unfold fI dz;simp only [Prod.mk.injEq];omega
 unfold kr;rw [if_pos hs,ab9,e];unfold Bo;rw [e1];unfold bw bV pN;simp only;rw [fO ab,fO ab,fO ab,fO ab,fO ab,fO ab];omega
def any_false{V:Ce->Int}{b:Bx}{p:Int->Bool}:g9 V b p=false ↔ ∀c ∈ kr b,p (V c)=false:=by unfold g9;rw [List.any_eq_false];simp
def Ma(b:Bx)(v:Ce):Bx:=((b.1.1+v.1,b.1.2.1+v.2.1,b.1.2.2+v.2.2),(b.2.1+v.1,b.2.2.1+v.2.1,b.2.2.2+v.2.2))
def DK(ax n:Int):Ce:=(if ax=0 then n else 0,if ax=1 then n else 0,if ax=2 then n else 0)
def af6{b:Bx}{ax n:Int}(hb:bY b 100000000000000)(hn: -4194304<=n/\n<=4194304)(VJ:ax=0\/ax=1\/ax=2):UQ b (gJ (0,0,0) ax n)=Ma b (DK ax n):=by
 unfold bY at hb;have e:gJ (0,0,0) ax n=DK ax n:=by have hc:dz n=n:=fO ab;unfold gJ Ni DK;rw [hc];rcases VJ with rfl|rfl|rfl<;>rfl
 rw [e];have hv:(-4194304<=(DK ax n).1/\(DK ax n).1<=4194304)/\(-4194304<=(DK ax n).2.1/\(DK ax n).2.1<=4194304)/\-4194304<=(DK ax n).2.2/\(DK ax n).2.2<=4194304:=by unfold DK;simp only;refine ⟨?_,?_,?_⟩<;>split<;>omega
 generalize DK ax n=v at hv;show ((fI b.1.1 v.1,fI b.1.2.1 v.2.1,fI b.1.2.2 v.2.2),(fI b.2.1 v.1,fI b.2.2.1 v.2.1,fI b.2.2.2 v.2.2))=Ma b v;unfold Ma fI dz;simp only [Prod.mk.injEq];omega
def aca{V:Ce->Int}{p:Int->Bool}{b:Bx}{ax d:Int}(hb: -100000000000000<=bZ b.2 ax/\bZ b.2 ax<=100000000000000)(hd:0<kN d):
  0<=(eE V p b ax d).1/\(eE V p b ax d).1<=kN d/\∀k,bZ b.2 ax<=k*65536->k*65536<bZ b.2 ax+(eE V p b ax d).1->g9 V (lf b ax k) p=false:=by
 have hfd:=zL d;generalize hq:kN d=D at*;have hl:cN b ax D=(List.range (S1 (bZ b.2 ax) D (bV (bZ b.2 ax+65535)))).map λi:Nat=>(bV (bZ b.2 ax+65535)+(i:Int),(bV (bZ b.2 ax+65535)+(i:Int))*65536-bZ b.2 ax):=by unfold cN;rw [if_pos hd]
 have ZV:bV (bZ b.2 ax+65535)=(bZ b.2 ax+65535) / 65536:=by unfold bV;rw [fO ab]
 rw [ZV] at hl;unfold eE;rw [hq];generalize bZ b.2 ax=hi at*;generalize hk:(hi+65535) / 65536=k0 at*;have hup:∀i:Nat,(k0+(i:Int))*65536<hi+D ↔ i<S1 hi D k0:=λi=>U8 ab
 cases hf:(cN b ax D).find? (λx=>g9 V (lf b ax x.1) p) with
 |none=>
  refine ⟨by simp only;omega,pf _,λk h1 h2=> ?_⟩;simp only at h2;have hi2:(k-k0).toNat<S1 hi D k0:=(hup _).1 ab;have hm:(k,k*65536-hi) ∈ cN b ax D:=by rw [hl];refine aY.2 ⟨(k-k0).toNat,oO.2 hi2,?_⟩;rw [Int.toNat_of_nonneg ab,show k0+(k-k0)=k by omega]
  have:=CR.1 hf _ hm;simpa using this
 |some x=>
  obtain ⟨-,i,hi1,hx,lq⟩:=List.find?_eq_some_iff_getElem.1 hf;have dD:(cN b ax D).length=S1 hi D k0:=by rw [hl];simp
  have hgi:∀(j:Nat)(hj:j<(cN b ax D).length),(cN b ax D)[j]=(k0+(j:Int),(k0+(j:Int))*65536-hi):=λj hj=>by simp only [hl,List.getElem_map,List.getElem_range]
  have Ra:=hgi i hi1;rw [hx] at Ra;have hiu:=(hup i).2 ab;subst Ra;simp only;refine ⟨by omega,by omega,λk h1 h2=> ?_⟩;have hj:(k-k0).toNat<i:=by omega
  have:=lq (k-k0).toNat hj;rw [hgi] at this;simp only at this;rw [Int.toNat_of_nonneg ab,show k0+(k-k0)=k by omega] at this;simpa using this
def acb{V:Ce->Int}{p:Int->Bool}{b:Bx}{ax d:Int}(hb: -100000000000000<=bZ b.1 ax/\bZ b.1 ax<=100000000000000)(hd:¬0<kN d):
  kN d<=(eE V p b ax d).1/\(eE V p b ax d).1<=0/\∀k,k*65536+65536<=bZ b.1 ax->bZ b.1 ax+(eE V p b ax d).1<k*65536+65536->g9 V (lf b ax k) p=false:=by
 have hfd:=zL d;generalize hq:kN d=D at*;have hl:cN b ax D=(List.range (pw (bZ b.1 ax) D (bV (bZ b.1 ax)-1))).map λi:Nat=>(bV (bZ b.1 ax)-1-(i:Int),(bV (bZ b.1 ax)-1-(i:Int)+1)*65536-bZ b.1 ax):=by unfold cN;rw [if_neg hd]
 have ZV:bV (bZ b.1 ax)=bZ b.1 ax / 65536:=by unfold bV;rw [fO ab]
 rw [ZV] at hl;unfold eE;rw [hq];generalize bZ b.1 ax=lo at*;generalize hk:lo / 65536-1=k0 at*;have hup:∀i:Nat,lo+D<(k0-(i:Int)+1)*65536 ↔ i<pw lo D k0:=λi=>JR
 cases hf:(cN b ax D).find? (λx=>g9 V (lf b ax x.1) p) with
 |none=>
  refine ⟨pf _,by simp only;omega,λk h1 h2=> ?_⟩;simp only at h2;have hi2:(k0-k).toNat<pw lo D k0:=(hup _).1 ab;have hm:(k,(k+1)*65536-lo) ∈ cN b ax D:=by rw [hl];refine aY.2 ⟨(k0-k).toNat,oO.2 hi2,?_⟩;rw [Int.toNat_of_nonneg ab,show k0-(k0-k)=k by omega]
  have:=CR.1 hf _ hm;simpa using this
 |some x=>
  obtain ⟨-,i,hi1,hx,lq⟩:=List.find?_eq_some_iff_getElem.1 hf;have dD:(cN b ax D).length=pw lo D k0:=by rw [hl];simp
  have hgi:∀(j:Nat)(hj:j<(cN b ax D).length),(cN b ax D)[j]=(k0-(j:Int),(k0-(j:Int)+1)*65536-lo):=λj hj=>by simp only [hl,List.getElem_map,List.getElem_range]
  have Ra:=hgi i hi1;rw [hx] at Ra;have hiu:=(hup i).2 ab;subst Ra;simp only;refine ⟨by omega,by omega,λk h1 h2=> ?_⟩;have hj:(k0-k).toNat<i:=by omega
  have:=lq (k0-k).toNat hj;rw [hgi] at this;simp only at this;rw [Int.toNat_of_nonneg ab,show k0-(k0-k)=k by omega] at this;simpa using this
def Yl{b:Bx}{ax k:Int}(hk: -1600000000<=k/\k<=1600000000)(VJ:ax=0\/ax=1\/ax=2):
  lf b ax k=((if ax=0 then k*65536 else b.1.1,if ax=1 then k*65536 else b.1.2.1,if ax=2 then k*65536 else b.1.2.2),(if ax=0 then k*65536+65536 else b.2.1,if ax=1 then k*65536+65536 else b.2.2.1,if ax=2 then k*65536+65536 else b.2.2.2)):=by grind [dz,nL,lf,gJ,Ni]
def mj{V:Ce->Int}{p:Int->Bool}{b:Bx}{ax k:Int}(hn:bY b 99990000000000)(hf:sM b)(hk: -1525800000<=k/\k<=1525800000)(VJ:ax=0\/ax=1\/ax=2)(h:g9 V (lf b ax k) p=false){c:Ce}
  (hc:bZ c ax=k)(h0:ax=0\/(c.1*65536<b.2.1/\b.1.1<c.1*65536+65536))(h1:ax=1\/(c.2.1*65536<b.2.2.1/\b.1.2.1<c.2.1*65536+65536))(h2:ax=2\/(c.2.2*65536<b.2.2.2/\b.1.2.2<c.2.2*65536+65536)):p (V c)=false:=by
 have hl:=Yl (b:=b) (ax:=ax) (k:=k) ab VJ;unfold bY at hn;unfold sM at hf;have QZ:bY (lf b ax k) 100000000000000:=by rw [hl];unfold bY;simp only;rcases VJ with rfl|rfl|rfl<;>simp<;>omega
 have hf2:sM (lf b ax k):=by rw [hl];unfold sM;simp only;rcases VJ with rfl|rfl|rfl<;>simp<;>omega
 refine any_false.1 h c ((BS QZ hf2 c).2 ?_);rw [hl];unfold pN;simp only;rcases VJ with rfl|rfl|rfl
 ·rw [U5] at hc;simp at h1 h2 ⊢;omega
 ·rw [U6] at hc;simp at h0 h2 ⊢;omega
 ·rw [U7] at hc;simp at h0 h1 ⊢;omega
def Fr3(P:Ce->Prop)(b0:Bx)(m:Int)(b:Bx):Prop:=∃v:Ce,((-m<=v.1/\v.1<=m)/\(-m<=v.2.1/\v.2.1<=m)/\-m<=v.2.2/\v.2.2<=m)/\b=Ma b0 v/\∀c,pN b c->P c
def agd{V:Ce->Int}{p:Int->Bool}{b:Bx}{ax d:Int}(hb:bY b 100000000000000): -4194304<=(eE V p b ax d).1/\(eE V p b ax d).1<=4194304:=KO hb
def kz{V:Ce->Int}{p:Int->Bool}{P:Ce->Prop}{b0 b:Bx}{m ax d:Int}(hn:bY b0 99000000000000)(hm:0<=m/\m<=900000000000)(hf:sM b0)(VJ:ax=0\/ax=1\/ax=2)(hP:∀c,p (V c)=false->P c)(h:Fr3 P b0 m b):
  Fr3 P b0 (m+4194304) (cw V p b ax d).1:=by
 obtain ⟨v,hv,rfl,hfree⟩:=h;have Ko:bY (Ma b0 v) 99990000000000:=by unfold bY Ma at*;simp only at*;omega
 have hfb:sM (Ma b0 v):=by unfold sM Ma at*;simp only at*;omega
 generalize hbe:Ma b0 v=b at*;have yt:=agd (V:=V) (p:=p) (ax:=ax) (d:=d) (Ko.up (show (99990000000000:Int)<=100000000000000 by decide));have hmv:=af6 (b:=b) (ax:=ax) (Ko.up aG) yt VJ;have Eh:=Ko.ax aG ax;have key:∀c,pN (Ma b (DK ax (eE V p b ax d).1)) c->P c:=by
  intro c hc;by_cases lr:pN b c
  ·exact hfree c lr
  refine hP c ?_;by_cases hd:0<kN d
  ·obtain ⟨q1,q2,q3⟩:=aca (V:=V) (p:=p) (b:=b) (ax:=ax) (d:=d) ab hd;generalize (eE V p b ax d).1=n at*;unfold pN Ma DK at hc;unfold pN at lr;unfold sM at hfb;simp only at hc;rcases VJ with rfl|rfl|rfl
   ·rw [U5] at q3 Eh;rw [U5] at Eh;simp at hc;exact mj Ko hfb ab (.inl rfl) (q3 c.1 ab ab) (U5 c) (.inl rfl) (.inr ab) (.inr ab)
   ·rw [U6] at q3 Eh;rw [U6] at Eh;simp at hc;exact mj Ko hfb ab (.inr (.inl rfl)) (q3 c.2.1 ab ab) (U6 c) (.inr ab) (.inl rfl) (.inr ab)
   ·rw [U7] at q3 Eh;rw [U7] at Eh;simp at hc;exact mj Ko hfb ab (.inr (.inr rfl)) (q3 c.2.2 ab ab) (U7 c) (.inr ab) (.inr ab) (.inl rfl)
  ·obtain ⟨q1,q2,q3⟩:=acb (V:=V) (p:=p) (b:=b) (ax:=ax) (d:=d) ab hd;generalize (eE V p b ax d).1=n at*;unfold pN Ma DK at hc;unfold pN at lr;unfold sM at hfb;simp only at hc;rcases VJ with rfl|rfl|rfl
   ·rw [U5] at q3 Eh;rw [U5] at Eh;simp at hc;exact mj Ko hfb ab (.inl rfl) (q3 c.1 ab ab) (U5 c) (.inl rfl) (.inr ab) (.inr ab)
   ·rw [U6] at q3 Eh;rw [U6] at Eh;simp at hc;exact mj Ko hfb ab (.inr (.inl rfl)) (q3 c.2.1 ab ab) (U6 c) (.inr ab) (.inl rfl) (.inr ab)
   ·rw [U7] at q3 Eh;rw [U7] at Eh;simp at hc;exact mj Ko hfb ab (.inr (.inr rfl)) (q3 c.2.2 ab ab) (U7 c) (.inr ab) (.inr ab) (.inl rfl)
 have he:(cw V p b ax d).1=Ma b (DK ax (eE V p b ax d).1):=hmv;rw [he];refine ⟨(v.1+(DK ax (eE V p b ax d).1).1,v.2.1+(DK ax (eE V p b ax d).1).2.1,v.2.2+(DK ax (eE V p b ax d).1).2.2),?_,?_,key⟩
 ·have hw:(-4194304<=(DK ax (eE V p b ax d).1).1/\(DK ax (eE V p b ax d).1).1<=4194304)/\(-4194304<=(DK ax (eE V p b ax d).1).2.1/\(DK ax (eE V p b ax d).1).2.1<=4194304)/\-4194304<=(DK ax (eE V p b ax d).1).2.2/\(DK ax (eE V p b ax d).1).2.2<=4194304:=by unfold DK;simp only;refine ⟨?_,?_,?_⟩<;>split<;>omega
  simp only;omega
 ·rw [<-hbe];unfold Ma;simp only [Prod.mk.injEq];omega
def J9{V:Ce->Int}{p:Int->Bool}{P:Ce->Prop}{b:Bx}{d:Ce}(hn:bY b 99000000000000)(hf:sM b)(hP:∀c,p (V c)=false->P c)(h:∀c,pN b c->P c):Fr3 P b 12582912 (kC V p b d).1:=by have h0:Fr3 P b 0 b:=⟨(0,0,0),by simp,by unfold Ma;simp,h⟩;have h1:=kz (V:=V) (ax:=1) (d:=d.2.1) hn aG hf (.inr (.inl rfl)) hP h0;have h2:=kz (V:=V) (ax:=0) (d:=d.1) hn aG hf (.inl rfl) hP h1;exact kz (V:=V) (ax:=2) (d:=d.2.2) hn aG hf (.inr (.inr rfl)) hP h2
def Fr3.up{P:Ce->Prop}{b0 b:Bx}{m k:Int}(h:Fr3 P b0 m b)(hm:m<=k):Fr3 P b0 k b:=by obtain ⟨v,hv,e,q⟩:=h;exact ⟨v,by omega,e,q⟩
def Ym{V:Ce->Int}{p:Int->Bool}{P:Ce->Prop}{b:Bx}{d:Ce}{up:Int}(hn:bY b 99000000000000)(hf:sM b)(hP:∀c,p (V c)=false->P c)(h:∀c,pN b c->P c):Fr3 P b 16777216 (gG V p b d up).1:=by
 have h0:Fr3 P b 0 b:=⟨(0,0,0),by simp,by unfold Ma;simp,h⟩;have hm:=(J9 (V:=V) (p:=p) (d:=d) hn hf hP h).up (show (12582912:Int)<=16777216 by decide);have h1:=kz (V:=V) (ax:=1) (d:=min up 65536) hn aG hf (.inr (.inl rfl)) hP h0;have h2:=kz (V:=V) (ax:=0) (d:=d.1) hn aG hf (.inl rfl) hP h1;have h3:=kz (V:=V) (ax:=2) (d:=d.2.2) hn aG hf (.inr (.inr rfl)) hP h2;have h4:=kz (V:=V) (ax:=1) (d:= -((cw V p b 1 (min up 65536)).1.1.2.1-b.1.2.1)) hn aG hf (.inr (.inl rfl)) hP h3;unfold gG;simp only;split
 ·exact hm
 ·split
  ·exact hm
  ·exact h4
end Go.iU
namespace Go.Proofs.YtkkkfkopcfdmaaaGreatDoor
open Go Go.Vc Go.RowKit Go.Proofs
def cM(n m:Int):Int:=if n<0 then (-(n+1)) % m else n % m
def gS(n m:Int)(w:World)(hn:bT n)(hm:0<m)(hm':bT m):
  ah 10 #[n,m] w λe w'=>e=Value.int .i64 (cM n m)/\w'=w:=by
 apply La.vc;unfold cM;unfold bT at hn hm';apply Br.mk<;>intro h<;>simp at h
 ·have e1:ak (n+1)=n+1:=wI;have e2:ak (0-(n+1))= -(n+1):=by rw [wI];omega
  rw [e1,e2,if_pos h];refine Ut.2 ⟨by omega,?_,rfl⟩;rw [CE ab]
 ·rw [if_neg ab];refine Ut.2 ⟨by omega,?_,rfl⟩;rw [CE ab]
def db(n m:Int)(hm:0<m):0<=cM n m/\cM n m<m:=by
 unfold cM;split
 ·exact ⟨Int.emod_nonneg _ ab,Int.emod_lt_of_pos _ hm⟩
 ·exact ⟨Int.emod_nonneg _ ab,Int.emod_lt_of_pos _ hm⟩
def cO(b:Int):Bool:=decide (0<=b) && decide (b<=15) && b !=6 && b !=7
def aC(b:Int):Bool:=b== -1||b==1||b==2||b==3||b==5
def acj(n:Int):Int:=if cM n 14>5 then cM n 14+2 else cM n 14
def nmT:List ByteArray:=[⟨#[97,105,114]⟩,⟨#[115,116,111,110,101]⟩,⟨#[100,105,114,116]⟩,⟨#[115,97,110,100]⟩,⟨#[108,97,100,100,101,114]⟩,⟨#[103,108,97,115,115]⟩,⟨#[]⟩,⟨#[]⟩,
 ⟨#[119,97,116,101,114,48]⟩,⟨#[119,97,116,101,114,49]⟩,⟨#[119,97,116,101,114,50]⟩,⟨#[119,97,116,101,114,51]⟩,⟨#[119,97,116,101,114,52]⟩,⟨#[119,97,116,101,114,53]⟩,⟨#[119,97,116,101,114,54]⟩,⟨#[119,97,116,101,114,55]⟩]
def Aa(b:Int):ByteArray:=if b<0 then ⟨#[]⟩ else nmT.getD b.toNat ⟨#[]⟩
def FP(b:Int)(w:World):ah 111 #[b] w λe w'=>e=Value.bool (cO b)/\w'=w:=by apply WL.vc;unfold cO;refine Br.mk (λh=>Br.mk (λh2=>Br.mk (λh3=> ?_) (λh3=> ?_)) (λh2=> ?_)) (λh=> ?_)<;>simp_all<;>omega
def rj(b:Int)(w:World):ah 114 #[b] w λe w'=>e=Value.bool (aC b)/\w'=w:=by
 apply Ny.vc;unfold aC
 repeat' (first|apply Br.mk<;>intro h)
 all_goals simp_all
def qX(b:Int)(w:World):ah 103 #[b] w λe w'=>e=Value.bool (aC b)/\w'=w:=by
 apply Nx.vc;unfold aC
 repeat' (first|apply Br.mk<;>intro h)
 all_goals simp_all
def DL(n:Int)(w:World)(hn:bT n):ah 110 #[n] w λe w'=>e=Value.int .i64 (acj n)/\w'=w:=by
 apply Sa.vc;unfold acj;refine (gS n 14 w hn ab (by unfold bT;omega)).mono ?_;rintro e w' ⟨rfl,rfl⟩;have:=db n 14 ab;refine ⟨_,rfl,Br.mk (λh=> ?_) (λh=> ?_)⟩<;>simp at h
 ·rw [if_pos h,wI];exact ⟨rfl,rfl⟩
 ·rw [if_neg ab];exact ⟨rfl,rfl⟩
def lX(n:Int)(w:World)(hn:bT n):ah 302 #[n] w λe w'=>e=Value.int .i64 (8+min (max n 0) 7)/\w'=w:=by apply Ns.vc;rw [aM (by unfold bT;split<;>split<;>omega)];refine ⟨?_,rfl⟩;congr 2;split<;>split<;>omega
def asL:ByteArray:=⟨#[48,49,50,51,52,53,54,55,56,57,97,98,99,100,101,102,103,104,105,106,107,108,109,110,111,112,113,114,115,116,117,118,119,120,121,122]⟩
def Sn(n:Int):ByteArray:=asL.extract n.toNat (n+1).toNat
def TP(n:Int)(w:World)(h0:0<=n)(h1:n<10):ah 314 #[n] w λe w'=>e=Value.string (Sn n)/\w'=w:=by
 apply sq.vc;rw [wI];apply Br.mk<;>intro h<;>simp at h
 ·refine ⟨by omega,?_,by omega,by omega,rfl,rfl⟩;show n+1<=36;omega
 ·omega
set_option maxRecDepth 10000 in
def Hd(n:Int)(w:World)(h0:0<=n)(h1:n<10):ah 308 #[n,(10:Int)] w λe w'=>e=Value.string (Sn n)/\w'=w:=by
 have h10:n<100:=by omega
 have hs:ah 314 #[n] w (λe w'=>e=Value.string (Sn n)/\w'=w):=TP n w h0 h1;go_enter Tryz.func308,Tryz.ntmps308;go_wp2_with (go_at_call 314;refine hs.mono ?_;rintro e w' ⟨rfl,rfl⟩);go_ret;exact ⟨rfl,rfl⟩
def W7(n:Int)(w:World)(h0:0<=n)(h1:n<10):ah 267 #[n] w λe w'=>e=Value.string (Sn n)/\w'=w:=by
 apply Lb.vc;refine Calls.mono (tG.vc (R:=λe w'=>e=Value.string (Sn n)/\w'=w) ((Hd n w h0 h1).mono ?_)) ?_
 all_goals
  rintro e w' ⟨rfl,rfl⟩
  exact ⟨_,rfl,rfl,rfl⟩
def ta(x:Nat):LV:=(List.range 16).map λj=> .string (if j<8+x then nmT.getD j ⟨#[]⟩ else ⟨#[]⟩)
def abb(x:Int)(h0:0<=x)(h1:x<8):(⟨#[119,97,116,101,114]⟩:ByteArray)++Sn x=nmT.getD (8+x).toNat ⟨#[]⟩:=by
 have:x=0\/x=1\/x=2\/x=3\/x=4\/x=5\/x=6\/x=7:=by omega
 rcases this with rfl|rfl|rfl|rfl|rfl|rfl|rfl|rfl<;>decide
def ajq(x:Nat)(h1:x<8):aW (ta x) (8+x) [.string (nmT.getD (8+x) ⟨#[]⟩)]=ta (x+1):=by
 have:x=0\/x=1\/x=2\/x=3\/x=4\/x=5\/x=6\/x=7:=by omega
 rcases this with rfl|rfl|rfl|rfl|rfl|rfl|rfl|rfl<;>rfl
def zP(x:Nat):(ta x).length=16:=by simp [ta]
def amY:Value:=.agg (ta 8).toArray
abbrev nm0:LV:=List.replicate 16 (.string ⟨#[]⟩)
def BA(w:World):ah 218 #[] w λe w'=>e=amY/\Ext w w':=by
 apply Nt.vc;intro w0 hw0 w1 Ui;have r0:Row w0 w nm0 285:=by rw [hw0];exact Row.new w nm0 _
 have s0:w0.heap.size=w.heap.size+1:=by rw [hw0];simp
 have s1:w1.heap.size=w.heap.size+2:=by rw [Ui];simp [s0]
 have r1:Row w1 w0 nm0 285:=by rw [Ui];exact Row.new w0 nm0 285
 have x0:=aT hw0;have x1:=aT Ui;refine ⟨⟨rfl,r1.wr cj⟩,λw2 AN=> ?_⟩;rw [r1.aK cj (by intro u hu;simp at hu;rcases hu with rfl|rfl|rfl|rfl|rfl|rfl|rfl|rfl|rfl|rfl|rfl|rfl|rfl|rfl|rfl|rfl<;>rfl)] at AN;have r2:Row w2 w0 (ta 0) 285:=r1.st AN;have x2:Ext w w2:=(x0.tr x1).ag AN ab;have r20:Row w2 w nm0 285:=(r0.ext x1).same (by rw [AN];exact setRow_other _ _ _ _ ab);refine ⟨λn x wr=>∃k:Nat,x=k/\k+n=8/\Ext w wr/\Row wr w nm0 285/\Row wr w0 (ta k) 285,⟨8,0,rfl,rfl,x2,r20,r2⟩,?_⟩;rintro n us x wr ⟨k,rfl,hk,xr,q0,q1⟩;apply Br.mk<;>intro h<;>simp at h
 ·refine (W7 k wr ab ab).mono ?_;rintro e w' ⟨rfl,rfl⟩;refine ⟨_,rfl,?_⟩;rw [aM (n:=8+(k:Int)) (by unfold bT;omega),aM (n:=(k:Int)+1) (by unfold bT;omega),abb k ab ab];have jw:ae (aB w0.heap.size) ((8+(k:Int)).toNat*1)=some ⟨w0.heap.size,8+k,none⟩:=by rw [bo];congr 2;omega
  rw [jw];refine ⟨?_,by omega,by omega,⟨rfl,q1.wr (by rw [zP];simp;omega)⟩,λw3 Q9=> ?_⟩
  ·have:(Sn k).size<=1:=by
    have:k=0\/k=1\/k=2\/k=3\/k=4\/k=5\/k=6\/k=7:=by omega
    rcases this with rfl|rfl|rfl|rfl|rfl|rfl|rfl|rfl<;>decide
   have h5:(⟨#[119,97,116,101,114]⟩:ByteArray).size=5:=rfl;rw [h5];have:IntKind.i64.max=9223372036854775807:=by decide
   omega
  ·have e8:(8+(k:Int)).toNat=8+k:=by omega
   rw [q1.aK (by rw [zP];simp;omega) (by intro u hu;simp at hu;subst hu;rfl),e8,ajq k ab] at Q9;refine ⟨n-1,by omega,k+1,by omega,by omega,xr.ag Q9 ab,q0.same (by rw [Q9];exact setRow_other _ _ _ _ ab),by rw [Q9];exact q1.set _⟩
 ·obtain rfl:k=8:=by omega
  refine ⟨_,_,_,_,_,_,_,_,_,_,_,_,_,_,_,_,q1.cg (vs:=ta 8) (λj hj=>by simp),⟨rfl,q0.wr cj⟩,λw3 Q9=> ?_⟩;rw [q0.aK cj (by intro u hu;simp at hu;rcases hu with rfl|rfl|rfl|rfl|rfl|rfl|rfl|rfl|rfl|rfl|rfl|rfl|rfl|rfl|rfl|rfl<;>rfl)] at Q9;have q3:Row w3 w (ta 8) 285:=q0.st Q9;exact ⟨_,_,_,_,_,_,_,_,_,_,_,_,_,_,_,_,q3.cg (vs:=ta 8) (λj hj=>by simp),rfl,xr.ag Q9 ab⟩
def Xl(x y:ByteArray):wA x y=true ↔ x=y:=by unfold wA;rw [ByteArray.toList_eq,ByteArray.toList_eq,beq_iff_eq];obtain ⟨⟨x⟩⟩:=x;obtain ⟨⟨y⟩⟩:=y;simp
def ajA(i:Int)(h0:0<=i)(h1:i<16):(ta 8)[i.toNat*1]? =some (.string (Aa i)):=by
 have hk:i.toNat<16:=by omega
 have e:Aa i=nmT.getD i.toNat ⟨#[]⟩:=by unfold Aa;rw [if_neg ab]
 rw [e,zc];generalize i.toNat=k at hk;have:∀k,k<16->(ta 8)[k]? =some (.string (nmT.getD k ⟨#[]⟩)):=by
  intro k hk;have:k=0\/k=1\/k=2\/k=3\/k=4\/k=5\/k=6\/k=7\/k=8\/k=9\/k=10\/k=11\/k=12\/k=13\/k=14\/k=15:=by omega
  rcases this with rfl|rfl|rfl|rfl|rfl|rfl|rfl|rfl|rfl|rfl|rfl|rfl|rfl|rfl|rfl|rfl<;>rfl
 exact this k hk
def BM(b:Int)(h:b<0\/16<=b):Aa b=⟨#[]⟩:=by
 unfold Aa;rcases h with h|h
 ·rw [if_pos h]
 ·rw [if_neg ab];rw [dY,jX (by show 16<=b.toNat;omega)];rfl
def abw(b:Int):cO b=true ↔ Aa b≠⟨#[]⟩:=by
 by_cases h:b<0\/16<=b
 ·rw [BM b h];unfold cO;simp;omega
 ·have:b=0\/b=1\/b=2\/b=3\/b=4\/b=5\/b=6\/b=7\/b=8\/b=9\/b=10\/b=11\/b=12\/b=13\/b=14\/b=15:=by omega
  rcases this with rfl|rfl|rfl|rfl|rfl|rfl|rfl|rfl|rfl|rfl|rfl|rfl|rfl|rfl|rfl|rfl<;>decide
def DB(b:Int)(w:World):ah 158 #[b] w λe w'=>e=Value.string (Aa b)/\Ext w w':=by
 apply R7.vc;refine Br.mk (λh=> ?_) (λh=>Br.mk (λh2=> ?_) (λh2=> ?_))<;>simp at h
 ·rw [BM b (.inl h)];exact ⟨rfl,Ext.cu w⟩
 ·simp at h2;rw [BM b (.inr h2)];exact ⟨rfl,Ext.cu w⟩
 ·simp at h2;refine (BA w).mono ?_;rintro e w' ⟨rfl,x⟩;exact ⟨_,_,_,_,_,_,_,_,_,_,_,_,_,_,_,_,rfl,⟨h,h2⟩,_,ajA b h h2,rfl,x⟩
def gO(b:Int)(w:World):ah 108 #[b] w λe w'=>e=Value.bool (cO b)/\Ext w w':=by
 apply WE.vc;refine (DB b w).mono ?_;rintro e w' ⟨rfl,x⟩;refine ⟨_,rfl,?_,x⟩;congr 2;rw [Bool.eq_iff_iff,abw];have:=Xl (Aa b) ⟨#[]⟩
 cases h:wA (Aa b) ⟨#[]⟩<;>simp_all
open Go.aZ
abbrev gP:TypeId:=252
abbrev KT:TypeId:=3
abbrev rv(r:Rn):LV:=[.int .i64 r.1,.int .i64 r.2]
abbrev iv(b:Int):LV:=[.int .i64 b]
abbrev lj(w:World)(s:Sl)(l:List Rn):Prop:=RdK w s 2 (l.map rv)
abbrev RL(w:World)(s:Sl)(c:List Int):Prop:=RdK w s 1 (c.map iv)
abbrev wG(B:Nat)(w:World)(s:Sl)(l:List Rn):Prop:=aF B gP 2 w s (l.map rv)
abbrev OwC(B:Nat)(w:World)(s:Sl)(c:List Int):Prop:=aF B KT 1 w s (c.map iv)
def wG.HJ{B:Nat}{w:World}{s:Sl}{l:List Rn}(h:wG B w s l):lj w s l:=aF.rd h ab
def OwC.rdc{B:Nat}{w:World}{s:Sl}{c:List Int}(h:OwC B w s c):RL w s c:=aF.rd h ab
def lj.len{w:World}{s:Sl}{l:List Rn}(h:lj w s l):s.n=l.length:=by have:=h.n;simpa using this
def RL.len{w:World}{s:Sl}{c:List Int}(h:RL w s c):s.n=c.length:=by have:=h.n;simpa using this
def lj.get{w:World}{s:Sl}{l:List Rn}(_:lj w s l){i:Nat}{r:Rn}(hi:l[i]? =some r):(l.map rv)[i]? =some (rv r):=by rw [aV,hi];rfl
def lj.c0{w:World}{s:Sl}{l:List Rn}(h:lj w s l){i:Nat}{r:Rn}(hi:l[i]? =some r):ld w (ae (ae s.a (i*2)) 0)=some (.int .i64 r.1):=RdK.at h (lj.get h hi) (j:=0) rfl
def lj.c1{w:World}{s:Sl}{l:List Rn}(h:lj w s l){i:Nat}{r:Rn}(hi:l[i]? =some r):ld w (ae (ae s.a (i*2)) 1)=some (.int .i64 r.2):=RdK.at h (lj.get h hi) (j:=1) rfl
def lj.ll{w:World}{s:Sl}{l:List Rn}(h:lj w s l){i:Nat}{r:Rn}(hi:l[i]? =some r):af w (ae s.a (i*2)) 0 [r.1,r.2]:=RdK.cg h (lj.get h hi)
def RL.c0{w:World}{s:Sl}{l:List Int}(h:RL w s l){i:Nat}{b:Int}(hi:l[i]? =some b):ld w (ae s.a (i*1))=some (.int .i64 b):=by have:=h.rd i (iv b) (by rw [aV,hi];rfl) 0 _ rfl;simpa using this
def lj.iz{w:World}{s:Sl}{l:List Rn}(h:lj w s l){i:Nat}(hi:i<l.length):ez s.a (i:Int) s.n:=RdK.iz h ab ab (by have:=lj.len h;omega)
def RL.iz{w:World}{s:Sl}{l:List Int}(h:RL w s l){i:Nat}(hi:i<l.length):ez s.a (i:Int) s.n:=RdK.iz h ab ab (by have:=RL.len h;omega)
def lj.some{w:World}{s:Sl}{l:List Rn}(h:lj w s l){i:Nat}(hi:i<l.length):(ae s.a (i*2)).isSome=true:=by rw [gZ];exact RdK.isSome h ab (i:=i) (by simpa using hi)
def bB{α:Type}{l:List α}{i:Nat}(h:i<l.length):∃r,l[i]? =some r:=⟨_,dv h⟩
abbrev Bd(n:Nat):Prop:=n<=1099511627776
def qu(s:Sl)(l:List Rn)(w:World)(hs:lj w s l)(hb:Bd l.length)(hl:∀r ∈ l,0<=r.1)(AS:bF l<=1099511627776):
  ah 253 #[s] w λe w'=>e=Value.int .i64 (bF l)/\Ext w w':=by
 have tL:=lj.len hs;apply aaZ.vc;refine ⟨λn x y wr=>∃k:Nat,x=k/\k+n=l.length/\Ext w wr/\y=bF (l.take k),⟨l.length,0,rfl,by omega,Ext.cu w,rfl⟩,?_⟩;rintro n us x y wr ⟨k,rfl,hk,xr,rfl⟩;have hw:=aM (n:=(k:Int)+1) (by unfold bT;omega);apply Br.mk<;>intro h<;>simp at h
 ·obtain ⟨r,hr⟩:=bB (l:=l) (i:=k) ab;refine ⟨lj.iz hs ab,_,_,lj.ll (hs.ext xr) hr,?_⟩;rintro w9 rfl bN rfl;have e:bF (l.take (k+1))=bF (l.take k)+r.1:=by rw [dP,hr];simp [bF]
  have h0:0<=bF (l.take k)/\0<=r.1/\bF (l.take (k+1))<=bF l:=by
   refine ⟨?_,hl r (aU hr),?_⟩
   ·rw [ee λq hq=>hl q (qR hq)];omega
   ·have:=Ov (l.take (k+1)) (l.drop (k+1));rw [qP] at this;have h2:0<=bF (l.drop (k+1)):=by rw [ee λq hq=>hl q (za hq)];omega
    omega
  have AN:=aM (n:=bF (l.take k)+r.1) (by unfold bT;omega);refine ⟨n-1,by omega,k+1,by omega,by omega,((xr.tr (Ext.al _ _)).setRow xr.size _),by rw [AN,e]⟩
 ·obtain rfl:k=l.length:=by omega
  rw [ja];exact ⟨rfl,xr⟩
abbrev ajC(s:Sl)(w w':World):Prop:=∀j,s.bj≠some j->j<w.heap.size->w'.heap[j]? =w.heap[j]?
def Gg(B:Nat)(s:Sl)(l:List Rn)(r:Rn)(w:World)(hB:B<=w)(ho:wG B w s l)(hn:Bd l.length)(hl:∀q ∈ l,0<=q.1/\q.1<=1099511627776)(hr:r.1<=1099511627776):
  ah 252 #[s,.agg #[r.1,r.2]] w λe w'=>∃s':Sl,e=s'/\wG B w' s' (jE l r)/\Below B w w'/\ajC s w w':=by
 have tL:=lj.len ho.HJ;apply WO.vc;rintro w0 rfl;have xa:=Ext.al w (.cells #[r.1,r.2] gP);have xd:=xa.drew;have hz:(w.alloc (.cells #[r.1,r.2] gP)).drew.heap.size=w.heap.size+1:=by simp [World.drew]
 have hw:=aM (n:=((s.n:Nat):Int)-1) (by unfold bT;omega);have grow:∀(_:1<=r.1)(_:∀q,l.getLast? =some q->q.2≠r.2),(∀w4:World,w4=(w.alloc (.cells #[r.1,r.2] gP)).drew.alloc (.cells #[r.1,r.2] gP)->
   ba 16 2 w4 ⟨s.a,s.n,s.c⟩ 1 [r.1,r.2]/\∀(s5:Sl)(w6:World),aX gP 2 w4 ⟨s.a,s.n,s.c⟩ 1 [r.1,r.2] s5 w6->w6.heap[w.heap.size]? =w4.heap[w.heap.size]?/\w6.heap[(w.alloc (.cells #[r.1,r.2] gP)).drew.heap.size]? =w4.heap[(w.alloc (.cells #[r.1,r.2] gP)).drew.heap.size]?/\
   ∃s':Sl,Ending.returned (.slice s5.a s5.n s5.c)=s'/\wG B w6 s' (jE l r)/\Below B w w6/\ajC s w w6):=by
  rintro h1 h2 w4 rfl;obtain ⟨hp,bu⟩:=(aF.ext ho xd).iO (bytes:=16) (news:=rv r) (.cells #[r.1,r.2] gP) (gD hB xd.size) rfl (Bb _ _ _ _) ab ab;refine ⟨hp,λs5 w6 hr'=> ?_⟩;obtain ⟨k1,ho',hn',xb,hk,hb⟩:=bu s5 w6 hr';refine ⟨?_,k1,s5,rfl,?_,(Below.mono xd hB).trans xb,λj hj iS=> ?_⟩
  ·rw [hk _ (λhb=>absurd (ho.own.lt hb).2 (CB _)) ab];symm;exact (Ext.al _ _).heap ab
  ·rw [gN h1 h2];show aF B gP 2 w6 s5 ((l++ [r]).map rv);rw [bX];exact ho'
  ·rw [hk j hj ab];exact xd.heap iS
 apply Br.mk<;>intro h<;>simp at h
 ·exact ⟨s,rfl,by rw [mg h];exact aF.ext ho xa,Below.mono xa hB,λj _ hj=>xa.heap hj⟩
 rw [hw];refine Br.mk (λh'=> ?_) (λh'=> ?_)<;>simp at h'
 ·rcases xU l with rfl|⟨m,q,rfl⟩
  ·simp at tL;omega
  rw [cS] at tL;simp at tL;have alu:(((s.n:Nat):Int)-1).toNat=m.length:=by omega
  have hq:(m++ [q])[m.length]? =some q:=by simp
  have lr:ez s.a (((s.n:Nat):Int)-1) s.n:=by have:=lj.iz ho.HJ (i:=m.length) cj;rwa [show ((m.length:Nat):Int)=((s.n:Nat):Int)-1 from by omega] at this
  have hsome:=lj.some ho.HJ (i:=m.length) cj;rw [alu];have r1:=RdK.ext ho.HJ xd;have r2:=RdK.ext ho.HJ xd.drew;refine ⟨lr,Ej.2 ⟨hsome,_,lj.c1 r1 hq,Br.mk (λh2=> ?_) (λh2=> ?_)⟩⟩
  ·simp at h2;obtain ⟨q1,q2,q3,q4,q5⟩:=(aF.ext ho xd.drew).set (i:=m.length) (j:=0) (r:=rv q) (v:=.int .i64 (ak (q.1+r.1))) (by rw [aV,hq];rfl) ab rfl (gD hB xd.drew.size);refine ⟨lr,Ej.2 ⟨hsome,_,lj.c0 r2 hq,lr,Ej.2 ⟨hsome,⟨q1,q2⟩,?_,?_⟩⟩⟩
   ·intro hb;have:s.bj=some w.heap.size:=by rw [de,de] at hb;exact hb
    exact absurd (ho.own.lt this).2 (CB _)
   ·rintro w3 rfl;have hwq:=aM (n:=q.1+r.1) (by have:=hl q cj;unfold bT;omega);rw [hwq] at q3 q4 q5 ⊢;refine ⟨s,rfl,?_,(Below.mono xd.drew hB).trans q4,λj hj iS=> ?_⟩
    ·rw [kF h h2];show aF B gP 2 _ s ((m++ [(q.1+r.1,q.2)]).map rv);have e:((m++ [q]).map rv).set m.length ((rv q).set 0 (.int .i64 (q.1+r.1)))=(m++ [(q.1+r.1,q.2)]).map rv:=by rw [bX,bX,List.set_append_right _ _ cj];simp
     rw [<-e];exact q3
    ·rw [q5 j hj];exact xd.drew.heap iS
  ·exact grow h (by intro p hp;simp at hp;subst hp;simpa using h2)
 ·have:l=[]:=by apply Cu;omega
  subst this;exact grow h cj
def sC(B:Nat)(s:Sl)(c:List Int)(r:Rn)(w:World)(hB:B<=w)(ho:wG B w s (gz c))(hn:Bd c.length)(hr:r.1<=1099511627776):
  ah 252 #[s,.agg #[r.1,r.2]] w λe w'=>∃s':Sl,e=s'/\wG B w' s' (gz (c++List.replicate r.1.toNat r.2))/\Below B w w'/\ajC s w w':=by
 rw [<-On];refine Gg B s _ r w hB ho (by have:=sb c;unfold Bd at*;omega) (λq hq=> ?_) hr;have:=mF hq;unfold Bd at hn;omega
def Gh(n b:Int)(w:World)(hn:n<=1099511627776):
  ah 320 #[n,b] w λe w'=>∃s':Sl,e=s'/\wG w w' s' (gz (List.replicate n.toNat b))/\Ext w w':=by
 apply WS.vc;refine (sC w ⟨none,0,0⟩ [] (n,b) w (aD _) aF.nil cj hn).mono ?_;rintro e w' ⟨s',rfl,ho,x,_⟩;exact ⟨s',rfl,s',rfl,by simpa using ho,x⟩
def KN(s:Sl)(c:List Int)(w:World)(hs:RL w s c)(hn:Bd c.length):
  ah 188 #[s] w λe w'=>∃s':Sl,e=s'/\wG w w' s' (gz c)/\Ext w w':=by
 have tL:=RL.len hs;apply afv.vc;refine ⟨λn x o wr=>∃k:Nat,x=k/\k+n=c.length/\Ext w wr/\wG w wr o (gz (c.take k)),⟨c.length,0,rfl,by omega,Ext.cu w,aF.nil⟩,?_⟩;rintro n us x o wr ⟨k,rfl,hk,xr,ho⟩;unfold Bd at hn;have hw:=aM (n:=(k:Int)+1) (by unfold bT;omega);apply Br.mk<;>intro h<;>simp at h
 ·obtain ⟨b,hb⟩:=bB (l:=c) (i:=k) ab;refine ⟨RL.iz hs ab,_,RL.c0 (hs.ext xr) hb,?_⟩;refine (sC w o _ (1,b) wr xr.size ho (by rw [dI];unfold Bd;omega) (by show (1:Int)<=_;omega)).mono ?_;rintro e w' ⟨s',rfl,ho',x',_⟩;refine ⟨s',rfl,n-1,by omega,k+1,by omega,by omega,xr.trans x',?_⟩;rw [dP,hb];exact ho'
 ·obtain rfl:k=c.length:=by omega
  rw [ja] at ho;exact ⟨o,rfl,ho,xr⟩
def pr{l:List Rn}{k:Nat}{r:Rn}(hr:l[k]? =some r):bF (l.take (k+1))=bF (l.take k)+r.1:=by rw [dP,hr];simp [bF]
def U3{l:List Rn}(hl:∀r ∈ l,0<=r.1):0<=bF l:=by rw [ee hl];omega
def lk{l:List Rn}(hl:∀r ∈ l,0<=r.1)(k:Nat):0<=bF (l.take k)/\bF (l.take k)<=bF l:=by
 refine ⟨U3 λq hq=>hl q (qR hq),?_⟩;have:=Ov (l.take k) (l.drop k);rw [qP] at this;have h2:=U3 (l:=l.drop k) λq hq=>hl q (za hq)
 omega
def te{l:List Rn}{k:Nat}{r:Rn}(hr:l[k]? =some r):cH (l.take (k+1))=cH (l.take k)++List.replicate r.1.toNat r.2:=by rw [dP,hr,ig];exact congrArg _ (jh r)
def ajG(c:List Int)(a b:Int):(Ie c a b).length<=c.length:=by unfold Ie;simp;omega
def wP(s:Sl)(l:List Rn)(a b:Int)(w:World)(hs:lj w s l)(hn:Bd l.length)(hl:∀r ∈ l,0<=r.1)(AS:bF l<=1099511627776)(ha:0<=a)(hb:0<=b):
  ah 319 #[s,a,b] w λe w'=>∃s':Sl,e=s'/\wG w w' s' (gz (Ie (cH l) a b))/\Ext w w':=by
 have tL:=lj.len hs;unfold Bd at hn;apply aa0.vc;refine ⟨λn x y o wr=>∃k:Nat,x=k/\k+n=l.length/\Ext w wr/\y=bF (l.take k)/\wG w wr o (gz (Ie (cH (l.take k)) a b)),⟨l.length,0,rfl,by omega,Ext.cu w,rfl,?_⟩,?_⟩
 ·have:Ie (cH (l.take 0)) a b=[]:=by simp [Ie,cH]
  rw [this];exact aF.nil
 rintro n us x y o wr ⟨k,rfl,hk,xr,rfl,ho⟩;have hw:=aM (n:=(k:Int)+1) (by unfold bT;omega);apply Br.mk<;>intro h<;>simp at h
 ·obtain ⟨r,hr⟩:=bB (l:=l) (i:=k) ab;have e:=pr hr;have hr0:=hl r (aU hr);have b1:=lk hl k;have b2:=lk hl (k+1);have AN:=aM (n:=bF (l.take k)+r.1) (by unfold bT;omega);have hc:((cH (l.take k)).length:Int)=bF (l.take k):=(ee λq hq=>hl q (qR hq)).symm;have apr:Ie (cH (l.take (k+1))) a b=Ie (cH (l.take k)) a b++List.replicate (min b (bF (l.take k)+r.1)-max a (bF (l.take k))).toNat r.2:=by rw [te hr,abA _ _ _ _ _ ha hb];congr 2;omega
  refine ⟨lj.iz hs ab,_,_,lj.ll (hs.ext xr) hr,?_⟩;rintro w9 rfl bN rfl;rw [AN];have bk:=((xr.tr (Ext.al _ (.cells #[aa,aa] gP))).setRow xr.size #[r.1,r.2]);have e1:(if bF (l.take k)+r.1<b then bF (l.take k)+r.1 else b)=min b (bF (l.take k)+r.1):=by split<;>omega
  have e2:(if bF (l.take k)>a then bF (l.take k) else a)=max a (bF (l.take k)):=by split<;>omega
  rw [e1,e2];have hkeep:∀g,o.bj=some g->(((wr.alloc (.cells #[aa,aa] gP)).setRow wr.heap.size #[r.1,r.2]).drew).heap[g]? =wr.heap[g]? :=by intro g hg;have:=(ho.own.lt hg).2;show ((wr.alloc _).setRow wr.heap.size _).heap[g]? =_;rw [setRow_other _ _ _ _ ab];exact (Ext.al _ _).heap this
  have wi:=aF.dc ho hkeep;have dD:(Ie (cH (l.take k)) a b).length<=1099511627776:=by have:=ajG (cH (l.take k)) a b;omega
  apply Br.mk<;>intro h2<;>simp only [cX,fk] at h2
  ·have Q9:=aM (n:=min b (bF (l.take k)+r.1)-max a (bF (l.take k))) (by unfold bT;omega);rw [Q9];refine (sC w o _ (min b (bF (l.take k)+r.1)-max a (bF (l.take k)),r.2) _ bk.drew.size wi dD (by show min b (bF (l.take k)+r.1)-max a (bF (l.take k))<=_;omega)).mono ?_;rintro e w' ⟨s',rfl,ho',x',QW⟩;refine ⟨s',rfl,QW _ (λhb=>absurd (ho.own.lt hb).2 (CB _)) (by simp [World.drew,World.setRow]),n-1,by omega,k+1,by omega,by omega,bk.drew.trans x',by omega,?_⟩;rw [apr];exact ho'
  ·refine ⟨n-1,by omega,k+1,by omega,by omega,bk.drew,by omega,?_⟩;rw [apr,show (min b (bF (l.take k)+r.1)-max a (bF (l.take k))).toNat=0 from by omega];simpa using wi
 ·obtain rfl:k=l.length:=by omega
  rw [ja] at ho;exact ⟨o,rfl,ho,xr⟩
def mh(s:Sl)(l:List Rn)(w:World)(hs:lj w s l)(hn:Bd l.length):
  ah 186 #[s] w λe w'=>∃s':Sl,e=s'/\wG w w' s' l/\Ext w w':=by
 have tL:=lj.len hs;unfold Bd at hn;apply Bu.vc;apply Br.mk<;>intro h
 ·have:l=[]:=by
   rcases Cq l.length with h0|h0
   ·exact Cu h0
   ·have:=RdK.isSome hs ab (i:=0) (by simpa using h0)
    cases hsa:s.a<;>simp [hsa] at h this
  subst this;exact ⟨⟨none,0,0⟩,rfl,aF.nil,Ext.cu w⟩
 ·rintro w0 rfl;have xa:=Ext.al w (.cells #[] gP);have hz:Go.Vc.Own w gP 2 (w.alloc (.cells #[] gP)) ⟨aB w.heap.size,0,0⟩ []:=.row w.heap.size 0 0 [] (aD _) (Row.new w [] gP) cj (aD _);have hf:(l.map rv).flatten.length=s.n*2:=by rw [bK hs.wd];simp [tL]
  have h1:One (l.map rv).flatten:=gk λr hr=>by obtain ⟨q,_,rfl⟩:=aY.1 hr;exact Bb _ _ _ _
  obtain ⟨hp,hr⟩:=hz.append (bytes:=16) (m:=s.n) (news:=(l.map rv).flatten) xa.size hf h1 (by simp;omega) (by simp;omega);refine ⟨(l.map rv).flatten,RdK.flat (hs.ext xa) ab,hp,λs2 w3 bu=> ?_⟩;obtain ⟨ho,QZ,xb,_,_⟩:=hr s2 w3 bu;refine ⟨qb bu hf cj,s2,rfl,⟨by simpa using ho,hs.wd⟩,xa.trans xb⟩
def Gn(s:Sl)(ss:List Sl)(cs:List (List Int))(w:World)(hs:RdK w s 1 (ss.map λt=> [.slice t.a t.n t.c]))(dD:ss.length=cs.length)
  (hr:∀(i:Nat)(t:Sl)(c:List Int),ss[i]? =some t->cs[i]? =some c->lj w t (gz c))(hb:Bd ss.length)(hn:Bd cs.flatten.length):
  ah 318 #[s] w λe w'=>∃s':Sl,e=s'/\wG w w' s' (gz cs.flatten)/\Ext w w':=by
 have tL:s.n=ss.length:=by have:=hs.n;simpa using this
 unfold Bd at hn hb;apply WR.vc;refine ⟨λn x o wr=>∃k:Nat,x=k/\k+n=ss.length/\Ext w wr/\wG w wr o (gz (cs.take k).flatten),⟨ss.length,0,rfl,by omega,Ext.cu w,aF.nil⟩,?_⟩;rintro n us x o wr ⟨k,rfl,hk,xr,ho⟩;have hw:=aM (n:=(k:Int)+1) (by unfold bT;omega);apply Br.mk<;>intro h<;>simp at h
 ·obtain ⟨t,ht⟩:=bB (l:=ss) (i:=k) ab;obtain ⟨c,hc⟩:=bB (l:=cs) (i:=k) ab;have hrt:=hr k t c ht hc;have htn:=lj.len hrt;have Hk:(cs.take (k+1)).flatten=(cs.take k).flatten++c:=by rw [dP,hc];simp
  have hle:(cs.take k).flatten.length+c.length<=cs.flatten.length:=by have e:=congrArg List.length (congrArg List.flatten (qP (k+1) cs));rw [Cz,Hk] at e;simp only [cS] at e;omega
  have Y2:=sb c;have jR:=hs.rd k [.slice t.a t.n t.c] (by rw [aV,ht];rfl) 0 _ rfl;refine ⟨RdK.iz hs ab ab ab,t,xr.ld (by simpa using jR),?_⟩;refine ⟨λn x o wr=>∃j:Nat,x=j/\j+n=(gz c).length/\Ext w wr/\wG w wr o (gz ((cs.take k).flatten++cH ((gz c).take j))),⟨(gz c).length,0,rfl,by omega,xr,by simpa [cH] using ho⟩,?_⟩;rintro n2 wg x2 o2 w2 ⟨j,rfl,hj,x2,wi⟩;have AN:=aM (n:=(j:Int)+1) (by unfold bT;omega);apply Br.mk<;>intro h2<;>simp at h2
  ·obtain ⟨r,hrr⟩:=bB (l:=gz c) (i:=j) ab;have hrm:=mF (aU hrr);refine ⟨lj.iz hrt ab,_,_,lj.ll (hrt.ext x2) hrr,?_⟩;rintro w9 rfl bN rfl;have bk:=((x2.tr (Ext.al _ (.cells #[aa,aa] gP))).setRow x2.size #[r.1,r.2]);have ho3:=aF.dc (w':=(w2.alloc (.cells #[aa,aa] gP)).setRow w2.heap.size #[r.1,r.2]) wi (by
    intro g hg;have:=(wi.own.lt hg).2;rw [setRow_other _ _ _ _ ab];exact (Ext.al _ _).heap this)
   have Hg:((cs.take k).flatten++cH ((gz c).take j)).length<=1099511627776:=by rw [cS];have h3:=lk (l:=gz c) (λq hq=>by have:=mF hq;omega) j;rw [mX,ee λq hq=>by have:=mF (qR hq);omega] at h3;omega
   refine (sC w o2 _ r _ bk.size ho3 Hg ab).mono ?_;rintro e w' ⟨s',rfl,ho',x',QW⟩;refine ⟨s',rfl,QW _ (λhb=>absurd (wi.own.lt hb).2 (CB _)) (by simp [World.setRow]),n2-1,by omega,j+1,by omega,by omega,bk.trans x',?_⟩;rw [te hrr,<-gV];exact ho'
  ·obtain rfl:j=(gz c).length:=by omega
   refine ⟨n-1,by omega,k+1,by omega,by omega,x2,?_⟩;rw [ja,me] at wi;rw [Hk];exact wi
 ·obtain rfl:k=ss.length:=by omega
  rw [dD,ja] at ho;exact ⟨o,rfl,ho,xr⟩
def GZ(s:Sl)(c:List Int)(a b x:Int)(w:World)(hs:lj w s (gz c))(hn:Bd c.length)(ha:bT a)(hb:bT b):
  ah 309 #[s,a,b,x] w λe w'=>∃s':Sl,e=s'/\wG w w' s' (gz (if cO x then Ac c a b x else c))/\Ext w w':=by
 have hl:Bd (gz c).length:=gD (sb c) hn;have hp:∀r ∈ gz c,0<=r.1:=λr hr=>by have:=mF hr;omega
 have AS:bF (gz c)<=1099511627776:=by rw [mX];unfold Bd at hn;omega
 unfold Bd at hn;unfold bT at ha hb;apply WN.vc;refine (qu s _ w hs hl hp AS).mono ?_;rintro e w1 ⟨rfl,x1⟩;rw [mX];refine ⟨_,rfl,(gO x w1).mono ?_⟩;rintro e w2 ⟨rfl,x2⟩;have bS:=x1.tr x2;have e1:(if ((c.length:Nat):Int)<(if 0>a then 0 else a) then ((c.length:Nat):Int) else (if 0>a then 0 else a))=min (max a 0) (c.length:Int):=by split<;>split<;>omega
 have e2:(if ((c.length:Nat):Int)<(if 0>b then 0 else b) then ((c.length:Nat):Int) else (if 0>b then 0 else b))=min (max b 0) (c.length:Int):=by split<;>split<;>omega
 rw [e1,e2];refine ⟨_,rfl,Br.mk (λh=> ?_) (λh=>Br.mk (λh2=> ?_) (λh2=> ?_))⟩
 ·simp at h;refine (mh s _ w2 (hs.ext bS) hl).mono ?_;rintro e w3 ⟨s',rfl,ho,x3⟩;refine ⟨s',rfl,s',rfl,?_,bS.tr x3⟩;rw [h];exact aF.low ho bS.size
 ·simp at h h2;refine (mh s _ w2 (hs.ext bS) hl).mono ?_;rintro e w3 ⟨s',rfl,ho,x3⟩;refine ⟨s',rfl,s',rfl,?_,bS.tr x3⟩;rw [h,if_pos rfl,Sz c a b x ab];exact aF.low ho bS.size
 ·replace h2:=nT h2;have hm:cO x=true:=by simpa using h
  have hw:=aM (n:=min (max b 0) (c.length:Int)-min (max a 0) (c.length:Int)) (by unfold bT;omega);rw [hw];refine (wP s _ 0 (min (max a 0) (c.length:Int)) w2 (hs.ext bS) hl hp AS ab ab).mono ?_;rintro e w3 ⟨s1,rfl,o1,x3⟩;refine ⟨s1,rfl,(Gh (min (max b 0) (c.length:Int)-min (max a 0) (c.length:Int)) x w3 ab).mono ?_⟩;rintro e w4 ⟨s2,rfl,o2,x4⟩;refine ⟨s2,rfl,(wP s _ (min (max b 0) (c.length:Int)) c.length w4 (((hs.ext bS).ext x3).ext x4) hl hp AS ab ab).mono ?_⟩;rintro e w5 ⟨s3,rfl,o3,x5⟩;refine ⟨s3,rfl,?_⟩;rintro w6 rfl;have x6:=Ext.al w5 (.cells #[s1,s2,s3] 173);rw [me] at o1 o3;have dq:=Row.new w5 [s1,s2,s3] 173;have jj:RdK (w5.alloc (.cells #[s1,s2,s3] 173)) ⟨aB w5.heap.size,3,3⟩ 1 ([s1,s2,s3].map λt=> [.slice t.a t.n t.c]):=by
   refine ⟨rfl,by simp,λi r hi j v hj=> ?_⟩;show ld _ (ae (aB w5.heap.size) _)=_;rw [bo,dq.ld];rcases i with _|_|_|i<;>simp at hi
   all_goals subst hi
   all_goals rcases j with _|j<;>simp at hj
   all_goals subst hj;rfl
  refine (Gn _ [s1,s2,s3] [Ie c 0 (min (max a 0) (c.length:Int)),List.replicate (min (max b 0) (c.length:Int)-min (max a 0) (c.length:Int)).toNat x,Ie c (min (max b 0) (c.length:Int)) c.length] _ jj rfl ?_ cj ?_).mono ?_
  ·intro i t d ht hd;rcases i with _|_|_|i<;>simp at ht hd
   ·subst ht;subst hd;exact (((o1.ext x4).ext x5).ext x6).rd ab
   ·subst ht;subst hd;exact ((o2.ext x5).ext x6).rd ab
   ·subst ht;subst hd;exact (o3.ext x6).rd ab
  ·have e:=congrArg List.length (JL c a b x ab);rw [Xt] at e;simp only [kY,List.flatten_nil,qQ,cS] at e ⊢;unfold Bd;omega
  ·rintro e w7 ⟨s',rfl,ho,x7⟩;have xx:=(((bS.tr x3).tr x4).tr x5).tr x6;refine ⟨s',rfl,s',rfl,?_,xx.tr x7⟩;rw [if_pos hm,JL c a b x ab];have ho:=aF.low ho xx.size;simpa using ho
def YJ(c:List Int)(i x:Int):List Int:=if cO x=true/\0<=i/\i<(c.length:Int) then c.set i.toNat x else c
def Il(s:Sl)(c:List Int)(i x:Int)(w:World)(hs:lj w s (gz c))(hn:Bd c.length)(hi:bT i):
  ah 295 #[s,i,x] w λe w'=>∃s':Sl,e=s'/\wG w w' s' (gz (YJ c i x))/\Ext w w':=by
 have hl:Bd (gz c).length:=gD (sb c) hn;have hp:∀r ∈ gz c,0<=r.1:=λr hr=>by have:=mF hr;omega
 have AS:bF (gz c)<=1099511627776:=by rw [mX];unfold Bd at hn;omega
 have hi':=hi;have hn':=hn;unfold Bd at hn';unfold bT at hi';apply aaW.vc;apply Br.mk<;>intro h<;>simp at h
 ·refine (mh s _ w hs hl).mono ?_;rintro e w3 ⟨s',rfl,ho,x3⟩;refine ⟨s',rfl,s',rfl,?_,x3⟩;unfold YJ;rw [if_neg ab];exact ho
 ·refine (qu s _ w hs hl hp AS).mono ?_;rintro e w1 ⟨rfl,x1⟩;rw [mX];refine ⟨_,rfl,Br.mk (λh2=> ?_) (λh2=> ?_)⟩<;>simp at h2
  ·refine (mh s _ w1 (hs.ext x1) hl).mono ?_;rintro e w3 ⟨s',rfl,ho,x3⟩;refine ⟨s',rfl,s',rfl,?_,x1.tr x3⟩;unfold YJ;rw [if_neg ab];exact aF.low ho x1.size
  ·have hw:=aM (n:=i+1) (by unfold bT;omega);rw [hw];refine (GZ s c i (i+1) x w1 (hs.ext x1) hn hi (by unfold bT;omega)).mono ?_;rintro e w3 ⟨s',rfl,ho,x3⟩;refine ⟨s',rfl,s',rfl,?_,x1.tr x3⟩;unfold YJ;have:=aF.low ho x1.size;rw [Xu c i x h h2] at this
   cases hm:cO x
   ·rw [hm] at this;rw [if_neg cj];exact this
   ·rw [hm] at this;rw [if_pos ⟨rfl,h,h2⟩];exact this
def acD(a b:Int):ak (ak a-b)=ak (a-b):=by unfold IntKind.wrap;simp only [IntKind.bits,IntKind.signed,pW];split<;>split<;>split<;>simp_all<;>omega
def LL(s:Sl)(l:List Rn)(i:Int)(w:World)(hs:lj w s l)(hn:Bd l.length)(hl:∀r ∈ l,0<=r.1)(AS:bF l<=1099511627776)(hi:bT i):
  ah 194 #[s,i] w λe w'=>e=Value.int .i64 (atC (cH l) i)/\Ext w w':=by
 have tL:=lj.len hs;unfold Bd at hn;apply afu.vc;refine ⟨λn x y wr=>∃k:Nat,x=k/\k+n=l.length/\Ext w wr/\y=ak (i-bF (l.take k))/\(i<0\/bF (l.take k)<=i),⟨l.length,0,rfl,by omega,Ext.cu w,?_,?_⟩,?_⟩
 ·rw [show bF (l.take 0)=0 from rfl,Int.sub_zero,aM hi]
 ·rw [show bF (l.take 0)=0 from rfl];omega
 rintro n us x y wr ⟨k,rfl,hk,xr,rfl,lq⟩;have hw:=aM (n:=(k:Int)+1) (by unfold bT;omega);unfold bT at hi;have hc:∀k,((cH (l.take k)).length:Int)=bF (l.take k):=λk=>(ee λq hq=>hl q (qR hq)).symm
 apply Br.mk<;>intro h<;>simp at h
 ·obtain ⟨r,hr⟩:=bB (l:=l) (i:=k) ab;have e:=pr hr;have hr0:=hl r (aU hr);have b1:=lk hl k;have b2:=lk hl (k+1);refine ⟨lj.iz hs ab,_,_,lj.ll (hs.ext xr) hr,?_⟩;rintro w9 rfl bN rfl;have bk:=((xr.tr (Ext.al _ (.cells #[aa,aa] gP))).setRow xr.size #[r.1,r.2]);have hwi:=abM (i-bF (l.take k));unfold bT at hwi;have ahw:i<0->(0<=ak (i-bF (l.take k))->ak (i-bF (l.take k))<r.1->False):=by intro h0 h1 h2;revert h1 h2;unfold IntKind.wrap;simp only [IntKind.bits,IntKind.signed,pW];split<;>simp_all<;>omega
  have B6:0<=i->bF (l.take k)<=i->ak (i-bF (l.take k))=i-bF (l.take k):=λ_ _=>wI
  have nx:(i<0\/bF (l.take (k+1))<=i)->∃n6,n6<n/\∃k_1:Nat,ak ((k:Int)+1)=k_1/\k_1+n6=l.length/\Ext w ((wr.alloc (.cells #[aa,aa] gP)).setRow wr.heap.size #[r.1,r.2])/\
    ak (ak (i-bF (l.take k))-r.1)=ak (i-bF (l.take k_1))/\(i<0\/bF (l.take k_1)<=i):=
   λhh=>⟨n-1,by omega,k+1,by omega,by omega,bk,by rw [acD,e,Int.sub_sub],hh⟩
  refine Br.mk (λh1=>Br.mk (λh2=> ?_) (λh2=> ?_)) (λh1=> ?_)<;>simp only [cX,fk] at*
  ·rcases sX i 0 with h0|h0
   ·exact (ahw h0 h1 h2).elim
   ·have hle:bF (l.take k)<=i:=by omega
    have:=B6 h0 hle;have ht:l=l.take k++ [r]++l.drop (k+1):=by have:=qP (k+1) l;rw [dP,hr] at this;exact this.symm
    refine ⟨?_,bk⟩;have hcell:cH l=cH (l.take k)++List.replicate r.1.toNat r.2++cH (l.drop (k+1)):=by rw [<-jh r,<-ig,<-ig,<-ht]
    rw [hcell,ajF _ _ _ _ _ (by rw [hc];exact hle) (by rw [hc];omega)]
  ·refine nx ?_;rcases sX i 0 with h0|h0
   ·exact .inl h0
   ·have:=B6 h0 ab;right;omega
  ·refine nx ?_;rcases sX i 0 with h0|h0
   ·exact .inl h0
   ·have:=B6 h0 ab;omega
 ·obtain rfl:k=l.length:=by omega
  refine ⟨?_,xr⟩;have:=hc l.length;rw [ja] at this lq;rw [afU _ _ ab]
def YK(may:Int->Bool)(prev:Option Int)(left:Int)(r:Rn)(t:List Rn):vP may prev left (r::t)=if r.1<1\/r.1>left\/may r.2=false\/prev=some r.2 then false else vP may (some r.2) (left-r.1) t:=rfl
def wU(s:Sl)(l:List Rn)(m:Int)(w:World)(hs:lj w s l)(hn:Bd l.length)(hm:bT m):
  ah 185 #[s,m] w λe w'=>e=Value.bool (sj cO l m)/\Ext w w':=by
 have tL:=lj.len hs;unfold Bd at hn;unfold bT at hm;apply aaY.vc;have hprev:∀k,k<l.length->(l.take k).getLast? =if k=0 then none else l[k-1]? :=by
  intro k hk;rw [List.getLast?_eq_getElem?,qN,dI,Nat.min_eq_left ab];rcases Cq k with rfl|h0
  ·simp
  ·rw [if_pos ab,if_neg ab]
 refine ⟨λn x y wr=>∃k:Nat,x=k/\k+n=l.length/\Ext w wr/\y<=max m 0/\(min m 0<=y)/\vP cO ((l.take k).getLast?.map (·.2)) y (l.drop k)=vP cO none m l,⟨l.length,0,rfl,by omega,Ext.cu w,by omega,by omega,rfl⟩,?_⟩;rintro n us x y wr ⟨k,rfl,hk,xr,hy,hy0,heq⟩;have hw:=aM (n:=(k:Int)+1) (by unfold bT;omega);apply Br.mk<;>intro h<;>simp at h
 ·obtain ⟨r,hr⟩:=bB (l:=l) (i:=k) ab;have hd:l.drop k=r::l.drop (k+1):=by
   rw [zM ab];rw [dv ab] at hr
   cases hr;rfl
  rw [hd] at heq;rw [YK] at heq;refine ⟨lj.iz hs ab,_,_,lj.ll (hs.ext xr) hr,?_⟩;rintro w9 rfl bN rfl;have bk:=((xr.tr (Ext.al _ (.cells #[aa,aa] gP))).setRow xr.size #[r.1,r.2]).drew;have fin:∀w',Ext w w'->(r.1<1\/r.1>y\/cO r.2=false\/(l.take k).getLast?.map (·.2)=some r.2)->Ending.returned (.bool false)=Value.bool (sj cO l m)/\Ext w w':=by intro w' x' hh;rw [if_pos hh] at heq;refine ⟨?_,x'⟩;unfold sj;rw [<-heq];simp
  refine Br.mk (λh1=> ?_) (λh1=>Br.mk (λh2=> ?_) (λh2=> ?_))<;>simp only [cX,fk] at*
  ·exact fin _ bk (.inl h1)
  ·exact fin _ bk (.inr (.inl h2))
  ·refine (gO r.2 _).mono ?_;rintro e w3 ⟨rfl,x3⟩;have x4:=bk.tr x3;have dq:Row ((wr.alloc (.cells #[aa,aa] gP)).setRow wr.heap.size #[r.1,r.2]).drew wr.heap.size [r.1,r.2] gP:=(Row.new wr [aa,aa] gP).set [r.1,r.2];have hrow3:=dq.ext x3;have hkeep:=x3.heap dq.lt;have hll:af w3 (aB wr.heap.size) 0 [r.1]:=by
    refine hrow3.cg (o:=0) λj hj=> ?_
    have:j=0:=by simpa using hj
    subst this;rfl
   have nx:((l.take k).getLast?.map (·.2)≠some r.2)->cO r.2=true->∃n6,n6<n/\∃k_1:Nat,ak ((k:Int)+1)=k_1/\k_1+n6=l.length/\Ext w w3/\ak (y-r.1)<=max m 0/\min m 0<=ak (y-r.1)/\vP cO ((l.take k_1).getLast?.map (·.2)) (ak (y-r.1)) (l.drop k_1)=vP cO none m l:=by
    intro gy hbm;have hwy:=aM (n:=y-r.1) (by unfold bT;omega);refine ⟨n-1,by omega,k+1,by omega,by omega,x4,by omega,by omega,?_⟩;rw [hwy];rw [if_neg (by
     rintro (h|h|h|h)
     ·omega
     ·omega
     ·rw [hbm] at h;cases h
     ·exact gy h)] at heq
    rw [<-heq,dP,hr];simp
   refine ⟨_,rfl,hkeep,hll,hll,Br.mk (λh3=> ?_) (λh3=> ?_)⟩
   ·exact fin _ x4 (.inr (.inr (.inl (by simpa using h3))))
   ·have hbm:cO r.2=true:=by simpa using h3
    apply Br.mk<;>intro h4<;>simp at h4
    ·have VL:=aM (n:=(k:Int)-1) (by unfold bT;omega);rw [VL];obtain ⟨q,hq⟩:=bB (l:=l) (i:=k-1) ab;have lr:=lj.iz hs (i:=k-1) ab;rw [show ((k-1:Nat):Int)=(k:Int)-1 from by omega] at lr;have hcq:=lj.c1 (hs.ext x4) hq;have hsm:=lj.some hs (i:=k-1) ab;rw [show ((k:Int)-1).toNat=k-1 from by omega];have hlast:=hprev k ab;rw [if_neg ab,hq] at hlast;refine ⟨lr,Ej.2 ⟨hsm,_,hcq,Br.mk (λh5=> ?_) (λh5=> ?_)⟩⟩
     ·exact fin _ x4 (.inr (.inr (.inr (by rw [hlast];simpa using h5))))
     ·exact nx (by rw [hlast];simpa using h5) hbm
    ·refine nx ?_ hbm;have:k=0:=by omega
     subst this;simp
 ·obtain rfl:k=l.length:=by omega
  rw [List.drop_length] at heq;apply Br.mk<;>intro h1<;>simp at h1
  ·refine ⟨?_,xr⟩;unfold sj;rw [<-heq,decide_eq_true h1];rfl
  ·refine ⟨?_,xr⟩;unfold sj;rw [decide_eq_false ab];rfl
open Go.Code
abbrev iJ:TypeId:=5
abbrev yv(b:Int):LV:=[.int .u8 b]
abbrev jF(w:World)(s:Sl)(b:List Int):Prop:=RdK w s 1 (b.map yv)
abbrev nA(B:Nat)(w:World)(s:Sl)(b:List Int):Prop:=aF B iJ 1 w s (b.map yv)
abbrev InY(b:List Int):Prop:=∀c ∈ b,0<=c/\c<256
def nA.HV{B:Nat}{w:World}{s:Sl}{c:List Int}(h:nA B w s c):jF w s c:=aF.rd h ab
def jF.len{w:World}{s:Sl}{c:List Int}(h:jF w s c):s.n=c.length:=by have:=h.n;simpa using this
def jF.c0{w:World}{s:Sl}{l:List Int}(h:jF w s l){i:Nat}{b:Int}(hi:l[i]? =some b):ld w (ae s.a (i*1))=some (.int .u8 b):=by have:=h.rd i (yv b) (by rw [aV,hi];rfl) 0 _ rfl;simpa using this
def jF.iz{w:World}{s:Sl}{l:List Int}(h:jF w s l){i:Nat}(hi:i<l.length):ez s.a (i:Int) s.n:=RdK.iz h ab ab (by have:=jF.len h;omega)
def BW(n:Int)(w:World)(hi:bT n):
  ah 254 #[n] w λe w'=>∃s:Sl,e=s/\nA w w' s (iF n)/\Ext w w':=by
 apply Nv.vc;refine Br.mk (λh=> ?_) (λh=>Br.mk (λh2=> ?_) (λh2=> ?_))<;>simp only [cX,fk] at*
 ·exact ⟨⟨none,0,0⟩,rfl,by unfold iF;rw [if_pos (.inl h)];exact aF.nil,Ext.cu w⟩
 ·exact ⟨⟨none,0,0⟩,rfl,by unfold iF;rw [if_pos (.inr h2)];exact aF.nil,Ext.cu w⟩
 have e0:iF n=nB 3 n:=by unfold iF;rw [if_neg ab]
 rw [e0];refine ⟨λm x o wr=>∃(k:Nat)(b:List Int),k=m/\1<=k/\k<=3/\0<=x/\x<128 ^ k/\b.length+k=3/\Ext w wr/\nA w wr o b/\b++nB k x=nB 3 n,⟨3,3,[],rfl,by omega,by omega,by omega,by omega,rfl,Ext.cu w,aF.nil,rfl⟩,?_⟩;rintro m us x o wr ⟨k,b,rfl,k1,k3,hx0,hx,LR,xr,ho,heq⟩;have hon:=jF.len (nA.HV ho);apply Br.mk<;>intro h3<;>simp only [cX,fk] at h3
 ·obtain ⟨j,rfl⟩:∃j,k=j+1:=⟨k-1,by omega⟩;rintro w7 rfl;rw [amR x hx0];obtain ⟨hp,bu⟩:=aF.iO ho (bytes:=1) (news:=yv (128+x % 128)) (.cells #[.int .u8 (128+x % 128)] iJ) xr.size rfl (sW _ _) ab ab;refine ⟨hp,λAX du hr'=> ?_⟩;obtain ⟨k1',ho',_,xb,_,_⟩:=bu AX du hr';have avK:x.fdiv (2 ^(min (7:Int).toNat 64))=x / 128:=by rw [show ((2:Int) ^(min (7:Int).toNat 64))=128 from by decide];exact sZ _ ab
  rw [avK];have hj:1<=j:=by
   rcases Cq j with rfl|h
   ·simp at hx;omega
   ·exact h
  refine ⟨k1',j,by omega,j,b++ [128+x % 128],rfl,hj,by omega,by omega,?_,by simp;omega,xr.trans xb,?_,?_⟩
  ·rw [Int.pow_succ] at hx;omega
  ·show aF _ _ 1 _ _ ((b++ [128+x % 128]).map yv);rw [bX];exact ho'
  ·rw [<-heq];show _=b++(if x<128 then [x] else (128+x % 128)::nB j (x / 128));rw [if_neg ab];simp
 ·rintro w7 rfl;have hwx:fi x=x:=by rw [wrap_u8];omega
  rw [hwx];obtain ⟨hp,bu⟩:=aF.iO ho (bytes:=1) (news:=yv x) (.cells #[.int .u8 x] iJ) xr.size rfl (sW _ _) ab ab;refine ⟨hp,λAX du hr'=> ?_⟩;obtain ⟨k1',ho',_,xb,_,_⟩:=bu AX du hr';refine ⟨k1',AX,rfl,?_,xr.trans xb⟩;rw [<-heq];obtain ⟨j,rfl⟩:∃j,k=j+1:=⟨k-1,by omega⟩;show aF _ _ 1 _ _ ((b++(if x<128 then [x] else (128+x % 128)::nB j (x / 128))).map yv);rw [if_pos ab,bX];exact ho'
def drop_cons{α:Type}{l:List α}{k:Nat}{c:α}(h:l[k]? =some c):l.drop k=c::l.drop (k+1):=by obtain ⟨h1,h2⟩:=cK.1 h;rw [zM h1,h2]
def BO(s:Sl)(b:List Int)(w:World)(hs:jF w s b)(hb:InY b)(hc:s.n<=s.c):
  ah 184 #[s] w λe w'=>e=Value.tuple #[.int .i64 (fm b).1,.int .i64 (fm b).2.1,.int .i64 (fm b).2.2]/\w'=w:=by
 have hn:=jF.len hs;apply Np.vc;have em:(if 3<((s.n:Nat):Int) then 3 else ((s.n:Nat):Int))=((min 3 s.n:Nat):Int):=by split<;>omega
 rw [em];refine ⟨by omega,by omega,?_⟩;refine ⟨λn x y wr=>∃k:Nat,x=k/\k+n=min 3 s.n/\wr=w/\0<=y/\y<128 ^ k/\qW (3-k) k y (b.drop k)=fm b,⟨min 3 s.n,0,rfl,by omega,rfl,by omega,by omega,rfl⟩,?_⟩;rintro n us x y wr ⟨k,rfl,hk,rfl,y0,y1,heq⟩;have hw:=aM (n:=(k:Int)+1) (by unfold bT;omega);apply Br.mk<;>intro h<;>simp only [cX,fk] at h
 ·obtain ⟨c,hcb⟩:=bB (l:=b) (i:=k) ab;have hci:=hb c (aU hcb);rw [drop_cons hcb,show 3-k=(2-k)+1 from by omega,si] at heq;have lr:=jF.iz hs (i:=k) ab;obtain ⟨o1,o2⟩:=ajj k ab y c y0 y1 hci.1 hci.2;have hp:=aaK k y c y1;have hp0:0<=(128:Int) ^ k:=Int.pow_nonneg ab;have hm0:0<=c % 128*128 ^ k:=Fh ab hp0;refine ⟨⟨?_,by omega,by omega⟩,c,?_,?_⟩
  ·have:=lr.1;unfold aJ;split
   ·exact this
   ·rw [Option.isSome_map];exact this
  ·rw [uw];exact jF.c0 hs hcb
  ·rw [o1,hw];refine ae4.2 ⟨o2,?_⟩;apply Br.mk<;>intro h1<;>simp only [cX,fk] at h1
   ·rw [if_pos h1] at heq;exact ⟨n-1,by omega,k+1,by omega,by omega,rfl,by omega,hp,by rw [show 3-(k+1)=2-k from by omega];exact heq⟩
   ·rw [if_neg h1] at heq;refine Br.mk (λh2=>Br.mk (λh3=> ?_) (λh3=>Br.mk (λh4=> ?_) (λh4=> ?_))) (λh2=>Br.mk (λh4=> ?_) (λh4=> ?_))<;>simp only [cX,fk,beq_iff_eq,beq_eq_false_iff_ne] at*
    ·rw [if_pos (.inl ⟨h2,by omega⟩)] at heq;exact ⟨by rw [<-heq],by first|rfl|trivial⟩
    ·rw [if_pos (.inr h4)] at heq;exact ⟨by rw [<-heq],by first|rfl|trivial⟩
    ·rw [if_neg ab] at heq;exact ⟨by rw [<-heq],by first|rfl|trivial⟩
    ·rw [if_pos (.inr h4)] at heq;exact ⟨by rw [<-heq],by first|rfl|trivial⟩
    ·rw [if_neg ab] at heq;exact ⟨by rw [<-heq],by first|rfl|trivial⟩
 ·have hkm:k=min 3 s.n:=by omega
  apply Br.mk<;>intro h2<;>simp only [cX,fk] at h2
  ·have:b.drop k=[]:=List.drop_eq_nil_of_le ab;rw [this,show 3-k=(2-k)+1 from by omega] at heq;exact ⟨by rw [<-heq];rfl,by first|rfl|trivial⟩
  ·rw [show 3-k=0 from by omega] at heq;exact ⟨by rw [<-heq];rfl,by first|rfl|trivial⟩
abbrev ah4(B:Nat)(l:List Rn)(e:Ending)(w':World):Prop:=
 ∃s:Sl,e=Value.tuple #[s,.int .i64 (if okW cO l then 0 else 1)]/\nA B w' s (if okW cO l then lM l else [])
def Yn(left:Int)(r:Rn)(t:List Rn):FC left (r::t)=if r.1<1\/r.1>left then false else FC (left-r.1) t:=rfl
def Dy(s:Sl)(l:List Rn)(w:World)(hs:lj w s l)(hb:l.length<=2000000)(hl:∀r ∈ l,bT r.1/\bT r.2):
  ah 190 #[s] w λe w'=>ah4 w l e w'/\Ext w w':=by
 have tL:=lj.len hs;apply R9.vc;refine ⟨λn x y wr=>∃k:Nat,x=k/\k+n=l.length/\Ext w wr/\0<=y/\y<=1048576/\y=1048576-bF (l.take k)/\FC y (l.drop k)=FC 1048576 l,⟨l.length,0,rfl,by omega,Ext.cu w,by omega,by omega,rfl,rfl⟩,?_⟩;rintro n us x y wr ⟨k,rfl,hk,xr,y0,y1,hy,heq⟩;have hw:=aM (n:=(k:Int)+1) (by unfold bT;omega);apply Br.mk<;>intro h<;>simp only [cX,fk] at h
 ·obtain ⟨r,hr⟩:=bB (l:=l) (i:=k) ab;have hd:=drop_cons hr;rw [hd,Yn] at heq;refine ⟨lj.iz hs ab,_,_,lj.ll (hs.ext xr) hr,?_⟩;rintro w9 rfl bN rfl;have bk:=((xr.tr (Ext.al _ (.cells #[aa,aa] gP))).setRow xr.size #[.int .i64 r.1,.int .i64 r.2]);have bad:∀w',Ext w w'->(r.1<1\/r.1>y)->ah4 w l (.returned (.tuple #[.slice none 0 0,(1:Int)])) w'/\Ext w w':=by
   intro w' x' hh;rw [if_pos hh] at heq;have:okW cO l=false:=by unfold okW;rw [<-heq];rfl
   exact ⟨⟨⟨none,0,0⟩,by rw [this];rfl,by rw [this];exact aF.nil⟩,x'⟩
  refine Br.mk (λh1=> ?_) (λh1=>Br.mk (λh2=> ?_) (λh2=> ?_))<;>simp only [cX,fk] at h1
  ·exact bad _ bk (.inl h1)
  ·replace h2:=nG h2;have vR:=hl r (aU hr);unfold bT at vR;have AN:=aM (n:=y-r.1) (by unfold bT;omega);exact bad _ bk (.inr ab)
  ·replace h2:=nT h2;have vR:=hl r (aU hr);unfold bT at vR;have AN:=aM (n:=y-r.1) (by unfold bT;omega);rw [if_neg ab] at heq;have e:=pr hr;refine ⟨n-1,by omega,k+1,by omega,by omega,bk,by omega,by omega,by omega,?_⟩;rw [<-heq,AN]
 ·have QM:k=l.length:=by omega
  subst QM;rw [List.drop_length] at heq;rw [ja] at hy;have aqk:FC 1048576 l=true:=by rw [<-heq];rfl
  have B6:=(M9 aqk).1;refine (qu s l wr (hs.ext xr) (by unfold Bd;omega) (λr hr=>by have:=B6 r hr;omega) ab).mono ?_;rintro e w0 ⟨rfl,x0⟩;refine ⟨_,rfl,(wU s l (bF l) w0 ((hs.ext xr).ext x0) (by unfold Bd;omega) (by unfold bT;omega)).mono ?_⟩;rintro e w1 ⟨rfl,x1⟩;have bq:okW cO l=sj cO l (bF l):=by unfold okW;rw [aqk];rfl
  have kG:=(xr.tr x0).tr x1;refine ⟨_,rfl,Br.mk (λh2=> ?_) (λh2=> ?_)⟩
  ·have:okW cO l=false:=by rw [bq];simpa using h2
   exact ⟨⟨⟨none,0,0⟩,by rw [this];rfl,by rw [this];exact aF.nil⟩,kG⟩
  ·have aql:okW cO l=true:=by rw [bq];simpa using h2
   refine ⟨λn x o wr=>∃k:Nat,x=k/\k+n=l.length/\Ext w wr/\nA w wr o (lM (l.take k)),⟨l.length,0,rfl,by omega,kG,aF.nil⟩,?_⟩;rintro n2 wg x2 o w2 ⟨j,rfl,hj,x2,ho⟩;have hwj:=aM (n:=(j:Int)+1) (by unfold bT;omega);apply Br.mk<;>intro h<;>simp only [cX,fk] at h
   ·obtain ⟨r,hr⟩:=bB (l:=l) (i:=j) ab;have vR:=hl r (aU hr);have hon:=jF.len (nA.HV ho);have hol:=UE (l.take j);rw [dI] at hol;refine ⟨lj.iz hs ab,_,_,lj.ll (hs.ext x2) hr,?_⟩;rintro gC rfl cV al2 fb rfl;have dT:Ext w cV:=by rw [al2];exact ((x2.tr (Ext.al _ (.cells #[aa,aa] gP))).setRow x2.size #[.int .i64 r.1,.int .i64 r.2])
    have dq:Row cV w2 [.int .i64 r.1,.int .i64 r.2] gP:=by rw [al2];exact (Row.new w2 [aa,aa] gP).set [.int .i64 r.1,.int .i64 r.2]
    have ZM:nA w cV.drew o (lM (l.take j)):=by refine aF.ext (aF.dc ho (w':=cV) ?_) (Ext.dr _);intro g hg;have:=(ho.own.lt hg).2;rw [al2,setRow_other _ _ _ _ ab];exact (Ext.al _ _).heap this
    have hlt25:=dq.lt;have xd:=dT.drew;have hrowd:=dq.ext (Ext.dr cV);have hz:=mN cV;rw [wrap_u8];obtain ⟨hp,bu⟩:=aF.iO ZM (bytes:=1) (news:=yv (r.2 % 256)) (.cells #[.int .u8 (r.2 % 256)] iJ) xd.size rfl (sW _ _) ab ab;refine ⟨hp,λVF gQ hr'=> ?_⟩;obtain ⟨k1,ho',hn',xb,QW,LR⟩:=bu VF gQ hr';have ik:Ext w gQ:=xd.trans xb;have vS:o.bj≠some w2.heap.size:=λhb=>absurd (ho.own.lt hb).2 (CB _)
    have aqm:gQ.heap[w2.heap.size]? =cV.drew.heap[w2.heap.size]? :=QW _ vS ab;have hrow28:=hrowd.same aqm;have hlt28:=hrow28.lt;have hlt28':cV.drew.heap.size<gQ:=by have e:(cV.drew.alloc (.cells #[.int .u8 (r.2 % 256)] iJ)).heap[cV.drew.heap.size]? =some (.cells #[.int .u8 (r.2 % 256)] iJ (0,0)):=Row.new cV.drew [.int .u8 (r.2 % 256)] iJ;rw [<-k1] at e;exact (sT.1 e).1
    have ll0:∀{w'},Row w' w2 [.int .i64 r.1,.int .i64 r.2] gP->af w' (aB w2.heap.size) 0 [.int .i64 r.1]:=λhh=>hh.cg (o:=0) λj hj=>by
     have:j=0:=by simpa using hj
     subst this;rfl
    have ll1:∀{w'},Row w' w2 [.int .i64 r.1,.int .i64 r.2] gP->af w' (dU w2.heap.size 1) 0 [.int .i64 r.2]:=λhh=>hh.cg (o:=1) λj hj=>by
     have:j=0:=by simpa using hj
     subst this;rfl
    refine ⟨?_,k1,ll0 hrow28,ll1 hrow28,(BW r.1 gQ vR.1).mono ?_⟩
    ·rw [aqm];symm;exact (Ext.al _ _).heap ab
    rintro e dX ⟨sn,rfl,on,gr⟩;have hnn:=jF.len (nA.HV on);have Zg:=FD r.1;have hrow29:=hrow28.ext gr;refine ⟨sn,rfl,gr.heap hlt28,gr.heap hlt28',ll1 hrow29,((iF r.1).map yv).flatten,RdK.flat (nA.HV on) ab,?_⟩;have ho3:aF w iJ 1 dX VF _:=aF.ext ho' gr;obtain ⟨ZE,hres2⟩:=aF.HU ho3 (bytes:=1) (more:=(iF r.1).map yv) (ik.tr gr).size cj (by intro q hq;obtain ⟨c,_,rfl⟩:=aY.1 hq;exact sW _ _) (by simp;omega) (by simp;omega);rw [aN] at ZE hres2;rw [hnn];refine ⟨ZE,λvZ eP qE=> ?_⟩;obtain ⟨ho4,_,xb2,Hf,_⟩:=hres2 vZ eP qE;have gy:VF.bj≠some w2.heap.size:=by
     rcases LR with h|h
     ·rw [h];exact vS
     ·rw [h];intro hb;simp at hb;omega
    have hne2:VF.bj≠some cV.drew.heap.size:=by
     rcases LR with h|h
     ·rw [h];intro hb;exact absurd (ZM.own.lt hb).2 (CB _)
     ·rw [h];intro hb;simp at hb
    have aqn:=Hf _ gy (kB hlt28 gr.size);refine ⟨aqn,Hf _ hne2 (kB hlt28' gr.size),ll1 (hrow29.same aqn),n2-1,by omega,j+1,by omega,by omega,(ik.tr gr).trans xb2,?_⟩;rw [aaL hr];show aF _ _ 1 _ _ ((lM (l.take j)++(r.2 % 256::iF r.1)).map yv);rw [bX,fT];have:=ho4;rw [gV] at this;exact this
   ·have:j=l.length:=by omega
    subst this;rw [ja] at ho;exact ⟨⟨o,by rw [aql];rfl,by rw [aql];exact ho⟩,x2⟩
def aaw(b:List Int):∀r ∈ b.map yv,One r:=by intro q hq;obtain ⟨c,_,rfl⟩:=aY.1 hq;exact sW _ _
abbrev acG(B:Nat)(p:List Rn × Int)(e:Ending)(w':World):Prop:=
 ∃s:Sl,e=Value.tuple #[s,p.2]/\wG B w' s p.1
def yn(may:Int->Bool)(f:Nat)(c:Int)(t:List Int)(n last:Int)(acc:List Rn):kE may (f+1) (c::t) n last acc=
  if may c=false\/c=last then ([],2)
  else if (fm t).2.2≠0 then ([],(fm t).2.2)
  else if (fm t).1=0\/(fm t).1>n then ([],2)
  else if n-(fm t).1=0 then (if t.drop (fm t).2.1.toNat=[] then (acc++ [((fm t).1,c)],0) else ([],2))
  else kE may f (t.drop (fm t).2.1.toNat) (n-(fm t).1) c (acc++ [((fm t).1,c)]):=rfl
def acH{B:Nat}{p:List Rn × Int}{q:Int}{w':World}(h:p=([],q)):acG B p (.returned (.tuple #[.slice none 0 0,q])) w':=by subst h;exact ⟨⟨none,0,0⟩,rfl,aF.nil⟩
def G5{may:Int->Bool}:∀(f g:Nat)(b:List Int) {n last:Int} {acc:List Rn} (_:b.length<f) (_:b.length<g),kE may f b n last acc=kE may g b n last acc
 |0,_,_,_,_,_,h,_=>by omega
 |_+1,0,_,_,_,_,_,h=>by omega
 |f+1,g+1,[],_,_,_,_,_=>rfl
 |f+1,g+1,c::t,n,last,acc,h1,h2=>by
  rw [yn,yn]
  have hd:=Er 3 0 0 t ab
  rw [show qW 3 0 0 t=fm t from rfl] at hd
  simp only [c8] at h1 h2
  rw [G5 f g (t.drop (fm t).2.1.toNat) (by rw [zX];omega) (by rw [zX];omega)]
def G6(s:Sl)(b:List Int)(n:Int)(w:World)(hs:jF w s b)(hb:InY b)(hc:s.n<=s.c)(hl:b.length<=1099511627776)(hn:1<=n)(hn':bT n):
  ah 134 #[s,n] w λe w'=>acG w (jC cO b n) e w'/\Ext w w':=by
 unfold bT at hn';apply WI.vc;refine ⟨λm s3 last left o wr=>∃(b':List Int)(acc:List Rn),m=b'.length/\jF w s3 b'/\s3.n<=s3.c/\InY b'/\acc.length+b'.length<=b.length/\1<=left/\left<=n/\Ext w wr/\wG w wr o acc/\kE cO (b'.length+1) b' left last acc=jC cO b n,⟨b.length,b,[],rfl,hs,hc,hb,by simp,hn,by omega,Ext.cu w,aF.nil,rfl⟩,?_⟩;rintro m us s3 last left o wr ⟨b',acc,rfl,h3,h3c,hb',aw1,hl1,Hg,xr,ho,heq⟩;have hn3:=jF.len h3;apply Br.mk<;>intro h<;>simp only [cX,fk] at h
 ·obtain ⟨c,t,rfl⟩:∃c t,b'=c::t:=by
   cases b' with
   |nil=>simp at hn3;omega
   |cons c t=>exact ⟨c,t,rfl⟩
  have hci:=hb' c (.head _);have htI:InY t:=λq hq=>hb' q (.tail _ hq)
  simp only [c8] at hn3 aw1;rw [yn] at heq;have hwc:=aM (n:=c) (by unfold bT;omega);have hrt:jF wr ⟨aJ s3.a 1 s3.n 1,s3.n-1,s3.n-1⟩ t:=by have:=RdK.rest (h3.ext xr) (l:=1) (m:=s3.n) (n':=s3.n-1) (c':=s3.n-1) (by rw [aN,c8];omega) (λe=>by rw [aN,c8];omega);exact this
  refine ⟨jF.iz h3 (i:=0) cj,c,jF.c0 (h3.ext xr) (i:=0) rfl,?_⟩;rw [hwc];rintro bN rfl bc Uf;have bA:Ext w bc:=by rw [Uf];exact ((xr.tr (Ext.al _ (.cells #[aa,aa] gP))).setRow xr.size #[aa,.int .i64 c])
  have aqb:Ext wr bc:=by rw [Uf];exact ((Ext.al wr (.cells #[aa,aa] gP)).setRow (aD _) #[aa,.int .i64 c])
  have dq:Row bc wr [aa,.int .i64 c] gP:=by rw [Uf];exact (Row.new wr [aa,aa] gP).set [aa,.int .i64 c]
  have bad:∀{q:Int} {w':World},Ext w w'->jC cO b n=([],q)->acG w (jC cO b n) (.returned (.tuple #[.slice none 0 0,.int .i64 q])) w'/\Ext w w':=λx' e=>⟨acH e,x'⟩
  refine (gO c bc).mono ?_;rintro e cU ⟨rfl,bS⟩;have jO:=bA.tr bS;have hrow12:=dq.ext bS;refine ⟨_,rfl,bS.heap dq.lt,Br.mk (λh1=> ?_) (λh1=>Br.mk (λh2=> ?_) (λh2=> ?_))⟩
  ·refine bad jO ?_;rw [<-heq,if_pos (.inl (by simpa using h1))]
  ·refine bad jO ?_;rw [<-heq,if_pos (.inr (by simpa using h2))]
  have hm:cO c=true:=by simpa using h1
  have hl':c≠last:=by simpa using h2
  rw [if_neg (by rw [hm];simp [hl'])] at heq;refine ⟨by omega,by omega,by omega,by omega,by omega,by omega,?_⟩;refine (BO ⟨aJ s3.a 1 s3.n 1,s3.n-1,s3.n-1⟩ t cU ((hrt.ext aqb).ext bS) htI (aD _)).mono ?_;rintro e bJ ⟨rfl,rfl⟩;have aqc:=Er 3 0 0 t ab;rw [show qW 3 0 0 t=fm t from rfl] at aqc;generalize fm t=d at*;obtain ⟨sz,kk,er⟩:=d;simp only at*;refine ⟨_,_,_,rfl,(by first|rfl|trivial),Br.mk (λh3'=> ?_) (λh3'=> ?_)⟩
  ·refine bad jO ?_;rw [<-heq,if_pos (by simpa using h3')]
  have her:er=0:=by simpa using h3'
  subst her;have hd:=aqc rfl;rw [if_neg cj] at heq;refine Br.mk (λh4=> ?_) (λh4=>Br.mk (λh5=> ?_) (λh5=> ?_))<;>simp only [beq_iff_eq,beq_eq_false_iff_ne,cX,fk] at h4
  ·refine bad jO ?_;rw [<-heq,if_pos (.inl h4)]
  ·replace h5:=nG h5;refine bad jO ?_;rw [<-heq,if_pos (.inr h5)]
  replace h5:=nT h5;rw [if_neg ab] at heq;have hwl:=aM (n:=left-sz) (by unfold bT;omega);have VL:=aM (n:=1+kk) (by unfold bT;omega);rw [hwl,VL];rintro du ael;have cA:Ext w du:=by rw [ael];exact jO.setRow xr.size _
  have ahj:wG w bJ o acc:=aF.ext ho (aqb.tr bS);have aqd:wG w du.drew o acc:=by refine aF.ext (aF.dc ahj (w':=du) ?_) (Ext.dr _);intro g hg;have:=(ho.own.lt hg).2;rw [ael,setRow_other _ _ _ _ ab]
  have hlt18:wr.heap.size<du:=by rw [ael,setRow_size];exact hrow12.lt
  have xd:=cA.drew;have hz:=mN du;have hon:=lj.len aqd.HJ;refine ⟨by omega,by omega,?_⟩;rintro gn rfl;obtain ⟨hp,bu⟩:=aF.iO aqd (bytes:=16) (news:=rv (sz,c)) (.cells #[sz,.int .i64 c] gP) xd.size rfl (Bb _ _ _ _) ab ab;refine ⟨hp,λvH eU hr'=> ?_⟩;obtain ⟨k1,ho',_,xb,QW,_⟩:=bu vH eU hr';have dh:Ext w eU:=xd.trans xb;have aqe:wG w eU vH (acc++ [(sz,c)]):=by show aF _ _ 2 _ _ ((acc++ [(sz,c)]).map rv);rw [bX];exact ho'
  have hkeep:eU.heap[wr.heap.size]? =(du.drew.alloc (.cells #[sz,.int .i64 c] gP)).heap[wr.heap.size]? :=by rw [QW _ (λhb=>absurd (ho.own.lt hb).2 (CB _)) ab];symm;exact (Ext.al _ _).heap ab
  have Uk:(t.drop kk.toNat).length=t.length-kk.toNat:=zX;refine ⟨hkeep,k1,Br.mk (λh6=>Br.mk (λh7=> ?_) (λh7=>Br.mk (λh8=> ?_) (λh8=> ?_))) (λh6=> ?_)⟩<;>simp only [beq_iff_eq,beq_eq_false_iff_ne] at h6
  ·simp only [cX] at h7;omega
  ·replace h8:=nG h8;rw [if_pos h6,if_neg (by intro e;rw [e] at Uk;simp at Uk;omega)] at heq;exact bad dh heq.symm
  ·replace h8:=nT h8;rw [if_pos h6,if_pos (Cu ab)] at heq;refine ⟨⟨vH,by rw [<-heq],by rw [<-heq];exact aqe⟩,dh⟩
  ·rw [if_neg h6] at heq;have hrest:=RdK.rest h3 (l:=(1+kk).toNat) (m:=s3.c) (n':=s3.n-(1+kk).toNat) (c':=s3.c-(1+kk).toNat) (by rw [aN,c8];omega) (λe=>by rw [aN,c8];omega);rw [show (1+kk).toNat=kk.toNat+1 from by omega,fT,List.drop_succ_cons,<-List.map_drop] at hrest;rw [show (1+kk).toNat=kk.toNat+1 from by omega];refine ⟨(t.drop kk.toNat).length,by simp only [c8];omega,t.drop kk.toNat,acc++ [(sz,c)],rfl,hrest,by show s3.n-(kk.toNat+1)<=s3.c-(kk.toNat+1);omega,λq hq=>htI q (za hq),by simp only [cS,c8,m8];omega,by omega,by omega,dh,aqe,?_⟩;rw [<-heq];exact G5 _ _ _ ab (by simp only [c8];omega)
 ·have:b'=[]:=Cu ab;subst this;have e:jC cO b n=([],3):=by rw [<-heq];show (if left>0 then ([],3) else (acc,0))=_;rw [if_pos ab]
  refine Br.mk (λ_=>⟨acH e,xr⟩) (λh2=> ?_);replace h2:=nT h2;omega
def aF.le{B E k:Nat}{w:World}{s:Sl}{rows:List (LV)}(h:aF B E k w s rows):s.n<=s.c:=by
 have ho:=h.own;generalize rows.flatten=xs at ho
 cases ho with
 |nil=>exact aD _
 |row g n c cs hg hr hc hn=>exact hn
def P4{b:List Int}{n:Int}(hb:InY b)(hn:1<=n)(h:(jC cO b n).2=0):lM (jC cO b n).1=b/\ie cO (-1) (jC cO b n).1/\bF (jC cO b n).1=n:=by obtain ⟨l,e1,e2,e3,e4,_⟩:=C7 (may:=cO) (b.length+1) b n (-1) [] hb hn h;rw [aaA] at e1;have e:jC cO b n=kE cO (b.length+1) b n (-1) []:=rfl;rw [e,e1];exact ⟨e2,e3,e4⟩
def Xb{l:List Rn}{last:Int}(h:ie cO last l):∀r ∈ l,bT r.1/\bT r.2:=by intro r hr;have:=h.mem r hr;unfold Go.Vc.bT;omega
def Yi{g:List Rn}(hF:ie cO (-1) g)(gy:g≠ []):jC cO (lM g) (bF g)=(g,0):=by have:=Ke (may:=cO) g ((lM g).length+1) [] (-1) [] hF gy cj;rw [qQ,if_pos rfl] at this;exact this
end Go.Proofs.YtkkkfkopcfdmaaaGreatDoor
