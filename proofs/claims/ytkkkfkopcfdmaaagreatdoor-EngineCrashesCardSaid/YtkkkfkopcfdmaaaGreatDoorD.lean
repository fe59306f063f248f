import Derived.Test.YtkkkfkopcfdmaaaGreatDoorC
set_option linter.all false
namespace Go.aR
open Go Go.Vc
set_option maxRecDepth 100000
set_option maxHeartbeats 8000000
abbrev Rn:=Int × Int
def cn(l:List Rn):List Int:=l.flatMap λr=>List.replicate r.1.toNat r.2
def j7(out:List Rn)(r:Rn):List Rn:=
 if r.1<1 then out else
 match out.getLast? with
 |some q=>if q.2=r.2 then out.dropLast++ [(q.1+r.1,q.2)] else out++ [r]
 |none=>out++ [r]
def gP(c:List Int):List Rn:=c.foldl (λo b=>j7 o (1,b)) []
def bt(l:List Rn):Int:=(l.map (·.1)).sum
inductive Nm:List Rn->Prop
 |nil:Nm []
 |snoc (l:List Rn) (r:Rn) (h:Nm l) (h1:1<=r.1) (h2:∀q,l.getLast? =some q->q.2≠r.2):Nm (l++ [r])
def mU{o:List Rn}{r:Rn}(h:r.1<1):j7 o r=o:=by unfold j7;rw [if_pos h]
def k8{l:List Rn}{q r:Rn}(h1:1<=r.1)(e:q.2=r.2):j7 (l++ [q]) r=l++ [(q.1+r.1,q.2)]:=by
 unfold j7;have hl:(l++ [q]).getLast? =some q:=by simp
 rw [if_neg aa,hl];simp [e]
def ir{l:List Rn}{r:Rn}(h1:1<=r.1)(h2:∀q,l.getLast? =some q->q.2≠r.2):j7 l r=l++ [r]:=by
 unfold j7;rw [if_neg aa];split
 ·rename_i q hq;rw [if_neg (h2 q hq)]
 ·rfl
def yI(l:List Rn):l=[]\/∃m q,l=m++ [q]:=by
 rcases List.eq_nil_or_concat l with h|⟨m,q,h⟩
 ·exact .inl h
 ·exact .inr ⟨m,q,by simpa using h⟩
def Zu(o:List Rn){a c b:Int}(ha:1<=a)(hc:1<=c):j7 (j7 o (a,b)) (c,b)=j7 o (a+c,b):=by
 have hac:1<=a+c:=by omega
 rcases yI o with rfl|⟨m,q,rfl⟩
 ·rw [ir (l:=[]) (r:=(a,b)) ha bg,ir (l:=[]) (r:=(a+c,b)) hac bg,k8 (q:=(a,b)) (r:=(c,b)) hc rfl]
 ·by_cases e:q.2=b
  ·rw [k8 (r:=(a,b)) ha e,k8 (r:=(a+c,b)) hac e,k8 (q:=(q.1+a,q.2)) (r:=(c,b)) hc e];simp [Int.add_assoc]
  ·have h2:∀x:Int,∀p,(m++ [q]).getLast? =some p->p.2≠((x,b):Rn).2:=by intro x p hp;simp at hp;subst hp;exact e
   rw [ir (r:=(a,b)) ha (h2 a),ir (r:=(a+c,b)) hac (h2 _),k8 (q:=(a,b)) (r:=(c,b)) hc rfl]
def QK(o:List Rn)(b:Int):∀n:Nat,(List.replicate n b).foldl (λo b=>j7 o (1,b)) o=j7 o ((n:Int),b)
 |0=>by rw [mU bg];rfl
 |n+1=>by
  rw [List.replicate_succ',pW,QK o b n]
  show j7 (j7 o ((n:Int),b)) (1,b)=_
  rcases Ds n with rfl|hn
  ·rw [mU (r:=(((0:Nat):Int),b)) bg];rfl
  ·rw [Zu o aa aa];rfl
def ahL(c d:List Int):gP (c++d)=d.foldl (λo b=>j7 o (1,b)) (gP c):=by unfold gP;rw [pW]
def QH(c:List Int)(r:Rn):j7 (gP c) r=gP (c++List.replicate r.1.toNat r.2):=by
 rw [ahL,QK];rcases tX r.1 1 with h|h
 ·rw [mU h,mU (by show ((r.1.toNat:Nat):Int)<1;omega)]
 ·rw [show ((r.1.toNat:Nat):Int)=r.1 from by omega]
def Nm.push{o:List Rn}(h:Nm o)(r:Rn):Nm (j7 o r):=by
 rcases tX r.1 1 with h1|h1
 ·rw [mU h1];exact h
 ·cases h with
  |nil=>rw [ir h1 bg];exact .snoc _ _ .nil h1 bg
  |snoc l q hl hq h2=>
   by_cases e:q.2=r.2
   ·rw [k8 h1 e];exact .snoc _ _ hl (by show 1<=q.1+r.1;omega) h2
   ·have h3:∀p,(l++ [q]).getLast? =some p->p.2≠r.2:=by intro p hp;simp at hp;subst hp;exact e
    rw [ir h1 h3];exact .snoc _ _ (.snoc _ _ hl hq h2) h1 h3
def Hv(c:List Int):Nm (gP c):=by
 have:∀(c:List Int)(o:List Rn),Nm o->Nm (c.foldl (λo b=>j7 o (1,b)) o):=by
  intro c
  induction c with
  |nil=>intro o h;exact h
  |cons b c ih=>intro o h;exact ih _ (h.push _)
 exact this c [] .nil
def iP(l m:List Rn):cn (l++m)=cn l++cn m:=by unfold cn;rw [List.flatMap_append]
def jK(r:Rn):cn [r]=List.replicate r.1.toNat r.2:=by simp [cn]
def Nm.fix{l:List Rn}(h:Nm l):gP (cn l)=l:=by
 induction h with
 |nil=>rfl
 |snoc l r hl h1 h2 ih=>
  rw [iP,jK,<-QH,ih,ir h1 h2]
def Nm.pos{l:List Rn}(h:Nm l):∀r ∈ l,1<=r.1:=by
 induction h with
 |nil=>simp
 |snoc l r hl h1 h2 ih=>
  intro q hq;rcases bX.1 hq with hq|hq
  ·exact ih q hq
  ·simp at hq;rw [hq];exact h1
def UL{o:List Rn}(h:Nm o)(r:Rn):cn (j7 o r)=cn o++List.replicate r.1.toNat r.2:=by
 rcases tX r.1 1 with h1|h1
 ·rw [mU h1,show r.1.toNat=0 from by omega];simp
 ·cases h with
  |nil=>rw [ir h1 bg,iP,jK]
  |snoc l q hl hq h2=>
   by_cases e:q.2=r.2
   ·rw [k8 h1 e,iP,iP,jK,jK];show _++List.replicate (q.1+r.1).toNat q.2=_;rw [show (q.1+r.1).toNat=q.1.toNat+r.1.toNat from by omega,<-List.replicate_append_replicate,e];simp
   ·rw [ir h1 (by intro p hp;simp at hp;subst hp;exact e),iP,jK]
def mS(c:List Int):cn (gP c)=c:=by
 have:∀(c:List Int)(o:List Rn),Nm o->cn (c.foldl (λo b=>j7 o (1,b)) o)=cn o++c:=by
  intro c
  induction c with
  |nil=>intro o h;simp
  |cons b c ih=>intro o h;rw [nU,ih _ (h.push _),UL h];simp
 rw [gP,this c [] .nil];rfl
def QL(l m:List Rn):bt (l++m)=bt l+bt m:=by simp [bt]
def ea{l:List Rn}(h:∀r ∈ l,0<=r.1):bt l=((cn l).length:Nat):=by
 induction l with
 |nil=>rfl
 |cons r l ih=>
  have:=ih λq hq=>h q (.tail _ hq)
  have hr:=h r (.head _);simp only [bt,eQ,List.sum_cons] at this ⊢;rw [this];simp [cn];omega
def nS(c:List Int):bt (gP c)=(c.length:Nat):=by rw [ea λr hr=>by have:=(Hv c).pos r hr;omega,mS]
def Nm.alI{l:List Rn}(h:Nm l):l.length<=(cn l).length:=by
 induction h with
 |nil=>simp
 |snoc l r hl h1 h2 ih=>rw [iP,jK];simp;omega
def te(c:List Int):(gP c).length<=c.length:=by have:=(Hv c).alI;rwa [mS] at this
end Go.aR
namespace Go.aR
def ahM{l:List Rn}(h:∀r ∈ l,0<=r.1){q:Rn}(hq:q ∈ l):q.1<=bt l:=by
 induction l with
 |nil=>cases hq
 |cons r l ih=>
  have hr:=h r (.head _);have hl:0<=bt l:=by rw [ea λq hq=>h q (.tail _ hq)];omega
  have e:bt (r::l)=r.1+bt l:=by simp [bt]
  rw [e];rcases cp.1 hq with rfl|hq
  ·omega
  ·have:=ih (λq hq=>h q (.tail _ hq)) hq;omega
def np{c:List Int}{q:Rn}(hq:q ∈ gP c):1<=q.1/\q.1<=(c.length:Nat):=by have h:=(Hv c).pos;refine ⟨h q hq,?_⟩;rw [<-nS];exact ahM (λr hr=>by have:=h r hr;omega) hq
def JR(c:List Int)(a b:Int):List Int:=(c.take b.toNat).drop a.toNat
def adL(c:List Int)(n:Nat)(x a b:Int)(ha:0<=a)(hb:0<=b):
  JR (c++List.replicate n x) a b=JR c a b++List.replicate (min b (c.length+n:Nat)-max a (c.length:Nat)).toNat x:=by
 unfold JR;rw [List.take_append,List.drop_append,List.take_replicate,List.drop_replicate,cY];congr 2;omega
end Go.aR
namespace Go.aR
def Bc(c:List Int)(a b x:Int):List Int:=c.mapIdx λi y=>if a<=(i:Int)/\(i:Int)<b then x else y
def Zv(c:List Int)(a b x:Int):(Bc c a b x).length=c.length:=by simp [Bc]
def UM(c:List Int)(a b x:Int)(h:min (max b 0) (c.length:Int)<=min (max a 0) (c.length:Int)):Bc c a b x=c:=by
 apply jt;intro i;unfold Bc;rw [List.getElem?_mapIdx];rcases jq i c.length with hi|hi
 ·rw [cX hi];show some (if _ then x else _)=_;rw [if_neg aa]
 ·rw [jv hi];rfl
def Lj(c:List Int)(a b x:Int)(h:min (max a 0) (c.length:Int)<min (max b 0) (c.length:Int)):
  Bc c a b x=JR c 0 (min (max a 0) (c.length:Int))++List.replicate (min (max b 0) (c.length:Int)-min (max a 0) (c.length:Int)).toNat x++JR c (min (max b 0) (c.length:Int)) c.length:=by
 have h1:(JR c 0 (min (max a 0) (c.length:Int))).length=(min (max a 0) (c.length:Int)).toNat:=by unfold JR;simp;omega
 apply jt;intro i;unfold Bc;rw [List.getElem?_mapIdx,fz];rcases jq i c.length with hi|hi
 ·rw [cX hi];show some (if _ then x else _)=_;rcases jq i (min (max a 0) (c.length:Int)).toNat with hl|hl
  ·rw [if_neg aa,pJ aa];unfold JR;rw [xy,rR];simp only [Int.toNat_zero,eC];rw [if_pos hl,cX hi]
  ·rw [qH aa,h1];rcases jq i (min (max b 0) (c.length:Int)).toNat with hm|hm
   ·rw [if_pos aa,pJ (by rw [HP];omega),AV,if_pos aa]
   ·rw [if_neg aa,qH (by rw [HP];omega),HP];unfold JR;rw [xy,rR,if_pos aa];rw [show (min (max b 0) (c.length:Int)).toNat+(i-(min (max a 0) (c.length:Int)).toNat-(min (max b 0) (c.length:Int)-min (max a 0) (c.length:Int)).toNat)=i from by omega];rw [cX hi]
 ·rw [jv hi];symm;rw [Option.map_none,jv];simp only [bQ,HP,h1];unfold JR;simp;omega
def Zw(c:List Int)(i x:Int)(h0:0<=i)(h1:i<(c.length:Int)):Bc c i (i+1) x=c.set i.toNat x:=by
 apply jt;intro j;unfold Bc;rw [List.getElem?_mapIdx,iD];rcases jq j c.length with hj|hj
 ·rw [cX hj];show some (if _ then x else _)=_;by_cases e:i.toNat=j
  ·rw [if_pos aa,if_pos e,if_pos aa]
  ·rw [if_neg aa,if_neg e]
 ·rw [jv hj,if_neg aa];rfl
def atC(c:List Int)(i:Int):Int:=if i<0 then -1 else c.getD i.toNat (-1)
def ahN(c:List Int)(i:Int)(h:i<0\/(c.length:Int)<=i):atC c i= -1:=by
 unfold atC;split
 ·rfl
 ·rw [dO,jv aa];rfl
def alJ(c d:List Int)(n:Nat)(x i:Int)(h0:(c.length:Int)<=i)(h1:i<(c.length:Int)+n):atC (c++List.replicate n x++d) i=x:=by unfold atC;rw [if_neg aa,dO,fz,qH aa,pJ (by rw [HP];omega),AV,if_pos aa];rfl
def xc(may:Int->Bool):Option Int->Int->List Rn->Bool
 |_,left,[]=>left==0
 |prev,left,r::t=>if r.1<1\/r.1>left\/may r.2=false\/prev=some r.2 then false else xc may (some r.2) (left-r.1) t
def tk(may:Int->Bool)(l:List Rn)(n:Int):Bool:=decide (0<n) && xc may none n l
def QM{may:Int->Bool}:∀{l:List Rn} {prev:Option Int} {left:Int},xc may prev left l=true->bt l=left
 | [],_,left,h=>by simp [xc] at h;rw [h];rfl
 |r::t,prev,left,h=>by
  unfold xc at h
  split at h
  ·cases h
  ·have:=QM h
   simp only [bt,eQ,List.sum_cons] at this ⊢
   omega
def Cs{may:Int->Bool}:∀{l:List Rn} {prev:Option Int} {left:Int},(∀r ∈ l,1<=r.1/\may r.2=true)->(∀i q r,l[i]? =some q->l[i+1]? =some r->q.2≠r.2)->(∀r,l.head? =some r->prev≠some r.2)->bt l=left->xc may prev left l=true
 | [],_,left,_,_,_,h=>by simp [xc,<-h,bt]
 |r::t,prev,left,h1,h2,h3,h=>by
  have hr:=h1 r (.head _)
  have ht:0<=bt t:=by rw [ea λq hq=>by have:=h1 q (.tail _ hq);omega];omega
  have e:bt (r::t)=r.1+bt t:=by simp [bt]
  unfold xc;rw [if_neg (by
   have:=h3 r rfl;rintro (h|h|h|h)
   ·omega
   ·omega
   ·rw [hr.2] at h;cases h
   ·exact this h)]
  refine Cs (λq hq=>h1 q (.tail _ hq)) (λi q s hq hs=>h2 (i+1) q s (by simpa using hq) (by simpa using hs)) (λq hq=> ?_) aa;have:=h2 0 r q rfl (by cases t<;>simp_all);intro e2;exact this (Option.some.inj e2)
def Nm.next{l:List Rn}(h:Nm l):∀i q r,l[i]? =some q->l[i+1]? =some r->q.2≠r.2:=by
 induction h with
 |nil=>intro i q r h;simp at h
 |snoc l p hl h1 h2 ih=>
  intro i q r hq hr;rcases jq (i+1) l.length with iQ|Ny
  ·rw [pJ aa] at hq hr;exact ih i q r hq hr
  ·have hi:=(bZ.1 hr).1;simp at hi;have:i+1=l.length:=by omega
   rw [pJ aa] at hq;rw [qH aa,this] at hr;simp at hr;subst hr;refine h2 q ?_;rw [List.getLast?_eq_getElem?,show l.length-1=i from by omega];exact hq
def Y9{l:List Rn}{r:Rn}(h:r ∈ l)(h1:1<=r.1):r.2 ∈ cn l:=by unfold cn;refine List.mem_flatMap.2 ⟨r,h,?_⟩;rw [acr];exact ⟨aa,rfl⟩
end Go.aR
namespace Go.aR
def ahO{c:List Int}{i:Int}(h0:0<=i)(h1:i<(c.length:Int)):c[i.toNat]? =some (atC c i):=by unfold atC;rw [if_neg aa,dO,cX aa];rfl
end Go.aR
namespace Go.Code
open Go Go.Vc Go.aR
set_option maxRecDepth 100000
set_option maxHeartbeats 8000000
def oA:Nat->Int->List Int
 |0,_=> []
 |k+1,x=>if x<128 then [x] else (128+x % 128)::oA k (x / 128)
def ja(n:Int):List Int:=if n<0\/n>1048576 then [] else oA 3 n
def sj:Nat->Nat->Int->List Int->Int × Int × Int
 |0,_,_,_=>(0,0,2)
 |_+1,_,_,[]=>(0,0,3)
 |k+1,i,n,c::t=>if c>=128 then sj k (i+1) (n+c % 128*128 ^ i) t
  else if (c=0/\0<i)\/n+c % 128*128 ^ i>1048576 then (0,0,2) else (n+c % 128*128 ^ i,(i:Int)+1,0)
def fB(b:List Int):Int × Int × Int:=sj 3 0 0 b
def wrap_u8(x:Int):jn x=x % 256:=by unfold IntKind.wrap;simp [IntKind.bits,IntKind.signed]
def ap9(x:Int)(h:0<=x):S7 .u8 (jn x) 128=128+x % 128:=by
 rw [wrap_u8];have key:∀a<256,S7 .u8 ((a:Nat):Int) 128=128+((a:Nat):Int) % 128:=by decide+kernel
 have:=key (x % 256).toNat aa;rw [show (((x % 256).toNat:Nat):Int)=x % 256 from by omega] at this;rw [this];omega
def Yo(c:Int)(h:0<=c)(h':c<256):ni .u8 c 128=c % 128:=by
 have key:∀a<256,ni .u8 ((a:Nat):Int) 128=((a:Nat):Int) % 128:=by decide+kernel
 have:=key c.toNat aa;rwa [show ((c.toNat:Nat):Int)=c from by omega] at this
def alc(n c k:Nat)(h:n<2 ^ k)(hb:n+c*2 ^ k<4611686018427387904):S7 .i64 (n:Int) ((c*2 ^ k:Nat):Int)=((n+c*2 ^ k:Nat):Int):=by
 unfold S7;have e1:∀m:Nat,m<4611686018427387904->(BitVec.ofInt IntKind.i64.bits (m:Int)).toNat=m:=by intro m hm;rw [zV];show ((m:Int) %((2 ^ 64:Nat):Int)).toNat=m;rw [show ((2 ^ 64:Nat):Int)=18446744073709551616 from by decide];omega
 rw [BitVec.toNat_or,e1 n aa,e1 _ aa,Nat.or_comm];have:=Nat.shiftLeft_add_eq_or_of_lt h c;rw [Nat.shiftLeft_eq] at this;rw [<-this,u9];exact wI
end Go.Code
namespace Go.Code
open Go Go.Vc Go.aR
def ald(k:Nat)(hk:k<3)(n c:Int)(h0:0<=n)(h1:n<128 ^ k)(hc:0<=c)(hc':c<256):
  S7 .i64 n (aw ((aw (ni .u8 c 128))*2 ^(min ((aw (7*(k:Int))):Int).toNat 64)))=n+c % 128*128 ^ k/\0<=aw (7*(k:Int)):=by
 have hw:=aK (n:=7*(k:Int)) gA;rw [hw,Yo c hc hc',aK (n:=c % 128) gA];refine ⟨?_,aa⟩;have e:((2:Int) ^(min ((7*(k:Int)):Int).toNat 64))=128 ^ k:=by
  have:k=0\/k=1\/k=2:=by omega
  rcases this with rfl|rfl|rfl<;>decide
 rw [e];have hp:(128:Int) ^ k<=16384/\1<=(128:Int) ^ k:=by
  have:k=0\/k=1\/k=2:=by omega
  rcases this with rfl|rfl|rfl<;>decide
 have hm:c % 128*128 ^ k<=127*16384:=by
  have:k=0\/k=1\/k=2:=by omega
  rcases this with rfl|rfl|rfl<;>simp<;>omega
 have hm0:0<=c % 128*128 ^ k:=GN aa aa;rw [aK (n:=c % 128*128 ^ k) gA];have e7:((2 ^(7*k):Nat):Int)=128 ^ k:=by
  have:k=0\/k=1\/k=2:=by omega
  rcases this with rfl|rfl|rfl<;>decide
 have e2:c % 128*128 ^ k=(((c % 128).toNat*2 ^(7*k):Nat):Int):=by rw [Int.natCast_mul,e7,show (((c % 128).toNat:Nat):Int)=c % 128 from by omega]
 have:=alc n.toNat (c % 128).toNat (7*k) (by
  have:((n.toNat:Nat):Int)<((2 ^(7*k):Nat):Int):=by rw [e7];omega
  omega) (by
  have:(((c % 128).toNat*2 ^(7*k):Nat):Int)<=127*16384:=by rw [<-e2];exact hm
  omega)
 rw [e2,show n=((n.toNat:Nat):Int) from by omega];rw [this];simp
def tj{k j:Nat}{n c:Int}{t:List Int}:sj (j+1) k n (c::t)=if c>=128 then sj j (k+1) (n+c % 128*128 ^ k) t
   else if (c=0/\0<k)\/n+c % 128*128 ^ k>1048576 then (0,0,2) else (n+c % 128*128 ^ k,(k:Int)+1,0):=rfl
def acV(k:Nat)(n c:Int)(h1:n<128 ^ k):n+c % 128*128 ^ k<128 ^(k+1):=by have hp:0<=(128:Int) ^ k:=Int.pow_nonneg aa;have:c % 128*128 ^ k<=127*128 ^ k:=Int.mul_le_mul_of_nonneg_right aa hp;rw [Int.pow_succ];omega
end Go.Code
namespace Go.Code
open Go Go.Vc Go.aR
def G5:Int->List Rn->Bool
 |_,[]=>true
 |left,r::t=>if r.1<1\/r.1>left then false else G5 (left-r.1) t
def PK:∀{l:List Rn} {left:Int},G5 left l=true->(∀r ∈ l,1<=r.1)/\(l≠ []->bt l<=left)
 | [],_,_=>⟨bg,λh=>absurd rfl h⟩
 |r::t,left,h=>by
  unfold G5 at h
  split at h
  ·cases h
  ·obtain ⟨h1,h2⟩:=PK h
   refine ⟨λq hq=> ?_,λ_=> ?_⟩
   ·rcases cp.1 hq with rfl|hq
    ·omega
    ·exact h1 q hq
   ·have e:bt (r::t)=r.1+bt t:=by simp [bt]
    by_cases ht:t=[]
    ·subst ht;rw [e];simp [bt];omega
    ·have:=h2 ht;omega
def okW(may:Int->Bool)(l:List Rn):Bool:=G5 1048576 l && tk may l (bt l)
def lP(l:List Rn):List Int:=l.flatMap λr=>r.2 % 256::ja r.1
def ahc(l m:List Rn):lP (l++m)=lP l++lP m:=by unfold lP;rw [List.flatMap_append]
def acW{l:List Rn}{k:Nat}{r:Rn}(hr:l[k]? =some r):lP (l.take (k+1))=lP (l.take k)++(r.2 % 256::ja r.1):=by rw [dy,hr,ahc];simp [lP]
def PL:∀(k:Nat)(x:Int),(oA k x).length<=k
 |0,_=>by simp [oA]
 |k+1,x=>by
  unfold oA
  split
  ·simp
  ·have:=PL k (x / 128);simp;omega
def G6(n:Int):(ja n).length<=3:=by
 unfold ja;split
 ·simp
 ·exact PL 3 n
def WD(l:List Rn):(lP l).length<=4*l.length:=by
 induction l with
 |nil=>simp [lP]
 |cons r l ih=>
  have:=G6 r.1;unfold lP at ih ⊢;rw [List.flatMap_cons,bQ,bR,bR];omega
def WI:∀(k:Nat)(x:Int),0<=x->∀c ∈ oA k x,0<=c/\c<256
 |0,_,_,c,h=>by simp [oA] at h
 |k+1,x,hx,c,h=>by
  unfold oA at h
  split at h
  ·simp at h;omega
  ·rcases cp.1 h with rfl|h
   ·omega
   ·exact WI k (x / 128) aa c h
def ahd(n:Int):∀c ∈ ja n,0<=c/\c<256:=by
 intro c h;unfold ja at h;split at h
 ·simp at h
 ·exact WI 3 n aa c h
def ak8(l:List Rn):∀c ∈ lP l,0<=c/\c<256:=by
 intro c h;unfold lP at h;obtain ⟨r,_,hc⟩:=List.mem_flatMap.1 h;rcases cp.1 hc with rfl|hc
 ·omega
 ·exact ahd r.1 c hc
end Go.Code
namespace Go.Code
open Go Go.Vc Go.aR
def WJ:∀(k i:Nat)(m x:Int)(t:List Int),1<=k->0<=x->x<128 ^ k->(x=0->i=0)->m+x*128 ^ i<=1048576->
  sj k i m (oA k x++t)=(m+x*128 ^ i,(i:Int)+(oA k x).length,0)
 |0,_,_,_,_,h,_,_,_,_=>by omega
 |k+1,i,m,x,t,_,h0,h1,hz,hm=>by
  by_cases hx:x<128
  ·have e:oA (k+1) x=[x]:=by unfold oA;rw [if_pos hx]
   rw [e,List.singleton_append,tj,if_neg aa,show x % 128=x from by omega,if_neg (by
    rintro (⟨h,h'⟩|h)
    ·have:=hz h;omega
    ·omega)]
   simp
  ·have e:oA (k+1) x=(128+x % 128)::oA k (x / 128):=by show (if x<128 then [x] else (128+x % 128)::oA k (x / 128))=_;rw [if_neg hx]
   have hk:1<=k:=by
    rcases Ds k with rfl|h
    ·simp at h1;omega
    ·exact h
   have ayh:(128:Int) ^(i+1)=128 ^ i*128:=Int.pow_succ _ _;have BQ:m+x % 128*128 ^ i+x / 128*128 ^(i+1)=m+x*128 ^ i:=by
    rw [ayh];have:x % 128*128 ^ i+x / 128*(128 ^ i*128)=x*128 ^ i:=by rw [Int.mul_comm (128 ^ i) 128,<-Int.mul_assoc,<-Int.add_mul];congr 1;omega
    omega
   rw [e,List.cons_append,tj,if_pos aa,show (128+x % 128) % 128=x % 128 from by omega];rw [WJ k (i+1) _ (x / 128) t hk aa (by rw [Int.pow_succ] at h1;omega) aa (by rw [BQ];exact hm),BQ];simp;omega
def acX{n:Int}(h0:0<=n)(h1:n<=1048576)(t:List Int):fB (ja n++t)=(n,((ja n).length:Int),0):=by
 have e:ja n=oA 3 n:=by unfold ja;rw [if_neg aa]
 rw [e];unfold fB;rw [WJ 3 0 0 n t aa h0 aa (λ_=>rfl) tP];simp
end Go.Code
namespace Go.Code
open Go Go.Vc Go.aR
def KP:∀{l:List Rn} {left:Int},(∀r ∈ l,1<=r.1)->bt l<=left->G5 left l=true
 | [],_,_,_=>rfl
 |r::t,left,h,hs=>by
  have e:bt (r::t)=r.1+bt t:=by simp [bt]
  have h1:=h r (.head _);have ht:0<=bt t:=by rw [ea λq hq=>by have:=h q (.tail _ hq);omega];omega
  unfold G5;rw [if_neg aa];exact KP (λq hq=>h q (.tail _ hq)) aa
def ale{may:Int->Bool}{l:List Rn}(h:Nm l)(hm:∀r ∈ l,may r.2=true)(hs:bt l<=1048576)(hZ:l≠ []):okW may l=true:=by
 unfold okW;rw [KP h.pos hs];unfold tk;have hp:0<bt l:=by
  cases l with
  |nil=>exact absurd rfl hZ
  |cons r t=>
   have e:bt (r::t)=r.1+bt t:=by simp [bt]
   have h1:=h.pos r (.head _);have ht:0<=bt t:=by rw [ea λq hq=>by have:=h.pos q (.tail _ hq);omega];omega
   omega
 rw [decide_eq_true hp,Cs (λr hr=>⟨h.pos r hr,hm r hr⟩) h.next (λr _=>by simp) rfl];rfl
end Go.Code
namespace Go.Code
open Go Go.Vc Go.aR
def kZ(may:Int->Bool):Nat->List Int->Int->Int->List Rn->List Rn × Int
 |0,_,_,_,_=>([],3)
 |_+1,[],n,_,acc=>if n>0 then ([],3) else (acc,0)
 |f+1,c::t,n,last,acc=>
  if may c=false\/c=last then ([],2)
  else if (fB t).2.2≠0 then ([],(fB t).2.2)
  else if (fB t).1=0\/(fB t).1>n then ([],2)
  else if n-(fB t).1=0 then (if t.drop (fB t).2.1.toNat=[] then (acc++ [((fB t).1,c)],0) else ([],2))
  else kZ may f (t.drop (fB t).2.1.toNat) (n-(fB t).1) c (acc++ [((fB t).1,c)])
def jZ(may:Int->Bool)(b:List Int)(n:Int):List Rn × Int:=kZ may (b.length+1) b n (-1) []
def FK:∀(k i:Nat)(m:Int)(b:List Int),0<=m->(sj k i m b).2.2=0->0<=(sj k i m b).1/\(sj k i m b).1<=1048576/\(i:Int)+1<=(sj k i m b).2.1/\(sj k i m b).2.1<=(i:Int)+b.length
 |0,_,_,_,_,h=>by simp [sj] at h
 |k+1,i,m,[],_,h=>by simp [sj] at h
 |k+1,i,m,c::t,h0,h=>by
  have hp:0<=c % 128*128 ^ i:=GN aa (Int.pow_nonneg aa)
  rw [tj] at h ⊢
  split
  ·rename_i hc
   rw [if_pos hc] at h
   have:=FK k (i+1) _ t aa h
   simp only [bR]
   omega
  ·rename_i hc
   rw [if_neg hc] at h
   split
   ·rename_i hz;rw [if_pos hz] at h;simp at h
   ·rename_i hz
    simp only [bR]
    refine ⟨aa,?_,aa,aa⟩
    rcases tX 1048576 (m+c % 128*128 ^ i) with hh|hh
    ·exact absurd (.inr hh) hz
    ·exact hh
end Go.Code
namespace Go.Code
open Go Go.Vc Go.aR
set_option maxRecDepth 100000
set_option maxHeartbeats 8000000
def LK{may:Int->Bool}{f:Nat}{n last:Int}{acc:List Rn}:kZ may (f+1) [] n last acc=if n>0 then ([],3) else (acc,0):=rfl
def vT(may:Int->Bool)(f:Nat)(c:Int)(t:List Int)(n last:Int)(acc:List Rn):kZ may (f+1) (c::t) n last acc=
  if may c=false\/c=last then ([],2)
  else if (fB t).2.2≠0 then ([],(fB t).2.2)
  else if (fB t).1=0\/(fB t).1>n then ([],2)
  else if n-(fB t).1=0 then (if t.drop (fB t).2.1.toNat=[] then (acc++ [((fB t).1,c)],0) else ([],2))
  else kZ may f (t.drop (fB t).2.1.toNat) (n-(fB t).1) c (acc++ [((fB t).1,c)]):=rfl
def LL{may:Int->Bool}:∀(f:Nat)(b:List Int)(n last:Int)(acc:List Rn),(kZ may f b n last acc).1.length<=acc.length+b.length
 |0,_,_,_,_=>by simp [kZ]
 |f+1,[],n,_,acc=>by rw [LK];split<;>simp
 |f+1,c::t,n,last,acc=>by
  rw [vT]
  split
  ·simp
  split
  ·simp
  split
  ·simp
  split
  ·split<;>simp
  ·have:=LL (may:=may) f (t.drop (fB t).2.1.toNat) (n-(fB t).1) c (acc++ [((fB t).1,c)])
   simp only [bQ,bR,lV,A6] at this ⊢
   omega
def aaE{may:Int->Bool}(b:List Int)(n:Int):(jZ may b n).1.length<=b.length:=by have:=LL (may:=may) (b.length+1) b n (-1) [];simpa [jZ] using this
def iO(may:Int->Bool):Int->List Rn->Prop
 |_,[]=>True
 |last,r::t=>1<=r.1/\r.1<=1048576/\0<=r.2/\r.2<256/\may r.2=true/\r.2≠last/\iO may r.2 t
def iO.pos{may:Int->Bool}:∀{l:List Rn} {last:Int},iO may last l->∀r ∈ l,1<=r.1
 | [],_,_=>by simp
 |q::t,_,h=>by
  obtain ⟨h1,_,_,_,_,_,h7⟩:=h
  intro r hr
  rcases cp.1 hr with rfl|hr
  ·exact h1
  ·exact h7.pos r hr
def Ij(r:Rn)(t:List Rn)(h:0<=r.2/\r.2<256):lP (r::t)=r.2::(ja r.1++lP t):=by unfold lP;rw [List.flatMap_cons,Int.emod_eq_of_lt h.1 h.2];rfl
def C7(r:Rn)(t:List Rn):bt (r::t)=r.1+bt t:=by simp [bt]
def aaF{may:Int->Bool}{f:Nat}{r:Rn}{t:List Int}{n last:Int}{acc:List Rn}(h1:1<=r.1)(h2:r.1<=1048576)(h5:may r.2=true)(h6:r.2≠last):
  kZ may (f+1) (r.2::(ja r.1++t)) n last acc=if r.1>n then ([],2) else if n-r.1=0 then (if t=[] then (acc++ [r],0) else ([],2)) else kZ may f t (n-r.1) r.2 (acc++ [r]):=by
 rw [vT,acX aa h2,if_neg (by
  rintro (h|h)
  ·rw [h5] at h;cases h
  ·exact h6 h),if_neg bg]
 by_cases hn:r.1>n
 ·rw [if_pos (.inr hn),if_pos hn]
 ·rw [if_neg (by show ¬(r.1=0\/r.1>n);omega),if_neg hn];have e:(ja r.1++t).drop (((ja r.1).length:Int)).toNat=t:=by simp
  show (if n-r.1=0 then (if (ja r.1++t).drop (((ja r.1).length:Int)).toNat=[] then (acc++ [(r.1,r.2)],0) else ([],2)) else kZ may f ((ja r.1++t).drop (((ja r.1).length:Int)).toNat) (n-r.1) r.2 (acc++ [(r.1,r.2)]))=_;rw [e]
def LM{may:Int->Bool}:∀(l:List Rn)(f:Nat)(t:List Int)(last:Int)(acc:List Rn),iO may last l->l≠ []->(lP l++t).length<f->
  kZ may f (lP l++t) (bt l) last acc=if t=[] then (acc++l,0) else ([],2)
 | [],_,_,_,_,_,h,_=>absurd rfl h
 |r::l,0,_,_,_,_,_,hf=>by omega
 |r::l,f+1,t,last,acc,hF,_,hf=>by
  obtain ⟨h1,h2,h3,h4,h5,h6,hF'⟩:=hF
  have e:lP (r::l)++t=r.2::(ja r.1++(lP l++t)):=by rw [Ij r l ⟨h3,h4⟩];simp
  rw [e] at hf ⊢;simp only [bR,bQ] at hf;have Dp:0<=bt l:=by rw [ea λq hq=>by have:=hF'.pos q hq;omega];omega
  rw [aaF h1 h2 h5 h6,C7,if_neg aa,show r.1+bt l-r.1=bt l from by omega];by_cases hl:l=[]
  ·subst hl;rw [if_pos (show bt []=0 from rfl)];simp [lP]
  ·have hsp:1<=bt l:=by
    cases l with
    |nil=>exact absurd rfl hl
    |cons q m=>
     have:=hF'.pos q (.head _);have hm:0<=bt m:=by rw [ea λp hp=>by have:=hF'.pos p (.tail _ hp);omega];omega
     rw [C7];omega
   rw [if_neg aa,LM l f t r.2 (acc++ [r]) hF' hl (by simp only [bQ];omega)];simp
def aeH{t:List Int}(hi:∀c ∈ t,0<=c/\c<256)(h:(fB t).2.2=0):ja (fB t).1=t.take (fB t).2.1.toNat:=by
 unfold fB at h ⊢
 cases t with
 |nil=>simp [sj] at h
 |cons a t=>
  have ha:=hi a (.head _);rw [tj] at h ⊢;split
  ·rename_i ha2;rw [if_pos ha2] at h
   cases t with
   |nil=>simp [sj] at h
   |cons b t=>
    have hb:=hi b (.tail _ (.head _));rw [tj] at h ⊢;split
    ·rename_i j8;rw [if_pos j8] at h
     cases t with
     |nil=>simp [sj] at h
     |cons c t=>
      have hc:=hi c (.tail _ (.tail _ (.head _)));rw [tj] at h ⊢;split
      ·rename_i ky;rw [if_pos ky] at h;simp [sj] at h
      ·rename_i ky;rw [if_neg ky] at h;split
       ·rename_i hz;rw [if_pos hz] at h;simp at h
       ·rename_i hz;have e:(0+a % 128*128 ^ 0+b % 128*128 ^(0+1)+c % 128*128 ^(0+1+1):Int)=a % 128+b % 128*128+c % 128*16384:=by simp
        rw [e] at hz ⊢;have um:c≠0:=λe0=>hz (.inl ⟨e0,aa⟩)
        have hle:a % 128+b % 128*128+c % 128*16384<=1048576:=by
         rcases tX 1048576 (a % 128+b % 128*128+c % 128*16384) with hh|hh
         ·exact absurd (.inr hh) hz
         ·exact hh
        have ec:c % 128=c:=by omega
        rw [ec] at hle ⊢;unfold ja;rw [if_neg aa];simp only [oA];rw [if_neg aa,if_neg aa,if_pos aa];have e1:128+(a % 128+b % 128*128+c*16384) % 128=a:=by omega
        have e2:128+(a % 128+b % 128*128+c*16384) / 128 % 128=b:=by omega
        have e3:(a % 128+b % 128*128+c*16384) / 128 / 128=c:=by omega
        rw [e1,e2,e3];rfl
    ·rename_i j8;rw [if_neg j8] at h;split
     ·rename_i hz;rw [if_pos hz] at h;simp at h
     ·rename_i hz;have e:(0+a % 128*128 ^ 0+b % 128*128 ^(0+1):Int)=a % 128+b % 128*128:=by simp
      rw [e] at hz ⊢;have F7:b≠0:=λe0=>hz (.inl ⟨e0,aa⟩)
      have ec:b % 128=b:=by omega
      rw [ec] at hz ⊢;unfold ja;rw [if_neg aa];simp only [oA];rw [if_neg aa,if_pos aa];have e1:128+(a % 128+b*128) % 128=a:=by omega
      have e2:(a % 128+b*128) / 128=b:=by omega
      rw [e1,e2];rfl
  ·rename_i ha2;rw [if_neg ha2] at h;split
   ·rename_i hz;rw [if_pos hz] at h;simp at h
   ·have ec:a % 128=a:=by omega
    rw [ec];have e:(0+a*128 ^ 0:Int)=a:=by simp
    rw [e];unfold ja;rw [if_neg aa];simp only [oA];rw [if_pos aa];rfl
def Ei{may:Int->Bool}:∀(f:Nat)(b:List Int)(n last:Int)(acc:List Rn),(∀c ∈ b,0<=c/\c<256)->1<=n->(kZ may f b n last acc).2=0->
  ∃l,(kZ may f b n last acc).1=acc++l/\lP l=b/\iO may last l/\bt l=n/\l≠ []
 |0,_,_,_,_,_,_,h=>by simp [kZ] at h
 |f+1,[],n,_,acc,_,hn,h=>by rw [LK,if_pos aa] at h;simp at h
 |f+1,c::t,n,last,acc,hi,hn,h=>by
  have hc:=hi c (.head _)
  have ht:∀c ∈ t,0<=c/\c<256:=λq hq=>hi q (.tail _ hq)
  rw [vT] at h ⊢
  split
  ·rename_i h1;rw [if_pos h1] at h;simp at h
  rename_i h1
  rw [if_neg h1] at h
  split
  ·rename_i h2;rw [if_pos h2] at h;exact absurd h h2
  rename_i h2
  rw [if_neg h2] at h
  split
  ·rename_i h3;rw [if_pos h3] at h;simp at h
  rename_i h3
  rw [if_neg h3] at h
  have h2':(fB t).2.2=0:=Decidable.not_not.1 h2
  have hd:=FK 3 0 0 t aa h2'
  have atV:=aeH ht h2'
  rw [show sj 3 0 0 t=fB t from rfl] at hd
  generalize hdg:fB t=d at*
  obtain ⟨sz,k,er⟩:=d
  simp only at h h3 hd atV ⊢
  have ai6:may c=true:=by
   cases hm:may c with
   |true=>rfl
   |false=>exact absurd (.inl hm) h1
  have Ta:c≠last:=λe=>h1 (.inr e)
  have xU:ja sz++t.drop k.toNat=t:=by rw [atV];exact qM _ _
  split
  ·rename_i h4;rw [if_pos h4] at h;split
   ·rename_i h5;refine ⟨[(sz,c)],rfl,?_,⟨by show 1<=sz;omega,by show sz<=1048576;omega,hc.1,hc.2,ai6,Ta,trivial⟩,by simp [bt];omega,bg⟩;rw [Ij _ _ hc];rw [h5,mA] at xU;simp [xU,lP]
   ·rename_i h5;rw [if_neg h5] at h;simp at h
  ·rename_i h4;rw [if_neg h4] at h;obtain ⟨l,e1,e2,e3,e4,e5⟩:=Ei f (t.drop k.toNat) (n-sz) c (acc++ [(sz,c)]) (λq hq=>ht q (Ar hq)) aa h;refine ⟨(sz,c)::l,by rw [e1];simp,?_,⟨by show 1<=sz;omega,by show sz<=1048576;omega,hc.1,hc.2,ai6,Ta,e3⟩,by rw [C7];show sz+bt l=n;omega,bg⟩;rw [Ij _ _ hc,e2];show c::(ja sz++t.drop k.toNat)=_;rw [xU]
def iO.of{may:Int->Bool}:∀{l:List Rn} {last:Int},(∀r ∈ l,1<=r.1/\r.1<=1048576/\0<=r.2/\r.2<256/\may r.2=true)->(∀i q r,l[i]? =some q->l[i+1]? =some r->q.2≠r.2)->(∀r,l.head? =some r->r.2≠last)->iO may last l
 | [],_,_,_,_=>trivial
 |r::t,last,h1,h2,h3=>by
  obtain ⟨a,b,c,d,e⟩:=h1 r (.head _)
  refine ⟨a,b,c,d,e,h3 r rfl,iO.of (λq hq=>h1 q (.tail _ hq)) (λi q s hq hs=>h2 (i+1) q s (by simpa using hq) (by simpa using hs)) (λq hq=> ?_)⟩
  have:=h2 0 r q rfl (by cases t<;>simp_all)
  exact λe=>this e.symm
def iO.next{may:Int->Bool}:∀{l:List Rn} {last:Int},iO may last l->∀i q r,l[i]? =some q->l[i+1]? =some r->q.2≠r.2
 | [],_,_,i,q,r,h,_=>by simp at h
 | [x],_,_,i,q,r,h,h'=>by simp at h'
 |x::y::t,_,h,0,q,r,hq,hr=>by
  simp at hq hr;subst hq;subst hr
  exact λe=>h.2.2.2.2.2.2.2.2.2.2.2.1 e.symm
 |x::y::t,_,h,i+1,q,r,hq,hr=>h.2.2.2.2.2.2.next i q r (by simpa using hq) (by simpa using hr)
def iO.mem{may:Int->Bool}:∀{l:List Rn} {last:Int},iO may last l->∀r ∈ l,1<=r.1/\r.1<=1048576/\0<=r.2/\r.2<256/\may r.2=true
 | [],_,_,r,h=>by cases h
 |q::t,_,h,r,hr=>by
  rcases cp.1 hr with rfl|hr
  ·exact ⟨h.1,h.2.1,h.2.2.1,h.2.2.2.1,h.2.2.2.2.1⟩
  ·exact h.2.2.2.2.2.2.mem r hr
def iO.tk{may:Int->Bool}{l:List Rn}{last:Int}(h:iO may last l)(hZ:1<=bt l):tk may l (bt l)=true:=by unfold Go.aR.tk;rw [decide_eq_true aa,Cs (λr hr=>⟨h.pos r hr,(h.mem r hr).2.2.2.2⟩) h.next (λr _=>by simp) rfl];rfl
end Go.Code
namespace Go.cg
open Go Go.Vc
set_option maxRecDepth 100000
set_option maxHeartbeats 8000000
abbrev Ce:=Int × Int × Int
abbrev Po:=Int × Int
def tdm{a b:Int}(hb:0<b):(a.tmod b<0->a / b=a.tdiv b-1/\a % b=a.tmod b+b)/\(0<=a.tmod b->a / b=a.tdiv b/\a % b=a.tmod b)/\-b<a.tmod b/\a.tmod b<b:=by
 have h1:b*a.tdiv b+a.tmod b=a:=Int.mul_tdiv_add_tmod a b;have h2:a.tmod b<b:=Int.tmod_lt_of_pos a hb;have h3: -b<a.tmod b:=by have:=Int.tmod_lt_of_pos (-a) hb;rw [Int.neg_tmod] at this;omega
 refine ⟨λh=> ?_,λh=> ?_,h3,h2⟩
 ·have:=(Int.ediv_emod_unique hb (a:=a) (q:=a.tdiv b-1) (r:=a.tmod b+b)).2 ⟨by rw [Int.mul_sub];omega,aa,aa⟩;exact this
 ·exact (Int.ediv_emod_unique hb (a:=a) (q:=a.tdiv b) (r:=a.tmod b)).2 ⟨aa,aa,aa⟩
def Ww{a b:Int}(ha:dJ a)(hb:0<b):dJ (a / b):=by
 unfold dJ at*;have h1:=Int.emod_nonneg a (by omega:b≠0);have h2:=Int.emod_lt_of_pos a hb;have h3:=Int.mul_ediv_add_emod a b;rcases tX a 0 with h|h
 ·have h4:a<=a / b:=by rw [Int.le_ediv_iff_mul_le hb];have:=Int.mul_le_mul_of_nonpos_left (a:=a) (b:=b) (c:=1) aa aa;omega
  have h5:a / b<0:=Int.ediv_neg_of_neg_of_pos h hb;omega
 ·have h4:a / b<=a:=Int.ediv_le_self b h;have h5:0<=a / b:=Int.ediv_nonneg h aa;omega
def Wx{a b:Int}(ha:dJ a)(hb:0<b):dJ (a.tdiv b):=by
 unfold dJ at*;rcases tX a 0 with h|h
 ·have h1:a.tdiv b= -((-a) / b):=by rw [<-sa aa,Int.neg_tdiv];omega
  have h4:(-a) / b<=-a:=Int.ediv_le_self b aa;have h5:0<=(-a) / b:=Int.ediv_nonneg aa aa;omega
 ·rw [sa h];have h4:a / b<=a:=Int.ediv_le_self b h;have h5:0<=a / b:=Int.ediv_nonneg h aa;omega
def u64_in(n:Int):0<=fR n/\fR n<18446744073709551616:=by unfold IntKind.wrap;simp only [IntKind.bits,IntKind.signed];simp;omega
def yp{n:Int}(h:0<=n/\n<18446744073709551616):fR n=n:=by unfold IntKind.wrap;simp only [IntKind.bits,IntKind.signed];simp;omega
def mix(ag x z:Int):Int:=fR ((fR ((fR ((fR ag)*11400714819323198485))+(fR ((fR x)*14029467366897019727))))+(fR ((fR z)*1609587929392839161)))
def hash(ag x z:Int):Int:=
 mf .u64 (fR ((mf .u64 (mix ag x z) (mix ag x z / 536870912))*13787848793156543929)) (fR ((mf .u64 (mix ag x z) (mix ag x z / 536870912))*13787848793156543929) / 4294967296)
def aha(ag x z:Int):0<=hash ag x z:=by unfold hash mf;exact (u64_in _).1
def awa(n:Int):(fR n).fdiv (2 ^(min (29:Int).toNat 64))=fR n / 536870912:=ud _ aA
def awb(n:Int):(fR n).fdiv (2 ^(min (32:Int).toNat 64))=fR n / 4294967296:=ud _ aA
def iL(ag x z:Int):Int:=hash ag x z % 9
def ground(ag x z:Int):Int:=
 6+(iL ag (x / 8) (z / 8)*((8-x % 8)*(8-z % 8))+iL ag (x / 8+1) (z / 8)*(x % 8*(8-z % 8))+iL ag (x / 8) (z / 8+1)*((8-x % 8)*(z % 8))+iL ag (x / 8+1) (z / 8+1)*(x % 8*(z % 8))) / 64
def T4(y g:Int):Int:=
 if y<0\/32<=y then 0 else if y=0\/y<g-3 then 1 else if y<g-1\/(y=g-1/\9<g) then 2 else if y=g-1 then 3 else if y<9 then 8 else 0
def vl{c u v:Int}(hc:0<=c/\c<=8)(hu:0<=u/\u<=8)(hv:0<=v/\v<=8):0<=u*v/\u*v<=64/\0<=c*(u*v)/\c*(u*v)<=512:=by have h1:0<=u*v:=GN hu.1 hv.1;have h2:u*v<=8*8:=Int.mul_le_mul hu.2 hv.2 hv.1 aA;have h3:0<=c*(u*v):=GN hc.1 h1;have h4:c*(u*v)<=8*64:=Int.mul_le_mul hc.2 h2 h1 aA;exact ⟨h1,h2,h3,h4⟩
def jR(s x z:Int):0<=iL s x z/\iL s x z<=8:=by unfold iL;omega
def KN(s x z:Int):6<=ground s x z/\ground s x z<=100:=by unfold ground;have a:=vl (jR s (x / 8) (z / 8)) (u:=8-x % 8) (v:=8-z % 8) aa aa;have b:=vl (jR s (x / 8+1) (z / 8)) (u:=x % 8) (v:=8-z % 8) aa aa;have c:=vl (jR s (x / 8) (z / 8+1)) (u:=8-x % 8) (v:=z % 8) aa aa;have d:=vl (jR s (x / 8+1) (z / 8+1)) (u:=x % 8) (v:=z % 8) aa aa;omega
def idx(c:Ce):Int:=(c.2.1*16+c.2.2 % 16)*16+c.1 % 16
def FH(c:Ce):Prop:=0<=c.2.1/\c.2.1<32
def pos(c:Ce):Po:=(c.1 / 16,c.2.2 / 16)
def cellAt(p:Po)(i:Int):Ce:=(p.1*16+i % 16,i / 256,p.2*16+i / 16 % 16)
def yK{c:Ce}(h:FH c):0<=idx c/\idx c<8192:=by unfold idx;unfold FH at h;omega
def made(ag:Int)(p:Po):List Int:=(List.range 8192).map λi:Nat=>T4 ((i:Int) / 256) (ground ag (p.1*16+(i:Int) % 16) (p.2*16+(i:Int) / 16 % 16))
def si(ag:Int)(p:Po):(made ag p).length=8192:=by simp [made]
def Zt(y g:Int):T4 y g=0\/T4 y g=1\/T4 y g=2\/T4 y g=3\/T4 y g=8:=by
 unfold T4;split
 ·exact .inl rfl
 ·split
  ·exact .inr (.inl rfl)
  ·split
   ·exact .inr (.inr (.inl rfl))
   ·split
    ·exact .inr (.inr (.inr (.inl rfl)))
    ·split
     ·exact .inr (.inr (.inr (.inr rfl)))
     ·exact .inl rfl
end Go.cg
namespace Go.cg
open Go Go.Vc Go.aR
set_option maxRecDepth 100000
set_option maxHeartbeats 8000000
end Go.cg
namespace Go.cg
open Go Go.Vc Go.aR
end Go.cg
namespace Go.cg
open Go Go.Vc Go.aR
set_option maxRecDepth 100000
set_option maxHeartbeats 8000000
def ajW:∀(n:Nat)(l:List Rn),l.length=n->(∀r ∈ l,1<=r.1)->(∀i q r,l[i]? =some q->l[i+1]? =some r->q.2≠r.2)->Nm l
 |0,l,hn,_,_=>by
  have:l=[]:=Dw hn
  subst this;exact .nil
 |n+1,l,hn,h1,h2=>by
  rcases yI l with rfl|⟨m,q,rfl⟩
  ·simp at hn
  ·have hm:m.length=n:=by simpa using hn
   refine .snoc m q (ajW n m hm (λr hr=>h1 r (xC _ hr)) (λi a b ha hb=> ?_)) (h1 q bg) (λp hp=> ?_)
   ·have hb':=(bZ.1 hb).1;exact h2 i a b (by rw [pJ aa];exact ha) (by rw [pJ aa];exact hb)
   ·have hZ:m≠ []:=by rintro rfl;simp at hp
    have dp:0<m.length:=List.length_pos_iff.2 hZ;rw [List.getLast?_eq_getElem?] at hp;refine h2 (m.length-1) p q ?_ ?_
    ·rw [pJ aa];exact hp
    ·rw [show m.length-1+1=m.length by omega,qH (ak _),Nat.sub_self];rfl
def Ro{may:Int->Bool}:∀{l:List Rn} {prev:Option Int} {left:Int},xc may prev left l=true->
  (∀r ∈ l,1<=r.1/\may r.2=true)/\(∀i q r,l[i]? =some q->l[i+1]? =some r->q.2≠r.2)/\∀r,l.head? =some r->prev≠some r.2
 | [],_,_,_=>⟨bg,bg,bg⟩
 |r::t,prev,left,h=>by
  unfold xc at h
  split at h
  ·cases h
  ·rename_i hn
   obtain ⟨a1,a2,a3⟩:=Ro h
   have hm:may r.2=true:=by
    cases hq:may r.2 with
    |true=>rfl
    |false=>exact absurd (.inr (.inr (.inl hq))) hn
   have hp:prev≠some r.2:=λe=>hn (.inr (.inr (.inr e)))
   refine ⟨λq hq=> ?_,λi q s hq hs=> ?_,λq hq=> ?_⟩
   ·rcases cp.1 hq with rfl|hq
    ·exact ⟨aa,hm⟩
    ·exact a1 q hq
   ·cases i with
    |zero=>
     simp only [aqv,Option.some.injEq] at hq;subst hq;simp only [DS] at hs;have:t.head? =some s:=by cases t<;>simp_all
     intro e;exact a3 s this (by rw [e])
    |succ i=>exact a2 i q s (by simpa using hq) (by simpa using hs)
   ·simp only [List.head?_cons,Option.some.injEq] at hq;subst hq;exact hp
def Rp{may:Int->Bool}{l:List Rn}{n:Int}(h:tk may l n=true):gP (cn l)=l/\(∀b ∈ cn l,may b=true)/\((cn l).length:Int)=n:=by
 unfold tk at h;rw [fk] at h;obtain ⟨a1,a2,_⟩:=Ro h.2;refine ⟨(ajW l.length l rfl (λr hr=>(a1 r hr).1) a2).fix,λb hb=> ?_,?_⟩
 ·unfold cn at hb;obtain ⟨r,hr,hb⟩:=List.mem_flatMap.1 hb;rw [(acr.1 hb).2];exact (a1 r hr).2
 ·rw [<-ea λr hr=>by have:=(a1 r hr).1;omega];exact QM h.2
end Go.cg
namespace Go.cg
open Go Go.Vc Go.aR
set_option maxRecDepth 100000
set_option maxHeartbeats 8000000
def oN(p:Po):Prop:=(-524288<=p.1/\p.1<524288)/\-524288<=p.2/\p.2<524288
instance (p:Po):Decidable (oN p):=by unfold oN;exact inferInstance
def lO(p:Po):Int:=if oN p then (p.1+524288)*1048576+(p.2+524288)+1 else 0
def we{p:Po}(h:oN p):1<=lO p/\lO p<=1099511627776:=by unfold lO;rw [if_pos h];unfold oN at h;omega
def Wy{p:Po}(h:¬oN p):lO p=0:=by unfold lO;rw [if_neg h]
def ag2{p q:Po}(hp:oN p)(hq:oN q):lO p=lO q ↔ p=q:=by unfold lO;rw [if_pos hp,if_pos hq];unfold oN at hp hq;refine ⟨λh=>Prod.ext ?_ ?_,λh=>by rw [h]⟩<;>omega
end Go.cg
namespace Go.cg
open Go Go.Vc Go.aR
def bU{α:Type}(q:α->Bool):List α->Int
 | []=> -1
 |x::t=>if q x then 0 else if bU q t<0 then -1 else bU q t+1
def jE{α:Type}{q:α->Bool}:∀{l:List α},(∀y ∈ l,q y=false)->bU q l= -1
 | [],_=>rfl
 |x::t,h=>by
  have h1:=h x (.head _)
  have h2:=jE (l:=t) λy hy=>h y (.tail _ hy)
  unfold bU
  rw [if_neg (by rw [h1];decide),if_pos aa]
def pB{α:Type}{q:α->Bool}:∀{l:List α} {k:Nat} {x:α},l[k]? =some x->q x=true->(∀j,j<k->∀y,l[j]? =some y->q y=false)->bU q l=k
 | [],k,x,h,_,_=>by simp at h
 |y::t,0,x,h,hq,_=>by
  simp at h;subst h
  unfold bU
  rw [if_pos hq];rfl
 |y::t,k+1,x,h,hq,hn=>by
  have h1:=hn 0 aa y rfl
  have h2:=pB (l:=t) (k:=k) (x:=x) (by simpa using h) hq (λj hj z hz=>hn (j+1) aa z (by simpa using hz))
  unfold bU
  rw [if_neg (by rw [h1];decide),if_neg aa,h2]
  omega
def eM{α:Type}(q:α->Bool):∀(l:List α),(bU q l= -1/\∀y ∈ l,q y=false)\/∃k x,l[k]? =some x/\q x=true/\bU q l=(k:Nat)/\∀j,j<k->∀y,l[j]? =some y->q y=false
 | []=> .inl ⟨rfl,bg⟩
 |x::t=>by
  cases hq:q x with
  |true=>exact .inr ⟨0,x,rfl,hq,by unfold bU;rw [if_pos hq];rfl,aa⟩
  |false=>
   rcases eM q t with ⟨h1,h2⟩|⟨k,y,h1,h2,h3,h4⟩
   ·refine .inl ⟨by unfold bU;rw [if_neg (by rw [hq];decide),if_pos aa],λy hy=> ?_⟩
    rcases cp.1 hy with rfl|hy
    ·exact hq
    ·exact h2 y hy
   ·refine .inr ⟨k+1,y,by simpa using h1,h2,by unfold bU;rw [if_neg (by rw [hq];decide),if_neg aa,h3];omega,λj hj z hz=> ?_⟩
    cases j with
    |zero=>simp at hz;subst hz;exact hq
    |succ j=>exact h4 j aa z (by simpa using hz)
def mP{α β:Type}(f:α->β)(q:β->Bool):∀l:List α,bU q (l.map f)=bU (λa=>q (f a)) l
 | []=>rfl
 |x::t=>by simp only [eQ,bU,mP f q t]
end Go.cg
namespace Go.cg
open Go Go.Vc Go.aR
set_option maxRecDepth 100000
set_option maxHeartbeats 8000000
abbrev nt:=BitVec 16
abbrev mM(b:List Int):Prop:=∀c ∈ b,0<=c/\c<256
def cI(v:nt):Int:=(v.toNat:Nat)
def S9(c:nt):nt:=if c.msb then (c<<<1) ^^^ 0x1021#16 else c<<<1
def JT(c:nt):nt:=S9 (S9 (S9 (S9 c)))
def Oh(c:nt):nt:=JT (JT c)
def pE(x:Int):nt:=BitVec.ofInt 16 x
def aqI(c:nt)(x:Int):nt:=Oh (c ^^^(pE x<<<8))
def Ry(c:nt)(b:List Int):nt:=b.foldl aqI c
def sY(b:List Int):nt:=Ry 0xFFFF#16 b
def Mk(b:List Int):List Int:=[cI (sY b) / 256,cI (sY b) % 256]
def Bs(v:nt):0<=cI v/\cI v<65536:=by unfold cI;have:=v.isLt;omega
def Ve{a b:nt}:cI a=cI b ↔ a=b:=by unfold cI;refine ⟨λh=>BitVec.eq_of_toNat_eq aa,λh=>by rw [h]⟩
def qS{x:Int}(h:0<=x/\x<65536):(pE x).toNat=x.toNat:=by unfold pE;rw [zV];simp only [show ((2 ^ 16:Nat):Int)=65536 from rfl];rw [Int.emod_eq_of_lt h.1 h.2]
def Vd{x:Int}(h:0<=x/\x<65536):cI (pE x)=x:=by unfold cI;rw [qS h];omega
def amf(v:nt):pE (cI v)=v:=Ve.1 (Vd (Bs v))
def zf{a b:nt}(h:∀i:Nat,i<16->a.getLsbD i=b.getLsbD i):a=b:=BitVec.eq_of_getLsbD_eq h
def aaV{i:Nat}(h:i<16):i=0\/i=1\/i=2\/i=3\/i=4\/i=5\/i=6\/i=7\/i=8\/i=9\/i=10\/i=11\/i=12\/i=13\/i=14\/i=15:=by omega
def aim(a b:nt)(n:Nat):(a ^^^ b)<<<n=(a<<<n) ^^^(b<<<n):=by
 apply zf;intro i hi;simp only [BitVec.getLsbD_xor,Rw]
 cases decide (i<16)<;>cases decide (i<n)<;>simp
def FR(a b:nt):S9 (a ^^^ b)=S9 a ^^^ S9 b:=by
 unfold S9;rw [BitVec.msb_xor,aim]
 cases a.msb<;>cases b.msb<;>simp
 ·rw [BitVec.xor_assoc]
 ·rw [BitVec.xor_assoc,BitVec.xor_assoc];congr 1;rw [BitVec.xor_comm]
 ·generalize a<<<1=x;generalize b<<<1=y;apply zf;intro i _;simp only [BitVec.getLsbD_xor]
  cases x.getLsbD i<;>cases y.getLsbD i<;>cases (4129#16).getLsbD i<;>rfl
def FT(a b:nt):JT (a ^^^ b)=JT a ^^^ JT b:=by unfold JT;rw [FR,FR,FR,FR]
def ain(a b:nt):Oh (a ^^^ b)=Oh a ^^^ Oh b:=by unfold Oh;rw [FT,FT]
def Xw(c:nt):c.msb=true ↔ 32768<=c.toNat:=by rw [BitVec.msb_eq_decide];simp
def BC{c:nt}(h:c.toNat<32768):S9 c=c<<<1/\(c<<<1).toNat=2*c.toNat:=by
 constructor
 ·unfold S9;rw [if_neg];rw [Xw];omega
 ·rw [BitVec.toNat_shiftLeft,Nat.shiftLeft_eq];omega
def od{c:nt}(h:S9 c=0#16):c=0#16:=by
 unfold S9 at h;split at h
 ·have:=congrArg (λv:nt=>v.getLsbD 0) h;simp at this
 ·rename_i hm;have hm:c.toNat<32768:=by rw [Xw] at hm;omega
  have h2:=(BC hm).2;rw [h] at h2;exact BitVec.eq_of_toNat_eq (by simp at h2 ⊢;omega)
def R9{c:nt}(h:Oh c=0#16):c=0#16:=by unfold Oh JT at h;exact od (od (od (od (od (od (od (od h)))))))
def BD{a b:nt}:a ^^^ b=0#16 ↔ a=b:=by
 constructor
 ·intro h;have:=congrArg (λv=>v ^^^ b) h;simpa [BitVec.xor_assoc] using this
 ·rintro rfl;exact BitVec.xor_self
def aio{a b:nt}(h:Oh a=Oh b):a=b:=by rw [<-BD] at h ⊢;rw [<-ain] at h;exact R9 h
def BE(c:nt)(m n:Nat):(c<<<m)<<<n=c<<<(m+n):=(BitVec.shiftLeft_add c m n).symm
def FU{c:nt}(h:c.toNat<4096):JT c=c<<<4:=by unfold JT;have h1:=BC (c:=c) aa;rw [h1.1];have h2:=BC (c:=c<<<1) aa;rw [h2.1];have h3:=BC (c:=c<<<1<<<1) aa;rw [h3.1];have h4:=BC (c:=c<<<1<<<1<<<1) aa;rw [h4.1,BE,BE,BE]
def Sa(v y:nt)(hy:y.toNat<16):(v<<<4) ^^^ JT (((v>>>12) ^^^ y)<<<12)=JT (v ^^^(y<<<12)):=by
 have e:v ^^^(y<<<12)=(((v>>>12) ^^^ y)<<<12) ^^^(v &&& 0xFFF#16):=by apply zf;intro i hi;simp only [BitVec.getLsbD_xor,Rw,BitVec.getLsbD_ushiftRight,Ru];rcases aaV hi with rfl|rfl|rfl|rfl|rfl|rfl|rfl|rfl|rfl|rfl|rfl|rfl|rfl|rfl|rfl|rfl<;>simp
 have hl:(v &&& 0xFFF#16).toNat<4096:=by rw [AH];exact Rf Nat.and_le_right aA
 have e2:(v &&& 0xFFF#16)<<<4=v<<<4:=by apply zf;intro i hi;simp only [Rw,Ru];rcases aaV hi with rfl|rfl|rfl|rfl|rfl|rfl|rfl|rfl|rfl|rfl|rfl|rfl|rfl|rfl|rfl|rfl<;>simp
 rw [e,FT,FU hl,e2,BitVec.xor_comm]
def aaW(v x:nt)(hx:x.toNat<256):JT (JT (v ^^^((x>>>4)<<<12)) ^^^((x &&& 15#16)<<<12))=Oh (v ^^^(x<<<8)):=by
 have e:v ^^^(x<<<8)=(v ^^^((x>>>4)<<<12)) ^^^((x &&& 15#16)<<<8):=by apply zf;intro i hi;simp only [BitVec.getLsbD_xor,Rw,BitVec.getLsbD_ushiftRight,Ru];rcases aaV hi with rfl|rfl|rfl|rfl|rfl|rfl|rfl|rfl|rfl|rfl|rfl|rfl|rfl|rfl|rfl|rfl<;>simp
 have hl:(x &&& 15#16).toNat<16:=by rw [AH];exact Rf Nat.and_le_right aA
 have N6:((x &&& 15#16)<<<8).toNat<4096:=by rw [BitVec.toNat_shiftLeft,Nat.shiftLeft_eq];omega
 unfold Oh;rw [e,FT (v ^^^ _),FU N6,BE]
def Xx{c:nt}(h:c.toNat<256):Oh c=c<<<8:=by unfold Oh;rw [FU (c:=c) aa,FU (c:=c<<<4) (by rw [BitVec.toNat_shiftLeft,Nat.shiftLeft_eq];omega),BE]
def Ed(c:nt)(a b:List Int):Ry c (a++b)=Ry (Ry c a) b:=pW ..
def aik(c:nt){h l:Int}(hh:0<=h/\h<256)(hl:0<=l/\l<256):Ry c [h,l]=0#16 ↔ cI c=h*256+l:=by
 show Oh (Oh (c ^^^(pE h<<<8)) ^^^(pE l<<<8))=0#16 ↔ _;have n1:(pE l).toNat<256:=by rw [qS aa];omega
 have n2:(pE h).toNat<256:=by rw [qS aa];omega
 have z:Oh 0#16=0#16:=by decide
 have e1:Oh (Oh (c ^^^(pE h<<<8)) ^^^(pE l<<<8))=0#16 ↔ c=(pE h<<<8) ^^^ pE l:=by
  constructor
  ·intro q;have q1:=R9 q;rw [BD,<-Xx n1] at q1;have q2:=aio q1;rw [<-q2,BitVec.xor_comm,BitVec.xor_assoc,BitVec.xor_self,BitVec.xor_zero]
  ·rintro rfl;rw [show (pE h<<<8 ^^^ pE l) ^^^ pE h<<<8=pE l by rw [BitVec.xor_comm,<-BitVec.xor_assoc,BitVec.xor_self,BitVec.zero_xor],Xx n1,BitVec.xor_self,z]
 rw [e1];have e2:((pE h<<<8) ^^^ pE l).toNat=h.toNat*256+l.toNat:=by
  have:(pE h<<<8) ^^^ pE l=(pE h<<<8)|||pE l:=by
   apply zf;intro i hi;have hb:∀j,8<=j->(pE l).getLsbD j=false:=λj hj=>Nat.testBit_lt_two_pow (kr n1 (Nat.pow_le_pow_right (n:=2) aA hj))
   simp only [BitVec.getLsbD_xor,BitVec.getLsbD_or,Rw];by_cases h8:i<8
   ·simp [h8]
   ·rw [hb i aa];simp
  rw [this,BitVec.toNat_or,BitVec.toNat_shiftLeft,qS (x:=h) aa,qS (x:=l) aa,Nat.shiftLeft_eq];rw [Nat.mod_eq_of_lt aa];have:=Nat.two_pow_add_eq_or_of_lt (i:=8) (b:=l.toNat) aa h.toNat;rw [Nat.mul_comm h.toNat,<-this]
 constructor
 ·intro q;rw [q];unfold cI;rw [e2];omega
 ·intro q;apply BitVec.eq_of_toNat_eq;rw [e2];unfold cI at q;omega
def wrap_u16(x:Int):qW x=x % 65536:=by simp [IntKind.wrap,IntKind.bits,IntKind.signed]
def BF(n:Nat)(hn:16<=n)(v:nt):(BitVec.ofInt n (cI v)).toNat=v.toNat:=by unfold cI;rw [zV];have h1:=v.isLt;have h2:(2:Nat) ^ 16<=2 ^ n:=Nat.pow_le_pow_right aA hn;generalize (2:Nat) ^ n=m at*;rw [Int.emod_eq_of_lt aa aa];omega
def H8(a b:nt):mf .u16 (cI a) (cI b)=cI (a ^^^ b):=by show qW ((BitVec.ofInt 16 (cI a) ^^^ BitVec.ofInt 16 (cI b)).toNat:Nat)=_;rw [BitVec.toNat_xor,BF 16 aA,BF 16 aA,<-BitVec.toNat_xor,wrap_u16];show cI _ % 65536=cI _;have:=Bs (a ^^^ b);omega
def amg(v:nt)(n:Nat):cI (v<<<n)=cI v*2 ^ n % 65536:=by unfold cI;rw [BitVec.toNat_shiftLeft,Nat.shiftLeft_eq,Int.natCast_emod,Int.natCast_mul,Int.natCast_pow];rfl
def Vf(v:nt)(n:Nat):cI (v>>>n)=cI v / 2 ^ n:=by unfold cI;rw [BitVec.toNat_ushiftRight,Nat.shiftRight_eq_div_pow,Int.natCast_ediv,Int.natCast_pow];rfl
def Xl(v:nt):cI (v &&& 0x8000#16)=0 ↔ v.msb=false:=by
 have qu:v.msb=v.getLsbD 15:=rfl;constructor
 ·intro h;have h0:v &&& 0x8000#16=0#16:=Ve.1 (by rw [h];rfl);have:=congrArg (λu:nt=>u.getLsbD 15) h0;simp only [Ru] at this;rw [qu];simpa using this
 ·intro h;have h0:v &&& 0x8000#16=0#16:=by apply zf;intro i hi;rw [qu] at h;simp only [Ru];rcases aaV hi with rfl|rfl|rfl|rfl|rfl|rfl|rfl|rfl|rfl|rfl|rfl|rfl|rfl|rfl|rfl|rfl<;>first|(simp;done)|simpa using h
  rw [h0];rfl
def al0(a b:nt):uy .u16 (cI a) (cI b)=cI (a &&& b):=by show qW ((BitVec.ofInt 16 (cI a) &&& BitVec.ofInt 16 (cI b)).toNat:Nat)=_;rw [AH,BF 16 aA,BF 16 aA,<-AH,wrap_u16];show cI _ % 65536=cI _;have:=Bs (a &&& b);omega
def Xk(v:nt)(n:Nat):qW (cI v*2 ^ n)=cI (v<<<n):=by rw [wrap_u16,amg]
def aen(v:nt)(n:Nat):(cI v).fdiv (2 ^ n)=cI (v>>>n):=by rw [Vf,ud];exact Int.le_of_lt (Int.pow_pos aA)
def aws{x:Int}(h:0<=x/\x<256):qW (x.fdiv (2 ^ 4))=cI (pE x>>>4):=by rw [Vf,Vd aa,ud _ aA,wrap_u16];simp only [show (2:Int) ^ 4=16 from rfl];omega
def awt{x:Int}(h:0<=x/\x<256):qW (uy .u8 x 15)=cI (pE x &&& 15#16):=by
 have e:uy .u8 x 15=cI (pE x &&& 15#16):=by
  show jn ((BitVec.ofInt 8 x &&& BitVec.ofInt 8 15).toNat:Nat)=_;have e8:(BitVec.ofInt 8 x).toNat=(pE x).toNat:=by rw [qS aa,zV];simp only [show ((2 ^ 8:Nat):Int)=256 from rfl];rw [Int.emod_eq_of_lt h.1 h.2]
  rw [AH,e8];unfold cI;rw [AH];have:(pE x).toNat &&&(15#16).toNat<16:=Rf Nat.and_le_right aA;show jn (((pE x).toNat &&&(15#16).toNat:Nat):Int)=_;simp only [IntKind.wrap,IntKind.bits,IntKind.signed,DR,Bool.false_eq_true,if_false,show (2:Int) ^ 8=256 from rfl];omega
 rw [e,wrap_u16];have:=Bs (pE x &&& 15#16);omega
def aeo{a b:nt}(ha:a.toNat<16)(hb:b.toNat<16):(a ^^^ b).toNat<16:=by rw [BitVec.toNat_xor];exact Nat.xor_lt_two_pow (n:=4) ha hb
def aep(v:nt):(v>>>12).toNat<16:=by rw [BitVec.toNat_ushiftRight,Nat.shiftRight_eq_div_pow];have:=v.isLt;omega
def ajY{x:Int}(h:0<=x/\x<256):(pE x>>>4).toNat<16:=by rw [BitVec.toNat_ushiftRight,Nat.shiftRight_eq_div_pow,qS aa];omega
def aj0(x:nt):(x &&& 15#16).toNat<16:=by rw [AH];exact Rf Nat.and_le_right aA
def tv(i:Nat):Value:=.int .u16 (cI (JT (pE i<<<12)))
def tS:LV:=[tv 0,tv 1,tv 2,tv 3,tv 4,tv 5,tv 6,tv 7,tv 8,tv 9,tv 10,tv 11,tv 12,tv 13,tv 14,tv 15]
def tT(k:Nat):LV:=tS.take k++List.replicate (16-k) (.int .u16 0)
def al1{k:Nat}(hk:k<16):(tT k).set k (tv k)=tT (k+1):=by rcases aaV hk with rfl|rfl|rfl|rfl|rfl|rfl|rfl|rfl|rfl|rfl|rfl|rfl|rfl|rfl|rfl|rfl<;>rfl
def ajZ{u:nt}(hu:u.toNat<16):tS[(cI u).toNat]? =some (.int .u16 (cI (JT (u<<<12)))):=by
 have e:∀k:Nat,k<16->tS[k]? =some (tv k):=λk hk=>by rcases aaV hk with rfl|rfl|rfl|rfl|rfl|rfl|rfl|rfl|rfl|rfl|rfl|rfl|rfl|rfl|rfl|rfl<;>rfl
 have h1:(cI u).toNat=u.toNat:=rfl;rw [h1,e _ hu];unfold tv;have:pE (u.toNat:Int)=u:=amf u;rw [this]
def Z7(v:nt){x:Int}(h:0<=x/\x<256):
  cI ((((v<<<4) ^^^ JT (((v>>>12) ^^^(pE x>>>4))<<<12))<<<4) ^^^ JT (((((v<<<4) ^^^ JT (((v>>>12) ^^^(pE x>>>4))<<<12))>>>12) ^^^(pE x &&& 15#16))<<<12))=cI (aqI v x):=by
 rw [Sa v _ (ajY h),Sa _ _ (aj0 _),aaW v _ (by rw [qS aa];omega)];rfl
def be:Nat->Int->List Int
 |0,_=> []
 |m+1,n=>n / 256 ^ m % 256::be m n
def eF(b:List Int):Int:=b.foldl (λn c=>n*256+c) 0
def cr(v:Int)(body:List Int):List Int:=be 4 v++be 3 body.length++body
def dB(b:List Int):List Int:=b++Mk b
def zG(v:Int)(body:List Int):List Int × Int:=if v<1\/v>1073741824\/(body.length:Int)>65536 then ([],1) else (dB (cr v body),0)
def ve(b:List Int):List Int × Int:=if b.length<2 then ([],3) else if sY b=0#16 then (b.take (b.length-2),0) else ([],4)
def nJ(b:List Int):Int × List Int × Int:=
 if (ve b).2≠0 then (0,[],(ve b).2)
 else if (ve b).1.length<7 then (0,[],3)
 else if eF ((ve b).1.take 4)<1\/eF ((ve b).1.take 4)>1073741824\/eF (((ve b).1.drop 4).take 3)>65536\/eF (((ve b).1.drop 4).take 3)≠(((ve b).1.drop 7).length:Int) then (0,[],2)
 else (eF ((ve b).1.take 4),(ve b).1.drop 7,0)
def yU:∀(m:Nat)(n:Int),(be m n).length=m
 |0,_=>rfl
 |m+1,n=>by simp [be,yU m n]
def aeP:∀(m:Nat)(n:Int),mM (be m n)
 |0,_=>λc hc=>by cases hc
 |m+1,n=>λc hc=>by
  rcases cp.1 hc with rfl|hc
  ·omega
  ·exact aeP m n c hc
def H9(b:List Int)(c:Int):eF (b++ [c])=eF b*256+c:=by unfold eF;rw [pW];rfl
def be4{n:Int}(h:0<=n/\n<4294967296):eF (be 4 n)=n:=by simp only [be,eF,nU,List.foldl_nil,show (256:Int) ^ 3=16777216 from rfl,show (256:Int) ^ 2=65536 from rfl,show (256:Int) ^ 1=256 from rfl,show (256:Int) ^ 0=1 from rfl];omega
def be3{n:Int}(h:0<=n/\n<16777216):eF (be 3 n)=n:=by simp only [be,eF,nU,List.foldl_nil,show (256:Int) ^ 2=65536 from rfl,show (256:Int) ^ 1=256 from rfl,show (256:Int) ^ 0=1 from rfl];omega
def aij(b:List Int):mM (Mk b):=λc hc=>by
 have:=Bs (sY b)
 simp only [Mk,cp,lJ,or_false] at hc
 rcases hc with rfl|rfl<;>omega
def R4(b:List Int):(Mk b).length=2:=rfl
def aeQ(b:List Int):sY (dB b)=0#16:=by unfold dB sY;rw [Ed];have:=Bs (sY b);exact (aik _ aa aa).2 (by unfold sY at*;omega)
def ail(b:List Int):ve (dB b)=(b,0):=by
 have hl:(dB b).length=b.length+2:=by unfold dB;rw [bQ,R4]
 unfold ve;rw [if_neg aa,if_pos (aeQ b),hl];unfold dB;simp
def mM.app{a b:List Int}(ha:mM a)(hb:mM b):mM (a++b):=λc hc=>(bX.1 hc).elim (ha c) (hb c)
def Xs{v:Int}{body:List Int}(h:mM body):mM (cr v body):=((aeP 4 v).app (aeP 3 _)).app h
def aeR{b:List Int}(h:mM b):mM (dB b):=h.app (aij b)
def amc{v:Int}{body:List Int}(h:mM body):mM (zG v body).1:=by
 unfold zG;split
 ·intro c hc;cases hc
 ·exact aeR (Xs h)
def zX(v:Int)(body:List Int):(cr v body).length=7+body.length:=by unfold cr;simp [yU];omega
def B7(b:List Int):(dB b).length=b.length+2:=by unfold dB;rw [bQ,R4]
def aqg{v:Int}{body:List Int}(hv:1<=v/\v<=1073741824)(hb:(body.length:Int)<=65536):nJ (dB (cr v body))=(v,body,0):=by
 have e4:=yU 4 v;have e3:=yU 3 (body.length:Int);have t4:(cr v body).take 4=be 4 v:=by unfold cr;rw [fz,Eb aa,fl aa]
 have d4:(cr v body).drop 4=be 3 body.length++body:=by unfold cr;rw [fz,List.drop_append_of_le_length aa,Aq aa];rfl
 have d7:(cr v body).drop 7=body:=by unfold cr;rw [List.drop_append_of_le_length (by rw [bQ];omega),Aq (by rw [bQ];omega)];rfl
 have t3:((cr v body).drop 4).take 3=be 3 body.length:=by rw [d4,Eb aa,fl aa]
 unfold nJ;simp only [ail];rw [if_neg bg,if_neg (by rw [zX];omega),t4,t3,d7,be4 aa,be3 aa,if_neg aa]
def ap4{b:List Int}:(nJ b).2.2=0->1<=(nJ b).1/\(nJ b).1<=1073741824:=by
 intro h;unfold nJ at h ⊢;split at h
 ·rename_i q;exact absurd h q
 ·rename_i q;rw [if_neg q];split at h
  ·cases h
  ·rename_i q2;rw [if_neg q2];split at h
   ·cases h
   ·rename_i q3;rw [if_neg q3];simp only [not_or] at q3;simp only;omega
def ajE{b:List Int}:(nJ b).2.2≠0->(nJ b).1=0/\(nJ b).2.1=[]:=by
 intro h;unfold nJ at h ⊢;split
 ·exact ⟨rfl,rfl⟩
 ·split
  ·exact ⟨rfl,rfl⟩
  ·split
   ·exact ⟨rfl,rfl⟩
   ·rename_i q q2 q3;rw [if_neg q,if_neg q2,if_neg q3] at h;exact absurd rfl h
def Nv{b:List Int}(hb:mM b):∀k:Nat,0<=eF (b.take k)/\eF (b.take k)<256 ^ k
 |0=>by rw [DB];exact ⟨lL 0,aA⟩
 |k+1=>by
  obtain ⟨h1,h2⟩:=Nv hb k
  rw [dy]
  cases hx:b[k]? with
  |none=>
   rw [Int.pow_succ]
   simp only [Option.toList_none,mA]
   generalize (256:Int) ^ k=p at*
   omega
  |some x=>
   have:=hb x (aO hx)
   rw [Int.pow_succ]
   simp only [Option.toList_some]
   rw [H9]
   generalize (256:Int) ^ k=p at*
   omega
def Vp{b:List Int}(hb:mM b){k:Nat}(hk:k<=4):0<=eF (b.take k)/\eF (b.take k)<4294967296:=by
 obtain ⟨h1,h2⟩:=Nv hb k;have h3:(256:Int) ^ k<=4294967296:=by
  rcases k with _|_|_|_|_|k
  ·decide
  ·decide
  ·decide
  ·decide
  ·decide
  ·omega
 exact ⟨h1,Int.lt_of_lt_of_le h2 h3⟩
def RK{n c:Int}(hn:0<=n/\n<281474976710656)(hc:0<=c/\c<256):S7 .i64 (n*256) c=n*256+c:=by
 show aw ((BitVec.ofInt 64 (n*256)|||BitVec.ofInt 64 c).toNat:Nat)=_;have e1:(BitVec.ofInt 64 (n*256)).toNat=2 ^ 8*n.toNat:=by rw [zV];simp only [show ((2 ^ 64:Nat):Int)=18446744073709551616 from rfl,show (2:Nat) ^ 8=256 from rfl];omega
 have e2:(BitVec.ofInt 64 c).toNat=c.toNat:=by rw [zV];simp only [show ((2 ^ 64:Nat):Int)=18446744073709551616 from rfl];omega
 rw [BitVec.toNat_or,e1,e2,<-Nat.two_pow_add_eq_or_of_lt (i:=8) (b:=c.toNat) aa n.toNat];simp only [show (2:Nat) ^ 8=256 from rfl];have:((256*n.toNat+c.toNat:Nat):Int)=n*256+c:=by omega
 rw [this];exact wI
abbrev mc:=Int × List Int
structure Dk where
 room:Int
 nT:Int
 wait:Int
 safe:List mc
 l:List mc
def aeS:Bool->List mc->mc->List mc
 |done,[],w=>if done then [] else [w]
 |done,x::t,w=>(if done=false/\x.1>=w.1 then [w] else [])++(if x.1≠w.1 then [x] else [])++aeS (done||decide (x.1>=w.1)) t w
def lay(l:List mc)(w:mc):List mc:=aeS false l w
def uH(d:Dk):List mc:=d.l.foldl lay d.safe
def eo(l:List mc):Nat:=(l.map λx=>x.2.length).sum
def lK(l:List mc)(k:Int):Option (List Int):=(l.find? λx=>x.1==k).map (·.2)
def jw(d:Dk):Dk × Bool:=if 0<d.wait then ({d with wait:=0},false) else if 0<d.nT then ({d with nT:=d.nT-1},true) else (d,false)
def mg(d:Dk)(k:Int)(b:List Int):Dk × Int:=
 if (jw d).2=true then ((jw d).1,9) else if (eo (lay (uH d) (k,b)):Int)>d.room then ((jw d).1,8) else ({(jw d).1 with l:=d.l++ [(k,b)]},0)
def getD(d:Dk)(k:Int):List Int:=(lK (uH d) k).getD []
def rW(d:Dk):Dk × Int:=if (jw d).2=true then ((jw d).1,9) else ({(jw d).1 with safe:=uH d,l:=[]},0)
def qn:Int->List mc->List mc->List mc
 |_,s,[]=>s
 |n,s,w::t=>if (w.2.length:Int)<=n then qn (n-w.2.length) (lay s w) t else lay s (w.1,w.2.take n.toNat)
def ql(d:Dk)(aW:Int):Int:=min (max aW 0) (eo d.l)
def dv(d:Dk)(aW:Int):Dk × Int:=({d with safe:=qn (ql d aW) d.safe d.l,l:=[],nT:=0,wait:=0},eo d.l-ql d aW)
def LP:∀(l:List mc)(w:mc),aeS true l w=l.filter λx=>decide (x.1≠w.1)
 | [],_=>rfl
 |x::t,w=>by
  unfold aeS
  rw [if_neg bg,Bool.true_or,LP t w,Dv]
  by_cases h:x.1=w.1<;>simp [h]
def rU:∀(l:List mc)(w:mc),(lay l w).Perm (w::l.filter λx=>decide (x.1≠w.1))
 | [],_=> .refl _
 |x::t,w=>by
  unfold lay aeS
  rw [Bool.false_or]
  by_cases h:x.1>=w.1
  ·rw [if_pos ⟨rfl,h⟩,decide_eq_true h,LP,Dv]
   by_cases h2:x.1=w.1
   ·rw [if_neg (by simp [h2]),if_neg (by simp [h2])];exact .refl _
   ·rw [if_pos h2,if_pos (by simp [h2])];exact .refl _
  ·rw [if_neg λq=>h q.2,decide_eq_false h,if_pos aa,Dv,if_pos tP]
   have ih:=rU t w
   unfold lay at ih
   exact (List.Perm.cons x ih).trans (List.Perm.swap _ _ _)
def fX(l:List mc):List Int:=l.map (·.1)
def Nx{l:List mc}(p:mc->Bool)(h:(fX l).Nodup):(fX (l.filter p)).Nodup:=h.sublist ((List.filter_sublist).map _)
def pz{l:List mc}{w:mc}(h:(fX l).Nodup):(fX (lay l w)).Nodup:=by refine ((rU l w).map (·.1)).nodup_iff.2 ?_;rw [eQ];refine oL.2 ⟨λhm=> ?_,Nx _ h⟩;obtain ⟨x,hx,e⟩:=aU.1 hm;have:=(ju.1 hx).2;simp at this;exact this e
def vB:∀(t:List mc) {l:List mc},(fX l).Nodup->(fX (t.foldl lay l)).Nodup
 | [],_,h=>h
 |w::t,_,h=>vB t (pz h)
def Lb{a b:List mc}(h:a.Perm b):eo a=eo b:=(h.map λx:mc=>x.2.length).sum_nat
def py(x:mc)(t:List mc):eo (x::t)=x.2.length+eo t:=rfl
def RV(a b:List mc):eo (a++b)=eo a+eo b:=by unfold eo;rw [bJ,List.sum_append_nat]
def CF{l:List mc}(h:(fX l).Nodup){k:Int}{b:List Int}:lK l k=some b ↔(k,b) ∈ l:=by
 unfold lK
 induction l with
 |nil=>simp
 |cons x t ih=>
  have hn:=oL.1 h;rw [List.find?_cons];by_cases e:x.1=k
  ·rw [beq_iff_eq.2 e];simp only [oK,Option.some.injEq,cp];constructor
   ·rintro rfl;exact .inl (by rw [<-e])
   ·rintro (q|q)
    ·rw [<-q]
    ·exact absurd (aU.2 ⟨_,q,e.symm⟩) hn.1
  ·rw [show (x.1==k)=false by simpa using e,ih hn.2];simp only [cp];constructor
   ·exact .inr
   ·rintro (q|q)
    ·exact absurd (by rw [<-q]) e
    ·exact q
def CE{l:List mc}{k:Int}:lK l k=none ↔ ∀x ∈ l,x.1≠k:=by unfold lK;rw [Option.map_eq_none_iff,DV];simp
def KZ{a b:List mc}(h:a.Perm b)(ha:(fX a).Nodup)(k:Int):lK a k=lK b k:=by
 have hb:(fX b).Nodup:=(h.map λx:mc=>x.1).nodup_iff.1 ha
 cases q:lK b k with
 |some x=>exact (CF ha).2 (h.mem_iff.2 ((CF hb).1 q))
 |none=>exact CE.2 λx hx=>CE.1 q x (h.mem_iff.1 hx)
def Pe{l:List mc}(h:(fX l).Nodup)(w:mc)(k:Int):lK (lay l w) k=if k=w.1 then some w.2 else lK l k:=by
 rw [KZ (rU l w) (pz h)];by_cases e:k=w.1
 ·rw [if_pos e];unfold lK;rw [List.find?_cons,beq_iff_eq.2 e.symm];rfl
 ·rw [if_neg e];unfold lK;rw [List.find?_cons,show (w.1==k)=false by simpa using λq=>e q.symm,List.find?_filter];show Option.map _ (List.find? _ l)=Option.map _ (List.find? _ l);congr 1;congr 1;funext x;by_cases q:x.1=k
  ·simp [q,e]
  ·simp [q]
def D3{l:List mc}(h:(fX l).Nodup)(k:Int):eo (l.filter λx=>decide (x.1≠k))+((lK l k).getD []).length=eo l:=by
 induction l with
 |nil=>rfl
 |cons x t ih=>
  have hn:=oL.1 h;rw [Dv];by_cases e:x.1=k
  ·rw [if_neg (by simp [e])];have hg:lK (x::t) k=some x.2:=by unfold lK;rw [List.find?_cons,beq_iff_eq.2 e];rfl
   have ht:t.filter (λx=>decide (x.1≠k))=t:=Pa.2 λy hy=>by simp only [ne_eq,decide_not,Bool.not_eq_true',fA];intro q;exact hn.1 (aU.2 ⟨y,hy,q.trans e.symm⟩)
   rw [hg,ht,py,Option.getD_some];omega
  ·rw [if_pos (by simp [e])];have hg:lK (x::t) k=lK t k:=by unfold lK;rw [List.find?_cons,show (x.1==k)=false by simpa using e]
   have:=ih hn.2;rw [hg,py,py];omega
def HH{l:List mc}(h:(fX l).Nodup)(w:mc):eo (lay l w)+((lK l w.1).getD []).length=eo l+w.2.length:=by have:=D3 h w.1;rw [Lb (rU l w),py];omega
structure pN(d:Dk):Prop where
 nd:(fX d.safe).Nodup
 len:∀k,(eo ((d.l.take k).foldl lay d.safe):Int)<=d.room
 w:0<=d.wait/\d.wait<=1
 f:0<=d.nT/\d.nT<=9223372036854775807
 r:0<=d.room/\d.room<=1048576
def pN.now{d:Dk}(h:pN d):(fX (uH d)).Nodup:=vB _ h.nd
def pN.alx{d:Dk}(h:pN d):(eo (uH d):Int)<=d.room:=by have:=h.len d.l.length;rwa [jg] at this
def mL(d:Dk):(jw d).1.safe=d.safe/\(jw d).1.l=d.l/\(jw d).1.room=d.room:=by
 unfold jw;split
 ·exact ⟨rfl,rfl,rfl⟩
 ·split<;>exact ⟨rfl,rfl,rfl⟩
def pN.ask{d:Dk}(h:pN d):pN (jw d).1:=by
 obtain ⟨e1,e2,e3⟩:=mL d;refine ⟨by rw [e1];exact h.nd,by rw [e1,e2,e3];exact h.len,?_,?_,by rw [e3];exact h.r⟩
 ·unfold jw;have:=h.w;split
  ·simp
  ·split<;>exact this
 ·unfold jw;have:=h.f;split
  ·exact this
  ·split
   ·simp only;omega
   ·exact this
def pN.put{d:Dk}(h:pN d)(k:Int)(b:List Int):pN (mg d k b).1:=by
 have ha:=h.ask;obtain ⟨e1,e2,e3⟩:=mL d;unfold mg;split
 ·exact ha
 ·split
  ·exact ha
  ·rename_i hr;refine ⟨by rw [e1];exact h.nd,λn=> ?_,ha.w,ha.f,ha.r⟩;rw [e1,e3];simp only;by_cases hn:n<=d.l.length
   ·rw [Eb hn];exact h.len n
   ·rw [fl tP,pW];show (eo (lay (uH d) (k,b)):Int)<=_;omega
def pN.sync{d:Dk}(h:pN d):pN (rW d).1:=by
 have ha:=h.ask;obtain ⟨e1,e2,e3⟩:=mL d;unfold rW;split
 ·exact ha
 ·refine ⟨h.now,λn=> ?_,ha.w,ha.f,ha.r⟩;simp only [List.take_nil,List.foldl_nil];rw [e3];exact h.alx
def R5(room:Int):∀(t:List mc)(n:Int) {s:List mc},0<=n->(fX s).Nodup->(∀k,(eo ((t.take k).foldl lay s):Int)<=room)->(fX (qn n s t)).Nodup/\(eo (qn n s t):Int)<=room
 | [],n,s,_,h,hl=>⟨h,hl 0⟩
 |w::t,n,s,hn,h,hl=>by
  unfold qn
  split
  ·exact R5 room t _ aa (pz h) λk=>by have:=hl (k+1);rwa [List.take_succ_cons] at this
  ·refine ⟨pz h,?_⟩
   have h1:=hl 1
   have e1:=HH h w
   have e2:=HH h (w.1,w.2.take n.toNat)
   have h1:(eo (lay s w):Int)<=room:=h1
   simp only [cY] at e2
   omega
def pN.Pg{d:Dk}(h:pN d)(n:Int):pN (dv d n).1:=by obtain ⟨h1,h2⟩:=R5 d.room d.l (ql d n) (s:=d.safe) (by unfold ql;omega) h.nd h.len;refine ⟨h1,λk=> ?_,by simp [dv],by simp [dv],h.r⟩;simp only [dv,List.take_nil,List.foldl_nil];exact h2
open Classical in
noncomputable def Ew{α:Type}(f:α->Int)(l:List α)(x:α):List α:=if ∃y ∈ l,f y=f x then l.map (λy=>if f y=f x then x else y) else l++ [x]
def KF{α:Type}(f:α->Int)(x:α):∀{l:List α},(l.map f).Nodup->(Ew f l x).Perm (x::l.filter λy=>decide (f y≠f x))
 | [],_=>by unfold Ew;rw [if_neg bg];exact .refl _
 |y::t,h=>by
  have hn:=oL.1 h
  have ih:=KF f x hn.2
  by_cases e:f y=f x
  ·have l8:∀z ∈ t,f z≠f x:=λz hz q=>hn.1 (aU.2 ⟨z,hz,q.trans e.symm⟩)
   unfold Ew
   rw [if_pos ⟨y,.head _,e⟩,eQ,if_pos e,Dv,if_neg (by simp [e])]
   rw [Pa.2 (λz hz=>by simpa using l8 z hz)]
   have:t.map (λy=>if f y=f x then x else y)=t:=by
    conv=>rhs;rw [<-List.map_id t]
    exact zP λz hz=>by rw [if_neg (l8 z hz)];rfl
   rw [this]
  ·rw [Dv,if_pos (by simp [e])];refine List.Perm.trans ?_ (List.Perm.swap _ _ _);refine List.Perm.trans ?_ (List.Perm.cons y ih);unfold Ew;by_cases q:∃z ∈ t,f z=f x
   ·obtain ⟨z,hz,qz⟩:=q;rw [if_pos ⟨z,.tail _ hz,qz⟩,if_pos ⟨z,hz,qz⟩,eQ,if_neg e]
   ·rw [if_neg (by
     rintro ⟨z,hz,qz⟩;rcases cp.1 hz with rfl|hz
     ·exact e qz
     ·exact q ⟨z,hz,qz⟩),if_neg q]
    exact .refl _
def Pb{α:Type}{f:α->Int}{l:List α}{x y:α}(h:y ∈ Ew f l x):y=x\/y ∈ l:=by
 unfold Ew at h;split at h
 ·obtain ⟨z,hz,e⟩:=aU.1 h;split at e
  ·exact .inl e.symm
  ·exact .inr (e▸hz)
 ·rcases bX.1 h with h|h
  ·exact .inr h
  ·exact .inl (by simpa using h)
def Pc{α:Type}{f:α->Int}{g:α->List Int}{l:List α}{s:List mc}(x:α)(h:(l.map λy=>(f y,g y)).Perm s)(hn:(fX s).Nodup):((Ew f l x).map λy=>(f y,g y)).Perm (lay s (f x,g x)):=by
 have hk:(l.map f).Nodup:=by have:=(h.map λy:mc=>y.1).nodup_iff.2 hn;rwa [pM] at this
 refine ((KF f x hk).map _).trans ?_;refine List.Perm.trans ?_ (rU s (f x,g x)).symm;rw [eQ];refine List.Perm.cons _ ?_;have:=h.filter λy=>decide (y.1≠f x)
 rw [List.filter_map] at this;exact this
abbrev Rc:=Int × Int × List Int
def dP(best:Rc)(slot:Int)(r:Int × List Int × Int):Rc:=if r.2.2=0/\r.1>best.2.1 then (slot,r.1,r.2.1) else best
def dt(D:Dk)(id:Int):Rc:=dP (dP (2*id+1,0,[]) (2*id) (nJ (getD D (2*id)))) (2*id+1) (nJ (getD D (2*id+1)))
def rV(id:Int):Bool:=decide (0<=id) && decide (id<=1099511627776)
def lu(D:Dk)(id:Int):List Int × Int × Bool:=if rV id=true then ((dt D id).2.2,(dt D id).2.1,decide ((dt D id).2.1>0)) else ([],0,false)
def lk(D:Dk)(id:Int)(body:List Int):Dk × Int:=
 if rV id=true then
  if (zG ((dt D id).2.1+1) body).2≠0 then (D,(zG ((dt D id).2.1+1) body).2)
  else if (mg D (4*id+1-(dt D id).1) (zG ((dt D id).2.1+1) body).1).2≠0 then mg D (4*id+1-(dt D id).1) (zG ((dt D id).2.1+1) body).1
  else rW (mg D (4*id+1-(dt D id).1) (zG ((dt D id).2.1+1) body).1).1
 else (D,1)
def agY(n:Nat):(2*n) ^^^ 1=2*n+1/\(2*n+1) ^^^ 1=2*n:=by
 have h1:=Nat.xor_div_two (a:=2*n) (b:=1);have par:∀a:Nat,(a ^^^ 1) % 2=1 ↔ ¬a % 2=1:=λa=>by have:=Nat.testBit_xor a 1 0;rw [Nat.testBit_zero,Nat.testBit_zero,Nat.testBit_zero] at this;simp only [Nat.reduceMod,decide_true,Bool.xor_true] at this;rw [<-decide_eq_true_iff (p:=(a ^^^ 1) % 2=1),this];simp
 have h2:=par (2*n);have h3:=Nat.xor_div_two (a:=2*n+1) (b:=1);have h4:=par (2*n+1);rw [show 1 / 2=0 from rfl,Nat.xor_zero] at h1 h3;omega
def acu{id:Int}(h:0<=id/\id<=1099511627776):mf .i64 (2*id) 1=2*id+1/\mf .i64 (2*id+1) 1=2*id:=by
 have key:∀n:Nat,n<=2 ^ 60->mf .i64 (n:Int) 1=((n ^^^ 1:Nat):Int):=λn hn=>by
  show aw ((BitVec.ofInt 64 (n:Int) ^^^ BitVec.ofInt 64 1).toNat:Nat)=_;have e1:(BitVec.ofInt 64 (n:Int)).toNat=n:=by rw [zV];simp only [show ((2 ^ 64:Nat):Int)=18446744073709551616 from rfl];omega
  rw [BitVec.toNat_xor,e1];show aw ((n ^^^ 1:Nat):Int)=_;have:n ^^^ 1<2 ^ 61:=Nat.xor_lt_two_pow aa aA;exact wI
 obtain ⟨x1,x2⟩:=agY id.toNat;constructor
 ·have:=key (2*id.toNat) aa;rw [x1] at this;rw [show 2*id=((2*id.toNat:Nat):Int) by omega,this];omega
 ·have:=key (2*id.toNat+1) aa;rw [x2] at this;rw [show 2*id+1=((2*id.toNat+1:Nat):Int) by omega,this];omega
def Gu{best:Rc}{slot:Int}{r:Int × List Int × Int}:(dP best slot r).1=best.1\/(dP best slot r).1=slot:=by
 unfold dP;split
 ·exact .inr rfl
 ·exact .inl rfl
def Gv(D:Dk)(id:Int):(dt D id).1=2*id\/(dt D id).1=2*id+1:=by
 unfold dt;rcases Gu (best:=dP (2*id+1,0,[]) (2*id) (nJ (getD D (2*id)))) (slot:=2*id+1) (r:=nJ (getD D (2*id+1))) with h|h
 ·rw [h];rcases Gu (best:=(2*id+1,0,[])) (slot:=2*id) (r:=nJ (getD D (2*id))) with h|h
  ·exact .inr h
  ·exact .inl h
 ·exact .inr h
def ak4(b:List Int):0<=(nJ b).1/\(nJ b).1<=1073741824:=by
 by_cases h:(nJ b).2.2=0
 ·have:=ap4 h;omega
 ·rw [(ajE h).1];omega
def Wn{best:Rc}{slot:Int}(b:List Int)(h:0<=best.2.1/\best.2.1<=1073741824):0<=(dP best slot (nJ b)).2.1/\(dP best slot (nJ b)).2.1<=1073741824:=by
 unfold dP;split
 ·exact ak4 b
 ·exact h
def Wo(D:Dk)(id:Int):0<=(dt D id).2.1/\(dt D id).2.1<=1073741824:=Wn _ (Wn _ (show (0:Int)<=0/\(0:Int)<=1073741824 by decide))
def pN.save{D:Dk}(h:pN D)(id:Int)(b:List Int):pN (lk D id b).1:=by
 unfold lk;split
 ·split
  ·exact h
  ·split
   ·exact h.put _ _
   ·exact (h.put _ _).sync
 ·exact h
def acv(D:Dk):(jw D).1.l=D.l:=(mL D).2.1
def acw(D:Dk)(k:Int)(b:List Int):(mg D k b).1.l.length<=D.l.length+1:=by
 unfold mg;split
 ·rw [acv];omega
 ·split
  ·rw [acv];omega
  ·simp
def ak5(D:Dk):(rW D).1.l.length<=D.l.length:=by
 unfold rW;split
 ·rw [acv];omega
 ·simp
def acx(D:Dk)(id:Int)(b:List Int):(lk D id b).1.l.length<=D.l.length+1:=by
 unfold lk;split
 ·split
  ·exact pO _
  ·split
   ·exact acw _ _ _
   ·exact gG (ak5 _) (acw _ _ _)
 ·exact pO _
structure Cln(D:Dk):Prop where
 l:D.l=[]
 f:D.nT=0
 w:D.wait=0
def Cln.ask{D:Dk}(h:Cln D):jw D=(D,false):=by unfold jw;rw [if_neg (by rw [h.w];decide),if_neg (by rw [h.f];decide)]
def Cln.now{D:Dk}(h:Cln D):uH D=D.safe:=by unfold uH;rw [h.l];rfl
def Pd{D:Dk}(h:Cln D)(k:Int):getD D k=(lK D.safe k).getD []:=by unfold getD;rw [h.now]
def Qq{best:Rc}{slot:Int}{r:Int × List Int × Int}:best.2.1<=(dP best slot r).2.1:=by
 unfold dP;split
 ·rename_i h;simp only;omega
 ·exact lL _
def KY{best:Rc}{slot:Int}(b:List Int)(hb:0<=best.2.1):(nJ b).1<=(dP best slot (nJ b)).2.1:=by
 unfold dP;split
 ·simp only;omega
 ·rename_i h;by_cases q:(nJ b).2.2=0
  ·have:¬(nJ b).1>best.2.1:=λq2=>h ⟨q,q2⟩
   omega
  ·rw [(ajE q).1];exact hb
def acy(D:Dk)(id:Int):(nJ (getD D (2*id))).1<=(dt D id).2.1/\(nJ (getD D (2*id+1))).1<=(dt D id).2.1:=by have h0:(0:Int)<=((2*id+1,0,[]):Rc).2.1:=lL 0;have h1:=KY (best:=(2*id+1,0,[])) (slot:=2*id) (getD D (2*id)) h0;have h2:0<=(dP (2*id+1,0,[]) (2*id) (nJ (getD D (2*id)))).2.1:=Int.le_trans h0 Qq;exact ⟨Int.le_trans h1 Qq,KY _ h2⟩
def Wq{D:Dk}{id:Int}{body:List Int}(hc:Cln D)(Td:0<=id/\id<=1099511627776)(hv:(dt D id).2.1<1073741824)(hb:(body.length:Int)<=65536)
  (hroom:(eo (lay D.safe (4*id+1-(dt D id).1,dB (cr ((dt D id).2.1+1) body))):Int)<=D.room):
  lk D id body=({D with safe:=lay D.safe (4*id+1-(dt D id).1,dB (cr ((dt D id).2.1+1) body)),l:=[]},0):=by
 have h0:=Wo D id;have hw:zG ((dt D id).2.1+1) body=(dB (cr ((dt D id).2.1+1) body),0):=by unfold zG;rw [if_neg aa]
 have hm:rV id=true:=by unfold rV;simp;omega
 have hp:mg D (4*id+1-(dt D id).1) (dB (cr ((dt D id).2.1+1) body))=({D with l:=[(4*id+1-(dt D id).1,dB (cr ((dt D id).2.1+1) body))]},0):=by unfold mg;rw [hc.ask,if_neg bg,hc.now,if_neg aa,hc.l];rfl
 unfold lk;rw [if_pos hm,hw,if_neg bg,hp,if_neg bg];unfold rW;have ha:jw {D with l:=[(4*id+1-(dt D id).1,dB (cr ((dt D id).2.1+1) body))]}=({D with l:=[(4*id+1-(dt D id).1,dB (cr ((dt D id).2.1+1) body))]},false):=by unfold jw;rw [if_neg (by show ¬0<D.wait;rw [hc.w];decide),if_neg (by show ¬0<D.nT;rw [hc.f];decide)]
 simp only [ha];rw [if_neg bg];rfl
def Pf{v:Int}{body:List Int}(hv:1<=v/\v<=1073741824)(hb:(body.length:Int)<=65536):nJ (dB (cr v body))=(v,body,0):=aqg hv hb
def GL{D D':Dk}{id:Int}(h:dt D' id=dt D id):lu D' id=lu D id:=by unfold lu;rw [h]
def WW{room id:Int}:lu ⟨room,0,0,[],[]⟩ id=([],0,false):=by unfold lu;split<;>rfl
end Go.cg
namespace Go.ej
open Go Go.Vc
set_option maxRecDepth 100000
set_option maxHeartbeats 8000000
abbrev Cl:=Int × Int × Int
abbrev It:=Int × Cl
def cv(c:Cl):Value:=.agg #[c.1,c.2.1,c.2.2]
def tv(t:Int):Value:=.int .i64 t
abbrev dZ(c:Cl):LV:=[.int .i64 c.1,.int .i64 c.2.1,.int .i64 c.2.2]
abbrev fJ(x:It):LV:=[.int .i64 x.1,.int .i64 x.2.1,.int .i64 x.2.2.1,.int .i64 x.2.2.2]
def HM{a b:Cl}(h:cv a=cv b):a=b:=by unfold cv at h;obtain ⟨a1,a2,a3⟩:=a;obtain ⟨b1,b2,b3⟩:=b;simp at h;obtain ⟨rfl,rfl,rfl⟩:=h;rfl
structure QS where
 room:Int
 lost:Int
 l:List It
def iU(l:List It)(c:Cl):List It:=l.filter λx=>x.2 !=c
def uB(l:List It)(x:It):List It:=l.takeWhile (λy=>y.1<=x.1)++x::l.dropWhile (λy=>y.1<=x.1)
def nV(l:List It)(c:Cl):Option Int:=(l.find? λx=>x.2==c).map (·.1)
def mj(q:QS)(c:Cl)(t:Int):QS × Bool:=
 match nV q.l c with
 |some was=>if was<=t then (q,false) else ({q with l:=uB (iU q.l c) (t,c)},true)
 |none=>if (q.l.length:Int)>=q.room then ({q with lost:=q.lost+1},false) else ({q with l:=uB q.l (t,c)},true)
def jc(l:List It)(now many:Int):Nat:=min (l.takeWhile λy=>y.1<=now).length many.toNat
def MV(q:QS)(now many:Int):QS × List Cl:=({q with l:=q.l.drop (jc q.l now many)},(q.l.take (jc q.l now many)).map (·.2))
structure BT(q:QS):Prop where
 room:1<=q.room/\q.room<=4096
 len:(q.l.length:Int)<=q.room
 sorted:q.l.Pairwise λa b=>a.1<=b.1
 nodup:(q.l.map (·.2)).Nodup
def CS(l:List It)(c:Cl):(iU l c).Sublist l:=List.filter_sublist
def yJ{l:List It}{c:Cl}{t:Int}(h:nV l c=some t):(t,c) ∈ l:=by
 unfold nV at h
 cases hf:l.find? (λx=>x.2==c) with
 |none=>rw [hf] at h;cases h
 |some x=>
  rw [hf] at h;have h1:=List.find?_some hf;have h2:=W5 hf;obtain ⟨a,b⟩:=x;simp at h h1;subst h;subst h1;exact h2
def tC{l:List It}{c:Cl}(h:nV l c=none):∀x ∈ l,x.2≠c:=by unfold nV at h;rw [Option.map_eq_none_iff,DV] at h;intro x hx e;exact h x hx (by simp [e])
def Ld{l:List It}(h:l.Pairwise λa b=>a.1<=b.1)(t:Int):(∀y ∈ l.takeWhile (λy=>y.1<=t),y.1<=t)/\(∀y ∈ l.dropWhile (λy=>y.1<=t),t<y.1):=by
 induction l with
 |nil=>simp
 |cons a l ih=>
  rw [List.pairwise_cons] at h;by_cases ha:a.1<=t
  ·rw [List.takeWhile_cons_of_pos (by simpa using ha),List.dropWhile_cons_of_pos (by simpa using ha)];obtain ⟨i1,i2⟩:=ih h.2;refine ⟨λy hy=> ?_,i2⟩;rcases cp.1 hy with rfl|hy
   ·exact ha
   ·exact i1 y hy
  ·rw [List.takeWhile_cons_of_neg (by simpa using ha),List.dropWhile_cons_of_neg (by simpa using ha)];refine ⟨bg,λy hy=> ?_⟩;rcases cp.1 hy with rfl|hy
   ·omega
   ·have:=h.1 y hy;omega
def Bb{l:List It}(h:l.Pairwise λa b=>a.1<=b.1)(t:Int){i:Nat}{y:It}(hi:l[i]? =some y):i<(l.takeWhile (λy=>y.1<=t)).length ↔ y.1<=t:=by
 have hs:=Ld h t;have e:=Lf (p:=λy:It=>decide (y.1<=t)) (l:=l);constructor
 ·intro iQ;rw [<-e,pJ iQ] at hi;exact hs.1 y (aO hi)
 ·intro hle;rcases jq i (l.takeWhile (λy=>y.1<=t)).length with iQ|Ny
  ·exact iQ
  ·rw [<-e,qH Ny] at hi;have:=hs.2 y (aO hi);omega
def ahG(l:List It)(x:It):l.take (l.takeWhile λy=>decide (y.1<=x.1)).length++x::l.drop (l.takeWhile λy=>decide (y.1<=x.1)).length=uB l x:=by
 have h:∀(a b l:List It),a++b=l->l.take a.length++x::l.drop a.length=a++x::b:=by rintro a b _ rfl;simp
 exact h _ _ _ (Lf (p:=λy:It=>decide (y.1<=x.1)) (l:=l))
def QJ(l:List It)(x:It):(uB l x).length=l.length+1:=by have e:=congrArg List.length (Lf (p:=λy:It=>decide (y.1<=x.1)) (l:=l));unfold uB;simp only [bQ,bR] at e ⊢;omega
def HN(l:List It)(x y:It):y ∈ uB l x ↔ y=x\/y ∈ l:=by
 unfold uB;conv=>rhs;rw [<-Lf (p:=λy:It=>decide (y.1<=x.1)) (l:=l)]
 simp only [bX,cp];constructor
 ·rintro (h|h|h)
  ·exact .inr (.inl h)
  ·exact .inl h
  ·exact .inr (.inr h)
 ·rintro (h|h|h)
  ·exact .inr (.inl h)
  ·exact .inl h
  ·exact .inr (.inr h)
def D7{l:List It}(h:l.Pairwise λa b=>a.1<=b.1)(x:It):(uB l x).Pairwise λa b=>a.1<=b.1:=by
 have hs:=Ld h x.1;have e:=Lf (p:=λy:It=>decide (y.1<=x.1)) (l:=l);unfold uB;rw [<-e,List.pairwise_append] at h;rw [List.pairwise_append];refine ⟨h.1,List.pairwise_cons.2 ⟨λy hy=>by have:=hs.2 y hy;omega,h.2.1⟩,λa ha b hb=> ?_⟩;rcases cp.1 hb with rfl|hb
 ·exact hs.1 a ha
 ·exact h.2.2 a ha b hb
def HO{l:List It}(h:(l.map (·.2)).Nodup){x:It}(hx:∀y ∈ l,y.2≠x.2):((uB l x).map (·.2)).Nodup:=by
 have e:=Lf (p:=λy:It=>decide (y.1<=x.1)) (l:=l);unfold uB;have hx':∀y ∈ l.takeWhile (λy=>y.1<=x.1)++l.dropWhile (λy=>y.1<=x.1),y.2≠x.2:=by rw [e];exact hx
 rw [<-e,bJ,sh] at h;rw [bJ,eQ,sh];refine ⟨h.1,oL.2 ⟨λhm=> ?_,h.2.1⟩,λa ha b hb=> ?_⟩
 ·obtain ⟨y,hy,e⟩:=aU.1 hm;exact hx' y (r6 _ hy) e
 ·rcases cp.1 hb with rfl|hb
  ·obtain ⟨y,hy,rfl⟩:=aU.1 ha;exact hx' y (xC _ hy)
  ·exact h.2.2 a ha b hb
def BT.add{q:QS}(h:BT q)(c:Cl)(t:Int):BT (mj q c t).1:=by
 unfold mj;split
 ·rename_i was hw;split
  ·exact h
  ·have fa:=CS q.l c;have iQ:(iU q.l c).length<q.l.length:=by
    have hm:=yJ hw;have:(iU q.l c).length≠q.l.length:=λe=>by have:=fa.eq_of_length e;rw [<-this] at hm;unfold iU at hm;simp at hm
    have:=fa.length_le;omega
   have:=h.len;exact ⟨h.room,by rw [QJ];show ((_:Nat):Int)<=q.room;omega,D7 (h.sorted.sublist fa) _,HO ((fa.map _).nodup h.nodup) (λy hy=>by unfold iU at hy;simp at hy;exact hy.2)⟩
 ·rename_i hn;split
  ·exact ⟨h.room,h.len,h.sorted,h.nodup⟩
  ·exact ⟨h.room,by rw [QJ];show ((_:Nat):Int)<=q.room;omega,D7 h.sorted _,HO h.nodup (tC hn)⟩
def BT.drop{q:QS}(h:BT q)(c:Cl):BT {q with l:=iU q.l c}:=by have fa:=CS q.l c;have:=fa.length_le;have:=h.len;exact ⟨h.room,by show ((iU q.l c).length:Int)<=q.room;omega,h.sorted.sublist fa,(fa.map _).nodup h.nodup⟩
def BT.due{q:QS}(h:BT q)(now many:Int):BT (MV q now many).1:=by have fa:(q.l.drop (jc q.l now many)).Sublist q.l:=List.drop_sublist _ _;have:=fa.length_le;have:=h.len;exact ⟨h.room,by show ((q.l.drop (jc q.l now many)).length:Int)<=q.room;omega,h.sorted.sublist fa,(fa.map _).nodup h.nodup⟩
def CH(q:QS)(c:Cl)(t:Int):q.lost<=(mj q c t).1.lost/\(mj q c t).1.lost<=q.lost+1:=by
 unfold mj;split
 ·split<;>exact ⟨lL _,by show q.lost<=q.lost+1;omega⟩
 ·split
  ·exact ⟨by show q.lost<=q.lost+1;omega,lL _⟩
  ·exact ⟨lL _,by show q.lost<=q.lost+1;omega⟩
def EA(q:QS):List It->QS × Nat
 | []=>(q,0)
 |x::l=>((EA (mj q x.2 x.1).1 l).1,(if (mj q x.2 x.1).2 then 1 else 0)+(EA (mj q x.2 x.1).1 l).2)
def Zr{q:QS}(h:BT q)(now many:Int){k:Nat}{x:It}(hx:q.l[k]? =some x):k<jc q.l now many ↔(k:Int)<many/\x.1<=now:=by have:=Bb h.sorted now hx;unfold jc;rw [<-this];omega
def Zs(l:List It)(now many:Int):jc l now many<=l.length:=by have:=(List.takeWhile_sublist (λy:It=>decide (y.1<=now)) (l:=l)).length_le;unfold jc;omega
end Go.ej
namespace Go.ej
end Go.ej
namespace Go.ej
open Go Go.Vc
set_option maxRecDepth 100000
set_option maxHeartbeats 8000000
def acM{q:QS}{c:Cl}{t:Int}(hn:∀x ∈ q.l,x.2≠c)(hr:(q.l.length:Int)<q.room):mj q c t=({q with l:=uB q.l (t,c)},true):=by
 have hq:nV q.l c=none:=by
  cases h:nV q.l c with
  |none=>rfl
  |some t=>exact absurd rfl (hn _ (yJ h))
 unfold mj;rw [hq];simp only;rw [if_neg aa]
end Go.ej
namespace Go.dR
open Go Go.Vc Go.cg Go.ej
set_option maxRecDepth 100000
set_option maxHeartbeats 8000000
abbrev Cg:=Ce × Int
def sb(b:Int):Bool:=decide (8<=b) && decide (b<16)
def ki(b:Int):Int:=if b=3 then 2 else if sb b then 5 else 0
def iK(b:Int):Int:=if sb b then b-8 else -1
def jD(l:Int):Int:=8+min (max l 0) 7
def kG(b:Int):Bool:=decide (b=0)||sb b
def fe(c:Ce):Ce:=(c.1,c.2.1-1,c.2.2)
def Ef(c:Ce):Ce:=(c.1,c.2.1+1,c.2.2)
def c5(c:Ce):List Ce:=[(c.1-1,c.2.1,c.2.2),(c.1+1,c.2.1,c.2.2),(c.1,c.2.1,c.2.2-1),(c.1,c.2.1,c.2.2+1)]
def rG(c:Ce):List Ce:=[(c.1-1,c.2.1,c.2.2),(c.1+1,c.2.1,c.2.2),fe c,Ef c,(c.1,c.2.1,c.2.2-1),(c.1,c.2.1,c.2.2+1)]
def tB(V:Ce->Int)(c:Ce):List Ce:=(c::rG c).filter λn=>decide (0<ki (V n))
def HC(V:Ce->Int)(now:Int)(q:QS)(c:Ce):QS:=(tB V c).foldl (λq n=>(mj q n (now+ki (V n))).1) q
def Mp(V:Ce->Int)(l:List Ce):Int:=l.foldl (λm n=>if 0<=iK (V n) then min m (iK (V n)) else m) 7
def iJ(V:Ce->Int)(c:Ce):Int × Bool:=if sb (V (Ef c)) then (1,true) else if Mp V (c5 c)=7 then (0,false) else (Mp V (c5 c)+1,true)
def LJ(V:Ce->Int)(c:Ce):List Cg:=if kG (V (fe c)) then [(c,V (fe c)),(fe c,3)] else []
def mN(V:Ce->Int)(c:Ce)(level:Int):List Cg:=
 if 0<level/\(iJ V c).2=false then [(c,0)]
 else if 0<level/\(iJ V c).1≠level then [(c,jD (iJ V c).1)]
 else if V (fe c)=0 then [(fe c,jD 1)]
 else if sb (V (fe c))=true\/7<=level then []
 else ((c5 c).filter λn=>decide (V n=0)).map λn=>(n,jD (level+1))
def ig(V:Ce->Int)(c:Ce):List Cg:=if V c=3 then LJ V c else if sb (V c) then mN V c (iK (V c)) else []
end Go.dR
namespace Go.gF
open Go Go.Vc Go.cg
set_option maxRecDepth 100000
set_option maxHeartbeats 8000000
abbrev Bx:=Ce × Ce
def cU(n:Int):Int:=min (max n (-140737488355328)) 140737488355328
def fZ(a b:Int):Int:=cU (cU a+cU b)
def mw(a b:Int):Int:=cU (cU a-cU b)
def bO(n:Int):Int:=cU n / 65536
def vm(n:Int):Int:=cU n % 65536
def nO(n:Int):Int:=min (max n (-2147483648)) 2147483648*65536
def kC(n:Int): -140737488355328<=cU n/\cU n<=140737488355328:=by unfold cU;omega
def Ct(n:Int): -2147483648<=bO n/\bO n<=2147483648:=by have:=kC n;unfold bO;omega
def g9{n:Int}(h: -140737488355328<=n/\n<=140737488355328):cU n=n:=by unfold cU;omega
def cN(v:Ce)(i:Int):Int:=if i=0 then v.1 else if i=1 then v.2.1 else if i=2 then v.2.2 else 0
def PS(f:Int->Int->Int)(v:Ce):Ce:=(f 0 v.1,f 1 v.2.1,f 2 v.2.2)
def kf(a b:Ce):Ce:=PS (λi n=>fZ n (cN b i)) a
def ym(a b:Ce):Ce:=PS (λi n=>mw n (cN b i)) a
def im(v:Ce)(ax n:Int):Ce:=PS (λi own=>if i=ax then cU n else own) v
def lQ(aq:Ce)(w h:Int):Bx:=(ym aq (max w 0 / 2,0,max w 0 / 2),kf aq (max w 0 / 2,max h 0,max w 0 / 2))
def bj(v:Ce):Ce:=(bO v.1,bO v.2.1,bO v.2.2)
def lR(b:Bx)(i:Int):Bool:=decide (cN b.1 i=cN b.2 i) && decide (vm (cN b.1 i)=0)
abbrev Cq(b:Bx):Ce:=bj (kf b.2 (-1,-1,-1))
def il(b:Bx):Ce:=(if b.1.1=b.2.1 then (bj b.1).1 else (Cq b).1,if b.1.2.1=b.2.2.1 then (bj b.1).2.1 else (Cq b).2.1,if b.1.2.2=b.2.2.2 then (bj b.1).2.2 else (Cq b).2.2)
def xF(b:Bx):Bool:= !(lR b 0||lR b 1||lR b 2)
def cc(a b:Int):Nat:=(b-a+1).toNat
def MG(a b:Ce):List Ce:=(List.range (cc a.2.1 b.2.1*cc a.2.2 b.2.2*cc a.1 b.1)).map λk:Nat=>
 (a.1+((k % cc a.1 b.1:Nat):Int),a.2.1+((k / cc a.1 b.1 / cc a.2.2 b.2.2:Nat):Int),a.2.2+((k / cc a.1 b.1 % cc a.2.2 b.2.2:Nat):Int))
def kg(b:Bx):List Ce:=if xF b then MG (bj b.1) (il b) else []
def iI(V:Ce->Int)(b:Bx)(p:Int->Bool):Bool:=(kg b).any λc=>p (V c)
def jB(b:Bx):Bx:=(im b.1 1 (mw b.1.2.1 1),im b.2 1 b.1.2.1)
def wx(v:Ce):(-2147483648<=(bj v).1/\(bj v).1<=2147483648)/\(-2147483648<=(bj v).2.1/\(bj v).2.1<=2147483648)/\-2147483648<=(bj v).2.2/\(bj v).2.2<=2147483648:=⟨Ct _,Ct _,Ct _⟩
def WK(b:Bx):(-2147483648<=(il b).1/\(il b).1<=2147483648)/\(-2147483648<=(il b).2.1/\(il b).2.1<=2147483648)/\-2147483648<=(il b).2.2/\(il b).2.2<=2147483648:=by have h1:=wx b.1;have h2:=wx (kf b.2 (-1,-1,-1));unfold il Cq;simp only;refine ⟨?_,?_,?_⟩<;>split<;>omega
def WL{a b i n:Nat}(h:i<n)(ha:a<b):a*n+i<b*n:=by have:=vg n (show a+1<=b from ha);rw [pL,Nat.one_mul] at this;omega
def WM{a i n:Nat}(h:i<n):(a*n+i) % n=i/\(a*n+i) / n=a:=by
 constructor
 ·rw [Nat.mul_add_mod',Nat.mod_eq_of_lt h]
 ·rw [u9,Nat.add_mul_div_right _ _ aa,Nat.div_eq_of_lt h,eC]
def WN(a b:Ce){jy jz jx:Nat}(hy:jy<cc a.2.1 b.2.1)(hz:jz<cc a.2.2 b.2.2)(hx:jx<cc a.1 b.1):
  (MG a b)[(jy*cc a.2.2 b.2.2+jz)*cc a.1 b.1+jx]? =some (a.1+(jx:Int),a.2.1+(jy:Int),a.2.2+(jz:Int)):=by
 unfold MG;rw [aS,Gl (WL hx (WL hz hy))];obtain ⟨h1,h2⟩:=WM (a:=jy*cc a.2.2 b.2.2+jz) hx;obtain ⟨h3,h4⟩:=WM (a:=jy) hz;simp only [oK,h1,h2,h3,h4]
def ac2(a b:Ce):(MG a b).length=cc a.2.1 b.2.1*cc a.2.2 b.2.2*cc a.1 b.1:=by unfold MG;simp
def PT{a b c:Ce}(h:c ∈ MG a b):(a.1<=c.1/\c.1<=b.1)/\(a.2.1<=c.2.1/\c.2.1<=b.2.1)/\a.2.2<=c.2.2/\c.2.2<=b.2.2:=by
 unfold MG at h;obtain ⟨k,hk,rfl⟩:=aU.1 h;have hk:=nQ.1 hk;have hx:0<cc a.1 b.1:=by
  by_cases q:cc a.1 b.1=0
  ·rw [q,Nat.mul_zero] at hk;omega
  ·omega
 have hz:0<cc a.2.2 b.2.2:=by
  by_cases q:cc a.2.2 b.2.2=0
  ·rw [q,Nat.mul_zero,Nat.zero_mul] at hk;omega
  ·omega
 have h1:=Nat.mod_lt k hx;have h2:=Nat.mod_lt (k / cc a.1 b.1) hz;have h3:k / cc a.1 b.1 / cc a.2.2 b.2.2<cc a.2.1 b.2.1:=by rw [Nat.div_div_eq_div_mul];refine Nat.div_lt_of_lt_mul ?_;rw [Nat.mul_comm (cc a.1 b.1),Nat.mul_comm,<-Nat.mul_assoc];exact hk
 generalize k % cc a.1 b.1=p1 at*;generalize k / cc a.1 b.1 / cc a.2.2 b.2.2=p2 at*;generalize k / cc a.1 b.1 % cc a.2.2 b.2.2=p3 at*;unfold cc at*;simp only;omega
def AI(n:Int):Int:=min (max n (-65536)) 65536 / 4
def Bp(n:Int):Int:=min (max n (-70368744177664)) 70368744177664
def kN(aq d:Ce):Ce:=ym (Bp (kf aq d).1,Bp (kf aq d).2.1,Bp (kf aq d).2.2) aq
def gN(h:Bool × Bool × Bool)(v:Ce):Ce:=(λv=>if h.2.2 then im v 2 0 else v) ((λv=>if h.2.1 then im v 1 0 else v) (if h.1 then im v 0 0 else v))
def lS(b:Bx)(ax k:Int):Bx:=(im b.1 ax (nO k),im b.2 ax (nO (k+1)))
def ln(d:Int):Int:=min (max d (-4194304)) 4194304
def UW(top d k:Int):Nat:=((top+d-k*65536+65535) / 65536).toNat
def qg(low d k:Int):Nat:=(((k+1)*65536-(low+d)+65535) / 65536).toNat
def cm(b:Bx)(ax d:Int):List (Int × Int):=
 if 0<d then (List.range (UW (cN b.2 ax) d (bO (cN b.2 ax+65535)))).map λi:Nat=>(bO (cN b.2 ax+65535)+i,(bO (cN b.2 ax+65535)+i)*65536-cN b.2 ax)
 else (List.range (qg (cN b.1 ax) d (bO (cN b.1 ax)-1))).map λi:Nat=>(bO (cN b.1 ax)-1-i,(bO (cN b.1 ax)-1-i+1)*65536-cN b.1 ax)
def eE(V:Ce->Int)(p:Int->Bool)(b:Bx)(ax d:Int):Int × Bool:=
 match (cm b ax (ln d)).find? (λx=>iI V (lS b ax x.1) p) with
 |some x=>(x.2,true)
 |none=>(ln d,false)
def WS(b:Bx)(v:Ce):Bx:=(kf b.1 v,kf b.2 v)
def bY(V:Ce->Int)(p:Int->Bool)(b:Bx)(ax d:Int):Bx × Bool:=(WS b (im (0,0,0) ax (eE V p b ax d).1),(eE V p b ax d).2)
def bN(b:Bx)(m:Int):Prop:=((-m<=b.1.1/\b.1.1<=m)/\(-m<=b.1.2.1/\b.1.2.1<=m)/\-m<=b.1.2.2/\b.1.2.2<=m)/\(-m<=b.2.1/\b.2.1<=m)/\(-m<=b.2.2.1/\b.2.2.1<=m)/\-m<=b.2.2.2/\b.2.2.2<=m
def bN.ax{b:Bx}{m:Int}(h:bN b m)(hm:0<=m)(i:Int):(-m<=cN b.1 i/\cN b.1 i<=m)/\-m<=cN b.2 i/\cN b.2 i<=m:=by unfold bN at h;unfold cN;refine ⟨?_,?_⟩<;>(repeat' split)<;>omega
def W9{top d k:Int}{i:Nat}(h:top+d-k*65536<=100000000):(k+(i:Int))*65536<top+d ↔ i<UW top d k:=by unfold UW;omega
def Lp{low d k:Int}{i:Nat}:low+d<(k-(i:Int)+1)*65536 ↔ i<qg low d k:=by unfold qg;omega
def AS(d:Int): -4194304<=ln d/\ln d<=4194304:=by unfold ln;omega
def Qi{b:Bx}{ax d:Int}(hb:bN b 100000000000000)(hd: -4194304<=d/\d<=4194304):∀x ∈ cm b ax d,(-1525900000<=x.1/\x.1<=1525900000)/\-4194304<=x.2/\x.2<=4194304:=by
 have hn:=hb.ax aA ax;have c1:=g9 (n:=cN b.2 ax+65535) aa;have c2:=g9 (n:=cN b.1 ax) aa;intro x hx;unfold cm at hx;split at hx
 ·obtain ⟨i,hi,rfl⟩:=aU.1 hx;have hi:=nQ.1 hi;unfold UW at hi;unfold bO at hi ⊢;rw [c1] at hi ⊢;simp only;omega
 ·obtain ⟨i,hi,rfl⟩:=aU.1 hx;have hi:=nQ.1 hi;unfold qg at hi;unfold bO at hi ⊢;rw [c2] at hi ⊢;simp only;omega
def Mt{V:Ce->Int}{p:Int->Bool}{b:Bx}{ax d:Int}(hb:bN b 100000000000000): -4194304<=(eE V p b ax d).1/\(eE V p b ax d).1<=4194304:=by
 unfold eE;split
 ·rename_i x hx;exact (Qi hb (AS d) x (W5 hx)).2
 ·exact AS d
def jQ{a n m k:Int}(ha: -m<=a/\a<=m)(hn: -k<=n/\n<=k)(hmk:m+k<=140737488355328):fZ a n=a+n/\-(m+k)<=fZ a n/\fZ a n<=m+k:=by unfold fZ cU;omega
def Z4{b:Bx}{v:Ce}{m k:Int}(hb:bN b m)(hv:(-k<=v.1/\v.1<=k)/\(-k<=v.2.1/\v.2.1<=k)/\-k<=v.2.2/\v.2.2<=k)(hmk:m+k<=140737488355328):bN (WS b v) (m+k):=by unfold bN at hb ⊢;obtain ⟨⟨h1,h2,h3⟩,h4,h5,h6⟩:=hb;obtain ⟨v1,v2,v3⟩:=hv;exact ⟨⟨(jQ h1 v1 hmk).2,(jQ h2 v2 hmk).2,(jQ h3 v3 hmk).2⟩,(jQ h4 v1 hmk).2,(jQ h5 v2 hmk).2,(jQ h6 v3 hmk).2⟩
def KM{ax n k:Int}(hn: -k<=n/\n<=k)(hk:0<=k):(-k<=(im (0,0,0) ax n).1/\(im (0,0,0) ax n).1<=k)/\(-k<=(im (0,0,0) ax n).2.1/\(im (0,0,0) ax n).2.1<=k)/\-k<=(im (0,0,0) ax n).2.2/\(im (0,0,0) ax n).2.2<=k:=by
 have hc: -k<=cU n/\cU n<=k:=by unfold cU;omega
 unfold im PS;simp only;refine ⟨?_,?_,?_⟩<;>split<;>omega
def dK{V:Ce->Int}{p:Int->Bool}{b:Bx}{ax d m:Int}(hb:bN b m)(hm:m<=100000000000000):bN (bY V p b ax d).1 (m+4194304):=by
 have hb':bN b 100000000000000:=by unfold bN at hb ⊢;omega
 exact Z4 hb (KM (Mt hb') aA) aa
def kV(V:Ce->Int)(p:Int->Bool)(b:Bx)(d:Ce):Bx ×(Bool × Bool × Bool):=
 let y:=bY V p b 1 d.2.1
 let x:=bY V p y.1 0 d.1
 let z:=bY V p x.1 2 d.2.2
 (z.1,(x.2,y.2,z.2))
def Mu{V:Ce->Int}{p:Int->Bool}{b:Bx}{d:Ce}{m:Int}(hb:bN b m)(hm:m<=99990000000000):bN (kV V p b d).1 (m+12582912):=by
 have h1:=dK (V:=V) (p:=p) (ax:=1) (d:=d.2.1) hb aa;have h2:=dK (V:=V) (p:=p) (ax:=0) (d:=d.1) h1 aa;have h3:=dK (V:=V) (p:=p) (ax:=2) (d:=d.2.2) h2 aa;have:m+4194304+4194304+4194304=m+12582912:=by omega
 rw [this] at h3;exact h3
def QO(a b:Bx):Int:=max (b.1.1-a.1.1) (-(b.1.1-a.1.1))+max (b.1.2.2-a.1.2.2) (-(b.1.2.2-a.1.2.2))
def ik(V:Ce->Int)(p:Int->Bool)(b:Bx)(d:Ce)(up:Int):Bx ×(Bool × Bool × Bool):=
 let m:=kV V p b d
 if (!m.2.1 && !m.2.2.2)||decide (up<=0)|| !iI V (jB b) p then m
 else
  let high:=bY V p b 1 (min up 65536)
  let x:=bY V p high.1 0 d.1
  let z:=bY V p x.1 2 d.2.2
  let y:=bY V p z.1 1 (-(high.1.1.2.1-b.1.2.1))
  if QO b y.1<=QO b m.1 then m else (y.1,(x.2,true,z.2))
def eK(a:Ce)(m:Int):Prop:=(-m<=a.1/\a.1<=m)/\(-m<=a.2.1/\a.2.1<=m)/\-m<=a.2.2/\a.2.2<=m
def wR(a b:Ce)(k:Int):Prop:=(-k<=b.1-a.1/\b.1-a.1<=k)/\(-k<=b.2.1-a.2.1/\b.2.1-a.2.1<=k)/\-k<=b.2.2-a.2.2/\b.2.2-a.2.2<=k
def wR.tr{a b c:Ce}{k n:Int}(h:wR a b k)(h':wR b c n):wR a c (k+n):=by unfold wR at*;omega
def wR.up{a b:Ce}{k n:Int}(h:wR a b k)(hn:k<=n):wR a b n:=by unfold wR at*;omega
def bN.lo{b:Bx}{m:Int}(h:bN b m):eK b.1 m:=h.1
def bN.up{b:Bx}{m n:Int}(h:bN b m)(hmn:m<=n):bN b n:=by unfold bN at h ⊢;omega
def eK.up{b:Ce}{m n:Int}(h:eK b m)(hmn:m<=n):eK b n:=by unfold eK at h ⊢;omega
def WH{a v:Ce}{m k:Int}(ha:eK a m)(hv:(-k<=v.1/\v.1<=k)/\(-k<=v.2.1/\v.2.1<=k)/\-k<=v.2.2/\v.2.2<=k)(hmk:m+k<=140737488355328):eK (kf a v) (m+k)/\wR a (kf a v) k:=by obtain ⟨h1,h2,h3⟩:=ha;obtain ⟨v1,v2,v3⟩:=hv;have q1:=jQ h1 v1 hmk;have q2:=jQ h2 v2 hmk;have q3:=jQ h3 v3 hmk;have e1:(kf a v).1=fZ a.1 v.1:=rfl;have e2:(kf a v).2.1=fZ a.2.1 v.2.1:=rfl;have e3:(kf a v).2.2=fZ a.2.2 v.2.2:=rfl;unfold eK wR;rw [e1,e2,e3];omega
def mQ{V:Ce->Int}{p:Int->Bool}{b:Bx}{ax d m:Int}(hb:bN b m)(hm:m<=100000000000000):wR b.1 (bY V p b ax d).1.1 4194304:=by have hb':bN b 100000000000000:=hb.up hm;exact (WH hb.lo (KM (Mt hb') aA) aa).2
def PA{V:Ce->Int}{p:Int->Bool}{b:Bx}{d:Ce}{m:Int}(hb:bN b m)(hm:m<=99990000000000):wR b.1 (kV V p b d).1.1 12582912:=by have h1:=dK (V:=V) (p:=p) (ax:=1) (d:=d.2.1) hb aa;have h2:=dK (V:=V) (p:=p) (ax:=0) (d:=d.1) h1 aa;have o1:=mQ (V:=V) (p:=p) (ax:=1) (d:=d.2.1) hb aa;have o2:=mQ (V:=V) (p:=p) (ax:=0) (d:=d.1) h1 aa;have o3:=mQ (V:=V) (p:=p) (ax:=2) (d:=d.2.2) h2 aa;exact ((o1.tr o2).tr o3).up aA
def acQ{V:Ce->Int}{p:Int->Bool}{b:Bx}{d:Ce}{up m:Int}(hb:bN b m)(hm:m<=99980000000000):wR b.1 (ik V p b d up).1.1 16777216/\bN (ik V p b d up).1 (m+16777216):=by
 have mo:=PA (V:=V) (p:=p) (d:=d) hb aa;have mn:=Mu (V:=V) (p:=p) (d:=d) hb aa;have h1:=dK (V:=V) (p:=p) (ax:=1) (d:=min up 65536) hb aa;have h2:=dK (V:=V) (p:=p) (ax:=0) (d:=d.1) h1 aa;have h3:=dK (V:=V) (p:=p) (ax:=2) (d:=d.2.2) h2 aa;have h4:=dK (V:=V) (p:=p) (ax:=1) (d:= -((bY V p b 1 (min up 65536)).1.1.2.1-b.1.2.1)) h3 aa;have o1:=mQ (V:=V) (p:=p) (ax:=1) (d:=min up 65536) hb aa;have o2:=mQ (V:=V) (p:=p) (ax:=0) (d:=d.1) h1 aa;have o3:=mQ (V:=V) (p:=p) (ax:=2) (d:=d.2.2) h2 aa;have o4:=mQ (V:=V) (p:=p) (ax:=1) (d:= -((bY V p b 1 (min up 65536)).1.1.2.1-b.1.2.1)) h3 aa;have o:=((o1.tr o2).tr o3).tr o4;unfold ik;simp only;split
 ·exact ⟨mo.up aA,mn.up aa⟩
 ·split
  ·exact ⟨mo.up aA,mn.up aa⟩
  ·exact ⟨o.up aA,h4.up aa⟩
def TU{aq:Ce}{wd ht m:Int}(hf:eK aq m)(hw:0<=wd/\wd<=1000000)(hh:0<=ht/\ht<=1000000)(hm:m+1000000<=140737488355328):bN (lQ aq wd ht) (m+1000000):=by
 have Df:0<=max wd 0 / 2/\max wd 0 / 2<=1000000:=by omega
 have hh2:0<=max ht 0/\max ht 0<=1000000:=by omega
 generalize hq:max wd 0 / 2=q at*;generalize hr:max ht 0=r at*;obtain ⟨h1,h2,h3⟩:=hf;have e:lQ aq wd ht=((mw aq.1 q,mw aq.2.1 0,mw aq.2.2 q),(fZ aq.1 q,fZ aq.2.1 r,fZ aq.2.2 q)):=by unfold lQ;rw [hq,hr];rfl
 rw [e];unfold bN mw fZ cU;simp only;omega
def PB{aq b c:Ce}{m n k:Int}(hf:eK aq m)(hb:eK b n)(hc:eK c n)(ho:wR b c k)(hn:n<=140737488355328)(hk:0<=k)(hmk:m+k<=140737488355328):eK (kf aq (ym c b)) (m+k):=by
 have hm:0<=m:=by unfold eK at hf;omega
 refine (WH hf ?_ hmk).1;have e1:(ym c b).1=mw c.1 b.1:=rfl;have e2:(ym c b).2.1=mw c.2.1 b.2.1:=rfl;have e3:(ym c b).2.2=mw c.2.2 b.2.2:=rfl;rw [e1,e2,e3];unfold wR at ho;unfold eK at hb hc;unfold mw cU;omega
end Go.gF
namespace Go.cg
open Go Go.Vc Go.aR
set_option maxRecDepth 100000
set_option maxHeartbeats 8000000
structure Stf(n:Nat)(D:Dk):Prop where
 c:Cln D
 ok:pN D
 v:∀id,(dt D id).2.1<=n
def Stf.mono{n m:Nat}{D:Dk}(h:Stf n D)(hm:n<=m):Stf m D:=⟨h.c,h.ok,λid=>Int.le_trans (h.v id) aa⟩
def Stf.save{n:Nat}{D:Dk}(h:Stf n D){id:Int}{body:List Int}(Td:0<=id/\id<=1099511627776)(hn:n<1073741824):
  Stf (n+1) (lk D id body).1/\(∀id',id'≠id->dt (lk D id body).1 id'=dt D id')/\((lk D id body).2=0->(lu (lk D id body).1 id).1=body)/\((lk D id body).2≠0->(lk D id body).1=D):=by
 have hv:=h.v id;have hv0:=Wo D id;have ow:=Gv D id;have Ny:=acy D id;by_cases j8:(body.length:Int)<=65536
 case neg=>
  have hw:zG ((dt D id).2.1+1) body=([],1):=by unfold zG;rw [if_pos aa]
  have hm:rV id=true:=by unfold rV;simp;omega
  have hs:lk D id body=(D,1):=by unfold lk;rw [if_pos hm,hw,if_pos bg]
  rw [hs];exact ⟨h.mono aa,λ_ _=>rfl,λq=>by simp at q,λ_=>rfl⟩
 by_cases hroom:(eo (lay D.safe (4*id+1-(dt D id).1,dB (cr ((dt D id).2.1+1) body))):Int)<=D.room
 case neg=>
  have hw:zG ((dt D id).2.1+1) body=(dB (cr ((dt D id).2.1+1) body),0):=by unfold zG;rw [if_neg aa]
  have hm:rV id=true:=by unfold rV;simp;omega
  have hp:mg D (4*id+1-(dt D id).1) (dB (cr ((dt D id).2.1+1) body))=(D,8):=by unfold mg;rw [h.c.ask,if_neg bg,h.c.now,if_pos aa]
  have hs:lk D id body=(D,8):=by unfold lk;rw [if_pos hm,hw,if_neg bg,hp,if_pos bg]
  rw [hs];exact ⟨h.mono aa,λ_ _=>rfl,λq=>by simp at q,λ_=>rfl⟩
 have hsv:=Wq h.c Td aa j8 hroom;have bc:=h.ok.save id body;rw [hsv] at bc ⊢;have eI:∀k,getD {D with safe:=lay D.safe (4*id+1-(dt D id).1,dB (cr ((dt D id).2.1+1) body)),l:=[]} k=if k=4*id+1-(dt D id).1 then dB (cr ((dt D id).2.1+1) body) else getD D k:=λk=>by rw [Pd h.c];show ((lK (lay D.safe _) k).getD [])=_;rw [Pe h.ok.nd];split<;>rfl
 have jj:=Pf (v:=(dt D id).2.1+1) (body:=body) aa j8;have Ta:Cln ({D with safe:=lay D.safe (4*id+1-(dt D id).1,dB (cr ((dt D id).2.1+1) body)),l:=[]}:Dk):=⟨rfl,h.c.f,h.c.w⟩;generalize ({D with safe:=lay D.safe (4*id+1-(dt D id).1,dB (cr ((dt D id).2.1+1) body)),l:=[]}:Dk)=D' at*;have oe:∀(D:Dk)(id:Int),dt D id=dP (dP (2*id+1,0,[]) (2*id) (nJ (getD D (2*id)))) (2*id+1) (nJ (getD D (2*id+1))):=λ_ _=>rfl
 have hother:∀id',id'≠id->dt D' id'=dt D id':=λid' hZ=>by rw [oe D' id',oe D id',eI,eI,if_neg aa,if_neg aa]
 have sH:dt D' id=(4*id+1-(dt D id).1,(dt D id).2.1+1,body):=by
  rw [oe D' id,eI,eI];generalize dt D id=s at*;rcases ow with e|e
  ·rw [if_neg aa,if_pos aa,jj];have fj:(dP (2*id+1,0,[]) (2*id) (nJ (getD D (2*id)))).2.1<=s.2.1:=by
    unfold dP;split
    ·exact Ny.1
    ·exact hv0.1
   generalize dP (2*id+1,0,[]) (2*id) (nJ (getD D (2*id)))=b at*;unfold dP;rw [if_pos ⟨rfl,by simp only;omega⟩];simp only;rw [show 4*id+1-s.1=2*id+1 by omega]
  ·rw [if_pos aa,jj,if_neg aa];have e1:dP (2*id+1,0,[]) (2*id) (s.2.1+1,body,0)=(2*id,s.2.1+1,body):=by unfold dP;rw [if_pos ⟨rfl,by simp only;omega⟩]
   rw [e1];unfold dP;rw [if_neg (by simp only;omega),show 4*id+1-s.1=2*id by omega]
 refine ⟨⟨Ta,bc,λid'=> ?_⟩,hother,λ_=> ?_,λq=>absurd rfl q⟩
 ·by_cases q:id'=id
  ·rw [q,sH];simp only;omega
  ·rw [hother id' q];have:=h.v id';omega
 ·unfold lu;have hm:rV id=true:=by unfold rV;simp;omega
  rw [if_pos hm,sH]
def Stf.new{room:Int}:Stf 0 ⟨min (max room 0) 1048576,0,0,[],[]⟩:=
 ⟨⟨rfl,rfl,rfl⟩,⟨List.nodup_nil,λk=>by simp [eo];omega,bg,bg,by simp only;omega⟩,λid=>lL 0⟩
end Go.cg
namespace Go.gF
open Go Go.Vc Go.cg
set_option maxRecDepth 100000
set_option maxHeartbeats 8000000
def xe(b:Bx)(c:Ce):Prop:=(c.1*65536<b.2.1/\b.1.1<c.1*65536+65536)/\(c.2.1*65536<b.2.2.1/\b.1.2.1<c.2.1*65536+65536)/\c.2.2*65536<b.2.2.2/\b.1.2.2<c.2.2*65536+65536
def yS(b:Bx):Prop:=b.1.1<b.2.1/\b.1.2.1<b.2.2.1/\b.1.2.2<b.2.2.2
def ax0(v:Ce):cN v 0=v.1:=by unfold cN;rw [if_pos rfl]
def ax1(v:Ce):cN v 1=v.2.1:=by unfold cN;rw [if_neg aA,if_pos rfl]
def ax2(v:Ce):cN v 2=v.2.2:=by unfold cN;rw [if_neg aA,if_neg aA,if_pos rfl]
def aej{a t c:Ce}:c ∈ MG a t ↔(a.1<=c.1/\c.1<=t.1)/\(a.2.1<=c.2.1/\c.2.1<=t.2.1)/\a.2.2<=c.2.2/\c.2.2<=t.2.2:=by
 refine ⟨PT,λ⟨⟨h1,h2⟩,⟨h3,h4⟩,h5,h6⟩=> ?_⟩;have hx:(c.1-a.1).toNat<cc a.1 t.1:=by unfold cc;omega
 have hy:(c.2.1-a.2.1).toNat<cc a.2.1 t.2.1:=by unfold cc;omega
 have hz:(c.2.2-a.2.2).toNat<cc a.2.2 t.2.2:=by unfold cc;omega
 have:=WN a t hy hz hx;have e:(a.1+(((c.1-a.1).toNat:Nat):Int),a.2.1+(((c.2.1-a.2.1).toNat:Nat):Int),a.2.2+(((c.2.2-a.2.2).toNat:Nat):Int))=c:=by obtain ⟨x,y,z⟩:=c;simp only at h1 h3 h5 ⊢;rw [Int.toNat_of_nonneg aa,Int.toNat_of_nonneg aa,Int.toNat_of_nonneg aa];simp only [Prod.mk.injEq];omega
 rw [e] at this;exact aO this
def Lm{b:Bx}(hn:bN b 100000000000000)(hf:yS b)(c:Ce):c ∈ kg b ↔ xe b c:=by
 unfold bN at hn;unfold yS at hf;have hs:xF b=true:=by
  have t0:lR b 0=false:=by unfold lR;rw [ax0,ax0,decide_eq_false aa];rfl
  have t1:lR b 1=false:=by unfold lR;rw [ax1,ax1,decide_eq_false aa];rfl
  have t2:lR b 2=false:=by unfold lR;rw [ax2,ax2,decide_eq_false aa];rfl
  unfold xF;rw [t0,t1,t2];rfl
 have e:il b=Cq b:=by unfold il;rw [if_neg aa,if_neg aa,if_neg aa]
 have e1:kf b.2 (-1,-1,-1)=(b.2.1-1,b.2.2.1-1,b.2.2.2-1):=by show (fZ b.2.1 (-1),fZ b.2.2.1 (-1),fZ b.2.2.2 (-1))=_;unfold fZ cU;simp only [Prod.mk.injEq];omega
 unfold kg;rw [if_pos hs,aej,e];unfold Cq;rw [e1];unfold bj bO xe;simp only;rw [g9 aa,g9 aa,g9 aa,g9 aa,g9 aa,g9 aa];omega
def any_false{V:Ce->Int}{b:Bx}{p:Int->Bool}:iI V b p=false ↔ ∀c ∈ kg b,p (V c)=false:=by unfold iI;rw [List.any_eq_false];simp
def Og(b:Bx)(v:Ce):Bx:=((b.1.1+v.1,b.1.2.1+v.2.1,b.1.2.2+v.2.2),(b.2.1+v.1,b.2.2.1+v.2.1,b.2.2.2+v.2.2))
def Fb(ax n:Int):Ce:=(if ax=0 then n else 0,if ax=1 then n else 0,if ax=2 then n else 0)
def ahY{b:Bx}{ax n:Int}(hb:bN b 100000000000000)(hn: -4194304<=n/\n<=4194304)(V7:ax=0\/ax=1\/ax=2):WS b (im (0,0,0) ax n)=Og b (Fb ax n):=by
 unfold bN at hb;have e:im (0,0,0) ax n=Fb ax n:=by have hc:cU n=n:=g9 aa;unfold im PS Fb;rw [hc];rcases V7 with rfl|rfl|rfl<;>rfl
 rw [e];have hv:(-4194304<=(Fb ax n).1/\(Fb ax n).1<=4194304)/\(-4194304<=(Fb ax n).2.1/\(Fb ax n).2.1<=4194304)/\-4194304<=(Fb ax n).2.2/\(Fb ax n).2.2<=4194304:=by unfold Fb;simp only;refine ⟨?_,?_,?_⟩<;>split<;>omega
 generalize Fb ax n=v at hv;show ((fZ b.1.1 v.1,fZ b.1.2.1 v.2.1,fZ b.1.2.2 v.2.2),(fZ b.2.1 v.1,fZ b.2.2.1 v.2.1,fZ b.2.2.2 v.2.2))=Og b v;unfold Og fZ cU;simp only [Prod.mk.injEq];omega
def aek{V:Ce->Int}{p:Int->Bool}{b:Bx}{ax d:Int}(hb: -100000000000000<=cN b.2 ax/\cN b.2 ax<=100000000000000)(hd:0<ln d):
  0<=(eE V p b ax d).1/\(eE V p b ax d).1<=ln d/\∀k,cN b.2 ax<=k*65536->k*65536<cN b.2 ax+(eE V p b ax d).1->iI V (lS b ax k) p=false:=by
 have hfd:=AS d;generalize hq:ln d=D at*;have hl:cm b ax D=(List.range (UW (cN b.2 ax) D (bO (cN b.2 ax+65535)))).map λi:Nat=>(bO (cN b.2 ax+65535)+(i:Int),(bO (cN b.2 ax+65535)+(i:Int))*65536-cN b.2 ax):=by unfold cm;rw [if_pos hd]
 have Ts:bO (cN b.2 ax+65535)=(cN b.2 ax+65535) / 65536:=by unfold bO;rw [g9 aa]
 rw [Ts] at hl;unfold eE;rw [hq];generalize cN b.2 ax=hi at*;generalize hk:(hi+65535) / 65536=k0 at*;have hup:∀i:Nat,(k0+(i:Int))*65536<hi+D ↔ i<UW hi D k0:=λi=>W9 aa
 cases hf:(cm b ax D).find? (λx=>iI V (lS b ax x.1) p) with
 |none=>
  refine ⟨by simp only;omega,lL _,λk h1 h2=> ?_⟩;simp only at h2;have hi2:(k-k0).toNat<UW hi D k0:=(hup _).1 aa;have hm:(k,k*65536-hi) ∈ cm b ax D:=by rw [hl];refine aU.2 ⟨(k-k0).toNat,nQ.2 hi2,?_⟩;rw [Int.toNat_of_nonneg aa,show k0+(k-k0)=k by omega]
  have:=DV.1 hf _ hm;simpa using this
 |some x=>
  obtain ⟨-,i,hi1,hx,l8⟩:=List.find?_eq_some_iff_getElem.1 hf;have dp:(cm b ax D).length=UW hi D k0:=by rw [hl];simp
  have hgi:∀(j:Nat)(hj:j<(cm b ax D).length),(cm b ax D)[j]=(k0+(j:Int),(k0+(j:Int))*65536-hi):=λj hj=>by simp only [hl,List.getElem_map,List.getElem_range]
  have Wc:=hgi i hi1;rw [hx] at Wc;have hiu:=(hup i).2 aa;subst Wc;simp only;refine ⟨aa,aa,λk h1 h2=> ?_⟩;have hj:(k-k0).toNat<i:=by omega
  have:=l8 (k-k0).toNat hj;rw [hgi] at this;simp only at this;rw [Int.toNat_of_nonneg aa,show k0+(k-k0)=k by omega] at this;simpa using this
def ael{V:Ce->Int}{p:Int->Bool}{b:Bx}{ax d:Int}(hb: -100000000000000<=cN b.1 ax/\cN b.1 ax<=100000000000000)(hd:¬0<ln d):
  ln d<=(eE V p b ax d).1/\(eE V p b ax d).1<=0/\∀k,k*65536+65536<=cN b.1 ax->cN b.1 ax+(eE V p b ax d).1<k*65536+65536->iI V (lS b ax k) p=false:=by
 have hfd:=AS d;generalize hq:ln d=D at*;have hl:cm b ax D=(List.range (qg (cN b.1 ax) D (bO (cN b.1 ax)-1))).map λi:Nat=>(bO (cN b.1 ax)-1-(i:Int),(bO (cN b.1 ax)-1-(i:Int)+1)*65536-cN b.1 ax):=by unfold cm;rw [if_neg hd]
 have Ts:bO (cN b.1 ax)=cN b.1 ax / 65536:=by unfold bO;rw [g9 aa]
 rw [Ts] at hl;unfold eE;rw [hq];generalize cN b.1 ax=lo at*;generalize hk:lo / 65536-1=k0 at*;have hup:∀i:Nat,lo+D<(k0-(i:Int)+1)*65536 ↔ i<qg lo D k0:=λi=>Lp
 cases hf:(cm b ax D).find? (λx=>iI V (lS b ax x.1) p) with
 |none=>
  refine ⟨lL _,by simp only;omega,λk h1 h2=> ?_⟩;simp only at h2;have hi2:(k0-k).toNat<qg lo D k0:=(hup _).1 aa;have hm:(k,(k+1)*65536-lo) ∈ cm b ax D:=by rw [hl];refine aU.2 ⟨(k0-k).toNat,nQ.2 hi2,?_⟩;rw [Int.toNat_of_nonneg aa,show k0-(k0-k)=k by omega]
  have:=DV.1 hf _ hm;simpa using this
 |some x=>
  obtain ⟨-,i,hi1,hx,l8⟩:=List.find?_eq_some_iff_getElem.1 hf;have dp:(cm b ax D).length=qg lo D k0:=by rw [hl];simp
  have hgi:∀(j:Nat)(hj:j<(cm b ax D).length),(cm b ax D)[j]=(k0-(j:Int),(k0-(j:Int)+1)*65536-lo):=λj hj=>by simp only [hl,List.getElem_map,List.getElem_range]
  have Wc:=hgi i hi1;rw [hx] at Wc;have hiu:=(hup i).2 aa;subst Wc;simp only;refine ⟨aa,aa,λk h1 h2=> ?_⟩;have hj:(k0-k).toNat<i:=by omega
  have:=l8 (k0-k).toNat hj;rw [hgi] at this;simp only at this;rw [Int.toNat_of_nonneg aa,show k0-(k0-k)=k by omega] at this;simpa using this
def aar{b:Bx}{ax k:Int}(hk: -1600000000<=k/\k<=1600000000)(V7:ax=0\/ax=1\/ax=2):
  lS b ax k=((if ax=0 then k*65536 else b.1.1,if ax=1 then k*65536 else b.1.2.1,if ax=2 then k*65536 else b.1.2.2),(if ax=0 then k*65536+65536 else b.2.1,if ax=1 then k*65536+65536 else b.2.2.1,if ax=2 then k*65536+65536 else b.2.2.2)):=by
 have h1:cU (nO k)=k*65536:=by unfold cU nO;omega
 have h2:cU (nO (k+1))=k*65536+65536:=by unfold cU nO;omega
 unfold lS im PS;rw [h1,h2];rcases V7 with rfl|rfl|rfl<;>rfl
def mX{V:Ce->Int}{p:Int->Bool}{b:Bx}{ax k:Int}(hn:bN b 99990000000000)(hf:yS b)(hk: -1525800000<=k/\k<=1525800000)(V7:ax=0\/ax=1\/ax=2)(h:iI V (lS b ax k) p=false){c:Ce}
  (hc:cN c ax=k)(h0:ax=0\/(c.1*65536<b.2.1/\b.1.1<c.1*65536+65536))(h1:ax=1\/(c.2.1*65536<b.2.2.1/\b.1.2.1<c.2.1*65536+65536))(h2:ax=2\/(c.2.2*65536<b.2.2.2/\b.1.2.2<c.2.2*65536+65536)):p (V c)=false:=by
 have hl:=aar (b:=b) (ax:=ax) (k:=k) aa V7;unfold bN at hn;unfold yS at hf;have VM:bN (lS b ax k) 100000000000000:=by rw [hl];unfold bN;simp only;rcases V7 with rfl|rfl|rfl<;>simp<;>omega
 have hf2:yS (lS b ax k):=by rw [hl];unfold yS;simp only;rcases V7 with rfl|rfl|rfl<;>simp<;>omega
 refine any_false.1 h c ((Lm VM hf2 c).2 ?_);rw [hl];unfold xe;simp only;rcases V7 with rfl|rfl|rfl
 ·rw [ax0] at hc;simp at h1 h2 ⊢;omega
 ·rw [ax1] at hc;simp at h0 h2 ⊢;omega
 ·rw [ax2] at hc;simp at h0 h1 ⊢;omega
def Fr3(P:Ce->Prop)(b0:Bx)(m:Int)(b:Bx):Prop:=∃v:Ce,((-m<=v.1/\v.1<=m)/\(-m<=v.2.1/\v.2.1<=m)/\-m<=v.2.2/\v.2.2<=m)/\b=Og b0 v/\∀c,xe b c->P c
def ah6{V:Ce->Int}{p:Int->Bool}{b:Bx}{ax d:Int}(hb:bN b 100000000000000): -4194304<=(eE V p b ax d).1/\(eE V p b ax d).1<=4194304:=Mt hb
def kQ{V:Ce->Int}{p:Int->Bool}{P:Ce->Prop}{b0 b:Bx}{m ax d:Int}(hn:bN b0 99000000000000)(hm:0<=m/\m<=900000000000)(hf:yS b0)(V7:ax=0\/ax=1\/ax=2)(hP:∀c,p (V c)=false->P c)(h:Fr3 P b0 m b):
  Fr3 P b0 (m+4194304) (bY V p b ax d).1:=by
 obtain ⟨v,hv,rfl,hfree⟩:=h;have Oy:bN (Og b0 v) 99990000000000:=by unfold bN Og at*;simp only at*;omega
 have hfb:yS (Og b0 v):=by unfold yS Og at*;simp only at*;omega
 generalize hbe:Og b0 v=b at*;have zo:=ah6 (V:=V) (p:=p) (ax:=ax) (d:=d) (Oy.up (show (99990000000000:Int)<=100000000000000 by decide));have hmv:=ahY (b:=b) (ax:=ax) (Oy.up aA) zo V7;have F8:=Oy.ax aA ax;have key:∀c,xe (Og b (Fb ax (eE V p b ax d).1)) c->P c:=by
  intro c hc;by_cases oh:xe b c
  ·exact hfree c oh
  refine hP c ?_;by_cases hd:0<ln d
  ·obtain ⟨q1,q2,q3⟩:=aek (V:=V) (p:=p) (b:=b) (ax:=ax) (d:=d) aa hd;generalize (eE V p b ax d).1=n at*;unfold xe Og Fb at hc;unfold xe at oh;unfold yS at hfb;simp only at hc;rcases V7 with rfl|rfl|rfl
   ·rw [ax0] at q3 F8;rw [ax0] at F8;simp at hc;exact mX Oy hfb aa (.inl rfl) (q3 c.1 aa aa) (ax0 c) (.inl rfl) (.inr aa) (.inr aa)
   ·rw [ax1] at q3 F8;rw [ax1] at F8;simp at hc;exact mX Oy hfb aa (.inr (.inl rfl)) (q3 c.2.1 aa aa) (ax1 c) (.inr aa) (.inl rfl) (.inr aa)
   ·rw [ax2] at q3 F8;rw [ax2] at F8;simp at hc;exact mX Oy hfb aa (.inr (.inr rfl)) (q3 c.2.2 aa aa) (ax2 c) (.inr aa) (.inr aa) (.inl rfl)
  ·obtain ⟨q1,q2,q3⟩:=ael (V:=V) (p:=p) (b:=b) (ax:=ax) (d:=d) aa hd;generalize (eE V p b ax d).1=n at*;unfold xe Og Fb at hc;unfold xe at oh;unfold yS at hfb;simp only at hc;rcases V7 with rfl|rfl|rfl
   ·rw [ax0] at q3 F8;rw [ax0] at F8;simp at hc;exact mX Oy hfb aa (.inl rfl) (q3 c.1 aa aa) (ax0 c) (.inl rfl) (.inr aa) (.inr aa)
   ·rw [ax1] at q3 F8;rw [ax1] at F8;simp at hc;exact mX Oy hfb aa (.inr (.inl rfl)) (q3 c.2.1 aa aa) (ax1 c) (.inr aa) (.inl rfl) (.inr aa)
   ·rw [ax2] at q3 F8;rw [ax2] at F8;simp at hc;exact mX Oy hfb aa (.inr (.inr rfl)) (q3 c.2.2 aa aa) (ax2 c) (.inr aa) (.inr aa) (.inl rfl)
 have he:(bY V p b ax d).1=Og b (Fb ax (eE V p b ax d).1):=hmv;rw [he];refine ⟨(v.1+(Fb ax (eE V p b ax d).1).1,v.2.1+(Fb ax (eE V p b ax d).1).2.1,v.2.2+(Fb ax (eE V p b ax d).1).2.2),?_,?_,key⟩
 ·have hw:(-4194304<=(Fb ax (eE V p b ax d).1).1/\(Fb ax (eE V p b ax d).1).1<=4194304)/\(-4194304<=(Fb ax (eE V p b ax d).1).2.1/\(Fb ax (eE V p b ax d).1).2.1<=4194304)/\-4194304<=(Fb ax (eE V p b ax d).1).2.2/\(Fb ax (eE V p b ax d).1).2.2<=4194304:=by unfold Fb;simp only;refine ⟨?_,?_,?_⟩<;>split<;>omega
  simp only;omega
 ·rw [<-hbe];unfold Og;simp only [Prod.mk.injEq];omega
def LH{V:Ce->Int}{p:Int->Bool}{P:Ce->Prop}{b:Bx}{d:Ce}(hn:bN b 99000000000000)(hf:yS b)(hP:∀c,p (V c)=false->P c)(h:∀c,xe b c->P c):Fr3 P b 12582912 (kV V p b d).1:=by have h0:Fr3 P b 0 b:=⟨(0,0,0),bg,by unfold Og;simp,h⟩;have h1:=kQ (V:=V) (ax:=1) (d:=d.2.1) hn aA hf (.inr (.inl rfl)) hP h0;have h2:=kQ (V:=V) (ax:=0) (d:=d.1) hn aA hf (.inl rfl) hP h1;exact kQ (V:=V) (ax:=2) (d:=d.2.2) hn aA hf (.inr (.inr rfl)) hP h2
def Fr3.up{P:Ce->Prop}{b0 b:Bx}{m k:Int}(h:Fr3 P b0 m b)(hm:m<=k):Fr3 P b0 k b:=by obtain ⟨v,hv,e,q⟩:=h;exact ⟨v,aa,e,q⟩
def aas{V:Ce->Int}{p:Int->Bool}{P:Ce->Prop}{b:Bx}{d:Ce}{up:Int}(hn:bN b 99000000000000)(hf:yS b)(hP:∀c,p (V c)=false->P c)(h:∀c,xe b c->P c):Fr3 P b 16777216 (ik V p b d up).1:=by
 have h0:Fr3 P b 0 b:=⟨(0,0,0),bg,by unfold Og;simp,h⟩;have hm:=(LH (V:=V) (p:=p) (d:=d) hn hf hP h).up (show (12582912:Int)<=16777216 by decide);have h1:=kQ (V:=V) (ax:=1) (d:=min up 65536) hn aA hf (.inr (.inl rfl)) hP h0;have h2:=kQ (V:=V) (ax:=0) (d:=d.1) hn aA hf (.inl rfl) hP h1;have h3:=kQ (V:=V) (ax:=2) (d:=d.2.2) hn aA hf (.inr (.inr rfl)) hP h2;have h4:=kQ (V:=V) (ax:=1) (d:= -((bY V p b 1 (min up 65536)).1.1.2.1-b.1.2.1)) hn aA hf (.inr (.inl rfl)) hP h3;unfold ik;simp only;split
 ·exact hm
 ·split
  ·exact hm
  ·exact h4
end Go.gF
namespace Go.cg
open Go Go.Vc Go.aR
set_option maxRecDepth 100000
set_option maxHeartbeats 8000000
structure Sfm(μ:Int->Nat)(K:List Int)(n:Nat)(D:Dk):Prop where
 c:Cln D
 ok:pN D
 k:∀x ∈ D.safe,x.1 ∈ K
 ml:∀x ∈ D.safe,x.2.length<=μ x.1
 v:∀id,(dt D id).2.1<=n
 r:(((K.map μ).sum:Nat):Int)<=D.room
def Wp(μ:Int->Nat):∀(l:List mc)(K:List Int),(fX l).Nodup->(∀x ∈ l,x.1 ∈ K)->(∀x ∈ l,x.2.length<=μ x.1)->eo l<=(K.map μ).sum
 | [],_,_,_,_=>gV _
 |x::l,K,hn,hk,hm=>by
  have hn:(x.1::fX l).Nodup:=hn
  obtain ⟨h1,h2⟩:=oL.1 hn
  have p:=List.perm_cons_erase (hk x (.head _))
  have e:(K.map μ).sum=μ x.1+((K.erase x.1).map μ).sum:=by rw [(p.map μ).sum_nat];rfl
  have ih:=Wp μ l (K.erase x.1) h2 (λy hy=>(List.mem_erase_of_ne (a:=y.1) (b:=x.1) λq=>h1 (aU.2 ⟨y,hy,q⟩)).2 (hk y (.tail _ hy))) λy hy=>hm y (.tail _ hy)
  have:=hm x (.head _);rw [py,e];omega
def Sfm.mono{μ:Int->Nat}{K:List Int}{n m:Nat}{D:Dk}(h:Sfm μ K n D)(hn:n<=m):Sfm μ K m D:=⟨h.c,h.ok,h.k,h.ml,λid=>by have:=h.v id;omega,h.r⟩
def Sfm.save{μ:Int->Nat}{K:List Int}{n:Nat}{D:Dk}(h:Sfm μ K n D){id:Int}{body:List Int}(Td:0<=id/\id<=1099511627776)(Jd:2*id ∈ K)(BW:2*id+1 ∈ K)(hb:body.length+9<=μ (2*id))(hb':body.length+9<=μ (2*id+1))(j8:(body.length:Int)<=65536)(hn:n<1073741824):
  (lk D id body).2=0/\Sfm μ K (n+1) (lk D id body).1/\(lk D id body).1.room=D.room/\(∃v,0<v/\lu (lk D id body).1 id=(body,v,true))/\∀id',id'≠id->dt (lk D id body).1 id'=dt D id':=by
 have hv:=h.v id;have hv0:=Wo D id;have ow:=Gv D id;have Ny:=acy D id;have hblob:(dB (cr ((dt D id).2.1+1) body)).length=body.length+9:=by rw [B7,zX];omega
 have hslot:4*id+1-(dt D id).1 ∈ K:=by
  rcases ow with e|e
  ·rw [show 4*id+1-(dt D id).1=2*id+1 by omega];exact BW
  ·rw [show 4*id+1-(dt D id).1=2*id by omega];exact Jd
 have fw:∀x ∈ lay D.safe (4*id+1-(dt D id).1,dB (cr ((dt D id).2.1+1) body)),x=(4*id+1-(dt D id).1,dB (cr ((dt D id).2.1+1) body))\/x ∈ D.safe:=λx hx=>by
  rcases cp.1 ((rU _ _).mem_iff.1 hx) with e|e
  ·exact .inl e
  ·exact .inr (ju.1 e).1
 have hK:∀x ∈ lay D.safe (4*id+1-(dt D id).1,dB (cr ((dt D id).2.1+1) body)),x.1 ∈ K:=λx hx=>by
  rcases fw x hx with rfl|e
  ·exact hslot
  ·exact h.k x e
 have hM:∀x ∈ lay D.safe (4*id+1-(dt D id).1,dB (cr ((dt D id).2.1+1) body)),x.2.length<=μ x.1:=λx hx=>by
  rcases fw x hx with rfl|e
  ·rw [hblob];rcases ow with e|e
   ·rw [show 4*id+1-(dt D id).1=2*id+1 by omega];exact hb'
   ·rw [show 4*id+1-(dt D id).1=2*id by omega];exact hb
  ·exact h.ml x e
 have hnd:=pz (w:=(4*id+1-(dt D id).1,dB (cr ((dt D id).2.1+1) body))) h.ok.nd;have hroom:(eo (lay D.safe (4*id+1-(dt D id).1,dB (cr ((dt D id).2.1+1) body))):Int)<=D.room:=by have h1:=Wp μ _ K hnd hK hM;have h4:=h.r;omega
 have hsv:=Wq h.c Td aa j8 hroom;have bc:=h.ok.save id body;rw [hsv] at bc ⊢;have eI:∀k,getD {D with safe:=lay D.safe (4*id+1-(dt D id).1,dB (cr ((dt D id).2.1+1) body)),l:=[]} k=if k=4*id+1-(dt D id).1 then dB (cr ((dt D id).2.1+1) body) else getD D k:=λk=>by rw [Pd h.c];show ((lK (lay D.safe _) k).getD [])=_;rw [Pe h.ok.nd];split<;>rfl
 have jj:=Pf (v:=(dt D id).2.1+1) (body:=body) aa j8;have Ta:Cln ({D with safe:=lay D.safe (4*id+1-(dt D id).1,dB (cr ((dt D id).2.1+1) body)),l:=[]}:Dk):=⟨rfl,h.c.f,h.c.w⟩;have hrm:({D with safe:=lay D.safe (4*id+1-(dt D id).1,dB (cr ((dt D id).2.1+1) body)),l:=[]}:Dk).room=D.room:=rfl;have hK':∀x ∈({D with safe:=lay D.safe (4*id+1-(dt D id).1,dB (cr ((dt D id).2.1+1) body)),l:=[]}:Dk).safe,x.1 ∈ K/\x.2.length<=μ x.1:=λx hx=>⟨hK x hx,hM x hx⟩
 generalize ({D with safe:=lay D.safe (4*id+1-(dt D id).1,dB (cr ((dt D id).2.1+1) body)),l:=[]}:Dk)=D' at*;have oe:∀(D:Dk)(id:Int),dt D id=dP (dP (2*id+1,0,[]) (2*id) (nJ (getD D (2*id)))) (2*id+1) (nJ (getD D (2*id+1))):=λ_ _=>rfl
 have hother:∀id',id'≠id->dt D' id'=dt D id':=λid' hZ=>by rw [oe D' id',oe D id',eI,eI,if_neg aa,if_neg aa]
 have sH:dt D' id=(4*id+1-(dt D id).1,(dt D id).2.1+1,body):=by
  rw [oe D' id,eI,eI];generalize dt D id=s at*;rcases ow with e|e
  ·rw [if_neg aa,if_pos aa,jj];have fj:(dP (2*id+1,0,[]) (2*id) (nJ (getD D (2*id)))).2.1<=s.2.1:=by
    unfold dP;split
    ·exact Ny.1
    ·exact hv0.1
   generalize dP (2*id+1,0,[]) (2*id) (nJ (getD D (2*id)))=b at*;unfold dP;rw [if_pos ⟨rfl,by simp only;omega⟩];simp only;rw [show 4*id+1-s.1=2*id+1 by omega]
  ·rw [if_pos aa,jj,if_neg aa];have e1:dP (2*id+1,0,[]) (2*id) (s.2.1+1,body,0)=(2*id,s.2.1+1,body):=by unfold dP;rw [if_pos ⟨rfl,by simp only;omega⟩]
   rw [e1];unfold dP;rw [if_neg (by simp only;omega),show 4*id+1-s.1=2*id by omega]
 refine ⟨rfl,⟨Ta,bc,λx hx=>(hK' x hx).1,λx hx=>(hK' x hx).2,λid'=> ?_,by rw [hrm];exact h.r⟩,hrm,⟨(dt D id).2.1+1,aa,?_⟩,hother⟩
 ·by_cases q:id'=id
  ·rw [q,sH];simp only;omega
  ·rw [hother id' q];have:=h.v id';omega
 ·unfold lu;have hm:rV id=true:=by unfold rV;simp;omega
  rw [if_pos hm,sH];simp only [Prod.mk.injEq,true_and];simp;omega
def Sfm.new{μ:Int->Nat}{K:List Int}{room:Int}(h:(((K.map μ).sum:Nat):Int)<=min (max room 0) 1048576):Sfm μ K 0 ⟨min (max room 0) 1048576,0,0,[],[]⟩:=by refine ⟨⟨rfl,rfl,rfl⟩,⟨List.nodup_nil,λk=>by simp [eo];omega,bg,bg,by simp only;omega⟩,(λx hx=>by cases hx),(λx hx=>by cases hx),λid=> ?_,h⟩;exact lL 0
def Sfm.Pg{μ:Int->Nat}{K:List Int}{n:Nat}{D:Dk}(h:Sfm μ K n D)(aW:Int):(dv D aW).1=D:=by
 obtain ⟨c1,c2,c3⟩:=h.c;unfold dv;rw [c1]
 cases D
 simp only at c1 c2 c3;subst c1 c2 c3;rfl
end Go.cg
namespace Go.Proofs.YtkkkfkopcfdmaaaGreatDoor
open Go Go.Vc Go.RowKit Go.Proofs
set_option maxRecDepth 100000
set_option maxHeartbeats 8000000
def cu(n m:Int):Int:=if n<0 then (-(n+1)) % m else n % m
def iG(n m:Int)(w:World)(hn:dJ n)(hm:0<m)(hm':dJ m):
  ae 10 #[n,m] w λe w'=>e=Value.int .i64 (cu n m)/\w'=w:=by
 apply MJ.vc;unfold cu;unfold dJ at hn hm';apply Br.mk<;>intro h<;>simp at h
 ·have e1:aw (n+1)=n+1:=wI;have e2:aw (0-(n+1))= -(n+1):=by rw [wI];omega
  rw [e1,e2,if_pos h];refine Wj.2 ⟨aa,?_,rfl⟩;rw [DH aa]
 ·rw [if_neg aa];refine Wj.2 ⟨aa,?_,rfl⟩;rw [DH aa]
def cK(n m:Int)(hm:0<m):0<=cu n m/\cu n m<m:=by
 unfold cu;split
 ·exact ⟨Int.emod_nonneg _ aa,Int.emod_lt_of_pos _ hm⟩
 ·exact ⟨Int.emod_nonneg _ aa,Int.emod_lt_of_pos _ hm⟩
def cE(b:Int):Bool:=decide (0<=b) && decide (b<=15) && b !=6 && b !=7
def ao(b:Int):Bool:=b== -1||b==1||b==2||b==3||b==5
def aet(n:Int):Int:=if cu n 14>5 then cu n 14+2 else cu n 14
def nmT:List ByteArray:=[⟨#[97,105,114]⟩,⟨#[115,116,111,110,101]⟩,⟨#[100,105,114,116]⟩,⟨#[115,97,110,100]⟩,⟨#[108,97,100,100,101,114]⟩,⟨#[103,108,97,115,115]⟩,⟨#[]⟩,⟨#[]⟩,
 ⟨#[119,97,116,101,114,48]⟩,⟨#[119,97,116,101,114,49]⟩,⟨#[119,97,116,101,114,50]⟩,⟨#[119,97,116,101,114,51]⟩,⟨#[119,97,116,101,114,52]⟩,⟨#[119,97,116,101,114,53]⟩,⟨#[119,97,116,101,114,54]⟩,⟨#[119,97,116,101,114,55]⟩]
def A9(b:Int):ByteArray:=if b<0 then ⟨#[]⟩ else nmT.getD b.toNat ⟨#[]⟩
def Hj(b:Int)(w:World):ae 111 #[b] w λe w'=>e=Value.bool (cE b)/\w'=w:=by apply YK.vc;unfold cE;refine Br.mk (λh=>Br.mk (λh2=>Br.mk (λh3=> ?_) (λh3=> ?_)) (λh2=> ?_)) (λh=> ?_)<;>simp_all<;>omega
def CY(b:Int)(w:World):ae 114 #[b] w λe w'=>e=Value.bool (ao b)/\w'=w:=by
 apply P6.vc;unfold ao
 repeat' (first|apply Br.mk<;>intro h)
 all_goals simp_all
def sk(b:Int)(w:World):ae 103 #[b] w λe w'=>e=Value.bool (ao b)/\w'=w:=by
 apply P5.vc;unfold ao
 repeat' (first|apply Br.mk<;>intro h)
 all_goals simp_all
def Fc(n:Int)(w:World)(hn:dJ n):ae 110 #[n] w λe w'=>e=Value.int .i64 (aet n)/\w'=w:=by
 apply Um.vc;unfold aet;refine (iG n 14 w hn aa (by unfold dJ;omega)).mono ?_;rintro e w' ⟨rfl,rfl⟩;have:=cK n 14 aa;refine ⟨_,rfl,Br.mk (λh=> ?_) (λh=> ?_)⟩<;>simp at h
 ·rw [if_pos h,wI];exact ⟨rfl,rfl⟩
 ·rw [if_neg aa];exact ⟨rfl,rfl⟩
def mO(n:Int)(w:World)(hn:dJ n):ae 302 #[n] w λe w'=>e=Value.int .i64 (8+min (max n 0) 7)/\w'=w:=by apply PY.vc;rw [aK (by unfold dJ;split<;>split<;>omega)];refine ⟨?_,rfl⟩;congr 2;split<;>split<;>omega
def awy:ByteArray:=⟨#[48,49,50,51,52,53,54,55,56,57,97,98,99,100,101,102,103,104,105,106,107,108,109,110,111,112,113,114,115,116,117,118,119,120,121,122]⟩
def UB(n:Int):ByteArray:=awy.extract n.toNat (n+1).toNat
def VJ(n:Int)(w:World)(h0:0<=n)(h1:n<10):ae 314 #[n] w λe w'=>e=Value.string (UB n)/\w'=w:=by
 apply tp.vc;rw [wI];apply Br.mk<;>intro h<;>simp at h
 ·refine ⟨aa,?_,aa,aa,rfl,rfl⟩;show n+1<=36;omega
 ·omega
def ID(n:Int)(w:World)(h0:0<=n)(h1:n<10):ae 308 #[n,(10:Int)] w λe w'=>e=Value.string (UB n)/\w'=w:=by
 have h10:n<100:=by omega
 have hs:ae 314 #[n] w (λe w'=>e=Value.string (UB n)/\w'=w):=VJ n w h0 h1;go_enter Tryz.func308,Tryz.ntmps308;go_wp2_with (go_at_call 314;refine hs.mono ?_;rintro e w' ⟨rfl,rfl⟩);go_ret;exact ⟨rfl,rfl⟩
def Y7(n:Int)(w:World)(h0:0<=n)(h1:n<10):ae 267 #[n] w λe w'=>e=Value.string (UB n)/\w'=w:=by
 apply MK.vc;refine Calls.mono (uG.vc (R:=λe w'=>e=Value.string (UB n)/\w'=w) ((ID n w h0 h1).mono ?_)) ?_
 all_goals
  rintro e w' ⟨rfl,rfl⟩
  exact ⟨_,rfl,rfl,rfl⟩
def uf(x:Nat):LV:=(List.range 16).map λj=> .string (if j<8+x then nmT.getD j ⟨#[]⟩ else ⟨#[]⟩)
def adr(x:Int)(h0:0<=x)(h1:x<8):(⟨#[119,97,116,101,114]⟩:ByteArray)++UB x=nmT.getD (8+x).toNat ⟨#[]⟩:=by
 have:x=0\/x=1\/x=2\/x=3\/x=4\/x=5\/x=6\/x=7:=by omega
 rcases this with rfl|rfl|rfl|rfl|rfl|rfl|rfl|rfl<;>decide
def alp(x:Nat)(h1:x<8):aP (uf x) (8+x) [.string (nmT.getD (8+x) ⟨#[]⟩)]=uf (x+1):=by
 have:x=0\/x=1\/x=2\/x=3\/x=4\/x=5\/x=6\/x=7:=by omega
 rcases this with rfl|rfl|rfl|rfl|rfl|rfl|rfl|rfl<;>rfl
def AW(x:Nat):(uf x).length=16:=by simp [uf]
def aqf:Value:=.agg (uf 8).toArray
abbrev nm0:LV:=List.replicate 16 (.string ⟨#[]⟩)
def CC(w:World):ae 218 #[] w λe w'=>e=aqf/\Ext w w':=by
 apply PZ.vc;intro w0 hw0 w1 SZ;have r0:Row w0 w nm0 285:=by rw [hw0];exact Row.new w nm0 _
 have s0:w0.heap.size=w.heap.size+1:=by rw [hw0];simp
 have s1:w1.heap.size=w.heap.size+2:=by rw [SZ];simp [s0]
 have r1:Row w1 w0 nm0 285:=by rw [SZ];exact Row.new w0 nm0 285
 have x0:=aQ hw0;have x1:=aQ SZ;refine ⟨⟨rfl,r1.wr bg⟩,λw2 Df=> ?_⟩;rw [r1.bF bg (by intro u hu;simp at hu;rcases hu with rfl|rfl|rfl|rfl|rfl|rfl|rfl|rfl|rfl|rfl|rfl|rfl|rfl|rfl|rfl|rfl<;>rfl)] at Df;have r2:Row w2 w0 (uf 0) 285:=r1.st Df;have x2:Ext w w2:=(x0.tr x1).ab Df aa;have r20:Row w2 w nm0 285:=(r0.ext x1).same (by rw [Df];exact setRow_other _ _ _ _ aa);refine ⟨λn x wr=>∃k:Nat,x=k/\k+n=8/\Ext w wr/\Row wr w nm0 285/\Row wr w0 (uf k) 285,⟨8,0,rfl,rfl,x2,r20,r2⟩,?_⟩;rintro n us x wr ⟨k,rfl,hk,xr,q0,q1⟩;apply Br.mk<;>intro h<;>simp at h
 ·refine (Y7 k wr aa aa).mono ?_;rintro e w' ⟨rfl,rfl⟩;refine ⟨_,rfl,?_⟩;rw [aK (n:=8+(k:Int)) (by unfold dJ;omega),aK (n:=(k:Int)+1) (by unfold dJ;omega),adr k aa aa];have jV:af (aD w0.heap.size) ((8+(k:Int)).toNat*1)=some ⟨w0.heap.size,8+k,none⟩:=by rw [aV];congr 2;omega
  rw [jV];refine ⟨?_,by omega,by omega,⟨rfl,q1.wr (by rw [AW];simp;omega)⟩,λw3 L5=> ?_⟩
  ·have:(UB k).size<=1:=by
    have:k=0\/k=1\/k=2\/k=3\/k=4\/k=5\/k=6\/k=7:=by omega
    rcases this with rfl|rfl|rfl|rfl|rfl|rfl|rfl|rfl<;>decide
   have h5:(⟨#[119,97,116,101,114]⟩:ByteArray).size=5:=rfl;rw [h5];have:IntKind.i64.max=9223372036854775807:=by decide
   omega
  ·have e8:(8+(k:Int)).toNat=8+k:=by omega
   rw [q1.bF (by rw [AW];simp;omega) (by intro u hu;simp at hu;subst hu;rfl),e8,alp k aa] at L5;refine ⟨n-1,by omega,k+1,by omega,by omega,xr.ab L5 aa,q0.same (by rw [L5];exact setRow_other _ _ _ _ aa),by rw [L5];exact q1.set _⟩
 ·obtain rfl:k=8:=by omega
  refine ⟨_,_,_,_,_,_,_,_,_,_,_,_,_,_,_,_,q1.bI (vs:=uf 8) (λj hj=>by simp),⟨rfl,q0.wr bg⟩,λw3 L5=> ?_⟩;rw [q0.bF bg (by intro u hu;simp at hu;rcases hu with rfl|rfl|rfl|rfl|rfl|rfl|rfl|rfl|rfl|rfl|rfl|rfl|rfl|rfl|rfl|rfl<;>rfl)] at L5;have q3:Row w3 w (uf 8) 285:=q0.st L5;exact ⟨_,_,_,_,_,_,_,_,_,_,_,_,_,_,_,_,q3.bI (vs:=uf 8) (λj hj=>by simp),rfl,xr.ab L5 aa⟩
def La(x y:ByteArray):tR x y=true ↔ x=y:=by unfold tR;rw [ByteArray.toList_eq,ByteArray.toList_eq,beq_iff_eq];obtain ⟨⟨x⟩⟩:=x;obtain ⟨⟨y⟩⟩:=y;simp
def alD(i:Int)(h0:0<=i)(h1:i<16):(uf 8)[i.toNat*1]? =some (.string (A9 i)):=by
 have hk:i.toNat<16:=by omega
 have e:A9 i=nmT.getD i.toNat ⟨#[]⟩:=by unfold A9;rw [if_neg aa]
 rw [e,As];generalize i.toNat=k at hk;have:∀k,k<16->(uf 8)[k]? =some (.string (nmT.getD k ⟨#[]⟩)):=by
  intro k hk;have:k=0\/k=1\/k=2\/k=3\/k=4\/k=5\/k=6\/k=7\/k=8\/k=9\/k=10\/k=11\/k=12\/k=13\/k=14\/k=15:=by omega
  rcases this with rfl|rfl|rfl|rfl|rfl|rfl|rfl|rfl|rfl|rfl|rfl|rfl|rfl|rfl|rfl|rfl<;>rfl
 exact this k hk
def CR(b:Int)(h:b<0\/16<=b):A9 b=⟨#[]⟩:=by
 unfold A9;rcases h with h|h
 ·rw [if_pos h]
 ·rw [if_neg aa];rw [dO,jv (by show 16<=b.toNat;omega)];rfl
def adG(b:Int):cE b=true ↔ A9 b≠⟨#[]⟩:=by
 by_cases h:b<0\/16<=b
 ·rw [CR b h];unfold cE;simp;omega
 ·have:b=0\/b=1\/b=2\/b=3\/b=4\/b=5\/b=6\/b=7\/b=8\/b=9\/b=10\/b=11\/b=12\/b=13\/b=14\/b=15:=by omega
  rcases this with rfl|rfl|rfl|rfl|rfl|rfl|rfl|rfl|rfl|rfl|rfl|rfl|rfl|rfl|rfl|rfl<;>decide
def E0(b:Int)(w:World):ae 158 #[b] w λe w'=>e=Value.string (A9 b)/\Ext w w':=by
 apply Uj.vc;refine Br.mk (λh=> ?_) (λh=>Br.mk (λh2=> ?_) (λh2=> ?_))<;>simp at h
 ·rw [CR b (.inl h)];exact ⟨rfl,Ext.cG w⟩
 ·simp at h2;rw [CR b (.inr h2)];exact ⟨rfl,Ext.cG w⟩
 ·simp at h2;refine (CC w).mono ?_;rintro e w' ⟨rfl,x⟩;exact ⟨_,_,_,_,_,_,_,_,_,_,_,_,_,_,_,_,rfl,⟨h,h2⟩,_,alD b h h2,rfl,x⟩
def iu(b:Int)(w:World):ae 108 #[b] w λe w'=>e=Value.bool (cE b)/\Ext w w':=by
 apply Yx.vc;refine (E0 b w).mono ?_;rintro e w' ⟨rfl,x⟩;refine ⟨_,rfl,?_,x⟩;congr 2;rw [Bool.eq_iff_iff,adG];have:=La (A9 b) ⟨#[]⟩
 cases h:tR (A9 b) ⟨#[]⟩<;>simp_all
open Go.aR
abbrev iB:TypeId:=252
abbrev My:TypeId:=3
abbrev rv(r:Rn):LV:=[.int .i64 r.1,.int .i64 r.2]
abbrev iv(b:Int):LV:=[.int .i64 b]
abbrev lX(w:World)(s:Sl)(l:List Rn):Prop:=RdK w s 2 (l.map rv)
abbrev TT(w:World)(s:Sl)(c:List Int):Prop:=RdK w s 1 (c.map iv)
abbrev xD(B:Nat)(w:World)(s:Sl)(l:List Rn):Prop:=ar B iB 2 w s (l.map rv)
abbrev OwC(B:Nat)(w:World)(s:Sl)(c:List Int):Prop:=ar B My 1 w s (c.map iv)
def xD.Jb{B:Nat}{w:World}{s:Sl}{l:List Rn}(h:xD B w s l):lX w s l:=ar.rd h aa
def OwC.rdc{B:Nat}{w:World}{s:Sl}{c:List Int}(h:OwC B w s c):TT w s c:=ar.rd h aa
def lX.len{w:World}{s:Sl}{l:List Rn}(h:lX w s l):s.n=l.length:=by have:=h.n;simpa using this
def TT.len{w:World}{s:Sl}{c:List Int}(h:TT w s c):s.n=c.length:=by have:=h.n;simpa using this
def lX.get{w:World}{s:Sl}{l:List Rn}(_:lX w s l){i:Nat}{r:Rn}(hi:l[i]? =some r):(l.map rv)[i]? =some (rv r):=by rw [aS,hi];rfl
def lX.c0{w:World}{s:Sl}{l:List Rn}(h:lX w s l){i:Nat}{r:Rn}(hi:l[i]? =some r):ld w (af (af s.a (i*2)) 0)=some (.int .i64 r.1):=RdK.at h (lX.get h hi) (j:=0) rfl
def lX.c1{w:World}{s:Sl}{l:List Rn}(h:lX w s l){i:Nat}{r:Rn}(hi:l[i]? =some r):ld w (af (af s.a (i*2)) 1)=some (.int .i64 r.2):=RdK.at h (lX.get h hi) (j:=1) rfl
def lX.ll{w:World}{s:Sl}{l:List Rn}(h:lX w s l){i:Nat}{r:Rn}(hi:l[i]? =some r):ah w (af s.a (i*2)) 0 [r.1,r.2]:=RdK.bI h (lX.get h hi)
def TT.c0{w:World}{s:Sl}{l:List Int}(h:TT w s l){i:Nat}{b:Int}(hi:l[i]? =some b):ld w (af s.a (i*1))=some (.int .i64 b):=by have:=h.rd i (iv b) (by rw [aS,hi];rfl) 0 _ rfl;simpa using this
def lX.jd{w:World}{s:Sl}{l:List Rn}(h:lX w s l){i:Nat}(hi:i<l.length):eL s.a (i:Int) s.n:=RdK.jd h aa aa (by have:=lX.len h;omega)
def TT.jd{w:World}{s:Sl}{l:List Int}(h:TT w s l){i:Nat}(hi:i<l.length):eL s.a (i:Int) s.n:=RdK.jd h aa aa (by have:=TT.len h;omega)
def lX.some{w:World}{s:Sl}{l:List Rn}(h:lX w s l){i:Nat}(hi:i<l.length):(af s.a (i*2)).isSome=true:=by rw [k9];exact RdK.isSome h aa (i:=i) (by simpa using hi)
def bq{α:Type}{l:List α}{i:Nat}(h:i<l.length):∃r,l[i]? =some r:=⟨_,cX h⟩
abbrev Bd(n:Nat):Prop:=n<=1099511627776
def rf(s:Sl)(l:List Rn)(w:World)(hs:lX w s l)(hb:Bd l.length)(hl:∀r ∈ l,0<=r.1)(BQ:bt l<=1099511627776):
  ae 253 #[s] w λe w'=>e=Value.int .i64 (bt l)/\Ext w w':=by
 have uT:=lX.len hs;apply adb.vc;refine ⟨λn x y wr=>∃k:Nat,x=k/\k+n=l.length/\Ext w wr/\y=bt (l.take k),⟨l.length,0,rfl,aa,Ext.cG w,rfl⟩,?_⟩;rintro n us x y wr ⟨k,rfl,hk,xr,rfl⟩;have hw:=aK (n:=(k:Int)+1) gA;apply Br.mk<;>intro h<;>simp at h
 ·obtain ⟨r,hr⟩:=bq (l:=l) (i:=k) aa;refine ⟨lX.jd hs aa,_,_,lX.ll (hs.ext xr) hr,?_⟩;rintro w9 rfl bo rfl;have e:bt (l.take (k+1))=bt (l.take k)+r.1:=by rw [dy,hr];simp [bt]
  have h0:0<=bt (l.take k)/\0<=r.1/\bt (l.take (k+1))<=bt l:=by
   refine ⟨?_,hl r (aO hr),?_⟩
   ·rw [ea λq hq=>hl q (mB hq)];omega
   ·have:=QL (l.take (k+1)) (l.drop (k+1));rw [qM] at this;have h2:0<=bt (l.drop (k+1)):=by rw [ea λq hq=>hl q (Ar hq)];omega
    omega
  have Df:=aK (n:=bt (l.take k)+r.1) gA;refine ⟨n-1,aa,k+1,aa,aa,((xr.tr (Ext.al _ _)).setRow xr.size _),by rw [Df,e]⟩
 ·obtain rfl:k=l.length:=by omega
  rw [jg];exact ⟨rfl,xr⟩
abbrev alG(s:Sl)(w w':World):Prop:=∀j,s.aZ≠some j->j<w.heap.size->w'.heap[j]? =w.heap[j]?
def HK(B:Nat)(s:Sl)(l:List Rn)(r:Rn)(w:World)(hB:B<=w)(ho:xD B w s l)(hn:Bd l.length)(hl:∀q ∈ l,0<=q.1/\q.1<=1099511627776)(hr:r.1<=1099511627776):
  ae 252 #[s,.agg #[r.1,r.2]] w λe w'=>∃s':Sl,e=s'/\xD B w' s' (j7 l r)/\Below B w w'/\alG s w w':=by
 have uT:=lX.len ho.Jb;apply YO.vc;rintro w0 rfl;have xa:=Ext.al w (.cells #[r.1,r.2] iB);have xd:=xa.drew;have hz:(w.alloc (.cells #[r.1,r.2] iB)).drew.heap.size=w.heap.size+1:=by simp [World.drew]
 have hw:=aK (n:=((s.n:Nat):Int)-1) gA;have grow:∀(_:1<=r.1)(_:∀q,l.getLast? =some q->q.2≠r.2),(∀w4:World,w4=(w.alloc (.cells #[r.1,r.2] iB)).drew.alloc (.cells #[r.1,r.2] iB)->
   ba 16 2 w4 ⟨s.a,s.n,s.c⟩ 1 [r.1,r.2]/\∀(s5:Sl)(w6:World),aX iB 2 w4 ⟨s.a,s.n,s.c⟩ 1 [r.1,r.2] s5 w6->w6.heap[w.heap.size]? =w4.heap[w.heap.size]?/\w6.heap[(w.alloc (.cells #[r.1,r.2] iB)).drew.heap.size]? =w4.heap[(w.alloc (.cells #[r.1,r.2] iB)).drew.heap.size]?/\
   ∃s':Sl,Ending.returned (.slice s5.a s5.n s5.c)=s'/\xD B w6 s' (j7 l r)/\Below B w w6/\alG s w w6):=by
  rintro h1 h2 w4 rfl;obtain ⟨hp,bf⟩:=(ar.ext ho xd).j9 (bytes:=16) (news:=rv r) (.cells #[r.1,r.2] iB) (gG hB xd.size) rfl (B9 _ _ _ _) aa aa;refine ⟨hp,λs5 w6 hr'=> ?_⟩;obtain ⟨k1,ho',hn',xb,hk,hb⟩:=bf s5 w6 hr';refine ⟨?_,k1,s5,rfl,?_,(Below.mono xd hB).trans xb,λj hj iQ=> ?_⟩
  ·rw [hk _ (λhb=>absurd (ho.own.lt hb).2 (DC _)) aa];symm;exact (Ext.al _ _).heap aa
  ·rw [ir h1 h2];show ar B iB 2 w6 s5 ((l++ [r]).map rv);rw [bJ];exact ho'
  ·rw [hk j hj aa];exact xd.heap iQ
 apply Br.mk<;>intro h<;>simp at h
 ·exact ⟨s,rfl,by rw [mU h];exact ar.ext ho xa,Below.mono xa hB,λj _ hj=>xa.heap hj⟩
 rw [hw];refine Br.mk (λh'=> ?_) (λh'=> ?_)<;>simp at h'
 ·rcases yI l with rfl|⟨m,q,rfl⟩
  ·simp at uT;omega
  rw [bQ] at uT;simp at uT;have aoe:(((s.n:Nat):Int)-1).toNat=m.length:=by omega
  have hq:(m++ [q])[m.length]? =some q:=by simp
  have oh:eL s.a (((s.n:Nat):Int)-1) s.n:=by have:=lX.jd ho.Jb (i:=m.length) bg;rwa [show ((m.length:Nat):Int)=((s.n:Nat):Int)-1 from by omega] at this
  have hsome:=lX.some ho.Jb (i:=m.length) bg;rw [aoe];have r1:=RdK.ext ho.Jb xd;have r2:=RdK.ext ho.Jb xd.drew;refine ⟨oh,FC.2 ⟨hsome,_,lX.c1 r1 hq,Br.mk (λh2=> ?_) (λh2=> ?_)⟩⟩
  ·simp at h2;obtain ⟨q1,q2,q3,q4,q5⟩:=(ar.ext ho xd.drew).set (i:=m.length) (j:=0) (r:=rv q) (v:=.int .i64 (aw (q.1+r.1))) (by rw [aS,hq];rfl) aa rfl (gG hB xd.drew.size);refine ⟨oh,FC.2 ⟨hsome,_,lX.c0 r2 hq,oh,FC.2 ⟨hsome,⟨q1,q2⟩,?_,?_⟩⟩⟩
   ·intro hb;have:s.aZ=some w.heap.size:=by rw [cP,cP] at hb;exact hb
    exact absurd (ho.own.lt this).2 (DC _)
   ·rintro w3 rfl;have hwq:=aK (n:=q.1+r.1) (by have:=hl q bg;unfold dJ;omega);rw [hwq] at q3 q4 q5 ⊢;refine ⟨s,rfl,?_,(Below.mono xd.drew hB).trans q4,λj hj iQ=> ?_⟩
    ·rw [k8 h h2];show ar B iB 2 _ s ((m++ [(q.1+r.1,q.2)]).map rv);have e:((m++ [q]).map rv).set m.length ((rv q).set 0 (.int .i64 (q.1+r.1)))=(m++ [(q.1+r.1,q.2)]).map rv:=by rw [bJ,bJ,List.set_append_right _ _ bg];simp
     rw [<-e];exact q3
    ·rw [q5 j hj];exact xd.drew.heap iQ
  ·exact grow h (by intro p hp;simp at hp;subst hp;simpa using h2)
 ·have:l=[]:=by apply Dw;omega
  subst this;exact grow h bg
def tD(B:Nat)(s:Sl)(c:List Int)(r:Rn)(w:World)(hB:B<=w)(ho:xD B w s (gP c))(hn:Bd c.length)(hr:r.1<=1099511627776):
  ae 252 #[s,.agg #[r.1,r.2]] w λe w'=>∃s':Sl,e=s'/\xD B w' s' (gP (c++List.replicate r.1.toNat r.2))/\Below B w w'/\alG s w w':=by
 rw [<-QH];refine HK B s _ r w hB ho (by have:=te c;unfold Bd at*;omega) (λq hq=> ?_) hr;have:=np hq;unfold Bd at hn;omega
def HL(n b:Int)(w:World)(hn:n<=1099511627776):
  ae 320 #[n,b] w λe w'=>∃s':Sl,e=s'/\xD w w' s' (gP (List.replicate n.toNat b))/\Ext w w':=by
 apply YQ.vc;refine (tD w ⟨none,0,0⟩ [] (n,b) w (ak _) ar.nil bg hn).mono ?_;rintro e w' ⟨s',rfl,ho,x,_⟩;exact ⟨s',rfl,s',rfl,by simpa using ho,x⟩
def Ms(s:Sl)(c:List Int)(w:World)(hs:TT w s c)(hn:Bd c.length):
  ae 188 #[s] w λe w'=>∃s':Sl,e=s'/\xD w w' s' (gP c)/\Ext w w':=by
 have uT:=TT.len hs;apply ahj.vc;refine ⟨λn x o wr=>∃k:Nat,x=k/\k+n=c.length/\Ext w wr/\xD w wr o (gP (c.take k)),⟨c.length,0,rfl,aa,Ext.cG w,ar.nil⟩,?_⟩;rintro n us x o wr ⟨k,rfl,hk,xr,ho⟩;unfold Bd at hn;have hw:=aK (n:=(k:Int)+1) gA;apply Br.mk<;>intro h<;>simp at h
 ·obtain ⟨b,hb⟩:=bq (l:=c) (i:=k) aa;refine ⟨TT.jd hs aa,_,TT.c0 (hs.ext xr) hb,?_⟩;refine (tD w o _ (1,b) wr xr.size ho (by rw [cY];unfold Bd;omega) (by show (1:Int)<=_;omega)).mono ?_;rintro e w' ⟨s',rfl,ho',x',_⟩;refine ⟨s',rfl,n-1,aa,k+1,aa,aa,xr.trans x',?_⟩;rw [dy,hb];exact ho'
 ·obtain rfl:k=c.length:=by omega
  rw [jg] at ho;exact ⟨o,rfl,ho,xr⟩
def qe{l:List Rn}{k:Nat}{r:Rn}(hr:l[k]? =some r):bt (l.take (k+1))=bt (l.take k)+r.1:=by rw [dy,hr];simp [bt]
def W7{l:List Rn}(hl:∀r ∈ l,0<=r.1):0<=bt l:=by rw [ea hl];omega
def lY{l:List Rn}(hl:∀r ∈ l,0<=r.1)(k:Nat):0<=bt (l.take k)/\bt (l.take k)<=bt l:=by
 refine ⟨W7 λq hq=>hl q (mB hq),?_⟩;have:=QL (l.take k) (l.drop k);rw [qM] at this;have h2:=W7 (l:=l.drop k) λq hq=>hl q (Ar hq)
 omega
def ug{l:List Rn}{k:Nat}{r:Rn}(hr:l[k]? =some r):cn (l.take (k+1))=cn (l.take k)++List.replicate r.1.toNat r.2:=by rw [dy,hr,iP];exact congrArg _ (jK r)
def alK(c:List Int)(a b:Int):(JR c a b).length<=c.length:=by unfold JR;simp;omega
def xN(s:Sl)(l:List Rn)(a b:Int)(w:World)(hs:lX w s l)(hn:Bd l.length)(hl:∀r ∈ l,0<=r.1)(BQ:bt l<=1099511627776)(ha:0<=a)(hb:0<=b):
  ae 319 #[s,a,b] w λe w'=>∃s':Sl,e=s'/\xD w w' s' (gP (JR (cn l) a b))/\Ext w w':=by
 have uT:=lX.len hs;unfold Bd at hn;apply ade.vc;refine ⟨λn x y o wr=>∃k:Nat,x=k/\k+n=l.length/\Ext w wr/\y=bt (l.take k)/\xD w wr o (gP (JR (cn (l.take k)) a b)),⟨l.length,0,rfl,aa,Ext.cG w,rfl,?_⟩,?_⟩
 ·have:JR (cn (l.take 0)) a b=[]:=by simp [JR,cn]
  rw [this];exact ar.nil
 rintro n us x y o wr ⟨k,rfl,hk,xr,rfl,ho⟩;have hw:=aK (n:=(k:Int)+1) gA;apply Br.mk<;>intro h<;>simp at h
 ·obtain ⟨r,hr⟩:=bq (l:=l) (i:=k) aa;have e:=qe hr;have hr0:=hl r (aO hr);have b1:=lY hl k;have b2:=lY hl (k+1);have Df:=aK (n:=bt (l.take k)+r.1) gA;have hc:((cn (l.take k)).length:Int)=bt (l.take k):=(ea λq hq=>hl q (mB hq)).symm;have as9:JR (cn (l.take (k+1))) a b=JR (cn (l.take k)) a b++List.replicate (min b (bt (l.take k)+r.1)-max a (bt (l.take k))).toNat r.2:=by rw [ug hr,adL _ _ _ _ _ ha hb];congr 2;omega
  refine ⟨lX.jd hs aa,_,_,lX.ll (hs.ext xr) hr,?_⟩;rintro w9 rfl bo rfl;rw [Df];have bE:=((xr.tr (Ext.al _ (.cells #[ai,ai] iB))).setRow xr.size #[r.1,r.2]);have e1:(if bt (l.take k)+r.1<b then bt (l.take k)+r.1 else b)=min b (bt (l.take k)+r.1):=by split<;>omega
  have e2:(if bt (l.take k)>a then bt (l.take k) else a)=max a (bt (l.take k)):=by split<;>omega
  rw [e1,e2];have hkeep:∀g,o.aZ=some g->(((wr.alloc (.cells #[ai,ai] iB)).setRow wr.heap.size #[r.1,r.2]).drew).heap[g]? =wr.heap[g]? :=by intro g hg;have:=(ho.own.lt hg).2;show ((wr.alloc _).setRow wr.heap.size _).heap[g]? =_;rw [setRow_other _ _ _ _ aa];exact (Ext.al _ _).heap this
  have Jl:=ar.aW ho hkeep;have dp:(JR (cn (l.take k)) a b).length<=1099511627776:=by have:=alK (cn (l.take k)) a b;omega
  apply Br.mk<;>intro h2<;>simp only [cJ,fA] at h2
  ·have L5:=aK (n:=min b (bt (l.take k)+r.1)-max a (bt (l.take k))) gA;rw [L5];refine (tD w o _ (min b (bt (l.take k)+r.1)-max a (bt (l.take k)),r.2) _ bE.drew.size Jl dp (by show min b (bt (l.take k)+r.1)-max a (bt (l.take k))<=_;omega)).mono ?_;rintro e w' ⟨s',rfl,ho',x',Om⟩;refine ⟨s',rfl,Om _ (λhb=>absurd (ho.own.lt hb).2 (DC _)) (by simp [World.drew,World.setRow]),n-1,aa,k+1,aa,aa,bE.drew.trans x',aa,?_⟩;rw [as9];exact ho'
  ·refine ⟨n-1,aa,k+1,aa,aa,bE.drew,aa,?_⟩;rw [as9,show (min b (bt (l.take k)+r.1)-max a (bt (l.take k))).toNat=0 from by omega];simpa using Jl
 ·obtain rfl:k=l.length:=by omega
  rw [jg] at ho;exact ⟨o,rfl,ho,xr⟩
def mV(s:Sl)(l:List Rn)(w:World)(hs:lX w s l)(hn:Bd l.length):
  ae 186 #[s] w λe w'=>∃s':Sl,e=s'/\xD w w' s' l/\Ext w w':=by
 have uT:=lX.len hs;unfold Bd at hn;apply Cv.vc;apply Br.mk<;>intro h
 ·have:l=[]:=by
   rcases Ds l.length with h0|h0
   ·exact Dw h0
   ·have:=RdK.isSome hs aa (i:=0) (by simpa using h0)
    cases hsa:s.a<;>simp [hsa] at h this
  subst this;exact ⟨⟨none,0,0⟩,rfl,ar.nil,Ext.cG w⟩
 ·rintro w0 rfl;have xa:=Ext.al w (.cells #[] iB);have hz:Go.Vc.Own w iB 2 (w.alloc (.cells #[] iB)) ⟨aD w.heap.size,0,0⟩ []:=.row w.heap.size 0 0 [] (ak _) (Row.new w [] iB) bg (ak _);have hf:(l.map rv).flatten.length=s.n*2:=by rw [bA hs.wd];simp [uT]
  have h1:One (l.map rv).flatten:=gK λr hr=>by obtain ⟨q,_,rfl⟩:=aU.1 hr;exact B9 _ _ _ _
  obtain ⟨hp,hr⟩:=hz.append (bytes:=16) (m:=s.n) (news:=(l.map rv).flatten) xa.size hf h1 tP tP;refine ⟨(l.map rv).flatten,RdK.flat (hs.ext xa) aa,hp,λs2 w3 bf=> ?_⟩;obtain ⟨ho,VM,xb,_,_⟩:=hr s2 w3 bf;refine ⟨qL bf hf bg,s2,rfl,⟨by simpa using ho,hs.wd⟩,xa.trans xb⟩
def HQ(s:Sl)(ss:List Sl)(cs:List (List Int))(w:World)(hs:RdK w s 1 (ss.map λt=> [.slice t.a t.n t.c]))(dp:ss.length=cs.length)
  (hr:∀(i:Nat)(t:Sl)(c:List Int),ss[i]? =some t->cs[i]? =some c->lX w t (gP c))(hb:Bd ss.length)(hn:Bd cs.flatten.length):
  ae 318 #[s] w λe w'=>∃s':Sl,e=s'/\xD w w' s' (gP cs.flatten)/\Ext w w':=by
 have uT:s.n=ss.length:=by have:=hs.n;simpa using this
 unfold Bd at hn hb;apply YP.vc;refine ⟨λn x o wr=>∃k:Nat,x=k/\k+n=ss.length/\Ext w wr/\xD w wr o (gP (cs.take k).flatten),⟨ss.length,0,rfl,aa,Ext.cG w,ar.nil⟩,?_⟩;rintro n us x o wr ⟨k,rfl,hk,xr,ho⟩;have hw:=aK (n:=(k:Int)+1) gA;apply Br.mk<;>intro h<;>simp at h
 ·obtain ⟨t,ht⟩:=bq (l:=ss) (i:=k) aa;obtain ⟨c,hc⟩:=bq (l:=cs) (i:=k) aa;have hrt:=hr k t c ht hc;have htn:=lX.len hrt;have IH:(cs.take (k+1)).flatten=(cs.take k).flatten++c:=by rw [dy,hc];simp
  have hle:(cs.take k).flatten.length+c.length<=cs.flatten.length:=by have e:=congrArg List.length (congrArg List.flatten (qM (k+1) cs));rw [DA,IH] at e;simp only [bQ] at e;omega
  have Ta:=te c;have ko:=hs.rd k [.slice t.a t.n t.c] (by rw [aS,ht];rfl) 0 _ rfl;refine ⟨RdK.jd hs aa aa aa,t,xr.ld (by simpa using ko),?_⟩;refine ⟨λn x o wr=>∃j:Nat,x=j/\j+n=(gP c).length/\Ext w wr/\xD w wr o (gP ((cs.take k).flatten++cn ((gP c).take j))),⟨(gP c).length,0,rfl,aa,xr,by simpa [cn] using ho⟩,?_⟩;rintro n2 zF x2 o2 w2 ⟨j,rfl,hj,x2,Jl⟩;have Df:=aK (n:=(j:Int)+1) gA;apply Br.mk<;>intro h2<;>simp at h2
  ·obtain ⟨r,hrr⟩:=bq (l:=gP c) (i:=j) aa;have hrm:=np (aO hrr);refine ⟨lX.jd hrt aa,_,_,lX.ll (hrt.ext x2) hrr,?_⟩;rintro w9 rfl bo rfl;have bE:=((x2.tr (Ext.al _ (.cells #[ai,ai] iB))).setRow x2.size #[r.1,r.2]);have ho3:=ar.aW (w':=(w2.alloc (.cells #[ai,ai] iB)).setRow w2.heap.size #[r.1,r.2]) Jl (by
    intro g hg;have:=(Jl.own.lt hg).2;rw [setRow_other _ _ _ _ aa];exact (Ext.al _ _).heap this)
   have N6:((cs.take k).flatten++cn ((gP c).take j)).length<=1099511627776:=by rw [bQ];have h3:=lY (l:=gP c) (λq hq=>by have:=np hq;omega) j;rw [nS,ea λq hq=>by have:=np (mB hq);omega] at h3;omega
   refine (tD w o2 _ r _ bE.size ho3 N6 aa).mono ?_;rintro e w' ⟨s',rfl,ho',x',Om⟩;refine ⟨s',rfl,Om _ (λhb=>absurd (Jl.own.lt hb).2 (DC _)) (by simp [World.setRow]),n2-1,aa,j+1,aa,aa,bE.trans x',?_⟩;rw [ug hrr,<-fz];exact ho'
  ·obtain rfl:j=(gP c).length:=by omega
   refine ⟨n-1,aa,k+1,aa,aa,x2,?_⟩;rw [jg,mS] at Jl;rw [IH];exact Jl
 ·obtain rfl:k=ss.length:=by omega
  rw [dp,jg] at ho;exact ⟨o,rfl,ho,xr⟩
def Ip(s:Sl)(c:List Int)(a b x:Int)(w:World)(hs:lX w s (gP c))(hn:Bd c.length)(ha:dJ a)(hb:dJ b):
  ae 309 #[s,a,b,x] w λe w'=>∃s':Sl,e=s'/\xD w w' s' (gP (if cE x then Bc c a b x else c))/\Ext w w':=by
 have hl:Bd (gP c).length:=gG (te c) hn;have hp:∀r ∈ gP c,0<=r.1:=λr hr=>by have:=np hr;omega
 have BQ:bt (gP c)<=1099511627776:=by rw [nS];unfold Bd at hn;omega
 unfold Bd at hn;unfold dJ at ha hb;apply YN.vc;refine (rf s _ w hs hl hp BQ).mono ?_;rintro e w1 ⟨rfl,x1⟩;rw [nS];refine ⟨_,rfl,(iu x w1).mono ?_⟩;rintro e w2 ⟨rfl,x2⟩;have bW:=x1.tr x2;have e1:(if ((c.length:Nat):Int)<(if 0>a then 0 else a) then ((c.length:Nat):Int) else (if 0>a then 0 else a))=min (max a 0) (c.length:Int):=by split<;>split<;>omega
 have e2:(if ((c.length:Nat):Int)<(if 0>b then 0 else b) then ((c.length:Nat):Int) else (if 0>b then 0 else b))=min (max b 0) (c.length:Int):=by split<;>split<;>omega
 rw [e1,e2];refine ⟨_,rfl,Br.mk (λh=> ?_) (λh=>Br.mk (λh2=> ?_) (λh2=> ?_))⟩
 ·simp at h;refine (mV s _ w2 (hs.ext bW) hl).mono ?_;rintro e w3 ⟨s',rfl,ho,x3⟩;refine ⟨s',rfl,s',rfl,?_,bW.tr x3⟩;rw [h];exact ar.low ho bW.size
 ·simp at h h2;refine (mV s _ w2 (hs.ext bW) hl).mono ?_;rintro e w3 ⟨s',rfl,ho,x3⟩;refine ⟨s',rfl,s',rfl,?_,bW.tr x3⟩;rw [h,if_pos rfl,UM c a b x aa];exact ar.low ho bW.size
 ·replace h2:=nC h2;have hm:cE x=true:=by simpa using h
  have hw:=aK (n:=min (max b 0) (c.length:Int)-min (max a 0) (c.length:Int)) gA;rw [hw];refine (xN s _ 0 (min (max a 0) (c.length:Int)) w2 (hs.ext bW) hl hp BQ aa aa).mono ?_;rintro e w3 ⟨s1,rfl,o1,x3⟩;refine ⟨s1,rfl,(HL (min (max b 0) (c.length:Int)-min (max a 0) (c.length:Int)) x w3 aa).mono ?_⟩;rintro e w4 ⟨s2,rfl,o2,x4⟩;refine ⟨s2,rfl,(xN s _ (min (max b 0) (c.length:Int)) c.length w4 (((hs.ext bW).ext x3).ext x4) hl hp BQ aa aa).mono ?_⟩;rintro e w5 ⟨s3,rfl,o3,x5⟩;refine ⟨s3,rfl,?_⟩;rintro w6 rfl;have x6:=Ext.al w5 (.cells #[s1,s2,s3] 173);rw [mS] at o1 o3;have c9:=Row.new w5 [s1,s2,s3] 173;have jj:RdK (w5.alloc (.cells #[s1,s2,s3] 173)) ⟨aD w5.heap.size,3,3⟩ 1 ([s1,s2,s3].map λt=> [.slice t.a t.n t.c]):=by
   refine ⟨rfl,bg,λi r hi j v hj=> ?_⟩;show ld _ (af (aD w5.heap.size) _)=_;rw [aV,c9.ld];rcases i with _|_|_|i<;>simp at hi
   all_goals subst hi
   all_goals rcases j with _|j<;>simp at hj
   all_goals subst hj;rfl
  refine (HQ _ [s1,s2,s3] [JR c 0 (min (max a 0) (c.length:Int)),List.replicate (min (max b 0) (c.length:Int)-min (max a 0) (c.length:Int)).toNat x,JR c (min (max b 0) (c.length:Int)) c.length] _ jj rfl ?_ bg ?_).mono ?_
  ·intro i t d ht hd;rcases i with _|_|_|i<;>simp at ht hd
   ·subst ht;subst hd;exact (((o1.ext x4).ext x5).ext x6).rd aa
   ·subst ht;subst hd;exact ((o2.ext x5).ext x6).rd aa
   ·subst ht;subst hd;exact (o3.ext x6).rd aa
  ·have e:=congrArg List.length (Lj c a b x aa);rw [Zv] at e;simp only [jC,List.flatten_nil,mA,bQ] at e ⊢;unfold Bd;omega
  ·rintro e w7 ⟨s',rfl,ho,x7⟩;have xx:=(((bW.tr x3).tr x4).tr x5).tr x6;refine ⟨s',rfl,s',rfl,?_,xx.tr x7⟩;rw [if_pos hm,Lj c a b x aa];have ho:=ar.low ho xx.size;simpa using ho
def aaJ(c:List Int)(i x:Int):List Int:=if cE x=true/\0<=i/\i<(c.length:Int) then c.set i.toNat x else c
def JX(s:Sl)(c:List Int)(i x:Int)(w:World)(hs:lX w s (gP c))(hn:Bd c.length)(hi:dJ i):
  ae 295 #[s,i,x] w λe w'=>∃s':Sl,e=s'/\xD w w' s' (gP (aaJ c i x))/\Ext w w':=by
 have hl:Bd (gP c).length:=gG (te c) hn;have hp:∀r ∈ gP c,0<=r.1:=λr hr=>by have:=np hr;omega
 have BQ:bt (gP c)<=1099511627776:=by rw [nS];unfold Bd at hn;omega
 have hi':=hi;have hn':=hn;unfold Bd at hn';unfold dJ at hi';apply ac8.vc;apply Br.mk<;>intro h<;>simp at h
 ·refine (mV s _ w hs hl).mono ?_;rintro e w3 ⟨s',rfl,ho,x3⟩;refine ⟨s',rfl,s',rfl,?_,x3⟩;unfold aaJ;rw [if_neg aa];exact ho
 ·refine (rf s _ w hs hl hp BQ).mono ?_;rintro e w1 ⟨rfl,x1⟩;rw [nS];refine ⟨_,rfl,Br.mk (λh2=> ?_) (λh2=> ?_)⟩<;>simp at h2
  ·refine (mV s _ w1 (hs.ext x1) hl).mono ?_;rintro e w3 ⟨s',rfl,ho,x3⟩;refine ⟨s',rfl,s',rfl,?_,x1.tr x3⟩;unfold aaJ;rw [if_neg aa];exact ar.low ho x1.size
  ·have hw:=aK (n:=i+1) gA;rw [hw];refine (Ip s c i (i+1) x w1 (hs.ext x1) hn hi gA).mono ?_;rintro e w3 ⟨s',rfl,ho,x3⟩;refine ⟨s',rfl,s',rfl,?_,x1.tr x3⟩;unfold aaJ;have:=ar.low ho x1.size;rw [Zw c i x h h2] at this
   cases hm:cE x
   ·rw [hm] at this;rw [if_neg bg];exact this
   ·rw [hm] at this;rw [if_pos ⟨rfl,h,h2⟩];exact this
def aeJ(a b:Int):aw (aw a-b)=aw (a-b):=by unfold IntKind.wrap;simp only [IntKind.bits,IntKind.signed,qI];split<;>split<;>split<;>simp_all<;>omega
def Ns(s:Sl)(l:List Rn)(i:Int)(w:World)(hs:lX w s l)(hn:Bd l.length)(hl:∀r ∈ l,0<=r.1)(BQ:bt l<=1099511627776)(hi:dJ i):
  ae 194 #[s,i] w λe w'=>e=Value.int .i64 (atC (cn l) i)/\Ext w w':=by
 have uT:=lX.len hs;unfold Bd at hn;apply ahi.vc;refine ⟨λn x y wr=>∃k:Nat,x=k/\k+n=l.length/\Ext w wr/\y=aw (i-bt (l.take k))/\(i<0\/bt (l.take k)<=i),⟨l.length,0,rfl,aa,Ext.cG w,?_,?_⟩,?_⟩
 ·rw [show bt (l.take 0)=0 from rfl,Int.sub_zero,aK hi]
 ·rw [show bt (l.take 0)=0 from rfl];omega
 rintro n us x y wr ⟨k,rfl,hk,xr,rfl,l8⟩;have hw:=aK (n:=(k:Int)+1) gA;unfold dJ at hi;have hc:∀k,((cn (l.take k)).length:Int)=bt (l.take k):=λk=>(ea λq hq=>hl q (mB hq)).symm
 apply Br.mk<;>intro h<;>simp at h
 ·obtain ⟨r,hr⟩:=bq (l:=l) (i:=k) aa;have e:=qe hr;have hr0:=hl r (aO hr);have b1:=lY hl k;have b2:=lY hl (k+1);refine ⟨lX.jd hs aa,_,_,lX.ll (hs.ext xr) hr,?_⟩;rintro w9 rfl bo rfl;have bE:=((xr.tr (Ext.al _ (.cells #[ai,ai] iB))).setRow xr.size #[r.1,r.2]);have hwi:=adX (i-bt (l.take k));unfold dJ at hwi;have ajv:i<0->(0<=aw (i-bt (l.take k))->aw (i-bt (l.take k))<r.1->False):=by intro h0 h1 h2;revert h1 h2;unfold IntKind.wrap;simp only [IntKind.bits,IntKind.signed,qI];split<;>simp_all<;>omega
  have Dc:0<=i->bt (l.take k)<=i->aw (i-bt (l.take k))=i-bt (l.take k):=λ_ _=>wI
  have nx:(i<0\/bt (l.take (k+1))<=i)->∃n6,n6<n/\∃k_1:Nat,aw ((k:Int)+1)=k_1/\k_1+n6=l.length/\Ext w ((wr.alloc (.cells #[ai,ai] iB)).setRow wr.heap.size #[r.1,r.2])/\
    aw (aw (i-bt (l.take k))-r.1)=aw (i-bt (l.take k_1))/\(i<0\/bt (l.take k_1)<=i):=
   λhh=>⟨n-1,aa,k+1,aa,aa,bE,by rw [aeJ,e,Int.sub_sub],hh⟩
  refine Br.mk (λh1=>Br.mk (λh2=> ?_) (λh2=> ?_)) (λh1=> ?_)<;>simp only [cJ,fA] at*
  ·rcases tX i 0 with h0|h0
   ·exact (ajv h0 h1 h2).elim
   ·have hle:bt (l.take k)<=i:=by omega
    have:=Dc h0 hle;have ht:l=l.take k++ [r]++l.drop (k+1):=by have:=qM (k+1) l;rw [dy,hr] at this;exact this.symm
    refine ⟨?_,bE⟩;have hcell:cn l=cn (l.take k)++List.replicate r.1.toNat r.2++cn (l.drop (k+1)):=by rw [<-jK r,<-iP,<-iP,<-ht]
    rw [hcell,alJ _ _ _ _ _ (by rw [hc];exact hle) (by rw [hc];omega)]
  ·refine nx ?_;rcases tX i 0 with h0|h0
   ·exact .inl h0
   ·have:=Dc h0 aa;right;omega
  ·refine nx ?_;rcases tX i 0 with h0|h0
   ·exact .inl h0
   ·have:=Dc h0 aa;omega
 ·obtain rfl:k=l.length:=by omega
  refine ⟨?_,xr⟩;have:=hc l.length;rw [jg] at this l8;rw [ahN _ _ aa]
def aaK(may:Int->Bool)(prev:Option Int)(left:Int)(r:Rn)(t:List Rn):xc may prev left (r::t)=if r.1<1\/r.1>left\/may r.2=false\/prev=some r.2 then false else xc may (some r.2) (left-r.1) t:=rfl
def xS(s:Sl)(l:List Rn)(m:Int)(w:World)(hs:lX w s l)(hn:Bd l.length)(hm:dJ m):
  ae 185 #[s,m] w λe w'=>e=Value.bool (tk cE l m)/\Ext w w':=by
 have uT:=lX.len hs;unfold Bd at hn;unfold dJ at hm;apply ada.vc;have hprev:∀k,k<l.length->(l.take k).getLast? =if k=0 then none else l[k-1]? :=by
  intro k hk;rw [List.getLast?_eq_getElem?,rR,cY,Nat.min_eq_left aa];rcases Ds k with rfl|h0
  ·simp
  ·rw [if_pos aa,if_neg aa]
 refine ⟨λn x y wr=>∃k:Nat,x=k/\k+n=l.length/\Ext w wr/\y<=max m 0/\(min m 0<=y)/\xc cE ((l.take k).getLast?.map (·.2)) y (l.drop k)=xc cE none m l,⟨l.length,0,rfl,aa,Ext.cG w,aa,aa,rfl⟩,?_⟩;rintro n us x y wr ⟨k,rfl,hk,xr,hy,hy0,heq⟩;have hw:=aK (n:=(k:Int)+1) gA;apply Br.mk<;>intro h<;>simp at h
 ·obtain ⟨r,hr⟩:=bq (l:=l) (i:=k) aa;have hd:l.drop k=r::l.drop (k+1):=by
   rw [ue aa];rw [cX aa] at hr
   cases hr;rfl
  rw [hd] at heq;rw [aaK] at heq;refine ⟨lX.jd hs aa,_,_,lX.ll (hs.ext xr) hr,?_⟩;rintro w9 rfl bo rfl;have bE:=((xr.tr (Ext.al _ (.cells #[ai,ai] iB))).setRow xr.size #[r.1,r.2]).drew;have fin:∀w',Ext w w'->(r.1<1\/r.1>y\/cE r.2=false\/(l.take k).getLast?.map (·.2)=some r.2)->Ending.returned (.bool false)=Value.bool (tk cE l m)/\Ext w w':=by intro w' x' hh;rw [if_pos hh] at heq;refine ⟨?_,x'⟩;unfold tk;rw [<-heq];simp
  refine Br.mk (λh1=> ?_) (λh1=>Br.mk (λh2=> ?_) (λh2=> ?_))<;>simp only [cJ,fA] at*
  ·exact fin _ bE (.inl h1)
  ·exact fin _ bE (.inr (.inl h2))
  ·refine (iu r.2 _).mono ?_;rintro e w3 ⟨rfl,x3⟩;have x4:=bE.tr x3;have c9:Row ((wr.alloc (.cells #[ai,ai] iB)).setRow wr.heap.size #[r.1,r.2]).drew wr.heap.size [r.1,r.2] iB:=(Row.new wr [ai,ai] iB).set [r.1,r.2];have hrow3:=c9.ext x3;have hkeep:=x3.heap c9.lt;have hll:ah w3 (aD wr.heap.size) 0 [r.1]:=by
    refine hrow3.bI (o:=0) λj hj=> ?_
    have:j=0:=by simpa using hj
    subst this;rfl
   have nx:((l.take k).getLast?.map (·.2)≠some r.2)->cE r.2=true->∃n6,n6<n/\∃k_1:Nat,aw ((k:Int)+1)=k_1/\k_1+n6=l.length/\Ext w w3/\aw (y-r.1)<=max m 0/\min m 0<=aw (y-r.1)/\xc cE ((l.take k_1).getLast?.map (·.2)) (aw (y-r.1)) (l.drop k_1)=xc cE none m l:=by
    intro hZ hbm;have hwy:=aK (n:=y-r.1) gA;refine ⟨n-1,aa,k+1,aa,aa,x4,aa,aa,?_⟩;rw [hwy];rw [if_neg (by
     rintro (h|h|h|h)
     ·omega
     ·omega
     ·rw [hbm] at h;cases h
     ·exact hZ h)] at heq
    rw [<-heq,dy,hr];simp
   refine ⟨_,rfl,hkeep,hll,hll,Br.mk (λh3=> ?_) (λh3=> ?_)⟩
   ·exact fin _ x4 (.inr (.inr (.inl (by simpa using h3))))
   ·have hbm:cE r.2=true:=by simpa using h3
    apply Br.mk<;>intro h4<;>simp at h4
    ·have Tq:=aK (n:=(k:Int)-1) gA;rw [Tq];obtain ⟨q,hq⟩:=bq (l:=l) (i:=k-1) aa;have oh:=lX.jd hs (i:=k-1) aa;rw [show ((k-1:Nat):Int)=(k:Int)-1 from by omega] at oh;have hcq:=lX.c1 (hs.ext x4) hq;have hsm:=lX.some hs (i:=k-1) aa;rw [show ((k:Int)-1).toNat=k-1 from by omega];have hlast:=hprev k aa;rw [if_neg aa,hq] at hlast;refine ⟨oh,FC.2 ⟨hsm,_,hcq,Br.mk (λh5=> ?_) (λh5=> ?_)⟩⟩
     ·exact fin _ x4 (.inr (.inr (.inr (by rw [hlast];simpa using h5))))
     ·exact nx (by rw [hlast];simpa using h5) hbm
    ·refine nx ?_ hbm;have:k=0:=by omega
     subst this;simp
 ·obtain rfl:k=l.length:=by omega
  rw [List.drop_length] at heq;apply Br.mk<;>intro h1<;>simp at h1
  ·refine ⟨?_,xr⟩;unfold tk;rw [<-heq,decide_eq_true h1];rfl
  ·refine ⟨?_,xr⟩;unfold tk;rw [decide_eq_false aa];rfl
open Tryz
open Go.Code
abbrev je:TypeId:=5
abbrev yv(b:Int):LV:=[.int .u8 b]
abbrev iA(w:World)(s:Sl)(b:List Int):Prop:=RdK w s 1 (b.map yv)
abbrev mh(B:Nat)(w:World)(s:Sl)(b:List Int):Prop:=ar B je 1 w s (b.map yv)
abbrev InY(b:List Int):Prop:=∀c ∈ b,0<=c/\c<256
def mh.Gw{B:Nat}{w:World}{s:Sl}{c:List Int}(h:mh B w s c):iA w s c:=ar.rd h aa
def iA.len{w:World}{s:Sl}{c:List Int}(h:iA w s c):s.n=c.length:=by have:=h.n;simpa using this
def iA.c0{w:World}{s:Sl}{l:List Int}(h:iA w s l){i:Nat}{b:Int}(hi:l[i]? =some b):ld w (af s.a (i*1))=some (.int .u8 b):=by have:=h.rd i (yv b) (by rw [aS,hi];rfl) 0 _ rfl;simpa using this
def iA.jd{w:World}{s:Sl}{l:List Int}(h:iA w s l){i:Nat}(hi:i<l.length):eL s.a (i:Int) s.n:=RdK.jd h aa aa (by have:=iA.len h;omega)
def iA.ll{w:World}{s:Sl}{l:List Int}(h:iA w s l):ah w s.a 0 (l.map (Value.int .u8)):=
 GG λj v hj=>by rw [aS,xE] at hj;obtain ⟨b,hb,rfl⟩:=hj;have:=iA.c0 h hb;simpa using this
def str_inj{b c:List Int}(hb:InY b)(hc:InY c):strOfNums b=strOfNums c ↔ b=c:=by
 refine ⟨λh=> ?_,λh=>by rw [h]⟩;have e:b.map (λn=>UInt8.ofNat n.toNat)=c.map λn=>UInt8.ofNat n.toNat:=by have:=congrArg (λs:ByteArray=>s.data.toList) h;simpa [strOfNums] using this
 clear h
 induction b generalizing c with
 |nil=>cases c with
  |nil=>rfl
  |cons y c=>simp at e
 |cons x b ih=>cases c with
  |nil=>simp at e
  |cons y c=>
   simp only [List.map_cons,List.cons.injEq] at e;have h1:=hb x (.head _);have h2:=hc y (.head _);have h3:=congrArg UInt8.toNat e.1;simp at h3;rw [show x=y from by omega,ih (λq hq=>hb q (.tail _ hq)) (λq hq=>hc q (.tail _ hq)) e.2]
def EZ(s t:Sl)(b c:List Int)(w:World)(hs:iA w s b)(ht:iA w t c)(hb:InY b)(hc:InY c):
  ae 25 #[s,t] w λe w'=>e=Value.bool (decide (b=c))/\w'=w:=by
 apply Up.vc;refine ⟨b,(iA.len hs).symm,iA.ll hs,c,(iA.len ht).symm,iA.ll ht,?_,rfl⟩;have:tR (strOfNums b) (strOfNums c)=decide (b=c):=by rw [Bool.eq_iff_iff,La,str_inj hb hc,decide_eq_true_iff]
 rw [this]
def C3(n:Int)(w:World)(hi:dJ n):
  ae 254 #[n] w λe w'=>∃s:Sl,e=s/\mh w w' s (ja n)/\Ext w w':=by
 apply P3.vc;refine Br.mk (λh=> ?_) (λh=>Br.mk (λh2=> ?_) (λh2=> ?_))<;>simp only [cJ,fA] at*
 ·exact ⟨⟨none,0,0⟩,rfl,by unfold ja;rw [if_pos (.inl h)];exact ar.nil,Ext.cG w⟩
 ·exact ⟨⟨none,0,0⟩,rfl,by unfold ja;rw [if_pos (.inr h2)];exact ar.nil,Ext.cG w⟩
 have e0:ja n=oA 3 n:=by unfold ja;rw [if_neg aa]
 rw [e0];refine ⟨λm x o wr=>∃(k:Nat)(b:List Int),k=m/\1<=k/\k<=3/\0<=x/\x<128 ^ k/\b.length+k=3/\Ext w wr/\mh w wr o b/\b++oA k x=oA 3 n,⟨3,3,[],rfl,aa,aa,aa,aa,rfl,Ext.cG w,ar.nil,rfl⟩,?_⟩;rintro m us x o wr ⟨k,b,rfl,k1,k3,hx0,hx,Jf,xr,ho,heq⟩;have hon:=iA.len (mh.Gw ho);apply Br.mk<;>intro h3<;>simp only [cJ,fA] at h3
 ·obtain ⟨j,rfl⟩:∃j,k=j+1:=⟨k-1,aa⟩;rintro w7 rfl;rw [ap9 x hx0];obtain ⟨hp,bf⟩:=ar.j9 ho (bytes:=1) (news:=yv (128+x % 128)) (.cells #[.int .u8 (128+x % 128)] je) xr.size rfl (vd _ _) aa aa;refine ⟨hp,λs17 dI hr'=> ?_⟩;obtain ⟨k1',ho',_,xb,_,_⟩:=bf s17 dI hr';have aAs:x.fdiv (2 ^(min (7:Int).toNat 64))=x / 128:=by rw [show ((2:Int) ^(min (7:Int).toNat 64))=128 from by decide];exact ud _ aa
  rw [aAs];have hj:1<=j:=by
   rcases Ds j with rfl|h
   ·simp at hx;omega
   ·exact h
  refine ⟨k1',j,aa,j,b++ [128+x % 128],rfl,hj,aa,aa,?_,by simp;omega,xr.trans xb,?_,?_⟩
  ·rw [Int.pow_succ] at hx;omega
  ·show ar _ _ 1 _ _ ((b++ [128+x % 128]).map yv);rw [bJ];exact ho'
  ·rw [<-heq];show _=b++(if x<128 then [x] else (128+x % 128)::oA j (x / 128));rw [if_neg aa];simp
 ·rintro w7 rfl;have hwx:jn x=x:=by rw [wrap_u8];omega
  rw [hwx];obtain ⟨hp,bf⟩:=ar.j9 ho (bytes:=1) (news:=yv x) (.cells #[.int .u8 x] je) xr.size rfl (vd _ _) aa aa;refine ⟨hp,λs17 dI hr'=> ?_⟩;obtain ⟨k1',ho',_,xb,_,_⟩:=bf s17 dI hr';refine ⟨k1',s17,rfl,?_,xr.trans xb⟩;rw [<-heq];obtain ⟨j,rfl⟩:∃j,k=j+1:=⟨k-1,aa⟩;show ar _ _ 1 _ _ ((b++(if x<128 then [x] else (128+x % 128)::oA j (x / 128))).map yv);rw [if_pos aa,bJ];exact ho'
def drop_cons{α:Type}{l:List α}{k:Nat}{c:α}(h:l[k]? =some c):l.drop k=c::l.drop (k+1):=by obtain ⟨h1,h2⟩:=bZ.1 h;rw [ue h1,h2]
def CT(s:Sl)(b:List Int)(w:World)(hs:iA w s b)(hb:InY b)(hc:s.n<=s.c):
  ae 184 #[s] w λe w'=>e=Value.tuple #[.int .i64 (fB b).1,.int .i64 (fB b).2.1,.int .i64 (fB b).2.2]/\w'=w:=by
 have hn:=iA.len hs;apply PX.vc;have em:(if 3<((s.n:Nat):Int) then 3 else ((s.n:Nat):Int))=((min 3 s.n:Nat):Int):=by split<;>omega
 rw [em];refine ⟨aa,aa,?_⟩;refine ⟨λn x y wr=>∃k:Nat,x=k/\k+n=min 3 s.n/\wr=w/\0<=y/\y<128 ^ k/\sj (3-k) k y (b.drop k)=fB b,⟨min 3 s.n,0,rfl,aa,rfl,aa,aa,rfl⟩,?_⟩;rintro n us x y wr ⟨k,rfl,hk,rfl,y0,y1,heq⟩;have hw:=aK (n:=(k:Int)+1) gA;apply Br.mk<;>intro h<;>simp only [cJ,fA] at h
 ·obtain ⟨c,hcb⟩:=bq (l:=b) (i:=k) aa;have hci:=hb c (aO hcb);rw [drop_cons hcb,show 3-k=(2-k)+1 from by omega,tj] at heq;have oh:=iA.jd hs (i:=k) aa;obtain ⟨o1,o2⟩:=ald k aa y c y0 y1 hci.1 hci.2;have hp:=acV k y c y1;have hp0:0<=(128:Int) ^ k:=Int.pow_nonneg aa;have hm0:0<=c % 128*128 ^ k:=GN aa hp0;refine ⟨⟨?_,aa,aa⟩,c,?_,?_⟩
  ·have:=oh.1;unfold aI;split
   ·exact this
   ·rw [Option.isSome_map];exact this
  ·rw [vi];exact iA.c0 hs hcb
  ·rw [o1,hw];refine agR.2 ⟨o2,?_⟩;apply Br.mk<;>intro h1<;>simp only [cJ,fA] at h1
   ·rw [if_pos h1] at heq;exact ⟨n-1,aa,k+1,aa,aa,rfl,aa,hp,by rw [show 3-(k+1)=2-k from by omega];exact heq⟩
   ·rw [if_neg h1] at heq;refine Br.mk (λh2=>Br.mk (λh3=> ?_) (λh3=>Br.mk (λh4=> ?_) (λh4=> ?_))) (λh2=>Br.mk (λh4=> ?_) (λh4=> ?_))<;>simp only [cJ,fA,beq_iff_eq,beq_eq_false_iff_ne] at*
    ·rw [if_pos (.inl ⟨h2,aa⟩)] at heq;exact ⟨by rw [<-heq],by first|rfl|trivial⟩
    ·rw [if_pos (.inr h4)] at heq;exact ⟨by rw [<-heq],by first|rfl|trivial⟩
    ·rw [if_neg aa] at heq;exact ⟨by rw [<-heq],by first|rfl|trivial⟩
    ·rw [if_pos (.inr h4)] at heq;exact ⟨by rw [<-heq],by first|rfl|trivial⟩
    ·rw [if_neg aa] at heq;exact ⟨by rw [<-heq],by first|rfl|trivial⟩
 ·have hkm:k=min 3 s.n:=by omega
  apply Br.mk<;>intro h2<;>simp only [cJ,fA] at h2
  ·have:b.drop k=[]:=List.drop_eq_nil_of_le aa;rw [this,show 3-k=(2-k)+1 from by omega] at heq;exact ⟨by rw [<-heq];rfl,by first|rfl|trivial⟩
  ·rw [show 3-k=0 from by omega] at heq;exact ⟨by rw [<-heq];rfl,by first|rfl|trivial⟩
abbrev aj2(B:Nat)(l:List Rn)(e:Ending)(w':World):Prop:=
 ∃s:Sl,e=Value.tuple #[s,.int .i64 (if okW cE l then 0 else 1)]/\mh B w' s (if okW cE l then lP l else [])
def aat(left:Int)(r:Rn)(t:List Rn):G5 left (r::t)=if r.1<1\/r.1>left then false else G5 (left-r.1) t:=rfl
def EV(s:Sl)(l:List Rn)(w:World)(hs:lX w s l)(hb:l.length<=2000000)(hl:∀r ∈ l,dJ r.1/\dJ r.2):
  ae 190 #[s] w λe w'=>aj2 w l e w'/\Ext w w':=by
 have uT:=lX.len hs;apply Ul.vc;refine ⟨λn x y wr=>∃k:Nat,x=k/\k+n=l.length/\Ext w wr/\0<=y/\y<=1048576/\y=1048576-bt (l.take k)/\G5 y (l.drop k)=G5 1048576 l,⟨l.length,0,rfl,aa,Ext.cG w,aa,aa,rfl,rfl⟩,?_⟩;rintro n us x y wr ⟨k,rfl,hk,xr,y0,y1,hy,heq⟩;have hw:=aK (n:=(k:Int)+1) gA;apply Br.mk<;>intro h<;>simp only [cJ,fA] at h
 ·obtain ⟨r,hr⟩:=bq (l:=l) (i:=k) aa;have hd:=drop_cons hr;rw [hd,aat] at heq;refine ⟨lX.jd hs aa,_,_,lX.ll (hs.ext xr) hr,?_⟩;rintro w9 rfl bo rfl;have bE:=((xr.tr (Ext.al _ (.cells #[ai,ai] iB))).setRow xr.size #[.int .i64 r.1,.int .i64 r.2]);have bad:∀w',Ext w w'->(r.1<1\/r.1>y)->aj2 w l (.returned (.tuple #[.slice none 0 0,(1:Int)])) w'/\Ext w w':=by
   intro w' x' hh;rw [if_pos hh] at heq;have:okW cE l=false:=by unfold okW;rw [<-heq];rfl
   exact ⟨⟨⟨none,0,0⟩,by rw [this];rfl,by rw [this];exact ar.nil⟩,x'⟩
  refine Br.mk (λh1=> ?_) (λh1=>Br.mk (λh2=> ?_) (λh2=> ?_))<;>simp only [cJ,fA] at h1
  ·exact bad _ bE (.inl h1)
  ·replace h2:=nh h2;have xi:=hl r (aO hr);unfold dJ at xi;have Df:=aK (n:=y-r.1) gA;exact bad _ bE (.inr aa)
  ·replace h2:=nC h2;have xi:=hl r (aO hr);unfold dJ at xi;have Df:=aK (n:=y-r.1) gA;rw [if_neg aa] at heq;have e:=qe hr;refine ⟨n-1,aa,k+1,aa,aa,bE,aa,aa,aa,?_⟩;rw [<-heq,Df]
 ·have SY:k=l.length:=by omega
  subst SY;rw [List.drop_length] at heq;rw [jg] at hy;have aua:G5 1048576 l=true:=by rw [<-heq];rfl
  have Dc:=(PK aua).1;refine (rf s l wr (hs.ext xr) (by unfold Bd;omega) (λr hr=>by have:=Dc r hr;omega) aa).mono ?_;rintro e w0 ⟨rfl,x0⟩;refine ⟨_,rfl,(xS s l (bt l) w0 ((hs.ext xr).ext x0) (by unfold Bd;omega) gA).mono ?_⟩;rintro e w1 ⟨rfl,x1⟩;have bc:okW cE l=tk cE l (bt l):=by unfold okW;rw [aua];rfl
  have lg:=(xr.tr x0).tr x1;refine ⟨_,rfl,Br.mk (λh2=> ?_) (λh2=> ?_)⟩
  ·have:okW cE l=false:=by rw [bc];simpa using h2
   exact ⟨⟨⟨none,0,0⟩,by rw [this];rfl,by rw [this];exact ar.nil⟩,lg⟩
  ·have aub:okW cE l=true:=by rw [bc];simpa using h2
   refine ⟨λn x o wr=>∃k:Nat,x=k/\k+n=l.length/\Ext w wr/\mh w wr o (lP (l.take k)),⟨l.length,0,rfl,aa,lg,ar.nil⟩,?_⟩;rintro n2 zF x2 o w2 ⟨j,rfl,hj,x2,ho⟩;have hwj:=aK (n:=(j:Int)+1) gA;apply Br.mk<;>intro h<;>simp only [cJ,fA] at h
   ·obtain ⟨r,hr⟩:=bq (l:=l) (i:=j) aa;have xi:=hl r (aO hr);have hon:=iA.len (mh.Gw ho);have hol:=WD (l.take j);rw [cY] at hol;refine ⟨lX.jd hs aa,_,_,lX.ll (hs.ext x2) hr,?_⟩;rintro gC rfl cZ aoT gx rfl;have eZ:Ext w cZ:=by rw [aoT];exact ((x2.tr (Ext.al _ (.cells #[ai,ai] iB))).setRow x2.size #[.int .i64 r.1,.int .i64 r.2])
    have c9:Row cZ w2 [.int .i64 r.1,.int .i64 r.2] iB:=by rw [aoT];exact (Row.new w2 [ai,ai] iB).set [.int .i64 r.1,.int .i64 r.2]
    have abI:mh w cZ.drew o (lP (l.take j)):=by refine ar.ext (ar.aW ho (w':=cZ) ?_) (Ext.dr _);intro g hg;have:=(ho.own.lt hg).2;rw [aoT,setRow_other _ _ _ _ aa];exact (Ext.al _ _).heap this
    have hlt25:=c9.lt;have xd:=eZ.drew;have hrowd:=c9.ext (Ext.dr cZ);have hz:=m7 cZ;rw [wrap_u8];obtain ⟨hp,bf⟩:=ar.j9 abI (bytes:=1) (news:=yv (r.2 % 256)) (.cells #[.int .u8 (r.2 % 256)] je) xd.size rfl (vd _ _) aa aa;refine ⟨hp,λs27 iY hr'=> ?_⟩;obtain ⟨k1,ho',hn',xb,Om,Jf⟩:=bf s27 iY hr';have nv:Ext w iY:=xd.trans xb;have xg:o.aZ≠some w2.heap.size:=λhb=>absurd (ho.own.lt hb).2 (DC _)
    have auc:iY.heap[w2.heap.size]? =cZ.drew.heap[w2.heap.size]? :=Om _ xg aa;have hrow28:=hrowd.same auc;have hlt28:=hrow28.lt;have hlt28':cZ.drew.heap.size<iY:=by have e:(cZ.drew.alloc (.cells #[.int .u8 (r.2 % 256)] je)).heap[cZ.drew.heap.size]? =some (.cells #[.int .u8 (r.2 % 256)] je (0,0)):=Row.new cZ.drew [.int .u8 (r.2 % 256)] je;rw [<-k1] at e;exact (tQ.1 e).1
    have ll0:∀{w'},Row w' w2 [.int .i64 r.1,.int .i64 r.2] iB->ah w' (aD w2.heap.size) 0 [.int .i64 r.1]:=λhh=>hh.bI (o:=0) λj hj=>by
     have:j=0:=by simpa using hj
     subst this;rfl
    have ll1:∀{w'},Row w' w2 [.int .i64 r.1,.int .i64 r.2] iB->ah w' (fP w2.heap.size 1) 0 [.int .i64 r.2]:=λhh=>hh.bI (o:=1) λj hj=>by
     have:j=0:=by simpa using hj
     subst this;rfl
    refine ⟨?_,k1,ll0 hrow28,ll1 hrow28,(C3 r.1 iY xi.1).mono ?_⟩
    ·rw [auc];symm;exact (Ext.al _ _).heap aa
    rintro e eG ⟨sn,rfl,on,jk⟩;have hnn:=iA.len (mh.Gw on);have hnl:=G6 r.1;have hrow29:=hrow28.ext jk;refine ⟨sn,rfl,jk.heap hlt28,jk.heap hlt28',ll1 hrow29,((ja r.1).map yv).flatten,RdK.flat (mh.Gw on) aa,?_⟩;have ho3:ar w je 1 eG s27 _:=ar.ext ho' jk;obtain ⟨V8,hres2⟩:=ar.Jq ho3 (bytes:=1) (more:=(ja r.1).map yv) (nv.tr jk).size bg (by intro q hq;obtain ⟨c,_,rfl⟩:=aU.1 hq;exact vd _ _) tP tP;rw [aL] at V8 hres2;rw [hnn];refine ⟨V8,λBJ fL oS=> ?_⟩;obtain ⟨ho4,_,xb2,BW,_⟩:=hres2 BJ fL oS;have hZ:s27.aZ≠some w2.heap.size:=by
     rcases Jf with h|h
     ·rw [h];exact xg
     ·rw [h];intro hb;simp at hb;omega
    have hne2:s27.aZ≠some cZ.drew.heap.size:=by
     rcases Jf with h|h
     ·rw [h];intro hb;exact absurd (abI.own.lt hb).2 (DC _)
     ·rw [h];intro hb;simp at hb
    have aud:=BW _ hZ (kr hlt28 jk.size);refine ⟨aud,BW _ hne2 (kr hlt28' jk.size),ll1 (hrow29.same aud),n2-1,aa,j+1,aa,aa,(nv.tr jk).trans xb2,?_⟩;rw [acW hr];show ar _ _ 1 _ _ ((lP (l.take j)++(r.2 % 256::ja r.1)).map yv);rw [bJ,eQ];have:=ho4;rw [fz] at this;exact this
   ·have:j=l.length:=by omega
    subst this;rw [jg] at ho;exact ⟨⟨o,by rw [aub];rfl,by rw [aub];exact ho⟩,x2⟩
def acz(b:List Int):∀r ∈ b.map yv,One r:=by intro q hq;obtain ⟨c,_,rfl⟩:=aU.1 hq;exact vd _ _
abbrev aeM(B:Nat)(p:List Rn × Int)(e:Ending)(w':World):Prop:=
 ∃s:Sl,e=Value.tuple #[s,p.2]/\xD B w' s p.1
def za(may:Int->Bool)(f:Nat)(c:Int)(t:List Int)(n last:Int)(acc:List Rn):kZ may (f+1) (c::t) n last acc=
  if may c=false\/c=last then ([],2)
  else if (fB t).2.2≠0 then ([],(fB t).2.2)
  else if (fB t).1=0\/(fB t).1>n then ([],2)
  else if n-(fB t).1=0 then (if t.drop (fB t).2.1.toNat=[] then (acc++ [((fB t).1,c)],0) else ([],2))
  else kZ may f (t.drop (fB t).2.1.toNat) (n-(fB t).1) c (acc++ [((fB t).1,c)]):=rfl
def aeN{B:Nat}{p:List Rn × Int}{q:Int}{w':World}(h:p=([],q)):aeM B p (.returned (.tuple #[.slice none 0 0,q])) w':=by subst h;exact ⟨⟨none,0,0⟩,rfl,ar.nil⟩
def Ix{may:Int->Bool}:∀(f g:Nat)(b:List Int) {n last:Int} {acc:List Rn} (_:b.length<f) (_:b.length<g),kZ may f b n last acc=kZ may g b n last acc
 |0,_,_,_,_,_,h,_=>by omega
 |_+1,0,_,_,_,_,_,h=>by omega
 |f+1,g+1,[],_,_,_,_,_=>rfl
 |f+1,g+1,c::t,n,last,acc,h1,h2=>by
  rw [za,za]
  have hd:=FK 3 0 0 t aa
  rw [show sj 3 0 0 t=fB t from rfl] at hd
  simp only [bR] at h1 h2
  rw [Ix f g (t.drop (fB t).2.1.toNat) (by rw [A6];omega) (by rw [A6];omega)]
def Iy(s:Sl)(b:List Int)(n:Int)(w:World)(hs:iA w s b)(hb:InY b)(hc:s.n<=s.c)(hl:b.length<=1099511627776)(hn:1<=n)(hn':dJ n):
  ae 134 #[s,n] w λe w'=>aeM w (jZ cE b n) e w'/\Ext w w':=by
 unfold dJ at hn';apply YF.vc;refine ⟨λm s3 last left o wr=>∃(b':List Int)(acc:List Rn),m=b'.length/\iA w s3 b'/\s3.n<=s3.c/\InY b'/\acc.length+b'.length<=b.length/\1<=left/\left<=n/\Ext w wr/\xD w wr o acc/\kZ cE (b'.length+1) b' left last acc=jZ cE b n,⟨b.length,b,[],rfl,hs,hc,hb,bg,hn,aa,Ext.cG w,ar.nil,rfl⟩,?_⟩;rintro m us s3 last left o wr ⟨b',acc,rfl,h3,h3c,hb',aBG,hl1,N6,xr,ho,heq⟩;have hn3:=iA.len h3;apply Br.mk<;>intro h<;>simp only [cJ,fA] at h
 ·obtain ⟨c,t,rfl⟩:∃c t,b'=c::t:=by
   cases b' with
   |nil=>simp at hn3;omega
   |cons c t=>exact ⟨c,t,rfl⟩
  have hci:=hb' c (.head _);have htI:InY t:=λq hq=>hb' q (.tail _ hq)
  simp only [bR] at hn3 aBG;rw [za] at heq;have hwc:=aK (n:=c) gA;have hrt:iA wr ⟨aI s3.a 1 s3.n 1,s3.n-1,s3.n-1⟩ t:=by have:=RdK.rest (h3.ext xr) (l:=1) (m:=s3.n) (n':=s3.n-1) (c':=s3.n-1) (by rw [aL,bR];omega) (λe=>by rw [aL,bR];omega);exact this
  refine ⟨iA.jd h3 (i:=0) bg,c,iA.c0 (h3.ext xr) (i:=0) rfl,?_⟩;rw [hwc];rintro bo rfl bw V6;have bK:Ext w bw:=by rw [V6];exact ((xr.tr (Ext.al _ (.cells #[ai,ai] iB))).setRow xr.size #[ai,.int .i64 c])
  have at1:Ext wr bw:=by rw [V6];exact ((Ext.al wr (.cells #[ai,ai] iB)).setRow (ak _) #[ai,.int .i64 c])
  have c9:Row bw wr [ai,.int .i64 c] iB:=by rw [V6];exact (Row.new wr [ai,ai] iB).set [ai,.int .i64 c]
  have bad:∀{q:Int} {w':World},Ext w w'->jZ cE b n=([],q)->aeM w (jZ cE b n) (.returned (.tuple #[.slice none 0 0,.int .i64 q])) w'/\Ext w w':=λx' e=>⟨aeN e,x'⟩
  refine (iu c bw).mono ?_;rintro e cC ⟨rfl,bW⟩;have kT:=bK.tr bW;have hrow12:=c9.ext bW;refine ⟨_,rfl,bW.heap c9.lt,Br.mk (λh1=> ?_) (λh1=>Br.mk (λh2=> ?_) (λh2=> ?_))⟩
  ·refine bad kT ?_;rw [<-heq,if_pos (.inl (by simpa using h1))]
  ·refine bad kT ?_;rw [<-heq,if_pos (.inr (by simpa using h2))]
  have hm:cE c=true:=by simpa using h1
  have hl':c≠last:=by simpa using h2
  rw [if_neg (by rw [hm];simp [hl'])] at heq;refine ⟨aa,aa,aa,aa,aa,aa,?_⟩;refine (CT ⟨aI s3.a 1 s3.n 1,s3.n-1,s3.n-1⟩ t cC ((hrt.ext at1).ext bW) htI (ak _)).mono ?_;rintro e bH ⟨rfl,rfl⟩;have at2:=FK 3 0 0 t aa;rw [show sj 3 0 0 t=fB t from rfl] at at2;generalize fB t=d at*;obtain ⟨sz,kk,er⟩:=d;simp only at*;refine ⟨_,_,_,rfl,(by first|rfl|trivial),Br.mk (λh3'=> ?_) (λh3'=> ?_)⟩
  ·refine bad kT ?_;rw [<-heq,if_pos (by simpa using h3')]
  have her:er=0:=by simpa using h3'
  subst her;have hd:=at2 rfl;rw [if_neg bg] at heq;refine Br.mk (λh4=> ?_) (λh4=>Br.mk (λh5=> ?_) (λh5=> ?_))<;>simp only [beq_iff_eq,beq_eq_false_iff_ne,cJ,fA] at h4
  ·refine bad kT ?_;rw [<-heq,if_pos (.inl h4)]
  ·replace h5:=nh h5;refine bad kT ?_;rw [<-heq,if_pos (.inr h5)]
  replace h5:=nC h5;rw [if_neg aa] at heq;have hwl:=aK (n:=left-sz) gA;have Tq:=aK (n:=1+kk) gA;rw [hwl,Tq];rintro dI agc;have dc:Ext w dI:=by rw [agc];exact kT.setRow xr.size _
  have aji:xD w bH o acc:=ar.ext ho (at1.tr bW);have at4:xD w dI.drew o acc:=by refine ar.ext (ar.aW aji (w':=dI) ?_) (Ext.dr _);intro g hg;have:=(ho.own.lt hg).2;rw [agc,setRow_other _ _ _ _ aa]
  have hlt18:wr.heap.size<dI:=by rw [agc,setRow_size];exact hrow12.lt
  have xd:=dc.drew;have hz:=m7 dI;have hon:=lX.len at4.Jb;refine ⟨aa,aa,?_⟩;rintro fK rfl;obtain ⟨hp,bf⟩:=ar.j9 at4 (bytes:=16) (news:=rv (sz,c)) (.cells #[sz,.int .i64 c] iB) xd.size rfl (B9 _ _ _ _) aa aa;refine ⟨hp,λxZ dU hr'=> ?_⟩;obtain ⟨k1,ho',_,xb,Om,_⟩:=bf xZ dU hr';have eO:Ext w dU:=xd.trans xb;have at5:xD w dU xZ (acc++ [(sz,c)]):=by show ar _ _ 2 _ _ ((acc++ [(sz,c)]).map rv);rw [bJ];exact ho'
  have hkeep:dU.heap[wr.heap.size]? =(dI.drew.alloc (.cells #[sz,.int .i64 c] iB)).heap[wr.heap.size]? :=by rw [Om _ (λhb=>absurd (ho.own.lt hb).2 (DC _)) aa];symm;exact (Ext.al _ _).heap aa
  have Tr:(t.drop kk.toNat).length=t.length-kk.toNat:=A6;refine ⟨hkeep,k1,Br.mk (λh6=>Br.mk (λh7=> ?_) (λh7=>Br.mk (λh8=> ?_) (λh8=> ?_))) (λh6=> ?_)⟩<;>simp only [beq_iff_eq,beq_eq_false_iff_ne] at h6
  ·simp only [cJ] at h7;omega
  ·replace h8:=nh h8;rw [if_pos h6,if_neg (by intro e;rw [e] at Tr;simp at Tr;omega)] at heq;exact bad eO heq.symm
  ·replace h8:=nC h8;rw [if_pos h6,if_pos (Dw aa)] at heq;refine ⟨⟨xZ,by rw [<-heq],by rw [<-heq];exact at5⟩,eO⟩
  ·rw [if_neg h6] at heq;have hrest:=RdK.rest h3 (l:=(1+kk).toNat) (m:=s3.c) (n':=s3.n-(1+kk).toNat) (c':=s3.c-(1+kk).toNat) (by rw [aL,bR];omega) (λe=>by rw [aL,bR];omega);rw [show (1+kk).toNat=kk.toNat+1 from by omega,eQ,List.drop_succ_cons,<-List.map_drop] at hrest;rw [show (1+kk).toNat=kk.toNat+1 from by omega];refine ⟨(t.drop kk.toNat).length,by simp only [bR];omega,t.drop kk.toNat,acc++ [(sz,c)],rfl,hrest,by show s3.n-(kk.toNat+1)<=s3.c-(kk.toNat+1);omega,λq hq=>htI q (Ar hq),by simp only [bQ,bR,lV];omega,aa,aa,eO,at5,?_⟩;rw [<-heq];exact Ix _ _ _ aa (by simp only [bR];omega)
 ·have:b'=[]:=Dw aa;subst this;have e:jZ cE b n=([],3):=by rw [<-heq];show (if left>0 then ([],3) else (acc,0))=_;rw [if_pos aa]
  refine Br.mk (λ_=>⟨aeN e,xr⟩) (λh2=> ?_);replace h2:=nC h2;omega
def ar.le{B E k:Nat}{w:World}{s:Sl}{rows:List (LV)}(h:ar B E k w s rows):s.n<=s.c:=by
 have ho:=h.own;generalize rows.flatten=xs at ho
 cases ho with
 |nil=>exact ak _
 |row g n c cs hg hr hc hn=>exact hn
def R1{b:List Int}{n:Int}(hb:InY b)(hn:1<=n)(h:(jZ cE b n).2=0):lP (jZ cE b n).1=b/\iO cE (-1) (jZ cE b n).1/\bt (jZ cE b n).1=n:=by obtain ⟨l,e1,e2,e3,e4,_⟩:=Ei (may:=cE) (b.length+1) b n (-1) [] hb hn h;rw [Pn] at e1;have e:jZ cE b n=kZ cE (b.length+1) b n (-1) []:=rfl;rw [e,e1];exact ⟨e2,e3,e4⟩
def Zb{l:List Rn}{last:Int}(h:iO cE last l):∀r ∈ l,dJ r.1/\dJ r.2:=by intro r hr;have:=h.mem r hr;unfold Go.Vc.dJ;omega
def aao{g:List Rn}(hF:iO cE (-1) g)(hZ:g≠ []):jZ cE (lP g) (bt g)=(g,0):=by have:=LM (may:=cE) g ((lP g).length+1) [] (-1) [] hF hZ bg;rw [mA,if_pos rfl] at this;exact this
end Go.Proofs.YtkkkfkopcfdmaaaGreatDoor
