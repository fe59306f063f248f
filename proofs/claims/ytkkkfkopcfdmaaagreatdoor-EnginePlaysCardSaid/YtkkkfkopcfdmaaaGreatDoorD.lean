import Derived.Test.YtkkkfkopcfdmaaaGreatDoorC
set_option linter.all false
namespace Go.bf
open Go Go.Vc
abbrev Rn:=Int × Int
def cA (l:List Rn):List Int:=l.flatMap λr=>List.replicate r.1.toNat r.2
def ja (out:List Rn) (r:Rn):List Rn:=
 if r.1<1 then out else
 match out.getLast? with
 |some q=>if q.2=r.2 then out.dropLast++ [(q.1+r.1,q.2)] else out++ [r]
 |none=>out++ [r]
def gK (c:List Int):List Rn:=c.foldl (λo b=>ja o (1,b)) []
def bQ (l:List Rn):Int:=(l.map (·.1)).sum
inductive Nm:List Rn->Prop
 |nil:Nm []
 |snoc (l:List Rn) (r:Rn) (h:Nm l) (h1:1<=r.1) (h2:∀q,l.getLast? =some q->q.2≠r.2):Nm (l++ [r])
theorem kY {o:List Rn} {r:Rn} (h:r.1<1):ja o r=o:=by unfold ja;rw [if_pos h]
theorem jT {l:List Rn} {q r:Rn} (h1:1<=r.1) (e:q.2=r.2):ja (l++ [q]) r=l++ [(q.1+r.1,q.2)]:=by
 unfold ja;have hl:(l++ [q]).getLast? =some q:=by simp
 rw [if_neg aa,hl];simp [e]
theorem gk {l:List Rn} {r:Rn} (h1:1<=r.1) (h2:∀q,l.getLast? =some q->q.2≠r.2):ja l r=l++ [r]:=by
 unfold ja;rw [if_neg aa];split
 ·rename_i q hq;rw [if_neg (h2 q hq)]
 ·rfl
theorem vW (l:List Rn):l=[]\/∃m q,l=m++ [q]:=by
 rcases List.eq_nil_or_concat l with h|⟨m,q,h⟩
 ·exact .inl h
 ·exact .inr ⟨m,q,by simpa using h⟩
theorem Uz (o:List Rn) {a c b:Int} (ha:1<=a) (hc:1<=c):ja (ja o (a,b)) (c,b)=ja o (a+c,b):=by
 have hac:1<=a+c:=by omega
 rcases vW o with rfl|⟨m,q,rfl⟩
 ·rw [gk (l:=[]) (r:=(a,b)) ha bt,gk (l:=[]) (r:=(a+c,b)) hac bt,jT (q:=(a,b)) (r:=(c,b)) hc rfl]
 ·by_cases e:q.2=b
  ·rw [jT (r:=(a,b)) ha e,jT (r:=(a+c,b)) hac e,jT (q:=(q.1+a,q.2)) (r:=(c,b)) hc e];simp [Int.add_assoc]
  ·have h2:∀x:Int,∀p,(m++ [q]).getLast? =some p->p.2≠((x,b):Rn).2:=by intro x p hp;simp at hp;subst hp;exact e
   rw [gk (r:=(a,b)) ha (h2 a),gk (r:=(a+c,b)) hac (h2 _),jT (q:=(a,b)) (r:=(c,b)) hc rfl]
theorem LJ (o:List Rn) (b:Int):∀n:Nat,(List.replicate n b).foldl (λo b=>ja o (1,b)) o=ja o ((n:Int),b)
 |0=>by rw [kY bt];rfl
 |n+1=>by
  rw [List.replicate_succ',List.foldl_append,LJ o b n]
  show ja (ja o ((n:Int),b)) (1,b)=_
  rcases Nat.eq_zero_or_pos n with rfl|hn
  ·rw [kY (r:=(((0:Nat):Int),b)) bt];rfl
  ·rw [Uz o aa aa];rfl
theorem acD (c d:List Int):gK (c++d)=d.foldl (λo b=>ja o (1,b)) (gK c):=by unfold gK;rw [List.foldl_append]
theorem LG (c:List Int) (r:Rn):ja (gK c) r=gK (c++List.replicate r.1.toNat r.2):=by
 rw [acD,LJ];rcases Int.lt_or_le r.1 1 with h|h
 ·rw [kY h,kY (by show ((r.1.toNat:Nat):Int)<1;omega)]
 ·rw [show ((r.1.toNat:Nat):Int)=r.1 from by omega]
theorem Nm.push {o:List Rn} (h:Nm o) (r:Rn):Nm (ja o r):=by
 rcases Int.lt_or_le r.1 1 with h1|h1
 ·rw [kY h1];exact h
 ·cases h with
  |nil=>rw [gk h1 bt];exact .snoc _ _ .nil h1 bt
  |snoc l q hl hq h2=>
   by_cases e:q.2=r.2
   ·rw [jT h1 e];exact .snoc _ _ hl (by show 1<=q.1+r.1;omega) h2
   ·have h3:∀p,(l++ [q]).getLast? =some p->p.2≠r.2:=by intro p hp;simp at hp;subst hp;exact e
    rw [gk h1 h3];exact .snoc _ _ (.snoc _ _ hl hq h2) h1 h3
theorem DM (c:List Int):Nm (gK c):=by
 have:∀(c:List Int) (o:List Rn),Nm o->Nm (c.foldl (λo b=>ja o (1,b)) o):=by
  intro c
  induction c with
  |nil=>intro o h;exact h
  |cons b c ih=>intro o h;exact ih _ (h.push _)
 exact this c [] .nil
theorem gG (l m:List Rn):cA (l++m)=cA l++cA m:=by unfold cA;rw [List.flatMap_append]
theorem iH (r:Rn):cA [r]=List.replicate r.1.toNat r.2:=by simp [cA]
theorem Nm.fix {l:List Rn} (h:Nm l):gK (cA l)=l:=by
 induction h with
 |nil=>rfl
 |snoc l r hl h1 h2 ih=>
  rw [gG,iH,<-LG,ih,gk h1 h2]
theorem Nm.pos {l:List Rn} (h:Nm l):∀r ∈ l,1<=r.1:=by
 induction h with
 |nil=>simp
 |snoc l r hl h1 h2 ih=>
  intro q hq;rcases dR.1 hq with hq|hq
  ·exact ih q hq
  ·simp at hq;rw [hq];exact h1
theorem PQ {o:List Rn} (h:Nm o) (r:Rn):cA (ja o r)=cA o++List.replicate r.1.toNat r.2:=by
 rcases Int.lt_or_le r.1 1 with h1|h1
 ·rw [kY h1,show r.1.toNat=0 from by omega];simp
 ·cases h with
  |nil=>rw [gk h1 bt,gG,iH]
  |snoc l q hl hq h2=>
   by_cases e:q.2=r.2
   ·rw [jT h1 e,gG,gG,iH,iH];show _++List.replicate (q.1+r.1).toNat q.2=_;rw [show (q.1+r.1).toNat=q.1.toNat+r.1.toNat from by omega,<-List.replicate_append_replicate,e];simp
   ·rw [gk h1 (by intro p hp;simp at hp;subst hp;exact e),gG,iH]
theorem nk (c:List Int):cA (gK c)=c:=by
 have:∀(c:List Int) (o:List Rn),Nm o->cA (c.foldl (λo b=>ja o (1,b)) o)=cA o++c:=by
  intro c
  induction c with
  |nil=>intro o h;simp
  |cons b c ih=>intro o h;rw [List.foldl_cons,ih _ (h.push _),PQ h];simp
 rw [gK,this c [] .nil];rfl
theorem LK (l m:List Rn):bQ (l++m)=bQ l+bQ m:=by simp [bQ]
theorem eT {l:List Rn} (h:∀r ∈ l,0<=r.1):bQ l=((cA l).length:Nat):=by
 induction l with
 |nil=>rfl
 |cons r l ih=>
  have:=ih λq hq=>h q (.tail _ hq)
  have hr:=h r (.head _);simp only [bQ,fT,List.sum_cons] at this ⊢;rw [this];simp [cA];omega
theorem lN (c:List Int):bQ (gK c)=(c.length:Nat):=by rw [eT λr hr=>by have:=(DM c).pos r hr;omega,nk]
theorem Nm.afS {l:List Rn} (h:Nm l):l.length<=(cA l).length:=by
 induction h with
 |nil=>simp
 |snoc l r hl h1 h2 ih=>rw [gG,iH];simp;omega
theorem qJ (c:List Int):(gK c).length<=c.length:=by have:=(DM c).afS;rwa [nk] at this
end Go.bf
namespace Go.bf
theorem acE {l:List Rn} (h:∀r ∈ l,0<=r.1) {q:Rn} (hq:q ∈ l):q.1<=bQ l:=by
 induction l with
 |nil=>cases hq
 |cons r l ih=>
  have hr:=h r (.head _);have hl:0<=bQ l:=by rw [eT λq hq=>h q (.tail _ hq)];omega
  have e:bQ (r::l)=r.1+bQ l:=by simp [bQ]
  rw [e];rcases cH.1 hq with rfl|hq
  ·omega
  ·have:=ih (λq hq=>h q (.tail _ hq)) hq;omega
theorem mR {c:List Int} {q:Rn} (hq:q ∈ gK c):1<=q.1/\q.1<=(c.length:Nat):=by have h:=(DM c).pos;refine ⟨h q hq,?_⟩;rw [<-lN];exact acE (λr hr=>by have:=h r hr;omega) hq
def Gh (c:List Int) (a b:Int):List Int:=(c.take b.toNat).drop a.toNat
theorem Ys (c:List Int) (n:Nat) (x a b:Int) (ha:0<=a) (hb:0<=b):
  Gh (c++List.replicate n x) a b=Gh c a b++List.replicate (min b (c.length+n:Nat)-max a (c.length:Nat)).toNat x:=by
 unfold Gh;rw [List.take_append,List.drop_append,List.take_replicate,List.drop_replicate,dC];congr 2;omega
end Go.bf
namespace Go.bf
def xY (c:List Int) (a b x:Int):List Int:=c.mapIdx λi y=>if a<=(i:Int)/\(i:Int)<b then x else y
theorem UA (c:List Int) (a b x:Int):(xY c a b x).length=c.length:=by simp [xY]
theorem PR (c:List Int) (a b x:Int) (h:min (max b 0) (c.length:Int)<=min (max a 0) (c.length:Int)):xY c a b x=c:=by
 apply iX;intro i;unfold xY;rw [List.getElem?_mapIdx];rcases Nat.lt_or_ge i c.length with hi|hi
 ·rw [c8 hi];show some (if _ then x else _)=_;rw [if_neg aa]
 ·rw [jt hi];rfl
theorem Hz (c:List Int) (a b x:Int) (h:min (max a 0) (c.length:Int)<min (max b 0) (c.length:Int)):
  xY c a b x=Gh c 0 (min (max a 0) (c.length:Int))++List.replicate (min (max b 0) (c.length:Int)-min (max a 0) (c.length:Int)).toNat x++Gh c (min (max b 0) (c.length:Int)) c.length:=by
 have h1:(Gh c 0 (min (max a 0) (c.length:Int))).length=(min (max a 0) (c.length:Int)).toNat:=by unfold Gh;simp;omega
 apply iX;intro i;unfold xY;rw [List.getElem?_mapIdx,gO];rcases Nat.lt_or_ge i c.length with hi|hi
 ·rw [c8 hi];show some (if _ then x else _)=_;rcases Nat.lt_or_ge i (min (max a 0) (c.length:Int)).toNat with hl|hl
  ·rw [if_neg aa,nE aa];unfold Gh;rw [List.getElem?_drop,List.getElem?_take];simp only [Int.toNat_zero,eB];rw [if_pos hl,c8 hi]
  ·rw [oK aa,h1];rcases Nat.lt_or_ge i (min (max b 0) (c.length:Int)).toNat with hm|hm
   ·rw [if_pos aa,nE (by rw [D7];omega),Yt,if_pos aa]
   ·rw [if_neg aa,oK (by rw [D7];omega),D7];unfold Gh;rw [List.getElem?_drop,List.getElem?_take,if_pos aa];rw [show (min (max b 0) (c.length:Int)).toNat+(i-(min (max a 0) (c.length:Int)).toNat-(min (max b 0) (c.length:Int)-min (max a 0) (c.length:Int)).toNat)=i from by omega];rw [c8 hi]
 ·rw [jt hi];symm;rw [Option.map_none,jt];simp only [dc,D7,h1];unfold Gh;simp;omega
theorem UB (c:List Int) (i x:Int) (h0:0<=i) (h1:i<(c.length:Int)):xY c i (i+1) x=c.set i.toNat x:=by
 apply iX;intro j;unfold xY;rw [List.getElem?_mapIdx,kG];rcases Nat.lt_or_ge j c.length with hj|hj
 ·rw [c8 hj];show some (if _ then x else _)=_;by_cases e:i.toNat=j
  ·rw [if_pos aa,if_pos e,if_pos aa]
  ·rw [if_neg aa,if_neg e]
 ·rw [jt hj,if_neg aa];rfl
def atC (c:List Int) (i:Int):Int:=if i<0 then -1 else c.getD i.toNat (-1)
theorem acF (c:List Int) (i:Int) (h:i<0\/(c.length:Int)<=i):atC c i= -1:=by
 unfold atC;split
 ·rfl
 ·rw [eA,jt aa];rfl
theorem afT (c d:List Int) (n:Nat) (x i:Int) (h0:(c.length:Int)<=i) (h1:i<(c.length:Int)+n):atC (c++List.replicate n x++d) i=x:=by unfold atC;rw [if_neg aa,eA,gO,oK aa,nE (by rw [D7];omega),Yt,if_pos aa];rfl
def uN (may:Int->Bool):Option Int->Int->List Rn->Bool
 |_,left,[]=>left==0
 |prev,left,r::t=>if r.1<1\/r.1>left\/may r.2=false\/prev=some r.2 then false else uN may (some r.2) (left-r.1) t
def qN (may:Int->Bool) (l:List Rn) (n:Int):Bool:=decide (0<n) && uN may none n l
theorem LL {may:Int->Bool}:∀{l:List Rn} {prev:Option Int} {left:Int},uN may prev left l=true->bQ l=left
 | [],_,left,h=>by simp [uN] at h;rw [h];rfl
 |r::t,prev,left,h=>by
  unfold uN at h
  split at h
  ·cases h
  ·have:=LL h
   simp only [bQ,fT,List.sum_cons] at this ⊢
   omega
theorem zH {may:Int->Bool}:∀{l:List Rn} {prev:Option Int} {left:Int},(∀r ∈ l,1<=r.1/\may r.2=true)->(∀i q r,l[i]? =some q->l[i+1]? =some r->q.2≠r.2)->(∀r,l.head? =some r->prev≠some r.2)->bQ l=left->uN may prev left l=true
 | [],_,left,_,_,_,h=>by simp [uN,<-h,bQ]
 |r::t,prev,left,h1,h2,h3,h=>by
  have hr:=h1 r (.head _)
  have ht:0<=bQ t:=by rw [eT λq hq=>by have:=h1 q (.tail _ hq);omega];omega
  have e:bQ (r::t)=r.1+bQ t:=by simp [bQ]
  unfold uN;rw [if_neg (by
   have:=h3 r rfl;rintro (h|h|h|h)
   ·omega
   ·omega
   ·rw [hr.2] at h;cases h
   ·exact this h)]
  refine zH (λq hq=>h1 q (.tail _ hq)) (λi q s hq hs=>h2 (i+1) q s (by simpa using hq) (by simpa using hs)) (λq hq=> ?_) aa;have:=h2 0 r q rfl (by cases t<;>simp_all);intro e2;exact this (Option.some.inj e2)
theorem Nm.next {l:List Rn} (h:Nm l):∀i q r,l[i]? =some q->l[i+1]? =some r->q.2≠r.2:=by
 induction h with
 |nil=>intro i q r h;simp at h
 |snoc l p hl h1 h2 ih=>
  intro i q r hq hr;rcases Nat.lt_or_ge (i+1) l.length with gW|QG
  ·rw [nE aa] at hq hr;exact ih i q r hq hr
  ·have hi:=(cR.1 hr).1;simp at hi;have:i+1=l.length:=by omega
   rw [nE aa] at hq;rw [oK aa,this] at hr;simp at hr;subst hr;refine h2 q ?_;rw [List.getLast?_eq_getElem?,show l.length-1=i from by omega];exact hq
theorem Ui {l:List Rn} {r:Rn} (h:r ∈ l) (h1:1<=r.1):r.2 ∈ cA l:=by unfold cA;refine List.mem_flatMap.2 ⟨r,h,?_⟩;rw [Xc];exact ⟨by omega,rfl⟩
end Go.bf
namespace Go.bf
end Go.bf
namespace Go.Code
open Go Go.Vc Go.bf
def uH:Nat->Int->List Int
 |0,_=> []
 |k+1,x=>if x<128 then [x] else (128+x % 128)::uH k (x / 128)
def o5 (n:Int):List Int:=if n<0\/n>1048576 then [] else uH 3 n
def qM:Nat->Nat->Int->List Int->Int × Int × Int
 |0,_,_,_=>(0,0,2)
 |_+1,_,_,[]=>(0,0,3)
 |k+1,i,n,c::t=>if c>=128 then qM k (i+1) (n+c % 128*128 ^ i) t
  else if (c=0/\0<i)\/n+c % 128*128 ^ i>1048576 then (0,0,2) else (n+c % 128*128 ^ i,(i:Int)+1,0)
def fi (b:List Int):Int × Int × Int:=qM 3 0 0 b
theorem wrap_u8 (x:Int):eV x=x % 256:=by unfold IntKind.wrap;simp [IntKind.bits,IntKind.signed]
theorem ai2 (x:Int) (h:0<=x):Kl .u8 (eV x) 128=128+x % 128:=by
 rw [wrap_u8];have key:∀a<256,Kl .u8 ((a:Nat):Int) 128=128+((a:Nat):Int) % 128:=by decide+kernel
 have:=key (x % 256).toNat aa;rw [show (((x % 256).toNat:Nat):Int)=x % 256 from by omega] at this;rw [this];omega
theorem TD (c:Int) (h:0<=c) (h':c<256):lj .u8 c 128=c % 128:=by
 have key:∀a<256,lj .u8 ((a:Nat):Int) 128=((a:Nat):Int) % 128:=by decide+kernel
 have:=key c.toNat aa;rwa [show ((c.toNat:Nat):Int)=c from by omega] at this
theorem afy (n c k:Nat) (h:n<2 ^ k) (hb:n+c*2 ^ k<4611686018427387904):Kl .i64 (n:Int) ((c*2 ^ k:Nat):Int)=((n+c*2 ^ k:Nat):Int):=by
 unfold Kl;have e1:∀m:Nat,m<4611686018427387904->(BitVec.ofInt IntKind.i64.bits (m:Int)).toNat=m:=by intro m hm;rw [BitVec.toNat_ofInt];show ((m:Int) %((2 ^ 64:Nat):Int)).toNat=m;rw [show ((2 ^ 64:Nat):Int)=18446744073709551616 from by decide];omega
 rw [BitVec.toNat_or,e1 n aa,e1 _ aa,Nat.or_comm];have:=Nat.shiftLeft_add_eq_or_of_lt h c;rw [Nat.shiftLeft_eq] at this;rw [<-this,Nat.add_comm];exact wI
end Go.Code
namespace Go.Code
open Go Go.Vc Go.bf
theorem afz (k:Nat) (hk:k<3) (n c:Int) (h0:0<=n) (h1:n<128 ^ k) (hc:0<=c) (hc':c<256):
  Kl .i64 n (aj ((aj (lj .u8 c 128))*2 ^(min ((aj (7*(k:Int))):Int).toNat 64)))=n+c % 128*128 ^ k/\0<=aj (7*(k:Int)):=by
 have hw:=aK (n:=7*(k:Int)) (by unfold bS;omega);rw [hw,TD c hc hc',aK (n:=c % 128) (by unfold bS;omega)];refine ⟨?_,by omega⟩;have e:((2:Int) ^(min ((7*(k:Int)):Int).toNat 64))=128 ^ k:=by
  have:k=0\/k=1\/k=2:=by omega
  rcases this with rfl|rfl|rfl<;>decide
 rw [e];have hp:(128:Int) ^ k<=16384/\1<=(128:Int) ^ k:=by
  have:k=0\/k=1\/k=2:=by omega
  rcases this with rfl|rfl|rfl<;>decide
 have hm:c % 128*128 ^ k<=127*16384:=by
  have:k=0\/k=1\/k=2:=by omega
  rcases this with rfl|rfl|rfl<;>simp<;>omega
 have hm0:0<=c % 128*128 ^ k:=Int.mul_nonneg aa aa;rw [aK (n:=c % 128*128 ^ k) (by unfold bS;omega)];have e7:((2 ^(7*k):Nat):Int)=128 ^ k:=by
  have:k=0\/k=1\/k=2:=by omega
  rcases this with rfl|rfl|rfl<;>decide
 have e2:c % 128*128 ^ k=(((c % 128).toNat*2 ^(7*k):Nat):Int):=by rw [Int.natCast_mul,e7,show (((c % 128).toNat:Nat):Int)=c % 128 from by omega]
 have:=afy n.toNat (c % 128).toNat (7*k) (by
  have:((n.toNat:Nat):Int)<((2 ^(7*k):Nat):Int):=by rw [e7];omega
  omega) (by
  have:(((c % 128).toNat*2 ^(7*k):Nat):Int)<=127*16384:=by rw [<-e2];exact hm
  omega)
 rw [e2,show n=((n.toNat:Nat):Int) from by omega];rw [this];simp
theorem xC {k j:Nat} {n c:Int} {t:List Int}:qM (j+1) k n (c::t)=if c>=128 then qM j (k+1) (n+c % 128*128 ^ k) t
   else if (c=0/\0<k)\/n+c % 128*128 ^ k>1048576 then (0,0,2) else (n+c % 128*128 ^ k,(k:Int)+1,0):=rfl
theorem XA (k:Nat) (n c:Int) (h1:n<128 ^ k):n+c % 128*128 ^ k<128 ^(k+1):=by have hp:0<=(128:Int) ^ k:=Int.pow_nonneg aa;have:c % 128*128 ^ k<=127*128 ^ k:=Int.mul_le_mul_of_nonneg_right aa hp;rw [Int.pow_succ];omega
end Go.Code
namespace Go.Code
open Go Go.Vc Go.bf
def Dt:Int->List Rn->Bool
 |_,[]=>true
 |left,r::t=>if r.1<1\/r.1>left then false else Dt (left-r.1) t
theorem KQ:∀{l:List Rn} {left:Int},Dt left l=true->(∀r ∈ l,1<=r.1)/\(l≠ []->bQ l<=left)
 | [],_,_=>⟨by simp,λh=>absurd rfl h⟩
 |r::t,left,h=>by
  unfold Dt at h
  split at h
  ·cases h
  ·obtain ⟨h1,h2⟩:=KQ h
   refine ⟨λq hq=> ?_,λ_=> ?_⟩
   ·rcases cH.1 hq with rfl|hq
    ·omega
    ·exact h1 q hq
   ·have e:bQ (r::t)=r.1+bQ t:=by simp [bQ]
    by_cases ht:t=[]
    ·subst ht;rw [e];simp [bQ];omega
    ·have:=h2 ht;omega
def okW (may:Int->Bool) (l:List Rn):Bool:=Dt 1048576 l && qN may l (bQ l)
def qI (l:List Rn):List Int:=l.flatMap λr=>r.2 % 256::o5 r.1
theorem ab2 (l m:List Rn):qI (l++m)=qI l++qI m:=by unfold qI;rw [List.flatMap_append]
theorem XB {l:List Rn} {k:Nat} {r:Rn} (hr:l[k]? =some r):qI (l.take (k+1))=qI (l.take k)++(r.2 % 256::o5 r.1):=by rw [dE,hr,ab2];simp [qI]
theorem KR:∀(k:Nat) (x:Int),(uH k x).length<=k
 |0,_=>by simp [uH]
 |k+1,x=>by
  unfold uH
  split
  ·simp
  ·have:=KR k (x / 128);simp;omega
theorem KS (n:Int):(o5 n).length<=3:=by
 unfold o5;split
 ·simp
 ·exact KR 3 n
theorem RG (l:List Rn):(qI l).length<=4*l.length:=by
 induction l with
 |nil=>simp [qI]
 |cons r l ih=>
  have:=KS r.1;unfold qI at ih ⊢;rw [List.flatMap_cons,dc,dv,dv];omega
theorem RL:∀(k:Nat) (x:Int),0<=x->∀c ∈ uH k x,0<=c/\c<256
 |0,_,_,c,h=>by simp [uH] at h
 |k+1,x,hx,c,h=>by
  unfold uH at h
  split at h
  ·simp at h;omega
  ·rcases cH.1 h with rfl|h
   ·omega
   ·exact RL k (x / 128) aa c h
theorem ab3 (n:Int):∀c ∈ o5 n,0<=c/\c<256:=by
 intro c h;unfold o5 at h;split at h
 ·simp at h
 ·exact RL 3 n aa c h
theorem afu (l:List Rn):∀c ∈ qI l,0<=c/\c<256:=by
 intro c h;unfold qI at h;obtain ⟨r,_,hc⟩:=List.mem_flatMap.1 h;rcases cH.1 hc with rfl|hc
 ·omega
 ·exact ab3 r.1 c hc
end Go.Code
namespace Go.Code
open Go Go.Vc Go.bf
end Go.Code
namespace Go.Code
open Go Go.Vc Go.bf
theorem Hh:∀{l:List Rn} {left:Int},(∀r ∈ l,1<=r.1)->bQ l<=left->Dt left l=true
 | [],_,_,_=>rfl
 |r::t,left,h,hs=>by
  have e:bQ (r::t)=r.1+bQ t:=by simp [bQ]
  have h1:=h r (.head _);have ht:0<=bQ t:=by rw [eT λq hq=>by have:=h q (.tail _ hq);omega];omega
  unfold Dt;rw [if_neg aa];exact Hh (λq hq=>h q (.tail _ hq)) aa
theorem afA {may:Int->Bool} {l:List Rn} (h:Nm l) (hm:∀r ∈ l,may r.2=true) (hs:bQ l<=1048576) (jb:l≠ []):okW may l=true:=by
 unfold okW;rw [Hh h.pos hs];unfold qN;have hp:0<bQ l:=by
  cases l with
  |nil=>exact absurd rfl jb
  |cons r t=>
   have e:bQ (r::t)=r.1+bQ t:=by simp [bQ]
   have h1:=h.pos r (.head _);have ht:0<=bQ t:=by rw [eT λq hq=>by have:=h.pos q (.tail _ hq);omega];omega
   omega
 rw [decide_eq_true hp,zH (λr hr=>⟨h.pos r hr,hm r hr⟩) h.next (λr _=>by simp) rfl];rfl
end Go.Code
namespace Go.Code
open Go Go.Vc Go.bf
def mD (may:Int->Bool):Nat->List Int->Int->Int->List Rn->List Rn × Int
 |0,_,_,_,_=>([],3)
 |_+1,[],n,_,acc=>if n>0 then ([],3) else (acc,0)
 |f+1,c::t,n,last,acc=>
  if may c=false\/c=last then ([],2)
  else if (fi t).2.2≠0 then ([],(fi t).2.2)
  else if (fi t).1=0\/(fi t).1>n then ([],2)
  else if n-(fi t).1=0 then (if t.drop (fi t).2.1.toNat=[] then (acc++ [((fi t).1,c)],0) else ([],2))
  else mD may f (t.drop (fi t).2.1.toNat) (n-(fi t).1) c (acc++ [((fi t).1,c)])
def iZ (may:Int->Bool) (b:List Int) (n:Int):List Rn × Int:=mD may (b.length+1) b n (-1) []
theorem Cr:∀(k i:Nat) (m:Int) (b:List Int),0<=m->(qM k i m b).2.2=0->0<=(qM k i m b).1/\(qM k i m b).1<=1048576/\(i:Int)+1<=(qM k i m b).2.1/\(qM k i m b).2.1<=(i:Int)+b.length
 |0,_,_,_,_,h=>by simp [qM] at h
 |k+1,i,m,[],_,h=>by simp [qM] at h
 |k+1,i,m,c::t,h0,h=>by
  have hp:0<=c % 128*128 ^ i:=Int.mul_nonneg aa (Int.pow_nonneg aa)
  rw [xC] at h ⊢
  split
  ·rename_i hc
   rw [if_pos hc] at h
   have:=Cr k (i+1) _ t aa h
   simp only [dv]
   omega
  ·rename_i hc
   rw [if_neg hc] at h
   split
   ·rename_i hz;rw [if_pos hz] at h;simp at h
   ·rename_i hz
    simp only [dv]
    refine ⟨by omega,?_,by omega,by omega⟩
    rcases Int.lt_or_le 1048576 (m+c % 128*128 ^ i) with hh|hh
    ·exact absurd (.inr hh) hz
    ·exact hh
end Go.Code
namespace Go.Code
open Go Go.Vc Go.bf
theorem HT {may:Int->Bool} {f:Nat} {n last:Int} {acc:List Rn}:mD may (f+1) [] n last acc=if n>0 then ([],3) else (acc,0):=rfl
theorem Bm (may:Int->Bool) (f:Nat) (c:Int) (t:List Int) (n last:Int) (acc:List Rn):mD may (f+1) (c::t) n last acc=
  if may c=false\/c=last then ([],2)
  else if (fi t).2.2≠0 then ([],(fi t).2.2)
  else if (fi t).1=0\/(fi t).1>n then ([],2)
  else if n-(fi t).1=0 then (if t.drop (fi t).2.1.toNat=[] then (acc++ [((fi t).1,c)],0) else ([],2))
  else mD may f (t.drop (fi t).2.1.toNat) (n-(fi t).1) c (acc++ [((fi t).1,c)]):=rfl
theorem HU {may:Int->Bool}:∀(f:Nat) (b:List Int) (n last:Int) (acc:List Rn),(mD may f b n last acc).1.length<=acc.length+b.length
 |0,_,_,_,_=>by simp [mD]
 |f+1,[],n,_,acc=>by rw [HT];split<;>simp
 |f+1,c::t,n,last,acc=>by
  rw [Bm]
  split
  ·simp
  split
  ·simp
  split
  ·simp
  split
  ·split<;>simp
  ·have:=HU (may:=may) f (t.drop (fi t).2.1.toNat) (n-(fi t).1) c (acc++ [((fi t).1,c)])
   simp only [dc,dv,List.length_nil,List.length_drop] at this ⊢
   omega
theorem Vv {may:Int->Bool} (b:List Int) (n:Int):(iZ may b n).1.length<=b.length:=by have:=HU (may:=may) (b.length+1) b n (-1) [];simpa [iZ] using this
def iF (may:Int->Bool):Int->List Rn->Prop
 |_,[]=>True
 |last,r::t=>1<=r.1/\r.1<=1048576/\0<=r.2/\r.2<256/\may r.2=true/\r.2≠last/\iF may r.2 t
theorem iF.pos {may:Int->Bool}:∀{l:List Rn} {last:Int},iF may last l->∀r ∈ l,1<=r.1
 | [],_,_=>by simp
 |q::t,_,h=>by
  obtain ⟨h1,_,_,_,_,_,h7⟩:=h
  intro r hr
  rcases cH.1 hr with rfl|hr
  ·exact h1
  ·exact h7.pos r hr
theorem Mz (r:Rn) (t:List Rn) (h:0<=r.2/\r.2<256):qI (r::t)=r.2::(o5 r.1++qI t):=by unfold qI;rw [List.flatMap_cons,Int.emod_eq_of_lt h.1 h.2];rfl
theorem Vw (r:Rn) (t:List Rn):bQ (r::t)=r.1+bQ t:=by simp [bQ]
theorem Zr {t:List Int} (hi:∀c ∈ t,0<=c/\c<256) (h:(fi t).2.2=0):o5 (fi t).1=t.take (fi t).2.1.toNat:=by
 unfold fi at h ⊢
 cases t with
 |nil=>simp [qM] at h
 |cons a t=>
  have ha:=hi a (.head _);rw [xC] at h ⊢;split
  ·rename_i ZK;rw [if_pos ZK] at h
   cases t with
   |nil=>simp [qM] at h
   |cons b t=>
    have hb:=hi b (.tail _ (.head _));rw [xC] at h ⊢;split
    ·rename_i jU;rw [if_pos jU] at h
     cases t with
     |nil=>simp [qM] at h
     |cons c t=>
      have hc:=hi c (.tail _ (.tail _ (.head _)));rw [xC] at h ⊢;split
      ·rename_i nr;rw [if_pos nr] at h;simp [qM] at h
      ·rename_i nr;rw [if_neg nr] at h;split
       ·rename_i hz;rw [if_pos hz] at h;simp at h
       ·rename_i hz;have e:(0+a % 128*128 ^ 0+b % 128*128 ^(0+1)+c % 128*128 ^(0+1+1):Int)=a % 128+b % 128*128+c % 128*16384:=by simp
        rw [e] at hz ⊢;have Nv:c≠0:=λe0=>hz (.inl ⟨e0,by omega⟩)
        have hle:a % 128+b % 128*128+c % 128*16384<=1048576:=by
         rcases Int.lt_or_le 1048576 (a % 128+b % 128*128+c % 128*16384) with hh|hh
         ·exact absurd (.inr hh) hz
         ·exact hh
        have ec:c % 128=c:=by omega
        rw [ec] at hle ⊢;unfold o5;rw [if_neg aa];simp only [uH];rw [if_neg aa,if_neg aa,if_pos aa];have e1:128+(a % 128+b % 128*128+c*16384) % 128=a:=by omega
        have e2:128+(a % 128+b % 128*128+c*16384) / 128 % 128=b:=by omega
        have e3:(a % 128+b % 128*128+c*16384) / 128 / 128=c:=by omega
        rw [e1,e2,e3];rfl
    ·rename_i jU;rw [if_neg jU] at h;split
     ·rename_i hz;rw [if_pos hz] at h;simp at h
     ·rename_i hz;have e:(0+a % 128*128 ^ 0+b % 128*128 ^(0+1):Int)=a % 128+b % 128*128:=by simp
      rw [e] at hz ⊢;have SR:b≠0:=λe0=>hz (.inl ⟨e0,by omega⟩)
      have ec:b % 128=b:=by omega
      rw [ec] at hz ⊢;unfold o5;rw [if_neg aa];simp only [uH];rw [if_neg aa,if_pos aa];have e1:128+(a % 128+b*128) % 128=a:=by omega
      have e2:(a % 128+b*128) / 128=b:=by omega
      rw [e1,e2];rfl
  ·rename_i ZK;rw [if_neg ZK] at h;split
   ·rename_i hz;rw [if_pos hz] at h;simp at h
   ·have ec:a % 128=a:=by omega
    rw [ec];have e:(0+a*128 ^ 0:Int)=a:=by simp
    rw [e];unfold o5;rw [if_neg aa];simp only [uH];rw [if_pos aa];rfl
theorem Bn {may:Int->Bool}:∀(f:Nat) (b:List Int) (n last:Int) (acc:List Rn),(∀c ∈ b,0<=c/\c<256)->1<=n->(mD may f b n last acc).2=0->
  ∃l,(mD may f b n last acc).1=acc++l/\qI l=b/\iF may last l/\bQ l=n/\l≠ []
 |0,_,_,_,_,_,_,h=>by simp [mD] at h
 |f+1,[],n,_,acc,_,hn,h=>by rw [HT,if_pos aa] at h;simp at h
 |f+1,c::t,n,last,acc,hi,hn,h=>by
  have hc:=hi c (.head _)
  have ht:∀c ∈ t,0<=c/\c<256:=λq hq=>hi q (.tail _ hq)
  rw [Bm] at h ⊢
  split
  ·rename_i h1;rw [if_pos h1] at h;simp at h
  rename_i h1
  rw [if_neg h1] at h
  split
  ·rename_i h2;rw [if_pos h2] at h;exact absurd h h2
  rename_i h2
  rw [if_neg h2] at h
  split
  ·rename_i h3;rw [if_pos h3] at h;simp at h
  rename_i h3
  rw [if_neg h3] at h
  have h2':(fi t).2.2=0:=Decidable.not_not.1 h2
  have hd:=Cr 3 0 0 t aa h2'
  have al6:=Zr ht h2'
  rw [show qM 3 0 0 t=fi t from rfl] at hd
  generalize hdg:fi t=d at*
  obtain ⟨sz,k,er⟩:=d
  simp only at h h3 hd al6 ⊢
  have al7:may c=true:=by
   cases hm:may c with
   |true=>rfl
   |false=>exact absurd (.inl hm) h1
  have hcl:c≠last:=λe=>h1 (.inr e)
  have rW:o5 sz++t.drop k.toNat=t:=by rw [al6];exact List.take_append_drop _ _
  split
  ·rename_i h4;rw [if_pos h4] at h;split
   ·rename_i h5;refine ⟨[(sz,c)],rfl,?_,⟨by show 1<=sz;omega,by show sz<=1048576;omega,hc.1,hc.2,al7,hcl,trivial⟩,by simp [bQ];omega,by simp⟩;rw [Mz _ _ hc];rw [h5,ti] at rW;simp [rW,qI]
   ·rename_i h5;rw [if_neg h5] at h;simp at h
  ·rename_i h4;rw [if_neg h4] at h;obtain ⟨l,e1,e2,e3,e4,e5⟩:=Bn f (t.drop k.toNat) (n-sz) c (acc++ [(sz,c)]) (λq hq=>ht q (List.mem_of_mem_drop hq)) aa h;refine ⟨(sz,c)::l,by rw [e1];simp,?_,⟨by show 1<=sz;omega,by show sz<=1048576;omega,hc.1,hc.2,al7,hcl,e3⟩,by rw [Vw];show sz+bQ l=n;omega,by simp⟩;rw [Mz _ _ hc,e2];show c::(o5 sz++t.drop k.toNat)=_;rw [rW]
theorem iF.of {may:Int->Bool}:∀{l:List Rn} {last:Int},(∀r ∈ l,1<=r.1/\r.1<=1048576/\0<=r.2/\r.2<256/\may r.2=true)->(∀i q r,l[i]? =some q->l[i+1]? =some r->q.2≠r.2)->(∀r,l.head? =some r->r.2≠last)->iF may last l
 | [],_,_,_,_=>trivial
 |r::t,last,h1,h2,h3=>by
  obtain ⟨a,b,c,d,e⟩:=h1 r (.head _)
  refine ⟨a,b,c,d,e,h3 r rfl,iF.of (λq hq=>h1 q (.tail _ hq)) (λi q s hq hs=>h2 (i+1) q s (by simpa using hq) (by simpa using hs)) (λq hq=> ?_)⟩
  have:=h2 0 r q rfl (by cases t<;>simp_all)
  exact λe=>this e.symm
theorem iF.next {may:Int->Bool}:∀{l:List Rn} {last:Int},iF may last l->∀i q r,l[i]? =some q->l[i+1]? =some r->q.2≠r.2
 | [],_,_,i,q,r,h,_=>by simp at h
 | [x],_,_,i,q,r,h,h'=>by simp at h'
 |x::y::t,_,h,0,q,r,hq,hr=>by
  simp at hq hr;subst hq;subst hr
  exact λe=>h.2.2.2.2.2.2.2.2.2.2.2.1 e.symm
 |x::y::t,_,h,i+1,q,r,hq,hr=>h.2.2.2.2.2.2.next i q r (by simpa using hq) (by simpa using hr)
theorem iF.mem {may:Int->Bool}:∀{l:List Rn} {last:Int},iF may last l->∀r ∈ l,1<=r.1/\r.1<=1048576/\0<=r.2/\r.2<256/\may r.2=true
 | [],_,_,r,h=>by cases h
 |q::t,_,h,r,hr=>by
  rcases cH.1 hr with rfl|hr
  ·exact ⟨h.1,h.2.1,h.2.2.1,h.2.2.2.1,h.2.2.2.2.1⟩
  ·exact h.2.2.2.2.2.2.mem r hr
theorem iF.qN {may:Int->Bool} {l:List Rn} {last:Int} (h:iF may last l) (jb:1<=bQ l):qN may l (bQ l)=true:=by unfold Go.bf.qN;rw [decide_eq_true aa,zH (λr hr=>⟨h.pos r hr,(h.mem r hr).2.2.2.2⟩) h.next (λr _=>by simp) rfl];rfl
end Go.Code
namespace Go.dK
open Go Go.Vc
abbrev Ce:=Int × Int × Int
abbrev Po:=Int × Int
theorem tdm {a b:Int} (hb:0<b):(a.tmod b<0->a / b=a.tdiv b-1/\a % b=a.tmod b+b)/\(0<=a.tmod b->a / b=a.tdiv b/\a % b=a.tmod b)/\-b<a.tmod b/\a.tmod b<b:=by
 have h1:b*a.tdiv b+a.tmod b=a:=Int.mul_tdiv_add_tmod a b;have h2:a.tmod b<b:=Int.tmod_lt_of_pos a hb;have h3: -b<a.tmod b:=by have:=Int.tmod_lt_of_pos (-a) hb;rw [Int.neg_tmod] at this;omega
 refine ⟨λh=> ?_,λh=> ?_,h3,h2⟩
 ·have:=(Int.ediv_emod_unique hb (a:=a) (q:=a.tdiv b-1) (r:=a.tmod b+b)).2 ⟨by rw [Int.mul_sub];omega,by omega,by omega⟩;exact this
 ·exact (Int.ediv_emod_unique hb (a:=a) (q:=a.tdiv b) (r:=a.tmod b)).2 ⟨by omega,by omega,by omega⟩
theorem RD {a b:Int} (ha:bS a) (hb:0<b):bS (a / b):=by
 unfold bS at*;have h1:=Int.emod_nonneg a (by omega:b≠0);have h2:=Int.emod_lt_of_pos a hb;have h3:=Int.mul_ediv_add_emod a b;rcases Int.lt_or_le a 0 with h|h
 ·have h4:a<=a / b:=by rw [Int.le_ediv_iff_mul_le hb];have:=Int.mul_le_mul_of_nonpos_left (a:=a) (b:=b) (c:=1) aa aa;omega
  have h5:a / b<0:=Int.ediv_neg_of_neg_of_pos h hb;omega
 ·have h4:a / b<=a:=Int.ediv_le_self b h;have h5:0<=a / b:=Int.ediv_nonneg h aa;omega
theorem RE {a b:Int} (ha:bS a) (hb:0<b):bS (a.tdiv b):=by
 unfold bS at*;rcases Int.lt_or_le a 0 with h|h
 ·have h1:a.tdiv b= -((-a) / b):=by rw [<-pK aa,Int.neg_tdiv];omega
  have h4:(-a) / b<=-a:=Int.ediv_le_self b aa;have h5:0<=(-a) / b:=Int.ediv_nonneg aa aa;omega
 ·rw [pK h];have h4:a / b<=a:=Int.ediv_le_self b h;have h5:0<=a / b:=Int.ediv_nonneg h aa;omega
theorem u64_in (n:Int):0<=c5 n/\c5 n<18446744073709551616:=by unfold IntKind.wrap;simp only [IntKind.bits,IntKind.signed];simp;omega
theorem vE {n:Int} (h:0<=n/\n<18446744073709551616):c5 n=n:=by unfold IntKind.wrap;simp only [IntKind.bits,IntKind.signed];simp;omega
def mix (ar x z:Int):Int:=c5 ((c5 ((c5 ((c5 ar)*11400714819323198485))+(c5 ((c5 x)*14029467366897019727))))+(c5 ((c5 z)*1609587929392839161)))
def hash (ar x z:Int):Int:=
 kz .u64 (c5 ((kz .u64 (mix ar x z) (mix ar x z / 536870912))*13787848793156543929)) (c5 ((kz .u64 (mix ar x z) (mix ar x z / 536870912))*13787848793156543929) / 4294967296)
theorem ab0 (ar x z:Int):0<=hash ar x z:=by unfold hash kz;exact (u64_in _).1
theorem aoh (n:Int):(c5 n).fdiv (2 ^(min (29:Int).toNat 64))=c5 n / 536870912:=rM _ aE
theorem aoi (n:Int):(c5 n).fdiv (2 ^(min (32:Int).toNat 64))=c5 n / 4294967296:=rM _ aE
def gF (ar x z:Int):Int:=hash ar x z % 9
def ground (ar x z:Int):Int:=
 6+(gF ar (x / 8) (z / 8)*((8-x % 8)*(8-z % 8))+gF ar (x / 8+1) (z / 8)*(x % 8*(8-z % 8))+gF ar (x / 8) (z / 8+1)*((8-x % 8)*(z % 8))+gF ar (x / 8+1) (z / 8+1)*(x % 8*(z % 8))) / 64
def Pc (y g:Int):Int:=
 if y<0\/32<=y then 0 else if y=0\/y<g-3 then 1 else if y<g-1\/(y=g-1/\9<g) then 2 else if y=g-1 then 3 else if y<9 then 8 else 0
theorem tq {c u v:Int} (hc:0<=c/\c<=8) (hu:0<=u/\u<=8) (hv:0<=v/\v<=8):0<=u*v/\u*v<=64/\0<=c*(u*v)/\c*(u*v)<=512:=by have h1:0<=u*v:=Int.mul_nonneg hu.1 hv.1;have h2:u*v<=8*8:=Int.mul_le_mul hu.2 hv.2 hv.1 aE;have h3:0<=c*(u*v):=Int.mul_nonneg hc.1 h1;have h4:c*(u*v)<=8*64:=Int.mul_le_mul hc.2 h2 h1 aE;exact ⟨h1,h2,h3,h4⟩
theorem iR (s x z:Int):0<=gF s x z/\gF s x z<=8:=by unfold gF;omega
theorem Hf (s x z:Int):6<=ground s x z/\ground s x z<=100:=by unfold ground;have a:=tq (iR s (x / 8) (z / 8)) (u:=8-x % 8) (v:=8-z % 8) aa aa;have b:=tq (iR s (x / 8+1) (z / 8)) (u:=x % 8) (v:=8-z % 8) aa aa;have c:=tq (iR s (x / 8) (z / 8+1)) (u:=8-x % 8) (v:=z % 8) aa aa;have d:=tq (iR s (x / 8+1) (z / 8+1)) (u:=x % 8) (v:=z % 8) aa aa;omega
def idx (c:Ce):Int:=(c.2.1*16+c.2.2 % 16)*16+c.1 % 16
def KC (c:Ce):Prop:=0<=c.2.1/\c.2.1<32
def pos (c:Ce):Po:=(c.1 / 16,c.2.2 / 16)
def cellAt (p:Po) (i:Int):Ce:=(p.1*16+i % 16,i / 256,p.2*16+i / 16 % 16)
theorem Yr {c:Ce} (h:KC c):0<=idx c/\idx c<8192:=by unfold idx;unfold KC at h;omega
def made (ar:Int) (p:Po):List Int:=(List.range 8192).map λi:Nat=>Pc ((i:Int) / 256) (ground ar (p.1*16+(i:Int) % 16) (p.2*16+(i:Int) / 16 % 16))
theorem pM (ar:Int) (p:Po):(made ar p).length=8192:=by simp [made]
theorem Uy (y g:Int):Pc y g=0\/Pc y g=1\/Pc y g=2\/Pc y g=3\/Pc y g=8:=by
 unfold Pc;split
 ·exact .inl rfl
 ·split
  ·exact .inr (.inl rfl)
  ·split
   ·exact .inr (.inr (.inl rfl))
   ·split
    ·exact .inr (.inr (.inr (.inl rfl)))
    ·split
     ·exact .inr (.inr (.inr (.inr rfl)))
     ·exact .inl rfl
end Go.dK
namespace Go.dK
open Go Go.Vc Go.bf
end Go.dK
namespace Go.dK
open Go Go.Vc Go.bf
end Go.dK
namespace Go.dK
open Go Go.Vc Go.bf
theorem aem:∀(n:Nat) (l:List Rn),l.length=n->(∀r ∈ l,1<=r.1)->(∀i q r,l[i]? =some q->l[i+1]? =some r->q.2≠r.2)->Nm l
 |0,l,hn,_,_=>by
  have:l=[]:=List.eq_nil_of_length_eq_zero hn
  subst this;exact .nil
 |n+1,l,hn,h1,h2=>by
  rcases vW l with rfl|⟨m,q,rfl⟩
  ·simp at hn
  ·have hm:m.length=n:=by simpa using hn
   refine .snoc m q (aem n m hm (λr hr=>h1 r (List.mem_append_left _ hr)) (λi a b ha hb=> ?_)) (h1 q bt) (λp hp=> ?_)
   ·have hb':=(cR.1 hb).1;exact h2 i a b (by rw [nE aa];exact ha) (by rw [nE aa];exact hb)
   ·have jb:m≠ []:=by rintro rfl;simp at hp
    have dG:0<m.length:=List.length_pos_iff.2 jb;rw [List.getLast?_eq_getElem?] at hp;refine h2 (m.length-1) p q ?_ ?_
    ·rw [nE aa];exact hp
    ·rw [show m.length-1+1=m.length by omega,oK (aB _),Nat.sub_self];rfl
theorem L9 {may:Int->Bool}:∀{l:List Rn} {prev:Option Int} {left:Int},uN may prev left l=true->
  (∀r ∈ l,1<=r.1/\may r.2=true)/\(∀i q r,l[i]? =some q->l[i+1]? =some r->q.2≠r.2)/\∀r,l.head? =some r->prev≠some r.2
 | [],_,_,_=>⟨by simp,by simp,by simp⟩
 |r::t,prev,left,h=>by
  unfold uN at h
  split at h
  ·cases h
  ·rename_i hn
   obtain ⟨a1,a2,a3⟩:=L9 h
   have hm:may r.2=true:=by
    cases hq:may r.2 with
    |true=>rfl
    |false=>exact absurd (.inr (.inr (.inl hq))) hn
   have hp:prev≠some r.2:=λe=>hn (.inr (.inr (.inr e)))
   refine ⟨λq hq=> ?_,λi q s hq hs=> ?_,λq hq=> ?_⟩
   ·rcases cH.1 hq with rfl|hq
    ·exact ⟨by omega,hm⟩
    ·exact a1 q hq
   ·cases i with
    |zero=>
     simp only [ajj,Option.some.injEq] at hq;subst hq;simp only [A3] at hs;have:t.head? =some s:=by cases t<;>simp_all
     intro e;exact a3 s this (by rw [e])
    |succ i=>exact a2 i q s (by simpa using hq) (by simpa using hs)
   ·simp only [List.head?_cons,Option.some.injEq] at hq;subst hq;exact hp
theorem Ma {may:Int->Bool} {l:List Rn} {n:Int} (h:qN may l n=true):gK (cA l)=l/\(∀b ∈ cA l,may b=true)/\((cA l).length:Int)=n:=by
 unfold qN at h;rw [fq] at h;obtain ⟨a1,a2,_⟩:=L9 h.2;refine ⟨(aem l.length l rfl (λr hr=>(a1 r hr).1) a2).fix,λb hb=> ?_,?_⟩
 ·unfold cA at hb;obtain ⟨r,hr,hb⟩:=List.mem_flatMap.1 hb;rw [(Xc.1 hb).2];exact (a1 r hr).2
 ·rw [<-eT λr hr=>by have:=(a1 r hr).1;omega];exact LL h.2
end Go.dK
namespace Go.dK
open Go Go.Vc Go.bf
def sN (p:Po):Prop:=(-524288<=p.1/\p.1<524288)/\-524288<=p.2/\p.2<524288
instance (p:Po):Decidable (sN p):=by unfold sN;exact inferInstance
def Bw (p:Po):Int:=if sN p then (p.1+524288)*1048576+(p.2+524288)+1 else 0
theorem abT {p:Po} (h:¬sN p):Bw p=0:=by unfold Bw;rw [if_neg h]
end Go.dK
namespace Go.dK
open Go Go.Vc Go.bf
def cu {α:Type} (q:α->Bool):List α->Int
 | []=> -1
 |x::t=>if q x then 0 else if cu q t<0 then -1 else cu q t+1
theorem jS {α:Type} {q:α->Bool}:∀{l:List α},(∀y ∈ l,q y=false)->cu q l= -1
 | [],_=>rfl
 |x::t,h=>by
  have h1:=h x (.head _)
  have h2:=jS (l:=t) λy hy=>h y (.tail _ hy)
  unfold cu
  rw [if_neg (by rw [h1];decide),if_pos aa]
theorem pL {α:Type} {q:α->Bool}:∀{l:List α} {k:Nat} {x:α},l[k]? =some x->q x=true->(∀j,j<k->∀y,l[j]? =some y->q y=false)->cu q l=k
 | [],k,x,h,_,_=>by simp at h
 |y::t,0,x,h,hq,_=>by
  simp at h;subst h
  unfold cu
  rw [if_pos hq];rfl
 |y::t,k+1,x,h,hq,hn=>by
  have h1:=hn 0 aa y rfl
  have h2:=pL (l:=t) (k:=k) (x:=x) (by simpa using h) hq (λj hj z hz=>hn (j+1) aa z (by simpa using hz))
  unfold cu
  rw [if_neg (by rw [h1];decide),if_neg aa,h2]
  omega
theorem fg {α:Type} (q:α->Bool):∀(l:List α),(cu q l= -1/\∀y ∈ l,q y=false)\/∃k x,l[k]? =some x/\q x=true/\cu q l=(k:Nat)/\∀j,j<k->∀y,l[j]? =some y->q y=false
 | []=> .inl ⟨rfl,by simp⟩
 |x::t=>by
  cases hq:q x with
  |true=>exact .inr ⟨0,x,rfl,hq,by unfold cu;rw [if_pos hq];rfl,by omega⟩
  |false=>
   rcases fg q t with ⟨h1,h2⟩|⟨k,y,h1,h2,h3,h4⟩
   ·refine .inl ⟨by unfold cu;rw [if_neg (by rw [hq];decide),if_pos aa],λy hy=> ?_⟩
    rcases cH.1 hy with rfl|hy
    ·exact hq
    ·exact h2 y hy
   ·refine .inr ⟨k+1,y,by simpa using h1,h2,by unfold cu;rw [if_neg (by rw [hq];decide),if_neg aa,h3];omega,λj hj z hz=> ?_⟩
    cases j with
    |zero=>simp at hz;subst hz;exact hq
    |succ j=>exact h4 j aa z (by simpa using hz)
theorem kS {α β:Type} (f:α->β) (q:β->Bool):∀l:List α,cu q (l.map f)=cu (λa=>q (f a)) l
 | []=>rfl
 |x::t=>by simp only [fT,cu,kS f q t]
end Go.dK
namespace Go.dK
open Go Go.Vc Go.bf
abbrev om:=BitVec 16
abbrev mz (b:List Int):Prop:=∀c ∈ b,0<=c/\c<256
def cI (v:om):Int:=(v.toNat:Nat)
def R9 (c:om):om:=if c.msb then (c<<<1) ^^^ 0x1021#16 else c<<<1
def HM (c:om):om:=R9 (R9 (R9 (R9 c)))
def st8 (c:om):om:=HM (HM c)
def ym (x:Int):om:=BitVec.ofInt 16 x
def ajs (c:om) (x:Int):om:=st8 (c ^^^(ym x<<<8))
def Qa (c:om) (b:List Int):om:=b.foldl ajs c
def vu (b:List Int):om:=Qa 0xFFFF#16 b
def Io (b:List Int):List Int:=[cI (vu b) / 256,cI (vu b) % 256]
theorem Bg (v:om):0<=cI v/\cI v<65536:=by unfold cI;have:=v.isLt;omega
theorem Qb {a b:om}:cI a=cI b ↔ a=b:=by unfold cI;refine ⟨λh=>BitVec.eq_of_toNat_eq aa,λh=>by rw [h]⟩
theorem Cy {x:Int} (h:0<=x/\x<65536):(ym x).toNat=x.toNat:=by unfold ym;rw [BitVec.toNat_ofInt];simp only [show ((2 ^ 16:Nat):Int)=65536 from rfl];rw [Int.emod_eq_of_lt h.1 h.2]
theorem P9 {x:Int} (h:0<=x/\x<65536):cI (ym x)=x:=by unfold cI;rw [Cy h];omega
theorem agk (v:om):ym (cI v)=v:=Qb.1 (P9 (Bg v))
theorem Au {a b:om} (h:∀i:Nat,i<16->a.getLsbD i=b.getLsbD i):a=b:=BitVec.eq_of_getLsbD_eq h
theorem VH {i:Nat} (h:i<16):i=0\/i=1\/i=2\/i=3\/i=4\/i=5\/i=6\/i=7\/i=8\/i=9\/i=10\/i=11\/i=12\/i=13\/i=14\/i=15:=by omega
theorem acZ (a b:om) (n:Nat):(a ^^^ b)<<<n=(a<<<n) ^^^(b<<<n):=by
 apply Au;intro i hi;simp only [BitVec.getLsbD_xor,BitVec.getLsbD_shiftLeft]
 cases decide (i<16)<;>cases decide (i<n)<;>simp
theorem Cz (a b:om):R9 (a ^^^ b)=R9 a ^^^ R9 b:=by
 unfold R9;rw [BitVec.msb_xor,acZ]
 cases a.msb<;>cases b.msb<;>simp
 ·rw [BitVec.xor_assoc]
 ·rw [BitVec.xor_assoc,BitVec.xor_assoc];congr 1;rw [BitVec.xor_comm]
 ·generalize a<<<1=x;generalize b<<<1=y;apply Au;intro i _;simp only [BitVec.getLsbD_xor]
  cases x.getLsbD i<;>cases y.getLsbD i<;>cases (4129#16).getLsbD i<;>rfl
theorem Sn (a b:om):HM (a ^^^ b)=HM a ^^^ HM b:=by unfold HM;rw [Cz,Cz,Cz,Cz]
theorem ac0 (c:om):c.msb=true ↔ 32768<=c.toNat:=by rw [BitVec.msb_eq_decide];simp
theorem CA {c:om} (h:c.toNat<32768):R9 c=c<<<1/\(c<<<1).toNat=2*c.toNat:=by
 constructor
 ·unfold R9;rw [if_neg];rw [ac0];omega
 ·rw [BitVec.toNat_shiftLeft,Nat.shiftLeft_eq];omega
theorem CB (c:om) (m n:Nat):(c<<<m)<<<n=c<<<(m+n):=(BitVec.shiftLeft_add c m n).symm
theorem So {c:om} (h:c.toNat<4096):HM c=c<<<4:=by unfold HM;have h1:=CA (c:=c) aa;rw [h1.1];have h2:=CA (c:=c<<<1) aa;rw [h2.1];have h3:=CA (c:=c<<<1<<<1) aa;rw [h3.1];have h4:=CA (c:=c<<<1<<<1<<<1) aa;rw [h4.1,CB,CB,CB]
theorem MK (v y:om) (hy:y.toNat<16):(v<<<4) ^^^ HM (((v>>>12) ^^^ y)<<<12)=HM (v ^^^(y<<<12)):=by
 have e:v ^^^(y<<<12)=(((v>>>12) ^^^ y)<<<12) ^^^(v &&& 0xFFF#16):=by apply Au;intro i hi;simp only [BitVec.getLsbD_xor,BitVec.getLsbD_shiftLeft,BitVec.getLsbD_ushiftRight,BitVec.getLsbD_and];rcases VH hi with rfl|rfl|rfl|rfl|rfl|rfl|rfl|rfl|rfl|rfl|rfl|rfl|rfl|rfl|rfl|rfl<;>simp
 have hl:(v &&& 0xFFF#16).toNat<4096:=by rw [BitVec.toNat_and];exact Nat.lt_of_le_of_lt Nat.and_le_right aE
 have e2:(v &&& 0xFFF#16)<<<4=v<<<4:=by apply Au;intro i hi;simp only [BitVec.getLsbD_shiftLeft,BitVec.getLsbD_and];rcases VH hi with rfl|rfl|rfl|rfl|rfl|rfl|rfl|rfl|rfl|rfl|rfl|rfl|rfl|rfl|rfl|rfl<;>simp
 rw [e,Sn,So hl,e2,BitVec.xor_comm]
theorem VI (v x:om) (hx:x.toNat<256):HM (HM (v ^^^((x>>>4)<<<12)) ^^^((x &&& 15#16)<<<12))=st8 (v ^^^(x<<<8)):=by
 have e:v ^^^(x<<<8)=(v ^^^((x>>>4)<<<12)) ^^^((x &&& 15#16)<<<8):=by apply Au;intro i hi;simp only [BitVec.getLsbD_xor,BitVec.getLsbD_shiftLeft,BitVec.getLsbD_ushiftRight,BitVec.getLsbD_and];rcases VH hi with rfl|rfl|rfl|rfl|rfl|rfl|rfl|rfl|rfl|rfl|rfl|rfl|rfl|rfl|rfl|rfl<;>simp
 have hl:(x &&& 15#16).toNat<16:=by rw [BitVec.toNat_and];exact Nat.lt_of_le_of_lt Nat.and_le_right aE
 have VN:((x &&& 15#16)<<<8).toNat<4096:=by rw [BitVec.toNat_shiftLeft,Nat.shiftLeft_eq];omega
 unfold st8;rw [e,Sn (v ^^^ _),So VN,CB]
theorem Mf (c:om) (a b:List Int):Qa c (a++b)=Qa (Qa c a) b:=List.foldl_append ..
theorem wrap_u16 (x:Int):mf x=x % 65536:=by simp [IntKind.wrap,IntKind.bits,IntKind.signed]
theorem yy (n:Nat) (hn:16<=n) (v:om):(BitVec.ofInt n (cI v)).toNat=v.toNat:=by unfold cI;rw [BitVec.toNat_ofInt];have h1:=v.isLt;have h2:(2:Nat) ^ 16<=2 ^ n:=Nat.pow_le_pow_right aE hn;generalize (2:Nat) ^ n=m at*;rw [Int.emod_eq_of_lt aa aa];omega
theorem Er (a b:om):kz .u16 (cI a) (cI b)=cI (a ^^^ b):=by show mf ((BitVec.ofInt 16 (cI a) ^^^ BitVec.ofInt 16 (cI b)).toNat:Nat)=_;rw [BitVec.toNat_xor,yy 16 aE,yy 16 aE,<-BitVec.toNat_xor,wrap_u16];show cI _ % 65536=cI _;have:=Bg (a ^^^ b);omega
theorem agl (v:om) (n:Nat):cI (v<<<n)=cI v*2 ^ n % 65536:=by unfold cI;rw [BitVec.toNat_shiftLeft,Nat.shiftLeft_eq,Int.natCast_emod,Int.natCast_mul,Int.natCast_pow];rfl
theorem Qc (v:om) (n:Nat):cI (v>>>n)=cI v / 2 ^ n:=by unfold cI;rw [BitVec.toNat_ushiftRight,Nat.shiftRight_eq_div_pow,Int.natCast_ediv,Int.natCast_pow];rfl
theorem Sb (v:om):cI (v &&& 0x8000#16)=0 ↔ v.msb=false:=by
 have oE:v.msb=v.getLsbD 15:=rfl;constructor
 ·intro h;have h0:v &&& 0x8000#16=0#16:=Qb.1 (by rw [h];rfl);have:=congrArg (λu:om=>u.getLsbD 15) h0;simp only [BitVec.getLsbD_and] at this;rw [oE];simpa using this
 ·intro h;have h0:v &&& 0x8000#16=0#16:=by apply Au;intro i hi;rw [oE] at h;simp only [BitVec.getLsbD_and];rcases VH hi with rfl|rfl|rfl|rfl|rfl|rfl|rfl|rfl|rfl|rfl|rfl|rfl|rfl|rfl|rfl|rfl<;>first|(simp;done)|simpa using h
  rw [h0];rfl
theorem af6 (a b:om):nB .u16 (cI a) (cI b)=cI (a &&& b):=by show mf ((BitVec.ofInt 16 (cI a) &&& BitVec.ofInt 16 (cI b)).toNat:Nat)=_;rw [BitVec.toNat_and,yy 16 aE,yy 16 aE,<-BitVec.toNat_and,wrap_u16];show cI _ % 65536=cI _;have:=Bg (a &&& b);omega
theorem Sa (v:om) (n:Nat):mf (cI v*2 ^ n)=cI (v<<<n):=by rw [wrap_u16,agl]
theorem Y5 (v:om) (n:Nat):(cI v).fdiv (2 ^ n)=cI (v>>>n):=by rw [Qc,rM];exact Int.le_of_lt (Int.pow_pos aE)
theorem aow {x:Int} (h:0<=x/\x<256):mf (x.fdiv (2 ^ 4))=cI (ym x>>>4):=by rw [Qc,P9 aa,rM _ aE,wrap_u16];simp only [show (2:Int) ^ 4=16 from rfl];omega
theorem aox {x:Int} (h:0<=x/\x<256):mf (nB .u8 x 15)=cI (ym x &&& 15#16):=by
 have e:nB .u8 x 15=cI (ym x &&& 15#16):=by
  show eV ((BitVec.ofInt 8 x &&& BitVec.ofInt 8 15).toNat:Nat)=_;have e8:(BitVec.ofInt 8 x).toNat=(ym x).toNat:=by rw [Cy aa,BitVec.toNat_ofInt];simp only [show ((2 ^ 8:Nat):Int)=256 from rfl];rw [Int.emod_eq_of_lt h.1 h.2]
  rw [BitVec.toNat_and,e8];unfold cI;rw [BitVec.toNat_and];have:(ym x).toNat &&&(15#16).toNat<16:=Nat.lt_of_le_of_lt Nat.and_le_right aE;show eV (((ym x).toNat &&&(15#16).toNat:Nat):Int)=_;simp only [IntKind.wrap,IntKind.bits,IntKind.signed,Bool.false_and,Bool.false_eq_true,if_false,show (2:Int) ^ 8=256 from rfl];omega
 rw [e,wrap_u16];have:=Bg (ym x &&& 15#16);omega
theorem Y6 {a b:om} (ha:a.toNat<16) (hb:b.toNat<16):(a ^^^ b).toNat<16:=by rw [BitVec.toNat_xor];exact Nat.xor_lt_two_pow (n:=4) ha hb
theorem Y7 (v:om):(v>>>12).toNat<16:=by rw [BitVec.toNat_ushiftRight,Nat.shiftRight_eq_div_pow];have:=v.isLt;omega
theorem aeo {x:Int} (h:0<=x/\x<256):(ym x>>>4).toNat<16:=by rw [BitVec.toNat_ushiftRight,Nat.shiftRight_eq_div_pow,Cy aa];omega
theorem aeq (x:om):(x &&& 15#16).toNat<16:=by rw [BitVec.toNat_and];exact Nat.lt_of_le_of_lt Nat.and_le_right aE
def tv (i:Nat):Value:=.int .u16 (cI (HM (ym i<<<12)))
def tS:LV:=[tv 0,tv 1,tv 2,tv 3,tv 4,tv 5,tv 6,tv 7,tv 8,tv 9,tv 10,tv 11,tv 12,tv 13,tv 14,tv 15]
def tT (k:Nat):LV:=tS.take k++List.replicate (16-k) (.int .u16 0)
theorem af7 {k:Nat} (hk:k<16):(tT k).set k (tv k)=tT (k+1):=by rcases VH hk with rfl|rfl|rfl|rfl|rfl|rfl|rfl|rfl|rfl|rfl|rfl|rfl|rfl|rfl|rfl|rfl<;>rfl
theorem aep {u:om} (hu:u.toNat<16):tS[(cI u).toNat]? =some (.int .u16 (cI (HM (u<<<12)))):=by
 have e:∀k:Nat,k<16->tS[k]? =some (tv k):=λk hk=>by rcases VH hk with rfl|rfl|rfl|rfl|rfl|rfl|rfl|rfl|rfl|rfl|rfl|rfl|rfl|rfl|rfl|rfl<;>rfl
 have h1:(cI u).toNat=u.toNat:=rfl;rw [h1,e _ hu];unfold tv;have:ym (u.toNat:Int)=u:=agk u;rw [this]
theorem U2 (v:om) {x:Int} (h:0<=x/\x<256):
  cI ((((v<<<4) ^^^ HM (((v>>>12) ^^^(ym x>>>4))<<<12))<<<4) ^^^ HM (((((v<<<4) ^^^ HM (((v>>>12) ^^^(ym x>>>4))<<<12))>>>12) ^^^(ym x &&& 15#16))<<<12))=cI (ajs v x):=by
 rw [MK v _ (aeo h),MK _ _ (aeq _),VI v _ (by rw [Cy aa];omega)];rfl
def be:Nat->Int->List Int
 |0,_=> []
 |m+1,n=>n / 256 ^ m % 256::be m n
def gm (b:List Int):Int:=b.foldl (λn c=>n*256+c) 0
def me (v:Int) (body:List Int):List Int:=be 4 v++be 3 body.length++body
def AO (b:List Int):List Int:=b++Io b
def Cp (v:Int) (body:List Int):List Int × Int:=if v<1\/v>1073741824\/(body.length:Int)>65536 then ([],1) else (AO (me v body),0)
def uE (b:List Int):List Int × Int:=if b.length<2 then ([],3) else if vu b=0#16 then (b.take (b.length-2),0) else ([],4)
def qD (b:List Int):Int × List Int × Int:=
 if (uE b).2≠0 then (0,[],(uE b).2)
 else if (uE b).1.length<7 then (0,[],3)
 else if gm ((uE b).1.take 4)<1\/gm ((uE b).1.take 4)>1073741824\/gm (((uE b).1.drop 4).take 3)>65536\/gm (((uE b).1.drop 4).take 3)≠(((uE b).1.drop 7).length:Int) then (0,[],2)
 else (gm ((uE b).1.take 4),(uE b).1.drop 7,0)
theorem Es:∀(m:Nat) (n:Int),(be m n).length=m
 |0,_=>rfl
 |m+1,n=>by simp [be,Es m n]
theorem Zw:∀(m:Nat) (n:Int),mz (be m n)
 |0,_=>λc hc=>by cases hc
 |m+1,n=>λc hc=>by
  rcases cH.1 hc with rfl|hc
  ·omega
  ·exact Zw m n c hc
theorem Mp (b:List Int) (c:Int):gm (b++ [c])=gm b*256+c:=by unfold gm;rw [List.foldl_append];rfl
theorem acY (b:List Int):mz (Io b):=λc hc=>by
 have:=Bg (vu b)
 simp only [Io,cH,jR,or_false] at hc
 rcases hc with rfl|rfl<;>omega
theorem Zx (b:List Int):(Io b).length=2:=rfl
theorem mz.app {a b:List Int} (ha:mz a) (hb:mz b):mz (a++b):=λc hc=>(dR.1 hc).elim (ha c) (hb c)
theorem Sh {v:Int} {body:List Int} (h:mz body):mz (me v body):=((Zw 4 v).app (Zw 3 _)).app h
theorem Zy {b:List Int} (h:mz b):mz (AO b):=h.app (acY b)
theorem agh {v:Int} {body:List Int} (h:mz body):mz (Cp v body).1:=by
 unfold Cp;split
 ·intro c hc;cases hc
 ·exact Zy (Sh h)
theorem Mr (v:Int) (body:List Int):(me v body).length=7+body.length:=by unfold me;simp [Es];omega
theorem G9 (b:List Int):(AO b).length=b.length+2:=by unfold AO;rw [dc,Zx]
theorem aiW {b:List Int}:(qD b).2.2=0->1<=(qD b).1/\(qD b).1<=1073741824:=by
 intro h;unfold qD at h ⊢;split at h
 ·rename_i q;exact absurd h q
 ·rename_i q;rw [if_neg q];split at h
  ·cases h
  ·rename_i q2;rw [if_neg q2];split at h
   ·cases h
   ·rename_i q3;rw [if_neg q3];simp only [not_or] at q3;simp only;omega
theorem aiX {b:List Int}:(qD b).2.2≠0->(qD b).1=0/\(qD b).2.1=[]:=by
 intro h;unfold qD at h ⊢;split
 ·exact ⟨rfl,rfl⟩
 ·split
  ·exact ⟨rfl,rfl⟩
  ·split
   ·exact ⟨rfl,rfl⟩
   ·rename_i q q2 q3;rw [if_neg q,if_neg q2,if_neg q3] at h;exact absurd rfl h
theorem Sk {b:List Int} (hb:mz b):∀k:Nat,0<=gm (b.take k)/\gm (b.take k)<256 ^ k
 |0=>by rw [AR];exact ⟨Int.le_refl 0,by decide⟩
 |k+1=>by
  obtain ⟨h1,h2⟩:=Sk hb k
  rw [dE]
  cases hx:b[k]? with
  |none=>
   rw [Int.pow_succ]
   simp only [Option.toList_none,ti]
   generalize (256:Int) ^ k=p at*
   omega
  |some x=>
   have:=hb x (aZ hx)
   rw [Int.pow_succ]
   simp only [Option.toList_some]
   rw [Mp]
   generalize (256:Int) ^ k=p at*
   omega
theorem Qm {b:List Int} (hb:mz b) {k:Nat} (hk:k<=4):0<=gm (b.take k)/\gm (b.take k)<4294967296:=by
 obtain ⟨h1,h2⟩:=Sk hb k;have h3:(256:Int) ^ k<=4294967296:=by
  rcases k with _|_|_|_|_|k
  ·decide
  ·decide
  ·decide
  ·decide
  ·decide
  ·omega
 exact ⟨h1,Int.lt_of_lt_of_le h2 h3⟩
theorem Zd {n c:Int} (hn:0<=n/\n<281474976710656) (hc:0<=c/\c<256):Kl .i64 (n*256) c=n*256+c:=by
 show aj ((BitVec.ofInt 64 (n*256)|||BitVec.ofInt 64 c).toNat:Nat)=_;have e1:(BitVec.ofInt 64 (n*256)).toNat=2 ^ 8*n.toNat:=by rw [BitVec.toNat_ofInt];simp only [show ((2 ^ 64:Nat):Int)=18446744073709551616 from rfl,show (2:Nat) ^ 8=256 from rfl];omega
 have e2:(BitVec.ofInt 64 c).toNat=c.toNat:=by rw [BitVec.toNat_ofInt];simp only [show ((2 ^ 64:Nat):Int)=18446744073709551616 from rfl];omega
 rw [BitVec.toNat_or,e1,e2,<-Nat.two_pow_add_eq_or_of_lt (i:=8) (b:=c.toNat) aa n.toNat];simp only [show (2:Nat) ^ 8=256 from rfl];have:((256*n.toNat+c.toNat:Nat):Int)=n*256+c:=by omega
 rw [this];exact wI
abbrev pJ:=Int × List Int
structure Dk where
 room:Int
 oU:Int
 wait:Int
 safe:List pJ
 l:List pJ
def Zz:Bool->List pJ->pJ->List pJ
 |done,[],w=>if done then [] else [w]
 |done,x::t,w=>(if done=false/\x.1>=w.1 then [w] else [])++(if x.1≠w.1 then [x] else [])++Zz (done||decide (x.1>=w.1)) t w
def lay (l:List pJ) (w:pJ):List pJ:=Zz false l w
def uL (d:Dk):List pJ:=d.l.foldl lay d.safe
def nR (l:List pJ):Nat:=(l.map λx=>x.2.length).sum
def ox (l:List pJ) (k:Int):Option (List Int):=(l.find? λx=>x.1==k).map (·.2)
def jM (d:Dk):Dk × Bool:=if 0<d.wait then ({d with wait:=0},false) else if 0<d.oU then ({d with oU:=d.oU-1},true) else (d,false)
def mN (d:Dk) (k:Int) (b:List Int):Dk × Int:=
 if (jM d).2=true then ((jM d).1,9) else if (nR (lay (uL d) (k,b)):Int)>d.room then ((jM d).1,8) else ({(jM d).1 with l:=d.l++ [(k,b)]},0)
def getD (d:Dk) (k:Int):List Int:=(ox (uL d) k).getD []
def rK (d:Dk):Dk × Int:=if (jM d).2=true then ((jM d).1,9) else ({(jM d).1 with safe:=uL d,l:=[]},0)
theorem HW:∀(l:List pJ) (w:pJ),Zz true l w=l.filter λx=>decide (x.1≠w.1)
 | [],_=>rfl
 |x::t,w=>by
  unfold Zz
  rw [if_neg bt,Bool.true_or,HW t w,List.filter_cons]
  by_cases h:x.1=w.1<;>simp [h]
theorem xg:∀(l:List pJ) (w:pJ),(lay l w).Perm (w::l.filter λx=>decide (x.1≠w.1))
 | [],_=> .refl _
 |x::t,w=>by
  unfold lay Zz
  rw [Bool.false_or]
  by_cases h:x.1>=w.1
  ·rw [if_pos ⟨rfl,h⟩,decide_eq_true h,HW,List.filter_cons]
   by_cases h2:x.1=w.1
   ·rw [if_neg (by simp [h2]),if_neg (by simp [h2])];exact .refl _
   ·rw [if_pos h2,if_pos (by simp [h2])];exact .refl _
  ·rw [if_neg λq=>h q.2,decide_eq_false h,if_pos aa,List.filter_cons,if_pos (by simp;omega)]
   have ih:=xg t w
   unfold lay at ih
   exact (List.Perm.cons x ih).trans (List.Perm.swap _ _ _)
def iz (l:List pJ):List Int:=l.map (·.1)
theorem Jz {l:List pJ} (p:pJ->Bool) (h:(iz l).Nodup):(iz (l.filter p)).Nodup:=h.sublist ((List.filter_sublist).map _)
theorem VC {l:List pJ} {w:pJ} (h:(iz l).Nodup):(iz (lay l w)).Nodup:=by refine ((xg l w).map (·.1)).nodup_iff.2 ?_;rw [fT];refine List.nodup_cons.2 ⟨λhm=> ?_,Jz _ h⟩;obtain ⟨x,hx,e⟩:=bg.1 hm;have:=(List.mem_filter.1 hx).2;simp at this;exact this e
theorem tB:∀(t:List pJ) {l:List pJ},(iz l).Nodup->(iz (t.foldl lay l)).Nodup
 | [],_,h=>h
 |w::t,_,h=>tB t (VC h)
theorem Hv {a b:List pJ} (h:a.Perm b):nR a=nR b:=(h.map λx:pJ=>x.2.length).sum_nat
theorem pU (x:pJ) (t:List pJ):nR (x::t)=x.2.length+nR t:=rfl
theorem zU {l:List pJ} (h:(iz l).Nodup) {k:Int} {b:List Int}:ox l k=some b ↔(k,b) ∈ l:=by
 unfold ox
 induction l with
 |nil=>simp
 |cons x t ih=>
  have hn:=List.nodup_cons.1 h;rw [List.find?_cons];by_cases e:x.1=k
  ·rw [beq_iff_eq.2 e];simp only [Option.map_some,Option.some.injEq,cH];constructor
   ·rintro rfl;exact .inl (by rw [<-e])
   ·rintro (q|q)
    ·rw [<-q]
    ·exact absurd (bg.2 ⟨_,q,e.symm⟩) hn.1
  ·rw [show (x.1==k)=false by simpa using e,ih hn.2];simp only [cH];constructor
   ·exact .inr
   ·rintro (q|q)
    ·exact absurd (by rw [<-q]) e
    ·exact q
theorem zT {l:List pJ} {k:Int}:ox l k=none ↔ ∀x ∈ l,x.1≠k:=by unfold ox;rw [Option.map_eq_none_iff,List.find?_eq_none];simp
theorem Um {a b:List pJ} (h:a.Perm b) (ha:(iz a).Nodup) (k:Int):ox a k=ox b k:=by
 have hb:(iz b).Nodup:=(h.map λx:pJ=>x.1).nodup_iff.1 ha
 cases q:ox b k with
 |some x=>exact (zU ha).2 (h.mem_iff.2 ((zU hb).1 q))
 |none=>exact zT.2 λx hx=>zT.1 q x (h.mem_iff.1 hx)
theorem A9 {l:List pJ} (h:(iz l).Nodup) (k:Int):nR (l.filter λx=>decide (x.1≠k))+((ox l k).getD []).length=nR l:=by
 induction l with
 |nil=>rfl
 |cons x t ih=>
  have hn:=List.nodup_cons.1 h;rw [List.filter_cons];by_cases e:x.1=k
  ·rw [if_neg (by simp [e])];have hg:ox (x::t) k=some x.2:=by unfold ox;rw [List.find?_cons,beq_iff_eq.2 e];rfl
   have ht:t.filter (λx=>decide (x.1≠k))=t:=List.filter_eq_self.2 λy hy=>by simp only [ne_eq,decide_not,Bool.not_eq_true',eW];intro q;exact hn.1 (bg.2 ⟨y,hy,q.trans e.symm⟩)
   rw [hg,ht,pU,Option.getD_some];omega
  ·rw [if_pos (by simp [e])];have hg:ox (x::t) k=ox t k:=by unfold ox;rw [List.find?_cons,show (x.1==k)=false by simpa using e]
   have:=ih hn.2;rw [hg,pU,pU];omega
theorem Yo {l:List pJ} (h:(iz l).Nodup) (w:pJ):nR (lay l w)+((ox l w.1).getD []).length=nR l+w.2.length:=by have:=A9 h w.1;rw [Hv (xg l w),pU];omega
structure vS (d:Dk):Prop where
 nd:(iz d.safe).Nodup
 len:∀k,(nR ((d.l.take k).foldl lay d.safe):Int)<=d.room
 w:0<=d.wait/\d.wait<=1
 f:0<=d.oU/\d.oU<=9223372036854775807
 r:0<=d.room/\d.room<=1048576
theorem vS.now {d:Dk} (h:vS d):(iz (uL d)).Nodup:=tB _ h.nd
theorem vS.afM {d:Dk} (h:vS d):(nR (uL d):Int)<=d.room:=by have:=h.len d.l.length;rwa [iB] at this
theorem kQ (d:Dk):(jM d).1.safe=d.safe/\(jM d).1.l=d.l/\(jM d).1.room=d.room:=by
 unfold jM;split
 ·exact ⟨rfl,rfl,rfl⟩
 ·split<;>exact ⟨rfl,rfl,rfl⟩
theorem vS.ask {d:Dk} (h:vS d):vS (jM d).1:=by
 obtain ⟨e1,e2,e3⟩:=kQ d;refine ⟨by rw [e1];exact h.nd,by rw [e1,e2,e3];exact h.len,?_,?_,by rw [e3];exact h.r⟩
 ·unfold jM;have:=h.w;split
  ·simp
  ·split<;>exact this
 ·unfold jM;have:=h.f;split
  ·exact this
  ·split
   ·simp only;omega
   ·exact this
theorem vS.put {d:Dk} (h:vS d) (k:Int) (b:List Int):vS (mN d k b).1:=by
 have ha:=h.ask;obtain ⟨e1,e2,e3⟩:=kQ d;unfold mN;split
 ·exact ha
 ·split
  ·exact ha
  ·rename_i hr;refine ⟨by rw [e1];exact h.nd,λn=> ?_,ha.w,ha.f,ha.r⟩;rw [e1,e3];simp only;by_cases hn:n<=d.l.length
   ·rw [List.take_append_of_le_length hn];exact h.len n
   ·rw [fB (by simp;omega),List.foldl_append];show (nR (lay (uL d) (k,b)):Int)<=_;omega
theorem vS.sync {d:Dk} (h:vS d):vS (rK d).1:=by
 have ha:=h.ask;obtain ⟨e1,e2,e3⟩:=kQ d;unfold rK;split
 ·exact ha
 ·refine ⟨h.now,λn=> ?_,ha.w,ha.f,ha.r⟩;simp only [List.take_nil,List.foldl_nil];rw [e3];exact h.afM
open Classical in
noncomputable def Il {α:Type} (f:α->Int) (l:List α) (x:α):List α:=if ∃y ∈ l,f y=f x then l.map (λy=>if f y=f x then x else y) else l++ [x]
theorem G5 {α:Type} (f:α->Int) (x:α):∀{l:List α},(l.map f).Nodup->(Il f l x).Perm (x::l.filter λy=>decide (f y≠f x))
 | [],_=>by unfold Il;rw [if_neg bt];exact .refl _
 |y::t,h=>by
  have hn:=List.nodup_cons.1 h
  have ih:=G5 f x hn.2
  by_cases e:f y=f x
  ·have mV:∀z ∈ t,f z≠f x:=λz hz q=>hn.1 (bg.2 ⟨z,hz,q.trans e.symm⟩)
   unfold Il
   rw [if_pos ⟨y,.head _,e⟩,fT,if_pos e,List.filter_cons,if_neg (by simp [e])]
   rw [List.filter_eq_self.2 (λz hz=>by simpa using mV z hz)]
   have:t.map (λy=>if f y=f x then x else y)=t:=by
    conv=>rhs;rw [<-List.map_id t]
    exact List.map_congr_left λz hz=>by rw [if_neg (mV z hz)];rfl
   rw [this]
  ·rw [List.filter_cons,if_pos (by simp [e])];refine List.Perm.trans ?_ (List.Perm.swap _ _ _);refine List.Perm.trans ?_ (List.Perm.cons y ih);unfold Il;by_cases q:∃z ∈ t,f z=f x
   ·obtain ⟨z,hz,qz⟩:=q;rw [if_pos ⟨z,.tail _ hz,qz⟩,if_pos ⟨z,hz,qz⟩,fT,if_neg e]
   ·rw [if_neg (by
     rintro ⟨z,hz,qz⟩;rcases cH.1 hz with rfl|hz
     ·exact e qz
     ·exact q ⟨z,hz,qz⟩),if_neg q]
    exact .refl _
theorem Xe {α:Type} {f:α->Int} {l:List α} {x y:α} (h:y ∈ Il f l x):y=x\/y ∈ l:=by
 unfold Il at h;split at h
 ·obtain ⟨z,hz,e⟩:=bg.1 h;split at e
  ·exact .inl e.symm
  ·exact .inr (e▸hz)
 ·rcases dR.1 h with h|h
  ·exact .inr h
  ·exact .inl (by simpa using h)
theorem Xf {α:Type} {f:α->Int} {g:α->List Int} {l:List α} {s:List pJ} (x:α) (h:(l.map λy=>(f y,g y)).Perm s) (hn:(iz s).Nodup):((Il f l x).map λy=>(f y,g y)).Perm (lay s (f x,g x)):=by
 have hk:(l.map f).Nodup:=by have:=(h.map λy:pJ=>y.1).nodup_iff.2 hn;rwa [List.map_map] at this
 refine ((G5 f x hk).map _).trans ?_;refine List.Perm.trans ?_ (xg s (f x,g x)).symm;rw [fT];refine List.Perm.cons _ ?_;have:=h.filter λy=>decide (y.1≠f x)
 rw [List.filter_map] at this;exact this
abbrev Rc:=Int × Int × List Int
def kH (best:Rc) (slot:Int) (r:Int × List Int × Int):Rc:=if r.2.2=0/\r.1>best.2.1 then (slot,r.1,r.2.1) else best
def nH (D:Dk) (id:Int):Rc:=kH (kH (2*id+1,0,[]) (2*id) (qD (getD D (2*id)))) (2*id+1) (qD (getD D (2*id+1)))
def FN (id:Int):Bool:=decide (0<=id) && decide (id<=1099511627776)
def G6 (D:Dk) (id:Int):List Int × Int × Bool:=if FN id=true then ((nH D id).2.2,(nH D id).2.1,decide ((nH D id).2.1>0)) else ([],0,false)
def xh (D:Dk) (id:Int) (body:List Int):Dk × Int:=
 if FN id=true then
  if (Cp ((nH D id).2.1+1) body).2≠0 then (D,(Cp ((nH D id).2.1+1) body).2)
  else if (mN D (4*id+1-(nH D id).1) (Cp ((nH D id).2.1+1) body).1).2≠0 then mN D (4*id+1-(nH D id).1) (Cp ((nH D id).2.1+1) body).1
  else rK (mN D (4*id+1-(nH D id).1) (Cp ((nH D id).2.1+1) body).1).1
 else (D,1)
theorem abP (n:Nat):(2*n) ^^^ 1=2*n+1/\(2*n+1) ^^^ 1=2*n:=by
 have h1:=Nat.xor_div_two (a:=2*n) (b:=1);have par:∀a:Nat,(a ^^^ 1) % 2=1 ↔ ¬a % 2=1:=λa=>by have:=Nat.testBit_xor a 1 0;rw [Nat.testBit_zero,Nat.testBit_zero,Nat.testBit_zero] at this;simp only [Nat.reduceMod,decide_true,Bool.xor_true] at this;rw [<-decide_eq_true_iff (p:=(a ^^^ 1) % 2=1),this];simp
 have h2:=par (2*n);have h3:=Nat.xor_div_two (a:=2*n+1) (b:=1);have h4:=par (2*n+1);rw [show 1 / 2=0 from rfl,Nat.xor_zero] at h1 h3;omega
theorem Xg {id:Int} (h:0<=id/\id<=1099511627776):kz .i64 (2*id) 1=2*id+1/\kz .i64 (2*id+1) 1=2*id:=by
 have key:∀n:Nat,n<=2 ^ 60->kz .i64 (n:Int) 1=((n ^^^ 1:Nat):Int):=λn hn=>by
  show aj ((BitVec.ofInt 64 (n:Int) ^^^ BitVec.ofInt 64 1).toNat:Nat)=_;have e1:(BitVec.ofInt 64 (n:Int)).toNat=n:=by rw [BitVec.toNat_ofInt];simp only [show ((2 ^ 64:Nat):Int)=18446744073709551616 from rfl];omega
  rw [BitVec.toNat_xor,e1];show aj ((n ^^^ 1:Nat):Int)=_;have:n ^^^ 1<2 ^ 61:=Nat.xor_lt_two_pow aa aE;exact wI
 obtain ⟨x1,x2⟩:=abP id.toNat;constructor
 ·have:=key (2*id.toNat) aa;rw [x1] at this;rw [show 2*id=((2*id.toNat:Nat):Int) by omega,this];omega
 ·have:=key (2*id.toNat+1) aa;rw [x2] at this;rw [show 2*id+1=((2*id.toNat+1:Nat):Int) by omega,this];omega
theorem C5 {best:Rc} {slot:Int} {r:Int × List Int × Int}:(kH best slot r).1=best.1\/(kH best slot r).1=slot:=by
 unfold kH;split
 ·exact .inr rfl
 ·exact .inl rfl
theorem Xh (D:Dk) (id:Int):(nH D id).1=2*id\/(nH D id).1=2*id+1:=by
 unfold nH;rcases C5 (best:=kH (2*id+1,0,[]) (2*id) (qD (getD D (2*id)))) (slot:=2*id+1) (r:=qD (getD D (2*id+1))) with h|h
 ·rw [h];rcases C5 (best:=(2*id+1,0,[])) (slot:=2*id) (r:=qD (getD D (2*id))) with h|h
  ·exact .inr h
  ·exact .inl h
 ·exact .inr h
theorem afq (b:List Int):0<=(qD b).1/\(qD b).1<=1073741824:=by
 by_cases h:(qD b).2.2=0
 ·have:=aiW h;omega
 ·rw [(aiX h).1];omega
theorem RA {best:Rc} {slot:Int} (b:List Int) (h:0<=best.2.1/\best.2.1<=1073741824):0<=(kH best slot (qD b)).2.1/\(kH best slot (qD b)).2.1<=1073741824:=by
 unfold kH;split
 ·exact afq b
 ·exact h
theorem aiY (D:Dk) (id:Int):0<=(nH D id).2.1/\(nH D id).2.1<=1073741824:=RA _ (RA _ (show (0:Int)<=0/\(0:Int)<=1073741824 by decide))
theorem Xi (D:Dk):(jM D).1.l=D.l:=(kQ D).2.1
theorem Xj (D:Dk) (k:Int) (b:List Int):(mN D k b).1.l.length<=D.l.length+1:=by
 unfold mN;split
 ·rw [Xi];omega
 ·split
  ·rw [Xi];omega
  ·simp
theorem afr (D:Dk):(rK D).1.l.length<=D.l.length:=by
 unfold rK;split
 ·rw [Xi];omega
 ·simp
theorem Xk (D:Dk) (id:Int) (b:List Int):(xh D id b).1.l.length<=D.l.length+1:=by
 unfold xh;split
 ·split
  ·exact Nat.le_succ _
  ·split
   ·exact Xj _ _ _
   ·exact fY (afr _) (Xj _ _ _)
 ·exact Nat.le_succ _
theorem acg {room id:Int}:G6 ⟨room,0,0,[],[]⟩ id=([],0,false):=by unfold G6;split<;>rfl
end Go.dK
namespace Go.gw
open Go Go.Vc
abbrev Cl:=Int × Int × Int
abbrev It:=Int × Cl
def cv (c:Cl):Value:=.agg #[c.1,c.2.1,c.2.2]
def tv (t:Int):Value:=.int .i64 t
abbrev du (c:Cl):LV:=[.int .i64 c.1,.int .i64 c.2.1,.int .i64 c.2.2]
abbrev fE (x:It):LV:=[.int .i64 x.1,.int .i64 x.2.1,.int .i64 x.2.2.1,.int .i64 x.2.2.2]
theorem D3 {a b:Cl} (h:cv a=cv b):a=b:=by unfold cv at h;obtain ⟨a1,a2,a3⟩:=a;obtain ⟨b1,b2,b3⟩:=b;simp at h;obtain ⟨rfl,rfl,rfl⟩:=h;rfl
structure QS where
 room:Int
 lost:Int
 l:List It
def gd (l:List It) (c:Cl):List It:=l.filter λx=>x.2 !=c
def vV (l:List It) (x:It):List It:=l.takeWhile (λy=>y.1<=x.1)++x::l.dropWhile (λy=>y.1<=x.1)
def nV (l:List It) (c:Cl):Option Int:=(l.find? λx=>x.2==c).map (·.1)
def oy (q:QS) (c:Cl) (t:Int):QS × Bool:=
 match nV q.l c with
 |some was=>if was<=t then (q,false) else ({q with l:=vV (gd q.l c) (t,c)},true)
 |none=>if (q.l.length:Int)>=q.room then ({q with lost:=q.lost+1},false) else ({q with l:=vV q.l (t,c)},true)
def iG (l:List It) (now many:Int):Nat:=min (l.takeWhile λy=>y.1<=now).length many.toNat
def zZ (q:QS) (now many:Int):QS × List Cl:=({q with l:=q.l.drop (iG q.l now many)},(q.l.take (iG q.l now many)).map (·.2))
structure IZ (q:QS):Prop where
 room:1<=q.room/\q.room<=4096
 len:(q.l.length:Int)<=q.room
 sorted:q.l.Pairwise λa b=>a.1<=b.1
 nodup:(q.l.map (·.2)).Nodup
theorem Ag (l:List It) (c:Cl):(gd l c).Sublist l:=List.filter_sublist
theorem D4 {l:List It} {c:Cl} {t:Int} (h:nV l c=some t):(t,c) ∈ l:=by
 unfold nV at h
 cases hf:l.find? (λx=>x.2==c) with
 |none=>rw [hf] at h;cases h
 |some x=>
  rw [hf] at h;have h1:=List.find?_some hf;have h2:=List.mem_of_find?_eq_some hf;obtain ⟨a,b⟩:=x;simp at h h1;subst h;subst h1;exact h2
theorem qX {l:List It} {c:Cl} (h:nV l c=none):∀x ∈ l,x.2≠c:=by unfold nV at h;rw [Option.map_eq_none_iff,List.find?_eq_none] at h;intro x hx e;exact h x hx (by simp [e])
theorem Hw {l:List It} (h:l.Pairwise λa b=>a.1<=b.1) (t:Int):(∀y ∈ l.takeWhile (λy=>y.1<=t),y.1<=t)/\(∀y ∈ l.dropWhile (λy=>y.1<=t),t<y.1):=by
 induction l with
 |nil=>simp
 |cons a l ih=>
  rw [List.pairwise_cons] at h;by_cases ha:a.1<=t
  ·rw [List.takeWhile_cons_of_pos (by simpa using ha),List.dropWhile_cons_of_pos (by simpa using ha)];obtain ⟨i1,i2⟩:=ih h.2;refine ⟨λy hy=> ?_,i2⟩;rcases cH.1 hy with rfl|hy
   ·exact ha
   ·exact i1 y hy
  ·rw [List.takeWhile_cons_of_neg (by simpa using ha),List.dropWhile_cons_of_neg (by simpa using ha)];refine ⟨by simp,λy hy=> ?_⟩;rcases cH.1 hy with rfl|hy
   ·omega
   ·have:=h.1 y hy;omega
theorem xX {l:List It} (h:l.Pairwise λa b=>a.1<=b.1) (t:Int) {i:Nat} {y:It} (hi:l[i]? =some y):i<(l.takeWhile (λy=>y.1<=t)).length ↔ y.1<=t:=by
 have hs:=Hw h t;have e:=List.takeWhile_append_dropWhile (p:=λy:It=>decide (y.1<=t)) (l:=l);constructor
 ·intro gW;rw [<-e,nE gW] at hi;exact hs.1 y (aZ hi)
 ·intro hle;rcases Nat.lt_or_ge i (l.takeWhile (λy=>y.1<=t)).length with gW|QG
  ·exact gW
  ·rw [<-e,oK QG] at hi;have:=hs.2 y (aZ hi);omega
theorem acz (l:List It) (x:It):l.take (l.takeWhile λy=>decide (y.1<=x.1)).length++x::l.drop (l.takeWhile λy=>decide (y.1<=x.1)).length=vV l x:=by
 have h:∀(a b l:List It),a++b=l->l.take a.length++x::l.drop a.length=a++x::b:=by rintro a b _ rfl;simp
 exact h _ _ _ (List.takeWhile_append_dropWhile (p:=λy:It=>decide (y.1<=x.1)) (l:=l))
theorem LI (l:List It) (x:It):(vV l x).length=l.length+1:=by have e:=congrArg List.length (List.takeWhile_append_dropWhile (p:=λy:It=>decide (y.1<=x.1)) (l:=l));unfold vV;simp only [dc,dv] at e ⊢;omega
theorem D5 (l:List It) (x y:It):y ∈ vV l x ↔ y=x\/y ∈ l:=by
 unfold vV;conv=>rhs;rw [<-List.takeWhile_append_dropWhile (p:=λy:It=>decide (y.1<=x.1)) (l:=l)]
 simp only [dR,cH];constructor
 ·rintro (h|h|h)
  ·exact .inr (.inl h)
  ·exact .inl h
  ·exact .inr (.inr h)
 ·rintro (h|h|h)
  ·exact .inr (.inl h)
  ·exact .inl h
  ·exact .inr (.inr h)
theorem Bc {l:List It} (h:l.Pairwise λa b=>a.1<=b.1) (x:It):(vV l x).Pairwise λa b=>a.1<=b.1:=by
 have hs:=Hw h x.1;have e:=List.takeWhile_append_dropWhile (p:=λy:It=>decide (y.1<=x.1)) (l:=l);unfold vV;rw [<-e,List.pairwise_append] at h;rw [List.pairwise_append];refine ⟨h.1,List.pairwise_cons.2 ⟨λy hy=>by have:=hs.2 y hy;omega,h.2.1⟩,λa ha b hb=> ?_⟩;rcases cH.1 hb with rfl|hb
 ·exact hs.1 a ha
 ·exact h.2.2 a ha b hb
theorem D6 {l:List It} (h:(l.map (·.2)).Nodup) {x:It} (hx:∀y ∈ l,y.2≠x.2):((vV l x).map (·.2)).Nodup:=by
 have e:=List.takeWhile_append_dropWhile (p:=λy:It=>decide (y.1<=x.1)) (l:=l);unfold vV;have hx':∀y ∈ l.takeWhile (λy=>y.1<=x.1)++l.dropWhile (λy=>y.1<=x.1),y.2≠x.2:=by rw [e];exact hx
 rw [<-e,bZ,List.nodup_append] at h;rw [bZ,fT,List.nodup_append];refine ⟨h.1,List.nodup_cons.2 ⟨λhm=> ?_,h.2.1⟩,λa ha b hb=> ?_⟩
 ·obtain ⟨y,hy,e⟩:=bg.1 hm;exact hx' y (List.mem_append_right _ hy) e
 ·rcases cH.1 hb with rfl|hb
  ·obtain ⟨y,hy,rfl⟩:=bg.1 ha;exact hx' y (List.mem_append_left _ hy)
  ·exact h.2.2 a ha b hb
theorem IZ.add {q:QS} (h:IZ q) (c:Cl) (t:Int):IZ (oy q c t).1:=by
 unfold oy;split
 ·rename_i was hw;split
  ·exact h
  ·have eM:=Ag q.l c;have gW:(gd q.l c).length<q.l.length:=by
    have hm:=D4 hw;have:(gd q.l c).length≠q.l.length:=λe=>by have:=eM.eq_of_length e;rw [<-this] at hm;unfold gd at hm;simp at hm
    have:=eM.length_le;omega
   have:=h.len;exact ⟨h.room,by rw [LI];show ((_:Nat):Int)<=q.room;omega,Bc (h.sorted.sublist eM) _,D6 ((eM.map _).nodup h.nodup) (λy hy=>by unfold gd at hy;simp at hy;exact hy.2)⟩
 ·rename_i hn;split
  ·exact ⟨h.room,h.len,h.sorted,h.nodup⟩
  ·exact ⟨h.room,by rw [LI];show ((_:Nat):Int)<=q.room;omega,Bc h.sorted _,D6 h.nodup (qX hn)⟩
theorem IZ.drop {q:QS} (h:IZ q) (c:Cl):IZ {q with l:=gd q.l c}:=by have eM:=Ag q.l c;have:=eM.length_le;have:=h.len;exact ⟨h.room,by show ((gd q.l c).length:Int)<=q.room;omega,h.sorted.sublist eM,(eM.map _).nodup h.nodup⟩
theorem IZ.due {q:QS} (h:IZ q) (now many:Int):IZ (zZ q now many).1:=by have eM:(q.l.drop (iG q.l now many)).Sublist q.l:=List.drop_sublist _ _;have:=eM.length_le;have:=h.len;exact ⟨h.room,by show ((q.l.drop (iG q.l now many)).length:Int)<=q.room;omega,h.sorted.sublist eM,(eM.map _).nodup h.nodup⟩
theorem Hq (q:QS) (c:Cl) (t:Int):q.lost<=(oy q c t).1.lost/\(oy q c t).1.lost<=q.lost+1:=by
 unfold oy;split
 ·split<;>exact ⟨Int.le_refl _,by show q.lost<=q.lost+1;omega⟩
 ·split
  ·exact ⟨by show q.lost<=q.lost+1;omega,Int.le_refl _⟩
  ·exact ⟨Int.le_refl _,by show q.lost<=q.lost+1;omega⟩
theorem Uw {q:QS} (h:IZ q) (now many:Int) {k:Nat} {x:It} (hx:q.l[k]? =some x):k<iG q.l now many ↔(k:Int)<many/\x.1<=now:=by have:=xX h.sorted now hx;unfold iG;rw [<-this];omega
theorem Ux (l:List It) (now many:Int):iG l now many<=l.length:=by have:=(List.takeWhile_sublist (λy:It=>decide (y.1<=now)) (l:=l)).length_le;unfold iG;omega
end Go.gw
namespace Go.gw
end Go.gw
namespace Go.fV
open Go Go.Vc Go.dK Go.gw
abbrev Cg:=Ce × Int
def qH (b:Int):Bool:=decide (8<=b) && decide (b<16)
def jj (b:Int):Int:=if b=3 then 2 else if qH b then 5 else 0
def fR (b:Int):Int:=if qH b then b-8 else -1
def jO (l:Int):Int:=8+min (max l 0) 7
def lq (b:Int):Bool:=decide (b=0)||qH b
def eX (c:Ce):Ce:=(c.1,c.2.1-1,c.2.2)
def Bh (c:Ce):Ce:=(c.1,c.2.1+1,c.2.2)
def db (c:Ce):List Ce:=[(c.1-1,c.2.1,c.2.2),(c.1+1,c.2.1,c.2.2),(c.1,c.2.1,c.2.2-1),(c.1,c.2.1,c.2.2+1)]
def pw (c:Ce):List Ce:=[(c.1-1,c.2.1,c.2.2),(c.1+1,c.2.1,c.2.2),eX c,Bh c,(c.1,c.2.1,c.2.2-1),(c.1,c.2.1,c.2.2+1)]
def qV (V:Ce->Int) (c:Ce):List Ce:=(c::pw c).filter λn=>decide (0<jj (V n))
def DU (V:Ce->Int) (now:Int) (q:QS) (c:Ce):QS:=(qV V c).foldl (λq n=>(oy q n (now+jj (V n))).1) q
def Is (V:Ce->Int) (l:List Ce):Int:=l.foldl (λm n=>if 0<=fR (V n) then min m (fR (V n)) else m) 7
def gD (V:Ce->Int) (c:Ce):Int × Bool:=if qH (V (Bh c)) then (1,true) else if Is V (db c)=7 then (0,false) else (Is V (db c)+1,true)
def Mu (V:Ce->Int) (c:Ce):List Cg:=if lq (V (eX c)) then [(c,V (eX c)),(eX c,3)] else []
def mj (V:Ce->Int) (c:Ce) (level:Int):List Cg:=
 if 0<level/\(gD V c).2=false then [(c,0)]
 else if 0<level/\(gD V c).1≠level then [(c,jO (gD V c).1)]
 else if V (eX c)=0 then [(eX c,jO 1)]
 else if qH (V (eX c))=true\/7<=level then []
 else ((db c).filter λn=>decide (V n=0)).map λn=>(n,jO (level+1))
def iY (V:Ce->Int) (c:Ce):List Cg:=if V c=3 then Mu V c else if qH (V c) then mj V c (fR (V c)) else []
end Go.fV
namespace Go.ku
open Go Go.Vc Go.dK
abbrev Bx:=Ce × Ce
def dP (n:Int):Int:=min (max n (-140737488355328)) 140737488355328
def mP (a b:Int):Int:=dP (dP a+dP b)
def pN (a b:Int):Int:=dP (dP a-dP b)
def cW (n:Int):Int:=dP n / 65536
def pP (n:Int):Int:=dP n % 65536
def px (n:Int):Int:=min (max n (-2147483648)) 2147483648*65536
theorem jG (n:Int): -140737488355328<=dP n/\dP n<=140737488355328:=by unfold dP;omega
theorem zJ (n:Int): -2147483648<=cW n/\cW n<=2147483648:=by have:=jG n;unfold cW;omega
theorem qO {n:Int} (h: -140737488355328<=n/\n<=140737488355328):dP n=n:=by unfold dP;omega
def di (v:Ce) (i:Int):Int:=if i=0 then v.1 else if i=1 then v.2.1 else if i=2 then v.2.2 else 0
def TI (f:Int->Int->Int) (v:Ce):Ce:=(f 0 v.1,f 1 v.2.1,f 2 v.2.2)
def jW (a b:Ce):Ce:=TI (λi n=>mP n (di b i)) a
def zD (a b:Ce):Ce:=TI (λi n=>pN n (di b i)) a
def iD (v:Ce) (ax n:Int):Ce:=TI (λi own=>if i=ax then dP n else own) v
def vC (aH:Ce) (w h:Int):Bx:=(zD aH (max w 0 / 2,0,max w 0 / 2),jW aH (max w 0 / 2,max h 0,max w 0 / 2))
def bu (v:Ce):Ce:=(cW v.1,cW v.2.1,cW v.2.2)
def pO (b:Bx) (i:Int):Bool:=decide (di b.1 i=di b.2 i) && decide (pP (di b.1 i)=0)
abbrev Ds (b:Bx):Ce:=bu (jW b.2 (-1,-1,-1))
def gP (b:Bx):Ce:=(if b.1.1=b.2.1 then (bu b.1).1 else (Ds b).1,if b.1.2.1=b.2.2.1 then (bu b.1).2.1 else (Ds b).2.1,if b.1.2.2=b.2.2.2 then (bu b.1).2.2 else (Ds b).2.2)
def AY (b:Bx):Bool:= !(pO b 0||pO b 1||pO b 2)
def cK (a b:Int):Nat:=(b-a+1).toNat
def KY (a b:Ce):List Ce:=(List.range (cK a.2.1 b.2.1*cK a.2.2 b.2.2*cK a.1 b.1)).map λk:Nat=>
 (a.1+((k % cK a.1 b.1:Nat):Int),a.2.1+((k / cK a.1 b.1 / cK a.2.2 b.2.2:Nat):Int),a.2.2+((k / cK a.1 b.1 % cK a.2.2 b.2.2:Nat):Int))
def kV (b:Bx):List Ce:=if AY b then KY (bu b.1) (gP b) else []
def jN (V:Ce->Int) (b:Bx) (p:Int->Bool):Bool:=(kV b).any λc=>p (V c)
def iA (b:Bx):Bx:=(iD b.1 1 (pN b.1.2.1 1),iD b.2 1 b.1.2.1)
theorem ui (v:Ce):(-2147483648<=(bu v).1/\(bu v).1<=2147483648)/\(-2147483648<=(bu v).2.1/\(bu v).2.1<=2147483648)/\-2147483648<=(bu v).2.2/\(bu v).2.2<=2147483648:=⟨zJ _,zJ _,zJ _⟩
theorem RM (b:Bx):(-2147483648<=(gP b).1/\(gP b).1<=2147483648)/\(-2147483648<=(gP b).2.1/\(gP b).2.1<=2147483648)/\-2147483648<=(gP b).2.2/\(gP b).2.2<=2147483648:=by have h1:=ui b.1;have h2:=ui (jW b.2 (-1,-1,-1));unfold gP Ds;simp only;refine ⟨?_,?_,?_⟩<;>split<;>omega
theorem RN {a b i n:Nat} (h:i<n) (ha:a<b):a*n+i<b*n:=by have:=Nat.mul_le_mul_right n (show a+1<=b from ha);rw [Nat.add_mul,Nat.one_mul] at this;omega
theorem RO {a i n:Nat} (h:i<n):(a*n+i) % n=i/\(a*n+i) / n=a:=by
 constructor
 ·rw [Nat.mul_add_mod',Nat.mod_eq_of_lt h]
 ·rw [Nat.add_comm,Nat.add_mul_div_right _ _ aa,Nat.div_eq_of_lt h,eB]
theorem ab6 (a b:Ce) {jy jz jx:Nat} (hy:jy<cK a.2.1 b.2.1) (hz:jz<cK a.2.2 b.2.2) (hx:jx<cK a.1 b.1):
  (KY a b)[(jy*cK a.2.2 b.2.2+jz)*cK a.1 b.1+jx]? =some (a.1+(jx:Int),a.2.1+(jy:Int),a.2.2+(jz:Int)):=by
 unfold KY;rw [aS,List.getElem?_range (RN hx (RN hz hy))];obtain ⟨h1,h2⟩:=RO (a:=jy*cK a.2.2 b.2.2+jz) hx;obtain ⟨h3,h4⟩:=RO (a:=jy) hz;simp only [Option.map_some,h1,h2,h3,h4]
theorem XG (a b:Ce):(KY a b).length=cK a.2.1 b.2.1*cK a.2.2 b.2.2*cK a.1 b.1:=by unfold KY;simp
theorem XH {a b c:Ce} (h:c ∈ KY a b):(a.1<=c.1/\c.1<=b.1)/\(a.2.1<=c.2.1/\c.2.1<=b.2.1)/\a.2.2<=c.2.2/\c.2.2<=b.2.2:=by
 unfold KY at h;obtain ⟨k,hk,rfl⟩:=bg.1 h;have hk:=List.mem_range.1 hk;have hx:0<cK a.1 b.1:=by
  by_cases q:cK a.1 b.1=0
  ·rw [q,Nat.mul_zero] at hk;omega
  ·omega
 have hz:0<cK a.2.2 b.2.2:=by
  by_cases q:cK a.2.2 b.2.2=0
  ·rw [q,Nat.mul_zero,Nat.zero_mul] at hk;omega
  ·omega
 have h1:=Nat.mod_lt k hx;have h2:=Nat.mod_lt (k / cK a.1 b.1) hz;have h3:k / cK a.1 b.1 / cK a.2.2 b.2.2<cK a.2.1 b.2.1:=by rw [Nat.div_div_eq_div_mul];refine Nat.div_lt_of_lt_mul ?_;rw [Nat.mul_comm (cK a.1 b.1),Nat.mul_comm,<-Nat.mul_assoc];exact hk
 generalize k % cK a.1 b.1=p1 at*;generalize k / cK a.1 b.1 / cK a.2.2 b.2.2=p2 at*;generalize k / cK a.1 b.1 % cK a.2.2 b.2.2=p3 at*;unfold cK at*;simp only;omega
def Hj (n:Int):Int:=min (max n (-65536)) 65536 / 4
def yk (n:Int):Int:=min (max n (-70368744177664)) 70368744177664
def pV (aH d:Ce):Ce:=zD (yk (jW aH d).1,yk (jW aH d).2.1,yk (jW aH d).2.2) aH
def lO (h:Bool × Bool × Bool) (v:Ce):Ce:=(λv=>if h.2.2 then iD v 2 0 else v) ((λv=>if h.2.1 then iD v 1 0 else v) (if h.1 then iD v 0 0 else v))
def DA (b:Bx) (ax k:Int):Bx:=(iD b.1 ax (px k),iD b.2 ax (px (k+1)))
def nQ (d:Int):Int:=min (max d (-4194304)) 4194304
def Yx (top d k:Int):Nat:=((top+d-k*65536+65535) / 65536).toNat
def tE (low d k:Int):Nat:=(((k+1)*65536-(low+d)+65535) / 65536).toNat
def eF (b:Bx) (ax d:Int):List (Int × Int):=
 if 0<d then (List.range (Yx (di b.2 ax) d (cW (di b.2 ax+65535)))).map λi:Nat=>(cW (di b.2 ax+65535)+i,(cW (di b.2 ax+65535)+i)*65536-di b.2 ax)
 else (List.range (tE (di b.1 ax) d (cW (di b.1 ax)-1))).map λi:Nat=>(cW (di b.1 ax)-1-i,(cW (di b.1 ax)-1-i+1)*65536-di b.1 ax)
def oT (V:Ce->Int) (p:Int->Bool) (b:Bx) (ax d:Int):Int × Bool:=
 match (eF b ax (nQ d)).find? (λx=>jN V (DA b ax x.1) p) with
 |some x=>(x.2,true)
 |none=>(nQ d,false)
def XJ (b:Bx) (v:Ce):Bx:=(jW b.1 v,jW b.2 v)
def cD (V:Ce->Int) (p:Int->Bool) (b:Bx) (ax d:Int):Bx × Bool:=(XJ b (iD (0,0,0) ax (oT V p b ax d).1),(oT V p b ax d).2)
def dh (b:Bx) (m:Int):Prop:=((-m<=b.1.1/\b.1.1<=m)/\(-m<=b.1.2.1/\b.1.2.1<=m)/\-m<=b.1.2.2/\b.1.2.2<=m)/\(-m<=b.2.1/\b.2.1<=m)/\(-m<=b.2.2.1/\b.2.2.1<=m)/\-m<=b.2.2.2/\b.2.2.2<=m
theorem dh.ax {b:Bx} {m:Int} (h:dh b m) (hm:0<=m) (i:Int):(-m<=di b.1 i/\di b.1 i<=m)/\-m<=di b.2 i/\di b.2 i<=m:=by unfold dh at h;unfold di;refine ⟨?_,?_⟩<;>(repeat' split)<;>omega
theorem acH {top d k:Int} {i:Nat} (h:top+d-k*65536<=100000000):(k+(i:Int))*65536<top+d ↔ i<Yx top d k:=by unfold Yx;omega
theorem UH {low d k:Int} {i:Nat}:low+d<(k-(i:Int)+1)*65536 ↔ i<tE low d k:=by unfold tE;omega
theorem IP (d:Int): -4194304<=nQ d/\nQ d<=4194304:=by unfold nQ;omega
theorem Lq {b:Bx} {ax d:Int} (hb:dh b 100000000000000) (hd: -4194304<=d/\d<=4194304):∀x ∈ eF b ax d,(-1525900000<=x.1/\x.1<=1525900000)/\-4194304<=x.2/\x.2<=4194304:=by
 have hn:=hb.ax aE ax;have c1:=qO (n:=di b.2 ax+65535) aa;have c2:=qO (n:=di b.1 ax) aa;intro x hx;unfold eF at hx;split at hx
 ·obtain ⟨i,hi,rfl⟩:=bg.1 hx;have hi:=List.mem_range.1 hi;unfold Yx at hi;unfold cW at hi ⊢;rw [c1] at hi ⊢;simp only;omega
 ·obtain ⟨i,hi,rfl⟩:=bg.1 hx;have hi:=List.mem_range.1 hi;unfold tE at hi;unfold cW at hi ⊢;rw [c2] at hi ⊢;simp only;omega
theorem RK {V:Ce->Int} {p:Int->Bool} {b:Bx} {ax d:Int} (hb:dh b 100000000000000): -4194304<=(oT V p b ax d).1/\(oT V p b ax d).1<=4194304:=by
 unfold oT;split
 ·rename_i x hx;exact (Lq hb (IP d) x (List.mem_of_find?_eq_some hx)).2
 ·exact IP d
theorem iQ {a n m k:Int} (ha: -m<=a/\a<=m) (hn: -k<=n/\n<=k) (VX:m+k<=140737488355328):mP a n=a+n/\-(m+k)<=mP a n/\mP a n<=m+k:=by unfold mP dP;omega
theorem UZ {b:Bx} {v:Ce} {m k:Int} (hb:dh b m) (hv:(-k<=v.1/\v.1<=k)/\(-k<=v.2.1/\v.2.1<=k)/\-k<=v.2.2/\v.2.2<=k) (VX:m+k<=140737488355328):dh (XJ b v) (m+k):=by unfold dh at hb ⊢;obtain ⟨⟨h1,h2,h3⟩,h4,h5,h6⟩:=hb;obtain ⟨v1,v2,v3⟩:=hv;exact ⟨⟨(iQ h1 v1 VX).2,(iQ h2 v2 VX).2,(iQ h3 v3 VX).2⟩,(iQ h4 v1 VX).2,(iQ h5 v2 VX).2,(iQ h6 v3 VX).2⟩
theorem He {ax n k:Int} (hn: -k<=n/\n<=k) (hk:0<=k):(-k<=(iD (0,0,0) ax n).1/\(iD (0,0,0) ax n).1<=k)/\(-k<=(iD (0,0,0) ax n).2.1/\(iD (0,0,0) ax n).2.1<=k)/\-k<=(iD (0,0,0) ax n).2.2/\(iD (0,0,0) ax n).2.2<=k:=by
 have hc: -k<=dP n/\dP n<=k:=by unfold dP;omega
 unfold iD TI;simp only;refine ⟨?_,?_,?_⟩<;>split<;>omega
theorem dO {V:Ce->Int} {p:Int->Bool} {b:Bx} {ax d m:Int} (hb:dh b m) (hm:m<=100000000000000):dh (cD V p b ax d).1 (m+4194304):=by
 have hb':dh b 100000000000000:=by unfold dh at hb ⊢;omega
 exact UZ hb (He (RK hb') aE) aa
def kI (V:Ce->Int) (p:Int->Bool) (b:Bx) (d:Ce):Bx ×(Bool × Bool × Bool):=
 let y:=cD V p b 1 d.2.1
 let x:=cD V p y.1 0 d.1
 let z:=cD V p x.1 2 d.2.2
 (z.1,(x.2,y.2,z.2))
theorem Iy {V:Ce->Int} {p:Int->Bool} {b:Bx} {d:Ce} {m:Int} (hb:dh b m) (hm:m<=99990000000000):dh (kI V p b d).1 (m+12582912):=by
 have h1:=dO (V:=V) (p:=p) (ax:=1) (d:=d.2.1) hb aa;have h2:=dO (V:=V) (p:=p) (ax:=0) (d:=d.1) h1 aa;have h3:=dO (V:=V) (p:=p) (ax:=2) (d:=d.2.2) h2 aa;have:m+4194304+4194304+4194304=m+12582912:=by omega
 rw [this] at h3;exact h3
def xZ (a b:Bx):Int:=max (b.1.1-a.1.1) (-(b.1.1-a.1.1))+max (b.1.2.2-a.1.2.2) (-(b.1.2.2-a.1.2.2))
def lK (V:Ce->Int) (p:Int->Bool) (b:Bx) (d:Ce) (up:Int):Bx ×(Bool × Bool × Bool):=
 let m:=kI V p b d
 if (!m.2.1 && !m.2.2.2)||decide (up<=0)|| !jN V (iA b) p then m
 else
  let high:=cD V p b 1 (min up 65536)
  let x:=cD V p high.1 0 d.1
  let z:=cD V p x.1 2 d.2.2
  let y:=cD V p z.1 1 (-(high.1.1.2.1-b.1.2.1))
  if xZ b y.1<=xZ b m.1 then m else (y.1,(x.2,true,z.2))
def jv (a:Ce) (m:Int):Prop:=(-m<=a.1/\a.1<=m)/\(-m<=a.2.1/\a.2.1<=m)/\-m<=a.2.2/\a.2.2<=m
def uG (a b:Ce) (k:Int):Prop:=(-k<=b.1-a.1/\b.1-a.1<=k)/\(-k<=b.2.1-a.2.1/\b.2.1-a.2.1<=k)/\-k<=b.2.2-a.2.2/\b.2.2-a.2.2<=k
theorem uG.tr {a b c:Ce} {k n:Int} (h:uG a b k) (h':uG b c n):uG a c (k+n):=by unfold uG at*;omega
theorem uG.up {a b:Ce} {k n:Int} (h:uG a b k) (hn:k<=n):uG a b n:=by unfold uG at*;omega
theorem dh.lo {b:Bx} {m:Int} (h:dh b m):jv b.1 m:=h.1
theorem dh.up {b:Bx} {m n:Int} (h:dh b m) (hmn:m<=n):dh b n:=by unfold dh at h ⊢;omega
theorem jv.up {b:Ce} {m n:Int} (h:jv b m) (hmn:m<=n):jv b n:=by unfold jv at h ⊢;omega
theorem RJ {a v:Ce} {m k:Int} (ha:jv a m) (hv:(-k<=v.1/\v.1<=k)/\(-k<=v.2.1/\v.2.1<=k)/\-k<=v.2.2/\v.2.2<=k) (VX:m+k<=140737488355328):jv (jW a v) (m+k)/\uG a (jW a v) k:=by obtain ⟨h1,h2,h3⟩:=ha;obtain ⟨v1,v2,v3⟩:=hv;have q1:=iQ h1 v1 VX;have q2:=iQ h2 v2 VX;have q3:=iQ h3 v3 VX;have e1:(jW a v).1=mP a.1 v.1:=rfl;have e2:(jW a v).2.1=mP a.2.1 v.2.1:=rfl;have e3:(jW a v).2.2=mP a.2.2 v.2.2:=rfl;unfold jv uG;rw [e1,e2,e3];omega
theorem kU {V:Ce->Int} {p:Int->Bool} {b:Bx} {ax d m:Int} (hb:dh b m) (hm:m<=100000000000000):uG b.1 (cD V p b ax d).1.1 4194304:=by have hb':dh b 100000000000000:=hb.up hm;exact (RJ hb.lo (He (RK hb') aE) aa).2
theorem KG {V:Ce->Int} {p:Int->Bool} {b:Bx} {d:Ce} {m:Int} (hb:dh b m) (hm:m<=99990000000000):uG b.1 (kI V p b d).1.1 12582912:=by have h1:=dO (V:=V) (p:=p) (ax:=1) (d:=d.2.1) hb aa;have h2:=dO (V:=V) (p:=p) (ax:=0) (d:=d.1) h1 aa;have o1:=kU (V:=V) (p:=p) (ax:=1) (d:=d.2.1) hb aa;have o2:=kU (V:=V) (p:=p) (ax:=0) (d:=d.1) h1 aa;have o3:=kU (V:=V) (p:=p) (ax:=2) (d:=d.2.2) h2 aa;exact ((o1.tr o2).tr o3).up aE
theorem Xw {V:Ce->Int} {p:Int->Bool} {b:Bx} {d:Ce} {up m:Int} (hb:dh b m) (hm:m<=99980000000000):uG b.1 (lK V p b d up).1.1 16777216/\dh (lK V p b d up).1 (m+16777216):=by
 have mo:=KG (V:=V) (p:=p) (d:=d) hb aa;have mn:=Iy (V:=V) (p:=p) (d:=d) hb aa;have h1:=dO (V:=V) (p:=p) (ax:=1) (d:=min up 65536) hb aa;have h2:=dO (V:=V) (p:=p) (ax:=0) (d:=d.1) h1 aa;have h3:=dO (V:=V) (p:=p) (ax:=2) (d:=d.2.2) h2 aa;have h4:=dO (V:=V) (p:=p) (ax:=1) (d:= -((cD V p b 1 (min up 65536)).1.1.2.1-b.1.2.1)) h3 aa;have o1:=kU (V:=V) (p:=p) (ax:=1) (d:=min up 65536) hb aa;have o2:=kU (V:=V) (p:=p) (ax:=0) (d:=d.1) h1 aa;have o3:=kU (V:=V) (p:=p) (ax:=2) (d:=d.2.2) h2 aa;have o4:=kU (V:=V) (p:=p) (ax:=1) (d:= -((cD V p b 1 (min up 65536)).1.1.2.1-b.1.2.1)) h3 aa;have o:=((o1.tr o2).tr o3).tr o4;unfold lK;simp only;split
 ·exact ⟨mo.up aE,mn.up aa⟩
 ·split
  ·exact ⟨mo.up aE,mn.up aa⟩
  ·exact ⟨o.up aE,h4.up aa⟩
theorem O4 {aH:Ce} {wd ht m:Int} (hf:jv aH m) (hw:0<=wd/\wd<=1000000) (hh:0<=ht/\ht<=1000000) (hm:m+1000000<=140737488355328):dh (vC aH wd ht) (m+1000000):=by
 have AA:0<=max wd 0 / 2/\max wd 0 / 2<=1000000:=by omega
 have hh2:0<=max ht 0/\max ht 0<=1000000:=by omega
 generalize hq:max wd 0 / 2=q at*;generalize hr:max ht 0=r at*;obtain ⟨h1,h2,h3⟩:=hf;have e:vC aH wd ht=((pN aH.1 q,pN aH.2.1 0,pN aH.2.2 q),(mP aH.1 q,mP aH.2.1 r,mP aH.2.2 q)):=by unfold vC;rw [hq,hr];rfl
 rw [e];unfold dh pN mP dP;simp only;omega
theorem KH {aH b c:Ce} {m n k:Int} (hf:jv aH m) (hb:jv b n) (hc:jv c n) (ho:uG b c k) (hn:n<=140737488355328) (hk:0<=k) (VX:m+k<=140737488355328):jv (jW aH (zD c b)) (m+k):=by
 have hm:0<=m:=by unfold jv at hf;omega
 refine (RJ hf ?_ VX).1;have e1:(zD c b).1=pN c.1 b.1:=rfl;have e2:(zD c b).2.1=pN c.2.1 b.2.1:=rfl;have e3:(zD c b).2.2=pN c.2.2 b.2.2:=rfl;rw [e1,e2,e3];unfold uG at ho;unfold jv at hb hc;unfold pN dP;omega
end Go.ku
namespace Go.Proofs.YtkkkfkopcfdmaaaGreatDoor
open Go Go.Vc Go.RowKit Go.Proofs
def cG (n m:Int):Int:=if n<0 then (-(n+1)) % m else n % m
theorem gz (n m:Int) (w:World) (hn:bS n) (hm:0<m) (hm':bS m):
  ah 10 #[n,m] w λe w'=>e=Value.int .i64 (cG n m)/\w'=w:=by
 apply IL.vc;unfold cG;unfold bS at hn hm';apply Br.mk<;>intro h<;>simp at h
 ·have e1:aj (n+1)=n+1:=wI;have e2:aj (0-(n+1))= -(n+1):=by rw [wI];omega
  rw [e1,e2,if_pos h];refine Rw.2 ⟨by omega,?_,rfl⟩;rw [Int.tmod_eq_emod_of_nonneg aa]
 ·rw [if_neg aa];refine Rw.2 ⟨by omega,?_,rfl⟩;rw [Int.tmod_eq_emod_of_nonneg aa]
theorem cJ (n m:Int) (hm:0<m):0<=cG n m/\cG n m<m:=by
 unfold cG;split
 ·exact ⟨Int.emod_nonneg _ aa,Int.emod_lt_of_pos _ hm⟩
 ·exact ⟨Int.emod_nonneg _ aa,Int.emod_lt_of_pos _ hm⟩
def cX (b:Int):Bool:=decide (0<=b) && decide (b<=15) && b !=6 && b !=7
def aI (b:Int):Bool:=b== -1||b==1||b==2||b==3||b==5
def Zb (n:Int):Int:=if cG n 14>5 then cG n 14+2 else cG n 14
def nmT:List ByteArray:=[⟨#[97,105,114]⟩,⟨#[115,116,111,110,101]⟩,⟨#[100,105,114,116]⟩,⟨#[115,97,110,100]⟩,⟨#[108,97,100,100,101,114]⟩,⟨#[103,108,97,115,115]⟩,⟨#[]⟩,⟨#[]⟩,
 ⟨#[119,97,116,101,114,48]⟩,⟨#[119,97,116,101,114,49]⟩,⟨#[119,97,116,101,114,50]⟩,⟨#[119,97,116,101,114,51]⟩,⟨#[119,97,116,101,114,52]⟩,⟨#[119,97,116,101,114,53]⟩,⟨#[119,97,116,101,114,54]⟩,⟨#[119,97,116,101,114,55]⟩]
def xV (b:Int):ByteArray:=if b<0 then ⟨#[]⟩ else nmT.getD b.toNat ⟨#[]⟩
theorem DE (b:Int) (w:World):ah 111 #[b] w λe w'=>e=Value.bool (cX b)/\w'=w:=by apply TW.vc;unfold cX;refine Br.mk (λh=>Br.mk (λh2=>Br.mk (λh3=> ?_) (λh3=> ?_)) (λh2=> ?_)) (λh=> ?_)<;>simp_all<;>omega
theorem Ak (b:Int) (w:World):ah 114 #[b] w λe w'=>e=Value.bool (aI b)/\w'=w:=by
 apply Lh.vc;unfold aI
 repeat' (first|apply Br.mk<;>intro h)
 all_goals simp_all
theorem pR (b:Int) (w:World):ah 103 #[b] w λe w'=>e=Value.bool (aI b)/\w'=w:=by
 apply Lg.vc;unfold aI
 repeat' (first|apply Br.mk<;>intro h)
 all_goals simp_all
theorem B1 (n:Int) (w:World) (hn:bS n):ah 110 #[n] w λe w'=>e=Value.int .i64 (Zb n)/\w'=w:=by
 apply Pv.vc;unfold Zb;refine (gz n 14 w hn aa (by unfold bS;omega)).mono ?_;rintro e w' ⟨rfl,rfl⟩;have:=cJ n 14 aa;refine ⟨_,rfl,Br.mk (λh=> ?_) (λh=> ?_)⟩<;>simp at h
 ·rw [if_pos h,wI];exact ⟨rfl,rfl⟩
 ·rw [if_neg aa];exact ⟨rfl,rfl⟩
theorem kR (n:Int) (w:World) (hn:bS n):ah 302 #[n] w λe w'=>e=Value.int .i64 (8+min (max n 0) 7)/\w'=w:=by apply La.vc;rw [aK (by unfold bS;split<;>split<;>omega)];refine ⟨?_,rfl⟩;congr 2;split<;>split<;>omega
def aoC:ByteArray:=⟨#[48,49,50,51,52,53,54,55,56,57,97,98,99,100,101,102,103,104,105,106,107,108,109,110,111,112,113,114,115,116,117,118,119,120,121,122]⟩
def PG (n:Int):ByteArray:=aoC.extract n.toNat (n+1).toNat
theorem QF (n:Int) (w:World) (h0:0<=n) (h1:n<10):ah 314 #[n] w λe w'=>e=Value.string (PG n)/\w'=w:=by
 apply qQ.vc;rw [wI];apply Br.mk<;>intro h<;>simp at h
 ·refine ⟨by omega,?_,by omega,by omega,rfl,rfl⟩;show n+1<=36;omega
 ·omega
set_option maxRecDepth 10000 in
theorem EM (n:Int) (w:World) (h0:0<=n) (h1:n<10):ah 308 #[n,(10:Int)] w λe w'=>e=Value.string (PG n)/\w'=w:=by
 have h10:n<100:=by omega
 have hs:ah 314 #[n] w (λe w'=>e=Value.string (PG n)/\w'=w):=QF n w h0 h1;go_enter Tryz.func308,Tryz.ntmps308;go_wp2_with (go_at_call 314;refine hs.mono ?_;rintro e w' ⟨rfl,rfl⟩);go_ret;exact ⟨rfl,rfl⟩
theorem Ug (n:Int) (w:World) (h0:0<=n) (h1:n<10):ah 267 #[n] w λe w'=>e=Value.string (PG n)/\w'=w:=by
 apply IM.vc;refine Calls.mono (sC.vc (R:=λe w'=>e=Value.string (PG n)/\w'=w) ((EM n w h0 h1).mono ?_)) ?_
 all_goals
  rintro e w' ⟨rfl,rfl⟩
  exact ⟨_,rfl,rfl,rfl⟩
def rN (x:Nat):LV:=(List.range 16).map λj=> .string (if j<8+x then nmT.getD j ⟨#[]⟩ else ⟨#[]⟩)
theorem X2 (x:Int) (h0:0<=x) (h1:x<8):(⟨#[119,97,116,101,114]⟩:ByteArray)++PG x=nmT.getD (8+x).toNat ⟨#[]⟩:=by
 have:x=0\/x=1\/x=2\/x=3\/x=4\/x=5\/x=6\/x=7:=by omega
 rcases this with rfl|rfl|rfl|rfl|rfl|rfl|rfl|rfl<;>decide
theorem afF (x:Nat) (h1:x<8):aR (rN x) (8+x) [.string (nmT.getD (8+x) ⟨#[]⟩)]=rN (x+1):=by
 have:x=0\/x=1\/x=2\/x=3\/x=4\/x=5\/x=6\/x=7:=by omega
 rcases this with rfl|rfl|rfl|rfl|rfl|rfl|rfl|rfl<;>rfl
theorem xM (x:Nat):(rN x).length=16:=by simp [rN]
def ai8:Value:=.agg (rN 8).toArray
abbrev nm0:LV:=List.replicate 16 (.string ⟨#[]⟩)
theorem zQ (w:World):ah 218 #[] w λe w'=>e=ai8/\Ext w w':=by
 apply Lb.vc;intro w0 hw0 w1 Rg;have r0:Row w0 w nm0 285:=by rw [hw0];exact Row.new w nm0 _
 have s0:w0.heap.size=w.heap.size+1:=by rw [hw0];simp
 have s1:w1.heap.size=w.heap.size+2:=by rw [Rg];simp [s0]
 have r1:Row w1 w0 nm0 285:=by rw [Rg];exact Row.new w0 nm0 285
 have x0:=aL hw0;have x1:=aL Rg;refine ⟨⟨rfl,r1.wr bt⟩,λw2 AA=> ?_⟩;rw [r1.aG bt (by intro u hu;simp at hu;rcases hu with rfl|rfl|rfl|rfl|rfl|rfl|rfl|rfl|rfl|rfl|rfl|rfl|rfl|rfl|rfl|rfl<;>rfl)] at AA;have r2:Row w2 w0 (rN 0) 285:=r1.st AA;have x2:Ext w w2:=(x0.tr x1).af AA aa;have r20:Row w2 w nm0 285:=(r0.ext x1).same (by rw [AA];exact setRow_other _ _ _ _ aa);refine ⟨λn x wr=>∃k:Nat,x=k/\k+n=8/\Ext w wr/\Row wr w nm0 285/\Row wr w0 (rN k) 285,⟨8,0,rfl,rfl,x2,r20,r2⟩,?_⟩;rintro n us x wr ⟨k,rfl,hk,xr,q0,q1⟩;apply Br.mk<;>intro h<;>simp at h
 ·refine (Ug k wr aa aa).mono ?_;rintro e w' ⟨rfl,rfl⟩;refine ⟨_,rfl,?_⟩;rw [aK (n:=8+(k:Int)) (by unfold bS;omega),aK (n:=(k:Int)+1) (by unfold bS;omega),X2 k aa aa];have iU:ae (some ⟨w0.heap.size,0,none⟩) ((8+(k:Int)).toNat*1)=some ⟨w0.heap.size,8+k,none⟩:=by rw [bh];congr 2;omega
  rw [iU];refine ⟨?_,by omega,by omega,⟨rfl,q1.wr (by rw [xM];simp;omega)⟩,λw3 N7=> ?_⟩
  ·have:(PG k).size<=1:=by
    have:k=0\/k=1\/k=2\/k=3\/k=4\/k=5\/k=6\/k=7:=by omega
    rcases this with rfl|rfl|rfl|rfl|rfl|rfl|rfl|rfl<;>decide
   have h5:(⟨#[119,97,116,101,114]⟩:ByteArray).size=5:=rfl;rw [h5];have:IntKind.i64.max=9223372036854775807:=by decide
   omega
  ·have e8:(8+(k:Int)).toNat=8+k:=by omega
   rw [q1.aG (by rw [xM];simp;omega) (by intro u hu;simp at hu;subst hu;rfl),e8,afF k aa] at N7;refine ⟨n-1,by omega,k+1,by omega,by omega,xr.af N7 aa,q0.same (by rw [N7];exact setRow_other _ _ _ _ aa),by rw [N7];exact q1.set _⟩
 ·obtain rfl:k=8:=by omega
  refine ⟨_,_,_,_,_,_,_,_,_,_,_,_,_,_,_,_,q1.bY (vs:=rN 8) (λj hj=>by simp),⟨rfl,q0.wr bt⟩,λw3 N7=> ?_⟩;rw [q0.aG bt (by intro u hu;simp at hu;rcases hu with rfl|rfl|rfl|rfl|rfl|rfl|rfl|rfl|rfl|rfl|rfl|rfl|rfl|rfl|rfl|rfl<;>rfl)] at N7;have q3:Row w3 w (rN 8) 285:=q0.st N7;exact ⟨_,_,_,_,_,_,_,_,_,_,_,_,_,_,_,_,q3.bY (vs:=rN 8) (λj hj=>by simp),rfl,xr.af N7 aa⟩
theorem Hu (x y:ByteArray):rJ x y=true ↔ x=y:=by unfold rJ;rw [ByteArray.toList_eq,ByteArray.toList_eq,beq_iff_eq];obtain ⟨⟨x⟩⟩:=x;obtain ⟨⟨y⟩⟩:=y;simp
theorem afO (i:Int) (h0:0<=i) (h1:i<16):(rN 8)[i.toNat*1]? =some (.string (xV i)):=by
 have hk:i.toNat<16:=by omega
 have e:xV i=nmT.getD i.toNat ⟨#[]⟩:=by unfold xV;rw [if_neg aa]
 rw [e,Nat.mul_one];generalize i.toNat=k at hk;have:∀k,k<16->(rN 8)[k]? =some (.string (nmT.getD k ⟨#[]⟩)):=by
  intro k hk;have:k=0\/k=1\/k=2\/k=3\/k=4\/k=5\/k=6\/k=7\/k=8\/k=9\/k=10\/k=11\/k=12\/k=13\/k=14\/k=15:=by omega
  rcases this with rfl|rfl|rfl|rfl|rfl|rfl|rfl|rfl|rfl|rfl|rfl|rfl|rfl|rfl|rfl|rfl<;>rfl
 exact this k hk
theorem Af (b:Int) (h:b<0\/16<=b):xV b=⟨#[]⟩:=by
 unfold xV;rcases h with h|h
 ·rw [if_pos h]
 ·rw [if_neg aa];rw [eA,jt (by show 16<=b.toNat;omega)];rfl
theorem Ym (b:Int):cX b=true ↔ xV b≠⟨#[]⟩:=by
 by_cases h:b<0\/16<=b
 ·rw [Af b h];unfold cX;simp;omega
 ·have:b=0\/b=1\/b=2\/b=3\/b=4\/b=5\/b=6\/b=7\/b=8\/b=9\/b=10\/b=11\/b=12\/b=13\/b=14\/b=15:=by omega
  rcases this with rfl|rfl|rfl|rfl|rfl|rfl|rfl|rfl|rfl|rfl|rfl|rfl|rfl|rfl|rfl|rfl<;>decide
theorem BR (b:Int) (w:World):ah 158 #[b] w λe w'=>e=Value.string (xV b)/\Ext w w':=by
 apply Ps.vc;refine Br.mk (λh=> ?_) (λh=>Br.mk (λh2=> ?_) (λh2=> ?_))<;>simp at h
 ·rw [Af b (.inl h)];exact ⟨rfl,Ext.cQ w⟩
 ·simp at h2;rw [Af b (.inr h2)];exact ⟨rfl,Ext.cQ w⟩
 ·simp at h2;refine (zQ w).mono ?_;rintro e w' ⟨rfl,x⟩;exact ⟨_,_,_,_,_,_,_,_,_,_,_,_,_,_,_,_,rfl,⟨h,h2⟩,_,afO b h h2,rfl,x⟩
theorem gl (b:Int) (w:World):ah 108 #[b] w λe w'=>e=Value.bool (cX b)/\Ext w w':=by
 apply TP.vc;refine (BR b w).mono ?_;rintro e w' ⟨rfl,x⟩;refine ⟨_,rfl,?_,x⟩;congr 2;rw [Bool.eq_iff_iff,Ym];have:=Hu (xV b) ⟨#[]⟩
 cases h:rJ (xV b) ⟨#[]⟩<;>simp_all
open Go.bf
abbrev gx:TypeId:=252
abbrev IC:TypeId:=3
abbrev rv (r:Rn):LV:=[.int .i64 r.1,.int .i64 r.2]
abbrev iv (b:Int):LV:=[.int .i64 b]
abbrev kl (w:World) (s:Sl) (l:List Rn):Prop:=RdK w s 2 (l.map rv)
abbrev O3 (w:World) (s:Sl) (c:List Int):Prop:=RdK w s 1 (c.map iv)
abbrev uY (B:Nat) (w:World) (s:Sl) (l:List Rn):Prop:=aC B gx 2 w s (l.map rv)
abbrev OwC (B:Nat) (w:World) (s:Sl) (c:List Int):Prop:=aC B IC 1 w s (c.map iv)
theorem uY.Fy {B:Nat} {w:World} {s:Sl} {l:List Rn} (h:uY B w s l):kl w s l:=aC.rd h aa
theorem OwC.rdc {B:Nat} {w:World} {s:Sl} {c:List Int} (h:OwC B w s c):O3 w s c:=aC.rd h aa
theorem kl.len {w:World} {s:Sl} {l:List Rn} (h:kl w s l):s.n=l.length:=by have:=h.n;simpa using this
theorem O3.len {w:World} {s:Sl} {c:List Int} (h:O3 w s c):s.n=c.length:=by have:=h.n;simpa using this
theorem kl.get {w:World} {s:Sl} {l:List Rn} (_:kl w s l) {i:Nat} {r:Rn} (hi:l[i]? =some r):(l.map rv)[i]? =some (rv r):=by rw [aS,hi];rfl
theorem kl.c0 {w:World} {s:Sl} {l:List Rn} (h:kl w s l) {i:Nat} {r:Rn} (hi:l[i]? =some r):ld w (ae (ae s.a (i*2)) 0)=some (.int .i64 r.1):=RdK.at h (kl.get h hi) (j:=0) rfl
theorem kl.c1 {w:World} {s:Sl} {l:List Rn} (h:kl w s l) {i:Nat} {r:Rn} (hi:l[i]? =some r):ld w (ae (ae s.a (i*2)) 1)=some (.int .i64 r.2):=RdK.at h (kl.get h hi) (j:=1) rfl
theorem kl.ll {w:World} {s:Sl} {l:List Rn} (h:kl w s l) {i:Nat} {r:Rn} (hi:l[i]? =some r):ag w (ae s.a (i*2)) 0 [r.1,r.2]:=RdK.bY h (kl.get h hi)
theorem O3.c0 {w:World} {s:Sl} {l:List Int} (h:O3 w s l) {i:Nat} {b:Int} (hi:l[i]? =some b):ld w (ae s.a (i*1))=some (.int .i64 b):=by have:=h.rd i (iv b) (by rw [aS,hi];rfl) 0 _ rfl;simpa using this
theorem kl.gR {w:World} {s:Sl} {l:List Rn} (h:kl w s l) {i:Nat} (hi:i<l.length):ee s.a (i:Int) s.n:=RdK.gR h aa aa (by have:=kl.len h;omega)
theorem O3.gR {w:World} {s:Sl} {l:List Int} (h:O3 w s l) {i:Nat} (hi:i<l.length):ee s.a (i:Int) s.n:=RdK.gR h aa aa (by have:=O3.len h;omega)
theorem kl.some {w:World} {s:Sl} {l:List Rn} (h:kl w s l) {i:Nat} (hi:i<l.length):(ae s.a (i*2)).isSome=true:=by rw [fL];exact RdK.isSome h aa (i:=i) (by simpa using hi)
theorem bH {α:Type} {l:List α} {i:Nat} (h:i<l.length):∃r,l[i]? =some r:=⟨_,c8 h⟩
abbrev Bd (n:Nat):Prop:=n<=1099511627776
theorem ph (s:Sl) (l:List Rn) (w:World) (hs:kl w s l) (hb:Bd l.length) (hl:∀r ∈ l,0<=r.1) (Fq:bQ l<=1099511627776):
  ah 253 #[s] w λe w'=>e=Value.int .i64 (bQ l)/\Ext w w':=by
 have tU:=kl.len hs;apply XQ.vc;refine ⟨λn x y wr=>∃k:Nat,x=k/\k+n=l.length/\Ext w wr/\y=bQ (l.take k),⟨l.length,0,rfl,by omega,Ext.cQ w,rfl⟩,?_⟩;rintro n us x y wr ⟨k,rfl,hk,xr,rfl⟩;have hw:=aK (n:=(k:Int)+1) (by unfold bS;omega);apply Br.mk<;>intro h<;>simp at h
 ·obtain ⟨r,hr⟩:=bH (l:=l) (i:=k) aa;refine ⟨kl.gR hs aa,_,_,kl.ll (hs.ext xr) hr,?_⟩;rintro w9 rfl bD rfl;have e:bQ (l.take (k+1))=bQ (l.take k)+r.1:=by rw [dE,hr];simp [bQ]
  have h0:0<=bQ (l.take k)/\0<=r.1/\bQ (l.take (k+1))<=bQ l:=by
   refine ⟨?_,hl r (aZ hr),?_⟩
   ·rw [eT λq hq=>hl q (List.mem_of_mem_take hq)];omega
   ·have:=LK (l.take (k+1)) (l.drop (k+1));rw [List.take_append_drop] at this;have h2:0<=bQ (l.drop (k+1)):=by rw [eT λq hq=>hl q (List.mem_of_mem_drop hq)];omega
    omega
  have AA:=aK (n:=bQ (l.take k)+r.1) (by unfold bS;omega);refine ⟨n-1,by omega,k+1,by omega,by omega,((xr.tr (Ext.al _ _)).setRow xr.size _),by rw [AA,e]⟩
 ·obtain rfl:k=l.length:=by omega
  rw [iB];exact ⟨rfl,xr⟩
abbrev afQ (s:Sl) (w w':World):Prop:=∀j,s.aY≠some j->j<w.heap.size->w'.heap[j]? =w.heap[j]?
theorem DY (B:Nat) (s:Sl) (l:List Rn) (r:Rn) (w:World) (hB:B<=w) (ho:uY B w s l) (hn:Bd l.length) (hl:∀q ∈ l,0<=q.1/\q.1<=1099511627776) (hr:r.1<=1099511627776):
  ah 252 #[s,.agg #[r.1,r.2]] w λe w'=>∃s':Sl,e=s'/\uY B w' s' (ja l r)/\Below B w w'/\afQ s w w':=by
 have tU:=kl.len ho.Fy;apply TZ.vc;rintro w0 rfl;have xa:=Ext.al w (.cells #[r.1,r.2] gx);have xd:=xa.drew;have hz:(w.alloc (.cells #[r.1,r.2] gx)).drew.heap.size=w.heap.size+1:=by simp [World.drew]
 have hw:=aK (n:=((s.n:Nat):Int)-1) (by unfold bS;omega);have grow:∀(_:1<=r.1) (_:∀q,l.getLast? =some q->q.2≠r.2),(∀w4:World,w4=(w.alloc (.cells #[r.1,r.2] gx)).drew.alloc (.cells #[r.1,r.2] gx)->
   ba 16 2 w4 ⟨s.a,s.n,s.c⟩ 1 [r.1,r.2]/\∀(s5:Sl) (w6:World),aV gx 2 w4 ⟨s.a,s.n,s.c⟩ 1 [r.1,r.2] s5 w6->w6.heap[w.heap.size]? =w4.heap[w.heap.size]?/\w6.heap[(w.alloc (.cells #[r.1,r.2] gx)).drew.heap.size]? =w4.heap[(w.alloc (.cells #[r.1,r.2] gx)).drew.heap.size]?/\
   ∃s':Sl,Ending.returned (.slice s5.a s5.n s5.c)=s'/\uY B w6 s' (ja l r)/\Below B w w6/\afQ s w w6):=by
  rintro h1 h2 w4 rfl;obtain ⟨hp,bo⟩:=(aC.ext ho xd).iN (bytes:=16) (news:=rv r) (.cells #[r.1,r.2] gx) (fY hB xd.size) rfl (zh _ _ _ _) aa aa;refine ⟨hp,λs5 w6 hr'=> ?_⟩;obtain ⟨k1,ho',hn',xb,hk,hb⟩:=bo s5 w6 hr';refine ⟨?_,k1,s5,rfl,?_,(Below.mono xd hB).trans xb,λj hj gW=> ?_⟩
  ·rw [hk _ (λhb=>absurd (ho.own.lt hb).2 (Nat.lt_irrefl _)) aa];symm;exact (Ext.al _ _).heap aa
  ·rw [gk h1 h2];show aC B gx 2 w6 s5 ((l++ [r]).map rv);rw [bZ];exact ho'
  ·rw [hk j hj aa];exact xd.heap gW
 apply Br.mk<;>intro h<;>simp at h
 ·exact ⟨s,rfl,by rw [kY h];exact aC.ext ho xa,Below.mono xa hB,λj _ hj=>xa.heap hj⟩
 rw [hw];refine Br.mk (λh'=> ?_) (λh'=> ?_)<;>simp at h'
 ·rcases vW l with rfl|⟨m,q,rfl⟩
  ·simp at tU;omega
  rw [dc] at tU;simp at tU;have ahx:(((s.n:Nat):Int)-1).toNat=m.length:=by omega
  have hq:(m++ [q])[m.length]? =some q:=by simp
  have mW:ee s.a (((s.n:Nat):Int)-1) s.n:=by have:=kl.gR ho.Fy (i:=m.length) bt;rwa [show ((m.length:Nat):Int)=((s.n:Nat):Int)-1 from by omega] at this
  have hsome:=kl.some ho.Fy (i:=m.length) bt;rw [ahx];have r1:=RdK.ext ho.Fy xd;have r2:=RdK.ext ho.Fy xd.drew;refine ⟨mW,Cn.2 ⟨hsome,_,kl.c1 r1 hq,Br.mk (λh2=> ?_) (λh2=> ?_)⟩⟩
  ·simp at h2;obtain ⟨q1,q2,q3,q4,q5⟩:=(aC.ext ho xd.drew).set (i:=m.length) (j:=0) (r:=rv q) (v:=.int .i64 (aj (q.1+r.1))) (by rw [aS,hq];rfl) aa rfl (fY hB xd.drew.size);refine ⟨mW,Cn.2 ⟨hsome,_,kl.c0 r2 hq,mW,Cn.2 ⟨hsome,⟨q1,q2⟩,?_,?_⟩⟩⟩
   ·intro hb;have:s.aY=some w.heap.size:=by rw [cY,cY] at hb;exact hb
    exact absurd (ho.own.lt this).2 (Nat.lt_irrefl _)
   ·rintro w3 rfl;have hwq:=aK (n:=q.1+r.1) (by have:=hl q bt;unfold bS;omega);rw [hwq] at q3 q4 q5 ⊢;refine ⟨s,rfl,?_,(Below.mono xd.drew hB).trans q4,λj hj gW=> ?_⟩
    ·rw [jT h h2];show aC B gx 2 _ s ((m++ [(q.1+r.1,q.2)]).map rv);have e:((m++ [q]).map rv).set m.length ((rv q).set 0 (.int .i64 (q.1+r.1)))=(m++ [(q.1+r.1,q.2)]).map rv:=by rw [bZ,bZ,List.set_append_right _ _ bt];simp
     rw [<-e];exact q3
    ·rw [q5 j hj];exact xd.drew.heap gW
  ·exact grow h (by intro p hp;simp at hp;subst hp;simpa using h2)
 ·have:l=[]:=by apply List.eq_nil_of_length_eq_zero;omega
  subst this;exact grow h bt
theorem qY (B:Nat) (s:Sl) (c:List Int) (r:Rn) (w:World) (hB:B<=w) (ho:uY B w s (gK c)) (hn:Bd c.length) (hr:r.1<=1099511627776):
  ah 252 #[s,.agg #[r.1,r.2]] w λe w'=>∃s':Sl,e=s'/\uY B w' s' (gK (c++List.replicate r.1.toNat r.2))/\Below B w w'/\afQ s w w':=by
 rw [<-LG];refine DY B s _ r w hB ho (by have:=qJ c;unfold Bd at*;omega) (λq hq=> ?_) hr;have:=mR hq;unfold Bd at hn;omega
theorem DZ (n b:Int) (w:World) (hn:n<=1099511627776):
  ah 320 #[n,b] w λe w'=>∃s':Sl,e=s'/\uY w w' s' (gK (List.replicate n.toNat b))/\Ext w w':=by
 apply T3.vc;refine (qY w ⟨none,0,0⟩ [] (n,b) w (aB _) aC.nil bt hn).mono ?_;rintro e w' ⟨s',rfl,ho,x,_⟩;exact ⟨s',rfl,s',rfl,by simpa using ho,x⟩
theorem Ix (s:Sl) (c:List Int) (w:World) (hs:O3 w s c) (hn:Bd c.length):
  ah 188 #[s] w λe w'=>∃s':Sl,e=s'/\uY w w' s' (gK c)/\Ext w w':=by
 have tU:=O3.len hs;apply aca.vc;refine ⟨λn x o wr=>∃k:Nat,x=k/\k+n=c.length/\Ext w wr/\uY w wr o (gK (c.take k)),⟨c.length,0,rfl,by omega,Ext.cQ w,aC.nil⟩,?_⟩;rintro n us x o wr ⟨k,rfl,hk,xr,ho⟩;unfold Bd at hn;have hw:=aK (n:=(k:Int)+1) (by unfold bS;omega);apply Br.mk<;>intro h<;>simp at h
 ·obtain ⟨b,hb⟩:=bH (l:=c) (i:=k) aa;refine ⟨O3.gR hs aa,_,O3.c0 (hs.ext xr) hb,?_⟩;refine (qY w o _ (1,b) wr xr.size ho (by rw [dC];unfold Bd;omega) (by show (1:Int)<=_;omega)).mono ?_;rintro e w' ⟨s',rfl,ho',x',_⟩;refine ⟨s',rfl,n-1,by omega,k+1,by omega,by omega,xr.trans x',?_⟩;rw [dE,hb];exact ho'
 ·obtain rfl:k=c.length:=by omega
  rw [iB] at ho;exact ⟨o,rfl,ho,xr⟩
theorem nX {l:List Rn} {k:Nat} {r:Rn} (hr:l[k]? =some r):bQ (l.take (k+1))=bQ (l.take k)+r.1:=by rw [dE,hr];simp [bQ]
theorem RZ {l:List Rn} (hl:∀r ∈ l,0<=r.1):0<=bQ l:=by rw [eT hl];omega
theorem km {l:List Rn} (hl:∀r ∈ l,0<=r.1) (k:Nat):0<=bQ (l.take k)/\bQ (l.take k)<=bQ l:=by
 refine ⟨RZ λq hq=>hl q (List.mem_of_mem_take hq),?_⟩;have:=LK (l.take k) (l.drop k);rw [List.take_append_drop] at this;have h2:=RZ (l:=l.drop k) λq hq=>hl q (List.mem_of_mem_drop hq)
 omega
theorem rP {l:List Rn} {k:Nat} {r:Rn} (hr:l[k]? =some r):cA (l.take (k+1))=cA (l.take k)++List.replicate r.1.toNat r.2:=by rw [dE,hr,gG];exact congrArg _ (iH r)
theorem afU (c:List Int) (a b:Int):(Gh c a b).length<=c.length:=by unfold Gh;simp;omega
theorem ve (s:Sl) (l:List Rn) (a b:Int) (w:World) (hs:kl w s l) (hn:Bd l.length) (hl:∀r ∈ l,0<=r.1) (Fq:bQ l<=1099511627776) (ha:0<=a) (hb:0<=b):
  ah 319 #[s,a,b] w λe w'=>∃s':Sl,e=s'/\uY w w' s' (gK (Gh (cA l) a b))/\Ext w w':=by
 have tU:=kl.len hs;unfold Bd at hn;apply XR.vc;refine ⟨λn x y o wr=>∃k:Nat,x=k/\k+n=l.length/\Ext w wr/\y=bQ (l.take k)/\uY w wr o (gK (Gh (cA (l.take k)) a b)),⟨l.length,0,rfl,by omega,Ext.cQ w,rfl,?_⟩,?_⟩
 ·have:Gh (cA (l.take 0)) a b=[]:=by simp [Gh,cA]
  rw [this];exact aC.nil
 rintro n us x y o wr ⟨k,rfl,hk,xr,rfl,ho⟩;have hw:=aK (n:=(k:Int)+1) (by unfold bS;omega);apply Br.mk<;>intro h<;>simp at h
 ·obtain ⟨r,hr⟩:=bH (l:=l) (i:=k) aa;have e:=nX hr;have hr0:=hl r (aZ hr);have b1:=km hl k;have b2:=km hl (k+1);have AA:=aK (n:=bQ (l.take k)+r.1) (by unfold bS;omega);have hc:((cA (l.take k)).length:Int)=bQ (l.take k):=(eT λq hq=>hl q (List.mem_of_mem_take hq)).symm;have aly:Gh (cA (l.take (k+1))) a b=Gh (cA (l.take k)) a b++List.replicate (min b (bQ (l.take k)+r.1)-max a (bQ (l.take k))).toNat r.2:=by rw [rP hr,Ys _ _ _ _ _ ha hb];congr 2;omega
  refine ⟨kl.gR hs aa,_,_,kl.ll (hs.ext xr) hr,?_⟩;rintro w9 rfl bD rfl;rw [AA];have bj:=((xr.tr (Ext.al _ (.cells #[ab,ab] gx))).setRow xr.size #[r.1,r.2]);have e1:(if bQ (l.take k)+r.1<b then bQ (l.take k)+r.1 else b)=min b (bQ (l.take k)+r.1):=by split<;>omega
  have e2:(if bQ (l.take k)>a then bQ (l.take k) else a)=max a (bQ (l.take k)):=by split<;>omega
  rw [e1,e2];have hkeep:∀g,o.aY=some g->(((wr.alloc (.cells #[ab,ab] gx)).setRow wr.heap.size #[r.1,r.2]).drew).heap[g]? =wr.heap[g]? :=by intro g hg;have:=(ho.own.lt hg).2;show ((wr.alloc _).setRow wr.heap.size _).heap[g]? =_;rw [setRow_other _ _ _ _ aa];exact (Ext.al _ _).heap this
  have vm:=aC.c9 ho hkeep;have dG:(Gh (cA (l.take k)) a b).length<=1099511627776:=by have:=afU (cA (l.take k)) a b;omega
  apply Br.mk<;>intro h2<;>simp only [cS,eW] at h2
  ·have N7:=aK (n:=min b (bQ (l.take k)+r.1)-max a (bQ (l.take k))) (by unfold bS;omega);rw [N7];refine (qY w o _ (min b (bQ (l.take k)+r.1)-max a (bQ (l.take k)),r.2) _ bj.drew.size vm dG (by show min b (bQ (l.take k)+r.1)-max a (bQ (l.take k))<=_;omega)).mono ?_;rintro e w' ⟨s',rfl,ho',x',Nt⟩;refine ⟨s',rfl,Nt _ (λhb=>absurd (ho.own.lt hb).2 (Nat.lt_irrefl _)) (by simp [World.drew,World.setRow]),n-1,by omega,k+1,by omega,by omega,bj.drew.trans x',by omega,?_⟩;rw [aly];exact ho'
  ·refine ⟨n-1,by omega,k+1,by omega,by omega,bj.drew,by omega,?_⟩;rw [aly,show (min b (bQ (l.take k)+r.1)-max a (bQ (l.take k))).toNat=0 from by omega];simpa using vm
 ·obtain rfl:k=l.length:=by omega
  rw [iB] at ho;exact ⟨o,rfl,ho,xr⟩
theorem kZ (s:Sl) (l:List Rn) (w:World) (hs:kl w s l) (hn:Bd l.length):
  ah 186 #[s] w λe w'=>∃s':Sl,e=s'/\uY w w' s' l/\Ext w w':=by
 have tU:=kl.len hs;unfold Bd at hn;apply zL.vc;apply Br.mk<;>intro h
 ·have:l=[]:=by
   rcases Nat.eq_zero_or_pos l.length with h0|h0
   ·exact List.eq_nil_of_length_eq_zero h0
   ·have:=RdK.isSome hs aa (i:=0) (by simpa using h0)
    cases hsa:s.a<;>simp [hsa] at h this
  subst this;exact ⟨⟨none,0,0⟩,rfl,aC.nil,Ext.cQ w⟩
 ·rintro w0 rfl;have xa:=Ext.al w (.cells #[] gx);have hz:Go.Vc.Own w gx 2 (w.alloc (.cells #[] gx)) ⟨some ⟨w.heap.size,0,none⟩,0,0⟩ []:=.row w.heap.size 0 0 [] (aB _) (Row.new w [] gx) bt (aB _);have hf:(l.map rv).flatten.length=s.n*2:=by rw [bM hs.wd];simp [tU]
  have h1:One (l.map rv).flatten:=fK λr hr=>by obtain ⟨q,_,rfl⟩:=bg.1 hr;exact zh _ _ _ _
  obtain ⟨hp,hr⟩:=hz.append (bytes:=16) (m:=s.n) (news:=(l.map rv).flatten) xa.size hf h1 (by simp;omega) (by simp;omega);refine ⟨(l.map rv).flatten,RdK.flat (hs.ext xa) aa,hp,λs2 w3 bo=> ?_⟩;obtain ⟨ho,QH,xb,_,_⟩:=hr s2 w3 bo;refine ⟨oP bo hf bt,s2,rfl,⟨by simpa using ho,hs.wd⟩,xa.trans xb⟩
theorem D8 (s:Sl) (ss:List Sl) (cs:List (List Int)) (w:World) (hs:RdK w s 1 (ss.map λt=> [.slice t.a t.n t.c])) (dG:ss.length=cs.length)
  (hr:∀(i:Nat) (t:Sl) (c:List Int),ss[i]? =some t->cs[i]? =some c->kl w t (gK c)) (hb:Bd ss.length) (hn:Bd cs.flatten.length):
  ah 318 #[s] w λe w'=>∃s':Sl,e=s'/\uY w w' s' (gK cs.flatten)/\Ext w w':=by
 have tU:s.n=ss.length:=by have:=hs.n;simpa using this
 unfold Bd at hn hb;apply T0.vc;refine ⟨λn x o wr=>∃k:Nat,x=k/\k+n=ss.length/\Ext w wr/\uY w wr o (gK (cs.take k).flatten),⟨ss.length,0,rfl,by omega,Ext.cQ w,aC.nil⟩,?_⟩;rintro n us x o wr ⟨k,rfl,hk,xr,ho⟩;have hw:=aK (n:=(k:Int)+1) (by unfold bS;omega);apply Br.mk<;>intro h<;>simp at h
 ·obtain ⟨t,ht⟩:=bH (l:=ss) (i:=k) aa;obtain ⟨c,hc⟩:=bH (l:=cs) (i:=k) aa;have hrt:=hr k t c ht hc;have htn:=kl.len hrt;have ET:(cs.take (k+1)).flatten=(cs.take k).flatten++c:=by rw [dE,hc];simp
  have hle:(cs.take k).flatten.length+c.length<=cs.flatten.length:=by have e:=congrArg List.length (congrArg List.flatten (List.take_append_drop (k+1) cs));rw [List.flatten_append,ET] at e;simp only [dc] at e;omega
  have hcl:=qJ c;have jq:=hs.rd k [.slice t.a t.n t.c] (by rw [aS,ht];rfl) 0 _ rfl;refine ⟨RdK.gR hs aa aa aa,t,xr.ld (by simpa using jq),?_⟩;refine ⟨λn x o wr=>∃j:Nat,x=j/\j+n=(gK c).length/\Ext w wr/\uY w wr o (gK ((cs.take k).flatten++cA ((gK c).take j))),⟨(gK c).length,0,rfl,by omega,xr,by simpa [cA] using ho⟩,?_⟩;rintro n2 wM x2 o2 w2 ⟨j,rfl,hj,x2,vm⟩;have AA:=aK (n:=(j:Int)+1) (by unfold bS;omega);apply Br.mk<;>intro h2<;>simp at h2
  ·obtain ⟨r,hrr⟩:=bH (l:=gK c) (i:=j) aa;have hrm:=mR (aZ hrr);refine ⟨kl.gR hrt aa,_,_,kl.ll (hrt.ext x2) hrr,?_⟩;rintro w9 rfl bD rfl;have bj:=((x2.tr (Ext.al _ (.cells #[ab,ab] gx))).setRow x2.size #[r.1,r.2]);have ho3:=aC.c9 (w':=(w2.alloc (.cells #[ab,ab] gx)).setRow w2.heap.size #[r.1,r.2]) vm (by
    intro g hg;have:=(vm.own.lt hg).2;rw [setRow_other _ _ _ _ aa];exact (Ext.al _ _).heap this)
   have VN:((cs.take k).flatten++cA ((gK c).take j)).length<=1099511627776:=by rw [dc];have h3:=km (l:=gK c) (λq hq=>by have:=mR hq;omega) j;rw [lN,eT λq hq=>by have:=mR (List.mem_of_mem_take hq);omega] at h3;omega
   refine (qY w o2 _ r _ bj.size ho3 VN aa).mono ?_;rintro e w' ⟨s',rfl,ho',x',Nt⟩;refine ⟨s',rfl,Nt _ (λhb=>absurd (vm.own.lt hb).2 (Nat.lt_irrefl _)) (by simp [World.setRow]),n2-1,by omega,j+1,by omega,by omega,bj.trans x',?_⟩;rw [rP hrr,<-gO];exact ho'
  ·obtain rfl:j=(gK c).length:=by omega
   refine ⟨n-1,by omega,k+1,by omega,by omega,x2,?_⟩;rw [iB,nk] at vm;rw [ET];exact vm
 ·obtain rfl:k=ss.length:=by omega
  rw [dG,iB] at ho;exact ⟨o,rfl,ho,xr⟩
theorem EA (s:Sl) (c:List Int) (a b x:Int) (w:World) (hs:kl w s (gK c)) (hn:Bd c.length) (ha:bS a) (hb:bS b):
  ah 309 #[s,a,b,x] w λe w'=>∃s':Sl,e=s'/\uY w w' s' (gK (if cX x then xY c a b x else c))/\Ext w w':=by
 have hl:Bd (gK c).length:=fY (qJ c) hn;have hp:∀r ∈ gK c,0<=r.1:=λr hr=>by have:=mR hr;omega
 have Fq:bQ (gK c)<=1099511627776:=by rw [lN];unfold Bd at hn;omega
 unfold Bd at hn;unfold bS at ha hb;apply TY.vc;refine (ph s _ w hs hl hp Fq).mono ?_;rintro e w1 ⟨rfl,x1⟩;rw [lN];refine ⟨_,rfl,(gl x w1).mono ?_⟩;rintro e w2 ⟨rfl,x2⟩;have bU:=x1.tr x2;have e1:(if ((c.length:Nat):Int)<(if 0>a then 0 else a) then ((c.length:Nat):Int) else (if 0>a then 0 else a))=min (max a 0) (c.length:Int):=by split<;>split<;>omega
 have e2:(if ((c.length:Nat):Int)<(if 0>b then 0 else b) then ((c.length:Nat):Int) else (if 0>b then 0 else b))=min (max b 0) (c.length:Int):=by split<;>split<;>omega
 rw [e1,e2];refine ⟨_,rfl,Br.mk (λh=> ?_) (λh=>Br.mk (λh2=> ?_) (λh2=> ?_))⟩
 ·simp at h;refine (kZ s _ w2 (hs.ext bU) hl).mono ?_;rintro e w3 ⟨s',rfl,ho,x3⟩;refine ⟨s',rfl,s',rfl,?_,bU.tr x3⟩;rw [h];exact aC.low ho bU.size
 ·simp at h h2;refine (kZ s _ w2 (hs.ext bU) hl).mono ?_;rintro e w3 ⟨s',rfl,ho,x3⟩;refine ⟨s',rfl,s',rfl,?_,bU.tr x3⟩;rw [h,if_pos rfl,PR c a b x aa];exact aC.low ho bU.size
 ·replace h2:=mg h2;have hm:cX x=true:=by simpa using h
  have hw:=aK (n:=min (max b 0) (c.length:Int)-min (max a 0) (c.length:Int)) (by unfold bS;omega);rw [hw];refine (ve s _ 0 (min (max a 0) (c.length:Int)) w2 (hs.ext bU) hl hp Fq aa aa).mono ?_;rintro e w3 ⟨s1,rfl,o1,x3⟩;refine ⟨s1,rfl,(DZ (min (max b 0) (c.length:Int)-min (max a 0) (c.length:Int)) x w3 aa).mono ?_⟩;rintro e w4 ⟨s2,rfl,o2,x4⟩;refine ⟨s2,rfl,(ve s _ (min (max b 0) (c.length:Int)) c.length w4 (((hs.ext bU).ext x3).ext x4) hl hp Fq aa aa).mono ?_⟩;rintro e w5 ⟨s3,rfl,o3,x5⟩;refine ⟨s3,rfl,?_⟩;rintro w6 rfl;have x6:=Ext.al w5 (.cells #[s1,s2,s3] 173);rw [nk] at o1 o3;have cN:=Row.new w5 [s1,s2,s3] 173;have ic:RdK (w5.alloc (.cells #[s1,s2,s3] 173)) ⟨some ⟨w5.heap.size,0,none⟩,3,3⟩ 1 ([s1,s2,s3].map λt=> [.slice t.a t.n t.c]):=by
   refine ⟨rfl,by simp,λi r hi j v hj=> ?_⟩;show ld _ (ae (some ⟨w5.heap.size,0,none⟩) _)=_;rw [bh,cN.ld];rcases i with _|_|_|i<;>simp at hi
   all_goals subst hi
   all_goals rcases j with _|j<;>simp at hj
   all_goals subst hj;rfl
  refine (D8 _ [s1,s2,s3] [Gh c 0 (min (max a 0) (c.length:Int)),List.replicate (min (max b 0) (c.length:Int)-min (max a 0) (c.length:Int)).toNat x,Gh c (min (max b 0) (c.length:Int)) c.length] _ ic rfl ?_ bt ?_).mono ?_
  ·intro i t d ht hd;rcases i with _|_|_|i<;>simp at ht hd
   ·subst ht;subst hd;exact (((o1.ext x4).ext x5).ext x6).rd aa
   ·subst ht;subst hd;exact ((o2.ext x5).ext x6).rd aa
   ·subst ht;subst hd;exact (o3.ext x6).rd aa
  ·have e:=congrArg List.length (Hz c a b x aa);rw [UA] at e;simp only [ki,List.flatten_nil,ti,dc] at e ⊢;unfold Bd;omega
  ·rintro e w7 ⟨s',rfl,ho,x7⟩;have xx:=(((bU.tr x3).tr x4).tr x5).tr x6;refine ⟨s',rfl,s',rfl,?_,xx.tr x7⟩;rw [if_pos hm,Hz c a b x aa];have ho:=aC.low ho xx.size;simpa using ho
def Vy (c:List Int) (i x:Int):List Int:=if cX x=true/\0<=i/\i<(c.length:Int) then c.set i.toNat x else c
theorem Gm (s:Sl) (c:List Int) (i x:Int) (w:World) (hs:kl w s (gK c)) (hn:Bd c.length) (hi:bS i):
  ah 295 #[s,i,x] w λe w'=>∃s':Sl,e=s'/\uY w w' s' (gK (Vy c i x))/\Ext w w':=by
 have hl:Bd (gK c).length:=fY (qJ c) hn;have hp:∀r ∈ gK c,0<=r.1:=λr hr=>by have:=mR hr;omega
 have Fq:bQ (gK c)<=1099511627776:=by rw [lN];unfold Bd at hn;omega
 have hi':=hi;have hn':=hn;unfold Bd at hn';unfold bS at hi';apply XN.vc;apply Br.mk<;>intro h<;>simp at h
 ·refine (kZ s _ w hs hl).mono ?_;rintro e w3 ⟨s',rfl,ho,x3⟩;refine ⟨s',rfl,s',rfl,?_,x3⟩;unfold Vy;rw [if_neg aa];exact ho
 ·refine (ph s _ w hs hl hp Fq).mono ?_;rintro e w1 ⟨rfl,x1⟩;rw [lN];refine ⟨_,rfl,Br.mk (λh2=> ?_) (λh2=> ?_)⟩<;>simp at h2
  ·refine (kZ s _ w1 (hs.ext x1) hl).mono ?_;rintro e w3 ⟨s',rfl,ho,x3⟩;refine ⟨s',rfl,s',rfl,?_,x1.tr x3⟩;unfold Vy;rw [if_neg aa];exact aC.low ho x1.size
  ·have hw:=aK (n:=i+1) (by unfold bS;omega);rw [hw];refine (EA s c i (i+1) x w1 (hs.ext x1) hn hi (by unfold bS;omega)).mono ?_;rintro e w3 ⟨s',rfl,ho,x3⟩;refine ⟨s',rfl,s',rfl,?_,x1.tr x3⟩;unfold Vy;have:=aC.low ho x1.size;rw [UB c i x h h2] at this
   cases hm:cX x
   ·rw [hm] at this;rw [if_neg bt];exact this
   ·rw [hm] at this;rw [if_pos ⟨rfl,h,h2⟩];exact this
theorem Zs (a b:Int):aj (aj a-b)=aj (a-b):=by unfold IntKind.wrap;simp only [IntKind.bits,IntKind.signed,Bool.true_and];split<;>split<;>split<;>simp_all<;>omega
theorem Jw (s:Sl) (l:List Rn) (i:Int) (w:World) (hs:kl w s l) (hn:Bd l.length) (hl:∀r ∈ l,0<=r.1) (Fq:bQ l<=1099511627776) (hi:bS i):
  ah 194 #[s,i] w λe w'=>e=Value.int .i64 (atC (cA l) i)/\Ext w w':=by
 have tU:=kl.len hs;unfold Bd at hn;apply ab9.vc;refine ⟨λn x y wr=>∃k:Nat,x=k/\k+n=l.length/\Ext w wr/\y=aj (i-bQ (l.take k))/\(i<0\/bQ (l.take k)<=i),⟨l.length,0,rfl,by omega,Ext.cQ w,?_,?_⟩,?_⟩
 ·rw [show bQ (l.take 0)=0 from rfl,Int.sub_zero,aK hi]
 ·rw [show bQ (l.take 0)=0 from rfl];omega
 rintro n us x y wr ⟨k,rfl,hk,xr,rfl,mV⟩;have hw:=aK (n:=(k:Int)+1) (by unfold bS;omega);unfold bS at hi;have hc:∀k,((cA (l.take k)).length:Int)=bQ (l.take k):=λk=>(eT λq hq=>hl q (List.mem_of_mem_take hq)).symm
 apply Br.mk<;>intro h<;>simp at h
 ·obtain ⟨r,hr⟩:=bH (l:=l) (i:=k) aa;have e:=nX hr;have hr0:=hl r (aZ hr);have b1:=km hl k;have b2:=km hl (k+1);refine ⟨kl.gR hs aa,_,_,kl.ll (hs.ext xr) hr,?_⟩;rintro w9 rfl bD rfl;have bj:=((xr.tr (Ext.al _ (.cells #[ab,ab] gx))).setRow xr.size #[r.1,r.2]);have hwi:=YF (i-bQ (l.take k));unfold bS at hwi;have ad3:i<0->(0<=aj (i-bQ (l.take k))->aj (i-bQ (l.take k))<r.1->False):=by intro h0 h1 h2;revert h1 h2;unfold IntKind.wrap;simp only [IntKind.bits,IntKind.signed,Bool.true_and];split<;>simp_all<;>omega
  have Aw:0<=i->bQ (l.take k)<=i->aj (i-bQ (l.take k))=i-bQ (l.take k):=λ_ _=>wI
  have nx:(i<0\/bQ (l.take (k+1))<=i)->∃n6,n6<n/\∃k_1:Nat,aj ((k:Int)+1)=k_1/\k_1+n6=l.length/\Ext w ((wr.alloc (.cells #[ab,ab] gx)).setRow wr.heap.size #[r.1,r.2])/\
    aj (aj (i-bQ (l.take k))-r.1)=aj (i-bQ (l.take k_1))/\(i<0\/bQ (l.take k_1)<=i):=
   λhh=>⟨n-1,by omega,k+1,by omega,by omega,bj,by rw [Zs,e,Int.sub_sub],hh⟩
  refine Br.mk (λh1=>Br.mk (λh2=> ?_) (λh2=> ?_)) (λh1=> ?_)<;>simp only [cS,eW] at*
  ·rcases Int.lt_or_le i 0 with h0|h0
   ·exact (ad3 h0 h1 h2).elim
   ·have hle:bQ (l.take k)<=i:=by omega
    have:=Aw h0 hle;have ht:l=l.take k++ [r]++l.drop (k+1):=by have:=List.take_append_drop (k+1) l;rw [dE,hr] at this;exact this.symm
    refine ⟨?_,bj⟩;have hcell:cA l=cA (l.take k)++List.replicate r.1.toNat r.2++cA (l.drop (k+1)):=by rw [<-iH r,<-gG,<-gG,<-ht]
    rw [hcell,afT _ _ _ _ _ (by rw [hc];exact hle) (by rw [hc];omega)]
  ·refine nx ?_;rcases Int.lt_or_le i 0 with h0|h0
   ·exact .inl h0
   ·have:=Aw h0 aa;right;omega
  ·refine nx ?_;rcases Int.lt_or_le i 0 with h0|h0
   ·exact .inl h0
   ·have:=Aw h0 aa;omega
 ·obtain rfl:k=l.length:=by omega
  refine ⟨?_,xr⟩;have:=hc l.length;rw [iB] at this mV;rw [acF _ _ aa]
theorem Vz (may:Int->Bool) (prev:Option Int) (left:Int) (r:Rn) (t:List Rn):uN may prev left (r::t)=if r.1<1\/r.1>left\/may r.2=false\/prev=some r.2 then false else uN may (some r.2) (left-r.1) t:=rfl
theorem vj (s:Sl) (l:List Rn) (m:Int) (w:World) (hs:kl w s l) (hn:Bd l.length) (hm:bS m):
  ah 185 #[s,m] w λe w'=>e=Value.bool (qN cX l m)/\Ext w w':=by
 have tU:=kl.len hs;unfold Bd at hn;unfold bS at hm;apply XP.vc;have hprev:∀k,k<l.length->(l.take k).getLast? =if k=0 then none else l[k-1]? :=by
  intro k hk;rw [List.getLast?_eq_getElem?,List.getElem?_take,dC,Nat.min_eq_left aa];rcases Nat.eq_zero_or_pos k with rfl|h0
  ·simp
  ·rw [if_pos aa,if_neg aa]
 refine ⟨λn x y wr=>∃k:Nat,x=k/\k+n=l.length/\Ext w wr/\y<=max m 0/\(min m 0<=y)/\uN cX ((l.take k).getLast?.map (·.2)) y (l.drop k)=uN cX none m l,⟨l.length,0,rfl,by omega,Ext.cQ w,by omega,by omega,rfl⟩,?_⟩;rintro n us x y wr ⟨k,rfl,hk,xr,hy,hy0,heq⟩;have hw:=aK (n:=(k:Int)+1) (by unfold bS;omega);apply Br.mk<;>intro h<;>simp at h
 ·obtain ⟨r,hr⟩:=bH (l:=l) (i:=k) aa;have hd:l.drop k=r::l.drop (k+1):=by
   rw [List.drop_eq_getElem_cons aa];rw [c8 aa] at hr
   cases hr;rfl
  rw [hd] at heq;rw [Vz] at heq;refine ⟨kl.gR hs aa,_,_,kl.ll (hs.ext xr) hr,?_⟩;rintro w9 rfl bD rfl;have bj:=((xr.tr (Ext.al _ (.cells #[ab,ab] gx))).setRow xr.size #[r.1,r.2]).drew;have fin:∀w',Ext w w'->(r.1<1\/r.1>y\/cX r.2=false\/(l.take k).getLast?.map (·.2)=some r.2)->Ending.returned (.bool false)=Value.bool (qN cX l m)/\Ext w w':=by intro w' x' hh;rw [if_pos hh] at heq;refine ⟨?_,x'⟩;unfold qN;rw [<-heq];simp
  refine Br.mk (λh1=> ?_) (λh1=>Br.mk (λh2=> ?_) (λh2=> ?_))<;>simp only [cS,eW] at*
  ·exact fin _ bj (.inl h1)
  ·exact fin _ bj (.inr (.inl h2))
  ·refine (gl r.2 _).mono ?_;rintro e w3 ⟨rfl,x3⟩;have x4:=bj.tr x3;have cN:Row ((wr.alloc (.cells #[ab,ab] gx)).setRow wr.heap.size #[r.1,r.2]).drew wr.heap.size [r.1,r.2] gx:=(Row.new wr [ab,ab] gx).set [r.1,r.2];have hrow3:=cN.ext x3;have hkeep:=x3.heap cN.lt;have hll:ag w3 (some ⟨wr.heap.size,0,none⟩) 0 [r.1]:=by
    refine hrow3.bY (o:=0) λj hj=> ?_
    have:j=0:=by simpa using hj
    subst this;rfl
   have nx:((l.take k).getLast?.map (·.2)≠some r.2)->cX r.2=true->∃n6,n6<n/\∃k_1:Nat,aj ((k:Int)+1)=k_1/\k_1+n6=l.length/\Ext w w3/\aj (y-r.1)<=max m 0/\min m 0<=aj (y-r.1)/\uN cX ((l.take k_1).getLast?.map (·.2)) (aj (y-r.1)) (l.drop k_1)=uN cX none m l:=by
    intro jb hbm;have hwy:=aK (n:=y-r.1) (by unfold bS;omega);refine ⟨n-1,by omega,k+1,by omega,by omega,x4,by omega,by omega,?_⟩;rw [hwy];rw [if_neg (by
     rintro (h|h|h|h)
     ·omega
     ·omega
     ·rw [hbm] at h;cases h
     ·exact jb h)] at heq
    rw [<-heq,dE,hr];simp
   refine ⟨_,rfl,hkeep,hll,hll,Br.mk (λh3=> ?_) (λh3=> ?_)⟩
   ·exact fin _ x4 (.inr (.inr (.inl (by simpa using h3))))
   ·have hbm:cX r.2=true:=by simpa using h3
    apply Br.mk<;>intro h4<;>simp at h4
    ·have SX:=aK (n:=(k:Int)-1) (by unfold bS;omega);rw [SX];obtain ⟨q,hq⟩:=bH (l:=l) (i:=k-1) aa;have mW:=kl.gR hs (i:=k-1) aa;rw [show ((k-1:Nat):Int)=(k:Int)-1 from by omega] at mW;have hcq:=kl.c1 (hs.ext x4) hq;have H6:=kl.some hs (i:=k-1) aa;rw [show ((k:Int)-1).toNat=k-1 from by omega];have hlast:=hprev k aa;rw [if_neg aa,hq] at hlast;refine ⟨mW,Cn.2 ⟨H6,_,hcq,Br.mk (λh5=> ?_) (λh5=> ?_)⟩⟩
     ·exact fin _ x4 (.inr (.inr (.inr (by rw [hlast];simpa using h5))))
     ·exact nx (by rw [hlast];simpa using h5) hbm
    ·refine nx ?_ hbm;have:k=0:=by omega
     subst this;simp
 ·obtain rfl:k=l.length:=by omega
  rw [List.drop_length] at heq;apply Br.mk<;>intro h1<;>simp at h1
  ·refine ⟨?_,xr⟩;unfold qN;rw [<-heq,decide_eq_true h1];rfl
  ·refine ⟨?_,xr⟩;unfold qN;rw [decide_eq_false aa];rfl
open Go.Code
abbrev hX:TypeId:=5
abbrev yv (b:Int):LV:=[.int .u8 b]
abbrev gS (w:World) (s:Sl) (b:List Int):Prop:=RdK w s 1 (b.map yv)
abbrev mi (B:Nat) (w:World) (s:Sl) (b:List Int):Prop:=aC B hX 1 w s (b.map yv)
abbrev Yp (b:List Int):Prop:=∀c ∈ b,0<=c/\c<256
theorem mi.FP {B:Nat} {w:World} {s:Sl} {c:List Int} (h:mi B w s c):gS w s c:=aC.rd h aa
theorem gS.len {w:World} {s:Sl} {c:List Int} (h:gS w s c):s.n=c.length:=by have:=h.n;simpa using this
theorem gS.c0 {w:World} {s:Sl} {l:List Int} (h:gS w s l) {i:Nat} {b:Int} (hi:l[i]? =some b):ld w (ae s.a (i*1))=some (.int .u8 b):=by have:=h.rd i (yv b) (by rw [aS,hi];rfl) 0 _ rfl;simpa using this
theorem gS.gR {w:World} {s:Sl} {l:List Int} (h:gS w s l) {i:Nat} (hi:i<l.length):ee s.a (i:Int) s.n:=RdK.gR h aa aa (by have:=gS.len h;omega)
theorem gS.ll {w:World} {s:Sl} {l:List Int} (h:gS w s l):ag w s.a 0 (l.map (Value.int .u8)):=
 Da λj v hj=>by rw [aS,Option.map_eq_some_iff] at hj;obtain ⟨b,hb,rfl⟩:=hj;have:=gS.c0 h hb;simpa using this
theorem str_inj {b c:List Int} (hb:Yp b) (hc:Yp c):strOfNums b=strOfNums c ↔ b=c:=by
 refine ⟨λh=> ?_,λh=>by rw [h]⟩;have e:b.map (λn=>UInt8.ofNat n.toNat)=c.map λn=>UInt8.ofNat n.toNat:=by have:=congrArg (λs:ByteArray=>s.data.toList) h;simpa [strOfNums] using this
 clear h
 induction b generalizing c with
 |nil=>cases c with
  |nil=>rfl
  |cons y c=>simp at e
 |cons x b ih=>cases c with
  |nil=>simp at e
  |cons y c=>
   simp only [List.map_cons,List.cons.injEq] at e;have h1:=hb x (.head _);have h2:=hc y (.head _);have h3:=congrArg UInt8.toNat e.1;simp at h3;rw [show x=y from by omega,ih (λq hq=>hb q (.tail _ hq)) (λq hq=>hc q (.tail _ hq)) e.2]
theorem BY (s t:Sl) (b c:List Int) (w:World) (hs:gS w s b) (ht:gS w t c) (hb:Yp b) (hc:Yp c):
  ah 25 #[s,t] w λe w'=>e=Value.bool (decide (b=c))/\w'=w:=by
 apply Py.vc;refine ⟨b,(gS.len hs).symm,gS.ll hs,c,(gS.len ht).symm,gS.ll ht,?_,rfl⟩;have:rJ (strOfNums b) (strOfNums c)=decide (b=c):=by rw [Bool.eq_iff_iff,Hu,str_inj hb hc,decide_eq_true_iff]
 rw [this]
theorem Ao (n:Int) (w:World) (hi:bS n):
  ah 254 #[n] w λe w'=>∃s:Sl,e=s/\mi w w' s (o5 n)/\Ext w w':=by
 apply Ld.vc;refine Br.mk (λh=> ?_) (λh=>Br.mk (λh2=> ?_) (λh2=> ?_))<;>simp only [cS,eW] at*
 ·exact ⟨⟨none,0,0⟩,rfl,by unfold o5;rw [if_pos (.inl h)];exact aC.nil,Ext.cQ w⟩
 ·exact ⟨⟨none,0,0⟩,rfl,by unfold o5;rw [if_pos (.inr h2)];exact aC.nil,Ext.cQ w⟩
 have e0:o5 n=uH 3 n:=by unfold o5;rw [if_neg aa]
 rw [e0];refine ⟨λm x o wr=>∃(k:Nat) (b:List Int),k=m/\1<=k/\k<=3/\0<=x/\x<128 ^ k/\b.length+k=3/\Ext w wr/\mi w wr o b/\b++uH k x=uH 3 n,⟨3,3,[],rfl,by omega,by omega,by omega,by omega,rfl,Ext.cQ w,aC.nil,rfl⟩,?_⟩;rintro m us x o wr ⟨k,b,rfl,k1,k3,hx0,hx,JB,xr,ho,heq⟩;have ZG:=gS.len (mi.FP ho);apply Br.mk<;>intro h3<;>simp only [cS,eW] at h3
 ·obtain ⟨j,rfl⟩:∃j,k=j+1:=⟨k-1,by omega⟩;rintro w7 rfl;rw [ai2 x hx0];obtain ⟨hp,bo⟩:=aC.iN ho (bytes:=1) (news:=yv (128+x % 128)) (.cells #[.int .u8 (128+x % 128)] hX) xr.size rfl (te _ _) aa aa;refine ⟨hp,λE9 dA hr'=> ?_⟩;obtain ⟨k1',ho',_,xb,_,_⟩:=bo E9 dA hr';have arp:x.fdiv (2 ^(min (7:Int).toNat 64))=x / 128:=by rw [show ((2:Int) ^(min (7:Int).toNat 64))=128 from by decide];exact rM _ aa
  rw [arp];have hj:1<=j:=by
   rcases Nat.eq_zero_or_pos j with rfl|h
   ·simp at hx;omega
   ·exact h
  refine ⟨k1',j,by omega,j,b++ [128+x % 128],rfl,hj,by omega,by omega,?_,by simp;omega,xr.trans xb,?_,?_⟩
  ·rw [Int.pow_succ] at hx;omega
  ·show aC _ _ 1 _ _ ((b++ [128+x % 128]).map yv);rw [bZ];exact ho'
  ·rw [<-heq];show _=b++(if x<128 then [x] else (128+x % 128)::uH j (x / 128));rw [if_neg aa];simp
 ·rintro w7 rfl;have hwx:eV x=x:=by rw [wrap_u8];omega
  rw [hwx];obtain ⟨hp,bo⟩:=aC.iN ho (bytes:=1) (news:=yv x) (.cells #[.int .u8 x] hX) xr.size rfl (te _ _) aa aa;refine ⟨hp,λE9 dA hr'=> ?_⟩;obtain ⟨k1',ho',_,xb,_,_⟩:=bo E9 dA hr';refine ⟨k1',E9,rfl,?_,xr.trans xb⟩;rw [<-heq];obtain ⟨j,rfl⟩:∃j,k=j+1:=⟨k-1,by omega⟩;show aC _ _ 1 _ _ ((b++(if x<128 then [x] else (128+x % 128)::uH j (x / 128))).map yv);rw [if_pos aa,bZ];exact ho'
theorem drop_cons {α:Type} {l:List α} {k:Nat} {c:α} (h:l[k]? =some c):l.drop k=c::l.drop (k+1):=by obtain ⟨h1,h2⟩:=cR.1 h;rw [List.drop_eq_getElem_cons h1,h2]
theorem Ah (s:Sl) (b:List Int) (w:World) (hs:gS w s b) (hb:Yp b) (hc:s.n<=s.c):
  ah 184 #[s] w λe w'=>e=Value.tuple #[.int .i64 (fi b).1,.int .i64 (fi b).2.1,.int .i64 (fi b).2.2]/\w'=w:=by
 have hn:=gS.len hs;apply K9.vc;have em:(if 3<((s.n:Nat):Int) then 3 else ((s.n:Nat):Int))=((min 3 s.n:Nat):Int):=by split<;>omega
 rw [em];refine ⟨by omega,by omega,?_⟩;refine ⟨λn x y wr=>∃k:Nat,x=k/\k+n=min 3 s.n/\wr=w/\0<=y/\y<128 ^ k/\qM (3-k) k y (b.drop k)=fi b,⟨min 3 s.n,0,rfl,by omega,rfl,by omega,by omega,rfl⟩,?_⟩;rintro n us x y wr ⟨k,rfl,hk,rfl,y0,y1,heq⟩;have hw:=aK (n:=(k:Int)+1) (by unfold bS;omega);apply Br.mk<;>intro h<;>simp only [cS,eW] at h
 ·obtain ⟨c,hcb⟩:=bH (l:=b) (i:=k) aa;have hci:=hb c (aZ hcb);rw [drop_cons hcb,show 3-k=(2-k)+1 from by omega,xC] at heq;have mW:=gS.gR hs (i:=k) aa;obtain ⟨o1,o2⟩:=afz k aa y c y0 y1 hci.1 hci.2;have hp:=XA k y c y1;have hp0:0<=(128:Int) ^ k:=Int.pow_nonneg aa;have hm0:0<=c % 128*128 ^ k:=Int.mul_nonneg aa hp0;refine ⟨⟨?_,by omega,by omega⟩,c,?_,?_⟩
  ·have:=mW.1;unfold aJ;split
   ·exact this
   ·rw [Option.isSome_map];exact this
  ·rw [lG];exact gS.c0 hs hcb
  ·rw [o1,hw];refine abI.2 ⟨o2,?_⟩;apply Br.mk<;>intro h1<;>simp only [cS,eW] at h1
   ·rw [if_pos h1] at heq;exact ⟨n-1,by omega,k+1,by omega,by omega,rfl,by omega,hp,by rw [show 3-(k+1)=2-k from by omega];exact heq⟩
   ·rw [if_neg h1] at heq;refine Br.mk (λh2=>Br.mk (λh3=> ?_) (λh3=>Br.mk (λh4=> ?_) (λh4=> ?_))) (λh2=>Br.mk (λh4=> ?_) (λh4=> ?_))<;>simp only [cS,eW,beq_iff_eq,beq_eq_false_iff_ne] at*
    ·rw [if_pos (.inl ⟨h2,by omega⟩)] at heq;exact ⟨by rw [<-heq],by first|rfl|trivial⟩
    ·rw [if_pos (.inr h4)] at heq;exact ⟨by rw [<-heq],by first|rfl|trivial⟩
    ·rw [if_neg aa] at heq;exact ⟨by rw [<-heq],by first|rfl|trivial⟩
    ·rw [if_pos (.inr h4)] at heq;exact ⟨by rw [<-heq],by first|rfl|trivial⟩
    ·rw [if_neg aa] at heq;exact ⟨by rw [<-heq],by first|rfl|trivial⟩
 ·have hkm:k=min 3 s.n:=by omega
  apply Br.mk<;>intro h2<;>simp only [cS,eW] at h2
  ·have:b.drop k=[]:=List.drop_eq_nil_of_le aa;rw [this,show 3-k=(2-k)+1 from by omega] at heq;exact ⟨by rw [<-heq];rfl,by first|rfl|trivial⟩
  ·rw [show 3-k=0 from by omega] at heq;exact ⟨by rw [<-heq];rfl,by first|rfl|trivial⟩
abbrev aes (B:Nat) (l:List Rn) (e:Ending) (w':World):Prop:=
 ∃s:Sl,e=Value.tuple #[s,.int .i64 (if okW cX l then 0 else 1)]/\mi B w' s (if okW cX l then qI l else [])
theorem Vk (left:Int) (r:Rn) (t:List Rn):Dt left (r::t)=if r.1<1\/r.1>left then false else Dt (left-r.1) t:=rfl
theorem BP (s:Sl) (l:List Rn) (w:World) (hs:kl w s l) (hb:l.length<=2000000) (hl:∀r ∈ l,bS r.1/\bS r.2):
  ah 190 #[s] w λe w'=>aes w l e w'/\Ext w w':=by
 have tU:=kl.len hs;apply Pu.vc;refine ⟨λn x y wr=>∃k:Nat,x=k/\k+n=l.length/\Ext w wr/\0<=y/\y<=1048576/\y=1048576-bQ (l.take k)/\Dt y (l.drop k)=Dt 1048576 l,⟨l.length,0,rfl,by omega,Ext.cQ w,by omega,by omega,rfl,rfl⟩,?_⟩;rintro n us x y wr ⟨k,rfl,hk,xr,y0,y1,hy,heq⟩;have hw:=aK (n:=(k:Int)+1) (by unfold bS;omega);apply Br.mk<;>intro h<;>simp only [cS,eW] at h
 ·obtain ⟨r,hr⟩:=bH (l:=l) (i:=k) aa;have hd:=drop_cons hr;rw [hd,Vk] at heq;refine ⟨kl.gR hs aa,_,_,kl.ll (hs.ext xr) hr,?_⟩;rintro w9 rfl bD rfl;have bj:=((xr.tr (Ext.al _ (.cells #[ab,ab] gx))).setRow xr.size #[.int .i64 r.1,.int .i64 r.2]);have bad:∀w',Ext w w'->(r.1<1\/r.1>y)->aes w l (.returned (.tuple #[.slice none 0 0,(1:Int)])) w'/\Ext w w':=by
   intro w' x' hh;rw [if_pos hh] at heq;have:okW cX l=false:=by unfold okW;rw [<-heq];rfl
   exact ⟨⟨⟨none,0,0⟩,by rw [this];rfl,by rw [this];exact aC.nil⟩,x'⟩
  refine Br.mk (λh1=> ?_) (λh1=>Br.mk (λh2=> ?_) (λh2=> ?_))<;>simp only [cS,eW] at h1
  ·exact bad _ bj (.inl h1)
  ·replace h2:=lY h2;have sO:=hl r (aZ hr);unfold bS at sO;have AA:=aK (n:=y-r.1) (by unfold bS;omega);exact bad _ bj (.inr aa)
  ·replace h2:=mg h2;have sO:=hl r (aZ hr);unfold bS at sO;have AA:=aK (n:=y-r.1) (by unfold bS;omega);rw [if_neg aa] at heq;have e:=nX hr;refine ⟨n-1,by omega,k+1,by omega,by omega,bj,by omega,by omega,by omega,?_⟩;rw [<-heq,AA]
 ·have N6:k=l.length:=by omega
  subst N6;rw [List.drop_length] at heq;rw [iB] at hy;have amk:Dt 1048576 l=true:=by rw [<-heq];rfl
  have Aw:=(KQ amk).1;refine (ph s l wr (hs.ext xr) (by unfold Bd;omega) (λr hr=>by have:=Aw r hr;omega) aa).mono ?_;rintro e w0 ⟨rfl,x0⟩;refine ⟨_,rfl,(vj s l (bQ l) w0 ((hs.ext xr).ext x0) (by unfold Bd;omega) (by unfold bS;omega)).mono ?_⟩;rintro e w1 ⟨rfl,x1⟩;have bk:okW cX l=qN cX l (bQ l):=by unfold okW;rw [amk];rfl
  have jC:=(xr.tr x0).tr x1;refine ⟨_,rfl,Br.mk (λh2=> ?_) (λh2=> ?_)⟩
  ·have:okW cX l=false:=by rw [bk];simpa using h2
   exact ⟨⟨⟨none,0,0⟩,by rw [this];rfl,by rw [this];exact aC.nil⟩,jC⟩
  ·have aml:okW cX l=true:=by rw [bk];simpa using h2
   refine ⟨λn x o wr=>∃k:Nat,x=k/\k+n=l.length/\Ext w wr/\mi w wr o (qI (l.take k)),⟨l.length,0,rfl,by omega,jC,aC.nil⟩,?_⟩;rintro n2 wM x2 o w2 ⟨j,rfl,hj,x2,ho⟩;have hwj:=aK (n:=(j:Int)+1) (by unfold bS;omega);apply Br.mk<;>intro h<;>simp only [cS,eW] at h
   ·obtain ⟨r,hr⟩:=bH (l:=l) (i:=j) aa;have sO:=hl r (aZ hr);have ZG:=gS.len (mi.FP ho);have hol:=RG (l.take j);rw [dC] at hol;refine ⟨kl.gR hs aa,_,_,kl.ll (hs.ext x2) hr,?_⟩;rintro fH rfl cP ah3 eG rfl;have dQ:Ext w cP:=by rw [ah3];exact ((x2.tr (Ext.al _ (.cells #[ab,ab] gx))).setRow x2.size #[.int .i64 r.1,.int .i64 r.2])
    have cN:Row cP w2 [.int .i64 r.1,.int .i64 r.2] gx:=by rw [ah3];exact (Row.new w2 [ab,ab] gx).set [.int .i64 r.1,.int .i64 r.2]
    have Wq:mi w cP.drew o (qI (l.take j)):=by refine aC.ext (aC.c9 ho (w':=cP) ?_) (Ext.dr _);intro g hg;have:=(ho.own.lt hg).2;rw [ah3,setRow_other _ _ _ _ aa];exact (Ext.al _ _).heap this
    have hlt25:=cN.lt;have xd:=dQ.drew;have hrowd:=cN.ext (Ext.dr cP);have hz:=lv cP;rw [wrap_u8];obtain ⟨hp,bo⟩:=aC.iN Wq (bytes:=1) (news:=yv (r.2 % 256)) (.cells #[.int .u8 (r.2 % 256)] hX) xd.size rfl (te _ _) aa aa;refine ⟨hp,λSy gn hr'=> ?_⟩;obtain ⟨k1,ho',hn',xb,Nt,JB⟩:=bo Sy gn hr';have gy:Ext w gn:=xd.trans xb;have wA:o.aY≠some w2.heap.size:=λhb=>absurd (ho.own.lt hb).2 (Nat.lt_irrefl _)
    have amm:gn.heap[w2.heap.size]? =cP.drew.heap[w2.heap.size]? :=Nt _ wA aa;have hrow28:=hrowd.same amm;have hlt28:=hrow28.lt;have hlt28':cP.drew.heap.size<gn:=by have e:(cP.drew.alloc (.cells #[.int .u8 (r.2 % 256)] hX)).heap[cP.drew.heap.size]? =some (.cells #[.int .u8 (r.2 % 256)] hX (0,0)):=Row.new cP.drew [.int .u8 (r.2 % 256)] hX;rw [<-k1] at e;exact (rI.1 e).1
    have ll0:∀{w'},Row w' w2 [.int .i64 r.1,.int .i64 r.2] gx->ag w' (some ⟨w2.heap.size,0,none⟩) 0 [.int .i64 r.1]:=λhh=>hh.bY (o:=0) λj hj=>by
     have:j=0:=by simpa using hj
     subst this;rfl
    have ll1:∀{w'},Row w' w2 [.int .i64 r.1,.int .i64 r.2] gx->ag w' (some ⟨w2.heap.size,1,none⟩) 0 [.int .i64 r.2]:=λhh=>hh.bY (o:=1) λj hj=>by
     have:j=0:=by simpa using hj
     subst this;rfl
    refine ⟨?_,k1,ll0 hrow28,ll1 hrow28,(Ao r.1 gn sO.1).mono ?_⟩
    ·rw [amm];symm;exact (Ext.al _ _).heap aa
    rintro e dH ⟨sn,rfl,on,fI⟩;have hnn:=gS.len (mi.FP on);have hnl:=KS r.1;have hrow29:=hrow28.ext fI;refine ⟨sn,rfl,fI.heap hlt28,fI.heap hlt28',ll1 hrow29,((o5 r.1).map yv).flatten,RdK.flat (mi.FP on) aa,?_⟩;have ho3:aC w hX 1 dH Sy _:=aC.ext ho' fI;obtain ⟨Wj,hres2⟩:=aC.FO ho3 (bytes:=1) (more:=(o5 r.1).map yv) (gy.tr fI).size bt (by intro q hq;obtain ⟨c,_,rfl⟩:=bg.1 hq;exact te _ _) (by simp;omega) (by simp;omega);rw [aM] at Wj hres2;rw [hnn];refine ⟨Wj,λoB ej py=> ?_⟩;obtain ⟨ho4,_,xb2,EO,_⟩:=hres2 oB ej py;have jb:Sy.aY≠some w2.heap.size:=by
     rcases JB with h|h
     ·rw [h];exact wA
     ·rw [h];intro hb;simp at hb;omega
    have hne2:Sy.aY≠some cP.drew.heap.size:=by
     rcases JB with h|h
     ·rw [h];intro hb;exact absurd (Wq.own.lt hb).2 (Nat.lt_irrefl _)
     ·rw [h];intro hb;simp at hb
    have amn:=EO _ jb (j9 hlt28 fI.size);refine ⟨amn,EO _ hne2 (j9 hlt28' fI.size),ll1 (hrow29.same amn),n2-1,by omega,j+1,by omega,by omega,(gy.tr fI).trans xb2,?_⟩;rw [XB hr];show aC _ _ 1 _ _ ((qI (l.take j)++(r.2 % 256::o5 r.1)).map yv);rw [bZ,fT];have:=ho4;rw [gO] at this;exact this
   ·have:j=l.length:=by omega
    subst this;rw [iB] at ho;exact ⟨⟨o,by rw [aml];rfl,by rw [aml];exact ho⟩,x2⟩
theorem Xl (b:List Int):∀r ∈ b.map yv,One r:=by intro q hq;obtain ⟨c,_,rfl⟩:=bg.1 hq;exact te _ _
abbrev Zt (B:Nat) (p:List Rn × Int) (e:Ending) (w':World):Prop:=
 ∃s:Sl,e=Value.tuple #[s,p.2]/\uY B w' s p.1
theorem wu (may:Int->Bool) (f:Nat) (c:Int) (t:List Int) (n last:Int) (acc:List Rn):mD may (f+1) (c::t) n last acc=
  if may c=false\/c=last then ([],2)
  else if (fi t).2.2≠0 then ([],(fi t).2.2)
  else if (fi t).1=0\/(fi t).1>n then ([],2)
  else if n-(fi t).1=0 then (if t.drop (fi t).2.1.toNat=[] then (acc++ [((fi t).1,c)],0) else ([],2))
  else mD may f (t.drop (fi t).2.1.toNat) (n-(fi t).1) c (acc++ [((fi t).1,c)]):=rfl
theorem Zu {B:Nat} {p:List Rn × Int} {q:Int} {w':World} (h:p=([],q)):Zt B p (.returned (.tuple #[.slice none 0 0,q])) w':=by subst h;exact ⟨⟨none,0,0⟩,rfl,aC.nil⟩
theorem EE {may:Int->Bool}:∀(f g:Nat) (b:List Int) {n last:Int} {acc:List Rn} (_:b.length<f) (_:b.length<g),mD may f b n last acc=mD may g b n last acc
 |0,_,_,_,_,_,h,_=>by omega
 |_+1,0,_,_,_,_,_,h=>by omega
 |f+1,g+1,[],_,_,_,_,_=>rfl
 |f+1,g+1,c::t,n,last,acc,h1,h2=>by
  rw [wu,wu]
  have hd:=Cr 3 0 0 t aa
  rw [show qM 3 0 0 t=fi t from rfl] at hd
  simp only [dv] at h1 h2
  rw [EE f g (t.drop (fi t).2.1.toNat) (by rw [List.length_drop];omega) (by rw [List.length_drop];omega)]
theorem EG (s:Sl) (b:List Int) (n:Int) (w:World) (hs:gS w s b) (hb:Yp b) (hc:s.n<=s.c) (hl:b.length<=1099511627776) (hn:1<=n) (hn':bS n):
  ah 134 #[s,n] w λe w'=>Zt w (iZ cX b n) e w'/\Ext w w':=by
 unfold bS at hn';apply TT.vc;refine ⟨λm s3 last left o wr=>∃(b':List Int) (acc:List Rn),m=b'.length/\gS w s3 b'/\s3.n<=s3.c/\Yp b'/\acc.length+b'.length<=b.length/\1<=left/\left<=n/\Ext w wr/\uY w wr o acc/\mD cX (b'.length+1) b' left last acc=iZ cX b n,⟨b.length,b,[],rfl,hs,hc,hb,by simp,hn,by omega,Ext.cQ w,aC.nil,rfl⟩,?_⟩;rintro m us s3 last left o wr ⟨b',acc,rfl,h3,h3c,hb',asH,hl1,VN,xr,ho,heq⟩;have hn3:=gS.len h3;apply Br.mk<;>intro h<;>simp only [cS,eW] at h
 ·obtain ⟨c,t,rfl⟩:∃c t,b'=c::t:=by
   cases b' with
   |nil=>simp at hn3;omega
   |cons c t=>exact ⟨c,t,rfl⟩
  have hci:=hb' c (.head _);have htI:Yp t:=λq hq=>hb' q (.tail _ hq)
  simp only [dv] at hn3 asH;rw [wu] at heq;have hwc:=aK (n:=c) (by unfold bS;omega);have hrt:gS wr ⟨aJ s3.a 1 s3.n 1,s3.n-1,s3.n-1⟩ t:=by have:=RdK.rest (h3.ext xr) (l:=1) (m:=s3.n) (n':=s3.n-1) (c':=s3.n-1) (by rw [aM,dv];omega) (λe=>by rw [aM,dv];omega);exact this
  refine ⟨gS.gR h3 (i:=0) bt,c,gS.c0 (h3.ext xr) (i:=0) rfl,?_⟩;rw [hwc];rintro bD rfl aW Ra;have bz:Ext w aW:=by rw [Ra];exact ((xr.tr (Ext.al _ (.cells #[ab,ab] gx))).setRow xr.size #[ab,.int .i64 c])
  have ama:Ext wr aW:=by rw [Ra];exact ((Ext.al wr (.cells #[ab,ab] gx)).setRow (aB _) #[ab,.int .i64 c])
  have cN:Row aW wr [ab,.int .i64 c] gx:=by rw [Ra];exact (Row.new wr [ab,ab] gx).set [ab,.int .i64 c]
  have bad:∀{q:Int} {w':World},Ext w w'->iZ cX b n=([],q)->Zt w (iZ cX b n) (.returned (.tuple #[.slice none 0 0,.int .i64 q])) w'/\Ext w w':=λx' e=>⟨Zu e,x'⟩
  refine (gl c aW).mono ?_;rintro e cM ⟨rfl,bU⟩;have jn:=bz.tr bU;have hrow12:=cN.ext bU;refine ⟨_,rfl,bU.heap cN.lt,Br.mk (λh1=> ?_) (λh1=>Br.mk (λh2=> ?_) (λh2=> ?_))⟩
  ·refine bad jn ?_;rw [<-heq,if_pos (.inl (by simpa using h1))]
  ·refine bad jn ?_;rw [<-heq,if_pos (.inr (by simpa using h2))]
  have hm:cX c=true:=by simpa using h1
  have hl':c≠last:=by simpa using h2
  rw [if_neg (by rw [hm];simp [hl'])] at heq;refine ⟨by omega,by omega,by omega,by omega,by omega,by omega,?_⟩;refine (Ah ⟨aJ s3.a 1 s3.n 1,s3.n-1,s3.n-1⟩ t cM ((hrt.ext ama).ext bU) htI (aB _)).mono ?_;rintro e bK ⟨rfl,rfl⟩;have amb:=Cr 3 0 0 t aa;rw [show qM 3 0 0 t=fi t from rfl] at amb;generalize fi t=d at*;obtain ⟨sz,kk,er⟩:=d;simp only at*;refine ⟨_,_,_,rfl,(by first|rfl|trivial),Br.mk (λh3'=> ?_) (λh3'=> ?_)⟩
  ·refine bad jn ?_;rw [<-heq,if_pos (by simpa using h3')]
  have her:er=0:=by simpa using h3'
  subst her;have hd:=amb rfl;rw [if_neg bt] at heq;refine Br.mk (λh4=> ?_) (λh4=>Br.mk (λh5=> ?_) (λh5=> ?_))<;>simp only [beq_iff_eq,beq_eq_false_iff_ne,cS,eW] at h4
  ·refine bad jn ?_;rw [<-heq,if_pos (.inl h4)]
  ·replace h5:=lY h5;refine bad jn ?_;rw [<-heq,if_pos (.inr h5)]
  replace h5:=mg h5;rw [if_neg aa] at heq;have hwl:=aK (n:=left-sz) (by unfold bS;omega);have SX:=aK (n:=1+kk) (by unfold bS;omega);rw [hwl,SX];rintro dA aa2;have cg:Ext w dA:=by rw [aa2];exact jn.setRow xr.size _
  have adT:uY w bK o acc:=aC.ext ho (ama.tr bU);have amc:uY w dA.drew o acc:=by refine aC.ext (aC.c9 adT (w':=dA) ?_) (Ext.dr _);intro g hg;have:=(ho.own.lt hg).2;rw [aa2,setRow_other _ _ _ _ aa]
  have hlt18:wr.heap.size<dA:=by rw [aa2,setRow_size];exact hrow12.lt
  have xd:=cg.drew;have hz:=lv dA;have ZG:=kl.len amc.Fy;refine ⟨by omega,by omega,?_⟩;rintro fy rfl;obtain ⟨hp,bo⟩:=aC.iN amc (bytes:=16) (news:=rv (sz,c)) (.cells #[sz,.int .i64 c] gx) xd.size rfl (zh _ _ _ _) aa aa;refine ⟨hp,λuB ed hr'=> ?_⟩;obtain ⟨k1,ho',_,xb,Nt,_⟩:=bo uB ed hr';have dm:Ext w ed:=xd.trans xb;have amd:uY w ed uB (acc++ [(sz,c)]):=by show aC _ _ 2 _ _ ((acc++ [(sz,c)]).map rv);rw [bZ];exact ho'
  have hkeep:ed.heap[wr.heap.size]? =(dA.drew.alloc (.cells #[sz,.int .i64 c] gx)).heap[wr.heap.size]? :=by rw [Nt _ (λhb=>absurd (ho.own.lt hb).2 (Nat.lt_irrefl _)) aa];symm;exact (Ext.al _ _).heap aa
  have Rj:(t.drop kk.toNat).length=t.length-kk.toNat:=List.length_drop;refine ⟨hkeep,k1,Br.mk (λh6=>Br.mk (λh7=> ?_) (λh7=>Br.mk (λh8=> ?_) (λh8=> ?_))) (λh6=> ?_)⟩<;>simp only [beq_iff_eq,beq_eq_false_iff_ne] at h6
  ·simp only [cS] at h7;omega
  ·replace h8:=lY h8;rw [if_pos h6,if_neg (by intro e;rw [e] at Rj;simp at Rj;omega)] at heq;exact bad dm heq.symm
  ·replace h8:=mg h8;rw [if_pos h6,if_pos (List.eq_nil_of_length_eq_zero aa)] at heq;refine ⟨⟨uB,by rw [<-heq],by rw [<-heq];exact amd⟩,dm⟩
  ·rw [if_neg h6] at heq;have hrest:=RdK.rest h3 (l:=(1+kk).toNat) (m:=s3.c) (n':=s3.n-(1+kk).toNat) (c':=s3.c-(1+kk).toNat) (by rw [aM,dv];omega) (λe=>by rw [aM,dv];omega);rw [show (1+kk).toNat=kk.toNat+1 from by omega,fT,List.drop_succ_cons,<-List.map_drop] at hrest;rw [show (1+kk).toNat=kk.toNat+1 from by omega];refine ⟨(t.drop kk.toNat).length,by simp only [dv];omega,t.drop kk.toNat,acc++ [(sz,c)],rfl,hrest,by show s3.n-(kk.toNat+1)<=s3.c-(kk.toNat+1);omega,λq hq=>htI q (List.mem_of_mem_drop hq),by simp only [dc,dv,List.length_nil];omega,by omega,by omega,dm,amd,?_⟩;rw [<-heq];exact EE _ _ _ aa (by simp only [dv];omega)
 ·have:b'=[]:=List.eq_nil_of_length_eq_zero aa;subst this;have e:iZ cX b n=([],3):=by rw [<-heq];show (if left>0 then ([],3) else (acc,0))=_;rw [if_pos aa]
  refine Br.mk (λ_=>⟨Zu e,xr⟩) (λh2=> ?_);replace h2:=mg h2;omega
theorem aC.le {B E k:Nat} {w:World} {s:Sl} {rows:List (LV)} (h:aC B E k w s rows):s.n<=s.c:=by
 have ho:=h.own;generalize rows.flatten=xs at ho
 cases ho with
 |nil=>exact aB _
 |row g n c cs hg hr hc hn=>exact hn
theorem MD {b:List Int} {n:Int} (hb:Yp b) (hn:1<=n) (h:(iZ cX b n).2=0):qI (iZ cX b n).1=b/\iF cX (-1) (iZ cX b n).1/\bQ (iZ cX b n).1=n:=by obtain ⟨l,e1,e2,e3,e4,_⟩:=Bn (may:=cX) (b.length+1) b n (-1) [] hb hn h;rw [Xp] at e1;have e:iZ cX b n=mD cX (b.length+1) b n (-1) []:=rfl;rw [e,e1];exact ⟨e2,e3,e4⟩
theorem Uk {l:List Rn} {last:Int} (h:iF cX last l):∀r ∈ l,bS r.1/\bS r.2:=by intro r hr;have:=h.mem r hr;unfold Go.Vc.bS;omega
end Go.Proofs.YtkkkfkopcfdmaaaGreatDoor
