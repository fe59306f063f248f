import Derived.Test.YtkkkfkopcfdmaaaGreatDoorC
set_option linter.all false
namespace Go.bj
open Go Go.Vc
abbrev Rn:=Int × Int
def cw(l:List Rn):List Int:=l.flatMap λr=>List.replicate r.1.toNat r.2
def jb(out:List Rn)(r:Rn):List Rn:=
 if r.1<1 then out else
 match out.getLast? with
 |some q=>if q.2=r.2 then out.dropLast++ [(q.1+r.1,q.2)] else out++ [r]
 |none=>out++ [r]
def gP(c:List Int):List Rn:=c.foldl (λo b=>jb o (1,b)) []
def bS(l:List Rn):Int:=(l.map (·.1)).sum
inductive Nm:List Rn->Prop
 |nil:Nm []
 |snoc (l:List Rn) (r:Rn) (h:Nm l) (h1:1<=r.1) (h2:∀q,l.getLast? =some q->q.2≠r.2):Nm (l++ [r])
theorem kX{o:List Rn}{r:Rn}(h:r.1<1):jb o r=o:=by unfold jb;rw [if_pos h]
theorem jS{l:List Rn}{q r:Rn}(h1:1<=r.1)(e:q.2=r.2):jb (l++ [q]) r=l++ [(q.1+r.1,q.2)]:=by
 unfold jb;have hl:(l++ [q]).getLast? =some q:=by simp
 rw [if_neg ab,hl];simp [e]
theorem gu{l:List Rn}{r:Rn}(h1:1<=r.1)(h2:∀q,l.getLast? =some q->q.2≠r.2):jb l r=l++ [r]:=by
 unfold jb;rw [if_neg ab];split
 ·rename_i q hq;rw [if_neg (h2 q hq)]
 ·rfl
theorem wh(l:List Rn):l=[]\/∃m q,l=m++ [q]:=by
 rcases List.eq_nil_or_concat l with h|⟨m,q,h⟩
 ·exact .inl h
 ·exact .inr ⟨m,q,by simpa using h⟩
theorem UO(o:List Rn){a c b:Int}(ha:1<=a)(hc:1<=c):jb (jb o (a,b)) (c,b)=jb o (a+c,b):=by
 have hac:1<=a+c:=by omega
 rcases wh o with rfl|⟨m,q,rfl⟩
 ·rw [gu (l:=[]) (r:=(a,b)) ha bB,gu (l:=[]) (r:=(a+c,b)) hac bB,jS (q:=(a,b)) (r:=(c,b)) hc rfl]
 ·by_cases e:q.2=b
  ·rw [jS (r:=(a,b)) ha e,jS (r:=(a+c,b)) hac e,jS (q:=(q.1+a,q.2)) (r:=(c,b)) hc e];simp [Int.add_assoc]
  ·have h2:∀x:Int,∀p,(m++ [q]).getLast? =some p->p.2≠((x,b):Rn).2:=by intro x p hp;simp at hp;subst hp;exact e
   rw [gu (r:=(a,b)) ha (h2 a),gu (r:=(a+c,b)) hac (h2 _),jS (q:=(a,b)) (r:=(c,b)) hc rfl]
theorem LM(o:List Rn)(b:Int):∀n:Nat,(List.replicate n b).foldl (λo b=>jb o (1,b)) o=jb o ((n:Int),b)
 |0=>by rw [kX bB];rfl
 |n+1=>by
  rw [List.replicate_succ',List.foldl_append,LM o b n]
  show jb (jb o ((n:Int),b)) (1,b)=_
  rcases Nat.eq_zero_or_pos n with rfl|hn
  ·rw [kX (r:=(((0:Nat):Int),b)) bB];rfl
  ·rw [UO o ab ab];rfl
theorem acV(c d:List Int):gP (c++d)=d.foldl (λo b=>jb o (1,b)) (gP c):=by unfold gP;rw [List.foldl_append]
theorem LJ(c:List Int)(r:Rn):jb (gP c) r=gP (c++List.replicate r.1.toNat r.2):=by
 rw [acV,LM];rcases Int.lt_or_le r.1 1 with h|h
 ·rw [kX h,kX (by show ((r.1.toNat:Nat):Int)<1;omega)]
 ·rw [show ((r.1.toNat:Nat):Int)=r.1 from by omega]
theorem Nm.push{o:List Rn}(h:Nm o)(r:Rn):Nm (jb o r):=by
 rcases Int.lt_or_le r.1 1 with h1|h1
 ·rw [kX h1];exact h
 ·cases h with
  |nil=>rw [gu h1 bB];exact .snoc _ _ .nil h1 bB
  |snoc l q hl hq h2=>
   by_cases e:q.2=r.2
   ·rw [jS h1 e];exact .snoc _ _ hl (by show 1<=q.1+r.1;omega) h2
   ·have h3:∀p,(l++ [q]).getLast? =some p->p.2≠r.2:=by intro p hp;simp at hp;subst hp;exact e
    rw [gu h1 h3];exact .snoc _ _ (.snoc _ _ hl hq h2) h1 h3
theorem Ed(c:List Int):Nm (gP c):=by
 have:∀(c:List Int)(o:List Rn),Nm o->Nm (c.foldl (λo b=>jb o (1,b)) o):=by
  intro c
  induction c with
  |nil=>intro o h;exact h
  |cons b c ih=>intro o h;exact ih _ (h.push _)
 exact this c [] .nil
theorem gM(l m:List Rn):cw (l++m)=cw l++cw m:=by unfold cw;rw [List.flatMap_append]
theorem iI(r:Rn):cw [r]=List.replicate r.1.toNat r.2:=by simp [cw]
theorem Nm.fix{l:List Rn}(h:Nm l):gP (cw l)=l:=by
 induction h with
 |nil=>rfl
 |snoc l r hl h1 h2 ih=>
  rw [gM,iI,<-LJ,ih,gu h1 h2]
theorem Nm.pos{l:List Rn}(h:Nm l):∀r ∈ l,1<=r.1:=by
 induction h with
 |nil=>simp
 |snoc l r hl h1 h2 ih=>
  intro q hq;rcases di.1 hq with hq|hq
  ·exact ih q hq
  ·simp at hq;rw [hq];exact h1
theorem P8{o:List Rn}(h:Nm o)(r:Rn):cw (jb o r)=cw o++List.replicate r.1.toNat r.2:=by
 rcases Int.lt_or_le r.1 1 with h1|h1
 ·rw [kX h1,show r.1.toNat=0 from by omega];simp
 ·cases h with
  |nil=>rw [gu h1 bB,gM,iI]
  |snoc l q hl hq h2=>
   by_cases e:q.2=r.2
   ·rw [jS h1 e,gM,gM,iI,iI];show _++List.replicate (q.1+r.1).toNat q.2=_;rw [show (q.1+r.1).toNat=q.1.toNat+r.1.toNat from by omega,<-List.replicate_append_replicate,e];simp
   ·rw [gu h1 (by intro p hp;simp at hp;subst hp;exact e),gM,iI]
theorem nA(c:List Int):cw (gP c)=c:=by
 have:∀(c:List Int)(o:List Rn),Nm o->cw (c.foldl (λo b=>jb o (1,b)) o)=cw o++c:=by
  intro c
  induction c with
  |nil=>intro o h;simp
  |cons b c ih=>intro o h;rw [List.foldl_cons,ih _ (h.push _),P8 h];simp
 rw [gP,this c [] .nil];rfl
theorem LN(l m:List Rn):bS (l++m)=bS l+bS m:=by simp [bS]
theorem eU{l:List Rn}(h:∀r ∈ l,0<=r.1):bS l=((cw l).length:Nat):=by
 induction l with
 |nil=>rfl
 |cons r l ih=>
  have:=ih λq hq=>h q (.tail _ hq)
  have hr:=h r (.head _);simp only [bS,eP,List.sum_cons] at this ⊢;rw [this];simp [cw];omega
theorem lT(c:List Int):bS (gP c)=(c.length:Nat):=by rw [eU λr hr=>by have:=(Ed c).pos r hr;omega,nA]
theorem Nm.agm{l:List Rn}(h:Nm l):l.length<=(cw l).length:=by
 induction h with
 |nil=>simp
 |snoc l r hl h1 h2 ih=>rw [gM,iI];simp;omega
theorem qT(c:List Int):(gP c).length<=c.length:=by have:=(Ed c).agm;rwa [nA] at this
end Go.bj
namespace Go.bj
theorem acW{l:List Rn}(h:∀r ∈ l,0<=r.1){q:Rn}(hq:q ∈ l):q.1<=bS l:=by
 induction l with
 |nil=>cases hq
 |cons r l ih=>
  have hr:=h r (.head _);have hl:0<=bS l:=by rw [eU λq hq=>h q (.tail _ hq)];omega
  have e:bS (r::l)=r.1+bS l:=by simp [bS]
  rw [e];rcases cB.1 hq with rfl|hq
  ·omega
  ·have:=ih (λq hq=>h q (.tail _ hq)) hq;omega
theorem m8{c:List Int}{q:Rn}(hq:q ∈ gP c):1<=q.1/\q.1<=(c.length:Nat):=by have h:=(Ed c).pos;refine ⟨h q hq,?_⟩;rw [<-lT];exact acW (λr hr=>by have:=h r hr;omega) hq
def Gt(c:List Int)(a b:Int):List Int:=(c.take b.toNat).drop a.toNat
theorem YI(c:List Int)(n:Nat)(x a b:Int)(ha:0<=a)(hb:0<=b):
  Gt (c++List.replicate n x) a b=Gt c a b++List.replicate (min b (c.length+n:Nat)-max a (c.length:Nat)).toNat x:=by
 unfold Gt;rw [List.take_append,List.drop_append,List.take_replicate,List.drop_replicate,du];congr 2;omega
end Go.bj
namespace Go.bj
def yj(c:List Int)(a b x:Int):List Int:=c.mapIdx λi y=>if a<=(i:Int)/\(i:Int)<b then x else y
theorem UP(c:List Int)(a b x:Int):(yj c a b x).length=c.length:=by simp [yj]
theorem P9(c:List Int)(a b x:Int)(h:min (max b 0) (c.length:Int)<=min (max a 0) (c.length:Int)):yj c a b x=c:=by
 apply iY;intro i;unfold yj;rw [List.getElem?_mapIdx];rcases Nat.lt_or_ge i c.length with hi|hi
 ·rw [cZ hi];show some (if _ then x else _)=_;rw [if_neg ab]
 ·rw [ju hi];rfl
theorem HI(c:List Int)(a b x:Int)(h:min (max a 0) (c.length:Int)<min (max b 0) (c.length:Int)):
  yj c a b x=Gt c 0 (min (max a 0) (c.length:Int))++List.replicate (min (max b 0) (c.length:Int)-min (max a 0) (c.length:Int)).toNat x++Gt c (min (max b 0) (c.length:Int)) c.length:=by
 have h1:(Gt c 0 (min (max a 0) (c.length:Int))).length=(min (max a 0) (c.length:Int)).toNat:=by unfold Gt;simp;omega
 apply iY;intro i;unfold yj;rw [List.getElem?_mapIdx,gE];rcases Nat.lt_or_ge i c.length with hi|hi
 ·rw [cZ hi];show some (if _ then x else _)=_;rcases Nat.lt_or_ge i (min (max a 0) (c.length:Int)).toNat with hl|hl
  ·rw [if_neg ab,nN ab];unfold Gt;rw [List.getElem?_drop,List.getElem?_take];simp only [Int.toNat_zero,ep];rw [if_pos hl,cZ hi]
  ·rw [pY ab,h1];rcases Nat.lt_or_ge i (min (max b 0) (c.length:Int)).toNat with hm|hm
   ·rw [if_pos ab,nN (by rw [Ev];omega),YJ,if_pos ab]
   ·rw [if_neg ab,pY (by rw [Ev];omega),Ev];unfold Gt;rw [List.getElem?_drop,List.getElem?_take,if_pos ab];rw [show (min (max b 0) (c.length:Int)).toNat+(i-(min (max a 0) (c.length:Int)).toNat-(min (max b 0) (c.length:Int)-min (max a 0) (c.length:Int)).toNat)=i from by omega];rw [cZ hi]
 ·rw [ju hi];symm;rw [Option.map_none,ju];simp only [dm,Ev,h1];unfold Gt;simp;omega
theorem UQ(c:List Int)(i x:Int)(h0:0<=i)(h1:i<(c.length:Int)):yj c i (i+1) x=c.set i.toNat x:=by
 apply iY;intro j;unfold yj;rw [List.getElem?_mapIdx,jR];rcases Nat.lt_or_ge j c.length with hj|hj
 ·rw [cZ hj];show some (if _ then x else _)=_;by_cases e:i.toNat=j
  ·rw [if_pos ab,if_pos e,if_pos ab]
  ·rw [if_neg ab,if_neg e]
 ·rw [ju hj,if_neg ab];rfl
def atC(c:List Int)(i:Int):Int:=if i<0 then -1 else c.getD i.toNat (-1)
theorem acX(c:List Int)(i:Int)(h:i<0\/(c.length:Int)<=i):atC c i= -1:=by
 unfold atC;split
 ·rfl
 ·rw [dS,ju ab];rfl
theorem agn(c d:List Int)(n:Nat)(x i:Int)(h0:(c.length:Int)<=i)(h1:i<(c.length:Int)+n):atC (c++List.replicate n x++d) i=x:=by unfold atC;rw [if_neg ab,dS,gE,pY ab,nN (by rw [Ev];omega),YJ,if_pos ab];rfl
def uN(may:Int->Bool):Option Int->Int->List Rn->Bool
 |_,left,[]=>left==0
 |prev,left,r::t=>if r.1<1\/r.1>left\/may r.2=false\/prev=some r.2 then false else uN may (some r.2) (left-r.1) t
def qW(may:Int->Bool)(l:List Rn)(n:Int):Bool:=decide (0<n) && uN may none n l
theorem LO{may:Int->Bool}:∀{l:List Rn} {prev:Option Int} {left:Int},uN may prev left l=true->bS l=left
 | [],_,left,h=>by simp [uN] at h;rw [h];rfl
 |r::t,prev,left,h=>by
  unfold uN at h
  split at h
  ·cases h
  ·have:=LO h
   simp only [bS,eP,List.sum_cons] at this ⊢
   omega
theorem zT{may:Int->Bool}:∀{l:List Rn} {prev:Option Int} {left:Int},(∀r ∈ l,1<=r.1/\may r.2=true)->(∀i q r,l[i]? =some q->l[i+1]? =some r->q.2≠r.2)->(∀r,l.head? =some r->prev≠some r.2)->bS l=left->uN may prev left l=true
 | [],_,left,_,_,_,h=>by simp [uN,<-h,bS]
 |r::t,prev,left,h1,h2,h3,h=>by
  have hr:=h1 r (.head _)
  have ht:0<=bS t:=by rw [eU λq hq=>by have:=h1 q (.tail _ hq);omega];omega
  have e:bS (r::t)=r.1+bS t:=by simp [bS]
  unfold uN;rw [if_neg (by
   have:=h3 r rfl;rintro (h|h|h|h)
   ·omega
   ·omega
   ·rw [hr.2] at h;cases h
   ·exact this h)]
  refine zT (λq hq=>h1 q (.tail _ hq)) (λi q s hq hs=>h2 (i+1) q s (by simpa using hq) (by simpa using hs)) (λq hq=> ?_) ab;have:=h2 0 r q rfl (by cases t<;>simp_all);intro e2;exact this (Option.some.inj e2)
theorem Nm.next{l:List Rn}(h:Nm l):∀i q r,l[i]? =some q->l[i+1]? =some r->q.2≠r.2:=by
 induction h with
 |nil=>intro i q r h;simp at h
 |snoc l p hl h1 h2 ih=>
  intro i q r hq hr;rcases Nat.lt_or_ge (i+1) l.length with gZ|QW
  ·rw [nN ab] at hq hr;exact ih i q r hq hr
  ·have hi:=(cG.1 hr).1;simp at hi;have:i+1=l.length:=by omega
   rw [nN ab] at hq;rw [pY ab,this] at hr;simp at hr;subst hr;refine h2 q ?_;rw [List.getLast?_eq_getElem?,show l.length-1=i from by omega];exact hq
theorem Uw{l:List Rn}{r:Rn}(h:r ∈ l)(h1:1<=r.1):r.2 ∈ cw l:=by unfold cw;refine List.mem_flatMap.2 ⟨r,h,?_⟩;rw [Xo];exact ⟨by omega,rfl⟩
end Go.bj
namespace Go.bj
end Go.bj
namespace Go.Code
open Go Go.Vc Go.bj
def uH:Nat->Int->List Int
 |0,_=> []
 |k+1,x=>if x<128 then [x] else (128+x % 128)::uH k (x / 128)
def pr(n:Int):List Int:=if n<0\/n>1048576 then [] else uH 3 n
def qV:Nat->Nat->Int->List Int->Int × Int × Int
 |0,_,_,_=>(0,0,2)
 |_+1,_,_,[]=>(0,0,3)
 |k+1,i,n,c::t=>if c>=128 then qV k (i+1) (n+c % 128*128 ^ i) t
  else if (c=0/\0<i)\/n+c % 128*128 ^ i>1048576 then (0,0,2) else (n+c % 128*128 ^ i,(i:Int)+1,0)
def fh(b:List Int):Int × Int × Int:=qV 3 0 0 b
theorem wrap_u8(x:Int):eY x=x % 256:=by unfold IntKind.wrap;simp [IntKind.bits,IntKind.signed]
theorem aju(x:Int)(h:0<=x):Kr .u8 (eY x) 128=128+x % 128:=by
 rw [wrap_u8];have key:∀a<256,Kr .u8 ((a:Nat):Int) 128=128+((a:Nat):Int) % 128:=by decide+kernel
 have:=key (x % 256).toNat ab;rw [show (((x % 256).toNat:Nat):Int)=x % 256 from by omega] at this;rw [this];omega
theorem TS(c:Int)(h:0<=c)(h':c<256):ln .u8 c 128=c % 128:=by
 have key:∀a<256,ln .u8 ((a:Nat):Int) 128=((a:Nat):Int) % 128:=by decide+kernel
 have:=key c.toNat ab;rwa [show ((c.toNat:Nat):Int)=c from by omega] at this
theorem af1(n c k:Nat)(h:n<2 ^ k)(hb:n+c*2 ^ k<4611686018427387904):Kr .i64 (n:Int) ((c*2 ^ k:Nat):Int)=((n+c*2 ^ k:Nat):Int):=by
 unfold Kr;have e1:∀m:Nat,m<4611686018427387904->(BitVec.ofInt IntKind.i64.bits (m:Int)).toNat=m:=by intro m hm;rw [BitVec.toNat_ofInt];show ((m:Int) %((2 ^ 64:Nat):Int)).toNat=m;rw [show ((2 ^ 64:Nat):Int)=18446744073709551616 from by decide];omega
 rw [BitVec.toNat_or,e1 n ab,e1 _ ab,Nat.or_comm];have:=Nat.shiftLeft_add_eq_or_of_lt h c;rw [Nat.shiftLeft_eq] at this;rw [<-this,Nat.add_comm];exact wI
end Go.Code
namespace Go.Code
open Go Go.Vc Go.bj
theorem af2(k:Nat)(hk:k<3)(n c:Int)(h0:0<=n)(h1:n<128 ^ k)(hc:0<=c)(hc':c<256):
  Kr .i64 n (aj ((aj (ln .u8 c 128))*2 ^(min ((aj (7*(k:Int))):Int).toNat 64)))=n+c % 128*128 ^ k/\0<=aj (7*(k:Int)):=by
 have hw:=aK (n:=7*(k:Int)) (by unfold inI;omega);rw [hw,TS c hc hc',aK (n:=c % 128) (by unfold inI;omega)];refine ⟨?_,by omega⟩;have e:((2:Int) ^(min ((7*(k:Int)):Int).toNat 64))=128 ^ k:=by
  have:k=0\/k=1\/k=2:=by omega
  rcases this with rfl|rfl|rfl<;>decide
 rw [e];have hp:(128:Int) ^ k<=16384/\1<=(128:Int) ^ k:=by
  have:k=0\/k=1\/k=2:=by omega
  rcases this with rfl|rfl|rfl<;>decide
 have hm:c % 128*128 ^ k<=127*16384:=by
  have:k=0\/k=1\/k=2:=by omega
  rcases this with rfl|rfl|rfl<;>simp<;>omega
 have hm0:0<=c % 128*128 ^ k:=Int.mul_nonneg ab ab;rw [aK (n:=c % 128*128 ^ k) (by unfold inI;omega)];have e7:((2 ^(7*k):Nat):Int)=128 ^ k:=by
  have:k=0\/k=1\/k=2:=by omega
  rcases this with rfl|rfl|rfl<;>decide
 have e2:c % 128*128 ^ k=(((c % 128).toNat*2 ^(7*k):Nat):Int):=by rw [Int.natCast_mul,e7,show (((c % 128).toNat:Nat):Int)=c % 128 from by omega]
 have:=af1 n.toNat (c % 128).toNat (7*k) (by
  have:((n.toNat:Nat):Int)<((2 ^(7*k):Nat):Int):=by rw [e7];omega
  omega) (by
  have:(((c % 128).toNat*2 ^(7*k):Nat):Int)<=127*16384:=by rw [<-e2];exact hm
  omega)
 rw [e2,show n=((n.toNat:Nat):Int) from by omega];rw [this];simp
theorem xN{k j:Nat}{n c:Int}{t:List Int}:qV (j+1) k n (c::t)=if c>=128 then qV j (k+1) (n+c % 128*128 ^ k) t
   else if (c=0/\0<k)\/n+c % 128*128 ^ k>1048576 then (0,0,2) else (n+c % 128*128 ^ k,(k:Int)+1,0):=rfl
theorem XM(k:Nat)(n c:Int)(h1:n<128 ^ k):n+c % 128*128 ^ k<128 ^(k+1):=by have hp:0<=(128:Int) ^ k:=Int.pow_nonneg ab;have:c % 128*128 ^ k<=127*128 ^ k:=Int.mul_le_mul_of_nonneg_right ab hp;rw [Int.pow_succ];omega
end Go.Code
namespace Go.Code
open Go Go.Vc Go.bj
def DN:Int->List Rn->Bool
 |_,[]=>true
 |left,r::t=>if r.1<1\/r.1>left then false else DN (left-r.1) t
theorem KV:∀{l:List Rn} {left:Int},DN left l=true->(∀r ∈ l,1<=r.1)/\(l≠ []->bS l<=left)
 | [],_,_=>⟨by simp,λh=>absurd rfl h⟩
 |r::t,left,h=>by
  unfold DN at h
  split at h
  ·cases h
  ·obtain ⟨h1,h2⟩:=KV h
   refine ⟨λq hq=> ?_,λ_=> ?_⟩
   ·rcases cB.1 hq with rfl|hq
    ·omega
    ·exact h1 q hq
   ·have e:bS (r::t)=r.1+bS t:=by simp [bS]
    by_cases ht:t=[]
    ·subst ht;rw [e];simp [bS];omega
    ·have:=h2 ht;omega
def okW(may:Int->Bool)(l:List Rn):Bool:=DN 1048576 l && qW may l (bS l)
def qS(l:List Rn):List Int:=l.flatMap λr=>r.2 % 256::pr r.1
theorem aco(l m:List Rn):qS (l++m)=qS l++qS m:=by unfold qS;rw [List.flatMap_append]
theorem XN{l:List Rn}{k:Nat}{r:Rn}(hr:l[k]? =some r):qS (l.take (k+1))=qS (l.take k)++(r.2 % 256::pr r.1):=by rw [dD,hr,aco];simp [qS]
theorem KW:∀(k:Nat)(x:Int),(uH k x).length<=k
 |0,_=>by simp [uH]
 |k+1,x=>by
  unfold uH
  split
  ·simp
  ·have:=KW k (x / 128);simp;omega
theorem KX(n:Int):(pr n).length<=3:=by
 unfold pr;split
 ·simp
 ·exact KW 3 n
theorem RR(l:List Rn):(qS l).length<=4*l.length:=by
 induction l with
 |nil=>simp [qS]
 |cons r l ih=>
  have:=KX r.1;unfold qS at ih ⊢;rw [List.flatMap_cons,dm,dt,dt];omega
theorem RW:∀(k:Nat)(x:Int),0<=x->∀c ∈ uH k x,0<=c/\c<256
 |0,_,_,c,h=>by simp [uH] at h
 |k+1,x,hx,c,h=>by
  unfold uH at h
  split at h
  ·simp at h;omega
  ·rcases cB.1 h with rfl|h
   ·omega
   ·exact RW k (x / 128) ab c h
theorem acp(n:Int):∀c ∈ pr n,0<=c/\c<256:=by
 intro c h;unfold pr at h;split at h
 ·simp at h
 ·exact RW 3 n ab c h
theorem afX(l:List Rn):∀c ∈ qS l,0<=c/\c<256:=by
 intro c h;unfold qS at h;obtain ⟨r,_,hc⟩:=List.mem_flatMap.1 h;rcases cB.1 hc with rfl|hc
 ·omega
 ·exact acp r.1 c hc
end Go.Code
namespace Go.Code
open Go Go.Vc Go.bj
end Go.Code
namespace Go.Code
open Go Go.Vc Go.bj
theorem Hq:∀{l:List Rn} {left:Int},(∀r ∈ l,1<=r.1)->bS l<=left->DN left l=true
 | [],_,_,_=>rfl
 |r::t,left,h,hs=>by
  have e:bS (r::t)=r.1+bS t:=by simp [bS]
  have h1:=h r (.head _);have ht:0<=bS t:=by rw [eU λq hq=>by have:=h q (.tail _ hq);omega];omega
  unfold DN;rw [if_neg ab];exact Hq (λq hq=>h q (.tail _ hq)) ab
theorem af3{may:Int->Bool}{l:List Rn}(h:Nm l)(hm:∀r ∈ l,may r.2=true)(hs:bS l<=1048576)(iM:l≠ []):okW may l=true:=by
 unfold okW;rw [Hq h.pos hs];unfold qW;have hp:0<bS l:=by
  cases l with
  |nil=>exact absurd rfl iM
  |cons r t=>
   have e:bS (r::t)=r.1+bS t:=by simp [bS]
   have h1:=h.pos r (.head _);have ht:0<=bS t:=by rw [eU λq hq=>by have:=h.pos q (.tail _ hq);omega];omega
   omega
 rw [decide_eq_true hp,zT (λr hr=>⟨h.pos r hr,hm r hr⟩) h.next (λr _=>by simp) rfl];rfl
end Go.Code
namespace Go.Code
open Go Go.Vc Go.bj
def mM(may:Int->Bool):Nat->List Int->Int->Int->List Rn->List Rn × Int
 |0,_,_,_,_=>([],3)
 |_+1,[],n,_,acc=>if n>0 then ([],3) else (acc,0)
 |f+1,c::t,n,last,acc=>
  if may c=false\/c=last then ([],2)
  else if (fh t).2.2≠0 then ([],(fh t).2.2)
  else if (fh t).1=0\/(fh t).1>n then ([],2)
  else if n-(fh t).1=0 then (if t.drop (fh t).2.1.toNat=[] then (acc++ [((fh t).1,c)],0) else ([],2))
  else mM may f (t.drop (fh t).2.1.toNat) (n-(fh t).1) c (acc++ [((fh t).1,c)])
def ja(may:Int->Bool)(b:List Int)(n:Int):List Rn × Int:=mM may (b.length+1) b n (-1) []
theorem CO:∀(k i:Nat)(m:Int)(b:List Int),0<=m->(qV k i m b).2.2=0->0<=(qV k i m b).1/\(qV k i m b).1<=1048576/\(i:Int)+1<=(qV k i m b).2.1/\(qV k i m b).2.1<=(i:Int)+b.length
 |0,_,_,_,_,h=>by simp [qV] at h
 |k+1,i,m,[],_,h=>by simp [qV] at h
 |k+1,i,m,c::t,h0,h=>by
  have hp:0<=c % 128*128 ^ i:=Int.mul_nonneg ab (Int.pow_nonneg ab)
  rw [xN] at h ⊢
  split
  ·rename_i hc
   rw [if_pos hc] at h
   have:=CO k (i+1) _ t ab h
   simp only [dt]
   omega
  ·rename_i hc
   rw [if_neg hc] at h
   split
   ·rename_i hz;rw [if_pos hz] at h;simp at h
   ·rename_i hz
    simp only [dt]
    refine ⟨by omega,?_,by omega,by omega⟩
    rcases Int.lt_or_le 1048576 (m+c % 128*128 ^ i) with hh|hh
    ·exact absurd (.inr hh) hz
    ·exact hh
end Go.Code
namespace Go.Code
open Go Go.Vc Go.bj
theorem H6{may:Int->Bool}{f:Nat}{n last:Int}{acc:List Rn}:mM may (f+1) [] n last acc=if n>0 then ([],3) else (acc,0):=rfl
theorem BD(may:Int->Bool)(f:Nat)(c:Int)(t:List Int)(n last:Int)(acc:List Rn):mM may (f+1) (c::t) n last acc=
  if may c=false\/c=last then ([],2)
  else if (fh t).2.2≠0 then ([],(fh t).2.2)
  else if (fh t).1=0\/(fh t).1>n then ([],2)
  else if n-(fh t).1=0 then (if t.drop (fh t).2.1.toNat=[] then (acc++ [((fh t).1,c)],0) else ([],2))
  else mM may f (t.drop (fh t).2.1.toNat) (n-(fh t).1) c (acc++ [((fh t).1,c)]):=rfl
theorem H7{may:Int->Bool}:∀(f:Nat)(b:List Int)(n last:Int)(acc:List Rn),(mM may f b n last acc).1.length<=acc.length+b.length
 |0,_,_,_,_=>by simp [mM]
 |f+1,[],n,_,acc=>by rw [H6];split<;>simp
 |f+1,c::t,n,last,acc=>by
  rw [BD]
  split
  ·simp
  split
  ·simp
  split
  ·simp
  split
  ·split<;>simp
  ·have:=H7 (may:=may) f (t.drop (fh t).2.1.toNat) (n-(fh t).1) c (acc++ [((fh t).1,c)])
   simp only [dm,dt,List.length_nil,List.length_drop] at this ⊢
   omega
theorem VL{may:Int->Bool}(b:List Int)(n:Int):(ja may b n).1.length<=b.length:=by have:=H7 (may:=may) (b.length+1) b n (-1) [];simpa [ja] using this
def iG(may:Int->Bool):Int->List Rn->Prop
 |_,[]=>True
 |last,r::t=>1<=r.1/\r.1<=1048576/\0<=r.2/\r.2<256/\may r.2=true/\r.2≠last/\iG may r.2 t
theorem iG.pos{may:Int->Bool}:∀{l:List Rn} {last:Int},iG may last l->∀r ∈ l,1<=r.1
 | [],_,_=>by simp
 |q::t,_,h=>by
  obtain ⟨h1,_,_,_,_,_,h7⟩:=h
  intro r hr
  rcases cB.1 hr with rfl|hr
  ·exact h1
  ·exact h7.pos r hr
theorem MK(r:Rn)(t:List Rn)(h:0<=r.2/\r.2<256):qS (r::t)=r.2::(pr r.1++qS t):=by unfold qS;rw [List.flatMap_cons,Int.emod_eq_of_lt h.1 h.2];rfl
theorem VM(r:Rn)(t:List Rn):bS (r::t)=r.1+bS t:=by simp [bS]
theorem ZC{t:List Int}(hi:∀c ∈ t,0<=c/\c<256)(h:(fh t).2.2=0):pr (fh t).1=t.take (fh t).2.1.toNat:=by
 unfold fh at h ⊢
 cases t with
 |nil=>simp [qV] at h
 |cons a t=>
  have ha:=hi a (.head _);rw [xN] at h ⊢;split
  ·rename_i ZW;rw [if_pos ZW] at h
   cases t with
   |nil=>simp [qV] at h
   |cons b t=>
    have hb:=hi b (.tail _ (.head _));rw [xN] at h ⊢;split
    ·rename_i jC;rw [if_pos jC] at h
     cases t with
     |nil=>simp [qV] at h
     |cons c t=>
      have hc:=hi c (.tail _ (.tail _ (.head _)));rw [xN] at h ⊢;split
      ·rename_i nE;rw [if_pos nE] at h;simp [qV] at h
      ·rename_i nE;rw [if_neg nE] at h;split
       ·rename_i hz;rw [if_pos hz] at h;simp at h
       ·rename_i hz;have e:(0+a % 128*128 ^ 0+b % 128*128 ^(0+1)+c % 128*128 ^(0+1+1):Int)=a % 128+b % 128*128+c % 128*16384:=by simp
        rw [e] at hz ⊢;have N8:c≠0:=λe0=>hz (.inl ⟨e0,by omega⟩)
        have hle:a % 128+b % 128*128+c % 128*16384<=1048576:=by
         rcases Int.lt_or_le 1048576 (a % 128+b % 128*128+c % 128*16384) with hh|hh
         ·exact absurd (.inr hh) hz
         ·exact hh
        have ec:c % 128=c:=by omega
        rw [ec] at hle ⊢;unfold pr;rw [if_neg ab];simp only [uH];rw [if_neg ab,if_neg ab,if_pos ab];have e1:128+(a % 128+b % 128*128+c*16384) % 128=a:=by omega
        have e2:128+(a % 128+b % 128*128+c*16384) / 128 % 128=b:=by omega
        have e3:(a % 128+b % 128*128+c*16384) / 128 / 128=c:=by omega
        rw [e1,e2,e3];rfl
    ·rename_i jC;rw [if_neg jC] at h;split
     ·rename_i hz;rw [if_pos hz] at h;simp at h
     ·rename_i hz;have e:(0+a % 128*128 ^ 0+b % 128*128 ^(0+1):Int)=a % 128+b % 128*128:=by simp
      rw [e] at hz ⊢;have S7:b≠0:=λe0=>hz (.inl ⟨e0,by omega⟩)
      have ec:b % 128=b:=by omega
      rw [ec] at hz ⊢;unfold pr;rw [if_neg ab];simp only [uH];rw [if_neg ab,if_pos ab];have e1:128+(a % 128+b*128) % 128=a:=by omega
      have e2:(a % 128+b*128) / 128=b:=by omega
      rw [e1,e2];rfl
  ·rename_i ZW;rw [if_neg ZW] at h;split
   ·rename_i hz;rw [if_pos hz] at h;simp at h
   ·have ec:a % 128=a:=by omega
    rw [ec];have e:(0+a*128 ^ 0:Int)=a:=by simp
    rw [e];unfold pr;rw [if_neg ab];simp only [uH];rw [if_pos ab];rfl
theorem BE{may:Int->Bool}:∀(f:Nat)(b:List Int)(n last:Int)(acc:List Rn),(∀c ∈ b,0<=c/\c<256)->1<=n->(mM may f b n last acc).2=0->
  ∃l,(mM may f b n last acc).1=acc++l/\qS l=b/\iG may last l/\bS l=n/\l≠ []
 |0,_,_,_,_,_,_,h=>by simp [mM] at h
 |f+1,[],n,_,acc,_,hn,h=>by rw [H6,if_pos ab] at h;simp at h
 |f+1,c::t,n,last,acc,hi,hn,h=>by
  have hc:=hi c (.head _)
  have ht:∀c ∈ t,0<=c/\c<256:=λq hq=>hi q (.tail _ hq)
  rw [BD] at h ⊢
  split
  ·rename_i h1;rw [if_pos h1] at h;simp at h
  rename_i h1
  rw [if_neg h1] at h
  split
  ·rename_i h2;rw [if_pos h2] at h;exact absurd h h2
  rename_i h2
  rw [if_neg h2] at h
  split
  ·rename_i h3;rw [if_pos h3] at h;simp at h
  rename_i h3
  rw [if_neg h3] at h
  have h2':(fh t).2.2=0:=Decidable.not_not.1 h2
  have hd:=CO 3 0 0 t ab h2'
  have amx:=ZC ht h2'
  rw [show qV 3 0 0 t=fh t from rfl] at hd
  generalize hdg:fh t=d at*
  obtain ⟨sz,k,er⟩:=d
  simp only at h h3 hd amx ⊢
  have amy:may c=true:=by
   cases hm:may c with
   |true=>rfl
   |false=>exact absurd (.inl hm) h1
  have hcl:c≠last:=λe=>h1 (.inr e)
  have se:pr sz++t.drop k.toNat=t:=by rw [amx];exact List.take_append_drop _ _
  split
  ·rename_i h4;rw [if_pos h4] at h;split
   ·rename_i h5;refine ⟨[(sz,c)],rfl,?_,⟨by show 1<=sz;omega,by show sz<=1048576;omega,hc.1,hc.2,amy,hcl,trivial⟩,by simp [bS];omega,by simp⟩;rw [MK _ _ hc];rw [h5,rS] at se;simp [se,qS]
   ·rename_i h5;rw [if_neg h5] at h;simp at h
  ·rename_i h4;rw [if_neg h4] at h;obtain ⟨l,e1,e2,e3,e4,e5⟩:=BE f (t.drop k.toNat) (n-sz) c (acc++ [(sz,c)]) (λq hq=>ht q (List.mem_of_mem_drop hq)) ab h;refine ⟨(sz,c)::l,by rw [e1];simp,?_,⟨by show 1<=sz;omega,by show sz<=1048576;omega,hc.1,hc.2,amy,hcl,e3⟩,by rw [VM];show sz+bS l=n;omega,by simp⟩;rw [MK _ _ hc,e2];show c::(pr sz++t.drop k.toNat)=_;rw [se]
theorem iG.of{may:Int->Bool}:∀{l:List Rn} {last:Int},(∀r ∈ l,1<=r.1/\r.1<=1048576/\0<=r.2/\r.2<256/\may r.2=true)->(∀i q r,l[i]? =some q->l[i+1]? =some r->q.2≠r.2)->(∀r,l.head? =some r->r.2≠last)->iG may last l
 | [],_,_,_,_=>trivial
 |r::t,last,h1,h2,h3=>by
  obtain ⟨a,b,c,d,e⟩:=h1 r (.head _)
  refine ⟨a,b,c,d,e,h3 r rfl,iG.of (λq hq=>h1 q (.tail _ hq)) (λi q s hq hs=>h2 (i+1) q s (by simpa using hq) (by simpa using hs)) (λq hq=> ?_)⟩
  have:=h2 0 r q rfl (by cases t<;>simp_all)
  exact λe=>this e.symm
theorem iG.next{may:Int->Bool}:∀{l:List Rn} {last:Int},iG may last l->∀i q r,l[i]? =some q->l[i+1]? =some r->q.2≠r.2
 | [],_,_,i,q,r,h,_=>by simp at h
 | [x],_,_,i,q,r,h,h'=>by simp at h'
 |x::y::t,_,h,0,q,r,hq,hr=>by
  simp at hq hr;subst hq;subst hr
  exact λe=>h.2.2.2.2.2.2.2.2.2.2.2.1 e.symm
 |x::y::t,_,h,i+1,q,r,hq,hr=>h.2.2.2.2.2.2.next i q r (by simpa using hq) (by simpa using hr)
theorem iG.mem{may:Int->Bool}:∀{l:List Rn} {last:Int},iG may last l->∀r ∈ l,1<=r.1/\r.1<=1048576/\0<=r.2/\r.2<256/\may r.2=true
 | [],_,_,r,h=>by cases h
 |q::t,_,h,r,hr=>by
  rcases cB.1 hr with rfl|hr
  ·exact ⟨h.1,h.2.1,h.2.2.1,h.2.2.2.1,h.2.2.2.2.1⟩
  ·exact h.2.2.2.2.2.2.mem r hr
theorem iG.qW{may:Int->Bool}{l:List Rn}{last:Int}(h:iG may last l)(iM:1<=bS l):qW may l (bS l)=true:=by unfold Go.bj.qW;rw [decide_eq_true ab,zT (λr hr=>⟨h.pos r hr,(h.mem r hr).2.2.2.2⟩) h.next (λr _=>by simp) rfl];rfl
end Go.Code
namespace Go.dJ
open Go Go.Vc
abbrev Ce:=Int × Int × Int
abbrev Po:=Int × Int
theorem tdm{a b:Int}(hb:0<b):(a.tmod b<0->a / b=a.tdiv b-1/\a % b=a.tmod b+b)/\(0<=a.tmod b->a / b=a.tdiv b/\a % b=a.tmod b)/\-b<a.tmod b/\a.tmod b<b:=by
 have h1:b*a.tdiv b+a.tmod b=a:=Int.mul_tdiv_add_tmod a b;have h2:a.tmod b<b:=Int.tmod_lt_of_pos a hb;have h3: -b<a.tmod b:=by have:=Int.tmod_lt_of_pos (-a) hb;rw [Int.neg_tmod] at this;omega
 refine ⟨λh=> ?_,λh=> ?_,h3,h2⟩
 ·have:=(Int.ediv_emod_unique hb (a:=a) (q:=a.tdiv b-1) (r:=a.tmod b+b)).2 ⟨by rw [Int.mul_sub];omega,by omega,by omega⟩;exact this
 ·exact (Int.ediv_emod_unique hb (a:=a) (q:=a.tdiv b) (r:=a.tmod b)).2 ⟨by omega,by omega,by omega⟩
theorem RO{a b:Int}(ha:inI a)(hb:0<b):inI (a / b):=by
 unfold inI at*;have h1:=Int.emod_nonneg a (by omega:b≠0);have h2:=Int.emod_lt_of_pos a hb;have h3:=Int.mul_ediv_add_emod a b;rcases Int.lt_or_le a 0 with h|h
 ·have h4:a<=a / b:=by rw [Int.le_ediv_iff_mul_le hb];have:=Int.mul_le_mul_of_nonpos_left (a:=a) (b:=b) (c:=1) ab ab;omega
  have h5:a / b<0:=Int.ediv_neg_of_neg_of_pos h hb;omega
 ·have h4:a / b<=a:=Int.ediv_le_self b h;have h5:0<=a / b:=Int.ediv_nonneg h ab;omega
theorem RP{a b:Int}(ha:inI a)(hb:0<b):inI (a.tdiv b):=by
 unfold inI at*;rcases Int.lt_or_le a 0 with h|h
 ·have h1:a.tdiv b= -((-a) / b):=by rw [<-qb ab,Int.neg_tdiv];omega
  have h4:(-a) / b<=-a:=Int.ediv_le_self b ab;have h5:0<=(-a) / b:=Int.ediv_nonneg ab ab;omega
 ·rw [qb h];have h4:a / b<=a:=Int.ediv_le_self b h;have h5:0<=a / b:=Int.ediv_nonneg h ab;omega
theorem u64_in(n:Int):0<=cX n/\cX n<18446744073709551616:=by unfold IntKind.wrap;simp only [IntKind.bits,IntKind.signed];simp;omega
theorem vM{n:Int}(h:0<=n/\n<18446744073709551616):cX n=n:=by unfold IntKind.wrap;simp only [IntKind.bits,IntKind.signed];simp;omega
def mix(ar x z:Int):Int:=cX ((cX ((cX ((cX ar)*11400714819323198485))+(cX ((cX x)*14029467366897019727))))+(cX ((cX z)*1609587929392839161)))
def hash(ar x z:Int):Int:=
 ky .u64 (cX ((ky .u64 (mix ar x z) (mix ar x z / 536870912))*13787848793156543929)) (cX ((ky .u64 (mix ar x z) (mix ar x z / 536870912))*13787848793156543929) / 4294967296)
theorem acm(ar x z:Int):0<=hash ar x z:=by unfold hash ky;exact (u64_in _).1
theorem aoK(n:Int):(cX n).fdiv (2 ^(min (29:Int).toNat 64))=cX n / 536870912:=rT _ aF
theorem aoL(n:Int):(cX n).fdiv (2 ^(min (32:Int).toNat 64))=cX n / 4294967296:=rT _ aF
def gL(ar x z:Int):Int:=hash ar x z % 9
def ground(ar x z:Int):Int:=
 6+(gL ar (x / 8) (z / 8)*((8-x % 8)*(8-z % 8))+gL ar (x / 8+1) (z / 8)*(x % 8*(8-z % 8))+gL ar (x / 8) (z / 8+1)*((8-x % 8)*(z % 8))+gL ar (x / 8+1) (z / 8+1)*(x % 8*(z % 8))) / 64
def Pv(y g:Int):Int:=
 if y<0\/32<=y then 0 else if y=0\/y<g-3 then 1 else if y<g-1\/(y=g-1/\9<g) then 2 else if y=g-1 then 3 else if y<9 then 8 else 0
theorem tp{c u v:Int}(hc:0<=c/\c<=8)(hu:0<=u/\u<=8)(hv:0<=v/\v<=8):0<=u*v/\u*v<=64/\0<=c*(u*v)/\c*(u*v)<=512:=by have h1:0<=u*v:=Int.mul_nonneg hu.1 hv.1;have h2:u*v<=8*8:=Int.mul_le_mul hu.2 hv.2 hv.1 aF;have h3:0<=c*(u*v):=Int.mul_nonneg hc.1 h1;have h4:c*(u*v)<=8*64:=Int.mul_le_mul hc.2 h2 h1 aF;exact ⟨h1,h2,h3,h4⟩
theorem iR(s x z:Int):0<=gL s x z/\gL s x z<=8:=by unfold gL;omega
theorem Ho(s x z:Int):6<=ground s x z/\ground s x z<=100:=by unfold ground;have a:=tp (iR s (x / 8) (z / 8)) (u:=8-x % 8) (v:=8-z % 8) ab ab;have b:=tp (iR s (x / 8+1) (z / 8)) (u:=x % 8) (v:=8-z % 8) ab ab;have c:=tp (iR s (x / 8) (z / 8+1)) (u:=8-x % 8) (v:=z % 8) ab ab;have d:=tp (iR s (x / 8+1) (z / 8+1)) (u:=x % 8) (v:=z % 8) ab ab;omega
def idx(c:Ce):Int:=(c.2.1*16+c.2.2 % 16)*16+c.1 % 16
def DA(c:Ce):Prop:=0<=c.2.1/\c.2.1<32
def pos(c:Ce):Po:=(c.1 / 16,c.2.2 / 16)
def cellAt(p:Po)(i:Int):Ce:=(p.1*16+i % 16,i / 256,p.2*16+i / 16 % 16)
theorem Au{c:Ce}(h:DA c):0<=idx c/\idx c<8192:=by unfold idx;unfold DA at h;omega
def made(ar:Int)(p:Po):List Int:=(List.range 8192).map λi:Nat=>Pv ((i:Int) / 256) (ground ar (p.1*16+(i:Int) % 16) (p.2*16+(i:Int) / 16 % 16))
theorem qc(ar:Int)(p:Po):(made ar p).length=8192:=by simp [made]
theorem UN(y g:Int):Pv y g=0\/Pv y g=1\/Pv y g=2\/Pv y g=3\/Pv y g=8:=by
 unfold Pv;split
 ·exact .inl rfl
 ·split
  ·exact .inr (.inl rfl)
  ·split
   ·exact .inr (.inr (.inl rfl))
   ·split
    ·exact .inr (.inr (.inr (.inl rfl)))
    ·split
     ·exact .inr (.inr (.inr (.inr rfl)))
     ·exact .inl rfl
end Go.dJ
namespace Go.dJ
open Go Go.Vc Go.bj
end Go.dJ
namespace Go.dJ
open Go Go.Vc Go.bj
end Go.dJ
namespace Go.dJ
open Go Go.Vc Go.bj
theorem aeP:∀(n:Nat)(l:List Rn),l.length=n->(∀r ∈ l,1<=r.1)->(∀i q r,l[i]? =some q->l[i+1]? =some r->q.2≠r.2)->Nm l
 |0,l,hn,_,_=>by
  have:l=[]:=List.eq_nil_of_length_eq_zero hn
  subst this;exact .nil
 |n+1,l,hn,h1,h2=>by
  rcases wh l with rfl|⟨m,q,rfl⟩
  ·simp at hn
  ·have hm:m.length=n:=by simpa using hn
   refine .snoc m q (aeP n m hm (λr hr=>h1 r (List.mem_append_left _ hr)) (λi a b ha hb=> ?_)) (h1 q bB) (λp hp=> ?_)
   ·have hb':=(cG.1 hb).1;exact h2 i a b (by rw [nN ab];exact ha) (by rw [nN ab];exact hb)
   ·have iM:m≠ []:=by rintro rfl;simp at hp
    have dI:0<m.length:=List.length_pos_iff.2 iM;rw [List.getLast?_eq_getElem?] at hp;refine h2 (m.length-1) p q ?_ ?_
    ·rw [nN ab];exact hp
    ·rw [show m.length-1+1=m.length by omega,pY (aB _),Nat.sub_self];rfl
theorem Mg{may:Int->Bool}:∀{l:List Rn} {prev:Option Int} {left:Int},uN may prev left l=true->
  (∀r ∈ l,1<=r.1/\may r.2=true)/\(∀i q r,l[i]? =some q->l[i+1]? =some r->q.2≠r.2)/\∀r,l.head? =some r->prev≠some r.2
 | [],_,_,_=>⟨by simp,by simp,by simp⟩
 |r::t,prev,left,h=>by
  unfold uN at h
  split at h
  ·cases h
  ·rename_i hn
   obtain ⟨a1,a2,a3⟩:=Mg h
   have hm:may r.2=true:=by
    cases hq:may r.2 with
    |true=>rfl
    |false=>exact absurd (.inr (.inr (.inl hq))) hn
   have hp:prev≠some r.2:=λe=>hn (.inr (.inr (.inr e)))
   refine ⟨λq hq=> ?_,λi q s hq hs=> ?_,λq hq=> ?_⟩
   ·rcases cB.1 hq with rfl|hq
    ·exact ⟨by omega,hm⟩
    ·exact a1 q hq
   ·cases i with
    |zero=>
     simp only [ajM,Option.some.injEq] at hq;subst hq;simp only [Bm] at hs;have:t.head? =some s:=by cases t<;>simp_all
     intro e;exact a3 s this (by rw [e])
    |succ i=>exact a2 i q s (by simpa using hq) (by simpa using hs)
   ·simp only [List.head?_cons,Option.some.injEq] at hq;subst hq;exact hp
theorem Mh{may:Int->Bool}{l:List Rn}{n:Int}(h:qW may l n=true):gP (cw l)=l/\(∀b ∈ cw l,may b=true)/\((cw l).length:Int)=n:=by
 unfold qW at h;rw [fm] at h;obtain ⟨a1,a2,_⟩:=Mg h.2;refine ⟨(aeP l.length l rfl (λr hr=>(a1 r hr).1) a2).fix,λb hb=> ?_,?_⟩
 ·unfold cw at hb;obtain ⟨r,hr,hb⟩:=List.mem_flatMap.1 hb;rw [(Xo.1 hb).2];exact (a1 r hr).2
 ·rw [<-eU λr hr=>by have:=(a1 r hr).1;omega];exact LO h.2
end Go.dJ
namespace Go.dJ
open Go Go.Vc Go.bj
def sM(p:Po):Prop:=(-524288<=p.1/\p.1<524288)/\-524288<=p.2/\p.2<524288
instance (p:Po):Decidable (sM p):=by unfold sM;exact inferInstance
def BL(p:Po):Int:=if sM p then (p.1+524288)*1048576+(p.2+524288)+1 else 0
theorem ace{p:Po}(h:¬sM p):BL p=0:=by unfold BL;rw [if_neg h]
end Go.dJ
namespace Go.dJ
open Go Go.Vc Go.bj
def cj{α:Type}(q:α->Bool):List α->Int
 | []=> -1
 |x::t=>if q x then 0 else if cj q t<0 then -1 else cj q t+1
theorem iB{α:Type}{q:α->Bool}:∀{l:List α},(∀y ∈ l,q y=false)->cj q l= -1
 | [],_=>rfl
 |x::t,h=>by
  have h1:=h x (.head _)
  have h2:=iB (l:=t) λy hy=>h y (.tail _ hy)
  unfold cj
  rw [if_neg (by rw [h1];decide),if_pos ab]
theorem nv{α:Type}{q:α->Bool}:∀{l:List α} {k:Nat} {x:α},l[k]? =some x->q x=true->(∀j,j<k->∀y,l[j]? =some y->q y=false)->cj q l=k
 | [],k,x,h,_,_=>by simp at h
 |y::t,0,x,h,hq,_=>by
  simp at h;subst h
  unfold cj
  rw [if_pos hq];rfl
 |y::t,k+1,x,h,hq,hn=>by
  have h1:=hn 0 ab y rfl
  have h2:=nv (l:=t) (k:=k) (x:=x) (by simpa using h) hq (λj hj z hz=>hn (j+1) ab z (by simpa using hz))
  unfold cj
  rw [if_neg (by rw [h1];decide),if_neg ab,h2]
  omega
theorem fg{α:Type}(q:α->Bool):∀(l:List α),(cj q l= -1/\∀y ∈ l,q y=false)\/∃k x,l[k]? =some x/\q x=true/\cj q l=(k:Nat)/\∀j,j<k->∀y,l[j]? =some y->q y=false
 | []=> .inl ⟨rfl,by simp⟩
 |x::t=>by
  cases hq:q x with
  |true=>exact .inr ⟨0,x,rfl,hq,by unfold cj;rw [if_pos hq];rfl,by omega⟩
  |false=>
   rcases fg q t with ⟨h1,h2⟩|⟨k,y,h1,h2,h3,h4⟩
   ·refine .inl ⟨by unfold cj;rw [if_neg (by rw [hq];decide),if_pos ab],λy hy=> ?_⟩
    rcases cB.1 hy with rfl|hy
    ·exact hq
    ·exact h2 y hy
   ·refine .inr ⟨k+1,y,by simpa using h1,h2,by unfold cj;rw [if_neg (by rw [hq];decide),if_neg ab,h3];omega,λj hj z hz=> ?_⟩
    cases j with
    |zero=>simp at hz;subst hz;exact hq
    |succ j=>exact h4 j ab z (by simpa using hz)
theorem kP{α β:Type}(f:α->β)(q:β->Bool):∀l:List α,cj q (l.map f)=cj (λa=>q (f a)) l
 | []=>rfl
 |x::t=>by simp only [eP,cj,kP f q t]
end Go.dJ
namespace Go.dJ
open Go Go.Vc Go.bj
abbrev oB:=BitVec 16
abbrev mY(b:List Int):Prop:=∀c ∈ b,0<=c/\c<256
def cI(v:oB):Int:=(v.toNat:Nat)
def Sn(c:oB):oB:=if c.msb then (c<<<1) ^^^ 0x1021#16 else c<<<1
def HX(c:oB):oB:=Sn (Sn (Sn (Sn c)))
def st8(c:oB):oB:=HX (HX c)
def yB(x:Int):oB:=BitVec.ofInt 16 x
def ajV(c:oB)(x:Int):oB:=st8 (c ^^^(yB x<<<8))
def Qs(c:oB)(b:List Int):oB:=b.foldl ajV c
def vC(b:List Int):oB:=Qs 0xFFFF#16 b
def IB(b:List Int):List Int:=[cI (vC b) / 256,cI (vC b) % 256]
theorem Bz(v:oB):0<=cI v/\cI v<65536:=by unfold cI;have:=v.isLt;omega
theorem Qt{a b:oB}:cI a=cI b ↔ a=b:=by unfold cI;refine ⟨λh=>BitVec.eq_of_toNat_eq ab,λh=>by rw [h]⟩
theorem CW{x:Int}(h:0<=x/\x<65536):(yB x).toNat=x.toNat:=by unfold yB;rw [BitVec.toNat_ofInt];simp only [show ((2 ^ 16:Nat):Int)=65536 from rfl];rw [Int.emod_eq_of_lt h.1 h.2]
theorem Qq{x:Int}(h:0<=x/\x<65536):cI (yB x)=x:=by unfold cI;rw [CW h];omega
theorem agP(v:oB):yB (cI v)=v:=Qt.1 (Qq (Bz v))
theorem AJ{a b:oB}(h:∀i:Nat,i<16->a.getLsbD i=b.getLsbD i):a=b:=BitVec.eq_of_getLsbD_eq h
theorem VX{i:Nat}(h:i<16):i=0\/i=1\/i=2\/i=3\/i=4\/i=5\/i=6\/i=7\/i=8\/i=9\/i=10\/i=11\/i=12\/i=13\/i=14\/i=15:=by omega
theorem adj(a b:oB)(n:Nat):(a ^^^ b)<<<n=(a<<<n) ^^^(b<<<n):=by
 apply AJ;intro i hi;simp only [BitVec.getLsbD_xor,BitVec.getLsbD_shiftLeft]
 cases decide (i<16)<;>cases decide (i<n)<;>simp
theorem CX(a b:oB):Sn (a ^^^ b)=Sn a ^^^ Sn b:=by
 unfold Sn;rw [BitVec.msb_xor,adj]
 cases a.msb<;>cases b.msb<;>simp
 ·rw [BitVec.xor_assoc]
 ·rw [BitVec.xor_assoc,BitVec.xor_assoc];congr 1;rw [BitVec.xor_comm]
 ·generalize a<<<1=x;generalize b<<<1=y;apply AJ;intro i _;simp only [BitVec.getLsbD_xor]
  cases x.getLsbD i<;>cases y.getLsbD i<;>cases (4129#16).getLsbD i<;>rfl
theorem SS(a b:oB):HX (a ^^^ b)=HX a ^^^ HX b:=by unfold HX;rw [CX,CX,CX,CX]
theorem adk(c:oB):c.msb=true ↔ 32768<=c.toNat:=by rw [BitVec.msb_eq_decide];simp
theorem CY{c:oB}(h:c.toNat<32768):Sn c=c<<<1/\(c<<<1).toNat=2*c.toNat:=by
 constructor
 ·unfold Sn;rw [if_neg];rw [adk];omega
 ·rw [BitVec.toNat_shiftLeft,Nat.shiftLeft_eq];omega
theorem CZ(c:oB)(m n:Nat):(c<<<m)<<<n=c<<<(m+n):=(BitVec.shiftLeft_add c m n).symm
theorem SU{c:oB}(h:c.toNat<4096):HX c=c<<<4:=by unfold HX;have h1:=CY (c:=c) ab;rw [h1.1];have h2:=CY (c:=c<<<1) ab;rw [h2.1];have h3:=CY (c:=c<<<1<<<1) ab;rw [h3.1];have h4:=CY (c:=c<<<1<<<1<<<1) ab;rw [h4.1,CZ,CZ,CZ]
theorem MU(v y:oB)(hy:y.toNat<16):(v<<<4) ^^^ HX (((v>>>12) ^^^ y)<<<12)=HX (v ^^^(y<<<12)):=by
 have e:v ^^^(y<<<12)=(((v>>>12) ^^^ y)<<<12) ^^^(v &&& 0xFFF#16):=by apply AJ;intro i hi;simp only [BitVec.getLsbD_xor,BitVec.getLsbD_shiftLeft,BitVec.getLsbD_ushiftRight,BitVec.getLsbD_and];rcases VX hi with rfl|rfl|rfl|rfl|rfl|rfl|rfl|rfl|rfl|rfl|rfl|rfl|rfl|rfl|rfl|rfl<;>simp
 have hl:(v &&& 0xFFF#16).toNat<4096:=by rw [BitVec.toNat_and];exact Nat.lt_of_le_of_lt Nat.and_le_right aF
 have e2:(v &&& 0xFFF#16)<<<4=v<<<4:=by apply AJ;intro i hi;simp only [BitVec.getLsbD_shiftLeft,BitVec.getLsbD_and];rcases VX hi with rfl|rfl|rfl|rfl|rfl|rfl|rfl|rfl|rfl|rfl|rfl|rfl|rfl|rfl|rfl|rfl<;>simp
 rw [e,SS,SU hl,e2,BitVec.xor_comm]
theorem VY(v x:oB)(hx:x.toNat<256):HX (HX (v ^^^((x>>>4)<<<12)) ^^^((x &&& 15#16)<<<12))=st8 (v ^^^(x<<<8)):=by
 have e:v ^^^(x<<<8)=(v ^^^((x>>>4)<<<12)) ^^^((x &&& 15#16)<<<8):=by apply AJ;intro i hi;simp only [BitVec.getLsbD_xor,BitVec.getLsbD_shiftLeft,BitVec.getLsbD_ushiftRight,BitVec.getLsbD_and];rcases VX hi with rfl|rfl|rfl|rfl|rfl|rfl|rfl|rfl|rfl|rfl|rfl|rfl|rfl|rfl|rfl|rfl<;>simp
 have hl:(x &&& 15#16).toNat<16:=by rw [BitVec.toNat_and];exact Nat.lt_of_le_of_lt Nat.and_le_right aF
 have JM:((x &&& 15#16)<<<8).toNat<4096:=by rw [BitVec.toNat_shiftLeft,Nat.shiftLeft_eq];omega
 unfold st8;rw [e,SS (v ^^^ _),SU JM,CZ]
theorem Ml(c:oB)(a b:List Int):Qs c (a++b)=Qs (Qs c a) b:=List.foldl_append ..
theorem wrap_u16(x:Int):mw x=x % 65536:=by simp [IntKind.wrap,IntKind.bits,IntKind.signed]
theorem yJ(n:Nat)(hn:16<=n)(v:oB):(BitVec.ofInt n (cI v)).toNat=v.toNat:=by unfold cI;rw [BitVec.toNat_ofInt];have h1:=v.isLt;have h2:(2:Nat) ^ 16<=2 ^ n:=Nat.pow_le_pow_right aF hn;generalize (2:Nat) ^ n=m at*;rw [Int.emod_eq_of_lt ab ab];omega
theorem EP(a b:oB):ky .u16 (cI a) (cI b)=cI (a ^^^ b):=by show mw ((BitVec.ofInt 16 (cI a) ^^^ BitVec.ofInt 16 (cI b)).toNat:Nat)=_;rw [BitVec.toNat_xor,yJ 16 aF,yJ 16 aF,<-BitVec.toNat_xor,wrap_u16];show cI _ % 65536=cI _;have:=Bz (a ^^^ b);omega
theorem agQ(v:oB)(n:Nat):cI (v<<<n)=cI v*2 ^ n % 65536:=by unfold cI;rw [BitVec.toNat_shiftLeft,Nat.shiftLeft_eq,Int.natCast_emod,Int.natCast_mul,Int.natCast_pow];rfl
theorem Qu(v:oB)(n:Nat):cI (v>>>n)=cI v / 2 ^ n:=by unfold cI;rw [BitVec.toNat_ushiftRight,Nat.shiftRight_eq_div_pow,Int.natCast_ediv,Int.natCast_pow];rfl
theorem Sp(v:oB):cI (v &&& 0x8000#16)=0 ↔ v.msb=false:=by
 have oO:v.msb=v.getLsbD 15:=rfl;constructor
 ·intro h;have h0:v &&& 0x8000#16=0#16:=Qt.1 (by rw [h];rfl);have:=congrArg (λu:oB=>u.getLsbD 15) h0;simp only [BitVec.getLsbD_and] at this;rw [oO];simpa using this
 ·intro h;have h0:v &&& 0x8000#16=0#16:=by apply AJ;intro i hi;rw [oO] at h;simp only [BitVec.getLsbD_and];rcases VX hi with rfl|rfl|rfl|rfl|rfl|rfl|rfl|rfl|rfl|rfl|rfl|rfl|rfl|rfl|rfl|rfl<;>first|(simp;done)|simpa using h
  rw [h0];rfl
theorem agB(a b:oB):nL .u16 (cI a) (cI b)=cI (a &&& b):=by show mw ((BitVec.ofInt 16 (cI a) &&& BitVec.ofInt 16 (cI b)).toNat:Nat)=_;rw [BitVec.toNat_and,yJ 16 aF,yJ 16 aF,<-BitVec.toNat_and,wrap_u16];show cI _ % 65536=cI _;have:=Bz (a &&& b);omega
theorem So(v:oB)(n:Nat):mw (cI v*2 ^ n)=cI (v<<<n):=by rw [wrap_u16,agQ]
theorem Zg(v:oB)(n:Nat):(cI v).fdiv (2 ^ n)=cI (v>>>n):=by rw [Qu,rT];exact Int.le_of_lt (Int.pow_pos aF)
theorem aoZ{x:Int}(h:0<=x/\x<256):mw (x.fdiv (2 ^ 4))=cI (yB x>>>4):=by rw [Qu,Qq ab,rT _ aF,wrap_u16];simp only [show (2:Int) ^ 4=16 from rfl];omega
theorem ao0{x:Int}(h:0<=x/\x<256):mw (nL .u8 x 15)=cI (yB x &&& 15#16):=by
 have e:nL .u8 x 15=cI (yB x &&& 15#16):=by
  show eY ((BitVec.ofInt 8 x &&& BitVec.ofInt 8 15).toNat:Nat)=_;have e8:(BitVec.ofInt 8 x).toNat=(yB x).toNat:=by rw [CW ab,BitVec.toNat_ofInt];simp only [show ((2 ^ 8:Nat):Int)=256 from rfl];rw [Int.emod_eq_of_lt h.1 h.2]
  rw [BitVec.toNat_and,e8];unfold cI;rw [BitVec.toNat_and];have:(yB x).toNat &&&(15#16).toNat<16:=Nat.lt_of_le_of_lt Nat.and_le_right aF;show eY (((yB x).toNat &&&(15#16).toNat:Nat):Int)=_;simp only [IntKind.wrap,IntKind.bits,IntKind.signed,Bool.false_and,Bool.false_eq_true,if_false,show (2:Int) ^ 8=256 from rfl];omega
 rw [e,wrap_u16];have:=Bz (yB x &&& 15#16);omega
theorem Zh{a b:oB}(ha:a.toNat<16)(hb:b.toNat<16):(a ^^^ b).toNat<16:=by rw [BitVec.toNat_xor];exact Nat.xor_lt_two_pow (n:=4) ha hb
theorem Zi(v:oB):(v>>>12).toNat<16:=by rw [BitVec.toNat_ushiftRight,Nat.shiftRight_eq_div_pow];have:=v.isLt;omega
theorem aeR{x:Int}(h:0<=x/\x<256):(yB x>>>4).toNat<16:=by rw [BitVec.toNat_ushiftRight,Nat.shiftRight_eq_div_pow,CW ab];omega
theorem aeT(x:oB):(x &&& 15#16).toNat<16:=by rw [BitVec.toNat_and];exact Nat.lt_of_le_of_lt Nat.and_le_right aF
def tv(i:Nat):Value:=.int .u16 (cI (HX (yB i<<<12)))
def tS:LV:=[tv 0,tv 1,tv 2,tv 3,tv 4,tv 5,tv 6,tv 7,tv 8,tv 9,tv 10,tv 11,tv 12,tv 13,tv 14,tv 15]
def tT(k:Nat):LV:=tS.take k++List.replicate (16-k) (.int .u16 0)
theorem agC{k:Nat}(hk:k<16):(tT k).set k (tv k)=tT (k+1):=by rcases VX hk with rfl|rfl|rfl|rfl|rfl|rfl|rfl|rfl|rfl|rfl|rfl|rfl|rfl|rfl|rfl|rfl<;>rfl
theorem aeS{u:oB}(hu:u.toNat<16):tS[(cI u).toNat]? =some (.int .u16 (cI (HX (u<<<12)))):=by
 have e:∀k:Nat,k<16->tS[k]? =some (tv k):=λk hk=>by rcases VX hk with rfl|rfl|rfl|rfl|rfl|rfl|rfl|rfl|rfl|rfl|rfl|rfl|rfl|rfl|rfl|rfl<;>rfl
 have h1:(cI u).toNat=u.toNat:=rfl;rw [h1,e _ hu];unfold tv;have:yB (u.toNat:Int)=u:=agP u;rw [this]
theorem Vk(v:oB){x:Int}(h:0<=x/\x<256):
  cI ((((v<<<4) ^^^ HX (((v>>>12) ^^^(yB x>>>4))<<<12))<<<4) ^^^ HX (((((v<<<4) ^^^ HX (((v>>>12) ^^^(yB x>>>4))<<<12))>>>12) ^^^(yB x &&& 15#16))<<<12))=cI (ajV v x):=by
 rw [MU v _ (aeR h),MU _ _ (aeT _),VY v _ (by rw [CW ab];omega)];rfl
def be:Nat->Int->List Int
 |0,_=> []
 |m+1,n=>n / 256 ^ m % 256::be m n
def gx(b:List Int):Int:=b.foldl (λn c=>n*256+c) 0
def nJ(v:Int)(body:List Int):List Int:=be 4 v++be 3 body.length++body
def A7(b:List Int):List Int:=b++IB b
def CM(v:Int)(body:List Int):List Int × Int:=if v<1\/v>1073741824\/(body.length:Int)>65536 then ([],1) else (A7 (nJ v body),0)
def uE(b:List Int):List Int × Int:=if b.length<2 then ([],3) else if vC b=0#16 then (b.take (b.length-2),0) else ([],4)
def qN(b:List Int):Int × List Int × Int:=
 if (uE b).2≠0 then (0,[],(uE b).2)
 else if (uE b).1.length<7 then (0,[],3)
 else if gx ((uE b).1.take 4)<1\/gx ((uE b).1.take 4)>1073741824\/gx (((uE b).1.drop 4).take 3)>65536\/gx (((uE b).1.drop 4).take 3)≠(((uE b).1.drop 7).length:Int) then (0,[],2)
 else (gx ((uE b).1.take 4),(uE b).1.drop 7,0)
theorem ER:∀(m:Nat)(n:Int),(be m n).length=m
 |0,_=>rfl
 |m+1,n=>by simp [be,ER m n]
theorem ZH:∀(m:Nat)(n:Int),mY (be m n)
 |0,_=>λc hc=>by cases hc
 |m+1,n=>λc hc=>by
  rcases cB.1 hc with rfl|hc
  ·omega
  ·exact ZH m n c hc
theorem Mv(b:List Int)(c:Int):gx (b++ [c])=gx b*256+c:=by unfold gx;rw [List.foldl_append];rfl
theorem adi(b:List Int):mY (IB b):=λc hc=>by
 have:=Bz (vC b)
 simp only [IB,cB,jQ,or_false] at hc
 rcases hc with rfl|rfl<;>omega
theorem ZI(b:List Int):(IB b).length=2:=rfl
theorem mY.app{a b:List Int}(ha:mY a)(hb:mY b):mY (a++b):=λc hc=>(di.1 hc).elim (ha c) (hb c)
theorem Sv{v:Int}{body:List Int}(h:mY body):mY (nJ v body):=((ZH 4 v).app (ZH 3 _)).app h
theorem ZJ{b:List Int}(h:mY b):mY (A7 b):=h.app (adi b)
theorem agM{v:Int}{body:List Int}(h:mY body):mY (CM v body).1:=by
 unfold CM;split
 ·intro c hc;cases hc
 ·exact ZJ (Sv h)
theorem Mx(v:Int)(body:List Int):(nJ v body).length=7+body.length:=by unfold nJ;simp [ER];omega
theorem Hh(b:List Int):(A7 b).length=b.length+2:=by unfold A7;rw [dm,ZI]
theorem ajo{b:List Int}:(qN b).2.2=0->1<=(qN b).1/\(qN b).1<=1073741824:=by
 intro h;unfold qN at h ⊢;split at h
 ·rename_i q;exact absurd h q
 ·rename_i q;rw [if_neg q];split at h
  ·cases h
  ·rename_i q2;rw [if_neg q2];split at h
   ·cases h
   ·rename_i q3;rw [if_neg q3];simp only [not_or] at q3;simp only;omega
theorem ajp{b:List Int}:(qN b).2.2≠0->(qN b).1=0/\(qN b).2.1=[]:=by
 intro h;unfold qN at h ⊢;split
 ·exact ⟨rfl,rfl⟩
 ·split
  ·exact ⟨rfl,rfl⟩
  ·split
   ·exact ⟨rfl,rfl⟩
   ·rename_i q q2 q3;rw [if_neg q,if_neg q2,if_neg q3] at h;exact absurd rfl h
theorem Sz{b:List Int}(hb:mY b):∀k:Nat,0<=gx (b.take k)/\gx (b.take k)<256 ^ k
 |0=>by rw [Ba];exact ⟨Int.le_refl 0,by decide⟩
 |k+1=>by
  obtain ⟨h1,h2⟩:=Sz hb k
  rw [dD]
  cases hx:b[k]? with
  |none=>
   rw [Int.pow_succ]
   simp only [Option.toList_none,rS]
   generalize (256:Int) ^ k=p at*
   omega
  |some x=>
   have:=hb x (bg hx)
   rw [Int.pow_succ]
   simp only [Option.toList_some]
   rw [Mv]
   generalize (256:Int) ^ k=p at*
   omega
theorem QE{b:List Int}(hb:mY b){k:Nat}(hk:k<=4):0<=gx (b.take k)/\gx (b.take k)<4294967296:=by
 obtain ⟨h1,h2⟩:=Sz hb k;have h3:(256:Int) ^ k<=4294967296:=by
  rcases k with _|_|_|_|_|k
  ·decide
  ·decide
  ·decide
  ·decide
  ·decide
  ·omega
 exact ⟨h1,Int.lt_of_lt_of_le h2 h3⟩
theorem Zn{n c:Int}(hn:0<=n/\n<281474976710656)(hc:0<=c/\c<256):Kr .i64 (n*256) c=n*256+c:=by
 show aj ((BitVec.ofInt 64 (n*256)|||BitVec.ofInt 64 c).toNat:Nat)=_;have e1:(BitVec.ofInt 64 (n*256)).toNat=2 ^ 8*n.toNat:=by rw [BitVec.toNat_ofInt];simp only [show ((2 ^ 64:Nat):Int)=18446744073709551616 from rfl,show (2:Nat) ^ 8=256 from rfl];omega
 have e2:(BitVec.ofInt 64 c).toNat=c.toNat:=by rw [BitVec.toNat_ofInt];simp only [show ((2 ^ 64:Nat):Int)=18446744073709551616 from rfl];omega
 rw [BitVec.toNat_or,e1,e2,<-Nat.two_pow_add_eq_or_of_lt (i:=8) (b:=c.toNat) ab n.toNat];simp only [show (2:Nat) ^ 8=256 from rfl];have:((256*n.toNat+c.toNat:Nat):Int)=n*256+c:=by omega
 rw [this];exact wI
abbrev pZ:=Int × List Int
structure Dk where
 room:Int
 pc:Int
 wait:Int
 safe:List pZ
 l:List pZ
def ZK:Bool->List pZ->pZ->List pZ
 |done,[],w=>if done then [] else [w]
 |done,x::t,w=>(if done=false/\x.1>=w.1 then [w] else [])++(if x.1≠w.1 then [x] else [])++ZK (done||decide (x.1>=w.1)) t w
def lay(l:List pZ)(w:pZ):List pZ:=ZK false l w
def uL(d:Dk):List pZ:=d.l.foldl lay d.safe
def nZ(l:List pZ):Nat:=(l.map λx=>x.2.length).sum
def oG(l:List pZ)(k:Int):Option (List Int):=(l.find? λx=>x.1==k).map (·.2)
def jN(d:Dk):Dk × Bool:=if 0<d.wait then ({d with wait:=0},false) else if 0<d.pc then ({d with pc:=d.pc-1},true) else (d,false)
def mX(d:Dk)(k:Int)(b:List Int):Dk × Int:=
 if (jN d).2=true then ((jN d).1,9) else if (nZ (lay (uL d) (k,b)):Int)>d.room then ((jN d).1,8) else ({(jN d).1 with l:=d.l++ [(k,b)]},0)
def getD(d:Dk)(k:Int):List Int:=(oG (uL d) k).getD []
def rR(d:Dk):Dk × Int:=if (jN d).2=true then ((jN d).1,9) else ({(jN d).1 with safe:=uL d,l:=[]},0)
theorem H9:∀(l:List pZ)(w:pZ),ZK true l w=l.filter λx=>decide (x.1≠w.1)
 | [],_=>rfl
 |x::t,w=>by
  unfold ZK
  rw [if_neg bB,Bool.true_or,H9 t w,List.filter_cons]
  by_cases h:x.1=w.1<;>simp [h]
theorem xz:∀(l:List pZ)(w:pZ),(lay l w).Perm (w::l.filter λx=>decide (x.1≠w.1))
 | [],_=> .refl _
 |x::t,w=>by
  unfold lay ZK
  rw [Bool.false_or]
  by_cases h:x.1>=w.1
  ·rw [if_pos ⟨rfl,h⟩,decide_eq_true h,H9,List.filter_cons]
   by_cases h2:x.1=w.1
   ·rw [if_neg (by simp [h2]),if_neg (by simp [h2])];exact .refl _
   ·rw [if_pos h2,if_pos (by simp [h2])];exact .refl _
  ·rw [if_neg λq=>h q.2,decide_eq_false h,if_pos ab,List.filter_cons,if_pos (by simp;omega)]
   have ih:=xz t w
   unfold lay at ih
   exact (List.Perm.cons x ih).trans (List.Perm.swap _ _ _)
def iw(l:List pZ):List Int:=l.map (·.1)
theorem JL{l:List pZ}(p:pZ->Bool)(h:(iw l).Nodup):(iw (l.filter p)).Nodup:=h.sublist ((List.filter_sublist).map _)
theorem VR{l:List pZ}{w:pZ}(h:(iw l).Nodup):(iw (lay l w)).Nodup:=by refine ((xz l w).map (·.1)).nodup_iff.2 ?_;rw [eP];refine List.nodup_cons.2 ⟨λhm=> ?_,JL _ h⟩;obtain ⟨x,hx,e⟩:=aZ.1 hm;have:=(List.mem_filter.1 hx).2;simp at this;exact this e
theorem tA:∀(t:List pZ) {l:List pZ},(iw l).Nodup->(iw (t.foldl lay l)).Nodup
 | [],_,h=>h
 |w::t,_,h=>tA t (VR h)
theorem HE{a b:List pZ}(h:a.Perm b):nZ a=nZ b:=(h.map λx:pZ=>x.2.length).sum_nat
theorem qo(x:pZ)(t:List pZ):nZ (x::t)=x.2.length+nZ t:=rfl
theorem Ah{l:List pZ}(h:(iw l).Nodup){k:Int}{b:List Int}:oG l k=some b ↔(k,b) ∈ l:=by
 unfold oG
 induction l with
 |nil=>simp
 |cons x t ih=>
  have hn:=List.nodup_cons.1 h;rw [List.find?_cons];by_cases e:x.1=k
  ·rw [beq_iff_eq.2 e];simp only [Option.map_some,Option.some.injEq,cB];constructor
   ·rintro rfl;exact .inl (by rw [<-e])
   ·rintro (q|q)
    ·rw [<-q]
    ·exact absurd (aZ.2 ⟨_,q,e.symm⟩) hn.1
  ·rw [show (x.1==k)=false by simpa using e,ih hn.2];simp only [cB];constructor
   ·exact .inr
   ·rintro (q|q)
    ·exact absurd (by rw [<-q]) e
    ·exact q
theorem Ag{l:List pZ}{k:Int}:oG l k=none ↔ ∀x ∈ l,x.1≠k:=by unfold oG;rw [Option.map_eq_none_iff,List.find?_eq_none];simp
theorem UA{a b:List pZ}(h:a.Perm b)(ha:(iw a).Nodup)(k:Int):oG a k=oG b k:=by
 have hb:(iw b).Nodup:=(h.map λx:pZ=>x.1).nodup_iff.1 ha
 cases q:oG b k with
 |some x=>exact (Ah ha).2 (h.mem_iff.2 ((Ah hb).1 q))
 |none=>exact Ag.2 λx hx=>Ag.1 q x (h.mem_iff.1 hx)
theorem Bs{l:List pZ}(h:(iw l).Nodup)(k:Int):nZ (l.filter λx=>decide (x.1≠k))+((oG l k).getD []).length=nZ l:=by
 induction l with
 |nil=>rfl
 |cons x t ih=>
  have hn:=List.nodup_cons.1 h;rw [List.filter_cons];by_cases e:x.1=k
  ·rw [if_neg (by simp [e])];have hg:oG (x::t) k=some x.2:=by unfold oG;rw [List.find?_cons,beq_iff_eq.2 e];rfl
   have ht:t.filter (λx=>decide (x.1≠k))=t:=List.filter_eq_self.2 λy hy=>by simp only [ne_eq,decide_not,Bool.not_eq_true',fa];intro q;exact hn.1 (aZ.2 ⟨y,hy,q.trans e.symm⟩)
   rw [hg,ht,qo,Option.getD_some];omega
  ·rw [if_pos (by simp [e])];have hg:oG (x::t) k=oG t k:=by unfold oG;rw [List.find?_cons,show (x.1==k)=false by simpa using e]
   have:=ih hn.2;rw [hg,qo,qo];omega
theorem Yz{l:List pZ}(h:(iw l).Nodup)(w:pZ):nZ (lay l w)+((oG l w.1).getD []).length=nZ l+w.2.length:=by have:=Bs h w.1;rw [HE (xz l w),qo];omega
structure v5(d:Dk):Prop where
 nd:(iw d.safe).Nodup
 len:∀k,(nZ ((d.l.take k).foldl lay d.safe):Int)<=d.room
 w:0<=d.wait/\d.wait<=1
 f:0<=d.pc/\d.pc<=9223372036854775807
 r:0<=d.room/\d.room<=1048576
theorem v5.now{d:Dk}(h:v5 d):(iw (uL d)).Nodup:=tA _ h.nd
theorem v5.agf{d:Dk}(h:v5 d):(nZ (uL d):Int)<=d.room:=by have:=h.len d.l.length;rwa [iA] at this
theorem kN(d:Dk):(jN d).1.safe=d.safe/\(jN d).1.l=d.l/\(jN d).1.room=d.room:=by
 unfold jN;split
 ·exact ⟨rfl,rfl,rfl⟩
 ·split<;>exact ⟨rfl,rfl,rfl⟩
theorem v5.ask{d:Dk}(h:v5 d):v5 (jN d).1:=by
 obtain ⟨e1,e2,e3⟩:=kN d;refine ⟨by rw [e1];exact h.nd,by rw [e1,e2,e3];exact h.len,?_,?_,by rw [e3];exact h.r⟩
 ·unfold jN;have:=h.w;split
  ·simp
  ·split<;>exact this
 ·unfold jN;have:=h.f;split
  ·exact this
  ·split
   ·simp only;omega
   ·exact this
theorem v5.put{d:Dk}(h:v5 d)(k:Int)(b:List Int):v5 (mX d k b).1:=by
 have ha:=h.ask;obtain ⟨e1,e2,e3⟩:=kN d;unfold mX;split
 ·exact ha
 ·split
  ·exact ha
  ·rename_i hr;refine ⟨by rw [e1];exact h.nd,λn=> ?_,ha.w,ha.f,ha.r⟩;rw [e1,e3];simp only;by_cases hn:n<=d.l.length
   ·rw [List.take_append_of_le_length hn];exact h.len n
   ·rw [fC (by simp;omega),List.foldl_append];show (nZ (lay (uL d) (k,b)):Int)<=_;omega
theorem v5.sync{d:Dk}(h:v5 d):v5 (rR d).1:=by
 have ha:=h.ask;obtain ⟨e1,e2,e3⟩:=kN d;unfold rR;split
 ·exact ha
 ·refine ⟨h.now,λn=> ?_,ha.w,ha.f,ha.r⟩;simp only [List.take_nil,List.foldl_nil];rw [e3];exact h.agf
open Classical in
noncomputable def Iz{α:Type}(f:α->Int)(l:List α)(x:α):List α:=if ∃y ∈ l,f y=f x then l.map (λy=>if f y=f x then x else y) else l++ [x]
theorem He{α:Type}(f:α->Int)(x:α):∀{l:List α},(l.map f).Nodup->(Iz f l x).Perm (x::l.filter λy=>decide (f y≠f x))
 | [],_=>by unfold Iz;rw [if_neg bB];exact .refl _
 |y::t,h=>by
  have hn:=List.nodup_cons.1 h
  have ih:=He f x hn.2
  by_cases e:f y=f x
  ·have mF:∀z ∈ t,f z≠f x:=λz hz q=>hn.1 (aZ.2 ⟨z,hz,q.trans e.symm⟩)
   unfold Iz
   rw [if_pos ⟨y,.head _,e⟩,eP,if_pos e,List.filter_cons,if_neg (by simp [e])]
   rw [List.filter_eq_self.2 (λz hz=>by simpa using mF z hz)]
   have:t.map (λy=>if f y=f x then x else y)=t:=by
    conv=>rhs;rw [<-List.map_id t]
    exact List.map_congr_left λz hz=>by rw [if_neg (mF z hz)];rfl
   rw [this]
  ·rw [List.filter_cons,if_pos (by simp [e])];refine List.Perm.trans ?_ (List.Perm.swap _ _ _);refine List.Perm.trans ?_ (List.Perm.cons y ih);unfold Iz;by_cases q:∃z ∈ t,f z=f x
   ·obtain ⟨z,hz,qz⟩:=q;rw [if_pos ⟨z,.tail _ hz,qz⟩,if_pos ⟨z,hz,qz⟩,eP,if_neg e]
   ·rw [if_neg (by
     rintro ⟨z,hz,qz⟩;rcases cB.1 hz with rfl|hz
     ·exact e qz
     ·exact q ⟨z,hz,qz⟩),if_neg q]
    exact .refl _
theorem Xq{α:Type}{f:α->Int}{l:List α}{x y:α}(h:y ∈ Iz f l x):y=x\/y ∈ l:=by
 unfold Iz at h;split at h
 ·obtain ⟨z,hz,e⟩:=aZ.1 h;split at e
  ·exact .inl e.symm
  ·exact .inr (e▸hz)
 ·rcases di.1 h with h|h
  ·exact .inr h
  ·exact .inl (by simpa using h)
theorem Xs{α:Type}{f:α->Int}{g:α->List Int}{l:List α}{s:List pZ}(x:α)(h:(l.map λy=>(f y,g y)).Perm s)(hn:(iw s).Nodup):((Iz f l x).map λy=>(f y,g y)).Perm (lay s (f x,g x)):=by
 have hk:(l.map f).Nodup:=by have:=(h.map λy:pZ=>y.1).nodup_iff.2 hn;rwa [List.map_map] at this
 refine ((He f x hk).map _).trans ?_;refine List.Perm.trans ?_ (xz s (f x,g x)).symm;rw [eP];refine List.Perm.cons _ ?_;have:=h.filter λy=>decide (y.1≠f x)
 rw [List.filter_map] at this;exact this
abbrev Rc:=Int × Int × List Int
def kF(best:Rc)(slot:Int)(r:Int × List Int × Int):Rc:=if r.2.2=0/\r.1>best.2.1 then (slot,r.1,r.2.1) else best
def nQ(D:Dk)(id:Int):Rc:=kF (kF (2*id+1,0,[]) (2*id) (qN (getD D (2*id)))) (2*id+1) (qN (getD D (2*id+1)))
def FX(id:Int):Bool:=decide (0<=id) && decide (id<=1099511627776)
def Hf(D:Dk)(id:Int):List Int × Int × Bool:=if FX id=true then ((nQ D id).2.2,(nQ D id).2.1,decide ((nQ D id).2.1>0)) else ([],0,false)
def xA(D:Dk)(id:Int)(body:List Int):Dk × Int:=
 if FX id=true then
  if (CM ((nQ D id).2.1+1) body).2≠0 then (D,(CM ((nQ D id).2.1+1) body).2)
  else if (mX D (4*id+1-(nQ D id).1) (CM ((nQ D id).2.1+1) body).1).2≠0 then mX D (4*id+1-(nQ D id).1) (CM ((nQ D id).2.1+1) body).1
  else rR (mX D (4*id+1-(nQ D id).1) (CM ((nQ D id).2.1+1) body).1).1
 else (D,1)
theorem ab9(n:Nat):(2*n) ^^^ 1=2*n+1/\(2*n+1) ^^^ 1=2*n:=by
 have h1:=Nat.xor_div_two (a:=2*n) (b:=1);have par:∀a:Nat,(a ^^^ 1) % 2=1 ↔ ¬a % 2=1:=λa=>by have:=Nat.testBit_xor a 1 0;rw [Nat.testBit_zero,Nat.testBit_zero,Nat.testBit_zero] at this;simp only [Nat.reduceMod,decide_true,Bool.xor_true] at this;rw [<-decide_eq_true_iff (p:=(a ^^^ 1) % 2=1),this];simp
 have h2:=par (2*n);have h3:=Nat.xor_div_two (a:=2*n+1) (b:=1);have h4:=par (2*n+1);rw [show 1 / 2=0 from rfl,Nat.xor_zero] at h1 h3;omega
theorem Xt{id:Int}(h:0<=id/\id<=1099511627776):ky .i64 (2*id) 1=2*id+1/\ky .i64 (2*id+1) 1=2*id:=by
 have key:∀n:Nat,n<=2 ^ 60->ky .i64 (n:Int) 1=((n ^^^ 1:Nat):Int):=λn hn=>by
  show aj ((BitVec.ofInt 64 (n:Int) ^^^ BitVec.ofInt 64 1).toNat:Nat)=_;have e1:(BitVec.ofInt 64 (n:Int)).toNat=n:=by rw [BitVec.toNat_ofInt];simp only [show ((2 ^ 64:Nat):Int)=18446744073709551616 from rfl];omega
  rw [BitVec.toNat_xor,e1];show aj ((n ^^^ 1:Nat):Int)=_;have:n ^^^ 1<2 ^ 61:=Nat.xor_lt_two_pow ab aF;exact wI
 obtain ⟨x1,x2⟩:=ab9 id.toNat;constructor
 ·have:=key (2*id.toNat) ab;rw [x1] at this;rw [show 2*id=((2*id.toNat:Nat):Int) by omega,this];omega
 ·have:=key (2*id.toNat+1) ab;rw [x2] at this;rw [show 2*id+1=((2*id.toNat+1:Nat):Int) by omega,this];omega
theorem Ds{best:Rc}{slot:Int}{r:Int × List Int × Int}:(kF best slot r).1=best.1\/(kF best slot r).1=slot:=by
 unfold kF;split
 ·exact .inr rfl
 ·exact .inl rfl
theorem Xu(D:Dk)(id:Int):(nQ D id).1=2*id\/(nQ D id).1=2*id+1:=by
 unfold nQ;rcases Ds (best:=kF (2*id+1,0,[]) (2*id) (qN (getD D (2*id)))) (slot:=2*id+1) (r:=qN (getD D (2*id+1))) with h|h
 ·rw [h];rcases Ds (best:=(2*id+1,0,[])) (slot:=2*id) (r:=qN (getD D (2*id))) with h|h
  ·exact .inr h
  ·exact .inl h
 ·exact .inr h
theorem afT(b:List Int):0<=(qN b).1/\(qN b).1<=1073741824:=by
 by_cases h:(qN b).2.2=0
 ·have:=ajo h;omega
 ·rw [(ajp h).1];omega
theorem RL{best:Rc}{slot:Int}(b:List Int)(h:0<=best.2.1/\best.2.1<=1073741824):0<=(kF best slot (qN b)).2.1/\(kF best slot (qN b)).2.1<=1073741824:=by
 unfold kF;split
 ·exact afT b
 ·exact h
theorem ajq(D:Dk)(id:Int):0<=(nQ D id).2.1/\(nQ D id).2.1<=1073741824:=RL _ (RL _ (show (0:Int)<=0/\(0:Int)<=1073741824 by decide))
theorem Xv(D:Dk):(jN D).1.l=D.l:=(kN D).2.1
theorem Xw(D:Dk)(k:Int)(b:List Int):(mX D k b).1.l.length<=D.l.length+1:=by
 unfold mX;split
 ·rw [Xv];omega
 ·split
  ·rw [Xv];omega
  ·simp
theorem afU(D:Dk):(rR D).1.l.length<=D.l.length:=by
 unfold rR;split
 ·rw [Xv];omega
 ·simp
theorem Xx(D:Dk)(id:Int)(b:List Int):(xA D id b).1.l.length<=D.l.length+1:=by
 unfold xA;split
 ·split
  ·exact Nat.le_succ _
  ·split
   ·exact Xw _ _ _
   ·exact gj (afU _) (Xw _ _ _)
 ·exact Nat.le_succ _
theorem acB{room id:Int}:Hf ⟨room,0,0,[],[]⟩ id=([],0,false):=by unfold Hf;split<;>rfl
end Go.dJ
namespace Go.gg
open Go Go.Vc
abbrev Cl:=Int × Int × Int
abbrev It:=Int × Cl
def cv(c:Cl):Value:=.agg #[c.1,c.2.1,c.2.2]
def tv(t:Int):Value:=.int .i64 t
abbrev dA(c:Cl):LV:=[.int .i64 c.1,.int .i64 c.2.1,.int .i64 c.2.2]
abbrev fI(x:It):LV:=[.int .i64 x.1,.int .i64 x.2.1,.int .i64 x.2.2.1,.int .i64 x.2.2.2]
theorem Er{a b:Cl}(h:cv a=cv b):a=b:=by unfold cv at h;obtain ⟨a1,a2,a3⟩:=a;obtain ⟨b1,b2,b3⟩:=b;simp at h;obtain ⟨rfl,rfl,rfl⟩:=h;rfl
structure QS where
 room:Int
 lost:Int
 l:List It
def gl(l:List It)(c:Cl):List It:=l.filter λx=>x.2 !=c
def wg(l:List It)(x:It):List It:=l.takeWhile (λy=>y.1<=x.1)++x::l.dropWhile (λy=>y.1<=x.1)
def oe(l:List It)(c:Cl):Option Int:=(l.find? λx=>x.2==c).map (·.1)
def oH(q:QS)(c:Cl)(t:Int):QS × Bool:=
 match oe q.l c with
 |some was=>if was<=t then (q,false) else ({q with l:=wg (gl q.l c) (t,c)},true)
 |none=>if (q.l.length:Int)>=q.room then ({q with lost:=q.lost+1},false) else ({q with l:=wg q.l (t,c)},true)
def iH(l:List It)(now many:Int):Nat:=min (l.takeWhile λy=>y.1<=now).length many.toNat
def Al(q:QS)(now many:Int):QS × List Cl:=({q with l:=q.l.drop (iH q.l now many)},(q.l.take (iH q.l now many)).map (·.2))
structure Ji(q:QS):Prop where
 room:1<=q.room/\q.room<=4096
 len:(q.l.length:Int)<=q.room
 sorted:q.l.Pairwise λa b=>a.1<=b.1
 nodup:(q.l.map (·.2)).Nodup
theorem As(l:List It)(c:Cl):(gl l c).Sublist l:=List.filter_sublist
theorem Es{l:List It}{c:Cl}{t:Int}(h:oe l c=some t):(t,c) ∈ l:=by
 unfold oe at h
 cases hf:l.find? (λx=>x.2==c) with
 |none=>rw [hf] at h;cases h
 |some x=>
  rw [hf] at h;have h1:=List.find?_some hf;have h2:=List.mem_of_find?_eq_some hf;obtain ⟨a,b⟩:=x;simp at h h1;subst h;subst h1;exact h2
theorem rn{l:List It}{c:Cl}(h:oe l c=none):∀x ∈ l,x.2≠c:=by unfold oe at h;rw [Option.map_eq_none_iff,List.find?_eq_none] at h;intro x hx e;exact h x hx (by simp [e])
theorem HF{l:List It}(h:l.Pairwise λa b=>a.1<=b.1)(t:Int):(∀y ∈ l.takeWhile (λy=>y.1<=t),y.1<=t)/\(∀y ∈ l.dropWhile (λy=>y.1<=t),t<y.1):=by
 induction l with
 |nil=>simp
 |cons a l ih=>
  rw [List.pairwise_cons] at h;by_cases ha:a.1<=t
  ·rw [List.takeWhile_cons_of_pos (by simpa using ha),List.dropWhile_cons_of_pos (by simpa using ha)];obtain ⟨i1,i2⟩:=ih h.2;refine ⟨λy hy=> ?_,i2⟩;rcases cB.1 hy with rfl|hy
   ·exact ha
   ·exact i1 y hy
  ·rw [List.takeWhile_cons_of_neg (by simpa using ha),List.dropWhile_cons_of_neg (by simpa using ha)];refine ⟨by simp,λy hy=> ?_⟩;rcases cB.1 hy with rfl|hy
   ·omega
   ·have:=h.1 y hy;omega
theorem yi{l:List It}(h:l.Pairwise λa b=>a.1<=b.1)(t:Int){i:Nat}{y:It}(hi:l[i]? =some y):i<(l.takeWhile (λy=>y.1<=t)).length ↔ y.1<=t:=by
 have hs:=HF h t;have e:=List.takeWhile_append_dropWhile (p:=λy:It=>decide (y.1<=t)) (l:=l);constructor
 ·intro gZ;rw [<-e,nN gZ] at hi;exact hs.1 y (bg hi)
 ·intro hle;rcases Nat.lt_or_ge i (l.takeWhile (λy=>y.1<=t)).length with gZ|QW
  ·exact gZ
  ·rw [<-e,pY QW] at hi;have:=hs.2 y (bg hi);omega
theorem acR(l:List It)(x:It):l.take (l.takeWhile λy=>decide (y.1<=x.1)).length++x::l.drop (l.takeWhile λy=>decide (y.1<=x.1)).length=wg l x:=by
 have h:∀(a b l:List It),a++b=l->l.take a.length++x::l.drop a.length=a++x::b:=by rintro a b _ rfl;simp
 exact h _ _ _ (List.takeWhile_append_dropWhile (p:=λy:It=>decide (y.1<=x.1)) (l:=l))
theorem LL(l:List It)(x:It):(wg l x).length=l.length+1:=by have e:=congrArg List.length (List.takeWhile_append_dropWhile (p:=λy:It=>decide (y.1<=x.1)) (l:=l));unfold wg;simp only [dm,dt] at e ⊢;omega
theorem Et(l:List It)(x y:It):y ∈ wg l x ↔ y=x\/y ∈ l:=by
 unfold wg;conv=>rhs;rw [<-List.takeWhile_append_dropWhile (p:=λy:It=>decide (y.1<=x.1)) (l:=l)]
 simp only [di,cB];constructor
 ·rintro (h|h|h)
  ·exact .inr (.inl h)
  ·exact .inl h
  ·exact .inr (.inr h)
 ·rintro (h|h|h)
  ·exact .inr (.inl h)
  ·exact .inl h
  ·exact .inr (.inr h)
theorem Bv{l:List It}(h:l.Pairwise λa b=>a.1<=b.1)(x:It):(wg l x).Pairwise λa b=>a.1<=b.1:=by
 have hs:=HF h x.1;have e:=List.takeWhile_append_dropWhile (p:=λy:It=>decide (y.1<=x.1)) (l:=l);unfold wg;rw [<-e,List.pairwise_append] at h;rw [List.pairwise_append];refine ⟨h.1,List.pairwise_cons.2 ⟨λy hy=>by have:=hs.2 y hy;omega,h.2.1⟩,λa ha b hb=> ?_⟩;rcases cB.1 hb with rfl|hb
 ·exact hs.1 a ha
 ·exact h.2.2 a ha b hb
theorem Eu{l:List It}(h:(l.map (·.2)).Nodup){x:It}(hx:∀y ∈ l,y.2≠x.2):((wg l x).map (·.2)).Nodup:=by
 have e:=List.takeWhile_append_dropWhile (p:=λy:It=>decide (y.1<=x.1)) (l:=l);unfold wg;have hx':∀y ∈ l.takeWhile (λy=>y.1<=x.1)++l.dropWhile (λy=>y.1<=x.1),y.2≠x.2:=by rw [e];exact hx
 rw [<-e,bU,List.nodup_append] at h;rw [bU,eP,List.nodup_append];refine ⟨h.1,List.nodup_cons.2 ⟨λhm=> ?_,h.2.1⟩,λa ha b hb=> ?_⟩
 ·obtain ⟨y,hy,e⟩:=aZ.1 hm;exact hx' y (List.mem_append_right _ hy) e
 ·rcases cB.1 hb with rfl|hb
  ·obtain ⟨y,hy,rfl⟩:=aZ.1 ha;exact hx' y (List.mem_append_left _ hy)
  ·exact h.2.2 a ha b hb
theorem Ji.add{q:QS}(h:Ji q)(c:Cl)(t:Int):Ji (oH q c t).1:=by
 unfold oH;split
 ·rename_i was hw;split
  ·exact h
  ·have eL:=As q.l c;have gZ:(gl q.l c).length<q.l.length:=by
    have hm:=Es hw;have:(gl q.l c).length≠q.l.length:=λe=>by have:=eL.eq_of_length e;rw [<-this] at hm;unfold gl at hm;simp at hm
    have:=eL.length_le;omega
   have:=h.len;exact ⟨h.room,by rw [LL];show ((_:Nat):Int)<=q.room;omega,Bv (h.sorted.sublist eL) _,Eu ((eL.map _).nodup h.nodup) (λy hy=>by unfold gl at hy;simp at hy;exact hy.2)⟩
 ·rename_i hn;split
  ·exact ⟨h.room,h.len,h.sorted,h.nodup⟩
  ·exact ⟨h.room,by rw [LL];show ((_:Nat):Int)<=q.room;omega,Bv h.sorted _,Eu h.nodup (rn hn)⟩
theorem Ji.drop{q:QS}(h:Ji q)(c:Cl):Ji {q with l:=gl q.l c}:=by have eL:=As q.l c;have:=eL.length_le;have:=h.len;exact ⟨h.room,by show ((gl q.l c).length:Int)<=q.room;omega,h.sorted.sublist eL,(eL.map _).nodup h.nodup⟩
theorem Ji.due{q:QS}(h:Ji q)(now many:Int):Ji (Al q now many).1:=by have eL:(q.l.drop (iH q.l now many)).Sublist q.l:=List.drop_sublist _ _;have:=eL.length_le;have:=h.len;exact ⟨h.room,by show ((q.l.drop (iH q.l now many)).length:Int)<=q.room;omega,h.sorted.sublist eL,(eL.map _).nodup h.nodup⟩
theorem HB(q:QS)(c:Cl)(t:Int):q.lost<=(oH q c t).1.lost/\(oH q c t).1.lost<=q.lost+1:=by
 unfold oH;split
 ·split<;>exact ⟨Int.le_refl _,by show q.lost<=q.lost+1;omega⟩
 ·split
  ·exact ⟨by show q.lost<=q.lost+1;omega,Int.le_refl _⟩
  ·exact ⟨Int.le_refl _,by show q.lost<=q.lost+1;omega⟩
theorem UL{q:QS}(h:Ji q)(now many:Int){k:Nat}{x:It}(hx:q.l[k]? =some x):k<iH q.l now many ↔(k:Int)<many/\x.1<=now:=by have:=yi h.sorted now hx;unfold iH;rw [<-this];omega
theorem UM(l:List It)(now many:Int):iH l now many<=l.length:=by have:=(List.takeWhile_sublist (λy:It=>decide (y.1<=now)) (l:=l)).length_le;unfold iH;omega
end Go.gg
namespace Go.gg
end Go.gg
namespace Go.fR
open Go Go.Vc Go.dJ Go.gg
abbrev Cg:=Ce × Int
def qR(b:Int):Bool:=decide (8<=b) && decide (b<16)
def jk(b:Int):Int:=if b=3 then 2 else if qR b then 5 else 0
def fX(b:Int):Int:=if qR b then b-8 else -1
def jP(l:Int):Int:=8+min (max l 0) 7
def lu(b:Int):Bool:=decide (b=0)||qR b
def eT(c:Ce):Ce:=(c.1,c.2.1-1,c.2.2)
def BA(c:Ce):Ce:=(c.1,c.2.1+1,c.2.2)
def c8(c:Ce):List Ce:=[(c.1-1,c.2.1,c.2.2),(c.1+1,c.2.1,c.2.2),(c.1,c.2.1,c.2.2-1),(c.1,c.2.1,c.2.2+1)]
def pN(c:Ce):List Ce:=[(c.1-1,c.2.1,c.2.2),(c.1+1,c.2.1,c.2.2),eT c,BA c,(c.1,c.2.1,c.2.2-1),(c.1,c.2.1,c.2.2+1)]
def rf(V:Ce->Int)(c:Ce):List Ce:=(c::pN c).filter λn=>decide (0<jk (V n))
def Ej(V:Ce->Int)(now:Int)(q:QS)(c:Ce):QS:=(rf V c).foldl (λq n=>(oH q n (now+jk (V n))).1) q
def IF(V:Ce->Int)(l:List Ce):Int:=l.foldl (λm n=>if 0<=fX (V n) then min m (fX (V n)) else m) 7
def gJ(V:Ce->Int)(c:Ce):Int × Bool:=if qR (V (BA c)) then (1,true) else if IF V (c8 c)=7 then (0,false) else (IF V (c8 c)+1,true)
def MC(V:Ce->Int)(c:Ce):List Cg:=if lu (V (eT c)) then [(c,V (eT c)),(eT c,3)] else []
def mB(V:Ce->Int)(c:Ce)(level:Int):List Cg:=
 if 0<level/\(gJ V c).2=false then [(c,0)]
 else if 0<level/\(gJ V c).1≠level then [(c,jP (gJ V c).1)]
 else if V (eT c)=0 then [(eT c,jP 1)]
 else if qR (V (eT c))=true\/7<=level then []
 else ((c8 c).filter λn=>decide (V n=0)).map λn=>(n,jP (level+1))
def iZ(V:Ce->Int)(c:Ce):List Cg:=if V c=3 then MC V c else if qR (V c) then mB V c (fX (V c)) else []
end Go.fR
namespace Go.jV
open Go Go.Vc Go.dJ
abbrev Bx:=Ce × Ce
def dB(n:Int):Int:=min (max n (-140737488355328)) 140737488355328
def m4(a b:Int):Int:=dB (dB a+dB b)
def qd(a b:Int):Int:=dB (dB a-dB b)
def cu(n:Int):Int:=dB n / 65536
def qh(n:Int):Int:=dB n % 65536
def pO(n:Int):Int:=min (max n (-2147483648)) 2147483648*65536
theorem jH(n:Int): -140737488355328<=dB n/\dB n<=140737488355328:=by unfold dB;omega
theorem zU(n:Int): -2147483648<=cu n/\cu n<=2147483648:=by have:=jH n;unfold cu;omega
theorem qX{n:Int}(h: -140737488355328<=n/\n<=140737488355328):dB n=n:=by unfold dB;omega
def db(v:Ce)(i:Int):Int:=if i=0 then v.1 else if i=1 then v.2.1 else if i=2 then v.2.2 else 0
def TW(f:Int->Int->Int)(v:Ce):Ce:=(f 0 v.1,f 1 v.2.1,f 2 v.2.2)
def jU(a b:Ce):Ce:=TW (λi n=>m4 n (db b i)) a
def zO(a b:Ce):Ce:=TW (λi n=>qd n (db b i)) a
def iE(v:Ce)(ax n:Int):Ce:=TW (λi own=>if i=ax then dB n else own) v
def vK(aI:Ce)(w h:Int):Bx:=(zO aI (max w 0 / 2,0,max w 0 / 2),jU aI (max w 0 / 2,max h 0,max w 0 / 2))
def br(v:Ce):Ce:=(cu v.1,cu v.2.1,cu v.2.2)
def qg(b:Bx)(i:Int):Bool:=decide (db b.1 i=db b.2 i) && decide (qh (db b.1 i)=0)
abbrev DM(b:Bx):Ce:=br (jU b.2 (-1,-1,-1))
def gR(b:Bx):Ce:=(if b.1.1=b.2.1 then (br b.1).1 else (DM b).1,if b.1.2.1=b.2.2.1 then (br b.1).2.1 else (DM b).2.1,if b.1.2.2=b.2.2.2 then (br b.1).2.2 else (DM b).2.2)
def Bh(b:Bx):Bool:= !(qg b 0||qg b 1||qg b 2)
def cM(a b:Int):Nat:=(b-a+1).toNat
def La(a b:Ce):List Ce:=(List.range (cM a.2.1 b.2.1*cM a.2.2 b.2.2*cM a.1 b.1)).map λk:Nat=>
 (a.1+((k % cM a.1 b.1:Nat):Int),a.2.1+((k / cM a.1 b.1 / cM a.2.2 b.2.2:Nat):Int),a.2.2+((k / cM a.1 b.1 % cM a.2.2 b.2.2:Nat):Int))
def kS(b:Bx):List Ce:=if Bh b then La (br b.1) (gR b) else []
def jO(V:Ce->Int)(b:Bx)(p:Int->Bool):Bool:=(kS b).any λc=>p (V c)
def iz(b:Bx):Bx:=(iE b.1 1 (qd b.1.2.1 1),iE b.2 1 b.1.2.1)
theorem ui(v:Ce):(-2147483648<=(br v).1/\(br v).1<=2147483648)/\(-2147483648<=(br v).2.1/\(br v).2.1<=2147483648)/\-2147483648<=(br v).2.2/\(br v).2.2<=2147483648:=⟨zU _,zU _,zU _⟩
theorem RX(b:Bx):(-2147483648<=(gR b).1/\(gR b).1<=2147483648)/\(-2147483648<=(gR b).2.1/\(gR b).2.1<=2147483648)/\-2147483648<=(gR b).2.2/\(gR b).2.2<=2147483648:=by have h1:=ui b.1;have h2:=ui (jU b.2 (-1,-1,-1));unfold gR DM;simp only;refine ⟨?_,?_,?_⟩<;>split<;>omega
theorem RY{a b i n:Nat}(h:i<n)(ha:a<b):a*n+i<b*n:=by have:=Nat.mul_le_mul_right n (show a+1<=b from ha);rw [Nat.add_mul,Nat.one_mul] at this;omega
theorem RZ{a i n:Nat}(h:i<n):(a*n+i) % n=i/\(a*n+i) / n=a:=by
 constructor
 ·rw [Nat.mul_add_mod',Nat.mod_eq_of_lt h]
 ·rw [Nat.add_comm,Nat.add_mul_div_right _ _ ab,Nat.div_eq_of_lt h,ep]
theorem acs(a b:Ce){jy jz jx:Nat}(hy:jy<cM a.2.1 b.2.1)(hz:jz<cM a.2.2 b.2.2)(hx:jx<cM a.1 b.1):
  (La a b)[(jy*cM a.2.2 b.2.2+jz)*cM a.1 b.1+jx]? =some (a.1+(jx:Int),a.2.1+(jy:Int),a.2.2+(jz:Int)):=by
 unfold La;rw [aU,List.getElem?_range (RY hx (RY hz hy))];obtain ⟨h1,h2⟩:=RZ (a:=jy*cM a.2.2 b.2.2+jz) hx;obtain ⟨h3,h4⟩:=RZ (a:=jy) hz;simp only [Option.map_some,h1,h2,h3,h4]
theorem XR(a b:Ce):(La a b).length=cM a.2.1 b.2.1*cM a.2.2 b.2.2*cM a.1 b.1:=by unfold La;simp
theorem XS{a b c:Ce}(h:c ∈ La a b):(a.1<=c.1/\c.1<=b.1)/\(a.2.1<=c.2.1/\c.2.1<=b.2.1)/\a.2.2<=c.2.2/\c.2.2<=b.2.2:=by
 unfold La at h;obtain ⟨k,hk,rfl⟩:=aZ.1 h;have hk:=List.mem_range.1 hk;have hx:0<cM a.1 b.1:=by
  by_cases q:cM a.1 b.1=0
  ·rw [q,Nat.mul_zero] at hk;omega
  ·omega
 have hz:0<cM a.2.2 b.2.2:=by
  by_cases q:cM a.2.2 b.2.2=0
  ·rw [q,Nat.mul_zero,Nat.zero_mul] at hk;omega
  ·omega
 have h1:=Nat.mod_lt k hx;have h2:=Nat.mod_lt (k / cM a.1 b.1) hz;have h3:k / cM a.1 b.1 / cM a.2.2 b.2.2<cM a.2.1 b.2.1:=by rw [Nat.div_div_eq_div_mul];refine Nat.div_lt_of_lt_mul ?_;rw [Nat.mul_comm (cM a.1 b.1),Nat.mul_comm,<-Nat.mul_assoc];exact hk
 generalize k % cM a.1 b.1=p1 at*;generalize k / cM a.1 b.1 / cM a.2.2 b.2.2=p2 at*;generalize k / cM a.1 b.1 % cM a.2.2 b.2.2=p3 at*;unfold cM at*;simp only;omega
def Hs(n:Int):Int:=min (max n (-65536)) 65536 / 4
def yz(n:Int):Int:=min (max n (-70368744177664)) 70368744177664
def qp(aI d:Ce):Ce:=zO (yz (jU aI d).1,yz (jU aI d).2.1,yz (jU aI d).2.2) aI
def lU(h:Bool × Bool × Bool)(v:Ce):Ce:=(λv=>if h.2.2 then iE v 2 0 else v) ((λv=>if h.2.1 then iE v 1 0 else v) (if h.1 then iE v 0 0 else v))
def DW(b:Bx)(ax k:Int):Bx:=(iE b.1 ax (pO k),iE b.2 ax (pO (k+1)))
def nY(d:Int):Int:=min (max d (-4194304)) 4194304
def YQ(top d k:Int):Nat:=((top+d-k*65536+65535) / 65536).toNat
def tD(low d k:Int):Nat:=(((k+1)*65536-(low+d)+65535) / 65536).toNat
def eC(b:Bx)(ax d:Int):List (Int × Int):=
 if 0<d then (List.range (YQ (db b.2 ax) d (cu (db b.2 ax+65535)))).map λi:Nat=>(cu (db b.2 ax+65535)+i,(cu (db b.2 ax+65535)+i)*65536-db b.2 ax)
 else (List.range (tD (db b.1 ax) d (cu (db b.1 ax)-1))).map λi:Nat=>(cu (db b.1 ax)-1-i,(cu (db b.1 ax)-1-i+1)*65536-db b.1 ax)
def pa(V:Ce->Int)(p:Int->Bool)(b:Bx)(ax d:Int):Int × Bool:=
 match (eC b ax (nY d)).find? (λx=>jO V (DW b ax x.1) p) with
 |some x=>(x.2,true)
 |none=>(nY d,false)
def XU(b:Bx)(v:Ce):Bx:=(jU b.1 v,jU b.2 v)
def cF(V:Ce->Int)(p:Int->Bool)(b:Bx)(ax d:Int):Bx × Bool:=(XU b (iE (0,0,0) ax (pa V p b ax d).1),(pa V p b ax d).2)
def da(b:Bx)(m:Int):Prop:=((-m<=b.1.1/\b.1.1<=m)/\(-m<=b.1.2.1/\b.1.2.1<=m)/\-m<=b.1.2.2/\b.1.2.2<=m)/\(-m<=b.2.1/\b.2.1<=m)/\(-m<=b.2.2.1/\b.2.2.1<=m)/\-m<=b.2.2.2/\b.2.2.2<=m
theorem da.ax{b:Bx}{m:Int}(h:da b m)(hm:0<=m)(i:Int):(-m<=db b.1 i/\db b.1 i<=m)/\-m<=db b.2 i/\db b.2 i<=m:=by unfold da at h;unfold db;refine ⟨?_,?_⟩<;>(repeat' split)<;>omega
theorem acZ{top d k:Int}{i:Nat}(h:top+d-k*65536<=100000000):(k+(i:Int))*65536<top+d ↔ i<YQ top d k:=by unfold YQ;omega
theorem UZ{low d k:Int}{i:Nat}:low+d<(k-(i:Int)+1)*65536 ↔ i<tD low d k:=by unfold tD;omega
theorem Ja(d:Int): -4194304<=nY d/\nY d<=4194304:=by unfold nY;omega
theorem Lt{b:Bx}{ax d:Int}(hb:da b 100000000000000)(hd: -4194304<=d/\d<=4194304):∀x ∈ eC b ax d,(-1525900000<=x.1/\x.1<=1525900000)/\-4194304<=x.2/\x.2<=4194304:=by
 have hn:=hb.ax aF ax;have c1:=qX (n:=db b.2 ax+65535) ab;have c2:=qX (n:=db b.1 ax) ab;intro x hx;unfold eC at hx;split at hx
 ·obtain ⟨i,hi,rfl⟩:=aZ.1 hx;have hi:=List.mem_range.1 hi;unfold YQ at hi;unfold cu at hi ⊢;rw [c1] at hi ⊢;simp only;omega
 ·obtain ⟨i,hi,rfl⟩:=aZ.1 hx;have hi:=List.mem_range.1 hi;unfold tD at hi;unfold cu at hi ⊢;rw [c2] at hi ⊢;simp only;omega
theorem RV{V:Ce->Int}{p:Int->Bool}{b:Bx}{ax d:Int}(hb:da b 100000000000000): -4194304<=(pa V p b ax d).1/\(pa V p b ax d).1<=4194304:=by
 unfold pa;split
 ·rename_i x hx;exact (Lt hb (Ja d) x (List.mem_of_find?_eq_some hx)).2
 ·exact Ja d
theorem iQ{a n m k:Int}(ha: -m<=a/\a<=m)(hn: -k<=n/\n<=k)(Wg:m+k<=140737488355328):m4 a n=a+n/\-(m+k)<=m4 a n/\m4 a n<=m+k:=by unfold m4 dB;omega
theorem Vh{b:Bx}{v:Ce}{m k:Int}(hb:da b m)(hv:(-k<=v.1/\v.1<=k)/\(-k<=v.2.1/\v.2.1<=k)/\-k<=v.2.2/\v.2.2<=k)(Wg:m+k<=140737488355328):da (XU b v) (m+k):=by unfold da at hb ⊢;obtain ⟨⟨h1,h2,h3⟩,h4,h5,h6⟩:=hb;obtain ⟨v1,v2,v3⟩:=hv;exact ⟨⟨(iQ h1 v1 Wg).2,(iQ h2 v2 Wg).2,(iQ h3 v3 Wg).2⟩,(iQ h4 v1 Wg).2,(iQ h5 v2 Wg).2,(iQ h6 v3 Wg).2⟩
theorem Hn{ax n k:Int}(hn: -k<=n/\n<=k)(hk:0<=k):(-k<=(iE (0,0,0) ax n).1/\(iE (0,0,0) ax n).1<=k)/\(-k<=(iE (0,0,0) ax n).2.1/\(iE (0,0,0) ax n).2.1<=k)/\-k<=(iE (0,0,0) ax n).2.2/\(iE (0,0,0) ax n).2.2<=k:=by
 have hc: -k<=dB n/\dB n<=k:=by unfold dB;omega
 unfold iE TW;simp only;refine ⟨?_,?_,?_⟩<;>split<;>omega
theorem dP{V:Ce->Int}{p:Int->Bool}{b:Bx}{ax d m:Int}(hb:da b m)(hm:m<=100000000000000):da (cF V p b ax d).1 (m+4194304):=by
 have hb':da b 100000000000000:=by unfold da at hb ⊢;omega
 exact Vh hb (Hn (RV hb') aF) ab
def kG(V:Ce->Int)(p:Int->Bool)(b:Bx)(d:Ce):Bx ×(Bool × Bool × Bool):=
 let y:=cF V p b 1 d.2.1
 let x:=cF V p y.1 0 d.1
 let z:=cF V p x.1 2 d.2.2
 (z.1,(x.2,y.2,z.2))
theorem IJ{V:Ce->Int}{p:Int->Bool}{b:Bx}{d:Ce}{m:Int}(hb:da b m)(hm:m<=99990000000000):da (kG V p b d).1 (m+12582912):=by
 have h1:=dP (V:=V) (p:=p) (ax:=1) (d:=d.2.1) hb ab;have h2:=dP (V:=V) (p:=p) (ax:=0) (d:=d.1) h1 ab;have h3:=dP (V:=V) (p:=p) (ax:=2) (d:=d.2.2) h2 ab;have:m+4194304+4194304+4194304=m+12582912:=by omega
 rw [this] at h3;exact h3
def yk(a b:Bx):Int:=max (b.1.1-a.1.1) (-(b.1.1-a.1.1))+max (b.1.2.2-a.1.2.2) (-(b.1.2.2-a.1.2.2))
def lQ(V:Ce->Int)(p:Int->Bool)(b:Bx)(d:Ce)(up:Int):Bx ×(Bool × Bool × Bool):=
 let m:=kG V p b d
 if (!m.2.1 && !m.2.2.2)||decide (up<=0)|| !jO V (iz b) p then m
 else
  let high:=cF V p b 1 (min up 65536)
  let x:=cF V p high.1 0 d.1
  let z:=cF V p x.1 2 d.2.2
  let y:=cF V p z.1 1 (-(high.1.1.2.1-b.1.2.1))
  if yk b y.1<=yk b m.1 then m else (y.1,(x.2,true,z.2))
def jw(a:Ce)(m:Int):Prop:=(-m<=a.1/\a.1<=m)/\(-m<=a.2.1/\a.2.1<=m)/\-m<=a.2.2/\a.2.2<=m
def uG(a b:Ce)(k:Int):Prop:=(-k<=b.1-a.1/\b.1-a.1<=k)/\(-k<=b.2.1-a.2.1/\b.2.1-a.2.1<=k)/\-k<=b.2.2-a.2.2/\b.2.2-a.2.2<=k
theorem uG.tr{a b c:Ce}{k n:Int}(h:uG a b k)(h':uG b c n):uG a c (k+n):=by unfold uG at*;omega
theorem uG.up{a b:Ce}{k n:Int}(h:uG a b k)(hn:k<=n):uG a b n:=by unfold uG at*;omega
theorem da.lo{b:Bx}{m:Int}(h:da b m):jw b.1 m:=h.1
theorem da.up{b:Bx}{m n:Int}(h:da b m)(hmn:m<=n):da b n:=by unfold da at h ⊢;omega
theorem jw.up{b:Ce}{m n:Int}(h:jw b m)(hmn:m<=n):jw b n:=by unfold jw at h ⊢;omega
theorem RU{a v:Ce}{m k:Int}(ha:jw a m)(hv:(-k<=v.1/\v.1<=k)/\(-k<=v.2.1/\v.2.1<=k)/\-k<=v.2.2/\v.2.2<=k)(Wg:m+k<=140737488355328):jw (jU a v) (m+k)/\uG a (jU a v) k:=by obtain ⟨h1,h2,h3⟩:=ha;obtain ⟨v1,v2,v3⟩:=hv;have q1:=iQ h1 v1 Wg;have q2:=iQ h2 v2 Wg;have q3:=iQ h3 v3 Wg;have e1:(jU a v).1=m4 a.1 v.1:=rfl;have e2:(jU a v).2.1=m4 a.2.1 v.2.1:=rfl;have e3:(jU a v).2.2=m4 a.2.2 v.2.2:=rfl;unfold jw uG;rw [e1,e2,e3];omega
theorem kR{V:Ce->Int}{p:Int->Bool}{b:Bx}{ax d m:Int}(hb:da b m)(hm:m<=100000000000000):uG b.1 (cF V p b ax d).1.1 4194304:=by have hb':da b 100000000000000:=hb.up hm;exact (RU hb.lo (Hn (RV hb') aF) ab).2
theorem KL{V:Ce->Int}{p:Int->Bool}{b:Bx}{d:Ce}{m:Int}(hb:da b m)(hm:m<=99990000000000):uG b.1 (kG V p b d).1.1 12582912:=by have h1:=dP (V:=V) (p:=p) (ax:=1) (d:=d.2.1) hb ab;have h2:=dP (V:=V) (p:=p) (ax:=0) (d:=d.1) h1 ab;have o1:=kR (V:=V) (p:=p) (ax:=1) (d:=d.2.1) hb ab;have o2:=kR (V:=V) (p:=p) (ax:=0) (d:=d.1) h1 ab;have o3:=kR (V:=V) (p:=p) (ax:=2) (d:=d.2.2) h2 ab;exact ((o1.tr o2).tr o3).up aF
theorem XI{V:Ce->Int}{p:Int->Bool}{b:Bx}{d:Ce}{up m:Int}(hb:da b m)(hm:m<=99980000000000):uG b.1 (lQ V p b d up).1.1 16777216/\da (lQ V p b d up).1 (m+16777216):=by
 have mo:=KL (V:=V) (p:=p) (d:=d) hb ab;have mn:=IJ (V:=V) (p:=p) (d:=d) hb ab;have h1:=dP (V:=V) (p:=p) (ax:=1) (d:=min up 65536) hb ab;have h2:=dP (V:=V) (p:=p) (ax:=0) (d:=d.1) h1 ab;have h3:=dP (V:=V) (p:=p) (ax:=2) (d:=d.2.2) h2 ab;have h4:=dP (V:=V) (p:=p) (ax:=1) (d:= -((cF V p b 1 (min up 65536)).1.1.2.1-b.1.2.1)) h3 ab;have o1:=kR (V:=V) (p:=p) (ax:=1) (d:=min up 65536) hb ab;have o2:=kR (V:=V) (p:=p) (ax:=0) (d:=d.1) h1 ab;have o3:=kR (V:=V) (p:=p) (ax:=2) (d:=d.2.2) h2 ab;have o4:=kR (V:=V) (p:=p) (ax:=1) (d:= -((cF V p b 1 (min up 65536)).1.1.2.1-b.1.2.1)) h3 ab;have o:=((o1.tr o2).tr o3).tr o4;unfold lQ;simp only;split
 ·exact ⟨mo.up aF,mn.up ab⟩
 ·split
  ·exact ⟨mo.up aF,mn.up ab⟩
  ·exact ⟨o.up aF,h4.up ab⟩
theorem Pm{aI:Ce}{wd ht m:Int}(hf:jw aI m)(hw:0<=wd/\wd<=1000000)(hh:0<=ht/\ht<=1000000)(hm:m+1000000<=140737488355328):da (vK aI wd ht) (m+1000000):=by
 have AQ:0<=max wd 0 / 2/\max wd 0 / 2<=1000000:=by omega
 have hh2:0<=max ht 0/\max ht 0<=1000000:=by omega
 generalize hq:max wd 0 / 2=q at*;generalize hr:max ht 0=r at*;obtain ⟨h1,h2,h3⟩:=hf;have e:vK aI wd ht=((qd aI.1 q,qd aI.2.1 0,qd aI.2.2 q),(m4 aI.1 q,m4 aI.2.1 r,m4 aI.2.2 q)):=by unfold vK;rw [hq,hr];rfl
 rw [e];unfold da qd m4 dB;simp only;omega
theorem KM{aI b c:Ce}{m n k:Int}(hf:jw aI m)(hb:jw b n)(hc:jw c n)(ho:uG b c k)(hn:n<=140737488355328)(hk:0<=k)(Wg:m+k<=140737488355328):jw (jU aI (zO c b)) (m+k):=by
 have hm:0<=m:=by unfold jw at hf;omega
 refine (RU hf ?_ Wg).1;have e1:(zO c b).1=qd c.1 b.1:=rfl;have e2:(zO c b).2.1=qd c.2.1 b.2.1:=rfl;have e3:(zO c b).2.2=qd c.2.2 b.2.2:=rfl;rw [e1,e2,e3];unfold uG at ho;unfold jw at hb hc;unfold qd dB;omega
end Go.jV
namespace Go.Proofs.YtkkkfkopcfdmaaaGreatDoor
open Go Go.Vc Go.RowKit Go.Proofs
def cH(n m:Int):Int:=if n<0 then (-(n+1)) % m else n % m
theorem gD(n m:Int)(w:World)(hn:inI n)(hm:0<m)(hm':inI m):
  ah 10 #[n,m] w λe w'=>e=Value.int .i64 (cH n m)/\w'=w:=by
 apply IY.vc;unfold cH;unfold inI at hn hm';apply Br.mk<;>intro h<;>simp at h
 ·have e1:aj (n+1)=n+1:=wI;have e2:aj (0-(n+1))= -(n+1):=by rw [wI];omega
  rw [e1,e2,if_pos h];refine RG.2 ⟨by omega,?_,rfl⟩;rw [Int.tmod_eq_emod_of_nonneg ab]
 ·rw [if_neg ab];refine RG.2 ⟨by omega,?_,rfl⟩;rw [Int.tmod_eq_emod_of_nonneg ab]
theorem c9(n m:Int)(hm:0<m):0<=cH n m/\cH n m<m:=by
 unfold cH;split
 ·exact ⟨Int.emod_nonneg _ ab,Int.emod_lt_of_pos _ hm⟩
 ·exact ⟨Int.emod_nonneg _ ab,Int.emod_lt_of_pos _ hm⟩
def cN(b:Int):Bool:=decide (0<=b) && decide (b<=15) && b !=6 && b !=7
def aE(b:Int):Bool:=b== -1||b==1||b==2||b==3||b==5
def Zl(n:Int):Int:=if cH n 14>5 then cH n 14+2 else cH n 14
def nmT:List ByteArray:=[⟨#[97,105,114]⟩,⟨#[115,116,111,110,101]⟩,⟨#[100,105,114,116]⟩,⟨#[115,97,110,100]⟩,⟨#[108,97,100,100,101,114]⟩,⟨#[103,108,97,115,115]⟩,⟨#[]⟩,⟨#[]⟩,
 ⟨#[119,97,116,101,114,48]⟩,⟨#[119,97,116,101,114,49]⟩,⟨#[119,97,116,101,114,50]⟩,⟨#[119,97,116,101,114,51]⟩,⟨#[119,97,116,101,114,52]⟩,⟨#[119,97,116,101,114,53]⟩,⟨#[119,97,116,101,114,54]⟩,⟨#[119,97,116,101,114,55]⟩]
def yh(b:Int):ByteArray:=if b<0 then ⟨#[]⟩ else nmT.getD b.toNat ⟨#[]⟩
theorem D3(b:Int)(w:World):ah 111 #[b] w λe w'=>e=Value.bool (cN b)/\w'=w:=by apply Uc.vc;unfold cN;refine Br.mk (λh=>Br.mk (λh2=>Br.mk (λh3=> ?_) (λh3=> ?_)) (λh2=> ?_)) (λh=> ?_)<;>simp_all<;>omega
theorem Ay(b:Int)(w:World):ah 114 #[b] w λe w'=>e=Value.bool (aE b)/\w'=w:=by
 apply Lm.vc;unfold aE
 repeat' (first|apply Br.mk<;>intro h)
 all_goals simp_all
theorem qk(b:Int)(w:World):ah 103 #[b] w λe w'=>e=Value.bool (aE b)/\w'=w:=by
 apply Ll.vc;unfold aE
 repeat' (first|apply Br.mk<;>intro h)
 all_goals simp_all
theorem Ch(n:Int)(w:World)(hn:inI n):ah 110 #[n] w λe w'=>e=Value.int .i64 (Zl n)/\w'=w:=by
 apply PL.vc;unfold Zl;refine (gD n 14 w hn ab (by unfold inI;omega)).mono ?_;rintro e w' ⟨rfl,rfl⟩;have:=c9 n 14 ab;refine ⟨_,rfl,Br.mk (λh=> ?_) (λh=> ?_)⟩<;>simp at h
 ·rw [if_pos h,wI];exact ⟨rfl,rfl⟩
 ·rw [if_neg ab];exact ⟨rfl,rfl⟩
theorem kO(n:Int)(w:World)(hn:inI n):ah 302 #[n] w λe w'=>e=Value.int .i64 (8+min (max n 0) 7)/\w'=w:=by apply Lg.vc;rw [aK (by unfold inI;split<;>split<;>omega)];refine ⟨?_,rfl⟩;congr 2;split<;>split<;>omega
def ao5:ByteArray:=⟨#[48,49,50,51,52,53,54,55,56,57,97,98,99,100,101,102,103,104,105,106,107,108,109,110,111,112,113,114,115,116,117,118,119,120,121,122]⟩
def PW(n:Int):ByteArray:=ao5.extract n.toNat (n+1).toNat
theorem QV(n:Int)(w:World)(h0:0<=n)(h1:n<10):ah 314 #[n] w λe w'=>e=Value.string (PW n)/\w'=w:=by
 apply qZ.vc;rw [wI];apply Br.mk<;>intro h<;>simp at h
 ·refine ⟨by omega,?_,by omega,by omega,rfl,rfl⟩;show n+1<=36;omega
 ·omega
set_option maxRecDepth 10000 in
theorem E9(n:Int)(w:World)(h0:0<=n)(h1:n<10):ah 308 #[n,(10:Int)] w λe w'=>e=Value.string (PW n)/\w'=w:=by
 have h10:n<100:=by omega
 have hs:ah 314 #[n] w (λe w'=>e=Value.string (PW n)/\w'=w):=QV n w h0 h1;go_enter Tryz.func308,Tryz.ntmps308;go_wp2_with (go_at_call 314;refine hs.mono ?_;rintro e w' ⟨rfl,rfl⟩);go_ret;exact ⟨rfl,rfl⟩
theorem Uu(n:Int)(w:World)(h0:0<=n)(h1:n<10):ah 267 #[n] w λe w'=>e=Value.string (PW n)/\w'=w:=by
 apply IZ.vc;refine Calls.mono (sG.vc (R:=λe w'=>e=Value.string (PW n)/\w'=w) ((E9 n w h0 h1).mono ?_)) ?_
 all_goals
  rintro e w' ⟨rfl,rfl⟩
  exact ⟨_,rfl,rfl,rfl⟩
def rU(x:Nat):LV:=(List.range 16).map λj=> .string (if j<8+x then nmT.getD j ⟨#[]⟩ else ⟨#[]⟩)
theorem Yf(x:Int)(h0:0<=x)(h1:x<8):(⟨#[119,97,116,101,114]⟩:ByteArray)++PW x=nmT.getD (8+x).toNat ⟨#[]⟩:=by
 have:x=0\/x=1\/x=2\/x=3\/x=4\/x=5\/x=6\/x=7:=by omega
 rcases this with rfl|rfl|rfl|rfl|rfl|rfl|rfl|rfl<;>decide
theorem af8(x:Nat)(h1:x<8):aR (rU x) (8+x) [.string (nmT.getD (8+x) ⟨#[]⟩)]=rU (x+1):=by
 have:x=0\/x=1\/x=2\/x=3\/x=4\/x=5\/x=6\/x=7:=by omega
 rcases this with rfl|rfl|rfl|rfl|rfl|rfl|rfl|rfl<;>rfl
theorem xZ(x:Nat):(rU x).length=16:=by simp [rU]
def ajB:Value:=.agg (rU 8).toArray
abbrev nm0:LV:=List.replicate 16 (.string ⟨#[]⟩)
theorem Ac(w:World):ah 218 #[] w λe w'=>e=ajB/\Ext w w':=by
 apply Lh.vc;intro w0 hw0 w1 Ru;have r0:Row w0 w nm0 285:=by rw [hw0];exact Row.new w nm0 _
 have s0:w0.heap.size=w.heap.size+1:=by rw [hw0];simp
 have s1:w1.heap.size=w.heap.size+2:=by rw [Ru];simp [s0]
 have r1:Row w1 w0 nm0 285:=by rw [Ru];exact Row.new w0 nm0 285
 have x0:=aL hw0;have x1:=aL Ru;refine ⟨⟨rfl,r1.wr bB⟩,λw2 AQ=> ?_⟩;rw [r1.aH bB (by intro u hu;simp at hu;rcases hu with rfl|rfl|rfl|rfl|rfl|rfl|rfl|rfl|rfl|rfl|rfl|rfl|rfl|rfl|rfl|rfl<;>rfl)] at AQ;have r2:Row w2 w0 (rU 0) 285:=r1.st AQ;have x2:Ext w w2:=(x0.tr x1).ae AQ ab;have r20:Row w2 w nm0 285:=(r0.ext x1).same (by rw [AQ];exact setRow_other _ _ _ _ ab);refine ⟨λn x wr=>∃k:Nat,x=k/\k+n=8/\Ext w wr/\Row wr w nm0 285/\Row wr w0 (rU k) 285,⟨8,0,rfl,rfl,x2,r20,r2⟩,?_⟩;rintro n us x wr ⟨k,rfl,hk,xr,q0,q1⟩;apply Br.mk<;>intro h<;>simp at h
 ·refine (Uu k wr ab ab).mono ?_;rintro e w' ⟨rfl,rfl⟩;refine ⟨_,rfl,?_⟩;rw [aK (n:=8+(k:Int)) (by unfold inI;omega),aK (n:=(k:Int)+1) (by unfold inI;omega),Yf k ab ab];have iU:af (some ⟨w0.heap.size,0,none⟩) ((8+(k:Int)).toNat*1)=some ⟨w0.heap.size,8+k,none⟩:=by rw [bf];congr 2;omega
  rw [iU];refine ⟨?_,by omega,by omega,⟨rfl,q1.wr (by rw [xZ];simp;omega)⟩,λw3 Ol=> ?_⟩
  ·have:(PW k).size<=1:=by
    have:k=0\/k=1\/k=2\/k=3\/k=4\/k=5\/k=6\/k=7:=by omega
    rcases this with rfl|rfl|rfl|rfl|rfl|rfl|rfl|rfl<;>decide
   have h5:(⟨#[119,97,116,101,114]⟩:ByteArray).size=5:=rfl;rw [h5];have:IntKind.i64.max=9223372036854775807:=by decide
   omega
  ·have e8:(8+(k:Int)).toNat=8+k:=by omega
   rw [q1.aH (by rw [xZ];simp;omega) (by intro u hu;simp at hu;subst hu;rfl),e8,af8 k ab] at Ol;refine ⟨n-1,by omega,k+1,by omega,by omega,xr.ae Ol ab,q0.same (by rw [Ol];exact setRow_other _ _ _ _ ab),by rw [Ol];exact q1.set _⟩
 ·obtain rfl:k=8:=by omega
  refine ⟨_,_,_,_,_,_,_,_,_,_,_,_,_,_,_,_,q1.bZ (vs:=rU 8) (λj hj=>by simp),⟨rfl,q0.wr bB⟩,λw3 Ol=> ?_⟩;rw [q0.aH bB (by intro u hu;simp at hu;rcases hu with rfl|rfl|rfl|rfl|rfl|rfl|rfl|rfl|rfl|rfl|rfl|rfl|rfl|rfl|rfl|rfl<;>rfl)] at Ol;have q3:Row w3 w (rU 8) 285:=q0.st Ol;exact ⟨_,_,_,_,_,_,_,_,_,_,_,_,_,_,_,_,q3.bZ (vs:=rU 8) (λj hj=>by simp),rfl,xr.ae Ol ab⟩
theorem UI(x y:ByteArray):vd x y=true ↔ x=y:=by unfold vd;rw [ByteArray.toList_eq,ByteArray.toList_eq,beq_iff_eq];obtain ⟨⟨x⟩⟩:=x;obtain ⟨⟨y⟩⟩:=y;simp
theorem agi(i:Int)(h0:0<=i)(h1:i<16):(rU 8)[i.toNat*1]? =some (.string (yh i)):=by
 have hk:i.toNat<16:=by omega
 have e:yh i=nmT.getD i.toNat ⟨#[]⟩:=by unfold yh;rw [if_neg ab]
 rw [e,Nat.mul_one];generalize i.toNat=k at hk;have:∀k,k<16->(rU 8)[k]? =some (.string (nmT.getD k ⟨#[]⟩)):=by
  intro k hk;have:k=0\/k=1\/k=2\/k=3\/k=4\/k=5\/k=6\/k=7\/k=8\/k=9\/k=10\/k=11\/k=12\/k=13\/k=14\/k=15:=by omega
  rcases this with rfl|rfl|rfl|rfl|rfl|rfl|rfl|rfl|rfl|rfl|rfl|rfl|rfl|rfl|rfl|rfl<;>rfl
 exact this k hk
theorem Ar(b:Int)(h:b<0\/16<=b):yh b=⟨#[]⟩:=by
 unfold yh;rcases h with h|h
 ·rw [if_pos h]
 ·rw [if_neg ab];rw [dS,ju (by show 16<=b.toNat;omega)];rfl
theorem Yx(b:Int):cN b=true ↔ yh b≠⟨#[]⟩:=by
 by_cases h:b<0\/16<=b
 ·rw [Ar b h];unfold cN;simp;omega
 ·have:b=0\/b=1\/b=2\/b=3\/b=4\/b=5\/b=6\/b=7\/b=8\/b=9\/b=10\/b=11\/b=12\/b=13\/b=14\/b=15:=by omega
  rcases this with rfl|rfl|rfl|rfl|rfl|rfl|rfl|rfl|rfl|rfl|rfl|rfl|rfl|rfl|rfl|rfl<;>decide
theorem B6(b:Int)(w:World):ah 158 #[b] w λe w'=>e=Value.string (yh b)/\Ext w w':=by
 apply PI.vc;refine Br.mk (λh=> ?_) (λh=>Br.mk (λh2=> ?_) (λh2=> ?_))<;>simp at h
 ·rw [Ar b (.inl h)];exact ⟨rfl,Ext.cE w⟩
 ·simp at h2;rw [Ar b (.inr h2)];exact ⟨rfl,Ext.cE w⟩
 ·simp at h2;refine (Ac w).mono ?_;rintro e w' ⟨rfl,x⟩;exact ⟨_,_,_,_,_,_,_,_,_,_,_,_,_,_,_,_,rfl,⟨h,h2⟩,_,agi b h h2,rfl,x⟩
theorem gw(b:Int)(w:World):ah 108 #[b] w λe w'=>e=Value.bool (cN b)/\Ext w w':=by
 apply T6.vc;refine (B6 b w).mono ?_;rintro e w' ⟨rfl,x⟩;refine ⟨_,rfl,?_,x⟩;congr 2;rw [Bool.eq_iff_iff,Yx];have:=UI (yh b) ⟨#[]⟩
 cases h:vd (yh b) ⟨#[]⟩<;>simp_all
open Go.bj
abbrev gz:TypeId:=252
abbrev IN:TypeId:=3
abbrev rv(r:Rn):LV:=[.int .i64 r.1,.int .i64 r.2]
abbrev iv(b:Int):LV:=[.int .i64 b]
abbrev kj(w:World)(s:Sl)(l:List Rn):Prop:=RdK w s 2 (l.map rv)
abbrev Pk(w:World)(s:Sl)(c:List Int):Prop:=RdK w s 1 (c.map iv)
abbrev vf(B:Nat)(w:World)(s:Sl)(l:List Rn):Prop:=aC B gz 2 w s (l.map rv)
abbrev OwC(B:Nat)(w:World)(s:Sl)(c:List Int):Prop:=aC B IN 1 w s (c.map iv)
theorem vf.FL{B:Nat}{w:World}{s:Sl}{l:List Rn}(h:vf B w s l):kj w s l:=aC.rd h ab
theorem OwC.rdc{B:Nat}{w:World}{s:Sl}{c:List Int}(h:OwC B w s c):Pk w s c:=aC.rd h ab
theorem kj.len{w:World}{s:Sl}{l:List Rn}(h:kj w s l):s.n=l.length:=by have:=h.n;simpa using this
theorem Pk.len{w:World}{s:Sl}{c:List Int}(h:Pk w s c):s.n=c.length:=by have:=h.n;simpa using this
theorem kj.get{w:World}{s:Sl}{l:List Rn}(_:kj w s l){i:Nat}{r:Rn}(hi:l[i]? =some r):(l.map rv)[i]? =some (rv r):=by rw [aU,hi];rfl
theorem kj.c0{w:World}{s:Sl}{l:List Rn}(h:kj w s l){i:Nat}{r:Rn}(hi:l[i]? =some r):ld w (af (af s.a (i*2)) 0)=some (.int .i64 r.1):=RdK.at h (kj.get h hi) (j:=0) rfl
theorem kj.c1{w:World}{s:Sl}{l:List Rn}(h:kj w s l){i:Nat}{r:Rn}(hi:l[i]? =some r):ld w (af (af s.a (i*2)) 1)=some (.int .i64 r.2):=RdK.at h (kj.get h hi) (j:=1) rfl
theorem kj.ll{w:World}{s:Sl}{l:List Rn}(h:kj w s l){i:Nat}{r:Rn}(hi:l[i]? =some r):ag w (af s.a (i*2)) 0 [r.1,r.2]:=RdK.bZ h (kj.get h hi)
theorem Pk.c0{w:World}{s:Sl}{l:List Int}(h:Pk w s l){i:Nat}{b:Int}(hi:l[i]? =some b):ld w (af s.a (i*1))=some (.int .i64 b):=by have:=h.rd i (iv b) (by rw [aU,hi];rfl) 0 _ rfl;simpa using this
theorem kj.g9{w:World}{s:Sl}{l:List Rn}(h:kj w s l){i:Nat}(hi:i<l.length):eo s.a (i:Int) s.n:=RdK.g9 h ab ab (by have:=kj.len h;omega)
theorem Pk.g9{w:World}{s:Sl}{l:List Int}(h:Pk w s l){i:Nat}(hi:i<l.length):eo s.a (i:Int) s.n:=RdK.g9 h ab ab (by have:=Pk.len h;omega)
theorem kj.some{w:World}{s:Sl}{l:List Rn}(h:kj w s l){i:Nat}(hi:i<l.length):(af s.a (i*2)).isSome=true:=by rw [gF];exact RdK.isSome h ab (i:=i) (by simpa using hi)
theorem bI{α:Type}{l:List α}{i:Nat}(h:i<l.length):∃r,l[i]? =some r:=⟨_,cZ h⟩
abbrev Bd(n:Nat):Prop:=n<=1099511627776
theorem pD(s:Sl)(l:List Rn)(w:World)(hs:kj w s l)(hb:Bd l.length)(hl:∀r ∈ l,0<=r.1)(FI:bS l<=1099511627776):
  ah 253 #[s] w λe w'=>e=Value.int .i64 (bS l)/\Ext w w':=by
 have tR:=kj.len hs;apply X1.vc;refine ⟨λn x y wr=>∃k:Nat,x=k/\k+n=l.length/\Ext w wr/\y=bS (l.take k),⟨l.length,0,rfl,by omega,Ext.cE w,rfl⟩,?_⟩;rintro n us x y wr ⟨k,rfl,hk,xr,rfl⟩;have hw:=aK (n:=(k:Int)+1) (by unfold inI;omega);apply Br.mk<;>intro h<;>simp at h
 ·obtain ⟨r,hr⟩:=bI (l:=l) (i:=k) ab;refine ⟨kj.g9 hs ab,_,_,kj.ll (hs.ext xr) hr,?_⟩;rintro w9 rfl bO rfl;have e:bS (l.take (k+1))=bS (l.take k)+r.1:=by rw [dD,hr];simp [bS]
  have h0:0<=bS (l.take k)/\0<=r.1/\bS (l.take (k+1))<=bS l:=by
   refine ⟨?_,hl r (bg hr),?_⟩
   ·rw [eU λq hq=>hl q (List.mem_of_mem_take hq)];omega
   ·have:=LN (l.take (k+1)) (l.drop (k+1));rw [List.take_append_drop] at this;have h2:0<=bS (l.drop (k+1)):=by rw [eU λq hq=>hl q (List.mem_of_mem_drop hq)];omega
    omega
  have AQ:=aK (n:=bS (l.take k)+r.1) (by unfold inI;omega);refine ⟨n-1,by omega,k+1,by omega,by omega,((xr.tr (Ext.al _ _)).setRow xr.size _),by rw [AQ,e]⟩
 ·obtain rfl:k=l.length:=by omega
  rw [iA];exact ⟨rfl,xr⟩
abbrev agk(s:Sl)(w w':World):Prop:=∀j,s.aX≠some j->j<w.heap.size->w'.heap[j]? =w.heap[j]?
theorem Eo(B:Nat)(s:Sl)(l:List Rn)(r:Rn)(w:World)(hB:B<=w)(ho:vf B w s l)(hn:Bd l.length)(hl:∀q ∈ l,0<=q.1/\q.1<=1099511627776)(hr:r.1<=1099511627776):
  ah 252 #[s,.agg #[r.1,r.2]] w λe w'=>∃s':Sl,e=s'/\vf B w' s' (jb l r)/\Below B w w'/\agk s w w':=by
 have tR:=kj.len ho.FL;apply Uf.vc;rintro w0 rfl;have xa:=Ext.al w (.cells #[r.1,r.2] gz);have xd:=xa.drew;have hz:(w.alloc (.cells #[r.1,r.2] gz)).drew.heap.size=w.heap.size+1:=by simp [World.drew]
 have hw:=aK (n:=((s.n:Nat):Int)-1) (by unfold inI;omega);have grow:∀(_:1<=r.1)(_:∀q,l.getLast? =some q->q.2≠r.2),(∀w4:World,w4=(w.alloc (.cells #[r.1,r.2] gz)).drew.alloc (.cells #[r.1,r.2] gz)->
   ba 16 2 w4 ⟨s.a,s.n,s.c⟩ 1 [r.1,r.2]/\∀(s5:Sl)(w6:World),aV gz 2 w4 ⟨s.a,s.n,s.c⟩ 1 [r.1,r.2] s5 w6->w6.heap[w.heap.size]? =w4.heap[w.heap.size]?/\w6.heap[(w.alloc (.cells #[r.1,r.2] gz)).drew.heap.size]? =w4.heap[(w.alloc (.cells #[r.1,r.2] gz)).drew.heap.size]?/\
   ∃s':Sl,Ending.returned (.slice s5.a s5.n s5.c)=s'/\vf B w6 s' (jb l r)/\Below B w w6/\agk s w w6):=by
  rintro h1 h2 w4 rfl;obtain ⟨hp,bw⟩:=(aC.ext ho xd).iO (bytes:=16) (news:=rv r) (.cells #[r.1,r.2] gz) (gj hB xd.size) rfl (zE _ _ _ _) ab ab;refine ⟨hp,λs5 w6 hr'=> ?_⟩;obtain ⟨k1,ho',hn',xb,hk,hb⟩:=bw s5 w6 hr';refine ⟨?_,k1,s5,rfl,?_,(Below.mono xd hB).trans xb,λj hj gZ=> ?_⟩
  ·rw [hk _ (λhb=>absurd (ho.own.lt hb).2 (Nat.lt_irrefl _)) ab];symm;exact (Ext.al _ _).heap ab
  ·rw [gu h1 h2];show aC B gz 2 w6 s5 ((l++ [r]).map rv);rw [bU];exact ho'
  ·rw [hk j hj ab];exact xd.heap gZ
 apply Br.mk<;>intro h<;>simp at h
 ·exact ⟨s,rfl,by rw [kX h];exact aC.ext ho xa,Below.mono xa hB,λj _ hj=>xa.heap hj⟩
 rw [hw];refine Br.mk (λh'=> ?_) (λh'=> ?_)<;>simp at h'
 ·rcases wh l with rfl|⟨m,q,rfl⟩
  ·simp at tR;omega
  rw [dm] at tR;simp at tR;have ah3:(((s.n:Nat):Int)-1).toNat=m.length:=by omega
  have hq:(m++ [q])[m.length]? =some q:=by simp
  have oq:eo s.a (((s.n:Nat):Int)-1) s.n:=by have:=kj.g9 ho.FL (i:=m.length) bB;rwa [show ((m.length:Nat):Int)=((s.n:Nat):Int)-1 from by omega] at this
  have hsome:=kj.some ho.FL (i:=m.length) bB;rw [ah3];have r1:=RdK.ext ho.FL xd;have r2:=RdK.ext ho.FL xd.drew;refine ⟨oq,CK.2 ⟨hsome,_,kj.c1 r1 hq,Br.mk (λh2=> ?_) (λh2=> ?_)⟩⟩
  ·simp at h2;obtain ⟨q1,q2,q3,q4,q5⟩:=(aC.ext ho xd.drew).set (i:=m.length) (j:=0) (r:=rv q) (v:=.int .i64 (aj (q.1+r.1))) (by rw [aU,hq];rfl) ab rfl (gj hB xd.drew.size);refine ⟨oq,CK.2 ⟨hsome,_,kj.c0 r2 hq,oq,CK.2 ⟨hsome,⟨q1,q2⟩,?_,?_⟩⟩⟩
   ·intro hb;have:s.aX=some w.heap.size:=by rw [cV,cV] at hb;exact hb
    exact absurd (ho.own.lt this).2 (Nat.lt_irrefl _)
   ·rintro w3 rfl;have hwq:=aK (n:=q.1+r.1) (by have:=hl q bB;unfold inI;omega);rw [hwq] at q3 q4 q5 ⊢;refine ⟨s,rfl,?_,(Below.mono xd.drew hB).trans q4,λj hj gZ=> ?_⟩
    ·rw [jS h h2];show aC B gz 2 _ s ((m++ [(q.1+r.1,q.2)]).map rv);have e:((m++ [q]).map rv).set m.length ((rv q).set 0 (.int .i64 (q.1+r.1)))=(m++ [(q.1+r.1,q.2)]).map rv:=by rw [bU,bU,List.set_append_right _ _ bB];simp
     rw [<-e];exact q3
    ·rw [q5 j hj];exact xd.drew.heap gZ
  ·exact grow h (by intro p hp;simp at hp;subst hp;simpa using h2)
 ·have:l=[]:=by apply List.eq_nil_of_length_eq_zero;omega
  subst this;exact grow h bB
theorem rq(B:Nat)(s:Sl)(c:List Int)(r:Rn)(w:World)(hB:B<=w)(ho:vf B w s (gP c))(hn:Bd c.length)(hr:r.1<=1099511627776):
  ah 252 #[s,.agg #[r.1,r.2]] w λe w'=>∃s':Sl,e=s'/\vf B w' s' (gP (c++List.replicate r.1.toNat r.2))/\Below B w w'/\agk s w w':=by
 rw [<-LJ];refine Eo B s _ r w hB ho (by have:=qT c;unfold Bd at*;omega) (λq hq=> ?_) hr;have:=m8 hq;unfold Bd at hn;omega
theorem Ep(n b:Int)(w:World)(hn:n<=1099511627776):
  ah 320 #[n,b] w λe w'=>∃s':Sl,e=s'/\vf w w' s' (gP (List.replicate n.toNat b))/\Ext w w':=by
 apply Uh.vc;refine (rq w ⟨none,0,0⟩ [] (n,b) w (aB _) aC.nil bB hn).mono ?_;rintro e w' ⟨s',rfl,ho,x,_⟩;exact ⟨s',rfl,s',rfl,by simpa using ho,x⟩
theorem II(s:Sl)(c:List Int)(w:World)(hs:Pk w s c)(hn:Bd c.length):
  ah 188 #[s] w λe w'=>∃s':Sl,e=s'/\vf w w' s' (gP c)/\Ext w w':=by
 have tR:=Pk.len hs;apply acx.vc;refine ⟨λn x o wr=>∃k:Nat,x=k/\k+n=c.length/\Ext w wr/\vf w wr o (gP (c.take k)),⟨c.length,0,rfl,by omega,Ext.cE w,aC.nil⟩,?_⟩;rintro n us x o wr ⟨k,rfl,hk,xr,ho⟩;unfold Bd at hn;have hw:=aK (n:=(k:Int)+1) (by unfold inI;omega);apply Br.mk<;>intro h<;>simp at h
 ·obtain ⟨b,hb⟩:=bI (l:=c) (i:=k) ab;refine ⟨Pk.g9 hs ab,_,Pk.c0 (hs.ext xr) hb,?_⟩;refine (rq w o _ (1,b) wr xr.size ho (by rw [du];unfold Bd;omega) (by show (1:Int)<=_;omega)).mono ?_;rintro e w' ⟨s',rfl,ho',x',_⟩;refine ⟨s',rfl,n-1,by omega,k+1,by omega,by omega,xr.trans x',?_⟩;rw [dD,hb];exact ho'
 ·obtain rfl:k=c.length:=by omega
  rw [iA] at ho;exact ⟨o,rfl,ho,xr⟩
theorem og{l:List Rn}{k:Nat}{r:Rn}(hr:l[k]? =some r):bS (l.take (k+1))=bS (l.take k)+r.1:=by rw [dD,hr];simp [bS]
theorem R9{l:List Rn}(hl:∀r ∈ l,0<=r.1):0<=bS l:=by rw [eU hl];omega
theorem kl{l:List Rn}(hl:∀r ∈ l,0<=r.1)(k:Nat):0<=bS (l.take k)/\bS (l.take k)<=bS l:=by
 refine ⟨R9 λq hq=>hl q (List.mem_of_mem_take hq),?_⟩;have:=LN (l.take k) (l.drop k);rw [List.take_append_drop] at this;have h2:=R9 (l:=l.drop k) λq hq=>hl q (List.mem_of_mem_drop hq)
 omega
theorem rW{l:List Rn}{k:Nat}{r:Rn}(hr:l[k]? =some r):cw (l.take (k+1))=cw (l.take k)++List.replicate r.1.toNat r.2:=by rw [dD,hr,gM];exact congrArg _ (iI r)
theorem ago(c:List Int)(a b:Int):(Gt c a b).length<=c.length:=by unfold Gt;simp;omega
theorem vl(s:Sl)(l:List Rn)(a b:Int)(w:World)(hs:kj w s l)(hn:Bd l.length)(hl:∀r ∈ l,0<=r.1)(FI:bS l<=1099511627776)(ha:0<=a)(hb:0<=b):
  ah 319 #[s,a,b] w λe w'=>∃s':Sl,e=s'/\vf w w' s' (gP (Gt (cw l) a b))/\Ext w w':=by
 have tR:=kj.len hs;unfold Bd at hn;apply X2.vc;refine ⟨λn x y o wr=>∃k:Nat,x=k/\k+n=l.length/\Ext w wr/\y=bS (l.take k)/\vf w wr o (gP (Gt (cw (l.take k)) a b)),⟨l.length,0,rfl,by omega,Ext.cE w,rfl,?_⟩,?_⟩
 ·have:Gt (cw (l.take 0)) a b=[]:=by simp [Gt,cw]
  rw [this];exact aC.nil
 rintro n us x y o wr ⟨k,rfl,hk,xr,rfl,ho⟩;have hw:=aK (n:=(k:Int)+1) (by unfold inI;omega);apply Br.mk<;>intro h<;>simp at h
 ·obtain ⟨r,hr⟩:=bI (l:=l) (i:=k) ab;have e:=og hr;have hr0:=hl r (bg hr);have b1:=kl hl k;have b2:=kl hl (k+1);have AQ:=aK (n:=bS (l.take k)+r.1) (by unfold inI;omega);have hc:((cw (l.take k)).length:Int)=bS (l.take k):=(eU λq hq=>hl q (List.mem_of_mem_take hq)).symm;have alQ:Gt (cw (l.take (k+1))) a b=Gt (cw (l.take k)) a b++List.replicate (min b (bS (l.take k)+r.1)-max a (bS (l.take k))).toNat r.2:=by rw [rW hr,YI _ _ _ _ _ ha hb];congr 2;omega
  refine ⟨kj.g9 hs ab,_,_,kj.ll (hs.ext xr) hr,?_⟩;rintro w9 rfl bO rfl;rw [AQ];have bh:=((xr.tr (Ext.al _ (.cells #[aa,aa] gz))).setRow xr.size #[r.1,r.2]);have e1:(if bS (l.take k)+r.1<b then bS (l.take k)+r.1 else b)=min b (bS (l.take k)+r.1):=by split<;>omega
  have e2:(if bS (l.take k)>a then bS (l.take k) else a)=max a (bS (l.take k)):=by split<;>omega
  rw [e1,e2];have hkeep:∀g,o.aX=some g->(((wr.alloc (.cells #[aa,aa] gz)).setRow wr.heap.size #[r.1,r.2]).drew).heap[g]? =wr.heap[g]? :=by intro g hg;have:=(ho.own.lt hg).2;show ((wr.alloc _).setRow wr.heap.size _).heap[g]? =_;rw [setRow_other _ _ _ _ ab];exact (Ext.al _ _).heap this
  have yW:=aC.c5 ho hkeep;have dI:(Gt (cw (l.take k)) a b).length<=1099511627776:=by have:=ago (cw (l.take k)) a b;omega
  apply Br.mk<;>intro h2<;>simp only [cQ,fa] at h2
  ·have Ol:=aK (n:=min b (bS (l.take k)+r.1)-max a (bS (l.take k))) (by unfold inI;omega);rw [Ol];refine (rq w o _ (min b (bS (l.take k)+r.1)-max a (bS (l.take k)),r.2) _ bh.drew.size yW dI (by show min b (bS (l.take k)+r.1)-max a (bS (l.take k))<=_;omega)).mono ?_;rintro e w' ⟨s',rfl,ho',x',N6⟩;refine ⟨s',rfl,N6 _ (λhb=>absurd (ho.own.lt hb).2 (Nat.lt_irrefl _)) (by simp [World.drew,World.setRow]),n-1,by omega,k+1,by omega,by omega,bh.drew.trans x',by omega,?_⟩;rw [alQ];exact ho'
  ·refine ⟨n-1,by omega,k+1,by omega,by omega,bh.drew,by omega,?_⟩;rw [alQ,show (min b (bS (l.take k)+r.1)-max a (bS (l.take k))).toNat=0 from by omega];simpa using yW
 ·obtain rfl:k=l.length:=by omega
  rw [iA] at ho;exact ⟨o,rfl,ho,xr⟩
theorem kY(s:Sl)(l:List Rn)(w:World)(hs:kj w s l)(hn:Bd l.length):
  ah 186 #[s] w λe w'=>∃s':Sl,e=s'/\vf w w' s' l/\Ext w w':=by
 have tR:=kj.len hs;unfold Bd at hn;apply zX.vc;apply Br.mk<;>intro h
 ·have:l=[]:=by
   rcases Nat.eq_zero_or_pos l.length with h0|h0
   ·exact List.eq_nil_of_length_eq_zero h0
   ·have:=RdK.isSome hs ab (i:=0) (by simpa using h0)
    cases hsa:s.a<;>simp [hsa] at h this
  subst this;exact ⟨⟨none,0,0⟩,rfl,aC.nil,Ext.cE w⟩
 ·rintro w0 rfl;have xa:=Ext.al w (.cells #[] gz);have hz:Go.Vc.Own w gz 2 (w.alloc (.cells #[] gz)) ⟨some ⟨w.heap.size,0,none⟩,0,0⟩ []:=.row w.heap.size 0 0 [] (aB _) (Row.new w [] gz) bB (aB _);have hf:(l.map rv).flatten.length=s.n*2:=by rw [bK hs.wd];simp [tR]
  have h1:One (l.map rv).flatten:=fN λr hr=>by obtain ⟨q,_,rfl⟩:=aZ.1 hr;exact zE _ _ _ _
  obtain ⟨hp,hr⟩:=hz.append (bytes:=16) (m:=s.n) (news:=(l.map rv).flatten) xa.size hf h1 (by simp;omega) (by simp;omega);refine ⟨(l.map rv).flatten,RdK.flat (hs.ext xa) ab,hp,λs2 w3 bw=> ?_⟩;obtain ⟨ho,SY,xb,_,_⟩:=hr s2 w3 bw;refine ⟨oW bw hf bB,s2,rfl,⟨by simpa using ho,hs.wd⟩,xa.trans xb⟩
theorem Ew(s:Sl)(ss:List Sl)(cs:List (List Int))(w:World)(hs:RdK w s 1 (ss.map λt=> [.slice t.a t.n t.c]))(dI:ss.length=cs.length)
  (hr:∀(i:Nat)(t:Sl)(c:List Int),ss[i]? =some t->cs[i]? =some c->kj w t (gP c))(hb:Bd ss.length)(hn:Bd cs.flatten.length):
  ah 318 #[s] w λe w'=>∃s':Sl,e=s'/\vf w w' s' (gP cs.flatten)/\Ext w w':=by
 have tR:s.n=ss.length:=by have:=hs.n;simpa using this
 unfold Bd at hn hb;apply Ug.vc;refine ⟨λn x o wr=>∃k:Nat,x=k/\k+n=ss.length/\Ext w wr/\vf w wr o (gP (cs.take k).flatten),⟨ss.length,0,rfl,by omega,Ext.cE w,aC.nil⟩,?_⟩;rintro n us x o wr ⟨k,rfl,hk,xr,ho⟩;have hw:=aK (n:=(k:Int)+1) (by unfold inI;omega);apply Br.mk<;>intro h<;>simp at h
 ·obtain ⟨t,ht⟩:=bI (l:=ss) (i:=k) ab;obtain ⟨c,hc⟩:=bI (l:=cs) (i:=k) ab;have hrt:=hr k t c ht hc;have htn:=kj.len hrt;have Ff:(cs.take (k+1)).flatten=(cs.take k).flatten++c:=by rw [dD,hc];simp
  have hle:(cs.take k).flatten.length+c.length<=cs.flatten.length:=by have e:=congrArg List.length (congrArg List.flatten (List.take_append_drop (k+1) cs));rw [List.flatten_append,Ff] at e;simp only [dm] at e;omega
  have hcl:=qT c;have jq:=hs.rd k [.slice t.a t.n t.c] (by rw [aU,ht];rfl) 0 _ rfl;refine ⟨RdK.g9 hs ab ab ab,t,xr.ld (by simpa using jq),?_⟩;refine ⟨λn x o wr=>∃j:Nat,x=j/\j+n=(gP c).length/\Ext w wr/\vf w wr o (gP ((cs.take k).flatten++cw ((gP c).take j))),⟨(gP c).length,0,rfl,by omega,xr,by simpa [cw] using ho⟩,?_⟩;rintro n2 wX x2 o2 w2 ⟨j,rfl,hj,x2,yW⟩;have AQ:=aK (n:=(j:Int)+1) (by unfold inI;omega);apply Br.mk<;>intro h2<;>simp at h2
  ·obtain ⟨r,hrr⟩:=bI (l:=gP c) (i:=j) ab;have hrm:=m8 (bg hrr);refine ⟨kj.g9 hrt ab,_,_,kj.ll (hrt.ext x2) hrr,?_⟩;rintro w9 rfl bO rfl;have bh:=((x2.tr (Ext.al _ (.cells #[aa,aa] gz))).setRow x2.size #[r.1,r.2]);have ho3:=aC.c5 (w':=(w2.alloc (.cells #[aa,aa] gz)).setRow w2.heap.size #[r.1,r.2]) yW (by
    intro g hg;have:=(yW.own.lt hg).2;rw [setRow_other _ _ _ _ ab];exact (Ext.al _ _).heap this)
   have JM:((cs.take k).flatten++cw ((gP c).take j)).length<=1099511627776:=by rw [dm];have h3:=kl (l:=gP c) (λq hq=>by have:=m8 hq;omega) j;rw [lT,eU λq hq=>by have:=m8 (List.mem_of_mem_take hq);omega] at h3;omega
   refine (rq w o2 _ r _ bh.size ho3 JM ab).mono ?_;rintro e w' ⟨s',rfl,ho',x',N6⟩;refine ⟨s',rfl,N6 _ (λhb=>absurd (yW.own.lt hb).2 (Nat.lt_irrefl _)) (by simp [World.setRow]),n2-1,by omega,j+1,by omega,by omega,bh.trans x',?_⟩;rw [rW hrr,<-gE];exact ho'
  ·obtain rfl:j=(gP c).length:=by omega
   refine ⟨n-1,by omega,k+1,by omega,by omega,x2,?_⟩;rw [iA,nA] at yW;rw [Ff];exact yW
 ·obtain rfl:k=ss.length:=by omega
  rw [dI,iA] at ho;exact ⟨o,rfl,ho,xr⟩
theorem E0(s:Sl)(c:List Int)(a b x:Int)(w:World)(hs:kj w s (gP c))(hn:Bd c.length)(ha:inI a)(hb:inI b):
  ah 309 #[s,a,b,x] w λe w'=>∃s':Sl,e=s'/\vf w w' s' (gP (if cN x then yj c a b x else c))/\Ext w w':=by
 have hl:Bd (gP c).length:=gj (qT c) hn;have hp:∀r ∈ gP c,0<=r.1:=λr hr=>by have:=m8 hr;omega
 have FI:bS (gP c)<=1099511627776:=by rw [lT];unfold Bd at hn;omega
 unfold Bd at hn;unfold inI at ha hb;apply Ue.vc;refine (pD s _ w hs hl hp FI).mono ?_;rintro e w1 ⟨rfl,x1⟩;rw [lT];refine ⟨_,rfl,(gw x w1).mono ?_⟩;rintro e w2 ⟨rfl,x2⟩;have bN:=x1.tr x2;have e1:(if ((c.length:Nat):Int)<(if 0>a then 0 else a) then ((c.length:Nat):Int) else (if 0>a then 0 else a))=min (max a 0) (c.length:Int):=by split<;>split<;>omega
 have e2:(if ((c.length:Nat):Int)<(if 0>b then 0 else b) then ((c.length:Nat):Int) else (if 0>b then 0 else b))=min (max b 0) (c.length:Int):=by split<;>split<;>omega
 rw [e1,e2];refine ⟨_,rfl,Br.mk (λh=> ?_) (λh=>Br.mk (λh2=> ?_) (λh2=> ?_))⟩
 ·simp at h;refine (kY s _ w2 (hs.ext bN) hl).mono ?_;rintro e w3 ⟨s',rfl,ho,x3⟩;refine ⟨s',rfl,s',rfl,?_,bN.tr x3⟩;rw [h];exact aC.low ho bN.size
 ·simp at h h2;refine (kY s _ w2 (hs.ext bN) hl).mono ?_;rintro e w3 ⟨s',rfl,ho,x3⟩;refine ⟨s',rfl,s',rfl,?_,bN.tr x3⟩;rw [h,if_pos rfl,P9 c a b x ab];exact aC.low ho bN.size
 ·replace h2:=my h2;have hm:cN x=true:=by simpa using h
  have hw:=aK (n:=min (max b 0) (c.length:Int)-min (max a 0) (c.length:Int)) (by unfold inI;omega);rw [hw];refine (vl s _ 0 (min (max a 0) (c.length:Int)) w2 (hs.ext bN) hl hp FI ab ab).mono ?_;rintro e w3 ⟨s1,rfl,o1,x3⟩;refine ⟨s1,rfl,(Ep (min (max b 0) (c.length:Int)-min (max a 0) (c.length:Int)) x w3 ab).mono ?_⟩;rintro e w4 ⟨s2,rfl,o2,x4⟩;refine ⟨s2,rfl,(vl s _ (min (max b 0) (c.length:Int)) c.length w4 (((hs.ext bN).ext x3).ext x4) hl hp FI ab ab).mono ?_⟩;rintro e w5 ⟨s3,rfl,o3,x5⟩;refine ⟨s3,rfl,?_⟩;rintro w6 rfl;have x6:=Ext.al w5 (.cells #[s1,s2,s3] 173);rw [nA] at o1 o3;have cO:=Row.new w5 [s1,s2,s3] 173;have gS:RdK (w5.alloc (.cells #[s1,s2,s3] 173)) ⟨some ⟨w5.heap.size,0,none⟩,3,3⟩ 1 ([s1,s2,s3].map λt=> [.slice t.a t.n t.c]):=by
   refine ⟨rfl,by simp,λi r hi j v hj=> ?_⟩;show ld _ (af (some ⟨w5.heap.size,0,none⟩) _)=_;rw [bf,cO.ld];rcases i with _|_|_|i<;>simp at hi
   all_goals subst hi
   all_goals rcases j with _|j<;>simp at hj
   all_goals subst hj;rfl
  refine (Ew _ [s1,s2,s3] [Gt c 0 (min (max a 0) (c.length:Int)),List.replicate (min (max b 0) (c.length:Int)-min (max a 0) (c.length:Int)).toNat x,Gt c (min (max b 0) (c.length:Int)) c.length] _ gS rfl ?_ bB ?_).mono ?_
  ·intro i t d ht hd;rcases i with _|_|_|i<;>simp at ht hd
   ·subst ht;subst hd;exact (((o1.ext x4).ext x5).ext x6).rd ab
   ·subst ht;subst hd;exact ((o2.ext x5).ext x6).rd ab
   ·subst ht;subst hd;exact (o3.ext x6).rd ab
  ·have e:=congrArg List.length (HI c a b x ab);rw [UP] at e;simp only [kf,List.flatten_nil,rS,dm] at e ⊢;unfold Bd;omega
  ·rintro e w7 ⟨s',rfl,ho,x7⟩;have xx:=(((bN.tr x3).tr x4).tr x5).tr x6;refine ⟨s',rfl,s',rfl,?_,xx.tr x7⟩;rw [if_pos hm,HI c a b x ab];have ho:=aC.low ho xx.size;simpa using ho
def VN(c:List Int)(i x:Int):List Int:=if cN x=true/\0<=i/\i<(c.length:Int) then c.set i.toNat x else c
theorem Gy(s:Sl)(c:List Int)(i x:Int)(w:World)(hs:kj w s (gP c))(hn:Bd c.length)(hi:inI i):
  ah 295 #[s,i,x] w λe w'=>∃s':Sl,e=s'/\vf w w' s' (gP (VN c i x))/\Ext w w':=by
 have hl:Bd (gP c).length:=gj (qT c) hn;have hp:∀r ∈ gP c,0<=r.1:=λr hr=>by have:=m8 hr;omega
 have FI:bS (gP c)<=1099511627776:=by rw [lT];unfold Bd at hn;omega
 have hi':=hi;have hn':=hn;unfold Bd at hn';unfold inI at hi';apply XY.vc;apply Br.mk<;>intro h<;>simp at h
 ·refine (kY s _ w hs hl).mono ?_;rintro e w3 ⟨s',rfl,ho,x3⟩;refine ⟨s',rfl,s',rfl,?_,x3⟩;unfold VN;rw [if_neg ab];exact ho
 ·refine (pD s _ w hs hl hp FI).mono ?_;rintro e w1 ⟨rfl,x1⟩;rw [lT];refine ⟨_,rfl,Br.mk (λh2=> ?_) (λh2=> ?_)⟩<;>simp at h2
  ·refine (kY s _ w1 (hs.ext x1) hl).mono ?_;rintro e w3 ⟨s',rfl,ho,x3⟩;refine ⟨s',rfl,s',rfl,?_,x1.tr x3⟩;unfold VN;rw [if_neg ab];exact aC.low ho x1.size
  ·have hw:=aK (n:=i+1) (by unfold inI;omega);rw [hw];refine (E0 s c i (i+1) x w1 (hs.ext x1) hn hi (by unfold inI;omega)).mono ?_;rintro e w3 ⟨s',rfl,ho,x3⟩;refine ⟨s',rfl,s',rfl,?_,x1.tr x3⟩;unfold VN;have:=aC.low ho x1.size;rw [UQ c i x h h2] at this
   cases hm:cN x
   ·rw [hm] at this;rw [if_neg bB];exact this
   ·rw [hm] at this;rw [if_pos ⟨rfl,h,h2⟩];exact this
theorem ZD(a b:Int):aj (aj a-b)=aj (a-b):=by unfold IntKind.wrap;simp only [IntKind.bits,IntKind.signed,Bool.true_and];split<;>split<;>split<;>simp_all<;>omega
theorem JH(s:Sl)(l:List Rn)(i:Int)(w:World)(hs:kj w s l)(hn:Bd l.length)(hl:∀r ∈ l,0<=r.1)(FI:bS l<=1099511627776)(hi:inI i):
  ah 194 #[s,i] w λe w'=>e=Value.int .i64 (atC (cw l) i)/\Ext w w':=by
 have tR:=kj.len hs;unfold Bd at hn;apply acw.vc;refine ⟨λn x y wr=>∃k:Nat,x=k/\k+n=l.length/\Ext w wr/\y=aj (i-bS (l.take k))/\(i<0\/bS (l.take k)<=i),⟨l.length,0,rfl,by omega,Ext.cE w,?_,?_⟩,?_⟩
 ·rw [show bS (l.take 0)=0 from rfl,Int.sub_zero,aK hi]
 ·rw [show bS (l.take 0)=0 from rfl];omega
 rintro n us x y wr ⟨k,rfl,hk,xr,rfl,mF⟩;have hw:=aK (n:=(k:Int)+1) (by unfold inI;omega);unfold inI at hi;have hc:∀k,((cw (l.take k)).length:Int)=bS (l.take k):=λk=>(eU λq hq=>hl q (List.mem_of_mem_take hq)).symm
 apply Br.mk<;>intro h<;>simp at h
 ·obtain ⟨r,hr⟩:=bI (l:=l) (i:=k) ab;have e:=og hr;have hr0:=hl r (bg hr);have b1:=kl hl k;have b2:=kl hl (k+1);refine ⟨kj.g9 hs ab,_,_,kj.ll (hs.ext xr) hr,?_⟩;rintro w9 rfl bO rfl;have bh:=((xr.tr (Ext.al _ (.cells #[aa,aa] gz))).setRow xr.size #[r.1,r.2]);have hwi:=YT (i-bS (l.take k));unfold inI at hwi;have aeu:i<0->(0<=aj (i-bS (l.take k))->aj (i-bS (l.take k))<r.1->False):=by intro h0 h1 h2;revert h1 h2;unfold IntKind.wrap;simp only [IntKind.bits,IntKind.signed,Bool.true_and];split<;>simp_all<;>omega
  have AL:0<=i->bS (l.take k)<=i->aj (i-bS (l.take k))=i-bS (l.take k):=λ_ _=>wI
  have nx:(i<0\/bS (l.take (k+1))<=i)->∃n6,n6<n/\∃k_1:Nat,aj ((k:Int)+1)=k_1/\k_1+n6=l.length/\Ext w ((wr.alloc (.cells #[aa,aa] gz)).setRow wr.heap.size #[r.1,r.2])/\
    aj (aj (i-bS (l.take k))-r.1)=aj (i-bS (l.take k_1))/\(i<0\/bS (l.take k_1)<=i):=
   λhh=>⟨n-1,by omega,k+1,by omega,by omega,bh,by rw [ZD,e,Int.sub_sub],hh⟩
  refine Br.mk (λh1=>Br.mk (λh2=> ?_) (λh2=> ?_)) (λh1=> ?_)<;>simp only [cQ,fa] at*
  ·rcases Int.lt_or_le i 0 with h0|h0
   ·exact (aeu h0 h1 h2).elim
   ·have hle:bS (l.take k)<=i:=by omega
    have:=AL h0 hle;have ht:l=l.take k++ [r]++l.drop (k+1):=by have:=List.take_append_drop (k+1) l;rw [dD,hr] at this;exact this.symm
    refine ⟨?_,bh⟩;have hcell:cw l=cw (l.take k)++List.replicate r.1.toNat r.2++cw (l.drop (k+1)):=by rw [<-iI r,<-gM,<-gM,<-ht]
    rw [hcell,agn _ _ _ _ _ (by rw [hc];exact hle) (by rw [hc];omega)]
  ·refine nx ?_;rcases Int.lt_or_le i 0 with h0|h0
   ·exact .inl h0
   ·have:=AL h0 ab;right;omega
  ·refine nx ?_;rcases Int.lt_or_le i 0 with h0|h0
   ·exact .inl h0
   ·have:=AL h0 ab;omega
 ·obtain rfl:k=l.length:=by omega
  refine ⟨?_,xr⟩;have:=hc l.length;rw [iA] at this mF;rw [acX _ _ ab]
theorem VO(may:Int->Bool)(prev:Option Int)(left:Int)(r:Rn)(t:List Rn):uN may prev left (r::t)=if r.1<1\/r.1>left\/may r.2=false\/prev=some r.2 then false else uN may (some r.2) (left-r.1) t:=rfl
theorem vr(s:Sl)(l:List Rn)(m:Int)(w:World)(hs:kj w s l)(hn:Bd l.length)(hm:inI m):
  ah 185 #[s,m] w λe w'=>e=Value.bool (qW cN l m)/\Ext w w':=by
 have tR:=kj.len hs;unfold Bd at hn;unfold inI at hm;apply X0.vc;have hprev:∀k,k<l.length->(l.take k).getLast? =if k=0 then none else l[k-1]? :=by
  intro k hk;rw [List.getLast?_eq_getElem?,List.getElem?_take,du,Nat.min_eq_left ab];rcases Nat.eq_zero_or_pos k with rfl|h0
  ·simp
  ·rw [if_pos ab,if_neg ab]
 refine ⟨λn x y wr=>∃k:Nat,x=k/\k+n=l.length/\Ext w wr/\y<=max m 0/\(min m 0<=y)/\uN cN ((l.take k).getLast?.map (·.2)) y (l.drop k)=uN cN none m l,⟨l.length,0,rfl,by omega,Ext.cE w,by omega,by omega,rfl⟩,?_⟩;rintro n us x y wr ⟨k,rfl,hk,xr,hy,hy0,heq⟩;have hw:=aK (n:=(k:Int)+1) (by unfold inI;omega);apply Br.mk<;>intro h<;>simp at h
 ·obtain ⟨r,hr⟩:=bI (l:=l) (i:=k) ab;have hd:l.drop k=r::l.drop (k+1):=by
   rw [List.drop_eq_getElem_cons ab];rw [cZ ab] at hr
   cases hr;rfl
  rw [hd] at heq;rw [VO] at heq;refine ⟨kj.g9 hs ab,_,_,kj.ll (hs.ext xr) hr,?_⟩;rintro w9 rfl bO rfl;have bh:=((xr.tr (Ext.al _ (.cells #[aa,aa] gz))).setRow xr.size #[r.1,r.2]).drew;have fin:∀w',Ext w w'->(r.1<1\/r.1>y\/cN r.2=false\/(l.take k).getLast?.map (·.2)=some r.2)->Ending.returned (.bool false)=Value.bool (qW cN l m)/\Ext w w':=by intro w' x' hh;rw [if_pos hh] at heq;refine ⟨?_,x'⟩;unfold qW;rw [<-heq];simp
  refine Br.mk (λh1=> ?_) (λh1=>Br.mk (λh2=> ?_) (λh2=> ?_))<;>simp only [cQ,fa] at*
  ·exact fin _ bh (.inl h1)
  ·exact fin _ bh (.inr (.inl h2))
  ·refine (gw r.2 _).mono ?_;rintro e w3 ⟨rfl,x3⟩;have x4:=bh.tr x3;have cO:Row ((wr.alloc (.cells #[aa,aa] gz)).setRow wr.heap.size #[r.1,r.2]).drew wr.heap.size [r.1,r.2] gz:=(Row.new wr [aa,aa] gz).set [r.1,r.2];have hrow3:=cO.ext x3;have hkeep:=x3.heap cO.lt;have hll:ag w3 (some ⟨wr.heap.size,0,none⟩) 0 [r.1]:=by
    refine hrow3.bZ (o:=0) λj hj=> ?_
    have:j=0:=by simpa using hj
    subst this;rfl
   have nx:((l.take k).getLast?.map (·.2)≠some r.2)->cN r.2=true->∃n6,n6<n/\∃k_1:Nat,aj ((k:Int)+1)=k_1/\k_1+n6=l.length/\Ext w w3/\aj (y-r.1)<=max m 0/\min m 0<=aj (y-r.1)/\uN cN ((l.take k_1).getLast?.map (·.2)) (aj (y-r.1)) (l.drop k_1)=uN cN none m l:=by
    intro iM hbm;have hwy:=aK (n:=y-r.1) (by unfold inI;omega);refine ⟨n-1,by omega,k+1,by omega,by omega,x4,by omega,by omega,?_⟩;rw [hwy];rw [if_neg (by
     rintro (h|h|h|h)
     ·omega
     ·omega
     ·rw [hbm] at h;cases h
     ·exact iM h)] at heq
    rw [<-heq,dD,hr];simp
   refine ⟨_,rfl,hkeep,hll,hll,Br.mk (λh3=> ?_) (λh3=> ?_)⟩
   ·exact fin _ x4 (.inr (.inr (.inl (by simpa using h3))))
   ·have hbm:cN r.2=true:=by simpa using h3
    apply Br.mk<;>intro h4<;>simp at h4
    ·have Ta:=aK (n:=(k:Int)-1) (by unfold inI;omega);rw [Ta];obtain ⟨q,hq⟩:=bI (l:=l) (i:=k-1) ab;have oq:=kj.g9 hs (i:=k-1) ab;rw [show ((k-1:Nat):Int)=(k:Int)-1 from by omega] at oq;have hcq:=kj.c1 (hs.ext x4) hq;have Nz:=kj.some hs (i:=k-1) ab;rw [show ((k:Int)-1).toNat=k-1 from by omega];have hlast:=hprev k ab;rw [if_neg ab,hq] at hlast;refine ⟨oq,CK.2 ⟨Nz,_,hcq,Br.mk (λh5=> ?_) (λh5=> ?_)⟩⟩
     ·exact fin _ x4 (.inr (.inr (.inr (by rw [hlast];simpa using h5))))
     ·exact nx (by rw [hlast];simpa using h5) hbm
    ·refine nx ?_ hbm;have:k=0:=by omega
     subst this;simp
 ·obtain rfl:k=l.length:=by omega
  rw [List.drop_length] at heq;apply Br.mk<;>intro h1<;>simp at h1
  ·refine ⟨?_,xr⟩;unfold qW;rw [<-heq,decide_eq_true h1];rfl
  ·refine ⟨?_,xr⟩;unfold qW;rw [decide_eq_false ab];rfl
open Go.Code
abbrev hX:TypeId:=5
abbrev yv(b:Int):LV:=[.int .u8 b]
abbrev jf(w:World)(s:Sl)(b:List Int):Prop:=RdK w s 1 (b.map yv)
abbrev mA(B:Nat)(w:World)(s:Sl)(b:List Int):Prop:=aC B hX 1 w s (b.map yv)
abbrev InY(b:List Int):Prop:=∀c ∈ b,0<=c/\c<256
theorem mA.FZ{B:Nat}{w:World}{s:Sl}{c:List Int}(h:mA B w s c):jf w s c:=aC.rd h ab
theorem jf.len{w:World}{s:Sl}{c:List Int}(h:jf w s c):s.n=c.length:=by have:=h.n;simpa using this
theorem jf.c0{w:World}{s:Sl}{l:List Int}(h:jf w s l){i:Nat}{b:Int}(hi:l[i]? =some b):ld w (af s.a (i*1))=some (.int .u8 b):=by have:=h.rd i (yv b) (by rw [aU,hi];rfl) 0 _ rfl;simpa using this
theorem jf.g9{w:World}{s:Sl}{l:List Int}(h:jf w s l){i:Nat}(hi:i<l.length):eo s.a (i:Int) s.n:=RdK.g9 h ab ab (by have:=jf.len h;omega)
theorem AD(n:Int)(w:World)(hi:inI n):
  ah 254 #[n] w λe w'=>∃s:Sl,e=s/\mA w w' s (pr n)/\Ext w w':=by
 apply Lj.vc;refine Br.mk (λh=> ?_) (λh=>Br.mk (λh2=> ?_) (λh2=> ?_))<;>simp only [cQ,fa] at*
 ·exact ⟨⟨none,0,0⟩,rfl,by unfold pr;rw [if_pos (.inl h)];exact aC.nil,Ext.cE w⟩
 ·exact ⟨⟨none,0,0⟩,rfl,by unfold pr;rw [if_pos (.inr h2)];exact aC.nil,Ext.cE w⟩
 have e0:pr n=uH 3 n:=by unfold pr;rw [if_neg ab]
 rw [e0];refine ⟨λm x o wr=>∃(k:Nat)(b:List Int),k=m/\1<=k/\k<=3/\0<=x/\x<128 ^ k/\b.length+k=3/\Ext w wr/\mA w wr o b/\b++uH k x=uH 3 n,⟨3,3,[],rfl,by omega,by omega,by omega,by omega,rfl,Ext.cE w,aC.nil,rfl⟩,?_⟩;rintro m us x o wr ⟨k,b,rfl,k1,k3,hx0,hx,JO,xr,ho,heq⟩;have ZS:=jf.len (mA.FZ ho);apply Br.mk<;>intro h3<;>simp only [cQ,fa] at h3
 ·obtain ⟨j,rfl⟩:∃j,k=j+1:=⟨k-1,by omega⟩;rintro w7 rfl;rw [aju x hx0];obtain ⟨hp,bw⟩:=aC.iO ho (bytes:=1) (news:=yv (128+x % 128)) (.cells #[.int .u8 (128+x % 128)] hX) xr.size rfl (te _ _) ab ab;refine ⟨hp,λFi dG hr'=> ?_⟩;obtain ⟨k1',ho',_,xb,_,_⟩:=bw Fi dG hr';have ar4:x.fdiv (2 ^(min (7:Int).toNat 64))=x / 128:=by rw [show ((2:Int) ^(min (7:Int).toNat 64))=128 from by decide];exact rT _ ab
  rw [ar4];have hj:1<=j:=by
   rcases Nat.eq_zero_or_pos j with rfl|h
   ·simp at hx;omega
   ·exact h
  refine ⟨k1',j,by omega,j,b++ [128+x % 128],rfl,hj,by omega,by omega,?_,by simp;omega,xr.trans xb,?_,?_⟩
  ·rw [Int.pow_succ] at hx;omega
  ·show aC _ _ 1 _ _ ((b++ [128+x % 128]).map yv);rw [bU];exact ho'
  ·rw [<-heq];show _=b++(if x<128 then [x] else (128+x % 128)::uH j (x / 128));rw [if_neg ab];simp
 ·rintro w7 rfl;have hwx:eY x=x:=by rw [wrap_u8];omega
  rw [hwx];obtain ⟨hp,bw⟩:=aC.iO ho (bytes:=1) (news:=yv x) (.cells #[.int .u8 x] hX) xr.size rfl (te _ _) ab ab;refine ⟨hp,λFi dG hr'=> ?_⟩;obtain ⟨k1',ho',_,xb,_,_⟩:=bw Fi dG hr';refine ⟨k1',Fi,rfl,?_,xr.trans xb⟩;rw [<-heq];obtain ⟨j,rfl⟩:∃j,k=j+1:=⟨k-1,by omega⟩;show aC _ _ 1 _ _ ((b++(if x<128 then [x] else (128+x % 128)::uH j (x / 128))).map yv);rw [if_pos ab,bU];exact ho'
theorem drop_cons{α:Type}{l:List α}{k:Nat}{c:α}(h:l[k]? =some c):l.drop k=c::l.drop (k+1):=by obtain ⟨h1,h2⟩:=cG.1 h;rw [List.drop_eq_getElem_cons h1,h2]
theorem At(s:Sl)(b:List Int)(w:World)(hs:jf w s b)(hb:InY b)(hc:s.n<=s.c):
  ah 184 #[s] w λe w'=>e=Value.tuple #[.int .i64 (fh b).1,.int .i64 (fh b).2.1,.int .i64 (fh b).2.2]/\w'=w:=by
 have hn:=jf.len hs;apply Lf.vc;have em:(if 3<((s.n:Nat):Int) then 3 else ((s.n:Nat):Int))=((min 3 s.n:Nat):Int):=by split<;>omega
 rw [em];refine ⟨by omega,by omega,?_⟩;refine ⟨λn x y wr=>∃k:Nat,x=k/\k+n=min 3 s.n/\wr=w/\0<=y/\y<128 ^ k/\qV (3-k) k y (b.drop k)=fh b,⟨min 3 s.n,0,rfl,by omega,rfl,by omega,by omega,rfl⟩,?_⟩;rintro n us x y wr ⟨k,rfl,hk,rfl,y0,y1,heq⟩;have hw:=aK (n:=(k:Int)+1) (by unfold inI;omega);apply Br.mk<;>intro h<;>simp only [cQ,fa] at h
 ·obtain ⟨c,hcb⟩:=bI (l:=b) (i:=k) ab;have hci:=hb c (bg hcb);rw [drop_cons hcb,show 3-k=(2-k)+1 from by omega,xN] at heq;have oq:=jf.g9 hs (i:=k) ab;obtain ⟨o1,o2⟩:=af2 k ab y c y0 y1 hci.1 hci.2;have hp:=XM k y c y1;have hp0:0<=(128:Int) ^ k:=Int.pow_nonneg ab;have hm0:0<=c % 128*128 ^ k:=Int.mul_nonneg ab hp0;refine ⟨⟨?_,by omega,by omega⟩,c,?_,?_⟩
  ·have:=oq.1;unfold aJ;split
   ·exact this
   ·rw [Option.isSome_map];exact this
  ·rw [lN];exact jf.c0 hs hcb
  ·rw [o1,hw];refine ab2.2 ⟨o2,?_⟩;apply Br.mk<;>intro h1<;>simp only [cQ,fa] at h1
   ·rw [if_pos h1] at heq;exact ⟨n-1,by omega,k+1,by omega,by omega,rfl,by omega,hp,by rw [show 3-(k+1)=2-k from by omega];exact heq⟩
   ·rw [if_neg h1] at heq;refine Br.mk (λh2=>Br.mk (λh3=> ?_) (λh3=>Br.mk (λh4=> ?_) (λh4=> ?_))) (λh2=>Br.mk (λh4=> ?_) (λh4=> ?_))<;>simp only [cQ,fa,beq_iff_eq,beq_eq_false_iff_ne] at*
    ·rw [if_pos (.inl ⟨h2,by omega⟩)] at heq;exact ⟨by rw [<-heq],by first|rfl|trivial⟩
    ·rw [if_pos (.inr h4)] at heq;exact ⟨by rw [<-heq],by first|rfl|trivial⟩
    ·rw [if_neg ab] at heq;exact ⟨by rw [<-heq],by first|rfl|trivial⟩
    ·rw [if_pos (.inr h4)] at heq;exact ⟨by rw [<-heq],by first|rfl|trivial⟩
    ·rw [if_neg ab] at heq;exact ⟨by rw [<-heq],by first|rfl|trivial⟩
 ·have hkm:k=min 3 s.n:=by omega
  apply Br.mk<;>intro h2<;>simp only [cQ,fa] at h2
  ·have:b.drop k=[]:=List.drop_eq_nil_of_le ab;rw [this,show 3-k=(2-k)+1 from by omega] at heq;exact ⟨by rw [<-heq];rfl,by first|rfl|trivial⟩
  ·rw [show 3-k=0 from by omega] at heq;exact ⟨by rw [<-heq];rfl,by first|rfl|trivial⟩
abbrev aeV(B:Nat)(l:List Rn)(e:Ending)(w':World):Prop:=
 ∃s:Sl,e=Value.tuple #[s,.int .i64 (if okW cN l then 0 else 1)]/\mA B w' s (if okW cN l then qS l else [])
theorem Vz(left:Int)(r:Rn)(t:List Rn):DN left (r::t)=if r.1<1\/r.1>left then false else DN (left-r.1) t:=rfl
theorem B4(s:Sl)(l:List Rn)(w:World)(hs:kj w s l)(hb:l.length<=2000000)(hl:∀r ∈ l,inI r.1/\inI r.2):
  ah 190 #[s] w λe w'=>aeV w l e w'/\Ext w w':=by
 have tR:=kj.len hs;apply PK.vc;refine ⟨λn x y wr=>∃k:Nat,x=k/\k+n=l.length/\Ext w wr/\0<=y/\y<=1048576/\y=1048576-bS (l.take k)/\DN y (l.drop k)=DN 1048576 l,⟨l.length,0,rfl,by omega,Ext.cE w,by omega,by omega,rfl,rfl⟩,?_⟩;rintro n us x y wr ⟨k,rfl,hk,xr,y0,y1,hy,heq⟩;have hw:=aK (n:=(k:Int)+1) (by unfold inI;omega);apply Br.mk<;>intro h<;>simp only [cQ,fa] at h
 ·obtain ⟨r,hr⟩:=bI (l:=l) (i:=k) ab;have hd:=drop_cons hr;rw [hd,Vz] at heq;refine ⟨kj.g9 hs ab,_,_,kj.ll (hs.ext xr) hr,?_⟩;rintro w9 rfl bO rfl;have bh:=((xr.tr (Ext.al _ (.cells #[aa,aa] gz))).setRow xr.size #[.int .i64 r.1,.int .i64 r.2]);have bad:∀w',Ext w w'->(r.1<1\/r.1>y)->aeV w l (.returned (.tuple #[.slice none 0 0,(1:Int)])) w'/\Ext w w':=by
   intro w' x' hh;rw [if_pos hh] at heq;have:okW cN l=false:=by unfold okW;rw [<-heq];rfl
   exact ⟨⟨⟨none,0,0⟩,by rw [this];rfl,by rw [this];exact aC.nil⟩,x'⟩
  refine Br.mk (λh1=> ?_) (λh1=>Br.mk (λh2=> ?_) (λh2=> ?_))<;>simp only [cQ,fa] at h1
  ·exact bad _ bh (.inl h1)
  ·replace h2:=mh h2;have uP:=hl r (bg hr);unfold inI at uP;have AQ:=aK (n:=y-r.1) (by unfold inI;omega);exact bad _ bh (.inr ab)
  ·replace h2:=my h2;have uP:=hl r (bg hr);unfold inI at uP;have AQ:=aK (n:=y-r.1) (by unfold inI;omega);rw [if_neg ab] at heq;have e:=og hr;refine ⟨n-1,by omega,k+1,by omega,by omega,bh,by omega,by omega,by omega,?_⟩;rw [<-heq,AQ]
 ·have J0:k=l.length:=by omega
  subst J0;rw [List.drop_length] at heq;rw [iA] at hy;have amK:DN 1048576 l=true:=by rw [<-heq];rfl
  have AL:=(KV amK).1;refine (pD s l wr (hs.ext xr) (by unfold Bd;omega) (λr hr=>by have:=AL r hr;omega) ab).mono ?_;rintro e w0 ⟨rfl,x0⟩;refine ⟨_,rfl,(vr s l (bS l) w0 ((hs.ext xr).ext x0) (by unfold Bd;omega) (by unfold inI;omega)).mono ?_⟩;rintro e w1 ⟨rfl,x1⟩;have bt:okW cN l=qW cN l (bS l):=by unfold okW;rw [amK];rfl
  have jT:=(xr.tr x0).tr x1;refine ⟨_,rfl,Br.mk (λh2=> ?_) (λh2=> ?_)⟩
  ·have:okW cN l=false:=by rw [bt];simpa using h2
   exact ⟨⟨⟨none,0,0⟩,by rw [this];rfl,by rw [this];exact aC.nil⟩,jT⟩
  ·have amL:okW cN l=true:=by rw [bt];simpa using h2
   refine ⟨λn x o wr=>∃k:Nat,x=k/\k+n=l.length/\Ext w wr/\mA w wr o (qS (l.take k)),⟨l.length,0,rfl,by omega,jT,aC.nil⟩,?_⟩;rintro n2 wX x2 o w2 ⟨j,rfl,hj,x2,ho⟩;have hwj:=aK (n:=(j:Int)+1) (by unfold inI;omega);apply Br.mk<;>intro h<;>simp only [cQ,fa] at h
   ·obtain ⟨r,hr⟩:=bI (l:=l) (i:=j) ab;have uP:=hl r (bg hr);have ZS:=jf.len (mA.FZ ho);have hol:=RR (l.take j);rw [du] at hol;refine ⟨kj.g9 hs ab,_,_,kj.ll (hs.ext x2) hr,?_⟩;rintro fZ rfl cU aiB fi rfl;have dQ:Ext w cU:=by rw [aiB];exact ((x2.tr (Ext.al _ (.cells #[aa,aa] gz))).setRow x2.size #[.int .i64 r.1,.int .i64 r.2])
    have cO:Row cU w2 [.int .i64 r.1,.int .i64 r.2] gz:=by rw [aiB];exact (Row.new w2 [aa,aa] gz).set [.int .i64 r.1,.int .i64 r.2]
    have WM:mA w cU.drew o (qS (l.take j)):=by refine aC.ext (aC.c5 ho (w':=cU) ?_) (Ext.dr _);intro g hg;have:=(ho.own.lt hg).2;rw [aiB,setRow_other _ _ _ _ ab];exact (Ext.al _ _).heap this
    have hlt25:=cO.lt;have xd:=dQ.drew;have hrowd:=cO.ext (Ext.dr cU);have hz:=lG cU;rw [wrap_u8];obtain ⟨hp,bw⟩:=aC.iO WM (bytes:=1) (news:=yv (r.2 % 256)) (.cells #[.int .u8 (r.2 % 256)] hX) xd.size rfl (te _ _) ab ab;refine ⟨hp,λS5 gN hr'=> ?_⟩;obtain ⟨k1,ho',hn',xb,N6,JO⟩:=bw S5 gN hr';have g7:Ext w gN:=xd.trans xb;have uQ:o.aX≠some w2.heap.size:=λhb=>absurd (ho.own.lt hb).2 (Nat.lt_irrefl _)
    have amM:gN.heap[w2.heap.size]? =cU.drew.heap[w2.heap.size]? :=N6 _ uQ ab;have hrow28:=hrowd.same amM;have hlt28:=hrow28.lt;have hlt28':cU.drew.heap.size<gN:=by have e:(cU.drew.alloc (.cells #[.int .u8 (r.2 % 256)] hX)).heap[cU.drew.heap.size]? =some (.cells #[.int .u8 (r.2 % 256)] hX (0,0)):=Row.new cU.drew [.int .u8 (r.2 % 256)] hX;rw [<-k1] at e;exact (rP.1 e).1
    have ll0:∀{w'},Row w' w2 [.int .i64 r.1,.int .i64 r.2] gz->ag w' (some ⟨w2.heap.size,0,none⟩) 0 [.int .i64 r.1]:=λhh=>hh.bZ (o:=0) λj hj=>by
     have:j=0:=by simpa using hj
     subst this;rfl
    have ll1:∀{w'},Row w' w2 [.int .i64 r.1,.int .i64 r.2] gz->ag w' (some ⟨w2.heap.size,1,none⟩) 0 [.int .i64 r.2]:=λhh=>hh.bZ (o:=1) λj hj=>by
     have:j=0:=by simpa using hj
     subst this;rfl
    refine ⟨?_,k1,ll0 hrow28,ll1 hrow28,(AD r.1 gN uP.1).mono ?_⟩
    ·rw [amM];symm;exact (Ext.al _ _).heap ab
    rintro e dR ⟨sn,rfl,on,gd⟩;have hnn:=jf.len (mA.FZ on);have Wf:=KX r.1;have hrow29:=hrow28.ext gd;refine ⟨sn,rfl,gd.heap hlt28,gd.heap hlt28',ll1 hrow29,((pr r.1).map yv).flatten,RdK.flat (mA.FZ on) ab,?_⟩;have ho3:aC w hX 1 dR S5 _:=aC.ext ho' gd;obtain ⟨WE,hres2⟩:=aC.FY ho3 (bytes:=1) (more:=(pr r.1).map yv) (g7.tr gd).size bB (by intro q hq;obtain ⟨c,_,rfl⟩:=aZ.1 hq;exact te _ _) (by simp;omega) (by simp;omega);rw [aN] at WE hres2;rw [hnn];refine ⟨WE,λoL eM pP=> ?_⟩;obtain ⟨ho4,_,xb2,Fb,_⟩:=hres2 oL eM pP;have iM:S5.aX≠some w2.heap.size:=by
     rcases JO with h|h
     ·rw [h];exact uQ
     ·rw [h];intro hb;simp at hb;omega
    have hne2:S5.aX≠some cU.drew.heap.size:=by
     rcases JO with h|h
     ·rw [h];intro hb;exact absurd (WM.own.lt hb).2 (Nat.lt_irrefl _)
     ·rw [h];intro hb;simp at hb
    have amN:=Fb _ iM (j6 hlt28 gd.size);refine ⟨amN,Fb _ hne2 (j6 hlt28' gd.size),ll1 (hrow29.same amN),n2-1,by omega,j+1,by omega,by omega,(g7.tr gd).trans xb2,?_⟩;rw [XN hr];show aC _ _ 1 _ _ ((qS (l.take j)++(r.2 % 256::pr r.1)).map yv);rw [bU,eP];have:=ho4;rw [gE] at this;exact this
   ·have:j=l.length:=by omega
    subst this;rw [iA] at ho;exact ⟨⟨o,by rw [amL];rfl,by rw [amL];exact ho⟩,x2⟩
theorem Xy(b:List Int):∀r ∈ b.map yv,One r:=by intro q hq;obtain ⟨c,_,rfl⟩:=aZ.1 hq;exact te _ _
abbrev ZE(B:Nat)(p:List Rn × Int)(e:Ending)(w':World):Prop:=
 ∃s:Sl,e=Value.tuple #[s,p.2]/\vf B w' s p.1
theorem wG(may:Int->Bool)(f:Nat)(c:Int)(t:List Int)(n last:Int)(acc:List Rn):mM may (f+1) (c::t) n last acc=
  if may c=false\/c=last then ([],2)
  else if (fh t).2.2≠0 then ([],(fh t).2.2)
  else if (fh t).1=0\/(fh t).1>n then ([],2)
  else if n-(fh t).1=0 then (if t.drop (fh t).2.1.toNat=[] then (acc++ [((fh t).1,c)],0) else ([],2))
  else mM may f (t.drop (fh t).2.1.toNat) (n-(fh t).1) c (acc++ [((fh t).1,c)]):=rfl
theorem ZF{B:Nat}{p:List Rn × Int}{q:Int}{w':World}(h:p=([],q)):ZE B p (.returned (.tuple #[.slice none 0 0,q])) w':=by subst h;exact ⟨⟨none,0,0⟩,rfl,aC.nil⟩
theorem E3{may:Int->Bool}:∀(f g:Nat)(b:List Int) {n last:Int} {acc:List Rn} (_:b.length<f) (_:b.length<g),mM may f b n last acc=mM may g b n last acc
 |0,_,_,_,_,_,h,_=>by omega
 |_+1,0,_,_,_,_,_,h=>by omega
 |f+1,g+1,[],_,_,_,_,_=>rfl
 |f+1,g+1,c::t,n,last,acc,h1,h2=>by
  rw [wG,wG]
  have hd:=CO 3 0 0 t ab
  rw [show qV 3 0 0 t=fh t from rfl] at hd
  simp only [dt] at h1 h2
  rw [E3 f g (t.drop (fh t).2.1.toNat) (by rw [List.length_drop];omega) (by rw [List.length_drop];omega)]
theorem E4(s:Sl)(b:List Int)(n:Int)(w:World)(hs:jf w s b)(hb:InY b)(hc:s.n<=s.c)(hl:b.length<=1099511627776)(hn:1<=n)(hn':inI n):
  ah 134 #[s,n] w λe w'=>ZE w (ja cN b n) e w'/\Ext w w':=by
 unfold inI at hn';apply T9.vc;refine ⟨λm s3 last left o wr=>∃(b':List Int)(acc:List Rn),m=b'.length/\jf w s3 b'/\s3.n<=s3.c/\InY b'/\acc.length+b'.length<=b.length/\1<=left/\left<=n/\Ext w wr/\vf w wr o acc/\mM cN (b'.length+1) b' left last acc=ja cN b n,⟨b.length,b,[],rfl,hs,hc,hb,by simp,hn,by omega,Ext.cE w,aC.nil,rfl⟩,?_⟩;rintro m us s3 last left o wr ⟨b',acc,rfl,h3,h3c,hb',atd,hl1,JM,xr,ho,heq⟩;have hn3:=jf.len h3;apply Br.mk<;>intro h<;>simp only [cQ,fa] at h
 ·obtain ⟨c,t,rfl⟩:∃c t,b'=c::t:=by
   cases b' with
   |nil=>simp at hn3;omega
   |cons c t=>exact ⟨c,t,rfl⟩
  have hci:=hb' c (.head _);have htI:InY t:=λq hq=>hb' q (.tail _ hq)
  simp only [dt] at hn3 atd;rw [wG] at heq;have hwc:=aK (n:=c) (by unfold inI;omega);have hrt:jf wr ⟨aJ s3.a 1 s3.n 1,s3.n-1,s3.n-1⟩ t:=by have:=RdK.rest (h3.ext xr) (l:=1) (m:=s3.n) (n':=s3.n-1) (c':=s3.n-1) (by rw [aN,dt];omega) (λe=>by rw [aN,dt];omega);exact this
  refine ⟨jf.g9 h3 (i:=0) bB,c,jf.c0 (h3.ext xr) (i:=0) rfl,?_⟩;rw [hwc];rintro bO rfl aY Ro;have bC:Ext w aY:=by rw [Ro];exact ((xr.tr (Ext.al _ (.cells #[aa,aa] gz))).setRow xr.size #[aa,.int .i64 c])
  have amB:Ext wr aY:=by rw [Ro];exact ((Ext.al wr (.cells #[aa,aa] gz)).setRow (aB _) #[aa,.int .i64 c])
  have cO:Row aY wr [aa,.int .i64 c] gz:=by rw [Ro];exact (Row.new wr [aa,aa] gz).set [aa,.int .i64 c]
  have bad:∀{q:Int} {w':World},Ext w w'->ja cN b n=([],q)->ZE w (ja cN b n) (.returned (.tuple #[.slice none 0 0,.int .i64 q])) w'/\Ext w w':=λx' e=>⟨ZF e,x'⟩
  refine (gw c aY).mono ?_;rintro e cR ⟨rfl,bN⟩;have jm:=bC.tr bN;have hrow12:=cO.ext bN;refine ⟨_,rfl,bN.heap cO.lt,Br.mk (λh1=> ?_) (λh1=>Br.mk (λh2=> ?_) (λh2=> ?_))⟩
  ·refine bad jm ?_;rw [<-heq,if_pos (.inl (by simpa using h1))]
  ·refine bad jm ?_;rw [<-heq,if_pos (.inr (by simpa using h2))]
  have hm:cN c=true:=by simpa using h1
  have hl':c≠last:=by simpa using h2
  rw [if_neg (by rw [hm];simp [hl'])] at heq;refine ⟨by omega,by omega,by omega,by omega,by omega,by omega,?_⟩;refine (At ⟨aJ s3.a 1 s3.n 1,s3.n-1,s3.n-1⟩ t cR ((hrt.ext amB).ext bN) htI (aB _)).mono ?_;rintro e bP ⟨rfl,rfl⟩;have amC:=CO 3 0 0 t ab;rw [show qV 3 0 0 t=fh t from rfl] at amC;generalize fh t=d at*;obtain ⟨sz,kk,er⟩:=d;simp only at*;refine ⟨_,_,_,rfl,(by first|rfl|trivial),Br.mk (λh3'=> ?_) (λh3'=> ?_)⟩
  ·refine bad jm ?_;rw [<-heq,if_pos (by simpa using h3')]
  have her:er=0:=by simpa using h3'
  subst her;have hd:=amC rfl;rw [if_neg bB] at heq;refine Br.mk (λh4=> ?_) (λh4=>Br.mk (λh5=> ?_) (λh5=> ?_))<;>simp only [beq_iff_eq,beq_eq_false_iff_ne,cQ,fa] at h4
  ·refine bad jm ?_;rw [<-heq,if_pos (.inl h4)]
  ·replace h5:=mh h5;refine bad jm ?_;rw [<-heq,if_pos (.inr h5)]
  replace h5:=my h5;rw [if_neg ab] at heq;have hwl:=aK (n:=left-sz) (by unfold inI;omega);have Ta:=aK (n:=1+kk) (by unfold inI;omega);rw [hwl,Ta];rintro dG abj;have cp:Ext w dG:=by rw [abj];exact jm.setRow xr.size _
  have aeg:vf w bP o acc:=aC.ext ho (amB.tr bN);have amD:vf w dG.drew o acc:=by refine aC.ext (aC.c5 aeg (w':=dG) ?_) (Ext.dr _);intro g hg;have:=(ho.own.lt hg).2;rw [abj,setRow_other _ _ _ _ ab]
  have hlt18:wr.heap.size<dG:=by rw [abj,setRow_size];exact hrow12.lt
  have xd:=cp.drew;have hz:=lG dG;have ZS:=kj.len amD.FL;refine ⟨by omega,by omega,?_⟩;rintro fP rfl;obtain ⟨hp,bw⟩:=aC.iO amD (bytes:=16) (news:=rv (sz,c)) (.cells #[sz,.int .i64 c] gz) xd.size rfl (zE _ _ _ _) ab ab;refine ⟨hp,λuB eK hr'=> ?_⟩;obtain ⟨k1,ho',_,xb,N6,_⟩:=bw uB eK hr';have dh:Ext w eK:=xd.trans xb;have amE:vf w eK uB (acc++ [(sz,c)]):=by show aC _ _ 2 _ _ ((acc++ [(sz,c)]).map rv);rw [bU];exact ho'
  have hkeep:eK.heap[wr.heap.size]? =(dG.drew.alloc (.cells #[sz,.int .i64 c] gz)).heap[wr.heap.size]? :=by rw [N6 _ (λhb=>absurd (ho.own.lt hb).2 (Nat.lt_irrefl _)) ab];symm;exact (Ext.al _ _).heap ab
  have Rx:(t.drop kk.toNat).length=t.length-kk.toNat:=List.length_drop;refine ⟨hkeep,k1,Br.mk (λh6=>Br.mk (λh7=> ?_) (λh7=>Br.mk (λh8=> ?_) (λh8=> ?_))) (λh6=> ?_)⟩<;>simp only [beq_iff_eq,beq_eq_false_iff_ne] at h6
  ·simp only [cQ] at h7;omega
  ·replace h8:=mh h8;rw [if_pos h6,if_neg (by intro e;rw [e] at Rx;simp at Rx;omega)] at heq;exact bad dh heq.symm
  ·replace h8:=my h8;rw [if_pos h6,if_pos (List.eq_nil_of_length_eq_zero ab)] at heq;refine ⟨⟨uB,by rw [<-heq],by rw [<-heq];exact amE⟩,dh⟩
  ·rw [if_neg h6] at heq;have hrest:=RdK.rest h3 (l:=(1+kk).toNat) (m:=s3.c) (n':=s3.n-(1+kk).toNat) (c':=s3.c-(1+kk).toNat) (by rw [aN,dt];omega) (λe=>by rw [aN,dt];omega);rw [show (1+kk).toNat=kk.toNat+1 from by omega,eP,List.drop_succ_cons,<-List.map_drop] at hrest;rw [show (1+kk).toNat=kk.toNat+1 from by omega];refine ⟨(t.drop kk.toNat).length,by simp only [dt];omega,t.drop kk.toNat,acc++ [(sz,c)],rfl,hrest,by show s3.n-(kk.toNat+1)<=s3.c-(kk.toNat+1);omega,λq hq=>htI q (List.mem_of_mem_drop hq),by simp only [dm,dt,List.length_nil];omega,by omega,by omega,dh,amE,?_⟩;rw [<-heq];exact E3 _ _ _ ab (by simp only [dt];omega)
 ·have:b'=[]:=List.eq_nil_of_length_eq_zero ab;subst this;have e:ja cN b n=([],3):=by rw [<-heq];show (if left>0 then ([],3) else (acc,0))=_;rw [if_pos ab]
  refine Br.mk (λ_=>⟨ZF e,xr⟩) (λh2=> ?_);replace h2:=my h2;omega
theorem aC.le{B E k:Nat}{w:World}{s:Sl}{rows:List (LV)}(h:aC B E k w s rows):s.n<=s.c:=by
 have ho:=h.own;generalize rows.flatten=xs at ho
 cases ho with
 |nil=>exact aB _
 |row g n c cs hg hr hc hn=>exact hn
theorem MO{b:List Int}{n:Int}(hb:InY b)(hn:1<=n)(h:(ja cN b n).2=0):qS (ja cN b n).1=b/\iG cN (-1) (ja cN b n).1/\bS (ja cN b n).1=n:=by obtain ⟨l,e1,e2,e3,e4,_⟩:=BE (may:=cN) (b.length+1) b n (-1) [] hb hn h;rw [XC] at e1;have e:ja cN b n=mM cN (b.length+1) b n (-1) []:=rfl;rw [e,e1];exact ⟨e2,e3,e4⟩
theorem Uy{l:List Rn}{last:Int}(h:iG cN last l):∀r ∈ l,inI r.1/\inI r.2:=by intro r hr;have:=h.mem r hr;unfold Go.Vc.inI;omega
open Go.dJ
abbrev pv(p:Po):Value:=.agg #[p.1,p.2]
abbrev dY(c:Ce):Value:=.agg #[c.1,c.2.1,c.2.2]
abbrev pM:TypeId:=41
abbrev WS:TypeId:=40
theorem ud(a b:Int)(ha:inI a)(hb:0<b)(w:World):ah 192 #[a,b] w λe w'=>e=Value.int .i64 (a / b)/\w'=w:=by
 apply XD.vc;obtain ⟨h1,h2,h3,h4⟩:=tdm (a:=a) hb;have hq:=RO ha hb;have ht:=RP ha hb;refine Br.mk (λh=> ?_) (λ_=>bE.2 ⟨qI.2 ab,bE.2 ⟨qI.2 ab,Br.mk (λh=> ?_) (λh=> ?_)⟩⟩)
 ·simp only [cQ] at h;omega
 ·replace h:=mh h;rw [aK ht,<-(h1 h).1,aK hq];exact ⟨rfl,rfl⟩
 ·replace h:=my h;rw [aK ht,<-(h2 ab).1];exact ⟨rfl,rfl⟩
theorem ue(a b:Int)(hb:0<b)(hb':b<=1000000)(w:World):ah 282 #[a,b] w λe w'=>e=Value.int .i64 (a % b)/\w'=w:=by
 apply XE.vc;obtain ⟨h1,h2,h3,h4⟩:=tdm (a:=a) hb;refine Br.mk (λh=> ?_) (λ_=>bE.2 ⟨qI.2 ab,Br.mk (λh=> ?_) (λh=> ?_)⟩)
 ·simp only [cQ] at h;omega
 ·replace h:=mh h;rw [wI,<-(h1 h).2];exact ⟨rfl,rfl⟩
 ·replace h:=my h;rw [<-(h2 ab).2];exact ⟨rfl,rfl⟩
theorem Dz(a b:Int)(ha:inI a)(hb:0<b)(w:World):ah 86 #[a,b] w λe w'=>e=Value.int .i64 (a / b)/\w'=w:=by
 apply TC.vc;obtain ⟨h1,h2,h3,h4⟩:=tdm (a:=a) hb;have hq:=RO ha hb;have ht:=RP ha hb;have hm:b*a.tdiv b+a.tmod b=a:=Int.mul_tdiv_add_tmod a b;have hsg:(0<=a->0<=a.tmod b)/\(a<=0->a.tmod b<=0):=by refine ⟨λh=>Int.tmod_nonneg b h,λh=> ?_⟩;have:=Int.tmod_nonneg (a:= -a) b ab;rw [Int.neg_tmod] at this;omega
 have akd:a.tdiv b*b=a-a.tmod b:=by rw [Int.mul_comm];omega
 have oq:inI (a.tdiv b*b):=by
  rw [akd];unfold inI at*;rcases Int.lt_or_le a 0 with h|h
  ·have:=hsg.2 ab;have:=(tdm (a:=a) hb);have hle:a-a.tmod b<=0:=by
    rcases Int.lt_or_le 0 (a-a.tmod b) with h5|h5
    ·exfalso;rw [<-akd] at h5;have h6:a.tdiv b<=0:=by have:=Int.tdiv_nonneg (a:= -a) (b:=b) ab ab;rw [Int.neg_tdiv] at this;omega
     have:=Int.mul_nonpos_of_nonpos_of_nonneg h6 (by omega:0<=b);omega
    ·exact h5
   omega
  ·have:=hsg.1 h;have h6:0<=a.tdiv b:=Int.tdiv_nonneg h ab;have:=Int.mul_nonneg h6 (by omega:0<=b);omega
 rw [aK ht,aK oq];refine bE.2 ⟨qI.2 ab,Br.mk (λh=> ?_) (λh=> ?_)⟩
 ·simp only [cQ,gt_iff_lt] at h;rw [<-(h1 ab).1,aK hq];exact ⟨rfl,rfl⟩
 ·simp only [fa,gt_iff_lt] at h;rw [<-(h2 ab).1];exact ⟨rfl,rfl⟩
def pn(c:Ce):Prop:=inI c.1/\inI c.2.1/\inI c.2.2
theorem Bc(c:Ce)(w:World):ah 255 #[dY c] w λe w'=>(∃i b,e=Value.tuple #[.int .i64 i,.bool b]/\((b=true/\DA c/\i=idx c)\/(b=false/\¬DA c/\i=0)))/\Ext w w':=by
 apply O7.vc;intro w0 e0;have x0:=aL e0;have hb:Row w0 w [c.1,c.2.1,c.2.2] pM:=Row.nw e0;have yO:=hb.ext (Ext.dr w0);refine Br.mk (λh=> ?_) (λh=>Br.mk (λh2=> ?_) (λh2=> ?_))<;>simp only [cQ,fa] at*
 ·exact ⟨⟨_,_,rfl,.inr ⟨rfl,by unfold DA;omega,rfl⟩⟩,x0⟩
 ·exact ⟨⟨_,_,rfl,.inr ⟨rfl,by unfold DA;omega,rfl⟩⟩,x0⟩
 ·refine (ue c.2.2 16 aF aF w0.drew).mono ?_;rintro e w1 ⟨rfl,rfl⟩;refine ⟨_,rfl,rfl,yO.bZ (λj hj=>by simp at hj;subst hj;rfl),yO.bZ (λj hj=>by simp at hj;subst hj;rfl),(ue c.1 16 aF aF _).mono ?_⟩;rintro e w1 ⟨rfl,rfl⟩;have e1:aj (c.2.1*16)=c.2.1*16:=wI;have e2:aj (c.2.1*16+c.2.2 % 16)=c.2.1*16+c.2.2 % 16:=wI;have e3:aj ((c.2.1*16+c.2.2 % 16)*16)=(c.2.1*16+c.2.2 % 16)*16:=wI;have e4:aj ((c.2.1*16+c.2.2 % 16)*16+c.1 % 16)=idx c:=wI;refine ⟨_,rfl,rfl,yO.bZ (λj hj=>by simp at hj;subst hj;rfl),?_,x0.drew⟩;rw [e1,e2,e3,e4];exact ⟨_,_,rfl,.inl ⟨rfl,by unfold DA;omega,rfl⟩⟩
theorem oU(c:Ce)(hc:pn c)(w:World):ah 139 #[dY c] w λe w'=>e=(pv (pos c))/\Ext w w':=by apply O8.vc;intro w0 e0 w1 e1;have x1:Ext w w1.drew:=((aL e0).bn e1).drew;have z0:=eG e0;have hb:Row w1.drew w [c.1,c.2.1,c.2.2] pM:=((by rw [e0];exact Row.new w [_,_,_] _:Row w0 w [c.1,c.2.1,c.2.2] pM).ext (aL e1)).ext (Ext.dr _);refine (ud c.1 16 hc.1 aF w1.drew).mono ?_;rintro e w2 ⟨rfl,rfl⟩;refine ⟨_,rfl,rfl,rfl,hb.bZ (λj hj=>by simp at hj;subst hj;rfl),(ud c.2.2 16 hc.2.2 aF _).mono ?_⟩;rintro e w2 ⟨rfl,rfl⟩;refine ⟨_,rfl,rfl,rfl,λw6 e6=>⟨rfl,x1.ae e6 ab⟩⟩
def Tz(p:Po):Prop:=(-1099511627776<=p.1/\p.1<=1099511627776)/\(-1099511627776<=p.2/\p.2<=1099511627776)
theorem O9(p:Po)(hp:Tz p)(i:Int)(hi:0<=i/\i<8192)(w:World):ah 249 #[pv p,i] w λe w'=>e=Value.tuple #[dY (cellAt p i),true]/\Ext w w':=by apply TD.vc;obtain ⟨⟨p1,p2⟩,p3,p4⟩:=hp;intro w0 e0 w1 e1;have z0:=eG e0;have x1:Ext w w1:=(aL e0).bn e1;have t1:Int.tmod i 16=i % 16:=Int.tmod_eq_emod_of_nonneg hi.1;have t2:Int.tdiv i 256=i / 256:=qb hi.1;have t3:Int.tdiv i 16=i / 16:=qb hi.1;have t4:Int.tmod (i / 16) 16=i / 16 % 16:=Int.tmod_eq_emod_of_nonneg ab;have w1':aj (i / 16)=i / 16:=wI;have w2':aj (i / 256)=i / 256:=wI;have w3':aj (p.1*16)=p.1*16:=wI;have w4':aj (p.2*16)=p.2*16:=wI;have w5':aj (p.1*16+i % 16)=p.1*16+i % 16:=wI;have w6':aj (p.2*16+i / 16 % 16)=p.2*16+i / 16 % 16:=wI;rw [t1,t2,t3,w1',w2',w3',w4',t4,w5',w6'];refine Br.mk (λh=> ?_) (λ_=>Br.mk (λh=> ?_) (λ_ w4 e4=>⟨rfl,x1.ae e4 ab⟩))<;>simp only [cQ] at h<;>omega
theorem Pt(s x z:Int)(w:World):ah 284 #[s,x,z] w λe w'=>e=Value.int .u64 (hash s x z)/\w'=w:=by apply XK.vc;rw [aoK,aoL];exact ⟨rfl,rfl⟩
theorem ack(s x z:Int):aj (Int.tmod (hash s x z) 9)=gL s x z:=by rw [Int.tmod_eq_emod_of_nonneg (acm s x z)];exact wI
theorem m7(s x z zP:Int)(hn:0<=zP/\zP<=64){b:Nat}{w:World}(hb:Row w b [s] IN):ah 283 #[x,z,zP,b] w λe w'=>e=Value.int .i64 (gL s x z*zP)/\w'=w:=by apply IP.vc;refine ⟨s,by rw [hb.ld];rfl,(Pt s x z w).mono ?_⟩;rintro e w1 ⟨rfl,rfl⟩;refine ⟨_,rfl,?_⟩;rw [ack];have hc:=iR s x z;have h1:0<=gL s x z*zP:=Int.mul_nonneg hc.1 hn.1;have h2:gL s x z*zP<=8*64:=Int.mul_le_mul hc.2 hn.2 hn.1 aF;rw [wI];exact ⟨rfl,rfl⟩
theorem IQ(s x z:Int)(hx:inI x)(hz:inI z)(w:World):ah 250 #[s,x,z] w λe w'=>e=Value.int .i64 (ground s x z)/\Ext w w':=by
 apply Pu.vc;intro w0 e0;have x0:=aL e0;have hb:Row w0 w [s] IN:=Row.nw e0;refine (ud x 8 hx aF w0).mono ?_;rintro e w1 ⟨rfl,rfl⟩;refine ⟨_,rfl,rfl,(ud z 8 hz aF w1).mono ?_⟩;rintro e w1 ⟨rfl,rfl⟩;refine ⟨_,rfl,rfl,(ue x 8 aF aF w1).mono ?_⟩;rintro e w1 ⟨rfl,rfl⟩;refine ⟨_,rfl,rfl,(ue z 8 aF aF w1).mono ?_⟩;rintro e w1 ⟨rfl,rfl⟩;refine ⟨_,rfl,rfl,?_⟩;have hdx:inI (x / 8+1):=by unfold inI at*;omega
 have hdz:inI (z / 8+1):=by unfold inI at*;omega
 have a:=tp (iR s (x / 8) (z / 8)) (u:=8-x % 8) (v:=8-z % 8) ab ab;have b:=tp (iR s (x / 8+1) (z / 8)) (u:=x % 8) (v:=8-z % 8) ab ab;have c:=tp (iR s (x / 8) (z / 8+1)) (u:=8-x % 8) (v:=z % 8) ab ab;have d:=tp (iR s (x / 8+1) (z / 8+1)) (u:=x % 8) (v:=z % 8) ab ab;have q1:aj (8-x % 8)=8-x % 8:=wI;have q2:aj (8-z % 8)=8-z % 8:=wI;rw [q1,q2,aK hdx,aK hdz,aK (n:=(8-x % 8)*(8-z % 8)) (by unfold inI;omega),aK (n:=x % 8*(8-z % 8)) (by unfold inI;omega),aK (n:=(8-x % 8)*(z % 8)) (by unfold inI;omega),aK (n:=x % 8*(z % 8)) (by unfold inI;omega)];refine (m7 s _ _ _ ⟨a.1,a.2.1⟩ hb).mono ?_;rintro e w1 ⟨rfl,rfl⟩;refine ⟨_,rfl,(m7 s _ _ _ ⟨b.1,b.2.1⟩ hb).mono ?_⟩;rintro e w1 ⟨rfl,rfl⟩;refine ⟨_,rfl,(m7 s _ _ _ ⟨c.1,c.2.1⟩ hb).mono ?_⟩;rintro e w1 ⟨rfl,rfl⟩;refine ⟨_,rfl,(m7 s _ _ _ ⟨d.1,d.2.1⟩ hb).mono ?_⟩;rintro e w1 ⟨rfl,rfl⟩;refine ⟨_,rfl,?_,x0⟩;have hg:=Ho s x z;have e1:ground s x z=6+(gL s (x / 8) (z / 8)*((8-x % 8)*(8-z % 8))+gL s (x / 8+1) (z / 8)*(x % 8*(8-z % 8))+gL s (x / 8) (z / 8+1)*((8-x % 8)*(z % 8))+gL s (x / 8+1) (z / 8+1)*(x % 8*(z % 8))) / 64:=rfl;generalize gL s (x / 8) (z / 8)*((8-x % 8)*(8-z % 8))=A at*;generalize gL s (x / 8+1) (z / 8)*(x % 8*(8-z % 8))=B at*;generalize gL s (x / 8) (z / 8+1)*((8-x % 8)*(z % 8))=C at*;generalize gL s (x / 8+1) (z / 8+1)*(x % 8*(z % 8))=D at*;rw [aK (n:=A+B) (by unfold inI;omega),aK (n:=A+B+C) (by unfold inI;omega),aK (n:=A+B+C+D) (by unfold inI;omega),qb ab,aK (n:=(A+B+C+D) / 64) (by unfold inI;omega),<-e1,wI]
theorem XL(y g:Int)(hg:6<=g/\g<=100)(w:World):ah 251 #[y,g] w λe w'=>e=Value.int .i64 (Pv y g)/\w'=w:=by
 apply af0.vc;have q1:aj (g-3)=g-3:=wI;have q2:aj (g-1)=g-1:=wI;rw [q1,q2];have fin:∀{v:Int},Pv y g=v->(Ending.returned v=Value.int .i64 (Pv y g)/\w=w):=λh=>⟨by rw [h],rfl⟩
 refine Br.mk (λh1=>fin ?_) (λh1=>Br.mk (λh2=>fin ?_) (λh2=>Br.mk (λh3=>fin ?_) (λh3=>Br.mk (λh4=>fin ?_) (λh4=>Br.mk (λh5=>fin ?_) (λh5=>Br.mk (λh6=>Br.mk (λh7=>fin ?_) (λh7=>Br.mk (λh8=>fin ?_) (λh8=>Br.mk (λh9=>fin ?_) (λh9=>fin ?_)))) (λh6=>Br.mk (λh8=>fin ?_) (λh8=>Br.mk (λh9=>fin ?_) (λh9=>fin ?_))))))))
 all_goals simp only [cQ,fa,beq_iff_eq,beq_eq_false_iff_ne,ne_eq] at*
 all_goals unfold Pv
 all_goals (repeat' split)<;>omega
theorem YS(ar:Int)(p:Po){k:Nat}(hk:k<8192):(made ar p)[k]? =some (Pv (cellAt p k).2.1 (ground ar (cellAt p k).1 (cellAt p k).2.2)):=by unfold made;rw [aU,List.getElem?_range hk];rfl
theorem agr{p:Po}(hp:Tz p)(i:Int)(hi:0<=i/\i<8192):pn (cellAt p i):=by obtain ⟨⟨p1,p2⟩,p3,p4⟩:=hp;unfold pn cellAt inI;simp only;omega
def Vy(ar:Int)(p:Po)(k:Nat):LV:=(List.range 256).map λi:Nat=> .int .i64 (if i<k then ground ar (cellAt p i).1 (cellAt p i).2.2 else 0)
theorem yE(ar:Int)(p:Po)(k:Nat):(Vy ar p k).length=256:=by simp [Vy]
theorem CT(ar:Int)(p:Po)(k:Nat){i:Nat}(hi:i<256):(Vy ar p k)[i]? =some (.int .i64 (if i<k then ground ar (cellAt p i).1 (cellAt p i).2.2 else 0)):=by unfold Vy;rw [aU,List.getElem?_range hi];rfl
theorem ac9(ar:Int)(p:Po){k:Nat}(hk:k<256):(Vy ar p k).set k (.int .i64 (ground ar (cellAt p k).1 (cellAt p k).2.2))=Vy ar p (k+1):=by
 apply iY;intro i;rw [jR];rcases Nat.lt_or_ge i 256 with h|h
 ·rw [CT _ _ (k+1) h];split
  ·rename_i e;subst e;rw [if_pos (by rw [yE];exact h),if_pos ab]
  ·rename_i e;rw [CT _ _ k h];congr 3;exact propext ⟨λh=>by omega,λh=>by omega⟩
 ·rw [ju (by rw [yE];exact h),ju (by rw [yE];exact h),if_neg ab]
theorem Zs(ar:Int)(p:Po):Vy ar p 0=List.replicate 256 (.int .i64 0):=by
 apply List.ext_getElem?;intro i;rcases Nat.lt_or_ge i 256 with h|h
 ·rw [CT _ _ 0 h,List.getElem?_replicate,if_pos h,if_neg (by omega)]
 ·rw [List.getElem?_eq_none (by rw [yE];exact h),List.getElem?_eq_none (by rw [List.length_replicate];exact h)]
def DH(ar:Int)(p:Po):List (LV):=(made ar p).map λb=> [.int .i64 b]
theorem Hm(ar:Int)(p:Po):(DH ar p).length=8192:=by unfold DH;rw [aN,qc]
theorem ada(ar:Int)(p:Po){k:Nat}(hk:k<8192):(made ar p)[k]? =some (Pv ((k:Int) / 256) (ground ar (cellAt p ((k % 256:Nat):Int)).1 (cellAt p ((k % 256:Nat):Int)).2.2)):=by
 rw [YS ar p hk];have e1:(cellAt p ((k % 256:Nat):Int)).1=(cellAt p k).1:=by unfold cellAt;simp only;omega
 have e2:(cellAt p ((k % 256:Nat):Int)).2.2=(cellAt p k).2.2:=by unfold cellAt;simp only;omega
 rw [e1,e2];rfl
abbrev RT(bp bs:Nat):Nat->Prop:=λi=>i=bp\/i=bs
abbrev aeU(bp bs:Nat):Value:=.func (.func 248) #[] #[bp,bs]
attribute [local irreducible] made Vy in
set_option maxRecDepth 100000 in
theorem DI(ar:Int)(p:Po)(hp:Tz p)(bp bs:Nat)(W0:World)(hbp:Row W0 bp [p.1,p.2] WS)(hbs:Row W0 bs [ar] IN):
  Iter Tryz.prog (aeU bp bs) W0 (RT bp bs) (DH ar p):=by
 refine ⟨⟨_,_,_,rfl,by kernel_rfl⟩,?_⟩;intro y B J Jx F0 W hB hsJ hsX yO hRd hround h0;refine cS (by kernel_rfl) (by rfl) ?_;apply Li.vc;have same:∀{w:World} {F:Nat->Prop},(∀i,RT bp bs i->¬F i/\i<w.heap.size/\w.heap[i]? =W0.heap[i]?)->Row w bp [p.1,p.2] WS/\Row w bs [ar] IN:=λ{w F} h=>
  ⟨hbp.same (h bp (.inl rfl)).2.2,hbs.same (h bs (.inr rfl)).2.2⟩
 intro w0 e0;have x0:Ext W w0:=(Ext.cE W).bn e0;have z0:=eG e0;have hg0:Row w0 W.heap.size (Vy ar p 0) 311:=by rw [e0,Zs];exact Row.new W (List.replicate 256 (0:Int)) _
 clear e0;have hF0:=yO _ _ _ h0;have bel:∀{w:World},Ext W w->J 0 F0 w/\∀i,RT bp bs i->¬F0 i/\i<w.heap.size/\w.heap[i]? =W0.heap[i]? :=λ{w} x=>
  ⟨hsJ _ _ _ _ h0 (Below.mono x hB) λi hi=>x.heap (hF0 i hi),λi hi=>by obtain ⟨h1,h2,h3⟩:=hRd i hi;exact ⟨h1,by have:=x.size;omega,(x.heap h2).trans h3⟩⟩
 refine ⟨λn x wr=>Ext W wr/\W.heap.size<wr.heap.size/\∃k:Nat,x=k/\k+n=256/\Row wr W.heap.size (Vy ar p k) 311,⟨256,x0,by omega,0,rfl,by omega,hg0⟩,?_⟩;rintro n us x wr ⟨xr,zr,k,rfl,hk,hg⟩;refine Br.mk (λhc=> ?_) (λhc=> ?_)
 ·replace hc:=mh hc;obtain ⟨C4,jC⟩:=same (bel xr).2;refine ⟨p.1,p.2,C4.bZ (λj hj=>by rw [Nat.zero_add]),(O9 p hp k (by omega) wr).mono ?_⟩;rintro e w9 ⟨rfl,x9⟩;refine ⟨_,_,_,_,rfl,?_⟩;intro bP ux eA oO;have cA:Ext w9 eA:=((Ext.cE _).bn ux).ae oO (Nat.le_refl _);have z15:eA.heap.size=w9.heap.size+1:=by rw [oO,setRow_size,ux];simp
  have z9:=x9.size;have asE:=jC.ext (x9.tr cA);refine ⟨ar,by rw [asE.ld];rfl,?_⟩;have bt:=agr hp k ⟨by omega,by omega⟩;refine (IQ ar _ _ bt.1 bt.2.2 eA).mono ?_;rintro e cL ⟨rfl,cY⟩;have z17:=cY.size;have asF:=hg.ext ((x9.tr cA).tr cY);have MY:((k:Int).toNat*1)=k:=by omega
  rw [MY];obtain ⟨p1,p2⟩:=asF.je (j:=k) (v:=.int .i64 (ground ar (cellAt p k).1 (cellAt p k).2.2)) (by rw [yE];omega) rfl;refine ⟨_,rfl,cY.k,by omega,by omega,⟨rfl,p1⟩,?_,λfP e19=> ?_⟩
  ·rw [cV];intro e;have:W.heap.size=w9.heap.size:=by simpa [bD] using e
   omega
  ·obtain ⟨q1,q2⟩:=p2 fP e19;have Ta:IntKind.wrap .i64 ((k:Int)+1)=((k+1:Nat):Int):=by rw [wI];omega
   have asG:aR (Vy ar p k) k [.int .i64 (ground ar (cellAt p k).1 (cellAt p k).2.2)]=Vy ar p (k+1):=by rw [<-ac9 ar p (by omega)];rfl
   rw [asG] at q1;exact ⟨n-1,by omega,q2.ext (xr.tr ((x9.tr cA).tr cY)) (λi hi=>by omega),by have:=q2.size;omega,k+1,Ta,by omega,q1⟩
 ·replace hc:=my hc;have amn:k=256:=by omega
  subst amn;obtain ⟨hJr,hKr⟩:=bel xr;refine ⟨λn x wr=>∃(k:Nat)(F:Nat->Prop),x=k/\k+n=8192/\B<=wr.heap.size/\W.heap.size<wr.heap.size/\¬F W.heap.size/\J k F wr/\Row wr W.heap.size (Vy ar p 256) 311,
   ⟨8192,0,F0,rfl,by omega,by omega,zr,λhf=>by have:=hF0 _ hf;omega,hJr,hg⟩,?_⟩
  rintro n us x wq ⟨k,F,rfl,hk,hBq,hzq,hnF,hJq,hgq⟩;refine Br.mk (λhc=> ?_) (λhc=> ?_)
  ·replace hc:=mh hc;have t1:Int.tmod (k:Int) 256=((k % 256:Nat):Int):=by rw [Int.tmod_eq_emod_of_nonneg (by omega)];omega
   have t2:IntKind.wrap .i64 (Int.tdiv (k:Int) 256)=(k:Int) / 256:=by rw [Int.tdiv_eq_ediv_of_nonneg (by omega),wI]
   rw [t1,t2];have MY:(((k % 256:Nat):Int).toNat*1)=k % 256:=by omega
   rw [MY];have eN:=CT ar p 256 (i:=k % 256) (by omega);rw [if_pos (by omega)] at eN;refine ⟨by omega,by omega,_,hgq.at _ eN,(XL _ _ (Ho _ _ _) wq).mono ?_⟩;rintro e eH ⟨rfl,rfl⟩;refine ⟨_,rfl,?_⟩;have hx:(DH ar p)[k]? =some [.int .i64 (Pv ((k:Int) / 256) (ground ar (cellAt p ((k % 256:Nat):Int)).1 (cellAt p ((k % 256:Nat):Int)).2.2))]:=by unfold DH;rw [List.getElem?_map,ada ar p (by omega)];rfl
   refine dp (hround _ _ _ _ hx hJq) ?_;have Ta:IntKind.wrap .i64 ((k:Int)+1)=((k+1:Nat):Int):=by rw [wI];omega
   rintro e dR (⟨rfl,F2,Kk,gG⟩|⟨rfl,F2,Kk,gG⟩)
   ·refine ⟨true,rfl,Br.mk (λh=>by cases h) (λ_=>⟨n-1,by omega,k+1,F2,Ta,by omega,by have:=gG.size;omega,by have:=gG.size;omega,λhf=> ?_,Kk,hgq.same (gG.same _ hzq hnF)⟩)⟩;rcases gG.sub _ hf with hf|hf
    ·exact hnF hf
    ·omega
   ·exact ⟨false,rfl,Br.mk (λ_=>⟨⟨_,rfl⟩,.inr ⟨F2,Kk⟩⟩) (λh=>by cases h)⟩
  ·replace hc:=my hc;have Fc:k=8192:=by omega
   subst Fc;exact ⟨⟨_,rfl⟩,.inl ⟨F,by rw [Hm];exact hJq⟩⟩
theorem DG(ar:Int)(p:Po)(w:World):ah 187 #[ar,pv p] w λe w'=>e=(aeU (w.heap.size+1) w.heap.size)/\Row w' (w.heap.size+1) [p.1,p.2] WS/\Row w' w [ar] IN/\Ext w w':=by apply Ud.vc;intro w0 e0 w1 e1;have z0:=eG e0;have x1:=aL e1;have hb:Row w0 w [ar] IN:=Row.nw e0;refine ⟨by rw [z0],?_,hb.ext x1,(aL e0).tr x1⟩;rw [<-z0,e1];exact Row.new w0 [_,_] _
theorem TH(s:Sl)(c:List Int)(w:World)(hs:OwC 0 w s c):ah 189 #[s] w λe w'=>(∃s':Sl,e=s'/\Pk w s' c)/\w'=w:=by
 apply BN.vc;have hn:=Pk.len hs.rdc;have Wc:s.n<=s.c:=by
  rcases aC.form hs aF with ⟨h,-⟩|⟨g0,cs,ha,hg0,hr,hc,M4,-⟩
  ·rw [h];exact aB _
  ·exact M4
 have:=RdK.cut hs.rdc (m:=s.n) (c':=s.n) (c'':=s.n) (by rw [aN];omega);rw [fC (by rw [aN];omega)] at this;exact ⟨by omega,by omega,by omega,by omega,⟨⟨aJ s.a 0 s.n 1,s.n,s.n⟩,rfl,this⟩,rfl⟩
attribute [local irreducible] made in
set_option maxRecDepth 100000 in
theorem Bg(ar:Int)(p:Po)(hp:Tz p)(w:World):ah 136 #[ar,pv p] w λe w'=>∃s':Sl,e=s'/\vf w w' s' (gP (made ar p))/\Ext w w':=by
 apply TI.vc;intro w0 e0 w1 e1;have z0:=eG e0;have z1:w1.heap.size=w.heap.size+2:=by rw [e1];simp [z0]
 have jT:Ext w w1:=(aL e0).bn e1;refine (DG ar p w1).mono ?_;rintro e w2 ⟨rfl,hbp,hbs,x2⟩;have gZ:=hbp.lt;have xx:=jT.tr x2;have zz:=xx.size;refine ⟨_,rfl,x2.heap ab,x2.heap ab,?_⟩;refine ⟨DH ar p,RT (w1.heap.size+1) w1.heap.size,λ_=>False,λn F s w'=>(∀i,F i ↔ s.aX=some i)/\OwC (w2.heap.size+2) w' s ((made ar p).take n)/\Ext w w'/\w2.heap.size+2<=w'.heap.size,λ_ _ _ _=>False,
  ?_,?_,λ_ _ _ _ _ h=>h.elim,?_,λ_ _ _ _ h=>h.elim,λi hi=>⟨by rcases hi with h|h<;>omega,id,by rcases hi with h|h<;>omega,by rcases hi with h|h<;>omega,trivial⟩,?_,?_,?_,trivial⟩
 ·intro x hx;obtain ⟨b,_,rfl⟩:=aZ.1 hx;exact ⟨b,rfl⟩
 ·rintro n F s w3 w4 ⟨hF,ho,kD,hz⟩ hbl2 hsame;exact ⟨hF,aC.c5 ho λi hi=>hsame i ((hF i).2 hi),kD.trans (Below.mono hbl2 zz),by have:=hbl2.size;omega⟩
 ·rintro n F s w3 ⟨hF,ho,kD,hz⟩ i hi;have:=ho.own.lt ((hF i).1 hi);omega
 ·intro w3 wT;have ahb:Below w2 w2 w3:=wT.ext;refine ⟨DI ar p hp _ _ w3 (hbp.ext ahb) (hbs.ext ahb),rfl,?_,?_,xx.trans (Below.mono ahb zz),by have:=wT.size;omega⟩
  ·intro i;simp [Sl.aX]
  ·rw [Ba];exact aC.nil
 ·rintro n F us o y w3 hx hI;have hy:(made ar p)[n]? =some y:=by
   unfold DH at hx;rw [aU,Option.map_eq_some_iff] at hx;obtain ⟨b,hb,e⟩:=hx;have:b=y:=by simpa using e
   rw [<-this];exact hb
  refine ⟨Below.refl _ _,λw4 fQ hI3=> ?_⟩;obtain ⟨hF,ho,kD,hz⟩:=hI3;intro w5 e5;have x5:=aL e5;have z5:=eG e5;have Wf:n<8192:=by have:=(cG.1 hy).1;rw [qc] at this;exact this
  have ZS:=Pk.len ho.rdc;rw [du,qc] at ZS;obtain ⟨hp1,bw⟩:=(aC.ext ho x5).append (bytes:=8) (news:=iv y) ab rfl (te _ _) ab ab;refine ⟨hp1,λs5 w6 hr=> ?_⟩;obtain ⟨ho5,hn5,xb,N6,ik⟩:=bw s5 w6 hr;have W2:∀i,o.aX=some i->w2.heap.size+2<=i/\i<w4.heap.size:=λi hi=>ho.own.lt hi
  have hz6:=xb.size;refine ⟨N6 _ (λhb=>by have:=W2 _ hb;omega) ab,N6 _ (λhb=>by have:=W2 _ hb;omega) ab,N6 _ (λhb=>by have:=W2 _ hb;omega) ab,?_⟩;intro w7 hw7;have e7:∀i,i≠w0.heap.size->w7.heap[i]? =w6.heap[i]? :=λi hi=>by rw [hw7];exact setRow_other _ _ _ _ hi
  have z7:w7.heap.size=w6.heap.size:=by rw [hw7,setRow_size]
  have hb5:∀i,s5.aX=some i->w2.heap.size+2<=i:=λi hi=>by
   rcases ik with h|h
   ·exact (W2 i (by rw [<-h];exact hi)).1
   ·rw [h] at hi;simp at hi;omega
  refine ⟨λi=>s5.aX=some i,⟨rfl,λi=>Iff.rfl,?_,?_,by omega⟩,Step.late ⟨?_,by omega,?_⟩⟩
  ·have e:(made ar p).take (n+1)=(made ar p).take n++ [y]:=by rw [dD,hy];rfl
   rw [e];have h5:OwC (w2.heap.size+2) w6 s5 ((made ar p).take n++ [y]):=by show aC _ _ 1 _ _ (((made ar p).take n++ [y]).map iv);rw [bU];exact ho5
   exact aC.c5 h5 λi hi=>e7 i (by have:=hb5 i hi;omega)
  ·have h5:Ext w w6:=(kD.tr x5).trans (Below.mono xb ab);rw [hw7];exact h5.setRow ab _
  ·rintro i (hi|hi)
   ·rcases ik with h|h
    ·exact .inl (.inl ((hF i).2 (by rw [<-h];exact hi)))
    ·rw [h] at hi;simp at hi;exact .inr ab
   ·exact .inl (.inr hi)
  ·intro i hi hni;have h1:i≠w0.heap.size:=λe=>hni (.inr (by simp [e]))
   rw [e7 i h1,N6 i (λhb=>hni (.inl ((hF i).2 hb))) ab];exact x5.heap hi
 ·rintro F us o w3 ⟨hF,ho,kD,hz⟩ hD;rw [Hm,fC (by rw [qc];exact aB _)] at ho;refine (TH o (made ar p) w3 (aC.low ho (Nat.zero_le _))).mono ?_;rintro e w4 ⟨⟨s4,rfl,hs4⟩,rfl⟩;refine ⟨s4,rfl,rfl,rfl,(II s4 (made ar p) w4 hs4 (by rw [qc];decide)).mono ?_⟩;rintro e w5 ⟨s5,rfl,ho5,x5⟩;refine ⟨s5,rfl,x5.heap ab,x5.heap ab,(x5.heap ab).trans hD,λw6 fQ=> ?_⟩;have hz5:=x5.size;have ho6:vf w w6 s5 (gP (made ar p)):=aC.low (aC.c5 ho5 λi hi=>fQ.same i (by have:=(ho5.own.lt hi).1;omega)) ab;exact ⟨s5,rfl,ho6,(kD.tr x5).trans (Below.mono (fQ.below (aB _)) ab)⟩
abbrev we:TypeId:=175
structure Gl(w:World)(g:Nat)(s:Sl)(p:Po)(C:List Int):Prop where
 row:Row w g [p.1,p.2,s] we
 own:vf 0 w s (gP C)
 len:C.length=8192
 may:∀b ∈ C,cN b=true
theorem Gl.c5{w w':World}{g:Nat}{s:Sl}{p:Po}{C:List Int}(h:Gl w g s p C){F:Nat->Prop}(hm:Mod F w w')(hg:¬F g)(hs:∀b,s.aX=some b->¬F b):Gl w' g s p C:=
 ⟨hm.row h.row hg,hm.fk h.own hs,h.len,h.may⟩
theorem Gl.ext{w w':World}{g:Nat}{s:Sl}{p:Po}{C:List Int}(h:Gl w g s p C)(x:Ext w w'):Gl w' g s p C:=⟨h.row.ext x,aC.ext h.own x,h.len,h.may⟩
theorem Gl.bd{w:World}{g:Nat}{s:Sl}{p:Po}{C:List Int}(h:Gl w g s p C):Bd C.length:=by rw [h.len];decide
def JK(p:Po)(c:Ce):Bool:=decide (0<=c.2.1) && decide (c.2.1<32) &&(pos c==p)
theorem pd(p:Po)(c:Ce):JK p c=true ↔ DA c/\pos c=p:=by unfold JK DA;simp only [fm,cQ,beq_iff_eq]
def J8(p:Po)(C:List Int)(c:Ce):Int:=if JK p c then atC C (idx c) else 0
def kW(p:Po)(C:List Int)(c:Ce)(b:Int):List Int × Int:=if JK p c=false then (C,5) else if cN b=false then (C,1) else (C.set (idx c).toNat b,0)
theorem E5(p:Po)(c:Ce)(hc:pn c)(w:World):ah 193 #[pv p,dY c] w λe w'=>(∃i,e=Value.tuple #[.int .i64 i,.bool (JK p c)]/\(JK p c=true->i=idx c))/\Ext w w':=by
 apply xP.vc;intro w0 e0 w1 e1;have z0:=eG e0;have z1:w1.heap.size=w.heap.size+2:=by rw [e1];simp [z0]
 have x1:Ext w w1:=(aL e0).bn e1;have hb:Row w1 w [p.1,p.2] 172:=(by rw [e0];exact Row.new w [_,_] _:Row w0 w [p.1,p.2] 172).ext (aL e1);refine (Bc c w1).mono ?_;rintro e w2 ⟨⟨i,b,rfl,hi⟩,x2⟩;have z2:=x2.size;refine ⟨i,b,rfl,x2.heap ab,x2.heap ab,Br.mk (λhbb=> ?_) (λhbb=> ?_)⟩
 ·rcases hi with ⟨-,hy,rfl⟩|⟨h,-⟩
  ·refine (oU c hc w2.drew).mono ?_;rintro e w5 ⟨rfl,x5⟩;refine ⟨_,_,rfl,x5.heap (show w.heap.size<w2 by omega),x5.heap (show w0.heap.size<w2 by omega),((hb.ext x2).ext (Ext.dr _)|>.ext x5).bZ (λj hj=>by rw [ep]),?_,(x1.tr x2).tr ((Ext.dr _).tr x5)⟩;refine ⟨_,?_,λ_=>rfl⟩;have:JK p c=(((pos c).1==p.1) &&((pos c).2==p.2)):=by unfold JK;unfold DA at hy;rw [decide_eq_true hy.1,decide_eq_true hy.2];rfl
   rw [this]
  ·rw [h] at hbb;cases hbb
 ·rcases hi with ⟨h,-⟩|⟨-,hy,rfl⟩
  ·rw [h] at hbb;cases hbb
  ·have:JK p c=false:=by
    cases hk:JK p c with
    |false=>rfl
    |true=>exact absurd ((pd p c).1 hk).1 hy
   rw [this];exact ⟨⟨_,rfl,λh=>by cases h⟩,(x1.tr x2).drew⟩
theorem adh(y g:Int):cN (Pv y g)=true:=by rcases UN y g with h|h|h|h|h<;>rw [h]<;>decide+kernel
theorem ZG(ar:Int)(p:Po):∀b ∈ made ar p,cN b=true:=by intro b hb;unfold made at hb;obtain ⟨i,_,rfl⟩:=aZ.1 hb;exact adh _ _
theorem PS(ar:Int)(p:Po)(hp:Tz p)(w:World):ah 78 #[ar,pv p] w λe w'=>∃g s,e=Value.pointer (some ⟨g,0,none⟩)/\Gl w' g s p (made ar p)/\Ext w w'/\w.heap.size<=g/\∀b,s.aX=some b->w.heap.size<=b:=by
 apply PN.vc;intro w0 e0;have x0:=aL e0;have z0:=eG e0;have hb:Row w0 w [p.1,p.2] WS:=Row.nw e0;have fin:∀{w1 w3:World} {s:Sl},Ext w0.drew w1->vf w0.drew.heap.size w1 s (gP (made ar p))->w3=w1.alloc (.cells #[p.1,p.2,.slice s.a s.n s.c] we)->Gl w3 w1 s p (made ar p)/\Ext w w3/\w.heap.size<=w1/\∀b,s.aX=some b->w.heap.size<=b:=λ{w1 w3 s} x1 ho e3=>by have x3:=aL e3;refine ⟨⟨by rw [e3];exact Row.new w1 [_,_,_] _,(aC.low ho (Nat.zero_le _)).ext x3,qc _ _,ZG _ _⟩,((x0.drew).tr x1).tr x3,(x0.drew.tr x1).size,λb hb=>gj x0.drew.size (ho.own.lt hb).1⟩
 refine ⟨(Bg ar p hp w0.drew).mono ?_,(Bg ar p hp w0.drew).mono ?_⟩
 ·rintro e w1 ⟨s,rfl,ho,x1⟩;refine ⟨s,rfl,x1.heap (show w.heap.size<w0 by omega),λw3 e3=>⟨_,s,rfl,fin x1 ho e3⟩⟩
 ·rintro e w1 ⟨s,rfl,ho,x1⟩;refine ⟨s,rfl,x1.heap (show w.heap.size<w0 by omega),((hb.ext (Ext.dr _)).ext x1).bZ (λj hj=>by rw [ep]),λw3 e3=>⟨_,s,rfl,fin x1 ho e3⟩⟩
theorem Gl.pos{w:World}{g:Nat}{s:Sl}{p:Po}{C:List Int}(h:Gl w g s p C):ag w (af (some ⟨g,0,none⟩) 0) 0 [p.1,p.2]:=by
 rw [bf];exact h.row.bZ (λj hj=>by
  simp at hj;rcases j with _|_|j
  ·rfl
  ·rfl
  ·omega)
theorem V3{C:List Int}(h:C.length=8192):(∀r ∈ gP C,0<=r.1)/\bS (gP C)<=1099511627776/\Bd (gP C).length:=by refine ⟨λr hr=>by have:=(m8 hr).1;omega,by rw [lT,h];decide,?_⟩;have:=qT C;show (gP C).length<=1099511627776;omega
theorem CR{w:World}{g:Nat}{s:Sl}{p:Po}{C:List Int}(h:Gl w g s p C)(c:Ce)(hc:pn c):ah 140 #[g,dY c] w λe w'=>e=Value.tuple #[(J8 p C c),.bool (JK p c)]/\Ext w w':=by
 apply DZ.vc;intro w0 e0;have x0:Ext w w0.drew:=(Ext.cE w|>.bn e0).drew;have z0:=eG e0;have h0:=h.ext x0;refine ⟨p.1,p.2,h0.pos,(E5 p c hc w0.drew).mono ?_⟩;rintro e w3 ⟨⟨i,rfl,hi⟩,x3⟩;have h3:=h0.ext x3;have z3:=x3.size;refine ⟨i,_,rfl,x3.heap (show w.heap.size<w0 by omega),Br.mk (λhb=> ?_) (λhb=> ?_)⟩
 ·have hf:JK p c=false:=by simpa using hb
  refine ⟨?_,x0.tr x3⟩;unfold J8;rw [hf];rfl
 ·have hk:JK p c=true:=by simpa using hb
  have hie:=hi hk;subst hie;have iU:=Au ((pd p c).1 hk).1;obtain ⟨q1,q2,q3⟩:=V3 h.len;refine ⟨s,h3.row.at 2 rfl,(JH s (gP C) (idx c) w3 (vf.FL h3.own) q3 q1 q2 (by unfold inI;omega)).mono ?_⟩;rintro e w7 ⟨rfl,x7⟩;refine ⟨_,rfl,x7.heap (j6 (show w.heap.size<w0 by omega) z3),?_,(x0.tr x3).tr x7⟩;rw [nA];unfold J8;rw [hk];rfl
theorem adq{p:Po}{C:List Int}(hl:C.length=8192)(hm:∀b ∈ C,cN b=true)(c:Ce)(b:Int):(kW p C c b).1.length=8192/\∀x ∈(kW p C c b).1,cN x=true:=by
 unfold kW;split
 ·exact ⟨hl,hm⟩
 ·split
  ·exact ⟨hl,hm⟩
  ·rename_i h;refine ⟨by rw [iq];exact hl,λx hx=> ?_⟩;rcases kh hx with h1|h1
   ·exact hm x h1
   ·subst h1;simpa using h
theorem Yv{w:World}{g:Nat}{s:Sl}{p:Po}{C:List Int}(h:Gl w g s p C)(c:Ce)(hc:pn c)(b:Int):
  ah 268 #[g,dY c,b] w λe w'=>e=Value.int .i64 (kW p C c b).2/\∃s',Gl w' g s' p (kW p C c b).1/\Mod (λi=>i=g) w w'/\(∀i,s'.aX=some i->s.aX=some i\/w.heap.size<=i):=by
 apply BY.vc;intro w0 e0;have x0:Ext w w0.drew:=(Ext.cE w|>.bn e0).drew;have z0:=eG e0;have hgl:=h.row.lt;have h0:=h.ext x0;refine ⟨p.1,p.2,h0.pos,(E5 p c hc w0.drew).mono ?_⟩;rintro e w3 ⟨⟨i,rfl,hi⟩,x3⟩;have h3:=h0.ext x3;have z3:=x3.size;have z3':w.heap.size<w3:=j6 (show w.heap.size<w0 by omega) z3;refine ⟨i,_,rfl,x3.heap (show w.heap.size<w0 by omega),Br.mk (λhb=> ?_) (λhb=> ?_)⟩
 ·have hf:JK p c=false:=by simpa using hb
  have e:kW p C c b=(C,5):=by unfold kW;rw [if_pos hf]
  rw [e];exact ⟨rfl,s,h3,Mod.aD (x0.tr x3),λi hi=> .inl hi⟩
 ·have hk:JK p c=true:=by simpa using hb
  have hie:=hi hk;subst hie;have iU:=Au ((pd p c).1 hk).1;refine (gw b w3).mono ?_;rintro e w6 ⟨rfl,x6⟩;have h6:=h3.ext x6;have z6:=x6.size;refine ⟨_,rfl,x6.heap z3',Br.mk (λjC=> ?_) (λjC=> ?_)⟩
  ·have hf:cN b=false:=by simpa using jC
   have e:kW p C c b=(C,1):=by unfold kW;rw [if_neg (by simp [hk]),if_pos hf]
   rw [e];exact ⟨rfl,s,h6,Mod.aD ((x0.tr x3).tr x6),λi hi=> .inl hi⟩
  ·have hm:cN b=true:=by simpa using jC
   have e:kW p C c b=(C.set (idx c).toNat b,0):=by unfold kW;rw [if_neg (by simp [hk]),if_neg (by simp [hm])]
   refine ⟨s,h6.row.at 2 rfl,(Gy s C (idx c) b w6 (vf.FL h6.own) h.bd (by unfold inI;omega)).mono ?_⟩;rintro e9 w9 ⟨xf,rfl,ho,x9⟩;have hs:VN C (idx c) b=C.set (idx c).toNat b:=by unfold VN;rw [if_pos ⟨hm,iU.1,by rw [h.len];omega⟩]
   rw [hs] at ho;obtain ⟨p1,p2⟩:=(h6.row.ext x9).je (j:=2) (v:=.slice xf.a xf.n xf.c) bB rfl;refine ⟨xf,rfl,x9.heap ab,⟨rfl,p1⟩,?_,λaY Cn=> ?_⟩
   ·rw [cV];intro e;have:g=w.heap.size:=by simpa [bD] using e
    omega
   ·obtain ⟨q1,q2⟩:=p2 aY Cn;have bt:=adq (p:=p) h.len h.may c b;rw [e] at bt ⊢;refine ⟨rfl,xf,⟨q1,q2.fk (aC.low ho (Nat.zero_le _)) λi hi hf=> ?_,bt.1,bt.2⟩,(Mod.aD (((x0.tr x3).tr x6).tr x9)).trans q2,λi hi=> .inr ?_⟩
    ·obtain ⟨cs,hr⟩:=bc ho aF hi;exact hr.ne (h6.row.ext x9) aF hf
    ·have:=(ho.own.lt hi).1;have:=(x0.tr x3).size;omega
theorem vJ(p:Po)(w:World):ah 95 #[pv p] w λe w'=>e=(pv p)/\Ext w w':=by apply xO.vc;intro w0 e0 w1 e1 w2 e2;have z0:=eG e0;exact ⟨rfl,((aL e0).bn e1).ae e2 ab⟩
def ZP(w:World)(p:Po)(l:List Rn)(e:Ending)(w':World):Prop:=
 (qW cN l 8192=true/\∃g sg,e=Value.tuple #[.pointer (some ⟨g,0,none⟩),aa]/\Gl w' g sg p (cw l)/\w.heap.size<=g/\∀b,sg.aX=some b->w.heap.size<=b)\/
 (qW cN l 8192=false/\e=Value.tuple #[.pointer none,(1:Int)])
theorem Eh(p:Po)(s:Sl)(l:List Rn)(w:World)(hs:kj w s l)(hn:Bd l.length):ah 135 #[pv p,s] w λe w'=>ZP w p l e w'/\Ext w w':=by
 apply Ua.vc;intro w0 e0;have z0:=eG e0;have x0:=aL e0;have S7:Row w0 w [p.1,p.2] WS:=Row.nw e0;refine (vr s l 8192 w0 (RdK.ext hs x0) hn (by unfold inI;omega)).mono ?_;rintro e w1 ⟨rfl,x1⟩;have z1:=x1.size;have zd:=lG w1;refine ⟨_,rfl,x1.heap ab,Br.mk (λhb=> ?_) (λhb=> ?_)⟩
 ·have hf:qW cN l 8192=false:=by simpa using hb
  exact ⟨.inr ⟨hf,rfl⟩,x0.tr x1⟩
 ·have ht:qW cN l 8192=true:=by simpa using hb
  obtain ⟨i1,i2,i3⟩:=Mh ht;have xd:=(x0.tr x1).drew;have fin:∀{w3 w5:World} {s4:Sl},Ext w1.drew w3->vf w1.drew.heap.size w3 s4 l->w5=w3.alloc (.cells #[p.1,p.2,s4] we)->ZP w p l (.returned (.tuple #[w3,aa])) w5/\Ext w w5:=λ{w3 w5 s4} x3 ho e5=>by have x5:=aL e5;have z3:=x3.size;refine ⟨.inl ⟨ht,_,s4,rfl,⟨by rw [e5];exact Row.new w3 [_,_,_] _,?_,by omega,i2⟩,by omega,λb hb=>by have:=(ho.own.lt hb).1;omega⟩,xd.tr (x3.tr x5)⟩;rw [i1];exact (aC.low ho (Nat.zero_le _)).ext x5
  refine ⟨(kY s l w1.drew (RdK.ext hs xd) hn).mono ?_,(kY s l w1.drew (RdK.ext hs xd) hn).mono ?_⟩
  ·rintro e w3 ⟨s4,rfl,ho,x3⟩;exact ⟨s4,rfl,x3.heap ab,λw5 e5=>fin x3 ho e5⟩
  ·rintro e w3 ⟨s4,rfl,ho,x3⟩;exact ⟨s4,rfl,x3.heap ab,((S7.ext x1.drew).ext x3).bZ (λj hj=>by rw [ep]),λw5 e5=>fin x3 ho e5⟩
def adn(w:World)(p:Po)(b:List Int)(e:Ending)(w':World):Prop:=
 ((ja cN b 8192).2=0/\∃g sg,e=Value.tuple #[.pointer (some ⟨g,0,none⟩),aa]/\Gl w' g sg p (cw (ja cN b 8192).1)/\w.heap.size<=g/\gP (cw (ja cN b 8192).1)=(ja cN b 8192).1/\∀b,sg.aX=some b->w.heap.size<=b)\/
 ((ja cN b 8192).2≠0/\e=Value.tuple #[.pointer none,.int .i64 (ja cN b 8192).2])
theorem Uo(p:Po)(s:Sl)(b:List Int)(w:World)(hs:jf w s b)(hb:InY b)(hc:s.n<=s.c)(hl:b.length<=1099511627776):ah 77 #[pv p,s] w λe w'=>adn w p b e w'/\Ext w w':=by
 apply PM.vc;intro w0 e0;have z0:=eG e0;have x0:=aL e0;refine (E4 s b 8192 w0 (RdK.ext hs x0) hb hc hl aF (by unfold inI;omega)).mono ?_;rintro e w1 ⟨⟨s2,rfl,ho⟩,x1⟩;have z1:=x1.size;have dI:=VL (may:=cN) b 8192;have hag:=MO (b:=b) (n:=8192) hb aF;refine ⟨s2,_,rfl,x1.heap ab,Br.mk (λiM=> ?_) (λiM=> ?_)⟩
 ·exact ⟨.inr ⟨by simpa using iM,rfl⟩,x0.tr x1⟩
 ·have h0:(ja cN b 8192).2=0:=by simpa using iM
  obtain ⟨f1,f2,f3⟩:=hag h0;have hm:qW cN (ja cN b 8192).1 8192=true:=by have:=f2.qW ab;rw [f3] at this;exact this
  refine (Eh p s2 _ w1 (vf.FL ho) (by show _<=_;omega)).mono ?_;rintro e w4 ⟨hr,x4⟩;rcases hr with ⟨-,g,sg,rfl,hk,hg,hgb⟩|⟨hf,-⟩
  ·exact ⟨_,_,rfl,x4.heap ab,.inl ⟨h0,g,sg,rfl,hk,by omega,(Mh hm).1,λb hb=>by have:=hgb b hb;omega⟩,x0.tr (x1.tr x4)⟩
  ·rw [hm] at hf;cases hf
theorem Hx{C:List Int}(hl:C.length=8192)(hm:∀b ∈ C,cN b=true):okW cN (gP C)=true/\gP C≠ []/\iG cN (-1) (gP C)/\bS (gP C)=8192:=by
 have hs:bS (gP C)=8192:=by rw [lT,hl];rfl
 have iM:gP C≠ []:=by
  intro e;rw [e] at hs
  cases hs
 have hc:∀r ∈ gP C,cN r.2=true:=λr hr=>by refine hm _ ?_;have:=Uw hr (m8 hr).1;rwa [nA] at this
 refine ⟨af3 (Ed C) hc ab iM,iM,?_,hs⟩;refine iG.of (λr hr=> ?_) (Ed C).next (λr hr=> ?_)
 ·have h1:=m8 hr;have h2:=hc r hr;have h3:=h2;unfold cN at h3;simp only [fm,cQ] at h3;exact ⟨h1.1,by omega,by omega,by omega,h2⟩
 ·have h2:=hc r (List.mem_of_mem_head? hr);unfold cN at h2;simp only [fm,cQ] at h2;omega
theorem Ux{C:List Int}(hl:C.length=8192)(hm:∀b ∈ C,cN b=true):∀r ∈ gP C,inI r.1/\inI r.2:=Uy (Hx hl hm).2.2.1
theorem Pj{w:World}{g:Nat}{s:Sl}{p:Po}{C:List Int}(h:Gl w g s p C):ah 137 #[g] w λe w'=>∃s':Sl,e=s'/\mA w w' s' (qS (gP C))/\Ext w w':=by apply xQ.vc;have dI:=qT C;have hl:=h.len;refine ⟨s,h.row.at 2 rfl,(B4 s (gP C) w (vf.FL h.own) ab (Ux h.len h.may)).mono ?_⟩;rintro e w1 ⟨⟨s2,rfl,ho⟩,x1⟩;rw [if_pos (Hx h.len h.may).1] at ho;exact ⟨s2,_,rfl,s2,rfl,ho,x1⟩
end Go.Proofs.YtkkkfkopcfdmaaaGreatDoor
