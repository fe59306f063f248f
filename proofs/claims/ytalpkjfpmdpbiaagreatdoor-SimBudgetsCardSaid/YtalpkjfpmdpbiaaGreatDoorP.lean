import Derived.Test.YtalpkjfpmdpbiaaGreatDoorLib
set_option linter.all false
namespace Go.bf
open Go Go.Vc
abbrev Rn:=Int × Int
def aW(l:List Rn):List Int:=l.flatMap λr=>List.replicate r.1.toNat r.2
def gk(out:List Rn)(r:Rn):List Rn:=
 if r.1<1 then out else
 match out.getLast? with
 |some q=>if q.2=r.2 then out.dropLast++ [(q.1+r.1,q.2)] else out++ [r]
 |none=>out++ [r]
def cK(c:List Int):List Rn:=c.foldl (λo b=>gk o (1,b)) []
def ba(l:List Rn):Int:=(l.map (·.1)).sum
inductive Nm:List Rn->Prop
 |nil:Nm []
 |snoc (l:List Rn) (r:Rn) (h:Nm l) (h1:1<=r.1) (h2:∀q,l.getLast? =some q->q.2≠r.2):Nm (l++ [r])
def jS{o:List Rn}{r:Rn}(h:r.1<1):gk o r=o:=by unfold gk;rw [if_pos h]
def fZ{l:List Rn}{q r:Rn}(h1:1<=r.1)(e:q.2=r.2):gk (l++ [q]) r=l++ [(q.1+r.1,q.2)]:=by
 unfold gk;have hl:(l++ [q]).getLast? =some q:=by simp
 rw [if_neg aa,hl];simp [e]
def eA{l:List Rn}{r:Rn}(h1:1<=r.1)(h2:∀q,l.getLast? =some q->q.2≠r.2):gk l r=l++ [r]:=by
 unfold gk;rw [if_neg aa];split
 ·rename_i q hq;rw [if_neg (h2 q hq)]
 ·rfl
def nK(l:List Rn):l=[]\/∃m q,l=m++ [q]:=by
 rcases List.eq_nil_or_concat l with h|⟨m,q,h⟩
 ·exact .inl h
 ·exact .inr ⟨m,q,by simpa using h⟩
def OG(o:List Rn){a c b:Int}(ha:1<=a)(hc:1<=c):gk (gk o (a,b)) (c,b)=gk o (a+c,b):=by
 have hac:1<=a+c:=by omega
 rcases nK o with rfl|⟨m,q,rfl⟩
 ·rw [eA (l:=[]) (r:=(a,b)) ha cy,eA (l:=[]) (r:=(a+c,b)) hac cy,fZ (q:=(a,b)) (r:=(c,b)) hc rfl]
 ·by_cases e:q.2=b
  ·rw [fZ (r:=(a,b)) ha e,fZ (r:=(a+c,b)) hac e,fZ (q:=(q.1+a,q.2)) (r:=(c,b)) hc e];simp [Int.add_assoc]
  ·have h2:∀x:Int,∀p,(m++ [q]).getLast? =some p->p.2≠((x,b):Rn).2:=by intro x p hp;simp at hp;subst hp;exact e
   rw [eA (r:=(a,b)) ha (h2 a),eA (r:=(a+c,b)) hac (h2 _),fZ (q:=(a,b)) (r:=(c,b)) hc rfl]
def HC(o:List Rn)(b:Int):∀n:Nat,(List.replicate n b).foldl (λo b=>gk o (1,b)) o=gk o ((n:Int),b)
 |0=>by rw [jS cy];rfl
 |n+1=>by
  rw [List.replicate_succ',iY,HC o b n]
  show gk (gk o ((n:Int),b)) (1,b)=_
  rcases sJ n with rfl|hn
  ·rw [jS (r:=(((0:Nat):Int),b)) cy];rfl
  ·rw [OG o aa aa];rfl
def VS(c d:List Int):cK (c++d)=d.foldl (λo b=>gk o (1,b)) (cK c):=by unfold cK;rw [iY]
def sV(c:List Int)(r:Rn):gk (cK c) r=cK (c++List.replicate r.1.toNat r.2):=by
 rw [VS,HC];rcases ox r.1 1 with h|h
 ·rw [jS h,jS (by show ((r.1.toNat:Nat):Int)<1;omega)]
 ·rw [show ((r.1.toNat:Nat):Int)=r.1 from by omega]
def Nm.push{o:List Rn}(h:Nm o)(r:Rn):Nm (gk o r):=by
 rcases ox r.1 1 with h1|h1
 ·rw [jS h1];exact h
 ·cases h with
  |nil=>rw [eA h1 cy];exact .snoc _ _ .nil h1 cy
  |snoc l q hl hq h2=>
   by_cases e:q.2=r.2
   ·rw [fZ h1 e];exact .snoc _ _ hl (by show 1<=q.1+r.1;omega) h2
   ·have h3:∀p,(l++ [q]).getLast? =some p->p.2≠r.2:=by intro p hp;simp at hp;subst hp;exact e
    rw [eA h1 h3];exact .snoc _ _ (.snoc _ _ hl hq h2) h1 h3
def zL(c:List Int):Nm (cK c):=by
 have:∀(c:List Int)(o:List Rn),Nm o->Nm (c.foldl (λo b=>gk o (1,b)) o):=by
  intro c
  induction c with
  |nil=>intro o h;exact h
  |cons b c ih=>intro o h;exact ih _ (h.push _)
 exact this c [] .nil
def fk(l m:List Rn):aW (l++m)=aW l++aW m:=by unfold aW;rw [List.flatMap_append]
def gL(r:Rn):aW [r]=List.replicate r.1.toNat r.2:=by simp [aW]
def Nm.fix{l:List Rn}(h:Nm l):cK (aW l)=l:=by
 induction h with
 |nil=>rfl
 |snoc l r hl h1 h2 ih=>
  rw [fk,gL,<-sV,ih,eA h1 h2]
def Nm.pos{l:List Rn}(h:Nm l):∀r ∈ l,1<=r.1:=by
 induction h with
 |nil=>simp
 |snoc l r hl h1 h2 ih=>
  intro q hq;rcases ct.1 hq with hq|hq
  ·exact ih q hq
  ·simp at hq;rw [hq];exact h1
def KQ{o:List Rn}(h:Nm o)(r:Rn):aW (gk o r)=aW o++List.replicate r.1.toNat r.2:=by
 rcases ox r.1 1 with h1|h1
 ·rw [jS h1,show r.1.toNat=0 from by omega];simp
 ·cases h with
  |nil=>rw [eA h1 cy,fk,gL]
  |snoc l q hl hq h2=>
   by_cases e:q.2=r.2
   ·rw [fZ h1 e,fk,fk,gL,gL];show _++List.replicate (q.1+r.1).toNat q.2=_;rw [show (q.1+r.1).toNat=q.1.toNat+r.1.toNat from by omega,<-List.replicate_append_replicate,e];simp
   ·rw [eA h1 (by intro p hp;simp at hp;subst hp;exact e),fk,gL]
def iX(c:List Int):aW (cK c)=c:=by
 have:∀(c:List Int)(o:List Rn),Nm o->aW (c.foldl (λo b=>gk o (1,b)) o)=aW o++c:=by
  intro c
  induction c with
  |nil=>intro o h;simp
  |cons b c ih=>intro o h;rw [jI,ih _ (h.push _),KQ h];simp
 rw [cK,this c [] .nil];rfl
def HD(l m:List Rn):ba (l++m)=ba l+ba m:=by simp [ba]
def dq{l:List Rn}(h:∀r ∈ l,0<=r.1):ba l=((aW l).length:Nat):=by
 induction l with
 |nil=>rfl
 |cons r l ih=>
  have:=ih λq hq=>h q (.tail _ hq)
  have hr:=h r (.head _);simp only [ba,dE,List.sum_cons] at this ⊢;rw [this];simp [aW];omega
def iu(c:List Int):ba (cK c)=(c.length:Nat):=by rw [dq λr hr=>by have:=(zL c).pos r hr;omega,iX]
def Nm.Zo{l:List Rn}(h:Nm l):l.length<=(aW l).length:=by
 induction h with
 |nil=>simp
 |snoc l r hl h1 h2 ih=>rw [fk,gL];simp;omega
def j1(c:List Int):(cK c).length<=c.length:=by have:=(zL c).Zo;rwa [iX] at this
end Go.bf
namespace Go.bf
def VT{l:List Rn}(h:∀r ∈ l,0<=r.1){q:Rn}(hq:q ∈ l):q.1<=ba l:=by
 induction l with
 |nil=>cases hq
 |cons r l ih=>
  have hr:=h r (.head _);have hl:0<=ba l:=by rw [dq λq hq=>h q (.tail _ hq)];omega
  have e:ba (r::l)=r.1+ba l:=by simp [ba]
  rw [e];rcases bI.1 hq with rfl|hq
  ·omega
  ·have:=ih (λq hq=>h q (.tail _ hq)) hq;omega
def iH{c:List Int}{q:Rn}(hq:q ∈ cK c):1<=q.1/\q.1<=(c.length:Nat):=by have h:=(zL c).pos;refine ⟨h q hq,?_⟩;rw [<-iu];exact VT (λr hr=>by have:=h r hr;omega) hq
def BU(c:List Int)(a b:Int):List Int:=(c.take b.toNat).drop a.toNat
def Sc(c:List Int)(n:Nat)(x a b:Int)(ha:0<=a)(hb:0<=b):
  BU (c++List.replicate n x) a b=BU c a b++List.replicate (min b (c.length+n:Nat)-max a (c.length:Nat)).toNat x:=by
 unfold BU;rw [List.take_append,List.drop_append,List.take_replicate,List.drop_replicate,bG];congr 2;omega
end Go.bf
namespace Go.bf
def tE(c:List Int)(a b x:Int):List Int:=c.mapIdx λi y=>if a<=(i:Int)/\(i:Int)<b then x else y
def OH(c:List Int)(a b x:Int):(tE c a b x).length=c.length:=by simp [tE]
def KR(c:List Int)(a b x:Int)(h:min (max b 0) (c.length:Int)<=min (max a 0) (c.length:Int)):tE c a b x=c:=by
 apply ik;intro i;unfold tE;rw [List.getElem?_mapIdx];rcases fx i c.length with hi|hi
 ·rw [cr hi];show some (if _ then x else _)=_;rw [if_neg aa]
 ·rw [il hi];rfl
def CY(c:List Int)(a b x:Int)(h:min (max a 0) (c.length:Int)<min (max b 0) (c.length:Int)):
  tE c a b x=BU c 0 (min (max a 0) (c.length:Int))++List.replicate (min (max b 0) (c.length:Int)-min (max a 0) (c.length:Int)).toNat x++BU c (min (max b 0) (c.length:Int)) c.length:=by
 have h1:(BU c 0 (min (max a 0) (c.length:Int))).length=(min (max a 0) (c.length:Int)).toNat:=by unfold BU;simp;omega
 apply ik;intro i;unfold tE;rw [List.getElem?_mapIdx,mU];rcases fx i c.length with hi|hi
 ·rw [cr hi];show some (if _ then x else _)=_;rcases fx i (min (max a 0) (c.length:Int)).toNat with hl|hl
  ·rw [if_neg aa,kP aa];unfold BU;rw [sG,mT];simp only [Int.toNat_zero,cO];rw [if_pos hl,cr hi]
  ·rw [mS aa,h1];rcases fx i (min (max b 0) (c.length:Int)).toNat with hm|hm
   ·rw [if_pos aa,kP (by rw [sU];omega),Mt,if_pos aa]
   ·rw [if_neg aa,mS (by rw [sU];omega),sU];unfold BU;rw [sG,mT,if_pos aa];rw [show (min (max b 0) (c.length:Int)).toNat+(i-(min (max a 0) (c.length:Int)).toNat-(min (max b 0) (c.length:Int)-min (max a 0) (c.length:Int)).toNat)=i from by omega];rw [cr hi]
 ·rw [il hi];symm;rw [Option.map_none,il];simp only [eK,sU,h1];unfold BU;simp;omega
def OI(c:List Int)(i x:Int)(h0:0<=i)(h1:i<(c.length:Int)):tE c i (i+1) x=c.set i.toNat x:=by
 apply ik;intro j;unfold tE;rw [List.getElem?_mapIdx,ij];rcases fx j c.length with hj|hj
 ·rw [cr hj];show some (if _ then x else _)=_;by_cases e:i.toNat=j
  ·rw [if_pos aa,if_pos e,if_pos aa]
  ·rw [if_neg aa,if_neg e]
 ·rw [il hj,if_neg aa];rfl
def NV(c:List Int)(i:Int):Int:=if i<0 then -1 else c.getD i.toNat (-1)
def VU(c:List Int)(i:Int)(h:i<0\/(c.length:Int)<=i):NV c i= -1:=by
 unfold NV;split
 ·rfl
 ·rw [cZ,il aa];rfl
def Zp(c d:List Int)(n:Nat)(x i:Int)(h0:(c.length:Int)<=i)(h1:i<(c.length:Int)+n):NV (c++List.replicate n x++d) i=x:=by unfold NV;rw [if_neg aa,cZ,mU,mS aa,kP (by rw [sU];omega),Mt,if_pos aa];rfl
def lZ(may:Int->Bool):Option Int->Int->List Rn->Bool
 |_,left,[]=>left==0
 |prev,left,r::t=>if r.1<1\/r.1>left\/may r.2=false\/prev=some r.2 then false else lZ may (some r.2) (left-r.1) t
def jv(may:Int->Bool)(l:List Rn)(n:Int):Bool:=decide (0<n) && lZ may none n l
def HE{may:Int->Bool}:∀{l:List Rn} {prev:Option Int} {left:Int},lZ may prev left l=true->ba l=left
 | [],_,left,h=>by simp [lZ] at h;rw [h];rfl
 |r::t,prev,left,h=>by
  unfold lZ at h
  split at h
  ·cases h
  ·have:=HE h
   simp only [ba,dE,List.sum_cons] at this ⊢
   omega
def uT{may:Int->Bool}:∀{l:List Rn} {prev:Option Int} {left:Int},(∀r ∈ l,1<=r.1/\may r.2=true)->(∀i q r,l[i]? =some q->l[i+1]? =some r->q.2≠r.2)->(∀r,l.head? =some r->prev≠some r.2)->ba l=left->lZ may prev left l=true
 | [],_,left,_,_,_,h=>by simp [lZ,<-h,ba]
 |r::t,prev,left,h1,h2,h3,h=>by
  have hr:=h1 r (.head _)
  have ht:0<=ba t:=by rw [dq λq hq=>by have:=h1 q (.tail _ hq);omega];omega
  have e:ba (r::t)=r.1+ba t:=by simp [ba]
  unfold lZ;rw [if_neg (by
   have:=h3 r rfl;rintro (h|h|h|h)
   ·omega
   ·omega
   ·rw [hr.2] at h;cases h
   ·exact this h)]
  refine uT (λq hq=>h1 q (.tail _ hq)) (λi q s hq hs=>h2 (i+1) q s (by simpa using hq) (by simpa using hs)) (λq hq=> ?_) aa;have:=h2 0 r q rfl (by cases t<;>simp_all);intro e2;exact this (Option.some.inj e2)
def Nm.next{l:List Rn}(h:Nm l):∀i q r,l[i]? =some q->l[i+1]? =some r->q.2≠r.2:=by
 induction h with
 |nil=>intro i q r h;simp at h
 |snoc l p hl h1 h2 ih=>
  intro i q r hq hr;rcases fx (i+1) l.length with ft|Lv
  ·rw [kP aa] at hq hr;exact ih i q r hq hr
  ·have hi:=(bF.1 hr).1;simp at hi;have:i+1=l.length:=by omega
   rw [kP aa] at hq;rw [mS aa,this] at hr;simp at hr;subst hr;refine h2 q ?_;rw [List.getLast?_eq_getElem?,show l.length-1=i from by omega];exact hq
def N5{l:List Rn}{r:Rn}(h:r ∈ l)(h1:1<=r.1):r.2 ∈ aW l:=by unfold aW;refine List.mem_flatMap.2 ⟨r,h,?_⟩;rw [QA];exact ⟨by omega,rfl⟩
end Go.bf
namespace Go.bf
def VK{c:List Int}{i:Int}(h0:0<=i)(h1:i<(c.length:Int)):c[i.toNat]? =some (NV c i):=by unfold NV;rw [if_neg aa,cZ,cr aa];rfl
end Go.bf
namespace Go.Code
open Go Go.Vc Go.bf
def lY:Nat->Int->List Int
 |0,_=> []
 |k+1,x=>if x<128 then [x] else (128+x % 128)::lY k (x / 128)
def ia(n:Int):List Int:=if n<0\/n>1048576 then [] else lY 3 n
def mC:Nat->Nat->Int->List Int->Int × Int × Int
 |0,_,_,_=>(0,0,2)
 |_+1,_,_,[]=>(0,0,3)
 |k+1,i,n,c::t=>if c>=128 then mC k (i+1) (n+c % 128*128 ^ i) t
  else if (c=0/\0<i)\/n+c % 128*128 ^ i>1048576 then (0,0,2) else (n+c % 128*128 ^ i,(i:Int)+1,0)
def dL(b:List Int):Int × Int × Int:=mC 3 0 0 b
def wrap_u8(x:Int):me x=x % 256:=by unfold IntKind.wrap;simp [IntKind.bits,IntKind.signed]
def acU(x:Int)(h:0<=x):FI .u8 (me x) 128=128+x % 128:=by
 rw [wrap_u8];have key:∀a<256,FI .u8 ((a:Nat):Int) 128=128+((a:Nat):Int) % 128:=by decide+kernel
 have:=key (x % 256).toNat aa;rw [show (((x % 256).toNat:Nat):Int)=x % 256 from by omega] at this;rw [this];omega
def NA(c:Int)(h:0<=c)(h':c<256):jZ .u8 c 128=c % 128:=by
 have key:∀a<256,jZ .u8 ((a:Nat):Int) 128=((a:Nat):Int) % 128:=by decide+kernel
 have:=key c.toNat aa;rwa [show ((c.toNat:Nat):Int)=c from by omega] at this
def Zb(n c k:Nat)(h:n<2 ^ k)(hb:n+c*2 ^ k<4611686018427387904):FI .i64 (n:Int) ((c*2 ^ k:Nat):Int)=((n+c*2 ^ k:Nat):Int):=by
 unfold FI;have e1:∀m:Nat,m<4611686018427387904->(BitVec.ofInt IntKind.i64.bits (m:Int)).toNat=m:=by intro m hm;rw [y3];show ((m:Int) %((2 ^ 64:Nat):Int)).toNat=m;rw [show ((2 ^ 64:Nat):Int)=18446744073709551616 from by decide];omega
 rw [BitVec.toNat_or,e1 n aa,e1 _ aa,Nat.or_comm];have:=Nat.shiftLeft_add_eq_or_of_lt h c;rw [Nat.shiftLeft_eq] at this;rw [<-this,Ct];exact wI
end Go.Code
namespace Go.Code
open Go Go.Vc Go.bf
def Zc(k:Nat)(hk:k<3)(n c:Int)(h0:0<=n)(h1:n<128 ^ k)(hc:0<=c)(hc':c<256):
  FI .i64 n (ai ((ai (jZ .u8 c 128))*2 ^(min ((ai (7*(k:Int))):Int).toNat 64)))=n+c % 128*128 ^ k/\0<=ai (7*(k:Int)):=by
 have hw:=az (n:=7*(k:Int)) (by unfold inI;omega);rw [hw,NA c hc hc',az (n:=c % 128) (by unfold inI;omega)];refine ⟨?_,by omega⟩;have e:((2:Int) ^(min ((7*(k:Int)):Int).toNat 64))=128 ^ k:=by
  have:k=0\/k=1\/k=2:=by omega
  rcases this with rfl|rfl|rfl<;>decide
 rw [e];have hp:(128:Int) ^ k<=16384/\1<=(128:Int) ^ k:=by
  have:k=0\/k=1\/k=2:=by omega
  rcases this with rfl|rfl|rfl<;>decide
 have hm:c % 128*128 ^ k<=127*16384:=by
  have:k=0\/k=1\/k=2:=by omega
  rcases this with rfl|rfl|rfl<;>simp<;>omega
 have hm0:0<=c % 128*128 ^ k:=oy aa aa;rw [az (n:=c % 128*128 ^ k) (by unfold inI;omega)];have e7:((2 ^(7*k):Nat):Int)=128 ^ k:=by
  have:k=0\/k=1\/k=2:=by omega
  rcases this with rfl|rfl|rfl<;>decide
 have e2:c % 128*128 ^ k=(((c % 128).toNat*2 ^(7*k):Nat):Int):=by rw [Int.natCast_mul,e7,show (((c % 128).toNat:Nat):Int)=c % 128 from by omega]
 have:=Zb n.toNat (c % 128).toNat (7*k) (by
  have:((n.toNat:Nat):Int)<((2 ^(7*k):Nat):Int):=by rw [e7];omega
  omega) (by
  have:(((c % 128).toNat*2 ^(7*k):Nat):Int)<=127*16384:=by rw [<-e2];exact hm
  omega)
 rw [e2,show n=((n.toNat:Nat):Int) from by omega];rw [this];simp
def qp{k j:Nat}{n c:Int}{t:List Int}:mC (j+1) k n (c::t)=if c>=128 then mC j (k+1) (n+c % 128*128 ^ k) t
   else if (c=0/\0<k)\/n+c % 128*128 ^ k>1048576 then (0,0,2) else (n+c % 128*128 ^ k,(k:Int)+1,0):=rfl
def Gk(k:Nat)(n c:Int)(h1:n<128 ^ k):n+c % 128*128 ^ k<128 ^(k+1):=by have hp:0<=(128:Int) ^ k:=Int.pow_nonneg aa;have:c % 128*128 ^ k<=127*128 ^ k:=Int.mul_le_mul_of_nonneg_right aa hp;rw [Int.pow_succ];omega
end Go.Code
namespace Go.Code
open Go Go.Vc Go.bf
def sX:Int->List Rn->Bool
 |_,[]=>true
 |left,r::t=>if r.1<1\/r.1>left then false else sX (left-r.1) t
def zu:∀{l:List Rn} {left:Int},sX left l=true->(∀r ∈ l,1<=r.1)/\(l≠ []->ba l<=left)
 | [],_,_=>⟨by simp,λh=>absurd rfl h⟩
 |r::t,left,h=>by
  unfold sX at h
  split at h
  ·cases h
  ·obtain ⟨h1,h2⟩:=zu h
   refine ⟨λq hq=> ?_,λ_=> ?_⟩
   ·rcases bI.1 hq with rfl|hq
    ·omega
    ·exact h1 q hq
   ·have e:ba (r::t)=r.1+ba t:=by simp [ba]
    by_cases ht:t=[]
    ·subst ht;rw [e];simp [ba];omega
    ·have:=h2 ht;omega
def okW(may:Int->Bool)(l:List Rn):Bool:=sX 1048576 l && jv may l (ba l)
def ku(l:List Rn):List Int:=l.flatMap λr=>r.2 % 256::ia r.1
def Vz(l m:List Rn):ku (l++m)=ku l++ku m:=by unfold ku;rw [List.flatMap_append]
def Gl{l:List Rn}{k:Nat}{r:Rn}(hr:l[k]? =some r):ku (l.take (k+1))=ku (l.take k)++(r.2 % 256::ia r.1):=by rw [cu,hr,Vz];simp [ku]
def Gm:∀(k:Nat)(x:Int),(lY k x).length<=k
 |0,_=>by simp [lY]
 |k+1,x=>by
  unfold lY
  split
  ·simp
  ·have:=Gm k (x / 128);simp;omega
def sY(n:Int):(ia n).length<=3:=by
 unfold ia;split
 ·simp
 ·exact Gm 3 n
def DQ(l:List Rn):(ku l).length<=4*l.length:=by
 induction l with
 |nil=>simp [ku]
 |cons r l ih=>
  have:=sY r.1;unfold ku at ih ⊢;rw [List.flatMap_cons,eK,fR,fR];omega
def Mg:∀(k:Nat)(x:Int),0<=x->∀c ∈ lY k x,0<=c/\c<256
 |0,_,_,c,h=>by simp [lY] at h
 |k+1,x,hx,c,h=>by
  unfold lY at h
  split at h
  ·simp at h;omega
  ·rcases bI.1 h with rfl|h
   ·omega
   ·exact Mg k (x / 128) aa c h
def VA(n:Int):∀c ∈ ia n,0<=c/\c<256:=by
 intro c h;unfold ia at h;split at h
 ·simp at h
 ·exact Mg 3 n aa c h
def Y7(l:List Rn):∀c ∈ ku l,0<=c/\c<256:=by
 intro c h;unfold ku at h;obtain ⟨r,_,hc⟩:=List.mem_flatMap.1 h;rcases bI.1 hc with rfl|hc
 ·omega
 ·exact VA r.1 c hc
end Go.Code
namespace Go.Code
open Go Go.Vc Go.bf
end Go.Code
namespace Go.Code
open Go Go.Vc Go.bf
def CK:∀{l:List Rn} {left:Int},(∀r ∈ l,1<=r.1)->ba l<=left->sX left l=true
 | [],_,_,_=>rfl
 |r::t,left,h,hs=>by
  have e:ba (r::t)=r.1+ba t:=by simp [ba]
  have h1:=h r (.head _);have ht:0<=ba t:=by rw [dq λq hq=>by have:=h q (.tail _ hq);omega];omega
  unfold sX;rw [if_neg aa];exact CK (λq hq=>h q (.tail _ hq)) aa
def Zd{may:Int->Bool}{l:List Rn}(h:Nm l)(hm:∀r ∈ l,may r.2=true)(hs:ba l<=1048576)(dI:l≠ []):okW may l=true:=by
 unfold okW;rw [CK h.pos hs];unfold jv;have hp:0<ba l:=by
  cases l with
  |nil=>exact absurd rfl dI
  |cons r t=>
   have e:ba (r::t)=r.1+ba t:=by simp [ba]
   have h1:=h.pos r (.head _);have ht:0<=ba t:=by rw [dq λq hq=>by have:=h.pos q (.tail _ hq);omega];omega
   omega
 rw [decide_eq_true hp,uT (λr hr=>⟨h.pos r hr,hm r hr⟩) h.next (λr _=>by simp) rfl];rfl
end Go.Code
namespace Go.Code
open Go Go.Vc Go.bf
def ki(may:Int->Bool):Nat->List Int->Int->Int->List Rn->List Rn × Int
 |0,_,_,_,_=>([],3)
 |_+1,[],n,_,acc=>if n>0 then ([],3) else (acc,0)
 |f+1,c::t,n,last,acc=>
  if may c=false\/c=last then ([],2)
  else if (dL t).2.2≠0 then ([],(dL t).2.2)
  else if (dL t).1=0\/(dL t).1>n then ([],2)
  else if n-(dL t).1=0 then (if t.drop (dL t).2.1.toNat=[] then (acc++ [((dL t).1,c)],0) else ([],2))
  else ki may f (t.drop (dL t).2.1.toNat) (n-(dL t).1) c (acc++ [((dL t).1,c)])
def cJ(may:Int->Bool)(b:List Int)(n:Int):List Rn × Int:=ki may (b.length+1) b n (-1) []
def sZ:∀(k i:Nat)(m:Int)(b:List Int),0<=m->(mC k i m b).2.2=0->0<=(mC k i m b).1/\(mC k i m b).1<=1048576/\(i:Int)+1<=(mC k i m b).2.1/\(mC k i m b).2.1<=(i:Int)+b.length
 |0,_,_,_,_,h=>by simp [mC] at h
 |k+1,i,m,[],_,h=>by simp [mC] at h
 |k+1,i,m,c::t,h0,h=>by
  have hp:0<=c % 128*128 ^ i:=oy aa (Int.pow_nonneg aa)
  rw [qp] at h ⊢
  split
  ·rename_i hc
   rw [if_pos hc] at h
   have:=sZ k (i+1) _ t aa h
   simp only [fR]
   omega
  ·rename_i hc
   rw [if_neg hc] at h
   split
   ·rename_i hz;rw [if_pos hz] at h;simp at h
   ·rename_i hz
    simp only [fR]
    refine ⟨by omega,?_,by omega,by omega⟩
    rcases ox 1048576 (m+c % 128*128 ^ i) with hh|hh
    ·exact absurd (.inr hh) hz
    ·exact hh
end Go.Code
namespace Go.Code
open Go Go.Vc Go.bf
def Dd{may:Int->Bool}{f:Nat}{n last:Int}{acc:List Rn}:ki may (f+1) [] n last acc=if n>0 then ([],3) else (acc,0):=rfl
def wK(may:Int->Bool)(f:Nat)(c:Int)(t:List Int)(n last:Int)(acc:List Rn):ki may (f+1) (c::t) n last acc=
  if may c=false\/c=last then ([],2)
  else if (dL t).2.2≠0 then ([],(dL t).2.2)
  else if (dL t).1=0\/(dL t).1>n then ([],2)
  else if n-(dL t).1=0 then (if t.drop (dL t).2.1.toNat=[] then (acc++ [((dL t).1,c)],0) else ([],2))
  else ki may f (t.drop (dL t).2.1.toNat) (n-(dL t).1) c (acc++ [((dL t).1,c)]):=rfl
def De{may:Int->Bool}:∀(f:Nat)(b:List Int)(n last:Int)(acc:List Rn),(ki may f b n last acc).1.length<=acc.length+b.length
 |0,_,_,_,_=>by simp [ki]
 |f+1,[],n,_,acc=>by rw [Dd];split<;>simp
 |f+1,c::t,n,last,acc=>by
  rw [wK]
  split
  ·simp
  split
  ·simp
  split
  ·simp
  split
  ·split<;>simp
  ·have:=De (may:=may) f (t.drop (dL t).2.1.toNat) (n-(dL t).1) c (acc++ [((dL t).1,c)])
   simp only [eK,fR,MF,iw] at this ⊢
   omega
def O8{may:Int->Bool}(b:List Int)(n:Int):(cJ may b n).1.length<=b.length:=by have:=De (may:=may) (b.length+1) b n (-1) [];simpa [cJ] using this
def gI(may:Int->Bool):Int->List Rn->Prop
 |_,[]=>True
 |last,r::t=>1<=r.1/\r.1<=1048576/\0<=r.2/\r.2<256/\may r.2=true/\r.2≠last/\gI may r.2 t
def gI.pos{may:Int->Bool}:∀{l:List Rn} {last:Int},gI may last l->∀r ∈ l,1<=r.1
 | [],_,_=>by simp
 |q::t,_,h=>by
  obtain ⟨h1,_,_,_,_,_,h7⟩:=h
  intro r hr
  rcases bI.1 hr with rfl|hr
  ·exact h1
  ·exact h7.pos r hr
def Iu(r:Rn)(t:List Rn)(h:0<=r.2/\r.2<256):ku (r::t)=r.2::(ia r.1++ku t):=by unfold ku;rw [List.flatMap_cons,Int.emod_eq_of_lt h.1 h.2];rfl
def O9(r:Rn)(t:List Rn):ba (r::t)=r.1+ba t:=by simp [ba]
def Tj{t:List Int}(hi:∀c ∈ t,0<=c/\c<256)(h:(dL t).2.2=0):ia (dL t).1=t.take (dL t).2.1.toNat:=by
 unfold dL at h ⊢
 cases t with
 |nil=>simp [mC] at h
 |cons a t=>
  have ha:=hi a (.head _);rw [qp] at h ⊢;split
  ·rename_i ha2;rw [if_pos ha2] at h
   cases t with
   |nil=>simp [mC] at h
   |cons b t=>
    have hb:=hi b (.tail _ (.head _));rw [qp] at h ⊢;split
    ·rename_i fi;rw [if_pos fi] at h
     cases t with
     |nil=>simp [mC] at h
     |cons c t=>
      have hc:=hi c (.tail _ (.tail _ (.head _)));rw [qp] at h ⊢;split
      ·rename_i jE;rw [if_pos jE] at h;simp [mC] at h
      ·rename_i jE;rw [if_neg jE] at h;split
       ·rename_i hz;rw [if_pos hz] at h;simp at h
       ·rename_i hz;have e:(0+a % 128*128 ^ 0+b % 128*128 ^(0+1)+c % 128*128 ^(0+1+1):Int)=a % 128+b % 128*128+c % 128*16384:=by simp
        rw [e] at hz ⊢;have Ft:c≠0:=λe0=>hz (.inl ⟨e0,by omega⟩)
        have hle:a % 128+b % 128*128+c % 128*16384<=1048576:=by
         rcases ox 1048576 (a % 128+b % 128*128+c % 128*16384) with hh|hh
         ·exact absurd (.inr hh) hz
         ·exact hh
        have ec:c % 128=c:=by omega
        rw [ec] at hle ⊢;unfold ia;rw [if_neg aa];simp only [lY];rw [if_neg aa,if_neg aa,if_pos aa];have e1:128+(a % 128+b % 128*128+c*16384) % 128=a:=by omega
        have e2:128+(a % 128+b % 128*128+c*16384) / 128 % 128=b:=by omega
        have e3:(a % 128+b % 128*128+c*16384) / 128 / 128=c:=by omega
        rw [e1,e2,e3];rfl
    ·rename_i fi;rw [if_neg fi] at h;split
     ·rename_i hz;rw [if_pos hz] at h;simp at h
     ·rename_i hz;have e:(0+a % 128*128 ^ 0+b % 128*128 ^(0+1):Int)=a % 128+b % 128*128:=by simp
      rw [e] at hz ⊢;have hb0:b≠0:=λe0=>hz (.inl ⟨e0,by omega⟩)
      have ec:b % 128=b:=by omega
      rw [ec] at hz ⊢;unfold ia;rw [if_neg aa];simp only [lY];rw [if_neg aa,if_pos aa];have e1:128+(a % 128+b*128) % 128=a:=by omega
      have e2:(a % 128+b*128) / 128=b:=by omega
      rw [e1,e2];rfl
  ·rename_i ha2;rw [if_neg ha2] at h;split
   ·rename_i hz;rw [if_pos hz] at h;simp at h
   ·have ec:a % 128=a:=by omega
    rw [ec];have e:(0+a*128 ^ 0:Int)=a:=by simp
    rw [e];unfold ia;rw [if_neg aa];simp only [lY];rw [if_pos aa];rfl
def wL{may:Int->Bool}:∀(f:Nat)(b:List Int)(n last:Int)(acc:List Rn),(∀c ∈ b,0<=c/\c<256)->1<=n->(ki may f b n last acc).2=0->
  ∃l,(ki may f b n last acc).1=acc++l/\ku l=b/\gI may last l/\ba l=n/\l≠ []
 |0,_,_,_,_,_,_,h=>by simp [ki] at h
 |f+1,[],n,_,acc,_,hn,h=>by rw [Dd,if_pos aa] at h;simp at h
 |f+1,c::t,n,last,acc,hi,hn,h=>by
  have hc:=hi c (.head _)
  have ht:∀c ∈ t,0<=c/\c<256:=λq hq=>hi q (.tail _ hq)
  rw [wK] at h ⊢
  split
  ·rename_i h1;rw [if_pos h1] at h;simp at h
  rename_i h1
  rw [if_neg h1] at h
  split
  ·rename_i h2;rw [if_pos h2] at h;exact absurd h h2
  rename_i h2
  rw [if_neg h2] at h
  split
  ·rename_i h3;rw [if_pos h3] at h;simp at h
  rename_i h3
  rw [if_neg h3] at h
  have UO:(dL t).2.2=0:=Decidable.not_not.1 h2
  have hd:=sZ 3 0 0 t aa UO
  have ae8:=Tj ht UO
  rw [show mC 3 0 0 t=dL t from rfl] at hd
  generalize hdg:dL t=d at*
  obtain ⟨sz,k,er⟩:=d
  simp only at h h3 hd ae8 ⊢
  have ae9:may c=true:=by
   cases hm:may c with
   |true=>rfl
   |false=>exact absurd (.inl hm) h1
  have Pp:c≠last:=λe=>h1 (.inr e)
  have kJ:ia sz++t.drop k.toNat=t:=by rw [ae8];exact kf _ _
  split
  ·rename_i h4;rw [if_pos h4] at h;split
   ·rename_i h5;refine ⟨[(sz,c)],rfl,?_,⟨by show 1<=sz;omega,by show sz<=1048576;omega,hc.1,hc.2,ae9,Pp,trivial⟩,by simp [ba];omega,by simp⟩;rw [Iu _ _ hc];rw [h5,F9] at kJ;simp [kJ,ku]
   ·rename_i h5;rw [if_neg h5] at h;simp at h
  ·rename_i h4;rw [if_neg h4] at h;obtain ⟨l,e1,e2,e3,e4,e5⟩:=wL f (t.drop k.toNat) (n-sz) c (acc++ [(sz,c)]) (λq hq=>ht q (ow hq)) aa h;refine ⟨(sz,c)::l,by rw [e1];simp,?_,⟨by show 1<=sz;omega,by show sz<=1048576;omega,hc.1,hc.2,ae9,Pp,e3⟩,by rw [O9];show sz+ba l=n;omega,by simp⟩;rw [Iu _ _ hc,e2];show c::(ia sz++t.drop k.toNat)=_;rw [kJ]
def gI.of{may:Int->Bool}:∀{l:List Rn} {last:Int},(∀r ∈ l,1<=r.1/\r.1<=1048576/\0<=r.2/\r.2<256/\may r.2=true)->(∀i q r,l[i]? =some q->l[i+1]? =some r->q.2≠r.2)->(∀r,l.head? =some r->r.2≠last)->gI may last l
 | [],_,_,_,_=>trivial
 |r::t,last,h1,h2,h3=>by
  obtain ⟨a,b,c,d,e⟩:=h1 r (.head _)
  refine ⟨a,b,c,d,e,h3 r rfl,gI.of (λq hq=>h1 q (.tail _ hq)) (λi q s hq hs=>h2 (i+1) q s (by simpa using hq) (by simpa using hs)) (λq hq=> ?_)⟩
  have:=h2 0 r q rfl (by cases t<;>simp_all)
  exact λe=>this e.symm
def gI.next{may:Int->Bool}:∀{l:List Rn} {last:Int},gI may last l->∀i q r,l[i]? =some q->l[i+1]? =some r->q.2≠r.2
 | [],_,_,i,q,r,h,_=>by simp at h
 | [x],_,_,i,q,r,h,h'=>by simp at h'
 |x::y::t,_,h,0,q,r,hq,hr=>by
  simp at hq hr;subst hq;subst hr
  exact λe=>h.2.2.2.2.2.2.2.2.2.2.2.1 e.symm
 |x::y::t,_,h,i+1,q,r,hq,hr=>h.2.2.2.2.2.2.next i q r (by simpa using hq) (by simpa using hr)
def gI.mem{may:Int->Bool}:∀{l:List Rn} {last:Int},gI may last l->∀r ∈ l,1<=r.1/\r.1<=1048576/\0<=r.2/\r.2<256/\may r.2=true
 | [],_,_,r,h=>by cases h
 |q::t,_,h,r,hr=>by
  rcases bI.1 hr with rfl|hr
  ·exact ⟨h.1,h.2.1,h.2.2.1,h.2.2.2.1,h.2.2.2.2.1⟩
  ·exact h.2.2.2.2.2.2.mem r hr
def gI.jv{may:Int->Bool}{l:List Rn}{last:Int}(h:gI may last l)(dI:1<=ba l):jv may l (ba l)=true:=by unfold Go.bf.jv;rw [decide_eq_true aa,uT (λr hr=>⟨h.pos r hr,(h.mem r hr).2.2.2.2⟩) h.next (λr _=>by simp) rfl];rfl
end Go.Code
namespace Go.dQ
open Go Go.Vc
abbrev Ce:=Int × Int × Int
abbrev Po:=Int × Int
def tdm{a b:Int}(hb:0<b):(a.tmod b<0->a / b=a.tdiv b-1/\a % b=a.tmod b+b)/\(0<=a.tmod b->a / b=a.tdiv b/\a % b=a.tmod b)/\-b<a.tmod b/\a.tmod b<b:=by
 have h1:b*a.tdiv b+a.tmod b=a:=Int.mul_tdiv_add_tmod a b;have h2:a.tmod b<b:=Int.tmod_lt_of_pos a hb;have h3: -b<a.tmod b:=by have:=Int.tmod_lt_of_pos (-a) hb;rw [Int.neg_tmod] at this;omega
 refine ⟨λh=> ?_,λh=> ?_,h3,h2⟩
 ·have:=(Int.ediv_emod_unique hb (a:=a) (q:=a.tdiv b-1) (r:=a.tmod b+b)).2 ⟨by rw [Int.mul_sub];omega,by omega,by omega⟩;exact this
 ·exact (Int.ediv_emod_unique hb (a:=a) (q:=a.tdiv b) (r:=a.tmod b)).2 ⟨by omega,by omega,by omega⟩
def L8{a b:Int}(ha:inI a)(hb:0<b):inI (a / b):=by
 unfold inI at*;have h1:=Int.emod_nonneg a (by omega:b≠0);have h2:=Int.emod_lt_of_pos a hb;have h3:=Int.mul_ediv_add_emod a b;rcases ox a 0 with h|h
 ·have h4:a<=a / b:=by rw [Int.le_ediv_iff_mul_le hb];have:=Int.mul_le_mul_of_nonpos_left (a:=a) (b:=b) (c:=1) aa aa;omega
  have h5:a / b<0:=Int.ediv_neg_of_neg_of_pos h hb;omega
 ·have h4:a / b<=a:=Int.ediv_le_self b h;have h5:0<=a / b:=Int.ediv_nonneg h aa;omega
def L9{a b:Int}(ha:inI a)(hb:0<b):inI (a.tdiv b):=by
 unfold inI at*;rcases ox a 0 with h|h
 ·have h1:a.tdiv b= -((-a) / b):=by rw [<-oz aa,Int.neg_tdiv];omega
  have h4:(-a) / b<=-a:=Int.ediv_le_self b aa;have h5:0<=(-a) / b:=Int.ediv_nonneg aa aa;omega
 ·rw [oz h];have h4:a / b<=a:=Int.ediv_le_self b h;have h5:0<=a / b:=Int.ediv_nonneg h aa;omega
def u64_in(n:Int):0<=bD n/\bD n<18446744073709551616:=by unfold IntKind.wrap;simp only [IntKind.bits,IntKind.signed];simp;omega
def R4{n:Int}(h:0<=n/\n<18446744073709551616):bD n=n:=by unfold IntKind.wrap;simp only [IntKind.bits,IntKind.signed];simp;omega
def mix(ag x z:Int):Int:=bD ((bD ((bD ((bD ag)*11400714819323198485))+(bD ((bD x)*14029467366897019727))))+(bD ((bD z)*1609587929392839161)))
def hash(ag x z:Int):Int:=
 gw .u64 (bD ((gw .u64 (mix ag x z) (mix ag x z / 536870912))*13787848793156543929)) (bD ((gw .u64 (mix ag x z) (mix ag x z / 536870912))*13787848793156543929) / 4294967296)
def Vy(ag x z:Int):0<=hash ag x z:=by unfold hash gw;exact (u64_in _).1
def agO(n:Int):(bD n).fdiv (2 ^(min (29:Int).toNat 64))=bD n / 536870912:=Ac _ aE
def agP(n:Int):(bD n).fdiv (2 ^(min (32:Int).toNat 64))=bD n / 4294967296:=Ac _ aE
def agQ(n:Int):bD (Int.tdiv (bD n) 536870912)=bD n / 536870912:=by have h:=u64_in n;rw [oz h.1,R4 aa]
def agR(n:Int):bD (Int.tdiv (bD n) 4294967296)=bD n / 4294967296:=by have h:=u64_in n;rw [oz h.1,R4 aa]
def bH(ag x z:Int):Int:=hash ag x z % 9
def ground(ag x z:Int):Int:=
 6+(bH ag (x / 8) (z / 8)*((8-x % 8)*(8-z % 8))+bH ag (x / 8+1) (z / 8)*(x % 8*(8-z % 8))+bH ag (x / 8) (z / 8+1)*((8-x % 8)*(z % 8))+bH ag (x / 8+1) (z / 8+1)*(x % 8*(z % 8))) / 64
def Bi(y g:Int):Int:=
 if y<0\/32<=y then 0 else if y=0\/y<g-3 then 1 else if y<g-1\/(y=g-1/\9<g) then 2 else if y=g-1 then 3 else if y<9 then 8 else 0
def kF{c u v:Int}(hc:0<=c/\c<=8)(hu:0<=u/\u<=8)(hv:0<=v/\v<=8):0<=u*v/\u*v<=64/\0<=c*(u*v)/\c*(u*v)<=512:=by have h1:0<=u*v:=oy hu.1 hv.1;have h2:u*v<=8*8:=Int.mul_le_mul hu.2 hv.2 hv.1 aE;have h3:0<=c*(u*v):=oy hc.1 h1;have h4:c*(u*v)<=8*64:=Int.mul_le_mul hc.2 h2 h1 aE;exact ⟨h1,h2,h3,h4⟩
def db(s x z:Int):0<=bH s x z/\bH s x z<=8:=by unfold bH;omega
def mX(s x z:Int):6<=ground s x z/\ground s x z<=100:=by unfold ground;have a:=kF (db s (x / 8) (z / 8)) (u:=8-x % 8) (v:=8-z % 8) aa aa;have b:=kF (db s (x / 8+1) (z / 8)) (u:=x % 8) (v:=8-z % 8) aa aa;have c:=kF (db s (x / 8) (z / 8+1)) (u:=8-x % 8) (v:=z % 8) aa aa;have d:=kF (db s (x / 8+1) (z / 8+1)) (u:=x % 8) (v:=z % 8) aa aa;omega
def idx(c:Ce):Int:=(c.2.1*16+c.2.2 % 16)*16+c.1 % 16
def kX(c:Ce):Prop:=0<=c.2.1/\c.2.1<32
def pos(c:Ce):Po:=(c.1 / 16,c.2.2 / 16)
def cellAt(p:Po)(i:Int):Ce:=(p.1*16+i % 16,i / 256,p.2*16+i / 16 % 16)
def nP{c:Ce}(h:kX c):0<=idx c/\idx c<8192:=by unfold idx;unfold kX at h;omega
def KK{c:Ce}(h:kX c):cellAt (pos c) (idx c)=c:=by unfold cellAt idx pos;unfold kX at h;refine Prod.ext ?_ (Prod.ext ?_ ?_)<;>simp only<;>omega
def made(ag:Int)(p:Po):List Int:=(List.range 8192).map λi:Nat=>Bi ((i:Int) / 256) (ground ag (p.1*16+(i:Int) % 16) (p.2*16+(i:Int) / 16 % 16))
def gD(ag:Int)(p:Po):(made ag p).length=8192:=by simp [made]
def Oz(y g:Int):Bi y g=0\/Bi y g=1\/Bi y g=2\/Bi y g=3\/Bi y g=8:=by
 unfold Bi;split
 ·exact .inl rfl
 ·split
  ·exact .inr (.inl rfl)
  ·split
   ·exact .inr (.inr (.inl rfl))
   ·split
    ·exact .inr (.inr (.inr (.inl rfl)))
    ·split
     ·exact .inr (.inr (.inr (.inr rfl)))
     ·exact .inl rfl
end Go.dQ
namespace Go.dQ
open Go Go.Vc
end Go.dQ
namespace Go.dQ
open Go Go.Vc Go.bf
end Go.dQ
namespace Go.dQ
open Go Go.Vc Go.bf
end Go.dQ
namespace Go.dQ
open Go Go.Vc Go.bf
def XL:∀(n:Nat)(l:List Rn),l.length=n->(∀r ∈ l,1<=r.1)->(∀i q r,l[i]? =some q->l[i+1]? =some r->q.2≠r.2)->Nm l
 |0,l,hn,_,_=>by
  have:l=[]:=sN hn
  subst this;exact .nil
 |n+1,l,hn,h1,h2=>by
  rcases nK l with rfl|⟨m,q,rfl⟩
  ·simp at hn
  ·have hm:m.length=n:=by simpa using hn
   refine .snoc m q (XL n m hm (λr hr=>h1 r (Ab _ hr)) (λi a b ha hb=> ?_)) (h1 q cy) (λp hp=> ?_)
   ·have hb':=(bF.1 hb).1;exact h2 i a b (by rw [kP aa];exact ha) (by rw [kP aa];exact hb)
   ·have dI:m≠ []:=by rintro rfl;simp at hp
    have dY:0<m.length:=List.length_pos_iff.2 dI;rw [List.getLast?_eq_getElem?] at hp;refine h2 (m.length-1) p q ?_ ?_
    ·rw [kP aa];exact hp
    ·rw [show m.length-1+1=m.length by omega,mS (ax _),Nat.sub_self];rfl
def H7{may:Int->Bool}:∀{l:List Rn} {prev:Option Int} {left:Int},lZ may prev left l=true->
  (∀r ∈ l,1<=r.1/\may r.2=true)/\(∀i q r,l[i]? =some q->l[i+1]? =some r->q.2≠r.2)/\∀r,l.head? =some r->prev≠some r.2
 | [],_,_,_=>⟨by simp,by simp,by simp⟩
 |r::t,prev,left,h=>by
  unfold lZ at h
  split at h
  ·cases h
  ·rename_i hn
   obtain ⟨a1,a2,a3⟩:=H7 h
   have hm:may r.2=true:=by
    cases hq:may r.2 with
    |true=>rfl
    |false=>exact absurd (.inr (.inr (.inl hq))) hn
   have hp:prev≠some r.2:=λe=>hn (.inr (.inr (.inr e)))
   refine ⟨λq hq=> ?_,λi q s hq hs=> ?_,λq hq=> ?_⟩
   ·rcases bI.1 hq with rfl|hq
    ·exact ⟨by omega,hm⟩
    ·exact a1 q hq
   ·cases i with
    |zero=>
     simp only [ac9,Option.some.injEq] at hq;subst hq;simp only [XK] at hs;have:t.head? =some s:=by cases t<;>simp_all
     intro e;exact a3 s this (by rw [e])
    |succ i=>exact a2 i q s (by simpa using hq) (by simpa using hs)
   ·simp only [List.head?_cons,Option.some.injEq] at hq;subst hq;exact hp
def tA{may:Int->Bool}{l:List Rn}{n:Int}(h:jv may l n=true):cK (aW l)=l/\(∀b ∈ aW l,may b=true)/\((aW l).length:Int)=n:=by
 unfold jv at h;rw [gy] at h;obtain ⟨a1,a2,_⟩:=H7 h.2;refine ⟨(XL l.length l rfl (λr hr=>(a1 r hr).1) a2).fix,λb hb=> ?_,?_⟩
 ·unfold aW at hb;obtain ⟨r,hr,hb⟩:=List.mem_flatMap.1 hb;rw [(QA.1 hb).2];exact (a1 r hr).2
 ·rw [<-dq λr hr=>by have:=(a1 r hr).1;omega];exact HE h.2
end Go.dQ
namespace Go.dQ
open Go Go.Vc Go.bf
def oA(p:Po):Prop:=(-524288<=p.1/\p.1<524288)/\-524288<=p.2/\p.2<524288
instance (p:Po):Decidable (oA p):=by unfold oA;exact inferInstance
def jQ(p:Po):Int:=if oA p then (p.1+524288)*1048576+(p.2+524288)+1 else 0
def Mb{p:Po}(h:oA p):1<=jQ p/\jQ p<=1099511627776:=by unfold jQ;rw [if_pos h];unfold oA at h;omega
def yu{p:Po}(h:¬oA p):jQ p=0:=by unfold jQ;rw [if_neg h]
end Go.dQ
namespace Go.dQ
open Go Go.Vc Go.bf
def bC{α:Type}(q:α->Bool):List α->Int
 | []=> -1
 |x::t=>if q x then 0 else if bC q t<0 then -1 else bC q t+1
def iW{α:Type}{q:α->Bool}:∀{l:List α},(∀y ∈ l,q y=false)->bC q l= -1
 | [],_=>rfl
 |x::t,h=>by
  have h1:=h x (.head _)
  have h2:=iW (l:=t) λy hy=>h y (.tail _ hy)
  unfold bC
  rw [if_neg (by rw [h1];decide),if_pos aa]
def mW{α:Type}{q:α->Bool}:∀{l:List α} {k:Nat} {x:α},l[k]? =some x->q x=true->(∀j,j<k->∀y,l[j]? =some y->q y=false)->bC q l=k
 | [],k,x,h,_,_=>by simp at h
 |y::t,0,x,h,hq,_=>by
  simp at h;subst h
  unfold bC
  rw [if_pos hq];rfl
 |y::t,k+1,x,h,hq,hn=>by
  have h1:=hn 0 aa y rfl
  have h2:=mW (l:=t) (k:=k) (x:=x) (by simpa using h) hq (λj hj z hz=>hn (j+1) aa z (by simpa using hz))
  unfold bC
  rw [if_neg (by rw [h1];decide),if_neg aa,h2]
  omega
def cc{α:Type}(q:α->Bool):∀(l:List α),(bC q l= -1/\∀y ∈ l,q y=false)\/∃k x,l[k]? =some x/\q x=true/\bC q l=(k:Nat)/\∀j,j<k->∀y,l[j]? =some y->q y=false
 | []=> .inl ⟨rfl,by simp⟩
 |x::t=>by
  cases hq:q x with
  |true=>exact .inr ⟨0,x,rfl,hq,by unfold bC;rw [if_pos hq];rfl,by omega⟩
  |false=>
   rcases cc q t with ⟨h1,h2⟩|⟨k,y,h1,h2,h3,h4⟩
   ·refine .inl ⟨by unfold bC;rw [if_neg (by rw [hq];decide),if_pos aa],λy hy=> ?_⟩
    rcases bI.1 hy with rfl|hy
    ·exact hq
    ·exact h2 y hy
   ·refine .inr ⟨k+1,y,by simpa using h1,h2,by unfold bC;rw [if_neg (by rw [hq];decide),if_neg aa,h3];omega,λj hj z hz=> ?_⟩
    cases j with
    |zero=>simp at hz;subst hz;exact hq
    |succ j=>exact h4 j aa z (by simpa using hz)
def jR{α β:Type}(f:α->β)(q:β->Bool):∀l:List α,bC q (l.map f)=bC (λa=>q (f a)) l
 | []=>rfl
 |x::t=>by simp only [dE,bC,jR f q t]
end Go.dQ
namespace Go.dQ
open Go Go.Vc Go.bf
abbrev jf:=BitVec 16
abbrev lR(b:List Int):Prop:=∀c ∈ b,0<=c/\c<256
def cI(v:jf):Int:=(v.toNat:Nat)
def EK(c:jf):jf:=if c.msb then (c<<<1) ^^^ 0x1021#16 else c<<<1
def BX(c:jf):jf:=EK (EK (EK (EK c)))
def Fp(c:jf):jf:=BX (BX c)
def j5(x:Int):jf:=BitVec.ofInt 16 x
def ade(c:jf)(x:Int):jf:=Fp (c ^^^(j5 x<<<8))
def qF(c:jf)(b:List Int):jf:=b.foldl ade c
def jc(b:List Int):jf:=qF 0xFFFF#16 b
def BB(b:List Int):List Int:=[cI (jc b) / 256,cI (jc b) % 256]
def oK(v:jf):0<=cI v/\cI v<65536:=by unfold cI;have:=v.isLt;omega
def Ld{a b:jf}:cI a=cI b ↔ a=b:=by unfold cI;refine ⟨λh=>BitVec.eq_of_toNat_eq aa,λh=>by rw [h]⟩
def mw{x:Int}(h:0<=x/\x<65536):(j5 x).toNat=x.toNat:=by unfold j5;rw [y3];simp only [show ((2 ^ 16:Nat):Int)=65536 from rfl];rw [Int.emod_eq_of_lt h.1 h.2]
def EL{x:Int}(h:0<=x/\x<65536):cI (j5 x)=x:=by unfold cI;rw [mw h];omega
def Z1(v:jf):j5 (cI v)=v:=Ld.1 (EL (oK v))
def rT{a b:jf}(h:∀i:Nat,i<16->a.getLsbD i=b.getLsbD i):a=b:=BitVec.eq_of_getLsbD_eq h
def Pj{i:Nat}(h:i<16):i=0\/i=1\/i=2\/i=3\/i=4\/i=5\/i=6\/i=7\/i=8\/i=9\/i=10\/i=11\/i=12\/i=13\/i=14\/i=15:=by omega
def Wk(a b:jf)(n:Nat):(a ^^^ b)<<<n=(a<<<n) ^^^(b<<<n):=by
 apply rT;intro i hi;simp only [BitVec.getLsbD_xor,Ia]
 cases decide (i<16)<;>cases decide (i<n)<;>simp
def yC(a b:jf):EK (a ^^^ b)=EK a ^^^ EK b:=by
 unfold EK;rw [BitVec.msb_xor,Wk]
 cases a.msb<;>cases b.msb<;>simp
 ·rw [BitVec.xor_assoc]
 ·rw [BitVec.xor_assoc,BitVec.xor_assoc];congr 1;rw [BitVec.xor_comm]
 ·generalize a<<<1=x;generalize b<<<1=y;apply rT;intro i _;simp only [BitVec.getLsbD_xor]
  cases x.getLsbD i<;>cases y.getLsbD i<;>cases (4129#16).getLsbD i<;>rfl
def yD(a b:jf):BX (a ^^^ b)=BX a ^^^ BX b:=by unfold BX;rw [yC,yC,yC,yC]
def Wl(a b:jf):Fp (a ^^^ b)=Fp a ^^^ Fp b:=by unfold Fp;rw [yD,yD]
def EW(c:jf):c.msb=true ↔ 32768<=c.toNat:=by rw [BitVec.msb_eq_decide];simp
def tZ{c:jf}(h:c.toNat<32768):EK c=c<<<1/\(c<<<1).toNat=2*c.toNat:=by
 constructor
 ·unfold EK;rw [if_neg];rw [EW];omega
 ·rw [BitVec.toNat_shiftLeft,Nat.shiftLeft_eq];omega
def ko{c:jf}(h:EK c=0#16):c=0#16:=by
 unfold EK at h;split at h
 ·have:=congrArg (λv:jf=>v.getLsbD 0) h;simp at this
 ·rename_i hm;have hm:c.toNat<32768:=by rw [EW] at hm;omega
  have h2:=(tZ hm).2;rw [h] at h2;exact BitVec.eq_of_toNat_eq (by simp at h2 ⊢;omega)
def IC{c:jf}(h:Fp c=0#16):c=0#16:=by unfold Fp BX at h;exact ko (ko (ko (ko (ko (ko (ko (ko h)))))))
def ua{a b:jf}:a ^^^ b=0#16 ↔ a=b:=by
 constructor
 ·intro h;have:=congrArg (λv=>v ^^^ b) h;simpa [BitVec.xor_assoc] using this
 ·rintro rfl;exact BitVec.xor_self
def Wm{a b:jf}(h:Fp a=Fp b):a=b:=by rw [<-ua] at h ⊢;rw [<-Wl] at h;exact IC h
def ub(c:jf)(m n:Nat):(c<<<m)<<<n=c<<<(m+n):=(BitVec.shiftLeft_add c m n).symm
def yE{c:jf}(h:c.toNat<4096):BX c=c<<<4:=by unfold BX;have h1:=tZ (c:=c) aa;rw [h1.1];have h2:=tZ (c:=c<<<1) aa;rw [h2.1];have h3:=tZ (c:=c<<<1<<<1) aa;rw [h3.1];have h4:=tZ (c:=c<<<1<<<1<<<1) aa;rw [h4.1,ub,ub,ub]
def ID(v y:jf)(hy:y.toNat<16):(v<<<4) ^^^ BX (((v>>>12) ^^^ y)<<<12)=BX (v ^^^(y<<<12)):=by
 have e:v ^^^(y<<<12)=(((v>>>12) ^^^ y)<<<12) ^^^(v &&& 0xFFF#16):=by apply rT;intro i hi;simp only [BitVec.getLsbD_xor,Ia,BitVec.getLsbD_ushiftRight,H9];rcases Pj hi with rfl|rfl|rfl|rfl|rfl|rfl|rfl|rfl|rfl|rfl|rfl|rfl|rfl|rfl|rfl|rfl<;>simp
 have hl:(v &&& 0xFFF#16).toNat<4096:=by rw [Av];exact H0 Nat.and_le_right aE
 have e2:(v &&& 0xFFF#16)<<<4=v<<<4:=by apply rT;intro i hi;simp only [Ia,H9];rcases Pj hi with rfl|rfl|rfl|rfl|rfl|rfl|rfl|rfl|rfl|rfl|rfl|rfl|rfl|rfl|rfl|rfl<;>simp
 rw [e,yD,yE hl,e2,BitVec.xor_comm]
def Pk(v x:jf)(hx:x.toNat<256):BX (BX (v ^^^((x>>>4)<<<12)) ^^^((x &&& 15#16)<<<12))=Fp (v ^^^(x<<<8)):=by
 have e:v ^^^(x<<<8)=(v ^^^((x>>>4)<<<12)) ^^^((x &&& 15#16)<<<8):=by apply rT;intro i hi;simp only [BitVec.getLsbD_xor,Ia,BitVec.getLsbD_ushiftRight,H9];rcases Pj hi with rfl|rfl|rfl|rfl|rfl|rfl|rfl|rfl|rfl|rfl|rfl|rfl|rfl|rfl|rfl|rfl<;>simp
 have hl:(x &&& 15#16).toNat<16:=by rw [Av];exact H0 Nat.and_le_right aE
 have Fe:((x &&& 15#16)<<<8).toNat<4096:=by rw [BitVec.toNat_shiftLeft,Nat.shiftLeft_eq];omega
 unfold Fp;rw [e,yD (v ^^^ _),yE Fe,ub]
def MN{c:jf}(h:c.toNat<256):Fp c=c<<<8:=by unfold Fp;rw [yE (c:=c) aa,yE (c:=c<<<4) (by rw [BitVec.toNat_shiftLeft,Nat.shiftLeft_eq];omega),ub]
def pT(c:jf)(a b:List Int):qF c (a++b)=qF (qF c a) b:=iY ..
def Wf(c:jf){h l:Int}(hh:0<=h/\h<256)(hl:0<=l/\l<256):qF c [h,l]=0#16 ↔ cI c=h*256+l:=by
 show Fp (Fp (c ^^^(j5 h<<<8)) ^^^(j5 l<<<8))=0#16 ↔ _;have n1:(j5 l).toNat<256:=by rw [mw aa];omega
 have n2:(j5 h).toNat<256:=by rw [mw aa];omega
 have z:Fp 0#16=0#16:=by decide
 have e1:Fp (Fp (c ^^^(j5 h<<<8)) ^^^(j5 l<<<8))=0#16 ↔ c=(j5 h<<<8) ^^^ j5 l:=by
  constructor
  ·intro q;have q1:=IC q;rw [ua,<-MN n1] at q1;have q2:=Wm q1;rw [<-q2,BitVec.xor_comm,BitVec.xor_assoc,BitVec.xor_self,BitVec.xor_zero]
  ·rintro rfl;rw [show (j5 h<<<8 ^^^ j5 l) ^^^ j5 h<<<8=j5 l by rw [BitVec.xor_comm,<-BitVec.xor_assoc,BitVec.xor_self,BitVec.zero_xor],MN n1,BitVec.xor_self,z]
 rw [e1];have e2:((j5 h<<<8) ^^^ j5 l).toNat=h.toNat*256+l.toNat:=by
  have:(j5 h<<<8) ^^^ j5 l=(j5 h<<<8)|||j5 l:=by
   apply rT;intro i hi;have hb:∀j,8<=j->(j5 l).getLsbD j=false:=λj hj=>Nat.testBit_lt_two_pow (kN n1 (Nat.pow_le_pow_right (n:=2) aE hj))
   simp only [BitVec.getLsbD_xor,BitVec.getLsbD_or,Ia];by_cases h8:i<8
   ·simp [h8]
   ·rw [hb i aa];simp
  rw [this,BitVec.toNat_or,BitVec.toNat_shiftLeft,mw (x:=h) aa,mw (x:=l) aa,Nat.shiftLeft_eq];rw [Nat.mod_eq_of_lt aa];have:=Nat.two_pow_add_eq_or_of_lt (i:=8) (b:=l.toNat) aa h.toNat;rw [Nat.mul_comm h.toNat,<-this]
 constructor
 ·intro q;rw [q];unfold cI;rw [e2];omega
 ·intro q;apply BitVec.eq_of_toNat_eq;rw [e2];unfold cI at q;omega
def wrap_u16(x:Int):kA x=x % 65536:=by simp [IntKind.wrap,IntKind.bits,IntKind.signed]
def nk(n:Nat)(hn:16<=n)(v:jf):(BitVec.ofInt n (cI v)).toNat=v.toNat:=by unfold cI;rw [y3];have h1:=v.isLt;have h2:(2:Nat) ^ 16<=2 ^ n:=Nat.pow_le_pow_right aE hn;generalize (2:Nat) ^ n=m at*;rw [Int.emod_eq_of_lt aa aa];omega
def AB(a b:jf):gw .u16 (cI a) (cI b)=cI (a ^^^ b):=by show kA ((BitVec.ofInt 16 (cI a) ^^^ BitVec.ofInt 16 (cI b)).toNat:Nat)=_;rw [BitVec.toNat_xor,nk 16 aE,nk 16 aE,<-BitVec.toNat_xor,wrap_u16];show cI _ % 65536=cI _;have:=oK (a ^^^ b);omega
def Tw(a b:jf):gw .i64 (cI a) (cI b)=cI (a ^^^ b):=by show ai ((BitVec.ofInt 64 (cI a) ^^^ BitVec.ofInt 64 (cI b)).toNat:Nat)=_;rw [BitVec.toNat_xor,nk 64 aE,nk 64 aE,<-BitVec.toNat_xor];have:=oK (a ^^^ b);exact az (n:=cI (a ^^^ b)) (by unfold inI;omega)
def Lt(v:jf)(n:Nat):cI (v<<<n)=cI v*2 ^ n % 65536:=by unfold cI;rw [BitVec.toNat_shiftLeft,Nat.shiftLeft_eq,Int.natCast_emod,Int.natCast_mul,Int.natCast_pow];rfl
def Le(v:jf)(n:Nat):cI (v>>>n)=cI v / 2 ^ n:=by unfold cI;rw [BitVec.toNat_ushiftRight,Nat.shiftRight_eq_div_pow,Int.natCast_ediv,Int.natCast_pow];rfl
def Tx(v:jf):v.msb=true ↔ 32768<=cI v:=by rw [EW];unfold cI;omega
def Wn(v:jf):(if 65536<=cI v*2 then gw .i64 (cI v*2-65536) 4129 else cI v*2)=cI (EK v):=by
 have hb:=oK v;have h1:cI (v<<<1)=cI v*2 % 65536:=Lt v 1;unfold EK;by_cases h:v.msb=true
 ·have hm:=(Tx v).1 h;rw [if_pos h,if_pos aa,<-Tw,h1];have e1:cI v*2 % 65536=cI v*2-65536:=by omega
  rw [e1];rfl
 ·have hm:=mt (Tx v).2 h;rw [if_neg h,if_neg aa,h1];omega
def MH(v:jf):cI (v &&& 0x8000#16)=0 ↔ v.msb=false:=by
 have A1:v.msb=v.getLsbD 15:=rfl;constructor
 ·intro h;have h0:v &&& 0x8000#16=0#16:=Ld.1 (by rw [h];rfl);have:=congrArg (λu:jf=>u.getLsbD 15) h0;simp only [H9] at this;rw [A1];simpa using this
 ·intro h;have h0:v &&& 0x8000#16=0#16:=by apply rT;intro i hi;rw [A1] at h;simp only [H9];rcases Pj hi with rfl|rfl|rfl|rfl|rfl|rfl|rfl|rfl|rfl|rfl|rfl|rfl|rfl|rfl|rfl|rfl<;>first|(simp;done)|simpa using h
  rw [h0];rfl
def ZM(a b:jf):Bw .u16 (cI a) (cI b)=cI (a &&& b):=by show kA ((BitVec.ofInt 16 (cI a) &&& BitVec.ofInt 16 (cI b)).toNat:Nat)=_;rw [Av,nk 16 aE,nk 16 aE,<-Av,wrap_u16];show cI _ % 65536=cI _;have:=oK (a &&& b);omega
def MG(v:jf)(n:Nat):kA (cI v*2 ^ n)=cI (v<<<n):=by rw [wrap_u16,Lt]
def S1(v:jf)(n:Nat):(cI v).fdiv (2 ^ n)=cI (v>>>n):=by rw [Le,Ac];exact Int.le_of_lt (Int.pow_pos aE)
def ag1{x:Int}(h:0<=x/\x<256):kA (x.fdiv (2 ^ 4))=cI (j5 x>>>4):=by rw [Le,EL aa,Ac _ aE,wrap_u16];simp only [show (2:Int) ^ 4=16 from rfl];omega
def ag2{x:Int}(h:0<=x/\x<256):kA (Bw .u8 x 15)=cI (j5 x &&& 15#16):=by
 have e:Bw .u8 x 15=cI (j5 x &&& 15#16):=by
  show me ((BitVec.ofInt 8 x &&& BitVec.ofInt 8 15).toNat:Nat)=_;have e8:(BitVec.ofInt 8 x).toNat=(j5 x).toNat:=by rw [mw aa,y3];simp only [show ((2 ^ 8:Nat):Int)=256 from rfl];rw [Int.emod_eq_of_lt h.1 h.2]
  rw [Av,e8];unfold cI;rw [Av];have:(j5 x).toNat &&&(15#16).toNat<16:=H0 Nat.and_le_right aE;show me (((j5 x).toNat &&&(15#16).toNat:Nat):Int)=_;simp only [IntKind.wrap,IntKind.bits,IntKind.signed,Mn,Bool.false_eq_true,if_false,show (2:Int) ^ 8=256 from rfl];omega
 rw [e,wrap_u16];have:=oK (j5 x &&& 15#16);omega
def S2{a b:jf}(ha:a.toNat<16)(hb:b.toNat<16):(a ^^^ b).toNat<16:=by rw [BitVec.toNat_xor];exact Nat.xor_lt_two_pow (n:=4) ha hb
def S3(v:jf):(v>>>12).toNat<16:=by rw [BitVec.toNat_ushiftRight,Nat.shiftRight_eq_div_pow];have:=v.isLt;omega
def XM{x:Int}(h:0<=x/\x<256):(j5 x>>>4).toNat<16:=by rw [BitVec.toNat_ushiftRight,Nat.shiftRight_eq_div_pow,mw aa];omega
def XO(x:jf):(x &&& 15#16).toNat<16:=by rw [Av];exact H0 Nat.and_le_right aE
def tv(i:Nat):Value:=.int .u16 (cI (BX (j5 i<<<12)))
def tS:LV:=[tv 0,tv 1,tv 2,tv 3,tv 4,tv 5,tv 6,tv 7,tv 8,tv 9,tv 10,tv 11,tv 12,tv 13,tv 14,tv 15]
def tT(k:Nat):LV:=tS.take k++List.replicate (16-k) (.int .u16 0)
def ZQ{k:Nat}(hk:k<16):(tT k).set k (tv k)=tT (k+1):=by rcases Pj hk with rfl|rfl|rfl|rfl|rfl|rfl|rfl|rfl|rfl|rfl|rfl|rfl|rfl|rfl|rfl|rfl<;>rfl
def XN{u:jf}(hu:u.toNat<16):tS[(cI u).toNat]? =some (.int .u16 (cI (BX (u<<<12)))):=by
 have e:∀k:Nat,k<16->tS[k]? =some (tv k):=λk hk=>by rcases Pj hk with rfl|rfl|rfl|rfl|rfl|rfl|rfl|rfl|rfl|rfl|rfl|rfl|rfl|rfl|rfl|rfl<;>rfl
 have h1:(cI u).toNat=u.toNat:=rfl;rw [h1,e _ hu];unfold tv;have:j5 (u.toNat:Int)=u:=Z1 u;rw [this]
def O4(v:jf){x:Int}(h:0<=x/\x<256):
  cI ((((v<<<4) ^^^ BX (((v>>>12) ^^^(j5 x>>>4))<<<12))<<<4) ^^^ BX (((((v<<<4) ^^^ BX (((v>>>12) ^^^(j5 x>>>4))<<<12))>>>12) ^^^(j5 x &&& 15#16))<<<12))=cI (ade v x):=by
 rw [ID v _ (XM h),ID _ _ (XO _),Pk v _ (by rw [mw aa];omega)];rfl
end Go.dQ
namespace Go.dQ
open Go Go.Vc Go.bf
def be:Nat->Int->List Int
 |0,_=> []
 |m+1,n=>n / 256 ^ m % 256::be m n
def dT(b:List Int):Int:=b.foldl (λn c=>n*256+c) 0
def xH(v:Int)(body:List Int):List Int:=be 4 v++be 3 body.length++body
def pq(b:List Int):List Int:=b++BB b
def lX(v:Int)(body:List Int):List Int × Int:=if v<1\/v>1073741824\/(body.length:Int)>65536 then ([],1) else (pq (xH v body),0)
def kR(b:List Int):List Int × Int:=if b.length<2 then ([],3) else if jc b=0#16 then (b.take (b.length-2),0) else ([],4)
def iD(b:List Int):Int × List Int × Int:=
 if (kR b).2≠0 then (0,[],(kR b).2)
 else if (kR b).1.length<7 then (0,[],3)
 else if dT ((kR b).1.take 4)<1\/dT ((kR b).1.take 4)>1073741824\/dT (((kR b).1.drop 4).take 3)>65536\/dT (((kR b).1.drop 4).take 3)≠(((kR b).1.drop 7).length:Int) then (0,[],2)
 else (dT ((kR b).1.take 4),(kR b).1.drop 7,0)
def kG:∀(m:Nat)(n:Int),(be m n).length=m
 |0,_=>rfl
 |m+1,n=>by simp [be,kG m n]
def Tq:∀(m:Nat)(n:Int),lR (be m n)
 |0,_=>λc hc=>by cases hc
 |m+1,n=>λc hc=>by
  rcases bI.1 hc with rfl|hc
  ·omega
  ·exact Tq m n c hc
def Az(b:List Int)(c:Int):dT (b++ [c])=dT b*256+c:=by unfold dT;rw [iY];rfl
def We(b:List Int):lR (BB b):=λc hc=>by
 have:=oK (jc b)
 simp only [BB,bI,fS,or_false] at hc
 rcases hc with rfl|rfl<;>omega
def tV(b:List Int):(BB b).length=2:=rfl
def lR.app{a b:List Int}(ha:lR a)(hb:lR b):lR (a++b):=λc hc=>(ct.1 hc).elim (ha c) (hb c)
def EI{v:Int}{body:List Int}(h:lR body):lR (xH v body):=((Tq 4 v).app (Tq 3 _)).app h
def Tr{b:List Int}(h:lR b):lR (pq b):=h.app (We b)
def Rm{v:Int}{body:List Int}(h:lR body):lR (lX v body).1:=by
 unfold lX;split
 ·intro c hc;cases hc
 ·exact Tr (EI h)
def tk(v:Int)(body:List Int):(xH v body).length=7+body.length:=by unfold xH;simp [kG];omega
def uQ(b:List Int):(pq b).length=b.length+2:=by unfold pq;rw [eK,tV]
def QH{b:List Int}:(iD b).2.2=0->1<=(iD b).1/\(iD b).1<=1073741824:=by
 intro h;unfold iD at h ⊢;split at h
 ·rename_i q;exact absurd h q
 ·rename_i q;rw [if_neg q];split at h
  ·cases h
  ·rename_i q2;rw [if_neg q2];split at h
   ·cases h
   ·rename_i q3;rw [if_neg q3];simp only [not_or] at q3;simp only;omega
def acS{b:List Int}:(iD b).2.2≠0->(iD b).1=0/\(iD b).2.1=[]:=by
 intro h;unfold iD at h ⊢;split
 ·exact ⟨rfl,rfl⟩
 ·split
  ·exact ⟨rfl,rfl⟩
  ·split
   ·exact ⟨rfl,rfl⟩
   ·rename_i q q2 q3;rw [if_neg q,if_neg q2,if_neg q3] at h;exact absurd rfl h
def ZD{b:List Int}{h l:Int}{a:List Int}(e:b=a++ [h,l])(hh:0<=h/\h<256)(hl:0<=l/\l<256):kR b=if h*256+l=cI (jc a) then (a,0) else ([],4):=by
 have hn:b.length=a.length+2:=by rw [e];simp
 have hc:jc b=0#16 ↔ h*256+l=cI (jc a):=by rw [e];unfold jc;rw [pT,Wf _ hh hl];exact ⟨λh=>h.symm,λh=>h.symm⟩
 unfold kR;rw [if_neg aa];by_cases q:jc b=0#16
 ·rw [if_pos q,if_pos (hc.1 q),hn,e];simp
 ·rw [if_neg q,if_neg λh=>q (hc.2 h)]
def ML{b:List Int}(hb:lR b):∀k:Nat,0<=dT (b.take k)/\dT (b.take k)<256 ^ k
 |0=>by rw [L7];exact ⟨oF 0,by decide⟩
 |k+1=>by
  obtain ⟨h1,h2⟩:=ML hb k
  rw [cu]
  cases hx:b[k]? with
  |none=>
   rw [Int.pow_succ]
   simp only [Option.toList_none,F9]
   generalize (256:Int) ^ k=p at*
   omega
  |some x=>
   have:=hb x (bc hx)
   rw [Int.pow_succ]
   simp only [Option.toList_some]
   rw [Az]
   generalize (256:Int) ^ k=p at*
   omega
def Ay{b:List Int}(hb:lR b){k:Nat}(hk:k<=4):0<=dT (b.take k)/\dT (b.take k)<4294967296:=by
 obtain ⟨h1,h2⟩:=ML hb k;have h3:(256:Int) ^ k<=4294967296:=by
  rcases k with _|_|_|_|_|k
  ·decide
  ·decide
  ·decide
  ·decide
  ·decide
  ·omega
 exact ⟨h1,Int.lt_of_lt_of_le h2 h3⟩
def S7{n c:Int}(hn:0<=n/\n<281474976710656)(hc:0<=c/\c<256):FI .i64 (n*256) c=n*256+c:=by
 show ai ((BitVec.ofInt 64 (n*256)|||BitVec.ofInt 64 c).toNat:Nat)=_;have e1:(BitVec.ofInt 64 (n*256)).toNat=2 ^ 8*n.toNat:=by rw [y3];simp only [show ((2 ^ 64:Nat):Int)=18446744073709551616 from rfl,show (2:Nat) ^ 8=256 from rfl];omega
 have e2:(BitVec.ofInt 64 c).toNat=c.toNat:=by rw [y3];simp only [show ((2 ^ 64:Nat):Int)=18446744073709551616 from rfl];omega
 rw [BitVec.toNat_or,e1,e2,<-Nat.two_pow_add_eq_or_of_lt (i:=8) (b:=c.toNat) aa n.toNat];simp only [show (2:Nat) ^ 8=256 from rfl];have:((256*n.toNat+c.toNat:Nat):Int)=n*256+c:=by omega
 rw [this];exact wI
abbrev kQ:=Int × List Int
structure Dk where
 room:Int
 dt:Int
 wait:Int
 safe:List kQ
 l:List kQ
def OM:Bool->List kQ->kQ->List kQ
 |done,[],w=>if done then [] else [w]
 |done,x::t,w=>(if done=false/\x.1>=w.1 then [w] else [])++(if x.1≠w.1 then [x] else [])++OM (done||decide (x.1>=w.1)) t w
def lay(l:List kQ)(w:kQ):List kQ:=OM false l w
def fV(d:Dk):List kQ:=d.l.foldl lay d.safe
def fE(l:List kQ):Nat:=(l.map λx=>x.2.length).sum
def k8(l:List kQ)(k:Int):Option (List Int):=(l.find? λx=>x.1==k).map (·.2)
def ed(d:Dk):Dk × Bool:=if 0<d.wait then ({d with wait:=0},false) else if 0<d.dt then ({d with dt:=d.dt-1},true) else (d,false)
def fT(d:Dk)(k:Int)(b:List Int):Dk × Int:=
 if (ed d).2=true then ((ed d).1,9) else if (fE (lay (fV d) (k,b)):Int)>d.room then ((ed d).1,8) else ({(ed d).1 with l:=d.l++ [(k,b)]},0)
def getD(d:Dk)(k:Int):List Int:=(k8 (fV d) k).getD []
def iT(d:Dk):Dk × Int:=if (ed d).2=true then ((ed d).1,9) else ({(ed d).1 with safe:=fV d,l:=[]},0)
def Dh:∀(l:List kQ)(w:kQ),OM true l w=l.filter λx=>decide (x.1≠w.1)
 | [],_=>rfl
 |x::t,w=>by
  unfold OM
  rw [if_neg cy,Bool.true_or,Dh t w,pk]
  by_cases h:x.1=w.1<;>simp [h]
def pn:∀(l:List kQ)(w:kQ),(lay l w).Perm (w::l.filter λx=>decide (x.1≠w.1))
 | [],_=> .refl _
 |x::t,w=>by
  unfold lay OM
  rw [Bool.false_or]
  by_cases h:x.1>=w.1
  ·rw [if_pos ⟨rfl,h⟩,decide_eq_true h,Dh,pk]
   by_cases h2:x.1=w.1
   ·rw [if_neg (by simp [h2]),if_neg (by simp [h2])];exact .refl _
   ·rw [if_pos h2,if_pos (by simp [h2])];exact .refl _
  ·rw [if_neg λq=>h q.2,decide_eq_false h,if_pos aa,pk,if_pos (by simp;omega)]
   have ih:=pn t w
   unfold lay at ih
   exact (List.Perm.cons x ih).trans (List.Perm.swap _ _ _)
def gz(l:List kQ):List Int:=l.map (·.1)
def EU{l:List kQ}(p:kQ->Bool)(h:(gz l).Nodup):(gz (l.filter p)).Nodup:=h.sublist ((List.filter_sublist).map _)
def Pb{l:List kQ}{w:kQ}(h:(gz l).Nodup):(gz (lay l w)).Nodup:=by refine ((pn l w).map (·.1)).nodup_iff.2 ?_;rw [dE];refine lF.2 ⟨λhm=> ?_,EU _ h⟩;obtain ⟨x,hx,e⟩:=aR.1 hm;have:=(jH.1 hx).2;simp at this;exact this e
def pF:∀(t:List kQ) {l:List kQ},(gz l).Nodup->(gz (t.foldl lay l)).Nodup
 | [],_,h=>h
 |w::t,_,h=>pF t (Pb h)
def CU{a b:List kQ}(h:a.Perm b):fE a=fE b:=(h.map λx:kQ=>x.2.length).sum_nat
def na(x:kQ)(t:List kQ):fE (x::t)=x.2.length+fE t:=rfl
def HL(a b:List kQ):fE (a++b)=fE a+fE b:=by unfold fE;rw [aT,List.sum_append_nat]
def ve{l:List kQ}(h:(gz l).Nodup){k:Int}{b:List Int}:k8 l k=some b ↔(k,b) ∈ l:=by
 unfold k8
 induction l with
 |nil=>simp
 |cons x t ih=>
  have hn:=lF.1 h;rw [List.find?_cons];by_cases e:x.1=k
  ·rw [beq_iff_eq.2 e];simp only [mh,Option.some.injEq,bI];constructor
   ·rintro rfl;exact .inl (by rw [<-e])
   ·rintro (q|q)
    ·rw [<-q]
    ·exact absurd (aR.2 ⟨_,q,e.symm⟩) hn.1
  ·rw [show (x.1==k)=false by simpa using e,ih hn.2];simp only [bI];constructor
   ·exact .inr
   ·rintro (q|q)
    ·exact absurd (by rw [<-q]) e
    ·exact q
def vd{l:List kQ}{k:Int}:k8 l k=none ↔ ∀x ∈ l,x.1≠k:=by unfold k8;rw [Option.map_eq_none_iff,R3];simp
def Oj{a b:List kQ}(h:a.Perm b)(ha:(gz a).Nodup)(k:Int):k8 a k=k8 b k:=by
 have hb:(gz b).Nodup:=(h.map λx:kQ=>x.1).nodup_iff.1 ha
 cases q:k8 b k with
 |some x=>exact (ve ha).2 (h.mem_iff.2 ((ve hb).1 q))
 |none=>exact vd.2 λx hx=>vd.1 q x (h.mem_iff.1 hx)
def wA{l:List kQ}(h:(gz l).Nodup)(k:Int):fE (l.filter λx=>decide (x.1≠k))+((k8 l k).getD []).length=fE l:=by
 induction l with
 |nil=>rfl
 |cons x t ih=>
  have hn:=lF.1 h;rw [pk];by_cases e:x.1=k
  ·rw [if_neg (by simp [e])];have hg:k8 (x::t) k=some x.2:=by unfold k8;rw [List.find?_cons,beq_iff_eq.2 e];rfl
   have ht:t.filter (λx=>decide (x.1≠k))=t:=vY.2 λy hy=>by simp only [ne_eq,decide_not,Bool.not_eq_true',bQ];intro q;exact hn.1 (aR.2 ⟨y,hy,q.trans e.symm⟩)
   rw [hg,ht,na,Option.getD_some];omega
  ·rw [if_pos (by simp [e])];have hg:k8 (x::t) k=k8 t k:=by unfold k8;rw [List.find?_cons,show (x.1==k)=false by simpa using e]
   have:=ih hn.2;rw [hg,na,na];omega
def Ho{l:List kQ}(h:(gz l).Nodup)(w:kQ):fE (lay l w)+((k8 l w.1).getD []).length=fE l+w.2.length:=by have:=wA h w.1;rw [CU (pn l w),na];omega
structure iq(d:Dk):Prop where
 nd:(gz d.safe).Nodup
 len:∀k,(fE ((d.l.take k).foldl lay d.safe):Int)<=d.room
 w:0<=d.wait/\d.wait<=1
 f:0<=d.dt/\d.dt<=9223372036854775807
 r:0<=d.room/\d.room<=1048576
def iq.now{d:Dk}(h:iq d):(gz (fV d)).Nodup:=pF _ h.nd
def iq.Ry{d:Dk}(h:iq d):(fE (fV d):Int)<=d.room:=by have:=h.len d.l.length;rwa [kg] at this
def fB(d:Dk):(ed d).1.safe=d.safe/\(ed d).1.l=d.l/\(ed d).1.room=d.room:=by
 unfold ed;split
 ·exact ⟨rfl,rfl,rfl⟩
 ·split<;>exact ⟨rfl,rfl,rfl⟩
def iq.ask{d:Dk}(h:iq d):iq (ed d).1:=by
 obtain ⟨e1,e2,e3⟩:=fB d;refine ⟨by rw [e1];exact h.nd,by rw [e1,e2,e3];exact h.len,?_,?_,by rw [e3];exact h.r⟩
 ·unfold ed;have:=h.w;split
  ·simp
  ·split<;>exact this
 ·unfold ed;have:=h.f;split
  ·exact this
  ·split
   ·simp only;omega
   ·exact this
def iq.put{d:Dk}(h:iq d)(k:Int)(b:List Int):iq (fT d k b).1:=by
 have ha:=h.ask;obtain ⟨e1,e2,e3⟩:=fB d;unfold fT;split
 ·exact ha
 ·split
  ·exact ha
  ·rename_i hr;refine ⟨by rw [e1];exact h.nd,λn=> ?_,ha.w,ha.f,ha.r⟩;rw [e1,e3];simp only;by_cases hn:n<=d.l.length
   ·rw [HM hn];exact h.len n
   ·rw [dn (by simp;omega),iY];show (fE (lay (fV d) (k,b)):Int)<=_;omega
def iq.sync{d:Dk}(h:iq d):iq (iT d).1:=by
 have ha:=h.ask;obtain ⟨e1,e2,e3⟩:=fB d;unfold iT;split
 ·exact ha
 ·refine ⟨h.now,λn=> ?_,ha.w,ha.f,ha.r⟩;simp only [List.take_nil,List.foldl_nil];rw [e3];exact h.Ry
end Go.dQ
namespace Go.dQ
open Go Go.Vc Go.bf
open Classical in
noncomputable def DH{α:Type}(f:α->Int)(l:List α)(x:α):List α:=if ∃y ∈ l,f y=f x then l.map (λy=>if f y=f x then x else y) else l++ [x]
def Cz{α:Type}(f:α->Int)(x:α):∀{l:List α},(l.map f).Nodup->(DH f l x).Perm (x::l.filter λy=>decide (f y≠f x))
 | [],_=>by unfold DH;rw [if_neg cy];exact .refl _
 |y::t,h=>by
  have hn:=lF.1 h
  have ih:=Cz f x hn.2
  by_cases e:f y=f x
  ·have my:∀z ∈ t,f z≠f x:=λz hz q=>hn.1 (aR.2 ⟨z,hz,q.trans e.symm⟩)
   unfold DH
   rw [if_pos ⟨y,.head _,e⟩,dE,if_pos e,pk,if_neg (by simp [e])]
   rw [vY.2 (λz hz=>by simpa using my z hz)]
   have:t.map (λy=>if f y=f x then x else y)=t:=by
    conv=>rhs;rw [<-List.map_id t]
    exact vU λz hz=>by rw [if_neg (my z hz)];rfl
   rw [this]
  ·rw [pk,if_pos (by simp [e])];refine List.Perm.trans ?_ (List.Perm.swap _ _ _);refine List.Perm.trans ?_ (List.Perm.cons y ih);unfold DH;by_cases q:∃z ∈ t,f z=f x
   ·obtain ⟨z,hz,qz⟩:=q;rw [if_pos ⟨z,.tail _ hz,qz⟩,if_pos ⟨z,hz,qz⟩,dE,if_neg e]
   ·rw [if_neg (by
     rintro ⟨z,hz,qz⟩;rcases bI.1 hz with rfl|hz
     ·exact e qz
     ·exact q ⟨z,hz,qz⟩),if_neg q]
    exact .refl _
def QE{α:Type}{f:α->Int}{l:List α}{x y:α}(h:y ∈ DH f l x):y=x\/y ∈ l:=by
 unfold DH at h;split at h
 ·obtain ⟨z,hz,e⟩:=aR.1 h;split at e
  ·exact .inl e.symm
  ·exact .inr (e▸hz)
 ·rcases ct.1 h with h|h
  ·exact .inr h
  ·exact .inl (by simpa using h)
def QF{α:Type}{f:α->Int}{g:α->List Int}{l:List α}{s:List kQ}(x:α)(h:(l.map λy=>(f y,g y)).Perm s)(hn:(gz s).Nodup):((DH f l x).map λy=>(f y,g y)).Perm (lay s (f x,g x)):=by
 have hk:(l.map f).Nodup:=by have:=(h.map λy:kQ=>y.1).nodup_iff.2 hn;rwa [kd] at this
 refine ((Cz f x hk).map _).trans ?_;refine List.Perm.trans ?_ (pn s (f x,g x)).symm;rw [dE];refine List.Perm.cons _ ?_;have:=h.filter λy=>decide (y.1≠f x)
 rw [List.filter_map] at this;exact this
abbrev Rc:=Int × Int × List Int
def fA(best:Rc)(slot:Int)(r:Int × List Int × Int):Rc:=if r.2.2=0/\r.1>best.2.1 then (slot,r.1,r.2.1) else best
def fO(D:Dk)(id:Int):Rc:=fA (fA (2*id+1,0,[]) (2*id) (iD (getD D (2*id)))) (2*id+1) (iD (getD D (2*id+1)))
def nH(id:Int):Bool:=decide (0<=id) && decide (id<=1099511627776)
def qh(D:Dk)(id:Int):List Int × Int × Bool:=if nH id=true then ((fO D id).2.2,(fO D id).2.1,decide ((fO D id).2.1>0)) else ([],0,false)
def ov(D:Dk)(id:Int)(body:List Int):Dk × Int:=
 if nH id=true then
  if (lX ((fO D id).2.1+1) body).2≠0 then (D,(lX ((fO D id).2.1+1) body).2)
  else if (fT D (4*id+1-(fO D id).1) (lX ((fO D id).2.1+1) body).1).2≠0 then fT D (4*id+1-(fO D id).1) (lX ((fO D id).2.1+1) body).1
  else iT (fT D (4*id+1-(fO D id).1) (lX ((fO D id).2.1+1) body).1).1
 else (D,1)
def Vt(n:Nat):(2*n) ^^^ 1=2*n+1/\(2*n+1) ^^^ 1=2*n:=by
 have h1:=Nat.xor_div_two (a:=2*n) (b:=1);have par:∀a:Nat,(a ^^^ 1) % 2=1 ↔ ¬a % 2=1:=λa=>by have:=Nat.testBit_xor a 1 0;rw [Nat.testBit_zero,Nat.testBit_zero,Nat.testBit_zero] at this;simp only [Nat.reduceMod,decide_true,Bool.xor_true] at this;rw [<-decide_eq_true_iff (p:=(a ^^^ 1) % 2=1),this];simp
 have h2:=par (2*n);have h3:=Nat.xor_div_two (a:=2*n+1) (b:=1);have h4:=par (2*n+1);rw [show 1 / 2=0 from rfl,Nat.xor_zero] at h1 h3;omega
def QG{id:Int}(h:0<=id/\id<=1099511627776):gw .i64 (2*id) 1=2*id+1/\gw .i64 (2*id+1) 1=2*id:=by
 have key:∀n:Nat,n<=2 ^ 60->gw .i64 (n:Int) 1=((n ^^^ 1:Nat):Int):=λn hn=>by
  show ai ((BitVec.ofInt 64 (n:Int) ^^^ BitVec.ofInt 64 1).toNat:Nat)=_;have e1:(BitVec.ofInt 64 (n:Int)).toNat=n:=by rw [y3];simp only [show ((2 ^ 64:Nat):Int)=18446744073709551616 from rfl];omega
  rw [BitVec.toNat_xor,e1];show ai ((n ^^^ 1:Nat):Int)=_;have:n ^^^ 1<2 ^ 61:=Nat.xor_lt_two_pow aa aE;exact wI
 obtain ⟨x1,x2⟩:=Vt id.toNat;constructor
 ·have:=key (2*id.toNat) aa;rw [x1] at this;rw [show 2*id=((2*id.toNat:Nat):Int) by omega,this];omega
 ·have:=key (2*id.toNat+1) aa;rw [x2] at this;rw [show 2*id+1=((2*id.toNat+1:Nat):Int) by omega,this];omega
def y7{best:Rc}{slot:Int}{r:Int × List Int × Int}:(fA best slot r).1=best.1\/(fA best slot r).1=slot:=by
 unfold fA;split
 ·exact .inr rfl
 ·exact .inl rfl
def FY(D:Dk)(id:Int):(fO D id).1=2*id\/(fO D id).1=2*id+1:=by
 unfold fO;rcases y7 (best:=fA (2*id+1,0,[]) (2*id) (iD (getD D (2*id)))) (slot:=2*id+1) (r:=iD (getD D (2*id+1))) with h|h
 ·rw [h];rcases y7 (best:=(2*id+1,0,[])) (slot:=2*id) (r:=iD (getD D (2*id))) with h|h
  ·exact .inr h
  ·exact .inl h
 ·exact .inr h
def Y1(b:List Int):0<=(iD b).1/\(iD b).1<=1073741824:=by
 by_cases h:(iD b).2.2=0
 ·have:=QH h;omega
 ·rw [(acS h).1];omega
def L4{best:Rc}{slot:Int}(b:List Int)(h:0<=best.2.1/\best.2.1<=1073741824):0<=(fA best slot (iD b)).2.1/\(fA best slot (iD b)).2.1<=1073741824:=by
 unfold fA;split
 ·exact Y1 b
 ·exact h
def Xv(D:Dk)(id:Int):0<=(fO D id).2.1/\(fO D id).2.1<=1073741824:=L4 _ (L4 _ (show (0:Int)<=0/\(0:Int)<=1073741824 by decide))
def iq.save{D:Dk}(h:iq D)(id:Int)(b:List Int):iq (ov D id b).1:=by
 unfold ov;split
 ·split
  ·exact h
  ·split
   ·exact h.put _ _
   ·exact (h.put _ _).sync
 ·exact h
def QI(D:Dk):(ed D).1.l=D.l:=(fB D).2.1
def FZ(D:Dk)(k:Int)(b:List Int):(fT D k b).1.l.length<=D.l.length+1:=by
 unfold fT;split
 ·rw [QI];omega
 ·split
  ·rw [QI];omega
  ·simp
def Y2(D:Dk):(iT D).1.l.length<=D.l.length:=by
 unfold iT;split
 ·rw [QI];omega
 ·simp
def Y3(D:Dk)(id:Int)(b:List Int):(ov D id b).1.l.length<=D.l.length+1:=by
 unfold ov;split
 ·split
  ·exact y8 _
  ·split
   ·exact FZ _ _ _
   ·exact fy (Y2 _) (FZ _ _ _)
 ·exact y8 _
end Go.dQ
namespace Go.dQ
open Go Go.Vc Go.bf
def VI{room id:Int}:qh ⟨room,0,0,[],[]⟩ id=([],0,false):=by unfold qh;split<;>rfl
end Go.dQ
namespace Go.ks
open Go Go.Vc
abbrev Cl:=Int × Int × Int
abbrev It:=Int × Cl
def cv(c:Cl):Value:=.agg #[c.1,c.2.1,c.2.2]
def tv(t:Int):Value:=.int .i64 t
abbrev ef(c:Cl):LV:=[.int .i64 c.1,.int .i64 c.2.1,.int .i64 c.2.2]
abbrev cM(x:It):LV:=[.int .i64 x.1,.int .i64 x.2.1,.int .i64 x.2.2.1,.int .i64 x.2.2.2]
def zX{a b:Cl}(h:cv a=cv b):a=b:=by unfold cv at h;obtain ⟨a1,a2,a3⟩:=a;obtain ⟨b1,b2,b3⟩:=b;simp at h;obtain ⟨rfl,rfl,rfl⟩:=h;rfl
structure QS where
 room:Int
 lost:Int
 l:List It
def bN(l:List It)(c:Cl):List It:=l.filter λx=>x.2 !=c
def pJ(l:List It)(x:It):List It:=l.takeWhile (λy=>y.1<=x.1)++x::l.dropWhile (λy=>y.1<=x.1)
def iA(l:List It)(c:Cl):Option Int:=(l.find? λx=>x.2==c).map (·.1)
def eX(q:QS)(c:Cl)(t:Int):QS × Bool:=
 match iA q.l c with
 |some was=>if was<=t then (q,false) else ({q with l:=pJ (bN q.l c) (t,c)},true)
 |none=>if (q.l.length:Int)>=q.room then ({q with lost:=q.lost+1},false) else ({q with l:=pJ q.l (t,c)},true)
def fC(l:List It)(now many:Int):Nat:=min (l.takeWhile λy=>y.1<=now).length many.toNat
def rK(q:QS)(now many:Int):QS × List Cl:=({q with l:=q.l.drop (fC q.l now many)},(q.l.take (fC q.l now many)).map (·.2))
structure wC(q:QS):Prop where
 room:1<=q.room/\q.room<=4096
 len:(q.l.length:Int)<=q.room
 sorted:q.l.Pairwise λa b=>a.1<=b.1
 nodup:(q.l.map (·.2)).Nodup
def vq(l:List It)(c:Cl):(bN l c).Sublist l:=List.filter_sublist
def zY{l:List It}{c:Cl}{t:Int}(h:iA l c=some t):(t,c) ∈ l:=by
 unfold iA at h
 cases hf:l.find? (λx=>x.2==c) with
 |none=>rw [hf] at h;cases h
 |some x=>
  rw [hf] at h;have h1:=List.find?_some hf;have h2:=XE hf;obtain ⟨a,b⟩:=x;simp at h h1;subst h;subst h1;exact h2
def nQ{l:List It}{c:Cl}(h:iA l c=none):∀x ∈ l,x.2≠c:=by unfold iA at h;rw [Option.map_eq_none_iff,R3] at h;intro x hx e;exact h x hx (by simp [e])
def CV{l:List It}(h:l.Pairwise λa b=>a.1<=b.1)(t:Int):(∀y ∈ l.takeWhile (λy=>y.1<=t),y.1<=t)/\(∀y ∈ l.dropWhile (λy=>y.1<=t),t<y.1):=by
 induction l with
 |nil=>simp
 |cons a l ih=>
  rw [List.pairwise_cons] at h;by_cases ha:a.1<=t
  ·rw [List.takeWhile_cons_of_pos (by simpa using ha),List.dropWhile_cons_of_pos (by simpa using ha)];obtain ⟨i1,i2⟩:=ih h.2;refine ⟨λy hy=> ?_,i2⟩;rcases bI.1 hy with rfl|hy
   ·exact ha
   ·exact i1 y hy
  ·rw [List.takeWhile_cons_of_neg (by simpa using ha),List.dropWhile_cons_of_neg (by simpa using ha)];refine ⟨by simp,λy hy=> ?_⟩;rcases bI.1 hy with rfl|hy
   ·omega
   ·have:=h.1 y hy;omega
def gT{l:List It}(h:l.Pairwise λa b=>a.1<=b.1)(t:Int){i:Nat}{y:It}(hi:l[i]? =some y):i<(l.takeWhile (λy=>y.1<=t)).length ↔ y.1<=t:=by
 have hs:=CV h t;have e:=CW (p:=λy:It=>decide (y.1<=t)) (l:=l);constructor
 ·intro ft;rw [<-e,kP ft] at hi;exact hs.1 y (bc hi)
 ·intro hle;rcases fx i (l.takeWhile (λy=>y.1<=t)).length with ft|Lv
  ·exact ft
  ·rw [<-e,mS Lv] at hi;have:=hs.2 y (bc hi);omega
def tC(l:List It)(x:It):l.take (l.takeWhile λy=>decide (y.1<=x.1)).length++x::l.drop (l.takeWhile λy=>decide (y.1<=x.1)).length=pJ l x:=by
 have h:∀(a b l:List It),a++b=l->l.take a.length++x::l.drop a.length=a++x::b:=by rintro a b _ rfl;simp
 exact h _ _ _ (CW (p:=λy:It=>decide (y.1<=x.1)) (l:=l))
def Hq(l:List It)(x:It):(pJ l x).length=l.length+1:=by have e:=congrArg List.length (CW (p:=λy:It=>decide (y.1<=x.1)) (l:=l));unfold pJ;simp only [eK,fR] at e ⊢;omega
def zZ(l:List It)(x y:It):y ∈ pJ l x ↔ y=x\/y ∈ l:=by
 unfold pJ;conv=>rhs;rw [<-CW (p:=λy:It=>decide (y.1<=x.1)) (l:=l)]
 simp only [ct,bI];constructor
 ·rintro (h|h|h)
  ·exact .inr (.inl h)
  ·exact .inl h
  ·exact .inr (.inr h)
 ·rintro (h|h|h)
  ·exact .inr (.inl h)
  ·exact .inl h
  ·exact .inr (.inr h)
def wF{l:List It}(h:l.Pairwise λa b=>a.1<=b.1)(x:It):(pJ l x).Pairwise λa b=>a.1<=b.1:=by
 have hs:=CV h x.1;have e:=CW (p:=λy:It=>decide (y.1<=x.1)) (l:=l);unfold pJ;rw [<-e,List.pairwise_append] at h;rw [List.pairwise_append];refine ⟨h.1,List.pairwise_cons.2 ⟨λy hy=>by have:=hs.2 y hy;omega,h.2.1⟩,λa ha b hb=> ?_⟩;rcases bI.1 hb with rfl|hb
 ·exact hs.1 a ha
 ·exact h.2.2 a ha b hb
def Aa{l:List It}(h:(l.map (·.2)).Nodup){x:It}(hx:∀y ∈ l,y.2≠x.2):((pJ l x).map (·.2)).Nodup:=by
 have e:=CW (p:=λy:It=>decide (y.1<=x.1)) (l:=l);unfold pJ;have hx':∀y ∈ l.takeWhile (λy=>y.1<=x.1)++l.dropWhile (λy=>y.1<=x.1),y.2≠x.2:=by rw [e];exact hx
 rw [<-e,aT,mq] at h;rw [aT,dE,mq];refine ⟨h.1,lF.2 ⟨λhm=> ?_,h.2.1⟩,λa ha b hb=> ?_⟩
 ·obtain ⟨y,hy,e⟩:=aR.1 hm;exact hx' y (Hr _ hy) e
 ·rcases bI.1 hb with rfl|hb
  ·obtain ⟨y,hy,rfl⟩:=aR.1 ha;exact hx' y (Ab _ hy)
  ·exact h.2.2 a ha b hb
def wC.add{q:QS}(h:wC q)(c:Cl)(t:Int):wC (eX q c t).1:=by
 unfold eX;split
 ·rename_i was hw;split
  ·exact h
  ·have eG:=vq q.l c;have ft:(bN q.l c).length<q.l.length:=by
    have hm:=zY hw;have:(bN q.l c).length≠q.l.length:=λe=>by have:=eG.eq_of_length e;rw [<-this] at hm;unfold bN at hm;simp at hm
    have:=eG.length_le;omega
   have:=h.len;exact ⟨h.room,by rw [Hq];show ((_:Nat):Int)<=q.room;omega,wF (h.sorted.sublist eG) _,Aa ((eG.map _).nodup h.nodup) (λy hy=>by unfold bN at hy;simp at hy;exact hy.2)⟩
 ·rename_i hn;split
  ·exact ⟨h.room,h.len,h.sorted,h.nodup⟩
  ·exact ⟨h.room,by rw [Hq];show ((_:Nat):Int)<=q.room;omega,wF h.sorted _,Aa h.nodup (nQ hn)⟩
def wC.drop{q:QS}(h:wC q)(c:Cl):wC {q with l:=bN q.l c}:=by have eG:=vq q.l c;have:=eG.length_le;have:=h.len;exact ⟨h.room,by show ((bN q.l c).length:Int)<=q.room;omega,h.sorted.sublist eG,(eG.map _).nodup h.nodup⟩
def wC.due{q:QS}(h:wC q)(now many:Int):wC (rK q now many).1:=by have eG:(q.l.drop (fC q.l now many)).Sublist q.l:=List.drop_sublist _ _;have:=eG.length_le;have:=h.len;exact ⟨h.room,by show ((q.l.drop (fC q.l now many)).length:Int)<=q.room;omega,h.sorted.sublist eG,(eG.map _).nodup h.nodup⟩
def vg(q:QS)(c:Cl)(t:Int):q.lost<=(eX q c t).1.lost/\(eX q c t).1.lost<=q.lost+1:=by
 unfold eX;split
 ·split<;>exact ⟨oF _,by show q.lost<=q.lost+1;omega⟩
 ·split
  ·exact ⟨by show q.lost<=q.lost+1;omega,oF _⟩
  ·exact ⟨oF _,by show q.lost<=q.lost+1;omega⟩
def Oy{q:QS}(h:wC q)(now many:Int){k:Nat}{x:It}(hx:q.l[k]? =some x):k<fC q.l now many ↔(k:Int)<many/\x.1<=now:=by have:=gT h.sorted now hx;unfold fC;rw [<-this];omega
def CX(l:List It)(now many:Int):fC l now many<=l.length:=by have:=(List.takeWhile_sublist (λy:It=>decide (y.1<=now)) (l:=l)).length_le;unfold fC;omega
end Go.ks
namespace Go.ks
end Go.ks
namespace Go.ks
open Go Go.Vc
end Go.ks
namespace Go.ks
open Go Go.Vc
def toldV(l:List It):LV:=(List.range 30).map λk:Nat=> .int .i64 (if l.any (λx=>x.2.1==(k:Int)) then 1 else 0)
def toldV_nil:toldV []=bo [af] 30:=by rfl
def toldV_len(l:List It):(toldV l).length=30:=by simp [toldV]
def toldV_get(l:List It){k:Nat}(hk:k<30):(toldV l)[k]? =some (.int .i64 (if l.any (λx=>x.2.1==(k:Int)) then 1 else 0)):=by unfold toldV;rw [aX,FP hk];rfl
def toldV_set{l:List It}{p k:Nat}{x:It}(hx:l[p]? =some x)(hk:x.2.1=(k:Int))(arz:k<30):(toldV (l.take p)).set k (1:Int)=toldV (l.take (p+1)):=by
 apply ik;intro i;rw [ij];rcases fx i 30 with h|h
 ·rw [cu,hx];split
  ·rename_i e;subst e;rw [if_pos (by rw [toldV_len];exact h),toldV_get _ h];simp [hk]
  ·rename_i e;rw [toldV_get _ h,toldV_get _ h];have:(x.2.1==(i:Int))=false:=by rw [hk];simp;omega
   simp only [List.any_append,Option.toList_some,List.any_cons,List.any_nil,this,Bool.or_false]
 ·rw [il (by rw [toldV_len];exact h),il (by rw [toldV_len];exact h),if_neg aa]
def told_not{l:List It}(hn:(l.map (·.2)).Nodup)(hc:∀x ∈ l,∃j:Nat,x.2=((j:Int),0,0)){p:Nat}{x:It}(hx:l[p]? =some x):(l.take p).any (λy=>y.2.1==x.2.1)=false:=by
 rw [List.any_eq_false];intro y hy e;simp only [beq_iff_eq] at e;obtain ⟨hp,he⟩:=bF.1 hx;have h2:y.2=x.2:=by obtain ⟨a,ha⟩:=hc y (kh hy);obtain ⟨b,hb⟩:=hc x (he▸List.getElem_mem _);rw [ha,hb] at e ⊢;rw [show (a:Int)=b from e]
 have hd:l=l.take p++x::l.drop (p+1):=by rw [<-he,<-kT hp,kf]
 rw [hd,aT,dE,mq] at hn;exact hn.2.2 y.2 (List.mem_map_of_mem hy) x.2 (List.mem_cons_self ..) h2
end Go.ks
namespace Go.jd
open Go Go.Vc Go.dQ Go.ks
abbrev Cg:=Ce × Int
def fp(b:Int):Bool:=decide (8<=b) && decide (b<16)
def bO(b:Int):Int:=if b=3 then 2 else if fp b then 5 else 0
def dp(b:Int):Int:=if fp b then b-8 else -1
def gA(l:Int):Int:=8+min (max l 0) 7
def qv(b:Int):Bool:=decide (b=0)||fp b
def bz(c:Ce):Ce:=(c.1,c.2.1-1,c.2.2)
def ir(c:Ce):Ce:=(c.1,c.2.1+1,c.2.2)
def aQ(c:Ce):List Ce:=[(c.1-1,c.2.1,c.2.2),(c.1+1,c.2.1,c.2.2),(c.1,c.2.1,c.2.2-1),(c.1,c.2.1,c.2.2+1)]
def iF(c:Ce):List Ce:=[(c.1-1,c.2.1,c.2.2),(c.1+1,c.2.1,c.2.2),bz c,ir c,(c.1,c.2.1,c.2.2-1),(c.1,c.2.1,c.2.2+1)]
def iN(V:Ce->Int)(c:Ce):List Ce:=(c::iF c).filter λn=>decide (0<bO (V n))
def oB(V:Ce->Int)(now:Int)(q:QS)(c:Ce):QS:=(iN V c).foldl (λq n=>(eX q n (now+bO (V n))).1) q
def rn(V:Ce->Int)(l:List Ce):Int:=l.foldl (λm n=>if 0<=dp (V n) then min m (dp (V n)) else m) 7
def dh(V:Ce->Int)(c:Ce):Int × Bool:=if fp (V (ir c)) then (1,true) else if rn V (aQ c)=7 then (0,false) else (rn V (aQ c)+1,true)
def pr(V:Ce->Int)(c:Ce):List Cg:=if qv (V (bz c)) then [(c,V (bz c)),(bz c,3)] else []
def jO(V:Ce->Int)(c:Ce)(level:Int):List Cg:=
 if 0<level/\(dh V c).2=false then [(c,0)]
 else if 0<level/\(dh V c).1≠level then [(c,gA (dh V c).1)]
 else if V (bz c)=0 then [(bz c,gA 1)]
 else if fp (V (bz c))=true\/7<=level then []
 else ((aQ c).filter λn=>decide (V n=0)).map λn=>(n,gA (level+1))
def jq(V:Ce->Int)(c:Ce):List Cg:=if V c=3 then pr V c else if fp (V c) then jO V c (dp (V c)) else []
def Gs{V:Ce->Int}{c:Ce}(h0:bO (V c)=0)(h:∀n ∈ iF c,bO (V n)=0):iN V c=[]:=by
 unfold iN;rw [List.filter_eq_nil_iff];intro n hn;rcases bI.1 hn with rfl|hn
 ·rw [h0];decide
 ·rw [h n hn];decide
def J6{V:Ce->Int}{c:Ce}(h0:0<bO (V c))(h:∀n ∈ iF c,bO (V n)=0):iN V c=[c]:=by unfold iN;rw [pk,if_pos (by simpa using h0),List.filter_eq_nil_iff.2 λn hn=>by rw [h n hn];decide]
def mZ:bO 0=0:=by decide
def zA:bO 3=2:=by decide
def Q3{V:Ce->Int}{c:Ce}(h:V c=3)(hl:V (bz c)=0):jq V c=[(c,0),(bz c,3)]:=by unfold jq pr qv;rw [if_pos h,hl,if_pos aE]
end Go.jd
namespace Go.jd
open Go Go.Vc Go.dQ Go.ks
def dC(V:Ce->Int)(c:Ce):Int:=if fp (V (ir c)) then 1 else (aQ c).foldl (λm n=>if fp (V n) then min m (V n-8+1) else m) 8
def iU(V:Ce->Int)(c:Ce):List Cg:=
 if V c=3 then pr V c
 else if fp (V c)=false then []
 else if 0<V c-8/\7<dC V c then [(c,0)]
 else if 0<V c-8/\dC V c≠V c-8 then [(c,8+dC V c)]
 else if V (bz c)=0 then [(bz c,9)]
 else if fp (V (bz c))=true\/V c-8=7 then []
 else ((aQ c).filter λn=>decide (V n=0)).map λn=>(n,9+(V c-8))
def zb{b:Int}(h:fp b=true):dp b=b-8/\0<=b-8/\b-8<=7:=by unfold dp;rw [if_pos h];unfold fp at h;simp at h;omega
def Y4{b:Int}(h:¬fp b=true):dp b= -1:=by unfold dp;rw [if_neg h]
def DL(V:Ce->Int):∀(l:List Ce)(m:Int),m<=7->l.foldl (λm n=>if fp (V n) then min m (V n-8+1) else m) (m+1)=l.foldl (λm n=>if 0<=dp (V n) then min m (dp (V n)) else m) m+1/\l.foldl (λm n=>if 0<=dp (V n) then min m (dp (V n)) else m) m<=7
 | [],m,hm=>⟨rfl,hm⟩
 |n::l,m,hm=>by
  simp only [jI]
  by_cases hw:fp (V n)=true
  ·obtain ⟨e1,e2,e3⟩:=zb hw
   rw [if_pos hw,if_pos aa,e1]
   rw [show min (m+1) (V n-8+1)=min m (V n-8)+1 by omega]
   exact DL V l _ aa
  ·rw [if_neg hw,if_neg (by rw [Y4 hw];omega)]
   exact DL V l m hm
def Vv(V:Ce->Int)(c:Ce):((dh V c).2=false ↔ 7<dC V c)/\((dh V c).2=true->(dh V c).1=dC V c/\1<=dC V c\/(dh V c).1=dC V c):=by
 obtain ⟨h1,h2⟩:=DL V (aQ c) 7 aa;have hl:(aQ c).foldl (λm n=>if 0<=dp (V n) then min m (dp (V n)) else m) 7=rn V (aQ c):=rfl;rw [hl] at h1 h2;have h1:(aQ c).foldl (λm n=>if fp (V n) then min m (V n-8+1) else m) 8=rn V (aQ c)+1:=h1;unfold dC dh;by_cases hw:fp (V (ir c))=true
 ·rw [if_pos hw,if_pos hw];exact ⟨by simp,λ_=> .inr rfl⟩
 ·rw [if_neg hw,if_neg hw,h1];by_cases h7:rn V (aQ c)=7
  ·rw [if_pos h7,h7];exact ⟨by simp,λh=>by simp at h⟩
  ·rw [if_neg h7];refine ⟨?_,λ_=> .inr rfl⟩;simp only [Bool.true_eq_false,false_iff];omega
def zc(V:Ce->Int)(c:Ce):1<=dC V c/\dC V c<=8:=by
 unfold dC;split
 ·omega
 ·have key:∀(l:List Ce)(m:Int),1<=m/\m<=8->1<=l.foldl (λm n=>if fp (V n) then min m (V n-8+1) else m) m/\l.foldl (λm n=>if fp (V n) then min m (V n-8+1) else m) m<=8:=by
   intro l
   induction l with
   |nil=>intro m h;exact h
   |cons n l ih=>
    intro m h;simp only [jI];refine ih _ ?_;split
    ·rename_i hw;have:=zb hw;omega
    ·exact h
  exact key _ _ aa
def Y5(V:Ce->Int)(c:Ce):iU V c=jq V c:=by
 unfold iU jq;by_cases h3:V c=3
 ·rw [if_pos h3,if_pos h3]
 ·rw [if_neg h3,if_neg h3];by_cases hw:fp (V c)=true
  ·obtain ⟨e1,e2,e3⟩:=zb hw;obtain ⟨f1,f2⟩:=Vv V c;obtain ⟨f3,f4⟩:=zc V c;rw [if_neg (by rw [hw];simp),if_pos hw,e1];unfold jO;by_cases a:0<V c-8/\7<dC V c
   ·rw [if_pos a,if_pos ⟨a.1,f1.2 a.2⟩]
   ·have a':¬(0<V c-8/\(dh V c).2=false):=λq=>a ⟨q.1,f1.1 q.2⟩
    rw [if_neg a,if_neg a'];have hb:0<V c-8->(dh V c).1=dC V c:=λh=>by
     have h2:(dh V c).2=true:=by
      cases hq:(dh V c).2 with
      |true=>rfl
      |false=>exact absurd ⟨h,f1.1 hq⟩ a
     rcases f2 h2 with q|q
     ·exact q.1
     ·exact q
    by_cases b:0<V c-8/\dC V c≠V c-8
    ·have b':0<V c-8/\(dh V c).1≠V c-8:=⟨b.1,by rw [hb b.1];exact b.2⟩;rw [if_pos b,if_pos b',hb b.1];have:dC V c<=7:=by
      by_cases q:7<dC V c
      ·exact absurd ⟨b.1,q⟩ a
      ·omega
     unfold gA;rw [show min (max (dC V c) 0) 7=dC V c by omega]
    ·have b':¬(0<V c-8/\(dh V c).1≠V c-8):=λq=>b ⟨q.1,by rw [<-hb q.1];exact q.2⟩
     rw [if_neg b,if_neg b'];by_cases d:V (bz c)=0
     ·rw [if_pos d,if_pos d];rfl
     ·rw [if_neg d,if_neg d];by_cases e:fp (V (bz c))=true\/V c-8=7
      ·have e':fp (V (bz c))=true\/7<=V c-8:=e.imp id λq=>by omega
       rw [if_pos e,if_pos e']
      ·have e':¬(fp (V (bz c))=true\/7<=V c-8):=λq=>e (q.imp id λq=>by omega)
       rw [if_neg e,if_neg e'];unfold gA;have:V c-8≠7:=λq=>e (.inr q)
       rw [show 8+min (max (V c-8+1) 0) 7=9+(V c-8) by omega]
  ·rw [if_pos (by simpa using hw),if_neg hw]
def nt(c d:Ce):Ce:=(c.1-1+d.1,c.2.1-1+d.2.1,c.2.2-1+d.2.2)
def eV:Ce:=(1,1,1)
def Small(V U:Ce->Int)(c:Ce):Prop:=∀d:Ce,(0<=d.1/\d.1<3)->(0<=d.2.1/\d.2.1<3)->(0<=d.2.2/\d.2.2<3)->U d=V (nt c d)
def ze(c:Ce):nt c eV=c:=by obtain ⟨x,y,z⟩:=c;unfold nt eV;simp only [Prod.mk.injEq];omega
def JG(c:Ce):nt c (bz eV)=bz c:=by obtain ⟨x,y,z⟩:=c;unfold nt eV bz;simp only [Prod.mk.injEq];omega
def Vw(c:Ce):nt c (ir eV)=ir c:=by obtain ⟨x,y,z⟩:=c;unfold nt eV ir;simp only [Prod.mk.injEq];omega
def F8(c:Ce):(aQ eV).map (nt c)=aQ c:=by obtain ⟨x,y,z⟩:=c;unfold aQ eV nt;simp only [dE,List.map_nil,List.cons.injEq,Prod.mk.injEq,and_true];omega
def JH{V U:Ce->Int}{c:Ce}(h:Small V U c):(iU U eV).map (λx=>(nt c x.1,x.2))=iU V c:=by
 have h1:U eV=V c:=by rw [h eV aE aE aE,ze]
 have h2:U (bz eV)=V (bz c):=by rw [h (bz eV) aE aE aE,JG]
 have h3:U (ir eV)=V (ir c):=by rw [h (ir eV) aE aE aE,Vw]
 have h4:∀n ∈ aQ eV,U n=V (nt c n):=by intro n hn;unfold aQ eV at hn;simp only [bI,fS,or_false] at hn;rcases hn with rfl|rfl|rfl|rfl<;>exact h _ aE aE aE
 have key:∀(l:List Ce)(m:Int),(∀n ∈ l,U n=V (nt c n))->l.foldl (λm n=>if fp (U n) then min m (U n-8+1) else m) m=(l.map (nt c)).foldl (λm n=>if fp (V n) then min m (V n-8+1) else m) m:=by
  intro l
  induction l with
  |nil=>intro m _;rfl
  |cons n l ih=>
   intro m hl;simp only [jI,dE];rw [hl n (.head _)];exact ih _ λk hk=>hl k (.tail _ hk)
 have h5:dC U eV=dC V c:=by unfold dC;rw [h3,key _ _ h4,F8]
 have h6:((aQ eV).filter λn=>decide (U n=0)).map (nt c)=(aQ c).filter λn=>decide (V n=0):=by
  have key2:∀l:List Ce,(∀n ∈ l,U n=V (nt c n))->(l.filter λn=>decide (U n=0)).map (nt c)=(l.map (nt c)).filter λn=>decide (V n=0):=by
   intro l
   induction l with
   |nil=>intro _;rfl
   |cons n l ih=>
    intro hl;rw [pk,dE,pk,hl n (.head _)];have:=ih λk hk=>hl k (.tail _ hk)
    split
    ·rw [dE,this]
    ·exact this
  rw [key2 _ h4,F8]
 unfold iU pr;rw [h1,h2,h5];split
 ·split
  ·simp only [dE,List.map_nil,ze,JG]
  ·rfl
 ·split
  ·rfl
  ·split
   ·simp only [dE,List.map_nil,ze]
   ·split
    ·simp only [dE,List.map_nil,ze]
    ·split
     ·simp only [dE,List.map_nil,JG]
     ·split
      ·rfl
      ·rw [<-h6];simp only [kd];rfl
end Go.jd
