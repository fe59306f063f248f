import Derived.Test.YtalpkjfpmdpbiaaGreatDoorLib
set_option linter.all false
namespace Go.bh
open Go Go.Vc
abbrev Rn:=Int × Int
def aX(l:List Rn):List Int:=l.flatMap λr=>List.replicate r.1.toNat r.2
def gu(out:List Rn)(r:Rn):List Rn:=
 if r.1<1 then out else
 match out.getLast? with
 |some q=>if q.2=r.2 then out.dropLast++ [(q.1+r.1,q.2)] else out++ [r]
 |none=>out++ [r]
def cM(c:List Int):List Rn:=c.foldl (λo b=>gu o (1,b)) []
def bg(l:List Rn):Int:=(l.map (·.1)).sum
inductive Nm:List Rn->Prop
 |nil:Nm []
 |snoc (l:List Rn) (r:Rn) (h:Nm l) (h1:1<=r.1) (h2:∀q,l.getLast? =some q->q.2≠r.2):Nm (l++ [r])
def jW{o:List Rn}{r:Rn}(h:r.1<1):gu o r=o:=by unfold gu;rw [if_pos h]
def gi{l:List Rn}{q r:Rn}(h1:1<=r.1)(e:q.2=r.2):gu (l++ [q]) r=l++ [(q.1+r.1,q.2)]:=by
 unfold gu;have hl:(l++ [q]).getLast? =some q:=by simp
 rw [if_neg aa,hl];simp [e]
def eD{l:List Rn}{r:Rn}(h1:1<=r.1)(h2:∀q,l.getLast? =some q->q.2≠r.2):gu l r=l++ [r]:=by
 unfold gu;rw [if_neg aa];split
 ·rename_i q hq;rw [if_neg (h2 q hq)]
 ·rfl
def nQ(l:List Rn):l=[]\/∃m q,l=m++ [q]:=by
 rcases List.eq_nil_or_concat l with h|⟨m,q,h⟩
 ·exact .inl h
 ·exact .inr ⟨m,q,by simpa using h⟩
def Pm(o:List Rn){a c b:Int}(ha:1<=a)(hc:1<=c):gu (gu o (a,b)) (c,b)=gu o (a+c,b):=by
 have hac:1<=a+c:=by omega
 rcases nQ o with rfl|⟨m,q,rfl⟩
 ·rw [eD (l:=[]) (r:=(a,b)) ha cx,eD (l:=[]) (r:=(a+c,b)) hac cx,gi (q:=(a,b)) (r:=(c,b)) hc rfl]
 ·by_cases e:q.2=b
  ·rw [gi (r:=(a,b)) ha e,gi (r:=(a+c,b)) hac e,gi (q:=(q.1+a,q.2)) (r:=(c,b)) hc e];simp [Int.add_assoc]
  ·have h2:∀x:Int,∀p,(m++ [q]).getLast? =some p->p.2≠((x,b):Rn).2:=by intro x p hp;simp at hp;subst hp;exact e
   rw [eD (r:=(a,b)) ha (h2 a),eD (r:=(a+c,b)) hac (h2 _),gi (q:=(a,b)) (r:=(c,b)) hc rfl]
def H2(o:List Rn)(b:Int):∀n:Nat,(List.replicate n b).foldl (λo b=>gu o (1,b)) o=gu o ((n:Int),b)
 |0=>by rw [jW cx];rfl
 |n+1=>by
  rw [List.replicate_succ',jc,H2 o b n]
  show gu (gu o ((n:Int),b)) (1,b)=_
  rcases tk n with rfl|hn
  ·rw [jW (r:=(((0:Nat):Int),b)) cx];rfl
  ·rw [Pm o aa aa];rfl
def WE(c d:List Int):cM (c++d)=d.foldl (λo b=>gu o (1,b)) (cM c):=by unfold cM;rw [jc]
def tF(c:List Int)(r:Rn):gu (cM c) r=cM (c++List.replicate r.1.toNat r.2):=by
 rw [WE,H2];rcases oF r.1 1 with h|h
 ·rw [jW h,jW (by show ((r.1.toNat:Nat):Int)<1;omega)]
 ·rw [show ((r.1.toNat:Nat):Int)=r.1 from by omega]
def Nm.push{o:List Rn}(h:Nm o)(r:Rn):Nm (gu o r):=by
 rcases oF r.1 1 with h1|h1
 ·rw [jW h1];exact h
 ·cases h with
  |nil=>rw [eD h1 cx];exact .snoc _ _ .nil h1 cx
  |snoc l q hl hq h2=>
   by_cases e:q.2=r.2
   ·rw [gi h1 e];exact .snoc _ _ hl (by show 1<=q.1+r.1;omega) h2
   ·have h3:∀p,(l++ [q]).getLast? =some p->p.2≠r.2:=by intro p hp;simp at hp;subst hp;exact e
    rw [eD h1 h3];exact .snoc _ _ (.snoc _ _ hl hq h2) h1 h3
def Ag(c:List Int):Nm (cM c):=by
 have:∀(c:List Int)(o:List Rn),Nm o->Nm (c.foldl (λo b=>gu o (1,b)) o):=by
  intro c
  induction c with
  |nil=>intro o h;exact h
  |cons b c ih=>intro o h;exact ih _ (h.push _)
 exact this c [] .nil
def fm(l m:List Rn):aX (l++m)=aX l++aX m:=by unfold aX;rw [List.flatMap_append]
def gY(r:Rn):aX [r]=List.replicate r.1.toNat r.2:=by simp [aX]
def Nm.fix{l:List Rn}(h:Nm l):cM (aX l)=l:=by
 induction h with
 |nil=>rfl
 |snoc l r hl h1 h2 ih=>
  rw [fm,gY,<-tF,ih,eD h1 h2]
def Nm.pos{l:List Rn}(h:Nm l):∀r ∈ l,1<=r.1:=by
 induction h with
 |nil=>simp
 |snoc l r hl h1 h2 ih=>
  intro q hq;rcases cu.1 hq with hq|hq
  ·exact ih q hq
  ·simp at hq;rw [hq];exact h1
def LD{o:List Rn}(h:Nm o)(r:Rn):aX (gu o r)=aX o++List.replicate r.1.toNat r.2:=by
 rcases oF r.1 1 with h1|h1
 ·rw [jW h1,show r.1.toNat=0 from by omega];simp
 ·cases h with
  |nil=>rw [eD h1 cx,fm,gY]
  |snoc l q hl hq h2=>
   by_cases e:q.2=r.2
   ·rw [gi h1 e,fm,fm,gY,gY];show _++List.replicate (q.1+r.1).toNat q.2=_;rw [show (q.1+r.1).toNat=q.1.toNat+r.1.toNat from by omega,<-List.replicate_append_replicate,e];simp
   ·rw [eD h1 (by intro p hp;simp at hp;subst hp;exact e),fm,gY]
def jb(c:List Int):aX (cM c)=c:=by
 have:∀(c:List Int)(o:List Rn),Nm o->aX (c.foldl (λo b=>gu o (1,b)) o)=aX o++c:=by
  intro c
  induction c with
  |nil=>intro o h;simp
  |cons b c ih=>intro o h;rw [jL,ih _ (h.push _),LD h];simp
 rw [cM,this c [] .nil];rfl
def H3(l m:List Rn):bg (l++m)=bg l+bg m:=by simp [bg]
def dz{l:List Rn}(h:∀r ∈ l,0<=r.1):bg l=((aX l).length:Nat):=by
 induction l with
 |nil=>rfl
 |cons r l ih=>
  have:=ih λq hq=>h q (.tail _ hq)
  have hr:=h r (.head _);simp only [bg,dG,List.sum_cons] at this ⊢;rw [this];simp [aX];omega
def iB(c:List Int):bg (cM c)=(c.length:Nat):=by rw [dz λr hr=>by have:=(Ag c).pos r hr;omega,jb]
def Nm.Z9{l:List Rn}(h:Nm l):l.length<=(aX l).length:=by
 induction h with
 |nil=>simp
 |snoc l r hl h1 h2 ih=>rw [fm,gY];simp;omega
def j7(c:List Int):(cM c).length<=c.length:=by have:=(Ag c).Z9;rwa [jb] at this
end Go.bh
namespace Go.bh
def WG{l:List Rn}(h:∀r ∈ l,0<=r.1){q:Rn}(hq:q ∈ l):q.1<=bg l:=by
 induction l with
 |nil=>cases hq
 |cons r l ih=>
  have hr:=h r (.head _);have hl:0<=bg l:=by rw [dz λq hq=>h q (.tail _ hq)];omega
  have e:bg (r::l)=r.1+bg l:=by simp [bg]
  rw [e];rcases bJ.1 hq with rfl|hq
  ·omega
  ·have:=ih (λq hq=>h q (.tail _ hq)) hq;omega
def iK{c:List Int}{q:Rn}(hq:q ∈ cM c):1<=q.1/\q.1<=(c.length:Nat):=by have h:=(Ag c).pos;refine ⟨h q hq,?_⟩;rw [<-iB];exact WG (λr hr=>by have:=h r hr;omega) hq
def Co(c:List Int)(a b:Int):List Int:=(c.take b.toNat).drop a.toNat
def S1(c:List Int)(n:Nat)(x a b:Int)(ha:0<=a)(hb:0<=b):
  Co (c++List.replicate n x) a b=Co c a b++List.replicate (min b (c.length+n:Nat)-max a (c.length:Nat)).toNat x:=by
 unfold Co;rw [List.take_append,List.drop_append,List.take_replicate,List.drop_replicate,bF];congr 2;omega
end Go.bh
namespace Go.bh
def uj(c:List Int)(a b x:Int):List Int:=c.mapIdx λi y=>if a<=(i:Int)/\(i:Int)<b then x else y
def Pn(c:List Int)(a b x:Int):(uj c a b x).length=c.length:=by simp [uj]
def LF(c:List Int)(a b x:Int)(h:min (max b 0) (c.length:Int)<=min (max a 0) (c.length:Int)):uj c a b x=c:=by
 apply im;intro i;unfold uj;rw [List.getElem?_mapIdx];rcases fz i c.length with hi|hi
 ·rw [cy hi];show some (if _ then x else _)=_;rw [if_neg aa]
 ·rw [iq hi];rfl
def Ds(c:List Int)(a b x:Int)(h:min (max a 0) (c.length:Int)<min (max b 0) (c.length:Int)):
  uj c a b x=Co c 0 (min (max a 0) (c.length:Int))++List.replicate (min (max b 0) (c.length:Int)-min (max a 0) (c.length:Int)).toNat x++Co c (min (max b 0) (c.length:Int)) c.length:=by
 have h1:(Co c 0 (min (max a 0) (c.length:Int))).length=(min (max a 0) (c.length:Int)).toNat:=by unfold Co;simp;omega
 apply im;intro i;unfold uj;rw [List.getElem?_mapIdx,mX];rcases fz i c.length with hi|hi
 ·rw [cy hi];show some (if _ then x else _)=_;rcases fz i (min (max a 0) (c.length:Int)).toNat with hl|hl
  ·rw [if_neg aa,kT aa];unfold Co;rw [th,mW];simp only [Int.toNat_zero,cP];rw [if_pos hl,cy hi]
  ·rw [mV aa,h1];rcases fz i (min (max b 0) (c.length:Int)).toNat with hm|hm
   ·rw [if_pos aa,kT (by rw [tE];omega),Ng,if_pos aa]
   ·rw [if_neg aa,mV (by rw [tE];omega),tE];unfold Co;rw [th,mW,if_pos aa];rw [show (min (max b 0) (c.length:Int)).toNat+(i-(min (max a 0) (c.length:Int)).toNat-(min (max b 0) (c.length:Int)-min (max a 0) (c.length:Int)).toNat)=i from by omega];rw [cy hi]
 ·rw [iq hi];symm;rw [Option.map_none,iq];simp only [eP,tE,h1];unfold Co;simp;omega
def Pp(c:List Int)(i x:Int)(h0:0<=i)(h1:i<(c.length:Int)):uj c i (i+1) x=c.set i.toNat x:=by
 apply im;intro j;unfold uj;rw [List.getElem?_mapIdx,il];rcases fz j c.length with hj|hj
 ·rw [cy hj];show some (if _ then x else _)=_;by_cases e:i.toNat=j
  ·rw [if_pos aa,if_pos e,if_pos aa]
  ·rw [if_neg aa,if_neg e]
 ·rw [iq hj,if_neg aa];rfl
def OF(c:List Int)(i:Int):Int:=if i<0 then -1 else c.getD i.toNat (-1)
def WH(c:List Int)(i:Int)(h:i<0\/(c.length:Int)<=i):OF c i= -1:=by
 unfold OF;split
 ·rfl
 ·rw [dh,iq aa];rfl
def aaa(c d:List Int)(n:Nat)(x i:Int)(h0:(c.length:Int)<=i)(h1:i<(c.length:Int)+n):OF (c++List.replicate n x++d) i=x:=by unfold OF;rw [if_neg aa,dh,mX,mV aa,kT (by rw [tE];omega),Ng,if_pos aa];rfl
def ma(may:Int->Bool):Option Int->Int->List Rn->Bool
 |_,left,[]=>left==0
 |prev,left,r::t=>if r.1<1\/r.1>left\/may r.2=false\/prev=some r.2 then false else ma may (some r.2) (left-r.1) t
def ju(may:Int->Bool)(l:List Rn)(n:Int):Bool:=decide (0<n) && ma may none n l
def H4{may:Int->Bool}:∀{l:List Rn} {prev:Option Int} {left:Int},ma may prev left l=true->bg l=left
 | [],_,left,h=>by simp [ma] at h;rw [h];rfl
 |r::t,prev,left,h=>by
  unfold ma at h
  split at h
  ·cases h
  ·have:=H4 h
   simp only [bg,dG,List.sum_cons] at this ⊢
   omega
def vv{may:Int->Bool}:∀{l:List Rn} {prev:Option Int} {left:Int},(∀r ∈ l,1<=r.1/\may r.2=true)->(∀i q r,l[i]? =some q->l[i+1]? =some r->q.2≠r.2)->(∀r,l.head? =some r->prev≠some r.2)->bg l=left->ma may prev left l=true
 | [],_,left,_,_,_,h=>by simp [ma,<-h,bg]
 |r::t,prev,left,h1,h2,h3,h=>by
  have hr:=h1 r (.head _)
  have ht:0<=bg t:=by rw [dz λq hq=>by have:=h1 q (.tail _ hq);omega];omega
  have e:bg (r::t)=r.1+bg t:=by simp [bg]
  unfold ma;rw [if_neg (by
   have:=h3 r rfl;rintro (h|h|h|h)
   ·omega
   ·omega
   ·rw [hr.2] at h;cases h
   ·exact this h)]
  refine vv (λq hq=>h1 q (.tail _ hq)) (λi q s hq hs=>h2 (i+1) q s (by simpa using hq) (by simpa using hs)) (λq hq=> ?_) aa;have:=h2 0 r q rfl (by cases t<;>simp_all);intro e2;exact this (Option.some.inj e2)
def Nm.next{l:List Rn}(h:Nm l):∀i q r,l[i]? =some q->l[i+1]? =some r->q.2≠r.2:=by
 induction h with
 |nil=>intro i q r h;simp at h
 |snoc l p hl h1 h2 ih=>
  intro i q r hq hr;rcases fz (i+1) l.length with fH|Me
  ·rw [kT aa] at hq hr;exact ih i q r hq hr
  ·have hi:=(bH.1 hr).1;simp at hi;have:i+1=l.length:=by omega
   rw [kT aa] at hq;rw [mV aa,this] at hr;simp at hr;subst hr;refine h2 q ?_;rw [List.getLast?_eq_getElem?,show l.length-1=i from by omega];exact hq
def OP{l:List Rn}{r:Rn}(h:r ∈ l)(h1:1<=r.1):r.2 ∈ aX l:=by unfold aX;refine List.mem_flatMap.2 ⟨r,h,?_⟩;rw [Q5];exact ⟨by omega,rfl⟩
end Go.bh
namespace Go.bh
def Wq{c:List Int}{i:Int}(h0:0<=i)(h1:i<(c.length:Int)):c[i.toNat]? =some (OF c i):=by unfold OF;rw [if_neg aa,dh,cy aa];rfl
end Go.bh
namespace Go.Code
open Go Go.Vc Go.bh
def l8:Nat->Int->List Int
 |0,_=> []
 |k+1,x=>if x<128 then [x] else (128+x % 128)::l8 k (x / 128)
def ie(n:Int):List Int:=if n<0\/n>1048576 then [] else l8 3 n
def mG:Nat->Nat->Int->List Int->Int × Int × Int
 |0,_,_,_=>(0,0,2)
 |_+1,_,_,[]=>(0,0,3)
 |k+1,i,n,c::t=>if c>=128 then mG k (i+1) (n+c % 128*128 ^ i) t
  else if (c=0/\0<i)\/n+c % 128*128 ^ i>1048576 then (0,0,2) else (n+c % 128*128 ^ i,(i:Int)+1,0)
def dT(b:List Int):Int × Int × Int:=mG 3 0 0 b
def wrap_u8(x:Int):mg x=x % 256:=by unfold IntKind.wrap;simp [IntKind.bits,IntKind.signed]
def adI(x:Int)(h:0<=x):Gk .u8 (mg x) 128=128+x % 128:=by
 rw [wrap_u8];have key:∀a<256,Gk .u8 ((a:Nat):Int) 128=128+((a:Nat):Int) % 128:=by decide+kernel
 have:=key (x % 256).toNat aa;rw [show (((x % 256).toNat:Nat):Int)=x % 256 from by omega] at this;rw [this];omega
def Oh(c:Int)(h:0<=c)(h':c<256):j5 .u8 c 128=c % 128:=by
 have key:∀a<256,j5 .u8 ((a:Nat):Int) 128=((a:Nat):Int) % 128:=by decide+kernel
 have:=key c.toNat aa;rwa [show ((c.toNat:Nat):Int)=c from by omega] at this
def ZV(n c k:Nat)(h:n<2 ^ k)(hb:n+c*2 ^ k<4611686018427387904):Gk .i64 (n:Int) ((c*2 ^ k:Nat):Int)=((n+c*2 ^ k:Nat):Int):=by
 unfold Gk;have e1:∀m:Nat,m<4611686018427387904->(BitVec.ofInt IntKind.i64.bits (m:Int)).toNat=m:=by intro m hm;rw [zx];show ((m:Int) %((2 ^ 64:Nat):Int)).toNat=m;rw [show ((2 ^ 64:Nat):Int)=18446744073709551616 from by decide];omega
 rw [BitVec.toNat_or,e1 n aa,e1 _ aa,Nat.or_comm];have:=Nat.shiftLeft_add_eq_or_of_lt h c;rw [Nat.shiftLeft_eq] at this;rw [<-this,CU];exact wI
end Go.Code
namespace Go.Code
open Go Go.Vc Go.bh
def ZW(k:Nat)(hk:k<3)(n c:Int)(h0:0<=n)(h1:n<128 ^ k)(hc:0<=c)(hc':c<256):
  Gk .i64 n (ai ((ai (j5 .u8 c 128))*2 ^(min ((ai (7*(k:Int))):Int).toNat 64)))=n+c % 128*128 ^ k/\0<=ai (7*(k:Int)):=by
 have hw:=az (n:=7*(k:Int)) (by unfold inI;omega);rw [hw,Oh c hc hc',az (n:=c % 128) (by unfold inI;omega)];refine ⟨?_,by omega⟩;have e:((2:Int) ^(min ((7*(k:Int)):Int).toNat 64))=128 ^ k:=by
  have:k=0\/k=1\/k=2:=by omega
  rcases this with rfl|rfl|rfl<;>decide
 rw [e];have hp:(128:Int) ^ k<=16384/\1<=(128:Int) ^ k:=by
  have:k=0\/k=1\/k=2:=by omega
  rcases this with rfl|rfl|rfl<;>decide
 have hm:c % 128*128 ^ k<=127*16384:=by
  have:k=0\/k=1\/k=2:=by omega
  rcases this with rfl|rfl|rfl<;>simp<;>omega
 have hm0:0<=c % 128*128 ^ k:=oG aa aa;rw [az (n:=c % 128*128 ^ k) (by unfold inI;omega)];have e7:((2 ^(7*k):Nat):Int)=128 ^ k:=by
  have:k=0\/k=1\/k=2:=by omega
  rcases this with rfl|rfl|rfl<;>decide
 have e2:c % 128*128 ^ k=(((c % 128).toNat*2 ^(7*k):Nat):Int):=by rw [Int.natCast_mul,e7,show (((c % 128).toNat:Nat):Int)=c % 128 from by omega]
 have:=ZV n.toNat (c % 128).toNat (7*k) (by
  have:((n.toNat:Nat):Int)<((2 ^(7*k):Nat):Int):=by rw [e7];omega
  omega) (by
  have:(((c % 128).toNat*2 ^(7*k):Nat):Int)<=127*16384:=by rw [<-e2];exact hm
  omega)
 rw [e2,show n=((n.toNat:Nat):Int) from by omega];rw [this];simp
def qG{k j:Nat}{n c:Int}{t:List Int}:mG (j+1) k n (c::t)=if c>=128 then mG j (k+1) (n+c % 128*128 ^ k) t
   else if (c=0/\0<k)\/n+c % 128*128 ^ k>1048576 then (0,0,2) else (n+c % 128*128 ^ k,(k:Int)+1,0):=rfl
def GZ(k:Nat)(n c:Int)(h1:n<128 ^ k):n+c % 128*128 ^ k<128 ^(k+1):=by have hp:0<=(128:Int) ^ k:=Int.pow_nonneg aa;have:c % 128*128 ^ k<=127*128 ^ k:=Int.mul_le_mul_of_nonneg_right aa hp;rw [Int.pow_succ];omega
end Go.Code
namespace Go.Code
open Go Go.Vc Go.bh
def tI:Int->List Rn->Bool
 |_,[]=>true
 |left,r::t=>if r.1<1\/r.1>left then false else tI (left-r.1) t
def zR:∀{l:List Rn} {left:Int},tI left l=true->(∀r ∈ l,1<=r.1)/\(l≠ []->bg l<=left)
 | [],_,_=>⟨by simp,λh=>absurd rfl h⟩
 |r::t,left,h=>by
  unfold tI at h
  split at h
  ·cases h
  ·obtain ⟨h1,h2⟩:=zR h
   refine ⟨λq hq=> ?_,λ_=> ?_⟩
   ·rcases bJ.1 hq with rfl|hq
    ·omega
    ·exact h1 q hq
   ·have e:bg (r::t)=r.1+bg t:=by simp [bg]
    by_cases ht:t=[]
    ·subst ht;rw [e];simp [bg];omega
    ·have:=h2 ht;omega
def okW(may:Int->Bool)(l:List Rn):Bool:=tI 1048576 l && ju may l (bg l)
def kD(l:List Rn):List Int:=l.flatMap λr=>r.2 % 256::ie r.1
def Wf(l m:List Rn):kD (l++m)=kD l++kD m:=by unfold kD;rw [List.flatMap_append]
def G0{l:List Rn}{k:Nat}{r:Rn}(hr:l[k]? =some r):kD (l.take (k+1))=kD (l.take k)++(r.2 % 256::ie r.1):=by rw [cm,hr,Wf];simp [kD]
def G1:∀(k:Nat)(x:Int),(l8 k x).length<=k
 |0,_=>by simp [l8]
 |k+1,x=>by
  unfold l8
  split
  ·simp
  ·have:=G1 k (x / 128);simp;omega
def tJ(n:Int):(ie n).length<=3:=by
 unfold ie;split
 ·simp
 ·exact G1 3 n
def Ei(l:List Rn):(kD l).length<=4*l.length:=by
 induction l with
 |nil=>simp [kD]
 |cons r l ih=>
  have:=tJ r.1;unfold kD at ih ⊢;rw [List.flatMap_cons,eP,fX,fX];omega
def MY:∀(k:Nat)(x:Int),0<=x->∀c ∈ l8 k x,0<=c/\c<256
 |0,_,_,c,h=>by simp [l8] at h
 |k+1,x,hx,c,h=>by
  unfold l8 at h
  split at h
  ·simp at h;omega
  ·rcases bJ.1 h with rfl|h
   ·omega
   ·exact MY k (x / 128) aa c h
def Wg(n:Int):∀c ∈ ie n,0<=c/\c<256:=by
 intro c h;unfold ie at h;split at h
 ·simp at h
 ·exact MY 3 n aa c h
def ZM(l:List Rn):∀c ∈ kD l,0<=c/\c<256:=by
 intro c h;unfold kD at h;obtain ⟨r,_,hc⟩:=List.mem_flatMap.1 h;rcases bJ.1 hc with rfl|hc
 ·omega
 ·exact Wg r.1 c hc
end Go.Code
namespace Go.Code
open Go Go.Vc Go.bh
end Go.Code
namespace Go.Code
open Go Go.Vc Go.bh
def Dc:∀{l:List Rn} {left:Int},(∀r ∈ l,1<=r.1)->bg l<=left->tI left l=true
 | [],_,_,_=>rfl
 |r::t,left,h,hs=>by
  have e:bg (r::t)=r.1+bg t:=by simp [bg]
  have h1:=h r (.head _);have ht:0<=bg t:=by rw [dz λq hq=>by have:=h q (.tail _ hq);omega];omega
  unfold tI;rw [if_neg aa];exact Dc (λq hq=>h q (.tail _ hq)) aa
def ZX{may:Int->Bool}{l:List Rn}(h:Nm l)(hm:∀r ∈ l,may r.2=true)(hs:bg l<=1048576)(dN:l≠ []):okW may l=true:=by
 unfold okW;rw [Dc h.pos hs];unfold ju;have hp:0<bg l:=by
  cases l with
  |nil=>exact absurd rfl dN
  |cons r t=>
   have e:bg (r::t)=r.1+bg t:=by simp [bg]
   have h1:=h.pos r (.head _);have ht:0<=bg t:=by rw [dz λq hq=>by have:=h.pos q (.tail _ hq);omega];omega
   omega
 rw [decide_eq_true hp,vv (λr hr=>⟨h.pos r hr,hm r hr⟩) h.next (λr _=>by simp) rfl];rfl
end Go.Code
namespace Go.Code
open Go Go.Vc Go.bh
def ks(may:Int->Bool):Nat->List Int->Int->Int->List Rn->List Rn × Int
 |0,_,_,_,_=>([],3)
 |_+1,[],n,_,acc=>if n>0 then ([],3) else (acc,0)
 |f+1,c::t,n,last,acc=>
  if may c=false\/c=last then ([],2)
  else if (dT t).2.2≠0 then ([],(dT t).2.2)
  else if (dT t).1=0\/(dT t).1>n then ([],2)
  else if n-(dT t).1=0 then (if t.drop (dT t).2.1.toNat=[] then (acc++ [((dT t).1,c)],0) else ([],2))
  else ks may f (t.drop (dT t).2.1.toNat) (n-(dT t).1) c (acc++ [((dT t).1,c)])
def cL(may:Int->Bool)(b:List Int)(n:Int):List Rn × Int:=ks may (b.length+1) b n (-1) []
def tL:∀(k i:Nat)(m:Int)(b:List Int),0<=m->(mG k i m b).2.2=0->0<=(mG k i m b).1/\(mG k i m b).1<=1048576/\(i:Int)+1<=(mG k i m b).2.1/\(mG k i m b).2.1<=(i:Int)+b.length
 |0,_,_,_,_,h=>by simp [mG] at h
 |k+1,i,m,[],_,h=>by simp [mG] at h
 |k+1,i,m,c::t,h0,h=>by
  have hp:0<=c % 128*128 ^ i:=oG aa (Int.pow_nonneg aa)
  rw [qG] at h ⊢
  split
  ·rename_i hc
   rw [if_pos hc] at h
   have:=tL k (i+1) _ t aa h
   simp only [fX]
   omega
  ·rename_i hc
   rw [if_neg hc] at h
   split
   ·rename_i hz;rw [if_pos hz] at h;simp at h
   ·rename_i hz
    simp only [fX]
    refine ⟨by omega,?_,by omega,by omega⟩
    rcases oF 1048576 (m+c % 128*128 ^ i) with hh|hh
    ·exact absurd (.inr hh) hz
    ·exact hh
end Go.Code
namespace Go.Code
open Go Go.Vc Go.bh
def DH{may:Int->Bool}{f:Nat}{n last:Int}{acc:List Rn}:ks may (f+1) [] n last acc=if n>0 then ([],3) else (acc,0):=rfl
def xn(may:Int->Bool)(f:Nat)(c:Int)(t:List Int)(n last:Int)(acc:List Rn):ks may (f+1) (c::t) n last acc=
  if may c=false\/c=last then ([],2)
  else if (dT t).2.2≠0 then ([],(dT t).2.2)
  else if (dT t).1=0\/(dT t).1>n then ([],2)
  else if n-(dT t).1=0 then (if t.drop (dT t).2.1.toNat=[] then (acc++ [((dT t).1,c)],0) else ([],2))
  else ks may f (t.drop (dT t).2.1.toNat) (n-(dT t).1) c (acc++ [((dT t).1,c)]):=rfl
def DI{may:Int->Bool}:∀(f:Nat)(b:List Int)(n last:Int)(acc:List Rn),(ks may f b n last acc).1.length<=acc.length+b.length
 |0,_,_,_,_=>by simp [ks]
 |f+1,[],n,_,acc=>by rw [DH];split<;>simp
 |f+1,c::t,n,last,acc=>by
  rw [xn]
  split
  ·simp
  split
  ·simp
  split
  ·simp
  split
  ·split<;>simp
  ·have:=DI (may:=may) f (t.drop (dT t).2.1.toNat) (n-(dT t).1) c (acc++ [((dT t).1,c)])
   simp only [eP,fX,Nu,iC] at this ⊢
   omega
def PS{may:Int->Bool}(b:List Int)(n:Int):(cL may b n).1.length<=b.length:=by have:=DI (may:=may) (b.length+1) b n (-1) [];simpa [cL] using this
def gU(may:Int->Bool):Int->List Rn->Prop
 |_,[]=>True
 |last,r::t=>1<=r.1/\r.1<=1048576/\0<=r.2/\r.2<256/\may r.2=true/\r.2≠last/\gU may r.2 t
def gU.pos{may:Int->Bool}:∀{l:List Rn} {last:Int},gU may last l->∀r ∈ l,1<=r.1
 | [],_,_=>by simp
 |q::t,_,h=>by
  obtain ⟨h1,_,_,_,_,_,h7⟩:=h
  intro r hr
  rcases bJ.1 hr with rfl|hr
  ·exact h1
  ·exact h7.pos r hr
def IY(r:Rn)(t:List Rn)(h:0<=r.2/\r.2<256):kD (r::t)=r.2::(ie r.1++kD t):=by unfold kD;rw [List.flatMap_cons,Int.emod_eq_of_lt h.1 h.2];rfl
def PT(r:Rn)(t:List Rn):bg (r::t)=r.1+bg t:=by simp [bg]
def TR{t:List Int}(hi:∀c ∈ t,0<=c/\c<256)(h:(dT t).2.2=0):ie (dT t).1=t.take (dT t).2.1.toNat:=by
 unfold dT at h ⊢
 cases t with
 |nil=>simp [mG] at h
 |cons a t=>
  have ha:=hi a (.head _);rw [qG] at h ⊢;split
  ·rename_i ha2;rw [if_pos ha2] at h
   cases t with
   |nil=>simp [mG] at h
   |cons b t=>
    have hb:=hi b (.tail _ (.head _));rw [qG] at h ⊢;split
    ·rename_i eF;rw [if_pos eF] at h
     cases t with
     |nil=>simp [mG] at h
     |cons c t=>
      have hc:=hi c (.tail _ (.tail _ (.head _)));rw [qG] at h ⊢;split
      ·rename_i jH;rw [if_pos jH] at h;simp [mG] at h
      ·rename_i jH;rw [if_neg jH] at h;split
       ·rename_i hz;rw [if_pos hz] at h;simp at h
       ·rename_i hz;have e:(0+a % 128*128 ^ 0+b % 128*128 ^(0+1)+c % 128*128 ^(0+1+1):Int)=a % 128+b % 128*128+c % 128*16384:=by simp
        rw [e] at hz ⊢;have F9:c≠0:=λe0=>hz (.inl ⟨e0,by omega⟩)
        have hle:a % 128+b % 128*128+c % 128*16384<=1048576:=by
         rcases oF 1048576 (a % 128+b % 128*128+c % 128*16384) with hh|hh
         ·exact absurd (.inr hh) hz
         ·exact hh
        have ec:c % 128=c:=by omega
        rw [ec] at hle ⊢;unfold ie;rw [if_neg aa];simp only [l8];rw [if_neg aa,if_neg aa,if_pos aa];have e1:128+(a % 128+b % 128*128+c*16384) % 128=a:=by omega
        have e2:128+(a % 128+b % 128*128+c*16384) / 128 % 128=b:=by omega
        have e3:(a % 128+b % 128*128+c*16384) / 128 / 128=c:=by omega
        rw [e1,e2,e3];rfl
    ·rename_i eF;rw [if_neg eF] at h;split
     ·rename_i hz;rw [if_pos hz] at h;simp at h
     ·rename_i hz;have e:(0+a % 128*128 ^ 0+b % 128*128 ^(0+1):Int)=a % 128+b % 128*128:=by simp
      rw [e] at hz ⊢;have hb0:b≠0:=λe0=>hz (.inl ⟨e0,by omega⟩)
      have ec:b % 128=b:=by omega
      rw [ec] at hz ⊢;unfold ie;rw [if_neg aa];simp only [l8];rw [if_neg aa,if_pos aa];have e1:128+(a % 128+b*128) % 128=a:=by omega
      have e2:(a % 128+b*128) / 128=b:=by omega
      rw [e1,e2];rfl
  ·rename_i ha2;rw [if_neg ha2] at h;split
   ·rename_i hz;rw [if_pos hz] at h;simp at h
   ·have ec:a % 128=a:=by omega
    rw [ec];have e:(0+a*128 ^ 0:Int)=a:=by simp
    rw [e];unfold ie;rw [if_neg aa];simp only [l8];rw [if_pos aa];rfl
def xp{may:Int->Bool}:∀(f:Nat)(b:List Int)(n last:Int)(acc:List Rn),(∀c ∈ b,0<=c/\c<256)->1<=n->(ks may f b n last acc).2=0->
  ∃l,(ks may f b n last acc).1=acc++l/\kD l=b/\gU may last l/\bg l=n/\l≠ []
 |0,_,_,_,_,_,_,h=>by simp [ks] at h
 |f+1,[],n,_,acc,_,hn,h=>by rw [DH,if_pos aa] at h;simp at h
 |f+1,c::t,n,last,acc,hi,hn,h=>by
  have hc:=hi c (.head _)
  have ht:∀c ∈ t,0<=c/\c<256:=λq hq=>hi q (.tail _ hq)
  rw [xn] at h ⊢
  split
  ·rename_i h1;rw [if_pos h1] at h;simp at h
  rename_i h1
  rw [if_neg h1] at h
  split
  ·rename_i h2;rw [if_pos h2] at h;exact absurd h h2
  rename_i h2
  rw [if_neg h2] at h
  split
  ·rename_i h3;rw [if_pos h3] at h;simp at h
  rename_i h3
  rw [if_neg h3] at h
  have Vt:(dT t).2.2=0:=Decidable.not_not.1 h2
  have hd:=tL 3 0 0 t aa Vt
  have afK:=TR ht Vt
  rw [show mG 3 0 0 t=dT t from rfl] at hd
  generalize hdg:dT t=d at*
  obtain ⟨sz,k,er⟩:=d
  simp only at h h3 hd afK ⊢
  have afL:may c=true:=by
   cases hm:may c with
   |true=>rfl
   |false=>exact absurd (.inl hm) h1
  have P7:c≠last:=λe=>h1 (.inr e)
  have j2:ie sz++t.drop k.toNat=t:=by rw [afK];exact jK _ _
  split
  ·rename_i h4;rw [if_pos h4] at h;split
   ·rename_i h5;refine ⟨[(sz,c)],rfl,?_,⟨by show 1<=sz;omega,by show sz<=1048576;omega,hc.1,hc.2,afL,P7,trivial⟩,by simp [bg];omega,by simp⟩;rw [IY _ _ hc];rw [h5,GJ] at j2;simp [j2,kD]
   ·rename_i h5;rw [if_neg h5] at h;simp at h
  ·rename_i h4;rw [if_neg h4] at h;obtain ⟨l,e1,e2,e3,e4,e5⟩:=xp f (t.drop k.toNat) (n-sz) c (acc++ [(sz,c)]) (λq hq=>ht q (oE hq)) aa h;refine ⟨(sz,c)::l,by rw [e1];simp,?_,⟨by show 1<=sz;omega,by show sz<=1048576;omega,hc.1,hc.2,afL,P7,e3⟩,by rw [PT];show sz+bg l=n;omega,by simp⟩;rw [IY _ _ hc,e2];show c::(ie sz++t.drop k.toNat)=_;rw [j2]
def gU.of{may:Int->Bool}:∀{l:List Rn} {last:Int},(∀r ∈ l,1<=r.1/\r.1<=1048576/\0<=r.2/\r.2<256/\may r.2=true)->(∀i q r,l[i]? =some q->l[i+1]? =some r->q.2≠r.2)->(∀r,l.head? =some r->r.2≠last)->gU may last l
 | [],_,_,_,_=>trivial
 |r::t,last,h1,h2,h3=>by
  obtain ⟨a,b,c,d,e⟩:=h1 r (.head _)
  refine ⟨a,b,c,d,e,h3 r rfl,gU.of (λq hq=>h1 q (.tail _ hq)) (λi q s hq hs=>h2 (i+1) q s (by simpa using hq) (by simpa using hs)) (λq hq=> ?_)⟩
  have:=h2 0 r q rfl (by cases t<;>simp_all)
  exact λe=>this e.symm
def gU.next{may:Int->Bool}:∀{l:List Rn} {last:Int},gU may last l->∀i q r,l[i]? =some q->l[i+1]? =some r->q.2≠r.2
 | [],_,_,i,q,r,h,_=>by simp at h
 | [x],_,_,i,q,r,h,h'=>by simp at h'
 |x::y::t,_,h,0,q,r,hq,hr=>by
  simp at hq hr;subst hq;subst hr
  exact λe=>h.2.2.2.2.2.2.2.2.2.2.2.1 e.symm
 |x::y::t,_,h,i+1,q,r,hq,hr=>h.2.2.2.2.2.2.next i q r (by simpa using hq) (by simpa using hr)
def gU.mem{may:Int->Bool}:∀{l:List Rn} {last:Int},gU may last l->∀r ∈ l,1<=r.1/\r.1<=1048576/\0<=r.2/\r.2<256/\may r.2=true
 | [],_,_,r,h=>by cases h
 |q::t,_,h,r,hr=>by
  rcases bJ.1 hr with rfl|hr
  ·exact ⟨h.1,h.2.1,h.2.2.1,h.2.2.2.1,h.2.2.2.2.1⟩
  ·exact h.2.2.2.2.2.2.mem r hr
def gU.ju{may:Int->Bool}{l:List Rn}{last:Int}(h:gU may last l)(dN:1<=bg l):ju may l (bg l)=true:=by unfold Go.bh.ju;rw [decide_eq_true aa,vv (λr hr=>⟨h.pos r hr,(h.mem r hr).2.2.2.2⟩) h.next (λr _=>by simp) rfl];rfl
end Go.Code
namespace Go.dS
open Go Go.Vc
abbrev Ce:=Int × Int × Int
abbrev Po:=Int × Int
def tdm{a b:Int}(hb:0<b):(a.tmod b<0->a / b=a.tdiv b-1/\a % b=a.tmod b+b)/\(0<=a.tmod b->a / b=a.tdiv b/\a % b=a.tmod b)/\-b<a.tmod b/\a.tmod b<b:=by
 have h1:b*a.tdiv b+a.tmod b=a:=Int.mul_tdiv_add_tmod a b;have h2:a.tmod b<b:=Int.tmod_lt_of_pos a hb;have h3: -b<a.tmod b:=by have:=Int.tmod_lt_of_pos (-a) hb;rw [Int.neg_tmod] at this;omega
 refine ⟨λh=> ?_,λh=> ?_,h3,h2⟩
 ·have:=(Int.ediv_emod_unique hb (a:=a) (q:=a.tdiv b-1) (r:=a.tmod b+b)).2 ⟨by rw [Int.mul_sub];omega,by omega,by omega⟩;exact this
 ·exact (Int.ediv_emod_unique hb (a:=a) (q:=a.tdiv b) (r:=a.tmod b)).2 ⟨by omega,by omega,by omega⟩
def MQ{a b:Int}(ha:inI a)(hb:0<b):inI (a / b):=by
 unfold inI at*;have h1:=Int.emod_nonneg a (by omega:b≠0);have h2:=Int.emod_lt_of_pos a hb;have h3:=Int.mul_ediv_add_emod a b;rcases oF a 0 with h|h
 ·have h4:a<=a / b:=by rw [Int.le_ediv_iff_mul_le hb];have:=Int.mul_le_mul_of_nonpos_left (a:=a) (b:=b) (c:=1) aa aa;omega
  have h5:a / b<0:=Int.ediv_neg_of_neg_of_pos h hb;omega
 ·have h4:a / b<=a:=Int.ediv_le_self b h;have h5:0<=a / b:=Int.ediv_nonneg h aa;omega
def MR{a b:Int}(ha:inI a)(hb:0<b):inI (a.tdiv b):=by
 unfold inI at*;rcases oF a 0 with h|h
 ·have h1:a.tdiv b= -((-a) / b):=by rw [<-oH aa,Int.neg_tdiv];omega
  have h4:(-a) / b<=-a:=Int.ediv_le_self b aa;have h5:0<=(-a) / b:=Int.ediv_nonneg aa aa;omega
 ·rw [oH h];have h4:a / b<=a:=Int.ediv_le_self b h;have h5:0<=a / b:=Int.ediv_nonneg h aa;omega
def u64_in(n:Int):0<=bD n/\bD n<18446744073709551616:=by unfold IntKind.wrap;simp only [IntKind.bits,IntKind.signed];simp;omega
def SU{n:Int}(h:0<=n/\n<18446744073709551616):bD n=n:=by unfold IntKind.wrap;simp only [IntKind.bits,IntKind.signed];simp;omega
def mix(ag x z:Int):Int:=bD ((bD ((bD ((bD ag)*11400714819323198485))+(bD ((bD x)*14029467366897019727))))+(bD ((bD z)*1609587929392839161)))
def hash(ag x z:Int):Int:=
 gI .u64 (bD ((gI .u64 (mix ag x z) (mix ag x z / 536870912))*13787848793156543929)) (bD ((gI .u64 (mix ag x z) (mix ag x z / 536870912))*13787848793156543929) / 4294967296)
def We(ag x z:Int):0<=hash ag x z:=by unfold hash gI;exact (u64_in _).1
def aho(n:Int):(bD n).fdiv (2 ^(min (29:Int).toNat 64))=bD n / 536870912:=Az _ aC
def ahp(n:Int):(bD n).fdiv (2 ^(min (32:Int).toNat 64))=bD n / 4294967296:=Az _ aC
def ahq(n:Int):bD (Int.tdiv (bD n) 536870912)=bD n / 536870912:=by have h:=u64_in n;rw [oH h.1,SU aa]
def ahr(n:Int):bD (Int.tdiv (bD n) 4294967296)=bD n / 4294967296:=by have h:=u64_in n;rw [oH h.1,SU aa]
def bI(ag x z:Int):Int:=hash ag x z % 9
def ground(ag x z:Int):Int:=
 6+(bI ag (x / 8) (z / 8)*((8-x % 8)*(8-z % 8))+bI ag (x / 8+1) (z / 8)*(x % 8*(8-z % 8))+bI ag (x / 8) (z / 8+1)*((8-x % 8)*(z % 8))+bI ag (x / 8+1) (z / 8+1)*(x % 8*(z % 8))) / 64
def BL(y g:Int):Int:=
 if y<0\/32<=y then 0 else if y=0\/y<g-3 then 1 else if y<g-1\/(y=g-1/\9<g) then 2 else if y=g-1 then 3 else if y<9 then 8 else 0
def kL{c u v:Int}(hc:0<=c/\c<=8)(hu:0<=u/\u<=8)(hv:0<=v/\v<=8):0<=u*v/\u*v<=64/\0<=c*(u*v)/\c*(u*v)<=512:=by have h1:0<=u*v:=oG hu.1 hv.1;have h2:u*v<=8*8:=Int.mul_le_mul hu.2 hv.2 hv.1 aC;have h3:0<=c*(u*v):=oG hc.1 h1;have h4:c*(u*v)<=8*64:=Int.mul_le_mul hc.2 h2 h1 aC;exact ⟨h1,h2,h3,h4⟩
def dm(s x z:Int):0<=bI s x z/\bI s x z<=8:=by unfold bI;omega
def m8(s x z:Int):6<=ground s x z/\ground s x z<=100:=by unfold ground;have a:=kL (dm s (x / 8) (z / 8)) (u:=8-x % 8) (v:=8-z % 8) aa aa;have b:=kL (dm s (x / 8+1) (z / 8)) (u:=x % 8) (v:=8-z % 8) aa aa;have c:=kL (dm s (x / 8) (z / 8+1)) (u:=8-x % 8) (v:=z % 8) aa aa;have d:=kL (dm s (x / 8+1) (z / 8+1)) (u:=x % 8) (v:=z % 8) aa aa;omega
def idx(c:Ce):Int:=(c.2.1*16+c.2.2 % 16)*16+c.1 % 16
def k8(c:Ce):Prop:=0<=c.2.1/\c.2.1<32
def pos(c:Ce):Po:=(c.1 / 16,c.2.2 / 16)
def cellAt(p:Po)(i:Int):Ce:=(p.1*16+i % 16,i / 256,p.2*16+i / 16 % 16)
def nV{c:Ce}(h:k8 c):0<=idx c/\idx c<8192:=by unfold idx;unfold k8 at h;omega
def Lt{c:Ce}(h:k8 c):cellAt (pos c) (idx c)=c:=by unfold cellAt idx pos;unfold k8 at h;refine Prod.ext ?_ (Prod.ext ?_ ?_)<;>simp only<;>omega
def made(ag:Int)(p:Po):List Int:=(List.range 8192).map λi:Nat=>BL ((i:Int) / 256) (ground ag (p.1*16+(i:Int) % 16) (p.2*16+(i:Int) / 16 % 16))
def gO(ag:Int)(p:Po):(made ag p).length=8192:=by simp [made]
def Pe(y g:Int):BL y g=0\/BL y g=1\/BL y g=2\/BL y g=3\/BL y g=8:=by
 unfold BL;split
 ·exact .inl rfl
 ·split
  ·exact .inr (.inl rfl)
  ·split
   ·exact .inr (.inr (.inl rfl))
   ·split
    ·exact .inr (.inr (.inr (.inl rfl)))
    ·split
     ·exact .inr (.inr (.inr (.inr rfl)))
     ·exact .inl rfl
end Go.dS
namespace Go.dS
open Go Go.Vc
end Go.dS
namespace Go.dS
open Go Go.Vc Go.bh
end Go.dS
namespace Go.dS
open Go Go.Vc Go.bh
end Go.dS
namespace Go.dS
open Go Go.Vc Go.bh
def Ym:∀(n:Nat)(l:List Rn),l.length=n->(∀r ∈ l,1<=r.1)->(∀i q r,l[i]? =some q->l[i+1]? =some r->q.2≠r.2)->Nm l
 |0,l,hn,_,_=>by
  have:l=[]:=tu hn
  subst this;exact .nil
 |n+1,l,hn,h1,h2=>by
  rcases nQ l with rfl|⟨m,q,rfl⟩
  ·simp at hn
  ·have hm:m.length=n:=by simpa using hn
   refine .snoc m q (Ym n m hm (λr hr=>h1 r (Ay _ hr)) (λi a b ha hb=> ?_)) (h1 q cx) (λp hp=> ?_)
   ·have hb':=(bH.1 hb).1;exact h2 i a b (by rw [kT aa];exact ha) (by rw [kT aa];exact hb)
   ·have dN:m≠ []:=by rintro rfl;simp at hp
    have ed:0<m.length:=List.length_pos_iff.2 dN;rw [List.getLast?_eq_getElem?] at hp;refine h2 (m.length-1) p q ?_ ?_
    ·rw [kT aa];exact hp
    ·rw [show m.length-1+1=m.length by omega,mV (ax _),Nat.sub_self];rfl
def IC{may:Int->Bool}:∀{l:List Rn} {prev:Option Int} {left:Int},ma may prev left l=true->
  (∀r ∈ l,1<=r.1/\may r.2=true)/\(∀i q r,l[i]? =some q->l[i+1]? =some r->q.2≠r.2)/\∀r,l.head? =some r->prev≠some r.2
 | [],_,_,_=>⟨by simp,by simp,by simp⟩
 |r::t,prev,left,h=>by
  unfold ma at h
  split at h
  ·cases h
  ·rename_i hn
   obtain ⟨a1,a2,a3⟩:=IC h
   have hm:may r.2=true:=by
    cases hq:may r.2 with
    |true=>rfl
    |false=>exact absurd (.inr (.inr (.inl hq))) hn
   have hp:prev≠some r.2:=λe=>hn (.inr (.inr (.inr e)))
   refine ⟨λq hq=> ?_,λi q s hq hs=> ?_,λq hq=> ?_⟩
   ·rcases bJ.1 hq with rfl|hq
    ·exact ⟨by omega,hm⟩
    ·exact a1 q hq
   ·cases i with
    |zero=>
     simp only [adW,Option.some.injEq] at hq;subst hq;simp only [Yl] at hs;have:t.head? =some s:=by cases t<;>simp_all
     intro e;exact a3 s this (by rw [e])
    |succ i=>exact a2 i q s (by simpa using hq) (by simpa using hs)
   ·simp only [List.head?_cons,Option.some.injEq] at hq;subst hq;exact hp
def ud{may:Int->Bool}{l:List Rn}{n:Int}(h:ju may l n=true):cM (aX l)=l/\(∀b ∈ aX l,may b=true)/\((aX l).length:Int)=n:=by
 unfold ju at h;rw [gr] at h;obtain ⟨a1,a2,_⟩:=IC h.2;refine ⟨(Ym l.length l rfl (λr hr=>(a1 r hr).1) a2).fix,λb hb=> ?_,?_⟩
 ·unfold aX at hb;obtain ⟨r,hr,hb⟩:=List.mem_flatMap.1 hb;rw [(Q5.1 hb).2];exact (a1 r hr).2
 ·rw [<-dz λr hr=>by have:=(a1 r hr).1;omega];exact H4 h.2
end Go.dS
namespace Go.dS
open Go Go.Vc Go.bh
def oI(p:Po):Prop:=(-524288<=p.1/\p.1<524288)/\-524288<=p.2/\p.2<524288
instance (p:Po):Decidable (oI p):=by unfold oI;exact inferInstance
def jU(p:Po):Int:=if oI p then (p.1+524288)*1048576+(p.2+524288)+1 else 0
def MT{p:Po}(h:oI p):1<=jU p/\jU p<=1099511627776:=by unfold jU;rw [if_pos h];unfold oI at h;omega
def yO{p:Po}(h:¬oI p):jU p=0:=by unfold jU;rw [if_neg h]
end Go.dS
namespace Go.dS
open Go Go.Vc Go.bh
def bC{α:Type}(q:α->Bool):List α->Int
 | []=> -1
 |x::t=>if q x then 0 else if bC q t<0 then -1 else bC q t+1
def ja{α:Type}{q:α->Bool}:∀{l:List α},(∀y ∈ l,q y=false)->bC q l= -1
 | [],_=>rfl
 |x::t,h=>by
  have h1:=h x (.head _)
  have h2:=ja (l:=t) λy hy=>h y (.tail _ hy)
  unfold bC
  rw [if_neg (by rw [h1];decide),if_pos aa]
def mZ{α:Type}{q:α->Bool}:∀{l:List α} {k:Nat} {x:α},l[k]? =some x->q x=true->(∀j,j<k->∀y,l[j]? =some y->q y=false)->bC q l=k
 | [],k,x,h,_,_=>by simp at h
 |y::t,0,x,h,hq,_=>by
  simp at h;subst h
  unfold bC
  rw [if_pos hq];rfl
 |y::t,k+1,x,h,hq,hn=>by
  have h1:=hn 0 aa y rfl
  have h2:=mZ (l:=t) (k:=k) (x:=x) (by simpa using h) hq (λj hj z hz=>hn (j+1) aa z (by simpa using hz))
  unfold bC
  rw [if_neg (by rw [h1];decide),if_neg aa,h2]
  omega
def cl{α:Type}(q:α->Bool):∀(l:List α),(bC q l= -1/\∀y ∈ l,q y=false)\/∃k x,l[k]? =some x/\q x=true/\bC q l=(k:Nat)/\∀j,j<k->∀y,l[j]? =some y->q y=false
 | []=> .inl ⟨rfl,by simp⟩
 |x::t=>by
  cases hq:q x with
  |true=>exact .inr ⟨0,x,rfl,hq,by unfold bC;rw [if_pos hq];rfl,by omega⟩
  |false=>
   rcases cl q t with ⟨h1,h2⟩|⟨k,y,h1,h2,h3,h4⟩
   ·refine .inl ⟨by unfold bC;rw [if_neg (by rw [hq];decide),if_pos aa],λy hy=> ?_⟩
    rcases bJ.1 hy with rfl|hy
    ·exact hq
    ·exact h2 y hy
   ·refine .inr ⟨k+1,y,by simpa using h1,h2,by unfold bC;rw [if_neg (by rw [hq];decide),if_neg aa,h3];omega,λj hj z hz=> ?_⟩
    cases j with
    |zero=>simp at hz;subst hz;exact hq
    |succ j=>exact h4 j aa z (by simpa using hz)
def jV{α β:Type}(f:α->β)(q:β->Bool):∀l:List α,bC q (l.map f)=bC (λa=>q (f a)) l
 | []=>rfl
 |x::t=>by simp only [dG,bC,jV f q t]
end Go.dS
namespace Go.dS
open Go Go.Vc Go.bh
abbrev jh:=BitVec 16
abbrev lR(b:List Int):Prop:=∀c ∈ b,0<=c/\c<256
def cI(v:jh):Int:=(v.toNat:Nat)
def E9(c:jh):jh:=if c.msb then (c<<<1) ^^^ 0x1021#16 else c<<<1
def Cr(c:jh):jh:=E9 (E9 (E9 (E9 c)))
def F8(c:jh):jh:=Cr (Cr c)
def ke(x:Int):jh:=BitVec.ofInt 16 x
def adZ(c:jh)(x:Int):jh:=F8 (c ^^^(ke x<<<8))
def qW(c:jh)(b:List Int):jh:=b.foldl adZ c
def jg(b:List Int):jh:=qW 0xFFFF#16 b
def B1(b:List Int):List Int:=[cI (jg b) / 256,cI (jg b) % 256]
def oS(v:jh):0<=cI v/\cI v<65536:=by unfold cI;have:=v.isLt;omega
def LX{a b:jh}:cI a=cI b ↔ a=b:=by unfold cI;refine ⟨λh=>BitVec.eq_of_toNat_eq aa,λh=>by rw [h]⟩
def mz{x:Int}(h:0<=x/\x<65536):(ke x).toNat=x.toNat:=by unfold ke;rw [zx];simp only [show ((2 ^ 16:Nat):Int)=65536 from rfl];rw [Int.emod_eq_of_lt h.1 h.2]
def Fa{x:Int}(h:0<=x/\x<65536):cI (ke x)=x:=by unfold cI;rw [mz h];omega
def aaA(v:jh):ke (cI v)=v:=LX.1 (Fa (oS v))
def sE{a b:jh}(h:∀i:Nat,i<16->a.getLsbD i=b.getLsbD i):a=b:=BitVec.eq_of_getLsbD_eq h
def P3{i:Nat}(h:i<16):i=0\/i=1\/i=2\/i=3\/i=4\/i=5\/i=6\/i=7\/i=8\/i=9\/i=10\/i=11\/i=12\/i=13\/i=14\/i=15:=by omega
def W6(a b:jh)(n:Nat):(a ^^^ b)<<<n=(a<<<n) ^^^(b<<<n):=by
 apply sE;intro i hi;simp only [BitVec.getLsbD_xor,IF]
 cases decide (i<16)<;>cases decide (i<n)<;>simp
def yU(a b:jh):E9 (a ^^^ b)=E9 a ^^^ E9 b:=by
 unfold E9;rw [BitVec.msb_xor,W6]
 cases a.msb<;>cases b.msb<;>simp
 ·rw [BitVec.xor_assoc]
 ·rw [BitVec.xor_assoc,BitVec.xor_assoc];congr 1;rw [BitVec.xor_comm]
 ·generalize a<<<1=x;generalize b<<<1=y;apply sE;intro i _;simp only [BitVec.getLsbD_xor]
  cases x.getLsbD i<;>cases y.getLsbD i<;>cases (4129#16).getLsbD i<;>rfl
def yV(a b:jh):Cr (a ^^^ b)=Cr a ^^^ Cr b:=by unfold Cr;rw [yU,yU,yU,yU]
def W7(a b:jh):F8 (a ^^^ b)=F8 a ^^^ F8 b:=by unfold F8;rw [yV,yV]
def Fp(c:jh):c.msb=true ↔ 32768<=c.toNat:=by rw [BitVec.msb_eq_decide];simp
def uD{c:jh}(h:c.toNat<32768):E9 c=c<<<1/\(c<<<1).toNat=2*c.toNat:=by
 constructor
 ·unfold E9;rw [if_neg];rw [Fp];omega
 ·rw [BitVec.toNat_shiftLeft,Nat.shiftLeft_eq];omega
def kA{c:jh}(h:E9 c=0#16):c=0#16:=by
 unfold E9 at h;split at h
 ·have:=congrArg (λv:jh=>v.getLsbD 0) h;simp at this
 ·rename_i hm;have hm:c.toNat<32768:=by rw [Fp] at hm;omega
  have h2:=(uD hm).2;rw [h] at h2;exact BitVec.eq_of_toNat_eq (by simp at h2 ⊢;omega)
def Jf{c:jh}(h:F8 c=0#16):c=0#16:=by unfold F8 Cr at h;exact kA (kA (kA (kA (kA (kA (kA (kA h)))))))
def uE{a b:jh}:a ^^^ b=0#16 ↔ a=b:=by
 constructor
 ·intro h;have:=congrArg (λv=>v ^^^ b) h;simpa [BitVec.xor_assoc] using this
 ·rintro rfl;exact BitVec.xor_self
def W8{a b:jh}(h:F8 a=F8 b):a=b:=by rw [<-uE] at h ⊢;rw [<-W7] at h;exact Jf h
def uF(c:jh)(m n:Nat):(c<<<m)<<<n=c<<<(m+n):=(BitVec.shiftLeft_add c m n).symm
def yW{c:jh}(h:c.toNat<4096):Cr c=c<<<4:=by unfold Cr;have h1:=uD (c:=c) aa;rw [h1.1];have h2:=uD (c:=c<<<1) aa;rw [h2.1];have h3:=uD (c:=c<<<1<<<1) aa;rw [h3.1];have h4:=uD (c:=c<<<1<<<1<<<1) aa;rw [h4.1,uF,uF,uF]
def Jg(v y:jh)(hy:y.toNat<16):(v<<<4) ^^^ Cr (((v>>>12) ^^^ y)<<<12)=Cr (v ^^^(y<<<12)):=by
 have e:v ^^^(y<<<12)=(((v>>>12) ^^^ y)<<<12) ^^^(v &&& 0xFFF#16):=by apply sE;intro i hi;simp only [BitVec.getLsbD_xor,IF,BitVec.getLsbD_ushiftRight,IE];rcases P3 hi with rfl|rfl|rfl|rfl|rfl|rfl|rfl|rfl|rfl|rfl|rfl|rfl|rfl|rfl|rfl|rfl<;>simp
 have hl:(v &&& 0xFFF#16).toNat<4096:=by rw [AT];exact Iw Nat.and_le_right aC
 have e2:(v &&& 0xFFF#16)<<<4=v<<<4:=by apply sE;intro i hi;simp only [IF,IE];rcases P3 hi with rfl|rfl|rfl|rfl|rfl|rfl|rfl|rfl|rfl|rfl|rfl|rfl|rfl|rfl|rfl|rfl<;>simp
 rw [e,yV,yW hl,e2,BitVec.xor_comm]
def P4(v x:jh)(hx:x.toNat<256):Cr (Cr (v ^^^((x>>>4)<<<12)) ^^^((x &&& 15#16)<<<12))=F8 (v ^^^(x<<<8)):=by
 have e:v ^^^(x<<<8)=(v ^^^((x>>>4)<<<12)) ^^^((x &&& 15#16)<<<8):=by apply sE;intro i hi;simp only [BitVec.getLsbD_xor,IF,BitVec.getLsbD_ushiftRight,IE];rcases P3 hi with rfl|rfl|rfl|rfl|rfl|rfl|rfl|rfl|rfl|rfl|rfl|rfl|rfl|rfl|rfl|rfl<;>simp
 have hl:(x &&& 15#16).toNat<16:=by rw [AT];exact Iw Nat.and_le_right aC
 have FQ:((x &&& 15#16)<<<8).toNat<4096:=by rw [BitVec.toNat_shiftLeft,Nat.shiftLeft_eq];omega
 unfold F8;rw [e,yV (v ^^^ _),yW FQ,uF]
def NB{c:jh}(h:c.toNat<256):F8 c=c<<<8:=by unfold F8;rw [yW (c:=c) aa,yW (c:=c<<<4) (by rw [BitVec.toNat_shiftLeft,Nat.shiftLeft_eq];omega),uF]
def qe(c:jh)(a b:List Int):qW c (a++b)=qW (qW c a) b:=jc ..
def W2(c:jh){h l:Int}(hh:0<=h/\h<256)(hl:0<=l/\l<256):qW c [h,l]=0#16 ↔ cI c=h*256+l:=by
 show F8 (F8 (c ^^^(ke h<<<8)) ^^^(ke l<<<8))=0#16 ↔ _;have n1:(ke l).toNat<256:=by rw [mz aa];omega
 have n2:(ke h).toNat<256:=by rw [mz aa];omega
 have z:F8 0#16=0#16:=by decide
 have e1:F8 (F8 (c ^^^(ke h<<<8)) ^^^(ke l<<<8))=0#16 ↔ c=(ke h<<<8) ^^^ ke l:=by
  constructor
  ·intro q;have q1:=Jf q;rw [uE,<-NB n1] at q1;have q2:=W8 q1;rw [<-q2,BitVec.xor_comm,BitVec.xor_assoc,BitVec.xor_self,BitVec.xor_zero]
  ·rintro rfl;rw [show (ke h<<<8 ^^^ ke l) ^^^ ke h<<<8=ke l by rw [BitVec.xor_comm,<-BitVec.xor_assoc,BitVec.xor_self,BitVec.zero_xor],NB n1,BitVec.xor_self,z]
 rw [e1];have e2:((ke h<<<8) ^^^ ke l).toNat=h.toNat*256+l.toNat:=by
  have:(ke h<<<8) ^^^ ke l=(ke h<<<8)|||ke l:=by
   apply sE;intro i hi;have hb:∀j,8<=j->(ke l).getLsbD j=false:=λj hj=>Nat.testBit_lt_two_pow (kR n1 (Nat.pow_le_pow_right (n:=2) aC hj))
   simp only [BitVec.getLsbD_xor,BitVec.getLsbD_or,IF];by_cases h8:i<8
   ·simp [h8]
   ·rw [hb i aa];simp
  rw [this,BitVec.toNat_or,BitVec.toNat_shiftLeft,mz (x:=h) aa,mz (x:=l) aa,Nat.shiftLeft_eq];rw [Nat.mod_eq_of_lt aa];have:=Nat.two_pow_add_eq_or_of_lt (i:=8) (b:=l.toNat) aa h.toNat;rw [Nat.mul_comm h.toNat,<-this]
 constructor
 ·intro q;rw [q];unfold cI;rw [e2];omega
 ·intro q;apply BitVec.eq_of_toNat_eq;rw [e2];unfold cI at q;omega
def wrap_u16(x:Int):kI x=x % 65536:=by simp [IntKind.wrap,IntKind.bits,IntKind.signed]
def nu(n:Nat)(hn:16<=n)(v:jh):(BitVec.ofInt n (cI v)).toNat=v.toNat:=by unfold cI;rw [zx];have h1:=v.isLt;have h2:(2:Nat) ^ 16<=2 ^ n:=Nat.pow_le_pow_right aC hn;generalize (2:Nat) ^ n=m at*;rw [Int.emod_eq_of_lt aa aa];omega
def AY(a b:jh):gI .u16 (cI a) (cI b)=cI (a ^^^ b):=by show kI ((BitVec.ofInt 16 (cI a) ^^^ BitVec.ofInt 16 (cI b)).toNat:Nat)=_;rw [BitVec.toNat_xor,nu 16 aC,nu 16 aC,<-BitVec.toNat_xor,wrap_u16];show cI _ % 65536=cI _;have:=oS (a ^^^ b);omega
def T7(a b:jh):gI .i64 (cI a) (cI b)=cI (a ^^^ b):=by show ai ((BitVec.ofInt 64 (cI a) ^^^ BitVec.ofInt 64 (cI b)).toNat:Nat)=_;rw [BitVec.toNat_xor,nu 64 aC,nu 64 aC,<-BitVec.toNat_xor];have:=oS (a ^^^ b);exact az (n:=cI (a ^^^ b)) (by unfold inI;omega)
def Mc(v:jh)(n:Nat):cI (v<<<n)=cI v*2 ^ n % 65536:=by unfold cI;rw [BitVec.toNat_shiftLeft,Nat.shiftLeft_eq,Int.natCast_emod,Int.natCast_mul,Int.natCast_pow];rfl
def LY(v:jh)(n:Nat):cI (v>>>n)=cI v / 2 ^ n:=by unfold cI;rw [BitVec.toNat_ushiftRight,Nat.shiftRight_eq_div_pow,Int.natCast_ediv,Int.natCast_pow];rfl
def T8(v:jh):v.msb=true ↔ 32768<=cI v:=by rw [Fp];unfold cI;omega
def W9(v:jh):(if 65536<=cI v*2 then gI .i64 (cI v*2-65536) 4129 else cI v*2)=cI (E9 v):=by
 have hb:=oS v;have h1:cI (v<<<1)=cI v*2 % 65536:=Mc v 1;unfold E9;by_cases h:v.msb=true
 ·have hm:=(T8 v).1 h;rw [if_pos h,if_pos aa,<-T7,h1];have e1:cI v*2 % 65536=cI v*2-65536:=by omega
  rw [e1];rfl
 ·have hm:=mt (T8 v).2 h;rw [if_neg h,if_neg aa,h1];omega
def Nw(v:jh):cI (v &&& 0x8000#16)=0 ↔ v.msb=false:=by
 have Bo:v.msb=v.getLsbD 15:=rfl;constructor
 ·intro h;have h0:v &&& 0x8000#16=0#16:=LX.1 (by rw [h];rfl);have:=congrArg (λu:jh=>u.getLsbD 15) h0;simp only [IE] at this;rw [Bo];simpa using this
 ·intro h;have h0:v &&& 0x8000#16=0#16:=by apply sE;intro i hi;rw [Bo] at h;simp only [IE];rcases P3 hi with rfl|rfl|rfl|rfl|rfl|rfl|rfl|rfl|rfl|rfl|rfl|rfl|rfl|rfl|rfl|rfl<;>first|(simp;done)|simpa using h
  rw [h0];rfl
def aap(a b:jh):BX .u16 (cI a) (cI b)=cI (a &&& b):=by show kI ((BitVec.ofInt 16 (cI a) &&& BitVec.ofInt 16 (cI b)).toNat:Nat)=_;rw [AT,nu 16 aC,nu 16 aC,<-AT,wrap_u16];show cI _ % 65536=cI _;have:=oS (a &&& b);omega
def Nv(v:jh)(n:Nat):kI (cI v*2 ^ n)=cI (v<<<n):=by rw [wrap_u16,Mc]
def Tw(v:jh)(n:Nat):(cI v).fdiv (2 ^ n)=cI (v>>>n):=by rw [LY,Az];exact Int.le_of_lt (Int.pow_pos aC)
def ahD{x:Int}(h:0<=x/\x<256):kI (x.fdiv (2 ^ 4))=cI (ke x>>>4):=by rw [LY,Fa aa,Az _ aC,wrap_u16];simp only [show (2:Int) ^ 4=16 from rfl];omega
def ahE{x:Int}(h:0<=x/\x<256):kI (BX .u8 x 15)=cI (ke x &&& 15#16):=by
 have e:BX .u8 x 15=cI (ke x &&& 15#16):=by
  show mg ((BitVec.ofInt 8 x &&& BitVec.ofInt 8 15).toNat:Nat)=_;have e8:(BitVec.ofInt 8 x).toNat=(ke x).toNat:=by rw [mz aa,zx];simp only [show ((2 ^ 8:Nat):Int)=256 from rfl];rw [Int.emod_eq_of_lt h.1 h.2]
  rw [AT,e8];unfold cI;rw [AT];have:(ke x).toNat &&&(15#16).toNat<16:=Iw Nat.and_le_right aC;show mg (((ke x).toNat &&&(15#16).toNat:Nat):Int)=_;simp only [IntKind.wrap,IntKind.bits,IntKind.signed,M8,Bool.false_eq_true,if_false,show (2:Int) ^ 8=256 from rfl];omega
 rw [e,wrap_u16];have:=oS (ke x &&& 15#16);omega
def Tx{a b:jh}(ha:a.toNat<16)(hb:b.toNat<16):(a ^^^ b).toNat<16:=by rw [BitVec.toNat_xor];exact Nat.xor_lt_two_pow (n:=4) ha hb
def Tz(v:jh):(v>>>12).toNat<16:=by rw [BitVec.toNat_ushiftRight,Nat.shiftRight_eq_div_pow];have:=v.isLt;omega
def Yn{x:Int}(h:0<=x/\x<256):(ke x>>>4).toNat<16:=by rw [BitVec.toNat_ushiftRight,Nat.shiftRight_eq_div_pow,mz aa];omega
def Yp(x:jh):(x &&& 15#16).toNat<16:=by rw [AT];exact Iw Nat.and_le_right aC
def tv(i:Nat):Value:=.int .u16 (cI (Cr (ke i<<<12)))
def tS:LV:=[tv 0,tv 1,tv 2,tv 3,tv 4,tv 5,tv 6,tv 7,tv 8,tv 9,tv 10,tv 11,tv 12,tv 13,tv 14,tv 15]
def tT(k:Nat):LV:=tS.take k++List.replicate (16-k) (.int .u16 0)
def aaq{k:Nat}(hk:k<16):(tT k).set k (tv k)=tT (k+1):=by rcases P3 hk with rfl|rfl|rfl|rfl|rfl|rfl|rfl|rfl|rfl|rfl|rfl|rfl|rfl|rfl|rfl|rfl<;>rfl
def Yo{u:jh}(hu:u.toNat<16):tS[(cI u).toNat]? =some (.int .u16 (cI (Cr (u<<<12)))):=by
 have e:∀k:Nat,k<16->tS[k]? =some (tv k):=λk hk=>by rcases P3 hk with rfl|rfl|rfl|rfl|rfl|rfl|rfl|rfl|rfl|rfl|rfl|rfl|rfl|rfl|rfl|rfl<;>rfl
 have h1:(cI u).toNat=u.toNat:=rfl;rw [h1,e _ hu];unfold tv;have:ke (u.toNat:Int)=u:=aaA u;rw [this]
def PL(v:jh){x:Int}(h:0<=x/\x<256):
  cI ((((v<<<4) ^^^ Cr (((v>>>12) ^^^(ke x>>>4))<<<12))<<<4) ^^^ Cr (((((v<<<4) ^^^ Cr (((v>>>12) ^^^(ke x>>>4))<<<12))>>>12) ^^^(ke x &&& 15#16))<<<12))=cI (adZ v x):=by
 rw [Jg v _ (Yn h),Jg _ _ (Yp _),P4 v _ (by rw [mz aa];omega)];rfl
end Go.dS
namespace Go.dS
open Go Go.Vc Go.bh
def be:Nat->Int->List Int
 |0,_=> []
 |m+1,n=>n / 256 ^ m % 256::be m n
def dX(b:List Int):Int:=b.foldl (λn c=>n*256+c) 0
def yc(v:Int)(body:List Int):List Int:=be 4 v++be 3 body.length++body
def pC(b:List Int):List Int:=b++B1 b
def lZ(v:Int)(body:List Int):List Int × Int:=if v<1\/v>1073741824\/(body.length:Int)>65536 then ([],1) else (pC (yc v body),0)
def kV(b:List Int):List Int × Int:=if b.length<2 then ([],3) else if jg b=0#16 then (b.take (b.length-2),0) else ([],4)
def iH(b:List Int):Int × List Int × Int:=
 if (kV b).2≠0 then (0,[],(kV b).2)
 else if (kV b).1.length<7 then (0,[],3)
 else if dX ((kV b).1.take 4)<1\/dX ((kV b).1.take 4)>1073741824\/dX (((kV b).1.drop 4).take 3)>65536\/dX (((kV b).1.drop 4).take 3)≠(((kV b).1.drop 7).length:Int) then (0,[],2)
 else (dX ((kV b).1.take 4),(kV b).1.drop 7,0)
def kM:∀(m:Nat)(n:Int),(be m n).length=m
 |0,_=>rfl
 |m+1,n=>by simp [be,kM m n]
def TV:∀(m:Nat)(n:Int),lR (be m n)
 |0,_=>λc hc=>by cases hc
 |m+1,n=>λc hc=>by
  rcases bJ.1 hc with rfl|hc
  ·omega
  ·exact TV m n c hc
def AW(b:List Int)(c:Int):dX (b++ [c])=dX b*256+c:=by unfold dX;rw [jc];rfl
def WZ(b:List Int):lR (B1 b):=λc hc=>by
 have:=oS (jg b)
 simp only [B1,bJ,fY,or_false] at hc
 rcases hc with rfl|rfl<;>omega
def uB(b:List Int):(B1 b).length=2:=rfl
def lR.app{a b:List Int}(ha:lR a)(hb:lR b):lR (a++b):=λc hc=>(cu.1 hc).elim (ha c) (hb c)
def E7{v:Int}{body:List Int}(h:lR body):lR (yc v body):=((TV 4 v).app (TV 3 _)).app h
def TW{b:List Int}(h:lR b):lR (pC b):=h.app (WZ b)
def Se{v:Int}{body:List Int}(h:lR body):lR (lZ v body).1:=by
 unfold lZ;split
 ·intro c hc;cases hc
 ·exact TW (E7 h)
def tU(v:Int)(body:List Int):(yc v body).length=7+body.length:=by unfold yc;simp [kM];omega
def vr(b:List Int):(pC b).length=b.length+2:=by unfold pC;rw [eP,uB]
def Rf{b:List Int}:(iH b).2.2=0->1<=(iH b).1/\(iH b).1<=1073741824:=by
 intro h;unfold iH at h ⊢;split at h
 ·rename_i q;exact absurd h q
 ·rename_i q;rw [if_neg q];split at h
  ·cases h
  ·rename_i q2;rw [if_neg q2];split at h
   ·cases h
   ·rename_i q3;rw [if_neg q3];simp only [not_or] at q3;simp only;omega
def adG{b:List Int}:(iH b).2.2≠0->(iH b).1=0/\(iH b).2.1=[]:=by
 intro h;unfold iH at h ⊢;split
 ·exact ⟨rfl,rfl⟩
 ·split
  ·exact ⟨rfl,rfl⟩
  ·split
   ·exact ⟨rfl,rfl⟩
   ·rename_i q q2 q3;rw [if_neg q,if_neg q2,if_neg q3] at h;exact absurd rfl h
def aao{b:List Int}{h l:Int}{a:List Int}(e:b=a++ [h,l])(hh:0<=h/\h<256)(hl:0<=l/\l<256):kV b=if h*256+l=cI (jg a) then (a,0) else ([],4):=by
 have hn:b.length=a.length+2:=by rw [e];simp
 have hc:jg b=0#16 ↔ h*256+l=cI (jg a):=by rw [e];unfold jg;rw [qe,W2 _ hh hl];exact ⟨λh=>h.symm,λh=>h.symm⟩
 unfold kV;rw [if_neg aa];by_cases q:jg b=0#16
 ·rw [if_pos q,if_pos (hc.1 q),hn,e];simp
 ·rw [if_neg q,if_neg λh=>q (hc.2 h)]
def Nz{b:List Int}(hb:lR b):∀k:Nat,0<=dX (b.take k)/\dX (b.take k)<256 ^ k
 |0=>by rw [MP];exact ⟨mu 0,by decide⟩
 |k+1=>by
  obtain ⟨h1,h2⟩:=Nz hb k
  rw [cm]
  cases hx:b[k]? with
  |none=>
   rw [Int.pow_succ]
   simp only [Option.toList_none,GJ]
   generalize (256:Int) ^ k=p at*
   omega
  |some x=>
   have:=hb x (bf hx)
   rw [Int.pow_succ]
   simp only [Option.toList_some]
   rw [AW]
   generalize (256:Int) ^ k=p at*
   omega
def AV{b:List Int}(hb:lR b){k:Nat}(hk:k<=4):0<=dX (b.take k)/\dX (b.take k)<4294967296:=by
 obtain ⟨h1,h2⟩:=Nz hb k;have h3:(256:Int) ^ k<=4294967296:=by
  rcases k with _|_|_|_|_|k
  ·decide
  ·decide
  ·decide
  ·decide
  ·decide
  ·omega
 exact ⟨h1,Int.lt_of_lt_of_le h2 h3⟩
def TD{n c:Int}(hn:0<=n/\n<281474976710656)(hc:0<=c/\c<256):Gk .i64 (n*256) c=n*256+c:=by
 show ai ((BitVec.ofInt 64 (n*256)|||BitVec.ofInt 64 c).toNat:Nat)=_;have e1:(BitVec.ofInt 64 (n*256)).toNat=2 ^ 8*n.toNat:=by rw [zx];simp only [show ((2 ^ 64:Nat):Int)=18446744073709551616 from rfl,show (2:Nat) ^ 8=256 from rfl];omega
 have e2:(BitVec.ofInt 64 c).toNat=c.toNat:=by rw [zx];simp only [show ((2 ^ 64:Nat):Int)=18446744073709551616 from rfl];omega
 rw [BitVec.toNat_or,e1,e2,<-Nat.two_pow_add_eq_or_of_lt (i:=8) (b:=c.toNat) aa n.toNat];simp only [show (2:Nat) ^ 8=256 from rfl];have:((256*n.toNat+c.toNat:Nat):Int)=n*256+c:=by omega
 rw [this];exact wI
abbrev kU:=Int × List Int
structure Dk where
 room:Int
 c9:Int
 wait:Int
 safe:List kU
 l:List kU
def Pt:Bool->List kU->kU->List kU
 |done,[],w=>if done then [] else [w]
 |done,x::t,w=>(if done=false/\x.1>=w.1 then [w] else [])++(if x.1≠w.1 then [x] else [])++Pt (done||decide (x.1>=w.1)) t w
def lay(l:List kU)(w:kU):List kU:=Pt false l w
def gd(d:Dk):List kU:=d.l.foldl lay d.safe
def fK(l:List kU):Nat:=(l.map λx=>x.2.length).sum
def lg(l:List kU)(k:Int):Option (List Int):=(l.find? λx=>x.1==k).map (·.2)
def eg(d:Dk):Dk × Bool:=if 0<d.wait then ({d with wait:=0},false) else if 0<d.c9 then ({d with c9:=d.c9-1},true) else (d,false)
def fZ(d:Dk)(k:Int)(b:List Int):Dk × Int:=
 if (eg d).2=true then ((eg d).1,9) else if (fK (lay (gd d) (k,b)):Int)>d.room then ((eg d).1,8) else ({(eg d).1 with l:=d.l++ [(k,b)]},0)
def getD(d:Dk)(k:Int):List Int:=(lg (gd d) k).getD []
def iX(d:Dk):Dk × Int:=if (eg d).2=true then ((eg d).1,9) else ({(eg d).1 with safe:=gd d,l:=[]},0)
def DL:∀(l:List kU)(w:kU),Pt true l w=l.filter λx=>decide (x.1≠w.1)
 | [],_=>rfl
 |x::t,w=>by
  unfold Pt
  rw [if_neg cx,Bool.true_or,DL t w,pz]
  by_cases h:x.1=w.1<;>simp [h]
def pA:∀(l:List kU)(w:kU),(lay l w).Perm (w::l.filter λx=>decide (x.1≠w.1))
 | [],_=> .refl _
 |x::t,w=>by
  unfold lay Pt
  rw [Bool.false_or]
  by_cases h:x.1>=w.1
  ·rw [if_pos ⟨rfl,h⟩,decide_eq_true h,DL,pz]
   by_cases h2:x.1=w.1
   ·rw [if_neg (by simp [h2]),if_neg (by simp [h2])];exact .refl _
   ·rw [if_pos h2,if_pos (by simp [h2])];exact .refl _
  ·rw [if_neg λq=>h q.2,decide_eq_false h,if_pos aa,pz,if_pos (by simp;omega)]
   have ih:=pA t w
   unfold lay at ih
   exact (List.Perm.cons x ih).trans (List.Perm.swap _ _ _)
def gL(l:List kU):List Int:=l.map (·.1)
def Fl{l:List kU}(p:kU->Bool)(h:(gL l).Nodup):(gL (l.filter p)).Nodup:=h.sublist ((List.filter_sublist).map _)
def PU{l:List kU}{w:kU}(h:(gL l).Nodup):(gL (lay l w)).Nodup:=by refine ((pA l w).map (·.1)).nodup_iff.2 ?_;rw [dG];refine lE.2 ⟨λhm=> ?_,Fl _ h⟩;obtain ⟨x,hx,e⟩:=aS.1 hm;have:=(jJ.1 hx).2;simp at this;exact this e
def pM:∀(t:List kU) {l:List kU},(gL l).Nodup->(gL (t.foldl lay l)).Nodup
 | [],_,h=>h
 |w::t,_,h=>pM t (PU h)
def Dn{a b:List kU}(h:a.Perm b):fK a=fK b:=(h.map λx:kU=>x.2.length).sum_nat
def ni(x:kU)(t:List kU):fK (x::t)=x.2.length+fK t:=rfl
def Ic(a b:List kU):fK (a++b)=fK a+fK b:=by unfold fK;rw [aT,List.sum_append_nat]
def vK{l:List kU}(h:(gL l).Nodup){k:Int}{b:List Int}:lg l k=some b ↔(k,b) ∈ l:=by
 unfold lg
 induction l with
 |nil=>simp
 |cons x t ih=>
  have hn:=lE.1 h;rw [List.find?_cons];by_cases e:x.1=k
  ·rw [beq_iff_eq.2 e];simp only [mj,Option.some.injEq,bJ];constructor
   ·rintro rfl;exact .inl (by rw [<-e])
   ·rintro (q|q)
    ·rw [<-q]
    ·exact absurd (aS.2 ⟨_,q,e.symm⟩) hn.1
  ·rw [show (x.1==k)=false by simpa using e,ih hn.2];simp only [bJ];constructor
   ·exact .inr
   ·rintro (q|q)
    ·exact absurd (by rw [<-q]) e
    ·exact q
def vJ{l:List kU}{k:Int}:lg l k=none ↔ ∀x ∈ l,x.1≠k:=by unfold lg;rw [Option.map_eq_none_iff,SS];simp
def O2{a b:List kU}(h:a.Perm b)(ha:(gL a).Nodup)(k:Int):lg a k=lg b k:=by
 have hb:(gL b).Nodup:=(h.map λx:kU=>x.1).nodup_iff.1 ha
 cases q:lg b k with
 |some x=>exact (vK ha).2 (h.mem_iff.2 ((vK hb).1 q))
 |none=>exact vJ.2 λx hx=>vJ.1 q x (h.mem_iff.1 hx)
def wX{l:List kU}(h:(gL l).Nodup)(k:Int):fK (l.filter λx=>decide (x.1≠k))+((lg l k).getD []).length=fK l:=by
 induction l with
 |nil=>rfl
 |cons x t ih=>
  have hn:=lE.1 h;rw [pz];by_cases e:x.1=k
  ·rw [if_neg (by simp [e])];have hg:lg (x::t) k=some x.2:=by unfold lg;rw [List.find?_cons,beq_iff_eq.2 e];rfl
   have ht:t.filter (λx=>decide (x.1≠k))=t:=wL.2 λy hy=>by simp only [ne_eq,decide_not,Bool.not_eq_true',bV];intro q;exact hn.1 (aS.2 ⟨y,hy,q.trans e.symm⟩)
   rw [hg,ht,ni,Option.getD_some];omega
  ·rw [if_pos (by simp [e])];have hg:lg (x::t) k=lg t k:=by unfold lg;rw [List.find?_cons,show (x.1==k)=false by simpa using e]
   have:=ih hn.2;rw [hg,ni,ni];omega
def HR{l:List kU}(h:(gL l).Nodup)(w:kU):fK (lay l w)+((lg l w.1).getD []).length=fK l+w.2.length:=by have:=wX h w.1;rw [Dn (pA l w),ni];omega
structure iu(d:Dk):Prop where
 nd:(gL d.safe).Nodup
 len:∀k,(fK ((d.l.take k).foldl lay d.safe):Int)<=d.room
 w:0<=d.wait/\d.wait<=1
 f:0<=d.c9/\d.c9<=9223372036854775807
 r:0<=d.room/\d.room<=1048576
def iu.now{d:Dk}(h:iu d):(gL (gd d)).Nodup:=pM _ h.nd
def iu.So{d:Dk}(h:iu d):(fK (gd d):Int)<=d.room:=by have:=h.len d.l.length;rwa [ko] at this
def fE(d:Dk):(eg d).1.safe=d.safe/\(eg d).1.l=d.l/\(eg d).1.room=d.room:=by
 unfold eg;split
 ·exact ⟨rfl,rfl,rfl⟩
 ·split<;>exact ⟨rfl,rfl,rfl⟩
def iu.ask{d:Dk}(h:iu d):iu (eg d).1:=by
 obtain ⟨e1,e2,e3⟩:=fE d;refine ⟨by rw [e1];exact h.nd,by rw [e1,e2,e3];exact h.len,?_,?_,by rw [e3];exact h.r⟩
 ·unfold eg;have:=h.w;split
  ·simp
  ·split<;>exact this
 ·unfold eg;have:=h.f;split
  ·exact this
  ·split
   ·simp only;omega
   ·exact this
def iu.put{d:Dk}(h:iu d)(k:Int)(b:List Int):iu (fZ d k b).1:=by
 have ha:=h.ask;obtain ⟨e1,e2,e3⟩:=fE d;unfold fZ;split
 ·exact ha
 ·split
  ·exact ha
  ·rename_i hr;refine ⟨by rw [e1];exact h.nd,λn=> ?_,ha.w,ha.f,ha.r⟩;rw [e1,e3];simp only;by_cases hn:n<=d.l.length
   ·rw [Ie hn];exact h.len n
   ·rw [cZ (by simp;omega),jc];show (fK (lay (gd d) (k,b)):Int)<=_;omega
def iu.sync{d:Dk}(h:iu d):iu (iX d).1:=by
 have ha:=h.ask;obtain ⟨e1,e2,e3⟩:=fE d;unfold iX;split
 ·exact ha
 ·refine ⟨h.now,λn=> ?_,ha.w,ha.f,ha.r⟩;simp only [List.take_nil,List.foldl_nil];rw [e3];exact h.So
end Go.dS
namespace Go.dS
open Go Go.Vc Go.bh
open Classical in
noncomputable def Ea{α:Type}(f:α->Int)(l:List α)(x:α):List α:=if ∃y ∈ l,f y=f x then l.map (λy=>if f y=f x then x else y) else l++ [x]
def C1{α:Type}(f:α->Int)(x:α):∀{l:List α},(l.map f).Nodup->(Ea f l x).Perm (x::l.filter λy=>decide (f y≠f x))
 | [],_=>by unfold Ea;rw [if_neg cx];exact .refl _
 |y::t,h=>by
  have hn:=lE.1 h
  have ih:=C1 f x hn.2
  by_cases e:f y=f x
  ·have lk:∀z ∈ t,f z≠f x:=λz hz q=>hn.1 (aS.2 ⟨z,hz,q.trans e.symm⟩)
   unfold Ea
   rw [if_pos ⟨y,.head _,e⟩,dG,if_pos e,pz,if_neg (by simp [e])]
   rw [wL.2 (λz hz=>by simpa using lk z hz)]
   have:t.map (λy=>if f y=f x then x else y)=t:=by
    conv=>rhs;rw [<-List.map_id t]
    exact wH λz hz=>by rw [if_neg (lk z hz)];rfl
   rw [this]
  ·rw [pz,if_pos (by simp [e])];refine List.Perm.trans ?_ (List.Perm.swap _ _ _);refine List.Perm.trans ?_ (List.Perm.cons y ih);unfold Ea;by_cases q:∃z ∈ t,f z=f x
   ·obtain ⟨z,hz,qz⟩:=q;rw [if_pos ⟨z,.tail _ hz,qz⟩,if_pos ⟨z,hz,qz⟩,dG,if_neg e]
   ·rw [if_neg (by
     rintro ⟨z,hz,qz⟩;rcases bJ.1 hz with rfl|hz
     ·exact e qz
     ·exact q ⟨z,hz,qz⟩),if_neg q]
    exact .refl _
def Q9{α:Type}{f:α->Int}{l:List α}{x y:α}(h:y ∈ Ea f l x):y=x\/y ∈ l:=by
 unfold Ea at h;split at h
 ·obtain ⟨z,hz,e⟩:=aS.1 h;split at e
  ·exact .inl e.symm
  ·exact .inr (e▸hz)
 ·rcases cu.1 h with h|h
  ·exact .inr h
  ·exact .inl (by simpa using h)
def Ra{α:Type}{f:α->Int}{g:α->List Int}{l:List α}{s:List kU}(x:α)(h:(l.map λy=>(f y,g y)).Perm s)(hn:(gL s).Nodup):((Ea f l x).map λy=>(f y,g y)).Perm (lay s (f x,g x)):=by
 have hk:(l.map f).Nodup:=by have:=(h.map λy:kU=>y.1).nodup_iff.2 hn;rwa [kj] at this
 refine ((C1 f x hk).map _).trans ?_;refine List.Perm.trans ?_ (pA s (f x,g x)).symm;rw [dG];refine List.Perm.cons _ ?_;have:=h.filter λy=>decide (y.1≠f x)
 rw [List.filter_map] at this;exact this
abbrev Rc:=Int × Int × List Int
def fD(best:Rc)(slot:Int)(r:Int × List Int × Int):Rc:=if r.2.2=0/\r.1>best.2.1 then (slot,r.1,r.2.1) else best
def fU(D:Dk)(id:Int):Rc:=fD (fD (2*id+1,0,[]) (2*id) (iH (getD D (2*id)))) (2*id+1) (iH (getD D (2*id+1)))
def nN(id:Int):Bool:=decide (0<=id) && decide (id<=1099511627776)
def qA(D:Dk)(id:Int):List Int × Int × Bool:=if nN id=true then ((fU D id).2.2,(fU D id).2.1,decide ((fU D id).2.1>0)) else ([],0,false)
def oD(D:Dk)(id:Int)(body:List Int):Dk × Int:=
 if nN id=true then
  if (lZ ((fU D id).2.1+1) body).2≠0 then (D,(lZ ((fU D id).2.1+1) body).2)
  else if (fZ D (4*id+1-(fU D id).1) (lZ ((fU D id).2.1+1) body).1).2≠0 then fZ D (4*id+1-(fU D id).1) (lZ ((fU D id).2.1+1) body).1
  else iX (fZ D (4*id+1-(fU D id).1) (lZ ((fU D id).2.1+1) body).1).1
 else (D,1)
def V8(n:Nat):(2*n) ^^^ 1=2*n+1/\(2*n+1) ^^^ 1=2*n:=by
 have h1:=Nat.xor_div_two (a:=2*n) (b:=1);have par:∀a:Nat,(a ^^^ 1) % 2=1 ↔ ¬a % 2=1:=λa=>by have:=Nat.testBit_xor a 1 0;rw [Nat.testBit_zero,Nat.testBit_zero,Nat.testBit_zero] at this;simp only [Nat.reduceMod,decide_true,Bool.xor_true] at this;rw [<-decide_eq_true_iff (p:=(a ^^^ 1) % 2=1),this];simp
 have h2:=par (2*n);have h3:=Nat.xor_div_two (a:=2*n+1) (b:=1);have h4:=par (2*n+1);rw [show 1 / 2=0 from rfl,Nat.xor_zero] at h1 h3;omega
def Re{id:Int}(h:0<=id/\id<=1099511627776):gI .i64 (2*id) 1=2*id+1/\gI .i64 (2*id+1) 1=2*id:=by
 have key:∀n:Nat,n<=2 ^ 60->gI .i64 (n:Int) 1=((n ^^^ 1:Nat):Int):=λn hn=>by
  show ai ((BitVec.ofInt 64 (n:Int) ^^^ BitVec.ofInt 64 1).toNat:Nat)=_;have e1:(BitVec.ofInt 64 (n:Int)).toNat=n:=by rw [zx];simp only [show ((2 ^ 64:Nat):Int)=18446744073709551616 from rfl];omega
  rw [BitVec.toNat_xor,e1];show ai ((n ^^^ 1:Nat):Int)=_;have:n ^^^ 1<2 ^ 61:=Nat.xor_lt_two_pow aa aC;exact wI
 obtain ⟨x1,x2⟩:=V8 id.toNat;constructor
 ·have:=key (2*id.toNat) aa;rw [x1] at this;rw [show 2*id=((2*id.toNat:Nat):Int) by omega,this];omega
 ·have:=key (2*id.toNat+1) aa;rw [x2] at this;rw [show 2*id+1=((2*id.toNat+1:Nat):Int) by omega,this];omega
def zy{best:Rc}{slot:Int}{r:Int × List Int × Int}:(fD best slot r).1=best.1\/(fD best slot r).1=slot:=by
 unfold fD;split
 ·exact .inr rfl
 ·exact .inl rfl
def Gz(D:Dk)(id:Int):(fU D id).1=2*id\/(fU D id).1=2*id+1:=by
 unfold fU;rcases zy (best:=fD (2*id+1,0,[]) (2*id) (iH (getD D (2*id)))) (slot:=2*id+1) (r:=iH (getD D (2*id+1))) with h|h
 ·rw [h];rcases zy (best:=(2*id+1,0,[])) (slot:=2*id) (r:=iH (getD D (2*id))) with h|h
  ·exact .inr h
  ·exact .inl h
 ·exact .inr h
def Zy(b:List Int):0<=(iH b).1/\(iH b).1<=1073741824:=by
 by_cases h:(iH b).2.2=0
 ·have:=Rf h;omega
 ·rw [(adG h).1];omega
def MM{best:Rc}{slot:Int}(b:List Int)(h:0<=best.2.1/\best.2.1<=1073741824):0<=(fD best slot (iH b)).2.1/\(fD best slot (iH b)).2.1<=1073741824:=by
 unfold fD;split
 ·exact Zy b
 ·exact h
def X3(D:Dk)(id:Int):0<=(fU D id).2.1/\(fU D id).2.1<=1073741824:=MM _ (MM _ (show (0:Int)<=0/\(0:Int)<=1073741824 by decide))
def iu.save{D:Dk}(h:iu D)(id:Int)(b:List Int):iu (oD D id b).1:=by
 unfold oD;split
 ·split
  ·exact h
  ·split
   ·exact h.put _ _
   ·exact (h.put _ _).sync
 ·exact h
def Rg(D:Dk):(eg D).1.l=D.l:=(fE D).2.1
def GA(D:Dk)(k:Int)(b:List Int):(fZ D k b).1.l.length<=D.l.length+1:=by
 unfold fZ;split
 ·rw [Rg];omega
 ·split
  ·rw [Rg];omega
  ·simp
def Zz(D:Dk):(iX D).1.l.length<=D.l.length:=by
 unfold iX;split
 ·rw [Rg];omega
 ·simp
def ZA(D:Dk)(id:Int)(b:List Int):(oD D id b).1.l.length<=D.l.length+1:=by
 unfold oD;split
 ·split
  ·exact zA _
  ·split
   ·exact GA _ _ _
   ·exact fA (Zz _) (GA _ _ _)
 ·exact zA _
end Go.dS
namespace Go.dS
open Go Go.Vc Go.bh
def Wp{room id:Int}:qA ⟨room,0,0,[],[]⟩ id=([],0,false):=by unfold qA;split<;>rfl
end Go.dS
namespace Go.km
open Go Go.Vc
abbrev Cl:=Int × Int × Int
abbrev It:=Int × Cl
def cv(c:Cl):Value:=.agg #[c.1,c.2.1,c.2.2]
def tv(t:Int):Value:=.int .i64 t
abbrev dn(c:Cl):LV:=[.int .i64 c.1,.int .i64 c.2.1,.int .i64 c.2.2]
abbrev cN(x:It):LV:=[.int .i64 x.1,.int .i64 x.2.1,.int .i64 x.2.2.1,.int .i64 x.2.2.2]
def At{a b:Cl}(h:cv a=cv b):a=b:=by unfold cv at h;obtain ⟨a1,a2,a3⟩:=a;obtain ⟨b1,b2,b3⟩:=b;simp at h;obtain ⟨rfl,rfl,rfl⟩:=h;rfl
structure QS where
 room:Int
 lost:Int
 l:List It
def bP(l:List It)(c:Cl):List It:=l.filter λx=>x.2 !=c
def pR(l:List It)(x:It):List It:=l.takeWhile (λy=>y.1<=x.1)++x::l.dropWhile (λy=>y.1<=x.1)
def iD(l:List It)(c:Cl):Option Int:=(l.find? λx=>x.2==c).map (·.1)
def fc(q:QS)(c:Cl)(t:Int):QS × Bool:=
 match iD q.l c with
 |some was=>if was<=t then (q,false) else ({q with l:=pR (bP q.l c) (t,c)},true)
 |none=>if (q.l.length:Int)>=q.room then ({q with lost:=q.lost+1},false) else ({q with l:=pR q.l (t,c)},true)
def fR(l:List It)(now many:Int):Nat:=min (l.takeWhile λy=>y.1<=now).length many.toNat
def ue(q:QS)(now many:Int):QS × List Cl:=({q with l:=q.l.drop (fR q.l now many)},(q.l.take (fR q.l now many)).map (·.2))
structure xR(q:QS):Prop where
 room:1<=q.room/\q.room<=4096
 len:(q.l.length:Int)<=q.room
 sorted:q.l.Pairwise λa b=>a.1<=b.1
 nodup:(q.l.map (·.2)).Nodup
def vU(l:List It)(c:Cl):(bP l c).Sublist l:=List.filter_sublist
def Au{l:List It}{c:Cl}{t:Int}(h:iD l c=some t):(t,c) ∈ l:=by
 unfold iD at h
 cases hf:l.find? (λx=>x.2==c) with
 |none=>rw [hf] at h;cases h
 |some x=>
  rw [hf] at h;have h1:=List.find?_some hf;have h2:=Yd hf;obtain ⟨a,b⟩:=x;simp at h h1;subst h;subst h1;exact h2
def nX{l:List It}{c:Cl}(h:iD l c=none):∀x ∈ l,x.2≠c:=by unfold iD at h;rw [Option.map_eq_none_iff,SS] at h;intro x hx e;exact h x hx (by simp [e])
def Dp{l:List It}(h:l.Pairwise λa b=>a.1<=b.1)(t:Int):(∀y ∈ l.takeWhile (λy=>y.1<=t),y.1<=t)/\(∀y ∈ l.dropWhile (λy=>y.1<=t),t<y.1):=by
 induction l with
 |nil=>simp
 |cons a l ih=>
  rw [List.pairwise_cons] at h;by_cases ha:a.1<=t
  ·rw [List.takeWhile_cons_of_pos (by simpa using ha),List.dropWhile_cons_of_pos (by simpa using ha)];obtain ⟨i1,i2⟩:=ih h.2;refine ⟨λy hy=> ?_,i2⟩;rcases bJ.1 hy with rfl|hy
   ·exact ha
   ·exact i1 y hy
  ·rw [List.takeWhile_cons_of_neg (by simpa using ha),List.dropWhile_cons_of_neg (by simpa using ha)];refine ⟨by simp,λy hy=> ?_⟩;rcases bJ.1 hy with rfl|hy
   ·omega
   ·have:=h.1 y hy;omega
def jw{l:List It}(h:l.Pairwise λa b=>a.1<=b.1)(t:Int){i:Nat}{y:It}(hi:l[i]? =some y):i<(l.takeWhile (λy=>y.1<=t)).length ↔ y.1<=t:=by
 have hs:=Dp h t;have e:=Dq (p:=λy:It=>decide (y.1<=t)) (l:=l);constructor
 ·intro fH;rw [<-e,kT fH] at hi;exact hs.1 y (bf hi)
 ·intro hle;rcases fz i (l.takeWhile (λy=>y.1<=t)).length with fH|Me
  ·exact fH
  ·rw [<-e,mV Me] at hi;have:=hs.2 y (bf hi);omega
def ug(l:List It)(x:It):l.take (l.takeWhile λy=>decide (y.1<=x.1)).length++x::l.drop (l.takeWhile λy=>decide (y.1<=x.1)).length=pR l x:=by
 have h:∀(a b l:List It),a++b=l->l.take a.length++x::l.drop a.length=a++x::b:=by rintro a b _ rfl;simp
 exact h _ _ _ (Dq (p:=λy:It=>decide (y.1<=x.1)) (l:=l))
def HT(l:List It)(x:It):(pR l x).length=l.length+1:=by have e:=congrArg List.length (Dq (p:=λy:It=>decide (y.1<=x.1)) (l:=l));unfold pR;simp only [eP,fX] at e ⊢;omega
def Av(l:List It)(x y:It):y ∈ pR l x ↔ y=x\/y ∈ l:=by
 unfold pR;conv=>rhs;rw [<-Dq (p:=λy:It=>decide (y.1<=x.1)) (l:=l)]
 simp only [cu,bJ];constructor
 ·rintro (h|h|h)
  ·exact .inr (.inl h)
  ·exact .inl h
  ·exact .inr (.inr h)
 ·rintro (h|h|h)
  ·exact .inr (.inl h)
  ·exact .inl h
  ·exact .inr (.inr h)
def xg{l:List It}(h:l.Pairwise λa b=>a.1<=b.1)(x:It):(pR l x).Pairwise λa b=>a.1<=b.1:=by
 have hs:=Dp h x.1;have e:=Dq (p:=λy:It=>decide (y.1<=x.1)) (l:=l);unfold pR;rw [<-e,List.pairwise_append] at h;rw [List.pairwise_append];refine ⟨h.1,List.pairwise_cons.2 ⟨λy hy=>by have:=hs.2 y hy;omega,h.2.1⟩,λa ha b hb=> ?_⟩;rcases bJ.1 hb with rfl|hb
 ·exact hs.1 a ha
 ·exact h.2.2 a ha b hb
def Ax{l:List It}(h:(l.map (·.2)).Nodup){x:It}(hx:∀y ∈ l,y.2≠x.2):((pR l x).map (·.2)).Nodup:=by
 have e:=Dq (p:=λy:It=>decide (y.1<=x.1)) (l:=l);unfold pR;have hx':∀y ∈ l.takeWhile (λy=>y.1<=x.1)++l.dropWhile (λy=>y.1<=x.1),y.2≠x.2:=by rw [e];exact hx
 rw [<-e,aT,lH] at h;rw [aT,dG,lH];refine ⟨h.1,lE.2 ⟨λhm=> ?_,h.2.1⟩,λa ha b hb=> ?_⟩
 ·obtain ⟨y,hy,e⟩:=aS.1 hm;exact hx' y (HU _ hy) e
 ·rcases bJ.1 hb with rfl|hb
  ·obtain ⟨y,hy,rfl⟩:=aS.1 ha;exact hx' y (Ay _ hy)
  ·exact h.2.2 a ha b hb
def xR.add{q:QS}(h:xR q)(c:Cl)(t:Int):xR (fc q c t).1:=by
 unfold fc;split
 ·rename_i was hw;split
  ·exact h
  ·have eI:=vU q.l c;have fH:(bP q.l c).length<q.l.length:=by
    have hm:=Au hw;have:(bP q.l c).length≠q.l.length:=λe=>by have:=eI.eq_of_length e;rw [<-this] at hm;unfold bP at hm;simp at hm
    have:=eI.length_le;omega
   have:=h.len;exact ⟨h.room,by rw [HT];show ((_:Nat):Int)<=q.room;omega,xg (h.sorted.sublist eI) _,Ax ((eI.map _).nodup h.nodup) (λy hy=>by unfold bP at hy;simp at hy;exact hy.2)⟩
 ·rename_i hn;split
  ·exact ⟨h.room,h.len,h.sorted,h.nodup⟩
  ·exact ⟨h.room,by rw [HT];show ((_:Nat):Int)<=q.room;omega,xg h.sorted _,Ax h.nodup (nX hn)⟩
def xR.drop{q:QS}(h:xR q)(c:Cl):xR {q with l:=bP q.l c}:=by have eI:=vU q.l c;have:=eI.length_le;have:=h.len;exact ⟨h.room,by show ((bP q.l c).length:Int)<=q.room;omega,h.sorted.sublist eI,(eI.map _).nodup h.nodup⟩
def xR.due{q:QS}(h:xR q)(now many:Int):xR (ue q now many).1:=by have eI:(q.l.drop (fR q.l now many)).Sublist q.l:=List.drop_sublist _ _;have:=eI.length_le;have:=h.len;exact ⟨h.room,by show ((q.l.drop (fR q.l now many)).length:Int)<=q.room;omega,h.sorted.sublist eI,(eI.map _).nodup h.nodup⟩
def vM(q:QS)(c:Cl)(t:Int):q.lost<=(fc q c t).1.lost/\(fc q c t).1.lost<=q.lost+1:=by
 unfold fc;split
 ·split<;>exact ⟨mu _,by show q.lost<=q.lost+1;omega⟩
 ·split
  ·exact ⟨by show q.lost<=q.lost+1;omega,mu _⟩
  ·exact ⟨mu _,by show q.lost<=q.lost+1;omega⟩
def Pd{q:QS}(h:xR q)(now many:Int){k:Nat}{x:It}(hx:q.l[k]? =some x):k<fR q.l now many ↔(k:Int)<many/\x.1<=now:=by have:=jw h.sorted now hx;unfold fR;rw [<-this];omega
def Dr(l:List It)(now many:Int):fR l now many<=l.length:=by have:=(List.takeWhile_sublist (λy:It=>decide (y.1<=now)) (l:=l)).length_le;unfold fR;omega
end Go.km
namespace Go.km
end Go.km
namespace Go.km
open Go Go.Vc
end Go.km
namespace Go.km
open Go Go.Vc
def toldV(l:List It):LV:=(List.range 30).map λk:Nat=> .int .i64 (if l.any (λx=>x.2.1==(k:Int)) then 1 else 0)
def toldV_nil:toldV []=br [af] 30:=by rfl
def toldV_len(l:List It):(toldV l).length=30:=by simp [toldV]
def toldV_get(l:List It){k:Nat}(hk:k<30):(toldV l)[k]? =some (.int .i64 (if l.any (λx=>x.2.1==(k:Int)) then 1 else 0)):=by unfold toldV;rw [aV,Gr hk];rfl
def toldV_set{l:List It}{p k:Nat}{x:It}(hx:l[p]? =some x)(hk:x.2.1=(k:Int))(ase:k<30):(toldV (l.take p)).set k (1:Int)=toldV (l.take (p+1)):=by
 apply im;intro i;rw [il];rcases fz i 30 with h|h
 ·rw [cm,hx];split
  ·rename_i e;subst e;rw [if_pos (by rw [toldV_len];exact h),toldV_get _ h];simp [hk]
  ·rename_i e;rw [toldV_get _ h,toldV_get _ h];have:(x.2.1==(i:Int))=false:=by rw [hk];simp;omega
   simp only [List.any_append,Option.toList_some,List.any_cons,List.any_nil,this,Bool.or_false]
 ·rw [iq (by rw [toldV_len];exact h),iq (by rw [toldV_len];exact h),if_neg aa]
def told_not{l:List It}(hn:(l.map (·.2)).Nodup)(hc:∀x ∈ l,∃j:Nat,x.2=((j:Int),0,0)){p:Nat}{x:It}(hx:l[p]? =some x):(l.take p).any (λy=>y.2.1==x.2.1)=false:=by
 rw [List.any_eq_false];intro y hy e;simp only [beq_iff_eq] at e;obtain ⟨hp,he⟩:=bH.1 hx;have h2:y.2=x.2:=by obtain ⟨a,ha⟩:=hc y (kq hy);obtain ⟨b,hb⟩:=hc x (he▸List.getElem_mem _);rw [ha,hb] at e ⊢;rw [show (a:Int)=b from e]
 have hd:l=l.take p++x::l.drop (p+1):=by rw [<-he,<-kW hp,jK]
 rw [hd,aT,dG,lH] at hn;exact hn.2.2 y.2 (List.mem_map_of_mem hy) x.2 (List.mem_cons_self ..) h2
end Go.km
namespace Go.iQ
open Go Go.Vc Go.dS Go.km
abbrev Cg:=Ce × Int
def fu(b:Int):Bool:=decide (8<=b) && decide (b<16)
def bQ(b:Int):Int:=if b=3 then 2 else if fu b then 5 else 0
def dy(b:Int):Int:=if fu b then b-8 else -1
def gM(l:Int):Int:=8+min (max l 0) 7
def qM(b:Int):Bool:=decide (b=0)||fu b
def bz(c:Ce):Ce:=(c.1,c.2.1-1,c.2.2)
def iw(c:Ce):Ce:=(c.1,c.2.1+1,c.2.2)
def aQ(c:Ce):List Ce:=[(c.1-1,c.2.1,c.2.2),(c.1+1,c.2.1,c.2.2),(c.1,c.2.1,c.2.2-1),(c.1,c.2.1,c.2.2+1)]
def iI(c:Ce):List Ce:=[(c.1-1,c.2.1,c.2.2),(c.1+1,c.2.1,c.2.2),bz c,iw c,(c.1,c.2.1,c.2.2-1),(c.1,c.2.1,c.2.2+1)]
def iR(V:Ce->Int)(c:Ce):List Ce:=(c::iI c).filter λn=>decide (0<bQ (V n))
def oJ(V:Ce->Int)(now:Int)(q:QS)(c:Ce):QS:=(iR V c).foldl (λq n=>(fc q n (now+bQ (V n))).1) q
def rN(V:Ce->Int)(l:List Ce):Int:=l.foldl (λm n=>if 0<=dy (V n) then min m (dy (V n)) else m) 7
def dq(V:Ce->Int)(c:Ce):Int × Bool:=if fu (V (iw c)) then (1,true) else if rN V (aQ c)=7 then (0,false) else (rN V (aQ c)+1,true)
def pD(V:Ce->Int)(c:Ce):List Cg:=if qM (V (bz c)) then [(c,V (bz c)),(bz c,3)] else []
def jS(V:Ce->Int)(c:Ce)(level:Int):List Cg:=
 if 0<level/\(dq V c).2=false then [(c,0)]
 else if 0<level/\(dq V c).1≠level then [(c,gM (dq V c).1)]
 else if V (bz c)=0 then [(bz c,gM 1)]
 else if fu (V (bz c))=true\/7<=level then []
 else ((aQ c).filter λn=>decide (V n=0)).map λn=>(n,gM (level+1))
def jq(V:Ce->Int)(c:Ce):List Cg:=if V c=3 then pD V c else if fu (V c) then jS V c (dy (V c)) else []
def G9{V:Ce->Int}{c:Ce}(h0:bQ (V c)=0)(h:∀n ∈ iI c,bQ (V n)=0):iR V c=[]:=by
 unfold iR;rw [List.filter_eq_nil_iff];intro n hn;rcases bJ.1 hn with rfl|hn
 ·rw [h0];decide
 ·rw [h n hn];decide
def KH{V:Ce->Int}{c:Ce}(h0:0<bQ (V c))(h:∀n ∈ iI c,bQ (V n)=0):iR V c=[c]:=by unfold iR;rw [pz,if_pos (by simpa using h0),List.filter_eq_nil_iff.2 λn hn=>by rw [h n hn];decide]
def nc:bQ 0=0:=by decide
def zV:bQ 3=2:=by decide
def RZ{V:Ce->Int}{c:Ce}(h:V c=3)(hl:V (bz c)=0):jq V c=[(c,0),(bz c,3)]:=by unfold jq pD qM;rw [if_pos h,hl,if_pos aC]
end Go.iQ
namespace Go.iQ
open Go Go.Vc Go.dS Go.km
def dL(V:Ce->Int)(c:Ce):Int:=if fu (V (iw c)) then 1 else (aQ c).foldl (λm n=>if fu (V n) then min m (V n-8+1) else m) 8
def iY(V:Ce->Int)(c:Ce):List Cg:=
 if V c=3 then pD V c
 else if fu (V c)=false then []
 else if 0<V c-8/\7<dL V c then [(c,0)]
 else if 0<V c-8/\dL V c≠V c-8 then [(c,8+dL V c)]
 else if V (bz c)=0 then [(bz c,9)]
 else if fu (V (bz c))=true\/V c-8=7 then []
 else ((aQ c).filter λn=>decide (V n=0)).map λn=>(n,9+(V c-8))
def zC{b:Int}(h:fu b=true):dy b=b-8/\0<=b-8/\b-8<=7:=by unfold dy;rw [if_pos h];unfold fu at h;simp at h;omega
def ZB{b:Int}(h:¬fu b=true):dy b= -1:=by unfold dy;rw [if_neg h]
def Ee(V:Ce->Int):∀(l:List Ce)(m:Int),m<=7->l.foldl (λm n=>if fu (V n) then min m (V n-8+1) else m) (m+1)=l.foldl (λm n=>if 0<=dy (V n) then min m (dy (V n)) else m) m+1/\l.foldl (λm n=>if 0<=dy (V n) then min m (dy (V n)) else m) m<=7
 | [],m,hm=>⟨rfl,hm⟩
 |n::l,m,hm=>by
  simp only [jL]
  by_cases hw:fu (V n)=true
  ·obtain ⟨e1,e2,e3⟩:=zC hw
   rw [if_pos hw,if_pos aa,e1]
   rw [show min (m+1) (V n-8+1)=min m (V n-8)+1 by omega]
   exact Ee V l _ aa
  ·rw [if_neg hw,if_neg (by rw [ZB hw];omega)]
   exact Ee V l m hm
def Wa(V:Ce->Int)(c:Ce):((dq V c).2=false ↔ 7<dL V c)/\((dq V c).2=true->(dq V c).1=dL V c/\1<=dL V c\/(dq V c).1=dL V c):=by
 obtain ⟨h1,h2⟩:=Ee V (aQ c) 7 aa;have hl:(aQ c).foldl (λm n=>if 0<=dy (V n) then min m (dy (V n)) else m) 7=rN V (aQ c):=rfl;rw [hl] at h1 h2;have h1:(aQ c).foldl (λm n=>if fu (V n) then min m (V n-8+1) else m) 8=rN V (aQ c)+1:=h1;unfold dL dq;by_cases hw:fu (V (iw c))=true
 ·rw [if_pos hw,if_pos hw];exact ⟨by simp,λ_=> .inr rfl⟩
 ·rw [if_neg hw,if_neg hw,h1];by_cases h7:rN V (aQ c)=7
  ·rw [if_pos h7,h7];exact ⟨by simp,λh=>by simp at h⟩
  ·rw [if_neg h7];refine ⟨?_,λ_=> .inr rfl⟩;simp only [Bool.true_eq_false,false_iff];omega
def zD(V:Ce->Int)(c:Ce):1<=dL V c/\dL V c<=8:=by
 unfold dL;split
 ·omega
 ·have key:∀(l:List Ce)(m:Int),1<=m/\m<=8->1<=l.foldl (λm n=>if fu (V n) then min m (V n-8+1) else m) m/\l.foldl (λm n=>if fu (V n) then min m (V n-8+1) else m) m<=8:=by
   intro l
   induction l with
   |nil=>intro m h;exact h
   |cons n l ih=>
    intro m h;simp only [jL];refine ih _ ?_;split
    ·rename_i hw;have:=zC hw;omega
    ·exact h
  exact key _ _ aa
def ZC(V:Ce->Int)(c:Ce):iY V c=jq V c:=by
 unfold iY jq;by_cases h3:V c=3
 ·rw [if_pos h3,if_pos h3]
 ·rw [if_neg h3,if_neg h3];by_cases hw:fu (V c)=true
  ·obtain ⟨e1,e2,e3⟩:=zC hw;obtain ⟨f1,f2⟩:=Wa V c;obtain ⟨f3,f4⟩:=zD V c;rw [if_neg (by rw [hw];simp),if_pos hw,e1];unfold jS;by_cases a:0<V c-8/\7<dL V c
   ·rw [if_pos a,if_pos ⟨a.1,f1.2 a.2⟩]
   ·have a':¬(0<V c-8/\(dq V c).2=false):=λq=>a ⟨q.1,f1.1 q.2⟩
    rw [if_neg a,if_neg a'];have hb:0<V c-8->(dq V c).1=dL V c:=λh=>by
     have h2:(dq V c).2=true:=by
      cases hq:(dq V c).2 with
      |true=>rfl
      |false=>exact absurd ⟨h,f1.1 hq⟩ a
     rcases f2 h2 with q|q
     ·exact q.1
     ·exact q
    by_cases b:0<V c-8/\dL V c≠V c-8
    ·have b':0<V c-8/\(dq V c).1≠V c-8:=⟨b.1,by rw [hb b.1];exact b.2⟩;rw [if_pos b,if_pos b',hb b.1];have:dL V c<=7:=by
      by_cases q:7<dL V c
      ·exact absurd ⟨b.1,q⟩ a
      ·omega
     unfold gM;rw [show min (max (dL V c) 0) 7=dL V c by omega]
    ·have b':¬(0<V c-8/\(dq V c).1≠V c-8):=λq=>b ⟨q.1,by rw [<-hb q.1];exact q.2⟩
     rw [if_neg b,if_neg b'];by_cases d:V (bz c)=0
     ·rw [if_pos d,if_pos d];rfl
     ·rw [if_neg d,if_neg d];by_cases e:fu (V (bz c))=true\/V c-8=7
      ·have e':fu (V (bz c))=true\/7<=V c-8:=e.imp id λq=>by omega
       rw [if_pos e,if_pos e']
      ·have e':¬(fu (V (bz c))=true\/7<=V c-8):=λq=>e (q.imp id λq=>by omega)
       rw [if_neg e,if_neg e'];unfold gM;have:V c-8≠7:=λq=>e (.inr q)
       rw [show 8+min (max (V c-8+1) 0) 7=9+(V c-8) by omega]
  ·rw [if_pos (by simpa using hw),if_neg hw]
def nB(c d:Ce):Ce:=(c.1-1+d.1,c.2.1-1+d.2.1,c.2.2-1+d.2.2)
def fa:Ce:=(1,1,1)
def Small(V U:Ce->Int)(c:Ce):Prop:=∀d:Ce,(0<=d.1/\d.1<3)->(0<=d.2.1/\d.2.1<3)->(0<=d.2.2/\d.2.2<3)->U d=V (nB c d)
def zE(c:Ce):nB c fa=c:=by obtain ⟨x,y,z⟩:=c;unfold nB fa;simp only [Prod.mk.injEq];omega
def Ki(c:Ce):nB c (bz fa)=bz c:=by obtain ⟨x,y,z⟩:=c;unfold nB fa bz;simp only [Prod.mk.injEq];omega
def Wb(c:Ce):nB c (iw fa)=iw c:=by obtain ⟨x,y,z⟩:=c;unfold nB fa iw;simp only [Prod.mk.injEq];omega
def GH(c:Ce):(aQ fa).map (nB c)=aQ c:=by obtain ⟨x,y,z⟩:=c;unfold aQ fa nB;simp only [dG,List.map_nil,List.cons.injEq,Prod.mk.injEq,and_true];omega
def Kj{V U:Ce->Int}{c:Ce}(h:Small V U c):(iY U fa).map (λx=>(nB c x.1,x.2))=iY V c:=by
 have h1:U fa=V c:=by rw [h fa aC aC aC,zE]
 have h2:U (bz fa)=V (bz c):=by rw [h (bz fa) aC aC aC,Ki]
 have h3:U (iw fa)=V (iw c):=by rw [h (iw fa) aC aC aC,Wb]
 have h4:∀n ∈ aQ fa,U n=V (nB c n):=by intro n hn;unfold aQ fa at hn;simp only [bJ,fY,or_false] at hn;rcases hn with rfl|rfl|rfl|rfl<;>exact h _ aC aC aC
 have key:∀(l:List Ce)(m:Int),(∀n ∈ l,U n=V (nB c n))->l.foldl (λm n=>if fu (U n) then min m (U n-8+1) else m) m=(l.map (nB c)).foldl (λm n=>if fu (V n) then min m (V n-8+1) else m) m:=by
  intro l
  induction l with
  |nil=>intro m _;rfl
  |cons n l ih=>
   intro m hl;simp only [jL,dG];rw [hl n (.head _)];exact ih _ λk hk=>hl k (.tail _ hk)
 have h5:dL U fa=dL V c:=by unfold dL;rw [h3,key _ _ h4,GH]
 have h6:((aQ fa).filter λn=>decide (U n=0)).map (nB c)=(aQ c).filter λn=>decide (V n=0):=by
  have key2:∀l:List Ce,(∀n ∈ l,U n=V (nB c n))->(l.filter λn=>decide (U n=0)).map (nB c)=(l.map (nB c)).filter λn=>decide (V n=0):=by
   intro l
   induction l with
   |nil=>intro _;rfl
   |cons n l ih=>
    intro hl;rw [pz,dG,pz,hl n (.head _)];have:=ih λk hk=>hl k (.tail _ hk)
    split
    ·rw [dG,this]
    ·exact this
  rw [key2 _ h4,GH]
 unfold iY pD;rw [h1,h2,h5];split
 ·split
  ·simp only [dG,List.map_nil,zE,Ki]
  ·rfl
 ·split
  ·rfl
  ·split
   ·simp only [dG,List.map_nil,zE]
   ·split
    ·simp only [dG,List.map_nil,zE]
    ·split
     ·simp only [dG,List.map_nil,Ki]
     ·split
      ·rfl
      ·rw [<-h6];simp only [kj];rfl
end Go.iQ
