import Derived.Test.YtjcnjlaelhdjeaaGreatDoorI
import Derived.Test.YtjcnjlaelhdjeaaGreatDoorD
set_option linter.all false
namespace Go.Proofs.YtjcnjlaelhdjeaaGreatDoor
open Go Go.Vc Go.RowKit Go.Proofs Go.iG Go.Code
set_option maxRecDepth 100000
set_option maxHeartbeats 8000000
section
variable{l:List UInt8}{p:Nat}{x:Int}
def ag7(hp:p<l.length)(hx:uR (l.take p)=some x)(h:48<=(l.getD p 0).toNat/\(l.getD p 0).toNat<=57):uR (l.take (p+1))=some (x*10+((l.getD p 0).toNat:Int)-48):=by rw[Si hp,CB,hx];unfold KL;rw[Option.bind_some,if_pos h]
def ajK(h15:l.length<=15)(hx:uR (l.take p)=some x):0<=x/\x<1000000000000000:=by
 have⟨h0,h1⟩:=EU _ rfl hx;have h2:(l.take p).length<=15:=by rw[cS];omega
 have:(10:Int)^(l.take p).length<=10^15:=by have:=Nat.pow_le_pow_right (n:=10) X h2;exact_mod_cast this
 omega
def acp{c:Nat}(h:0<=x/\x<1000000000000000)(hc:c<=255):IntKind.wrap .i64 ((IntKind.wrap .i64 ((IntKind.wrap .i64 (x*10))+(IntKind.wrap .i64 ((c:Nat):Int))))-48)=x*10+((c:Nat):Int)-48:=by rw[wI (n:=x*10) j_,wI (n:=((c:Nat):Int)) j_,wI (n:=x*10+((c:Nat):Int)) j_,wI j_]
def abW(s:aq)(w:au)(hs:s.size<=4294967296):Y 33 #[.string s] w λe w'=>e=bT #[S (zX s).1,.bool (zX s).2]/\w'=w:=by
 apply abX.B;have hl:=jQ s;have u8:∀i:Nat,(s.data.toList.getD i 0).toNat<=255:=λi=>a1N ((s.data.toList.getD i 0).toNat_lt)
 have bad:∀{v:au},v=w->zX s=(0,false)->(Sl (.tuple #[J,false])=bT #[S (zX s).1,.bool (zX s).2]/\v=w):=by rintro v rfl h;rw[h];exact⟨rfl,rfl⟩
 have loop:∀a:Nat,OU (bl s)=(bl s).drop a->a<=s.size->1<=s.size-a->s.size-a<=15->∀(i:Nat)(x:Int),a<=i->i<=s.size->uR ((OU (bl s)).take (i-a))=some x->
   (0<=x/\x<1000000000000000)/\(i<s.size->((¬(48<=(s.data.toList.getD i 0).toNat/\(s.data.toList.getD i 0).toNat<=57)->zX s=(0,false))/\
    (48<=(s.data.toList.getD i 0).toNat->(s.data.toList.getD i 0).toNat<=57->uR ((OU (bl s)).take (i+1-a))=some (x*10+((s.data.toList.getD i 0).toNat:Int)-48))))/\
   (i=s.size->zX s=(if(bl s).head? =some 45 then -x else x,true)):=by
  intro a hd ha h1 h15 i x hai his hx;have hdl:(OU (bl s)).length=s.size-a:=by rw[hd,wU,hl]
  have hg:(OU (bl s)).getD (i-a) 0=s.data.toList.getD i 0:=by rw[hd,dG,dG,yZ,show a+(i-a)=i by omega]
  refine⟨ajK U hx,λhi=>⟨λhb=>Xt (ai3 (p:=i-a) U (hg▸hb)),λg1 g2=>?_⟩,λhi=>adW U ?_⟩
  ·have:=ag7 (p:=i-a) U hx (by rw[hg];exact⟨g1,g2⟩);rw[hg]at this;rw[show i+1-a=i-a+1 by omega];exact this
  ·rw[dN U]at hx;exact hx
 refine Z.mk (λh=>?_) (λh=>?_)
 ·have h:=of_decide_eq_true h;have h0:1<=s.size:=by omega
  refine⟨X,U,?_⟩;obtain⟨b,t,hbt⟩:∃b t,bl s=b::t:=by
   cases hb:bl s with
   |nil=>rw[hb]at hl;simp at hl;omega
   |cons b t=>exact⟨b,t,rfl⟩
  have hg0:s.data.toList.getD (0:Int).toNat 0=b:=by show(bl s).getD 0 0=b;rw[hbt];rfl
  refine Z.mk (λc=>?_) (λc=>?_)
  ·have ajW:b=45:=by
    have c:(((s.data.toList.getD (0:Int).toNat 0).toNat:Nat):Int)=45:=by simpa using c
    rw[hg0]at c;apply UInt8.toNat_inj.1;show b.toNat=45;omega
   have hh:(bl s).head? =some 45:=by rw[hbt,ajW];rfl
   have hd:OU (bl s)=(bl s).drop 1:=by unfold OU;rw[if_pos hh]
   have e1:IntKind.wrap .i64 (((s.size:Nat):Int)-1)=((s.size:Nat):Int)-1:=wI j_;rw[e1];have hdl:(OU (bl s)).length=s.size-1:=by rw[hd,wU,hl]
   refine Z.mk (λc1=>bad rfl (zY a0X)) (λc1=>Z.mk (λc2=>bad rfl (zY (a1N (of_decide_eq_true c2)))) (λc2=>?_));have c1:=of_decide_eq_false c1;have c2:=of_decide_eq_false c2;refine⟨λn i x v=>∃p:Nat,i=(p:Int)/\1<=p/\p+n=s.size/\uR ((OU (bl s)).take (p-1))=some x/\v=w,⟨s.size-1,1,rfl,U,U,rfl,rfl⟩,?_⟩;rintro n1 us2 alw x4 v ⟨p,rfl,hp1,hp,hx,hv⟩;have⟨k1,k2,k3⟩:=loop 1 hd U U U p x4 hp1 U hx;refine Z.mk (λg=>?_) (λg=>?_)
   ·have g:=of_decide_eq_true g;have⟨k4,k5⟩:=k2 U;refine⟨U,U,Z.mk (λg1=>?_) (λg1=>⟨U,U,Z.mk (λg2=>?_) (λg2=>⟨U,U,?_⟩)⟩)⟩
    ·have g1:=of_decide_eq_true g1;simp only[iI]at g1;exact bad hv (k4 U)
    ·exact a1v
    ·have g1:=of_decide_eq_false g1;have g2:=of_decide_eq_false g2;simp only[iI]at g1 g2⊢;rw[acp k1 (u8 p),wI (n:=(p:Int)+1) j_];exact⟨n1-1,U,p+1,U,U,U,k5 U U,hv⟩
   ·have g:=of_decide_eq_false g;have k3:=k3 U;rw[if_pos hh]at k3;refine Z.mk (λ_=>?_) (λg=>by cases g);rw[k3,wI j_,Int.zero_sub];exact⟨rfl,hv⟩
  ·have ajW:b≠45:=by
    intro hb;rw[hg0,hb]at c
    cases c
   have hh:¬(bl s).head? =some 45:=by rw[hbt];simpa using ajW
   have hd:OU (bl s)=(bl s).drop 0:=by unfold OU;rw[if_neg hh];rfl
   have e1:IntKind.wrap .i64 (((s.size:Nat):Int)-0)=((s.size:Nat):Int):=a0c
   rw[e1];have hdl:(OU (bl s)).length=s.size:=by rw[hd,wU,hl];rfl
   refine Z.mk (λc1=>bad rfl (zY a0X)) (λc1=>Z.mk (λc2=>bad rfl (zY (a1N (of_decide_eq_true c2)))) (λc2=>?_));have c1:=of_decide_eq_false c1;have c2:=of_decide_eq_false c2;refine⟨λn i x v=>∃p:Nat,i=(p:Int)/\p+n=s.size/\uR ((OU (bl s)).take (p-0))=some x/\v=w,⟨s.size,0,rfl,U,rfl,rfl⟩,?_⟩;rintro n1 us2 alw x4 v ⟨p,rfl,hp,hx,hv⟩;have⟨k1,k2,k3⟩:=loop 0 hd U U U p x4 U U hx;refine Z.mk (λg=>?_) (λg=>?_)
   ·have g:=of_decide_eq_true g;have⟨k4,k5⟩:=k2 U;refine⟨U,U,Z.mk (λg1=>?_) (λg1=>⟨U,U,Z.mk (λg2=>?_) (λg2=>⟨U,U,?_⟩)⟩)⟩
    ·have g1:=of_decide_eq_true g1;simp only[iI]at g1;exact bad hv (k4 U)
    ·exact a1v
    ·have g1:=of_decide_eq_false g1;have g2:=of_decide_eq_false g2;simp only[iI]at g1 g2⊢;rw[acp k1 (u8 p),wI (n:=(p:Int)+1) j_];exact⟨n1-1,U,p+1,U,U,k5 U U,hv⟩
   ·have g:=of_decide_eq_false g;have k3:=k3 U;rw[if_neg hh]at k3;refine Z.mk (λg=>by cases g) (λ_=>?_);rw[k3];exact⟨rfl,hv⟩
 ·have h:=of_decide_eq_false h;have h0:s.size=0:=by omega
  have hb0:bl s=[]:=by apply List.length_eq_zero_iff.1;omega
  have e1:IntKind.wrap .i64 (((s.size:Nat):Int)-0)=0:=by rw[h0];decide
  rw[e1];exact Z.mk (λc1=>bad rfl (zY (by left;rw[hb0];decide))) (λc1=>by cases c1)
def av6(n v:Int)(hv:v=48+((n.tmod 10).natAbs:Int)):strOfNums [v]=⟨#[iG.nG n]⟩:=by subst hv;unfold strOfNums iG.nG;simp only[eH,List.map_nil];congr 3
def acY(l:List UInt8)(b:UInt8):(⟨l.toArray⟩:aq)++⟨#[b]⟩=⟨(l++[b]).toArray⟩:=by apply Lr;rw[acZ]
def Pn{f:Nat}{n:Int}(h:n.natAbs<10^f):(vX f n).length<=f+1:=by rw[ac0 f n h,cj];have:=Pp f n.natAbs;split<;>simp<;>omega
def WW(f:Nat)(n:Int)(w:au)(hi:cH n)(cX:(vX f (n.tdiv 10)).length<=20) (rec:¬(-10<n/\n<10)->∀w0,Ext w w0->ed 13 #[(n.tdiv 10)] w0 (bP ⟨(vX f (n.tdiv 10)).toArray⟩)): ed 13 #[n] w (bP ⟨(vX (f+1) n).toArray⟩):=by
 apply IF.B;have hm1:n.tmod 10<10:=Int.tmod_lt_of_pos n X;have yA: -10<n.tmod 10:=Int.lt_tmod_of_pos n X;have hq:cH (n.tdiv 10):=by have:=Ls n;unfold cH at*;omega
 have ho:∀t:List UInt8,t.length<=20->((((⟨t.toArray⟩:aq).size+(⟨#[iG.nG n]⟩:aq).size:Nat):Nat):Int)<=IntKind.i64.max:=by
  intro t ht;have e1:(⟨t.toArray⟩:aq).size=t.length:=rfl;have e2:(⟨#[iG.nG n]⟩:aq).size=1:=rfl;have e3:IntKind.i64.max=9223372036854775807:=by decide
  rw[e1,e2,e3];omega
 have leaf:∀w0,Ext w w0->w.heap.size<w0->(¬(-10<n/\n<10))->Y 13 #[(I (n.tdiv 10))] w0 (λe w2=>∃(t3:aq),e=bP t3/\w2.heap[w.heap.size]? =w0.heap[w.heap.size]?/\
   (((t3).size+((⟨#[iG.nG n]⟩:aq)).size:Nat):Int)<=IntKind.i64.max/\(Sl (.string (t3++⟨#[iG.nG n]⟩))=bP ⟨(vX (f+1) n).toArray⟩/\Ext w w2)):=by
  intro w0 x0 hs hn;rw[aL hq];refine(rec hn w0 x0).F λw2 x2=>?_
  refine⟨_,rfl,x2.heap hs,ho _ cX,?_,x0.A x2⟩;rw[acY];conv=>rhs;unfold vX
  rw[if_neg hn]
 have main:∀(v:Int),v=48+((n.tmod 10).natAbs:Int)->∀w0:au,w0=w.alloc (.cells #[.int .u8 v] 5)->
   ∃l1:ab,l1.length=1/\ah w0 (O w) 0 (l1.map (vc .u8))/\strOfNums l1=⟨#[iG.nG n]⟩/\Ext w w0/\w.heap.size<w0:=by
  intro v hv w0 e0;have hr:Row w0 w [.int .u8 v] 5:=by rw[e0];exact Row.new _ _ _
  exact⟨[v],rfl,hr.y (o:=0) (λj _=>by rw[eF];rfl),av6 n v hv,a0i,hr.lt⟩
 have n2: -10<n->n<10->n<0->(⟨#[45]⟩:aq)++⟨#[iG.nG n]⟩=⟨(vX (f+1) n).toArray⟩:=by intro a b c;unfold vX;rw[if_pos ⟨a,b⟩,if_pos c];exact acY [45] _
 have n1: -10<n->n<10->¬n<0->(⟨#[iG.nG n]⟩:aq)=⟨(vX (f+1) n).toArray⟩:=by intro a b c;unfold vX;rw[if_pos ⟨a,b⟩,if_neg c]
 apply Z.mk<;>intro c
 ·have c:=of_decide_eq_true c;have ev:qH (I (48+(I (0-(Int.tmod n 10)))))=48+((n.tmod 10).natAbs:Int):=by rw[aL (n:=0-n.tmod 10) j_,wI,wrap_u8];omega
  intro w0 e0;have⟨l1,g1,g2,g3,x0,hs⟩:=main _ ev w0 e0;refine⟨l1,g1,g2,?_⟩;rw[g3];refine Z.mk (λa=>Z.mk (λb=>Z.mk (λd=>?_) (λd=>?_)) (λb=>?_)) (λa=>?_)
  ·exact⟨ho [45] X,a0L,x0⟩
  ·exact⟨a0J,x0⟩
  ·exact leaf w0 x0 hs (a1N (of_decide_eq_false b))
  ·exact leaf w0 x0 hs (a1N (of_decide_eq_false a))
 ·have c:=of_decide_eq_false c;have ev:qH (I (48+(Int.tmod n 10)))=48+((n.tmod 10).natAbs:Int):=by rw[wI,wrap_u8];omega
  intro w0 e0;have⟨l1,g1,g2,g3,x0,hs⟩:=main _ ev w0 e0;refine⟨l1,g1,g2,?_⟩;rw[g3];refine Z.mk (λa=>Z.mk (λb=>Z.mk (λd=>?_) (λd=>?_)) (λb=>?_)) (λa=>?_)
  ·exact⟨ho [45] X,a0L,x0⟩
  ·exact⟨a0J,x0⟩
  ·exact leaf w0 x0 hs (a1N (of_decide_eq_false b))
  ·exact leaf w0 x0 hs (a1N (of_decide_eq_false a))
def Lt:∀(f:Nat)(n:Int)(w:au),f<=18->n.natAbs<10^(f+1)->cH n->ed 13 #[n] w (bP ⟨(vX (f+1) n).toArray⟩):=by
 intro f
 induction f with
 |zero=>
  intro n w hf h hi;exact WW 0 n w hi (by show 0<=20;omega) (λhn=>absurd ⟨U,U⟩ hn)
 |succ f ih=>
  intro n w hf h hi;have h1:=Ls n;have h2:(n.tdiv 10).natAbs<10^(f+1):=by rw[h1];rw[Nat.pow_succ]at h;omega
  exact WW (f+1) n w hi (cV (Pn h2) U) (λ_ w0 _=>ih _ w0 U h2 (by unfold cH at*;omega))
def ahC(s:aq){a:Nat}(h:a<=p):s.extract a p++s.extract p (p+1)=s.extract a (p+1):=by apply Lr;rw[acZ,U_,U_,U_,show p+1-a=(p-a)+1 by omega,List.take_add,List.drop_drop,show a+(p-a)=p by omega,show p+1-p=1 by omega]
def ahD(x:aq):ByteArray.empty++x=x:=by apply Lr;rw[acZ];rfl
variable{s:aq}
def aaE(hp:p<=s.size):gR s p=ka4 #[]↔(Jh s p).1=none:=by
 unfold gR
 cases h:(Jh s p).1 with
 |none=>exact⟨λ_=>rfl,λ_=>rfl⟩
 |some a=>
  have:=aaT s p h;refine⟨λe=>?_,λe=>by cases e⟩;have e:bl (s.extract a p)=[]:=congrArg bl e;rw[U_]at e;have e:=congrArg List.length e;rw[cS,wU,jQ]at e;simp only[mV]at e;omega
def afT(h:VQ s p≠32):gR s (p+1)=gR s p++s.extract p (p+1)/\zGw s (p+1)=zGw s p:=by
 have e:Jh s (p+1)=(some ((Jh s p).1.getD p),(Jh s p).2):=by show HX s p (Jh s p)=_;unfold HX;rw[if_neg h]
 refine⟨?_,by unfold zGw;rw[e]⟩;unfold gR;rw[e];simp only
 cases q:(Jh s p).1 with
 |none=>exact(ahD _).symm
 |some a=>exact(ahC s (Nat.le_of_lt (aaT s p q))).symm
def afU(h:VQ s p=32):gR s (p+1)=ka4 #[]/\zGw s (p+1)=zGw s p++(match (Jh s p).1 with|some a=>[s.extract a p]|none=>[]):=by
 have e:Jh s (p+1)=HX s p (Jh s p):=rfl;unfold HX at e;rw[if_pos h]at e;unfold gR zGw;rw[e]
 cases q:(Jh s p).1 with
 |none=>simp;rfl
 |some a=>simp;rfl
def afW(s:aq):∀p,(zGw s p).length<=p
 |0=>ak _
 |p+1=>by
  have ih:=afW s p
  by_cases h:VQ s p=32
  ·rw[(afU h).2,cj]
   split<;>simp<;>omega
  ·rw[(afT h).2];omega
def ag8(s:aq):cT s=zGw s s.size++(match (Jh s s.size).1 with|some a=>[s.extract a s.size]|none=>[]):=aaX s
def acq(s:aq)(w:au)(hs:s.size<=4294967296):Y 28 #[.string s] w λe w'=>∃sl:H,e=sl/\ar w 9 1 w' sl ((cT s).map sv)/\Ext w w':=by
 apply acr.B;have own_sz:∀p,p<=s.size->(gR s p).size<=s.size:=by
  intro p hp;unfold gR;split
  ·rw[<-jQ,U_,cS,wU,jQ];omega
  ·exact eG _
 refine⟨λn x t sl v=>∃p:Nat,x=(p:Int)/\p+n=s.size/\t=gR s p/\ar w 9 1 v sl ((zGw s p).map sv)/\Ext w v,⟨s.size,0,rfl,U,rfl,ar.nil,Ext.M _⟩,?_⟩;rintro n1 us2 alw t4 s5 w6 ⟨p,rfl,hp,rfl,ho,x6⟩;have hn:s5.n=(zGw s p).length:=by rw[(ar.rd ho X).n,aK]
 have hol:=afW s p;have push:∀t:aq,∀v:au,v=w6.alloc (.cells #[.string t] 9)->
   bj 16 1 v ⟨s5.a,s5.n,s5.c⟩ 1 [.string t]/\∀(s9:H)(w10:au),aY 9 1 v ⟨s5.a,s5.n,s5.c⟩ 1 [.string t] s9 w10->
    w10.heap[w6.heap.size]? =v.heap[w6.heap.size]?/\ar w 9 1 w10 s9 ((zGw s p++[t]).map sv)/\Ext w w10:=by
  rintro t v rfl;have⟨a1,a2⟩:=ho.l6 (bytes:=16) (news:=sv t) (.cells #[.string t] 9) x6.size rfl (amg t) U U;refine⟨a1,λs9 w10 hr=>?_⟩;obtain⟨b1,b2,b3,b4,-⟩:=a2 s9 w10 hr;exact⟨b1,by rw[cl];exact b2,Below.trans x6 b4⟩
 refine Z.mk (λh=>?_) (λh=>?_)
 ·have h:=of_decide_eq_true h;have hb:((s.data.toList.getD p 0).toNat)=VQ s p:=(arj s p).symm;refine⟨U,h,?_⟩;simp only[iI];rw[hb,wI (n:=(p:Int)+1) j_];refine Z.mk (λc=>?_) (λc=>?_)
  ·have c:VQ s p≠32:=λhc=>by rw[hc]at c;cases c
   have⟨g1,g2⟩:=afT c;refine⟨U,U,U,U,?_,n1-1,U,p+1,U,U,?_,by rw[g2];exact ho,x6⟩
   ·have e3:IntKind.i64.max=9223372036854775807:=by decide
    have:=own_sz p U;have:(s.extract p ((p:Int)+1).toNat).size<=s.size:=by rw[<-jQ,U_,cS,wU,jQ];omega
    rw[e3];omega
   ·rw[g1,show((p:Int)+1).toNat=p+1 by omega]
  ·have c:VQ s p=32:=by
    apply Classical.byContradiction;intro hc;have:(((VQ s p:Nat):Int) !=32)=true:=by simpa using(by omega:¬((VQ s p:Nat):Int)=32)
    rw[this]at c
    cases c
   have⟨g1,g2⟩:=afU c;refine Z.mk (λd=>?_) (λd=>?_)
   ·have d:¬(Jh s p).1=none:=λhd=>by rw[(kD _ _).2 ((aaE U).2 hd)]at d;cases d
    obtain⟨a,ha⟩:∃a,(Jh s p).1=some a:=Option.ne_none_iff_exists'.1 d;rw[ha]at g2
    try simp only at g2
    have eo:gR s p=s.extract a p:=by unfold gR;rw[ha]
    intro w8 e8;have⟨k1,k2⟩:=push (gR s p) w8 e8;refine⟨k1,λs9 w10 hr=>?_⟩;have⟨k3,k4,k5⟩:=k2 s9 w10 hr;exact⟨k3,n1-1,U,p+1,U,U,g1.symm,by rw[g2,<-eo];exact k4,k5⟩
   ·have d:(Jh s p).1=none:=(aaE U).1 ((kD _ _).1 (ds d));rw[d,oV]at g2;exact⟨n1-1,U,p+1,U,U,g1.symm,by rw[g2];exact ho,x6⟩
 ·have h:=of_decide_eq_false h;obtain rfl:p=s.size:=by omega
  have e:=ag8 s;refine Z.mk (λd=>?_) (λd=>?_)
  ·have d:¬(Jh s s.size).1=none:=λhd=>by rw[(kD _ _).2 ((aaE (ak _)).2 hd)]at d;cases d
   obtain⟨a,ha⟩:∃a,(Jh s s.size).1=some a:=Option.ne_none_iff_exists'.1 d;rw[ha]at e
   try simp only at e
   have eo:gR s s.size=s.extract a s.size:=by unfold gR;rw[ha]
   intro w8 e8;have⟨k1,k2⟩:=push (gR s s.size) w8 e8;refine⟨k1,λs9 w10 hr=>?_⟩;have⟨k3,k4,k5⟩:=k2 s9 w10 hr;exact⟨k3,s9,rfl,by rw[e,<-eo];exact k4,k5⟩
  ·have d:(Jh s s.size).1=none:=(aaE (ak _)).1 ((kD _ _).1 (ds d));rw[d,oV]at e;exact⟨s5,rfl,by rw[e];exact ho,x6⟩
end
end Go.Proofs.YtjcnjlaelhdjeaaGreatDoor
