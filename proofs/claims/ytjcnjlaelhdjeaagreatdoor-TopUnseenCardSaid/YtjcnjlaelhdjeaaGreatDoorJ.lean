import Derived.Test.YtjcnjlaelhdjeaaGreatDoorE
import Derived.Test.YtjcnjlaelhdjeaaGreatDoorD
set_option linter.all false
namespace Go.Proofs.YtjcnjlaelhdjeaaGreatDoor
open Go Go.Vc Go.RowKit Go.Proofs Go.iG
set_option maxRecDepth 100000
set_option maxHeartbeats 8000000
abbrev sv(t:ByteArray):LV:=[.string t]
def amg(t:ByteArray):One (sv t):=by intro v hv;simp[sv]at hv;subst hv;rfl
def Lr{x y:ByteArray}(h:bl x=bl y):x=y:=by obtain⟨⟨x⟩⟩:=x;obtain⟨⟨y⟩⟩:=y;have h:x=y:=h;rw[h]
def ae8(s:ByteArray)(i j:Nat):bl (s.extract i j)=((bl s).drop i).take (j-i):=by simp[bl,ByteArray.data_extract,List.extract_eq_take_drop]
def ai2{n:Int}(h: -2147483648<=n/\n<=2147483647):IntKind.wrap .i32 n=n:=by unfold IntKind.wrap;simp only[IntKind.bits,IntKind.signed];simp only[oU];split<;>simp_all<;>omega
def Sh(s:ByteArray)(m:Nat):ByteArray:=if m<s.size then s.extract 0 m else s
def ae9(s:ByteArray)(m:Nat):(Sh s m).size<=m:=by
 unfold Sh;split
 ·simp;omega
 ·omega
def afa(s:ByteArray)(m:Nat)(w:World):kh 20 #[.string s,vI (m:Nat)] w (Value.string (Sh s m)):=by
 apply aah.vc;apply Br.mk<;>intro h<;>simp at h
 ·refine⟨aa,aa,?_,rfl⟩;unfold Sh;rw[if_pos (by omega)];simp
 ·refine⟨?_,rfl⟩;unfold Sh;rw[if_neg (by omega)]
def Jk(s:ByteArray)(w:World):kh 181 #[.string s,.string (ByteArray.mk #[45])] w (Value.bool (decide ((bl s).head? =some 45))):=by
 apply mA.vc;have hl:=jQ s;apply Br.mk<;>intro h
 ·have h:1<=s.size:=by have:=of_decide_eq_true h;have e:(ByteArray.mk #[45]).size=1:=rfl;omega
  refine⟨au,by show((1:Nat):Int)<=_;omega,?_,rfl⟩;congr 2;rw[Bool.eq_iff_iff,kD,decide_eq_true_iff]
  cases hb:bl s with
  |nil=>rw[hb]at hl;simp at hl;omega
  |cons b l=>
   have e1:bl (s.extract 0 1)=[b]:=by rw[ae8,hb];rfl
   constructor
   ·intro he;have he:s.extract 0 1=ByteArray.mk #[45]:=he;rw[he]at e1;have e1:[(45:UInt8)]=[b]:=e1;simp at e1;simp[<-e1]
   ·intro he;simp at he;apply Lr;show bl (s.extract 0 1)=[45];rw[e1,he]
 ·have h:s.size=0:=by have:=of_decide_eq_false h;have e:(ByteArray.mk #[45]).size=1:=rfl;omega
  refine⟨?_,rfl⟩;have:bl s=[]:=by apply ur.1;omega
  rw[this];rfl
def Jl(s:ByteArray)(w:World):ab 66 #[.string s,.string (ByteArray.mk #[45])] w λe w'=>∃d,e=Value.tuple #[.string d,.bool (decide ((bl s).head? =some 45))]/\bl d=OU (bl s)/\w'=w:=by
 have hl:=jQ s;apply AL.vc;have key:ab 118 #[.string s,.string (ByteArray.mk #[45])] w λe w'=>∃d,e=Value.tuple #[.string d,.bool (decide ((bl s).head? =some 45))]/\bl d=OU (bl s)/\w'=w:=by
  apply mz.vc;refine(Jk s w).eL ?_;refine⟨_,rfl,Br.mk (λh=>?_) (λh=>?_)⟩
  ·simp only[Bool.not_eq_true',fg]at h;refine⟨s,?_,?_,rfl⟩
   ·rw[decide_eq_false h]
   ·unfold OU;rw[if_neg h]
  ·simp only[Bool.not_eq_false',cC]at h;have h1:1<=s.size:=by
    cases hb:bl s with
    |nil=>rw[hb]at h;cases h
    |cons b l=>rw[hb]at hl;simp at hl;omega
   refine⟨au,by show((1:Nat):Int)<=_;omega,s.extract 1 s.size,?_,?_,rfl⟩
   ·rw[decide_eq_true h];rfl
   ·rw[ae8];unfold OU;rw[if_pos h];apply dN;simp[hl]
 refine key.mono ?_;rintro _ _ ⟨d,rfl,hd,rfl⟩;exact⟨_,_,rfl,d,rfl,hd,rfl⟩
def Si{l:List UInt8}{p:Nat}(hp:p<l.length):l.take (p+1)=l.take p++[l.getD p 0]:=by rw[dq,dG,cK hp];rfl
def ai3{l:List UInt8}{p:Nat}(hp:p<l.length)(h:¬(48<=(l.getD p 0).toNat/\(l.getD p 0).toNat<=57)):uR l=none:=by
 have h1:uR (l.take (p+1))=none:=by
  rw[Si hp,CB];unfold KL
  cases uR (l.take p)with
  |none=>rfl
  |some n=>rw[Option.bind_some,if_neg h]
 have:=Jm h1 (l.drop (p+1));rwa[td]at this
def Xt{s:ByteArray}(h:uR (OU (bl s))=none):zX s=(0,false):=by
 unfold zX ai4;split
 ·rfl
 ·rw[h]
def zY{s:ByteArray}(h:(OU (bl s)).length<1\/15<(OU (bl s)).length):zX s=(0,false):=by unfold zX ai4;rw[if_pos h]
def adW{s:ByteArray}{n:Int}(h:¬((OU (bl s)).length<1\/15<(OU (bl s)).length))(hn:uR (OU (bl s))=some n):zX s=(if(bl s).head? =some 45 then -n else n,true):=by unfold zX ai4;rw[if_neg h,hn]
def R5(s:ByteArray)(w:World):ed 32 #[.string s] w (Value.tuple #[.int .i64 (zX s).1,.bool (zX s).2]):=by
 apply Ng.vc;refine(Jl s w).mono ?_;rintro _ w0 ⟨d,rfl,hd,rfl⟩;refine⟨d,_,rfl,?_⟩;intro w3 e3;have nR:=jQ d;refine⟨λn x v=>∃p:Nat,p+n=d.size/\v.heap[w0.heap.size]? =some (.stringIter d p)/\uR ((bl d).take p)=some x/\x<1000000000000000/\Ext w0 v,⟨d.size,0,by omega,by rw[e3];show(w0.heap.push _)[w0.heap.size]? =_;simp,rfl,by decide,by rw[e3];exact Ext.al _ _⟩,?_⟩;rintro n5 us6 x7 w8 ⟨p,hp,hit,hx,hxl,x8⟩;have hx0:=(EU _ rfl hx).1;refine⟨w0.heap.size,d,p,rfl,hit,Br.mk (λh=>?_) (λh=>?_)⟩
 ·have h:=of_decide_eq_true h;obtain⟨-,-,⟨d3,d4⟩,-⟩:=am6 d p h;have hb:=arj d p;intro bw fL apH;have cJ:Ext w0 bw:=Below.trans x8 (fL.below (ak _));have bad:¬(48<=((bl d).getD p 0).toNat/\((bl d).getD p 0).toNat<=57)->(Ending.returned (.tuple #[ai,false])=Value.tuple #[.int .i64 (zX s).1,.bool (zX s).2]/\Ext w0 bw):=by intro hc;rw[Xt (by rw[<-hd];exact ai3 aa hc)];exact⟨rfl,cJ⟩
  refine Br.mk (λh1=>?_) (λh1=>Br.mk (λh2=>?_) (λh2=>?_))
  ·have h1:=of_decide_eq_true h1;apply bad;by_cases c:VQ d p<128
   ·rw[d3 c]at h1;simp only at h1;omega
   ·have:=d4 aa;omega
  ·have h2:=of_decide_eq_true h2;apply bad;by_cases c:VQ d p<128
   ·rw[d3 c]at h2;simp only at h2;omega
   ·omega
  ·have h1:=of_decide_eq_false h1;have h2:=of_decide_eq_false h2;have c:VQ d p<128:=by
    by_cases c:VQ d p<128
    ·exact c
    ·have:=d4 aa;omega
   rw[d3 c]at h1 h2 apH⊢;simp only at h1 h2 apH⊢;have e1:uR ((bl d).take (p+1))=some (x7*10+((VQ d p:Nat):Int)-48):=by rw[Si aa,CB,hx];unfold KL;rw[Option.bind_some,if_pos aa,<-hb]
   have e2:aC ((aC (x7*10))+(aC (IntKind.wrap .i32 (((VQ d p:Nat):Int)-48))))=x7*10+((VQ d p:Nat):Int)-48:=by rw[ai2 aa,aL (n:=x7*10) (by unfold cH;omega),aL (n:=((VQ d p:Nat):Int)-48) (by unfold cH;omega),wI];omega
   rw[e2];apply Br.mk<;>intro h3
   ·have h3:=of_decide_eq_true h3;have cX:((bl d).take (p+1)).length=p+1:=by rw[cS];omega
    have yQ:=(EU _ cX e1).2;have:15<p+1:=by
     apply C6;intro hle;have:(10:Int)^(p+1)<=10^15:=by have:=Nat.pow_le_pow_right (n:=10) au hle;exact_mod_cast this
     omega
    rw[zY (by rw[<-hd];right;omega)];exact⟨rfl,cJ⟩
   ·have h3:=of_decide_eq_false h3;exact⟨n5-1,by omega,p+1,by omega,apH,e1,by omega,cJ⟩
 ·have h:=of_decide_eq_false h;have hpe:p=d.size:=by omega
  rw[hpe,dN aa]at hx;refine Br.mk (λh1=>?_) (λh1=>Br.mk (λh2=>?_) (λh2=>?_))
  ·rw[kD]at h1;rw[zY (by rw[<-hd,h1];left;decide)];exact⟨rfl,x8⟩
  ·have h2:=of_decide_eq_true h2;rw[zY (by rw[<-hd];right;omega)];exact⟨rfl,x8⟩
  ·have h2:=of_decide_eq_false h2;have gl:d≠ByteArray.mk #[]:=λh=>by rw[(kD _ _).2 h]at h1;cases h1
   have hd1:1<=d.size:=by apply C6;intro h0;apply gl;apply Lr;show bl d=[];apply ur.1;omega
   rw[adW (n:=x7) (by rw[<-hd];omega) (by rw[<-hd];exact hx)];apply Br.mk<;>intro h3
   ·have h3:=of_decide_eq_true h3;rw[if_pos h3,wI];exact⟨by rw[Int.zero_sub],x8⟩
   ·have h3:=of_decide_eq_false h3;rw[if_neg h3];exact⟨rfl,x8⟩
open Go.Code
def abO{l:List UInt8}{p:Nat}{x:Int}(hp:p<l.length)(hx:uR (l.take p)=some x)(h:48<=(l.getD p 0).toNat/\(l.getD p 0).toNat<=57):uR (l.take (p+1))=some (x*10+((l.getD p 0).toNat:Int)-48):=by rw[Si hp,CB,hx];unfold KL;rw[Option.bind_some,if_pos h]
def afl{l:List UInt8}{p:Nat}{x:Int}(h15:l.length<=15)(hx:uR (l.take p)=some x):0<=x/\x<1000000000000000:=by
 obtain⟨h0,h1⟩:=EU _ rfl hx;have h2:(l.take p).length<=15:=by rw[cS];omega
 have:(10:Int)^(l.take p).length<=10^15:=by have:=Nat.pow_le_pow_right (n:=10) au h2;exact_mod_cast this
 omega
def Ol{x:Int}{c:Nat}(h:0<=x/\x<1000000000000000)(hc:c<=255):IntKind.wrap .i64 ((IntKind.wrap .i64 ((IntKind.wrap .i64 (x*10))+(IntKind.wrap .i64 ((c:Nat):Int))))-48)=x*10+((c:Nat):Int)-48:=by rw[wI (n:=x*10) (by unfold cH;omega),wI (n:=((c:Nat):Int)) (by unfold cH;omega),wI (n:=x*10+((c:Nat):Int)) (by unfold cH;omega),wI (by unfold cH;omega)]
def L1(s:ByteArray)(w:World)(hs:s.size<=4294967296):Calls Tryz.prog 33 #[.string s] w λe w'=>e=.returned (.tuple #[.int .i64 (zX s).1,.bool (zX s).2])/\w'=w:=by
 apply qy.vc;unfold qy.pre;have hl:=jQ s;have u8:∀i:Nat,(s.data.toList.getD i 0).toNat<=255:=λi=>by have:=(s.data.toList.getD i 0).toNat_lt;omega
 have bad:∀{v:World},v=w->zX s=(0,false)->(Ending.returned (.tuple #[.int .i64 0,.bool false])=.returned (.tuple #[.int .i64 (zX s).1,.bool (zX s).2])/\v=w):=by rintro v rfl h;rw[h];exact⟨rfl,rfl⟩
 have loop:∀a:Nat,OU (bl s)=(bl s).drop a->a<=s.size->1<=s.size-a->s.size-a<=15->∀(i:Nat)(x:Int),a<=i->i<=s.size->uR ((OU (bl s)).take (i-a))=some x->
   (0<=x/\x<1000000000000000)/\(i<s.size->((¬(48<=(s.data.toList.getD i 0).toNat/\(s.data.toList.getD i 0).toNat<=57)->zX s=(0,false))/\
    (48<=(s.data.toList.getD i 0).toNat->(s.data.toList.getD i 0).toNat<=57->uR ((OU (bl s)).take (i+1-a))=some (x*10+((s.data.toList.getD i 0).toNat:Int)-48))))/\
   (i=s.size->zX s=(if(bl s).head? =some 45 then -x else x,true)):=by
  intro a hd ha h1 h15 i x hai his hx;have hdl:(OU (bl s)).length=s.size-a:=by rw[hd,wU,hl]
  have hg:(OU (bl s)).getD (i-a) 0=s.data.toList.getD i 0:=by rw[hd,dG,dG,yZ,show a+(i-a)=i by omega]
  refine⟨afl aa hx,λhi=>⟨λhb=>Xt (ai3 (p:=i-a) aa (by rw[hg];exact hb)),λg1 g2=>?_⟩,λhi=>adW aa ?_⟩
  ·have:=abO (p:=i-a) aa hx (by rw[hg];exact⟨g1,g2⟩);rw[hg]at this;rw[show i+1-a=i-a+1 by omega];exact this
  ·rw[dN aa]at hx;exact hx
 refine Br.mk (λh=>?_) (λh=>?_)
 ·have h:=of_decide_eq_true h;have h0:1<=s.size:=by omega
  refine⟨by decide,by omega,?_⟩;obtain⟨b,t,hbt⟩:∃b t,bl s=b::t:=by
   cases hb:bl s with
   |nil=>rw[hb]at hl;simp at hl;omega
   |cons b t=>exact⟨b,t,rfl⟩
  have hg0:s.data.toList.getD (0:Int).toNat 0=b:=by show(bl s).getD 0 0=b;rw[hbt];rfl
  refine Br.mk (λc=>?_) (λc=>?_)
  ·have afO:b=45:=by
    have c:(((s.data.toList.getD (0:Int).toNat 0).toNat:Nat):Int)=45:=by simpa using c
    rw[hg0]at c;apply UInt8.toNat_inj.1;show b.toNat=45;omega
   have hh:(bl s).head? =some 45:=by rw[hbt,afO];rfl
   have hd:OU (bl s)=(bl s).drop 1:=by unfold OU;rw[if_pos hh]
   have e1:IntKind.wrap .i64 (((s.size:Nat):Int)-1)=((s.size:Nat):Int)-1:=wI (by unfold cH;omega);rw[e1];have hdl:(OU (bl s)).length=s.size-1:=by rw[hd,wU,hl]
   refine Br.mk (λc1=>bad rfl (zY (by have:=of_decide_eq_true c1;omega))) (λc1=>Br.mk (λc2=>bad rfl (zY (by have:=of_decide_eq_true c2;omega))) (λc2=>?_));have c1:=of_decide_eq_false c1;have c2:=of_decide_eq_false c2;refine⟨λn i x v=>∃p:Nat,i=(p:Int)/\1<=p/\p+n=s.size/\uR ((OU (bl s)).take (p-1))=some x/\v=w,⟨s.size-1,1,rfl,by omega,by omega,rfl,rfl⟩,?_⟩;rintro n1 us2 x3Y7 x4 v ⟨p,rfl,hp1,hp,hx,hv⟩;obtain⟨k1,k2,k3⟩:=loop 1 hd aa aa aa p x4 hp1 aa hx;refine Br.mk (λg=>?_) (λg=>?_)
   ·have g:=of_decide_eq_true g;obtain⟨k4,k5⟩:=k2 aa;refine⟨by omega,by omega,Br.mk (λg1=>?_) (λg1=>⟨by omega,by omega,Br.mk (λg2=>?_) (λg2=>⟨by omega,by omega,?_⟩)⟩)⟩
    ·have g1:=of_decide_eq_true g1;simp only[iI]at g1;exact bad hv (k4 aa)
    ·have g2:=of_decide_eq_true g2;simp only[iI]at g2;exact bad hv (k4 aa)
    ·have g1:=of_decide_eq_false g1;have g2:=of_decide_eq_false g2;simp only[iI]at g1 g2⊢;rw[Ol k1 (u8 p),wI (n:=(p:Int)+1) (by unfold cH;omega)];exact⟨n1-1,by omega,p+1,by omega,by omega,by omega,k5 aa aa,hv⟩
   ·have g:=of_decide_eq_false g;have k3:=k3 aa;rw[if_pos hh]at k3;refine Br.mk (λ_=>?_) (λg=>by cases g);rw[k3,wI (by unfold cH;omega),Int.zero_sub];exact⟨rfl,hv⟩
  ·have afO:b≠45:=by
    intro hb;rw[hg0,hb]at c
    cases c
   have hh:¬(bl s).head? =some 45:=by rw[hbt];simpa using afO
   have hd:OU (bl s)=(bl s).drop 0:=by unfold OU;rw[if_neg hh];rfl
   have e1:IntKind.wrap .i64 (((s.size:Nat):Int)-0)=((s.size:Nat):Int):=by rw[wI (by unfold cH;omega)];omega
   rw[e1];have hdl:(OU (bl s)).length=s.size:=by rw[hd,wU,hl];rfl
   refine Br.mk (λc1=>bad rfl (zY (by have:=of_decide_eq_true c1;omega))) (λc1=>Br.mk (λc2=>bad rfl (zY (by have:=of_decide_eq_true c2;omega))) (λc2=>?_));have c1:=of_decide_eq_false c1;have c2:=of_decide_eq_false c2;refine⟨λn i x v=>∃p:Nat,i=(p:Int)/\p+n=s.size/\uR ((OU (bl s)).take (p-0))=some x/\v=w,⟨s.size,0,rfl,by omega,rfl,rfl⟩,?_⟩;rintro n1 us2 x3Y7 x4 v ⟨p,rfl,hp,hx,hv⟩;obtain⟨k1,k2,k3⟩:=loop 0 hd aa aa aa p x4 aa aa hx;refine Br.mk (λg=>?_) (λg=>?_)
   ·have g:=of_decide_eq_true g;obtain⟨k4,k5⟩:=k2 aa;refine⟨by omega,by omega,Br.mk (λg1=>?_) (λg1=>⟨by omega,by omega,Br.mk (λg2=>?_) (λg2=>⟨by omega,by omega,?_⟩)⟩)⟩
    ·have g1:=of_decide_eq_true g1;simp only[iI]at g1;exact bad hv (k4 aa)
    ·have g2:=of_decide_eq_true g2;simp only[iI]at g2;exact bad hv (k4 aa)
    ·have g1:=of_decide_eq_false g1;have g2:=of_decide_eq_false g2;simp only[iI]at g1 g2⊢;rw[Ol k1 (u8 p),wI (n:=(p:Int)+1) (by unfold cH;omega)];exact⟨n1-1,by omega,p+1,by omega,by omega,k5 aa aa,hv⟩
   ·have g:=of_decide_eq_false g;have k3:=k3 aa;rw[if_neg hh]at k3;refine Br.mk (λg=>by cases g) (λ_=>?_);rw[k3];exact⟨rfl,hv⟩
 ·have h:=of_decide_eq_false h;have h0:s.size=0:=by omega
  have hb0:bl s=[]:=by apply List.length_eq_zero_iff.1;omega
  have e1:IntKind.wrap .i64 (((s.size:Nat):Int)-0)=0:=by rw[h0];decide
  rw[e1];exact Br.mk (λc1=>bad rfl (zY (by left;rw[hb0];decide))) (λc1=>by cases c1)
def av6(n v:Int)(hv:v=48+((n.tmod 10).natAbs:Int)):strOfNums [v]=⟨#[iG.nG n]⟩:=by subst hv;unfold strOfNums iG.nG;simp only[eH,List.map_nil];congr 3
def acY(l:List UInt8)(b:UInt8):(⟨l.toArray⟩:ByteArray)++⟨#[b]⟩=⟨(l++[b]).toArray⟩:=by apply Lr;rw[acZ]
def Pn{f:Nat}{n:Int}(h:n.natAbs<10^f):(vX f n).length<=f+1:=by rw[ac0 f n h,cj];have:=Pp f n.natAbs;split<;>simp<;>omega
def WW(f:Nat)(n:Int)(w:World)(hi:cH n)(cX:(vX f (n.tdiv 10)).length<=20)
  (rec:¬(-10<n/\n<10)->∀w0,Ext w w0->ed 13 #[(n.tdiv 10)] w0 (Value.string ⟨(vX f (n.tdiv 10)).toArray⟩)):
  ed 13 #[n] w (Value.string ⟨(vX (f+1) n).toArray⟩):=by
 apply IF.vc;have hm1:n.tmod 10<10:=Int.tmod_lt_of_pos n au;have yA: -10<n.tmod 10:=Int.lt_tmod_of_pos n au;have hq:cH (n.tdiv 10):=by have:=Ls n;unfold cH at*;omega
 have ho:∀t:List UInt8,t.length<=20->((((⟨t.toArray⟩:ByteArray).size+(⟨#[iG.nG n]⟩:ByteArray).size:Nat):Nat):Int)<=IntKind.i64.max:=by
  intro t ht;have e1:(⟨t.toArray⟩:ByteArray).size=t.length:=rfl;have e2:(⟨#[iG.nG n]⟩:ByteArray).size=1:=rfl;have e3:IntKind.i64.max=9223372036854775807:=by decide
  rw[e1,e2,e3];omega
 have leaf:∀w0,Ext w w0->w.heap.size<w0->(¬(-10<n/\n<10))->ab 13 #[(aC (n.tdiv 10))] w0 (λe w2=>∃(t3:ByteArray),e=Value.string t3/\w2.heap[w.heap.size]? =w0.heap[w.heap.size]?/\
   (((t3).size+((⟨#[iG.nG n]⟩:ByteArray)).size:Nat):Int)<=IntKind.i64.max/\(Ending.returned (.string (t3++⟨#[iG.nG n]⟩))=Value.string ⟨(vX (f+1) n).toArray⟩/\Ext w w2)):=by
  intro w0 x0 hs hn;rw[aL hq];refine(rec hn w0 x0).bf λw2 x2=>?_
  refine⟨_,rfl,x2.heap hs,ho _ cX,?_,x0.tr x2⟩;rw[acY];conv=>rhs;unfold vX
  rw[if_neg hn]
 have main:∀(v:Int),v=48+((n.tmod 10).natAbs:Int)->∀w0:World,w0=w.alloc (.cells #[.int .u8 v] 5)->
   ∃l1:List Int,l1.length=1/\ah w0 (aB w.heap.size) 0 (l1.map (Value.int .u8))/\strOfNums l1=⟨#[iG.nG n]⟩/\Ext w w0/\w.heap.size<w0:=by
  intro v hv w0 e0;have hr:Row w0 w [.int .u8 v] 5:=by rw[e0];exact Row.new _ _ _
  exact⟨[v],rfl,hr.bH (o:=0) (λj _=>by rw[eF];rfl),av6 n v hv,by rw[e0];exact Ext.al _ _,hr.lt⟩
 have n2: -10<n->n<10->n<0->(⟨#[45]⟩:ByteArray)++⟨#[iG.nG n]⟩=⟨(vX (f+1) n).toArray⟩:=by intro a b c;unfold vX;rw[if_pos ⟨a,b⟩,if_pos c];exact acY [45] _
 have n1: -10<n->n<10->¬n<0->(⟨#[iG.nG n]⟩:ByteArray)=⟨(vX (f+1) n).toArray⟩:=by intro a b c;unfold vX;rw[if_pos ⟨a,b⟩,if_neg c]
 apply Br.mk<;>intro c
 ·have c:=of_decide_eq_true c;have ev:qH (aC (48+(aC (0-(Int.tmod n 10)))))=48+((n.tmod 10).natAbs:Int):=by rw[aL (n:=0-n.tmod 10) inO,wI,wrap_u8];omega
  intro w0 e0;obtain⟨l1,g1,g2,g3,x0,hs⟩:=main _ ev w0 e0;refine⟨l1,g1,g2,?_⟩;rw[g3];refine Br.mk (λa=>Br.mk (λb=>Br.mk (λd=>?_) (λd=>?_)) (λb=>?_)) (λa=>?_)
  ·exact⟨ho [45] au,by rw[n2 (of_decide_eq_true a) (of_decide_eq_true b) (of_decide_eq_true d)],x0⟩
  ·exact⟨by rw[<-n1 (of_decide_eq_true a) (of_decide_eq_true b) (of_decide_eq_false d)],x0⟩
  ·exact leaf w0 x0 hs (by have:=of_decide_eq_false b;omega)
  ·exact leaf w0 x0 hs (by have:=of_decide_eq_false a;omega)
 ·have c:=of_decide_eq_false c;have ev:qH (aC (48+(Int.tmod n 10)))=48+((n.tmod 10).natAbs:Int):=by rw[wI,wrap_u8];omega
  intro w0 e0;obtain⟨l1,g1,g2,g3,x0,hs⟩:=main _ ev w0 e0;refine⟨l1,g1,g2,?_⟩;rw[g3];refine Br.mk (λa=>Br.mk (λb=>Br.mk (λd=>?_) (λd=>?_)) (λb=>?_)) (λa=>?_)
  ·exact⟨ho [45] au,by rw[n2 (of_decide_eq_true a) (of_decide_eq_true b) (of_decide_eq_true d)],x0⟩
  ·exact⟨by rw[<-n1 (of_decide_eq_true a) (of_decide_eq_true b) (of_decide_eq_false d)],x0⟩
  ·exact leaf w0 x0 hs (by have:=of_decide_eq_false b;omega)
  ·exact leaf w0 x0 hs (by have:=of_decide_eq_false a;omega)
def Lt:∀(f:Nat)(n:Int)(w:World),f<=18->n.natAbs<10^(f+1)->cH n->ed 13 #[n] w (Value.string ⟨(vX (f+1) n).toArray⟩):=by
 intro f
 induction f with
 |zero=>
  intro n w hf h hi;exact WW 0 n w hi (by show 0<=20;omega) (λhn=>absurd ⟨aa,aa⟩ hn)
 |succ f ih=>
  intro n w hf h hi;have h1:=Ls n;have h2:(n.tdiv 10).natAbs<10^(f+1):=by rw[h1];rw[Nat.pow_succ]at h;omega
  exact WW (f+1) n w hi (cV (Pn h2) aa) (λ_ w0 _=>ih _ w0 aa h2 (by unfold cH at*;omega))
def acv(s:ByteArray){a p:Nat}(h:a<=p):s.extract a p++s.extract p (p+1)=s.extract a (p+1):=by apply Lr;rw[acZ,ae8,ae8,ae8,show p+1-a=(p-a)+1 by omega,List.take_add,List.drop_drop,show a+(p-a)=p by omega,show p+1-p=1 by omega]
def acw(x:ByteArray):ByteArray.empty++x=x:=by apply Lr;rw[acZ];rfl
def HP{s:ByteArray}{p:Nat}(hp:p<=s.size):gR s p=ByteArray.mk #[]↔(qU s p).1=none:=by
 unfold gR
 cases h:(qU s p).1 with
 |none=>exact⟨λ_=>rfl,λ_=>rfl⟩
 |some a=>
  have:=IH s p h;refine⟨λe=>?_,λe=>by cases e⟩;have e:bl (s.extract a p)=[]:=congrArg bl e;rw[ae8]at e;have e:=congrArg List.length e;rw[cS,wU,jQ]at e;simp only[mV]at e;omega
def V7{s:ByteArray}{p:Nat}(h:VQ s p≠32):gR s (p+1)=gR s p++s.extract p (p+1)/\Gw s (p+1)=Gw s p:=by
 have e:qU s (p+1)=(some ((qU s p).1.getD p),(qU s p).2):=by show nu s p (qU s p)=_;unfold nu;rw[if_neg h]
 refine⟨?_,by unfold Gw;rw[e]⟩;unfold gR;rw[e];simp only
 cases q:(qU s p).1 with
 |none=>exact(acw _).symm
 |some a=>exact(acv s (Nat.le_of_lt (IH s p q))).symm
def Xu{s:ByteArray}{p:Nat}(h:VQ s p=32):gR s (p+1)=ByteArray.mk #[]/\Gw s (p+1)=Gw s p++(match (qU s p).1 with|some a=>[s.extract a p]|none=>[]):=by
 have e:qU s (p+1)=nu s p (qU s p):=rfl;unfold nu at e;rw[if_pos h]at e;unfold gR Gw;rw[e]
 cases q:(qU s p).1 with
 |none=>simp;rfl
 |some a=>simp;rfl
def Xv(s:ByteArray):∀p,(Gw s p).length<=p
 |0=>ak _
 |p+1=>by
  have ih:=Xv s p
  by_cases h:VQ s p=32
  ·rw[(Xu h).2,cj]
   split<;>simp<;>omega
  ·rw[(V7 h).2];omega
def abW(s:ByteArray):cT s=Gw s s.size++(match (qU s s.size).1 with|some a=>[s.extract a s.size]|none=>[]):=Cf s
def Hq(s:ByteArray)(w:World)(hs:s.size<=4294967296):Calls Tryz.prog 28 #[.string s] w λe w'=>∃sl:Sl,e=.returned (.slice sl.a sl.n sl.c)/\ar w.heap.size 9 1 w' sl ((cT s).map sv)/\Ext w w':=by
 apply sq.vc;unfold sq.pre;have own_sz:∀p,p<=s.size->(gR s p).size<=s.size:=by
  intro p hp;unfold gR;split
  ·rw[<-jQ,ae8,cS,wU,jQ];omega
  ·exact eG _
 refine⟨λn x t sl v=>∃p:Nat,x=(p:Int)/\p+n=s.size/\t=gR s p/\ar w.heap.size 9 1 v sl ((Gw s p).map sv)/\Ext w v,⟨s.size,0,rfl,by omega,rfl,ar.nil,Ext.bT _⟩,?_⟩;rintro n1 us2 x3Y7 t4 s5 w6 ⟨p,rfl,hp,rfl,ho,x6⟩;have hn:s5.n=(Gw s p).length:=by rw[(ar.rd ho au).n,aK]
 have hol:=Xv s p;have push:∀t:ByteArray,∀v:World,v=w6.alloc (.cells #[.string t] 9)->
   bj 16 1 v ⟨s5.a,s5.n,s5.c⟩ 1 [.string t]/\∀(s9:Sl)(K8:World),aY 9 1 v ⟨s5.a,s5.n,s5.c⟩ 1 [.string t] s9 K8->
    K8.heap[w6.heap.size]? =v.heap[w6.heap.size]?/\ar w.heap.size 9 1 K8 s9 ((Gw s p++[t]).map sv)/\Ext w K8:=by
  rintro t v rfl;obtain⟨a1,a2⟩:=ho.l6 (bytes:=16) (news:=sv t) (.cells #[.string t] 9) x6.size rfl (amg t) aa aa;refine⟨a1,λs9 K8 hr=>?_⟩;obtain⟨b1,b2,b3,b4,-⟩:=a2 s9 K8 hr;exact⟨b1,by rw[cl];exact b2,Below.trans x6 b4⟩
 refine Br.mk (λh=>?_) (λh=>?_)
 ·have h:=of_decide_eq_true h;have hb:((s.data.toList.getD p 0).toNat)=VQ s p:=(arj s p).symm;refine⟨by omega,h,?_⟩;simp only[iI];rw[hb,wI (n:=(p:Int)+1) (by unfold cH;omega)];refine Br.mk (λc=>?_) (λc=>?_)
  ·have c:VQ s p≠32:=λhc=>by rw[hc]at c;cases c
   obtain⟨g1,g2⟩:=V7 c;refine⟨by omega,by omega,by omega,by omega,?_,n1-1,by omega,p+1,by omega,by omega,?_,by rw[g2];exact ho,x6⟩
   ·have e3:IntKind.i64.max=9223372036854775807:=by decide
    have:=own_sz p aa;have:(s.extract p ((p:Int)+1).toNat).size<=s.size:=by rw[<-jQ,ae8,cS,wU,jQ];omega
    rw[e3];omega
   ·rw[g1,show((p:Int)+1).toNat=p+1 by omega]
  ·have c:VQ s p=32:=by
    apply Classical.byContradiction;intro hc;have:(((VQ s p:Nat):Int) !=32)=true:=by simpa using(by omega:¬((VQ s p:Nat):Int)=32)
    rw[this]at c
    cases c
   obtain⟨g1,g2⟩:=Xu c;refine Br.mk (λd=>?_) (λd=>?_)
   ·have d:¬(qU s p).1=none:=λhd=>by rw[(kD _ _).2 ((HP aa).2 hd)]at d;cases d
    obtain⟨a,ha⟩:∃a,(qU s p).1=some a:=Option.ne_none_iff_exists'.1 d;rw[ha]at g2
    try simp only at g2
    have eo:gR s p=s.extract a p:=by unfold gR;rw[ha]
    intro w8 e8;obtain⟨k1,k2⟩:=push (gR s p) w8 e8;refine⟨k1,λs9 K8 hr=>?_⟩;obtain⟨k3,k4,k5⟩:=k2 s9 K8 hr;exact⟨k3,n1-1,by omega,p+1,by omega,by omega,g1.symm,by rw[g2,<-eo];exact k4,k5⟩
   ·have d:(qU s p).1=none:=(HP aa).1 ((kD _ _).1 (by simpa using d));rw[d,oV]at g2;exact⟨n1-1,by omega,p+1,by omega,by omega,g1.symm,by rw[g2];exact ho,x6⟩
 ·have h:=of_decide_eq_false h;obtain rfl:p=s.size:=by omega
  have e:=abW s;refine Br.mk (λd=>?_) (λd=>?_)
  ·have d:¬(qU s s.size).1=none:=λhd=>by rw[(kD _ _).2 ((HP (ak _)).2 hd)]at d;cases d
   obtain⟨a,ha⟩:∃a,(qU s s.size).1=some a:=Option.ne_none_iff_exists'.1 d;rw[ha]at e
   try simp only at e
   have eo:gR s s.size=s.extract a s.size:=by unfold gR;rw[ha]
   intro w8 e8;obtain⟨k1,k2⟩:=push (gR s s.size) w8 e8;refine⟨k1,λs9 K8 hr=>?_⟩;obtain⟨k3,k4,k5⟩:=k2 s9 K8 hr;exact⟨k3,s9,rfl,by rw[e,<-eo];exact k4,k5⟩
  ·have d:(qU s s.size).1=none:=(HP (ak _)).1 ((kD _ _).1 (by simpa using d));rw[d,oV]at e;exact⟨s5,rfl,by rw[e];exact ho,x6⟩
end Go.Proofs.YtjcnjlaelhdjeaaGreatDoor
