import Derived.Test.YtjcnjlaelhdjeaaGreatDoorC
import Derived.Deep.SlicePairs
import Derived.ProofKit
import Derived.Lib.Overlaps
import Derived.Lib.FieldsP
import Derived.Lib.Split
set_option linter.all false
namespace Go.Vc
open Go Go.RowKit
set_option maxRecDepth 100000
set_option maxHeartbeats 8000000
abbrev S(n:Int):aC:=.int .i64 n
abbrev l_:=Ending->au->Prop
abbrev k_:=au->Prop
abbrev Ext(w w':au):Prop:=Below w w w'
def Ext.M(w:au):Ext w w:=Below.refl _ _
section
variable{a b c:au}(h:Ext a b)
def Ext.A(k:Ext b c):Ext a c:=Below.trans h (Below.mono k h.size)
def Ext.al(w:au)(o:Obj):Ext w (w.alloc o):=(Below.refl _ w).alloc (ak _) o
def Ext.K(w:au):Ext w w.drew:=(Below.refl _ w).drew
variable{o:Obj}
def Ext.aZ(e:c=b.alloc o):Ext a c:=by subst e;exact h.A (Ext.al _ _)
def aU(e:c=b.alloc o):Ext b c:=(Ext.M _).aZ e
def Ext.drew:Ext a b.drew:=h.A (Ext.K _)
def setRow_other(w:au)(g j:Nat)(cs:ae)(h:j≠g):(w.setRow g cs).heap[j]? =w.heap[j]? :=by simp only[World.setRow,Array.getElem?_modify,if_neg (Ne.symm h)]
def setRow_size(w:au)(g:Nat)(cs:ae):(w.setRow g cs).heap.size=w:=by simp[World.setRow]
variable{g:Nat}
def Ext.setRow(hg:a<=g)(cs:ae):Ext a (b.setRow g cs):=
 ⟨h.os,h.tape,h.output,by rw[setRow_size];exact h.size,λk hk=>by rw[setRow_other _ _ _ _ U];exact h.block k hk⟩
variable{cs:ae}
def Ext.L(e:c=b.setRow g cs)(hg:a<=g):Ext a c:=by subst e;exact h.setRow hg cs
variable{a:Addr}{w:au}{v:aC}
def XQ(h:w.cell? a=some v):a.block<w:=by
 unfold World.cell? at h;split at h
 next hb=>exact(oQ.1 hb).1
 ·cases h
variable{w':au}(h:Ext w w')
def Ext.ld{p:ai}(hl:ld w p=some v):ld w' p=some v:=by
 cases p with
 |none=>simp[Vc.ld]at hl
 |some a=>
  have hl':w.cell? a=some v:=hl;show w'.cell? a=some v;rw[Below.cell h (XQ hl')];exact hl'
variable{i:Nat}
def Ext.heap(hi:i<w):w'.heap[i]? =w.heap[i]? :=h.block i hi
def Ext.k(hi:i<w:=by omega):w'.heap[i]? =w.heap[i]? :=h.block i hi
def gk(p:ai)(m n:Nat):N (N p m) n=N p (m+n):=by
 cases p with
 |none=>rfl
 |some a=>
  simp only[N,mT,Option.some.injEq,Addr.add];by_cases hm:m=0
  ·subst hm;simp
  ·by_cases hn:n=0
   ·subst hn;simp[hm]
   ·simp[hm,hn,Nat.add_assoc]
@[simp] def Dj(p:ai)(n:Nat):(N p n).isSome=p.isSome:=by cases p<;>rfl
def cB(p:ai)(n:Nat):bM (N p n)=bM p:=by
 cases p with
 |none=>rfl
 |some a=>simp only[N,bM,mT,Addr.add];split<;>rfl
def Row(w:au)(g:Nat)(cs:LV)(t:aB):Prop:=w.heap[g]? =some (.cells cs.toArray t (0,0))
def Row.new(w:au)(cs:LV)(t:aB):Row (w.alloc (.cells cs.toArray t)) w.heap.size cs t:=by show(w.heap.push _)[w.heap.size]? =_;simp
variable{cs:LV}{t:aB}(h:Row w g cs t)
def Row.lt:g<w:=(oQ.1 h).1
def Row.ext(he:Ext w w'):Row w' g cs t:=(he.heap h.lt).trans h
def Row.same(he:w'.heap[g]? =w.heap[g]?):Row w' g cs t:=he.trans h
def Row.set(cs':LV):Row (w.setRow g cs'.toArray) g cs' t:=setRow_heap _ _ _ _ _ _ h
variable{c:ae}{j:Nat}
def Row.so{cs:af}(h:Row w g cs t)(e:w'=w.setRow j c)(hn:g≠j:=by omega):Row w' g cs t:=h.same (by rw[e];exact setRow_other _ _ _ _ hn)
variable{l:af}
def Row.nw(e:w'=w.alloc (.cells l.toArray t)):Row w' w l t:=a1x
def Row.st{cs:af}(h:Row w g cs t)(e:w'=w.setRow g l.toArray):Row w' g l t:=by rw[e];exact h.set _
def Row.ld(j:Nat):ld w (some ⟨g,j,none⟩)=cs[j]? :=by simp[Vc.ld,World.cell?,show w.heap[g]? =_ from h]
def aF(g o j:Nat):N (some ⟨g,o,none⟩) j=some ⟨g,o+j,none⟩:=by simp[N,ou]
variable{o:Nat}
def Row.wr{n:Nat}(hn:o+n<=cs.length):Wr w (some ⟨g,o,none⟩) n:=by
 intro i hi;refine⟨_,rfl,?_,?_⟩
 ·rw[ou];simp[World.cell?,show w.heap[g]? =_ from h];omega
 ·rw[ou];exact oJ h _
variable{vs:LV}
def Row.y(hv:∀j,j<vs.length->cs[o+j]? =vs[j]?):ah w (some ⟨g,o,none⟩) 0 vs:=
 vb λj hj=>by rw[aF,h.ld];simpa using hv j hj
def Row.bB(hl:o+vs.length<=cs.length)(h1:One vs): bB w (some ⟨g,o,none⟩) vs=w.setRow g (putCells cs o vs).toArray:=by
 have e1:=gQ (P:=default) ⟨g,o,none⟩ vs 0 w h1 (λj hj=>by
  have⟨a,e,q⟩:=h.wr hl j hj
  cases e;simpa using q)
 have e2:=run_storeCells_at default g o t vs 0 cs.toArray w h (ds hl) h1;rw[e1]at e2;injection e2 with _ e3;show qJ w _ 0 vs=_;rw[e3,dX _ _ _ hl];simp
inductive Own(B E size:Nat)(w:au):H->LV->Prop
 |nil:Own B E size w ⟨none,0,0⟩ []
 |row (g n c:Nat) (cs:LV) (hg:B<=g) (hr:Row w g cs E) (hc:c*size<=cs.length) (hn:n<=c):Own B E size w ⟨some ⟨g,0,none⟩,n,c⟩ (cs.take (n*size))
def H.D(s:H):Option Nat:=s.a.map (·.block)
variable{B E size:Nat}{s:H}{xs:LV}(h:Own B E size w s xs)
def Own.len:xs.length=s.n*size:=by
 cases h with
 |nil=>simp
 |row g n c cs hg hr hc hn=>
  have:n*size<=c*size:=tf _ hn;rw[cS];show min (n*size) _=n*size;omega
def Own.rd:Rd w s.a xs:=by
 cases h with
 |nil=>intro i v hi;simp at hi
 |row g n c cs hg hr hc hn=>
  intro i v hi;rw[aF,hr.ld];rw[qM]at hi;split at hi
  ·simpa using hi
  ·cases hi
def Own.aV(hk:∀g,s.D=some g->w'.heap[g]? =w.heap[g]?):Own B E size w' s xs:=by
 cases h with
 |nil=>exact .nil
 |row g n c cs hg hr hc hn=>exact .row g n c cs hg (hr.same (hk g rfl)) hc hn
def Own.ext(he:Ext w w'):Own B E size w' s xs:=by
 cases h with
 |nil=>exact .nil
 |row g n c cs hg hr hc hn=>exact .row g n c cs hg (hr.ext he) hc hn
def Own.lt{B E size:Nat}{w:au}{s:H}{xs:LV}(h:Own B E size w s xs){g:Nat}(hg:s.D=some g):B<=g/\g<w:=by
 cases h with
 |nil=>cases hg
 |row g' n c cs hg' hr hc hn=>cases hg;exact⟨hg',hr.lt⟩
def Own.append{bytes:Nat}{m:Nat}{news:LV}(hB:B<=w)(hl:news.length=m*size)(h1:One news) (hb:(s.n+m)*bytes<=140737488355328)(hb':s.n+m<=9223372036854775807): bj bytes size w s m news/\∀(s':H)(w':au),aY E size w s m news s' w'->Own B E size w' s' (xs++news)/\s'.n=s.n+m/\Below B w w'/\(∀j,s.D≠some j->j<w->w'.heap[j]? =w.heap[j]?)/\(s'.D=s.D\/s'.D=some w):=by
 refine⟨⟨λhf=>?_,λhg=>⟨xs,h.len,h.rd⟩,λhg=>⟨growslice_fits hg hb,U⟩,hl,h1⟩,?_⟩
 ·cases h with
  |nil=>
   have:m=0:=by simp at hf;omega
   subst this;intro i hi;omega
  |row g n c cs hg hr hc hn=>
   rw[aF];refine hr.wr ?_;have:(n+m)*size<=c*size:=tf _ hf;rw[pP]at this;simp;omega
 ·intro s' w' bq
  cases bq with
  |fits hf=>
   cases h with
   |nil=>
    have:m=0:=by simp at hf;omega
    subst this;have:news=[]:=ur.1 U;subst this;exact⟨.nil,rfl,Below.refl _ _,λ_ _ _=>rfl,.inl rfl⟩
   |row g n c cs hg hr hc hn=>
    have hle:n*size+news.length<=cs.length:=by have:(n+m)*size<=c*size:=tf _ hf;rw[pP]at this;omega
    rw[aF,eF,hr.bB hle h1];have hr':=hr.set (putCells cs (n*size) news);have e:cs.take (n*size)++news=(putCells cs (n*size) news).take ((n+m)*size):=by
     have e0:(n+m)*size=n*size+news.length:=by rw[pP,hl]
     rw[dX _ _ _ hle,e0];exact((AO m_).trans (dN m_)).symm
    refine⟨?_,rfl,⟨rfl,rfl,rfl,a05,λk hk=>setRow_other _ _ _ _ U⟩,λj hj _=>setRow_other _ _ _ _ (λe=>hj (e▸rfl)),.inl rfl⟩;rw[e];exact .row g (n+m) c _ hg hr' (by rw[db];exact hc) hf
  |grows hg fP rest cap e1 e2 e3 e4=>
   have ho:fP=xs:=by
    have gF:=h.rd;have cX:=h.len;apply jF;intro i;rcases iR i xs.length with hi|hi
    ·have h1:=gF i xs[i] (cK hi);have hi':i<fP.length:=by omega
     have h2:=e2 i fP[i] (cK hi');rw[h1]at h2;rw[cK hi,cK hi'];exact h2.symm
    ·rw[jZ hi,jZ U]
   subst ho;have Ep:=Row.new w.drew (fP++news++rest) E;have cX:=h.len;refine⟨?_,rfl,?_,λj _ hj=>Below.heap_alloc _ _ _ hj,.inr rfl⟩
   ·have e:fP++news=(fP++news++rest).take ((s.n+m)*size):=by
     have e0:(s.n+m)*size=fP.length+news.length:=by rw[pP,hl,e1]
     rw[e0];exact((AO bo).trans (dN bo)).symm
    conv=>rhs;rw[e]
    exact .row w (s.n+m) cap _ hB Ep (Nat.le_of_eq e4.symm) e3
   ·exact(Below.refl B w).drew.alloc hB _
variable{P:Program}{pre:Prop}{f:bH}{fn:Func}{an:Qi}{args:LV}{R:l_}(hP:xK P)
def Qj(hm:P.follows .mixedOrders=true)(hf:P.funcs[f]? =some fn) (h:pre)(e:pre=amq P an fn args w R):Calls P f args.toArray w R:=Rw hP hm hf (e▸h)
def IQ(R:l_)(e:Ending)(w':au)(A:Prop):Prop:=match e with| .panicked c=>R (.panicked c) w'|_=>A
def k7(hm:P.follows .mixedOrders=true)(hf:P.funcs[f]? =some fn) (h:pre)(e:pre=adI P an fn args w R):Calls P f args.toArray w R:=Nj hP hm hf (e▸h)
def ngB(P:Program):aX:=P.funcs.toList.all λfn=>fn.name != "runtime.NumGoroutine"
def amp(h:ngB P=true):xK P:=λf fn hf he=>by
 have:=JK.1 h fn (by have:=Array.mem_of_getElem? hf;simpa using this)
 simp[he]at this
def cH(n:Int):Prop:= -9223372036854775808<=n/\n<=9223372036854775807
variable{n:Int}
def aL(h:cH n):I n=n:=by unfold cH at h;unfold IntKind.wrap;simp only[IntKind.bits,IntKind.signed];simp only[oU];split<;>simp_all<;>omega
def wI(h:cH n:=by unfold cH;omega):IntKind.wrap .i64 n=n:=aL h
def nE(h:cH ((j:Int)+1):=by unfold cH;omega):IntKind.wrap .i64 ((j:Int)+1)=((j+1:Nat):Int):=by rw[aL h];omega
def aeA(n:Int):cH (I n):=by unfold cH IntKind.wrap;simp only[IntKind.bits,IntKind.signed];simp only[oU];split<;>simp_all<;>omega
variable{d_:Type}
def Vw:DataW d_->aC
 | .lit (.int k n)=>.int k n
 | .lit (.bool b)=>.bool b
 | .lit (.string bs)=>.string ⟨bs.toArray⟩
 |_=>.bool false
def aeB:DataW d_->LV
 | .agg l=>l.flatMap fun
   | .agg m=>m.map Vw
   |d=>[Vw d]
 |d=>[Vw d]
def layAll(P:Program)(l:List (String×DataW Unit))(w:au):au:=
 {w with heap:=l.foldl (λh x=>match P.globalNamed x.1 with
   |some g=>h.modify g fun
    | .cells _ t frozen=>.cells (aeB x.2).toArray t frozen
    |o=>o
   |none=>h) w.heap}
end
end Go.Vc
namespace Go
open Go.Vc
section
variable{P:Program}{f:bH}{a:ae}{w:au}{R:l_}{v:Ending}
def Calls.F{Q:k_}(h:Calls P f a w λe w'=>e=v/\Q w')(k:∀u,Q u->R v u):Calls P f a w R:=h.mono λ_ u h=>h.1▸k u h.2
def Calls.V(h:Calls P f a w λe w'=>e=v/\w'=w)(k:R v w):Calls P f a w R:=h.mono λ_ _ h=>h.1▸h.2▸k
end
end Go
namespace Go.Vc
open Go Go.RowKit
set_option maxRecDepth 100000
set_option maxHeartbeats 8000000
structure RdK(w:au)(s:H)(k:Nat)(rows:List (LV)):Prop where
 n:s.n=rows.length
 wd:∀r∈rows,r.length=k
 rd:∀i r,rows[i]? =some r->∀j v,r[j]? =some v->ld w (N s.a (i*k+j))=some v
section
variable{w w':au}{s:H}{k:Nat}{rows:List (LV)}(h:RdK w s k rows)
def RdK.ext(he:Ext w w'):RdK w' s k rows:=
 ⟨h.n,h.wd,λi r hi j v hj=>he.ld (h.rd i r hi j v hj)⟩
variable{i:Nat}
def RdK.isSome(hk:0<k)(hi:i<rows.length):s.a.isSome=true:=by
 have hr:rows[i]? =some rows[i]:=cK hi;have hl:=h.wd _ (List.getElem_mem hi);have h0:rows[i][0]? =some (rows[i][0]'U):=cK U;have:=h.rd i _ hr 0 _ h0
 cases hs:s.a with
 |none=>rw[hs]at this;simp[ld,N]at this
 |some a=>rfl
def RdK.jX(hk:0<k){i:Int}(h0:0<=i)(h1:i<(s.n:Int)):gD s.a i s.n:=
 ⟨h.isSome hk (i:=i.toNat) (a1N h.n),h0,h1⟩
variable{r:LV}{v:aC}
def RdK.at(hi:rows[i]? =some r){j:Nat}(hj:r[j]? =some v):ld w (N (N s.a (i*k)) j)=some v:=by rw[gk];exact h.rd i r hi j v hj
def PA{p:ai}:∀{vs:LV}{i:Nat},(∀j v,vs[j]? =some v->ld w (N p (i+j))=some v)->ah w p i vs
 | [],_,_=>trivial
 | [v],i,h=>by have:=h 0 v rfl;simpa[ah]using this
 |v::u::r,i,h=>⟨by have:=h 0 v rfl;simpa using this,PA (i:=i+1) λj x hj=>by
  have:=h (j+1) x (ds hj)
  rwa[show i+(j+1)=i+1+j from by omega]at this⟩
def RdK.y(hi:rows[i]? =some r):ah w (N s.a (i*k)) 0 r:=
 PA λj v hj=>by rw[eF];exact h.at hi hj
def uB:∀{rows:List (LV)},(∀r∈rows,r.length=k)->∀{i:Nat}{r:LV},rows[i]? =some r->∀{j:Nat},j<k->rows.flatten[i*k+j]? =r[j]?
 | [],_,i,r,hi,j,_=>by simp at hi
 |a::rows,h,0,r,hi,j,hj=>by
  simp at hi;subst hi
  have:=h a (.head _)
  rw[kX,oS U]
  simp
 |a::rows,h,i+1,r,hi,j,hj=>by
  have ha:=h a (.head _)
  rw[kX,pO (by rw[ha,O8];omega)]
  rw[show(i+1)*k+j-a.length=i*k+j from by rw[ha,O8];omega]
  exact uB (λr hr=>h r (.tail _ hr)) (ds hi) hj
def bQ:∀{rows:List (LV)},(∀r∈rows,r.length=k)->rows.flatten.length=rows.length*k
 | [],_=>by simp
 |a::rows,h=>by rw[kX,cj,bQ (λr hr=>h r (.tail _ hr)),h a (.head _),cL,O8,CO]
structure ar(B E k:Nat)(w:au)(s:H)(rows:List (LV)):Prop where
 own:Own B E k w s rows.flatten
 wd:∀r∈rows,r.length=k
variable{B E:Nat}(h:ar B E k w s rows)
def ar.rd(hk:0<k):RdK w s k rows:=by
 refine⟨?_,h.wd,λi r hi j v hj=>?_⟩
 ·have h1:=h.own.len;rw[bQ h.wd]at h1;exact(Nat.eq_of_mul_eq_mul_right hk h1).symm
 ·have hl:=h.wd r (aQ hi);have hjk:j<k:=by rw[<-hl];exact(cG.1 hj).1
  exact h.own.rd _ _ ((uB h.wd hi hjk).trans hj)
def ar.nil:ar B E k w ⟨none,0,0⟩ []:=⟨.nil,λ_ h=>by cases h⟩
def ar.ext(he:Ext w w'):ar B E k w' s rows:=⟨h.own.ext he,h.wd⟩
def ar.aV(hk:∀g,s.D=some g->w'.heap[g]? =w.heap[g]?):ar B E k w' s rows:=⟨h.own.aV hk,h.wd⟩
def ar.low{B B' E k:Nat}{w:au}{s:H}{rows:List (LV)}(h:ar B E k w s rows)(hb:B'<=B):ar B' E k w s rows:=by
 refine⟨?_,h.wd⟩;have ho:=h.own;generalize rows.flatten=xs at ho
 cases ho with
 |nil=>exact .nil
 |row g n c cs hg hr hc hn=>exact .row g n c cs U hr hc hn
def ar.append{bytes:Nat}{news:LV}(hB:B<=w)(hl:news.length=k)(h1:One news) (hb:(s.n+1)*bytes<=140737488355328)(hb':s.n+1<=9223372036854775807): bj bytes k w s 1 news/\∀(s':H)(w':au),aY E k w s 1 news s' w'->ar B E k w' s' (rows++[news])/\s'.n=s.n+1/\Below B w w'/\(∀j,s.D≠some j->j<w->w'.heap[j]? =w.heap[j]?)/\(s'.D=s.D\/s'.D=some w):=by
 have⟨hp,hr⟩:=h.own.append (bytes:=bytes) (m:=1) (news:=news) hB (by rw[hl,Nat.one_mul]) h1 hb hb';refine⟨hp,λs' w' bq=>?_⟩;have⟨ho,hn,hx,hk,yG⟩:=hr s' w' bq;refine⟨⟨by rw[zm];simpa using ho,λr hr=>?_⟩,hn,hx,hk,yG⟩;rcases dp.1 hr with hr|hr
 ·exact h.wd r hr
 ·simp at hr;rw[hr];exact hl
def Own.set{B E size:Nat}{w:au}{s:H}{xs:LV}(h:Own B E size w s xs){m:Nat}{v:aC}(hm:m<xs.length)(hv:v.oneCell'=true): (N s.a m).isSome=true/\Wr w (N s.a m) 1/\Own B E size (bB w (N s.a m) [v]) s (xs.set m v)/\(∀j,s.D≠some j->(bB w (N s.a m) [v]).heap[j]? =w.heap[j]?):=by
 cases h with
 |nil=>simp at hm
 |row g n c cs hg hr hc hn=>
  rw[cS]at hm;rw[aF];have h1:One [v]:=by intro u hu;simp at hu;subst hu;exact hv
  have hs:=hr.bB (o:=0+m) (vs:=[v]) m_ h1;refine⟨rfl,hr.wr U,?_,λj hj=>?_⟩
  ·rw[<-List.take_set];rw[hs];refine .row g n c _ hg ?_ (ds hc) hn;have e:putCells cs (0+m) [v]=cs.set m v:=by simp[putCells]
   rw[e];exact hr.set (cs.set m v)
  ·rw[hs];exact setRow_other _ _ _ _ (λe=>hj (e▸rfl))
end
end Go.Vc
namespace Go.Vc
open Go Go.RowKit
def Below.bB{B:Nat}{a b:au}(h:Below B a b){p:ai}{vs:LV}(hp:∀x,p=some x->B<=x.block):Below B a (bB b p vs):=by
 cases p with
 |none=>exact h
 |some x=>
  have hx:=hp x rfl;show Below B a (qJ b x 0 vs);have key:∀(vs:LV)(i:Nat)(b:au),Below B a b->Below B a (qJ b x i vs):=by
   intro vs
   induction vs with
   |nil=>intro i b h;exact h
   |cons v r ih=>
    intro i b h;refine ih _ _ (Below.setCell h ?_ _);unfold Addr.add;split<;>exact hx
  exact key vs 0 b h
def wE(k:IntKind)(a:Int):One [.int k a]:=a0q
def BB(k k':IntKind)(a b:Int):One [.int k a,.int k' b]:=a1y
def ar.l6{B E k bytes:Nat}{w:au}{s:H}{rows:List (LV)}(h:ar B E k w s rows){news:LV}(o:Obj)(hB:B<=w)(hl:news.length=k)(h1:One news) (hb:(s.n+1)*bytes<=140737488355328)(hb':s.n+1<=9223372036854775807): bj bytes k (w.alloc o) s 1 news/\∀(s':H)(w':au),aY E k (w.alloc o) s 1 news s' w'->w'.heap[w.heap.size]? =(w.alloc o).heap[w.heap.size]?/\ar B E k w' s' (rows++[news])/\s'.n=s.n+1/\Below B w w'/\(∀j,s.D≠some j->j<w.heap.size->w'.heap[j]? =w.heap[j]?)/\(s'.D=s.D\/s'.D=some (w.heap.size+1)):=by
 have xa:=Ext.al w o;obtain⟨hp,hr⟩:=(h.ext xa).append (bytes:=bytes) (news:=news) (cV hB xa.size) hl h1 hb hb';refine⟨hp,λs' w' bq=>?_⟩;obtain⟨ho,hn,hx,hk,yG⟩:=hr s' w' bq;have hz:(w.alloc o).heap.size=w.heap.size+1:=by simp
 refine⟨hk _ (λhb=>absurd (h.own.lt hb).2 (CY _)) bo,ho,hn,(Below.mono xa hB).trans hx,λj hj fK=>?_,by rw[<-hz];exact yG⟩;rw[hk j hj U];exact xa.heap fK
def ar.set{B E k:Nat}{w:au}{s:H}{rows:List af}(h:ar B E k w s rows){i j:Nat}{r:af}{v:aC}(hi:rows[i]? =some r)(hj:j<k)(hv:v.oneCell'=true)(hB:B<=w): (N (N s.a (i*k)) j).isSome=true/\Wr w (N (N s.a (i*k)) j) 1/\ar B E k (bB w (N (N s.a (i*k)) j) [v]) s (rows.set i (r.set j v))/\Below B w (bB w (N (N s.a (i*k)) j) [v])/\(∀m,s.D≠some m->(bB w (N (N s.a (i*k)) j) [v]).heap[m]? =w.heap[m]?):=by
 have cX:=bQ h.wd;have OW:i<rows.length:=(List.getElem?_eq_some_iff.1 hi).1;have hm:i*k+j<rows.flatten.length:=by rw[cX];have:(i+1)*k<=rows.length*k:=Nat.mul_le_mul_right _ OW;rw[Nat.succ_mul]at this;omega
 have⟨h1,h2,h3,h4⟩:=h.own.set (v:=v) hm hv;rw[gk];refine⟨h1,h2,⟨?_,λq hq=>?_⟩,?_,h4⟩
 ·have e:(rows.set i (r.set j v)).flatten=rows.flatten.set (i*k+j) v:=by
   have hw:=h.wd;clear h h1 h2 h3 h4 hm cX hv
   induction rows generalizing i with
   |nil=>simp at hi
   |cons a rows ih=>
    have ha:=hw a (.head _)
    cases i with
    |zero=>
     simp at hi;subst hi;simp only[List.set_cons_zero,List.flatten_cons,Nat.zero_mul,Nat.zero_add];rw[List.set_append_left _ _ (by omega)]
    |succ i=>
     simp only[List.set_cons_succ,List.flatten_cons];rw[List.set_append_right _ _ (by rw[ha,Nat.succ_mul];omega),show(i+1)*k+j-a.length=i*k+j from by rw[ha,Nat.succ_mul];omega];rw[ih (ds hi) (ds OW) (λr hr=>hw r (.tail _ hr))]
  rw[e];exact h3
 ·rcases List.mem_or_eq_of_mem_set hq with hq|rfl
  ·exact h.wd q hq
  ·rw[List.length_set];exact h.wd r (List.mem_of_getElem? hi)
 ·refine Below.bB (Below.refl _ _) λx hx=>?_
  have ho:=h.own;generalize rows.flatten=xs at ho
  cases ho with
  |nil=>simp[N]at hx
  |row g n c cs hg hr hc hn=>simp[N,ou]at hx;subst hx;exact hg
end Go.Vc
namespace Go.Vc
open Go Go.RowKit
def pW{E size:Nat}{w w':au}{a:ai}{n:Nat}{news:LV}{s':H}(h:aY E size w ⟨a,0,0⟩ n news s' w')(hl:news.length=n*size){j:Nat}(hj:j<w):w'.heap[j]? =w.heap[j]? :=by
 cases h with
 |fits hf=>
  have:n=0:=by simp at hf;omega
  subst this;have:news=[]:=CV U;subst this
  cases hp:N a (0*size)with
  |none=>simp[hp,Go.Vc.bB]
  |some x=>simp only[hp,Go.Vc.bB];rfl
 |grows hf fP rest cap h1 h2 h3 h4=>exact((Ext.K w).A (Ext.al _ _)).heap hj
def RdK.flat{w:au}{s:H}{k:Nat}{rows:List (LV)}(h:RdK w s k rows)(hk:0<k):Rd w s.a rows.flatten:=by
 intro i v hi;have OW:i<rows.flatten.length:=(cG.1 hi).1;rw[bQ h.wd]at OW;have hik:i/k<rows.length:=Nat.div_lt_of_lt_mul (by rw[Nat.mul_comm];exact OW);have hr:rows[i/k]? =some rows[i/k]:=cK hik;have hm:i%k<k:=Nat.mod_lt _ hk;have e:i/k*k+i%k=i:=by rw[Nat.mul_comm];exact Nat.div_add_mod i k
 have:=uB h.wd hr hm;rw[e,hi]at this;have:=h.rd _ _ hr _ v this.symm;rwa[e]at this
def gy{rows:List (LV)}(h:∀r∈rows,One r):One rows.flatten:=by intro v hv;have⟨r,hr,hvr⟩:=List.mem_flatten.1 hv;exact h r hr v hvr
end Go.Vc
namespace Go.Vc
open Go Go.RowKit
def wJ:∀(vs cs:LV)(off b_:Nat),(putCells cs off vs).take b_=putCells (cs.take b_) off vs
 | [],_,_,_=>rfl
 |v::r,cs,off,b_=>by
  show(putCells (cs.set off v) (off+1) r).take b_=putCells ((cs.take b_).set off v) (off+1) r
  rw[wJ,List.take_set]
def uC(a:LV):∀(vs b:LV)(o:Nat),putCells (a++b) (a.length+o) vs=a++putCells b o vs
 | [],_,_=>rfl
 |v::r,b,o=>by
  show putCells ((a++b).set (a.length+o) v) (a.length+o+1) r=a++putCells (b.set o v) (o+1) r
  rw[List.set_append_right _ _ U,Nat.add_sub_cancel_left,Nat.add_assoc]
  exact uC a r _ _
def Own.put{B E size:Nat}{w:au}{s:H}{xs:LV}(h:Own B E size w s xs){m:Nat}{vs:LV}(hm:m+vs.length<=xs.length)(hx:0<xs.length)(hv:One vs): (N s.a m).isSome=true/\Wr w (N s.a m) vs.length/\Own B E size (bB w (N s.a m) vs) s (putCells xs m vs)/\(∀j,s.D≠some j->(bB w (N s.a m) vs).heap[j]? =w.heap[j]?):=by
 cases h with
 |nil=>simp at hx
 |row g n c cs hg hr hc hn=>
  rw[cS]at hm;rw[aF];have hs:=hr.bB (o:=0+m) (vs:=vs) U hv;refine⟨rfl,hr.wr U,?_,λj hj=>?_⟩
  ·rw[<-wJ,hs,eF];exact .row g n c _ hg (hr.set _) (by rw[Go.Vc.db];exact hc) hn
  ·rw[hs];exact setRow_other _ _ _ _ (λe=>hj (by rw[e];rfl))
def ar.put{B E k:Nat}{w:au}{s:H}{rows:List af}(h:ar B E k w s rows){i:Nat}{r:af}(hi:i<rows.length)(hk:0<k)(hr:r.length=k)(hv:One r): (N s.a (i*k)).isSome=true/\Wr w (N s.a (i*k)) k/\ar B E k (bB w (N s.a (i*k)) r) s (rows.set i r)/\Below B w (bB w (N s.a (i*k)) r)/\(∀m,s.D≠some m->(bB w (N s.a (i*k)) r).heap[m]? =w.heap[m]?):=by
 have cX:=bQ h.wd;have h1:(i+1)*k<=rows.length*k:=Nat.mul_le_mul_right _ hi;rw[Nat.succ_mul]at h1;have⟨p1,p2,p3,p4⟩:=h.own.put (m:=i*k) (vs:=r) (by omega) (by omega) hv;rw[hr]at p2;refine⟨p1,p2,⟨?_,λq hq=>?_⟩,?_,p4⟩
 ·have e:(rows.set i r).flatten=putCells rows.flatten (i*k) r:=by
   have hw:=h.wd;clear h p1 p2 p3 p4 cX h1
   induction rows generalizing i with
   |nil=>simp at hi
   |cons a rows ih=>
    have ha:=hw a (.head _)
    cases i with
    |zero=>
     simp only[List.set_cons_zero,List.flatten_cons,Nat.zero_mul];rw[dX _ _ _ (by rw[List.length_append];omega),hr,Nat.zero_add,List.drop_left' ha];simp
    |succ i=>
     simp only[List.set_cons_succ,List.flatten_cons];rw[show(i+1)*k=a.length+i*k from by rw[ha,Nat.succ_mul];omega,uC];rw[ih (ds hi) (λr hr=>hw r (.tail _ hr))]
  rw[e];exact p3
 ·rcases List.mem_or_eq_of_mem_set hq with hq|rfl
  ·exact h.wd q hq
  ·exact hr
 ·refine Below.bB (Below.refl _ _) λx hx=>?_
  have ho:=h.own;generalize rows.flatten=xs at ho
  cases ho with
  |nil=>simp[N]at hx
  |row g n c cs hg hr hc hn=>simp[N,ou]at hx;subst hx;exact hg
def uD(a:ai)(m size j:Nat):N (aE a 0 m size) j=N a j:=by
 unfold aE;split
 ·rfl
 ·show N (N a (0*size)) j=_;rw[gk];simp
def RdK.cut{w:au}{s:H}{k:Nat}{rows:List (LV)}(h:RdK w s k rows){m c' c'':Nat}(hm:m<=rows.length):RdK w ⟨aE s.a 0 c' k,m,c''⟩ k (rows.take m):=by
 refine⟨by simp;omega,λr hr=>h.wd r (nZ hr),λi r hi j v hj=>?_⟩;show ld w (N (aE s.a 0 c' k) _)=_;rw[uD];rw[qM]at hi;split at hi
 ·exact h.rd i r hi j v hj
 ·cases hi
end Go.Vc
namespace Go.Vc
open Go Go.RowKit
def ar.FB{B E k bytes:Nat}{w:au}{s:H}{rows more:List (LV)}(h:ar B E k w s rows)(hB:B<=w)(hl:∀r∈more,r.length=k)(h1:∀r∈more,One r) (hb:(s.n+more.length)*bytes<=140737488355328)(hb':s.n+more.length<=9223372036854775807): bj bytes k w s more.length more.flatten/\∀(s':H)(w':au),aY E k w s more.length more.flatten s' w'->ar B E k w' s' (rows++more)/\s'.n=s.n+more.length/\Below B w w'/\(∀j,s.D≠some j->j<w->w'.heap[j]? =w.heap[j]?)/\(s'.D=s.D\/s'.D=some w):=by
 have⟨hp,hr⟩:=h.own.append (bytes:=bytes) (m:=more.length) (news:=more.flatten) hB (bQ hl) (gy h1) hb hb';refine⟨hp,λs' w' bq=>?_⟩;have⟨ho,hn,hx,hk,yG⟩:=hr s' w' bq;refine⟨⟨by rw[zm];exact ho,λr hr=>?_⟩,hn,hx,hk,yG⟩;rcases dp.1 hr with hr|hr
 ·exact h.wd r hr
 ·exact hl r hr
end Go.Vc
namespace Go.Vc
open Go Go.RowKit
def RdK.rest{w:au}{s:H}{k:Nat}{rows:List (LV)}(h:RdK w s k rows){l m n' c':Nat}(hn:n'=rows.length-l)(hm:m=l->rows.length<=l):RdK w ⟨aE s.a l m k,n',c'⟩ k (rows.drop l):=by
 refine⟨ds hn,λr hr=>h.wd r (zo hr),λi r hi j v hj=>?_⟩;rw[yZ]at hi;show ld w (N (aE s.a l m k) _)=_;unfold aE;split
 next e=>have:=hm e;rw[jZ U]at hi;cases hi
 ·show ld w (N (N s.a (l*k)) _)=_;rw[gk];have:=h.rd (l+i) r hi j v hj;rwa[pP,Nat.add_assoc]at this
def j_{n:Int}(h: -9223372036854775808<=n/\n<=9223372036854775807:=by omega):cH n:=h
end Go.Vc
namespace Go.Vc
open Go Go.RowKit Go.ChangeShapes Go.WideShapes
set_option maxRecDepth 100000
set_option maxHeartbeats 8000000
def O'{n:Int}(h:(Lit.int .i64 n).wf=true):cH n:=by
 have h1:IntKind.min .i64= -9223372036854775808:=by decide
 have h2:IntKind.max .i64=9223372036854775807:=by decide
 simp only[Lit.wf,fF,cC,h1,h2]at h;exact h
section
variable{d_:Type}{enc:aB×aC->d_}{P:Program}{w:au}{base:Nat}{spare:Nat->aX}{held:aX}
end
section
variable{d_:Type}{enc:aB×aC->d_}{P:Program}{w:au}{base:Nat}{spare:Nat->aX}{held:aX}
def HF(P:Program):Nat->aB->aX
 |0,_=>false
 |n+1,t=>match P.underlying t with
  |some (.int .i64)=>P.cellsOf t==1
  |some (.struct fs)=>(List.range (P.cellsOf t)).all λi=>(List.range fs.size).any λj=>match fs[j]? with
   |some f=>decide (f.offset<=i)&&decide (i<f.offset+P.cellsOf f.type)&&HF P n f.type
   |none=>false
  |_=>false
def AV:∀{n:Nat}{t:aB}{fuel:Nat}{cs:LV}{x:DataW d_×List MemPlace},HF P n t=true->DataW.trod enc P w base spare held fuel t cs=some x->
  cs.length=P.cellsOf t/\∀v∈cs,∃z,v=S z/\cH z
 |0,_,_,_,_,h,_=>by simp[HF]at h
 |n+1,t,fuel,cs,x,h,ht=>by
  unfold HF at h
  split at h
  ·rename_i e
   obtain⟨z,rfl,_,hw⟩:=DataW.trod_int e ht
   have:P.cellsOf t=1:=by simpa using h
   refine⟨by rw[this];rfl,λv hv=>?_⟩;rw[ig]at hv;exact⟨z,hv,O' hw⟩
  ·rename_i fs e;have⟨xs,k,_,_,hl,hxl,hf⟩:=DataW.trod_struct e ht;refine⟨hl,λv hv=>?_⟩;obtain⟨i,hi,rfl⟩:=List.getElem_of_mem hv;rw[JK]at h;have hj:=h i (qc.2 U);rw[List.any_eq_true]at hj;have⟨j,hjr,hj⟩:=hj;rw[qc]at hjr;split at hj
   next f hfj=>simp only[fF,cC]at hj;have hx:=hf j f hfj;rw[cK U]at hx;have⟨cX,wo⟩:=AV hj.2 hx;refine wo _ (aQ (i:=i-f.offset) ?_);rw[qM,if_pos U,yZ,cK U];congr 2;omega
   ·cases hj
  ·cases h
def xf:∀{cs:LV},(∀v∈cs,∃z,v=S z/\cH z)->∃r:ab,cs=r.map (λn=>S n)/\∀n∈r,cH n
 | [],_=>⟨[],rfl,bo⟩
 |v::cs,h=>by
  obtain⟨z,rfl,hz⟩:=h v (ka2 ..)
  obtain⟨r,rfl,hr⟩:=xf λu hu=>h u (qQ _ hu)
  refine⟨z::r,rfl,λn hn=>?_⟩
  rcases cu.1 hn with rfl|hn
  ·exact hz
  ·exact hr n hn
end
end Go.Vc
namespace Go.Vc
open Go Go.RowKit
set_option maxRecDepth 100000
set_option maxHeartbeats 8000000
section
variable{args:LV}{w:au}{R:l_}
def bJ{P:Program}{fv:aC}{R':l_}(h:bu P fv args w R)(hr:∀e w',R e w'->R' e w'):bu P fv args w R':=by
 unfold bu at h⊢;split at h
 ·split at h
  ·exact h.mono hr
  ·have⟨e,he,v,w',h1,h2⟩:=h;exact⟨e,he,v,w',h1,hr _ _ h2⟩
 ·have⟨h1,fn,tmps,assign,body,h2,h3⟩:=h;exact⟨h1,fn,tmps,assign,body,h2,h3.mono hr⟩
 ·exact h.elim
variable{f:bH}{first cap:ae}
def aet{P:Program}(hb:vJ P f=true)(h:Calls P f (first.toList++args++cap.toList).toArray w R): bu P (.func (.func f) first cap) args w R:=by
 unfold bu;simp only[hb];exact h
def bR{P:Program}{asx:ae}(hb:vJ P f=true)(ha:(first.toList++args++cap.toList).toArray=asx)(h:Calls P f asx w R): bu P (.func (.func f) first cap) args w R:=aet hb (ha▸h)
structure Mod(F:Nat->Prop)(w w':au):Prop where
 os:w'.os=w.os
 tape:w'.tape=w.tape
 output:w'.output=w.output
 size:w.heap.size<=w'.heap.size
 same:∀i,i<w.heap.size->¬F i->w'.heap[i]? =w.heap[i]?
def Mod.refl(F:Nat->Prop)(w:au):Mod F w w:=⟨rfl,rfl,rfl,ak _,λ_ _ _=>rfl⟩
variable{F:Nat->Prop}{w':au}
def Mod.P(h:Ext w w'):Mod F w w':=⟨h.os,h.tape,h.output,h.size,λi hi _=>h.block i hi⟩
variable{a b c:au}(h:Mod F a b)
def Mod.trans(k:Mod F b c):Mod F a c:=
 ⟨k.os.trans h.os,k.tape.trans h.tape,k.output.trans h.output,cV h.size k.size,λi hi hn=>(k.same i (gK hi h.size) hn).trans (h.same i hi hn)⟩
variable{F':Nat->Prop}
def Mod.mono(hs:∀i,i<a.heap.size->F i->F' i):Mod F' a b:=⟨h.os,h.tape,h.output,h.size,λi hi hn=>h.same i hi λhf=>hn (hs i hi hf)⟩
def Mod.A(k:Mod F' b c)(hs:∀i,F' i->F i\/a.heap.size<=i):Mod F a c:=
 ⟨k.os.trans h.os,k.tape.trans h.tape,k.output.trans h.output,cV h.size k.size,λi hi hn=>(k.same i (gK hi h.size) λhf=>by
  rcases hs i hf with hf|hf
  ·exact hn hf
  ·omega).trans (h.same i hi hn)⟩
variable(h:Mod F w w')
def Mod.below{B:Nat}(hB:B<=w)(hF:∀i,F i->B<=i):Below B w w':=⟨h.os,h.tape,h.output,h.size,λi hi=>h.same i U λhf=>a1N (hF i hf)⟩
def Mod.ext{w0:au}(x:Ext w0 w)(hF:∀i,F i->w0.heap.size<=i):Ext w0 w':=x.trans (h.below x.size hF)
def Mod.oX{r:Nat}(h:Rec r w w'):Mod (λi=>i=r) w w':=⟨h.os,h.tape,h.output,Nat.le_of_eq h.size.symm,λi _ hn=>h.same i hn⟩
def aiO{p:ai}(h:∀b,bM p=some b->w'.heap[b]? =w.heap[b]?):ld w' p=ld w p:=by
 cases p with
 |none=>rfl
 |some a=>
  show w'.cell? a=w.cell? a;have:=h a.block rfl;simp only[World.cell?,this]
def RdK.same{s:H}{k:Nat}{rows:List (LV)}(h:RdK w s k rows)(hs:∀b,s.D=some b->w'.heap[b]? =w.heap[b]?):RdK w' s k rows:=
 ⟨h.n,h.wd,λi r hi j v hj=>by rw[aiO λb hb=>hs b (by rw[cB]at hb;exact hb)];exact h.rd i r hi j v hj⟩
end
end Go.Vc
namespace Go.Vc
open Go Go.RowKit
section
variable{w:au}{s:H}{k:Nat}{rows:List (LV)}(h:RdK w s k rows)
def RdK.Me(hk:0<k)(gl:rows≠[]){b:Nat}(hb:s.D=some b):b<w:=by
 cases rows with
 |nil=>exact absurd rfl gl
 |cons r rows=>
  have hl:=h.wd r (.head _);have h0:r[0]? =some (r[0]'U):=cK U;have:=h.rd 0 r rfl 0 _ h0
  cases ha:s.a with
  |none=>rw[ha]at this;simp[ld,N]at this
  |some a=>
   rw[ha]at this;have fK:=XQ (w:=w) (a:=a.add (0*k+0)) this;have:(a.add (0*k+0)).block=a.block:=by unfold Addr.add;split<;>rfl
   rw[this]at fK;simp[H.D,ha]at hb;omega
def RdK.akO{w':au}(hs:rows≠[]->∀b,s.D=some b->w'.heap[b]? =w.heap[b]?):RdK w' s k rows:=by
 cases rows with
 |nil=>exact⟨h.n,h.wd,λi r hi=>by simp at hi⟩
 |cons r rows=>exact h.same (hs bo)
end
end Go.Vc
namespace Go.Vc
open Go Go.RowKit
end Go.Vc
namespace Go.Vc
open Go Go.RowKit
set_option maxRecDepth 100000
set_option maxHeartbeats 8000000
section
variable{B E k:Nat}{w:au}{rows:List (LV)}
def ar.form{s:H}(h:ar B E k w s rows)(hk:0<k):(s=⟨none,0,0⟩/\rows=[])\/ ∃g cs,s.a=O g/\B<=g/\Row w g cs E/\s.c*k<=cs.length/\s.n<=s.c/\cs.take (s.n*k)=rows.flatten/\s.n=rows.length:=by
 have hn:=(h.rd hk).n;have ho:=h.own;have hf:=bQ h.wd;generalize hx:rows.flatten=xs at ho hf
 cases ho with
 |nil=>exact .inl ⟨rfl,CV (by rw[<-hn])⟩
 |row g n c cs hg hr hc hn'=>exact .inr ⟨g,cs,rfl,hg,hr,hc,hn',rfl,hn⟩
variable{g:Nat}{cs:LV}
def ar.jO{n c:Nat}(hg:B<=g)(hr:Row w g cs E)(hc:c*k<=cs.length)(hn:n<=c)(ht:cs.take (n*k)=rows.flatten)(hw:∀r∈rows,r.length=k): ar B E k w ⟨O g,n,c⟩ rows:=⟨by rw[<-ht];exact .row g n c cs hg hr hc hn,hw⟩
def dt(a:ai)(m size:Nat):aE a 0 m size=a:=by
 unfold aE;split
 ·rfl
 ·cases a<;>simp[Addr.add]
def si(g l m size:Nat):aE (O g) l m size=if m=l then O g else some ⟨g,l*size,none⟩:=by
 unfold aE;split
 ·rfl
 ·simp[ou]
variable{E:aB}{vs:LV}{l m size:Nat}(hr:Row w g cs E)
def Row.amb(hm:m=l->vs=[])(hv:∀j,j<vs.length->cs[l*size+j]? =vs[j]?):Rd w (aE (O g) l m size) vs:=by intro j v hj;have fK:=(cG.1 hj).1;rw[si,if_neg (λe=>by rw[hm e]at fK;simp at fK),aF,hr.ld,hv j fK];exact hj
def Row.ac5(hm:m=l->vs=[])(hl:l*size+vs.length<=cs.length)(h1:One vs): Wr w (aE (O g) l m size) vs.length/\Row (Go.Vc.bB w (aE (O g) l m size) vs) g (putCells cs (l*size) vs) E/\Mod (λi=>i=g) w (Go.Vc.bB w (aE (O g) l m size) vs):=by
 by_cases e:m=l
 ·have:=hm e;subst this;rw[si,if_pos e];exact⟨λi hi=>by simp at hi,hr,Mod.refl _ _⟩
 ·rw[si,if_neg e,hr.bB hl h1];exact⟨hr.wr hl,hr.set _,⟨rfl,rfl,rfl,a05,λi _ hn=>setRow_other _ _ _ _ hn⟩⟩
def Zb{a:ai}{xs ys:LV}(hx:Rd w a xs)(hy:Rd w a ys)(hl:xs.length=ys.length):xs=ys:=by
 apply jF;intro i;rcases iR i xs.length with hi|hi
 ·have h1:=hx i xs[i] (cK hi);have h2:=hy i (ys[i]'U) (cK U);rw[h1]at h2;rw[cK hi,cK U];exact h2
 ·rw[jZ hi,jZ U]
def Row.X_(hv:∀j,j<vs.length->cs[j]? =vs[j]?):Rd w (O g) vs:=by intro j v hj;have fK:=(cG.1 hj).1;rw[aF,hr.ld,eF,hv j fK];exact hj
def Row.ne{g':Nat}{cs':LV}{E':aB}(hr':Row w g' cs' E')(hE:E≠E'):g≠g':=by rintro rfl;have:=hr.symm.trans hr';simp at this;exact hE this.2
variable{r:Nat}{g_:aC->Prop}{kvs:List (aC×aC)}
def Row.fH(hm:bG g_ w (some r) kvs):g≠r:=by rintro rfl;exact hm.vC _ _ _ hr
variable(hm:bG g_ w (some r) kvs)
def bG.same{w':au}(h:w'.heap[r]? =w.heap[r]?):bG g_ w' (some r) kvs:=by have⟨es,c,h1,h2⟩:=hm;exact⟨es,c,h.trans h1,h2⟩
def bG.lt:r<w:=by have⟨es,c,h1,h2⟩:=hm;exact(oQ.1 h1).1
def bG.new:bG g_ (w.alloc (.map #[] 0)) (some w) []:=
 ⟨#[],0,World.alloc_heap_new w _,rfl,bo,bo,bo,bo⟩
end
end Go.Vc
namespace Go.Vc
open Go Go.RowKit
def sj{k:Nat}:∀{rows:List (LV)}(m:Nat),(∀r∈rows,r.length=k)->rows.flatten.take (m*k)=(rows.take m).flatten
 | [],m,_=>by simp
 |r::rows,0,_=>by simp
 |r::rows,m+1,hw=>by
  have hr:=hw r (.head _)
  rw[List.take_succ_cons,kX,kX,show(m+1)*k=r.length+m*k by rw[O8,hr];omega,List.take_append,dN U,Nat.add_sub_cancel_left,sj m λq hq=>hw q (.tail _ hq)]
def ar.cut{B E k:Nat}{w:au}{s:H}{rows:List (LV)}(h:ar B E k w s rows)(hk:0<k){m:Nat}(hm:m<=rows.length):ar B E k w ⟨aE s.a 0 m k,m,m⟩ (rows.take m):=by
 rw[dt];rcases h.form hk with⟨rfl,rfl⟩|⟨g,cs,ha,hg,hr,hc,hn,ht,hl⟩
 ·have:m=0:=by simpa using hm
  subst this;exact .nil
 ·rw[ha];have h1:m*k<=s.n*k:=tf _ U;have h2:s.n*k<=s.c*k:=tf _ hn;refine ar.jO hg hr U (ak _) ?_ (λr hr=>h.wd r (nZ hr));have e1:cs.take (m*k)=(cs.take (s.n*k)).take (m*k):=by rw[List.take_take,Nat.min_eq_left h1]
  rw[e1,ht,sj m h.wd]
end Go.Vc
namespace Go.Vc
open Go Go.RowKit
set_option maxRecDepth 100000
set_option maxHeartbeats 8000000
structure aJ(F F':Nat->Prop)(w w':au):Prop where
 mod:Mod F w w'
 sub:∀i,F' i->F i\/w<=i
def aJ.refl(F:Nat->Prop)(w:au):aJ F F w w:=⟨Mod.refl _ _,λ_ h=>.inl h⟩
section
variable{F:Nat->Prop}
def aJ.trans{g_ d_:Nat->Prop}{a b c:au}(h:aJ F g_ a b)(k:aJ g_ d_ b c):aJ F d_ a c:=
 ⟨h.mod.A k.mod h.sub,λi hi=>by
  rcases k.sub i hi with hg|hg
  ·exact h.sub i hg
  ·exact .inr (cV h.mod.size hg)⟩
variable{w w':au}
def aJ.P(h:Ext w w'):aJ F F w w':=⟨Mod.P h,λ_ h=>.inl h⟩
def aJ.apart{F' g_:Nat->Prop}(h:aJ F F' w w')(hd:∀i,F i->¬g_ i)(hl:∀i,g_ i->i<w):∀i,F' i->¬g_ i:=λi hi hg=>by
 rcases h.sub i hi with hf|hf
 ·exact hd i hf hg
 ·have:=hl i hg;omega
variable{s:H}
def Mod.xq(hb:Below 0 w w')(hk:∀j,s.D≠some j->j<w->w'.heap[j]? =w.heap[j]?):Mod (λi=>s.D=some i) w w':=
 ⟨hb.os,hb.tape,hb.output,hb.size,λi hi hn=>hk i hn hi⟩
variable{g:Nat}{cs:LV}(h:Mod F w w')
def Mod.row{t:aB}(hr:Row w g cs t)(hn:¬F g):Row w' g cs t:=hr.same (h.same g hr.lt hn)
variable{B k:Nat}{rows:List (LV)}
def Mod.gR{E:Nat}(ho:ar B E k w s rows)(hn:∀b,s.D=some b->¬F b):ar B E k w' s rows:=
 ho.aV λb hb=>h.same b (ho.own.lt hb).2 (hn b hb)
variable{g_:aC->Prop}
def Mod.map{r:Nat}{kvs:List (aC×aC)}(hm:bG g_ w (some r) kvs)(hn:¬F r):bG g_ w' (some r) kvs:=hm.same (h.same r hm.lt hn)
def Mod.rdK(hk:0<k)(hr:RdK w s k rows)(hn:rows≠[]->∀b,s.D=some b->¬F b):RdK w' s k rows:=
 hr.akO λgl b hb=>h.same b (hr.Me hk gl hb) (hn gl b hb)
variable{a b b_:Nat}{C x l:LV}
def ae5(hb:b=a+x.length)(hN:b_=b+l.length)(hC:b_<=C.length):(putCells (putCells C a x) b l).take b_=C.take a++x++l:=by
 have ha:(C.take a).length=a:=by rw[cS];omega
 rw[dX x C a U];have hD:(C.take a++x).length=b:=by rw[cj,ha,hb]
 rw[dX _ _ _ (by rw[cj,hD,wU];omega),FI hD,FI (by rw[cj,hD];omega)]
def aaW(hb:b=a+x.length)(hN:b_=b+l.length)(hC:b_<=C.length):(putCells (putCells C b l) a x).take b_=C.take a++x++l:=by
 have ha:(C.take a).length=a:=by rw[cS];omega
 have kQ:(C.take b).length=b:=by rw[cS];omega
 rw[dX l C b U];have h1:(C.take b++l++C.drop (b+l.length)).take a=C.take a:=by rw[fT,AO U,List.take_take,Nat.min_eq_left U]
 have h2:(C.take b++l++C.drop (b+l.length)).drop (a+x.length)=l++C.drop (b+l.length):=by rw[fT,<-hb,List.drop_left' kQ]
 have hl:(C.take b++l++C.drop (b+l.length)).length=C.length:=by simp;omega
 rw[dX _ _ _ (by rw[hl];omega),h1,h2,<-fT,FI (by simp only[cj,ha];omega)]
def am2{lo hi:Nat}(h:lo+hi<=1000000):I (((fC (I ((lo:Int)+(hi:Int)))):Int).fdiv (2^(min (1:Int).toNat 64)))=(((lo+hi)/2:Nat):Int):=by
 rw[aL (n:=(lo:Int)+hi) j_];have h2:fC ((lo:Int)+hi)=lo+hi:=a08
 rw[h2];have h3:((lo:Int)+hi).fdiv (2^(min (1:Int).toNat 64))=(((lo+hi)/2:Nat):Int):=by show((lo:Int)+hi).fdiv 2=_;rw[tj _ U];omega
 rw[h3,wI]
variable{E:aB}{v:aC}(hr:Row w g cs E)
def Row.at(j:Nat)(h:cs[j]? =some v):Vc.ld w (N (O g) j)=some v:=by rw[aF,hr.ld,eF];exact h
def Row.ft{j:Nat}(hj:j<cs.length)(hv:v.oneCell'=true): Wr w (N (O g) j) 1/\∀w',w'=Vc.bB w (N (O g) j) [v]->Row w' g (putCells cs j [v]) E/\Mod (λi=>i=g) w w':=by
 rw[aF,eF];have h1:One [v]:=by intro u hu;simp at hu;subst hu;exact hv
 refine⟨hr.wr U,λw' e=>?_⟩;rw[hr.bB m_ h1]at e;subst e;exact⟨hr.set _,rfl,rfl,rfl,a05,λi _ hn=>setRow_other _ _ _ _ hn⟩
def aT{E:Nat}(h:ar B E k w s rows)(hk:0<k)(hb:s.D=some b):∃cs,Row w b cs E:=by
 rcases h.form hk with⟨hs,-⟩|⟨g0,cs,ha,hg0,hr,-⟩
 ·rw[hs]at hb;cases hb
 ·unfold H.D at hb;rw[ha]at hb;have:g0=b:=by simpa using hb
  exact⟨cs,this▸hr⟩
end
end Go.Vc
namespace Go.aN
open Go Go.Vc
set_option maxRecDepth 100000
set_option maxHeartbeats 8000000
abbrev Rn:=Int×Int
def cm(l:List Rn):ab:=l.flatMap λr=>List.replicate r.1.toNat r.2
def jK(out:List Rn)(r:Rn):List Rn:=
 if r.1<1 then out else
 match out.getLast? with
 |some q=>if q.2=r.2 then out.dropLast++[(q.1+r.1,q.2)]else out++[r]
 |none=>out++[r]
def iC(c:ab):List Rn:=c.foldl (λo b=>jK o (1,b)) []
def bF(l:List Rn):Int:=(l.map (·.1)).sum
inductive Nm:List Rn->Prop
 |nil:Nm []
 |snoc (l:List Rn) (r:Rn) (h:Nm l) (h1:1<=r.1) (h2:∀q,l.getLast? =some q->q.2≠r.2):Nm (l++[r])
section
variable{o:List Rn}{r:Rn}
def my(h:r.1<1):jK o r=o:=by unfold jK;rw[if_pos h]
variable{l:List Rn}
def kF{q:Rn}(h1:1<=r.1)(e:q.2=r.2):jK (l++[q]) r=l++[(q.1+r.1,q.2)]:=by
 unfold jK;have hl:(l++[q]).getLast? =some q:=by simp
 rw[if_neg U,hl];simp[e]
def gW(h1:1<=r.1)(h2:∀q,l.getLast? =some q->q.2≠r.2):jK l r=l++[r]:=by
 unfold jK;rw[if_neg U];split
 next q hq=>rw[if_neg (h2 q hq)]
 ·rfl
def ya(l:List Rn):l=[]\/∃m q,l=m++[q]:=by
 rcases List.eq_nil_or_concat l with h|⟨m,q,h⟩
 ·exact .inl h
 ·exact .inr ⟨m,q,ds h⟩
def aak(o:List Rn){a c b:Int}(ha:1<=a)(hc:1<=c):jK (jK o (a,b)) (c,b)=jK o (a+c,b):=by
 have hac:1<=a+c:=by omega
 rcases ya o with rfl|⟨m,q,rfl⟩
 ·rw[gW (l:=[]) (r:=(a,b)) ha bo,gW (l:=[]) (r:=(a+c,b)) hac bo,kF (q:=(a,b)) (r:=(c,b)) hc rfl]
 ·by_cases e:q.2=b
  ·rw[kF (r:=(a,b)) ha e,kF (r:=(a+c,b)) hac e,kF (q:=(q.1+a,q.2)) (r:=(c,b)) hc e];simp[Int.add_assoc]
  ·have h2:∀x:Int,∀p,(m++[q]).getLast? =some p->p.2≠((x,b):Rn).2:=by intro x p hp;simp at hp;subst hp;exact e
   rw[gW (r:=(a,b)) ha (h2 a),gW (r:=(a+c,b)) hac (h2 _),kF (q:=(a,b)) (r:=(c,b)) hc rfl]
def Ra(o:List Rn)(b:Int):∀n:Nat,(List.replicate n b).foldl (λo b=>jK o (1,b)) o=jK o ((n:Int),b)
 |0=>by rw[my bo];rfl
 |n+1=>by
  rw[List.replicate_succ',og,Ra o b n]
  show jK (jK o ((n:Int),b)) (1,b)=_
  rcases Fp n with rfl|hn
  ·rw[my (r:=(((0:Nat):Int),b)) bo];rfl
  ·rw[aak o U U];rfl
def aiL(c d:ab):iC (c++d)=d.foldl (λo b=>jK o (1,b)) (iC c):=by unfold iC;rw[og]
def Q0(c:ab)(r:Rn):jK (iC c) r=iC (c++List.replicate r.1.toNat r.2):=by
 rw[aiL,Ra];rcases wO r.1 1 with h|h
 ·rw[my h,my (by show((r.1.toNat:Nat):Int)<1;omega)]
 ·rw[show((r.1.toNat:Nat):Int)=r.1 from by omega]
def Nm.push(h:Nm o)(r:Rn):Nm (jK o r):=by
 rcases wO r.1 1 with h1|h1
 ·rw[my h1];exact h
 ·cases h with
  |nil=>rw[gW h1 bo];exact .snoc _ _ .nil h1 bo
  |snoc l q hl hq h2=>
   by_cases e:q.2=r.2
   ·rw[kF h1 e];exact .snoc _ _ hl (by show 1<=q.1+r.1;omega) h2
   ·have h3:∀p,(l++[q]).getLast? =some p->p.2≠r.2:=by intro p hp;simp at hp;subst hp;exact e
    rw[gW h1 h3];exact .snoc _ _ (.snoc _ _ hl hq h2) h1 h3
def GG(c:ab):Nm (iC c):=by
 have:∀(c:ab)(o:List Rn),Nm o->Nm (c.foldl (λo b=>jK o (1,b)) o):=by
  intro c
  induction c with
  |nil=>intro o h;exact h
  |cons b c ih=>intro o h;exact ih _ (h.push _)
 exact this c [] .nil
def iw(l m:List Rn):cm (l++m)=cm l++cm m:=by unfold cm;rw[List.flatMap_append]
def jk(r:Rn):cm [r]=List.replicate r.1.toNat r.2:=by simp[cm]
variable(h:Nm l)
def Nm.fix:iC (cm l)=l:=by
 induction h with
 |nil=>rfl
 |snoc l r hl h1 h2 ih=>
  rw[iw,jk,<-Q0,ih,gW h1 h2]
def Nm.pos:∀r∈l,1<=r.1:=by
 induction h with
 |nil=>simp
 |snoc l r hl h1 h2 ih=>
  intro q hq;rcases dp.1 hq with hq|hq
  ·exact ih q hq
  ·simp at hq;rw[hq];exact h1
def Vm(h:Nm o)(r:Rn):cm (jK o r)=cm o++List.replicate r.1.toNat r.2:=by
 rcases wO r.1 1 with h1|h1
 ·rw[my h1,show r.1.toNat=0 from by omega];simp
 ·cases h with
  |nil=>rw[gW h1 bo,iw,jk]
  |snoc l q hl hq h2=>
   by_cases e:q.2=r.2
   ·rw[kF h1 e,iw,iw,jk,jk];show _++List.replicate (q.1+r.1).toNat q.2=_;rw[show(q.1+r.1).toNat=q.1.toNat+r.1.toNat from by omega,<-List.replicate_append_replicate,e];simp
   ·rw[gW h1 (by intro p hp;simp at hp;subst hp;exact e),iw,jk]
def oK(c:ab):cm (iC c)=c:=by
 have:∀(c:ab)(o:List Rn),Nm o->cm (c.foldl (λo b=>jK o (1,b)) o)=cm o++c:=by
  intro c
  induction c with
  |nil=>intro o h;simp
  |cons b c ih=>intro o h;rw[qY,ih _ (h.push _),Vm h];simp
 rw[iC,this c [] .nil];rfl
def Re(l m:List Rn):bF (l++m)=bF l+bF m:=by simp[bF]
def fb{l:List Rn}(h:∀r∈l,0<=r.1):bF l=((cm l).length:Nat):=by
 induction l with
 |nil=>rfl
 |cons r l ih=>
  have:=ih λq hq=>h q (.tail _ hq)
  have hr:=h r (.head _);simp only[bF,eH,List.sum_cons]at this⊢;rw[this];simp[cm];omega
def nj(c:ab):bF (iC c)=(c.length:Nat):=by rw[fb λr hr=>by have:=(GG c).pos r hr;omega,oK]
def Nm.amF:l.length<=(cm l).length:=by
 induction h with
 |nil=>simp
 |snoc l r hl h1 h2 ih=>rw[iw,jk];simp;omega
def sa(c:ab):(iC c).length<=c.length:=by have:=(GG c).amF;rwa[oK]at this
end
end Go.aN
namespace Go.aN
def aiM{l:List Rn}(h:∀r ∈ l,0<=r.1){q:Rn}(hq:q ∈ l):q.1<=bF l:=by
 induction l with
 |nil=>cases hq
 |cons r l ih=>
  have hr:=h r (.head _);have hl:0<=bF l:=by rw [fb λq hq=>h q (.tail _ hq)];omega
  have e:bF (r::l)=r.1+bF l:=by simp [bF]
  rw [e];rcases cu.1 hq with rfl|hq
  ·omega
  ·have:=ih (λq hq=>h q (.tail _ hq)) hq;omega
def oA{c:ab}{q:Rn}(hq:q∈iC c):1<=q.1/\q.1<=(c.length:Nat):=by have h:=(GG c).pos;refine⟨h q hq,?_⟩;rw[<-nj];exact aiM (λr hr=>a1N (h r hr)) hq
def Jg(c:ab)(a b:Int):ab:=(c.take b.toNat).drop a.toNat
def aes(c:ab)(n:Nat)(x a b:Int)(ha:0<=a)(hb:0<=b): Jg (c++List.replicate n x) a b=Jg c a b++List.replicate (min b (c.length+n:Nat)-max a (c.length:Nat)).toNat x:=by
 unfold Jg;rw[List.take_append,List.drop_append,List.take_replicate,List.drop_replicate,cS];congr 2;omega
end Go.aN
namespace Go.aN
def AM(c:ab)(a b x:Int):ab:=c.mapIdx λi y=>if a<=(i:Int)/\(i:Int)<b then x else y
def aal(c:ab)(a b x:Int):(AM c a b x).length=c.length:=by simp[AM]
def Vn(c:ab)(a b x:Int)(h:min (max b 0) (c.length:Int)<=min (max a 0) (c.length:Int)):AM c a b x=c:=by
 apply jF;intro i;unfold AM;rw[List.getElem?_mapIdx];rcases iR i c.length with hi|hi
 ·rw[cK hi];show some (if _ then x else _)=_;rw[if_neg U]
 ·rw[jZ hi];rfl
def Ku(c:ab)(a b x:Int)(h:min (max a 0) (c.length:Int)<min (max b 0) (c.length:Int)): AM c a b x=Jg c 0 (min (max a 0) (c.length:Int))++List.replicate (min (max b 0) (c.length:Int)-min (max a 0) (c.length:Int)).toNat x++Jg c (min (max b 0) (c.length:Int)) c.length:=by
 have h1:(Jg c 0 (min (max a 0) (c.length:Int))).length=(min (max a 0) (c.length:Int)).toNat:=by unfold Jg;simp;omega
 apply jF;intro i;unfold AM;rw[List.getElem?_mapIdx,fT];rcases iR i c.length with hi|hi
 ·rw[cK hi];show some (if _ then x else _)=_;rcases iR i (min (max a 0) (c.length:Int)).toNat with hl|hl
  ·rw[if_neg U,oS U];unfold Jg;rw[yZ,qM];simp only[Int.toNat_zero,eF];rw[if_pos hl,cK hi]
  ·rw[pO U,h1];rcases iR i (min (max b 0) (c.length:Int)).toNat with hm|hm
   ·rw[if_pos U,oS (by rw[Hl];omega),Ao,if_pos U]
   ·rw[if_neg U,pO (by rw[Hl];omega),Hl];unfold Jg;rw[yZ,qM,if_pos U];rw[show(min (max b 0) (c.length:Int)).toNat+(i-(min (max a 0) (c.length:Int)).toNat-(min (max b 0) (c.length:Int)-min (max a 0) (c.length:Int)).toNat)=i from by omega];rw[cK hi]
 ·rw[jZ hi];symm;rw[Option.map_none,jZ];simp only[cj,Hl,h1];unfold Jg;simp;omega
def aam(c:ab)(i x:Int)(h0:0<=i)(h1:i<(c.length:Int)):AM c i (i+1) x=c.set i.toNat x:=by
 apply jF;intro j;unfold AM;rw[List.getElem?_mapIdx,iS];rcases iR j c.length with hj|hj
 ·rw[cK hj];show some (if _ then x else _)=_;by_cases e:i.toNat=j
  ·rw[if_pos U,if_pos e,if_pos U]
  ·rw[if_neg U,if_neg e]
 ·rw[jZ hj,if_neg U];rfl
def T_(c:ab)(i:Int):Int:=if i<0 then -1 else c.getD i.toNat (-1)
def aiN(c:ab)(i:Int)(h:i<0\/(c.length:Int)<=i):T_ c i= -1:=by
 unfold T_;split
 ·rfl
 ·rw[dG,jZ U];rfl
def amG(c d:ab)(n:Nat)(x i:Int)(h0:(c.length:Int)<=i)(h1:i<(c.length:Int)+n):T_ (c++List.replicate n x++d) i=x:=by unfold T_;rw[if_neg U,dG,fT,pO U,oS (by rw[Hl];omega),Ao,if_pos U];rfl
def kx(may:Int->aX):Option Int->Int->List Rn->aX
 |_,left,[]=>left==0
 |prev,left,r::t=>if r.1<1\/r.1>left\/may r.2=false\/prev=some r.2 then false else kx may (some r.2) (left-r.1) t
def su(may:Int->aX)(l:List Rn)(n:Int):aX:=decide (0<n)&&kx may none n l
def Rf{may:Int->aX}:∀{l:List Rn}{prev:Option Int}{left:Int},kx may prev left l=true->bF l=left
 | [],_,left,h=>by simp[kx]at h;rw[h];rfl
 |r::t,prev,left,h=>by
  unfold kx at h
  split at h
  ·cases h
  ·have:=Rf h
   simp only[bF,eH,List.sum_cons]at this⊢
   omega
def BI{may:Int->aX}:∀{l:List Rn}{prev:Option Int}{left:Int},(∀r∈l,1<=r.1/\may r.2=true)->(∀i q r,l[i]? =some q->l[i+1]? =some r->q.2≠r.2)->(∀r,l.head? =some r->prev≠some r.2)->bF l=left->kx may prev left l=true
 | [],_,left,_,_,_,h=>by simp[kx,<-h,bF]
 |r::t,prev,left,h1,h2,h3,h=>by
  have hr:=h1 r (.head _)
  have ht:0<=bF t:=by rw[fb λq hq=>a1N (h1 q (.tail _ hq))];omega
  have e:bF (r::t)=r.1+bF t:=by simp[bF]
  unfold kx;rw[if_neg (by
   have:=h3 r rfl;rintro(h|h|h|h)
   ·omega
   ·omega
   ·rw[hr.2]at h;cases h
   ·exact this h)]
  refine BI (λq hq=>h1 q (.tail _ hq)) (λi q s hq hs=>h2 (i+1) q s (ds hq) (ds hs)) (λq hq=>?_) U;have:=h2 0 r q rfl (by cases t<;>simp_all);intro e2;exact this (Option.some.inj e2)
def Nm.next{l:List Rn}(h:Nm l):∀i q r,l[i]? =some q->l[i+1]? =some r->q.2≠r.2:=by
 induction h with
 |nil=>intro i q r h;simp at h
 |snoc l p hl h1 h2 ih=>
  intro i q r hq hr;rcases iR (i+1) l.length with fK|S5
  ·rw[oS U]at hq hr;exact ih i q r hq hr
  ·have hi:=(cG.1 hr).1;simp at hi;have:i+1=l.length:=by omega
   rw[oS U]at hq;rw[pO U,this]at hr;simp at hr;subst hr;refine h2 q ?_;rw[List.getLast?_eq_getElem?,show l.length-1=i from by omega];exact hq
def ZS{l:List Rn}{r:Rn}(h:r∈l)(h1:1<=r.1):r.2∈cm l:=by unfold cm;refine List.mem_flatMap.2 ⟨r,h,?_⟩;rw[Pd];exact⟨U,rfl⟩
end Go.aN
namespace Go.aN
end Go.aN
namespace Go.Code
open Go Go.Vc Go.aN
set_option maxRecDepth 100000
set_option maxHeartbeats 8000000
def vY:Nat->Int->ab
 |0,_=>[]
 |k+1,x=>if x<128 then [x]else(128+x%128)::vY k (x/128)
def qv(n:Int):ab:=if n<0\/n>1048576 then []else vY 3 n
def sk:Nat->Nat->Int->ab->Int×Int×Int
 |0,_,_,_=>(0,0,2)
 |_+1,_,_,[]=>(0,0,3)
 |k+1,i,n,c::t=>if c>=128 then sk k (i+1) (n+c%128*128^i) t
  else if(c=0/\0<i)\/n+c%128*128^i>1048576 then(0,0,2)else(n+c%128*128^i,(i:Int)+1,0)
def fA(b:ab):Int×Int×Int:=sk 3 0 0 b
def wrap_u8(x:Int):qH x=x%256:=by unfold IntKind.wrap;simp[IntKind.bits,IntKind.signed]
def aqQ(x:Int)(h:0<=x):TJ .u8 (qH x) 128=128+x%128:=by
 rw[wrap_u8];have key:∀a<256,TJ .u8 ((a:Nat):Int) 128=128+((a:Nat):Int)%128:=by decide+kernel
 have:=key (x%256).toNat U;rw[show(((x%256).toNat:Nat):Int)=x%256 from by omega]at this;rw[this];omega
def Zf(c:Int)(h:0<=c)(h':c<256):mH .u8 c 128=c%128:=by
 have key:∀a<256,mH .u8 ((a:Nat):Int) 128=((a:Nat):Int)%128:=by decide+kernel
 have:=key c.toNat U;rwa[show((c.toNat:Nat):Int)=c from by omega]at this
def aml(n c k:Nat)(h:n<2^k)(hb:n+c*2^k<4611686018427387904):TJ .i64 (n:Int) ((c*2^k:Nat):Int)=((n+c*2^k:Nat):Int):=by
 unfold TJ;have e1:∀m:Nat,m<4611686018427387904->(Ok IntKind.i64.bits (m:Int)).toNat=m:=by intro m hm;rw[zg];show((m:Int)%((2^64:Nat):Int)).toNat=m;rw[show((2^64:Nat):Int)=18446744073709551616 from by decide];omega
 rw[BitVec.toNat_or,e1 n U,e1 _ U,Nat.or_comm];have:=Nat.shiftLeft_add_eq_or_of_lt h c;rw[Nat.shiftLeft_eq]at this;rw[<-this,CO];exact wI
end Go.Code
namespace Go.Code
open Go Go.Vc Go.aN
def amm(k:Nat)(hk:k<3)(n c:Int)(h0:0<=n)(h1:n<128^k)(hc:0<=c)(hc':c<256): TJ .i64 n (I ((I (mH .u8 c 128))*2^(min ((I (7*(k:Int))):Int).toNat 64)))=n+c%128*128^k/\0<=I (7*(k:Int)):=by
 have hw:=aL (n:=7*(k:Int)) j_;rw[hw,Zf c hc hc',aL (n:=c%128) j_];refine⟨?_,U⟩;have e:((2:Int)^(min ((7*(k:Int)):Int).toNat 64))=128^k:=by
  have:k=0\/k=1\/k=2:=by omega
  rcases this with rfl|rfl|rfl<;>decide
 rw[e];have hp:(128:Int)^k<=16384/\1<=(128:Int)^k:=by
  have:k=0\/k=1\/k=2:=by omega
  rcases this with rfl|rfl|rfl<;>decide
 have hm:c%128*128^k<=127*16384:=by
  have:k=0\/k=1\/k=2:=by omega
  rcases this with rfl|rfl|rfl<;>simp<;>omega
 have hm0:0<=c%128*128^k:=JX U U;rw[aL (n:=c%128*128^k) j_];have e7:((2^(7*k):Nat):Int)=128^k:=by
  have:k=0\/k=1\/k=2:=by omega
  rcases this with rfl|rfl|rfl<;>decide
 have e2:c%128*128^k=(((c%128).toNat*2^(7*k):Nat):Int):=by rw[Int.natCast_mul,e7,show(((c%128).toNat:Nat):Int)=c%128 from by omega]
 have:=aml n.toNat (c%128).toNat (7*k) (by
  have:((n.toNat:Nat):Int)<((2^(7*k):Nat):Int):=by rw[e7];omega
  omega) (by
  have:(((c%128).toNat*2^(7*k):Nat):Int)<=127*16384:=by rw[<-e2];exact hm
  omega)
 rw[e2,show n=((n.toNat:Nat):Int)from by omega];rw[this];simp
def zJ{k j:Nat}{n c:Int}{t:ab}:sk (j+1) k n (c::t)=if c>=128 then sk j (k+1) (n+c%128*128^k) t else if(c=0/\0<k)\/n+c%128*128^k>1048576 then(0,0,2)else(n+c%128*128^k,(k:Int)+1,0):=rfl
def adt(k:Nat)(n c:Int)(h1:n<128^k):n+c%128*128^k<128^(k+1):=by have hp:0<=(128:Int)^k:=Int.pow_nonneg U;have:c%128*128^k<=127*128^k:=Int.mul_le_mul_of_nonneg_right U hp;rw[Int.pow_succ];omega
end Go.Code
namespace Go.Code
open Go Go.Vc Go.aN
def Ge:Int->List Rn->aX
 |_,[]=>true
 |left,r::t=>if r.1<1\/r.1>left then false else Ge (left-r.1) t
def P5:∀{l:List Rn}{left:Int},Ge left l=true->(∀r∈l,1<=r.1)/\(l≠[]->bF l<=left)
 | [],_,_=>⟨bo,λh=>absurd rfl h⟩
 |r::t,left,h=>by
  unfold Ge at h
  split at h
  ·cases h
  ·have⟨h1,h2⟩:=P5 h
   refine⟨λq hq=>?_,λ_=>?_⟩
   ·rcases cu.1 hq with rfl|hq
    ·omega
    ·exact h1 q hq
   ·have e:bF (r::t)=r.1+bF t:=by simp[bF]
    by_cases ht:t=[]
    ·subst ht;rw[e];simp[bF];omega
    ·have:=h2 ht;omega
def okW(may:Int->aX)(l:List Rn):aX:=Ge 1048576 l&&su may l (bF l)
def r6(l:List Rn):ab:=l.flatMap λr=>r.2%256::qv r.1
def ah6(l m:List Rn):r6 (l++m)=r6 l++r6 m:=by unfold r6;rw[List.flatMap_append]
def adu{l:List Rn}{k:Nat}{r:Rn}(hr:l[k]? =some r):r6 (l.take (k+1))=r6 (l.take k)++(r.2%256::qv r.1):=by rw[dq,hr,ah6];simp[r6]
def P6:∀(k:Nat)(x:Int),(vY k x).length<=k
 |0,_=>by simp[vY]
 |k+1,x=>by
  unfold vY
  split
  ·simp
  ·have:=P6 k (x/128);simp;omega
def P7(n:Int):(qv n).length<=3:=by
 unfold qv;split
 ·simp
 ·exact P6 3 n
def Xb(l:List Rn):(r6 l).length<=4*l.length:=by
 induction l with
 |nil=>simp[r6]
 |cons r l ih=>
  have:=P7 r.1;unfold r6 at ih⊢;rw[List.flatMap_cons,cj,cL,cL];omega
def Xg:∀(k:Nat)(x:Int),0<=x->∀c∈vY k x,0<=c/\c<256
 |0,_,_,c,h=>by simp[vY]at h
 |k+1,x,hx,c,h=>by
  unfold vY at h
  split at h
  ·exact a0d
  ·rcases cu.1 h with rfl|h
   ·omega
   ·exact Xg k (x/128) U c h
def ah7(n:Int):∀c∈qv n,0<=c/\c<256:=by
 intro c h;unfold qv at h;split at h
 ·simp at h
 ·exact Xg 3 n U c h
def amh(l:List Rn):∀c∈r6 l,0<=c/\c<256:=by
 intro c h;unfold r6 at h;have⟨r,_,hc⟩:=List.mem_flatMap.1 h;rcases cu.1 hc with rfl|hc
 ·omega
 ·exact ah7 r.1 c hc
end Go.Code
namespace Go.Code
open Go Go.Vc Go.aN
end Go.Code
namespace Go.Code
open Go Go.Vc Go.aN
def J1:∀{l:List Rn}{left:Int},(∀r∈l,1<=r.1)->bF l<=left->Ge left l=true
 | [],_,_,_=>rfl
 |r::t,left,h,hs=>by
  have e:bF (r::t)=r.1+bF t:=by simp[bF]
  have h1:=h r (.head _);have ht:0<=bF t:=by rw[fb λq hq=>a1N (h q (.tail _ hq))];omega
  unfold Ge;rw[if_neg U];exact J1 (λq hq=>h q (.tail _ hq)) U
def amn{may:Int->aX}{l:List Rn}(h:Nm l)(hm:∀r∈l,may r.2=true)(hs:bF l<=1048576)(gl:l≠[]):okW may l=true:=by
 unfold okW;rw[J1 h.pos hs];unfold su;have hp:0<bF l:=by
  cases l with
  |nil=>exact absurd rfl gl
  |cons r t=>
   have e:bF (r::t)=r.1+bF t:=by simp[bF]
   have h1:=h.pos r (.head _);have ht:0<=bF t:=by rw[fb λq hq=>a1N (h.pos q (.tail _ hq))];omega
   omega
 rw[decide_eq_true hp,BI (λr hr=>⟨h.pos r hr,hm r hr⟩) h.next (λr _=>by simp) rfl];rfl
end Go.Code
namespace Go.Code
open Go Go.Vc Go.aN
def od(may:Int->aX):Nat->ab->Int->Int->List Rn->List Rn×Int
 |0,_,_,_,_=>([],3)
 |_+1,[],n,_,acc=>if n>0 then([],3)else(acc,0)
 |f+1,c::t,n,last,acc=>
  if may c=false\/c=last then([],2)
  else if(fA t).2.2≠0 then([],(fA t).2.2)
  else if(fA t).1=0\/(fA t).1>n then([],2)
  else if n-(fA t).1=0 then(if t.drop (fA t).2.1.toNat=[]then(acc++[((fA t).1,c)],0)else([],2))
  else od may f (t.drop (fA t).2.1.toNat) (n-(fA t).1) c (acc++[((fA t).1,c)])
def j6(may:Int->aX)(b:ab)(n:Int):List Rn×Int:=od may (b.length+1) b n (-1) []
def ER:∀(k i:Nat)(m:Int)(b:ab),0<=m->(sk k i m b).2.2=0->0<=(sk k i m b).1/\(sk k i m b).1<=1048576/\(i:Int)+1<=(sk k i m b).2.1/\(sk k i m b).2.1<=(i:Int)+b.length
 |0,_,_,_,_,h=>by simp[sk]at h
 |k+1,i,m,[],_,h=>by simp[sk]at h
 |k+1,i,m,c::t,h0,h=>by
  have hp:0<=c%128*128^i:=JX U (Int.pow_nonneg U)
  rw[zJ]at h⊢
  split
  ·rename_i hc
   rw[if_pos hc]at h
   have:=ER k (i+1) _ t U h
   simp only[cL]
   omega
  ·rename_i hc
   rw[if_neg hc]at h
   split
   next hz=>rw[if_pos hz]at h;simp at h
   ·rename_i hz
    simp only[cL]
    refine⟨U,?_,U,U⟩
    rcases wO 1048576 (m+c%128*128^i)with hh|hh
    ·exact absurd (.inr hh) hz
    ·exact hh
end Go.Code
namespace Go.Code
open Go Go.Vc Go.aN
set_option maxRecDepth 100000
set_option maxHeartbeats 8000000
section
variable{may:Int->aX}{last:Int}
def KQ{f:Nat}{n:Int}{acc:List Rn}:od may (f+1) [] n last acc=if n>0 then([],3)else(acc,0):=rfl
def Dv(may:Int->aX)(f:Nat)(c:Int)(t:ab)(n last:Int)(acc:List Rn):od may (f+1) (c::t) n last acc= if may c=false\/c=last then([],2) else if(fA t).2.2≠0 then([],(fA t).2.2) else if(fA t).1=0\/(fA t).1>n then([],2) else if n-(fA t).1=0 then(if t.drop (fA t).2.1.toNat=[]then(acc++[((fA t).1,c)],0)else([],2)) else od may f (t.drop (fA t).2.1.toNat) (n-(fA t).1) c (acc++[((fA t).1,c)]):=rfl
def KS{may:Int->aX}:∀(f:Nat)(b:ab)(n last:Int)(acc:List Rn),(od may f b n last acc).1.length<=acc.length+b.length
 |0,_,_,_,_=>by simp[od]
 |f+1,[],n,_,acc=>by rw[KQ];split<;>simp
 |f+1,c::t,n,last,acc=>by
  rw[Dv]
  split
  ·simp
  split
  ·simp
  split
  ·simp
  split
  ·split<;>simp
  ·have:=KS (may:=may) f (t.drop (fA t).2.1.toNat) (n-(fA t).1) c (acc++[((fA t).1,c)])
   simp only[cj,cL,mV,wU]at this⊢
   omega
def abg(b:ab)(n:Int):(j6 may b n).1.length<=b.length:=by have:=KS (may:=may) (b.length+1) b n (-1) [];simpa[j6]using this
def ji(may:Int->aX):Int->List Rn->Prop
 |_,[]=>True
 |last,r::t=>1<=r.1/\r.1<=1048576/\0<=r.2/\r.2<256/\may r.2=true/\r.2≠last/\ji may r.2 t
def ji.pos:∀{l:List Rn}{last:Int},ji may last l->∀r∈l,1<=r.1
 | [],_,_=>by simp
 |q::t,_,h=>by
  have⟨h1,_,_,_,_,_,h7⟩:=h
  intro r hr
  rcases cu.1 hr with rfl|hr
  ·exact h1
  ·exact h7.pos r hr
def Ss(r:Rn)(t:List Rn)(h:0<=r.2/\r.2<256):r6 (r::t)=r.2::(qv r.1++r6 t):=by unfold r6;rw[List.flatMap_cons,Int.emod_eq_of_lt h.1 h.2];rfl
def abh(r:Rn)(t:List Rn):bF (r::t)=r.1+bF t:=by simp[bF]
def aft{t:ab}(hi:∀c∈t,0<=c/\c<256)(h:(fA t).2.2=0):qv (fA t).1=t.take (fA t).2.1.toNat:=by
 unfold fA at h⊢
 cases t with
 |nil=>simp[sk]at h
 |cons a t=>
  have ha:=hi a (.head _);rw[zJ]at h⊢;split
  ·rename_i ha2;rw[if_pos ha2]at h
   cases t with
   |nil=>simp[sk]at h
   |cons b t=>
    have hb:=hi b (.tail _ (.head _));rw[zJ]at h⊢;split
    ·rename_i lk;rw[if_pos lk]at h
     cases t with
     |nil=>simp[sk]at h
     |cons c t=>
      have hc:=hi c (.tail _ (.tail _ (.head _)));rw[zJ]at h⊢;split
      next nA=>rw[if_pos nA]at h;simp[sk]at h
      ·rename_i nA;rw[if_neg nA]at h;split
       next hz=>rw[if_pos hz]at h;simp at h
       ·rename_i hz;have e:(0+a%128*128^0+b%128*128^(0+1)+c%128*128^(0+1+1):Int)=a%128+b%128*128+c%128*16384:=by simp
        rw[e]at hz⊢;have Er:c≠0:=λe0=>hz (.inl ⟨e0,U⟩)
        have hle:a%128+b%128*128+c%128*16384<=1048576:=by
         rcases wO 1048576 (a%128+b%128*128+c%128*16384)with hh|hh
         ·exact absurd (.inr hh) hz
         ·exact hh
        have ec:c%128=c:=by omega
        rw[ec]at hle⊢;unfold qv;rw[if_neg U];simp only[vY];rw[if_neg U,if_neg U,if_pos U];have e1:128+(a%128+b%128*128+c*16384)%128=a:=by omega
        have e2:128+(a%128+b%128*128+c*16384)/128%128=b:=by omega
        have e3:(a%128+b%128*128+c*16384)/128/128=c:=by omega
        rw[e1,e2,e3];rfl
    ·rename_i lk;rw[if_neg lk]at h;split
     next hz=>rw[if_pos hz]at h;simp at h
     ·rename_i hz;have e:(0+a%128*128^0+b%128*128^(0+1):Int)=a%128+b%128*128:=by simp
      rw[e]at hz⊢;have OM:b≠0:=λe0=>hz (.inl ⟨e0,U⟩)
      have ec:b%128=b:=by omega
      rw[ec]at hz⊢;unfold qv;rw[if_neg U];simp only[vY];rw[if_neg U,if_pos U];have e1:128+(a%128+b*128)%128=a:=by omega
      have e2:(a%128+b*128)/128=b:=by omega
      rw[e1,e2];rfl
  ·rename_i ha2;rw[if_neg ha2]at h;split
   next hz=>rw[if_pos hz]at h;simp at h
   ·have ec:a%128=a:=by omega
    rw[ec];have e:(0+a*128^0:Int)=a:=by simp
    rw[e];unfold qv;rw[if_neg U];simp only[vY];rw[if_pos U];rfl
def Dw:∀(f:Nat)(b:ab)(n last:Int)(acc:List Rn),(∀c∈b,0<=c/\c<256)->1<=n->(od may f b n last acc).2=0->
  ∃l,(od may f b n last acc).1=acc++l/\r6 l=b/\ji may last l/\bF l=n/\l≠[]
 |0,_,_,_,_,_,_,h=>by simp[od]at h
 |f+1,[],n,_,acc,_,hn,h=>by rw[KQ,if_pos U]at h;simp at h
 |f+1,c::t,n,last,acc,hi,hn,h=>by
  have hc:=hi c (.head _)
  have ht:∀c∈t,0<=c/\c<256:=λq hq=>hi q (.tail _ hq)
  rw[Dv]at h⊢
  split
  next h1=>rw[if_pos h1]at h;simp at h
  rename_i h1
  rw[if_neg h1]at h
  split
  next h2=>rw[if_pos h2]at h;exact absurd h h2
  rename_i h2
  rw[if_neg h2]at h
  split
  next h3=>rw[if_pos h3]at h;simp at h
  rename_i h3
  rw[if_neg h3]at h
  have V9:(fA t).2.2=0:=Decidable.not_not.1 h2
  have hd:=ER 3 0 0 t U V9
  have aup:=aft ht V9
  rw[show sk 3 0 0 t=fA t from rfl]at hd
  generalize hdg:fA t=d at*
  have⟨sz,k,er⟩:=d
  simp only at h h3 hd aup⊢
  have aj2:may c=true:=by
   cases hm:may c with
   |true=>rfl
   |false=>exact absurd (.inl hm) h1
  have hcl:c≠last:=λe=>h1 (.inr e)
  have xk:qv sz++t.drop k.toNat=t:=by rw[aup];exact td _ _
  split
  ·rename_i h4;rw[if_pos h4]at h;split
   next h5=>refine⟨[(sz,c)],rfl,?_,⟨by show 1<=sz;omega,by show sz<=1048576;omega,hc.1,hc.2,aj2,hcl,trivial⟩,by simp[bF];omega,bo⟩;rw[Ss _ _ hc];rw[h5,oV]at xk;simp[xk,r6]
   next h5=>rw[if_neg h5]at h;simp at h
  next h4=>rw[if_neg h4]at h;have⟨l,e1,e2,e3,e4,e5⟩:=Dw f (t.drop k.toNat) (n-sz) c (acc++[(sz,c)]) (λq hq=>ht q (zo hq)) U h;refine⟨(sz,c)::l,by rw[e1];simp,?_,⟨by show 1<=sz;omega,by show sz<=1048576;omega,hc.1,hc.2,aj2,hcl,e3⟩,by rw[abh];show sz+bF l=n;omega,bo⟩;rw[Ss _ _ hc,e2];show c::(qv sz++t.drop k.toNat)=_;rw[xk]
def ji.of:∀{l:List Rn}{last:Int},(∀r∈l,1<=r.1/\r.1<=1048576/\0<=r.2/\r.2<256/\may r.2=true)->(∀i q r,l[i]? =some q->l[i+1]? =some r->q.2≠r.2)->(∀r,l.head? =some r->r.2≠last)->ji may last l
 | [],_,_,_,_=>trivial
 |r::t,last,h1,h2,h3=>by
  have⟨a,b,c,d,e⟩:=h1 r (.head _)
  refine⟨a,b,c,d,e,h3 r rfl,ji.of (λq hq=>h1 q (.tail _ hq)) (λi q s hq hs=>h2 (i+1) q s (ds hq) (ds hs)) (λq hq=>?_)⟩
  have:=h2 0 r q rfl (by cases t<;>simp_all)
  exactλe=>this e.symm
def ji.next:∀{l:List Rn}{last:Int},ji may last l->∀i q r,l[i]? =some q->l[i+1]? =some r->q.2≠r.2
 | [],_,_,i,q,r,h,_=>by simp at h
 | [x],_,_,i,q,r,h,h'=>by simp at h'
 |x::y::t,_,h,0,q,r,hq,hr=>by
  simp at hq hr;subst hq;subst hr
  exactλe=>h.2.2.2.2.2.2.2.2.2.2.2.1 e.symm
 |x::y::t,_,h,i+1,q,r,hq,hr=>h.2.2.2.2.2.2.next i q r (ds hq) (ds hr)
def ji.mem:∀{l:List Rn}{last:Int},ji may last l->∀r∈l,1<=r.1/\r.1<=1048576/\0<=r.2/\r.2<256/\may r.2=true
 | [],_,_,r,h=>by cases h
 |q::t,_,h,r,hr=>by
  rcases cu.1 hr with rfl|hr
  ·exact⟨h.1,h.2.1,h.2.2.1,h.2.2.2.1,h.2.2.2.2.1⟩
  ·exact h.2.2.2.2.2.2.mem r hr
def ji.su{l:List Rn}(h:ji may last l)(gl:1<=bF l):su may l (bF l)=true:=by unfold Go.aN.su;rw[decide_eq_true U,BI (λr hr=>⟨h.pos r hr,(h.mem r hr).2.2.2.2⟩) h.next (λr _=>by simp) rfl];rfl
end
end Go.Code
namespace Go.bW
open Go Go.Vc
set_option maxRecDepth 100000
set_option maxHeartbeats 8000000
abbrev Ce:=Int×Int×Int
abbrev Po:=Int×Int
def tdm{a b:Int}(hb:0<b):(a.tmod b<0->a/b=a.tdiv b-1/\a%b=a.tmod b+b)/\(0<=a.tmod b->a/b=a.tdiv b/\a%b=a.tmod b)/\-b<a.tmod b/\a.tmod b<b:=by
 have h1:b*a.tdiv b+a.tmod b=a:=Int.mul_tdiv_add_tmod a b;have h2:a.tmod b<b:=Int.tmod_lt_of_pos a hb;have h3: -b<a.tmod b:=by have:=Int.tmod_lt_of_pos (-a) hb;rw[Int.neg_tmod]at this;omega
 refine⟨λh=>?_,λh=>?_,h3,h2⟩
 ·have:=(Int.ediv_emod_unique hb (a:=a) (q:=a.tdiv b-1) (r:=a.tmod b+b)).2 ⟨by rw[Int.mul_sub];omega,U,U⟩;exact this
 ·exact(Int.ediv_emod_unique hb (a:=a) (q:=a.tdiv b) (r:=a.tmod b)).2 ⟨U,U,U⟩
def ahT{a b:Int}(ha:cH a)(hb:0<b):cH (a/b):=by
 unfold cH at*;have h1:=Int.emod_nonneg a (by omega:b≠0);have h2:=Int.emod_lt_of_pos a hb;have h3:=Int.mul_ediv_add_emod a b;rcases wO a 0 with h|h
 ·have h4:a<=a/b:=by rw[Int.le_ediv_iff_mul_le hb];have:=Int.mul_le_mul_of_nonpos_left (a:=a) (b:=b) (c:=1) U U;omega
  have h5:a/b<0:=Int.ediv_neg_of_neg_of_pos h hb;omega
 ·have h4:a/b<=a:=Int.ediv_le_self b h;have h5:0<=a/b:=Int.ediv_nonneg h U;omega
def ahU{a b:Int}(ha:cH a)(hb:0<b):cH (a.tdiv b):=by
 unfold cH at*;rcases wO a 0 with h|h
 ·have h1:a.tdiv b= -((-a)/b):=by rw[<-uI U,Int.neg_tdiv];omega
  have h4:(-a)/b<=-a:=Int.ediv_le_self b U;have h5:0<=(-a)/b:=Int.ediv_nonneg U U;omega
 ·rw[uI h];have h4:a/b<=a:=Int.ediv_le_self b h;have h5:0<=a/b:=Int.ediv_nonneg h U;omega
def u64_in(n:Int):0<=fC n/\fC n<18446744073709551616:=a08
def xJ{n:Int}(h:0<=n/\n<18446744073709551616):fC n=n:=a08
def mix(aj x z:Int):Int:=fC ((fC ((fC ((fC aj)*11400714819323198485))+(fC ((fC x)*14029467366897019727))))+(fC ((fC z)*1609587929392839161)))
def hash(aj x z:Int):Int:=
 lA .u64 (fC ((lA .u64 (mix aj x z) (mix aj x z/536870912))*13787848793156543929)) (fC ((lA .u64 (mix aj x z) (mix aj x z/536870912))*13787848793156543929)/4294967296)
def ah4(aj x z:Int):0<=hash aj x z:=by unfold hash lA;exact(u64_in _).1
def av8(n:Int):(fC n).fdiv (2^(min (29:Int).toNat 64))=fC n/536870912:=tj _ X
def av9(n:Int):(fC n).fdiv (2^(min (32:Int).toNat 64))=fC n/4294967296:=tj _ X
def im(aj x z:Int):Int:=hash aj x z%9
def ground(aj x z:Int):Int:=
 6+(im aj (x/8) (z/8)*((8-x%8)*(8-z%8))+im aj (x/8+1) (z/8)*(x%8*(8-z%8))+im aj (x/8) (z/8+1)*((8-x%8)*(z%8))+im aj (x/8+1) (z/8+1)*(x%8*(z%8)))/64
def TM(y g:Int):Int:=
 if y<0\/32<=y then 0 else if y=0\/y<g-3 then 1 else if y<g-1\/(y=g-1/\9<g)then 2 else if y=g-1 then 3 else if y<9 then 8 else 0
def uK{c u v:Int}(hc:0<=c/\c<=8)(hu:0<=u/\u<=8)(hv:0<=v/\v<=8):0<=u*v/\u*v<=64/\0<=c*(u*v)/\c*(u*v)<=512:=by have h1:0<=u*v:=JX hu.1 hv.1;have h2:u*v<=8*8:=Int.mul_le_mul hu.2 hv.2 hv.1 X;have h3:0<=c*(u*v):=JX hc.1 h1;have h4:c*(u*v)<=8*64:=Int.mul_le_mul hc.2 h2 h1 X;exact⟨h1,h2,h3,h4⟩
def jv(s x z:Int):0<=im s x z/\im s x z<=8:=by unfold im;omega
def JY(s x z:Int):6<=ground s x z/\ground s x z<=100:=by unfold ground;have a:=uK (jv s (x/8) (z/8)) (u:=8-x%8) (v:=8-z%8) U U;have b:=uK (jv s (x/8+1) (z/8)) (u:=x%8) (v:=8-z%8) U U;have c:=uK (jv s (x/8) (z/8+1)) (u:=8-x%8) (v:=z%8) U U;have d:=uK (jv s (x/8+1) (z/8+1)) (u:=x%8) (v:=z%8) U U;omega
def idx(c:Ce):Int:=(c.2.1*16+c.2.2%16)*16+c.1%16
def PL(c:Ce):Prop:=0<=c.2.1/\c.2.1<32
def pos(c:Ce):Po:=(c.1/16,c.2.2/16)
def cellAt(p:Po)(i:Int):Ce:=(p.1*16+i%16,i/256,p.2*16+i/16%16)
def aep{c:Ce}(h:PL c):0<=idx c/\idx c<8192:=by unfold idx;unfold PL at h;omega
def made(aj:Int)(p:Po):ab:=(List.range 8192).map λi:Nat=>TM ((i:Int)/256) (ground aj (p.1*16+(i:Int)%16) (p.2*16+(i:Int)/16%16))
def qR(aj:Int)(p:Po):(made aj p).length=8192:=by simp[made]
def aae(y g:Int):TM y g=0\/TM y g=1\/TM y g=2\/TM y g=3\/TM y g=8:=by
 unfold TM;split
 ·exact .inl rfl
 ·split
  ·exact .inr (.inl rfl)
  ·split
   ·exact .inr (.inr (.inl rfl))
   ·split
    ·exact .inr (.inr (.inr (.inl rfl)))
    ·split
     ·exact .inr (.inr (.inr (.inr rfl)))
     ·exact .inl rfl
end Go.bW
namespace Go.bW
open Go Go.Vc Go.aN
set_option maxRecDepth 100000
set_option maxHeartbeats 8000000
end Go.bW
namespace Go.bW
open Go Go.Vc Go.aN
end Go.bW
namespace Go.bW
open Go Go.Vc Go.aN
set_option maxRecDepth 100000
set_option maxHeartbeats 8000000
def akW:∀(n:Nat)(l:List Rn),l.length=n->(∀r∈l,1<=r.1)->(∀i q r,l[i]? =some q->l[i+1]? =some r->q.2≠r.2)->Nm l
 |0,l,hn,_,_=>by
  have:l=[]:=CV hn
  subst this;exact .nil
 |n+1,l,hn,h1,h2=>by
  rcases ya l with rfl|⟨m,q,rfl⟩
  ·simp at hn
  ·have hm:m.length=n:=by simpa using hn
   refine .snoc m q (akW n m hm (λr hr=>h1 r (Ha _ hr)) (λi a b ha hb=>?_)) (h1 q bo) (λp hp=>?_)
   ·have hb':=(cG.1 hb).1;exact h2 i a b (by rw[oS U];exact ha) (by rw[oS U];exact hb)
   ·have gl:m≠[]:=by rintro rfl;simp at hp
    have cX:0<m.length:=List.length_pos_iff.2 gl;rw[List.getLast?_eq_getElem?]at hp;refine h2 (m.length-1) p q ?_ ?_
    ·rw[oS U];exact hp
    ·rw[show m.length-1+1=m.length by omega,pO (ak _),Nat.sub_self];rfl
def RT{may:Int->aX}:∀{l:List Rn}{prev:Option Int}{left:Int},kx may prev left l=true->
  (∀r∈l,1<=r.1/\may r.2=true)/\(∀i q r,l[i]? =some q->l[i+1]? =some r->q.2≠r.2)/\∀r,l.head? =some r->prev≠some r.2
 | [],_,_,_=>⟨bo,bo,bo⟩
 |r::t,prev,left,h=>by
  unfold kx at h
  split at h
  ·cases h
  ·rename_i hn
   have⟨a1,a2,a3⟩:=RT h
   have hm:may r.2=true:=by
    cases hq:may r.2 with
    |true=>rfl
    |false=>exact absurd (.inr (.inr (.inl hq))) hn
   have hp:prev≠some r.2:=λe=>hn (.inr (.inr (.inr e)))
   refine⟨λq hq=>?_,λi q s hq hs=>?_,λq hq=>?_⟩
   ·rcases cu.1 hq with rfl|hq
    ·exact⟨U,hm⟩
    ·exact a1 q hq
   ·cases i with
    |zero=>
     simp only[are,Option.some.injEq]at hq;subst hq;simp only[Kh]at hs;have:t.head? =some s:=by cases t<;>simp_all
     intro e;exact a3 s this (by rw[e])
    |succ i=>exact a2 i q s (ds hq) (ds hs)
   ·simp only[List.head?_cons,Option.some.injEq]at hq;subst hq;exact hp
def RU{may:Int->aX}{l:List Rn}{n:Int}(h:su may l n=true):iC (cm l)=l/\(∀b∈cm l,may b=true)/\((cm l).length:Int)=n:=by
 unfold su at h;rw[fF]at h;have⟨a1,a2,_⟩:=RT h.2;refine⟨(akW l.length l rfl (λr hr=>(a1 r hr).1) a2).fix,λb hb=>?_,?_⟩
 ·unfold cm at hb;have⟨r,hr,hb⟩:=List.mem_flatMap.1 hb;rw[(Pd.1 hb).2];exact(a1 r hr).2
 ·rw[<-fb λr hr=>a1N ((a1 r hr).1)];exact Rf h.2
end Go.bW
namespace Go.bW
open Go Go.Vc Go.aN
set_option maxRecDepth 100000
set_option maxHeartbeats 8000000
def EP(p:Po):Prop:=(-524288<=p.1/\p.1<524288)/\-524288<=p.2/\p.2<524288
instance (p:Po):Decidable (EP p):=by unfold EP;exact inferInstance
def Bk(p:Po):Int:=if EP p then(p.1+524288)*1048576+(p.2+524288)+1 else 0
def ahW{p:Po}(h:EP p):1<=Bk p/\Bk p<=1099511627776:=by unfold Bk;rw[if_pos h];unfold EP at h;omega
def ahX{p:Po}(h:¬EP p):Bk p=0:=by unfold Bk;rw[if_neg h]
end Go.bW
namespace Go.bW
open Go Go.Vc Go.aN
def bK{α:Type}(q:α->aX):List α->Int
 | []=> -1
 |x::t=>if q x then 0 else if bK q t<0 then -1 else bK q t+1
def mX{α:Type}{q:α->aX}:∀{l:List α},(∀y∈l,q y=false)->bK q l= -1
 | [],_=>rfl
 |x::t,h=>by
  have h1:=h x (.head _)
  have h2:=mX (l:=t) λy hy=>h y (.tail _ hy)
  unfold bK
  rw[if_neg (by rw[h1];decide),if_pos U]
def vz{α:Type}{q:α->aX}:∀{l:List α}{k:Nat}{x:α},l[k]? =some x->q x=true->(∀j,j<k->∀y,l[j]? =some y->q y=false)->bK q l=k
 | [],k,x,h,_,_=>by simp at h
 |y::t,0,x,h,hq,_=>by
  simp at h;subst h
  unfold bK
  rw[if_pos hq];rfl
 |y::t,k+1,x,h,hq,hn=>by
  have h1:=hn 0 U y rfl
  have h2:=vz (l:=t) (k:=k) (x:=x) (ds h) hq (λj hj z hz=>hn (j+1) U z (ds hz))
  unfold bK
  rw[if_neg (by rw[h1];decide),if_neg U,h2]
  omega
def dm{α:Type}(q:α->aX):∀(l:List α),(bK q l= -1/\∀y∈l,q y=false)\/∃k x,l[k]? =some x/\q x=true/\bK q l=(k:Nat)/\∀j,j<k->∀y,l[j]? =some y->q y=false
 | []=>.inl ⟨rfl,bo⟩
 |x::t=>by
  cases hq:q x with
  |true=>exact .inr ⟨0,x,rfl,hq,by unfold bK;rw[if_pos hq];rfl,U⟩
  |false=>
   rcases dm q t with⟨h1,h2⟩|⟨k,y,h1,h2,h3,h4⟩
   ·refine .inl ⟨by unfold bK;rw[if_neg (by rw[hq];decide),if_pos U],λy hy=>?_⟩
    rcases cu.1 hy with rfl|hy
    ·exact hq
    ·exact h2 y hy
   ·refine .inr ⟨k+1,y,ds h1,h2,by unfold bK;rw[if_neg (by rw[hq];decide),if_neg U,h3];omega,λj hj z hz=>?_⟩
    cases j with
    |zero=>simp at hz;subst hz;exact hq
    |succ j=>exact h4 j U z (ds hz)
def me{α β:Type}(f:α->β)(q:β->aX):∀l:List α,bK q (l.map f)=bK (λa=>q (f a)) l
 | []=>rfl
 |x::t=>by simp only[eH,bK,me f q t]
end Go.bW
namespace Go.bW
open Go Go.Vc Go.aN
set_option maxRecDepth 100000
set_option maxHeartbeats 8000000
abbrev mM:=BitVec 16
abbrev mJ(b:ab):Prop:=∀c∈b,0<=c/\c<256
def cI(v:mM):Int:=(v.toNat:Nat)
def TR(c:mM):mM:=if c.msb then(c<<<1) ^^^0x1021#16 else c<<<1
def Jj(c:mM):mM:=TR (TR (TR (TR c)))
def OV(c:mM):mM:=Jj (Jj c)
def oN(x:Int):mM:=Ok 16 x
def arp(c:mM)(x:Int):mM:=OV (c ^^^(oN x<<<8))
def R8(c:mM)(b:ab):mM:=b.foldl arp c
def qO(b:ab):mM:=R8 0xFFFF#16 b
def Lw(b:ab):ab:=[cI (qO b)/256,cI (qO b)%256]
def AY(v:mM):0<=cI v/\cI v<65536:=by unfold cI;have:=v.isLt;omega
section
variable{a b:mM}
def VI:cI a=cI b↔a=b:=by unfold cI;refine⟨λh=>BitVec.eq_of_toNat_eq U,λh=>by rw[h]⟩
variable{x:Int}
def qn(h:0<=x/\x<65536):(oN x).toNat=x.toNat:=by unfold oN;rw[zg];simp only[show((2^16:Nat):Int)=65536 from rfl];rw[Int.emod_eq_of_lt h.1 h.2]
def VH(h:0<=x/\x<65536):cI (oN x)=x:=by unfold cI;rw[qn h];omega
def ann(v:mM):oN (cI v)=v:=VI.1 (VH (AY v))
def yy(h:∀i:Nat,i<16->a.getLsbD i=b.getLsbD i):a=b:=BitVec.eq_of_getLsbD_eq h
def abz{i:Nat}(h:i<16):i=0\/i=1\/i=2\/i=3\/i=4\/i=5\/i=6\/i=7\/i=8\/i=9\/i=10\/i=11\/i=12\/i=13\/i=14\/i=15:=by omega
def ajo(a b:mM)(n:Nat):(a ^^^b)<<<n=(a<<<n) ^^^(b<<<n):=by
 apply yy;intro i hi;simp only[BitVec.getLsbD_xor,RY]
 cases decide (i<16)<;>cases decide (i<n)<;>simp
def E5(a b:mM):TR (a ^^^b)=TR a ^^^TR b:=by
 unfold TR;rw[BitVec.msb_xor,ajo]
 cases a.msb<;>cases b.msb<;>simp
 ·rw[BitVec.xor_assoc]
 ·rw[BitVec.xor_assoc,BitVec.xor_assoc];congr 1;rw[BitVec.xor_comm]
 ·generalize a<<<1=x;generalize b<<<1=y;apply yy;intro i _;simp only[BitVec.getLsbD_xor]
  cases x.getLsbD i<;>cases y.getLsbD i<;>cases (4129#16).getLsbD i<;>rfl
def E6(a b:mM):Jj (a ^^^b)=Jj a ^^^Jj b:=by unfold Jj;rw[E5,E5,E5,E5]
def ajp(a b:mM):OV (a ^^^b)=OV a ^^^OV b:=by unfold OV;rw[E6,E6]
def Yf(c:mM):c.msb=true↔32768<=c.toNat:=by rw[BitVec.msb_eq_decide];simp
variable{c:mM}
def A4(h:c.toNat<32768):TR c=c<<<1/\(c<<<1).toNat=2*c.toNat:=by
 constructor
 ·unfold TR;rw[if_neg];rw[Yf];omega
 ·rw[BitVec.toNat_shiftLeft,Nat.shiftLeft_eq];omega
def nu(h:TR c=0#16):c=0#16:=by
 unfold TR at h;split at h
 ·have:=congrArg (λv:mM=>v.getLsbD 0) h;simp at this
 ·rename_i hm;have hm:c.toNat<32768:=by rw[Yf]at hm;omega
  have h2:=(A4 hm).2;rw[h]at h2;exact BitVec.eq_of_toNat_eq (by simp at h2⊢;omega)
def S1(h:OV c=0#16):c=0#16:=by unfold OV Jj at h;exact nu (nu (nu (nu (nu (nu (nu (nu h)))))))
def A5:a ^^^b=0#16↔a=b:=by
 constructor
 ·intro h;have:=congrArg (λv=>v ^^^b) h;simpa[BitVec.xor_assoc]using this
 ·rintro rfl;exact BitVec.xor_self
def ajq(h:OV a=OV b):a=b:=by rw[<-A5]at h⊢;rw[<-ajp]at h;exact S1 h
def A6(c:mM)(m n:Nat):(c<<<m)<<<n=c<<<(m+n):=(BitVec.shiftLeft_add c m n).symm
def E7(h:c.toNat<4096):Jj c=c<<<4:=by unfold Jj;have h1:=A4 (c:=c) U;rw[h1.1];have h2:=A4 (c:=c<<<1) U;rw[h2.1];have h3:=A4 (c:=c<<<1<<<1) U;rw[h3.1];have h4:=A4 (c:=c<<<1<<<1<<<1) U;rw[h4.1,A6,A6,A6]
def S2(v y:mM)(hy:y.toNat<16):(v<<<4) ^^^Jj (((v>>>12) ^^^y)<<<12)=Jj (v ^^^(y<<<12)):=by
 have e:v ^^^(y<<<12)=(((v>>>12) ^^^y)<<<12) ^^^(v &&&0xFFF#16):=a03
 have hl:(v &&&0xFFF#16).toNat<4096:=a0O
 have e2:(v &&&0xFFF#16)<<<4=v<<<4:=by apply yy;intro i hi;simp only[RY,RX];rcases abz hi with rfl|rfl|rfl|rfl|rfl|rfl|rfl|rfl|rfl|rfl|rfl|rfl|rfl|rfl|rfl|rfl<;>simp
 rw[e,E6,E7 hl,e2,BitVec.xor_comm]
def abA(v x:mM)(hx:x.toNat<256):Jj (Jj (v ^^^((x>>>4)<<<12)) ^^^((x &&&15#16)<<<12))=OV (v ^^^(x<<<8)):=by
 have e:v ^^^(x<<<8)=(v ^^^((x>>>4)<<<12)) ^^^((x &&&15#16)<<<8):=a03
 have hl:(x &&&15#16).toNat<16:=a0O
 have TE:((x &&&15#16)<<<8).toNat<4096:=a1A
 unfold OV;rw[e,E6 (v ^^^_),E7 TE,A6]
def Yg(h:c.toNat<256):OV c=c<<<8:=by unfold OV;rw[E7 (c:=c) U,E7 (c:=c<<<4) a1A,A6]
def Dq(c:mM)(a b:ab):R8 c (a++b)=R8 (R8 c a) b:=og ..
def aji(c:mM){h l:Int}(hh:0<=h/\h<256)(hl:0<=l/\l<256):R8 c [h,l]=0#16↔cI c=h*256+l:=by
 show OV (OV (c ^^^(oN h<<<8)) ^^^(oN l<<<8))=0#16↔_;have n1:(oN l).toNat<256:=by rw[qn U];omega
 have n2:(oN h).toNat<256:=by rw[qn U];omega
 have z:OV 0#16=0#16:=by decide
 have e1:OV (OV (c ^^^(oN h<<<8)) ^^^(oN l<<<8))=0#16↔c=(oN h<<<8) ^^^oN l:=by
  constructor
  ·intro q;have q1:=S1 q;rw[A5,<-Yg n1]at q1;have q2:=ajq q1;rw[<-q2,BitVec.xor_comm,BitVec.xor_assoc,BitVec.xor_self,BitVec.xor_zero]
  ·rintro rfl;rw[show(oN h<<<8 ^^^oN l) ^^^oN h<<<8=oN l by rw[BitVec.xor_comm,<-BitVec.xor_assoc,BitVec.xor_self,BitVec.zero_xor],Yg n1,BitVec.xor_self,z]
 rw[e1];have e2:((oN h<<<8) ^^^oN l).toNat=h.toNat*256+l.toNat:=by
  have:(oN h<<<8) ^^^oN l=(oN h<<<8)|||oN l:=by
   apply yy;intro i hi;have hb:∀j,8<=j->(oN l).getLsbD j=false:=λj hj=>Nat.testBit_lt_two_pow (gK n1 (Nat.pow_le_pow_right (n:=2) X hj))
   simp only[BitVec.getLsbD_xor,BitVec.getLsbD_or,RY];by_cases h8:i<8
   ·simp[h8]
   ·rw[hb i U];simp
  rw[this,BitVec.toNat_or,BitVec.toNat_shiftLeft,qn (x:=h) U,qn (x:=l) U,Nat.shiftLeft_eq];rw[Nat.mod_eq_of_lt U];have:=Nat.two_pow_add_eq_or_of_lt (i:=8) (b:=l.toNat) U h.toNat;rw[Nat.mul_comm h.toNat,<-this]
 constructor
 ·intro q;rw[q];unfold cI;rw[e2];omega
 ·intro q;apply BitVec.eq_of_toNat_eq;rw[e2];unfold cI at q;omega
def wrap_u16(x:Int):qq x=x%65536:=by simp[IntKind.wrap,IntKind.bits,IntKind.signed]
def A7(n:Nat)(hn:16<=n)(v:mM):(Ok n (cI v)).toNat=v.toNat:=by unfold cI;rw[zg];have h1:=v.isLt;have h2:(2:Nat)^16<=2^n:=Nat.pow_le_pow_right X hn;generalize (2:Nat)^n=m at*;rw[Int.emod_eq_of_lt U U];omega
def HI(a b:mM):lA .u16 (cI a) (cI b)=cI (a ^^^b):=by show qq ((Ok 16 (cI a) ^^^Ok 16 (cI b)).toNat:Nat)=_;rw[BitVec.toNat_xor,A7 16 X,A7 16 X,<-BitVec.toNat_xor,wrap_u16];show cI _%65536=cI _;have:=AY (a ^^^b);omega
def ano(v:mM)(n:Nat):cI (v<<<n)=cI v*2^n%65536:=by unfold cI;rw[BitVec.toNat_shiftLeft,Nat.shiftLeft_eq,Int.natCast_emod,Int.natCast_mul,Int.natCast_pow];rfl
def VJ(v:mM)(n:Nat):cI (v>>>n)=cI v/2^n:=by unfold cI;rw[BitVec.toNat_ushiftRight,Nat.shiftRight_eq_div_pow,Int.natCast_ediv,Int.natCast_pow];rfl
def X7(v:mM):cI (v &&&0x8000#16)=0↔v.msb=false:=by
 have pC:v.msb=v.getLsbD 15:=rfl;constructor
 ·intro h;have h0:v &&&0x8000#16=0#16:=VI.1 (h▸rfl);have:=congrArg (λu:mM=>u.getLsbD 15) h0;simp only[RX]at this;rw[pC];simpa using this
 ·intro h;have h0:v &&&0x8000#16=0#16:=by apply yy;intro i hi;rw[pC]at h;simp only[RX];rcases abz hi with rfl|rfl|rfl|rfl|rfl|rfl|rfl|rfl|rfl|rfl|rfl|rfl|rfl|rfl|rfl|rfl<;>first|(simp;done)|simpa using h
  rw[h0];rfl
def amY(a b:mM):tI .u16 (cI a) (cI b)=cI (a &&&b):=by show qq ((Ok 16 (cI a) &&&Ok 16 (cI b)).toNat:Nat)=_;rw[zL,A7 16 X,A7 16 X,<-zL,wrap_u16];show cI _%65536=cI _;have:=AY (a &&&b);omega
def X6(v:mM)(n:Nat):qq (cI v*2^n)=cI (v<<<n):=by rw[wrap_u16,ano]
def ae2(v:mM)(n:Nat):(cI v).fdiv (2^n)=cI (v>>>n):=by rw[VJ,tj];exact Int.le_of_lt (Int.pow_pos X)
def awy(h:0<=x/\x<256):qq (x.fdiv (2^4))=cI (oN x>>>4):=by rw[VJ,VH U,tj _ X,wrap_u16];simp only[show(2:Int)^4=16 from rfl];omega
def awz(h:0<=x/\x<256):qq (tI .u8 x 15)=cI (oN x &&&15#16):=by
 have e:tI .u8 x 15=cI (oN x &&&15#16):=by
  show qH ((Ok 8 x &&&Ok 8 15).toNat:Nat)=_;have e8:(Ok 8 x).toNat=(oN x).toNat:=by rw[qn U,zg];simp only[show((2^8:Nat):Int)=256 from rfl];rw[Int.emod_eq_of_lt h.1 h.2]
  rw[zL,e8];unfold cI;rw[zL];have:(oN x).toNat &&&(15#16).toNat<16:=RL Nat.and_le_right X;show qH (((oN x).toNat &&&(15#16).toNat:Nat):Int)=_;simp only[IntKind.wrap,IntKind.bits,IntKind.signed,C9,Bool.false_eq_true,if_false,show(2:Int)^8=256 from rfl];omega
 rw[e,wrap_u16];have:=AY (oN x &&&15#16);omega
def ae3(ha:a.toNat<16)(hb:b.toNat<16):(a ^^^b).toNat<16:=by rw[BitVec.toNat_xor];exact Nat.xor_lt_two_pow (n:=4) ha hb
def ae4(v:mM):(v>>>12).toNat<16:=by rw[BitVec.toNat_ushiftRight,Nat.shiftRight_eq_div_pow];have:=v.isLt;omega
def akZ(h:0<=x/\x<256):(oN x>>>4).toNat<16:=by rw[BitVec.toNat_ushiftRight,Nat.shiftRight_eq_div_pow,qn U];omega
def ak1(x:mM):(x &&&15#16).toNat<16:=a0O
def tv(i:Nat):aC:=.int .u16 (cI (Jj (oN i<<<12)))
def tS:LV:=[tv 0,tv 1,tv 2,tv 3,tv 4,tv 5,tv 6,tv 7,tv 8,tv 9,tv 10,tv 11,tv 12,tv 13,tv 14,tv 15]
def tT(k:Nat):LV:=tS.take k++List.replicate (16-k) (.int .u16 0)
def amZ{k:Nat}(hk:k<16):(tT k).set k (tv k)=tT (k+1):=a0x
def ak0{u:mM}(hu:u.toNat<16):tS[(cI u).toNat]? =some (.int .u16 (cI (Jj (u<<<12)))):=by
 have e:∀k:Nat,k<16->tS[k]? =some (tv k):=λk hk=>a0x
 have h1:(cI u).toNat=u.toNat:=rfl;rw[h1,e _ hu];unfold tv;have:oN (u.toNat:Int)=u:=ann u;rw[this]
def aaS(v:mM)(h:0<=x/\x<256): cI ((((v<<<4) ^^^Jj (((v>>>12) ^^^(oN x>>>4))<<<12))<<<4) ^^^Jj (((((v<<<4) ^^^Jj (((v>>>12) ^^^(oN x>>>4))<<<12))>>>12) ^^^(oN x &&&15#16))<<<12))=cI (arp v x):=by
 rw[S2 v _ (akZ h),S2 _ _ (ak1 _),abA v _ (by rw[qn U];omega)];rfl
end
def be:Nat->Int->ab
 |0,_=>[]
 |m+1,n=>n/256^m%256::be m n
def eh(b:ab):Int:=b.foldl (λn c=>n*256+c) 0
def dy(v:Int)(body:ab):ab:=be 4 v++be 3 body.length++body
def gL(b:ab):ab:=b++Lw b
def zf(v:Int)(body:ab):ab×Int:=if v<1\/v>1073741824\/(body.length:Int)>65536 then([],1)else(gL (dy v body),0)
def te(b:ab):ab×Int:=if b.length<2 then([],3)else if qO b=0#16 then(b.take (b.length-2),0)else([],4)
def pT(b:ab):Int×ab×Int:=
 if(te b).2≠0 then(0,[],(te b).2)
 else if(te b).1.length<7 then(0,[],3)
 else if eh ((te b).1.take 4)<1\/eh ((te b).1.take 4)>1073741824\/eh (((te b).1.drop 4).take 3)>65536\/eh (((te b).1.drop 4).take 3)≠(((te b).1.drop 7).length:Int)then(0,[],2)
 else(eh ((te b).1.take 4),(te b).1.drop 7,0)
def sV:∀(m:Nat)(n:Int),(be m n).length=m
 |0,_=>rfl
 |m+1,n=>by simp[be,sV m n]
def afz:∀(m:Nat)(n:Int),mJ (be m n)
 |0,_=>λc hc=>by cases hc
 |m+1,n=>λc hc=>by
  rcases cu.1 hc with rfl|hc
  ·omega
  ·exact afz m n c hc
def HJ(b:ab)(c:Int):eh (b++[c])=eh b*256+c:=by unfold eh;rw[og];rfl
section
variable{n:Int}
def be4(h:0<=n/\n<4294967296):eh (be 4 n)=n:=by simp only[be,eh,qY,List.foldl_nil,show(256:Int)^3=16777216 from rfl,show(256:Int)^2=65536 from rfl,show(256:Int)^1=256 from rfl,show(256:Int)^0=1 from rfl];omega
def be3(h:0<=n/\n<16777216):eh (be 3 n)=n:=by simp only[be,eh,qY,List.foldl_nil,show(256:Int)^2=65536 from rfl,show(256:Int)^1=256 from rfl,show(256:Int)^0=1 from rfl];omega
def ajh(b:ab):mJ (Lw b):=λc hc=>by
 have:=AY (qO b)
 simp only[Lw,cu,iT,or_false]at hc
 rcases hc with rfl|rfl<;>omega
def SS(b:ab):(Lw b).length=2:=rfl
def afA(b:ab):qO (gL b)=0#16:=by unfold gL qO;rw[Dq];have:=AY (qO b);exact(aji _ U U).2 (by unfold qO at*;omega)
def ajj(b:ab):te (gL b)=(b,0):=by
 have hl:(gL b).length=b.length+2:=by unfold gL;rw[cj,SS]
 unfold te;rw[if_neg U,if_pos (afA b),hl];unfold gL;simp
variable{b:ab}
def mJ.app{a:ab}(ha:mJ a)(hb:mJ b):mJ (a++b):=λc hc=>(dp.1 hc).elim (ha c) (hb c)
variable{v:Int}{body:ab}(h:mJ body)
def Ya:mJ (dy v body):=((afz 4 v).app (afz 3 _)).app h
def afB(h:mJ b):mJ (gL b):=h.app (ajh b)
def anf:mJ (zf v body).1:=by
 unfold zf;split
 ·intro c hc;cases hc
 ·exact afB (Ya h)
def rj(v:Int)(body:ab):(dy v body).length=7+body.length:=by unfold dy;simp[sV];omega
def BC(b:ab):(gL b).length=b.length+2:=by unfold gL;rw[cj,SS]
def aqZ(hv:1<=v/\v<=1073741824)(hb:(body.length:Int)<=65536):pT (gL (dy v body))=(v,body,0):=by
 have e4:=sV 4 v;have e3:=sV 3 (body.length:Int);have t4:(dy v body).take 4=be 4 v:=by unfold dy;rw[fT,AO U,dN U]
 have d4:(dy v body).drop 4=be 3 body.length++body:=by unfold dy;rw[fT,List.drop_append_of_le_length U,wH U];rfl
 have d7:(dy v body).drop 7=body:=by unfold dy;rw[List.drop_append_of_le_length (by rw[cj];omega),wH (by rw[cj];omega)];rfl
 have t3:((dy v body).drop 4).take 3=be 3 body.length:=by rw[d4,AO U,dN U]
 unfold pT;simp only[ajj];rw[if_neg bo,if_neg (by rw[rj];omega),t4,t3,d7,be4 U,be3 U,if_neg U]
def aqJ:(pT b).2.2=0->1<=(pT b).1/\(pT b).1<=1073741824:=by
 intro h;unfold pT at h⊢;split at h
 next q=>exact absurd h q
 ·rename_i q;rw[if_neg q];split at h
  ·cases h
  ·rename_i q2;rw[if_neg q2];split at h
   ·cases h
   next q3=>rw[if_neg q3];simp only[not_or]at q3;simp only;omega
def aqK:(pT b).2.2≠0->(pT b).1=0/\(pT b).2.1=[]:=by
 intro h;unfold pT at h⊢;split
 ·exact⟨rfl,rfl⟩
 ·split
  ·exact⟨rfl,rfl⟩
  ·split
   ·exact⟨rfl,rfl⟩
   next q q2 q3=>rw[if_neg q,if_neg q2,if_neg q3]at h;exact absurd rfl h
def Oj(hb:mJ b):∀k:Nat,0<=eh (b.take k)/\eh (b.take k)<256^k
 |0=>by rw[JO];exact⟨jI 0,X⟩
 |k+1=>by
  have⟨h1,h2⟩:=Oj hb k
  rw[dq]
  cases hx:b[k]? with
  |none=>
   rw[Int.pow_succ]
   simp only[Option.toList_none,oV]
   generalize (256:Int)^k=p at*
   omega
  |some x=>
   have:=hb x (aQ hx)
   rw[Int.pow_succ]
   simp only[Option.toList_some]
   rw[HJ]
   generalize (256:Int)^k=p at*
   omega
variable{k:Nat}
def VN(hb:mJ b)(hk:k<=4):0<=eh (b.take k)/\eh (b.take k)<4294967296:=by
 have⟨h1,h2⟩:=Oj hb k;have h3:(256:Int)^k<=4294967296:=by
  rcases k with _|_|_|_|_|k
  ·decide
  ·decide
  ·decide
  ·decide
  ·decide
  ·omega
 exact⟨h1,Int.lt_of_lt_of_le h2 h3⟩
def Sc{c:Int}(hn:0<=n/\n<281474976710656)(hc:0<=c/\c<256):TJ .i64 (n*256) c=n*256+c:=by
 show I ((Ok 64 (n*256)|||Ok 64 c).toNat:Nat)=_;have e1:(Ok 64 (n*256)).toNat=2^8*n.toNat:=by rw[zg];simp only[show((2^64:Nat):Int)=18446744073709551616 from rfl,show(2:Nat)^8=256 from rfl];omega
 have e2:(Ok 64 c).toNat=c.toNat:=a0K
 rw[BitVec.toNat_or,e1,e2,<-Nat.two_pow_add_eq_or_of_lt (i:=8) (b:=c.toNat) U n.toNat];simp only[show(2:Nat)^8=256 from rfl];have:((256*n.toNat+c.toNat:Nat):Int)=n*256+c:=by omega
 rw[this];exact wI
abbrev ki:=Int×ab
structure Dk where
 room:Int
 k9:Int
 wait:Int
 safe:List ki
 l:List ki
def afC:aX->List ki->ki->List ki
 |done,[],w=>if done then []else [w]
 |done,x::t,w=>(if done=false/\x.1>=w.1 then [w]else [])++(if x.1≠w.1 then [x]else [])++afC (done||decide (x.1>=w.1)) t w
def lay(l:List ki)(w:ki):List ki:=afC false l w
def tU(d:Dk):List ki:=d.l.foldl lay d.safe
def ee(l:List ki):Nat:=(l.map λx=>x.2.length).sum
def pg(l:List ki)(k:Int):Option ab:=(l.find? λx=>x.1==k).map (·.2)
def om(d:Dk)(n:Int):Dk:=if n<0 then {d with k9:=min (-n) 1048576,wait:=1}else {d with k9:=n,wait:=0}
def jN(d:Dk):Dk×aX:=if 0<d.wait then({d with wait:=0},false)else if 0<d.k9 then({d with k9:=d.k9-1},true)else(d,false)
def kV(d:Dk)(k:Int)(b:ab):Dk×Int:=
 if(jN d).2=true then((jN d).1,9)else if(ee (lay (tU d) (k,b)):Int)>d.room then((jN d).1,8)else({(jN d).1 with l:=d.l++[(k,b)]},0)
def getD(d:Dk)(k:Int):ab:=(pg (tU d) k).getD []
def nX(d:Dk):Dk×Int:=if(jN d).2=true then((jN d).1,9)else({(jN d).1 with safe:=tU d,l:=[]},0)
def mC:Int->List ki->List ki->List ki
 |_,s,[]=>s
 |n,s,w::t=>if(w.2.length:Int)<=n then mC (n-w.2.length) (lay s w) t else lay s (w.1,w.2.take n.toNat)
def nq(d:Dk)(aV:Int):Int:=min (max aV 0) (ee d.l)
def cw(d:Dk)(aV:Int):Dk×Int:=({d with safe:=mC (nq d aV) d.safe d.l,l:=[],k9:=0,wait:=0},ee d.l-nq d aV)
def KT:∀(l:List ki)(w:ki),afC true l w=l.filter λx=>decide (x.1≠w.1)
 | [],_=>rfl
 |x::t,w=>by
  unfold afC
  rw[if_neg bo,Bool.true_or,KT t w,CU]
  by_cases h:x.1=w.1<;>simp[h]
def qN:∀(l:List ki)(w:ki),(lay l w).Perm (w::l.filter λx=>decide (x.1≠w.1))
 | [],_=>.refl _
 |x::t,w=>by
  unfold lay afC
  rw[Bool.false_or]
  by_cases h:x.1>=w.1
  ·rw[if_pos ⟨rfl,h⟩,decide_eq_true h,KT,CU]
   by_cases h2:x.1=w.1
   ·rw[if_neg (by simp[h2]),if_neg (by simp[h2])];exact .refl _
   ·rw[if_pos h2,if_pos (by simp[h2])];exact .refl _
  ·rw[if_neg λq=>h q.2,decide_eq_false h,if_pos U,CU,if_pos m_]
   have ih:=qN t w
   unfold lay at ih
   exact(List.Perm.cons x ih).trans (List.Perm.swap _ _ _)
def gS(l:List ki):ab:=l.map (·.1)
variable{l:List ki}
def Om(p:ki->aX)(h:(gS l).Nodup):(gS (l.filter p)).Nodup:=h.sublist ((List.filter_sublist).map _)
variable(h:(gS l).Nodup)
def vP{w:ki}:(gS (lay l w)).Nodup:=by refine((qN l w).map (·.1)).nodup_iff.2 ?_;rw[eH];refine uv.2 ⟨λhm=>?_,Om _ h⟩;have⟨x,hx,e⟩:=bc.1 hm;have:=(jY.1 hx).2;simp at this;exact this e
def uV:∀(t:List ki) {l:List ki},(gS l).Nodup->(gS (t.foldl lay l)).Nodup
 | [],_,h=>h
 |w::t,_,h=>uV t (vP h)
variable{a:List ki}
def B8{b:List ki}(h:a.Perm b):ee a=ee b:=(h.map λx:ki=>x.2.length).sum_nat
def ml(x:ki)(t:List ki):ee (x::t)=x.2.length+ee t:=rfl
def Su(a b:List ki):ee (a++b)=ee a+ee b:=by unfold ee;rw[cl,List.sum_append_nat]
variable{k:Int}
def BW:pg l k=some b↔(k,b)∈l:=by
 unfold pg
 induction l with
 |nil=>simp
 |cons x t ih=>
  have hn:=uv.1 h;rw[List.find?_cons];by_cases e:x.1=k
  ·rw[beq_iff_eq.2 e];simp only[mT,Option.some.injEq,cu];constructor
   ·rintro rfl;exact .inl (by rw[<-e])
   ·rintro(q|q)
    ·rw[<-q]
    ·exact absurd (bc.2 ⟨_,q,e.symm⟩) hn.1
  ·rw[show(x.1==k)=false by simpa using e,ih hn.2];simp only[cu];constructor
   ·exact .inr
   ·rintro(q|q)
    ·exact absurd (by rw[<-q]) e
    ·exact q
def BV:pg l k=none↔∀x∈l,x.1≠k:=by unfold pg;rw[Option.map_eq_none_iff,QC];simp
def ZV{b:List ki}(h:a.Perm b)(ha:(gS a).Nodup)(k:Int):pg a k=pg b k:=by
 have hb:(gS b).Nodup:=(h.map λx:ki=>x.1).nodup_iff.1 ha
 cases q:pg b k with
 |some x=>exact(BW ha).2 (h.mem_iff.2 ((BW hb).1 q))
 |none=>exact BV.2 λx hx=>BV.1 q x (h.mem_iff.1 hx)
def Dd(k:Int):ee (l.filter λx=>decide (x.1≠k))+((pg l k).getD []).length=ee l:=by
 induction l with
 |nil=>rfl
 |cons x t ih=>
  have hn:=uv.1 h;rw[CU];by_cases e:x.1=k
  ·rw[if_neg (by simp[e])];have hg:pg (x::t) k=some x.2:=by unfold pg;rw[List.find?_cons,beq_iff_eq.2 e];rfl
   have ht:t.filter (λx=>decide (x.1≠k))=t:=Ph.2 λy hy=>by simp only[ne_eq,decide_not,Bool.not_eq_true',fg];intro q;exact hn.1 (bc.2 ⟨y,hy,q.trans e.symm⟩)
   rw[hg,ht,ml,Option.getD_some];omega
  ·rw[if_pos (by simp[e])];have hg:pg (x::t) k=pg t k:=by unfold pg;rw[List.find?_cons,show(x.1==k)=false by simpa using e]
   have:=ih hn.2;rw[hg,ml,ml];omega
def G0(w:ki):ee (lay l w)+((pg l w.1).getD []).length=ee l+w.2.length:=by have:=Dd h w.1;rw[B8 (qN l w),ml];omega
structure nN(d:Dk):Prop where
 nd:(gS d.safe).Nodup
 len:∀k,(ee ((d.l.take k).foldl lay d.safe):Int)<=d.room
 w:0<=d.wait/\d.wait<=1
 f:0<=d.k9/\d.k9<=9223372036854775807
 r:0<=d.room/\d.room<=1048576
variable{d:Dk}(h:nN d)
def nN.now:(gS (tU d)).Nodup:=uV _ h.nd
def nN.amA:(ee (tU d):Int)<=d.room:=by have:=h.len d.l.length;rwa[kB]at this
def jq(d:Dk):(jN d).1.safe=d.safe/\(jN d).1.l=d.l/\(jN d).1.room=d.room:=by
 unfold jN;split
 ·exact⟨rfl,rfl,rfl⟩
 ·split<;>exact⟨rfl,rfl,rfl⟩
def nN.ask:nN (jN d).1:=by
 have⟨e1,e2,e3⟩:=jq d;refine⟨by rw[e1];exact h.nd,by rw[e1,e2,e3];exact h.len,?_,?_,by rw[e3];exact h.r⟩
 ·unfold jN;have:=h.w;split
  ·simp
  ·split<;>exact this
 ·unfold jN;have:=h.f;split
  ·exact this
  ·split
   ·exact hX
   ·exact this
def nN.put(k:Int)(b:ab):nN (kV d k b).1:=by
 have ha:=h.ask;have⟨e1,e2,e3⟩:=jq d;unfold kV;split
 ·exact ha
 ·split
  ·exact ha
  ·rename_i hr;refine⟨by rw[e1];exact h.nd,λn=>?_,ha.w,ha.f,ha.r⟩;rw[e1,e3];simp only;by_cases hn:n<=d.l.length
   ·rw[AO hn];exact h.len n
   ·rw[dN m_,og];show(ee (lay (tU d) (k,b)):Int)<=_;omega
def nN.sync:nN (nX d).1:=by
 have ha:=h.ask;have⟨e1,e2,e3⟩:=jq d;unfold nX;split
 ·exact ha
 ·refine⟨h.now,λn=>?_,ha.w,ha.f,ha.r⟩;simp only[List.take_nil,List.foldl_nil];rw[e3];exact h.amA
def nN.fail(hn:cH n):nN (om d n):=by
 unfold cH at hn;unfold om;split
 ·exact⟨h.nd,h.len,bo,hX,h.r⟩
 ·exact⟨h.nd,h.len,bo,hX,h.r⟩
def SU(room:Int):∀(t:List ki)(n:Int) {s:List ki},0<=n->(gS s).Nodup->(∀k,(ee ((t.take k).foldl lay s):Int)<=room)->(gS (mC n s t)).Nodup/\(ee (mC n s t):Int)<=room
 | [],n,s,_,h,hl=>⟨h,hl 0⟩
 |w::t,n,s,hn,h,hl=>by
  unfold mC
  split
  ·exact SU room t _ U (vP h) λk=>by have:=hl (k+1);rwa[List.take_succ_cons]at this
  ·refine⟨vP h,?_⟩
   have h1:=hl 1
   have e1:=G0 h w
   have e2:=G0 h (w.1,w.2.take n.toNat)
   have h1:(ee (lay s w):Int)<=room:=h1
   simp only[cS]at e2
   omega
def nN.Dr(n:Int):nN (cw d n).1:=by have⟨h1,h2⟩:=SU d.room d.l (nq d n) (s:=d.safe) (by unfold nq;omega) h.nd h.len;refine⟨h1,λk=>?_,by simp[cw],by simp[cw],h.r⟩;simp only[cw,List.take_nil,List.foldl_nil];exact h2
end
open Classical in
noncomputable def DD{α:Type}(f:α->Int)(l:List α)(x:α):List α:=if ∃y∈l,f y=f x then l.map (λy=>if f y=f x then x else y)else l++[x]
def JL{α:Type}(f:α->Int)(x:α):∀{l:List α},(l.map f).Nodup->(DD f l x).Perm (x::l.filter λy=>decide (f y≠f x))
 | [],_=>by unfold DD;rw[if_neg bo];exact .refl _
 |y::t,h=>by
  have hn:=uv.1 h
  have ih:=JL f x hn.2
  by_cases e:f y=f x
  ·have lp:∀z∈t,f z≠f x:=λz hz q=>hn.1 (bc.2 ⟨z,hz,q.trans e.symm⟩)
   unfold DD
   rw[if_pos ⟨y,.head _,e⟩,eH,if_pos e,CU,if_neg (by simp[e])]
   rw[Ph.2 (λz hz=>by simpa using lp z hz)]
   have:t.map (λy=>if f y=f x then x else y)=t:=by
    conv=>rhs;rw[<-List.map_id t]
    exact CP λz hz=>by rw[if_neg (lp z hz)];rfl
   rw[this]
  ·rw[CU,if_pos (by simp[e])];refine List.Perm.trans ?_ (List.Perm.swap _ _ _);refine List.Perm.trans ?_ (List.Perm.cons y ih);unfold DD;by_cases q:∃z∈t,f z=f x
   ·have⟨z,hz,qz⟩:=q;rw[if_pos ⟨z,.tail _ hz,qz⟩,if_pos ⟨z,hz,qz⟩,eH,if_neg e]
   ·rw[if_neg (by
     rintro⟨z,hz,qz⟩;rcases cu.1 hz with rfl|hz
     ·exact e qz
     ·exact q ⟨z,hz,qz⟩),if_neg q]
    exact .refl _
def Pj{α:Type}{f:α->Int}{l:List α}{x y:α}(h:y∈DD f l x):y=x\/y∈l:=by
 unfold DD at h;split at h
 ·have⟨z,hz,e⟩:=bc.1 h;split at e
  ·exact .inl e.symm
  ·exact .inr (e▸hz)
 ·rcases dp.1 h with h|h
  ·exact .inr h
  ·exact .inl (ds h)
def Pk{α:Type}{f:α->Int}{g:α->ab}{l:List α}{s:List ki}(x:α)(h:(l.map λy=>(f y,g y)).Perm s)(hn:(gS s).Nodup):((DD f l x).map λy=>(f y,g y)).Perm (lay s (f x,g x)):=by
 have hk:(l.map f).Nodup:=by have:=(h.map λy:ki=>y.1).nodup_iff.2 hn;rwa[pR]at this
 refine((JL f x hk).map _).trans ?_;refine List.Perm.trans ?_ (qN s (f x,g x)).symm;rw[eH];refine List.Perm.cons _ ?_;have:=h.filter λy=>decide (y.1≠f x)
 rw[List.filter_map]at this;exact this
abbrev Rc:=Int×Int×ab
def j2(best:Rc)(slot:Int)(r:Int×ab×Int):Rc:=if r.2.2=0/\r.1>best.2.1 then(slot,r.1,r.2.1)else best
def kL(D:Dk)(id:Int):Rc:=j2 (j2 (2*id+1,0,[]) (2*id) (pT (getD D (2*id)))) (2*id+1) (pT (getD D (2*id+1)))
def IE(id:Int):aX:=decide (0<=id)&&decide (id<=1099511627776)
def pU(D:Dk)(id:Int):ab×Int×aX:=if IE id=true then((kL D id).2.2,(kL D id).2.1,decide ((kL D id).2.1>0))else([],0,false)
def tJ(D:Dk)(id:Int)(body:ab):Dk×Int:=
 if IE id=true then
  if(zf ((kL D id).2.1+1) body).2≠0 then(D,(zf ((kL D id).2.1+1) body).2)
  else if(kV D (4*id+1-(kL D id).1) (zf ((kL D id).2.1+1) body).1).2≠0 then kV D (4*id+1-(kL D id).1) (zf ((kL D id).2.1+1) body).1
  else nX (kV D (4*id+1-(kL D id).1) (zf ((kL D id).2.1+1) body).1).1
 else(D,1)
def ahN(n:Nat):(2*n) ^^^1=2*n+1/\(2*n+1) ^^^1=2*n:=by
 have h1:=Nat.xor_div_two (a:=2*n) (b:=1);have par:∀a:Nat,(a ^^^1)%2=1↔¬a%2=1:=λa=>by have:=Nat.testBit_xor a 1 0;rw[Nat.testBit_zero,Nat.testBit_zero,Nat.testBit_zero]at this;simp only[Nat.reduceMod,decide_true,Bool.xor_true]at this;rw[<-decide_eq_true_iff (p:=(a ^^^1)%2=1),this];simp
 have h2:=par (2*n);have h3:=Nat.xor_div_two (a:=2*n+1) (b:=1);have h4:=par (2*n+1);rw[show 1/2=0 from rfl,Nat.xor_zero]at h1 h3;omega
def acU{id:Int}(h:0<=id/\id<=1099511627776):lA .i64 (2*id) 1=2*id+1/\lA .i64 (2*id+1) 1=2*id:=by
 have key:∀n:Nat,n<=2^60->lA .i64 (n:Int) 1=((n ^^^1:Nat):Int):=λn hn=>by
  show I ((Ok 64 (n:Int) ^^^Ok 64 1).toNat:Nat)=_;have e1:(Ok 64 (n:Int)).toNat=n:=a0K
  rw[BitVec.toNat_xor,e1];show I ((n ^^^1:Nat):Int)=_;have:n ^^^1<2^61:=Nat.xor_lt_two_pow U X;exact wI
 have⟨x1,x2⟩:=ahN id.toNat;constructor
 ·have:=key (2*id.toNat) U;rw[x1]at this;rw[show 2*id=((2*id.toNat:Nat):Int)by omega,this];omega
 ·have:=key (2*id.toNat+1) U;rw[x2]at this;rw[show 2*id+1=((2*id.toNat+1:Nat):Int)by omega,this];omega
def FA{best:Rc}{slot:Int}{r:Int×ab×Int}:(j2 best slot r).1=best.1\/(j2 best slot r).1=slot:=by
 unfold j2;split
 ·exact .inr rfl
 ·exact .inl rfl
def Pm(D:Dk)(id:Int):(kL D id).1=2*id\/(kL D id).1=2*id+1:=by
 unfold kL;rcases FA (best:=j2 (2*id+1,0,[]) (2*id) (pT (getD D (2*id)))) (slot:=2*id+1) (r:=pT (getD D (2*id+1)))with h|h
 ·rw[h];rcases FA (best:=(2*id+1,0,[])) (slot:=2*id) (r:=pT (getD D (2*id)))with h|h
  ·exact .inr h
  ·exact .inl h
 ·exact .inr h
def al8(b:ab):0<=(pT b).1/\(pT b).1<=1073741824:=by
 by_cases h:(pT b).2.2=0
 ·have:=aqJ h;omega
 ·rw[(aqK h).1];omega
def WV{best:Rc}{slot:Int}(b:ab)(h:0<=best.2.1/\best.2.1<=1073741824):0<=(j2 best slot (pT b)).2.1/\(j2 best slot (pT b)).2.1<=1073741824:=by
 unfold j2;split
 ·exact al8 b
 ·exact h
def akv(D:Dk)(id:Int):0<=(kL D id).2.1/\(kL D id).2.1<=1073741824:=WV _ (WV _ (show(0:Int)<=0/\(0:Int)<=1073741824 by decide))
def acV(D:Dk):(jN D).1.l=D.l:=(jq D).2.1
def acW(D:Dk)(k:Int)(b:ab):(kV D k b).1.l.length<=D.l.length+1:=by
 unfold kV;split
 ·rw[acV];omega
 ·split
  ·rw[acV];omega
  ·simp
def al9(D:Dk):(nX D).1.l.length<=D.l.length:=by
 unfold nX;split
 ·rw[acV];omega
 ·simp
def acX(D:Dk)(id:Int)(b:ab):(tJ D id b).1.l.length<=D.l.length+1:=by
 unfold tJ;split
 ·split
  ·exact lN _
  ·split
   ·exact acW _ _ _
   ·exact cV (al9 _) (acW _ _ _)
 ·exact lN _
def Xv{m:Nat}:∀{l:List ki},(∀x∈l,x.2.length<=m)->ee l<=l.length*m
 | [],_=>eG _
 |x::t,h=>by
  have h1:=h x (.head _)
  have h2:=Xv (l:=t) λy hy=>h y (.tail _ hy)
  rw[ml,cL,pP,Nat.one_mul];omega
def ad8{v:Int}{body:ab}(hv:1<=v/\v<=1073741824)(hb:(body.length:Int)<=65536):pT (gL (dy v body))=(v,body,0):=aqZ hv hb
def air{room id:Int}:pU ⟨room,0,0,[],[]⟩ id=([],0,false):=by unfold pU;split<;>rfl
end Go.bW
namespace Go.dS
open Go Go.Vc
set_option maxRecDepth 100000
set_option maxHeartbeats 8000000
abbrev Cl:=Int×Int×Int
abbrev It:=Int×Cl
def cv(c:Cl):aC:=.agg #[c.1,c.2.1,c.2.2]
def tv(t:Int):aC:=S t
abbrev eV(c:Cl):LV:=[S c.1,S c.2.1,S c.2.2]
abbrev fM(x:It):LV:=[S x.1,S x.2.1,S x.2.2.1,S x.2.2.2]
def G5{a b:Cl}(h:cv a=cv b):a=b:=by unfold cv at h;have⟨a1,a2,a3⟩:=a;have⟨b1,b2,b3⟩:=b;simp at h;obtain⟨rfl,rfl,rfl⟩:=h;rfl
structure QS where
 room:Int
 lost:Int
 l:List It
def iH(l:List It)(c:Cl):List It:=l.filter λx=>x.2 !=c
def tY(l:List It)(x:It):List It:=l.takeWhile (λy=>y.1<=x.1)++x::l.dropWhile (λy=>y.1<=x.1)
def nm(l:List It)(c:Cl):Option Int:=(l.find? λx=>x.2==c).map (·.1)
def lD(q:QS)(c:Cl)(t:Int):QS×aX:=
 match nm q.l c with
 |some was=>if was<=t then(q,false)else({q with l:=tY (iH q.l c) (t,c)},true)
 |none=>if(q.l.length:Int)>=q.room then({q with lost:=q.lost+1},false)else({q with l:=tY q.l (t,c)},true)
def iQ(l:List It)(now many:Int):Nat:=min (l.takeWhile λy=>y.1<=now).length many.toNat
def Na(q:QS)(now many:Int):QS×List Cl:=({q with l:=q.l.drop (iQ q.l now many)},(q.l.take (iQ q.l now many)).map (·.2))
structure yN(q:QS):Prop where
 room:1<=q.room/\q.room<=4096
 len:(q.l.length:Int)<=q.room
 sorted:q.l.Pairwise λa b=>a.1<=b.1
 nodup:(q.l.map (·.2)).Nodup
def B9(l:List It)(c:Cl):(iH l c).Sublist l:=List.filter_sublist
section
variable{l:List It}{c:Cl}
def yb{t:Int}(h:nm l c=some t):(t,c)∈l:=by
 unfold nm at h
 cases hf:l.find? (λx=>x.2==c)with
 |none=>rw[hf]at h;cases h
 |some x=>
  rw[hf]at h;have h1:=List.find?_some hf;have h2:=G6 hf;have⟨a,b⟩:=x;simp at h h1;subst h;subst h1;exact h2
def sH(h:nm l c=none):∀x∈l,x.2≠c:=by unfold nm at h;rw[Option.map_eq_none_iff,QC]at h;intro x hx e;exact h x hx (by simp[e])
def Kr(h:l.Pairwise λa b=>a.1<=b.1)(t:Int):(∀y∈l.takeWhile (λy=>y.1<=t),y.1<=t)/\(∀y∈l.dropWhile (λy=>y.1<=t),t<y.1):=by
 induction l with
 |nil=>simp
 |cons a l ih=>
  rw[List.pairwise_cons]at h;by_cases ha:a.1<=t
  ·rw[List.takeWhile_cons_of_pos (ds ha),List.dropWhile_cons_of_pos (ds ha)];have⟨i1,i2⟩:=ih h.2;refine⟨λy hy=>?_,i2⟩;rcases cu.1 hy with rfl|hy
   ·exact ha
   ·exact i1 y hy
  ·rw[List.takeWhile_cons_of_neg (ds ha),List.dropWhile_cons_of_neg (ds ha)];refine⟨bo,λy hy=>?_⟩;rcases cu.1 hy with rfl|hy
   ·omega
   ·have:=h.1 y hy;omega
def AE(h:l.Pairwise λa b=>a.1<=b.1)(t:Int){i:Nat}{y:It}(hi:l[i]? =some y):i<(l.takeWhile (λy=>y.1<=t)).length↔y.1<=t:=by
 have hs:=Kr h t;have e:=Ks (p:=λy:It=>decide (y.1<=t)) (l:=l);constructor
 ·intro fK;rw[<-e,oS fK]at hi;exact hs.1 y (aQ hi)
 ·intro hle;rcases iR i (l.takeWhile (λy=>y.1<=t)).length with fK|S5
  ·exact fK
  ·rw[<-e,pO S5]at hi;have:=hs.2 y (aQ hi);omega
def aiz(l:List It)(x:It):l.take (l.takeWhile λy=>decide (y.1<=x.1)).length++x::l.drop (l.takeWhile λy=>decide (y.1<=x.1)).length=tY l x:=by
 have h:∀(a b l:List It),a++b=l->l.take a.length++x::l.drop a.length=a++x::b:=by rintro a b _ rfl;simp
 exact h _ _ _ (Ks (p:=λy:It=>decide (y.1<=x.1)) (l:=l))
def Q3(l:List It)(x:It):(tY l x).length=l.length+1:=by have e:=congrArg List.length (Ks (p:=λy:It=>decide (y.1<=x.1)) (l:=l));unfold tY;simp only[cj,cL]at e⊢;omega
def G8(l:List It)(x y:It):y∈tY l x↔y=x\/y∈l:=by
 unfold tY;conv=>rhs;rw[<-Ks (p:=λy:It=>decide (y.1<=x.1)) (l:=l)]
 simp only[dp,cu];constructor
 ·rintro(h|h|h)
  ·exact .inr (.inl h)
  ·exact .inl h
  ·exact .inr (.inr h)
 ·rintro(h|h|h)
  ·exact .inr (.inl h)
  ·exact .inl h
  ·exact .inr (.inr h)
def Dh(h:l.Pairwise λa b=>a.1<=b.1)(x:It):(tY l x).Pairwise λa b=>a.1<=b.1:=by
 have hs:=Kr h x.1;have e:=Ks (p:=λy:It=>decide (y.1<=x.1)) (l:=l);unfold tY;rw[<-e,List.pairwise_append]at h;rw[List.pairwise_append];refine⟨h.1,List.pairwise_cons.2 ⟨λy hy=>a1N (hs.2 y hy),h.2.1⟩,λa ha b hb=>?_⟩;rcases cu.1 hb with rfl|hb
 ·exact hs.1 a ha
 ·exact h.2.2 a ha b hb
variable{x:It}
def G9(h:(l.map (·.2)).Nodup)(hx:∀y∈l,y.2≠x.2):((tY l x).map (·.2)).Nodup:=by
 have e:=Ks (p:=λy:It=>decide (y.1<=x.1)) (l:=l);unfold tY;have hx':∀y∈l.takeWhile (λy=>y.1<=x.1)++l.dropWhile (λy=>y.1<=x.1),y.2≠x.2:=by rw[e];exact hx
 rw[<-e,cl,GW]at h;rw[cl,eH,GW];refine⟨h.1,uv.2 ⟨λhm=>?_,h.2.1⟩,λa ha b hb=>?_⟩
 ·have⟨y,hy,e⟩:=bc.1 hm;exact hx' y (Dc _ hy) e
 ·rcases cu.1 hb with rfl|hb
  ·obtain⟨y,hy,rfl⟩:=bc.1 ha;exact hx' y (Ha _ hy)
  ·exact h.2.2 a ha b hb
variable{q:QS}(h:yN q)
def yN.add(c:Cl)(t:Int):yN (lD q c t).1:=by
 unfold lD;split
 ·rename_i was hw;split
  ·exact h
  ·have dP:=B9 q.l c;have fK:(iH q.l c).length<q.l.length:=by
    have hm:=yb hw;have:(iH q.l c).length≠q.l.length:=λe=>by have:=dP.eq_of_length e;rw[<-this]at hm;unfold iH at hm;simp at hm
    have:=dP.length_le;omega
   have:=h.len;exact⟨h.room,by rw[Q3];show((_:Nat):Int)<=q.room;omega,Dh (h.sorted.sublist dP) _,G9 ((dP.map _).nodup h.nodup) (λy hy=>by unfold iH at hy;simp at hy;exact hy.2)⟩
 ·rename_i hn;split
  ·exact⟨h.room,h.len,h.sorted,h.nodup⟩
  ·exact⟨h.room,by rw[Q3];show((_:Nat):Int)<=q.room;omega,Dh h.sorted _,G9 h.nodup (sH hn)⟩
def yN.drop(c:Cl):yN {q with l:=iH q.l c}:=by have dP:=B9 q.l c;have:=dP.length_le;have:=h.len;exact⟨h.room,by show((iH q.l c).length:Int)<=q.room;omega,h.sorted.sublist dP,(dP.map _).nodup h.nodup⟩
def yN.due(now many:Int):yN (Na q now many).1:=by have dP:(q.l.drop (iQ q.l now many)).Sublist q.l:=List.drop_sublist _ _;have:=dP.length_le;have:=h.len;exact⟨h.room,by show((q.l.drop (iQ q.l now many)).length:Int)<=q.room;omega,h.sorted.sublist dP,(dP.map _).nodup h.nodup⟩
def BY(q:QS)(c:Cl)(t:Int):q.lost<=(lD q c t).1.lost/\(lD q c t).1.lost<=q.lost+1:=by
 unfold lD;split
 ·split<;>exact⟨jI _,a1o⟩
 ·split
  ·exact⟨a1o,jI _⟩
  ·exact⟨jI _,a1o⟩
def Ea(q:QS):List It->QS×Nat
 | []=>(q,0)
 |x::l=>((Ea (lD q x.2 x.1).1 l).1,(if(lD q x.2 x.1).2 then 1 else 0)+(Ea (lD q x.2 x.1).1 l).2)
def Z9(now many:Int){k:Nat}(hx:q.l[k]? =some x):k<iQ q.l now many↔(k:Int)<many/\x.1<=now:=by have:=AE h.sorted now hx;unfold iQ;rw[<-this];omega
def aaa(l:List It)(now many:Int):iQ l now many<=l.length:=by have:=(List.takeWhile_sublist (λy:It=>decide (y.1<=now)) (l:=l)).length_le;unfold iQ;omega
end
end Go.dS
namespace Go.dS
end Go.dS
namespace Go.dS
open Go Go.Vc
set_option maxRecDepth 100000
set_option maxHeartbeats 8000000
def aeZ{q:QS}{c:Cl}{t:Int}(hn:∀x∈q.l,x.2≠c)(hr:(q.l.length:Int)<q.room):lD q c t=({q with l:=tY q.l (t,c)},true):=by
 have hq:nm q.l c=none:=by
  cases h:nm q.l c with
  |none=>rfl
  |some t=>exact absurd rfl (hn _ (yb h))
 unfold lD;rw[hq];simp only;rw[if_neg U]
end Go.dS
namespace Go.ej
open Go Go.Vc Go.bW Go.dS
set_option maxRecDepth 100000
set_option maxHeartbeats 8000000
abbrev Cg:=Ce×Int
def rW(b:Int):aX:=decide (8<=b)&&decide (b<16)
def jS(b:Int):Int:=if b=3 then 2 else if rW b then 5 else 0
def il(b:Int):Int:=if rW b then b-8 else -1
def kv(l:Int):Int:=8+min (max l 0) 7
def mN(b:Int):aX:=decide (b=0)||rW b
def fy(c:Ce):Ce:=(c.1,c.2.1-1,c.2.2)
def Ds(c:Ce):Ce:=(c.1,c.2.1+1,c.2.2)
def cU(c:Ce):List Ce:=[(c.1-1,c.2.1,c.2.2),(c.1+1,c.2.1,c.2.2),(c.1,c.2.1,c.2.2-1),(c.1,c.2.1,c.2.2+1)]
def rZ(c:Ce):List Ce:=[(c.1-1,c.2.1,c.2.2),(c.1+1,c.2.1,c.2.2),fy c,Ds c,(c.1,c.2.1,c.2.2-1),(c.1,c.2.1,c.2.2+1)]
def sG(V:Ce->Int)(c:Ce):List Ce:=(c::rZ c).filter λn=>decide (0<jS (V n))
def GR(V:Ce->Int)(now:Int)(q:QS)(c:Ce):QS:=(sG V c).foldl (λq n=>(lD q n (now+jS (V n))).1) q
def Mg(V:Ce->Int)(l:List Ce):Int:=l.foldl (λm n=>if 0<=il (V n)then min m (il (V n))else m) 7
def ik(V:Ce->Int)(c:Ce):Int×aX:=if rW (V (Ds c))then(1,true)else if Mg V (cU c)=7 then(0,false)else(Mg V (cU c)+1,true)
def Sq(V:Ce->Int)(c:Ce):List Cg:=if mN (V (fy c))then [(c,V (fy c)),(fy c,3)]else []
def nJ(V:Ce->Int)(c:Ce)(level:Int):List Cg:=
 if 0<level/\(ik V c).2=false then [(c,0)]
 else if 0<level/\(ik V c).1≠level then [(c,kv (ik V c).1)]
 else if V (fy c)=0 then [(fy c,kv 1)]
 else if rW (V (fy c))=true\/7<=level then []
 else((cU c).filter λn=>decide (V n=0)).map λn=>(n,kv (level+1))
def iU(V:Ce->Int)(c:Ce):List Cg:=if V c=3 then Sq V c else if rW (V c)then nJ V c (il (V c))else []
end Go.ej
namespace Go.fY
open Go Go.Vc Go.bW
set_option maxRecDepth 100000
set_option maxHeartbeats 8000000
abbrev Bx:=Ce×Ce
def dD(n:Int):Int:=min (max n (-140737488355328)) 140737488355328
def dU(a b:Int):Int:=dD (dD a+dD b)
def nh(a b:Int):Int:=dD (dD a-dD b)
def bY(n:Int):Int:=dD n/65536
def uL(n:Int):Int:=dD n%65536
def uM(n:Int):Int:=min (max n (-2147483648)) 2147483648*65536
def sw(n:Int): -140737488355328<=dD n/\dD n<=140737488355328:=by unfold dD;omega
def BL(n:Int): -2147483648<=bY n/\bY n<=2147483648:=by have:=sw n;unfold bY;omega
def oz{n:Int}(h: -140737488355328<=n/\n<=140737488355328):dD n=n:=by unfold dD;omega
def dj(v:Ce)(i:Int):Int:=if i=0 then v.1 else if i=1 then v.2.1 else if i=2 then v.2.2 else 0
def Gl(f:Int->Int->Int)(v:Ce):Ce:=(f 0 v.1,f 1 v.2.1,f 2 v.2.2)
def iY(a b:Ce):Ce:=Gl (λi n=>dU n (dj b i)) a
def uJ(a b:Ce):Ce:=Gl (λi n=>nh n (dj b i)) a
def fV(v:Ce)(ax n:Int):Ce:=Gl (λi own=>if i=ax then dD n else own) v
def F8(aw:Ce)(w h:Int):Bx:=(uJ aw (max w 0/2,0,max w 0/2),iY aw (max w 0/2,max h 0,max w 0/2))
def ba(v:Ce):Ce:=(bY v.1,bY v.2.1,bY v.2.2)
def iV(b:Bx)(i:Int):aX:=decide (dj b.1 i=dj b.2 i)&&decide (uL (dj b.1 i)=0)
abbrev zI(b:Bx):Ce:=ba (iY b.2 (-1,-1,-1))
def fj(b:Bx):Ce:=(if b.1.1=b.2.1 then(ba b.1).1 else(zI b).1,if b.1.2.1=b.2.2.1 then(ba b.1).2.1 else(zI b).2.1,if b.1.2.2=b.2.2.2 then(ba b.1).2.2 else(zI b).2.2)
def wN(b:Bx):aX:= !(iV b 0||iV b 1||iV b 2)
def cg(a b:Int):Nat:=(b-a+1).toNat
def My(a b:Ce):List Ce:=(List.range (cg a.2.1 b.2.1*cg a.2.2 b.2.2*cg a.1 b.1)).map λk:Nat=>
 (a.1+((k%cg a.1 b.1:Nat):Int),a.2.1+((k/cg a.1 b.1/cg a.2.2 b.2.2:Nat):Int),a.2.2+((k/cg a.1 b.1%cg a.2.2 b.2.2:Nat):Int))
def ky(b:Bx):List Ce:=if wN b then My (ba b.1) (fj b)else []
def j8(V:Ce->Int)(b:Bx)(p:Int->aX):aX:=(ky b).any λc=>p (V c)
def nL(b:Bx):Bx:=(fV b.1 1 (nh b.1.2.1 1),fV b.2 1 b.1.2.1)
def vF(v:Ce):(-2147483648<=(ba v).1/\(ba v).1<=2147483648)/\(-2147483648<=(ba v).2.1/\(ba v).2.1<=2147483648)/\-2147483648<=(ba v).2.2/\(ba v).2.2<=2147483648:=⟨BL _,BL _,BL _⟩
def Xl(b:Bx):(-2147483648<=(fj b).1/\(fj b).1<=2147483648)/\(-2147483648<=(fj b).2.1/\(fj b).2.1<=2147483648)/\-2147483648<=(fj b).2.2/\(fj b).2.2<=2147483648:=by have h1:=vF b.1;have h2:=vF (iY b.2 (-1,-1,-1));unfold fj zI;simp only;refine⟨?_,?_,?_⟩<;>split<;>omega
def Xm{a b i n:Nat}(h:i<n)(ha:a<b):a*n+i<b*n:=by have:=tf n (show a+1<=b from ha);rw[pP,Nat.one_mul]at this;omega
def Xn{a i n:Nat}(h:i<n):(a*n+i)%n=i/\(a*n+i)/n=a:=by
 constructor
 ·rw[Nat.mul_add_mod',Nat.mod_eq_of_lt h]
 ·rw[CO,Nat.add_mul_div_right _ _ U,Nat.div_eq_of_lt h,eF]
def Xo(a b:Ce){jy jz jx:Nat}(hy:jy<cg a.2.1 b.2.1)(hz:jz<cg a.2.2 b.2.2)(hx:jx<cg a.1 b.1): (My a b)[(jy*cg a.2.2 b.2.2+jz)*cg a.1 b.1+jx]? =some (a.1+(jx:Int),a.2.1+(jy:Int),a.2.2+(jz:Int)):=by
 unfold My;rw[aW,Fq (Xm hx (Xm hz hy))];have⟨h1,h2⟩:=Xn (a:=jy*cg a.2.2 b.2.2+jz) hx;have⟨h3,h4⟩:=Xn (a:=jy) hz;simp only[mT,h1,h2,h3,h4]
def adD(a b:Ce):(My a b).length=cg a.2.1 b.2.1*cg a.2.2 b.2.2*cg a.1 b.1:=by unfold My;simp
def Qg{a b c:Ce}(h:c∈My a b):(a.1<=c.1/\c.1<=b.1)/\(a.2.1<=c.2.1/\c.2.1<=b.2.1)/\a.2.2<=c.2.2/\c.2.2<=b.2.2:=by
 unfold My at h;obtain⟨k,hk,rfl⟩:=bc.1 h;have hk:=qc.1 hk;have hx:0<cg a.1 b.1:=by
  by_cases q:cg a.1 b.1=0
  ·rw[q,Nat.mul_zero]at hk;omega
  ·omega
 have hz:0<cg a.2.2 b.2.2:=by
  by_cases q:cg a.2.2 b.2.2=0
  ·rw[q,Nat.mul_zero,Nat.zero_mul]at hk;omega
  ·omega
 have h1:=Nat.mod_lt k hx;have h2:=Nat.mod_lt (k/cg a.1 b.1) hz;have h3:k/cg a.1 b.1/cg a.2.2 b.2.2<cg a.2.1 b.2.1:=by rw[Nat.div_div_eq_div_mul];refine Nat.div_lt_of_lt_mul ?_;rw[Nat.mul_comm (cg a.1 b.1),Nat.mul_comm,<-Nat.mul_assoc];exact hk
 generalize k%cg a.1 b.1=p1 at*;generalize k/cg a.1 b.1/cg a.2.2 b.2.2=p2 at*;generalize k/cg a.1 b.1%cg a.2.2 b.2.2=p3 at*;unfold cg at*;simp only;omega
def Kc(n:Int):Int:=min (max n (-65536)) 65536/4
def iW(n:Int):Int:=min (max n (-70368744177664)) 70368744177664
def jA(aw d:Ce):Ce:=uJ (iW (iY aw d).1,iW (iY aw d).2.1,iW (iY aw d).2.2) aw
def uW(h:aX×aX×aX)(v:Ce):Ce:=(λv=>if h.2.2 then fV v 2 0 else v) ((λv=>if h.2.1 then fV v 1 0 else v) (if h.1 then fV v 0 0 else v))
def sy(b:Bx)(ax k:Int):Bx:=(fV b.1 ax (uM k),fV b.2 ax (uM (k+1)))
def mi(d:Int):Int:=min (max d (-4194304)) 4194304
def C'(top d k:Int):Nat:=((top+d-k*65536+65535)/65536).toNat
def tA(low d k:Int):Nat:=(((k+1)*65536-(low+d)+65535)/65536).toNat
def du(b:Bx)(ax d:Int):List (Int×Int):=
 if 0<d then(List.range (C' (dj b.2 ax) d (bY (dj b.2 ax+65535)))).map λi:Nat=>(bY (dj b.2 ax+65535)+i,(bY (dj b.2 ax+65535)+i)*65536-dj b.2 ax)
 else(List.range (tA (dj b.1 ax) d (bY (dj b.1 ax)-1))).map λi:Nat=>(bY (dj b.1 ax)-1-i,(bY (dj b.1 ax)-1-i+1)*65536-dj b.1 ax)
def eX(V:Ce->Int)(p:Int->aX)(b:Bx)(ax d:Int):Int×aX:=
 match (du b ax (mi d)).find? (λx=>j8 V (sy b ax x.1) p)with
 |some x=>(x.2,true)
 |none=>(mi d,false)
def adF(b:Bx)(v:Ce):Bx:=(iY b.1 v,iY b.2 v)
def bA(V:Ce->Int)(p:Int->aX)(b:Bx)(ax d:Int):Bx×aX:=(adF b (fV (0,0,0) ax (eX V p b ax d).1),(eX V p b ax d).2)
def bU(b:Bx)(m:Int):Prop:=((-m<=b.1.1/\b.1.1<=m)/\(-m<=b.1.2.1/\b.1.2.1<=m)/\-m<=b.1.2.2/\b.1.2.2<=m)/\(-m<=b.2.1/\b.2.1<=m)/\(-m<=b.2.2.1/\b.2.2.1<=m)/\-m<=b.2.2.2/\b.2.2.2<=m
section
variable{b:Bx}{m:Int}
def bU.ax(h:bU b m)(hm:0<=m)(i:Int):(-m<=dj b.1 i/\dj b.1 i<=m)/\-m<=dj b.2 i/\dj b.2 i<=m:=by unfold bU at h;unfold dj;refine⟨?_,?_⟩<;>(repeat' split)<;>omega
variable{d k:Int}{i:Nat}
def aiR{top:Int}(h:top+d-k*65536<=100000000):(k+(i:Int))*65536<top+d↔i<C' top d k:=by unfold C';omega
def aau{low:Int}:low+d<(k-(i:Int)+1)*65536↔i<tA low d k:=by unfold tA;omega
def ET(d:Int): -4194304<=mi d/\mi d<=4194304:=by unfold mi;omega
variable(hb:bU b 100000000000000)
def QB{ax:Int}(hd: -4194304<=d/\d<=4194304):∀x∈du b ax d,(-1525900000<=x.1/\x.1<=1525900000)/\-4194304<=x.2/\x.2<=4194304:=by
 have hn:=hb.ax X ax;have c1:=oz (n:=dj b.2 ax+65535) U;have c2:=oz (n:=dj b.1 ax) U;intro x hx;unfold du at hx;split at hx
 ·obtain⟨i,hi,rfl⟩:=bc.1 hx;have hi:=qc.1 hi;unfold C' at hi;unfold bY at hi⊢;rw[c1]at hi⊢;simp only;omega
 ·obtain⟨i,hi,rfl⟩:=bc.1 hx;have hi:=qc.1 hi;unfold tA at hi;unfold bY at hi⊢;rw[c2]at hi⊢;simp only;omega
variable{V:Ce->Int}{p:Int->aX}
def qb{ax:Int}: -4194304<=(eX V p b ax d).1/\(eX V p b ax d).1<=4194304:=by
 unfold eX;split
 next x hx=>exact(QB hb (ET d) x (G6 hx)).2
 ·exact ET d
variable{n:Int}
def ju{a:Int}(ha: -m<=a/\a<=m)(hn: -k<=n/\n<=k)(hmk:m+k<=140737488355328):dU a n=a+n/\-(m+k)<=dU a n/\dU a n<=m+k:=by unfold dU dD;omega
variable(hb:bU b m)
def aaM{v:Ce}(hv:(-k<=v.1/\v.1<=k)/\(-k<=v.2.1/\v.2.1<=k)/\-k<=v.2.2/\v.2.2<=k)(hmk:m+k<=140737488355328):bU (adF b v) (m+k):=by unfold bU at hb⊢;have⟨⟨h1,h2,h3⟩,h4,h5,h6⟩:=hb;have⟨v1,v2,v3⟩:=hv;exact⟨⟨(ju h1 v1 hmk).2,(ju h2 v2 hmk).2,(ju h3 v3 hmk).2⟩,(ju h4 v1 hmk).2,(ju h5 v2 hmk).2,(ju h6 v3 hmk).2⟩
def JW{ax:Int}(hn: -k<=n/\n<=k)(hk:0<=k):(-k<=(fV (0,0,0) ax n).1/\(fV (0,0,0) ax n).1<=k)/\(-k<=(fV (0,0,0) ax n).2.1/\(fV (0,0,0) ax n).2.1<=k)/\-k<=(fV (0,0,0) ax n).2.2/\(fV (0,0,0) ax n).2.2<=k:=by
 have hc: -k<=dD n/\dD n<=k:=by unfold dD;omega
 unfold fV Gl;simp only;refine⟨?_,?_,?_⟩<;>split<;>omega
def bV{ax:Int}(hm:m<=100000000000000):bU (bA V p b ax d).1 (m+4194304):=by
 have hb':bU b 100000000000000:=by unfold bU at hb⊢;omega
 exact aaM hb (JW (qb hb') X) U
def j4(V:Ce->Int)(p:Int->aX)(b:Bx)(d:Ce):Bx×(aX×aX×aX):=
 let y:=bA V p b 1 d.2.1
 let x:=bA V p y.1 0 d.1
 let z:=bA V p x.1 2 d.2.2
 (z.1,(x.2,y.2,z.2))
variable{d:Ce}
def Mk(hm:m<=99990000000000):bU (j4 V p b d).1 (m+12582912):=by
 have h1:=bV (V:=V) (p:=p) (ax:=1) (d:=d.2.1) hb U;have h2:=bV (V:=V) (p:=p) (ax:=0) (d:=d.1) h1 U;have h3:=bV (V:=V) (p:=p) (ax:=2) (d:=d.2.2) h2 U;have:m+4194304+4194304+4194304=m+12582912:=by omega
 rw[this]at h3;exact h3
def Kw(a b:Bx):Int:=max (b.1.1-a.1.1) (-(b.1.1-a.1.1))+max (b.1.2.2-a.1.2.2) (-(b.1.2.2-a.1.2.2))
def jH(V:Ce->Int)(p:Int->aX)(b:Bx)(d:Ce)(up:Int):Bx×(aX×aX×aX):=
 let m:=j4 V p b d
 if(!m.2.1&&!m.2.2.2)||decide (up<=0)||!j8 V (nL b) p then m
 else
  let high:=bA V p b 1 (min up 65536)
  let x:=bA V p high.1 0 d.1
  let z:=bA V p x.1 2 d.2.2
  let y:=bA V p z.1 1 (-(high.1.1.2.1-b.1.2.1))
  if Kw b y.1<=Kw b m.1 then m else(y.1,(x.2,true,z.2))
end
def c8(a:Ce)(m:Int):Prop:=(-m<=a.1/\a.1<=m)/\(-m<=a.2.1/\a.2.1<=m)/\-m<=a.2.2/\a.2.2<=m
def tN(a b:Ce)(k:Int):Prop:=(-k<=b.1-a.1/\b.1-a.1<=k)/\(-k<=b.2.1-a.2.1/\b.2.1-a.2.1<=k)/\-k<=b.2.2-a.2.2/\b.2.2-a.2.2<=k
section
variable{a b c:Ce}{k n:Int}
def tN.A(h:tN a b k)(h':tN b c n):tN a c (k+n):=by unfold tN at*;omega
def tN.up(h:tN a b k)(hn:k<=n):tN a b n:=by unfold tN at*;omega
variable{b:Bx}{m:Int}(h:bU b m)
def bU.lo:c8 b.1 m:=h.1
def bU.up(hmn:m<=n):bU b n:=by unfold bU at h⊢;omega
def c8.up{b:Ce}(h:c8 b m)(hmn:m<=n):c8 b n:=by unfold c8 at h⊢;omega
def Xe{v:Ce}(ha:c8 a m)(hv:(-k<=v.1/\v.1<=k)/\(-k<=v.2.1/\v.2.1<=k)/\-k<=v.2.2/\v.2.2<=k)(hmk:m+k<=140737488355328):c8 (iY a v) (m+k)/\tN a (iY a v) k:=by have⟨h1,h2,h3⟩:=ha;have⟨v1,v2,v3⟩:=hv;have q1:=ju h1 v1 hmk;have q2:=ju h2 v2 hmk;have q3:=ju h3 v3 hmk;have e1:(iY a v).1=dU a.1 v.1:=rfl;have e2:(iY a v).2.1=dU a.2.1 v.2.1:=rfl;have e3:(iY a v).2.2=dU a.2.2 v.2.2:=rfl;unfold c8 tN;rw[e1,e2,e3];omega
variable{V:Ce->Int}{p:Int->aX}(hb:bU b m)
def mf{ax d:Int}(hm:m<=100000000000000):tN b.1 (bA V p b ax d).1.1 4194304:=by have hb':bU b 100000000000000:=hb.up hm;exact(Xe hb.lo (JW (qb hb') X) U).2
variable{d:Ce}
def F7(hm:m<=99990000000000):tN b.1 (j4 V p b d).1.1 12582912:=by have h1:=bV (V:=V) (p:=p) (ax:=1) (d:=d.2.1) hb U;have h2:=bV (V:=V) (p:=p) (ax:=0) (d:=d.1) h1 U;have o1:=mf (V:=V) (p:=p) (ax:=1) (d:=d.2.1) hb U;have o2:=mf (V:=V) (p:=p) (ax:=0) (d:=d.1) h1 U;have o3:=mf (V:=V) (p:=p) (ax:=2) (d:=d.2.2) h2 U;exact((o1.A o2).A o3).up X
def PT{up:Int}(hm:m<=99980000000000):tN b.1 (jH V p b d up).1.1 16777216/\bU (jH V p b d up).1 (m+16777216):=by
 have mo:=F7 (V:=V) (p:=p) (d:=d) hb U;have mn:=Mk (V:=V) (p:=p) (d:=d) hb U;have h1:=bV (V:=V) (p:=p) (ax:=1) (d:=min up 65536) hb U;have h2:=bV (V:=V) (p:=p) (ax:=0) (d:=d.1) h1 U;have h3:=bV (V:=V) (p:=p) (ax:=2) (d:=d.2.2) h2 U;have h4:=bV (V:=V) (p:=p) (ax:=1) (d:= -((bA V p b 1 (min up 65536)).1.1.2.1-b.1.2.1)) h3 U;have o1:=mf (V:=V) (p:=p) (ax:=1) (d:=min up 65536) hb U;have o2:=mf (V:=V) (p:=p) (ax:=0) (d:=d.1) h1 U;have o3:=mf (V:=V) (p:=p) (ax:=2) (d:=d.2.2) h2 U;have o4:=mf (V:=V) (p:=p) (ax:=1) (d:= -((bA V p b 1 (min up 65536)).1.1.2.1-b.1.2.1)) h3 U;have o:=((o1.A o2).A o3).A o4;unfold jH;simp only;split
 ·exact⟨mo.up X,mn.up U⟩
 ·split
  ·exact⟨mo.up X,mn.up U⟩
  ·exact⟨o.up X,h4.up U⟩
variable{aw:Ce}(hf:c8 aw m)
def Uu{wd ht:Int}(hw:0<=wd/\wd<=1000000)(hh:0<=ht/\ht<=1000000)(hm:m+1000000<=140737488355328):bU (F8 aw wd ht) (m+1000000):=by
 have yE:0<=max wd 0/2/\max wd 0/2<=1000000:=by omega
 have hh2:0<=max ht 0/\max ht 0<=1000000:=by omega
 generalize hq:max wd 0/2=q at*;generalize hr:max ht 0=r at*;have⟨h1,h2,h3⟩:=hf;have e:F8 aw wd ht=((nh aw.1 q,nh aw.2.1 0,nh aw.2.2 q),(dU aw.1 q,dU aw.2.1 r,dU aw.2.2 q)):=by unfold F8;rw[hq,hr];rfl
 rw[e];unfold bU nh dU dD;simp only;omega
def PU{b:Ce}(hb:c8 b n)(hc:c8 c n)(ho:tN b c k)(hn:n<=140737488355328)(hk:0<=k)(hmk:m+k<=140737488355328):c8 (iY aw (uJ c b)) (m+k):=by
 have hm:0<=m:=by unfold c8 at hf;omega
 refine(Xe hf ?_ hmk).1;have e1:(uJ c b).1=nh c.1 b.1:=rfl;have e2:(uJ c b).2.1=nh c.2.1 b.2.1:=rfl;have e3:(uJ c b).2.2=nh c.2.2 b.2.2:=rfl;rw[e1,e2,e3];unfold tN at ho;unfold c8 at hb hc;unfold nh dD;omega
end
end Go.fY
namespace Go.iG
open Go Go.Vc
set_option maxRecDepth 100000
set_option maxHeartbeats 8000000
abbrev VQ(s:aq)(i:Nat):Nat:=(s.get! i).toNat
def am6(s:aq)(i:Nat)(h:i<s.size):1<=(Utf8.decode s i).2/\i+(Utf8.decode s i).2<=s.size/\((VQ s i<128->Utf8.decode s i=(VQ s i,1))/\(128<=VQ s i->128<=(Utf8.decode s i).1))/\∀j,0<j->j<(Utf8.decode s i).2->128<=VQ s (i+j):=by
 unfold VQ;have h0:s.get! (i+0)=s.get! i:=rfl;unfold Utf8.decode;simp only[h0];generalize hb:(s.get! i).toNat=b0;by_cases c1:b0<128
 ·rw[if_pos c1];exact⟨ak _,hX,⟨λ_=>rfl,λq=>by omega⟩,λj h1 h2=>by simp only at h2;omega⟩
 ·rw[if_neg c1]
  have one:1<=((Utf8.runeError,1):Nat×Nat).2/\i+((Utf8.runeError,1):Nat×Nat).2<=s.size/\((b0<128->((Utf8.runeError,1):Nat×Nat)=(b0,1))/\(128<=b0->128<=((Utf8.runeError,1):Nat×Nat).1))/\∀j,0<j->j<((Utf8.runeError,1):Nat×Nat).2->128<=(s.get! (i+j)).toNat:=
   ⟨ak _,hX,⟨λq=>absurd q c1,λ_=>by decide⟩,λj h1 h2=>by simp only at h2;omega⟩
  split
  ·rename_i c2;simp only[fF,cC,beq_iff_eq]at c2;split
   ·rename_i c3;exact⟨hX,hX,⟨λq=>absurd q c1,λ_=>hX⟩,λj h1 h2=>by
     simp only at h2;have:j=1:=by omega
     subst this;omega⟩
   ·exact one
  ·split
   ·rename_i c2;simp only[fF,cC,beq_iff_eq]at c2;split
    ·rename_i c3;simp only[fF,cC,ge_iff_le]at c3;exact⟨hX,hX,⟨λq=>absurd q c1,λ_=>hX⟩,λj h1 h2=>by
      simp only at h2;have:j=1\/j=2:=by omega
      rcases this with rfl|rfl<;>omega⟩
    ·exact one
   ·split
    ·rename_i c2;simp only[fF,cC,beq_iff_eq]at c2;split
     ·rename_i c3;simp only[fF,cC,ge_iff_le]at c3;exact⟨hX,hX,⟨λq=>absurd q c1,λ_=>hX⟩,λj h1 h2=>by
       simp only at h2;have:j=1\/j=2\/j=3:=by omega
       rcases this with rfl|rfl|rfl<;>omega⟩
     ·exact one
    ·exact one
def HX(s:aq)(i:Nat)(x:Option Nat×List (Nat×Nat)):Option Nat×List (Nat×Nat):=
 if VQ s i=32 then(match x.1 with|some a=>(none,x.2++[(a,i)])|none=>(none,x.2))else(some (x.1.getD i),x.2)
def Jh(s:aq):Nat->Option Nat×List (Nat×Nat)
 |0=>(none,[])
 |i+1=>HX s i (Jh s i)
def af1(s:aq)(i a:Nat)(h:(Jh s i).1=some a):∀k,(∀j,j<k->VQ s (i+j)≠32)->Jh s (i+k)=Jh s i
 |0,_=>rfl
 |k+1,hk=>by
  have ih:=af1 s i a h k λj hj=>hk j U
  show HX s (i+k) (Jh s (i+k))=_
  rw[ih]
  unfold HX
  rw[if_neg (hk k U),h]
  exact Prod.ext h.symm rfl
def U'(r:Nat):aX:=r==32
def xi(s:aq):∀(f pos:Nat)(V0:Option Nat)(acc:List (Nat×Nat)),pos<=s.size->s.size-pos<=f->Jh s pos=(V0,acc)->Lib.spansFromP U' s f pos V0 acc=((Jh s s.size).2,(Jh s s.size).1)
 |0,pos,V0,acc,h1,h2,h3=>by
  have:pos=s.size:=by omega
  subst this;rw[h3];rfl
 |f+1,pos,V0,acc,h1,h2,h3=>by
  unfold Lib.spansFromP;by_cases hp:pos<s.size
  ·rw[if_pos hp];have⟨d1,d2,⟨d3,d4⟩,d5⟩:=am6 s pos hp;have hb:Jh s (pos+1)=HX s pos (V0,acc):=by show HX s pos (Jh s pos)=_;rw[h3]
   unfold HX at hb;by_cases c:VQ s pos<128
   ·rw[d3 c];simp only;by_cases c2:VQ s pos=32
    ·rw[if_pos (by unfold U';rw[c2];rfl)];rw[if_pos c2]at hb
     cases V0 with
     |some a=>exact xi s f _ _ _ U U hb
     |none=>exact xi s f _ _ _ U U hb
    ·rw[if_neg (by unfold U';simpa using c2)];rw[if_neg c2]at hb
     cases V0 with
     |some a=>exact xi s f _ _ _ U U hb
     |none=>exact xi s f _ _ _ U U hb
   ·have hc:=d4 U;rw[if_neg (by unfold U';simp;omega)];rw[if_neg U]at hb;have hr:=af1 s (pos+1) _ (by rw[hb]) ((Utf8.decode s pos).2-1) λj hj=>by have:=d5 (j+1) U U;rw[show pos+1+j=pos+(j+1)by omega];omega
    rw[show pos+1+((Utf8.decode s pos).2-1)=pos+(Utf8.decode s pos).2 by omega,hb]at hr
    cases V0 with
    |some a=>exact xi s f _ _ _ U U hr
    |none=>exact xi s f _ _ _ U U hr
  ·rw[if_neg hp];have:pos=s.size:=by omega
   subst this;rw[h3]
def cT(s:aq):aa:=Lib.goFieldsP U' s
def zGw(s:aq)(i:Nat):aa:=(Jh s i).2.map λx=>s.extract x.1 x.2
def gR(s:aq)(i:Nat):aq:=match (Jh s i).1 with|some a=>s.extract a i|none=>ByteArray.empty
def aaX(s:aq):cT s=zGw s s.size++(match (Jh s s.size).1 with|some a=>[s.extract a s.size]|none=>[]):=by
 unfold cT Lib.goFieldsP Lib.spansOfP zGw;rw[xi s s.size 0 none [] (eG _) U rfl];unfold Lib.closeSpans
 cases (Jh s s.size).1 with
 |some a=>simp
 |none=>simp
def aaT(s:aq):∀(i:Nat) {a:Nat},(Jh s i).1=some a->a<i
 |0,a,h=>by cases h
 |i+1,a,h=>by
  have h:(HX s i (Jh s i)).1=some a:=h
  unfold HX at h
  split at h
  ·split at h<;>cases h
  ·simp only[Option.some.injEq]at h
   cases hq:(Jh s i).1 with
   |none=>rw[hq]at h;simp at h;omega
   |some b=>rw[hq]at h;simp at h;have:=aaT s i hq;omega
abbrev bl(s:aq):List UInt8:=s.data.toList
def acZ(x y:aq):bl (x++y)=bl x++bl y:=by simp[bl,ByteArray.data_append]
def jQ(s:aq):(bl s).length=s.size:=by simp[bl]
def arj(s:aq)(i:Nat):VQ s i=((bl s).getD i 0).toNat:=by unfold VQ bl;congr 1;rw[dG,Array.getElem?_toList];show s.data[i]! =_;rw[Array.getElem!_eq_getD,Array.getD_eq_getD_getElem?];rfl
def KL(o:Option Int)(b:UInt8):Option Int:=o.bind λn=>if 48<=b.toNat/\b.toNat<=57 then some (n*10+(b.toNat:Int)-48)else none
def uR(l:List UInt8):Option Int:=l.foldl KL (some 0)
def CB(l:List UInt8)(b:UInt8):uR (l++[b])=KL (uR l) b:=by unfold uR;rw[og];rfl
def S4:∀(l:List UInt8),l.foldl KL none=none
 | []=>rfl
 |b::l=>S4 l
def Jm{l:List UInt8}(h:uR l=none)(m:List UInt8):uR (l++m)=none:=by unfold uR at*;rw[og,h];exact S4 m
def EU:∀(k:Nat) {l:List UInt8},l.length=k->∀{n:Int},uR l=some n->0<=n/\n<10^k
 |0,l,h,n,hn=>by
  have:l=[]:=ur.1 h
  subst this
  cases hn
  decide
 |k+1,l,h,n,hn=>by
  rcases List.eq_nil_or_concat l with rfl|⟨m,b,rfl⟩
  ·simp at h
  ·rw[List.concat_eq_append]at hn h
   rw[CB]at hn
   have hm:m.length=k:=by simpa using h
   unfold KL at hn
   cases hq:uR m with
   |none=>rw[hq]at hn;cases hn
   |some x=>
    rw[hq]at hn;have⟨b1,b2⟩:=EU k hm hq;simp only[Option.bind_some]at hn;split at hn
    ·rename_i hb
     cases hn
     rw[Int.pow_succ];omega
    ·cases hn
def OU(l:List UInt8):List UInt8:=if l.head? =some 45 then l.drop 1 else l
def ai4(l:List UInt8):Int×aX:=
 if(OU l).length<1\/15<(OU l).length then(0,false)else match uR (OU l)with
  |none=>(0,false)
  |some n=>(if l.head? =some 45 then -n else n,true)
def zX(s:aq):Int×aX:=ai4 (bl s)
def nG(n:Int):UInt8:=UInt8.ofNat (48+(n.tmod 10).natAbs)
def vX:Nat->Int->List UInt8
 |0,_=>[]
 |f+1,n=>if -10<n/\n<10 then(if n<0 then [45,nG n]else [nG n])else vX f (n.tdiv 10)++[nG n]
def afJ:Nat->Nat->List UInt8
 |0,_=>[]
 |f+1,n=>if n<10 then [nG n]else afJ f (n/10)++[nG n]
def afK(n:Int):(n.tmod 10).natAbs=n.natAbs%10:=by rw[Int.natAbs_tmod];rfl
def Ls(n:Int):(n.tdiv 10).natAbs=n.natAbs/10:=by rw[Int.natAbs_tdiv];rfl
def HZ(n:Int):nG n=nG (n.natAbs:Int):=by unfold nG;rw[afK,afK];rfl
def ac0:∀(f:Nat)(n:Int),n.natAbs<10^f->vX f n=(if n<0 then [45]else [])++afJ f n.natAbs
 |0,n,h=>by
  have:n=0:=by simpa using h
  subst this;rfl
 |f+1,n,h=>by
  unfold vX afJ;by_cases hs: -10<n/\n<10
  ·have hn:n.natAbs<10:=by omega
   rw[if_pos hs,if_pos hn];split
   ·rw[HZ];rfl
   ·rw[HZ];rfl
  ·have hn:¬n.natAbs<10:=by omega
   rw[if_neg hs,if_neg hn,ac0 f (n.tdiv 10) (by rw[Ls];rw[Nat.pow_succ]at h;omega),Ls,<-HZ,fT];congr 1;have:n.tdiv 10<0↔n<0:=by have q1:=Int.mul_tdiv_add_tmod n 10;have q2:=Int.tmod_lt_of_pos n (b:=10) X;have q3:=Int.lt_tmod_of_pos n (b:=10) X;omega
   simp only[this]
def Pp:∀(f n:Nat),(afJ f n).length<=f
 |0,_=>ak _
 |f+1,n=>by
  unfold afJ
  split
  ·simp
  ·have:=Pp f (n/10)
   simp
   exact this
def z_:List UInt8->List UInt8->List (List UInt8)
 |cur,[]=>if cur=[]then []else [cur]
 |cur,c::r=>if c=32 then(if cur=[]then []else [cur])++z_ [] r else z_ (cur++[c]) r
def XO(l:List UInt8):List (List UInt8):=z_ [] l
def acB:∀(w cur l:List UInt8),(∀c∈w,c≠32)->z_ cur (w++l)=z_ (cur++w) l
 | [],cur,l,_=>by rw[oV];rfl
 |c::w,cur,l,h=>by
  show z_ cur (c::(w++l))=_
  rw[z_,if_neg (h c bo),acB w (cur++[c]) l λx hx=>h x (by simp[hx])]
  simp
def afI{w:List UInt8}(l:List UInt8)(h0:w≠[])(h:∀c∈w,c≠32):XO (w++32::l)=w::XO l:=by unfold XO;rw[acB w [] _ h,Pz,z_,if_pos rfl,if_neg h0];rfl
def ajU{s:aq}{i a:Nat}(hi:i<=s.size)(h:(Jh s i).1=some a):bl (s.extract a i)≠[]:=by have:=aaT s i h;intro q;have e:=congrArg List.length q;rw[jQ,ByteArray.size_extract]at e;simp at e;omega
def ahh(s:aq)(i:Nat)(hi:i<=s.size):(if bl (gR s i)=[]then([]:List (List UInt8))else [bl (gR s i)])=(match (Jh s i).1 with|some a=>[bl (s.extract a i)]|none=>[]):=by
 unfold gR
 cases h:(Jh s i).1 with
 |none=>simp[bl]
 |some a=>simp only[if_neg (ajU hi h)]
def ab7(s:aq)(i j:Nat):bl (s.extract i j)=((bl s).drop i).take (j-i):=a1e
def acC(s:aq){a i:Nat}(h:a<=i){c:UInt8}(hc:(bl s)[i]? =some c):bl (s.extract a (i+1))=bl (s.extract a i)++[c]:=by rw[ab7,ab7,show i+1-a=(i-a)+1 by omega,dq,yZ,show a+(i-a)=i by omega,hc];rfl
def acD(s:aq):∀i:Nat,i<=s.size->XO (bl s)=(zGw s i).map bl++z_ (bl (gR s i)) ((bl s).drop i)
 |0,_=>rfl
 |i+1,hi=>by
  have ih:=acD s i U
  obtain⟨c,hc⟩:∃c,(bl s)[i]? =some c:=⟨_,cK (by rw[jQ];omega)⟩
  have hd:(bl s).drop i=c::(bl s).drop (i+1):=by
   have hl:i<(bl s).length:=by rw[jQ];omega
   rw[zV hl];rw[cK hl]at hc;rw[ka1 hc]
  have hb:VQ s i=c.toNat:=by
   have hl:i<s.data.size:=hi;have:s.get! i=c:=by show s.data[i]! =c;rw[getElem!_pos s.data i hl];rw[Array.getElem?_toList,Array.getElem?_eq_getElem hl]at hc;exact ka1 hc
   unfold VQ;rw[this]
  have hst:Jh s (i+1)=HX s i (Jh s i):=rfl;rw[ih,hd,z_];by_cases h32:c=32
  ·have akK:VQ s i=32:=by rw[hb,h32];rfl
   unfold HX at hst;rw[if_pos akK]at hst;rw[if_pos h32,ahh s i U]
   cases h:(Jh s i).1 with
   |none=>
    rw[h]at hst;unfold zGw gR;rw[hst];rfl
   |some a=>
    rw[h]at hst;unfold zGw gR;rw[hst];simp[bl]
  ·have akK:¬VQ s i=32:=by rw[hb];intro q;exact h32 (UInt8.toNat_inj.1 q)
   unfold HX at hst;rw[if_neg akK]at hst;rw[if_neg h32];unfold zGw gR;rw[hst]
   cases h:(Jh s i).1 with
   |none=>
    show _=_++z_ (bl (s.extract i (i+1))) _;rw[acC s (ak i) hc,ab7];simp[bl]
   |some a=>
    show _=_++z_ (bl (s.extract a (i+1))) _;rw[acC s (Nat.le_of_lt (aaT s i h)) hc]
def acE(s:aq):(cT s).map bl=XO (bl s):=by
 rw[acD s s.size (ak _),aaX,cl];have hd:(bl s).drop s.size=[]:=List.drop_eq_nil_of_le (by rw[jQ];exact ak _);rw[hd,z_,ahh s s.size (ak _)]
 cases (Jh s s.size).1<;>rfl
def ahi{s:aq}{ws:aa}(h:XO (bl s)=ws.map bl):cT s=ws:=by have hb:=acE s;rw[h]at hb;exact(List.map_inj_right λx y e=>(by cases x;cases y;simpa[bl,Array.toList_inj]using e)).1 hb
end Go.iG
namespace Go.bW
open Go Go.Vc Go.aN
set_option maxRecDepth 100000
set_option maxHeartbeats 8000000
def ai5{v:Int}{body:ab}(hb:(body.length:Int)<=65536){n:Nat}(hn:n<(gL (dy v body)).length):(pT ((gL (dy v body)).take n)).2.2≠0:=by
 have hl:((gL (dy v body)).take n).length=n:=by rw[cS];omega
 rw[BC,rj]at hn;unfold pT;by_cases h0:(te ((gL (dy v body)).take n)).2≠0
 ·rw[if_pos h0];exact h0
 ·rw[if_neg h0];have e:(te ((gL (dy v body)).take n)).1=((gL (dy v body)).take n).take (n-2)/\2<=n:=by
   unfold te at h0⊢;rw[hl]at h0⊢;by_cases c:n<2
   ·rw[if_pos c]at h0;simp at h0
   ·rw[if_neg c]at h0⊢;by_cases c2:qO ((gL (dy v body)).take n)=0#16
    ·rw[if_pos c2];exact⟨rfl,U⟩
    ·rw[if_neg c2]at h0;simp at h0
  have⟨e,h2⟩:=e;rw[e];have TE:(((gL (dy v body)).take n).take (n-2)).length=n-2:=by rw[cS,hl];omega
  rw[TE];by_cases c:n-2<7
  ·rw[if_pos c];simp
  ·rw[if_neg c];have et:((gL (dy v body)).take n).take (n-2)=(dy v body).take (n-2):=by rw[List.take_take,show min (n-2) n=n-2 by omega];unfold gL;rw[AO (by rw[rj];omega)]
   rw[et];have e4:=sV 4 v;have e3:=sV 3 (body.length:Int);have d7:(((dy v body).take (n-2)).drop 7).length=n-9:=by rw[wU,cS,rj];omega
   have t3:(((dy v body).take (n-2)).drop 4).take 3=be 3 body.length:=by rw[List.drop_take,List.take_take,show min 3 (n-2-4)=3 by omega];unfold dy;rw[fT,List.drop_append_of_le_length U,wH U,Pz,AO U,dN U]
   rw[if_pos (.inr (.inr (.inr (by rw[t3,be3 U,d7];omega))))];simp
end Go.bW
namespace Go.fY
open Go Go.Vc Go.bW
set_option maxRecDepth 100000
set_option maxHeartbeats 8000000
def bt(d r:Int):Prop:=(0<=r/\r<=d)\/(d<=r/\r<=0)
section
variable{b:Bx}{ax d:Int}(hb:bU b 100000000000000)
def aeW(hd: -4194304<=d/\d<=4194304):∀x∈du b ax d,bt d x.2:=by
 have hn:=hb.ax X ax;have c1:=oz (n:=dj b.2 ax+65535) U;have c2:=oz (n:=dj b.1 ax) U;intro x hx;unfold du at hx;split at hx
 ·obtain⟨i,hi,rfl⟩:=bc.1 hx;have hi:=qc.1 hi;unfold C' at hi;unfold bY at hi⊢;rw[c1]at hi⊢;unfold bt;simp only;omega
 ·obtain⟨i,hi,rfl⟩:=bc.1 hx;have hi:=qc.1 hi;unfold tA at hi;unfold bY at hi⊢;rw[c2]at hi⊢;unfold bt;simp only;omega
variable{V:Ce->Int}{p:Int->aX}
def sU:bt d (eX V p b ax d).1:=by
 unfold eX;split
 next x hx=>have:=aeW hb (ET d) x (G6 hx);unfold bt mi at*;omega
 ·unfold bt mi;omega
def iJ(b:Bx)(v:Ce):Bx:=((b.1.1+v.1,b.1.2.1+v.2.1,b.1.2.2+v.2.2),(b.2.1+v.1,b.2.2.1+v.2.1,b.2.2.2+v.2.2))
def iN(b:Bx)(u v:Ce):iJ (iJ b u) v=iJ b (u.1+v.1,u.2.1+v.2.1,u.2.2+v.2.2):=by unfold iJ;simp only[Prod.mk.injEq];omega
def fO{a n:Int}(ha: -100000000000000<=a/\a<=100000000000000)(hn: -4194304<=n/\n<=4194304):dU a (dD n)=a+n/\dU a 0=a:=by unfold dU dD;omega
def N3:(bA V p b 0 d).1=iJ b ((eX V p b 0 d).1,0,0):=by
 have hr:=qb (V:=V) (p:=p) (ax:=0) (d:=d) hb;have⟨⟨a1,a2,a3⟩,a4,a5,a6⟩:=hb;generalize hq:(eX V p b 0 d).1=r at*;have e:(bA V p b 0 d).1=((dU b.1.1 (dD r),dU b.1.2.1 0,dU b.1.2.2 0),(dU b.2.1 (dD r),dU b.2.2.1 0,dU b.2.2.2 0)):=by unfold bA;rw[hq];rfl
 rw[e,(fO a1 hr).1,(fO a2 hr).2,(fO a3 hr).2,(fO a4 hr).1,(fO a5 hr).2,(fO a6 hr).2];unfold iJ;simp
def AW:(bA V p b 1 d).1=iJ b (0,(eX V p b 1 d).1,0):=by
 have hr:=qb (V:=V) (p:=p) (ax:=1) (d:=d) hb;have⟨⟨a1,a2,a3⟩,a4,a5,a6⟩:=hb;generalize hq:(eX V p b 1 d).1=r at*;have e:(bA V p b 1 d).1=((dU b.1.1 0,dU b.1.2.1 (dD r),dU b.1.2.2 0),(dU b.2.1 0,dU b.2.2.1 (dD r),dU b.2.2.2 0)):=by unfold bA;rw[hq];rfl
 rw[e,(fO a1 hr).2,(fO a2 hr).1,(fO a3 hr).2,(fO a4 hr).2,(fO a5 hr).1,(fO a6 hr).2];unfold iJ;simp
def N4:(bA V p b 2 d).1=iJ b (0,0,(eX V p b 2 d).1):=by
 have hr:=qb (V:=V) (p:=p) (ax:=2) (d:=d) hb;have⟨⟨a1,a2,a3⟩,a4,a5,a6⟩:=hb;generalize hq:(eX V p b 2 d).1=r at*;have e:(bA V p b 2 d).1=((dU b.1.1 0,dU b.1.2.1 0,dU b.1.2.2 (dD r)),(dU b.2.1 0,dU b.2.2.1 0,dU b.2.2.2 (dD r))):=by unfold bA;rw[hq];rfl
 rw[e,(fO a1 hr).2,(fO a2 hr).2,(fO a3 hr).1,(fO a4 hr).2,(fO a5 hr).2,(fO a6 hr).1];unfold iJ;simp
variable{d:Ce}{m:Int}(hb:bU b m)
def E2(hm:m<=99990000000000): ∃y x z,y=(eX V p b 1 d.2.1).1/\x=(eX V p (iJ b (0,y,0)) 0 d.1).1/\z=(eX V p (iJ b (x,y,0)) 2 d.2.2).1/\(j4 V p b d).1=iJ b (x,y,z)/\bt d.1 x/\bt d.2.1 y/\bt d.2.2 z:=by
 have h0:=hb.up (show m<=100000000000000 by omega);have h1:=bV (V:=V) (p:=p) (ax:=1) (d:=d.2.1) hb U;have h2:=bV (V:=V) (p:=p) (ax:=0) (d:=d.1) h1 U;have S6:=h1.up (show m+4194304<=100000000000000 by omega);have V9:=h2.up (show m+4194304+4194304<=100000000000000 by omega);have e1:=AW (V:=V) (p:=p) (d:=d.2.1) h0;have e2:=N3 (V:=V) (p:=p) (d:=d.1) S6;have e3:=N4 (V:=V) (p:=p) (d:=d.2.2) V9;have b1:=sU (V:=V) (p:=p) (ax:=1) (d:=d.2.1) h0;have b2:=sU (V:=V) (p:=p) (ax:=0) (d:=d.1) S6;have b3:=sU (V:=V) (p:=p) (ax:=2) (d:=d.2.2) V9;rw[e1]at e2 e3 b2 b3;rw[e2,iN]at e3 b3;simp only[Int.zero_add,Int.add_zero]at e3 b3;refine⟨_,_,_,rfl,rfl,rfl,?_,b2,b1,b3⟩;show(bA V p (bA V p (bA V p b 1 d.2.1).1 0 d.1).1 2 d.2.2).1=_;rw[e1,e2,iN];simp only[Int.zero_add,Int.add_zero];rw[e3,iN];simp only[Int.zero_add,Int.add_zero]
variable{up:Int}
def aiW(hm:m<=99980000000000)(hu:0<=up): ∃x y z,(jH V p b d up).1=iJ b (x,y,z)/\bt d.1 x/\(bt d.2.1 y\/(0<=y/\y<=up))/\bt d.2.2 z:=by
 obtain⟨y,x,z,-,-,-,e,hx,hy,hz⟩:=E2 (V:=V) (p:=p) (d:=d) hb U;unfold jH;simp only;split
 ·exact⟨x,y,z,e,hx,.inl hy,hz⟩
 split
 ·exact⟨x,y,z,e,hx,.inl hy,hz⟩
 ·have h0:=hb.up (show m<=100000000000000 by omega);have n1:=bV (V:=V) (p:=p) (ax:=1) (d:=min up 65536) hb U;have n2:=bV (V:=V) (p:=p) (ax:=0) (d:=d.1) n1 U;have n3:=bV (V:=V) (p:=p) (ax:=2) (d:=d.2.2) n2 U;have n1':=n1.up (show m+4194304<=100000000000000 by omega);have n2':=n2.up (show m+4194304+4194304<=100000000000000 by omega);have n3':=n3.up (show m+4194304+4194304+4194304<=100000000000000 by omega);have e1:=AW (V:=V) (p:=p) (d:=min up 65536) h0;have b1:=sU (V:=V) (p:=p) (ax:=1) (d:=min up 65536) h0;have b2:=sU (V:=V) (p:=p) (ax:=0) (d:=d.1) n1';have b3:=sU (V:=V) (p:=p) (ax:=2) (d:=d.2.2) n2';have e2:=N3 (V:=V) (p:=p) (d:=d.1) n1';have e3:=N4 (V:=V) (p:=p) (d:=d.2.2) n2';have hr:(bA V p b 1 (min up 65536)).1.1.2.1-b.1.2.1=(eX V p b 1 (min up 65536)).1:=by rw[e1];unfold iJ;simp only;omega
  rw[hr];have b4:=sU (V:=V) (p:=p) (ax:=1) (d:= -(eX V p b 1 (min up 65536)).1) n3';have e4:=AW (V:=V) (p:=p) (d:= -(eX V p b 1 (min up 65536)).1) n3';rw[e4,e3,e2,e1,iN,iN,iN];rw[e3,e2,e1]at b4;rw[e2,e1]at b3;rw[e1]at b2;refine⟨_,_,_,rfl,ds b2,.inr ?_,ds b3⟩;unfold bt at b1 b4;simp only;omega
def R0{a b c:Ce}:c∈My a b↔(a.1<=c.1/\c.1<=b.1)/\(a.2.1<=c.2.1/\c.2.1<=b.2.1)/\a.2.2<=c.2.2/\c.2.2<=b.2.2:=by
 refine⟨Qg,λh=>?_⟩;have hy:(c.2.1-a.2.1).toNat<cg a.2.1 b.2.1:=a0e
 have hz:(c.2.2-a.2.2).toNat<cg a.2.2 b.2.2:=a0e
 have hx:(c.1-a.1).toNat<cg a.1 b.1:=a0e
 have:=aQ (Xo a b hy hz hx);have e:(a.1+((c.1-a.1).toNat:Int),a.2.1+((c.2.1-a.2.1).toNat:Int),a.2.2+((c.2.2-a.2.2).toNat:Int))=c:=by have⟨c1,c2,c3⟩:=c;simp only[Prod.mk.injEq]at h⊢;omega
 rwa[e]at this
def Z'(V:Ce->Int):Prop:=∀(x y y' z:Int),32<=y->32<=y'->V (x,y,z)=V (x,y',z)
def hiB(b:Bx):Prop:=32<=bY b.1.2.1/\b.1.2.1<b.2.2.1/\-100000000000000<=b.1.2.1/\b.2.2.1<=100000000000000
variable{c:Bx}(hV:Z' V)
def X4(hb:hiB b)(hc:hiB c)(h1:c.1.1=b.1.1)(h2:c.2.1=b.2.1)(h3:c.1.2.2=b.1.2.2)(h4:c.2.2.2=b.2.2.2)(h:j8 V b p=true):j8 V c p=true:=by
 unfold j8 at h⊢;rw[List.any_eq_true]at h⊢;have⟨x,hx,hp⟩:=h;unfold hiB at hb hc;unfold ky at hx;split at hx
 case isFalse=>cases hx
 rename_i hs;have hs':wN c=true:=by
  have t0:iV c 0=iV b 0:=by unfold iV dj;simp only[if_true];rw[h1,h2]
  have t2:iV c 2=iV b 2:=by unfold iV dj;simp only[show ¬(2:Int)=0 by decide,show ¬(2:Int)=1 by decide,if_false,if_true];rw[h3,h4]
  have t1:iV c 1=false:=by unfold iV dj;simp only[show ¬(1:Int)=0 by decide,if_false,if_true];rw[decide_eq_false U];rfl
  unfold wN at hs⊢;rw[t0,t1,t2];revert hs
  cases iV b 0<;>cases iV b 1<;>cases iV b 2<;>simp
 have hx:=R0.1 hx;refine⟨(x.1,bY c.1.2.1,x.2.2),?_,?_⟩
 ·unfold ky;rw[if_pos hs'];refine R0.2 ?_;have ex:(fj c).1=(fj b).1:=by unfold fj zI ba iY Gl dj;simp only[if_true];rw[h1,h2]
  have ez:(fj c).2.2=(fj b).2.2:=by unfold fj zI ba iY Gl dj;simp only[show ¬(2:Int)=0 by decide,show ¬(2:Int)=1 by decide,if_false,if_true];rw[h3,h4]
  have ey:(ba c.1).2.1<=(fj c).2.1:=by unfold fj zI ba iY Gl dj;simp only[show ¬(1:Int)=0 by decide,if_false,if_true];rw[if_neg U];unfold bY dU dD;omega
  have fx:(ba c.1).1=(ba b.1).1:=by unfold ba;rw[h1]
  have fz:(ba c.1).2.2=(ba b.1).2.2:=by unfold ba;rw[h3]
  refine⟨by rw[ex,fx];exact hx.1,⟨jI _,ey⟩,by rw[ez,fz];exact hx.2.2⟩
 ·have hy:32<=x.2.1:=by have:=hx.2.1.1;have e:(ba b.1).2.1=bY b.1.2.1:=rfl;omega
  rw[<-hV x.1 x.2.1 (bY c.1.2.1) x.2.2 hy hc.1];exact hp
def amX(hb:hiB b)(hc:hiB c)(h1:c.1.1=b.1.1)(h2:c.2.1=b.2.1)(h3:c.1.2.2=b.1.2.2)(h4:c.2.2.2=b.2.2.2):j8 V c p=j8 V b p:=
 Bool.eq_iff_iff.2 ⟨X4 hV hc hb h1.symm h2.symm h3.symm h4.symm,X4 hV hb hc h1 h2 h3 h4⟩
def N5{r d:Int}(hax:ax=0\/ax=2)(hb:bU b 90000000000000)(hy:10000000<=b.1.2.1)(hl:b.1.2.1<b.2.2.1)(hr: -4194304<=r/\r<=4194304):eX V p (iJ b (0,r,0)) ax d=eX V p b ax d:=by
 have el:du (iJ b (0,r,0)) ax (mi d)=du b ax (mi d):=by rcases hax with rfl|rfl<;>(unfold du dj iJ;simp)
 have hn:=hb;unfold bU at hn;have ea:∀k,j8 V (sy (iJ b (0,r,0)) ax k) p=j8 V (sy b ax k) p:=λk=>by
  have g:∀y,5000000<=y->32<=bY y:=λy hy=>by unfold bY dD;omega
  have hi:∀s,-4194304<=s/\s<=4194304->hiB (sy (iJ b (0,s,0)) ax k):=λs hs=>by
   rcases hax with rfl|rfl
   ·refine⟨g _ ?_,?_⟩
    ·show 5000000<=b.1.2.1+s;omega
    ·show b.1.2.1+s<b.2.2.1+s/\-100000000000000<=b.1.2.1+s/\b.2.2.1+s<=100000000000000;omega
   ·refine⟨g _ ?_,?_⟩
    ·show 5000000<=b.1.2.1+s;omega
    ·show b.1.2.1+s<b.2.2.1+s/\-100000000000000<=b.1.2.1+s/\b.2.2.1+s<=100000000000000;omega
  have e0:iJ b (0,0,0)=b:=by unfold iJ;simp
  have h0:=hi 0 X;rw[e0]at h0;refine amX hV h0 (hi r hr) ?_ ?_ ?_ ?_<;>(rcases hax with rfl|rfl<;>(unfold sy fV Gl iJ;simp))
 unfold eX;rw[el];simp only[ea]
def aiX(hb:bU b m)(hm:m<=80000000000000)(hy:40000000<=b.1.2.1)(hl:b.1.2.1<b.2.2.1):jH V p b d up=j4 V p b d:=by
 obtain⟨y,x,z,e1,e2,e3,e,-,-,-⟩:=E2 (V:=V) (p:=p) (d:=d) hb U;have h0:=hb.up (show m<=100000000000000 by omega);have h9:=hb.up (show m<=90000000000000 by omega);have r1:=qb (V:=V) (p:=p) (ax:=1) (d:=d.2.1) h0;rw[<-e1]at r1;have r0:=qb (V:=V) (p:=p) (ax:=1) (d:=min up 65536) h0;have s1:=AW (V:=V) (p:=p) (d:=min up 65536) h0;generalize hq:(eX V p b 1 (min up 65536)).1=q at*;rw[N5 hV (.inl rfl) h9 U hl r1]at e2;have n1:=bV (V:=V) (p:=p) (ax:=1) (d:=min up 65536) hb U;have n2:=bV (V:=V) (p:=p) (ax:=0) (d:=d.1) n1 U;have n3:=bV (V:=V) (p:=p) (ax:=2) (d:=d.2.2) n2 U;have n1':=n1.up (show m+4194304<=100000000000000 by omega);have n2':=n2.up (show m+4194304+4194304<=100000000000000 by omega);have n3':=n3.up (show m+4194304+4194304+4194304<=100000000000000 by omega);have t2:=N3 (V:=V) (p:=p) (d:=d.1) n1';have t3:=N4 (V:=V) (p:=p) (d:=d.2.2) n2';rw[s1]at t2;rw[N5 hV (.inl rfl) h9 U hl r0,<-e2,iN]at t2;simp only[Int.zero_add,Int.add_zero]at t2;have rx:=qb (V:=V) (p:=p) (ax:=0) (d:=d.1) h0;rw[<-e2]at rx;have hx0:bU (iJ b (x,0,0)) 90000000000000:=by unfold bU at hb;unfold bU iJ;simp only;omega
 have es:∀s,iJ (iJ b (x,0,0)) (0,s,0)=iJ b (x,s,0):=λs=>by rw[iN];simp
 have ez:∀s,-4194304<=s/\s<=4194304->eX V p (iJ b (x,s,0)) 2 d.2.2=eX V p (iJ b (x,0,0)) 2 d.2.2:=λs hs=>by rw[<-es s];exact N5 hV (.inr rfl) hx0 (by unfold iJ;simp only;omega) (by unfold iJ;simp only;omega) hs
 rw[ez y r1]at e3;rw[s1,t2,ez q r0,<-e3,iN]at t3;simp only[Int.zero_add,Int.add_zero]at t3;unfold jH;simp only;split
 ·rfl
 ·rw[if_pos];have t4:=AW (V:=V) (p:=p) (d:= -((bA V p b 1 (min up 65536)).1.1.2.1-b.1.2.1)) n3';rw[t4,e,s1,t2,t3,iN];unfold Kw iJ;simp only;omega
variable{r aw:Ce}(hf:c8 aw 70368744177664)
def aeX(hx:bt (jA aw d).1 r.1): -70368744177664<=aw.1+r.1/\aw.1+r.1<=70368744177664:=by
 have e:(jA aw d).1=nh (iW (dU aw.1 d.1)) aw.1:=rfl;rw[e]at hx;unfold c8 at hf;have c: -70368744177664<=iW (dU aw.1 d.1)/\iW (dU aw.1 d.1)<=70368744177664:=by unfold iW;omega
 generalize iW (dU aw.1 d.1)=k at*;unfold nh dD bt at hx;omega
def N7(hx:bt (jA aw d).2.1 r.2.1): -70368744177664<=aw.2.1+r.2.1/\aw.2.1+r.2.1<=70368744177664:=by
 have e:(jA aw d).2.1=nh (iW (dU aw.2.1 d.2.1)) aw.2.1:=rfl;rw[e]at hx;unfold c8 at hf;have c: -70368744177664<=iW (dU aw.2.1 d.2.1)/\iW (dU aw.2.1 d.2.1)<=70368744177664:=by unfold iW;omega
 generalize iW (dU aw.2.1 d.2.1)=k at*;unfold nh dD bt at hx;omega
def X5(hx:bt (jA aw d).2.2 r.2.2): -70368744177664<=aw.2.2+r.2.2/\aw.2.2+r.2.2<=70368744177664:=by
 have e:(jA aw d).2.2=nh (iW (dU aw.2.2 d.2.2)) aw.2.2:=rfl;rw[e]at hx;unfold c8 at hf;have c: -70368744177664<=iW (dU aw.2.2 d.2.2)/\iW (dU aw.2.2 d.2.2)<=70368744177664:=by unfold iW;omega
 generalize iW (dU aw.2.2 d.2.2)=k at*;unfold nh dD bt at hx;omega
def KH(hb:bU b m)(hm:m<=100000000000000)(ho:tN b.1 (iJ b r).1 16777216):iY aw (uJ (iJ b r).1 b.1)=(aw.1+r.1,aw.2.1+r.2.1,aw.2.2+r.2.2):=by have e:iY aw (uJ (iJ b r).1 b.1)=(dU aw.1 (nh (b.1.1+r.1) b.1.1),dU aw.2.1 (nh (b.1.2.1+r.2.1) b.1.2.1),dU aw.2.2 (nh (b.1.2.2+r.2.2) b.1.2.2)):=rfl;rw[e];unfold c8 at hf;unfold bU at hb;unfold tN iJ at ho;unfold dU nh dD;simp only[Prod.mk.injEq]at ho⊢;omega
end
end Go.fY
namespace Go.iG
open Go Go.Vc
set_option maxRecDepth 100000
set_option maxHeartbeats 8000000
def o_:List UInt8->List UInt8->List (List UInt8)
 |cur,[]=>[cur]
 |cur,c::r=>if c=10 then cur::o_ [] r else o_ (cur++[c]) r
def ajV(c:UInt8):List (List UInt8)->List (List UInt8)
 | []=>[]
 |h::t=>(c::h)::t
def ahn(c:UInt8):∀(s cur:List UInt8),o_ (c::cur) s=ajV c (o_ cur s)
 | [],cur=>rfl
 |d::r,cur=>by
  rw[o_,o_]
  split
  ·rfl
  ·exact ahn c r (cur++[d])
def aho(c:UInt8)(l:List UInt8):Lib.index (c::l) [10]=if c=10 then 0 else if Lib.index l [10]== -1 then -1 else Lib.index l [10]+1:=by
 show(if List.isPrefixOf [10] (c::l)=true then(0:Int)else _)=_;have e:List.isPrefixOf [10] (c::l)=(10==c):=by simp[List.isPrefixOf]
 rw[e];by_cases h:c=10
 ·subst h;rfl
 ·rw[if_neg h,if_neg (by simpa usingλq=>h q.symm)]
def YQ:∀s:List UInt8,Lib.splitK [10] 0 (Lib.count s [10]) s=o_ [] s/\(o_ [] s).length=Lib.count s [10]+1
 | []=>⟨rfl,rfl⟩
 |c::l=>by
  have⟨i1,i2⟩:=YQ l
  have hi:=aho c l
  by_cases h:c=10
  ·subst h
   rw[if_pos rfl]at hi
   have hc:=Lib.count_hit (s:=10::l) (sub:=[10]) (i:=0) bo hi
   have hc:Lib.count (10::l) [10]=Lib.count l [10]+1:=by rw[hc];simp;omega
   rw[hc];refine⟨?_,?_⟩
   ·unfold Lib.splitK;rw[hi];show _::Lib.splitK [10] 0 (Lib.count l [10]) l=_;rw[i1];rfl
   ·rw[o_,if_pos rfl,cL,i2]
  ·rw[if_neg h]at hi;have e1:o_ [] (c::l)=ajV c (o_ [] l):=by rw[o_,if_neg h];exact ahn c l []
   have e2:∀x:List (List UInt8),(ajV c x).length=x.length:=λx=>by cases x<;>rfl
   rw[e1,e2];by_cases hm:Lib.index l [10]= -1
   ·rw[hm]at hi;have h0:Lib.count l [10]=0:=Lib.count_miss hm;have h1:Lib.count (c::l) [10]=0:=Lib.count_miss (hi▸rfl);rw[h1];rw[h0]at i1 i2;refine⟨?_,i2⟩;rw[<-i1];rfl
   ·have hge:=Lib.index_ge l [10];obtain⟨i,hi'⟩:∃i:Nat,Lib.index l [10]=i:=⟨(Lib.index l [10]).toNat,U⟩;have hne:¬((Lib.index l [10]== -1)=true):=by simpa using hm
    rw[if_neg hne,hi']at hi;have hs:Lib.index (c::l) [10]=((i+1:Nat):Int):=by rw[hi];omega
    have hl:=Lib.count_hit (sub:=[10]) bo hi';have hcl:=Lib.count_hit (sub:=[10]) bo hs;have hcl:Lib.count (c::l) [10]=Lib.count l [10]:=by rw[hcl,hl];rfl
    rw[hcl];refine⟨?_,i2⟩;rw[<-i1,hl,CO 1];unfold Lib.splitK;rw[if_neg hne,hs,hi',if_neg m_];rfl
def ach:∀(s cur:List UInt8),∀x∈o_ cur s,x.length<=cur.length+s.length
 | [],cur,x,h=>by
   rw[o_,ig]at h
   rw[h];exact ak _
 |c::r,cur,x,h=>by
  rw[o_]at h
  rw[cL]
  split at h
  ·rcases List.mem_cons.1 h with rfl|h
   ·omega
   ·have:=ach r [] x h
    simp at this
    omega
  ·have:=ach r _ x h
   simp at this
   omega
def aci:∀(s cur:List UInt8),(o_ cur s).length<=s.length+1
 | [],cur=>by rw[o_];simp
 |c::r,cur=>by
  rw[o_]
  split
  ·have:=aci r []
   simp;omega
  ·have:=aci r (cur++[c])
   simp;omega
def CD(s:aq):aa:=(o_ [] (bl s)).map λl=>⟨l.toArray⟩
def ab4(s:aq):Lib.splitB ⟨#[10]⟩ 0 (Lib.countB s ⟨#[10]⟩) s=CD s/\(CD s).length=Lib.countB s ⟨#[10]⟩+1:=by have⟨h1,h2⟩:=YQ (bl s);refine⟨?_,by unfold CD;rw[aK,h2]⟩;have h3:=Lib.splitB_data ⟨#[10]⟩ 0 (Lib.countB s ⟨#[10]⟩) s;have h4:(Lib.splitB ⟨#[10]⟩ 0 (Lib.countB s ⟨#[10]⟩) s).map (·.data.toList)=o_ [] (bl s):=h3.trans h1;unfold CD;rw[<-h4,pR];symm;rw[CP (g:=id) (λx _=>by simp),List.map_id]
def XP{s t:aq}(h:t∈CD s):t.size<=s.size:=by obtain⟨l,hl,rfl⟩:=List.mem_map.1 h;have:=ach (bl s) [] l hl;rw[jQ]at this;show l.toArray.size<=_;simpa using this
def afH(s:aq):(CD s).length<=s.size+1:=by unfold CD;have:=aci (bl s) [];rw[jQ]at this;rw[aK];exact this
end Go.iG
