import Derived.Test.YtkkkfkopcfdmaaaGreatDoorB
import Derived.Lib.Overlaps
import Derived.Deep.SlicePairs
import Derived.ProofKit
import Derived.Test.YtkkkfkopcfdmaaaGreatDoorChecked
import Derived.KernelRfl
set_option linter.all false
namespace Go.Vc
open Go Go.RowKit
set_option maxRecDepth 100000
set_option maxHeartbeats 8000000
abbrev Ext(w w':World):Prop:=Below w w w'
def Ext.cG(w:World):Ext w w:=Below.refl _ _
def Ext.tr{a b c:World}(h:Ext a b)(k:Ext b c):Ext a c:=Below.trans h (Below.mono k h.size)
def Ext.al(w:World)(o:Obj):Ext w (w.alloc o):=(Below.refl _ w).alloc (ak _) o
def Ext.dr(w:World):Ext w w.drew:=(Below.refl _ w).drew
def Ext.br{a b c:World}{o:Obj}(h:Ext a b)(e:c=b.alloc o):Ext a c:=by subst e;exact h.tr (Ext.al _ _)
def aQ{b c:World}{o:Obj}(e:c=b.alloc o):Ext b c:=(Ext.cG _).br e
def Ext.drew{a b:World}(h:Ext a b):Ext a b.drew:=h.tr (Ext.dr _)
def setRow_other(w:World)(g j:Nat)(cs:Array Value)(h:j≠g):(w.setRow g cs).heap[j]? =w.heap[j]? :=by simp only [World.setRow,Array.getElem?_modify,if_neg (Ne.symm h)]
def setRow_size(w:World)(g:Nat)(cs:Array Value):(w.setRow g cs).heap.size=w.heap.size:=by simp [World.setRow]
def Ext.setRow{a b:World}(h:Ext a b){g:Nat}(hg:a.heap.size<=g)(cs:Array Value):Ext a (b.setRow g cs):=
 ⟨h.os,h.tape,h.output,by rw [setRow_size];exact h.size,λk hk=>by rw [setRow_other _ _ _ _ aa];exact h.block k hk⟩
def Ext.ab{a b c:World}{g:Nat}{cs:Array Value}(h:Ext a b)(e:c=b.setRow g cs)(hg:a.heap.size<=g):Ext a c:=by subst e;exact h.setRow hg cs
def W6{w:World}{a:Addr}{v:Value}(h:w.cell? a=some v):a.block<w:=by
 unfold World.cell? at h;split at h
 ·rename_i hb;exact (tQ.1 hb).1
 ·cases h
def Ext.ld{w w':World}(h:Ext w w'){p:Option Addr}{v:Value}(hl:ld w p=some v):ld w' p=some v:=by
 cases p with
 |none=>simp [Vc.ld] at hl
 |some a=>
  have hl':w.cell? a=some v:=hl;show w'.cell? a=some v;rw [Below.cell h (W6 hl')];exact hl'
def Ext.heap{w w':World}(h:Ext w w'){i:Nat}(hi:i<w):w'.heap[i]? =w.heap[i]? :=h.block i hi
def Ext.k{w w':World}(h:Ext w w'){i:Nat}(hi:i<w.heap.size:=by omega):w'.heap[i]? =w.heap[i]? :=h.block i hi
def dn(p:Option Addr)(m n:Nat):af (af p m) n=af p (m+n):=by
 cases p with
 |none=>rfl
 |some a=>
  simp only [af,oK,Option.some.injEq,Addr.add];by_cases hm:m=0
  ·subst hm;simp
  ·by_cases hn:n=0
   ·subst hn;simp [hm]
   ·simp [hm,hn,Nat.add_assoc]
@[simp] def k9(p:Option Addr)(n:Nat):(af p n).isSome=p.isSome:=by cases p<;>rfl
def cP(p:Option Addr)(n:Nat):bk (af p n)=bk p:=by
 cases p with
 |none=>rfl
 |some a=>simp only [af,bk,oK,Addr.add];split<;>rfl
def Row(w:World)(g:Nat)(cs:LV)(t:TypeId):Prop:=w.heap[g]? =some (.cells cs.toArray t (0,0))
def Row.new(w:World)(cs:LV)(t:TypeId):Row (w.alloc (.cells cs.toArray t)) w.heap.size cs t:=by show (w.heap.push _)[w.heap.size]? =_;simp
def Row.lt{w:World}{g:Nat}{cs:LV}{t:TypeId}(h:Row w g cs t):g<w:=(tQ.1 h).1
def Row.ext{w w':World}{g:Nat}{cs:LV}{t:TypeId}(h:Row w g cs t)(he:Ext w w'):Row w' g cs t:=(he.heap h.lt).trans h
def Row.same{w w':World}{g:Nat}{cs:LV}{t:TypeId}(h:Row w g cs t)(he:w'.heap[g]? =w.heap[g]?):Row w' g cs t:=he.trans h
def Row.set{w:World}{g:Nat}{cs:LV}{t:TypeId}(h:Row w g cs t)(cs':LV):Row (w.setRow g cs'.toArray) g cs' t:=setRow_heap _ _ _ _ _ _ h
def Row.so{w w':World}{g j:Nat}{cs:List Value}{t:TypeId}{c:Array Value}(h:Row w g cs t)(e:w'=w.setRow j c)(hn:g≠j:=by omega):Row w' g cs t:=h.same (by rw [e];exact setRow_other _ _ _ _ hn)
def Row.nw{w w':World}{l:List Value}{t:TypeId}(e:w'=w.alloc (.cells l.toArray t)):Row w' w.heap.size l t:=by rw [e];exact Row.new _ _ _
def Row.st{w w':World}{g:Nat}{l cs:List Value}{t:TypeId}(h:Row w g cs t)(e:w'=w.setRow g l.toArray):Row w' g l t:=by rw [e];exact h.set _
def Row.ld{w:World}{g:Nat}{cs:LV}{t:TypeId}(h:Row w g cs t)(j:Nat):ld w (some ⟨g,j,none⟩)=cs[j]? :=by simp [Vc.ld,World.cell?,show w.heap[g]? =_ from h]
def aV(g o j:Nat):af (some ⟨g,o,none⟩) j=some ⟨g,o+j,none⟩:=by simp [af,oX]
def Row.wr{w:World}{g:Nat}{cs:LV}{t:TypeId}(h:Row w g cs t){o n:Nat}(hn:o+n<=cs.length):Wr w (some ⟨g,o,none⟩) n:=by
 intro i hi;refine ⟨_,rfl,?_,?_⟩
 ·rw [oX];simp [World.cell?,show w.heap[g]? =_ from h];omega
 ·rw [oX];exact XZ h _
def Row.bI{w:World}{g:Nat}{cs:LV}{t:TypeId}(h:Row w g cs t){o:Nat}{vs:LV}(hv:∀j,j<vs.length->cs[o+j]? =vs[j]?):ah w (some ⟨g,o,none⟩) 0 vs:=
 nX λj hj=>by rw [aV,h.ld];simpa using hv j hj
def Row.bF{w:World}{g:Nat}{cs:LV}{t:TypeId}(h:Row w g cs t){o:Nat}{vs:LV}(hl:o+vs.length<=cs.length)(h1:One vs):
  bF w (some ⟨g,o,none⟩) vs=w.setRow g (aP cs o vs).toArray:=by
 have e1:=ia (P:=default) ⟨g,o,none⟩ vs 0 w h1 (λj hj=>by
  obtain ⟨a,e,q⟩:=h.wr hl j hj
  cases e;simpa using q)
 have e2:=run_storeCells_at default g o t vs 0 cs.toArray w h (by simpa using hl) h1;rw [e1] at e2;injection e2 with _ e3;show rM w _ 0 vs=_;rw [e3,de _ _ _ hl];simp
inductive Own(B E size:Nat)(w:World):Sl->LV->Prop
 |nil:Own B E size w ⟨none,0,0⟩ []
 |row (g n c:Nat) (cs:LV) (hg:B<=g) (hr:Row w g cs E) (hc:c*size<=cs.length) (hn:n<=c):Own B E size w ⟨some ⟨g,0,none⟩,n,c⟩ (cs.take (n*size))
def Sl.aZ(s:Sl):Option Nat:=s.a.map (·.block)
def Own.len{B E size:Nat}{w:World}{s:Sl}{xs:LV}(h:Own B E size w s xs):xs.length=s.n*size:=by
 cases h with
 |nil=>simp
 |row g n c cs hg hr hc hn=>
  have:n*size<=c*size:=vg _ hn;rw [cY];show min (n*size) _=n*size;omega
def Own.rd{B E size:Nat}{w:World}{s:Sl}{xs:LV}(h:Own B E size w s xs):Rd w s.a xs:=by
 cases h with
 |nil=>intro i v hi;simp at hi
 |row g n c cs hg hr hc hn=>
  intro i v hi;rw [aV,hr.ld];rw [rR] at hi;split at hi
  ·simpa using hi
  ·cases hi
def Own.aW{B E size:Nat}{w w':World}{s:Sl}{xs:LV}(h:Own B E size w s xs)(hk:∀g,s.aZ=some g->w'.heap[g]? =w.heap[g]?):Own B E size w' s xs:=by
 cases h with
 |nil=>exact .nil
 |row g n c cs hg hr hc hn=>exact .row g n c cs hg (hr.same (hk g rfl)) hc hn
def Own.ext{B E size:Nat}{w w':World}{s:Sl}{xs:LV}(h:Own B E size w s xs)(he:Ext w w'):Own B E size w' s xs:=by
 cases h with
 |nil=>exact .nil
 |row g n c cs hg hr hc hn=>exact .row g n c cs hg (hr.ext he) hc hn
def Own.lt{B E size:Nat}{w:World}{s:Sl}{xs:LV}(h:Own B E size w s xs){g:Nat}(hg:s.aZ=some g):B<=g/\g<w:=by
 cases h with
 |nil=>cases hg
 |row g' n c cs hg' hr hc hn=>cases hg;exact ⟨hg',hr.lt⟩
def Own.append{B E size bytes:Nat}{w:World}{s:Sl}{xs:LV}(h:Own B E size w s xs){m:Nat}{news:LV}(hB:B<=w)(hl:news.length=m*size)(h1:One news)
  (hb:(s.n+m)*bytes<=140737488355328)(hb':s.n+m<=9223372036854775807):
  ba bytes size w s m news/\∀(s':Sl)(w':World),aX E size w s m news s' w'->
   Own B E size w' s' (xs++news)/\s'.n=s.n+m/\Below B w w'/\(∀j,s.aZ≠some j->j<w.heap.size->w'.heap[j]? =w.heap[j]?)/\(s'.aZ=s.aZ\/s'.aZ=some w.heap.size):=by
 refine ⟨⟨λhf=> ?_,λhg=>⟨xs,h.len,h.rd⟩,λhg=>⟨growslice_fits hg hb,aa⟩,hl,h1⟩,?_⟩
 ·cases h with
  |nil=>
   have:m=0:=by simp at hf;omega
   subst this;intro i hi;omega
  |row g n c cs hg hr hc hn=>
   rw [aV];refine hr.wr ?_;have:(n+m)*size<=c*size:=vg _ hf;rw [pL] at this;simp;omega
 ·intro s' w' bf
  cases bf with
  |fits hf=>
   cases h with
   |nil=>
    have:m=0:=by simp at hf;omega
    subst this;have:news=[]:=Gj.1 aa;subst this;exact ⟨.nil,rfl,Below.refl _ _,λ_ _ _=>rfl,.inl rfl⟩
   |row g n c cs hg hr hc hn=>
    have hle:n*size+news.length<=cs.length:=by have:(n+m)*size<=c*size:=vg _ hf;rw [pL] at this;omega
    rw [aV,eC,hr.bF hle h1];have hr':=hr.set (aP cs (n*size) news);have e:cs.take (n*size)++news=(aP cs (n*size) news).take ((n+m)*size):=by
     have e0:(n+m)*size=n*size+news.length:=by rw [pL,hl]
     rw [de _ _ _ hle,e0];exact ((Eb tP).trans (fl tP)).symm
    refine ⟨?_,rfl,⟨rfl,rfl,rfl,by rw [setRow_size];exact ak _,λk hk=>setRow_other _ _ _ _ aa⟩,λj hj _=>setRow_other _ _ _ _ (λe=>hj (by rw [e];rfl)),.inl rfl⟩;rw [e];exact .row g (n+m) c _ hg hr' (by rw [di];exact hc) hf
  |Dr hg gm rest cap e1 e2 e3 e4=>
   have ho:gm=xs:=by
    have jj:=h.rd;have dp:=h.len;apply jt;intro i;rcases jq i xs.length with hi|hi
    ·have h1:=jj i xs[i] (cX hi);have hi':i<gm.length:=by omega
     have h2:=e2 i gm[i] (cX hi');rw [h1] at h2;rw [cX hi,cX hi'];exact h2.symm
    ·rw [jv hi,jv aa]
   subst ho;have zg:=Row.new w.drew (gm++news++rest) E;have dp:=h.len;refine ⟨?_,rfl,?_,λj _ hj=>Below.heap_alloc _ _ _ hj,.inr rfl⟩
   ·have e:gm++news=(gm++news++rest).take ((s.n+m)*size):=by
     have e0:(s.n+m)*size=gm.length+news.length:=by rw [pL,hl,e1]
     rw [e0];exact ((Eb bg).trans (fl bg)).symm
    conv=>rhs;rw [e]
    exact .row w.heap.size (s.n+m) cap _ hB zg (Nat.le_of_eq e4.symm) e3
   ·exact (Below.refl B w).drew.alloc hB _
def PV{P:Program}{pre:Prop}(hP:EN P)(hm:P.follows .mixedOrders=true){f:FuncId}{fn:Func}{an:Ann}{args:LV}{w:World}{R:Ending->World->Prop}(hf:P.funcs[f]? =some fn)
  (h:pre)(e:pre=ahh P an fn args w R):Calls P f args.toArray w R:=Q0 hP hm hf (e▸h)
def ngB(P:Program):Bool:=P.funcs.toList.all λfn=>fn.name != "runtime.NumGoroutine"
def alh{P:Program}(h:ngB P=true):EN P:=λf fn hf he=>by
 have:=Gt.1 h fn (by have:=Array.mem_of_getElem? hf;simpa using this)
 simp [he] at this
def dJ(n:Int):Prop:= -9223372036854775808<=n/\n<=9223372036854775807
def aK{n:Int}(h:dJ n):aw n=n:=by unfold dJ at h;unfold IntKind.wrap;simp only [IntKind.bits,IntKind.signed];simp only [qI];split<;>simp_all<;>omega
def wI{n:Int}(h:dJ n:=by unfold dJ;omega):IntKind.wrap .i64 n=n:=aK h
def ov{j:Nat}(h:dJ ((j:Int)+1):=by unfold dJ;omega):IntKind.wrap .i64 ((j:Int)+1)=((j+1:Nat):Int):=by rw [aK h];omega
def adX(n:Int):dJ (aw n):=by unfold dJ IntKind.wrap;simp only [IntKind.bits,IntKind.signed];simp only [qI];split<;>simp_all<;>omega
def UX{H:Type}:DataW H->Value
 | .lit (.int k n)=> .int k n
 | .lit (.bool b)=> .bool b
 | .lit (.string bs)=> .string ⟨bs.toArray⟩
 |_=> .bool false
def adY{H:Type}:DataW H->LV
 | .agg l=>l.flatMap fun
   | .agg m=>m.map UX
   |d=> [UX d]
 |d=> [UX d]
def layAll(P:Program)(l:List (String × DataW Unit))(w:World):World:=
 {w with heap:=l.foldl (λh x=>match P.globalNamed x.1 with
   |some g=>h.modify g fun
    | .cells _ t frozen=> .cells (adY x.2).toArray t frozen
    |o=>o
   |none=>h) w.heap}
end Go.Vc
namespace Go.Vc
open Go Go.RowKit
set_option maxRecDepth 100000
set_option maxHeartbeats 8000000
structure RdK(w:World)(s:Sl)(k:Nat)(rows:List (LV)):Prop where
 n:s.n=rows.length
 wd:∀r ∈ rows,r.length=k
 rd:∀i r,rows[i]? =some r->∀j v,r[j]? =some v->ld w (af s.a (i*k+j))=some v
def RdK.ext{w w':World}{s:Sl}{k:Nat}{rows:List (LV)}(h:RdK w s k rows)(he:Ext w w'):RdK w' s k rows:=
 ⟨h.n,h.wd,λi r hi j v hj=>he.ld (h.rd i r hi j v hj)⟩
def RdK.isSome{w:World}{s:Sl}{k:Nat}{rows:List (LV)}(h:RdK w s k rows)(hk:0<k){i:Nat}(hi:i<rows.length):s.a.isSome=true:=by
 have hr:rows[i]? =some rows[i]:=cX hi;have hl:=h.wd _ (List.getElem_mem hi);have h0:rows[i][0]? =some (rows[i][0]'aa):=cX aa;have:=h.rd i _ hr 0 _ h0
 cases hs:s.a with
 |none=>rw [hs] at this;simp [ld,af] at this
 |some a=>rfl
def RdK.jd{w:World}{s:Sl}{k:Nat}{rows:List (LV)}(h:RdK w s k rows)(hk:0<k){i:Int}(h0:0<=i)(h1:i<(s.n:Int)):eL s.a i s.n:=
 ⟨h.isSome hk (i:=i.toNat) (by have:=h.n;omega),h0,h1⟩
def RdK.at{w:World}{s:Sl}{k:Nat}{rows:List (LV)}(h:RdK w s k rows){i:Nat}{r:LV}(hi:rows[i]? =some r){j:Nat}{v:Value}(hj:r[j]? =some v):ld w (af (af s.a (i*k)) j)=some v:=by rw [dn];exact h.rd i r hi j v hj
def GG{w:World}{p:Option Addr}:∀{vs:LV} {i:Nat},(∀j v,vs[j]? =some v->ld w (af p (i+j))=some v)->ah w p i vs
 | [],_,_=>trivial
 | [v],i,h=>by have:=h 0 v rfl;simpa [ah] using this
 |v::u::r,i,h=>⟨by have:=h 0 v rfl;simpa using this,GG (i:=i+1) λj x hj=>by
  have:=h (j+1) x (by simpa using hj)
  rwa [show i+(j+1)=i+1+j from by omega] at this⟩
def RdK.bI{w:World}{s:Sl}{k:Nat}{rows:List (LV)}(h:RdK w s k rows){i:Nat}{r:LV}(hi:rows[i]? =some r):ah w (af s.a (i*k)) 0 r:=
 GG λj v hj=>by rw [eC];exact h.at hi hj
def vh{k:Nat}:∀{rows:List (LV)},(∀r ∈ rows,r.length=k)->∀{i:Nat} {r:LV},rows[i]? =some r->∀{j:Nat},j<k->rows.flatten[i*k+j]? =r[j]?
 | [],_,i,r,hi,j,_=>by simp at hi
 |a::rows,h,0,r,hi,j,hj=>by
  simp at hi;subst hi
  have:=h a (.head _)
  rw [jC,pJ aa]
  simp
 |a::rows,h,i+1,r,hi,j,hj=>by
  have ha:=h a (.head _)
  rw [jC,qH (by rw [ha,O3];omega)]
  rw [show (i+1)*k+j-a.length=i*k+j from by rw [ha,O3];omega]
  exact vh (λr hr=>h r (.tail _ hr)) (by simpa using hi) hj
def bA{k:Nat}:∀{rows:List (LV)},(∀r ∈ rows,r.length=k)->rows.flatten.length=rows.length*k
 | [],_=>by simp
 |a::rows,h=>by rw [jC,bQ,bA (λr hr=>h r (.tail _ hr)),h a (.head _),bR,O3,u9]
structure ar(B E k:Nat)(w:World)(s:Sl)(rows:List (LV)):Prop where
 own:Own B E k w s rows.flatten
 wd:∀r ∈ rows,r.length=k
def ar.rd{B E k:Nat}{w:World}{s:Sl}{rows:List (LV)}(h:ar B E k w s rows)(hk:0<k):RdK w s k rows:=by
 refine ⟨?_,h.wd,λi r hi j v hj=> ?_⟩
 ·have h1:=h.own.len;rw [bA h.wd] at h1;exact (Nat.eq_of_mul_eq_mul_right hk h1).symm
 ·have hl:=h.wd r (aO hi);have hjk:j<k:=by rw [<-hl];exact (bZ.1 hj).1
  exact h.own.rd _ _ ((vh h.wd hi hjk).trans hj)
def ar.nil{B E k:Nat}{w:World}:ar B E k w ⟨none,0,0⟩ []:=⟨.nil,λ_ h=>by cases h⟩
def ar.ext{B E k:Nat}{w w':World}{s:Sl}{rows:List (LV)}(h:ar B E k w s rows)(he:Ext w w'):ar B E k w' s rows:=⟨h.own.ext he,h.wd⟩
def ar.aW{B E k:Nat}{w w':World}{s:Sl}{rows:List (LV)}(h:ar B E k w s rows)(hk:∀g,s.aZ=some g->w'.heap[g]? =w.heap[g]?):ar B E k w' s rows:=⟨h.own.aW hk,h.wd⟩
def ar.low{B B' E k:Nat}{w:World}{s:Sl}{rows:List (LV)}(h:ar B E k w s rows)(hb:B'<=B):ar B' E k w s rows:=by
 refine ⟨?_,h.wd⟩;have ho:=h.own;generalize rows.flatten=xs at ho
 cases ho with
 |nil=>exact .nil
 |row g n c cs hg hr hc hn=>exact .row g n c cs aa hr hc hn
def ar.append{B E k bytes:Nat}{w:World}{s:Sl}{rows:List (LV)}(h:ar B E k w s rows){news:LV}(hB:B<=w)(hl:news.length=k)(h1:One news)
  (hb:(s.n+1)*bytes<=140737488355328)(hb':s.n+1<=9223372036854775807):
  ba bytes k w s 1 news/\∀(s':Sl)(w':World),aX E k w s 1 news s' w'->
   ar B E k w' s' (rows++ [news])/\s'.n=s.n+1/\Below B w w'/\(∀j,s.aZ≠some j->j<w.heap.size->w'.heap[j]? =w.heap[j]?)/\(s'.aZ=s.aZ\/s'.aZ=some w.heap.size):=by
 obtain ⟨hp,hr⟩:=h.own.append (bytes:=bytes) (m:=1) (news:=news) hB (by rw [hl,Nat.one_mul]) h1 hb hb';refine ⟨hp,λs' w' bf=> ?_⟩;obtain ⟨ho,hn,hx,hk,Jf⟩:=hr s' w' bf;refine ⟨⟨by rw [DA];simpa using ho,λr hr=> ?_⟩,hn,hx,hk,Jf⟩;rcases bX.1 hr with hr|hr
 ·exact h.wd r hr
 ·simp at hr;rw [hr];exact hl
def Own.set{B E size:Nat}{w:World}{s:Sl}{xs:LV}(h:Own B E size w s xs){m:Nat}{v:Value}(hm:m<xs.length)(hv:v.oneCell'=true):
  (af s.a m).isSome=true/\Wr w (af s.a m) 1/\Own B E size (bF w (af s.a m) [v]) s (xs.set m v)/\(∀j,s.aZ≠some j->(bF w (af s.a m) [v]).heap[j]? =w.heap[j]?):=by
 cases h with
 |nil=>simp at hm
 |row g n c cs hg hr hc hn=>
  rw [cY] at hm;rw [aV];have h1:One [v]:=by intro u hu;simp at hu;subst hu;exact hv
  have hs:=hr.bF (o:=0+m) (vs:=[v]) tP h1;refine ⟨rfl,hr.wr aa,?_,λj hj=> ?_⟩
  ·rw [<-List.take_set];rw [hs];refine .row g n c _ hg ?_ (by simpa using hc) hn;have e:aP cs (0+m) [v]=cs.set m v:=by simp [aP]
   rw [e];exact hr.set (cs.set m v)
  ·rw [hs];exact setRow_other _ _ _ _ (λe=>hj (by rw [e];rfl))
end Go.Vc
namespace Go.Vc
open Go Go.RowKit
def Below.bF{B:Nat}{a b:World}(h:Below B a b){p:Option Addr}{vs:LV}(hp:∀x,p=some x->B<=x.block):Below B a (bF b p vs):=by
 cases p with
 |none=>exact h
 |some x=>
  have hx:=hp x rfl;show Below B a (rM b x 0 vs);have key:∀(vs:LV)(i:Nat)(b:World),Below B a b->Below B a (rM b x i vs):=by
   intro vs
   induction vs with
   |nil=>intro i b h;exact h
   |cons v r ih=>
    intro i b h;refine ih _ _ (Below.setCell h ?_ _);unfold Addr.add;split<;>exact hx
  exact key vs 0 b h
def vd(k:IntKind)(a:Int):One [.int k a]:=by intro v hv;simp at hv;subst hv;rfl
def B9(k k':IntKind)(a b:Int):One [.int k a,.int k' b]:=by intro v hv;simp at hv;rcases hv with rfl|rfl<;>rfl
def ar.j9{B E k bytes:Nat}{w:World}{s:Sl}{rows:List (LV)}(h:ar B E k w s rows){news:LV}(o:Obj)(hB:B<=w)(hl:news.length=k)(h1:One news)
  (hb:(s.n+1)*bytes<=140737488355328)(hb':s.n+1<=9223372036854775807):
  ba bytes k (w.alloc o) s 1 news/\∀(s':Sl)(w':World),aX E k (w.alloc o) s 1 news s' w'->
   w'.heap[w.heap.size]? =(w.alloc o).heap[w.heap.size]?/\ar B E k w' s' (rows++ [news])/\s'.n=s.n+1/\Below B w w'/\(∀j,s.aZ≠some j->j<w.heap.size->w'.heap[j]? =w.heap[j]?)/\(s'.aZ=s.aZ\/s'.aZ=some (w.heap.size+1)):=by
 have xa:=Ext.al w o;obtain ⟨hp,hr⟩:=(h.ext xa).append (bytes:=bytes) (news:=news) (gG hB xa.size) hl h1 hb hb';refine ⟨hp,λs' w' bf=> ?_⟩;obtain ⟨ho,hn,hx,hk,Jf⟩:=hr s' w' bf;have hz:(w.alloc o).heap.size=w.heap.size+1:=by simp
 refine ⟨hk _ (λhb=>absurd (h.own.lt hb).2 (DC _)) bg,ho,hn,(Below.mono xa hB).trans hx,λj hj iQ=> ?_,by rw [<-hz];exact Jf⟩;rw [hk j hj aa];exact xa.heap iQ
def ar.set{B E k:Nat}{w:World}{s:Sl}{rows:List (List Value)}(h:ar B E k w s rows){i j:Nat}{r:List Value}{v:Value}(hi:rows[i]? =some r)(hj:j<k)(hv:v.oneCell'=true)(hB:B<=w.heap.size):
  (af (af s.a (i*k)) j).isSome=true/\Wr w (af (af s.a (i*k)) j) 1/\ar B E k (bF w (af (af s.a (i*k)) j) [v]) s (rows.set i (r.set j v))/\
   Below B w (bF w (af (af s.a (i*k)) j) [v])/\(∀m,s.aZ≠some m->(bF w (af (af s.a (i*k)) j) [v]).heap[m]? =w.heap[m]?):=by
 have dp:=bA h.wd;have FV:i<rows.length:=(List.getElem?_eq_some_iff.1 hi).1;have hm:i*k+j<rows.flatten.length:=by rw [dp];have:(i+1)*k<=rows.length*k:=Nat.mul_le_mul_right _ FV;rw [Nat.succ_mul] at this;omega
 obtain ⟨h1,h2,h3,h4⟩:=h.own.set (v:=v) hm hv;rw [dn];refine ⟨h1,h2,⟨?_,λq hq=> ?_⟩,?_,h4⟩
 ·have e:(rows.set i (r.set j v)).flatten=rows.flatten.set (i*k+j) v:=by
   have hw:=h.wd;clear h h1 h2 h3 h4 hm dp hv
   induction rows generalizing i with
   |nil=>simp at hi
   |cons a rows ih=>
    have ha:=hw a (.head _)
    cases i with
    |zero=>
     simp at hi;subst hi;simp only [List.set_cons_zero,List.flatten_cons,Nat.zero_mul,Nat.zero_add];rw [List.set_append_left _ _ (by omega)]
    |succ i=>
     simp only [List.set_cons_succ,List.flatten_cons];rw [List.set_append_right _ _ (by rw [ha,Nat.succ_mul];omega),show (i+1)*k+j-a.length=i*k+j from by rw [ha,Nat.succ_mul];omega];rw [ih (by simpa using hi) (by simpa using FV) (λr hr=>hw r (.tail _ hr))]
  rw [e];exact h3
 ·rcases List.mem_or_eq_of_mem_set hq with hq|rfl
  ·exact h.wd q hq
  ·rw [List.length_set];exact h.wd r (List.mem_of_getElem? hi)
 ·refine Below.bF (Below.refl _ _) λx hx=> ?_
  have ho:=h.own;generalize rows.flatten=xs at ho
  cases ho with
  |nil=>simp [af] at hx
  |row g n c cs hg hr hc hn=>simp [af,oX] at hx;subst hx;exact hg
end Go.Vc
namespace Go.Vc
open Go Go.RowKit
def qL{E size:Nat}{w w':World}{a:Option Addr}{n:Nat}{news:LV}{s':Sl}(h:aX E size w ⟨a,0,0⟩ n news s' w')(hl:news.length=n*size){j:Nat}(hj:j<w):w'.heap[j]? =w.heap[j]? :=by
 cases h with
 |fits hf=>
  have:n=0:=by simp at hf;omega
  subst this;have:news=[]:=Dw aa;subst this
  cases hp:af a (0*size) with
  |none=>simp [hp,Go.Vc.bF]
  |some x=>simp only [hp,Go.Vc.bF];rfl
 |Dr hf gm rest cap h1 h2 h3 h4=>exact ((Ext.dr w).tr (Ext.al _ _)).heap hj
def RdK.flat{w:World}{s:Sl}{k:Nat}{rows:List (LV)}(h:RdK w s k rows)(hk:0<k):Rd w s.a rows.flatten:=by
 intro i v hi;have FV:i<rows.flatten.length:=(bZ.1 hi).1;rw [bA h.wd] at FV;have hik:i / k<rows.length:=Nat.div_lt_of_lt_mul (by rw [Nat.mul_comm];exact FV);have hr:rows[i / k]? =some rows[i / k]:=cX hik;have hm:i % k<k:=Nat.mod_lt _ hk;have e:i / k*k+i % k=i:=by rw [Nat.mul_comm];exact Nat.div_add_mod i k
 have:=vh h.wd hr hm;rw [e,hi] at this;have:=h.rd _ _ hr _ v this.symm;rwa [e] at this
def gK{rows:List (LV)}(h:∀r ∈ rows,One r):One rows.flatten:=by intro v hv;obtain ⟨r,hr,hvr⟩:=List.mem_flatten.1 hv;exact h r hr v hvr
end Go.Vc
namespace Go.Vc
open Go Go.RowKit
def xA:∀(vs cs:LV)(off N:Nat),(aP cs off vs).take N=aP (cs.take N) off vs
 | [],_,_,_=>rfl
 |v::r,cs,off,N=>by
  show (aP (cs.set off v) (off+1) r).take N=aP ((cs.take N).set off v) (off+1) r
  rw [xA,List.take_set]
def lN(a:LV):∀(vs b:LV)(o:Nat),aP (a++b) (a.length+o) vs=a++aP b o vs
 | [],_,_=>rfl
 |v::r,b,o=>by
  show aP ((a++b).set (a.length+o) v) (a.length+o+1) r=a++aP (b.set o v) (o+1) r
  rw [List.set_append_right _ _ aa,Nat.add_sub_cancel_left,Nat.add_assoc]
  exact lN a r _ _
def Own.put{B E size:Nat}{w:World}{s:Sl}{xs:LV}(h:Own B E size w s xs){m:Nat}{vs:LV}(hm:m+vs.length<=xs.length)(hx:0<xs.length)(hv:One vs):
  (af s.a m).isSome=true/\Wr w (af s.a m) vs.length/\Own B E size (bF w (af s.a m) vs) s (aP xs m vs)/\(∀j,s.aZ≠some j->(bF w (af s.a m) vs).heap[j]? =w.heap[j]?):=by
 cases h with
 |nil=>simp at hx
 |row g n c cs hg hr hc hn=>
  rw [cY] at hm;rw [aV];have hs:=hr.bF (o:=0+m) (vs:=vs) aa hv;refine ⟨rfl,hr.wr aa,?_,λj hj=> ?_⟩
  ·rw [<-xA,hs,eC];exact .row g n c _ hg (hr.set _) (by rw [Go.Vc.di];exact hc) hn
  ·rw [hs];exact setRow_other _ _ _ _ (λe=>hj (by rw [e];rfl))
def ar.put{B E k:Nat}{w:World}{s:Sl}{rows:List (List Value)}(h:ar B E k w s rows){i:Nat}{r:List Value}(hi:i<rows.length)(hk:0<k)(hr:r.length=k)(hv:One r):
  (af s.a (i*k)).isSome=true/\Wr w (af s.a (i*k)) k/\ar B E k (bF w (af s.a (i*k)) r) s (rows.set i r)/\
   Below B w (bF w (af s.a (i*k)) r)/\(∀m,s.aZ≠some m->(bF w (af s.a (i*k)) r).heap[m]? =w.heap[m]?):=by
 have dp:=bA h.wd;have h1:(i+1)*k<=rows.length*k:=Nat.mul_le_mul_right _ hi;rw [Nat.succ_mul] at h1;obtain ⟨p1,p2,p3,p4⟩:=h.own.put (m:=i*k) (vs:=r) (by omega) (by omega) hv;rw [hr] at p2;refine ⟨p1,p2,⟨?_,λq hq=> ?_⟩,?_,p4⟩
 ·have e:(rows.set i r).flatten=aP rows.flatten (i*k) r:=by
   have hw:=h.wd;clear h p1 p2 p3 p4 dp h1
   induction rows generalizing i with
   |nil=>simp at hi
   |cons a rows ih=>
    have ha:=hw a (.head _)
    cases i with
    |zero=>
     simp only [List.set_cons_zero,List.flatten_cons,Nat.zero_mul];rw [de _ _ _ (by rw [List.length_append];omega),hr,Nat.zero_add,List.drop_left' ha];simp
    |succ i=>
     simp only [List.set_cons_succ,List.flatten_cons];rw [show (i+1)*k=a.length+i*k from by rw [ha,Nat.succ_mul];omega,lN];rw [ih (by simpa using hi) (λr hr=>hw r (.tail _ hr))]
  rw [e];exact p3
 ·rcases List.mem_or_eq_of_mem_set hq with hq|rfl
  ·exact h.wd q hq
  ·exact hr
 ·refine Below.bF (Below.refl _ _) λx hx=> ?_
  have ho:=h.own;generalize rows.flatten=xs at ho
  cases ho with
  |nil=>simp [af] at hx
  |row g n c cs hg hr hc hn=>simp [af,oX] at hx;subst hx;exact hg
def vi(a:Option Addr)(m size j:Nat):af (aI a 0 m size) j=af a j:=by
 unfold aI;split
 ·rfl
 ·show af (af a (0*size)) j=_;rw [dn];simp
def RdK.cut{w:World}{s:Sl}{k:Nat}{rows:List (LV)}(h:RdK w s k rows){m c' c'':Nat}(hm:m<=rows.length):RdK w ⟨aI s.a 0 c' k,m,c''⟩ k (rows.take m):=by
 refine ⟨by simp;omega,λr hr=>h.wd r (mB hr),λi r hi j v hj=> ?_⟩;show ld w (af (aI s.a 0 c' k) _)=_;rw [vi];rw [rR] at hi;split at hi
 ·exact h.rd i r hi j v hj
 ·cases hi
end Go.Vc
namespace Go.Vc
open Go Go.RowKit
def ar.Jq{B E k bytes:Nat}{w:World}{s:Sl}{rows more:List (LV)}(h:ar B E k w s rows)(hB:B<=w)(hl:∀r ∈ more,r.length=k)(h1:∀r ∈ more,One r)
  (hb:(s.n+more.length)*bytes<=140737488355328)(hb':s.n+more.length<=9223372036854775807):
  ba bytes k w s more.length more.flatten/\∀(s':Sl)(w':World),aX E k w s more.length more.flatten s' w'->
   ar B E k w' s' (rows++more)/\s'.n=s.n+more.length/\Below B w w'/\(∀j,s.aZ≠some j->j<w.heap.size->w'.heap[j]? =w.heap[j]?)/\(s'.aZ=s.aZ\/s'.aZ=some w.heap.size):=by
 obtain ⟨hp,hr⟩:=h.own.append (bytes:=bytes) (m:=more.length) (news:=more.flatten) hB (bA hl) (gK h1) hb hb';refine ⟨hp,λs' w' bf=> ?_⟩;obtain ⟨ho,hn,hx,hk,Jf⟩:=hr s' w' bf;refine ⟨⟨by rw [DA];exact ho,λr hr=> ?_⟩,hn,hx,hk,Jf⟩;rcases bX.1 hr with hr|hr
 ·exact h.wd r hr
 ·exact hl r hr
end Go.Vc
namespace Go.Vc
open Go Go.RowKit
def RdK.rest{w:World}{s:Sl}{k:Nat}{rows:List (LV)}(h:RdK w s k rows){l m n' c':Nat}(hn:n'=rows.length-l)(hm:m=l->rows.length<=l):RdK w ⟨aI s.a l m k,n',c'⟩ k (rows.drop l):=by
 refine ⟨by simpa using hn,λr hr=>h.wd r (Ar hr),λi r hi j v hj=> ?_⟩;rw [xy] at hi;show ld w (af (aI s.a l m k) _)=_;unfold aI;split
 ·rename_i e;have:=hm e;rw [jv aa] at hi;cases hi
 ·show ld w (af (af s.a (l*k)) _)=_;rw [dn];have:=h.rd (l+i) r hi j v hj;rwa [pL,Nat.add_assoc] at this
def gA{n:Int}(h: -9223372036854775808<=n/\n<=9223372036854775807:=by omega):dJ n:=h
end Go.Vc
namespace Go.Vc
open Go Go.RowKit
set_option maxRecDepth 100000
set_option maxHeartbeats 8000000
def bV{P:Program}{fv:Value}{args:LV}{w:World}{R R':Ending->World->Prop}(h:bB P fv args w R)(hr:∀e w',R e w'->R' e w'):bB P fv args w R':=by
 unfold bB at h ⊢;split at h
 ·split at h
  ·exact h.mono hr
  ·obtain ⟨e,he,v,w',h1,h2⟩:=h;exact ⟨e,he,v,w',h1,hr _ _ h2⟩
 ·obtain ⟨h1,fn,tmps,assign,body,h2,h3⟩:=h;exact ⟨h1,fn,tmps,assign,body,h2,h3.mono hr⟩
 ·exact h.elim
def adM{P:Program}{f:FuncId}{first cap:Array Value}{args:LV}{w:World}{R:Ending->World->Prop}(hb:wE P f=true)(h:Calls P f (first.toList++args++cap.toList).toArray w R):
  bB P (.func (.func f) first cap) args w R:=by
 unfold bB;simp only [hb];exact h
def cH{P:Program}{f:FuncId}{first cap:Array Value}{args:LV}{w:World}{R:Ending->World->Prop}{asx:Array Value}(hb:wE P f=true)(ha:(first.toList++args++cap.toList).toArray=asx)(h:Calls P f asx w R):
  bB P (.func (.func f) first cap) args w R:=adM hb (by rw [ha];exact h)
def D8(fn:Fn)(a b:Array Value):L8 (.func fn a b)=false:=rfl
def QN(fn:Fn)(a b:Array Value):fnC (.func fn a b)=[]:=rfl
structure Mod(F:Nat->Prop)(w w':World):Prop where
 os:w'.os=w.os
 tape:w'.tape=w.tape
 output:w'.output=w.output
 size:w.heap.size<=w'.heap.size
 same:∀i,i<w.heap.size->¬F i->w'.heap[i]? =w.heap[i]?
def Mod.refl(F:Nat->Prop)(w:World):Mod F w w:=⟨rfl,rfl,rfl,ak _,λ_ _ _=>rfl⟩
def Mod.aC{F:Nat->Prop}{w w':World}(h:Ext w w'):Mod F w w':=⟨h.os,h.tape,h.output,h.size,λi hi _=>h.block i hi⟩
def Mod.trans{F:Nat->Prop}{a b c:World}(h:Mod F a b)(k:Mod F b c):Mod F a c:=
 ⟨k.os.trans h.os,k.tape.trans h.tape,k.output.trans h.output,gG h.size k.size,λi hi hn=>(k.same i (kr hi h.size) hn).trans (h.same i hi hn)⟩
def Mod.mono{F F':Nat->Prop}{a b:World}(h:Mod F a b)(hs:∀i,i<a.heap.size->F i->F' i):Mod F' a b:=⟨h.os,h.tape,h.output,h.size,λi hi hn=>h.same i hi λhf=>hn (hs i hi hf)⟩
def Mod.tr{F F':Nat->Prop}{a b c:World}(h:Mod F a b)(k:Mod F' b c)(hs:∀i,F' i->F i\/a.heap.size<=i):Mod F a c:=
 ⟨k.os.trans h.os,k.tape.trans h.tape,k.output.trans h.output,gG h.size k.size,λi hi hn=>(k.same i (kr hi h.size) λhf=>by
  rcases hs i hf with hf|hf
  ·exact hn hf
  ·omega).trans (h.same i hi hn)⟩
def Mod.below{F:Nat->Prop}{B:Nat}{w w':World}(h:Mod F w w')(hB:B<=w)(hF:∀i,F i->B<=i):Below B w w':=⟨h.os,h.tape,h.output,h.size,λi hi=>h.same i aa λhf=>by have:=hF i hf;omega⟩
def Mod.ext{F:Nat->Prop}{w0 w w':World}(h:Mod F w w')(x:Ext w0 w)(hF:∀i,F i->w0.heap.size<=i):Ext w0 w':=x.trans (h.below x.size hF)
def Mod.q9{r:Nat}{w w':World}(h:Rec r w w'):Mod (λi=>i=r) w w':=⟨h.os,h.tape,h.output,Nat.le_of_eq h.size.symm,λi _ hn=>h.same i hn⟩
def ahP{w w':World}{p:Option Addr}(h:∀b,bk p=some b->w'.heap[b]? =w.heap[b]?):ld w' p=ld w p:=by
 cases p with
 |none=>rfl
 |some a=>
  show w'.cell? a=w.cell? a;have:=h a.block rfl;simp only [World.cell?,this]
def RdK.same{w w':World}{s:Sl}{k:Nat}{rows:List (LV)}(h:RdK w s k rows)(hs:∀b,s.aZ=some b->w'.heap[b]? =w.heap[b]?):RdK w' s k rows:=
 ⟨h.n,h.wd,λi r hi j v hj=>by rw [ahP λb hb=>hs b (by rw [cP] at hb;exact hb)];exact h.rd i r hi j v hj⟩
end Go.Vc
namespace Go.Vc
open Go Go.RowKit
def RdK.UG{w:World}{s:Sl}{k:Nat}{rows:List (LV)}(h:RdK w s k rows)(hk:0<k)(hZ:rows≠ []){b:Nat}(hb:s.aZ=some b):b<w:=by
 cases rows with
 |nil=>exact absurd rfl hZ
 |cons r rows=>
  have hl:=h.wd r (.head _);have h0:r[0]? =some (r[0]'aa):=cX aa;have:=h.rd 0 r rfl 0 _ h0
  cases ha:s.a with
  |none=>rw [ha] at this;simp [ld,af] at this
  |some a=>
   rw [ha] at this;have iQ:=W6 (w:=w) (a:=a.add (0*k+0)) this;have:(a.add (0*k+0)).block=a.block:=by unfold Addr.add;split<;>rfl
   rw [this] at iQ;simp [Sl.aZ,ha] at hb;omega
def RdK.ajP{w w':World}{s:Sl}{k:Nat}{rows:List (LV)}(h:RdK w s k rows)(hs:rows≠ []->∀b,s.aZ=some b->w'.heap[b]? =w.heap[b]?):RdK w' s k rows:=by
 cases rows with
 |nil=>exact ⟨h.n,h.wd,λi r hi=>by simp at hi⟩
 |cons r rows=>exact h.same (hs bg)
end Go.Vc
namespace Go.Vc
open Go Go.RowKit
end Go.Vc
namespace Go.Vc
open Go Go.RowKit
set_option maxRecDepth 100000
set_option maxHeartbeats 8000000
def ar.form{B E k:Nat}{w:World}{s:Sl}{rows:List (LV)}(h:ar B E k w s rows)(hk:0<k):(s=⟨none,0,0⟩/\rows=[])\/
  ∃g cs,s.a=aD g/\B<=g/\Row w g cs E/\s.c*k<=cs.length/\s.n<=s.c/\cs.take (s.n*k)=rows.flatten/\s.n=rows.length:=by
 have hn:=(h.rd hk).n;have ho:=h.own;have hf:=bA h.wd;generalize hx:rows.flatten=xs at ho hf
 cases ho with
 |nil=>exact .inl ⟨rfl,Dw (by rw [<-hn])⟩
 |row g n c cs hg hr hc hn'=>exact .inr ⟨g,cs,rfl,hg,hr,hc,hn',rfl,hn⟩
def ar.jA{B E k:Nat}{w:World}{g n c:Nat}{cs:LV}{rows:List (LV)}(hg:B<=g)(hr:Row w g cs E)(hc:c*k<=cs.length)(hn:n<=c)(ht:cs.take (n*k)=rows.flatten)(hw:∀r ∈ rows,r.length=k):
  ar B E k w ⟨aD g,n,c⟩ rows:=⟨by rw [<-ht];exact .row g n c cs hg hr hc hn,hw⟩
def dz(a:Option Addr)(m size:Nat):aI a 0 m size=a:=by
 unfold aI;split
 ·rfl
 ·cases a<;>simp [Addr.add]
def tf(g l m size:Nat):aI (aD g) l m size=if m=l then aD g else some ⟨g,l*size,none⟩:=by
 unfold aI;split
 ·rfl
 ·simp [oX]
def Row.ak6{w:World}{g:Nat}{cs vs:LV}{E:TypeId}(hr:Row w g cs E){l m size:Nat}(hm:m=l->vs=[])(hv:∀j,j<vs.length->cs[l*size+j]? =vs[j]?):Rd w (aI (aD g) l m size) vs:=by intro j v hj;have iQ:=(bZ.1 hj).1;rw [tf,if_neg (λe=>by rw [hm e] at iQ;simp at iQ),aV,hr.ld,hv j iQ];exact hj
def Row.acC{w:World}{g:Nat}{cs vs:LV}{E:TypeId}(hr:Row w g cs E){l m size:Nat}(hm:m=l->vs=[])(hl:l*size+vs.length<=cs.length)(h1:One vs):
  Wr w (aI (aD g) l m size) vs.length/\Row (Go.Vc.bF w (aI (aD g) l m size) vs) g (aP cs (l*size) vs) E/\Mod (λi=>i=g) w (Go.Vc.bF w (aI (aD g) l m size) vs):=by
 by_cases e:m=l
 ·have:=hm e;subst this;rw [tf,if_pos e];exact ⟨λi hi=>by simp at hi,hr,Mod.refl _ _⟩
 ·rw [tf,if_neg e,hr.bF hl h1];exact ⟨hr.wr hl,hr.set _,⟨rfl,rfl,rfl,by rw [setRow_size];exact ak _,λi _ hn=>setRow_other _ _ _ _ hn⟩⟩
def Yk{w:World}{a:Option Addr}{xs ys:LV}(hx:Rd w a xs)(hy:Rd w a ys)(hl:xs.length=ys.length):xs=ys:=by
 apply jt;intro i;rcases jq i xs.length with hi|hi
 ·have h1:=hx i xs[i] (cX hi);have h2:=hy i (ys[i]'aa) (cX aa);rw [h1] at h2;rw [cX hi,cX aa];exact h2
 ·rw [jv hi,jv aa]
def Row.rd0{w:World}{g:Nat}{cs vs:LV}{E:TypeId}(hr:Row w g cs E)(hv:∀j,j<vs.length->cs[j]? =vs[j]?):Rd w (aD g) vs:=by intro j v hj;have iQ:=(bZ.1 hj).1;rw [aV,hr.ld,eC,hv j iQ];exact hj
def Row.ne{w:World}{g g':Nat}{cs cs':LV}{E E':TypeId}(hr:Row w g cs E)(hr':Row w g' cs' E')(hE:E≠E'):g≠g':=by rintro rfl;have:=hr.symm.trans hr';simp at this;exact hE this.2
def Row.fY{w:World}{g r:Nat}{cs:LV}{E:TypeId}{G:Value->Prop}{kvs:List (Value × Value)}(hr:Row w g cs E)(hm:bS G w (some r) kvs):g≠r:=by rintro rfl;exact hm.wo _ _ _ hr
def bS.same{w w':World}{G:Value->Prop}{r:Nat}{kvs:List (Value × Value)}(hm:bS G w (some r) kvs)(h:w'.heap[r]? =w.heap[r]?):bS G w' (some r) kvs:=by obtain ⟨es,c,h1,h2⟩:=hm;exact ⟨es,c,h.trans h1,h2⟩
def bS.lt{w:World}{G:Value->Prop}{r:Nat}{kvs:List (Value × Value)}(hm:bS G w (some r) kvs):r<w:=by obtain ⟨es,c,h1,h2⟩:=hm;exact (tQ.1 h1).1
def bS.new{w:World}{G:Value->Prop}:bS G (w.alloc (.map #[] 0)) (some w.heap.size) []:=
 ⟨#[],0,World.alloc_heap_new w _,rfl,bg,bg,bg,bg⟩
end Go.Vc
namespace Go.Vc
open Go Go.RowKit
def tg{k:Nat}:∀{rows:List (LV)} (m:Nat),(∀r ∈ rows,r.length=k)->rows.flatten.take (m*k)=(rows.take m).flatten
 | [],m,_=>by simp
 |r::rows,0,_=>by simp
 |r::rows,m+1,hw=>by
  have hr:=hw r (.head _)
  rw [List.take_succ_cons,jC,jC,show (m+1)*k=r.length+m*k by rw [O3,hr];omega,List.take_append,fl aa,Nat.add_sub_cancel_left,tg m λq hq=>hw q (.tail _ hq)]
def ar.cut{B E k:Nat}{w:World}{s:Sl}{rows:List (LV)}(h:ar B E k w s rows)(hk:0<k){m:Nat}(hm:m<=rows.length):ar B E k w ⟨aI s.a 0 m k,m,m⟩ (rows.take m):=by
 rw [dz];rcases h.form hk with ⟨rfl,rfl⟩|⟨g,cs,ha,hg,hr,hc,hn,ht,hl⟩
 ·have:m=0:=by simpa using hm
  subst this;exact .nil
 ·rw [ha];have h1:m*k<=s.n*k:=vg _ aa;have h2:s.n*k<=s.c*k:=vg _ hn;refine ar.jA hg hr aa (ak _) ?_ (λr hr=>h.wd r (mB hr));have e1:cs.take (m*k)=(cs.take (s.n*k)).take (m*k):=by rw [List.take_take,Nat.min_eq_left h1]
  rw [e1,ht,tg m h.wd]
end Go.Vc
namespace Go.Vc
open Go Go.RowKit
set_option maxRecDepth 100000
set_option maxHeartbeats 8000000
structure aJ(F F':Nat->Prop)(w w':World):Prop where
 mod:Mod F w w'
 sub:∀i,F' i->F i\/w.heap.size<=i
def aJ.refl(F:Nat->Prop)(w:World):aJ F F w w:=⟨Mod.refl _ _,λ_ h=> .inl h⟩
def aJ.trans{F G H:Nat->Prop}{a b c:World}(h:aJ F G a b)(k:aJ G H b c):aJ F H a c:=
 ⟨h.mod.tr k.mod h.sub,λi hi=>by
  rcases k.sub i hi with hg|hg
  ·exact h.sub i hg
  ·exact .inr (gG h.mod.size hg)⟩
def aJ.aC{F:Nat->Prop}{w w':World}(h:Ext w w'):aJ F F w w':=⟨Mod.aC h,λ_ h=> .inl h⟩
def aJ.fresh{F F':Nat->Prop}{w0 w w':World}(h:aJ F F' w w')(x:Ext w0 w)(hF:∀i,F i->w0.heap.size<=i):Ext w0 w'/\∀i,F' i->w0.heap.size<=i:=
 ⟨h.mod.ext x hF,λi hi=>by
  rcases h.sub i hi with hf|hf
  ·exact hF i hf
  ·exact gG x.size hf⟩
def aJ.apart{F F' G:Nat->Prop}{w w':World}(h:aJ F F' w w')(hd:∀i,F i->¬G i)(hl:∀i,G i->i<w.heap.size):∀i,F' i->¬G i:=λi hi hg=>by
 rcases h.sub i hi with hf|hf
 ·exact hd i hf hg
 ·have:=hl i hg;omega
def Mod.yb{w w':World}{s:Sl}(hb:Below 0 w w')(hk:∀j,s.aZ≠some j->j<w.heap.size->w'.heap[j]? =w.heap[j]?):Mod (λi=>s.aZ=some i) w w':=
 ⟨hb.os,hb.tape,hb.output,hb.size,λi hi hn=>hk i hn hi⟩
def Mod.row{F:Nat->Prop}{w w':World}(h:Mod F w w'){g:Nat}{cs:LV}{t:TypeId}(hr:Row w g cs t)(hn:¬F g):Row w' g cs t:=hr.same (h.same g hr.lt hn)
def Mod.gU{F:Nat->Prop}{w w':World}(h:Mod F w w'){B E k:Nat}{s:Sl}{rows:List (LV)}(ho:ar B E k w s rows)(hn:∀b,s.aZ=some b->¬F b):ar B E k w' s rows:=
 ho.aW λb hb=>h.same b (ho.own.lt hb).2 (hn b hb)
def Mod.map{F:Nat->Prop}{w w':World}(h:Mod F w w'){G:Value->Prop}{r:Nat}{kvs:List (Value × Value)}(hm:bS G w (some r) kvs)(hn:¬F r):bS G w' (some r) kvs:=hm.same (h.same r hm.lt hn)
def Mod.rdK{F:Nat->Prop}{w w':World}(h:Mod F w w'){s:Sl}{k:Nat}{rows:List (LV)}(hk:0<k)(hr:RdK w s k rows)(hn:rows≠ []->∀b,s.aZ=some b->¬F b):RdK w' s k rows:=
 hr.ajP λhZ b hb=>h.same b (hr.UG hk hZ hb) (hn hZ b hb)
def aeq{C x l:LV}{a b N:Nat}(hb:b=a+x.length)(hN:N=b+l.length)(hC:N<=C.length):(aP (aP C a x) b l).take N=C.take a++x++l:=by
 have ha:(C.take a).length=a:=by rw [cY];omega
 rw [de x C a aa];have hD:(C.take a++x).length=b:=by rw [bQ,ha,hb]
 rw [de _ _ _ (by rw [bQ,hD,A6];omega),GA hD,GA (by rw [bQ,hD];omega)]
def aad{C x l:LV}{a b N:Nat}(hb:b=a+x.length)(hN:N=b+l.length)(hC:N<=C.length):(aP (aP C b l) a x).take N=C.take a++x++l:=by
 have ha:(C.take a).length=a:=by rw [cY];omega
 have lj:(C.take b).length=b:=by rw [cY];omega
 rw [de l C b aa];have h1:(C.take b++l++C.drop (b+l.length)).take a=C.take a:=by rw [fz,Eb aa,List.take_take,Nat.min_eq_left aa]
 have h2:(C.take b++l++C.drop (b+l.length)).drop (a+x.length)=l++C.drop (b+l.length):=by rw [fz,<-hb,List.drop_left' lj]
 have hl:(C.take b++l++C.drop (b+l.length)).length=C.length:=by simp;omega
 rw [de _ _ _ (by rw [hl];omega),h1,h2,<-fz,GA (by simp only [bQ,ha];omega)]
def al3{lo hi:Nat}(h:lo+hi<=1000000):aw (((fR (aw ((lo:Int)+(hi:Int)))):Int).fdiv (2 ^(min (1:Int).toNat 64)))=(((lo+hi) / 2:Nat):Int):=by
 rw [aK (n:=(lo:Int)+hi) gA];have h2:fR ((lo:Int)+hi)=lo+hi:=by unfold IntKind.wrap;simp only [IntKind.bits,IntKind.signed];simp;omega
 rw [h2];have h3:((lo:Int)+hi).fdiv (2 ^(min (1:Int).toNat 64))=(((lo+hi) / 2:Nat):Int):=by show ((lo:Int)+hi).fdiv 2=_;rw [ud _ aa];omega
 rw [h3,wI]
def Row.at{w:World}{g:Nat}{cs:LV}{E:TypeId}(hr:Row w g cs E)(j:Nat){v:Value}(h:cs[j]? =some v):Vc.ld w (af (aD g) j)=some v:=by rw [aV,hr.ld,eC];exact h
def Row.ic{w:World}{g:Nat}{cs:LV}{E:TypeId}(hr:Row w g cs E){j:Nat}{v:Value}(hj:j<cs.length)(hv:v.oneCell'=true):
  Wr w (af (aD g) j) 1/\∀w',w'=Vc.bF w (af (aD g) j) [v]->Row w' g (aP cs j [v]) E/\Mod (λi=>i=g) w w':=by
 rw [aV,eC];have h1:One [v]:=by intro u hu;simp at hu;subst hu;exact hv
 refine ⟨hr.wr aa,λw' e=> ?_⟩;rw [hr.bF tP h1] at e;subst e;exact ⟨hr.set _,rfl,rfl,rfl,by rw [setRow_size];exact ak _,λi _ hn=>setRow_other _ _ _ _ hn⟩
def aY{B E k:Nat}{w:World}{s:Sl}{rows:List (LV)}(h:ar B E k w s rows)(hk:0<k){b:Nat}(hb:s.aZ=some b):∃cs,Row w b cs E:=by
 rcases h.form hk with ⟨hs,-⟩|⟨g0,cs,ha,hg0,hr,-⟩
 ·rw [hs] at hb;cases hb
 ·unfold Sl.aZ at hb;rw [ha] at hb;have:g0=b:=by simpa using hb
  exact ⟨cs,this▸hr⟩
open Go.ChangeShapes Go.WideShapes
def inI_wf'{n:Int}(h:(Lit.int .i64 n).wf=true):dJ n:=by
 have h1:IntKind.min .i64= -9223372036854775808:=by decide
 have h2:IntKind.max .i64=9223372036854775807:=by decide
 simp only [Lit.wf,fk,cJ,h1,h2] at h;exact h
section
variable {H:Type} {enc:TypeId × Value->H} {P:Program} {w:World} {base:Nat} {spare:Nat->Bool} {held:Bool}
def ahI{t:TypeId}{f0 f1:Field}{fuel:Nat}{cs:LV}{x:DataW H × List MemPlace}(ht:P.underlying t=some (.struct #[f0,f1]))(ce:P.cellsOf t=2)
  (o0:f0.offset=0)(o1:f1.offset=1)(c0:P.cellsOf f0.type=1)(c1:P.cellsOf f1.type=1)(u0:P.underlying f0.type=some (.int .i64))(u1:P.underlying f1.type=some (.int .i64))
  (h:DataW.trod enc P w base spare held fuel t cs=some x):∃a b,cs=[.int .i64 a,.int .i64 b]/\dJ a/\dJ b:=by
 obtain ⟨xs,n,_,_,hl,hxl,hf⟩:=DataW.trod_struct ht h;rw [ce] at hl
 match xs,hxl,cs,hl with
 | [y0,y1],_,[v0,v1],_=>
   have h0:=hf 0 f0 rfl;have h1:=hf 1 f1 rfl;rw [o0,c0] at h0;rw [o1,c1] at h1;obtain ⟨a,e0,_,wa⟩:=DataW.trod_int u0 h0;obtain ⟨b,e1,_,wb⟩:=DataW.trod_int u1 h1;simp at e0 e1;exact ⟨a,b,by rw [e0,e1],inI_wf' wa,inI_wf' wb⟩
def agp{t e:TypeId}{f0 f1:Field}{fuel:Nat}{a:Option Addr}{len cap:Nat}{x:DataW H × List MemPlace}(ht:P.underlying t=some (.slice e))(he:P.underlying e=some (.struct #[f0,f1]))
  (ce:P.cellsOf e=2)(o0:f0.offset=0)(o1:f1.offset=1)(c0:P.cellsOf f0.type=1)(c1:P.cellsOf f1.type=1)(u0:P.underlying f0.type=some (.int .i64))(u1:P.underlying f1.type=some (.int .i64))
  (h:DataW.trod enc P w base spare held fuel t [.slice a len cap]=some x):
  ∃l:List (Int × Int),RdK w ⟨a,len,cap⟩ 2 (l.map λr=> [.int .i64 r.1,.int .i64 r.2])/\(∀r ∈ l,dJ r.1/\dJ r.2)/\len<=cap/\cap<=maxLen:=by
 rcases Go.Deep.open_slice_pairs ht he ce o0 o1 c0 c1 h with ⟨uu,_⟩|⟨b,len',cap',m,n,V0,V1,D0,D1,P0,P1,uu,_,hl,hm,hmm,_,hx⟩
 ·simp at uu;obtain ⟨rfl,rfl,rfl⟩:=uu;exact ⟨[],⟨rfl,bg,λi r hi=>by simp at hi⟩,bg,ak _,aA⟩
 ·simp at uu;obtain ⟨rfl,rfl,rfl⟩:=uu;have hlm:len<=m:=by rw [hmm];split<;>omega
  have each:∀i,i<len->∃r:Int × Int,w.cell? (b.add (i*2))=some (.int .i64 r.1)/\w.cell? (b.add (i*2+1))=some (.int .i64 r.2)/\dJ r.1/\dJ r.2:=by intro i hi;obtain ⟨h0,h1,h2,h3⟩:=hx i aa;obtain ⟨p,e0,_,wp⟩:=DataW.trod_int u0 h2;obtain ⟨q,e1,_,wq⟩:=DataW.trod_int u1 h3;simp at e0 e1;exact ⟨(p,q),by rw [h0,e0],by rw [h1,e1],inI_wf' wp,inI_wf' wq⟩
  have pick:∃f:Nat->Int × Int,∀i,i<len->w.cell? (b.add (i*2))=some (.int .i64 (f i).1)/\w.cell? (b.add (i*2+1))=some (.int .i64 (f i).2)/\dJ (f i).1/\dJ (f i).2:=by refine ⟨λi=>if hi:i<len then Classical.choose (each i hi) else (0,0),λi hi=> ?_⟩;simp only [dif_pos hi];exact Classical.choose_spec (each i hi)
  obtain ⟨f,hf⟩:=pick;refine ⟨(List.range len).map f,⟨bg,bg,λi r hi j v hj=> ?_⟩,λr hr=> ?_,hl,hm⟩
  ·simp only [pM,aS,xE] at hi;obtain ⟨k,hk,rfl⟩:=hi;obtain ⟨Jd,BW⟩:=bZ.1 hk;simp at Jd BW;subst BW;obtain ⟨h0,h1,_,_⟩:=hf i Jd;rcases j with _|_|j<;>simp at hj
   ·subst hj;exact h0
   ·subst hj;exact h1
  ·obtain ⟨i,hi,rfl⟩:=aU.1 hr;exact (hf i (by simpa using hi)).2.2
def ahJ{t e:TypeId}{k:IntKind}{fuel:Nat}{a:Option Addr}{len cap:Nat}{x:DataW H × List MemPlace}(ht:P.underlying t=some (.slice e))(he:P.underlying e=some (.int k))(ce:P.cellsOf e=1)
  (h:DataW.trod enc P w base spare held fuel t [.slice a len cap]=some x):
  ∃z:List Int,RdK w ⟨a,len,cap⟩ 1 (z.map λn=> [.int k n])/\(∀n ∈ z,(Lit.int k n).wf=true)/\len<=cap/\cap<=maxLen:=by
 rcases Go.ChangeShapes.open_ints ht he ce h with ⟨uu,_⟩|⟨b,len',cap',zs,uu,_,hl,hm,hz,_,hcell,hwf⟩
 ·simp at uu;obtain ⟨rfl,rfl,rfl⟩:=uu;exact ⟨[],⟨rfl,bg,λi r hi=>by simp at hi⟩,bg,ak _,aA⟩
 ·simp at uu;obtain ⟨rfl,rfl,rfl⟩:=uu;have hlm:len<=zs.length:=by rw [hz];split<;>omega
  refine ⟨zs.take len,⟨by simp;omega,λr hr=>by obtain ⟨q,_,rfl⟩:=aU.1 hr;rfl,λi r hi j v hj=> ?_⟩,λn hn=>hwf n (mB hn),hl,hm⟩;rw [aS,xE] at hi;obtain ⟨q,hq,rfl⟩:=hi;rw [rR] at hq;split at hq
  ·rename_i FV;have:=hcell i aa;rw [dO,hq] at this;rcases j with _|j<;>simp at hj;subst hj;show w.cell? (b.add (i*1+0))=_;rw [As,Nat.add_zero];exact this
  ·cases hq
def aCk{n:Int}(h:(Lit.int .u8 n).wf=true):0<=n/\n<256:=by
 have h1:IntKind.min .u8=0:=by decide
 have h2:IntKind.max .u8=255:=by decide
 simp only [Lit.wf,fk,cJ,h1,h2] at h;omega
end
section
variable {H:Type} {enc:TypeId × Value->H} {P:Program} {w:World} {base:Nat} {spare:Nat->Bool} {held:Bool}
def H7(P:Program):Nat->TypeId->Bool
 |0,_=>false
 |n+1,t=>match P.underlying t with
  |some (.int .i64)=>P.cellsOf t==1
  |some (.struct fs)=>(List.range (P.cellsOf t)).all λi=>(List.range fs.size).any λj=>match fs[j]? with
   |some f=>decide (f.offset<=i) && decide (i<f.offset+P.cellsOf f.type) && H7 P n f.type
   |none=>false
  |_=>false
def Bq:∀{n:Nat} {t:TypeId} {fuel:Nat} {cs:LV} {x:DataW H × List MemPlace},H7 P n t=true->DataW.trod enc P w base spare held fuel t cs=some x->
  cs.length=P.cellsOf t/\∀v ∈ cs,∃z,v=.int .i64 z/\dJ z
 |0,_,_,_,_,h,_=>by simp [H7] at h
 |n+1,t,fuel,cs,x,h,ht=>by
  unfold H7 at h
  split at h
  ·rename_i e
   obtain ⟨z,rfl,_,hw⟩:=DataW.trod_int e ht
   have:P.cellsOf t=1:=by simpa using h
   refine ⟨by rw [this];rfl,λv hv=> ?_⟩;rw [fT] at hv;exact ⟨z,hv,inI_wf' hw⟩
  ·rename_i fs e;obtain ⟨xs,k,_,_,hl,hxl,hf⟩:=DataW.trod_struct e ht;refine ⟨hl,λv hv=> ?_⟩;obtain ⟨i,hi,rfl⟩:=List.getElem_of_mem hv;rw [Gt] at h;have hj:=h i (nQ.2 aa);rw [List.any_eq_true] at hj;obtain ⟨j,hjr,hj⟩:=hj;rw [nQ] at hjr;split at hj
   ·rename_i f hfj;simp only [fk,cJ] at hj;have hx:=hf j f hfj;rw [cX aa] at hx;obtain ⟨dp,m4⟩:=Bq hj.2 hx;refine m4 _ (aO (i:=i-f.offset) ?_);rw [rR,if_pos aa,xy,cX aa];congr 2;omega
   ·cases hj
  ·cases h
def xQ:∀{cs:LV},(∀v ∈ cs,∃z,v=.int .i64 z/\dJ z)->∃r:List Int,cs=r.map (λn=> .int .i64 n)/\∀n ∈ r,dJ n
 | [],_=>⟨[],rfl,bg⟩
 |v::cs,h=>by
  obtain ⟨z,rfl,hz⟩:=h v (List.mem_cons_self ..)
  obtain ⟨r,rfl,hr⟩:=xQ λu hu=>h u (DI _ hu)
  refine ⟨z::r,rfl,λn hn=> ?_⟩
  rcases cp.1 hn with rfl|hn
  ·exact hz
  ·exact hr n hn
def xR{n:Nat}{t:TypeId}{fuel:Nat}{cs:LV}{x:DataW H × List MemPlace}(hb:H7 P n t=true)(h:DataW.trod enc P w base spare held fuel t cs=some x):
  ∃r:List Int,cs=r.map (λn=> .int .i64 n)/\r.length=P.cellsOf t/\∀n ∈ r,dJ n:=by
 obtain ⟨h1,h2⟩:=Bq hb h;obtain ⟨r,rfl,hr⟩:=xQ h2;exact ⟨r,rfl,by simpa using h1,hr⟩
def agv{n:Nat}{t:TypeId}{fuel:Nat}{cs:LV}{x:DataW H × List MemPlace}(hb:H7 P n t=true)(hk:P.cellsOf t=3)(h:DataW.trod enc P w base spare held fuel t cs=some x):
  ∃a b c,cs=[.int .i64 a,.int .i64 b,.int .i64 c]/\dJ a/\dJ b/\dJ c:=by
 obtain ⟨r,rfl,hl,hi⟩:=xR hb h;rw [hk] at hl
 match r,hl with
 | [a,b,c],_=>exact ⟨a,b,c,rfl,hi a bg,hi b bg,hi c bg⟩
def ahX{m k:Nat}{t e:TypeId}{fuel:Nat}{a:Option Addr}{len cap:Nat}{x:DataW H × List MemPlace}(ht:P.underlying t=some (.slice e))(hb:H7 P m e=true)(hk:P.cellsOf e=k)
  (h:DataW.trod enc P w base spare held fuel t [.slice a len cap]=some x):
  ∃z:List (List Int),RdK w ⟨a,len,cap⟩ k (z.map λr=>r.map λn=> .int .i64 n)/\(∀r ∈ z,r.length=k/\∀n ∈ r,dJ n)/\len<=cap/\cap<=maxLen:=by
 rcases Go.Deep.open_slice ht h with ⟨uu,_⟩|⟨b,len',cap',m',n,D,Pl,uu,_,hl,hm,hmm,_,hx⟩
 ·simp at uu;obtain ⟨rfl,rfl,rfl⟩:=uu;exact ⟨[],⟨rfl,bg,λi r hi=>by simp at hi⟩,bg,ak _,aA⟩
 ·simp at uu;obtain ⟨rfl,rfl,rfl⟩:=uu;have hlm:len<=m':=by rw [hmm];split<;>omega
  have each:∀i,i<len->∃r:List Int,(∀j,j<k->w.cell? ((b.add (i*k)).add j)=(r.map λn=>Value.int .i64 n)[j]?)/\r.length=k/\∀n ∈ r,dJ n:=by intro i hi;obtain ⟨cs',h1,h2⟩:=hx i aa;obtain ⟨r,rfl,hr1,oS⟩:=xR hb h2;rw [hk] at h1 hr1;exact ⟨r,(World.cells?_some h1).2.2,hr1,oS⟩
  have pick:∃f:Nat->List Int,∀i,i<len->(∀j,j<k->w.cell? ((b.add (i*k)).add j)=((f i).map λn=>Value.int .i64 n)[j]?)/\(f i).length=k/\∀n ∈ f i,dJ n:=by refine ⟨λi=>if hi:i<len then Classical.choose (each i hi) else [],λi hi=> ?_⟩;simp only [dif_pos hi];exact Classical.choose_spec (each i hi)
  obtain ⟨f,hf⟩:=pick;refine ⟨(List.range len).map f,⟨bg,λr hr=> ?_,λi r hi j v hj=> ?_⟩,λr hr=> ?_,hl,hm⟩
  ·obtain ⟨r',hr',rfl⟩:=aU.1 hr;obtain ⟨i,hi,rfl⟩:=aU.1 hr';rw [aL];exact (hf i (by simpa using hi)).2.1
  ·simp only [pM,aS,xE] at hi;obtain ⟨q,hq,rfl⟩:=hi;obtain ⟨Jd,BW⟩:=bZ.1 hq;simp at Jd BW;subst BW;obtain ⟨h0,h1,_⟩:=hf i Jd;have hjk:j<k:=by have:=(bZ.1 hj).1;simp at this;omega
   have:=h0 j hjk;rw [<-dn];show w.cell? ((b.add (i*k)).add j)=_;rw [this];exact hj
  ·obtain ⟨i,hi,rfl⟩:=aU.1 hr;exact (hf i (by simpa using hi)).2
end
section
variable {H:Type} {enc:TypeId × Value->H} {P:Program} {w:World} {base:Nat} {spare:Nat->Bool} {held:Bool}
def RO(P:Program):Nat->TypeId->Nat->Bool->Bool
 |0,_,_,_=>false
 |n+1,t,i,b=>match P.underlying t with
  |some (.int .i64)=>b &&(i==0)
  |some .bool=> !b &&(i==0)
  |some (.struct fs)=>decide (i<P.cellsOf t) &&(List.range fs.size).any λj=>match fs[j]? with
   |some f=>decide (f.offset<=i) && decide (i<f.offset+P.cellsOf f.type) && RO P n f.type (i-f.offset) b
   |none=>false
  |_=>false
def aeG(b:Bool)(v:Value):Prop:=match b with|true=>∃z,v=.int .i64 z/\dJ z|false=>∃c,v=.bool c
def By:∀{n:Nat} {t:TypeId} {i:Nat} {b:Bool} {fuel:Nat} {cs:LV} {x:DataW H × List MemPlace},RO P n t i b=true->DataW.trod enc P w base spare held fuel t cs=some x->∃v,cs[i]? =some v/\aeG b v
 |0,_,_,_,_,_,_,h,_=>by simp [RO] at h
 |n+1,t,i,b,fuel,cs,x,h,ht=>by
  unfold RO at h
  split at h
  ·rename_i e
   obtain ⟨z,rfl,_,hw⟩:=DataW.trod_int e ht
   rw [fk] at h
   obtain ⟨rfl,h2⟩:=h
   have:i=0:=by simpa using h2
   subst this;exact ⟨_,rfl,z,rfl,inI_wf' hw⟩
  ·rename_i e;obtain ⟨c,rfl,_⟩:=DataW.trod_bool e ht;rw [fk] at h;obtain ⟨h1,h2⟩:=h;have:i=0:=by simpa using h2
   subst this;have:b=false:=by simpa using h1
   subst this;exact ⟨_,rfl,c,rfl⟩
  ·rename_i fs e;obtain ⟨xs,k,_,_,hl,hxl,hf⟩:=DataW.trod_struct e ht;rw [fk] at h;have hi:i<P.cellsOf t:=by simpa using h.1
   have h:=h.2;rw [List.any_eq_true] at h;obtain ⟨j,hjr,hj⟩:=h;rw [nQ] at hjr;split at hj
   ·rename_i f hfj;rw [fk,fk,cJ,cJ] at hj;have hx:=hf j f hfj;rw [cX aa] at hx;obtain ⟨v,hv,bc⟩:=By hj.2 hx;rw [rR,if_pos aa,xy] at hv;exact ⟨v,by rw [<-hv];congr 1;omega,bc⟩
   ·cases hj
  ·cases h
def MixR(ks:List Bool)(r:LV):Prop:=r.length=ks.length/\∀(i:Nat)(b:Bool),ks[i]? =some b->∃v,r[i]? =some v/\aeG b v
def aqE(P:Program)(m:Nat)(ks:List Bool)(e:TypeId):Bool:=P.cellsOf e==ks.length &&(List.range ks.length).all λi=>match ks[i]? with|some b=>RO P m e i b|none=>false
def mix_of_trod{m:Nat}{ks:List Bool}{t e:TypeId}{fuel:Nat}{a:Option Addr}{len cap:Nat}{x:DataW H × List MemPlace}(ht:P.underlying t=some (.slice e))(hb:aqE P m ks e=true)
  (h:DataW.trod enc P w base spare held fuel t [.slice a len cap]=some x):
  ∃z:List (LV),RdK w ⟨a,len,cap⟩ ks.length z/\(∀r ∈ z,MixR ks r)/\len<=cap/\cap<=maxLen:=by
 unfold aqE at hb;rw [fk] at hb;have hk:P.cellsOf e=ks.length:=by simpa using hb.1
 have hb:=hb.2;rw [Gt] at hb;rcases Go.Deep.open_slice ht h with ⟨uu,_⟩|⟨b,len',cap',m',n,D,Pl,uu,_,hl,hm,hmm,_,hx⟩
 ·simp at uu;obtain ⟨rfl,rfl,rfl⟩:=uu;exact ⟨[],⟨rfl,bg,λi r hi=>by simp at hi⟩,bg,ak _,aA⟩
 ·simp at uu;obtain ⟨rfl,rfl,rfl⟩:=uu;have hlm:len<=m':=by rw [hmm];split<;>omega
  have each:∀i,i<len->∃r:LV,(∀j,j<ks.length->w.cell? ((b.add (i*ks.length)).add j)=r[j]?)/\MixR ks r:=by intro i hi;obtain ⟨cs',h1,h2⟩:=hx i aa;rw [hk] at h1;have hl':cs'.length=ks.length:=(World.cells?_some h1).2.1;refine ⟨cs',(World.cells?_some h1).2.2,hl',λi b hib=> ?_⟩;have hi':=(bZ.1 hib).1;have:=hb i (nQ.2 hi');rw [hib] at this;exact By this h2
  have pick:∃f:Nat->LV,∀i,i<len->(∀j,j<ks.length->w.cell? ((b.add (i*ks.length)).add j)=(f i)[j]?)/\MixR ks (f i):=by refine ⟨λi=>if hi:i<len then Classical.choose (each i hi) else [],λi hi=> ?_⟩;simp only [dif_pos hi];exact Classical.choose_spec (each i hi)
  obtain ⟨f,hf⟩:=pick;refine ⟨(List.range len).map f,⟨bg,λr hr=> ?_,λi r hi j v hj=> ?_⟩,λr hr=> ?_,hl,hm⟩
  ·obtain ⟨i,hi,rfl⟩:=aU.1 hr;exact (hf i (by simpa using hi)).2.1
  ·simp only [aS,xE] at hi;obtain ⟨q,hq,rfl⟩:=hi;obtain ⟨Jd,BW⟩:=bZ.1 hq;simp at Jd BW;subst BW;obtain ⟨h0,h1,_⟩:=hf i Jd;have hjk:j<ks.length:=by have:=(bZ.1 hj).1;omega
   have:=h0 j hjk;rw [<-dn];show w.cell? ((b.add (i*ks.length)).add j)=_;rw [this];exact hj
  ·obtain ⟨i,hi,rfl⟩:=aU.1 hr;exact (hf i (by simpa using hi)).2
end
end Go.Vc
namespace Go.Proofs.YtkkkfkopcfdmaaaGreatDoor
open Go Go.Vc Go.RowKit Go.Proofs Tryz
set_option maxRecDepth 100000
set_option maxHeartbeats 8000000
variable {R:Ending->World->Prop} {w:World} {a0 a1 a2 a3 aE au aB aH aG aM:Int}
abbrev K2(i0 i1:Nat)(x y:World)(P:Prop):Prop:=Kp i0 x y/\Kp i1 x y/\P
abbrev K3(i0 i1 i2:Nat)(x y:World)(P:Prop):Prop:=Kp i0 x y/\Kp i1 x y/\Kp i2 x y/\P
abbrev K4(i0 i1 i2 i3:Nat)(x y:World)(P:Prop):Prop:=Kp i0 x y/\Kp i1 x y/\Kp i2 x y/\Kp i3 x y/\P
abbrev K5(i0 i1 i2 i3 i4:Nat)(x y:World)(P:Prop):Prop:=Kp i0 x y/\Kp i1 x y/\Kp i2 x y/\Kp i3 x y/\Kp i4 x y/\P
abbrev K6(i0 i1 i2 i3 i4 i5:Nat)(x y:World)(P:Prop):Prop:=Kp i0 x y/\Kp i1 x y/\Kp i2 x y/\Kp i3 x y/\Kp i4 x y/\Kp i5 x y/\P
abbrev K7(i0 i1 i2 i3 i4 i5 i6:Nat)(x y:World)(P:Prop):Prop:=Kp i0 x y/\Kp i1 x y/\Kp i2 x y/\Kp i3 x y/\Kp i4 x y/\Kp i5 x y/\Kp i6 x y/\P
abbrev K8(i0 i1 i2 i3 i4 i5 i6 i7:Nat)(x y:World)(P:Prop):Prop:=Kp i0 x y/\Kp i1 x y/\Kp i2 x y/\Kp i3 x y/\Kp i4 x y/\Kp i5 x y/\Kp i6 x y/\Kp i7 x y/\P
abbrev Ra2(F:Int->Int->World->Prop)(e:Ending)(w:World):Prop:=∃x0 x1:Int,e=.returned (.agg #[x0,x1])/\F x0 x1 w
abbrev jl(F:Int->Int->Int->World->Prop)(e:Ending)(w:World):Prop:=∃x0 x1 x2:Int,e=.returned (.agg #[x0,x1,x2])/\F x0 x1 x2 w
abbrev yj(F:Int->Int->Int->Int->Int->Int->World->Prop)(e:Ending)(w:World):Prop:=∃x0 x1 x2 x3 x4 x5:Int,e=.returned (.agg #[x0,x1,x2,x3,x4,x5])/\F x0 x1 x2 x3 x4 x5 w
abbrev Ra9(F:Int->Int->Int->Int->Int->Int->Int->Int->Int->World->Prop)(e:Ending)(w:World):Prop:=∃x0 x1 x2 x3 x4 x5 x6 x7 x8:Int,e=.returned (.agg #[x0,x1,x2,x3,x4,x5,x6,x7,x8])/\F x0 x1 x2 x3 x4 x5 x6 x7 x8 w
abbrev Ri(F:Int->World->Prop)(e:Ending)(w:World):Prop:=∃x:Int,e=.returned x/\F x w
abbrev Rb(F:Bool->World->Prop)(e:Ending)(w:World):Prop:=∃x:Bool,e=.returned (.bool x)/\F x w
abbrev Rv(F:Value->World->Prop)(e:Ending)(w:World):Prop:=∃x:Value,e=.returned x/\F x w
abbrev Rs(F:Sl->World->Prop)(e:Ending)(w:World):Prop:=∃x:Sl,e=.returned x/\F x w
abbrev Rt(F:World->Prop)(e:Ending)(w:World):Prop:=e=.returned (.tuple #[])/\F w
abbrev Nq(p:Option Addr)(j:Nat):Prop:=bk p≠some j
abbrev Nb(i j:Nat):Prop:=bk (some ⟨i,0,none⟩)≠some j
abbrev Wt(w:World)(a:Addr)(n:Nat):Prop:=true=true/\Wr w (some a) n
abbrev Aw(w:World)(l:Array Value)(t:TypeId)(F:World->Prop):Prop:=∀v,v=w.alloc (.cells l t)->F v
abbrev Sw(w:World)(i:Nat)(l:Array Value)(F:World->Prop):Prop:=∀v,v=w.setRow i l->F v
def Tryz.awd:EN Tryz.prog:=alh (by kernel_rfl)
def Tryz.mixed:Tryz.prog.follows .mixedOrders=true:=by kernel_rfl
def cq{pre:Prop}{f:FuncId}{fn:Func}(an:Ann){args:List Value}{w:World}{R:Ending->World->Prop}(hf:Tryz.prog.funcs[f]? =some fn)(h:pre)(k:pre=ahh Tryz.prog an fn args w R:=by kernel_rfl):Calls Tryz.prog f args.toArray w R:=
 PV (an:=an) Tryz.awd Tryz.mixed hf h k
abbrev bG:Ann:=⟨[],[],[]⟩
inductive CQ|a
abbrev ae:CQ:=.a
instance:CoeFun CQ (λ_=>FuncId->Array Value->World->(Ending->World->Prop)->Prop):=⟨λ_=>Calls Tryz.prog⟩
def TG.vc(h:
 Aw w #[aE,au,aB] 41 λw0=>(λAa=>
 Br (au<0)
 Aa
 (Br (au>=32)
 Aa
 (ae 282 #[aB,(16:Int)] w0.drew (Ri λx2 w1=>Kp w w0.drew w1/\
 ah w1 w 0 [aE]/\ah w1 (fP w 1) 0 [au]/\ae 282 #[aE,(16:Int)] w1 (Ri λx4 w3=>Kp w w1 w3/\
 ah w3 (fP w 1) 0 [au]/\R (dS #[(aw ((aw ((aw ((aw (au*16))+x2))*16))+x4)),true]) w3))))) (R (dS #[ai,false]) w0)):ae 255 #[.agg #[aE,au,aB]] w R:=
 cq bG func255 h
def Yx.vc(h:
 ae 158 #[a0] w (λe w0=>∃(t1:ByteArray),e=Value.string t1/\
 R (uD (!tR t1 (ByteArray.mk #[]))) w0)):ae 108 #[a0] w R:=
 cq bG func108 h
def EO.vc{a0:Addr}(h:(λA=>
 Aw w #[aH,aG,aM] 41 λw0=>
 nR w0.drew (af (some a0) 0) λx1 x2=>
 ae 193 #[.agg #[x1,x2],.agg #[aH,aG,aM]] w0.drew (Rx0 λx4 b5 w3=>Kp w w0.drew w3/\
 Br (!b5)
 (R (5:Int) w3)
 (ae 108 #[a2] w3 (Rb λb7 w6=>Kp w w3 w6/\
 Br (!b7)
 (R (1:Int) w6)
 (kB w6 A λs8=>
 ae 295 #[s8,x4,a2] w6 (Rs λIJ w9=>Kp w w6 w9/\
 (true=true/\Wr w9 A 1)/\bk A≠some w.heap.size/\(Pw w9 A [IJ] λbw=>
 R (0:Int) bw))))))) (af (some a0) 2)):ae 268 #[a0,.agg #[aH,aG,aM],a2] w R:=
 cq bG func268 h
def Cn.vc{a0:Addr}{a1:Addr}(h:(λA B=>
 DJ w (af A 1) λb0=>
 Br (!b0)
 (R (0:Int) w)
 (gZ w (af A 0) λp1=>
 aT (fq p1) (aT (fq p1) (nR w (af p1 0) λx2 x3=>
 ae 95 #[.agg #[x2,x3]] w (Rx1 λx5 x6 w4=>ae 72 #[.agg #[x5,x6]] w4 (Rx0 λx8 b9 w7=>gZ w7.drew B λL4=>
 gZ w7.drew (af A 0) λTo=>
 ae 137 #[To] w7.drew (ua λpn cC=>ah cC B 0 [.pointer L4]/\ae 115 #[L4,x8,pn] cC (kX λcW bH=>(Pv bH (af A 1) 1 [.bool (cW !=0)] λcD=>
 R cW cD))))))))) (some a1) (af (some a0) 0)):ae 79 #[a0,a1] w R:=
 cq bG func79 h
def EP.vc{a0:Addr}(h:(λA B C=>
 kB w A λs0=>
 eL s0.a a1 s0.n/\gZ w (af s0.a ((a1:Int).toNat*1)) λp1=>
 kB w.drew A λs2=>(λAa=>
 (0:Int)<=a1/\a1<=((s2.c:Nat):Int)/\(0:Int)<=a1/\a1<=a1/\kB w.drew A λs3=>(λAb=>
 (0:Int)<=C/\C<=((s3.n:Nat):Int)/\∃l4:LV,Rd w.drew (aI s3.a ((C:Int).toNat) (s3.c) 1) l4/\ba 8 1 w.drew ⟨Aa,B,B⟩ Ab l4/\∀(s5:Sl)(w6:World),aX 137 1 w.drew ⟨Aa,B,B⟩ Ab l4 s5 w6->
 ah w6 A 0 [s3]/\ah w6 A 0 [s2]/\(Pv w6 A 1 [s5] λw7=>
 R p1 w7)) (s3.n-(C:Int).toNat)) (aI s2.a (0) ((a1:Int).toNat) 1)) (af (some a0) 3) ((a1:Int).toNat-0) (aw (a1+1))):ae 80 #[a0,a1] w R:=
 cq bG func80 h
def Yy.vc(h:
 ae 212 #[a0] w (AG λp1 w0=>Aw w0 #[p1] 217 λw2=>
 R (Value.pointer (aD w0)) w2)):ae 149 #[a0] w R:=
 cq bG func149 h
def uF.vc{a0:Sl}{a1:Value}(h:
 sN (λI0 n1=>I0 n1 (0) w) λI0 n1 zF x3 w4=>
 Br (decide (x3<((a0.n:Nat):Int)))
 (eL a0.a x3 a0.n/\gZ w4 (af a0.a ((x3:Int).toNat*1)) λp6=>
 bB Tryz.prog a1 [.pointer p6] w4 (EK λb8 w7=>Br b8
 (R x3 w7)
 (∃n5,n5<n1/\I0 n5 ((aw (x3+1))) w7)))
 (R (Value.int .i64 (-1)) w4)):ae 129 #[a0,a1] w R:=
 cq (Of 2 8) func129 h
def yq.vc{a0:Addr}{c0:Addr}(h:(λA=>
 gZ w.drew A λp0=>
 aT (fq p0) (aT (fq p0) (nR w.drew (af p0 0) λx1 x2=>
 nR w.drew (some c0) λx3 x4=>
 ae 95 #[.agg #[x1,x2]] w.drew (Rx1 λx6 x7 w5=>ah w5 (some c0) 0 [x3,x4]/\ah w5 A 0 [.pointer p0]/\R (uD ((x6==x3) &&(x7==x4))) w5)))) (af (some a0) 0)):ae 130 #[a0,c0] w R:=
 cq bG func130 h
def AJ.vc(h:(λA=>
 Aw w A 172 λw0=>
 Aw w0 #[ai,ai] 40 λw1=>
 Sw w1 w0 A λw2=>
 R (Value.agg A) w2) #[aE,au]):ae 95 #[.agg #[aE,au]] w R:=
 cq bG func95 h
def yr.vc{a0:Addr}(h:
 kW w (af (some a0) 2) λx0=>
 R (uD (x0==0)) w):ae 131 #[a0] w R:=
 cq bG func131 h
def Yz.vc(h:
 Br (a0>=0)
 (R (uD (decide (a0<=1099511627776))) w)
 (R false w)):ae 132 #[a0] w R:=
 cq bG func132 h
def YF.vc{a0:Sl}(h:(λA B=>
 ∃I0:Nat->Sl->Int->Int->Sl->World->Prop,
 (∃n1,I0 n1 a0 ((-1)) a1 ⟨none,0,0⟩ w)/\
 ∀(n1:Nat)(zF:Nat->Value)(s3:Sl)(x4 x5:Int)(s6:Sl)(w7:World),I0 n1 s3 x4 x5 s6 w7->
 Br (decide ((((s3.n:Nat):Int):Int)>0))
 (eL s3.a 0 s3.n/\∃(x9:Int),ld w7 (af s3.a ((0:Int).toNat*1))=some (.int .u8 x9)/\
 Aw w7 #[ai,ai] 252 λbo=>
 Sw bo w7 #[ai,(aw x9)] λbw=>
 ae 108 #[(aw x9)] bw (Rb λOi cC=>(λAa=>Kp w7 bw cC/\
 Br (!Oi)
 Aa
 (Br (((aw x9):Int)==x4)
 Aa
 ((0:Int)<=((s3.n:Nat):Int)/\((s3.n:Nat):Int)<=((s3.c:Nat):Int)/\(0:Int)<=((s3.n:Nat):Int)/\(((s3.n:Nat):Int):Int)<=((s3.n:Nat):Int)/\(0:Int)<=1/\(1:Int)<=((s3.n:Nat):Int)/\ae 184 #[.slice (aI s3.a ((1:Int).toNat) ((((s3.n:Nat):Int):Int).toNat) 1) ((((s3.n:Nat):Int):Int).toNat-(1:Int).toNat) ((((s3.n:Nat):Int):Int).toNat-(1:Int).toNat)] cC (λe bH=>(λAb=>∃(cW du dH:Int),e=Value.tuple #[cW,du,dH]/\Kp w7 cC bH/\
 Br (dH !=0)
 (R (dS #[.slice none 0 0,dH]) bH)
 (Br (cW==0)
 Ab
 (Br (cW>x5)
 Ab
 (Sw bH w7 #[cW,(aw x9)] λdI=>
 (0:Int)<=(aw (1+du))/\(aw (1+du))<=((s3.n:Nat):Int)/\Aw dI.drew #[cW,(aw x9)] 252 λfK=>
 ba 16 2 fK s6 1 [cW,(aw x9)]/\∀(xZ:Sl)(dU:World),aX 252 2 fK s6 1 [cW,(aw x9)] xZ dU->Kp w7 fK dU/\dU.heap[dI.drew.heap.size]? =fK.heap[dI.drew.heap.size]?/\
 Br (((aw (x5-cW)):Int)==0)
 (Br (decide (((aw (x5-cW)):Int)>0))
 (R B dU)
 (Br (decide (((((s3.n-((aw (1+du)):Int).toNat):Nat):Int):Int)>0))
 (R A dU)
 (R (dS #[xZ,ai]) dU)))
 (∃n8,n8<n1/\I0 n8 ⟨(aI s3.a (((aw (1+du)):Int).toNat) (s3.c) 1),(s3.n-((aw (1+du)):Int).toNat),(s3.c-((aw (1+du)):Int).toNat)⟩ ((aw x9)) ((aw (x5-cW))) xZ dU))))) (R A bH))))) (R A cC)))
 (Br (x5>0)
 (R B w7)
 (Br (decide ((((s3.n:Nat):Int):Int)>0))
 (R A w7)
 (R (dS #[s6,ai]) w7)))) (Value.tuple #[.slice none 0 0,(2:Int)]) (Value.tuple #[.slice none 0 0,(3:Int)])):ae 134 #[a0,a1] w R:=
 cq ⟨[(3,⟨[(0,.slice),(7,.int .i64),(1,.int .i64),(6,.slice)],[],[]⟩)],[],[]⟩ func134 h
def B4.vc{a0:Addr}(h:
 gZ w (af (some a0) 0) λp0=>
 R (Value.func (.func 83) #[p0] #[]) w):ae 27 #[a0] w R:=
 cq bG func27 h
def YI.vc{a1:Sl}(h:
 Aw w #[aE,au] 40 λw0=>
 ae 185 #[a1,(8192:Int)] w0 (Rb λb2 w1=>Kp w w0 w1/\
 Br (!b2)
 (R (dS #[.pointer none,(1:Int)]) w1)
 ((ae 186 #[a1] w1.drew (Rs λs4 w3=>Kp w w1.drew w3/\
 Aw w3 #[aE,au,s4] 175 λw5=>
 R (dS #[.pointer (aD w3),ai]) w5))/\(ae 186 #[a1] w1.drew (Rs λs7 w6=>Kp w w1.drew w6/\
 ah w6 w 0 [aE,au]/\Aw w6 #[aE,au,s7] 175 λw8=>
 R (dS #[.pointer (aD w6),ai]) w8))))):ae 135 #[.agg #[aE,au],a1] w R:=
 cq bG func135 h
def Yg.vc(h:(λA=>
 Aw w #[aH,aG] 40 λw0=>(λAa Ab=>
 Aw w0 #[.slice none 0 0] 32 λw1=>
 ae 187 #[a0,.agg #[aH,aG]] w1 (Rv λv3 w2=>Ab w1 w2 (
 ∃(xs4:List (LV))(Rd5 F6:Nat->Prop)(I7:Nat->(Nat->Prop)->Sl->World->Prop)(X8:Option Nat->(Nat->Prop)->Sl->World->Prop),
 (∀x ∈ xs4,∃(x9:Int),x=[.int .i64 x9])/\
 (∀(n10:Nat)(F11:Nat->Prop)(pj:Sl)(bP bH:World),I7 n10 F11 pj bP->Below w2 bP bH->(∀i,F11 i->bH.heap[i]? =bP.heap[i]?)->I7 n10 F11 pj bH)/\
 (∀(n15:Option Nat)(F16:Nat->Prop)(s17:Sl)(dI fK:World),X8 n15 F16 s17 dI->Below w2 dI fK->(∀i,F16 i->fK.heap[i]? =dI.heap[i]?)->X8 n15 F16 s17 fK)/\
 (∀(n20:Nat)(F21:Nat->Prop)(s22:Sl)(fQ:World),I7 n20 F21 s22 fQ->∀i,F21 i->i<fQ.heap.size/\i≠w2.heap.size/\i≠w2.heap.size+1)/\
 (∀(n24:Option Nat)(F25:Nat->Prop)(V4:Sl)(fy:World),X8 n24 F25 V4 fy->∀i,F25 i->i<fy.heap.size/\i≠w2.heap.size/\i≠w2.heap.size+1)/\
 (∀i,Rd5 i->i<w2.heap.size/\¬F6 i/\i≠w.heap.size/\i≠w0.heap.size/\True)/\
 (∀iY:World,PD w2 w2 iY->Iter Tryz.prog (v3) iY Rd5 xs4/\aN [aH,aG]/\I7 0 F6 ⟨none,0,0⟩ iY)/\
 (∀(n29:Nat)(F30:Nat->Prop)(ayi:Nat->Value)(BJ:Sl)(fD:Int)(lq:World),xs4[n29]? =some [.int .i64 fD]->I7 n29 F30 BJ lq->
 Below lq lq lq/\∀gT:World,Rec (w2.heap.size+1) lq gT->I7 n29 F30 BJ gT->
 Aw gT #[fD] 3 λkH=>
 ba 8 1 kH BJ 1 [fD]/\∀(s37:Sl)(oE:World),aX 3 1 kH BJ 1 [fD] s37 oE->K3 w w0 gT kH oE (
 Sw oE w0 #[s37] λkR=>
 ∃F40:Nat->Prop,(aN [aH,aG]/\I7 (n29+1) F40 s37 kR)/\Step (λi=>(F30 i\/i ∈ Aa)\/lq.heap.size<=i) (λi=>F40 i\/i ∈ Aa) gT kR))/\
 (∀(F41:Nat->Prop)(aGa:Nat->Value)(s43:Sl)(me:World),I7 xs4.length F41 s43 me->me.heap[w2.heap.size]? =some A->
 ae 189 #[s43] me (Rs λs46 zL=>Ab me zL (
 ae 188 #[s46] zL (Rs λs48 nA=>Ab zL nA (
 nA.heap[w2.heap.size]? =some A/\∀pG:World,Rec w2 nA pG->
 R s48 pG)))))/\
 True))) ([w.heap.size,w0.heap.size]:List Nat) (K2 w w0)) (.deferred (some []))):ae 136 #[a0,.agg #[aH,aG]] w R:=
 cq ⟨[],[],[(4,⟨[],[(1,[.slice])],[]⟩,[.sc (.int .i64)])]⟩ func136 h
def acF.vc(h:(λA=>
 Br (a1<1)
 (R (0:Int) w)
 (aT (Oe a1) (aT (Oe a1) (Br (decide (((Int.tmod a0 a1):Int)<0))
 (R ((aw (A-1))) w)
 (R (A) w))))) (aw (Int.tdiv a0 a1))):ae 192 #[a0,a1] w R:=
 cq bG func192 h
def AK.vc(h:(λA=>
 Aw w #[aE,au] 172 λw0=>
 Aw w0 A 41 λw1=>
 ae 255 #[.agg A] w1 (Rx0 λx3 b4 w2=>K2 w w0 w1 w2 (
 Br b4
 (ae 139 #[.agg A] w2.drew (Ra2 λx6 x7 w5=>K2 w w0 w2.drew w5 (
 ah w5 w 0 [aE,au]/\R (dS #[x3,.bool ((x6==aE) &&(x7==au))]) w5)))
 (R (dS #[x3,false]) w2.drew)))) #[aH,aG,aM]):ae 193 #[.agg #[aE,au],.agg #[aH,aG,aM]] w R:=
 cq bG func193 h
def ahi.vc{a0:Sl}(h:
 se (λI0 n1=>I0 n1 (0) a1 w) λI0 n1 zF x3 x4 w5=>
 Br (decide (x3<((a0.n:Nat):Int)))
 (eL a0.a x3 a0.n/\nR w5 (af a0.a ((x3:Int).toNat*2)) λx7 x8=>
 Aw w5 #[ai,ai] 252 λw9=>
 Sw w9 w5 #[x7,x8] λbo=>
 Br (x4>=0)
 (Br (x4<x7)
 (R x8 bo)
 (∃n6,n6<n1/\I0 n6 ((aw (x3+1))) ((aw (x4-x7))) bo))
 (∃n6,n6<n1/\I0 n6 ((aw (x3+1))) ((aw (x4-x7))) bo))
 (R (Value.int .i64 (-1)) w5)):ae 194 #[a0,a1] w R:=
 cq (Yc 2 9 1) func194 h
def YJ.vc(h:
 Br (a0>=8)
 (R (uD (decide (a0<16))) w)
 (R false w)):ae 202 #[a0] w R:=
 cq bG func202 h
def Cu.vc{a0:Addr}(h:
 kB w (af (some a0) 3) λs0=>
 oz (λI1 n2=>I1 n2 (0) ⟨none,0,0⟩ w) λI1 n2 us3 x4 s5 w6=>
 Br (decide (x4<((s0.n:Nat):Int)))
 (eL s0.a x4 s0.n/\gZ w6 (af s0.a ((x4:Int).toNat*1)) λp8=>
 aT (fq p8) (aT (fq p8) (gZ w6 (af p8 0) λp9=>
 aT (fq p9) (aT (fq p9) (nR w6 (af p9 0) λbE bK=>
 ae 95 #[.agg #[bE,bK]] w6 (Rx1 λcR cB cC=>Aw cC #[cR,cB] 40 λee=>
 ba 16 2 ee s5 1 [cR,cB]/\∀(s16:Sl)(cL:World),aX 40 2 ee s5 1 [cR,cB] s16 cL->Kp cC ee cL/\
 ∃n7,n7<n2/\I1 n7 ((aw (x4+1))) s16 cL))))))
 (R s5 w6)):ae 37 #[a0] w R:=
 cq (anS 3 11 3) func37 h
def O9.vc(h:
 Aw w #[aE,au] 40 λw0=>
 Aw w0 #[ai,ai,ai,ai,ai,ai,ai,ai,ai,ai] 227 λw1=>
 Wt w1 ⟨w0,0,none⟩ 10/\Nb w0 w/\(Pw w1 (aD w0) [aE,au,(aw (aE-1)),au,(aw (aE+1)),au,aE,(aw (au-1)),aE,(aw (au+1))] λw2=>
 ∃(x3 x4 x5 x6 x7 x8 x9 bE bK bW:Int),ah w2 (aD w0) 0 [x3,x4,x5,x6,x7,x8,x9,bE,bK,bW]/\
 R (qY #[x3,x4,x5,x6,x7,x8,x9,bE,bK,bW]) w2)):ae 150 #[.agg #[aE,au]] w R:=
 cq bG func150 h
def wP.vc{a0:Sl}(h:
 Aw w #[aH,aG] 40 λw0=>
 ae 213 #[a0,.agg #[aH,aG]] w0 (Ri λx2 w1=>Kp w w0 w1/\
 R (uD (decide (x2>=0))) w1)):ae 151 #[a0,.agg #[aH,aG]] w R:=
 cq bG func151 h
def PW.vc(h:
 ae 202 #[a0] w (EK λb1 w0=>Br (!b1)
 (R (Value.int .i64 (-1)) w0)
 (R ((aw (a0-8))) w0))):ae 280 #[a0] w R:=
 cq bG func280 h
def X7.vc(h:(λA=>
 aT (Oe a1) (Br (decide (((aw (A*a1)):Int)>a0))
 (R ((aw (A-1))) w)
 (R (A) w))) (aw (Int.tdiv a0 a1))):ae 86 #[a0,a1] w R:=
 cq bG func86 h
def YK.vc(h:(λA=>
 Br (a0>=0)
 (Br (a0<=15)
 (Br (a0 !=6)
 (R (uD (a0 !=7)) w)
 A)
 A)
 A) (R false w)):ae 111 #[a0] w R:=
 cq bG func111 h
def acG.vc(h:(λA=>
 Br (a1<1)
 (R (0:Int) w)
 (aT (Oe a1) (Br (decide ((A:Int)<0))
 (R ((aw (A+a1))) w)
 (R (Value.int .i64 A) w)))) (Int.tmod a0 a1)):ae 282 #[a0,a1] w R:=
 cq bG func282 h
def Uj.vc(h:(λA=>
 Br (a0<0)
 A
 (Br (a0>=16)
 A
 (ae 218 #[] w (λe w0=>∃(t1 t2 t3 t4 t5 t6 t7 t8 t9 t10 t11 t12 t13 t14 t15 t16:ByteArray),e=Value.agg #[.string t1,.string t2,.string t3,.string t4,.string t5,.string t6,.string t7,.string t8,.string t9,.string t10,.string t11,.string t12,.string t13,.string t14,.string t15,.string t16]/\
 ((0:Int)<=a0/\a0<((16:Nat):Int))/\∃(t17:ByteArray),([.string t1,.string t2,.string t3,.string t4,.string t5,.string t6,.string t7,.string t8,.string t9,.string t10,.string t11,.string t12,.string t13,.string t14,.string t15,.string t16]:LV)[(a0:Int).toNat*1]? =some (.string t17)/\
 R (Value.string t17) w0)))) (R (Value.string (ByteArray.mk #[])) w)):ae 158 #[a0] w R:=
 cq bG func158 h
def ac8.vc{a0:Sl}(h:
 Br (a1<0)
 (ae 186 #[a0] w (ua λs1 w0=>R s1 w0))
 (ae 253 #[a0] w (kX λx3 w2=>Br (a1>=x3)
 (ae 186 #[a0] w2 (ua λs5 w4=>R s5 w4))
 (ae 309 #[a0,a1,(aw (a1+1)),a2] w2 (ua λs7 w6=>R s7 w6))))):ae 295 #[a0,a1,a2] w R:=
 cq bG func295 h
def AL.vc{a0:Addr}(h:
 kB w (af (some a0) 2) λs0=>
 ae 190 #[s0] w (Rx7 λs2 x3 w1=>R s2 w1)):ae 137 #[a0] w R:=
 cq bG func137 h
def ac9.vc(h:(λA=>
 ∀w0,w0=w.alloc (.map #[] 0)->
 Aw w0 #[.int .i64 (if 1048576<A then 1048576 else A),ai,ai,.map (some w.heap.size),.slice none 0 0] 277 λw1=>
 R (Value.pointer (aD w0)) w1) (if 0>a0 then 0 else a0)):ae 212 #[a0] w R:=
 cq bG func212 h
def JC.vc{a0:Addr}(h:
 ae 228 #[a0] w (Rx8 λm1 w0=>∃(G2:Value->Prop)(kvs3:List (Value × Value)),jh Tryz.prog 3 G2/\bS G2 w0 m1 kvs3/\G2 a1/\∃(s4:Sl),∃b5:Bool,JD kvs3 a1 (.slice none 0 0) s4 b5/\
 ae 230 #[s4] w0 (ua λs7 w6=>R (dS #[s7,b5]) w6))):ae 182 #[a0,a1] w R:=
 cq bG func182 h
def Uk.vc{a0:Sl}(h:
 ae 246 #[a0] w (Rx7 λs1 x2 w0=>Br (x2 !=0)
 (R (dS #[ai,.slice none 0 0,x2]) w0)
 (Br (decide ((((s1.n:Nat):Int):Int)<7))
 (R (dS #[ai,.slice none 0 0,(3:Int)]) w0)
 ((0:Int)<=4/\4<=((s1.c:Nat):Int)/\(0:Int)<=7/\7<=((s1.c:Nat):Int)/\(0:Int)<=4/\(4:Int)<=7/\(0:Int)<=7/\7<=((s1.n:Nat):Int)/\ae 247 #[.slice (aI s1.a (0) (s1.c) 1) ((4:Int).toNat-0) (s1.c-0)] w0.drew (kX λx4 w3=>ae 247 #[.slice (aI s1.a ((4:Int).toNat) (s1.c) 1) ((7:Int).toNat-(4:Int).toNat) (s1.c-(4:Int).toNat)] w3 (kX λx6 w5=>(λAa=>Br (x4<1)
 Aa
 (Br (x4>1073741824)
 Aa
 (Br (x6>65536)
 Aa
 (Br (x6 !=(((s1.n-(7:Int).toNat):Nat):Int))
 Aa
 (R (dS #[x4,.slice (aI s1.a ((7:Int).toNat) (s1.c) 1) (s1.n-(7:Int).toNat) (s1.c-(7:Int).toNat),ai]) w5))))) (R (dS #[ai,.slice none 0 0,(2:Int)]) w5))))))):ae 183 #[a0] w R:=
 cq bG func183 h
def PX.vc{a0:Sl}(h:(λA B=>
 (0:Int)<=A/\A<=((a0.c:Nat):Int)/\se (λI0 n1=>I0 n1 (0) (0) w) λI0 n1 zF x3 x4 w5=>(λAa Ab Ac=>
 Br (decide (x3<((((A:Int).toNat-0):Nat):Int)))
 (eL B x3 ((A:Int).toNat-0)/\∃(x7:Int),ld w5 (af B ((x3:Int).toNat*1))=some (.int .u8 x7)/\
 aT (ngC (aw (7*x3))) (Br (x7>=128)
 (∃n6,n6<n1/\I0 n6 (Ac) ((S7 .i64 x4 (aw ((aw (ni .u8 x7 128))*2 ^ Aa)))) w5)
 (Br (x7==0)
 (Br (x3>0)
 Ab
 (Br (decide (((S7 .i64 x4 (aw ((aw (ni .u8 x7 128))*2 ^ Aa))):Int)>1048576))
 Ab
 (R (dS #[.int .i64 (S7 .i64 x4 (aw ((aw (ni .u8 x7 128))*2 ^ Aa))),Ac,ai]) w5)))
 (Br (decide (((S7 .i64 x4 (aw ((aw (ni .u8 x7 128))*2 ^ Aa))):Int)>1048576))
 Ab
 (R (dS #[.int .i64 (S7 .i64 x4 (aw ((aw (ni .u8 x7 128))*2 ^ Aa))),Ac,ai]) w5)))))
 (Br (decide ((((a0.n:Nat):Int):Int)<3))
 (R (dS #[ai,ai,(3:Int)]) w5)
 Ab)) (min ((aw (7*x3)):Int).toNat 64) (R (dS #[ai,ai,(2:Int)]) w5) (aw (x3+1))) (if 3<((a0.n:Nat):Int) then 3 else ((a0.n:Nat):Int)) (aI a0.a (0) (a0.c) 1)):ae 184 #[a0] w R:=
 cq (Yc 3 14 5) func184 h
def ada.vc{a0:Sl}(h:
 se (λI0 n1=>I0 n1 (0) a1 w) λI0 n1 zF x3 x4 w5=>(λAa Ab=>
 Br (decide (x3<((a0.n:Nat):Int)))
 (eL a0.a x3 a0.n/\nR w5 (af a0.a ((x3:Int).toNat*2)) λx7 x8=>
 Aw w5 #[ai,ai] 252 λw9=>
 Sw w9 w5 #[x7,x8] λbo=>
 Br (x7<1)
 (R false bo.drew)
 (Br (x7>x4)
 (R false bo.drew)
 (ae 108 #[x8] bo.drew (Rb λb12 bw=>Kp w5 bo.drew bw/\
 ah bw w5 0 [x7]/\ah bw w5 0 [x7]/\Br (!b12)
 (R false bw)
 (Br (x3>0)
 (eL a0.a (aw (x3-1)) a0.n/\aT (fq Aa) (∃(cR:Int),ld bw (af Aa 1)=some (.int .i64 cR)/\
 Br (cR==x8)
 (R false bw)
 (∃n6,n6<n1/\I0 n6 Ab ((aw (x4-x7))) bw)))
 (∃n6,n6<n1/\I0 n6 Ab ((aw (x4-x7))) bw))))))
 (Br (a1>0)
 (R (uD (x4==0)) w5)
 (R false w5))) (af a0.a (((aw (x3-1)):Int).toNat*2)) ((aw (x3+1)))):ae 185 #[a0,a1] w R:=
 cq (Yc 3 11 5) func185 h
def Cv.vc{a0:Sl}(h:
 Br (a0.a).isNone
 (R (Value.slice none 0 0) w)
 (Aw w #[] 252 λw0=>
 ∃l1:LV,Rd w0 a0.a l1/\ba 16 2 w0 ⟨(aD w),0,0⟩ a0.n l1/\∀(s2:Sl)(w3:World),aX 252 2 w0 ⟨(aD w),0,0⟩ a0.n l1 s2 w3->Kp w w0 w3/\
 R s2 w3)):ae 186 #[a0] w R:=
 cq bG func186 h
def YL.vc(h:
 Aw w #[a0] 3 λw0=>
 Aw w0 #[aH,aG] 40 λw1=>
 R (Value.func (.func 248) #[] #[.pointer (aD w0),w]) w1):ae 187 #[a0,.agg #[aH,aG]] w R:=
 cq bG func187 h
def ahj.vc{a0:Sl}(h:
 oz (λI0 n1=>I0 n1 (0) ⟨none,0,0⟩ w) λI0 n1 zF x3 s4 w5=>
 Br (decide (x3<((a0.n:Nat):Int)))
 (eL a0.a x3 a0.n/\kW w5 (af a0.a ((x3:Int).toNat*1)) λx7=>
 ae 252 #[s4,.agg #[(1:Int),x7]] w5 (ua λs9 w8=>∃n6,n6<n1/\I0 n6 ((aw (x3+1))) s9 w8))
 (R s4 w5)):ae 188 #[a0] w R:=
 cq (anS 3 8 3) func188 h
def EC.vc{a0:Sl}(h:(λA=>
 (0:Int)<=A/\A<=((a0.c:Nat):Int)/\(0:Int)<=A/\(A:Int)<=A/\R (Value.slice (aI a0.a (0) ((A:Int).toNat) 1) ((A:Int).toNat-0) ((A:Int).toNat-0)) w) ((a0.n:Nat):Int)):ae 189 #[a0] w R:=
 cq bG func189 h
def B5.vc{a0:Sl}(h:
 Aw w #[aH,aG] 40 λw0=>
 sN (λI1 n2=>aN [aH,aG]/\I1 n2 (0) w0) λI1 n2 us3 x4 w5=>
 Br (decide (x4<((a0.n:Nat):Int)))
 (eL a0.a x4 a0.n/\nR w5.drew (af a0.a ((x4:Int).toNat*2)) λx7 x8=>
 Br ((aH==x7) &&(aG==x8))
 (R x4 w5.drew)
 (∃n6,n6<n2/\aN [aH,aG]/\I1 n6 ((aw (x4+1))) w5.drew))
 (R (Value.int .i64 (-1)) w5)):ae 213 #[a0,.agg #[aH,aG]] w R:=
 cq (Of 2 8) func213 h
def MI.vc(h:
 Br (a0==0)
 (R true w)
 (ae 202 #[a0] w (EK λb1 w0=>R b1 w0))):ae 144 #[a0] w R:=
 cq bG func144 h
def PY.vc(h:(λA=>
 R ((aw (8+(if 7<A then 7 else A)))) w) (if 0>a0 then 0 else a0)):ae 302 #[a0] w R:=
 cq bG func302 h
def PZ.vc(h:(λA B=>
 Aw w #[.string A,.string A,.string A,.string A,.string A,.string A,.string A,.string A,.string A,.string A,.string A,.string A,.string A,.string A,.string A,.string A] 285 λw0=>
 Aw w0 #[.string A,.string A,.string A,.string A,.string A,.string A,.string A,.string A,.string A,.string A,.string A,.string A,.string A,.string A,.string A,.string A] 285 λw1=>
 Wt w1 ⟨w0,0,none⟩ 16/\(∀w2,w2=bF w1 (aD w0) [.string (ByteArray.mk #[97,105,114]),.string (ByteArray.mk #[115,116,111,110,101]),.string (ByteArray.mk #[100,105,114,116]),.string (ByteArray.mk #[115,97,110,100]),.string (ByteArray.mk #[108,97,100,100,101,114]),.string (ByteArray.mk #[103,108,97,115,115]),.string A,.string A,.string A,.string A,.string A,.string A,.string A,.string A,.string A,.string A]->
 sN (λI3 n4=>I3 n4 (0) w2) λI3 n4 us5 x6 w7=>(λAa Ab=>
 Br (x6<8)
 (ae 267 #[x6] w7 (λe w9=>∃(t10:ByteArray),e=Value.string t10/\
 (((B).size+(t10).size:Nat):Int)<=IntKind.i64.max/\(0:Int)<=Ab/\(Ab:Int)<((16:Nat):Int)/\(true=true/\Wr w9 Aa 1)/\(∀bw,bw=bF w9 Aa [.string (B++t10)]->
 ∃n8,n8<n4/\I3 n8 ((aw (x6+1))) bw)))
 (∃(t12 t13 t14 t15 t16 t17 t18 t19 t20 t21 t22 t23 t24 t25 t26 t27:ByteArray),ah w7 (aD w0) 0 [.string t12,.string t13,.string t14,.string t15,.string t16,.string t17,.string t18,.string t19,.string t20,.string t21,.string t22,.string t23,.string t24,.string t25,.string t26,.string t27]/\
 (Pt w7 ⟨w,0,none⟩ 16 [.string t12,.string t13,.string t14,.string t15,.string t16,.string t17,.string t18,.string t19,.string t20,.string t21,.string t22,.string t23,.string t24,.string t25,.string t26,.string t27] λiY=>
 ∃(t29 t30 t31 t32 t33 t34 t35 t36 t37 t38 t39 t40 t41 t42 t43 t44:ByteArray),ah iY w 0 [.string t29,.string t30,.string t31,.string t32,.string t33,.string t34,.string t35,.string t36,.string t37,.string t38,.string t39,.string t40,.string t41,.string t42,.string t43,.string t44]/\
 R (qY #[.string t29,.string t30,.string t31,.string t32,.string t33,.string t34,.string t35,.string t36,.string t37,.string t38,.string t39,.string t40,.string t41,.string t42,.string t43,.string t44]) iY))) (af (aD w0) (((aw (8+x6)):Int).toNat*1)) (aw (8+x6)))) (ByteArray.mk #[]) (ByteArray.mk #[119,97,116,101,114])):ae 218 #[] w R:=
 cq (Of 3 4) func218 h
def adb.vc{a0:Sl}(h:
 se (λI0 n1=>I0 n1 (0) (0) w) λI0 n1 zF x3 x4 w5=>
 Br (decide (x3<((a0.n:Nat):Int)))
 (eL a0.a x3 a0.n/\nR w5 (af a0.a ((x3:Int).toNat*2)) λx7 x8=>
 Aw w5 #[ai,ai] 252 λw9=>
 Sw w9 w5 #[x7,x8] λbo=>
 ∃n6,n6<n1/\I0 n6 ((aw (x3+1))) ((aw (x4+x7))) bo)
 (R x4 w5)):ae 253 #[a0] w R:=
 cq (Yc 3 8 3) func253 h
def YN.vc{a0:Sl}(h:(λA B=>
 ae 253 #[a0] w (kX λx1 w0=>(λAa Ab=>ae 108 #[a3] w0 (EK λb3 w2=>Br (!b3)
 (ae 186 #[a0] w2 (ua λs5 w4=>R s5 w4))
 (Br (decide ((Aa:Int)>=Ab))
 (ae 186 #[a0] w2 (ua λs7 w6=>R s7 w6))
 (ae 319 #[a0,ai,.int .i64 Aa] w2 (ua λs9 w8=>ae 320 #[(aw (Ab-Aa)),a3] w8 (ua λSS bo=>ae 319 #[a0,.int .i64 Ab,x1] bo (ua λpn cC=>Aw cC #[s9,SS,pn] 173 λbH=>
 ae 318 #[.slice (aD cC) 3 3] bH (ua λs16 ee=>R s16 ee)))))))) (if x1<A then x1 else A) (if x1<B then x1 else B))) (if 0>a1 then 0 else a1) (if 0>a2 then 0 else a2)):ae 309 #[a0,a1,a2,a3] w R:=
 cq bG func309 h
def Ul.vc{a0:Sl}(h:(λA B=>
 se (λI0 n1=>I0 n1 (0) (1048576) w) λI0 n1 zF x3 x4 w5=>
 Br (decide (x3<B))
 (eL a0.a x3 a0.n/\nR w5 (af a0.a ((x3:Int).toNat*2)) λx7 x8=>
 Aw w5 #[ai,ai] 252 λw9=>
 Sw w9 w5 #[x7,x8] λbo=>(λAa=>
 Br (x7<1)
 Aa
 (Br (decide (((aw (x4-x7)):Int)<0))
 Aa
 (∃n6,n6<n1/\I0 n6 ((aw (x3+1))) ((aw (x4-x7))) bo))) (R A bo))
 (ae 253 #[a0] w5 (kX λbW bw=>ae 185 #[a0,bW] bw (EK λb14 bP=>Br (!b14)
 (R A bP)
 (oz (λI15 Tk=>I15 Tk (0) ⟨none,0,0⟩ bP) λI15 Tk axg dc s19 fx=>
 Br (decide (dc<B))
 (eL a0.a dc a0.n/\nR fx (af a0.a ((dc:Int).toNat*2)) λfN fC=>
 Aw fx #[ai,ai] 252 λgC=>
 Sw gC fx #[fN,fC] λcZ=>
 Aw cZ.drew #[.int .u8 (jn fC)] 5 λgx=>
 ba 1 1 gx s19 1 [.int .u8 (jn fC)]/\∀(s27:Sl)(iY:World),aX 5 1 gx s19 1 [.int .u8 (jn fC)] s27 iY->iY.heap[fx.heap.size]? =gx.heap[fx.heap.size]?/\iY.heap[cZ.drew.heap.size]? =gx.heap[cZ.drew.heap.size]?/\
 ah iY fx 0 [fN]/\ah iY (fP fx 1) 0 [fC]/\ae 254 #[fN] iY (Rs λxY eG=>eG.heap[fx.heap.size]? =iY.heap[fx.heap.size]?/\eG.heap[cZ.drew.heap.size]? =iY.heap[cZ.drew.heap.size]?/\
 ah eG (fP fx 1) 0 [fC]/\∃l31:LV,Rd eG xY.a l31/\ba 1 1 eG s27 xY.n l31/\∀(BJ:Sl)(fL:World),aX 5 1 eG s27 xY.n l31 BJ fL->fL.heap[fx.heap.size]? =eG.heap[fx.heap.size]?/\fL.heap[cZ.drew.heap.size]? =eG.heap[cZ.drew.heap.size]?/\
 ah fL (fP fx 1) 0 [fC]/\∃n21,n21<Tk/\I15 n21 ((aw (dc+1))) BJ fL))
 (R (dS #[s19,ai]) fx)))))) (Value.tuple #[.slice none 0 0,(1:Int)]) ((a0.n:Nat):Int)):ae 190 #[a0] w R:=
 cq ⟨[(13,⟨[(35,.int .i64),(7,.slice)],[],[]⟩),(3,⟨[(12,.int .i64),(4,.int .i64)],[],[]⟩)],[],[]⟩ func190 h
def MJ.vc(h:
 Br (a0<0)
 (aT (Oe a1) (R (Value.int .i64 (Int.tmod (aw (0-(aw (a0+1)))) a1)) w))
 (aT (Oe a1) (R (Value.int .i64 (Int.tmod a0 a1)) w))):ae 10 #[a0,a1] w R:=
 cq bG func10 h
def JE.vc{a0:Addr}(h:
 Lxm w (af (some a0) 3) λm0=>
 ae 272 #[.map m0] w (Rx8 λm2 w1=>kB w1 (af (some a0) 4) λs3=>
 sN (λI4 n5=>I4 n5 (0) w1) λI4 n5 us6 x7 w8=>
 Br (decide (x7<((s3.n:Nat):Int)))
 (eL s3.a x7 s3.n/\∃(bE:Int)(SS:Sl),ah w8 (af s3.a ((x7:Int).toNat*2)) 0 [bE,SS]/\
 Aw w8 #[ai,.slice none 0 0] 279 λcC=>
 Sw cC w8 #[bE,SS] λbP=>
 ∃(G14:Value->Prop)(kvs15:List (Value × Value)),jh Tryz.prog 3 G14/\(m2:Option Nat).isSome=true/\bS G14 bP m2 kvs15/\G14 bE/\∀cD:World,Rec ((m2:Option Nat).getD 0) bP cD->bS G14 cD m2 (vo kvs15 bE SS)->
 ∃n9,n9<n5/\I4 n9 ((aw (x7+1))) cD)
 (R (Value.map m2) w8))):ae 228 #[a0] w R:=
 cq (Of 3 16) func228 h
def zY.vc{a0:Sl}(h:
 Br (a0.a).isNone
 (R (Value.slice none 0 0) w)
 (Aw w #[] 5 λw0=>
 ∃l1:LV,Rd w0 a0.a l1/\ba 1 1 w0 ⟨(aD w),0,0⟩ a0.n l1/\∀(s2:Sl)(w3:World),aX 5 1 w0 ⟨(aD w),0,0⟩ a0.n l1 s2 w3->Kp w w0 w3/\
 R s2 w3)):ae 230 #[a0] w R:=
 cq bG func230 h
def acA.vc{a0:Sl}(h:(λA=>
 Br (decide ((((a0.n:Nat):Int):Int)<2))
 (R (dS #[.slice none 0 0,(3:Int)]) w)
 (ae 281 #[a0] w (EK λb1 w0=>Br (!b1)
 (R (dS #[.slice none 0 0,(4:Int)]) w0)
 ((0:Int)<=A/\A<=((a0.c:Nat):Int)/\ae 230 #[.slice (aI a0.a (0) (a0.c) 1) ((A:Int).toNat-0) (a0.c-0)] w0 (ua λs3 w2=>R (dS #[s3,ai]) w2))))) (aw (((a0.n:Nat):Int)-2))):ae 246 #[a0] w R:=
 cq bG func246 h
def P2.vc{a0:Value}{c0:Addr}{c1:Addr}(h:(λA=>
 Aw w #[.int .i64 0,.int .i64 0,.int .i64 0,.int .i64 0,.int .i64 0,.int .i64 0,.int .i64 0,.int .i64 0,.int .i64 0,.int .i64 0,.int .i64 0,.int .i64 0,.int .i64 0,.int .i64 0,.int .i64 0,.int .i64 0,.int .i64 0,.int .i64 0,.int .i64 0,.int .i64 0,.int .i64 0,.int .i64 0,.int .i64 0,.int .i64 0,.int .i64 0,.int .i64 0,.int .i64 0,.int .i64 0,.int .i64 0,.int .i64 0,.int .i64 0,.int .i64 0,.int .i64 0,.int .i64 0,.int .i64 0,.int .i64 0,.int .i64 0,.int .i64 0,.int .i64 0,.int .i64 0,.int .i64 0,.int .i64 0,.int .i64 0,.int .i64 0,.int .i64 0,.int .i64 0,.int .i64 0,.int .i64 0,.int .i64 0,.int .i64 0,.int .i64 0,.int .i64 0,.int .i64 0,.int .i64 0,.int .i64 0,.int .i64 0,.int .i64 0,.int .i64 0,.int .i64 0,.int .i64 0,.int .i64 0,.int .i64 0,.int .i64 0,.int .i64 0,.int .i64 0,.int .i64 0,.int .i64 0,.int .i64 0,.int .i64 0,.int .i64 0,.int .i64 0,.int .i64 0,.int .i64 0,.int .i64 0,.int .i64 0,.int .i64 0,.int .i64 0,.int .i64 0,.int .i64 0,.int .i64 0,.int .i64 0,.int .i64 0,.int .i64 0,.int .i64 0,.int .i64 0,.int .i64 0,.int .i64 0,.int .i64 0,.int .i64 0,.int .i64 0,.int .i64 0,.int .i64 0,.int .i64 0,.int .i64 0,.int .i64 0,.int .i64 0,.int .i64 0,.int .i64 0,.int .i64 0,.int .i64 0,.int .i64 0,.int .i64 0,.int .i64 0,.int .i64 0,.int .i64 0,.int .i64 0,.int .i64 0,.int .i64 0,.int .i64 0,.int .i64 0,.int .i64 0,.int .i64 0,.int .i64 0,.int .i64 0,.int .i64 0,.int .i64 0,.int .i64 0,.int .i64 0,.int .i64 0,.int .i64 0,.int .i64 0,.int .i64 0,.int .i64 0,.int .i64 0,.int .i64 0,.int .i64 0,.int .i64 0,.int .i64 0,.int .i64 0,.int .i64 0,.int .i64 0,.int .i64 0,.int .i64 0,.int .i64 0,.int .i64 0,.int .i64 0,.int .i64 0,.int .i64 0,.int .i64 0,.int .i64 0,.int .i64 0,.int .i64 0,.int .i64 0,.int .i64 0,.int .i64 0,.int .i64 0,.int .i64 0,.int .i64 0,.int .i64 0,.int .i64 0,.int .i64 0,.int .i64 0,.int .i64 0,.int .i64 0,.int .i64 0,.int .i64 0,.int .i64 0,.int .i64 0,.int .i64 0,.int .i64 0,.int .i64 0,.int .i64 0,.int .i64 0,.int .i64 0,.int .i64 0,.int .i64 0,.int .i64 0,.int .i64 0,.int .i64 0,.int .i64 0,.int .i64 0,.int .i64 0,.int .i64 0,.int .i64 0,.int .i64 0,.int .i64 0,.int .i64 0,.int .i64 0,.int .i64 0,.int .i64 0,.int .i64 0,.int .i64 0,.int .i64 0,.int .i64 0,.int .i64 0,.int .i64 0,.int .i64 0,.int .i64 0,.int .i64 0,.int .i64 0,.int .i64 0,.int .i64 0,.int .i64 0,.int .i64 0,.int .i64 0,.int .i64 0,.int .i64 0,.int .i64 0,.int .i64 0,.int .i64 0,.int .i64 0,.int .i64 0,.int .i64 0,.int .i64 0,.int .i64 0,.int .i64 0,.int .i64 0,.int .i64 0,.int .i64 0,.int .i64 0,.int .i64 0,.int .i64 0,.int .i64 0,.int .i64 0,.int .i64 0,.int .i64 0,.int .i64 0,.int .i64 0,.int .i64 0,.int .i64 0,.int .i64 0,.int .i64 0,.int .i64 0,.int .i64 0,.int .i64 0,.int .i64 0,.int .i64 0,.int .i64 0,.int .i64 0,.int .i64 0,.int .i64 0,.int .i64 0,.int .i64 0,.int .i64 0,.int .i64 0,.int .i64 0,.int .i64 0,.int .i64 0,.int .i64 0,.int .i64 0,.int .i64 0,.int .i64 0,.int .i64 0,.int .i64 0,.int .i64 0,.int .i64 0,.int .i64 0,.int .i64 0,.int .i64 0,.int .i64 0,.int .i64 0,.int .i64 0,.int .i64 0,.int .i64 0,.int .i64 0,.int .i64 0] 311 λw0=>
 sN (λI1 n2=>I1 n2 (0) w0) λI1 n2 us3 x4 w5=>(λAa=>
 Br (x4<256)
 (nR w5 (some c0) λx7 x8=>
 ae 249 #[.agg #[x7,x8],x4] w5 (Rx9 λbE bK bW Oi w9=>Aw w9 #[ai,ai,ai] 41 λbH=>
 Sw bH w9 #[bE,bK,bW] λee=>
 kW ee (some c1) λdu=>
 ae 250 #[du,bE,bW] ee (Ri λdc cL=>Kp w9 ee cL/\
 (0:Int)<=x4/\x4<A/\(true=true/\Wr cL Aa 1)/\bk Aa≠some w9.heap.size/\(Pw cL Aa [dc] λfK=>
 ∃n6,n6<n2/\I1 n6 ((aw (x4+1))) fK))))
 (sN (λI20 n21=>I20 n21 (0) w5) λI20 n21 aGc fC gC=>(λAb=>
 Br (fC<8192)
 ((0:Int)<=Ab/\(Ab:Int)<A/\kW gC (af (aD w) ((Ab:Int).toNat*1)) λjN=>
 ae 251 #[(aw (Int.tdiv fC 256)),jN] gC (kX λnv fy=>bB Tryz.prog a0 [nv] fy (EK λb30 eG=>Br (!b30)
 (R ya eG)
 (∃n25,n25<n21/\I20 n25 ((aw (fC+1))) eG))))
 (R ya gC)) (Int.tmod fC 256))) (af (aD w) ((x4:Int).toNat*1))) ((256:Nat):Int)):ae 248 #[a0,c0,c1] w R:=
 cq ⟨[(8,⟨[(27,.int .i64)],[],[]⟩),(2,⟨[(9,.int .i64)],[],[]⟩)],[],[]⟩ func248 h
def X9.vc(h:(λA B=>
 Aw w #[aE,au] 40 λw0=>
 Aw w0 B 41 λw1=>
 Br (a1<0)
 (Sw w1 w0 B λw2=>
 R (dS #[.agg B,false]) w2)
 (Br (a1>=8192)
 (Sw w1 w0 B λw3=>
 R (dS #[.agg B,false]) w3)
 (Sw w1 w0 A λw4=>
 R (dS #[.agg A,true]) w4))) #[(aw ((aw (aE*16))+(Int.tmod a1 16))),(aw (Int.tdiv a1 256)),(aw ((aw (au*16))+(Int.tmod (aw (Int.tdiv a1 16)) 16)))] #[ai,ai,ai]):ae 249 #[.agg #[aE,au],a1] w R:=
 cq bG func249 h
def T3.vc(h:(λA=>
 Aw w #[a0] 3 λw0=>
 ae 192 #[a1,A] w0 (Ri λx2 w1=>Kp w w0 w1/\
 ae 192 #[a2,A] w1 (Ri λx4 w3=>Kp w w1 w3/\
 ae 282 #[a1,A] w3 (Ri λx6 w5=>Kp w w3 w5/\
 ae 282 #[a2,A] w5 (Ri λx8 w7=>Kp w w5 w7/\
 ae 283 #[x2,x4,(aw ((aw (8-x6))*(aw (8-x8)))),w] w7 (kX λbE w9=>ae 283 #[(aw (x2+1)),x4,(aw (x6*(aw (8-x8)))),w] w9 (kX λbW bw=>ae 283 #[x2,(aw (x4+1)),(aw ((aw (8-x6))*x8)),w] bw (kX λcB bP=>ae 283 #[(aw (x2+1)),(aw (x4+1)),(aw (x6*x8)),w] bP (kX λdu ee=>R ((aw (6+(aw (Int.tdiv (aw ((aw ((aw (bE+bW))+cB))+du)) 64))))) ee))))))))) (8:Int)):ae 250 #[a0,a1,a2] w R:=
 cq bG func250 h
def alb.vc(h:(λA B=>
 Br (a0<0)
 B
 (Br (a0>=32)
 B
 (Br (a0==0)
 (R (1:Int) w)
 (Br (decide (a0<(aw (a1-3))))
 (R (1:Int) w)
 (Br (decide (a0<(aw (a1-1))))
 (R (2:Int) w)
 (Br A
 (Br (a1>9)
 (R (2:Int) w)
 (Br A
 (R (3:Int) w)
 (Br (a0<9)
 (R (8:Int) w)
 B)))
 (Br A
 (R (3:Int) w)
 (Br (a0<9)
 (R (8:Int) w)
 B)))))))) (a0==(aw (a1-1))) (R (0:Int) w)):ae 251 #[a0,a1] w R:=
 cq bG func251 h
def YO.vc{a0:Sl}(h:(λA B C D=>
 Aw w D 252 λw0=>
 Br (aH<1)
 (R a0 w0)
 (Br (decide ((B:Int)>=0))
 (eL a0.a B a0.n/\aT (fq A) (∃(x1:Int),ld w0.drew (af A 1)=some (.int .i64 x1)/\
 Br (x1==aG)
 (eL a0.a B a0.n/\aT (fq A) (∃(x2:Int),ld w0.drew.drew (af A 0)=some (.int .i64 x2)/\
 eL a0.a B a0.n/\aT (fq A) ((((af A 0)).isSome=true/\Wr w0.drew.drew (af A 0) 1)/\bk (af A 0)≠some w.heap.size/\(∀w3,w3=bF w0.drew.drew (af A 0) [(aw (x2+aH))]->
 R a0 w3))))
 (Aw w0.drew D 252 λw4=>
 ba 16 2 w4 a0 1 C/\∀(s5:Sl)(w6:World),aX 252 2 w4 a0 1 C s5 w6->Kp w w4 w6/\w6.heap[w0.drew.heap.size]? =w4.heap[w0.drew.heap.size]?/\
 R s5 w6)))
 (Aw w0.drew D 252 λw7=>
 ba 16 2 w7 a0 1 C/\∀(s8:Sl)(w9:World),aX 252 2 w7 a0 1 C s8 w9->Kp w w7 w9/\w9.heap[w0.drew.heap.size]? =w7.heap[w0.drew.heap.size]?/\
 R s8 w9))) (af a0.a (((aw (((a0.n:Nat):Int)-1)):Int).toNat*2)) (aw (((a0.n:Nat):Int)-1)) [aH,aG] #[aH,aG]):ae 252 #[a0,.agg #[aH,aG]] w R:=
 cq bG func252 h
def MK.vc(h:
 ae 294 #[a0] w (λe w0=>∃(t1:ByteArray),e=Value.string t1/\
 R (Value.string t1) w0)):ae 267 #[a0] w R:=
 cq bG func267 h
def YP.vc{a0:Sl}(h:
 oz (λI0 n1=>I0 n1 (0) ⟨none,0,0⟩ w) λI0 n1 zF x3 s4 w5=>
 Br (decide (x3<((a0.n:Nat):Int)))
 (eL a0.a x3 a0.n/\kB w5 (af a0.a ((x3:Int).toNat*1)) λs7=>
 oz (λI8 n9=>I8 n9 (0) s4 w5) λI8 n9 abr bK pj bP=>
 Br (decide (bK<((s7.n:Nat):Int)))
 (eL s7.a bK s7.n/\nR bP (af s7.a ((bK:Int).toNat*2)) λcW du=>
 Aw bP #[ai,ai] 252 λcL=>
 Sw cL bP #[cW,du] λdI=>
 ae 252 #[pj,.agg #[cW,du]] dI (Rs λxZ fK=>Kp bP dI fK/\
 ∃Tm,Tm<n9/\I8 Tm ((aw (bK+1))) xZ fK))
 (∃n6,n6<n1/\I0 n6 ((aw (x3+1))) pj bP))
 (R s4 w5)):ae 318 #[a0] w R:=
 cq ⟨[(6,⟨[(16,.int .i64),(3,.slice)],[],[]⟩),(3,⟨[(10,.int .i64),(3,.slice)],[],[]⟩)],[],[]⟩ func318 h
def ade.vc{a0:Sl}(h:
 ∃I0:Nat->Int->Int->Sl->World->Prop,
 (∃n1,I0 n1 (0) (0) ⟨none,0,0⟩ w)/\
 ∀(n1:Nat)(zF:Nat->Value)(x3 x4:Int)(s5:Sl)(w6:World),I0 n1 x3 x4 s5 w6->
 Br (decide (x3<((a0.n:Nat):Int)))
 (eL a0.a x3 a0.n/\nR w6 (af a0.a ((x3:Int).toNat*2)) λx8 x9=>(λAa=>
 Aw w6 #[ai,ai] 252 λbo=>
 Sw bo w6 #[x8,x9] λbw=>
 Br (decide (((if Aa<a2 then Aa else a2):Int)>(if x4>a1 then x4 else a1)))
 (ae 252 #[s5,.agg #[(aw ((if Aa<a2 then Aa else a2)-(if x4>a1 then x4 else a1))),x9]] bw.drew (Rs λpn cC=>Kp w6 bw.drew cC/\
 ∃n7,n7<n1/\I0 n7 ((aw (x3+1))) (Aa) pn cC))
 (∃n7,n7<n1/\I0 n7 ((aw (x3+1))) (Aa) s5 bw.drew)) (aw (x4+x8)))
 (R s5 w6)):ae 319 #[a0,a1,a2] w R:=
 cq ⟨[(4,⟨[(15,.int .i64),(8,.int .i64),(7,.slice)],[],[]⟩)],[],[]⟩ func319 h
def YQ.vc(h:
 ae 252 #[.slice none 0 0,.agg #[a0,a1]] w (ua λs1 w0=>R s1 w0)):ae 320 #[a0,a1] w R:=
 cq bG func320 h
def P3.vc(h:(λA=>
 Br (a0<0)
 A
 (Br (a0>1048576)
 A
 (oz (λI0 n1=>I0 n1 a0 ⟨none,0,0⟩ w) λI0 n1 zF x3 s4 w5=>(λAa Ab=>
 Br (x3>=128)
 (Aw w5 #[.int .u8 Aa] 5 λw7=>
 ba 1 1 w7 s4 1 [.int .u8 Aa]/\∀(s8:Sl)(w9:World),aX 5 1 w7 s4 1 [.int .u8 Aa] s8 w9->Kp w5 w7 w9/\
 ∃n6,n6<n1/\I0 n6 (((x3:Int).fdiv (2 ^(min (7:Int).toNat 64)))) s8 w9)
 (Aw w5 #[.int .u8 (jn x3)] 5 λbo=>
 ba 1 1 bo s4 1 Ab/\∀(SS:Sl)(cC:World),aX 5 1 bo s4 1 Ab SS cC->Kp w5 bo cC/\
 R SS cC)) (S7 .u8 (jn x3) 128) [.int .u8 (jn x3)]))) (R (Value.slice none 0 0) w)):ae 254 #[a0] w R:=
 cq (anS 4 0 3) func254 h
def ER.vc{a0:Option Nat}(h:
 Br (a0).isNone
 (R (Value.map none) w)
 (adf Tryz.prog 298 [.iface 274 (.map a0)] w (ahl λv1 w0=>∃(m2:Option Nat),(v1:Value)=.iface 274 (.map m2)/\
 R (Value.map m2) w0))):ae 272 #[.map a0] w R:=
 cq bG func272 h
def Mz.vc{c0:Addr}(h:
 kW w (some c0) λx0=>
 ae 284 #[x0,a0,a1] w (λe w1=>∃(x2:Int),e=Value.int .u64 x2/\
 R ((aw ((aw (Int.tmod x2 9))*a2))) w1)):ae 283 #[a0,a1,a2,c0] w R:=
 cq bG func283 h
def acT.vc(h:(λA B=>
 R (Value.int .u64 (mf .u64 (fR ((mf .u64 A ((A:Int).fdiv B))*13787848793156543929)) (((fR ((mf .u64 A ((A:Int).fdiv B))*13787848793156543929)):Int).fdiv (2 ^(min (32:Int).toNat 64))))) w) (fR ((fR ((fR ((fR a0)*11400714819323198485))+(fR ((fR a1)*14029467366897019727))))+(fR ((fR a2)*1609587929392839161)))) (2 ^(min (29:Int).toNat 64))):ae 284 #[a0,a1,a2] w R:=
 cq bG func284 h
def uG.vc(h:
 ae 308 #[a0,(10:Int)] w (λe w0=>∃(t1:ByteArray),e=Value.string t1/\
 R (Value.string t1) w0)):ae 294 #[a0] w R:=
 cq bG func294 h
def tp.vc(h:(λA B C D=>
 Br (a0<10)
 ((0:Int)<=D/\D<=((B.size:Nat):Int)/\(0:Int)<=a0/\a0<=D/\R (Value.string (B.extract ((a0:Int).toNat) ((D:Int).toNat))) w)
 ((0:Int)<=(aw (C+2))/\(aw (C+2))<=((A.size:Nat):Int)/\(0:Int)<=C/\(C:Int)<=(aw (C+2))/\R (Value.string (A.extract ((C:Int).toNat) (((aw (C+2)):Int).toNat))) w)) ((ByteArray.mk #[48,48,48,49,48,50,48,51,48,52,48,53,48,54,48,55,48,56,48,57,49,48,49,49,49,50,49,51,49,52,49,53,49,54,49,55,49,56,49,57,50,48,50,49,50,50,50,51,50,52,50,53,50,54,50,55,50,56,50,57,51,48,51,49,51,50,51,51,51,52,51,53,51,54,51,55,51,56,51,57,52,48,52,49,52,50,52,51,52,52,52,53,52,54,52,55,52,56,52,57,53,48,53,49,53,50,53,51,53,52,53,53,53,54,53,55,53,56,53,57,54,48,54,49,54,50,54,51,54,52,54,53,54,54,54,55,54,56,54,57,55,48,55,49,55,50,55,51,55,52,55,53,55,54,55,55,55,56,55,57,56,48,56,49,56,50,56,51,56,52,56,53,56,54,56,55,56,56,56,57,57,48,57,49,57,50,57,51,57,52,57,53,57,54,57,55,57,56,57,57])) ((ByteArray.mk #[48,49,50,51,52,53,54,55,56,57,97,98,99,100,101,102,103,104,105,106,107,108,109,110,111,112,113,114,115,116,117,118,119,120,121,122])) (aw (a0*2)) (aw (a0+1))):ae 314 #[a0] w R:=
 cq bG func314 h
def Ev.vc{a0:Addr}(h:(λA B C=>
 Aw w B 41 λw0=>
 gZ w0.drew C λp1=>
 ae 83 #[p1,.agg B] w0.drew (Ri λx3 w2=>Kp w w0.drew w2/\
 gZ w2.drew C λp4=>
 ae 221 #[p4,.agg B,a2] w2.drew (Ri λx6 w5=>Kp w w2.drew w5/\
 Br (x6==0)
 (Br (x3 !=a2)
 (kB w5.drew A λs7=>
 Aw w5.drew #[aH,aG,aM,a2] 289 λw8=>
 ba 32 4 w8 s7 1 [aH,aG,aM,a2]/\∀(s9:Sl)(bo:World),aX 289 4 w8 s7 1 [aH,aG,aM,a2] s9 bo->Kp w w8 bo/\bo.heap[w5.drew.heap.size]? =w8.heap[w5.drew.heap.size]?/\
 (true=true/\Wr bo A 1)/\bk A≠some w.heap.size/\bk A≠some w5.drew.heap.size/\(Pw bo A [s9] λbw=>
 R x6 bw))
 (R x6 w5))
 (R x6 w5)))) (af (some a0) 1) #[aH,aG,aM] (af (some a0) 0)):ae 161 #[a0,.agg #[aH,aG,aM],a2] w R:=
 cq bG func161 h
def X0.vc(h:
 ae 96 #[a0,a1,a2] w (AG λp1 w0=>Aw w0 #[p1,.slice none 0 0] 133 λw2=>
 R (Value.pointer (aD w0)) w2)):ae 39 #[a0,a1,a2] w R:=
 cq bG func39 h
def zT.vc{a0:Addr}(h:
 gZ w (af (some a0) 0) λp0=>
 R p0 w):ae 19 #[a0] w R:=
 cq bG func19 h
def Cw.vc{a0:Addr}(h:(λA B=>
 Aw w B 40 λw0=>
 ae 72 #[.agg B] w0 (Rx0 λx2 b3 w1=>Kp w w0 w1/\
 Br (!b3)
 (R (5:Int) w1)
 (ae 73 #[a0,.agg B] w1 (Ri λx5 w4=>Kp w w1 w4/\
 Br (x5>=0)
 (ae 74 #[a0,x5] w4 (AG λp7 w6=>Kp w w4 w6/\
 R (0:Int) w6))
 (ae 75 #[a0] w4 (Ri λx9 w8=>Kp w w4 w8/\
 Br (x9 !=0)
 (R x9 w8)
 (gZ w8 (af (some a0) 0) λL4=>
 ae 76 #[L4,x2] w8 (λe bw=>∃(pj:Sl)(cR:Int)(b14:Bool),e=Value.tuple #[pj,cR,b14]/\Kp w w8 bw/\
 ae 77 #[.agg B,pj] bw (λe ee=>∃(p16:Option Addr)(dH:Int),e=Value.tuple #[p16,dH]/\Kp w bw ee/\
 Br (dH !=0)
 (kW ee.drew (af (some a0) 1) λdc=>
 ae 78 #[dc,.agg B] ee.drew (AG λp20 fK=>Kp w ee.drew fK/\
 kB fK A λs21=>
 Aw fK #[p20,false,ai] 150 λdm=>
 Aw dm #[.pointer (aD fK)] 137 λfQ=>
 ba 8 1 fQ s21 1 [.pointer (aD fK)]/\∀(zM:Sl)(cZ:World),aX 137 1 fQ s21 1 [.pointer (aD fK)] zM cZ->K2 w dm fQ cZ (
 (true=true/\Wr cZ A 1)/\bk A≠some w.heap.size/\bk A≠some dm.heap.size/\(Pw cZ A [zM] λgx=>
 R (0:Int) gx))))
 (kB ee A λs27=>
 Aw ee #[p16,false,ai] 150 λiY=>
 Aw iY #[.pointer (aD ee)] 137 λeG=>
 ba 8 1 eG s27 1 [.pointer (aD ee)]/\∀(xY:Sl)(gS:World),aX 137 1 eG s27 1 [.pointer (aD ee)] xY gS->K2 w iY eG gS (
 (true=true/\Wr gS A 1)/\bk A≠some w.heap.size/\bk A≠some iY.heap.size/\(Pw gS A [xY] λqT=>
 R (0:Int) qT)))))))))))) (af (some a0) 3) #[aH,aG]):ae 20 #[a0,.agg #[aH,aG]] w R:=
 cq bG func20 h
def Hg.vc{a0:Addr}(h:(λA B=>
 Aw w A 41 λw0=>
 ae 139 #[.agg A] w0 (Ra2 λx2 x3 w1=>Kp w w0 w1/\
 ae 73 #[a0,.agg #[x2,x3]] w1 (Ri λx5 w4=>Kp w w1 w4/\
 Br (x5<0)
 (R (Value.int .i64 (-1)) w4)
 (Br (aG<0)
 (R (1:Int) w4)
 (kB w4.drew B λs6=>(λAa=>
 eL s6.a x5 s6.n/\gZ w4.drew Aa λp7=>
 aT (fq p7) (aT (fq p7) (gZ w4.drew (af p7 0) λp8=>
 ae 140 #[p8,.agg A] w4.drew (Rx0 λbE b11 w9=>Kp w w4.drew w9/\
 ah w9 Aa 0 [.pointer p7]/\ah w9 B 0 [s6]/\R bE w9)))) (af s6.a ((x5:Int).toNat*1))))))) #[aH,aG,aM] (af (some a0) 3)):ae 83 #[a0,.agg #[aH,aG,aM]] w R:=
 cq bG func83 h
def Um.vc(h:
 ae 10 #[a0,(14:Int)] w (kX λx1 w0=>Br (x1>5)
 (R ((aw (x1+2))) w0)
 (R x1 w0))):ae 110 #[a0] w R:=
 cq bG func110 h
def ES.vc{a0:Addr}(h:(λA=>
 Aw w A 41 λw0=>
 ae 139 #[.agg A] w0 (Ra2 λx2 x3 w1=>Kp w w0 w1/\
 ae 73 #[a0,.agg #[x2,x3]] w1 (Ri λx5 w4=>Kp w w1 w4/\
 ae 255 #[.agg A] w4 (Rx0 λx7 b8 w6=>Kp w w4 w6/\
 Br (x5<0)
 (R (11:Int) w6)
 (Br (!b8)
 (R (5:Int) w6)
 (ae 108 #[a2] w6 (Rb λb10 w9=>Kp w w6 w9/\
 Br (!b10)
 (R (1:Int) w9)
 (ae 74 #[a0,x5] w9 (AG λDn bw=>(λAa Ab Ac=>Kp w w9 bw/\
 aT Ab (aT Ab (gZ bw.drew Ac λSU=>
 ae 140 #[SU,.agg A] bw.drew (Rx0 λcW b16 bH=>(λAd=>Kp w bw.drew bH/\
 aT Ab (aT Ab (DJ bH Aa λb17=>
 Br b17
 (aT Ab (aT Ab (Ad/\bk Aa≠some w.heap.size/\(Pw bH Aa [.bool true] λdI=>
 aT Ab (aT Ab (gZ dI.drew Ac λp19=>
 ae 268 #[p19,.agg A,a2] dI.drew (Ri λeO fx=>Kp w dI.drew fx/\
 R eO fx)))))))
 (aT Ab (aT Ab (Ad/\bk Aa≠some w.heap.size/\(Pw bH Aa [.bool (cW !=a2)] λdm=>
 aT Ab (aT Ab (gZ dm.drew Ac λV5=>
 ae 268 #[V5,.agg A,a2] dm.drew (Ri λeZ gC=>Kp w dm.drew gC/\
 R eZ gC)))))))))) ((Aa).isSome=true/\Wr bH Aa 1))))) (af Dn 1) (fq Dn) (af Dn 0)))))))))) #[aH,aG,aM]):ae 221 #[a0,.agg #[aH,aG,aM],a2] w R:=
 cq bG func221 h
def yt.vc{a0:Addr}(h:(λA=>
 Aw w #[aH,aG] 40 λw0=>
 ae 73 #[a0,.agg #[aH,aG]] w0 (Ri λx2 w1=>Kp w w0 w1/\
 Br (x2<0)
 (R (6:Int) w1)
 (kB w1 A λs3=>
 eL s3.a x2 s3.n/\gZ w1 (af s3.a ((x2:Int).toNat*1)) λp4=>
 aT (fq p4) (aT (fq p4) (kW w1 (af p4 2) λx5=>
 Br (x5>0)
 (R (10:Int) w1)
 (kB w1 A λs6=>
 eL s6.a x2 s6.n/\gZ w1 (af s6.a ((x2:Int).toNat*1)) λp7=>
 ae 79 #[a0,p7] w1 (Ri λx9 w8=>Kp w w1 w8/\
 Br (x9==0)
 (ae 80 #[a0,x2] w8 (AG λTo bo=>Kp w w8 bo/\
 R x9 bo))
 (R x9 w8)))))))) (af (some a0) 3)):ae 21 #[a0,.agg #[aH,aG]] w R:=
 cq bG func21 h
def YR.vc(h:(λA=>
 ae 149 #[a2] w (AG λp1 w0=>Aw w0 #[p1,a0,.int .i64 (if 16<A then 16 else A),.slice none 0 0] 143 λw2=>
 R (Value.pointer (aD w0)) w2)) (if 1>a1 then 1 else a1)):ae 96 #[a0,a1,a2] w R:=
 cq bG func96 h
def adg.vc(h:
 Aw w #[aE,au] 40 λw0=>(λAa=>
 Br (aE<(-524288))
 Aa
 (Br (aE>=524288)
 Aa
 (Br (au<(-524288))
 Aa
 (Br (au>=524288)
 Aa
 (R (dS #[(aw ((aw ((aw ((aw ((aw ((aw (aE+524288))*2))*524288))+au))+524288))+1)),true]) w0))))) (R (dS #[ai,false]) w0)):ae 72 #[.agg #[aE,au]] w R:=
 cq bG func72 h
def Cy.vc{a0:Addr}(h:
 Aw w #[aH,aG] 40 λw0=>
 kB w0 (af (some a0) 3) λs1=>
 ae 129 #[s1,.func (.func 130) #[] #[w]] w0 (kX λx3 w2=>R x3 w2)):ae 73 #[a0,.agg #[aH,aG]] w R:=
 cq bG func73 h
def AM.vc{a0:Addr}(h:(λA=>
 ae 80 #[a0,a1] w (AG λp1 w0=>kB w0 A λs2=>
 Aw w0 #[p1] 137 λw3=>
 ba 8 1 w3 s2 1 [.pointer p1]/\∀(s4:Sl)(w5:World),aX 137 1 w3 s2 1 [.pointer p1] s4 w5->Kp w0 w3 w5/\
 (true=true/\Wr w5 A 1)/\bk A≠some w0.heap.size/\(Pw w5 A [s4] λw6=>
 R p1 w6))) (af (some a0) 3)):ae 74 #[a0,a1] w R:=
 cq bG func74 h
def Cz.vc{a0:Addr}(h:(λA=>
 kB w.drew A λs0=>
 kW w.drew (af (some a0) 2) λx1=>
 Br (decide ((((s0.n:Nat):Int):Int)<x1))
 (R (0:Int) w.drew)
 (kB w.drew A λs2=>
 ae 129 #[s2,.func (.func 131) #[] #[]] w.drew (kX λx4 w3=>Br (x4<0)
 (R (8:Int) w3)
 (kB w3 A λs5=>
 eL s5.a x4 s5.n/\gZ w3 (af s5.a ((x4:Int).toNat*1)) λp6=>
 ae 79 #[a0,p6] w3 (kX λx8 w7=>Br (x8==0)
 (ae 80 #[a0,x4] w7 (AG λL4 w9=>R x8 w9))
 (R x8 w7)))))) (af (some a0) 3)):ae 75 #[a0] w R:=
 cq bG func75 h
def CA.vc{a0:Addr}(h:
 ae 132 #[a1] w (EK λb1 w0=>Br (!b1)
 (R (dS #[.slice none 0 0,ai,false]) w0)
 (ae 133 #[a0,a1] w0 (λe w2=>∃(x3 x4:Int)(s5:Sl),e=Value.agg #[x3,x4,s5]/\
 Aw w2 #[ai,ai,.slice none 0 0] 202 λw6=>
 Sw w6 w2 #[x3,x4,s5] λw7=>
 R (dS #[s5,x4,.bool (decide (x4>0))]) w7.drew)))):ae 76 #[a0,a1] w R:=
 cq bG func76 h
def Un.vc{a1:Sl}(h:
 Aw w #[aE,au] 40 λw0=>
 ae 134 #[a1,(8192:Int)] w0 (Rx7 λs2 x3 w1=>Kp w w0 w1/\
 Br (x3 !=0)
 (R (dS #[.pointer none,x3]) w1)
 (ae 135 #[.agg #[aE,au],s2] w1 (λe w4=>∃(p5:Option Addr)(x6:Int),e=Value.tuple #[p5,x6]/\Kp w w1 w4/\
 R (dS #[p5,x6]) w4)))):ae 77 #[.agg #[aE,au],a1] w R:=
 cq bG func77 h
def Uo.vc(h:(λA=>
 Aw w #[aH,aG] 40 λw0=>
 (ae 136 A w0.drew (Rs λs2 w1=>Kp w w0.drew w1/\
 Aw w1 #[aH,aG,s2] 175 λw3=>
 R (Value.pointer (aD w1)) w3))/\(ae 136 A w0.drew (Rs λs5 w4=>Kp w w0.drew w4/\
 ah w4 w 0 [aH,aG]/\Aw w4 #[aH,aG,s5] 175 λw6=>
 R (Value.pointer (aD w4)) w6))) #[a0,.agg #[aH,aG]]):ae 78 #[a0,.agg #[aH,aG]] w R:=
 cq bG func78 h
def TH.vc(h:
 Aw w #[aE,au,aB] 41 λw0=>
 Aw w0 #[ai,ai] 40 λw1=>
 ae 192 #[aE,(16:Int)] w1.drew (Ri λx3 w2=>K2 w w0 w1.drew w2 (
 ah w2 (fP w 2) 0 [aB]/\ae 192 #[aB,(16:Int)] w2 (Ri λx5 w4=>K2 w w0 w2 w4 (
 Sw w4 w0 #[x3,x5] λw6=>
 R (qY #[x3,x5]) w6))))):ae 139 #[.agg #[aE,au,aB]] w R:=
 cq bG func139 h
def Hh.vc{a0:Addr}(h:
 Aw w #[aH,aG,aM] 41 λw0=>
 nR w0.drew (af (some a0) 0) λx1 x2=>
 ae 193 #[.agg #[x1,x2],.agg #[aH,aG,aM]] w0.drew (Rx0 λx4 b5 w3=>Kp w w0.drew w3/\
 Br (!b5)
 (R (dS #[ai,false]) w3)
 (kB w3 (af (some a0) 2) λs6=>
 ae 194 #[s6,x4] w3 (Ri λx8 w7=>Kp w w3 w7/\
 R (dS #[x8,true]) w7)))):ae 140 #[a0,.agg #[aH,aG,aM]] w R:=
 cq bG func140 h
def zU.vc{a0:Addr}(h:
 Aw w #[aH,aG,aM] 41 λw0=>
 gZ w0 (af (some a0) 0) λp1=>
 ae 37 #[p1] w0 (Rs λs3 w2=>Kp w w0 w2/\
 ae 139 #[.agg #[aH,aG,aM]] w2 (Ra2 λx5 x6 w4=>Kp w w2 w4/\
 ae 150 #[.agg #[x5,x6]] w4 (λe w7=>∃(x8 x9 bE bK bW cR cB cW du dH:Int),e=Value.agg #[x8,x9,bE,bK,bW,cR,cB,cW,du,dH]/\Kp w w4 w7/\
 sN (λI18 n19=>aN [aH,aG,aM]/\I18 n19 (0) w7) λI18 n19 arM eO dm=>
 Br (eO<5)
 (((0:Int)<=eO/\eO<((5:Nat):Int))/\∃(gW eZ:Int),(([x8,x9,bE,bK,bW,cR,cB,cW,du,dH]:LV).drop ((eO:Int).toNat*2)).take 2=[.int .i64 gW,.int .i64 eZ]/\
 Aw dm #[ai,ai] 40 λgx=>
 Sw gx dm #[gW,eZ] λfy=>
 ae 151 #[s3,.agg #[gW,eZ]] fy (Rb λb29 iY=>K2 w dm fy iY (
 Br (!b29)
 (R false iY)
 (∃n23,n23<n19/\aN [aH,aG,aM]/\I18 n23 ((aw (eO+1))) iY))))
 (R true dm))))):ae 100 #[a0,.agg #[aH,aG,aM]] w R:=
 cq (Of 3 16) func100 h
def P4.vc(h:
 R (uD (a0==3)) w):ae 243 #[a0] w R:=
 cq bG func243 h
def P5.vc(h:(λA B=>
 Br (a0==(-1))
 (Br (a0==(-1))
 B
 A)
 (Br (a0==1)
 (Br (a0==1)
 B
 A)
 (Br (a0==2)
 (Br (a0==2)
 B
 A)
 (Br (a0==3)
 (Br (a0==3)
 B
 A)
 (Br (a0==5)
 B
 A))))) (R false w) (R true w)):ae 103 #[a0] w R:=
 cq bG func103 h
def YS.vc(h:
 Aw w #[aE,au] 40 λw0=>
 Aw w0 #[ai,ai] 40 λw1=>
 ae 10 #[aE,(5:Int)] w1.drew (Ri λx3 w2=>K2 w w0 w1.drew w2 (
 ah w2 (fP w 1) 0 [au]/\ae 10 #[au,(5:Int)] w2 (Ri λx5 w4=>(λAa=>K2 w w0 w2 w4 (
 Sw w4 w0 Aa λw6=>
 R (Value.agg Aa) w6)) #[(aw (x3-2)),(aw (x5-2))])))):ae 51 #[.agg #[aE,au]] w R:=
 cq bG func51 h
def P6.vc(h:(λA=>
 Br (a0==(-1))
 A
 (Br (a0==1)
 A
 (Br (a0==2)
 A
 (Br (a0==3)
 A
 (R (uD (a0==5)) w))))) (R true w)):ae 114 #[a0] w R:=
 cq bG func114 h
def Up.vc{a0:Sl}{a1:Sl}(h:(λA=>
 ∃l0:List Int,l0.length=a0.n/\ah w a0.a 0 (l0.map A)/\
 ∃l1:List Int,l1.length=a1.n/\ah w a1.a 0 (l1.map A)/\
 R (uD (tR (strOfNums l0) (strOfNums l1))) w) (Value.int .u8)):ae 25 #[a0,a1] w R:=
 cq bG func25 h
end Go.Proofs.YtkkkfkopcfdmaaaGreatDoor
