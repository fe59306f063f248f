import Derived.Test.YtjcnjlaelhdjeaaGreatDoorC
import Derived.Lib.Overlaps
import Derived.Lib.FieldsP
import Derived.Lib.Split
import Derived.Deep.SlicePairs
import Derived.ProofKit
set_option linter.all false
namespace Go.Vc
open Go Go.RowKit
set_option maxRecDepth 100000
set_option maxHeartbeats 8000000
abbrev eWp:=Ending->World->Prop
abbrev wPp:=World->Prop
abbrev Ext(w w':World):Prop:=Below w w w'
def Ext.bU(w:World):Ext w w:=Below.refl _ _
def Ext.tr{a b c:World}(h:Ext a b)(k:Ext b c):Ext a c:=Below.trans h (Below.mono k h.size)
def Ext.al(w:World)(o:Obj):Ext w (w.alloc o):=(Below.refl _ w).alloc (ak _) o
def Ext.dr(w:World):Ext w w.drew:=(Below.refl _ w).drew
def Ext.ba{a b c:World}{o:Obj}(h:Ext a b)(e:c=b.alloc o):Ext a c:=by subst e;exact h.tr (Ext.al _ _)
def aV{b c:World}{o:Obj}(e:c=b.alloc o):Ext b c:=(Ext.bU _).ba e
def Ext.drew{a b:World}(h:Ext a b):Ext a b.drew:=h.tr (Ext.dr _)
def setRow_other(w:World)(g j:Nat)(cs:Array Value)(h:j≠g):(w.setRow g cs).heap[j]? =w.heap[j]? :=by simp only [World.setRow,Array.getElem?_modify,if_neg (Ne.symm h)]
def setRow_size(w:World)(g:Nat)(cs:Array Value):(w.setRow g cs).heap.size=w.heap.size:=by simp [World.setRow]
def Ext.setRow{a b:World}(h:Ext a b){g:Nat}(hg:a.heap.size<=g)(cs:Array Value):Ext a (b.setRow g cs):=
 ⟨h.os,h.tape,h.output,by rw [setRow_size];exact h.size,λk hk=>by rw [setRow_other _ _ _ _ aa];exact h.block k hk⟩
def Ext.af{a b c:World}{g:Nat}{cs:Array Value}(h:Ext a b)(e:c=b.setRow g cs)(hg:a.heap.size<=g):Ext a c:=by subst e;exact h.setRow hg cs
def Xx{w:World}{a:Addr}{v:Value}(h:w.cell? a=some v):a.block<w:=by
 unfold World.cell? at h;split at h
 ·rename_i hb;exact (oV.1 hb).1
 ·cases h
def Ext.ld{w w':World}(h:Ext w w'){p:Option Addr}{v:Value}(hl:ld w p=some v):ld w' p=some v:=by
 cases p with
 |none=>simp [Vc.ld] at hl
 |some a=>
  have hl':w.cell? a=some v:=hl;show w'.cell? a=some v;rw [Below.cell h (Xx hl')];exact hl'
def Ext.heap{w w':World}(h:Ext w w'){i:Nat}(hi:i<w):w'.heap[i]? =w.heap[i]? :=h.block i hi
def Ext.k{w w':World}(h:Ext w w'){i:Nat}(hi:i<w.heap.size:=by omega):w'.heap[i]? =w.heap[i]? :=h.block i hi
def gx(p:Option Addr)(m n:Nat):ab (ab p m) n=ab p (m+n):=by
 cases p with
 |none=>rfl
 |some a=>
  simp only [ab,mV,Option.some.injEq,Addr.add];by_cases hm:m=0
  ·subst hm;simp
  ·by_cases hn:n=0
   ·subst hn;simp [hm]
   ·simp [hm,hn,Nat.add_assoc]
@[simp] def De(p:Option Addr)(n:Nat):(ab p n).isSome=p.isSome:=by cases p<;>rfl
def cB(p:Option Addr)(n:Nat):bN (ab p n)=bN p:=by
 cases p with
 |none=>rfl
 |some a=>simp only [ab,bN,mV,Addr.add];split<;>rfl
def Row(w:World)(g:Nat)(cs:LV)(t:TypeId):Prop:=w.heap[g]? =some (.cells cs.toArray t (0,0))
def Row.new(w:World)(cs:LV)(t:TypeId):Row (w.alloc (.cells cs.toArray t)) w.heap.size cs t:=by show (w.heap.push _)[w.heap.size]? =_;simp
def Row.lt{w:World}{g:Nat}{cs:LV}{t:TypeId}(h:Row w g cs t):g<w:=(oV.1 h).1
def Row.ext{w w':World}{g:Nat}{cs:LV}{t:TypeId}(h:Row w g cs t)(he:Ext w w'):Row w' g cs t:=(he.heap h.lt).trans h
def Row.same{w w':World}{g:Nat}{cs:LV}{t:TypeId}(h:Row w g cs t)(he:w'.heap[g]? =w.heap[g]?):Row w' g cs t:=he.trans h
def Row.set{w:World}{g:Nat}{cs:LV}{t:TypeId}(h:Row w g cs t)(cs':LV):Row (w.setRow g cs'.toArray) g cs' t:=setRow_heap _ _ _ _ _ _ h
def Row.so{w w':World}{g j:Nat}{cs:List Value}{t:TypeId}{c:Array Value}(h:Row w g cs t)(e:w'=w.setRow j c)(hn:g≠j:=by omega):Row w' g cs t:=h.same (by rw [e];exact setRow_other _ _ _ _ hn)
def Row.nw{w w':World}{l:List Value}{t:TypeId}(e:w'=w.alloc (.cells l.toArray t)):Row w' w.heap.size l t:=by rw [e];exact Row.new _ _ _
def Row.st{w w':World}{g:Nat}{l cs:List Value}{t:TypeId}(h:Row w g cs t)(e:w'=w.setRow g l.toArray):Row w' g l t:=by rw [e];exact h.set _
def Row.ld{w:World}{g:Nat}{cs:LV}{t:TypeId}(h:Row w g cs t)(j:Nat):ld w (some ⟨g,j,none⟩)=cs[j]? :=by simp [Vc.ld,World.cell?,show w.heap[g]? =_ from h]
def aF(g o j:Nat):ab (some ⟨g,o,none⟩) j=some ⟨g,o+j,none⟩:=by simp [ab,oy]
def Row.wr{w:World}{g:Nat}{cs:LV}{t:TypeId}(h:Row w g cs t){o n:Nat}(hn:o+n<=cs.length):Wr w (some ⟨g,o,none⟩) n:=by
 intro i hi;refine ⟨_,rfl,?_,?_⟩
 ·rw [oy];simp [World.cell?,show w.heap[g]? =_ from h];omega
 ·rw [oy];exact oP h _
def Row.bK{w:World}{g:Nat}{cs:LV}{t:TypeId}(h:Row w g cs t){o:Nat}{vs:LV}(hv:∀j,j<vs.length->cs[o+j]? =vs[j]?):ah w (some ⟨g,o,none⟩) 0 vs:=
 vg λj hj=>by rw [aF,h.ld];simpa using hv j hj
def Row.bC{w:World}{g:Nat}{cs:LV}{t:TypeId}(h:Row w g cs t){o:Nat}{vs:LV}(hl:o+vs.length<=cs.length)(h1:One vs):
  bC w (some ⟨g,o,none⟩) vs=w.setRow g (putCells cs o vs).toArray:=by
 have e1:=gV (P:=default) ⟨g,o,none⟩ vs 0 w h1 (λj hj=>by
  obtain ⟨a,e,q⟩:=h.wr hl j hj
  cases e;simpa using q)
 have e2:=run_storeCells_at default g o t vs 0 cs.toArray w h (by simpa using hl) h1;rw [e1] at e2;injection e2 with _ e3;show qP w _ 0 vs=_;rw [e3,ed _ _ _ hl];simp
inductive Own(B E size:Nat)(w:World):Sl->LV->Prop
 |nil:Own B E size w ⟨none,0,0⟩ []
 |row (g n c:Nat) (cs:LV) (hg:B<=g) (hr:Row w g cs E) (hc:c*size<=cs.length) (hn:n<=c):Own B E size w ⟨some ⟨g,0,none⟩,n,c⟩ (cs.take (n*size))
def Sl.aX(s:Sl):Option Nat:=s.a.map (·.block)
def Own.len{B E size:Nat}{w:World}{s:Sl}{xs:LV}(h:Own B E size w s xs):xs.length=s.n*size:=by
 cases h with
 |nil=>simp
 |row g n c cs hg hr hc hn=>
  have:n*size<=c*size:=qW _ hn;rw [cK];show min (n*size) _=n*size;omega
def Own.rd{B E size:Nat}{w:World}{s:Sl}{xs:LV}(h:Own B E size w s xs):Rd w s.a xs:=by
 cases h with
 |nil=>intro i v hi;simp at hi
 |row g n c cs hg hr hc hn=>
  intro i v hi;rw [aF,hr.ld];rw [qS] at hi;split at hi
  ·simpa using hi
  ·cases hi
def Own.aW{B E size:Nat}{w w':World}{s:Sl}{xs:LV}(h:Own B E size w s xs)(hk:∀g,s.aX=some g->w'.heap[g]? =w.heap[g]?):Own B E size w' s xs:=by
 cases h with
 |nil=>exact .nil
 |row g n c cs hg hr hc hn=>exact .row g n c cs hg (hr.same (hk g rfl)) hc hn
def Own.ext{B E size:Nat}{w w':World}{s:Sl}{xs:LV}(h:Own B E size w s xs)(he:Ext w w'):Own B E size w' s xs:=by
 cases h with
 |nil=>exact .nil
 |row g n c cs hg hr hc hn=>exact .row g n c cs hg (hr.ext he) hc hn
def Own.lt{B E size:Nat}{w:World}{s:Sl}{xs:LV}(h:Own B E size w s xs){g:Nat}(hg:s.aX=some g):B<=g/\g<w:=by
 cases h with
 |nil=>cases hg
 |row g' n c cs hg' hr hc hn=>cases hg;exact ⟨hg',hr.lt⟩
def Own.append{B E size bytes:Nat}{w:World}{s:Sl}{xs:LV}(h:Own B E size w s xs){m:Nat}{news:LV}(hB:B<=w)(hl:news.length=m*size)(h1:One news)
  (hb:(s.n+m)*bytes<=140737488355328)(hb':s.n+m<=9223372036854775807):
  aY bytes size w s m news/\∀(s':Sl)(w':World),aT E size w s m news s' w'->
   Own B E size w' s' (xs++news)/\s'.n=s.n+m/\Below B w w'/\(∀j,s.aX≠some j->j<w.heap.size->w'.heap[j]? =w.heap[j]?)/\(s'.aX=s.aX\/s'.aX=some w.heap.size):=by
 refine ⟨⟨λhf=> ?_,λhg=>⟨xs,h.len,h.rd⟩,λhg=>⟨growslice_fits hg hb,aa⟩,hl,h1⟩,?_⟩
 ·cases h with
  |nil=>
   have:m=0:=by simp at hf;omega
   subst this;intro i hi;omega
  |row g n c cs hg hr hc hn=>
   rw [aF];refine hr.wr ?_;have:(n+m)*size<=c*size:=qW _ hf;rw [pZ] at this;simp;omega
 ·intro s' w' bq
  cases bq with
  |fits hf=>
   cases h with
   |nil=>
    have:m=0:=by simp at hf;omega
    subst this;have:news=[]:=tj.1 aa;subst this;exact ⟨.nil,rfl,Below.refl _ _,λ_ _ _=>rfl,.inl rfl⟩
   |row g n c cs hg hr hc hn=>
    have hle:n*size+news.length<=cs.length:=by have:(n+m)*size<=c*size:=qW _ hf;rw [pZ] at this;omega
    rw [aF,eK,hr.bC hle h1];have hr':=hr.set (putCells cs (n*size) news);have e:cs.take (n*size)++news=(putCells cs (n*size) news).take ((n+m)*size):=by
     have e0:(n+m)*size=n*size+news.length:=by rw [pZ,hl]
     rw [ed _ _ _ hle,e0];exact ((AM smo).trans (dI smo)).symm
    refine ⟨?_,rfl,⟨rfl,rfl,rfl,by rw [setRow_size];exact ak _,λk hk=>setRow_other _ _ _ _ aa⟩,λj hj _=>setRow_other _ _ _ _ (λe=>hj (by rw [e];rfl)),.inl rfl⟩;rw [e];exact .row g (n+m) c _ hg hr' (by rw [dc];exact hc) hf
  |grows hg fV rest cap e1 e2 e3 e4=>
   have ho:fV=xs:=by
    have gl:=h.rd;have db:=h.len;apply jK;intro i;rcases iW i xs.length with hi|hi
    ·have h1:=gl i xs[i] (cO hi);have hi':i<fV.length:=by omega
     have h2:=e2 i fV[i] (cO hi');rw [h1] at h2;rw [cO hi,cO hi'];exact h2.symm
    ·rw [j4 hi,j4 aa]
   subst ho;have Em:=Row.new w.drew (fV++news++rest) E;have db:=h.len;refine ⟨?_,rfl,?_,λj _ hj=>Below.heap_alloc _ _ _ hj,.inr rfl⟩
   ·have e:fV++news=(fV++news++rest).take ((s.n+m)*size):=by
     have e0:(s.n+m)*size=fV.length+news.length:=by rw [pZ,hl,e1]
     rw [e0];exact ((AM bo).trans (dI bo)).symm
    conv=>rhs;rw [e]
    exact .row w.heap.size (s.n+m) cap _ hB Em (Nat.le_of_eq e4.symm) e3
   ·exact (Below.refl B w).drew.alloc hB _
def Qe{P:Program}{pre:Prop}(hP:xF P)(hm:P.follows .mixedOrders=true){f:FuncId}{fn:Func}{an:Qd}{args:LV}{w:World}{R:eWp}(hf:P.funcs[f]? =some fn)
  (h:pre)(e:pre=al7 P an fn args w R):Calls P f args.toArray w R:=Rr hP hm hf (e▸h)
def ID(R:eWp)(e:Ending)(w':World)(A:Prop):Prop:=match e with| .panicked c=>R (.panicked c) w'|_=>A
def lg{P:Program}{pre:Prop}(hP:xF P)(hm:P.follows .mixedOrders=true){f:FuncId}{fn:Func}{an:Qd}{args:LV}{w:World}{R:eWp}(hf:P.funcs[f]? =some fn)
  (h:pre)(e:pre=adl P an fn args w R):Calls P f args.toArray w R:=M6 hP hm hf (e▸h)
def ngB(P:Program):Bool:=P.funcs.toList.all λfn=>fn.name != "runtime.NumGoroutine"
def al6{P:Program}(h:ngB P=true):xF P:=λf fn hf he=>by
 have:=O8.1 h fn (by have:=Array.mem_of_getElem? hf;simpa using this)
 simp [he] at this
def cT(n:Int):Prop:= -9223372036854775808<=n/\n<=9223372036854775807
def aK{n:Int}(h:cT n):aC n=n:=by unfold cT at h;unfold IntKind.wrap;simp only [IntKind.bits,IntKind.signed];simp only [oZ];split<;>simp_all<;>omega
def wI{n:Int}(h:cT n:=by unfold cT;omega):IntKind.wrap .i64 n=n:=aK h
def nJ{j:Nat}(h:cT ((j:Int)+1):=by unfold cT;omega):IntKind.wrap .i64 ((j:Int)+1)=((j+1:Nat):Int):=by rw [aK h];omega
def aej(n:Int):cT (aC n):=by unfold cT IntKind.wrap;simp only [IntKind.bits,IntKind.signed];simp only [oZ];split<;>simp_all<;>omega
def Vv{H:Type}:DataW H->Value
 | .lit (.int k n)=> .int k n
 | .lit (.bool b)=> .bool b
 | .lit (.string bs)=> .string ⟨bs.toArray⟩
 |_=> .bool false
def aek{H:Type}:DataW H->LV
 | .agg l=>l.flatMap fun
   | .agg m=>m.map Vv
   |d=> [Vv d]
 |d=> [Vv d]
def layAll(P:Program)(l:List (String × DataW Unit))(w:World):World:=
 {w with heap:=l.foldl (λh x=>match P.globalNamed x.1 with
   |some g=>h.modify g fun
    | .cells _ t frozen=> .cells (aek x.2).toArray t frozen
    |o=>o
   |none=>h) w.heap}
end Go.Vc
namespace Go
open Go.Vc
def Calls.bj{P:Program}{f:FuncId}{a:Array Value}{w:World}{R:eWp}{v:Ending}{Q:wPp}(h:Calls P f a w λe w'=>e=v/\Q w')(k:∀u,Q u->R v u):Calls P f a w R:=h.mono λ_ u h=>h.1▸k u h.2
def Calls.gK{P:Program}{f:FuncId}{a:Array Value}{w:World}{R:eWp}{v:Ending}(h:Calls P f a w λe w'=>e=v/\w'=w)(k:R v w):Calls P f a w R:=h.mono λ_ _ h=>h.1▸h.2▸k
end Go
namespace Go.Vc
open Go Go.RowKit
set_option maxRecDepth 100000
set_option maxHeartbeats 8000000
structure dB(w:World)(s:Sl)(k:Nat)(rows:List (LV)):Prop where
 n:s.n=rows.length
 wd:∀r ∈ rows,r.length=k
 rd:∀i r,rows[i]? =some r->∀j v,r[j]? =some v->ld w (ab s.a (i*k+j))=some v
def dB.ext{w w':World}{s:Sl}{k:Nat}{rows:List (LV)}(h:dB w s k rows)(he:Ext w w'):dB w' s k rows:=
 ⟨h.n,h.wd,λi r hi j v hj=>he.ld (h.rd i r hi j v hj)⟩
def dB.isSome{w:World}{s:Sl}{k:Nat}{rows:List (LV)}(h:dB w s k rows)(hk:0<k){i:Nat}(hi:i<rows.length):s.a.isSome=true:=by
 have hr:rows[i]? =some rows[i]:=cO hi;have hl:=h.wd _ (List.getElem_mem hi);have h0:rows[i][0]? =some (rows[i][0]'aa):=cO aa;have:=h.rd i _ hr 0 _ h0
 cases hs:s.a with
 |none=>rw [hs] at this;simp [ld,ab] at this
 |some a=>rfl
def dB.j2{w:World}{s:Sl}{k:Nat}{rows:List (LV)}(h:dB w s k rows)(hk:0<k){i:Int}(h0:0<=i)(h1:i<(s.n:Int)):gJ s.a i s.n:=
 ⟨h.isSome hk (i:=i.toNat) (by have:=h.n;omega),h0,h1⟩
def dB.at{w:World}{s:Sl}{k:Nat}{rows:List (LV)}(h:dB w s k rows){i:Nat}{r:LV}(hi:rows[i]? =some r){j:Nat}{v:Value}(hj:r[j]? =some v):ld w (ab (ab s.a (i*k)) j)=some v:=by rw [gx];exact h.rd i r hi j v hj
def Pq{w:World}{p:Option Addr}:∀{vs:LV} {i:Nat},(∀j v,vs[j]? =some v->ld w (ab p (i+j))=some v)->ah w p i vs
 | [],_,_=>trivial
 | [v],i,h=>by have:=h 0 v rfl;simpa [ah] using this
 |v::u::r,i,h=>⟨by have:=h 0 v rfl;simpa using this,Pq (i:=i+1) λj x hj=>by
  have:=h (j+1) x (by simpa using hj)
  rwa [show i+(j+1)=i+1+j from by omega] at this⟩
def dB.bK{w:World}{s:Sl}{k:Nat}{rows:List (LV)}(h:dB w s k rows){i:Nat}{r:LV}(hi:rows[i]? =some r):ah w (ab s.a (i*k)) 0 r:=
 Pq λj v hj=>by rw [eK];exact h.at hi hj
def uI{k:Nat}:∀{rows:List (LV)},(∀r ∈ rows,r.length=k)->∀{i:Nat} {r:LV},rows[i]? =some r->∀{j:Nat},j<k->rows.flatten[i*k+j]? =r[j]?
 | [],_,i,r,hi,j,_=>by simp at hi
 |a::rows,h,0,r,hi,j,hj=>by
  simp at hi;subst hi
  have:=h a (.head _)
  rw [kZ,oX aa]
  simp
 |a::rows,h,i+1,r,hi,j,hj=>by
  have ha:=h a (.head _)
  rw [kZ,pY (by rw [ha,OZ];omega)]
  rw [show (i+1)*k+j-a.length=i*k+j from by rw [ha,OZ];omega]
  exact uI (λr hr=>h r (.tail _ hr)) (by simpa using hi) hj
def bQ{k:Nat}:∀{rows:List (LV)},(∀r ∈ rows,r.length=k)->rows.flatten.length=rows.length*k
 | [],_=>by simp
 |a::rows,h=>by rw [kZ,bY,bQ (λr hr=>h r (.tail _ hr)),h a (.head _),cD,OZ,yT]
structure ar(B E k:Nat)(w:World)(s:Sl)(rows:List (LV)):Prop where
 own:Own B E k w s rows.flatten
 wd:∀r ∈ rows,r.length=k
def ar.rd{B E k:Nat}{w:World}{s:Sl}{rows:List (LV)}(h:ar B E k w s rows)(hk:0<k):dB w s k rows:=by
 refine ⟨?_,h.wd,λi r hi j v hj=> ?_⟩
 ·have h1:=h.own.len;rw [bQ h.wd] at h1;exact (Nat.eq_of_mul_eq_mul_right hk h1).symm
 ·have hl:=h.wd r (aQ hi);have hjk:j<k:=by rw [<-hl];exact (cP.1 hj).1
  exact h.own.rd _ _ ((uI h.wd hi hjk).trans hj)
def ar.nil{B E k:Nat}{w:World}:ar B E k w ⟨none,0,0⟩ []:=⟨.nil,λ_ h=>by cases h⟩
def ar.ext{B E k:Nat}{w w':World}{s:Sl}{rows:List (LV)}(h:ar B E k w s rows)(he:Ext w w'):ar B E k w' s rows:=⟨h.own.ext he,h.wd⟩
def ar.aW{B E k:Nat}{w w':World}{s:Sl}{rows:List (LV)}(h:ar B E k w s rows)(hk:∀g,s.aX=some g->w'.heap[g]? =w.heap[g]?):ar B E k w' s rows:=⟨h.own.aW hk,h.wd⟩
def ar.low{B B' E k:Nat}{w:World}{s:Sl}{rows:List (LV)}(h:ar B E k w s rows)(hb:B'<=B):ar B' E k w s rows:=by
 refine ⟨?_,h.wd⟩;have ho:=h.own;generalize rows.flatten=xs at ho
 cases ho with
 |nil=>exact .nil
 |row g n c cs hg hr hc hn=>exact .row g n c cs aa hr hc hn
def ar.append{B E k bytes:Nat}{w:World}{s:Sl}{rows:List (LV)}(h:ar B E k w s rows){news:LV}(hB:B<=w)(hl:news.length=k)(h1:One news)
  (hb:(s.n+1)*bytes<=140737488355328)(hb':s.n+1<=9223372036854775807):
  aY bytes k w s 1 news/\∀(s':Sl)(w':World),aT E k w s 1 news s' w'->
   ar B E k w' s' (rows++ [news])/\s'.n=s.n+1/\Below B w w'/\(∀j,s.aX≠some j->j<w.heap.size->w'.heap[j]? =w.heap[j]?)/\(s'.aX=s.aX\/s'.aX=some w.heap.size):=by
 obtain ⟨hp,hr⟩:=h.own.append (bytes:=bytes) (m:=1) (news:=news) hB (by rw [hl,Nat.one_mul]) h1 hb hb';refine ⟨hp,λs' w' bq=> ?_⟩;obtain ⟨ho,hn,hx,hk,yx⟩:=hr s' w' bq;refine ⟨⟨by rw [zi];simpa using ho,λr hr=> ?_⟩,hn,hx,hk,yx⟩;rcases dp.1 hr with hr|hr
 ·exact h.wd r hr
 ·simp at hr;rw [hr];exact hl
def Own.set{B E size:Nat}{w:World}{s:Sl}{xs:LV}(h:Own B E size w s xs){m:Nat}{v:Value}(hm:m<xs.length)(hv:v.oneCell'=true):
  (ab s.a m).isSome=true/\Wr w (ab s.a m) 1/\Own B E size (bC w (ab s.a m) [v]) s (xs.set m v)/\(∀j,s.aX≠some j->(bC w (ab s.a m) [v]).heap[j]? =w.heap[j]?):=by
 cases h with
 |nil=>simp at hm
 |row g n c cs hg hr hc hn=>
  rw [cK] at hm;rw [aF];have h1:One [v]:=by intro u hu;simp at hu;subst hu;exact hv
  have hs:=hr.bC (o:=0+m) (vs:=[v]) smo h1;refine ⟨rfl,hr.wr aa,?_,λj hj=> ?_⟩
  ·rw [<-List.take_set];rw [hs];refine .row g n c _ hg ?_ (by simpa using hc) hn;have e:putCells cs (0+m) [v]=cs.set m v:=by simp [putCells]
   rw [e];exact hr.set (cs.set m v)
  ·rw [hs];exact setRow_other _ _ _ _ (λe=>hj (by rw [e];rfl))
end Go.Vc
namespace Go.Vc
open Go Go.RowKit
def Below.bC{B:Nat}{a b:World}(h:Below B a b){p:Option Addr}{vs:LV}(hp:∀x,p=some x->B<=x.block):Below B a (bC b p vs):=by
 cases p with
 |none=>exact h
 |some x=>
  have hx:=hp x rfl;show Below B a (qP b x 0 vs);have key:∀(vs:LV)(i:Nat)(b:World),Below B a b->Below B a (qP b x i vs):=by
   intro vs
   induction vs with
   |nil=>intro i b h;exact h
   |cons v r ih=>
    intro i b h;refine ih _ _ (Below.setCell h ?_ _);unfold Addr.add;split<;>exact hx
  exact key vs 0 b h
def wB(k:IntKind)(a:Int):One [.int k a]:=by intro v hv;simp at hv;subst hv;rfl
def BA(k k':IntKind)(a b:Int):One [.int k a,.int k' b]:=by intro v hv;simp at hv;rcases hv with rfl|rfl<;>rfl
def ar.kU{B E k bytes:Nat}{w:World}{s:Sl}{rows:List (LV)}(h:ar B E k w s rows){news:LV}(o:Obj)(hB:B<=w)(hl:news.length=k)(h1:One news)
  (hb:(s.n+1)*bytes<=140737488355328)(hb':s.n+1<=9223372036854775807):
  aY bytes k (w.alloc o) s 1 news/\∀(s':Sl)(w':World),aT E k (w.alloc o) s 1 news s' w'->
   w'.heap[w.heap.size]? =(w.alloc o).heap[w.heap.size]?/\ar B E k w' s' (rows++ [news])/\s'.n=s.n+1/\Below B w w'/\(∀j,s.aX≠some j->j<w.heap.size->w'.heap[j]? =w.heap[j]?)/\(s'.aX=s.aX\/s'.aX=some (w.heap.size+1)):=by
 have xa:=Ext.al w o;obtain ⟨hp,hr⟩:=(h.ext xa).append (bytes:=bytes) (news:=news) (c8 hB xa.size) hl h1 hb hb';refine ⟨hp,λs' w' bq=> ?_⟩;obtain ⟨ho,hn,hx,hk,yx⟩:=hr s' w' bq;have hz:(w.alloc o).heap.size=w.heap.size+1:=by simp
 refine ⟨hk _ (λhb=>absurd (h.own.lt hb).2 (CU _)) bo,ho,hn,(Below.mono xa hB).trans hx,λj hj fD=> ?_,by rw [<-hz];exact yx⟩;rw [hk j hj aa];exact xa.heap fD
def ar.set{B E k:Nat}{w:World}{s:Sl}{rows:List (List Value)}(h:ar B E k w s rows){i j:Nat}{r:List Value}{v:Value}(hi:rows[i]? =some r)(hj:j<k)(hv:v.oneCell'=true)(hB:B<=w.heap.size):
  (ab (ab s.a (i*k)) j).isSome=true/\Wr w (ab (ab s.a (i*k)) j) 1/\ar B E k (bC w (ab (ab s.a (i*k)) j) [v]) s (rows.set i (r.set j v))/\
   Below B w (bC w (ab (ab s.a (i*k)) j) [v])/\(∀m,s.aX≠some m->(bC w (ab (ab s.a (i*k)) j) [v]).heap[m]? =w.heap[m]?):=by
 have db:=bQ h.wd;have OL:i<rows.length:=(List.getElem?_eq_some_iff.1 hi).1;have hm:i*k+j<rows.flatten.length:=by rw [db];have:(i+1)*k<=rows.length*k:=Nat.mul_le_mul_right _ OL;rw [Nat.succ_mul] at this;omega
 obtain ⟨h1,h2,h3,h4⟩:=h.own.set (v:=v) hm hv;rw [gx];refine ⟨h1,h2,⟨?_,λq hq=> ?_⟩,?_,h4⟩
 ·have e:(rows.set i (r.set j v)).flatten=rows.flatten.set (i*k+j) v:=by
   have hw:=h.wd;clear h h1 h2 h3 h4 hm db hv
   induction rows generalizing i with
   |nil=>simp at hi
   |cons a rows ih=>
    have ha:=hw a (.head _)
    cases i with
    |zero=>
     simp at hi;subst hi;simp only [List.set_cons_zero,List.flatten_cons,Nat.zero_mul,Nat.zero_add];rw [List.set_append_left _ _ (by omega)]
    |succ i=>
     simp only [List.set_cons_succ,List.flatten_cons];rw [List.set_append_right _ _ (by rw [ha,Nat.succ_mul];omega),show (i+1)*k+j-a.length=i*k+j from by rw [ha,Nat.succ_mul];omega];rw [ih (by simpa using hi) (by simpa using OL) (λr hr=>hw r (.tail _ hr))]
  rw [e];exact h3
 ·rcases List.mem_or_eq_of_mem_set hq with hq|rfl
  ·exact h.wd q hq
  ·rw [List.length_set];exact h.wd r (List.mem_of_getElem? hi)
 ·refine Below.bC (Below.refl _ _) λx hx=> ?_
  have ho:=h.own;generalize rows.flatten=xs at ho
  cases ho with
  |nil=>simp [ab] at hx
  |row g n c cs hg hr hc hn=>simp [ab,oy] at hx;subst hx;exact hg
end Go.Vc
namespace Go.Vc
open Go Go.RowKit
def qh{E size:Nat}{w w':World}{a:Option Addr}{n:Nat}{news:LV}{s':Sl}(h:aT E size w ⟨a,0,0⟩ n news s' w')(hl:news.length=n*size){j:Nat}(hj:j<w):w'.heap[j]? =w.heap[j]? :=by
 cases h with
 |fits hf=>
  have:n=0:=by simp at hf;omega
  subst this;have:news=[]:=CR aa;subst this
  cases hp:ab a (0*size) with
  |none=>simp [hp,Go.Vc.bC]
  |some x=>simp only [hp,Go.Vc.bC];rfl
 |grows hf fV rest cap h1 h2 h3 h4=>exact ((Ext.dr w).tr (Ext.al _ _)).heap hj
def dB.flat{w:World}{s:Sl}{k:Nat}{rows:List (LV)}(h:dB w s k rows)(hk:0<k):Rd w s.a rows.flatten:=by
 intro i v hi;have OL:i<rows.flatten.length:=(cP.1 hi).1;rw [bQ h.wd] at OL;have hik:i / k<rows.length:=Nat.div_lt_of_lt_mul (by rw [Nat.mul_comm];exact OL);have hr:rows[i / k]? =some rows[i / k]:=cO hik;have hm:i % k<k:=Nat.mod_lt _ hk;have e:i / k*k+i % k=i:=by rw [Nat.mul_comm];exact Nat.div_add_mod i k
 have:=uI h.wd hr hm;rw [e,hi] at this;have:=h.rd _ _ hr _ v this.symm;rwa [e] at this
def gD{rows:List (LV)}(h:∀r ∈ rows,One r):One rows.flatten:=by intro v hv;obtain ⟨r,hr,hvr⟩:=List.mem_flatten.1 hv;exact h r hr v hvr
end Go.Vc
namespace Go.Vc
open Go Go.RowKit
def wE:∀(vs cs:LV)(off N:Nat),(putCells cs off vs).take N=putCells (cs.take N) off vs
 | [],_,_,_=>rfl
 |v::r,cs,off,N=>by
  show (putCells (cs.set off v) (off+1) r).take N=putCells ((cs.take N).set off v) (off+1) r
  rw [wE,List.take_set]
def uJ(a:LV):∀(vs b:LV)(o:Nat),putCells (a++b) (a.length+o) vs=a++putCells b o vs
 | [],_,_=>rfl
 |v::r,b,o=>by
  show putCells ((a++b).set (a.length+o) v) (a.length+o+1) r=a++putCells (b.set o v) (o+1) r
  rw [List.set_append_right _ _ aa,Nat.add_sub_cancel_left,Nat.add_assoc]
  exact uJ a r _ _
def Own.put{B E size:Nat}{w:World}{s:Sl}{xs:LV}(h:Own B E size w s xs){m:Nat}{vs:LV}(hm:m+vs.length<=xs.length)(hx:0<xs.length)(hv:One vs):
  (ab s.a m).isSome=true/\Wr w (ab s.a m) vs.length/\Own B E size (bC w (ab s.a m) vs) s (putCells xs m vs)/\(∀j,s.aX≠some j->(bC w (ab s.a m) vs).heap[j]? =w.heap[j]?):=by
 cases h with
 |nil=>simp at hx
 |row g n c cs hg hr hc hn=>
  rw [cK] at hm;rw [aF];have hs:=hr.bC (o:=0+m) (vs:=vs) aa hv;refine ⟨rfl,hr.wr aa,?_,λj hj=> ?_⟩
  ·rw [<-wE,hs,eK];exact .row g n c _ hg (hr.set _) (by rw [Go.Vc.dc];exact hc) hn
  ·rw [hs];exact setRow_other _ _ _ _ (λe=>hj (by rw [e];rfl))
def ar.put{B E k:Nat}{w:World}{s:Sl}{rows:List (List Value)}(h:ar B E k w s rows){i:Nat}{r:List Value}(hi:i<rows.length)(hk:0<k)(hr:r.length=k)(hv:One r):
  (ab s.a (i*k)).isSome=true/\Wr w (ab s.a (i*k)) k/\ar B E k (bC w (ab s.a (i*k)) r) s (rows.set i r)/\
   Below B w (bC w (ab s.a (i*k)) r)/\(∀m,s.aX≠some m->(bC w (ab s.a (i*k)) r).heap[m]? =w.heap[m]?):=by
 have db:=bQ h.wd;have h1:(i+1)*k<=rows.length*k:=Nat.mul_le_mul_right _ hi;rw [Nat.succ_mul] at h1;obtain ⟨p1,p2,p3,p4⟩:=h.own.put (m:=i*k) (vs:=r) (by omega) (by omega) hv;rw [hr] at p2;refine ⟨p1,p2,⟨?_,λq hq=> ?_⟩,?_,p4⟩
 ·have e:(rows.set i r).flatten=putCells rows.flatten (i*k) r:=by
   have hw:=h.wd;clear h p1 p2 p3 p4 db h1
   induction rows generalizing i with
   |nil=>simp at hi
   |cons a rows ih=>
    have ha:=hw a (.head _)
    cases i with
    |zero=>
     simp only [List.set_cons_zero,List.flatten_cons,Nat.zero_mul];rw [ed _ _ _ (by rw [List.length_append];omega),hr,Nat.zero_add,List.drop_left' ha];simp
    |succ i=>
     simp only [List.set_cons_succ,List.flatten_cons];rw [show (i+1)*k=a.length+i*k from by rw [ha,Nat.succ_mul];omega,uJ];rw [ih (by simpa using hi) (λr hr=>hw r (.tail _ hr))]
  rw [e];exact p3
 ·rcases List.mem_or_eq_of_mem_set hq with hq|rfl
  ·exact h.wd q hq
  ·exact hr
 ·refine Below.bC (Below.refl _ _) λx hx=> ?_
  have ho:=h.own;generalize rows.flatten=xs at ho
  cases ho with
  |nil=>simp [ab] at hx
  |row g n c cs hg hr hc hn=>simp [ab,oy] at hx;subst hx;exact hg
def uK(a:Option Addr)(m size j:Nat):ab (aE a 0 m size) j=ab a j:=by
 unfold aE;split
 ·rfl
 ·show ab (ab a (0*size)) j=_;rw [gx];simp
def dB.cut{w:World}{s:Sl}{k:Nat}{rows:List (LV)}(h:dB w s k rows){m c' c'':Nat}(hm:m<=rows.length):dB w ⟨aE s.a 0 c' k,m,c''⟩ k (rows.take m):=by
 refine ⟨by simp;omega,λr hr=>h.wd r (og hr),λi r hi j v hj=> ?_⟩;show ld w (ab (aE s.a 0 c' k) _)=_;rw [uK];rw [qS] at hi;split at hi
 ·exact h.rd i r hi j v hj
 ·cases hi
end Go.Vc
namespace Go.Vc
open Go Go.RowKit
def ar.FC{B E k bytes:Nat}{w:World}{s:Sl}{rows more:List (LV)}(h:ar B E k w s rows)(hB:B<=w)(hl:∀r ∈ more,r.length=k)(h1:∀r ∈ more,One r)
  (hb:(s.n+more.length)*bytes<=140737488355328)(hb':s.n+more.length<=9223372036854775807):
  aY bytes k w s more.length more.flatten/\∀(s':Sl)(w':World),aT E k w s more.length more.flatten s' w'->
   ar B E k w' s' (rows++more)/\s'.n=s.n+more.length/\Below B w w'/\(∀j,s.aX≠some j->j<w.heap.size->w'.heap[j]? =w.heap[j]?)/\(s'.aX=s.aX\/s'.aX=some w.heap.size):=by
 obtain ⟨hp,hr⟩:=h.own.append (bytes:=bytes) (m:=more.length) (news:=more.flatten) hB (bQ hl) (gD h1) hb hb';refine ⟨hp,λs' w' bq=> ?_⟩;obtain ⟨ho,hn,hx,hk,yx⟩:=hr s' w' bq;refine ⟨⟨by rw [zi];exact ho,λr hr=> ?_⟩,hn,hx,hk,yx⟩;rcases dp.1 hr with hr|hr
 ·exact h.wd r hr
 ·exact hl r hr
end Go.Vc
namespace Go.Vc
open Go Go.RowKit
def dB.rest{w:World}{s:Sl}{k:Nat}{rows:List (LV)}(h:dB w s k rows){l m n' c':Nat}(hn:n'=rows.length-l)(hm:m=l->rows.length<=l):dB w ⟨aE s.a l m k,n',c'⟩ k (rows.drop l):=by
 refine ⟨by simpa using hn,λr hr=>h.wd r (zk hr),λi r hi j v hj=> ?_⟩;rw [yW] at hi;show ld w (ab (aE s.a l m k) _)=_;unfold aE;split
 ·rename_i e;have:=hm e;rw [j4 aa] at hi;cases hi
 ·show ld w (ab (ab s.a (l*k)) _)=_;rw [gx];have:=h.rd (l+i) r hi j v hj;rwa [pZ,Nat.add_assoc] at this
def inO{n:Int}(h: -9223372036854775808<=n/\n<=9223372036854775807:=by omega):cT n:=h
end Go.Vc
namespace Go.Vc
open Go Go.RowKit
set_option maxRecDepth 100000
set_option maxHeartbeats 8000000
def bJ{P:Program}{fv:Value}{args:LV}{w:World}{R R':eWp}(h:bu P fv args w R)(hr:∀e w',R e w'->R' e w'):bu P fv args w R':=by
 unfold bu at h ⊢;split at h
 ·split at h
  ·exact h.mono hr
  ·obtain ⟨e,he,v,w',h1,h2⟩:=h;exact ⟨e,he,v,w',h1,hr _ _ h2⟩
 ·obtain ⟨h1,fn,tmps,assign,body,h2,h3⟩:=h;exact ⟨h1,fn,tmps,assign,body,h2,h3.mono hr⟩
 ·exact h.elim
def aec{P:Program}{f:FuncId}{first cap:Array Value}{args:LV}{w:World}{R:eWp}(hb:vK P f=true)(h:Calls P f (first.toList++args++cap.toList).toArray w R):
  bu P (.func (.func f) first cap) args w R:=by
 unfold bu;simp only [hb];exact h
def bV{P:Program}{f:FuncId}{first cap:Array Value}{args:LV}{w:World}{R:eWp}{asx:Array Value}(hb:vK P f=true)(ha:(first.toList++args++cap.toList).toArray=asx)(h:Calls P f asx w R):
  bu P (.func (.func f) first cap) args w R:=aec hb (by rw [ha];exact h)
structure Mod(F:Nat->Prop)(w w':World):Prop where
 os:w'.os=w.os
 tape:w'.tape=w.tape
 output:w'.output=w.output
 size:w.heap.size<=w'.heap.size
 same:∀i,i<w.heap.size->¬F i->w'.heap[i]? =w.heap[i]?
def Mod.refl(F:Nat->Prop)(w:World):Mod F w w:=⟨rfl,rfl,rfl,ak _,λ_ _ _=>rfl⟩
def Mod.aq{F:Nat->Prop}{w w':World}(h:Ext w w'):Mod F w w':=⟨h.os,h.tape,h.output,h.size,λi hi _=>h.block i hi⟩
def Mod.trans{F:Nat->Prop}{a b c:World}(h:Mod F a b)(k:Mod F b c):Mod F a c:=
 ⟨k.os.trans h.os,k.tape.trans h.tape,k.output.trans h.output,c8 h.size k.size,λi hi hn=>(k.same i (gA hi h.size) hn).trans (h.same i hi hn)⟩
def Mod.mono{F F':Nat->Prop}{a b:World}(h:Mod F a b)(hs:∀i,i<a.heap.size->F i->F' i):Mod F' a b:=⟨h.os,h.tape,h.output,h.size,λi hi hn=>h.same i hi λhf=>hn (hs i hi hf)⟩
def Mod.tr{F F':Nat->Prop}{a b c:World}(h:Mod F a b)(k:Mod F' b c)(hs:∀i,F' i->F i\/a.heap.size<=i):Mod F a c:=
 ⟨k.os.trans h.os,k.tape.trans h.tape,k.output.trans h.output,c8 h.size k.size,λi hi hn=>(k.same i (gA hi h.size) λhf=>by
  rcases hs i hf with hf|hf
  ·exact hn hf
  ·omega).trans (h.same i hi hn)⟩
def Mod.below{F:Nat->Prop}{B:Nat}{w w':World}(h:Mod F w w')(hB:B<=w)(hF:∀i,F i->B<=i):Below B w w':=⟨h.os,h.tape,h.output,h.size,λi hi=>h.same i aa λhf=>by have:=hF i hf;omega⟩
def Mod.ext{F:Nat->Prop}{w0 w w':World}(h:Mod F w w')(x:Ext w0 w)(hF:∀i,F i->w0.heap.size<=i):Ext w0 w':=x.trans (h.below x.size hF)
def Mod.pd{r:Nat}{w w':World}(h:Rec r w w'):Mod (λi=>i=r) w w':=⟨h.os,h.tape,h.output,Nat.le_of_eq h.size.symm,λi _ hn=>h.same i hn⟩
def aiy{w w':World}{p:Option Addr}(h:∀b,bN p=some b->w'.heap[b]? =w.heap[b]?):ld w' p=ld w p:=by
 cases p with
 |none=>rfl
 |some a=>
  show w'.cell? a=w.cell? a;have:=h a.block rfl;simp only [World.cell?,this]
def dB.same{w w':World}{s:Sl}{k:Nat}{rows:List (LV)}(h:dB w s k rows)(hs:∀b,s.aX=some b->w'.heap[b]? =w.heap[b]?):dB w' s k rows:=
 ⟨h.n,h.wd,λi r hi j v hj=>by rw [aiy λb hb=>hs b (by rw [cB] at hb;exact hb)];exact h.rd i r hi j v hj⟩
end Go.Vc
namespace Go.Vc
open Go Go.RowKit
def dB.L5{w:World}{s:Sl}{k:Nat}{rows:List (LV)}(h:dB w s k rows)(hk:0<k)(fA:rows≠ []){b:Nat}(hb:s.aX=some b):b<w:=by
 cases rows with
 |nil=>exact absurd rfl fA
 |cons r rows=>
  have hl:=h.wd r (.head _);have h0:r[0]? =some (r[0]'aa):=cO aa;have:=h.rd 0 r rfl 0 _ h0
  cases ha:s.a with
  |none=>rw [ha] at this;simp [ld,ab] at this
  |some a=>
   rw [ha] at this;have fD:=Xx (w:=w) (a:=a.add (0*k+0)) this;have:(a.add (0*k+0)).block=a.block:=by unfold Addr.add;split<;>rfl
   rw [this] at fD;simp [Sl.aX,ha] at hb;omega
def dB.akz{w w':World}{s:Sl}{k:Nat}{rows:List (LV)}(h:dB w s k rows)(hs:rows≠ []->∀b,s.aX=some b->w'.heap[b]? =w.heap[b]?):dB w' s k rows:=by
 cases rows with
 |nil=>exact ⟨h.n,h.wd,λi r hi=>by simp at hi⟩
 |cons r rows=>exact h.same (hs bo)
end Go.Vc
namespace Go.Vc
open Go Go.RowKit
end Go.Vc
namespace Go.Vc
open Go Go.RowKit
set_option maxRecDepth 100000
set_option maxHeartbeats 8000000
def ar.form{B E k:Nat}{w:World}{s:Sl}{rows:List (LV)}(h:ar B E k w s rows)(hk:0<k):(s=⟨none,0,0⟩/\rows=[])\/
  ∃g cs,s.a=aB g/\B<=g/\Row w g cs E/\s.c*k<=cs.length/\s.n<=s.c/\cs.take (s.n*k)=rows.flatten/\s.n=rows.length:=by
 have hn:=(h.rd hk).n;have ho:=h.own;have hf:=bQ h.wd;generalize hx:rows.flatten=xs at ho hf
 cases ho with
 |nil=>exact .inl ⟨rfl,CR (by rw [<-hn])⟩
 |row g n c cs hg hr hc hn'=>exact .inr ⟨g,cs,rfl,hg,hr,hc,hn',rfl,hn⟩
def ar.jU{B E k:Nat}{w:World}{g n c:Nat}{cs:LV}{rows:List (LV)}(hg:B<=g)(hr:Row w g cs E)(hc:c*k<=cs.length)(hn:n<=c)(ht:cs.take (n*k)=rows.flatten)(hw:∀r ∈ rows,r.length=k):
  ar B E k w ⟨aB g,n,c⟩ rows:=⟨by rw [<-ht];exact .row g n c cs hg hr hc hn,hw⟩
def dw(a:Option Addr)(m size:Nat):aE a 0 m size=a:=by
 unfold aE;split
 ·rfl
 ·cases a<;>simp [Addr.add]
def sC(g l m size:Nat):aE (aB g) l m size=if m=l then aB g else some ⟨g,l*size,none⟩:=by
 unfold aE;split
 ·rfl
 ·simp [oy]
def Row.alU{w:World}{g:Nat}{cs vs:LV}{E:TypeId}(hr:Row w g cs E){l m size:Nat}(hm:m=l->vs=[])(hv:∀j,j<vs.length->cs[l*size+j]? =vs[j]?):Rd w (aE (aB g) l m size) vs:=by intro j v hj;have fD:=(cP.1 hj).1;rw [sC,if_neg (λe=>by rw [hm e] at fD;simp at fD),aF,hr.ld,hv j fD];exact hj
def Row.acE{w:World}{g:Nat}{cs vs:LV}{E:TypeId}(hr:Row w g cs E){l m size:Nat}(hm:m=l->vs=[])(hl:l*size+vs.length<=cs.length)(h1:One vs):
  Wr w (aE (aB g) l m size) vs.length/\Row (Go.Vc.bC w (aE (aB g) l m size) vs) g (putCells cs (l*size) vs) E/\Mod (λi=>i=g) w (Go.Vc.bC w (aE (aB g) l m size) vs):=by
 by_cases e:m=l
 ·have:=hm e;subst this;rw [sC,if_pos e];exact ⟨λi hi=>by simp at hi,hr,Mod.refl _ _⟩
 ·rw [sC,if_neg e,hr.bC hl h1];exact ⟨hr.wr hl,hr.set _,⟨rfl,rfl,rfl,by rw [setRow_size];exact ak _,λi _ hn=>setRow_other _ _ _ _ hn⟩⟩
def YO{w:World}{a:Option Addr}{xs ys:LV}(hx:Rd w a xs)(hy:Rd w a ys)(hl:xs.length=ys.length):xs=ys:=by
 apply jK;intro i;rcases iW i xs.length with hi|hi
 ·have h1:=hx i xs[i] (cO hi);have h2:=hy i (ys[i]'aa) (cO aa);rw [h1] at h2;rw [cO hi,cO aa];exact h2
 ·rw [j4 hi,j4 aa]
def Row.rd0{w:World}{g:Nat}{cs vs:LV}{E:TypeId}(hr:Row w g cs E)(hv:∀j,j<vs.length->cs[j]? =vs[j]?):Rd w (aB g) vs:=by intro j v hj;have fD:=(cP.1 hj).1;rw [aF,hr.ld,eK,hv j fD];exact hj
def Row.ne{w:World}{g g':Nat}{cs cs':LV}{E E':TypeId}(hr:Row w g cs E)(hr':Row w g' cs' E')(hE:E≠E'):g≠g':=by rintro rfl;have:=hr.symm.trans hr';simp at this;exact hE this.2
def Row.fN{w:World}{g r:Nat}{cs:LV}{E:TypeId}{G:Value->Prop}{kvs:List (Value × Value)}(hr:Row w g cs E)(hm:bH G w (some r) kvs):g≠r:=by rintro rfl;exact hm.vF _ _ _ hr
def bH.same{w w':World}{G:Value->Prop}{r:Nat}{kvs:List (Value × Value)}(hm:bH G w (some r) kvs)(h:w'.heap[r]? =w.heap[r]?):bH G w' (some r) kvs:=by obtain ⟨es,c,h1,h2⟩:=hm;exact ⟨es,c,h.trans h1,h2⟩
def bH.lt{w:World}{G:Value->Prop}{r:Nat}{kvs:List (Value × Value)}(hm:bH G w (some r) kvs):r<w:=by obtain ⟨es,c,h1,h2⟩:=hm;exact (oV.1 h1).1
def bH.new{w:World}{G:Value->Prop}:bH G (w.alloc (.map #[] 0)) (some w.heap.size) []:=
 ⟨#[],0,World.alloc_heap_new w _,rfl,bo,bo,bo,bo⟩
end Go.Vc
namespace Go.Vc
open Go Go.RowKit
def sD{k:Nat}:∀{rows:List (LV)} (m:Nat),(∀r ∈ rows,r.length=k)->rows.flatten.take (m*k)=(rows.take m).flatten
 | [],m,_=>by simp
 |r::rows,0,_=>by simp
 |r::rows,m+1,hw=>by
  have hr:=hw r (.head _)
  rw [List.take_succ_cons,kZ,kZ,show (m+1)*k=r.length+m*k by rw [OZ,hr];omega,List.take_append,dI aa,Nat.add_sub_cancel_left,sD m λq hq=>hw q (.tail _ hq)]
def ar.cut{B E k:Nat}{w:World}{s:Sl}{rows:List (LV)}(h:ar B E k w s rows)(hk:0<k){m:Nat}(hm:m<=rows.length):ar B E k w ⟨aE s.a 0 m k,m,m⟩ (rows.take m):=by
 rw [dw];rcases h.form hk with ⟨rfl,rfl⟩|⟨g,cs,ha,hg,hr,hc,hn,ht,hl⟩
 ·have:m=0:=by simpa using hm
  subst this;exact .nil
 ·rw [ha];have h1:m*k<=s.n*k:=qW _ aa;have h2:s.n*k<=s.c*k:=qW _ hn;refine ar.jU hg hr aa (ak _) ?_ (λr hr=>h.wd r (og hr));have e1:cs.take (m*k)=(cs.take (s.n*k)).take (m*k):=by rw [List.take_take,Nat.min_eq_left h1]
  rw [e1,ht,sD m h.wd]
end Go.Vc
namespace Go.Vc
open Go Go.RowKit
set_option maxRecDepth 100000
set_option maxHeartbeats 8000000
structure aI(F F':Nat->Prop)(w w':World):Prop where
 mod:Mod F w w'
 sub:∀i,F' i->F i\/w.heap.size<=i
def aI.refl(F:Nat->Prop)(w:World):aI F F w w:=⟨Mod.refl _ _,λ_ h=> .inl h⟩
def aI.trans{F G H:Nat->Prop}{a b c:World}(h:aI F G a b)(k:aI G H b c):aI F H a c:=
 ⟨h.mod.tr k.mod h.sub,λi hi=>by
  rcases k.sub i hi with hg|hg
  ·exact h.sub i hg
  ·exact .inr (c8 h.mod.size hg)⟩
def aI.aq{F:Nat->Prop}{w w':World}(h:Ext w w'):aI F F w w':=⟨Mod.aq h,λ_ h=> .inl h⟩
def aI.apart{F F' G:Nat->Prop}{w w':World}(h:aI F F' w w')(hd:∀i,F i->¬G i)(hl:∀i,G i->i<w.heap.size):∀i,F' i->¬G i:=λi hi hg=>by
 rcases h.sub i hi with hf|hf
 ·exact hd i hf hg
 ·have:=hl i hg;omega
def Mod.xi{w w':World}{s:Sl}(hb:Below 0 w w')(hk:∀j,s.aX≠some j->j<w.heap.size->w'.heap[j]? =w.heap[j]?):Mod (λi=>s.aX=some i) w w':=
 ⟨hb.os,hb.tape,hb.output,hb.size,λi hi hn=>hk i hn hi⟩
def Mod.row{F:Nat->Prop}{w w':World}(h:Mod F w w'){g:Nat}{cs:LV}{t:TypeId}(hr:Row w g cs t)(hn:¬F g):Row w' g cs t:=hr.same (h.same g hr.lt hn)
def Mod.dX{F:Nat->Prop}{w w':World}(h:Mod F w w'){B E k:Nat}{s:Sl}{rows:List (LV)}(ho:ar B E k w s rows)(hn:∀b,s.aX=some b->¬F b):ar B E k w' s rows:=
 ho.aW λb hb=>h.same b (ho.own.lt hb).2 (hn b hb)
def Mod.map{F:Nat->Prop}{w w':World}(h:Mod F w w'){G:Value->Prop}{r:Nat}{kvs:List (Value × Value)}(hm:bH G w (some r) kvs)(hn:¬F r):bH G w' (some r) kvs:=hm.same (h.same r hm.lt hn)
def Mod.rdK{F:Nat->Prop}{w w':World}(h:Mod F w w'){s:Sl}{k:Nat}{rows:List (LV)}(hk:0<k)(hr:dB w s k rows)(hn:rows≠ []->∀b,s.aX=some b->¬F b):dB w' s k rows:=
 hr.akz λfA b hb=>h.same b (hr.L5 hk fA hb) (hn fA b hb)
def aeP{C x l:LV}{a b N:Nat}(hb:b=a+x.length)(hN:N=b+l.length)(hC:N<=C.length):(putCells (putCells C a x) b l).take N=C.take a++x++l:=by
 have ha:(C.take a).length=a:=by rw [cK];omega
 rw [ed x C a aa];have hD:(C.take a++x).length=b:=by rw [bY,ha,hb]
 rw [ed _ _ _ (by rw [bY,hD,qe];omega),FJ hD,FJ (by rw [bY,hD];omega)]
def aaE{C x l:LV}{a b N:Nat}(hb:b=a+x.length)(hN:N=b+l.length)(hC:N<=C.length):(putCells (putCells C b l) a x).take N=C.take a++x++l:=by
 have ha:(C.take a).length=a:=by rw [cK];omega
 have kE:(C.take b).length=b:=by rw [cK];omega
 rw [ed l C b aa];have h1:(C.take b++l++C.drop (b+l.length)).take a=C.take a:=by rw [fY,AM aa,List.take_take,Nat.min_eq_left aa]
 have h2:(C.take b++l++C.drop (b+l.length)).drop (a+x.length)=l++C.drop (b+l.length):=by rw [fY,<-hb,List.drop_left' kE]
 have hl:(C.take b++l++C.drop (b+l.length)).length=C.length:=by simp;omega
 rw [ed _ _ _ (by rw [hl];omega),h1,h2,<-fY,FJ (by simp only [bY,ha];omega)]
def amJ{lo hi:Nat}(h:lo+hi<=1000000):aC (((fJ (aC ((lo:Int)+(hi:Int)))):Int).fdiv (2 ^(min (1:Int).toNat 64)))=(((lo+hi) / 2:Nat):Int):=by
 rw [aK (n:=(lo:Int)+hi) inO];have h2:fJ ((lo:Int)+hi)=lo+hi:=by unfold IntKind.wrap;simp only [IntKind.bits,IntKind.signed];simp;omega
 rw [h2];have h3:((lo:Int)+hi).fdiv (2 ^(min (1:Int).toNat 64))=(((lo+hi) / 2:Nat):Int):=by show ((lo:Int)+hi).fdiv 2=_;rw [tB _ aa];omega
 rw [h3,wI]
def Row.at{w:World}{g:Nat}{cs:LV}{E:TypeId}(hr:Row w g cs E)(j:Nat){v:Value}(h:cs[j]? =some v):Vc.ld w (ab (aB g) j)=some v:=by rw [aF,hr.ld,eK];exact h
def Row.fF{w:World}{g:Nat}{cs:LV}{E:TypeId}(hr:Row w g cs E){j:Nat}{v:Value}(hj:j<cs.length)(hv:v.oneCell'=true):
  Wr w (ab (aB g) j) 1/\∀w',w'=Vc.bC w (ab (aB g) j) [v]->Row w' g (putCells cs j [v]) E/\Mod (λi=>i=g) w w':=by
 rw [aF,eK];have h1:One [v]:=by intro u hu;simp at hu;subst hu;exact hv
 refine ⟨hr.wr aa,λw' e=> ?_⟩;rw [hr.bC smo h1] at e;subst e;exact ⟨hr.set _,rfl,rfl,rfl,by rw [setRow_size];exact ak _,λi _ hn=>setRow_other _ _ _ _ hn⟩
def aU{B E k:Nat}{w:World}{s:Sl}{rows:List (LV)}(h:ar B E k w s rows)(hk:0<k){b:Nat}(hb:s.aX=some b):∃cs,Row w b cs E:=by
 rcases h.form hk with ⟨hs,-⟩|⟨g0,cs,ha,hg0,hr,-⟩
 ·rw [hs] at hb;cases hb
 ·unfold Sl.aX at hb;rw [ha] at hb;have:g0=b:=by simpa using hb
  exact ⟨cs,this▸hr⟩
end Go.Vc
namespace Go.aO
open Go Go.Vc
set_option maxRecDepth 100000
set_option maxHeartbeats 8000000
abbrev Rn:=Int × Int
def cr(l:List Rn):List Int:=l.flatMap λr=>List.replicate r.1.toNat r.2
def jP(out:List Rn)(r:Rn):List Rn:=
 if r.1<1 then out else
 match out.getLast? with
 |some q=>if q.2=r.2 then out.dropLast++ [(q.1+r.1,q.2)] else out++ [r]
 |none=>out++ [r]
def iG(c:List Int):List Rn:=c.foldl (λo b=>jP o (1,b)) []
def bG(l:List Rn):Int:=(l.map (·.1)).sum
inductive Nm:List Rn->Prop
 |nil:Nm []
 |snoc (l:List Rn) (r:Rn) (h:Nm l) (h1:1<=r.1) (h2:∀q,l.getLast? =some q->q.2≠r.2):Nm (l++ [r])
def mz{o:List Rn}{r:Rn}(h:r.1<1):jP o r=o:=by unfold jP;rw [if_pos h]
def kC{l:List Rn}{q r:Rn}(h1:1<=r.1)(e:q.2=r.2):jP (l++ [q]) r=l++ [(q.1+r.1,q.2)]:=by
 unfold jP;have hl:(l++ [q]).getLast? =some q:=by simp
 rw [if_neg aa,hl];simp [e]
def ie{l:List Rn}{r:Rn}(h1:1<=r.1)(h2:∀q,l.getLast? =some q->q.2≠r.2):jP l r=l++ [r]:=by
 unfold jP;rw [if_neg aa];split
 ·rename_i q hq;rw [if_neg (h2 q hq)]
 ·rfl
def xU(l:List Rn):l=[]\/∃m q,l=m++ [q]:=by
 rcases List.eq_nil_or_concat l with h|⟨m,q,h⟩
 ·exact .inl h
 ·exact .inr ⟨m,q,by simpa using h⟩
def Z4(o:List Rn){a c b:Int}(ha:1<=a)(hc:1<=c):jP (jP o (a,b)) (c,b)=jP o (a+c,b):=by
 have hac:1<=a+c:=by omega
 rcases xU o with rfl|⟨m,q,rfl⟩
 ·rw [ie (l:=[]) (r:=(a,b)) ha bo,ie (l:=[]) (r:=(a+c,b)) hac bo,kC (q:=(a,b)) (r:=(c,b)) hc rfl]
 ·by_cases e:q.2=b
  ·rw [kC (r:=(a,b)) ha e,kC (r:=(a+c,b)) hac e,kC (q:=(q.1+a,q.2)) (r:=(c,b)) hc e];simp [Int.add_assoc]
  ·have h2:∀x:Int,∀p,(m++ [q]).getLast? =some p->p.2≠((x,b):Rn).2:=by intro x p hp;simp at hp;subst hp;exact e
   rw [ie (r:=(a,b)) ha (h2 a),ie (r:=(a+c,b)) hac (h2 _),kC (q:=(a,b)) (r:=(c,b)) hc rfl]
def Q8(o:List Rn)(b:Int):∀n:Nat,(List.replicate n b).foldl (λo b=>jP o (1,b)) o=jP o ((n:Int),b)
 |0=>by rw [mz bo];rfl
 |n+1=>by
  rw [List.replicate_succ',nk,Q8 o b n]
  show jP (jP o ((n:Int),b)) (1,b)=_
  rcases Fq n with rfl|hn
  ·rw [mz (r:=(((0:Nat):Int),b)) bo];rfl
  ·rw [Z4 o aa aa];rfl
def aiv(c d:List Int):iG (c++d)=d.foldl (λo b=>jP o (1,b)) (iG c):=by unfold iG;rw [nk]
def QZ(c:List Int)(r:Rn):jP (iG c) r=iG (c++List.replicate r.1.toNat r.2):=by
 rw [aiv,Q8];rcases wL r.1 1 with h|h
 ·rw [mz h,mz (by show ((r.1.toNat:Nat):Int)<1;omega)]
 ·rw [show ((r.1.toNat:Nat):Int)=r.1 from by omega]
def Nm.push{o:List Rn}(h:Nm o)(r:Rn):Nm (jP o r):=by
 rcases wL r.1 1 with h1|h1
 ·rw [mz h1];exact h
 ·cases h with
  |nil=>rw [ie h1 bo];exact .snoc _ _ .nil h1 bo
  |snoc l q hl hq h2=>
   by_cases e:q.2=r.2
   ·rw [kC h1 e];exact .snoc _ _ hl (by show 1<=q.1+r.1;omega) h2
   ·have h3:∀p,(l++ [q]).getLast? =some p->p.2≠r.2:=by intro p hp;simp at hp;subst hp;exact e
    rw [ie h1 h3];exact .snoc _ _ (.snoc _ _ hl hq h2) h1 h3
def Gy(c:List Int):Nm (iG c):=by
 have:∀(c:List Int)(o:List Rn),Nm o->Nm (c.foldl (λo b=>jP o (1,b)) o):=by
  intro c
  induction c with
  |nil=>intro o h;exact h
  |cons b c ih=>intro o h;exact ih _ (h.push _)
 exact this c [] .nil
def iC(l m:List Rn):cr (l++m)=cr l++cr m:=by unfold cr;rw [List.flatMap_append]
def jt(r:Rn):cr [r]=List.replicate r.1.toNat r.2:=by simp [cr]
def Nm.fix{l:List Rn}(h:Nm l):iG (cr l)=l:=by
 induction h with
 |nil=>rfl
 |snoc l r hl h1 h2 ih=>
  rw [iC,jt,<-QZ,ih,ie h1 h2]
def Nm.pos{l:List Rn}(h:Nm l):∀r ∈ l,1<=r.1:=by
 induction h with
 |nil=>simp
 |snoc l r hl h1 h2 ih=>
  intro q hq;rcases dp.1 hq with hq|hq
  ·exact ih q hq
  ·simp at hq;rw [hq];exact h1
def Vl{o:List Rn}(h:Nm o)(r:Rn):cr (jP o r)=cr o++List.replicate r.1.toNat r.2:=by
 rcases wL r.1 1 with h1|h1
 ·rw [mz h1,show r.1.toNat=0 from by omega];simp
 ·cases h with
  |nil=>rw [ie h1 bo,iC,jt]
  |snoc l q hl hq h2=>
   by_cases e:q.2=r.2
   ·rw [kC h1 e,iC,iC,jt,jt];show _++List.replicate (q.1+r.1).toNat q.2=_;rw [show (q.1+r.1).toNat=q.1.toNat+r.1.toNat from by omega,<-List.replicate_append_replicate,e];simp
   ·rw [ie h1 (by intro p hp;simp at hp;subst hp;exact e),iC,jt]
def oQ(c:List Int):cr (iG c)=c:=by
 have:∀(c:List Int)(o:List Rn),Nm o->cr (c.foldl (λo b=>jP o (1,b)) o)=cr o++c:=by
  intro c
  induction c with
  |nil=>intro o h;simp
  |cons b c ih=>intro o h;rw [pq,ih _ (h.push _),Vl h];simp
 rw [iG,this c [] .nil];rfl
def Q9(l m:List Rn):bG (l++m)=bG l+bG m:=by simp [bG]
def fh{l:List Rn}(h:∀r ∈ l,0<=r.1):bG l=((cr l).length:Nat):=by
 induction l with
 |nil=>rfl
 |cons r l ih=>
  have:=ih λq hq=>h q (.tail _ hq)
  have hr:=h r (.head _);simp only [bG,eL,List.sum_cons] at this ⊢;rw [this];simp [cr];omega
def np(c:List Int):bG (iG c)=(c.length:Nat):=by rw [fh λr hr=>by have:=(Gy c).pos r hr;omega,oQ]
def Nm.amm{l:List Rn}(h:Nm l):l.length<=(cr l).length:=by
 induction h with
 |nil=>simp
 |snoc l r hl h1 h2 ih=>rw [iC,jt];simp;omega
def sw(c:List Int):(iG c).length<=c.length:=by have:=(Gy c).amm;rwa [oQ] at this
end Go.aO
namespace Go.aO
def aiw{l:List Rn}(h:∀r ∈ l,0<=r.1){q:Rn}(hq:q ∈ l):q.1<=bG l:=by
 induction l with
 |nil=>cases hq
 |cons r l ih=>
  have hr:=h r (.head _);have hl:0<=bG l:=by rw [fh λq hq=>h q (.tail _ hq)];omega
  have e:bG (r::l)=r.1+bG l:=by simp [bG]
  rw [e];rcases cj.1 hq with rfl|hq
  ·omega
  ·have:=ih (λq hq=>h q (.tail _ hq)) hq;omega
def oF{c:List Int}{q:Rn}(hq:q ∈ iG c):1<=q.1/\q.1<=(c.length:Nat):=by have h:=(Gy c).pos;refine ⟨h q hq,?_⟩;rw [<-np];exact aiw (λr hr=>by have:=h r hr;omega) hq
def IX(c:List Int)(a b:Int):List Int:=(c.take b.toNat).drop a.toNat
def aeb(c:List Int)(n:Nat)(x a b:Int)(ha:0<=a)(hb:0<=b):
  IX (c++List.replicate n x) a b=IX c a b++List.replicate (min b (c.length+n:Nat)-max a (c.length:Nat)).toNat x:=by
 unfold IX;rw [List.take_append,List.drop_append,List.take_replicate,List.drop_replicate,cK];congr 2;omega
end Go.aO
namespace Go.aO
def AK(c:List Int)(a b x:Int):List Int:=c.mapIdx λi y=>if a<=(i:Int)/\(i:Int)<b then x else y
def Z5(c:List Int)(a b x:Int):(AK c a b x).length=c.length:=by simp [AK]
def Vm(c:List Int)(a b x:Int)(h:min (max b 0) (c.length:Int)<=min (max a 0) (c.length:Int)):AK c a b x=c:=by
 apply jK;intro i;unfold AK;rw [List.getElem?_mapIdx];rcases iW i c.length with hi|hi
 ·rw [cO hi];show some (if _ then x else _)=_;rw [if_neg aa]
 ·rw [j4 hi];rfl
def Kj(c:List Int)(a b x:Int)(h:min (max a 0) (c.length:Int)<min (max b 0) (c.length:Int)):
  AK c a b x=IX c 0 (min (max a 0) (c.length:Int))++List.replicate (min (max b 0) (c.length:Int)-min (max a 0) (c.length:Int)).toNat x++IX c (min (max b 0) (c.length:Int)) c.length:=by
 have h1:(IX c 0 (min (max a 0) (c.length:Int))).length=(min (max a 0) (c.length:Int)).toNat:=by unfold IX;simp;omega
 apply jK;intro i;unfold AK;rw [List.getElem?_mapIdx,fY];rcases iW i c.length with hi|hi
 ·rw [cO hi];show some (if _ then x else _)=_;rcases iW i (min (max a 0) (c.length:Int)).toNat with hl|hl
  ·rw [if_neg aa,oX aa];unfold IX;rw [yW,qS];simp only [Int.toNat_zero,eK];rw [if_pos hl,cO hi]
  ·rw [pY aa,h1];rcases iW i (min (max b 0) (c.length:Int)).toNat with hm|hm
   ·rw [if_pos aa,oX (by rw [Hf];omega),zZ,if_pos aa]
   ·rw [if_neg aa,pY (by rw [Hf];omega),Hf];unfold IX;rw [yW,qS,if_pos aa];rw [show (min (max b 0) (c.length:Int)).toNat+(i-(min (max a 0) (c.length:Int)).toNat-(min (max b 0) (c.length:Int)-min (max a 0) (c.length:Int)).toNat)=i from by omega];rw [cO hi]
 ·rw [j4 hi];symm;rw [Option.map_none,j4];simp only [bY,Hf,h1];unfold IX;simp;omega
def Z6(c:List Int)(i x:Int)(h0:0<=i)(h1:i<(c.length:Int)):AK c i (i+1) x=c.set i.toNat x:=by
 apply jK;intro j;unfold AK;rw [List.getElem?_mapIdx,iX];rcases iW j c.length with hj|hj
 ·rw [cO hj];show some (if _ then x else _)=_;by_cases e:i.toNat=j
  ·rw [if_pos aa,if_pos e,if_pos aa]
  ·rw [if_neg aa,if_neg e]
 ·rw [j4 hj,if_neg aa];rfl
def atC(c:List Int)(i:Int):Int:=if i<0 then -1 else c.getD i.toNat (-1)
def aix(c:List Int)(i:Int)(h:i<0\/(c.length:Int)<=i):atC c i= -1:=by
 unfold atC;split
 ·rfl
 ·rw [dn,j4 aa];rfl
def amn(c d:List Int)(n:Nat)(x i:Int)(h0:(c.length:Int)<=i)(h1:i<(c.length:Int)+n):atC (c++List.replicate n x++d) i=x:=by unfold atC;rw [if_neg aa,dn,fY,pY aa,oX (by rw [Hf];omega),zZ,if_pos aa];rfl
def kH(may:Int->Bool):Option Int->Int->List Rn->Bool
 |_,left,[]=>left==0
 |prev,left,r::t=>if r.1<1\/r.1>left\/may r.2=false\/prev=some r.2 then false else kH may (some r.2) (left-r.1) t
def sG(may:Int->Bool)(l:List Rn)(n:Int):Bool:=decide (0<n) && kH may none n l
def Ra{may:Int->Bool}:∀{l:List Rn} {prev:Option Int} {left:Int},kH may prev left l=true->bG l=left
 | [],_,left,h=>by simp [kH] at h;rw [h];rfl
 |r::t,prev,left,h=>by
  unfold kH at h
  split at h
  ·cases h
  ·have:=Ra h
   simp only [bG,eL,List.sum_cons] at this ⊢
   omega
def BH{may:Int->Bool}:∀{l:List Rn} {prev:Option Int} {left:Int},(∀r ∈ l,1<=r.1/\may r.2=true)->(∀i q r,l[i]? =some q->l[i+1]? =some r->q.2≠r.2)->(∀r,l.head? =some r->prev≠some r.2)->bG l=left->kH may prev left l=true
 | [],_,left,_,_,_,h=>by simp [kH,<-h,bG]
 |r::t,prev,left,h1,h2,h3,h=>by
  have hr:=h1 r (.head _)
  have ht:0<=bG t:=by rw [fh λq hq=>by have:=h1 q (.tail _ hq);omega];omega
  have e:bG (r::t)=r.1+bG t:=by simp [bG]
  unfold kH;rw [if_neg (by
   have:=h3 r rfl;rintro (h|h|h|h)
   ·omega
   ·omega
   ·rw [hr.2] at h;cases h
   ·exact this h)]
  refine BH (λq hq=>h1 q (.tail _ hq)) (λi q s hq hs=>h2 (i+1) q s (by simpa using hq) (by simpa using hs)) (λq hq=> ?_) aa;have:=h2 0 r q rfl (by cases t<;>simp_all);intro e2;exact this (Option.some.inj e2)
def Nm.next{l:List Rn}(h:Nm l):∀i q r,l[i]? =some q->l[i+1]? =some r->q.2≠r.2:=by
 induction h with
 |nil=>intro i q r h;simp at h
 |snoc l p hl h1 h2 ih=>
  intro i q r hq hr;rcases iW (i+1) l.length with fD|OK
  ·rw [oX aa] at hq hr;exact ih i q r hq hr
  ·have hi:=(cP.1 hr).1;simp at hi;have:i+1=l.length:=by omega
   rw [oX aa] at hq;rw [pY aa,this] at hr;simp at hr;subst hr;refine h2 q ?_;rw [List.getLast?_eq_getElem?,show l.length-1=i from by omega];exact hq
def ZF{l:List Rn}{r:Rn}(h:r ∈ l)(h1:1<=r.1):r.2 ∈ cr l:=by unfold cr;refine List.mem_flatMap.2 ⟨r,h,?_⟩;rw [O4];exact ⟨aa,rfl⟩
end Go.aO
namespace Go.aO
end Go.aO
namespace Go.Code
open Go Go.Vc Go.aO
set_option maxRecDepth 100000
set_option maxHeartbeats 8000000
def vV:Nat->Int->List Int
 |0,_=> []
 |k+1,x=>if x<128 then [x] else (128+x % 128)::vV k (x / 128)
def qF(n:Int):List Int:=if n<0\/n>1048576 then [] else vV 3 n
def sE:Nat->Nat->Int->List Int->Int × Int × Int
 |0,_,_,_=>(0,0,2)
 |_+1,_,_,[]=>(0,0,3)
 |k+1,i,n,c::t=>if c>=128 then sE k (i+1) (n+c % 128*128 ^ i) t
  else if (c=0/\0<i)\/n+c % 128*128 ^ i>1048576 then (0,0,2) else (n+c % 128*128 ^ i,(i:Int)+1,0)
def fI(b:List Int):Int × Int × Int:=sE 3 0 0 b
def wrap_u8(x:Int):tO x=x % 256:=by unfold IntKind.wrap;simp [IntKind.bits,IntKind.signed]
def aqq(x:Int)(h:0<=x):TE .u8 (tO x) 128=128+x % 128:=by
 rw [wrap_u8];have key:∀a<256,TE .u8 ((a:Nat):Int) 128=128+((a:Nat):Int) % 128:=by decide+kernel
 have:=key (x % 256).toNat aa;rw [show (((x % 256).toNat:Nat):Int)=x % 256 from by omega] at this;rw [this];omega
def YS(c:Int)(h:0<=c)(h':c<256):mI .u8 c 128=c % 128:=by
 have key:∀a<256,mI .u8 ((a:Nat):Int) 128=((a:Nat):Int) % 128:=by decide+kernel
 have:=key c.toNat aa;rwa [show ((c.toNat:Nat):Int)=c from by omega] at this
def al2(n c k:Nat)(h:n<2 ^ k)(hb:n+c*2 ^ k<4611686018427387904):TE .i64 (n:Int) ((c*2 ^ k:Nat):Int)=((n+c*2 ^ k:Nat):Int):=by
 unfold TE;have e1:∀m:Nat,m<4611686018427387904->(BitVec.ofInt IntKind.i64.bits (m:Int)).toNat=m:=by intro m hm;rw [zc];show ((m:Int) %((2 ^ 64:Nat):Int)).toNat=m;rw [show ((2 ^ 64:Nat):Int)=18446744073709551616 from by decide];omega
 rw [BitVec.toNat_or,e1 n aa,e1 _ aa,Nat.or_comm];have:=Nat.shiftLeft_add_eq_or_of_lt h c;rw [Nat.shiftLeft_eq] at this;rw [<-this,yT];exact wI
end Go.Code
namespace Go.Code
open Go Go.Vc Go.aO
def al3(k:Nat)(hk:k<3)(n c:Int)(h0:0<=n)(h1:n<128 ^ k)(hc:0<=c)(hc':c<256):
  TE .i64 n (aC ((aC (mI .u8 c 128))*2 ^(min ((aC (7*(k:Int))):Int).toNat 64)))=n+c % 128*128 ^ k/\0<=aC (7*(k:Int)):=by
 have hw:=aK (n:=7*(k:Int)) inO;rw [hw,YS c hc hc',aK (n:=c % 128) inO];refine ⟨?_,aa⟩;have e:((2:Int) ^(min ((7*(k:Int)):Int).toNat 64))=128 ^ k:=by
  have:k=0\/k=1\/k=2:=by omega
  rcases this with rfl|rfl|rfl<;>decide
 rw [e];have hp:(128:Int) ^ k<=16384/\1<=(128:Int) ^ k:=by
  have:k=0\/k=1\/k=2:=by omega
  rcases this with rfl|rfl|rfl<;>decide
 have hm:c % 128*128 ^ k<=127*16384:=by
  have:k=0\/k=1\/k=2:=by omega
  rcases this with rfl|rfl|rfl<;>simp<;>omega
 have hm0:0<=c % 128*128 ^ k:=JR aa aa;rw [aK (n:=c % 128*128 ^ k) inO];have e7:((2 ^(7*k):Nat):Int)=128 ^ k:=by
  have:k=0\/k=1\/k=2:=by omega
  rcases this with rfl|rfl|rfl<;>decide
 have e2:c % 128*128 ^ k=(((c % 128).toNat*2 ^(7*k):Nat):Int):=by rw [Int.natCast_mul,e7,show (((c % 128).toNat:Nat):Int)=c % 128 from by omega]
 have:=al2 n.toNat (c % 128).toNat (7*k) (by
  have:((n.toNat:Nat):Int)<((2 ^(7*k):Nat):Int):=by rw [e7];omega
  omega) (by
  have:(((c % 128).toNat*2 ^(7*k):Nat):Int)<=127*16384:=by rw [<-e2];exact hm
  omega)
 rw [e2,show n=((n.toNat:Nat):Int) from by omega];rw [this];simp
def zI{k j:Nat}{n c:Int}{t:List Int}:sE (j+1) k n (c::t)=if c>=128 then sE j (k+1) (n+c % 128*128 ^ k) t
   else if (c=0/\0<k)\/n+c % 128*128 ^ k>1048576 then (0,0,2) else (n+c % 128*128 ^ k,(k:Int)+1,0):=rfl
def ac1(k:Nat)(n c:Int)(h1:n<128 ^ k):n+c % 128*128 ^ k<128 ^(k+1):=by have hp:0<=(128:Int) ^ k:=Int.pow_nonneg aa;have:c % 128*128 ^ k<=127*128 ^ k:=Int.mul_le_mul_of_nonneg_right aa hp;rw [Int.pow_succ];omega
end Go.Code
namespace Go.Code
open Go Go.Vc Go.aO
def Ga:Int->List Rn->Bool
 |_,[]=>true
 |left,r::t=>if r.1<1\/r.1>left then false else Ga (left-r.1) t
def PW:∀{l:List Rn} {left:Int},Ga left l=true->(∀r ∈ l,1<=r.1)/\(l≠ []->bG l<=left)
 | [],_,_=>⟨bo,λh=>absurd rfl h⟩
 |r::t,left,h=>by
  unfold Ga at h
  split at h
  ·cases h
  ·obtain ⟨h1,h2⟩:=PW h
   refine ⟨λq hq=> ?_,λ_=> ?_⟩
   ·rcases cj.1 hq with rfl|hq
    ·omega
    ·exact h1 q hq
   ·have e:bG (r::t)=r.1+bG t:=by simp [bG]
    by_cases ht:t=[]
    ·subst ht;rw [e];simp [bG];omega
    ·have:=h2 ht;omega
def okW(may:Int->Bool)(l:List Rn):Bool:=Ga 1048576 l && sG may l (bG l)
def su(l:List Rn):List Int:=l.flatMap λr=>r.2 % 256::qF r.1
def ahQ(l m:List Rn):su (l++m)=su l++su m:=by unfold su;rw [List.flatMap_append]
def ac2{l:List Rn}{k:Nat}{r:Rn}(hr:l[k]? =some r):su (l.take (k+1))=su (l.take k)++(r.2 % 256::qF r.1):=by rw [dq,hr,ahQ];simp [su]
def PX:∀(k:Nat)(x:Int),(vV k x).length<=k
 |0,_=>by simp [vV]
 |k+1,x=>by
  unfold vV
  split
  ·simp
  ·have:=PX k (x / 128);simp;omega
def PY(n:Int):(qF n).length<=3:=by
 unfold qF;split
 ·simp
 ·exact PX 3 n
def W4(l:List Rn):(su l).length<=4*l.length:=by
 induction l with
 |nil=>simp [su]
 |cons r l ih=>
  have:=PY r.1;unfold su at ih ⊢;rw [List.flatMap_cons,bY,cD,cD];omega
def W9:∀(k:Nat)(x:Int),0<=x->∀c ∈ vV k x,0<=c/\c<256
 |0,_,_,c,h=>by simp [vV] at h
 |k+1,x,hx,c,h=>by
  unfold vV at h
  split at h
  ·simp at h;omega
  ·rcases cj.1 h with rfl|h
   ·omega
   ·exact W9 k (x / 128) aa c h
def ahR(n:Int):∀c ∈ qF n,0<=c/\c<256:=by
 intro c h;unfold qF at h;split at h
 ·simp at h
 ·exact W9 3 n aa c h
def alY(l:List Rn):∀c ∈ su l,0<=c/\c<256:=by
 intro c h;unfold su at h;obtain ⟨r,_,hc⟩:=List.mem_flatMap.1 h;rcases cj.1 hc with rfl|hc
 ·omega
 ·exact ahR r.1 c hc
end Go.Code
namespace Go.Code
open Go Go.Vc Go.aO
end Go.Code
namespace Go.Code
open Go Go.Vc Go.aO
def JU:∀{l:List Rn} {left:Int},(∀r ∈ l,1<=r.1)->bG l<=left->Ga left l=true
 | [],_,_,_=>rfl
 |r::t,left,h,hs=>by
  have e:bG (r::t)=r.1+bG t:=by simp [bG]
  have h1:=h r (.head _);have ht:0<=bG t:=by rw [fh λq hq=>by have:=h q (.tail _ hq);omega];omega
  unfold Ga;rw [if_neg aa];exact JU (λq hq=>h q (.tail _ hq)) aa
def al4{may:Int->Bool}{l:List Rn}(h:Nm l)(hm:∀r ∈ l,may r.2=true)(hs:bG l<=1048576)(fA:l≠ []):okW may l=true:=by
 unfold okW;rw [JU h.pos hs];unfold sG;have hp:0<bG l:=by
  cases l with
  |nil=>exact absurd rfl fA
  |cons r t=>
   have e:bG (r::t)=r.1+bG t:=by simp [bG]
   have h1:=h.pos r (.head _);have ht:0<=bG t:=by rw [fh λq hq=>by have:=h.pos q (.tail _ hq);omega];omega
   omega
 rw [decide_eq_true hp,BH (λr hr=>⟨h.pos r hr,hm r hr⟩) h.next (λr _=>by simp) rfl];rfl
end Go.Code
namespace Go.Code
open Go Go.Vc Go.aO
def om(may:Int->Bool):Nat->List Int->Int->Int->List Rn->List Rn × Int
 |0,_,_,_,_=>([],3)
 |_+1,[],n,_,acc=>if n>0 then ([],3) else (acc,0)
 |f+1,c::t,n,last,acc=>
  if may c=false\/c=last then ([],2)
  else if (fI t).2.2≠0 then ([],(fI t).2.2)
  else if (fI t).1=0\/(fI t).1>n then ([],2)
  else if n-(fI t).1=0 then (if t.drop (fI t).2.1.toNat=[] then (acc++ [((fI t).1,c)],0) else ([],2))
  else om may f (t.drop (fI t).2.1.toNat) (n-(fI t).1) c (acc++ [((fI t).1,c)])
def j9(may:Int->Bool)(b:List Int)(n:Int):List Rn × Int:=om may (b.length+1) b n (-1) []
def ER:∀(k i:Nat)(m:Int)(b:List Int),0<=m->(sE k i m b).2.2=0->0<=(sE k i m b).1/\(sE k i m b).1<=1048576/\(i:Int)+1<=(sE k i m b).2.1/\(sE k i m b).2.1<=(i:Int)+b.length
 |0,_,_,_,_,h=>by simp [sE] at h
 |k+1,i,m,[],_,h=>by simp [sE] at h
 |k+1,i,m,c::t,h0,h=>by
  have hp:0<=c % 128*128 ^ i:=JR aa (Int.pow_nonneg aa)
  rw [zI] at h ⊢
  split
  ·rename_i hc
   rw [if_pos hc] at h
   have:=ER k (i+1) _ t aa h
   simp only [cD]
   omega
  ·rename_i hc
   rw [if_neg hc] at h
   split
   ·rename_i hz;rw [if_pos hz] at h;simp at h
   ·rename_i hz
    simp only [cD]
    refine ⟨aa,?_,aa,aa⟩
    rcases wL 1048576 (m+c % 128*128 ^ i) with hh|hh
    ·exact absurd (.inr hh) hz
    ·exact hh
end Go.Code
namespace Go.Code
open Go Go.Vc Go.aO
set_option maxRecDepth 100000
set_option maxHeartbeats 8000000
def KI{may:Int->Bool}{f:Nat}{n last:Int}{acc:List Rn}:om may (f+1) [] n last acc=if n>0 then ([],3) else (acc,0):=rfl
def Dq(may:Int->Bool)(f:Nat)(c:Int)(t:List Int)(n last:Int)(acc:List Rn):om may (f+1) (c::t) n last acc=
  if may c=false\/c=last then ([],2)
  else if (fI t).2.2≠0 then ([],(fI t).2.2)
  else if (fI t).1=0\/(fI t).1>n then ([],2)
  else if n-(fI t).1=0 then (if t.drop (fI t).2.1.toNat=[] then (acc++ [((fI t).1,c)],0) else ([],2))
  else om may f (t.drop (fI t).2.1.toNat) (n-(fI t).1) c (acc++ [((fI t).1,c)]):=rfl
def KJ{may:Int->Bool}:∀(f:Nat)(b:List Int)(n last:Int)(acc:List Rn),(om may f b n last acc).1.length<=acc.length+b.length
 |0,_,_,_,_=>by simp [om]
 |f+1,[],n,_,acc=>by rw [KI];split<;>simp
 |f+1,c::t,n,last,acc=>by
  rw [Dq]
  split
  ·simp
  split
  ·simp
  split
  ·simp
  split
  ·split<;>simp
  ·have:=KJ (may:=may) f (t.drop (fI t).2.1.toNat) (n-(fI t).1) c (acc++ [((fI t).1,c)])
   simp only [bY,cD,kX,qe] at this ⊢
   omega
def aaW{may:Int->Bool}(b:List Int)(n:Int):(j9 may b n).1.length<=b.length:=by have:=KJ (may:=may) (b.length+1) b n (-1) [];simpa [j9] using this
def jq(may:Int->Bool):Int->List Rn->Prop
 |_,[]=>True
 |last,r::t=>1<=r.1/\r.1<=1048576/\0<=r.2/\r.2<256/\may r.2=true/\r.2≠last/\jq may r.2 t
def jq.pos{may:Int->Bool}:∀{l:List Rn} {last:Int},jq may last l->∀r ∈ l,1<=r.1
 | [],_,_=>by simp
 |q::t,_,h=>by
  obtain ⟨h1,_,_,_,_,_,h7⟩:=h
  intro r hr
  rcases cj.1 hr with rfl|hr
  ·exact h1
  ·exact h7.pos r hr
def Sq(r:Rn)(t:List Rn)(h:0<=r.2/\r.2<256):su (r::t)=r.2::(qF r.1++su t):=by unfold su;rw [List.flatMap_cons,Int.emod_eq_of_lt h.1 h.2];rfl
def aaX(r:Rn)(t:List Rn):bG (r::t)=r.1+bG t:=by simp [bG]
def afb{t:List Int}(hi:∀c ∈ t,0<=c/\c<256)(h:(fI t).2.2=0):qF (fI t).1=t.take (fI t).2.1.toNat:=by
 unfold fI at h ⊢
 cases t with
 |nil=>simp [sE] at h
 |cons a t=>
  have ha:=hi a (.head _);rw [zI] at h ⊢;split
  ·rename_i ha2;rw [if_pos ha2] at h
   cases t with
   |nil=>simp [sE] at h
   |cons b t=>
    have hb:=hi b (.tail _ (.head _));rw [zI] at h ⊢;split
    ·rename_i lK;rw [if_pos lK] at h
     cases t with
     |nil=>simp [sE] at h
     |cons c t=>
      have hc:=hi c (.tail _ (.tail _ (.head _)));rw [zI] at h ⊢;split
      ·rename_i nG;rw [if_pos nG] at h;simp [sE] at h
      ·rename_i nG;rw [if_neg nG] at h;split
       ·rename_i hz;rw [if_pos hz] at h;simp at h
       ·rename_i hz;have e:(0+a % 128*128 ^ 0+b % 128*128 ^(0+1)+c % 128*128 ^(0+1+1):Int)=a % 128+b % 128*128+c % 128*16384:=by simp
        rw [e] at hz ⊢;have Eo:c≠0:=λe0=>hz (.inl ⟨e0,aa⟩)
        have hle:a % 128+b % 128*128+c % 128*16384<=1048576:=by
         rcases wL 1048576 (a % 128+b % 128*128+c % 128*16384) with hh|hh
         ·exact absurd (.inr hh) hz
         ·exact hh
        have ec:c % 128=c:=by omega
        rw [ec] at hle ⊢;unfold qF;rw [if_neg aa];simp only [vV];rw [if_neg aa,if_neg aa,if_pos aa];have e1:128+(a % 128+b % 128*128+c*16384) % 128=a:=by omega
        have e2:128+(a % 128+b % 128*128+c*16384) / 128 % 128=b:=by omega
        have e3:(a % 128+b % 128*128+c*16384) / 128 / 128=c:=by omega
        rw [e1,e2,e3];rfl
    ·rename_i lK;rw [if_neg lK] at h;split
     ·rename_i hz;rw [if_pos hz] at h;simp at h
     ·rename_i hz;have e:(0+a % 128*128 ^ 0+b % 128*128 ^(0+1):Int)=a % 128+b % 128*128:=by simp
      rw [e] at hz ⊢;have Oo:b≠0:=λe0=>hz (.inl ⟨e0,aa⟩)
      have ec:b % 128=b:=by omega
      rw [ec] at hz ⊢;unfold qF;rw [if_neg aa];simp only [vV];rw [if_neg aa,if_pos aa];have e1:128+(a % 128+b*128) % 128=a:=by omega
      have e2:(a % 128+b*128) / 128=b:=by omega
      rw [e1,e2];rfl
  ·rename_i ha2;rw [if_neg ha2] at h;split
   ·rename_i hz;rw [if_pos hz] at h;simp at h
   ·have ec:a % 128=a:=by omega
    rw [ec];have e:(0+a*128 ^ 0:Int)=a:=by simp
    rw [e];unfold qF;rw [if_neg aa];simp only [vV];rw [if_pos aa];rfl
def Dr{may:Int->Bool}:∀(f:Nat)(b:List Int)(n last:Int)(acc:List Rn),(∀c ∈ b,0<=c/\c<256)->1<=n->(om may f b n last acc).2=0->
  ∃l,(om may f b n last acc).1=acc++l/\su l=b/\jq may last l/\bG l=n/\l≠ []
 |0,_,_,_,_,_,_,h=>by simp [om] at h
 |f+1,[],n,_,acc,_,hn,h=>by rw [KI,if_pos aa] at h;simp at h
 |f+1,c::t,n,last,acc,hi,hn,h=>by
  have hc:=hi c (.head _)
  have ht:∀c ∈ t,0<=c/\c<256:=λq hq=>hi q (.tail _ hq)
  rw [Dq] at h ⊢
  split
  ·rename_i h1;rw [if_pos h1] at h;simp at h
  rename_i h1
  rw [if_neg h1] at h
  split
  ·rename_i h2;rw [if_pos h2] at h;exact absurd h h2
  rename_i h2
  rw [if_neg h2] at h
  split
  ·rename_i h3;rw [if_pos h3] at h;simp at h
  rename_i h3
  rw [if_neg h3] at h
  have V3:(fI t).2.2=0:=Decidable.not_not.1 h2
  have hd:=ER 3 0 0 t aa V3
  have ajR:=afb ht V3
  rw [show sE 3 0 0 t=fI t from rfl] at hd
  generalize hdg:fI t=d at*
  obtain ⟨sz,k,er⟩:=d
  simp only at h h3 hd ajR ⊢
  have ajK:may c=true:=by
   cases hm:may c with
   |true=>rfl
   |false=>exact absurd (.inl hm) h1
  have hcl:c≠last:=λe=>h1 (.inr e)
  have xc:qF sz++t.drop k.toNat=t:=by rw [ajR];exact tn _ _
  split
  ·rename_i h4;rw [if_pos h4] at h;split
   ·rename_i h5;refine ⟨[(sz,c)],rfl,?_,⟨by show 1<=sz;omega,by show sz<=1048576;omega,hc.1,hc.2,ajK,hcl,trivial⟩,by simp [bG];omega,bo⟩;rw [Sq _ _ hc];rw [h5,mX] at xc;simp [xc,su]
   ·rename_i h5;rw [if_neg h5] at h;simp at h
  ·rename_i h4;rw [if_neg h4] at h;obtain ⟨l,e1,e2,e3,e4,e5⟩:=Dr f (t.drop k.toNat) (n-sz) c (acc++ [(sz,c)]) (λq hq=>ht q (zk hq)) aa h;refine ⟨(sz,c)::l,by rw [e1];simp,?_,⟨by show 1<=sz;omega,by show sz<=1048576;omega,hc.1,hc.2,ajK,hcl,e3⟩,by rw [aaX];show sz+bG l=n;omega,bo⟩;rw [Sq _ _ hc,e2];show c::(qF sz++t.drop k.toNat)=_;rw [xc]
def jq.of{may:Int->Bool}:∀{l:List Rn} {last:Int},(∀r ∈ l,1<=r.1/\r.1<=1048576/\0<=r.2/\r.2<256/\may r.2=true)->(∀i q r,l[i]? =some q->l[i+1]? =some r->q.2≠r.2)->(∀r,l.head? =some r->r.2≠last)->jq may last l
 | [],_,_,_,_=>trivial
 |r::t,last,h1,h2,h3=>by
  obtain ⟨a,b,c,d,e⟩:=h1 r (.head _)
  refine ⟨a,b,c,d,e,h3 r rfl,jq.of (λq hq=>h1 q (.tail _ hq)) (λi q s hq hs=>h2 (i+1) q s (by simpa using hq) (by simpa using hs)) (λq hq=> ?_)⟩
  have:=h2 0 r q rfl (by cases t<;>simp_all)
  exact λe=>this e.symm
def jq.next{may:Int->Bool}:∀{l:List Rn} {last:Int},jq may last l->∀i q r,l[i]? =some q->l[i+1]? =some r->q.2≠r.2
 | [],_,_,i,q,r,h,_=>by simp at h
 | [x],_,_,i,q,r,h,h'=>by simp at h'
 |x::y::t,_,h,0,q,r,hq,hr=>by
  simp at hq hr;subst hq;subst hr
  exact λe=>h.2.2.2.2.2.2.2.2.2.2.2.1 e.symm
 |x::y::t,_,h,i+1,q,r,hq,hr=>h.2.2.2.2.2.2.next i q r (by simpa using hq) (by simpa using hr)
def jq.mem{may:Int->Bool}:∀{l:List Rn} {last:Int},jq may last l->∀r ∈ l,1<=r.1/\r.1<=1048576/\0<=r.2/\r.2<256/\may r.2=true
 | [],_,_,r,h=>by cases h
 |q::t,_,h,r,hr=>by
  rcases cj.1 hr with rfl|hr
  ·exact ⟨h.1,h.2.1,h.2.2.1,h.2.2.2.1,h.2.2.2.2.1⟩
  ·exact h.2.2.2.2.2.2.mem r hr
def jq.sG{may:Int->Bool}{l:List Rn}{last:Int}(h:jq may last l)(fA:1<=bG l):sG may l (bG l)=true:=by unfold Go.aO.sG;rw [decide_eq_true aa,BH (λr hr=>⟨h.pos r hr,(h.mem r hr).2.2.2.2⟩) h.next (λr _=>by simp) rfl];rfl
end Go.Code
namespace Go.cC
open Go Go.Vc
set_option maxRecDepth 100000
set_option maxHeartbeats 8000000
abbrev Ce:=Int × Int × Int
abbrev Po:=Int × Int
def tdm{a b:Int}(hb:0<b):(a.tmod b<0->a / b=a.tdiv b-1/\a % b=a.tmod b+b)/\(0<=a.tmod b->a / b=a.tdiv b/\a % b=a.tmod b)/\-b<a.tmod b/\a.tmod b<b:=by
 have h1:b*a.tdiv b+a.tmod b=a:=Int.mul_tdiv_add_tmod a b;have h2:a.tmod b<b:=Int.tmod_lt_of_pos a hb;have h3: -b<a.tmod b:=by have:=Int.tmod_lt_of_pos (-a) hb;rw [Int.neg_tmod] at this;omega
 refine ⟨λh=> ?_,λh=> ?_,h3,h2⟩
 ·have:=(Int.ediv_emod_unique hb (a:=a) (q:=a.tdiv b-1) (r:=a.tmod b+b)).2 ⟨by rw [Int.mul_sub];omega,aa,aa⟩;exact this
 ·exact (Int.ediv_emod_unique hb (a:=a) (q:=a.tdiv b) (r:=a.tmod b)).2 ⟨aa,aa,aa⟩
def ahD{a b:Int}(ha:cT a)(hb:0<b):cT (a / b):=by
 unfold cT at*;have h1:=Int.emod_nonneg a (by omega:b≠0);have h2:=Int.emod_lt_of_pos a hb;have h3:=Int.mul_ediv_add_emod a b;rcases wL a 0 with h|h
 ·have h4:a<=a / b:=by rw [Int.le_ediv_iff_mul_le hb];have:=Int.mul_le_mul_of_nonpos_left (a:=a) (b:=b) (c:=1) aa aa;omega
  have h5:a / b<0:=Int.ediv_neg_of_neg_of_pos h hb;omega
 ·have h4:a / b<=a:=Int.ediv_le_self b h;have h5:0<=a / b:=Int.ediv_nonneg h aa;omega
def ahE{a b:Int}(ha:cT a)(hb:0<b):cT (a.tdiv b):=by
 unfold cT at*;rcases wL a 0 with h|h
 ·have h1:a.tdiv b= -((-a) / b):=by rw [<-uO aa,Int.neg_tdiv];omega
  have h4:(-a) / b<=-a:=Int.ediv_le_self b aa;have h5:0<=(-a) / b:=Int.ediv_nonneg aa aa;omega
 ·rw [uO h];have h4:a / b<=a:=Int.ediv_le_self b h;have h5:0<=a / b:=Int.ediv_nonneg h aa;omega
def u64_in(n:Int):0<=fJ n/\fJ n<18446744073709551616:=by unfold IntKind.wrap;simp only [IntKind.bits,IntKind.signed];simp;omega
def xE{n:Int}(h:0<=n/\n<18446744073709551616):fJ n=n:=by unfold IntKind.wrap;simp only [IntKind.bits,IntKind.signed];simp;omega
def mix(aj x z:Int):Int:=fJ ((fJ ((fJ ((fJ aj)*11400714819323198485))+(fJ ((fJ x)*14029467366897019727))))+(fJ ((fJ z)*1609587929392839161)))
def hash(aj x z:Int):Int:=
 lF .u64 (fJ ((lF .u64 (mix aj x z) (mix aj x z / 536870912))*13787848793156543929)) (fJ ((lF .u64 (mix aj x z) (mix aj x z / 536870912))*13787848793156543929) / 4294967296)
def ahO(aj x z:Int):0<=hash aj x z:=by unfold hash lF;exact (u64_in _).1
def avE(n:Int):(fJ n).fdiv (2 ^(min (29:Int).toNat 64))=fJ n / 536870912:=tB _ aw
def avF(n:Int):(fJ n).fdiv (2 ^(min (32:Int).toNat 64))=fJ n / 4294967296:=tB _ aw
def iw(aj x z:Int):Int:=hash aj x z % 9
def ground(aj x z:Int):Int:=
 6+(iw aj (x / 8) (z / 8)*((8-x % 8)*(8-z % 8))+iw aj (x / 8+1) (z / 8)*(x % 8*(8-z % 8))+iw aj (x / 8) (z / 8+1)*((8-x % 8)*(z % 8))+iw aj (x / 8+1) (z / 8+1)*(x % 8*(z % 8))) / 64
def TI(y g:Int):Int:=
 if y<0\/32<=y then 0 else if y=0\/y<g-3 then 1 else if y<g-1\/(y=g-1/\9<g) then 2 else if y=g-1 then 3 else if y<9 then 8 else 0
def uQ{c u v:Int}(hc:0<=c/\c<=8)(hu:0<=u/\u<=8)(hv:0<=v/\v<=8):0<=u*v/\u*v<=64/\0<=c*(u*v)/\c*(u*v)<=512:=by have h1:0<=u*v:=JR hu.1 hv.1;have h2:u*v<=8*8:=Int.mul_le_mul hu.2 hv.2 hv.1 aw;have h3:0<=c*(u*v):=JR hc.1 h1;have h4:c*(u*v)<=8*64:=Int.mul_le_mul hc.2 h2 h1 aw;exact ⟨h1,h2,h3,h4⟩
def jC(s x z:Int):0<=iw s x z/\iw s x z<=8:=by unfold iw;omega
def JS(s x z:Int):6<=ground s x z/\ground s x z<=100:=by unfold ground;have a:=uQ (jC s (x / 8) (z / 8)) (u:=8-x % 8) (v:=8-z % 8) aa aa;have b:=uQ (jC s (x / 8+1) (z / 8)) (u:=x % 8) (v:=8-z % 8) aa aa;have c:=uQ (jC s (x / 8) (z / 8+1)) (u:=8-x % 8) (v:=z % 8) aa aa;have d:=uQ (jC s (x / 8+1) (z / 8+1)) (u:=x % 8) (v:=z % 8) aa aa;omega
def idx(c:Ce):Int:=(c.2.1*16+c.2.2 % 16)*16+c.1 % 16
def PD(c:Ce):Prop:=0<=c.2.1/\c.2.1<32
def pos(c:Ce):Po:=(c.1 / 16,c.2.2 / 16)
def cellAt(p:Po)(i:Int):Ce:=(p.1*16+i % 16,i / 256,p.2*16+i / 16 % 16)
def ad8{c:Ce}(h:PD c):0<=idx c/\idx c<8192:=by unfold idx;unfold PD at h;omega
def made(aj:Int)(p:Po):List Int:=(List.range 8192).map λi:Nat=>TI ((i:Int) / 256) (ground aj (p.1*16+(i:Int) % 16) (p.2*16+(i:Int) / 16 % 16))
def qZ(aj:Int)(p:Po):(made aj p).length=8192:=by simp [made]
def Z0(y g:Int):TI y g=0\/TI y g=1\/TI y g=2\/TI y g=3\/TI y g=8:=by
 unfold TI;split
 ·exact .inl rfl
 ·split
  ·exact .inr (.inl rfl)
  ·split
   ·exact .inr (.inr (.inl rfl))
   ·split
    ·exact .inr (.inr (.inr (.inl rfl)))
    ·split
     ·exact .inr (.inr (.inr (.inr rfl)))
     ·exact .inl rfl
end Go.cC
namespace Go.cC
open Go Go.Vc Go.aO
set_option maxRecDepth 100000
set_option maxHeartbeats 8000000
end Go.cC
namespace Go.cC
open Go Go.Vc Go.aO
end Go.cC
namespace Go.cC
open Go Go.Vc Go.aO
set_option maxRecDepth 100000
set_option maxHeartbeats 8000000
def akH:∀(n:Nat)(l:List Rn),l.length=n->(∀r ∈ l,1<=r.1)->(∀i q r,l[i]? =some q->l[i+1]? =some r->q.2≠r.2)->Nm l
 |0,l,hn,_,_=>by
  have:l=[]:=CR hn
  subst this;exact .nil
 |n+1,l,hn,h1,h2=>by
  rcases xU l with rfl|⟨m,q,rfl⟩
  ·simp at hn
  ·have hm:m.length=n:=by simpa using hn
   refine .snoc m q (akH n m hm (λr hr=>h1 r (G5 _ hr)) (λi a b ha hb=> ?_)) (h1 q bo) (λp hp=> ?_)
   ·have hb':=(cP.1 hb).1;exact h2 i a b (by rw [oX aa];exact ha) (by rw [oX aa];exact hb)
   ·have fA:m≠ []:=by rintro rfl;simp at hp
    have db:0<m.length:=List.length_pos_iff.2 fA;rw [List.getLast?_eq_getElem?] at hp;refine h2 (m.length-1) p q ?_ ?_
    ·rw [oX aa];exact hp
    ·rw [show m.length-1+1=m.length by omega,pY (ak _),Nat.sub_self];rfl
def RQ{may:Int->Bool}:∀{l:List Rn} {prev:Option Int} {left:Int},kH may prev left l=true->
  (∀r ∈ l,1<=r.1/\may r.2=true)/\(∀i q r,l[i]? =some q->l[i+1]? =some r->q.2≠r.2)/\∀r,l.head? =some r->prev≠some r.2
 | [],_,_,_=>⟨bo,bo,bo⟩
 |r::t,prev,left,h=>by
  unfold kH at h
  split at h
  ·cases h
  ·rename_i hn
   obtain ⟨a1,a2,a3⟩:=RQ h
   have hm:may r.2=true:=by
    cases hq:may r.2 with
    |true=>rfl
    |false=>exact absurd (.inr (.inr (.inl hq))) hn
   have hp:prev≠some r.2:=λe=>hn (.inr (.inr (.inr e)))
   refine ⟨λq hq=> ?_,λi q s hq hs=> ?_,λq hq=> ?_⟩
   ·rcases cj.1 hq with rfl|hq
    ·exact ⟨aa,hm⟩
    ·exact a1 q hq
   ·cases i with
    |zero=>
     simp only [aqO,Option.some.injEq] at hq;subst hq;simp only [J6] at hs;have:t.head? =some s:=by cases t<;>simp_all
     intro e;exact a3 s this (by rw [e])
    |succ i=>exact a2 i q s (by simpa using hq) (by simpa using hs)
   ·simp only [List.head?_cons,Option.some.injEq] at hq;subst hq;exact hp
def RR{may:Int->Bool}{l:List Rn}{n:Int}(h:sG may l n=true):iG (cr l)=l/\(∀b ∈ cr l,may b=true)/\((cr l).length:Int)=n:=by
 unfold sG at h;rw [gP] at h;obtain ⟨a1,a2,_⟩:=RQ h.2;refine ⟨(akH l.length l rfl (λr hr=>(a1 r hr).1) a2).fix,λb hb=> ?_,?_⟩
 ·unfold cr at hb;obtain ⟨r,hr,hb⟩:=List.mem_flatMap.1 hb;rw [(O4.1 hb).2];exact (a1 r hr).2
 ·rw [<-fh λr hr=>by have:=(a1 r hr).1;omega];exact Ra h.2
end Go.cC
namespace Go.cC
open Go Go.Vc Go.aO
set_option maxRecDepth 100000
set_option maxHeartbeats 8000000
def EP(p:Po):Prop:=(-524288<=p.1/\p.1<524288)/\-524288<=p.2/\p.2<524288
instance (p:Po):Decidable (EP p):=by unfold EP;exact inferInstance
def Bi(p:Po):Int:=if EP p then (p.1+524288)*1048576+(p.2+524288)+1 else 0
def ahG{p:Po}(h:EP p):1<=Bi p/\Bi p<=1099511627776:=by unfold Bi;rw [if_pos h];unfold EP at h;omega
def ahH{p:Po}(h:¬EP p):Bi p=0:=by unfold Bi;rw [if_neg h]
end Go.cC
namespace Go.cC
open Go Go.Vc Go.aO
def bL{α:Type}(q:α->Bool):List α->Int
 | []=> -1
 |x::t=>if q x then 0 else if bL q t<0 then -1 else bL q t+1
def mZ{α:Type}{q:α->Bool}:∀{l:List α},(∀y ∈ l,q y=false)->bL q l= -1
 | [],_=>rfl
 |x::t,h=>by
  have h1:=h x (.head _)
  have h2:=mZ (l:=t) λy hy=>h y (.tail _ hy)
  unfold bL
  rw [if_neg (by rw [h1];decide),if_pos aa]
def vC{α:Type}{q:α->Bool}:∀{l:List α} {k:Nat} {x:α},l[k]? =some x->q x=true->(∀j,j<k->∀y,l[j]? =some y->q y=false)->bL q l=k
 | [],k,x,h,_,_=>by simp at h
 |y::t,0,x,h,hq,_=>by
  simp at h;subst h
  unfold bL
  rw [if_pos hq];rfl
 |y::t,k+1,x,h,hq,hn=>by
  have h1:=hn 0 aa y rfl
  have h2:=vC (l:=t) (k:=k) (x:=x) (by simpa using h) hq (λj hj z hz=>hn (j+1) aa z (by simpa using hz))
  unfold bL
  rw [if_neg (by rw [h1];decide),if_neg aa,h2]
  omega
def di{α:Type}(q:α->Bool):∀(l:List α),(bL q l= -1/\∀y ∈ l,q y=false)\/∃k x,l[k]? =some x/\q x=true/\bL q l=(k:Nat)/\∀j,j<k->∀y,l[j]? =some y->q y=false
 | []=> .inl ⟨rfl,bo⟩
 |x::t=>by
  cases hq:q x with
  |true=>exact .inr ⟨0,x,rfl,hq,by unfold bL;rw [if_pos hq];rfl,aa⟩
  |false=>
   rcases di q t with ⟨h1,h2⟩|⟨k,y,h1,h2,h3,h4⟩
   ·refine .inl ⟨by unfold bL;rw [if_neg (by rw [hq];decide),if_pos aa],λy hy=> ?_⟩
    rcases cj.1 hy with rfl|hy
    ·exact hq
    ·exact h2 y hy
   ·refine .inr ⟨k+1,y,by simpa using h1,h2,by unfold bL;rw [if_neg (by rw [hq];decide),if_neg aa,h3];omega,λj hj z hz=> ?_⟩
    cases j with
    |zero=>simp at hz;subst hz;exact hq
    |succ j=>exact h4 j aa z (by simpa using hz)
def mf{α β:Type}(f:α->β)(q:β->Bool):∀l:List α,bL q (l.map f)=bL (λa=>q (f a)) l
 | []=>rfl
 |x::t=>by simp only [eL,bL,mf f q t]
end Go.cC
namespace Go.cC
open Go Go.Vc Go.aO
set_option maxRecDepth 100000
set_option maxHeartbeats 8000000
abbrev mN:=BitVec 16
abbrev mK(b:List Int):Prop:=∀c ∈ b,0<=c/\c<256
def cI(v:mN):Int:=(v.toNat:Nat)
def TL(c:mN):mN:=if c.msb then (c<<<1) ^^^ 0x1021#16 else c<<<1
def IZ(c:mN):mN:=TL (TL (TL (TL c)))
def OJ(c:mN):mN:=IZ (IZ c)
def oT(x:Int):mN:=BitVec.ofInt 16 x
def aqW(c:mN)(x:Int):mN:=OJ (c ^^^(oT x<<<8))
def R8(c:mN)(b:List Int):mN:=b.foldl aqW c
def qV(b:List Int):mN:=R8 0xFFFF#16 b
def Ll(b:List Int):List Int:=[cI (qV b) / 256,cI (qV b) % 256]
def AW(v:mN):0<=cI v/\cI v<65536:=by unfold cI;have:=v.isLt;omega
def VH{a b:mN}:cI a=cI b ↔ a=b:=by unfold cI;refine ⟨λh=>BitVec.eq_of_toNat_eq aa,λh=>by rw [h]⟩
def qA{x:Int}(h:0<=x/\x<65536):(oT x).toNat=x.toNat:=by unfold oT;rw [zc];simp only [show ((2 ^ 16:Nat):Int)=65536 from rfl];rw [Int.emod_eq_of_lt h.1 h.2]
def VG{x:Int}(h:0<=x/\x<65536):cI (oT x)=x:=by unfold cI;rw [qA h];omega
def am2(v:mN):oT (cI v)=v:=VH.1 (VG (AW v))
def yp{a b:mN}(h:∀i:Nat,i<16->a.getLsbD i=b.getLsbD i):a=b:=BitVec.eq_of_getLsbD_eq h
def aa9{i:Nat}(h:i<16):i=0\/i=1\/i=2\/i=3\/i=4\/i=5\/i=6\/i=7\/i=8\/i=9\/i=10\/i=11\/i=12\/i=13\/i=14\/i=15:=by omega
def ai6(a b:mN)(n:Nat):(a ^^^ b)<<<n=(a<<<n) ^^^(b<<<n):=by
 apply yp;intro i hi;simp only [BitVec.getLsbD_xor,RW]
 cases decide (i<16)<;>cases decide (i<n)<;>simp
def E6(a b:mN):TL (a ^^^ b)=TL a ^^^ TL b:=by
 unfold TL;rw [BitVec.msb_xor,ai6]
 cases a.msb<;>cases b.msb<;>simp
 ·rw [BitVec.xor_assoc]
 ·rw [BitVec.xor_assoc,BitVec.xor_assoc];congr 1;rw [BitVec.xor_comm]
 ·generalize a<<<1=x;generalize b<<<1=y;apply yp;intro i _;simp only [BitVec.getLsbD_xor]
  cases x.getLsbD i<;>cases y.getLsbD i<;>cases (4129#16).getLsbD i<;>rfl
def E7(a b:mN):IZ (a ^^^ b)=IZ a ^^^ IZ b:=by unfold IZ;rw [E6,E6,E6,E6]
def ai7(a b:mN):OJ (a ^^^ b)=OJ a ^^^ OJ b:=by unfold OJ;rw [E7,E7]
def XZ(c:mN):c.msb=true ↔ 32768<=c.toNat:=by rw [BitVec.msb_eq_decide];simp
def A2{c:mN}(h:c.toNat<32768):TL c=c<<<1/\(c<<<1).toNat=2*c.toNat:=by
 constructor
 ·unfold TL;rw [if_neg];rw [XZ];omega
 ·rw [BitVec.toNat_shiftLeft,Nat.shiftLeft_eq];omega
def nB{c:mN}(h:TL c=0#16):c=0#16:=by
 unfold TL at h;split at h
 ·have:=congrArg (λv:mN=>v.getLsbD 0) h;simp at this
 ·rename_i hm;have hm:c.toNat<32768:=by rw [XZ] at hm;omega
  have h2:=(A2 hm).2;rw [h] at h2;exact BitVec.eq_of_toNat_eq (by simp at h2 ⊢;omega)
def SY{c:mN}(h:OJ c=0#16):c=0#16:=by unfold OJ IZ at h;exact nB (nB (nB (nB (nB (nB (nB (nB h)))))))
def A3{a b:mN}:a ^^^ b=0#16 ↔ a=b:=by
 constructor
 ·intro h;have:=congrArg (λv=>v ^^^ b) h;simpa [BitVec.xor_assoc] using this
 ·rintro rfl;exact BitVec.xor_self
def ai8{a b:mN}(h:OJ a=OJ b):a=b:=by rw [<-A3] at h ⊢;rw [<-ai7] at h;exact SY h
def A4(c:mN)(m n:Nat):(c<<<m)<<<n=c<<<(m+n):=(BitVec.shiftLeft_add c m n).symm
def E8{c:mN}(h:c.toNat<4096):IZ c=c<<<4:=by unfold IZ;have h1:=A2 (c:=c) aa;rw [h1.1];have h2:=A2 (c:=c<<<1) aa;rw [h2.1];have h3:=A2 (c:=c<<<1<<<1) aa;rw [h3.1];have h4:=A2 (c:=c<<<1<<<1<<<1) aa;rw [h4.1,A4,A4,A4]
def SZ(v y:mN)(hy:y.toNat<16):(v<<<4) ^^^ IZ (((v>>>12) ^^^ y)<<<12)=IZ (v ^^^(y<<<12)):=by
 have e:v ^^^(y<<<12)=(((v>>>12) ^^^ y)<<<12) ^^^(v &&& 0xFFF#16):=by apply yp;intro i hi;simp only [BitVec.getLsbD_xor,RW,BitVec.getLsbD_ushiftRight,RV];rcases aa9 hi with rfl|rfl|rfl|rfl|rfl|rfl|rfl|rfl|rfl|rfl|rfl|rfl|rfl|rfl|rfl|rfl<;>simp
 have hl:(v &&& 0xFFF#16).toNat<4096:=by rw [zK];exact RI Nat.and_le_right aw
 have e2:(v &&& 0xFFF#16)<<<4=v<<<4:=by apply yp;intro i hi;simp only [RW,RV];rcases aa9 hi with rfl|rfl|rfl|rfl|rfl|rfl|rfl|rfl|rfl|rfl|rfl|rfl|rfl|rfl|rfl|rfl<;>simp
 rw [e,E7,E8 hl,e2,BitVec.xor_comm]
def aba(v x:mN)(hx:x.toNat<256):IZ (IZ (v ^^^((x>>>4)<<<12)) ^^^((x &&& 15#16)<<<12))=OJ (v ^^^(x<<<8)):=by
 have e:v ^^^(x<<<8)=(v ^^^((x>>>4)<<<12)) ^^^((x &&& 15#16)<<<8):=by apply yp;intro i hi;simp only [BitVec.getLsbD_xor,RW,BitVec.getLsbD_ushiftRight,RV];rcases aa9 hi with rfl|rfl|rfl|rfl|rfl|rfl|rfl|rfl|rfl|rfl|rfl|rfl|rfl|rfl|rfl|rfl<;>simp
 have hl:(x &&& 15#16).toNat<16:=by rw [zK];exact RI Nat.and_le_right aw
 have TB:((x &&& 15#16)<<<8).toNat<4096:=by rw [BitVec.toNat_shiftLeft,Nat.shiftLeft_eq];omega
 unfold OJ;rw [e,E7 (v ^^^ _),E8 TB,A4]
def X0{c:mN}(h:c.toNat<256):OJ c=c<<<8:=by unfold OJ;rw [E8 (c:=c) aa,E8 (c:=c<<<4) (by rw [BitVec.toNat_shiftLeft,Nat.shiftLeft_eq];omega),A4]
def Di(c:mN)(a b:List Int):R8 c (a++b)=R8 (R8 c a) b:=nk ..
def ai1(c:mN){h l:Int}(hh:0<=h/\h<256)(hl:0<=l/\l<256):R8 c [h,l]=0#16 ↔ cI c=h*256+l:=by
 show OJ (OJ (c ^^^(oT h<<<8)) ^^^(oT l<<<8))=0#16 ↔ _;have n1:(oT l).toNat<256:=by rw [qA aa];omega
 have n2:(oT h).toNat<256:=by rw [qA aa];omega
 have z:OJ 0#16=0#16:=by decide
 have e1:OJ (OJ (c ^^^(oT h<<<8)) ^^^(oT l<<<8))=0#16 ↔ c=(oT h<<<8) ^^^ oT l:=by
  constructor
  ·intro q;have q1:=SY q;rw [A3,<-X0 n1] at q1;have q2:=ai8 q1;rw [<-q2,BitVec.xor_comm,BitVec.xor_assoc,BitVec.xor_self,BitVec.xor_zero]
  ·rintro rfl;rw [show (oT h<<<8 ^^^ oT l) ^^^ oT h<<<8=oT l by rw [BitVec.xor_comm,<-BitVec.xor_assoc,BitVec.xor_self,BitVec.zero_xor],X0 n1,BitVec.xor_self,z]
 rw [e1];have e2:((oT h<<<8) ^^^ oT l).toNat=h.toNat*256+l.toNat:=by
  have:(oT h<<<8) ^^^ oT l=(oT h<<<8)|||oT l:=by
   apply yp;intro i hi;have hb:∀j,8<=j->(oT l).getLsbD j=false:=λj hj=>Nat.testBit_lt_two_pow (gA n1 (Nat.pow_le_pow_right (n:=2) aw hj))
   simp only [BitVec.getLsbD_xor,BitVec.getLsbD_or,RW];by_cases h8:i<8
   ·simp [h8]
   ·rw [hb i aa];simp
  rw [this,BitVec.toNat_or,BitVec.toNat_shiftLeft,qA (x:=h) aa,qA (x:=l) aa,Nat.shiftLeft_eq];rw [Nat.mod_eq_of_lt aa];have:=Nat.two_pow_add_eq_or_of_lt (i:=8) (b:=l.toNat) aa h.toNat;rw [Nat.mul_comm h.toNat,<-this]
 constructor
 ·intro q;rw [q];unfold cI;rw [e2];omega
 ·intro q;apply BitVec.eq_of_toNat_eq;rw [e2];unfold cI at q;omega
def wrap_u16(x:Int):qB x=x % 65536:=by simp [IntKind.wrap,IntKind.bits,IntKind.signed]
def A5(n:Nat)(hn:16<=n)(v:mN):(BitVec.ofInt n (cI v)).toNat=v.toNat:=by unfold cI;rw [zc];have h1:=v.isLt;have h2:(2:Nat) ^ 16<=2 ^ n:=Nat.pow_le_pow_right aw hn;generalize (2:Nat) ^ n=m at*;rw [Int.emod_eq_of_lt aa aa];omega
def HD(a b:mN):lF .u16 (cI a) (cI b)=cI (a ^^^ b):=by show qB ((BitVec.ofInt 16 (cI a) ^^^ BitVec.ofInt 16 (cI b)).toNat:Nat)=_;rw [BitVec.toNat_xor,A5 16 aw,A5 16 aw,<-BitVec.toNat_xor,wrap_u16];show cI _ % 65536=cI _;have:=AW (a ^^^ b);omega
def am3(v:mN)(n:Nat):cI (v<<<n)=cI v*2 ^ n % 65536:=by unfold cI;rw [BitVec.toNat_shiftLeft,Nat.shiftLeft_eq,Int.natCast_emod,Int.natCast_mul,Int.natCast_pow];rfl
def VI(v:mN)(n:Nat):cI (v>>>n)=cI v / 2 ^ n:=by unfold cI;rw [BitVec.toNat_ushiftRight,Nat.shiftRight_eq_div_pow,Int.natCast_ediv,Int.natCast_pow];rfl
def XR(v:mN):cI (v &&& 0x8000#16)=0 ↔ v.msb=false:=by
 have pJ:v.msb=v.getLsbD 15:=rfl;constructor
 ·intro h;have h0:v &&& 0x8000#16=0#16:=VH.1 (by rw [h];rfl);have:=congrArg (λu:mN=>u.getLsbD 15) h0;simp only [RV] at this;rw [pJ];simpa using this
 ·intro h;have h0:v &&& 0x8000#16=0#16:=by apply yp;intro i hi;rw [pJ] at h;simp only [RV];rcases aa9 hi with rfl|rfl|rfl|rfl|rfl|rfl|rfl|rfl|rfl|rfl|rfl|rfl|rfl|rfl|rfl|rfl<;>first|(simp;done)|simpa using h
  rw [h0];rfl
def amF(a b:mN):tP .u16 (cI a) (cI b)=cI (a &&& b):=by show qB ((BitVec.ofInt 16 (cI a) &&& BitVec.ofInt 16 (cI b)).toNat:Nat)=_;rw [zK,A5 16 aw,A5 16 aw,<-zK,wrap_u16];show cI _ % 65536=cI _;have:=AW (a &&& b);omega
def XQ(v:mN)(n:Nat):qB (cI v*2 ^ n)=cI (v<<<n):=by rw [wrap_u16,am3]
def aeM(v:mN)(n:Nat):(cI v).fdiv (2 ^ n)=cI (v>>>n):=by rw [VI,tB];exact Int.le_of_lt (Int.pow_pos aw)
def av7{x:Int}(h:0<=x/\x<256):qB (x.fdiv (2 ^ 4))=cI (oT x>>>4):=by rw [VI,VG aa,tB _ aw,wrap_u16];simp only [show (2:Int) ^ 4=16 from rfl];omega
def av8{x:Int}(h:0<=x/\x<256):qB (tP .u8 x 15)=cI (oT x &&& 15#16):=by
 have e:tP .u8 x 15=cI (oT x &&& 15#16):=by
  show tO ((BitVec.ofInt 8 x &&& BitVec.ofInt 8 15).toNat:Nat)=_;have e8:(BitVec.ofInt 8 x).toNat=(oT x).toNat:=by rw [qA aa,zc];simp only [show ((2 ^ 8:Nat):Int)=256 from rfl];rw [Int.emod_eq_of_lt h.1 h.2]
  rw [zK,e8];unfold cI;rw [zK];have:(oT x).toNat &&&(15#16).toNat<16:=RI Nat.and_le_right aw;show tO (((oT x).toNat &&&(15#16).toNat:Nat):Int)=_;simp only [IntKind.wrap,IntKind.bits,IntKind.signed,C5,Bool.false_eq_true,if_false,show (2:Int) ^ 8=256 from rfl];omega
 rw [e,wrap_u16];have:=AW (oT x &&& 15#16);omega
def aeN{a b:mN}(ha:a.toNat<16)(hb:b.toNat<16):(a ^^^ b).toNat<16:=by rw [BitVec.toNat_xor];exact Nat.xor_lt_two_pow (n:=4) ha hb
def aeO(v:mN):(v>>>12).toNat<16:=by rw [BitVec.toNat_ushiftRight,Nat.shiftRight_eq_div_pow];have:=v.isLt;omega
def akK{x:Int}(h:0<=x/\x<256):(oT x>>>4).toNat<16:=by rw [BitVec.toNat_ushiftRight,Nat.shiftRight_eq_div_pow,qA aa];omega
def akM(x:mN):(x &&& 15#16).toNat<16:=by rw [zK];exact RI Nat.and_le_right aw
def tv(i:Nat):Value:=.int .u16 (cI (IZ (oT i<<<12)))
def tS:LV:=[tv 0,tv 1,tv 2,tv 3,tv 4,tv 5,tv 6,tv 7,tv 8,tv 9,tv 10,tv 11,tv 12,tv 13,tv 14,tv 15]
def tT(k:Nat):LV:=tS.take k++List.replicate (16-k) (.int .u16 0)
def amG{k:Nat}(hk:k<16):(tT k).set k (tv k)=tT (k+1):=by rcases aa9 hk with rfl|rfl|rfl|rfl|rfl|rfl|rfl|rfl|rfl|rfl|rfl|rfl|rfl|rfl|rfl|rfl<;>rfl
def akL{u:mN}(hu:u.toNat<16):tS[(cI u).toNat]? =some (.int .u16 (cI (IZ (u<<<12)))):=by
 have e:∀k:Nat,k<16->tS[k]? =some (tv k):=λk hk=>by rcases aa9 hk with rfl|rfl|rfl|rfl|rfl|rfl|rfl|rfl|rfl|rfl|rfl|rfl|rfl|rfl|rfl|rfl<;>rfl
 have h1:(cI u).toNat=u.toNat:=rfl;rw [h1,e _ hu];unfold tv;have:oT (u.toNat:Int)=u:=am2 u;rw [this]
def aaA(v:mN){x:Int}(h:0<=x/\x<256):
  cI ((((v<<<4) ^^^ IZ (((v>>>12) ^^^(oT x>>>4))<<<12))<<<4) ^^^ IZ (((((v<<<4) ^^^ IZ (((v>>>12) ^^^(oT x>>>4))<<<12))>>>12) ^^^(oT x &&& 15#16))<<<12))=cI (aqW v x):=by
 rw [SZ v _ (akK h),SZ _ _ (akM _),aba v _ (by rw [qA aa];omega)];rfl
def be:Nat->Int->List Int
 |0,_=> []
 |m+1,n=>n / 256 ^ m % 256::be m n
def eC(b:List Int):Int:=b.foldl (λn c=>n*256+c) 0
def dA(v:Int)(body:List Int):List Int:=be 4 v++be 3 body.length++body
def gQ(b:List Int):List Int:=b++Ll b
def zb(v:Int)(body:List Int):List Int × Int:=if v<1\/v>1073741824\/(body.length:Int)>65536 then ([],1) else (gQ (dA v body),0)
def tp(b:List Int):List Int × Int:=if b.length<2 then ([],3) else if qV b=0#16 then (b.take (b.length-2),0) else ([],4)
def qc(b:List Int):Int × List Int × Int:=
 if (tp b).2≠0 then (0,[],(tp b).2)
 else if (tp b).1.length<7 then (0,[],3)
 else if eC ((tp b).1.take 4)<1\/eC ((tp b).1.take 4)>1073741824\/eC (((tp b).1.drop 4).take 3)>65536\/eC (((tp b).1.drop 4).take 3)≠(((tp b).1.drop 7).length:Int) then (0,[],2)
 else (eC ((tp b).1.take 4),(tp b).1.drop 7,0)
def td:∀(m:Nat)(n:Int),(be m n).length=m
 |0,_=>rfl
 |m+1,n=>by simp [be,td m n]
def afh:∀(m:Nat)(n:Int),mK (be m n)
 |0,_=>λc hc=>by cases hc
 |m+1,n=>λc hc=>by
  rcases cj.1 hc with rfl|hc
  ·omega
  ·exact afh m n c hc
def HE(b:List Int)(c:Int):eC (b++ [c])=eC b*256+c:=by unfold eC;rw [nk];rfl
def be4{n:Int}(h:0<=n/\n<4294967296):eC (be 4 n)=n:=by simp only [be,eC,pq,List.foldl_nil,show (256:Int) ^ 3=16777216 from rfl,show (256:Int) ^ 2=65536 from rfl,show (256:Int) ^ 1=256 from rfl,show (256:Int) ^ 0=1 from rfl];omega
def be3{n:Int}(h:0<=n/\n<16777216):eC (be 3 n)=n:=by simp only [be,eC,pq,List.foldl_nil,show (256:Int) ^ 2=65536 from rfl,show (256:Int) ^ 1=256 from rfl,show (256:Int) ^ 0=1 from rfl];omega
def ai0(b:List Int):mK (Ll b):=λc hc=>by
 have:=AW (qV b)
 simp only [Ll,cj,iY,or_false] at hc
 rcases hc with rfl|rfl<;>omega
def Sz(b:List Int):(Ll b).length=2:=rfl
def afi(b:List Int):qV (gQ b)=0#16:=by unfold gQ qV;rw [Di];have:=AW (qV b);exact (ai1 _ aa aa).2 (by unfold qV at*;omega)
def ai2(b:List Int):tp (gQ b)=(b,0):=by
 have hl:(gQ b).length=b.length+2:=by unfold gQ;rw [bY,Sz]
 unfold tp;rw [if_neg aa,if_pos (afi b),hl];unfold gQ;simp
def mK.app{a b:List Int}(ha:mK a)(hb:mK b):mK (a++b):=λc hc=>(dp.1 hc).elim (ha c) (hb c)
def XT{v:Int}{body:List Int}(h:mK body):mK (dA v body):=((afh 4 v).app (afh 3 _)).app h
def afj{b:List Int}(h:mK b):mK (gQ b):=h.app (ai0 b)
def amU{v:Int}{body:List Int}(h:mK body):mK (zb v body).1:=by
 unfold zb;split
 ·intro c hc;cases hc
 ·exact afj (XT h)
def rA(v:Int)(body:List Int):(dA v body).length=7+body.length:=by unfold dA;simp [td];omega
def BB(b:List Int):(gQ b).length=b.length+2:=by unfold gQ;rw [bY,Sz]
def aqA{v:Int}{body:List Int}(hv:1<=v/\v<=1073741824)(hb:(body.length:Int)<=65536):qc (gQ (dA v body))=(v,body,0):=by
 have e4:=td 4 v;have e3:=td 3 (body.length:Int);have t4:(dA v body).take 4=be 4 v:=by unfold dA;rw [fY,AM aa,dI aa]
 have d4:(dA v body).drop 4=be 3 body.length++body:=by unfold dA;rw [fY,List.drop_append_of_le_length aa,wD aa];rfl
 have d7:(dA v body).drop 7=body:=by unfold dA;rw [List.drop_append_of_le_length (by rw [bY];omega),wD (by rw [bY];omega)];rfl
 have t3:((dA v body).drop 4).take 3=be 3 body.length:=by rw [d4,AM aa,dI aa]
 unfold qc;simp only [ai2];rw [if_neg bo,if_neg (by rw [rA];omega),t4,t3,d7,be4 aa,be3 aa,if_neg aa]
def aqj{b:List Int}:(qc b).2.2=0->1<=(qc b).1/\(qc b).1<=1073741824:=by
 intro h;unfold qc at h ⊢;split at h
 ·rename_i q;exact absurd h q
 ·rename_i q;rw [if_neg q];split at h
  ·cases h
  ·rename_i q2;rw [if_neg q2];split at h
   ·cases h
   ·rename_i q3;rw [if_neg q3];simp only [not_or] at q3;simp only;omega
def aqk{b:List Int}:(qc b).2.2≠0->(qc b).1=0/\(qc b).2.1=[]:=by
 intro h;unfold qc at h ⊢;split
 ·exact ⟨rfl,rfl⟩
 ·split
  ·exact ⟨rfl,rfl⟩
  ·split
   ·exact ⟨rfl,rfl⟩
   ·rename_i q q2 q3;rw [if_neg q,if_neg q2,if_neg q3] at h;exact absurd rfl h
def N4{b:List Int}(hb:mK b):∀k:Nat,0<=eC (b.take k)/\eC (b.take k)<256 ^ k
 |0=>by rw [JF];exact ⟨jN 0,aw⟩
 |k+1=>by
  obtain ⟨h1,h2⟩:=N4 hb k
  rw [dq]
  cases hx:b[k]? with
  |none=>
   rw [Int.pow_succ]
   simp only [Option.toList_none,mX]
   generalize (256:Int) ^ k=p at*
   omega
  |some x=>
   have:=hb x (aQ hx)
   rw [Int.pow_succ]
   simp only [Option.toList_some]
   rw [HE]
   generalize (256:Int) ^ k=p at*
   omega
def VM{b:List Int}(hb:mK b){k:Nat}(hk:k<=4):0<=eC (b.take k)/\eC (b.take k)<4294967296:=by
 obtain ⟨h1,h2⟩:=N4 hb k;have h3:(256:Int) ^ k<=4294967296:=by
  rcases k with _|_|_|_|_|k
  ·decide
  ·decide
  ·decide
  ·decide
  ·decide
  ·omega
 exact ⟨h1,Int.lt_of_lt_of_le h2 h3⟩
def Sc{n c:Int}(hn:0<=n/\n<281474976710656)(hc:0<=c/\c<256):TE .i64 (n*256) c=n*256+c:=by
 show aC ((BitVec.ofInt 64 (n*256)|||BitVec.ofInt 64 c).toNat:Nat)=_;have e1:(BitVec.ofInt 64 (n*256)).toNat=2 ^ 8*n.toNat:=by rw [zc];simp only [show ((2 ^ 64:Nat):Int)=18446744073709551616 from rfl,show (2:Nat) ^ 8=256 from rfl];omega
 have e2:(BitVec.ofInt 64 c).toNat=c.toNat:=by rw [zc];simp only [show ((2 ^ 64:Nat):Int)=18446744073709551616 from rfl];omega
 rw [BitVec.toNat_or,e1,e2,<-Nat.two_pow_add_eq_or_of_lt (i:=8) (b:=c.toNat) aa n.toNat];simp only [show (2:Nat) ^ 8=256 from rfl];have:((256*n.toNat+c.toNat:Nat):Int)=n*256+c:=by omega
 rw [this];exact wI
abbrev kj:=Int × List Int
structure Dk where
 room:Int
 lk:Int
 wait:Int
 safe:List kj
 l:List kj
def afk:Bool->List kj->kj->List kj
 |done,[],w=>if done then [] else [w]
 |done,x::t,w=>(if done=false/\x.1>=w.1 then [w] else [])++(if x.1≠w.1 then [x] else [])++afk (done||decide (x.1>=w.1)) t w
def lay(l:List kj)(w:kj):List kj:=afk false l w
def ud(d:Dk):List kj:=d.l.foldl lay d.safe
def eA(l:List kj):Nat:=(l.map λx=>x.2.length).sum
def pr(l:List kj)(k:Int):Option (List Int):=(l.find? λx=>x.1==k).map (·.2)
def ov(d:Dk)(n:Int):Dk:=if n<0 then {d with lk:=min (-n) 1048576,wait:=1} else {d with lk:=n,wait:=0}
def jT(d:Dk):Dk × Bool:=if 0<d.wait then ({d with wait:=0},false) else if 0<d.lk then ({d with lk:=d.lk-1},true) else (d,false)
def kV(d:Dk)(k:Int)(b:List Int):Dk × Int:=
 if (jT d).2=true then ((jT d).1,9) else if (eA (lay (ud d) (k,b)):Int)>d.room then ((jT d).1,8) else ({(jT d).1 with l:=d.l++ [(k,b)]},0)
def getD(d:Dk)(k:Int):List Int:=(pr (ud d) k).getD []
def od(d:Dk):Dk × Int:=if (jT d).2=true then ((jT d).1,9) else ({(jT d).1 with safe:=ud d,l:=[]},0)
def mD:Int->List kj->List kj->List kj
 |_,s,[]=>s
 |n,s,w::t=>if (w.2.length:Int)<=n then mD (n-w.2.length) (lay s w) t else lay s (w.1,w.2.take n.toNat)
def nu(d:Dk)(aW:Int):Int:=min (max aW 0) (eA d.l)
def cA(d:Dk)(aW:Int):Dk × Int:=({d with safe:=mD (nu d aW) d.safe d.l,l:=[],lk:=0,wait:=0},eA d.l-nu d aW)
def KK:∀(l:List kj)(w:kj),afk true l w=l.filter λx=>decide (x.1≠w.1)
 | [],_=>rfl
 |x::t,w=>by
  unfold afk
  rw [if_neg bo,Bool.true_or,KK t w,CO]
  by_cases h:x.1=w.1<;>simp [h]
def qU:∀(l:List kj)(w:kj),(lay l w).Perm (w::l.filter λx=>decide (x.1≠w.1))
 | [],_=> .refl _
 |x::t,w=>by
  unfold lay afk
  rw [Bool.false_or]
  by_cases h:x.1>=w.1
  ·rw [if_pos ⟨rfl,h⟩,decide_eq_true h,KK,CO]
   by_cases h2:x.1=w.1
   ·rw [if_neg (by simp [h2]),if_neg (by simp [h2])];exact .refl _
   ·rw [if_pos h2,if_pos (by simp [h2])];exact .refl _
  ·rw [if_neg λq=>h q.2,decide_eq_false h,if_pos aa,CO,if_pos smo]
   have ih:=qU t w
   unfold lay at ih
   exact (List.Perm.cons x ih).trans (List.Perm.swap _ _ _)
def gW(l:List kj):List Int:=l.map (·.1)
def N5{l:List kj}(p:kj->Bool)(h:(gW l).Nodup):(gW (l.filter p)).Nodup:=h.sublist ((List.filter_sublist).map _)
def vQ{l:List kj}{w:kj}(h:(gW l).Nodup):(gW (lay l w)).Nodup:=by refine ((qU l w).map (·.1)).nodup_iff.2 ?_;rw [eL];refine uB.2 ⟨λhm=> ?_,N5 _ h⟩;obtain ⟨x,hx,e⟩:=bf.1 hm;have:=(j3.1 hx).2;simp at this;exact this e
def u6:∀(t:List kj) {l:List kj},(gW l).Nodup->(gW (t.foldl lay l)).Nodup
 | [],_,h=>h
 |w::t,_,h=>u6 t (vQ h)
def B6{a b:List kj}(h:a.Perm b):eA a=eA b:=(h.map λx:kj=>x.2.length).sum_nat
def mw(x:kj)(t:List kj):eA (x::t)=x.2.length+eA t:=rfl
def Sr(a b:List kj):eA (a++b)=eA a+eA b:=by unfold eA;rw [bS,List.sum_append_nat]
def BU{l:List kj}(h:(gW l).Nodup){k:Int}{b:List Int}:pr l k=some b ↔(k,b) ∈ l:=by
 unfold pr
 induction l with
 |nil=>simp
 |cons x t ih=>
  have hn:=uB.1 h;rw [List.find?_cons];by_cases e:x.1=k
  ·rw [beq_iff_eq.2 e];simp only [mV,Option.some.injEq,cj];constructor
   ·rintro rfl;exact .inl (by rw [<-e])
   ·rintro (q|q)
    ·rw [<-q]
    ·exact absurd (bf.2 ⟨_,q,e.symm⟩) hn.1
  ·rw [show (x.1==k)=false by simpa using e,ih hn.2];simp only [cj];constructor
   ·exact .inr
   ·rintro (q|q)
    ·exact absurd (by rw [<-q]) e
    ·exact q
def BT{l:List kj}{k:Int}:pr l k=none ↔ ∀x ∈ l,x.1≠k:=by unfold pr;rw [Option.map_eq_none_iff,Qz];simp
def ZI{a b:List kj}(h:a.Perm b)(ha:(gW a).Nodup)(k:Int):pr a k=pr b k:=by
 have hb:(gW b).Nodup:=(h.map λx:kj=>x.1).nodup_iff.1 ha
 cases q:pr b k with
 |some x=>exact (BU ha).2 (h.mem_iff.2 ((BU hb).1 q))
 |none=>exact BT.2 λx hx=>BT.1 q x (h.mem_iff.1 hx)
def C9{l:List kj}(h:(gW l).Nodup)(k:Int):eA (l.filter λx=>decide (x.1≠k))+((pr l k).getD []).length=eA l:=by
 induction l with
 |nil=>rfl
 |cons x t ih=>
  have hn:=uB.1 h;rw [CO];by_cases e:x.1=k
  ·rw [if_neg (by simp [e])];have hg:pr (x::t) k=some x.2:=by unfold pr;rw [List.find?_cons,beq_iff_eq.2 e];rfl
   have ht:t.filter (λx=>decide (x.1≠k))=t:=O9.2 λy hy=>by simp only [ne_eq,decide_not,Bool.not_eq_true',fm];intro q;exact hn.1 (bf.2 ⟨y,hy,q.trans e.symm⟩)
   rw [hg,ht,mw,Option.getD_some];omega
  ·rw [if_pos (by simp [e])];have hg:pr (x::t) k=pr t k:=by unfold pr;rw [List.find?_cons,show (x.1==k)=false by simpa using e]
   have:=ih hn.2;rw [hg,mw,mw];omega
def GW{l:List kj}(h:(gW l).Nodup)(w:kj):eA (lay l w)+((pr l w.1).getD []).length=eA l+w.2.length:=by have:=C9 h w.1;rw [B6 (qU l w),mw];omega
structure nT(d:Dk):Prop where
 nd:(gW d.safe).Nodup
 len:∀k,(eA ((d.l.take k).foldl lay d.safe):Int)<=d.room
 w:0<=d.wait/\d.wait<=1
 f:0<=d.lk/\d.lk<=9223372036854775807
 r:0<=d.room/\d.room<=1048576
def nT.now{d:Dk}(h:nT d):(gW (ud d)).Nodup:=u6 _ h.nd
def nT.amh{d:Dk}(h:nT d):(eA (ud d):Int)<=d.room:=by have:=h.len d.l.length;rwa [kA] at this
def jw(d:Dk):(jT d).1.safe=d.safe/\(jT d).1.l=d.l/\(jT d).1.room=d.room:=by
 unfold jT;split
 ·exact ⟨rfl,rfl,rfl⟩
 ·split<;>exact ⟨rfl,rfl,rfl⟩
def nT.ask{d:Dk}(h:nT d):nT (jT d).1:=by
 obtain ⟨e1,e2,e3⟩:=jw d;refine ⟨by rw [e1];exact h.nd,by rw [e1,e2,e3];exact h.len,?_,?_,by rw [e3];exact h.r⟩
 ·unfold jT;have:=h.w;split
  ·simp
  ·split<;>exact this
 ·unfold jT;have:=h.f;split
  ·exact this
  ·split
   ·simp only;omega
   ·exact this
def nT.put{d:Dk}(h:nT d)(k:Int)(b:List Int):nT (kV d k b).1:=by
 have ha:=h.ask;obtain ⟨e1,e2,e3⟩:=jw d;unfold kV;split
 ·exact ha
 ·split
  ·exact ha
  ·rename_i hr;refine ⟨by rw [e1];exact h.nd,λn=> ?_,ha.w,ha.f,ha.r⟩;rw [e1,e3];simp only;by_cases hn:n<=d.l.length
   ·rw [AM hn];exact h.len n
   ·rw [dI smo,nk];show (eA (lay (ud d) (k,b)):Int)<=_;omega
def nT.sync{d:Dk}(h:nT d):nT (od d).1:=by
 have ha:=h.ask;obtain ⟨e1,e2,e3⟩:=jw d;unfold od;split
 ·exact ha
 ·refine ⟨h.now,λn=> ?_,ha.w,ha.f,ha.r⟩;simp only [List.take_nil,List.foldl_nil];rw [e3];exact h.amh
def nT.fail{d:Dk}(h:nT d){n:Int}(hn:cT n):nT (ov d n):=by
 unfold cT at hn;unfold ov;split
 ·exact ⟨h.nd,h.len,bo,by simp only;omega,h.r⟩
 ·exact ⟨h.nd,h.len,bo,by simp only;omega,h.r⟩
def SR(room:Int):∀(t:List kj)(n:Int) {s:List kj},0<=n->(gW s).Nodup->(∀k,(eA ((t.take k).foldl lay s):Int)<=room)->(gW (mD n s t)).Nodup/\(eA (mD n s t):Int)<=room
 | [],n,s,_,h,hl=>⟨h,hl 0⟩
 |w::t,n,s,hn,h,hl=>by
  unfold mD
  split
  ·exact SR room t _ aa (vQ h) λk=>by have:=hl (k+1);rwa [List.take_succ_cons] at this
  ·refine ⟨vQ h,?_⟩
   have h1:=hl 1
   have e1:=GW h w
   have e2:=GW h (w.1,w.2.take n.toNat)
   have h1:(eA (lay s w):Int)<=room:=h1
   simp only [cK] at e2
   omega
def nT.Dj{d:Dk}(h:nT d)(n:Int):nT (cA d n).1:=by obtain ⟨h1,h2⟩:=SR d.room d.l (nu d n) (s:=d.safe) (by unfold nu;omega) h.nd h.len;refine ⟨h1,λk=> ?_,by simp [cA],by simp [cA],h.r⟩;simp only [cA,List.take_nil,List.foldl_nil];exact h2
open Classical in
noncomputable def Dy{α:Type}(f:α->Int)(l:List α)(x:α):List α:=if ∃y ∈ l,f y=f x then l.map (λy=>if f y=f x then x else y) else l++ [x]
def JC{α:Type}(f:α->Int)(x:α):∀{l:List α},(l.map f).Nodup->(Dy f l x).Perm (x::l.filter λy=>decide (f y≠f x))
 | [],_=>by unfold Dy;rw [if_neg bo];exact .refl _
 |y::t,h=>by
  have hn:=uB.1 h
  have ih:=JC f x hn.2
  by_cases e:f y=f x
  ·have lD:∀z ∈ t,f z≠f x:=λz hz q=>hn.1 (bf.2 ⟨z,hz,q.trans e.symm⟩)
   unfold Dy
   rw [if_pos ⟨y,.head _,e⟩,eL,if_pos e,CO,if_neg (by simp [e])]
   rw [O9.2 (λz hz=>by simpa using lD z hz)]
   have:t.map (λy=>if f y=f x then x else y)=t:=by
    conv=>rhs;rw [<-List.map_id t]
    exact yV λz hz=>by rw [if_neg (lD z hz)];rfl
   rw [this]
  ·rw [CO,if_pos (by simp [e])];refine List.Perm.trans ?_ (List.Perm.swap _ _ _);refine List.Perm.trans ?_ (List.Perm.cons y ih);unfold Dy;by_cases q:∃z ∈ t,f z=f x
   ·obtain ⟨z,hz,qz⟩:=q;rw [if_pos ⟨z,.tail _ hz,qz⟩,if_pos ⟨z,hz,qz⟩,eL,if_neg e]
   ·rw [if_neg (by
     rintro ⟨z,hz,qz⟩;rcases cj.1 hz with rfl|hz
     ·exact e qz
     ·exact q ⟨z,hz,qz⟩),if_neg q]
    exact .refl _
def Pa{α:Type}{f:α->Int}{l:List α}{x y:α}(h:y ∈ Dy f l x):y=x\/y ∈ l:=by
 unfold Dy at h;split at h
 ·obtain ⟨z,hz,e⟩:=bf.1 h;split at e
  ·exact .inl e.symm
  ·exact .inr (e▸hz)
 ·rcases dp.1 h with h|h
  ·exact .inr h
  ·exact .inl (by simpa using h)
def Pb{α:Type}{f:α->Int}{g:α->List Int}{l:List α}{s:List kj}(x:α)(h:(l.map λy=>(f y,g y)).Perm s)(hn:(gW s).Nodup):((Dy f l x).map λy=>(f y,g y)).Perm (lay s (f x,g x)):=by
 have hk:(l.map f).Nodup:=by have:=(h.map λy:kj=>y.1).nodup_iff.2 hn;rwa [pa] at this
 refine ((JC f x hk).map _).trans ?_;refine List.Perm.trans ?_ (qU s (f x,g x)).symm;rw [eL];refine List.Perm.cons _ ?_;have:=h.filter λy=>decide (y.1≠f x)
 rw [List.filter_map] at this;exact this
abbrev Rc:=Int × Int × List Int
def j6(best:Rc)(slot:Int)(r:Int × List Int × Int):Rc:=if r.2.2=0/\r.1>best.2.1 then (slot,r.1,r.2.1) else best
def kL(D:Dk)(id:Int):Rc:=j6 (j6 (2*id+1,0,[]) (2*id) (qc (getD D (2*id)))) (2*id+1) (qc (getD D (2*id+1)))
def Ip(id:Int):Bool:=decide (0<=id) && decide (id<=1099511627776)
def qd(D:Dk)(id:Int):List Int × Int × Bool:=if Ip id=true then ((kL D id).2.2,(kL D id).2.1,decide ((kL D id).2.1>0)) else ([],0,false)
def tQ(D:Dk)(id:Int)(body:List Int):Dk × Int:=
 if Ip id=true then
  if (zb ((kL D id).2.1+1) body).2≠0 then (D,(zb ((kL D id).2.1+1) body).2)
  else if (kV D (4*id+1-(kL D id).1) (zb ((kL D id).2.1+1) body).1).2≠0 then kV D (4*id+1-(kL D id).1) (zb ((kL D id).2.1+1) body).1
  else od (kV D (4*id+1-(kL D id).1) (zb ((kL D id).2.1+1) body).1).1
 else (D,1)
def ahv(n:Nat):(2*n) ^^^ 1=2*n+1/\(2*n+1) ^^^ 1=2*n:=by
 have h1:=Nat.xor_div_two (a:=2*n) (b:=1);have par:∀a:Nat,(a ^^^ 1) % 2=1 ↔ ¬a % 2=1:=λa=>by have:=Nat.testBit_xor a 1 0;rw [Nat.testBit_zero,Nat.testBit_zero,Nat.testBit_zero] at this;simp only [Nat.reduceMod,decide_true,Bool.xor_true] at this;rw [<-decide_eq_true_iff (p:=(a ^^^ 1) % 2=1),this];simp
 have h2:=par (2*n);have h3:=Nat.xor_div_two (a:=2*n+1) (b:=1);have h4:=par (2*n+1);rw [show 1 / 2=0 from rfl,Nat.xor_zero] at h1 h3;omega
def acu{id:Int}(h:0<=id/\id<=1099511627776):lF .i64 (2*id) 1=2*id+1/\lF .i64 (2*id+1) 1=2*id:=by
 have key:∀n:Nat,n<=2 ^ 60->lF .i64 (n:Int) 1=((n ^^^ 1:Nat):Int):=λn hn=>by
  show aC ((BitVec.ofInt 64 (n:Int) ^^^ BitVec.ofInt 64 1).toNat:Nat)=_;have e1:(BitVec.ofInt 64 (n:Int)).toNat=n:=by rw [zc];simp only [show ((2 ^ 64:Nat):Int)=18446744073709551616 from rfl];omega
  rw [BitVec.toNat_xor,e1];show aC ((n ^^^ 1:Nat):Int)=_;have:n ^^^ 1<2 ^ 61:=Nat.xor_lt_two_pow aa aw;exact wI
 obtain ⟨x1,x2⟩:=ahv id.toNat;constructor
 ·have:=key (2*id.toNat) aa;rw [x1] at this;rw [show 2*id=((2*id.toNat:Nat):Int) by omega,this];omega
 ·have:=key (2*id.toNat+1) aa;rw [x2] at this;rw [show 2*id+1=((2*id.toNat+1:Nat):Int) by omega,this];omega
def FB{best:Rc}{slot:Int}{r:Int × List Int × Int}:(j6 best slot r).1=best.1\/(j6 best slot r).1=slot:=by
 unfold j6;split
 ·exact .inr rfl
 ·exact .inl rfl
def Pc(D:Dk)(id:Int):(kL D id).1=2*id\/(kL D id).1=2*id+1:=by
 unfold kL;rcases FB (best:=j6 (2*id+1,0,[]) (2*id) (qc (getD D (2*id)))) (slot:=2*id+1) (r:=qc (getD D (2*id+1))) with h|h
 ·rw [h];rcases FB (best:=(2*id+1,0,[])) (slot:=2*id) (r:=qc (getD D (2*id))) with h|h
  ·exact .inr h
  ·exact .inl h
 ·exact .inr h
def alR(b:List Int):0<=(qc b).1/\(qc b).1<=1073741824:=by
 by_cases h:(qc b).2.2=0
 ·have:=aqj h;omega
 ·rw [(aqk h).1];omega
def WK{best:Rc}{slot:Int}(b:List Int)(h:0<=best.2.1/\best.2.1<=1073741824):0<=(j6 best slot (qc b)).2.1/\(j6 best slot (qc b)).2.1<=1073741824:=by
 unfold j6;split
 ·exact alR b
 ·exact h
def akf(D:Dk)(id:Int):0<=(kL D id).2.1/\(kL D id).2.1<=1073741824:=WK _ (WK _ (show (0:Int)<=0/\(0:Int)<=1073741824 by decide))
def acv(D:Dk):(jT D).1.l=D.l:=(jw D).2.1
def acw(D:Dk)(k:Int)(b:List Int):(kV D k b).1.l.length<=D.l.length+1:=by
 unfold kV;split
 ·rw [acv];omega
 ·split
  ·rw [acv];omega
  ·simp
def alS(D:Dk):(od D).1.l.length<=D.l.length:=by
 unfold od;split
 ·rw [acv];omega
 ·simp
def acx(D:Dk)(id:Int)(b:List Int):(tQ D id b).1.l.length<=D.l.length+1:=by
 unfold tQ;split
 ·split
  ·exact kW _
  ·split
   ·exact acw _ _ _
   ·exact c8 (alS _) (acw _ _ _)
 ·exact kW _
def Xs{m:Nat}:∀{l:List kj},(∀x ∈ l,x.2.length<=m)->eA l<=l.length*m
 | [],_=>dU _
 |x::t,h=>by
  have h1:=h x (.head _)
  have h2:=Xs (l:=t) λy hy=>h y (.tail _ hy)
  rw [mw,cD,pZ,Nat.one_mul];omega
def adS{v:Int}{body:List Int}(hv:1<=v/\v<=1073741824)(hb:(body.length:Int)<=65536):qc (gQ (dA v body))=(v,body,0):=aqA hv hb
def aib{room id:Int}:qd ⟨room,0,0,[],[]⟩ id=([],0,false):=by unfold qd;split<;>rfl
end Go.cC
namespace Go.fi
open Go Go.Vc
set_option maxRecDepth 100000
set_option maxHeartbeats 8000000
abbrev Cl:=Int × Int × Int
abbrev It:=Int × Cl
def cv(c:Cl):Value:=.agg #[c.1,c.2.1,c.2.2]
def tv(t:Int):Value:=.int .i64 t
abbrev eZ(c:Cl):LV:=[.int .i64 c.1,.int .i64 c.2.1,.int .i64 c.2.2]
abbrev fR(x:It):LV:=[.int .i64 x.1,.int .i64 x.2.1,.int .i64 x.2.2.1,.int .i64 x.2.2.2]
def G0{a b:Cl}(h:cv a=cv b):a=b:=by unfold cv at h;obtain ⟨a1,a2,a3⟩:=a;obtain ⟨b1,b2,b3⟩:=b;simp at h;obtain ⟨rfl,rfl,rfl⟩:=h;rfl
structure QS where
 room:Int
 lost:Int
 l:List It
def iL(l:List It)(c:Cl):List It:=l.filter λx=>x.2 !=c
def ug(l:List It)(x:It):List It:=l.takeWhile (λy=>y.1<=x.1)++x::l.dropWhile (λy=>y.1<=x.1)
def nr(l:List It)(c:Cl):Option Int:=(l.find? λx=>x.2==c).map (·.1)
def lJ(q:QS)(c:Cl)(t:Int):QS × Bool:=
 match nr q.l c with
 |some was=>if was<=t then (q,false) else ({q with l:=ug (iL q.l c) (t,c)},true)
 |none=>if (q.l.length:Int)>=q.room then ({q with lost:=q.lost+1},false) else ({q with l:=ug q.l (t,c)},true)
def iV(l:List It)(now many:Int):Nat:=min (l.takeWhile λy=>y.1<=now).length many.toNat
def MK(q:QS)(now many:Int):QS × List Cl:=({q with l:=q.l.drop (iV q.l now many)},(q.l.take (iV q.l now many)).map (·.2))
structure yF(q:QS):Prop where
 room:1<=q.room/\q.room<=4096
 len:(q.l.length:Int)<=q.room
 sorted:q.l.Pairwise λa b=>a.1<=b.1
 nodup:(q.l.map (·.2)).Nodup
def B7(l:List It)(c:Cl):(iL l c).Sublist l:=List.filter_sublist
def xV{l:List It}{c:Cl}{t:Int}(h:nr l c=some t):(t,c) ∈ l:=by
 unfold nr at h
 cases hf:l.find? (λx=>x.2==c) with
 |none=>rw [hf] at h;cases h
 |some x=>
  rw [hf] at h;have h1:=List.find?_some hf;have h2:=G1 hf;obtain ⟨a,b⟩:=x;simp at h h1;subst h;subst h1;exact h2
def sO{l:List It}{c:Cl}(h:nr l c=none):∀x ∈ l,x.2≠c:=by unfold nr at h;rw [Option.map_eq_none_iff,Qz] at h;intro x hx e;exact h x hx (by simp [e])
def Kh{l:List It}(h:l.Pairwise λa b=>a.1<=b.1)(t:Int):(∀y ∈ l.takeWhile (λy=>y.1<=t),y.1<=t)/\(∀y ∈ l.dropWhile (λy=>y.1<=t),t<y.1):=by
 induction l with
 |nil=>simp
 |cons a l ih=>
  rw [List.pairwise_cons] at h;by_cases ha:a.1<=t
  ·rw [List.takeWhile_cons_of_pos (by simpa using ha),List.dropWhile_cons_of_pos (by simpa using ha)];obtain ⟨i1,i2⟩:=ih h.2;refine ⟨λy hy=> ?_,i2⟩;rcases cj.1 hy with rfl|hy
   ·exact ha
   ·exact i1 y hy
  ·rw [List.takeWhile_cons_of_neg (by simpa using ha),List.dropWhile_cons_of_neg (by simpa using ha)];refine ⟨bo,λy hy=> ?_⟩;rcases cj.1 hy with rfl|hy
   ·omega
   ·have:=h.1 y hy;omega
def AD{l:List It}(h:l.Pairwise λa b=>a.1<=b.1)(t:Int){i:Nat}{y:It}(hi:l[i]? =some y):i<(l.takeWhile (λy=>y.1<=t)).length ↔ y.1<=t:=by
 have hs:=Kh h t;have e:=Ki (p:=λy:It=>decide (y.1<=t)) (l:=l);constructor
 ·intro fD;rw [<-e,oX fD] at hi;exact hs.1 y (aQ hi)
 ·intro hle;rcases iW i (l.takeWhile (λy=>y.1<=t)).length with fD|OK
  ·exact fD
  ·rw [<-e,pY OK] at hi;have:=hs.2 y (aQ hi);omega
def aik(l:List It)(x:It):l.take (l.takeWhile λy=>decide (y.1<=x.1)).length++x::l.drop (l.takeWhile λy=>decide (y.1<=x.1)).length=ug l x:=by
 have h:∀(a b l:List It),a++b=l->l.take a.length++x::l.drop a.length=a++x::b:=by rintro a b _ rfl;simp
 exact h _ _ _ (Ki (p:=λy:It=>decide (y.1<=x.1)) (l:=l))
def Q2(l:List It)(x:It):(ug l x).length=l.length+1:=by have e:=congrArg List.length (Ki (p:=λy:It=>decide (y.1<=x.1)) (l:=l));unfold ug;simp only [bY,cD] at e ⊢;omega
def G3(l:List It)(x y:It):y ∈ ug l x ↔ y=x\/y ∈ l:=by
 unfold ug;conv=>rhs;rw [<-Ki (p:=λy:It=>decide (y.1<=x.1)) (l:=l)]
 simp only [dp,cj];constructor
 ·rintro (h|h|h)
  ·exact .inr (.inl h)
  ·exact .inl h
  ·exact .inr (.inr h)
 ·rintro (h|h|h)
  ·exact .inr (.inl h)
  ·exact .inl h
  ·exact .inr (.inr h)
def Dd{l:List It}(h:l.Pairwise λa b=>a.1<=b.1)(x:It):(ug l x).Pairwise λa b=>a.1<=b.1:=by
 have hs:=Kh h x.1;have e:=Ki (p:=λy:It=>decide (y.1<=x.1)) (l:=l);unfold ug;rw [<-e,List.pairwise_append] at h;rw [List.pairwise_append];refine ⟨h.1,List.pairwise_cons.2 ⟨λy hy=>by have:=hs.2 y hy;omega,h.2.1⟩,λa ha b hb=> ?_⟩;rcases cj.1 hb with rfl|hb
 ·exact hs.1 a ha
 ·exact h.2.2 a ha b hb
def G4{l:List It}(h:(l.map (·.2)).Nodup){x:It}(hx:∀y ∈ l,y.2≠x.2):((ug l x).map (·.2)).Nodup:=by
 have e:=Ki (p:=λy:It=>decide (y.1<=x.1)) (l:=l);unfold ug;have hx':∀y ∈ l.takeWhile (λy=>y.1<=x.1)++l.dropWhile (λy=>y.1<=x.1),y.2≠x.2:=by rw [e];exact hx
 rw [<-e,bS,GP] at h;rw [bS,eL,GP];refine ⟨h.1,uB.2 ⟨λhm=> ?_,h.2.1⟩,λa ha b hb=> ?_⟩
 ·obtain ⟨y,hy,e⟩:=bf.1 hm;exact hx' y (C8 _ hy) e
 ·rcases cj.1 hb with rfl|hb
  ·obtain ⟨y,hy,rfl⟩:=bf.1 ha;exact hx' y (G5 _ hy)
  ·exact h.2.2 a ha b hb
def yF.add{q:QS}(h:yF q)(c:Cl)(t:Int):yF (lJ q c t).1:=by
 unfold lJ;split
 ·rename_i was hw;split
  ·exact h
  ·have dP:=B7 q.l c;have fD:(iL q.l c).length<q.l.length:=by
    have hm:=xV hw;have:(iL q.l c).length≠q.l.length:=λe=>by have:=dP.eq_of_length e;rw [<-this] at hm;unfold iL at hm;simp at hm
    have:=dP.length_le;omega
   have:=h.len;exact ⟨h.room,by rw [Q2];show ((_:Nat):Int)<=q.room;omega,Dd (h.sorted.sublist dP) _,G4 ((dP.map _).nodup h.nodup) (λy hy=>by unfold iL at hy;simp at hy;exact hy.2)⟩
 ·rename_i hn;split
  ·exact ⟨h.room,h.len,h.sorted,h.nodup⟩
  ·exact ⟨h.room,by rw [Q2];show ((_:Nat):Int)<=q.room;omega,Dd h.sorted _,G4 h.nodup (sO hn)⟩
def yF.drop{q:QS}(h:yF q)(c:Cl):yF {q with l:=iL q.l c}:=by have dP:=B7 q.l c;have:=dP.length_le;have:=h.len;exact ⟨h.room,by show ((iL q.l c).length:Int)<=q.room;omega,h.sorted.sublist dP,(dP.map _).nodup h.nodup⟩
def yF.due{q:QS}(h:yF q)(now many:Int):yF (MK q now many).1:=by have dP:(q.l.drop (iV q.l now many)).Sublist q.l:=List.drop_sublist _ _;have:=dP.length_le;have:=h.len;exact ⟨h.room,by show ((q.l.drop (iV q.l now many)).length:Int)<=q.room;omega,h.sorted.sublist dP,(dP.map _).nodup h.nodup⟩
def BW(q:QS)(c:Cl)(t:Int):q.lost<=(lJ q c t).1.lost/\(lJ q c t).1.lost<=q.lost+1:=by
 unfold lJ;split
 ·split<;>exact ⟨jN _,by show q.lost<=q.lost+1;omega⟩
 ·split
  ·exact ⟨by show q.lost<=q.lost+1;omega,jN _⟩
  ·exact ⟨jN _,by show q.lost<=q.lost+1;omega⟩
def D7(q:QS):List It->QS × Nat
 | []=>(q,0)
 |x::l=>((D7 (lJ q x.2 x.1).1 l).1,(if (lJ q x.2 x.1).2 then 1 else 0)+(D7 (lJ q x.2 x.1).1 l).2)
def ZW{q:QS}(h:yF q)(now many:Int){k:Nat}{x:It}(hx:q.l[k]? =some x):k<iV q.l now many ↔(k:Int)<many/\x.1<=now:=by have:=AD h.sorted now hx;unfold iV;rw [<-this];omega
def ZX(l:List It)(now many:Int):iV l now many<=l.length:=by have:=(List.takeWhile_sublist (λy:It=>decide (y.1<=now)) (l:=l)).length_le;unfold iV;omega
end Go.fi
namespace Go.fi
end Go.fi
namespace Go.fi
open Go Go.Vc
set_option maxRecDepth 100000
set_option maxHeartbeats 8000000
def aeJ{q:QS}{c:Cl}{t:Int}(hn:∀x ∈ q.l,x.2≠c)(hr:(q.l.length:Int)<q.room):lJ q c t=({q with l:=ug q.l (t,c)},true):=by
 have hq:nr q.l c=none:=by
  cases h:nr q.l c with
  |none=>rfl
  |some t=>exact absurd rfl (hn _ (xV h))
 unfold lJ;rw [hq];simp only;rw [if_neg aa]
end Go.fi
namespace Go.fL
open Go Go.Vc Go.cC Go.fi
set_option maxRecDepth 100000
set_option maxHeartbeats 8000000
abbrev Cg:=Ce × Int
def sj(b:Int):Bool:=decide (8<=b) && decide (b<16)
def jX(b:Int):Int:=if b=3 then 2 else if sj b then 5 else 0
def iu(b:Int):Int:=if sj b then b-8 else -1
def kv(l:Int):Int:=8+min (max l 0) 7
def mO(b:Int):Bool:=decide (b=0)||sj b
def fH(c:Ce):Ce:=(c.1,c.2.1-1,c.2.2)
def Dl(c:Ce):Ce:=(c.1,c.2.1+1,c.2.2)
def cW(c:Ce):List Ce:=[(c.1-1,c.2.1,c.2.2),(c.1+1,c.2.1,c.2.2),(c.1,c.2.1,c.2.2-1),(c.1,c.2.1,c.2.2+1)]
def sk(c:Ce):List Ce:=[(c.1-1,c.2.1,c.2.2),(c.1+1,c.2.1,c.2.2),fH c,Dl c,(c.1,c.2.1,c.2.2-1),(c.1,c.2.1,c.2.2+1)]
def sN(V:Ce->Int)(c:Ce):List Ce:=(c::sk c).filter λn=>decide (0<jX (V n))
def GM(V:Ce->Int)(now:Int)(q:QS)(c:Ce):QS:=(sN V c).foldl (λq n=>(lJ q n (now+jX (V n))).1) q
def L8(V:Ce->Int)(l:List Ce):Int:=l.foldl (λm n=>if 0<=iu (V n) then min m (iu (V n)) else m) 7
def ir(V:Ce->Int)(c:Ce):Int × Bool:=if sj (V (Dl c)) then (1,true) else if L8 V (cW c)=7 then (0,false) else (L8 V (cW c)+1,true)
def Sn(V:Ce->Int)(c:Ce):List Cg:=if mO (V (fH c)) then [(c,V (fH c)),(fH c,3)] else []
def nN(V:Ce->Int)(c:Ce)(level:Int):List Cg:=
 if 0<level/\(ir V c).2=false then [(c,0)]
 else if 0<level/\(ir V c).1≠level then [(c,kv (ir V c).1)]
 else if V (fH c)=0 then [(fH c,kv 1)]
 else if sj (V (fH c))=true\/7<=level then []
 else ((cW c).filter λn=>decide (V n=0)).map λn=>(n,kv (level+1))
def ja(V:Ce->Int)(c:Ce):List Cg:=if V c=3 then Sn V c else if sj (V c) then nN V c (iu (V c)) else []
end Go.fL
namespace Go.iZ
open Go Go.Vc Go.cC
set_option maxRecDepth 100000
set_option maxHeartbeats 8000000
abbrev Bx:=Ce × Ce
def dG(n:Int):Int:=min (max n (-140737488355328)) 140737488355328
def dW(a b:Int):Int:=dG (dG a+dG b)
def nj(a b:Int):Int:=dG (dG a-dG b)
def cg(n:Int):Int:=dG n / 65536
def uR(n:Int):Int:=dG n % 65536
def uS(n:Int):Int:=min (max n (-2147483648)) 2147483648*65536
def sH(n:Int): -140737488355328<=dG n/\dG n<=140737488355328:=by unfold dG;omega
def BJ(n:Int): -2147483648<=cg n/\cg n<=2147483648:=by have:=sH n;unfold cg;omega
def oE{n:Int}(h: -140737488355328<=n/\n<=140737488355328):dG n=n:=by unfold dG;omega
def dK(v:Ce)(i:Int):Int:=if i=0 then v.1 else if i=1 then v.2.1 else if i=2 then v.2.2 else 0
def Gh(f:Int->Int->Int)(v:Ce):Ce:=(f 0 v.1,f 1 v.2.1,f 2 v.2.2)
def jf(a b:Ce):Ce:=Gh (λi n=>dW n (dK b i)) a
def uP(a b:Ce):Ce:=Gh (λi n=>nj n (dK b i)) a
def gd(v:Ce)(ax n:Int):Ce:=Gh (λi own=>if i=ax then dG n else own) v
def FY(au:Ce)(w h:Int):Bx:=(uP au (max w 0 / 2,0,max w 0 / 2),jf au (max w 0 / 2,max h 0,max w 0 / 2))
def bh(v:Ce):Ce:=(cg v.1,cg v.2.1,cg v.2.2)
def jb(b:Bx)(i:Int):Bool:=decide (dK b.1 i=dK b.2 i) && decide (uR (dK b.1 i)=0)
abbrev zH(b:Bx):Ce:=bh (jf b.2 (-1,-1,-1))
def ft(b:Bx):Ce:=(if b.1.1=b.2.1 then (bh b.1).1 else (zH b).1,if b.1.2.1=b.2.2.1 then (bh b.1).2.1 else (zH b).2.1,if b.1.2.2=b.2.2.2 then (bh b.1).2.2 else (zH b).2.2)
def wK(b:Bx):Bool:= !(jb b 0||jb b 1||jb b 2)
def cm(a b:Int):Nat:=(b-a+1).toNat
def Mq(a b:Ce):List Ce:=(List.range (cm a.2.1 b.2.1*cm a.2.2 b.2.2*cm a.1 b.1)).map λk:Nat=>
 (a.1+((k % cm a.1 b.1:Nat):Int),a.2.1+((k / cm a.1 b.1 / cm a.2.2 b.2.2:Nat):Int),a.2.2+((k / cm a.1 b.1 % cm a.2.2 b.2.2:Nat):Int))
def kx(b:Bx):List Ce:=if wK b then Mq (bh b.1) (ft b) else []
def kd(V:Ce->Int)(b:Bx)(p:Int->Bool):Bool:=(kx b).any λc=>p (V c)
def nQ(b:Bx):Bx:=(gd b.1 1 (nj b.1.2.1 1),gd b.2 1 b.1.2.1)
def vH(v:Ce):(-2147483648<=(bh v).1/\(bh v).1<=2147483648)/\(-2147483648<=(bh v).2.1/\(bh v).2.1<=2147483648)/\-2147483648<=(bh v).2.2/\(bh v).2.2<=2147483648:=⟨BJ _,BJ _,BJ _⟩
def Xe(b:Bx):(-2147483648<=(ft b).1/\(ft b).1<=2147483648)/\(-2147483648<=(ft b).2.1/\(ft b).2.1<=2147483648)/\-2147483648<=(ft b).2.2/\(ft b).2.2<=2147483648:=by have h1:=vH b.1;have h2:=vH (jf b.2 (-1,-1,-1));unfold ft zH;simp only;refine ⟨?_,?_,?_⟩<;>split<;>omega
def Xf{a b i n:Nat}(h:i<n)(ha:a<b):a*n+i<b*n:=by have:=qW n (show a+1<=b from ha);rw [pZ,Nat.one_mul] at this;omega
def Xg{a i n:Nat}(h:i<n):(a*n+i) % n=i/\(a*n+i) / n=a:=by
 constructor
 ·rw [Nat.mul_add_mod',Nat.mod_eq_of_lt h]
 ·rw [yT,Nat.add_mul_div_right _ _ aa,Nat.div_eq_of_lt h,eK]
def Xh(a b:Ce){jy jz jx:Nat}(hy:jy<cm a.2.1 b.2.1)(hz:jz<cm a.2.2 b.2.2)(hx:jx<cm a.1 b.1):
  (Mq a b)[(jy*cm a.2.2 b.2.2+jz)*cm a.1 b.1+jx]? =some (a.1+(jx:Int),a.2.1+(jy:Int),a.2.2+(jz:Int)):=by
 unfold Mq;rw [aZ,Fu (Xf hx (Xf hz hy))];obtain ⟨h1,h2⟩:=Xg (a:=jy*cm a.2.2 b.2.2+jz) hx;obtain ⟨h3,h4⟩:=Xg (a:=jy) hz;simp only [mV,h1,h2,h3,h4]
def ade(a b:Ce):(Mq a b).length=cm a.2.1 b.2.1*cm a.2.2 b.2.2*cm a.1 b.1:=by unfold Mq;simp
def Qa{a b c:Ce}(h:c ∈ Mq a b):(a.1<=c.1/\c.1<=b.1)/\(a.2.1<=c.2.1/\c.2.1<=b.2.1)/\a.2.2<=c.2.2/\c.2.2<=b.2.2:=by
 unfold Mq at h;obtain ⟨k,hk,rfl⟩:=bf.1 h;have hk:=tA.1 hk;have hx:0<cm a.1 b.1:=by
  by_cases q:cm a.1 b.1=0
  ·rw [q,Nat.mul_zero] at hk;omega
  ·omega
 have hz:0<cm a.2.2 b.2.2:=by
  by_cases q:cm a.2.2 b.2.2=0
  ·rw [q,Nat.mul_zero,Nat.zero_mul] at hk;omega
  ·omega
 have h1:=Nat.mod_lt k hx;have h2:=Nat.mod_lt (k / cm a.1 b.1) hz;have h3:k / cm a.1 b.1 / cm a.2.2 b.2.2<cm a.2.1 b.2.1:=by rw [Nat.div_div_eq_div_mul];refine Nat.div_lt_of_lt_mul ?_;rw [Nat.mul_comm (cm a.1 b.1),Nat.mul_comm,<-Nat.mul_assoc];exact hk
 generalize k % cm a.1 b.1=p1 at*;generalize k / cm a.1 b.1 / cm a.2.2 b.2.2=p2 at*;generalize k / cm a.1 b.1 % cm a.2.2 b.2.2=p3 at*;unfold cm at*;simp only;omega
def J1(n:Int):Int:=min (max n (-65536)) 65536 / 4
def jd(n:Int):Int:=min (max n (-70368744177664)) 70368744177664
def jE(au d:Ce):Ce:=uP (jd (jf au d).1,jd (jf au d).2.1,jd (jf au d).2.2) au
def u7(h:Bool × Bool × Bool)(v:Ce):Ce:=(λv=>if h.2.2 then gd v 2 0 else v) ((λv=>if h.2.1 then gd v 1 0 else v) (if h.1 then gd v 0 0 else v))
def sI(b:Bx)(ax k:Int):Bx:=(gd b.1 ax (uS k),gd b.2 ax (uS (k+1)))
def mj(d:Int):Int:=min (max d (-4194304)) 4194304
def upN(top d k:Int):Nat:=((top+d-k*65536+65535) / 65536).toNat
def tH(low d k:Int):Nat:=(((k+1)*65536-(low+d)+65535) / 65536).toNat
def dy(b:Bx)(ax d:Int):List (Int × Int):=
 if 0<d then (List.range (upN (dK b.2 ax) d (cg (dK b.2 ax+65535)))).map λi:Nat=>(cg (dK b.2 ax+65535)+i,(cg (dK b.2 ax+65535)+i)*65536-dK b.2 ax)
 else (List.range (tH (dK b.1 ax) d (cg (dK b.1 ax)-1))).map λi:Nat=>(cg (dK b.1 ax)-1-i,(cg (dK b.1 ax)-1-i+1)*65536-dK b.1 ax)
def fa(V:Ce->Int)(p:Int->Bool)(b:Bx)(ax d:Int):Int × Bool:=
 match (dy b ax (mj d)).find? (λx=>kd V (sI b ax x.1) p) with
 |some x=>(x.2,true)
 |none=>(mj d,false)
def adi(b:Bx)(v:Ce):Bx:=(jf b.1 v,jf b.2 v)
def bz(V:Ce->Int)(p:Int->Bool)(b:Bx)(ax d:Int):Bx × Bool:=(adi b (gd (0,0,0) ax (fa V p b ax d).1),(fa V p b ax d).2)
def bW(b:Bx)(m:Int):Prop:=((-m<=b.1.1/\b.1.1<=m)/\(-m<=b.1.2.1/\b.1.2.1<=m)/\-m<=b.1.2.2/\b.1.2.2<=m)/\(-m<=b.2.1/\b.2.1<=m)/\(-m<=b.2.2.1/\b.2.2.1<=m)/\-m<=b.2.2.2/\b.2.2.2<=m
def bW.ax{b:Bx}{m:Int}(h:bW b m)(hm:0<=m)(i:Int):(-m<=dK b.1 i/\dK b.1 i<=m)/\-m<=dK b.2 i/\dK b.2 i<=m:=by unfold bW at h;unfold dK;refine ⟨?_,?_⟩<;>(repeat' split)<;>omega
def aiC{top d k:Int}{i:Nat}(h:top+d-k*65536<=100000000):(k+(i:Int))*65536<top+d ↔ i<upN top d k:=by unfold upN;omega
def aad{low d k:Int}{i:Nat}:low+d<(k-(i:Int)+1)*65536 ↔ i<tH low d k:=by unfold tH;omega
def EU(d:Int): -4194304<=mj d/\mj d<=4194304:=by unfold mj;omega
def Qy{b:Bx}{ax d:Int}(hb:bW b 100000000000000)(hd: -4194304<=d/\d<=4194304):∀x ∈ dy b ax d,(-1525900000<=x.1/\x.1<=1525900000)/\-4194304<=x.2/\x.2<=4194304:=by
 have hn:=hb.ax aw ax;have c1:=oE (n:=dK b.2 ax+65535) aa;have c2:=oE (n:=dK b.1 ax) aa;intro x hx;unfold dy at hx;split at hx
 ·obtain ⟨i,hi,rfl⟩:=bf.1 hx;have hi:=tA.1 hi;unfold upN at hi;unfold cg at hi ⊢;rw [c1] at hi ⊢;simp only;omega
 ·obtain ⟨i,hi,rfl⟩:=bf.1 hx;have hi:=tA.1 hi;unfold tH at hi;unfold cg at hi ⊢;rw [c2] at hi ⊢;simp only;omega
def qm{V:Ce->Int}{p:Int->Bool}{b:Bx}{ax d:Int}(hb:bW b 100000000000000): -4194304<=(fa V p b ax d).1/\(fa V p b ax d).1<=4194304:=by
 unfold fa;split
 ·rename_i x hx;exact (Qy hb (EU d) x (G1 hx)).2
 ·exact EU d
def jB{a n m k:Int}(ha: -m<=a/\a<=m)(hn: -k<=n/\n<=k)(hmk:m+k<=140737488355328):dW a n=a+n/\-(m+k)<=dW a n/\dW a n<=m+k:=by unfold dW dG;omega
def aav{b:Bx}{v:Ce}{m k:Int}(hb:bW b m)(hv:(-k<=v.1/\v.1<=k)/\(-k<=v.2.1/\v.2.1<=k)/\-k<=v.2.2/\v.2.2<=k)(hmk:m+k<=140737488355328):bW (adi b v) (m+k):=by unfold bW at hb ⊢;obtain ⟨⟨h1,h2,h3⟩,h4,h5,h6⟩:=hb;obtain ⟨v1,v2,v3⟩:=hv;exact ⟨⟨(jB h1 v1 hmk).2,(jB h2 v2 hmk).2,(jB h3 v3 hmk).2⟩,(jB h4 v1 hmk).2,(jB h5 v2 hmk).2,(jB h6 v3 hmk).2⟩
def JQ{ax n k:Int}(hn: -k<=n/\n<=k)(hk:0<=k):(-k<=(gd (0,0,0) ax n).1/\(gd (0,0,0) ax n).1<=k)/\(-k<=(gd (0,0,0) ax n).2.1/\(gd (0,0,0) ax n).2.1<=k)/\-k<=(gd (0,0,0) ax n).2.2/\(gd (0,0,0) ax n).2.2<=k:=by
 have hc: -k<=dG n/\dG n<=k:=by unfold dG;omega
 unfold gd Gh;simp only;refine ⟨?_,?_,?_⟩<;>split<;>omega
def bX{V:Ce->Int}{p:Int->Bool}{b:Bx}{ax d m:Int}(hb:bW b m)(hm:m<=100000000000000):bW (bz V p b ax d).1 (m+4194304):=by
 have hb':bW b 100000000000000:=by unfold bW at hb ⊢;omega
 exact aav hb (JQ (qm hb') aw) aa
def j8(V:Ce->Int)(p:Int->Bool)(b:Bx)(d:Ce):Bx ×(Bool × Bool × Bool):=
 let y:=bz V p b 1 d.2.1
 let x:=bz V p y.1 0 d.1
 let z:=bz V p x.1 2 d.2.2
 (z.1,(x.2,y.2,z.2))
def Md{V:Ce->Int}{p:Int->Bool}{b:Bx}{d:Ce}{m:Int}(hb:bW b m)(hm:m<=99990000000000):bW (j8 V p b d).1 (m+12582912):=by
 have h1:=bX (V:=V) (p:=p) (ax:=1) (d:=d.2.1) hb aa;have h2:=bX (V:=V) (p:=p) (ax:=0) (d:=d.1) h1 aa;have h3:=bX (V:=V) (p:=p) (ax:=2) (d:=d.2.2) h2 aa;have:m+4194304+4194304+4194304=m+12582912:=by omega
 rw [this] at h3;exact h3
def Kl(a b:Bx):Int:=max (b.1.1-a.1.1) (-(b.1.1-a.1.1))+max (b.1.2.2-a.1.2.2) (-(b.1.2.2-a.1.2.2))
def jM(V:Ce->Int)(p:Int->Bool)(b:Bx)(d:Ce)(up:Int):Bx ×(Bool × Bool × Bool):=
 let m:=j8 V p b d
 if (!m.2.1 && !m.2.2.2)||decide (up<=0)|| !kd V (nQ b) p then m
 else
  let high:=bz V p b 1 (min up 65536)
  let x:=bz V p high.1 0 d.1
  let z:=bz V p x.1 2 d.2.2
  let y:=bz V p z.1 1 (-(high.1.1.2.1-b.1.2.1))
  if Kl b y.1<=Kl b m.1 then m else (y.1,(x.2,true,z.2))
def da(a:Ce)(m:Int):Prop:=(-m<=a.1/\a.1<=m)/\(-m<=a.2.1/\a.2.1<=m)/\-m<=a.2.2/\a.2.2<=m
def tY(a b:Ce)(k:Int):Prop:=(-k<=b.1-a.1/\b.1-a.1<=k)/\(-k<=b.2.1-a.2.1/\b.2.1-a.2.1<=k)/\-k<=b.2.2-a.2.2/\b.2.2-a.2.2<=k
def tY.tr{a b c:Ce}{k n:Int}(h:tY a b k)(h':tY b c n):tY a c (k+n):=by unfold tY at*;omega
def tY.up{a b:Ce}{k n:Int}(h:tY a b k)(hn:k<=n):tY a b n:=by unfold tY at*;omega
def bW.lo{b:Bx}{m:Int}(h:bW b m):da b.1 m:=h.1
def bW.up{b:Bx}{m n:Int}(h:bW b m)(hmn:m<=n):bW b n:=by unfold bW at h ⊢;omega
def da.up{b:Ce}{m n:Int}(h:da b m)(hmn:m<=n):da b n:=by unfold da at h ⊢;omega
def W7{a v:Ce}{m k:Int}(ha:da a m)(hv:(-k<=v.1/\v.1<=k)/\(-k<=v.2.1/\v.2.1<=k)/\-k<=v.2.2/\v.2.2<=k)(hmk:m+k<=140737488355328):da (jf a v) (m+k)/\tY a (jf a v) k:=by obtain ⟨h1,h2,h3⟩:=ha;obtain ⟨v1,v2,v3⟩:=hv;have q1:=jB h1 v1 hmk;have q2:=jB h2 v2 hmk;have q3:=jB h3 v3 hmk;have e1:(jf a v).1=dW a.1 v.1:=rfl;have e2:(jf a v).2.1=dW a.2.1 v.2.1:=rfl;have e3:(jf a v).2.2=dW a.2.2 v.2.2:=rfl;unfold da tY;rw [e1,e2,e3];omega
def mg{V:Ce->Int}{p:Int->Bool}{b:Bx}{ax d m:Int}(hb:bW b m)(hm:m<=100000000000000):tY b.1 (bz V p b ax d).1.1 4194304:=by have hb':bW b 100000000000000:=hb.up hm;exact (W7 hb.lo (JQ (qm hb') aw) aa).2
def FX{V:Ce->Int}{p:Int->Bool}{b:Bx}{d:Ce}{m:Int}(hb:bW b m)(hm:m<=99990000000000):tY b.1 (j8 V p b d).1.1 12582912:=by have h1:=bX (V:=V) (p:=p) (ax:=1) (d:=d.2.1) hb aa;have h2:=bX (V:=V) (p:=p) (ax:=0) (d:=d.1) h1 aa;have o1:=mg (V:=V) (p:=p) (ax:=1) (d:=d.2.1) hb aa;have o2:=mg (V:=V) (p:=p) (ax:=0) (d:=d.1) h1 aa;have o3:=mg (V:=V) (p:=p) (ax:=2) (d:=d.2.2) h2 aa;exact ((o1.tr o2).tr o3).up aw
def PJ{V:Ce->Int}{p:Int->Bool}{b:Bx}{d:Ce}{up m:Int}(hb:bW b m)(hm:m<=99980000000000):tY b.1 (jM V p b d up).1.1 16777216/\bW (jM V p b d up).1 (m+16777216):=by
 have mo:=FX (V:=V) (p:=p) (d:=d) hb aa;have mn:=Md (V:=V) (p:=p) (d:=d) hb aa;have h1:=bX (V:=V) (p:=p) (ax:=1) (d:=min up 65536) hb aa;have h2:=bX (V:=V) (p:=p) (ax:=0) (d:=d.1) h1 aa;have h3:=bX (V:=V) (p:=p) (ax:=2) (d:=d.2.2) h2 aa;have h4:=bX (V:=V) (p:=p) (ax:=1) (d:= -((bz V p b 1 (min up 65536)).1.1.2.1-b.1.2.1)) h3 aa;have o1:=mg (V:=V) (p:=p) (ax:=1) (d:=min up 65536) hb aa;have o2:=mg (V:=V) (p:=p) (ax:=0) (d:=d.1) h1 aa;have o3:=mg (V:=V) (p:=p) (ax:=2) (d:=d.2.2) h2 aa;have o4:=mg (V:=V) (p:=p) (ax:=1) (d:= -((bz V p b 1 (min up 65536)).1.1.2.1-b.1.2.1)) h3 aa;have o:=((o1.tr o2).tr o3).tr o4;unfold jM;simp only;split
 ·exact ⟨mo.up aw,mn.up aa⟩
 ·split
  ·exact ⟨mo.up aw,mn.up aa⟩
  ·exact ⟨o.up aw,h4.up aa⟩
def Uv{au:Ce}{wd ht m:Int}(hf:da au m)(hw:0<=wd/\wd<=1000000)(hh:0<=ht/\ht<=1000000)(hm:m+1000000<=140737488355328):bW (FY au wd ht) (m+1000000):=by
 have yu:0<=max wd 0 / 2/\max wd 0 / 2<=1000000:=by omega
 have hh2:0<=max ht 0/\max ht 0<=1000000:=by omega
 generalize hq:max wd 0 / 2=q at*;generalize hr:max ht 0=r at*;obtain ⟨h1,h2,h3⟩:=hf;have e:FY au wd ht=((nj au.1 q,nj au.2.1 0,nj au.2.2 q),(dW au.1 q,dW au.2.1 r,dW au.2.2 q)):=by unfold FY;rw [hq,hr];rfl
 rw [e];unfold bW nj dW dG;simp only;omega
def PK{au b c:Ce}{m n k:Int}(hf:da au m)(hb:da b n)(hc:da c n)(ho:tY b c k)(hn:n<=140737488355328)(hk:0<=k)(hmk:m+k<=140737488355328):da (jf au (uP c b)) (m+k):=by
 have hm:0<=m:=by unfold da at hf;omega
 refine (W7 hf ?_ hmk).1;have e1:(uP c b).1=nj c.1 b.1:=rfl;have e2:(uP c b).2.1=nj c.2.1 b.2.1:=rfl;have e3:(uP c b).2.2=nj c.2.2 b.2.2:=rfl;rw [e1,e2,e3];unfold tY at ho;unfold da at hb hc;unfold nj dG;omega
end Go.iZ
namespace Go.nK
open Go Go.Vc
set_option maxRecDepth 100000
set_option maxHeartbeats 8000000
abbrev By(s:ByteArray)(i:Nat):Nat:=(s.get! i).toNat
def aeS(s:ByteArray)(i:Nat)(h:i<s.size):1<=(Utf8.decode s i).2/\i+(Utf8.decode s i).2<=s.size/\
  ((By s i<128->Utf8.decode s i=(By s i,1))/\(128<=By s i->128<=(Utf8.decode s i).1))/\∀j,0<j->j<(Utf8.decode s i).2->128<=By s (i+j):=by
 unfold By;have h0:s.get! (i+0)=s.get! i:=rfl;unfold Utf8.decode;simp only [h0];generalize hb:(s.get! i).toNat=b0;by_cases c1:b0<128
 ·rw [if_pos c1];exact ⟨ak _,by simp only;omega,⟨λ_=>rfl,λq=>by omega⟩,λj h1 h2=>by simp only at h2;omega⟩
 ·rw [if_neg c1]
  have one:1<=((Utf8.runeError,1):Nat × Nat).2/\i+((Utf8.runeError,1):Nat × Nat).2<=s.size/\((b0<128->((Utf8.runeError,1):Nat × Nat)=(b0,1))/\(128<=b0->128<=((Utf8.runeError,1):Nat × Nat).1))/\∀j,0<j->j<((Utf8.runeError,1):Nat × Nat).2->128<=(s.get! (i+j)).toNat:=
   ⟨ak _,by simp only;omega,⟨λq=>absurd q c1,λ_=>by decide⟩,λj h1 h2=>by simp only at h2;omega⟩
  split
  ·rename_i c2;simp only [gP,cL,beq_iff_eq] at c2;split
   ·rename_i c3;exact ⟨by simp only;omega,by simp only;omega,⟨λq=>absurd q c1,λ_=>by simp only;omega⟩,λj h1 h2=>by
     simp only at h2;have:j=1:=by omega
     subst this;omega⟩
   ·exact one
  ·split
   ·rename_i c2;simp only [gP,cL,beq_iff_eq] at c2;split
    ·rename_i c3;simp only [gP,cL,ge_iff_le] at c3;exact ⟨by simp only;omega,by simp only;omega,⟨λq=>absurd q c1,λ_=>by simp only;omega⟩,λj h1 h2=>by
      simp only at h2;have:j=1\/j=2:=by omega
      rcases this with rfl|rfl<;>omega⟩
    ·exact one
   ·split
    ·rename_i c2;simp only [gP,cL,beq_iff_eq] at c2;split
     ·rename_i c3;simp only [gP,cL,ge_iff_le] at c3;exact ⟨by simp only;omega,by simp only;omega,⟨λq=>absurd q c1,λ_=>by simp only;omega⟩,λj h1 h2=>by
       simp only at h2;have:j=1\/j=2\/j=3:=by omega
       rcases this with rfl|rfl|rfl<;>omega⟩
     ·exact one
    ·exact one
def tk(s:ByteArray)(i:Nat)(x:Option Nat × List (Nat × Nat)):Option Nat × List (Nat × Nat):=
 if By s i=32 then (match x.1 with|some a=>(none,x.2++ [(a,i)])|none=>(none,x.2)) else (some (x.1.getD i),x.2)
def uD(s:ByteArray):Nat->Option Nat × List (Nat × Nat)
 |0=>(none,[])
 |i+1=>tk s i (uD s i)
def XY(s:ByteArray)(i a:Nat)(h:(uD s i).1=some a):∀k,(∀j,j<k->By s (i+j)≠32)->uD s (i+k)=uD s i
 |0,_=>rfl
 |k+1,hk=>by
  have ih:=XY s i a h k λj hj=>hk j aa
  show tk s (i+k) (uD s (i+k))=_
  rw [ih]
  unfold tk
  rw [if_neg (hk k aa),h]
  exact Prod.ext h.symm rfl
def R4(r:Nat):Bool:=r==32
def mF(s:ByteArray):∀(f pos:Nat)(st:Option Nat)(acc:List (Nat × Nat)),pos<=s.size->s.size-pos<=f->uD s pos=(st,acc)->Lib.spansFromP R4 s f pos st acc=((uD s s.size).2,(uD s s.size).1)
 |0,pos,st,acc,h1,h2,h3=>by
  have:pos=s.size:=by omega
  subst this;rw [h3];rfl
 |f+1,pos,st,acc,h1,h2,h3=>by
  unfold Lib.spansFromP;by_cases hp:pos<s.size
  ·rw [if_pos hp];obtain ⟨d1,d2,⟨d3,d4⟩,d5⟩:=aeS s pos hp;have hb:uD s (pos+1)=tk s pos (st,acc):=by show tk s pos (uD s pos)=_;rw [h3]
   unfold tk at hb;by_cases c:By s pos<128
   ·rw [d3 c];simp only;by_cases c2:By s pos=32
    ·rw [if_pos (by unfold R4;rw [c2];rfl)];rw [if_pos c2] at hb
     cases st with
     |some a=>exact mF s f _ _ _ aa aa hb
     |none=>exact mF s f _ _ _ aa aa hb
    ·rw [if_neg (by unfold R4;simpa using c2)];rw [if_neg c2] at hb
     cases st with
     |some a=>exact mF s f _ _ _ aa aa hb
     |none=>exact mF s f _ _ _ aa aa hb
   ·have hc:=d4 aa;rw [if_neg (by unfold R4;simp;omega)];rw [if_neg aa] at hb;have hr:=XY s (pos+1) _ (by rw [hb]) ((Utf8.decode s pos).2-1) λj hj=>by have:=d5 (j+1) aa aa;rw [show pos+1+j=pos+(j+1) by omega];omega
    rw [show pos+1+((Utf8.decode s pos).2-1)=pos+(Utf8.decode s pos).2 by omega,hb] at hr
    cases st with
    |some a=>exact mF s f _ _ _ aa aa hr
    |none=>exact mF s f _ _ _ aa aa hr
  ·rw [if_neg hp];have:pos=s.size:=by omega
   subst this;rw [h3]
def cc(s:ByteArray):List ByteArray:=Lib.goFieldsP R4 s
def nL(s:ByteArray)(i:Nat):List ByteArray:=(uD s i).2.map λx=>s.extract x.1 x.2
def dX(s:ByteArray)(i:Nat):ByteArray:=match (uD s i).1 with|some a=>s.extract a i|none=>ByteArray.empty
def acz(s:ByteArray):cc s=nL s s.size++(match (uD s s.size).1 with|some a=> [s.extract a s.size]|none=> []):=by
 unfold cc Lib.goFieldsP Lib.spansOfP nL;rw [mF s s.size 0 none [] (dU _) aa rfl];unfold Lib.closeSpans
 cases (uD s s.size).1 with
 |some a=>simp
 |none=>simp
def T9(s:ByteArray):∀(i:Nat) {a:Nat},(uD s i).1=some a->a<i
 |0,a,h=>by cases h
 |i+1,a,h=>by
  have h:(tk s i (uD s i)).1=some a:=h
  unfold tk at h
  split at h
  ·split at h<;>cases h
  ·simp only [Option.some.injEq] at h
   cases hq:(uD s i).1 with
   |none=>rw [hq] at h;simp at h;omega
   |some b=>rw [hq] at h;simp at h;have:=T9 s i hq;omega
abbrev bl(s:ByteArray):List UInt8:=s.data.toList
def Bw(x y:ByteArray):bl (x++y)=bl x++bl y:=by simp [bl,ByteArray.data_append]
def eM(s:ByteArray):(bl s).length=s.size:=by simp [bl]
def akg(s:ByteArray)(i:Nat):By s i=((bl s).getD i 0).toNat:=by unfold By bl;congr 1;rw [dn,Array.getElem?_toList];show s.data[i]! =_;rw [Array.getElem!_eq_getD,Array.getD_eq_getD_getElem?];rfl
def KD(o:Option Int)(b:UInt8):Option Int:=o.bind λn=>if 48<=b.toNat/\b.toNat<=57 then some (n*10+(b.toNat:Int)-48) else none
def uV(l:List UInt8):Option Int:=l.foldl KD (some 0)
def Cy(l:List UInt8)(b:UInt8):uV (l++ [b])=KD (uV l) b:=by unfold uV;rw [nk];rfl
def S0:∀(l:List UInt8),l.foldl KD none=none
 | []=>rfl
 |b::l=>S0 l
def Jc{l:List UInt8}(h:uV l=none)(m:List UInt8):uV (l++m)=none:=by unfold uV at*;rw [nk,h];exact S0 m
def EV:∀(k:Nat) {l:List UInt8},l.length=k->∀{n:Int},uV l=some n->0<=n/\n<10 ^ k
 |0,l,h,n,hn=>by
  have:l=[]:=tj.1 h
  subst this
  cases hn
  decide
 |k+1,l,h,n,hn=>by
  rcases List.eq_nil_or_concat l with rfl|⟨m,b,rfl⟩
  ·simp at h
  ·rw [List.concat_eq_append] at hn h
   rw [Cy] at hn
   have hm:m.length=k:=by simpa using h
   unfold KD at hn
   cases hq:uV m with
   |none=>rw [hq] at hn;cases hn
   |some x=>
    rw [hq] at hn;obtain ⟨b1,b2⟩:=EV k hm hq;simp only [Option.bind_some] at hn;split at hn
    ·rename_i hb
     cases hn
     rw [Int.pow_succ];omega
    ·cases hn
def Oz(l:List UInt8):List UInt8:=if l.head? =some 45 then l.drop 1 else l
def aiN(l:List UInt8):Int × Bool:=
 if (Oz l).length<1\/15<(Oz l).length then (0,false) else match uV (Oz l) with
  |none=>(0,false)
  |some n=>(if l.head? =some 45 then -n else n,true)
def zT(s:ByteArray):Int × Bool:=aiN (bl s)
end Go.nK
namespace Go.cC
open Go Go.Vc Go.aO
set_option maxRecDepth 100000
set_option maxHeartbeats 8000000
def aiO{v:Int}{body:List Int}(hb:(body.length:Int)<=65536){n:Nat}(hn:n<(gQ (dA v body)).length):(qc ((gQ (dA v body)).take n)).2.2≠0:=by
 have hl:((gQ (dA v body)).take n).length=n:=by rw [cK];omega
 rw [BB,rA] at hn;unfold qc;by_cases h0:(tp ((gQ (dA v body)).take n)).2≠0
 ·rw [if_pos h0];exact h0
 ·rw [if_neg h0];have e:(tp ((gQ (dA v body)).take n)).1=((gQ (dA v body)).take n).take (n-2)/\2<=n:=by
   unfold tp at h0 ⊢;rw [hl] at h0 ⊢;by_cases c:n<2
   ·rw [if_pos c] at h0;simp at h0
   ·rw [if_neg c] at h0 ⊢;by_cases c2:qV ((gQ (dA v body)).take n)=0#16
    ·rw [if_pos c2];exact ⟨rfl,aa⟩
    ·rw [if_neg c2] at h0;simp at h0
  obtain ⟨e,h2⟩:=e;rw [e];have TB:(((gQ (dA v body)).take n).take (n-2)).length=n-2:=by rw [cK,hl];omega
  rw [TB];by_cases c:n-2<7
  ·rw [if_pos c];simp
  ·rw [if_neg c];have et:((gQ (dA v body)).take n).take (n-2)=(dA v body).take (n-2):=by rw [List.take_take,show min (n-2) n=n-2 by omega];unfold gQ;rw [AM (by rw [rA];omega)]
   rw [et];have e4:=td 4 v;have e3:=td 3 (body.length:Int);have d7:(((dA v body).take (n-2)).drop 7).length=n-9:=by rw [qe,cK,rA];omega
   have t3:(((dA v body).take (n-2)).drop 4).take 3=be 3 body.length:=by rw [List.drop_take,List.take_take,show min 3 (n-2-4)=3 by omega];unfold dA;rw [fY,List.drop_append_of_le_length aa,wD aa,Pp,AM aa,dI aa]
   rw [if_pos (.inr (.inr (.inr (by rw [t3,be3 aa,d7];omega))))];simp
end Go.cC
namespace Go.iZ
open Go Go.Vc Go.cC
set_option maxRecDepth 100000
set_option maxHeartbeats 8000000
def bt(d r:Int):Prop:=(0<=r/\r<=d)\/(d<=r/\r<=0)
def aeF{b:Bx}{ax d:Int}(hb:bW b 100000000000000)(hd: -4194304<=d/\d<=4194304):∀x ∈ dy b ax d,bt d x.2:=by
 have hn:=hb.ax aw ax;have c1:=oE (n:=dK b.2 ax+65535) aa;have c2:=oE (n:=dK b.1 ax) aa;intro x hx;unfold dy at hx;split at hx
 ·obtain ⟨i,hi,rfl⟩:=bf.1 hx;have hi:=tA.1 hi;unfold upN at hi;unfold cg at hi ⊢;rw [c1] at hi ⊢;unfold bt;simp only;omega
 ·obtain ⟨i,hi,rfl⟩:=bf.1 hx;have hi:=tA.1 hi;unfold tH at hi;unfold cg at hi ⊢;rw [c2] at hi ⊢;unfold bt;simp only;omega
def tc{V:Ce->Int}{p:Int->Bool}{b:Bx}{ax d:Int}(hb:bW b 100000000000000):bt d (fa V p b ax d).1:=by
 unfold fa;split
 ·rename_i x hx;have:=aeF hb (EU d) x (G1 hx);unfold bt mj at*;omega
 ·unfold bt mj;omega
def iM(b:Bx)(v:Ce):Bx:=((b.1.1+v.1,b.1.2.1+v.2.1,b.1.2.2+v.2.2),(b.2.1+v.1,b.2.2.1+v.2.1,b.2.2.2+v.2.2))
def iR(b:Bx)(u v:Ce):iM (iM b u) v=iM b (u.1+v.1,u.2.1+v.2.1,u.2.2+v.2.2):=by unfold iM;simp only [Prod.mk.injEq];omega
def fU{a n:Int}(ha: -100000000000000<=a/\a<=100000000000000)(hn: -4194304<=n/\n<=4194304):dW a (dG n)=a+n/\dW a 0=a:=by unfold dW dG;omega
def Nt{V:Ce->Int}{p:Int->Bool}{b:Bx}{d:Int}(hb:bW b 100000000000000):(bz V p b 0 d).1=iM b ((fa V p b 0 d).1,0,0):=by
 have hr:=qm (V:=V) (p:=p) (ax:=0) (d:=d) hb;obtain ⟨⟨a1,a2,a3⟩,a4,a5,a6⟩:=hb;generalize hq:(fa V p b 0 d).1=r at*;have e:(bz V p b 0 d).1=((dW b.1.1 (dG r),dW b.1.2.1 0,dW b.1.2.2 0),(dW b.2.1 (dG r),dW b.2.2.1 0,dW b.2.2.2 0)):=by unfold bz;rw [hq];rfl
 rw [e,(fU a1 hr).1,(fU a2 hr).2,(fU a3 hr).2,(fU a4 hr).1,(fU a5 hr).2,(fU a6 hr).2];unfold iM;simp
def AU{V:Ce->Int}{p:Int->Bool}{b:Bx}{d:Int}(hb:bW b 100000000000000):(bz V p b 1 d).1=iM b (0,(fa V p b 1 d).1,0):=by
 have hr:=qm (V:=V) (p:=p) (ax:=1) (d:=d) hb;obtain ⟨⟨a1,a2,a3⟩,a4,a5,a6⟩:=hb;generalize hq:(fa V p b 1 d).1=r at*;have e:(bz V p b 1 d).1=((dW b.1.1 0,dW b.1.2.1 (dG r),dW b.1.2.2 0),(dW b.2.1 0,dW b.2.2.1 (dG r),dW b.2.2.2 0)):=by unfold bz;rw [hq];rfl
 rw [e,(fU a1 hr).2,(fU a2 hr).1,(fU a3 hr).2,(fU a4 hr).2,(fU a5 hr).1,(fU a6 hr).2];unfold iM;simp
def Nu{V:Ce->Int}{p:Int->Bool}{b:Bx}{d:Int}(hb:bW b 100000000000000):(bz V p b 2 d).1=iM b (0,0,(fa V p b 2 d).1):=by
 have hr:=qm (V:=V) (p:=p) (ax:=2) (d:=d) hb;obtain ⟨⟨a1,a2,a3⟩,a4,a5,a6⟩:=hb;generalize hq:(fa V p b 2 d).1=r at*;have e:(bz V p b 2 d).1=((dW b.1.1 0,dW b.1.2.1 0,dW b.1.2.2 (dG r)),(dW b.2.1 0,dW b.2.2.1 0,dW b.2.2.2 (dG r))):=by unfold bz;rw [hq];rfl
 rw [e,(fU a1 hr).2,(fU a2 hr).2,(fU a3 hr).1,(fU a4 hr).2,(fU a5 hr).2,(fU a6 hr).1];unfold iM;simp
def E3{V:Ce->Int}{p:Int->Bool}{b:Bx}{d:Ce}{m:Int}(hb:bW b m)(hm:m<=99990000000000):
  ∃y x z,y=(fa V p b 1 d.2.1).1/\x=(fa V p (iM b (0,y,0)) 0 d.1).1/\z=(fa V p (iM b (x,y,0)) 2 d.2.2).1/\(j8 V p b d).1=iM b (x,y,z)/\bt d.1 x/\bt d.2.1 y/\bt d.2.2 z:=by
 have h0:=hb.up (show m<=100000000000000 by omega);have h1:=bX (V:=V) (p:=p) (ax:=1) (d:=d.2.1) hb aa;have h2:=bX (V:=V) (p:=p) (ax:=0) (d:=d.1) h1 aa;have S1:=h1.up (show m+4194304<=100000000000000 by omega);have V3:=h2.up (show m+4194304+4194304<=100000000000000 by omega);have e1:=AU (V:=V) (p:=p) (d:=d.2.1) h0;have e2:=Nt (V:=V) (p:=p) (d:=d.1) S1;have e3:=Nu (V:=V) (p:=p) (d:=d.2.2) V3;have b1:=tc (V:=V) (p:=p) (ax:=1) (d:=d.2.1) h0;have b2:=tc (V:=V) (p:=p) (ax:=0) (d:=d.1) S1;have b3:=tc (V:=V) (p:=p) (ax:=2) (d:=d.2.2) V3;rw [e1] at e2 e3 b2 b3;rw [e2,iR] at e3 b3;simp only [Int.zero_add,Int.add_zero] at e3 b3;refine ⟨_,_,_,rfl,rfl,rfl,?_,b2,b1,b3⟩;show (bz V p (bz V p (bz V p b 1 d.2.1).1 0 d.1).1 2 d.2.2).1=_;rw [e1,e2,iR];simp only [Int.zero_add,Int.add_zero];rw [e3,iR];simp only [Int.zero_add,Int.add_zero]
def aiH{V:Ce->Int}{p:Int->Bool}{b:Bx}{d:Ce}{up m:Int}(hb:bW b m)(hm:m<=99980000000000)(hu:0<=up):
  ∃x y z,(jM V p b d up).1=iM b (x,y,z)/\bt d.1 x/\(bt d.2.1 y\/(0<=y/\y<=up))/\bt d.2.2 z:=by
 obtain ⟨y,x,z,-,-,-,e,hx,hy,hz⟩:=E3 (V:=V) (p:=p) (d:=d) hb aa;unfold jM;simp only;split
 ·exact ⟨x,y,z,e,hx,.inl hy,hz⟩
 split
 ·exact ⟨x,y,z,e,hx,.inl hy,hz⟩
 ·have h0:=hb.up (show m<=100000000000000 by omega);have n1:=bX (V:=V) (p:=p) (ax:=1) (d:=min up 65536) hb aa;have n2:=bX (V:=V) (p:=p) (ax:=0) (d:=d.1) n1 aa;have n3:=bX (V:=V) (p:=p) (ax:=2) (d:=d.2.2) n2 aa;have n1':=n1.up (show m+4194304<=100000000000000 by omega);have n2':=n2.up (show m+4194304+4194304<=100000000000000 by omega);have n3':=n3.up (show m+4194304+4194304+4194304<=100000000000000 by omega);have e1:=AU (V:=V) (p:=p) (d:=min up 65536) h0;have b1:=tc (V:=V) (p:=p) (ax:=1) (d:=min up 65536) h0;have b2:=tc (V:=V) (p:=p) (ax:=0) (d:=d.1) n1';have b3:=tc (V:=V) (p:=p) (ax:=2) (d:=d.2.2) n2';have e2:=Nt (V:=V) (p:=p) (d:=d.1) n1';have e3:=Nu (V:=V) (p:=p) (d:=d.2.2) n2';have hr:(bz V p b 1 (min up 65536)).1.1.2.1-b.1.2.1=(fa V p b 1 (min up 65536)).1:=by rw [e1];unfold iM;simp only;omega
  rw [hr];have b4:=tc (V:=V) (p:=p) (ax:=1) (d:= -(fa V p b 1 (min up 65536)).1) n3';have e4:=AU (V:=V) (p:=p) (d:= -(fa V p b 1 (min up 65536)).1) n3';rw [e4,e3,e2,e1,iR,iR,iR];rw [e3,e2,e1] at b4;rw [e2,e1] at b3;rw [e1] at b2;refine ⟨_,_,_,rfl,by simpa using b2,.inr ?_,by simpa using b3⟩;unfold bt at b1 b4;simp only;omega
def RY{a b c:Ce}:c ∈ Mq a b ↔(a.1<=c.1/\c.1<=b.1)/\(a.2.1<=c.2.1/\c.2.1<=b.2.1)/\a.2.2<=c.2.2/\c.2.2<=b.2.2:=by
 refine ⟨Qa,λh=> ?_⟩;have hy:(c.2.1-a.2.1).toNat<cm a.2.1 b.2.1:=by unfold cm;omega
 have hz:(c.2.2-a.2.2).toNat<cm a.2.2 b.2.2:=by unfold cm;omega
 have hx:(c.1-a.1).toNat<cm a.1 b.1:=by unfold cm;omega
 have:=aQ (Xh a b hy hz hx);have e:(a.1+((c.1-a.1).toNat:Int),a.2.1+((c.2.1-a.2.1).toNat:Int),a.2.2+((c.2.2-a.2.2).toNat:Int))=c:=by obtain ⟨c1,c2,c3⟩:=c;simp only [Prod.mk.injEq] at h ⊢;omega
 rwa [e] at this
def Flt(V:Ce->Int):Prop:=∀(x y y' z:Int),32<=y->32<=y'->V (x,y,z)=V (x,y',z)
def hiB(b:Bx):Prop:=32<=cg b.1.2.1/\b.1.2.1<b.2.2.1/\-100000000000000<=b.1.2.1/\b.2.2.1<=100000000000000
def XO{V:Ce->Int}{p:Int->Bool}{b c:Bx}(hV:Flt V)(hb:hiB b)(hc:hiB c)(h1:c.1.1=b.1.1)(h2:c.2.1=b.2.1)(h3:c.1.2.2=b.1.2.2)(h4:c.2.2.2=b.2.2.2)(h:kd V b p=true):kd V c p=true:=by
 unfold kd at h ⊢;rw [List.any_eq_true] at h ⊢;obtain ⟨x,hx,hp⟩:=h;unfold hiB at hb hc;unfold kx at hx;split at hx
 case isFalse=>cases hx
 rename_i hs;have hs':wK c=true:=by
  have t0:jb c 0=jb b 0:=by unfold jb dK;simp only [if_true];rw [h1,h2]
  have t2:jb c 2=jb b 2:=by unfold jb dK;simp only [show ¬(2:Int)=0 by decide,show ¬(2:Int)=1 by decide,if_false,if_true];rw [h3,h4]
  have t1:jb c 1=false:=by unfold jb dK;simp only [show ¬(1:Int)=0 by decide,if_false,if_true];rw [decide_eq_false aa];rfl
  unfold wK at hs ⊢;rw [t0,t1,t2];revert hs
  cases jb b 0<;>cases jb b 1<;>cases jb b 2<;>simp
 have hx:=RY.1 hx;refine ⟨(x.1,cg c.1.2.1,x.2.2),?_,?_⟩
 ·unfold kx;rw [if_pos hs'];refine RY.2 ?_;have ex:(ft c).1=(ft b).1:=by unfold ft zH bh jf Gh dK;simp only [if_true];rw [h1,h2]
  have ez:(ft c).2.2=(ft b).2.2:=by unfold ft zH bh jf Gh dK;simp only [show ¬(2:Int)=0 by decide,show ¬(2:Int)=1 by decide,if_false,if_true];rw [h3,h4]
  have ey:(bh c.1).2.1<=(ft c).2.1:=by unfold ft zH bh jf Gh dK;simp only [show ¬(1:Int)=0 by decide,if_false,if_true];rw [if_neg aa];unfold cg dW dG;omega
  have fx:(bh c.1).1=(bh b.1).1:=by unfold bh;rw [h1]
  have fz:(bh c.1).2.2=(bh b.1).2.2:=by unfold bh;rw [h3]
  refine ⟨by rw [ex,fx];exact hx.1,⟨jN _,ey⟩,by rw [ez,fz];exact hx.2.2⟩
 ·have hy:32<=x.2.1:=by have:=hx.2.1.1;have e:(bh b.1).2.1=cg b.1.2.1:=rfl;omega
  rw [<-hV x.1 x.2.1 (cg c.1.2.1) x.2.2 hy hc.1];exact hp
def amE{V:Ce->Int}{p:Int->Bool}{b c:Bx}(hV:Flt V)(hb:hiB b)(hc:hiB c)(h1:c.1.1=b.1.1)(h2:c.2.1=b.2.1)(h3:c.1.2.2=b.1.2.2)(h4:c.2.2.2=b.2.2.2):kd V c p=kd V b p:=
 Bool.eq_iff_iff.2 ⟨XO hV hc hb h1.symm h2.symm h3.symm h4.symm,XO hV hb hc h1 h2 h3 h4⟩
def Nv{V:Ce->Int}{p:Int->Bool}{b:Bx}{ax r d:Int}(hV:Flt V)(hax:ax=0\/ax=2)(hb:bW b 90000000000000)(hy:10000000<=b.1.2.1)(hl:b.1.2.1<b.2.2.1)(hr: -4194304<=r/\r<=4194304):fa V p (iM b (0,r,0)) ax d=fa V p b ax d:=by
 have el:dy (iM b (0,r,0)) ax (mj d)=dy b ax (mj d):=by rcases hax with rfl|rfl<;>(unfold dy dK iM;simp)
 have hn:=hb;unfold bW at hn;have ea:∀k,kd V (sI (iM b (0,r,0)) ax k) p=kd V (sI b ax k) p:=λk=>by
  have g:∀y,5000000<=y->32<=cg y:=λy hy=>by unfold cg dG;omega
  have hi:∀s,-4194304<=s/\s<=4194304->hiB (sI (iM b (0,s,0)) ax k):=λs hs=>by
   rcases hax with rfl|rfl
   ·refine ⟨g _ ?_,?_⟩
    ·show 5000000<=b.1.2.1+s;omega
    ·show b.1.2.1+s<b.2.2.1+s/\-100000000000000<=b.1.2.1+s/\b.2.2.1+s<=100000000000000;omega
   ·refine ⟨g _ ?_,?_⟩
    ·show 5000000<=b.1.2.1+s;omega
    ·show b.1.2.1+s<b.2.2.1+s/\-100000000000000<=b.1.2.1+s/\b.2.2.1+s<=100000000000000;omega
  have e0:iM b (0,0,0)=b:=by unfold iM;simp
  have h0:=hi 0 aw;rw [e0] at h0;refine amE hV h0 (hi r hr) ?_ ?_ ?_ ?_<;>(rcases hax with rfl|rfl<;>(unfold sI gd Gh iM;simp))
 unfold fa;rw [el];simp only [ea]
def aiI{V:Ce->Int}{p:Int->Bool}{b:Bx}{d:Ce}{up m:Int}(hV:Flt V)(hb:bW b m)(hm:m<=80000000000000)(hy:40000000<=b.1.2.1)(hl:b.1.2.1<b.2.2.1):jM V p b d up=j8 V p b d:=by
 obtain ⟨y,x,z,e1,e2,e3,e,-,-,-⟩:=E3 (V:=V) (p:=p) (d:=d) hb aa;have h0:=hb.up (show m<=100000000000000 by omega);have h9:=hb.up (show m<=90000000000000 by omega);have r1:=qm (V:=V) (p:=p) (ax:=1) (d:=d.2.1) h0;rw [<-e1] at r1;have r0:=qm (V:=V) (p:=p) (ax:=1) (d:=min up 65536) h0;have s1:=AU (V:=V) (p:=p) (d:=min up 65536) h0;generalize hq:(fa V p b 1 (min up 65536)).1=q at*;rw [Nv hV (.inl rfl) h9 aa hl r1] at e2;have n1:=bX (V:=V) (p:=p) (ax:=1) (d:=min up 65536) hb aa;have n2:=bX (V:=V) (p:=p) (ax:=0) (d:=d.1) n1 aa;have n3:=bX (V:=V) (p:=p) (ax:=2) (d:=d.2.2) n2 aa;have n1':=n1.up (show m+4194304<=100000000000000 by omega);have n2':=n2.up (show m+4194304+4194304<=100000000000000 by omega);have n3':=n3.up (show m+4194304+4194304+4194304<=100000000000000 by omega);have t2:=Nt (V:=V) (p:=p) (d:=d.1) n1';have t3:=Nu (V:=V) (p:=p) (d:=d.2.2) n2';rw [s1] at t2;rw [Nv hV (.inl rfl) h9 aa hl r0,<-e2,iR] at t2;simp only [Int.zero_add,Int.add_zero] at t2;have rx:=qm (V:=V) (p:=p) (ax:=0) (d:=d.1) h0;rw [<-e2] at rx;have hx0:bW (iM b (x,0,0)) 90000000000000:=by unfold bW at hb;unfold bW iM;simp only;omega
 have es:∀s,iM (iM b (x,0,0)) (0,s,0)=iM b (x,s,0):=λs=>by rw [iR];simp
 have ez:∀s,-4194304<=s/\s<=4194304->fa V p (iM b (x,s,0)) 2 d.2.2=fa V p (iM b (x,0,0)) 2 d.2.2:=λs hs=>by rw [<-es s];exact Nv hV (.inr rfl) hx0 (by unfold iM;simp only;omega) (by unfold iM;simp only;omega) hs
 rw [ez y r1] at e3;rw [s1,t2,ez q r0,<-e3,iR] at t3;simp only [Int.zero_add,Int.add_zero] at t3;unfold jM;simp only;split
 ·rfl
 ·rw [if_pos];have t4:=AU (V:=V) (p:=p) (d:= -((bz V p b 1 (min up 65536)).1.1.2.1-b.1.2.1)) n3';rw [t4,e,s1,t2,t3,iR];unfold Kl iM;simp only;omega
def aeG{au d:Ce}(hf:da au 70368744177664){r:Ce}(hx:bt (jE au d).1 r.1): -70368744177664<=au.1+r.1/\au.1+r.1<=70368744177664:=by
 have e:(jE au d).1=nj (jd (dW au.1 d.1)) au.1:=rfl;rw [e] at hx;unfold da at hf;have c: -70368744177664<=jd (dW au.1 d.1)/\jd (dW au.1 d.1)<=70368744177664:=by unfold jd;omega
 generalize jd (dW au.1 d.1)=k at*;unfold nj dG bt at hx;omega
def Nw{au d:Ce}(hf:da au 70368744177664){r:Ce}(hx:bt (jE au d).2.1 r.2.1): -70368744177664<=au.2.1+r.2.1/\au.2.1+r.2.1<=70368744177664:=by
 have e:(jE au d).2.1=nj (jd (dW au.2.1 d.2.1)) au.2.1:=rfl;rw [e] at hx;unfold da at hf;have c: -70368744177664<=jd (dW au.2.1 d.2.1)/\jd (dW au.2.1 d.2.1)<=70368744177664:=by unfold jd;omega
 generalize jd (dW au.2.1 d.2.1)=k at*;unfold nj dG bt at hx;omega
def XP{au d:Ce}(hf:da au 70368744177664){r:Ce}(hx:bt (jE au d).2.2 r.2.2): -70368744177664<=au.2.2+r.2.2/\au.2.2+r.2.2<=70368744177664:=by
 have e:(jE au d).2.2=nj (jd (dW au.2.2 d.2.2)) au.2.2:=rfl;rw [e] at hx;unfold da at hf;have c: -70368744177664<=jd (dW au.2.2 d.2.2)/\jd (dW au.2.2 d.2.2)<=70368744177664:=by unfold jd;omega
 generalize jd (dW au.2.2 d.2.2)=k at*;unfold nj dG bt at hx;omega
def Kx{au:Ce}{b:Bx}{r:Ce}{m:Int}(hf:da au 70368744177664)(hb:bW b m)(hm:m<=100000000000000)(ho:tY b.1 (iM b r).1 16777216):jf au (uP (iM b r).1 b.1)=(au.1+r.1,au.2.1+r.2.1,au.2.2+r.2.2):=by have e:jf au (uP (iM b r).1 b.1)=(dW au.1 (nj (b.1.1+r.1) b.1.1),dW au.2.1 (nj (b.1.2.1+r.2.1) b.1.2.1),dW au.2.2 (nj (b.1.2.2+r.2.2) b.1.2.2)):=rfl;rw [e];unfold da at hf;unfold bW at hb;unfold tY iM at ho;unfold dW nj dG;simp only [Prod.mk.injEq] at ho ⊢;omega
end Go.iZ
namespace Go.nK
open Go Go.Vc
set_option maxRecDepth 100000
set_option maxHeartbeats 8000000
def Y0(p:List (List UInt8) × List UInt8)(c:UInt8):List (List UInt8) × List UInt8:=if c=10 then (p.1++ [p.2],[]) else (p.1,p.2++ [c])
def ET(s:List UInt8):List (List UInt8) × List UInt8:=s.foldl Y0 ([],[])
def Gj:List UInt8->List UInt8->List (List UInt8)
 |cur,[]=> [cur]
 |cur,c::r=>if c=10 then cur::Gj [] r else Gj (cur++ [c]) r
def cH(c:UInt8):List (List UInt8)->List (List UInt8)
 | []=> []
 |h::t=>(c::h)::t
def adg:∀(s:List UInt8)(p:List (List UInt8) × List UInt8),(s.foldl Y0 p).1++ [(s.foldl Y0 p).2]=p.1++Gj p.2 s
 | [],p=>rfl
 |c::r,p=>by
  rw [pq,adg r,Gj]
  unfold Y0
  split<;>simp
def afm(c:UInt8):∀(s cur:List UInt8),Gj (c::cur) s=cH c (Gj cur s)
 | [],cur=>rfl
 |d::r,cur=>by
  rw [Gj,Gj]
  split
  ·rfl
  ·exact afm c r (cur++ [d])
def afn(c:UInt8)(l:List UInt8):Lib.index (c::l) [10]=if c=10 then 0 else if Lib.index l [10]== -1 then -1 else Lib.index l [10]+1:=by
 show (if List.isPrefixOf [10] (c::l)=true then (0:Int) else _)=_;have e:List.isPrefixOf [10] (c::l)=(10==c):=by simp [List.isPrefixOf]
 rw [e];by_cases h:c=10
 ·subst h;rfl
 ·rw [if_neg h,if_neg (by simpa using λq=>h q.symm)]
def Ds:∀s:List UInt8,Lib.splitK [10] 0 (Lib.count s [10]) s=Gj [] s/\(Gj [] s).length=Lib.count s [10]+1
 | []=>⟨rfl,rfl⟩
 |c::l=>by
  obtain ⟨i1,i2⟩:=Ds l
  have hi:=afn c l
  by_cases h:c=10
  ·subst h
   rw [if_pos rfl] at hi
   have hc:=Lib.count_hit (s:=10::l) (sub:=[10]) (i:=0) bo hi
   have hc:Lib.count (10::l) [10]=Lib.count l [10]+1:=by rw [hc];simp;omega
   rw [hc];refine ⟨?_,?_⟩
   ·unfold Lib.splitK;rw [hi];show _::Lib.splitK [10] 0 (Lib.count l [10]) l=_;rw [i1];rfl
   ·rw [Gj,if_pos rfl,cD,i2]
  ·rw [if_neg h] at hi;have e1:Gj [] (c::l)=cH c (Gj [] l):=by rw [Gj,if_neg h];exact afm c l []
   have e2:∀x:List (List UInt8),(cH c x).length=x.length:=λx=>by cases x<;>rfl
   rw [e1,e2];by_cases hm:Lib.index l [10]= -1
   ·rw [hm] at hi;have h0:Lib.count l [10]=0:=Lib.count_miss hm;have h1:Lib.count (c::l) [10]=0:=Lib.count_miss (by rw [hi];rfl);rw [h1];rw [h0] at i1 i2;refine ⟨?_,i2⟩;rw [<-i1];rfl
   ·have OK:=Lib.index_ge l [10];obtain ⟨i,hi'⟩:∃i:Nat,Lib.index l [10]=i:=⟨(Lib.index l [10]).toNat,aa⟩;have fA:¬((Lib.index l [10]== -1)=true):=by simpa using hm
    rw [if_neg fA,hi'] at hi;have hs:Lib.index (c::l) [10]=((i+1:Nat):Int):=by rw [hi];omega
    have hl:=Lib.count_hit (sub:=[10]) bo hi';have hcl:=Lib.count_hit (sub:=[10]) bo hs;have hcl:Lib.count (c::l) [10]=Lib.count l [10]:=by rw [hcl,hl];rfl
    rw [hcl];refine ⟨?_,i2⟩;rw [<-i1,hl,yT 1];unfold Lib.splitK;rw [if_neg fA,hs,hi',if_neg smo];rfl
def N6:∀(s cur:List UInt8),∀x ∈ Gj cur s,x.length<=cur.length+s.length
 | [],cur,x,h=>by
   rw [Gj,gU] at h
   rw [h];exact ak _
 |c::r,cur,x,h=>by
  rw [Gj] at h
  rw [cD]
  split at h
  ·rcases cj.1 h with rfl|h
   ·omega
   ·have:=N6 r [] x h
    simp at this
    omega
  ·have:=N6 r _ x h
   simp at this
   omega
def N7:∀(s cur:List UInt8),(Gj cur s).length<=s.length+1
 | [],cur=>by rw [Gj];simp
 |c::r,cur=>by
  rw [Gj]
  split
  ·have:=N7 r []
   simp;omega
  ·have:=N7 r (cur++ [c])
   simp;omega
def bA(s:ByteArray):List ByteArray:=(Gj [] (bl s)).map λl=>⟨l.toArray⟩
def MH(s:ByteArray):Lib.splitB (ByteArray.mk #[10]) 0 (Lib.countB s (ByteArray.mk #[10])) s=bA s/\(bA s).length=Lib.countB s (ByteArray.mk #[10])+1:=by obtain ⟨h1,h2⟩:=Ds (bl s);refine ⟨?_,by unfold bA;rw [aJ,h2]⟩;have h3:=Lib.splitB_data (ByteArray.mk #[10]) 0 (Lib.countB s (ByteArray.mk #[10])) s;have h4:(Lib.splitB (ByteArray.mk #[10]) 0 (Lib.countB s (ByteArray.mk #[10])) s).map (·.data.toList)=Gj [] (bl s):=h3.trans h1;unfold bA;rw [<-h4,pa];symm;rw [yV (g:=id) (λx _=>by simp),List.map_id]
def uZ{s t:ByteArray}(h:t ∈ bA s):t.size<=s.size:=by obtain ⟨l,hl,rfl⟩:=bf.1 h;have:=N6 (bl s) [] l hl;rw [eM] at this;show l.toArray.size<=_;simpa using this
def Gx(s:ByteArray):(bA s).length<=s.size+1:=by unfold bA;have:=N7 (bl s) [];rw [eM] at this;rw [aJ];exact this
end Go.nK
namespace Go.Vc
open Go Go.RowKit Go.ChangeShapes Go.WideShapes
set_option maxRecDepth 100000
set_option maxHeartbeats 8000000
def AB{n:Int}(h:(Lit.int .i64 n).wf=true):cT n:=by
 have h1:IntKind.min .i64= -9223372036854775808:=by decide
 have h2:IntKind.max .i64=9223372036854775807:=by decide
 simp only [Lit.wf,gP,cL,h1,h2] at h;exact h
section
variable {H:Type} {enc:TypeId × Value->H} {P:Program} {w:World} {base:Nat} {spare:Nat->Bool} {held:Bool}
end
section
variable {H:Type} {enc:TypeId × Value->H} {P:Program} {w:World} {base:Nat} {spare:Nat->Bool} {held:Bool}
def HA(P:Program):Nat->TypeId->Bool
 |0,_=>false
 |n+1,t=>match P.underlying t with
  |some (.int .i64)=>P.cellsOf t==1
  |some (.struct fs)=>(List.range (P.cellsOf t)).all λi=>(List.range fs.size).any λj=>match fs[j]? with
   |some f=>decide (f.offset<=i) && decide (i<f.offset+P.cellsOf f.type) && HA P n f.type
   |none=>false
  |_=>false
def AT:∀{n:Nat} {t:TypeId} {fuel:Nat} {cs:LV} {x:DataW H × List MemPlace},HA P n t=true->DataW.trod enc P w base spare held fuel t cs=some x->
  cs.length=P.cellsOf t/\∀v ∈ cs,∃z,v=.int .i64 z/\cT z
 |0,_,_,_,_,h,_=>by simp [HA] at h
 |n+1,t,fuel,cs,x,h,ht=>by
  unfold HA at h
  split at h
  ·rename_i e
   obtain ⟨z,rfl,_,hw⟩:=DataW.trod_int e ht
   have:P.cellsOf t=1:=by simpa using h
   refine ⟨by rw [this];rfl,λv hv=> ?_⟩;rw [gU] at hv;exact ⟨z,hv,AB hw⟩
  ·rename_i fs e;obtain ⟨xs,k,_,_,hl,hxl,hf⟩:=DataW.trod_struct e ht;refine ⟨hl,λv hv=> ?_⟩;obtain ⟨i,hi,rfl⟩:=List.getElem_of_mem hv;rw [O8] at h;have hj:=h i (tA.2 aa);rw [List.any_eq_true] at hj;obtain ⟨j,hjr,hj⟩:=hj;rw [tA] at hjr;split at hj
   ·rename_i f hfj;simp only [gP,cL] at hj;have hx:=hf j f hfj;rw [cO aa] at hx;obtain ⟨db,CA⟩:=AT hj.2 hx;refine CA _ (aQ (i:=i-f.offset) ?_);rw [qS,if_pos aa,yW,cO aa];congr 2;omega
   ·cases hj
  ·cases h
def wW:∀{cs:LV},(∀v ∈ cs,∃z,v=.int .i64 z/\cT z)->∃r:List Int,cs=r.map (λn=> .int .i64 n)/\∀n ∈ r,cT n
 | [],_=>⟨[],rfl,bo⟩
 |v::cs,h=>by
  obtain ⟨z,rfl,hz⟩:=h v (List.mem_cons_self ..)
  obtain ⟨r,rfl,hr⟩:=wW λu hu=>h u (qY _ hu)
  refine ⟨z::r,rfl,λn hn=> ?_⟩
  rcases cj.1 hn with rfl|hn
  ·exact hz
  ·exact hr n hn
end
end Go.Vc
