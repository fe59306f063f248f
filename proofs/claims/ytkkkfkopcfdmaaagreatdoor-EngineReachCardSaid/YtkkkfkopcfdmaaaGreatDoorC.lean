import Derived.Test.YtkkkfkopcfdmaaaGreatDoorB
import Derived.Lib.Overlaps
import Derived.Deep.SlicePairs
import Derived.ProofKit
import Derived.Test.YtkkkfkopcfdmaaaGreatDoorChecked
import Derived.KernelRfl
set_option linter.all false
namespace Go.Vc
open Go Go.RowKit
abbrev Ext(w w':World):Prop:=Below w w w'
theorem Ext.cE(w:World):Ext w w:=Below.refl _ _
theorem Ext.tr{a b c:World}(h:Ext a b)(k:Ext b c):Ext a c:=Below.trans h (Below.mono k h.size)
theorem Ext.al(w:World)(o:Obj):Ext w (w.alloc o):=(Below.refl _ w).alloc (aB _) o
theorem Ext.dr(w:World):Ext w w.drew:=(Below.refl _ w).drew
theorem Ext.bn{a b c:World}{o:Obj}(h:Ext a b)(e:c=b.alloc o):Ext a c:=by subst e;exact h.tr (Ext.al _ _)
theorem aL{b c:World}{o:Obj}(e:c=b.alloc o):Ext b c:=(Ext.cE _).bn e
theorem Ext.drew{a b:World}(h:Ext a b):Ext a b.drew:=h.tr (Ext.dr _)
theorem setRow_other(w:World)(g j:Nat)(cs:Array Value)(h:j≠g):(w.setRow g cs).heap[j]? =w.heap[j]? :=by simp only [World.setRow,Array.getElem?_modify,if_neg (Ne.symm h)]
theorem setRow_size(w:World)(g:Nat)(cs:Array Value):(w.setRow g cs).heap.size=w.heap.size:=by simp [World.setRow]
theorem Ext.setRow{a b:World}(h:Ext a b){g:Nat}(hg:a.heap.size<=g)(cs:Array Value):Ext a (b.setRow g cs):=
 ⟨h.os,h.tape,h.output,by rw [setRow_size];exact h.size,λk hk=>by rw [setRow_other _ _ _ _ ab];exact h.block k hk⟩
theorem Ext.ae{a b c:World}{g:Nat}{cs:Array Value}(h:Ext a b)(e:c=b.setRow g cs)(hg:a.heap.size<=g):Ext a c:=by subst e;exact h.setRow hg cs
theorem R8{w:World}{a:Addr}{v:Value}(h:w.cell? a=some v):a.block<w:=by
 unfold World.cell? at h;split at h
 ·rename_i hb;exact (rP.1 hb).1
 ·cases h
theorem Ext.ld{w w':World}(h:Ext w w'){p:Option Addr}{v:Value}(hl:ld w p=some v):ld w' p=some v:=by
 cases p with
 |none=>simp [Vc.ld] at hl
 |some a=>
  have hl':w.cell? a=some v:=hl;show w'.cell? a=some v;rw [Below.cell h (R8 hl')];exact hl'
theorem Ext.heap{w w':World}(h:Ext w w'){i:Nat}(hi:i<w):w'.heap[i]? =w.heap[i]? :=h.block i hi
theorem Ext.k{w w':World}(h:Ext w w'){i:Nat}(hi:i<w.heap.size:=by omega):w'.heap[i]? =w.heap[i]? :=h.block i hi
theorem dw(p:Option Addr)(m n:Nat):af (af p m) n=af p (m+n):=by
 cases p with
 |none=>rfl
 |some a=>
  simp only [af,Option.map_some,Option.some.injEq,Addr.add];by_cases hm:m=0
  ·subst hm;simp
  ·by_cases hn:n=0
   ·subst hn;simp [hm]
   ·simp [hm,hn,Nat.add_assoc]
@[simp] theorem gF(p:Option Addr)(n:Nat):(af p n).isSome=p.isSome:=by cases p<;>rfl
theorem cV(p:Option Addr)(n:Nat):bD (af p n)=bD p:=by
 cases p with
 |none=>rfl
 |some a=>simp only [af,bD,Option.map_some,Addr.add];split<;>rfl
def Row(w:World)(g:Nat)(cs:LV)(t:TypeId):Prop:=w.heap[g]? =some (.cells cs.toArray t (0,0))
theorem Row.new(w:World)(cs:LV)(t:TypeId):Row (w.alloc (.cells cs.toArray t)) w.heap.size cs t:=by show (w.heap.push _)[w.heap.size]? =_;simp
theorem Row.lt{w:World}{g:Nat}{cs:LV}{t:TypeId}(h:Row w g cs t):g<w:=(rP.1 h).1
theorem Row.ext{w w':World}{g:Nat}{cs:LV}{t:TypeId}(h:Row w g cs t)(he:Ext w w'):Row w' g cs t:=(he.heap h.lt).trans h
theorem Row.same{w w':World}{g:Nat}{cs:LV}{t:TypeId}(h:Row w g cs t)(he:w'.heap[g]? =w.heap[g]?):Row w' g cs t:=he.trans h
theorem Row.set{w:World}{g:Nat}{cs:LV}{t:TypeId}(h:Row w g cs t)(cs':LV):Row (w.setRow g cs'.toArray) g cs' t:=setRow_heap _ _ _ _ _ _ h
theorem Row.so{w w':World}{g j:Nat}{cs:List Value}{t:TypeId}{c:Array Value}(h:Row w g cs t)(e:w'=w.setRow j c)(hn:g≠j:=by omega):Row w' g cs t:=h.same (by rw [e];exact setRow_other _ _ _ _ hn)
theorem Row.nw{w w':World}{l:List Value}{t:TypeId}(e:w'=w.alloc (.cells l.toArray t)):Row w' w.heap.size l t:=by rw [e];exact Row.new _ _ _
theorem Row.st{w w':World}{g:Nat}{l cs:List Value}{t:TypeId}(h:Row w g cs t)(e:w'=w.setRow g l.toArray):Row w' g l t:=by rw [e];exact h.set _
theorem Row.ld{w:World}{g:Nat}{cs:LV}{t:TypeId}(h:Row w g cs t)(j:Nat):ld w (some ⟨g,j,none⟩)=cs[j]? :=by simp [Vc.ld,World.cell?,show w.heap[g]? =_ from h]
theorem bf(g o j:Nat):af (some ⟨g,o,none⟩) j=some ⟨g,o+j,none⟩:=by simp [af,mU]
theorem Row.wr{w:World}{g:Nat}{cs:LV}{t:TypeId}(h:Row w g cs t){o n:Nat}(hn:o+n<=cs.length):Wr w (some ⟨g,o,none⟩) n:=by
 intro i hi;refine ⟨_,rfl,?_,?_⟩
 ·rw [mU];simp [World.cell?,show w.heap[g]? =_ from h];omega
 ·rw [mU];exact Tv h _
theorem Row.bZ{w:World}{g:Nat}{cs:LV}{t:TypeId}(h:Row w g cs t){o:Nat}{vs:LV}(hv:∀j,j<vs.length->cs[o+j]? =vs[j]?):ag w (some ⟨g,o,none⟩) 0 vs:=
 lX λj hj=>by rw [bf,h.ld];simpa using hv j hj
theorem Row.aH{w:World}{g:Nat}{cs:LV}{t:TypeId}(h:Row w g cs t){o:Nat}{vs:LV}(hl:o+vs.length<=cs.length)(h1:One vs):
  aH w (some ⟨g,o,none⟩) vs=w.setRow g (aR cs o vs).toArray:=by
 have e1:=gk (P:=default) ⟨g,o,none⟩ vs 0 w h1 (λj hj=>by
  obtain ⟨a,e,q⟩:=h.wr hl j hj
  cases e;simpa using q)
 have e2:=run_storeCells_at default g o t vs 0 cs.toArray w h (by simpa using hl) h1;rw [e1] at e2;injection e2 with _ e3;show pV w _ 0 vs=_;rw [e3,dj _ _ _ hl];simp
inductive Own(B E size:Nat)(w:World):Sl->LV->Prop
 |nil:Own B E size w ⟨none,0,0⟩ []
 |row (g n c:Nat) (cs:LV) (hg:B<=g) (hr:Row w g cs E) (hc:c*size<=cs.length) (hn:n<=c):Own B E size w ⟨some ⟨g,0,none⟩,n,c⟩ (cs.take (n*size))
def Sl.aX(s:Sl):Option Nat:=s.a.map (·.block)
theorem Own.len{B E size:Nat}{w:World}{s:Sl}{xs:LV}(h:Own B E size w s xs):xs.length=s.n*size:=by
 cases h with
 |nil=>simp
 |row g n c cs hg hr hc hn=>
  have:n*size<=c*size:=Nat.mul_le_mul_right _ hn;rw [du];show min (n*size) _=n*size;omega
theorem Own.rd{B E size:Nat}{w:World}{s:Sl}{xs:LV}(h:Own B E size w s xs):Rd w s.a xs:=by
 cases h with
 |nil=>intro i v hi;simp at hi
 |row g n c cs hg hr hc hn=>
  intro i v hi;rw [bf,hr.ld];rw [List.getElem?_take] at hi;split at hi
  ·simpa using hi
  ·cases hi
theorem Own.c5{B E size:Nat}{w w':World}{s:Sl}{xs:LV}(h:Own B E size w s xs)(hk:∀g,s.aX=some g->w'.heap[g]? =w.heap[g]?):Own B E size w' s xs:=by
 cases h with
 |nil=>exact .nil
 |row g n c cs hg hr hc hn=>exact .row g n c cs hg (hr.same (hk g rfl)) hc hn
theorem Own.ext{B E size:Nat}{w w':World}{s:Sl}{xs:LV}(h:Own B E size w s xs)(he:Ext w w'):Own B E size w' s xs:=by
 cases h with
 |nil=>exact .nil
 |row g n c cs hg hr hc hn=>exact .row g n c cs hg (hr.ext he) hc hn
theorem Own.lt{B E size:Nat}{w:World}{s:Sl}{xs:LV}(h:Own B E size w s xs){g:Nat}(hg:s.aX=some g):B<=g/\g<w:=by
 cases h with
 |nil=>cases hg
 |row g' n c cs hg' hr hc hn=>cases hg;exact ⟨hg',hr.lt⟩
theorem Own.append{B E size bytes:Nat}{w:World}{s:Sl}{xs:LV}(h:Own B E size w s xs){m:Nat}{news:LV}(hB:B<=w)(hl:news.length=m*size)(h1:One news)
  (hb:(s.n+m)*bytes<=140737488355328)(hb':s.n+m<=9223372036854775807):
  ba bytes size w s m news/\∀(s':Sl)(w':World),aV E size w s m news s' w'->
   Own B E size w' s' (xs++news)/\s'.n=s.n+m/\Below B w w'/\(∀j,s.aX≠some j->j<w.heap.size->w'.heap[j]? =w.heap[j]?)/\(s'.aX=s.aX\/s'.aX=some w.heap.size):=by
 refine ⟨⟨λhf=> ?_,λhg=>⟨xs,h.len,h.rd⟩,λhg=>⟨growslice_fits hg hb,by omega⟩,hl,h1⟩,?_⟩
 ·cases h with
  |nil=>
   have:m=0:=by simp at hf;omega
   subst this;intro i hi;omega
  |row g n c cs hg hr hc hn=>
   rw [bf];refine hr.wr ?_;have:(n+m)*size<=c*size:=Nat.mul_le_mul_right _ hf;rw [Nat.add_mul] at this;simp;omega
 ·intro s' w' bw
  cases bw with
  |fits hf=>
   cases h with
   |nil=>
    have:m=0:=by simp at hf;omega
    subst this;have:news=[]:=List.length_eq_zero_iff.1 ab;subst this;exact ⟨.nil,rfl,Below.refl _ _,λ_ _ _=>rfl,.inl rfl⟩
   |row g n c cs hg hr hc hn=>
    have hle:n*size+news.length<=cs.length:=by have:(n+m)*size<=c*size:=Nat.mul_le_mul_right _ hf;rw [Nat.add_mul] at this;omega
    rw [bf,ep,hr.aH hle h1];have hr':=hr.set (aR cs (n*size) news);have e:cs.take (n*size)++news=(aR cs (n*size) news).take ((n+m)*size):=by
     have e0:(n+m)*size=n*size+news.length:=by rw [Nat.add_mul,hl]
     rw [dj _ _ _ hle,e0];exact ((List.take_append_of_le_length (by simp;omega)).trans (fC (by simp;omega))).symm
    refine ⟨?_,rfl,⟨rfl,rfl,rfl,by rw [setRow_size];exact aB _,λk hk=>setRow_other _ _ _ _ ab⟩,λj hj _=>setRow_other _ _ _ _ (λe=>hj (by rw [e];rfl)),.inl rfl⟩;rw [e];exact .row g (n+m) c _ hg hr' (by rw [dq];exact hc) hf
  |A3 hg fz rest cap e1 e2 e3 e4=>
   have ho:fz=xs:=by
    have gS:=h.rd;have dI:=h.len;apply iY;intro i;rcases Nat.lt_or_ge i xs.length with hi|hi
    ·have h1:=gS i xs[i] (cZ hi);have hi':i<fz.length:=by omega
     have h2:=e2 i fz[i] (cZ hi');rw [h1] at h2;rw [cZ hi,cZ hi'];exact h2.symm
    ·rw [ju hi,ju ab]
   subst ho;have JN:=Row.new w.drew (fz++news++rest) E;have dI:=h.len;refine ⟨?_,rfl,?_,λj _ hj=>Below.heap_alloc _ _ _ hj,.inr rfl⟩
   ·have e:fz++news=(fz++news++rest).take ((s.n+m)*size):=by
     have e0:(s.n+m)*size=fz.length+news.length:=by rw [Nat.add_mul,hl,e1]
     rw [e0];exact ((List.take_append_of_le_length bB).trans (fC bB)).symm
    conv=>rhs;rw [e]
    exact .row w.heap.size (s.n+m) cap _ hB JN (Nat.le_of_eq e4.symm) e3
   ·exact (Below.refl B w).drew.alloc hB _
theorem Lc{P:Program}{pre:Prop}(hP:BX P)(hm:P.follows .mixedOrders=true){f:FuncId}{fn:Func}{an:Ann}{args:LV}{w:World}{R:Ending->World->Prop}(hf:P.funcs[f]? =some fn)
  (h:pre)(e:pre=acv P an fn args w R):Calls P f args.toArray w R:=LZ hP hm hf (e▸h)
def ngB(P:Program):Bool:=P.funcs.toList.all λfn=>fn.name != "runtime.NumGoroutine"
theorem af6{P:Program}(h:ngB P=true):BX P:=λf fn hf he=>by
 have:=List.all_eq_true.1 h fn (by have:=Array.mem_of_getElem? hf;simpa using this)
 simp [he] at this
def inI(n:Int):Prop:= -9223372036854775808<=n/\n<=9223372036854775807
theorem aK{n:Int}(h:inI n):aj n=n:=by unfold inI at h;unfold IntKind.wrap;simp only [IntKind.bits,IntKind.signed];simp only [Bool.true_and];split<;>simp_all<;>omega
theorem wI{n:Int}(h:inI n:=by unfold inI;omega):IntKind.wrap .i64 n=n:=aK h
theorem mz{j:Nat}(h:inI ((j:Int)+1):=by unfold inI;omega):IntKind.wrap .i64 ((j:Int)+1)=((j+1:Nat):Int):=by rw [aK h];omega
theorem YT(n:Int):inI (aj n):=by unfold inI IntKind.wrap;simp only [IntKind.bits,IntKind.signed];simp only [Bool.true_and];split<;>simp_all<;>omega
def Qg{H:Type}:DataW H->Value
 | .lit (.int k n)=> .int k n
 | .lit (.bool b)=> .bool b
 | .lit (.string bs)=> .string ⟨bs.toArray⟩
 |_=> .bool false
def YU{H:Type}:DataW H->LV
 | .agg l=>l.flatMap fun
   | .agg m=>m.map Qg
   |d=> [Qg d]
 |d=> [Qg d]
def layAll(P:Program)(l:List (String × DataW Unit))(w:World):World:=
 {w with heap:=l.foldl (λh x=>match P.globalNamed x.1 with
   |some g=>h.modify g fun
    | .cells _ t frozen=> .cells (YU x.2).toArray t frozen
    |o=>o
   |none=>h) w.heap}
end Go.Vc
namespace Go.Vc
open Go Go.RowKit
structure RdK(w:World)(s:Sl)(k:Nat)(rows:List (LV)):Prop where
 n:s.n=rows.length
 wd:∀r ∈ rows,r.length=k
 rd:∀i r,rows[i]? =some r->∀j v,r[j]? =some v->ld w (af s.a (i*k+j))=some v
theorem RdK.ext{w w':World}{s:Sl}{k:Nat}{rows:List (LV)}(h:RdK w s k rows)(he:Ext w w'):RdK w' s k rows:=
 ⟨h.n,h.wd,λi r hi j v hj=>he.ld (h.rd i r hi j v hj)⟩
theorem RdK.isSome{w:World}{s:Sl}{k:Nat}{rows:List (LV)}(h:RdK w s k rows)(hk:0<k){i:Nat}(hi:i<rows.length):s.a.isSome=true:=by
 have hr:rows[i]? =some rows[i]:=cZ hi;have hl:=h.wd _ (List.getElem_mem hi);have h0:rows[i][0]? =some (rows[i][0]'ab):=cZ ab;have:=h.rd i _ hr 0 _ h0
 cases hs:s.a with
 |none=>rw [hs] at this;simp [ld,af] at this
 |some a=>rfl
theorem RdK.g9{w:World}{s:Sl}{k:Nat}{rows:List (LV)}(h:RdK w s k rows)(hk:0<k){i:Int}(h0:0<=i)(h1:i<(s.n:Int)):eo s.a i s.n:=
 ⟨h.isSome hk (i:=i.toNat) (by have:=h.n;omega),h0,h1⟩
theorem RdK.at{w:World}{s:Sl}{k:Nat}{rows:List (LV)}(h:RdK w s k rows){i:Nat}{r:LV}(hi:rows[i]? =some r){j:Nat}{v:Value}(hj:r[j]? =some v):ld w (af (af s.a (i*k)) j)=some v:=by rw [dw];exact h.rd i r hi j v hj
theorem KF{w:World}{p:Option Addr}:∀{vs:LV} {i:Nat},(∀j v,vs[j]? =some v->ld w (af p (i+j))=some v)->ag w p i vs
 | [],_,_=>trivial
 | [v],i,h=>by have:=h 0 v rfl;simpa [ag] using this
 |v::u::r,i,h=>⟨by have:=h 0 v rfl;simpa using this,KF (i:=i+1) λj x hj=>by
  have:=h (j+1) x (by simpa using hj)
  rwa [show i+(j+1)=i+1+j from by omega] at this⟩
theorem RdK.bZ{w:World}{s:Sl}{k:Nat}{rows:List (LV)}(h:RdK w s k rows){i:Nat}{r:LV}(hi:rows[i]? =some r):ag w (af s.a (i*k)) 0 r:=
 KF λj v hj=>by rw [ep];exact h.at hi hj
theorem tj{k:Nat}:∀{rows:List (LV)},(∀r ∈ rows,r.length=k)->∀{i:Nat} {r:LV},rows[i]? =some r->∀{j:Nat},j<k->rows.flatten[i*k+j]? =r[j]?
 | [],_,i,r,hi,j,_=>by simp at hi
 |a::rows,h,0,r,hi,j,hj=>by
  simp at hi;subst hi
  have:=h a (.head _)
  rw [kf,nN ab]
  simp
 |a::rows,h,i+1,r,hi,j,hj=>by
  have ha:=h a (.head _)
  rw [kf,pY (by rw [ha,Nat.succ_mul];omega)]
  rw [show (i+1)*k+j-a.length=i*k+j from by rw [ha,Nat.succ_mul];omega]
  exact tj (λr hr=>h r (.tail _ hr)) (by simpa using hi) hj
theorem bK{k:Nat}:∀{rows:List (LV)},(∀r ∈ rows,r.length=k)->rows.flatten.length=rows.length*k
 | [],_=>by simp
 |a::rows,h=>by rw [kf,dm,bK (λr hr=>h r (.tail _ hr)),h a (.head _),dt,Nat.succ_mul,Nat.add_comm]
structure aC(B E k:Nat)(w:World)(s:Sl)(rows:List (LV)):Prop where
 own:Own B E k w s rows.flatten
 wd:∀r ∈ rows,r.length=k
theorem aC.rd{B E k:Nat}{w:World}{s:Sl}{rows:List (LV)}(h:aC B E k w s rows)(hk:0<k):RdK w s k rows:=by
 refine ⟨?_,h.wd,λi r hi j v hj=> ?_⟩
 ·have h1:=h.own.len;rw [bK h.wd] at h1;exact (Nat.eq_of_mul_eq_mul_right hk h1).symm
 ·have hl:=h.wd r (bg hi);have Q0:j<k:=by rw [<-hl];exact (cG.1 hj).1
  exact h.own.rd _ _ ((tj h.wd hi Q0).trans hj)
theorem aC.nil{B E k:Nat}{w:World}:aC B E k w ⟨none,0,0⟩ []:=⟨.nil,λ_ h=>by cases h⟩
theorem aC.ext{B E k:Nat}{w w':World}{s:Sl}{rows:List (LV)}(h:aC B E k w s rows)(he:Ext w w'):aC B E k w' s rows:=⟨h.own.ext he,h.wd⟩
theorem aC.c5{B E k:Nat}{w w':World}{s:Sl}{rows:List (LV)}(h:aC B E k w s rows)(hk:∀g,s.aX=some g->w'.heap[g]? =w.heap[g]?):aC B E k w' s rows:=⟨h.own.c5 hk,h.wd⟩
theorem aC.low{B B' E k:Nat}{w:World}{s:Sl}{rows:List (LV)}(h:aC B E k w s rows)(hb:B'<=B):aC B' E k w s rows:=by
 refine ⟨?_,h.wd⟩;have ho:=h.own;generalize rows.flatten=xs at ho
 cases ho with
 |nil=>exact .nil
 |row g n c cs hg hr hc hn=>exact .row g n c cs ab hr hc hn
theorem aC.append{B E k bytes:Nat}{w:World}{s:Sl}{rows:List (LV)}(h:aC B E k w s rows){news:LV}(hB:B<=w)(hl:news.length=k)(h1:One news)
  (hb:(s.n+1)*bytes<=140737488355328)(hb':s.n+1<=9223372036854775807):
  ba bytes k w s 1 news/\∀(s':Sl)(w':World),aV E k w s 1 news s' w'->
   aC B E k w' s' (rows++ [news])/\s'.n=s.n+1/\Below B w w'/\(∀j,s.aX≠some j->j<w.heap.size->w'.heap[j]? =w.heap[j]?)/\(s'.aX=s.aX\/s'.aX=some w.heap.size):=by
 obtain ⟨hp,hr⟩:=h.own.append (bytes:=bytes) (m:=1) (news:=news) hB (by rw [hl,Nat.one_mul]) h1 hb hb';refine ⟨hp,λs' w' bw=> ?_⟩;obtain ⟨ho,hn,hx,hk,JO⟩:=hr s' w' bw;refine ⟨⟨by rw [List.flatten_append];simpa using ho,λr hr=> ?_⟩,hn,hx,hk,JO⟩;rcases di.1 hr with hr|hr
 ·exact h.wd r hr
 ·simp at hr;rw [hr];exact hl
theorem Own.set{B E size:Nat}{w:World}{s:Sl}{xs:LV}(h:Own B E size w s xs){m:Nat}{v:Value}(hm:m<xs.length)(hv:v.oneCell'=true):
  (af s.a m).isSome=true/\Wr w (af s.a m) 1/\Own B E size (aH w (af s.a m) [v]) s (xs.set m v)/\(∀j,s.aX≠some j->(aH w (af s.a m) [v]).heap[j]? =w.heap[j]?):=by
 cases h with
 |nil=>simp at hm
 |row g n c cs hg hr hc hn=>
  rw [du] at hm;rw [bf];have h1:One [v]:=by intro u hu;simp at hu;subst hu;exact hv
  have hs:=hr.aH (o:=0+m) (vs:=[v]) (by simp;omega) h1;refine ⟨rfl,hr.wr ab,?_,λj hj=> ?_⟩
  ·rw [<-List.take_set];rw [hs];refine .row g n c _ hg ?_ (by simpa using hc) hn;have e:aR cs (0+m) [v]=cs.set m v:=by simp [aR]
   rw [e];exact hr.set (cs.set m v)
  ·rw [hs];exact setRow_other _ _ _ _ (λe=>hj (by rw [e];rfl))
end Go.Vc
namespace Go.Vc
open Go Go.RowKit
theorem Below.aH{B:Nat}{a b:World}(h:Below B a b){p:Option Addr}{vs:LV}(hp:∀x,p=some x->B<=x.block):Below B a (aH b p vs):=by
 cases p with
 |none=>exact h
 |some x=>
  have hx:=hp x rfl;show Below B a (pV b x 0 vs);have key:∀(vs:LV)(i:Nat)(b:World),Below B a b->Below B a (pV b x i vs):=by
   intro vs
   induction vs with
   |nil=>intro i b h;exact h
   |cons v r ih=>
    intro i b h;refine ih _ _ (Below.setCell h ?_ _);unfold Addr.add;split<;>exact hx
  exact key vs 0 b h
theorem te(k:IntKind)(a:Int):One [.int k a]:=by intro v hv;simp at hv;subst hv;rfl
theorem zE(k k':IntKind)(a b:Int):One [.int k a,.int k' b]:=by intro v hv;simp at hv;rcases hv with rfl|rfl<;>rfl
theorem aC.iO{B E k bytes:Nat}{w:World}{s:Sl}{rows:List (LV)}(h:aC B E k w s rows){news:LV}(o:Obj)(hB:B<=w)(hl:news.length=k)(h1:One news)
  (hb:(s.n+1)*bytes<=140737488355328)(hb':s.n+1<=9223372036854775807):
  ba bytes k (w.alloc o) s 1 news/\∀(s':Sl)(w':World),aV E k (w.alloc o) s 1 news s' w'->
   w'.heap[w.heap.size]? =(w.alloc o).heap[w.heap.size]?/\aC B E k w' s' (rows++ [news])/\s'.n=s.n+1/\Below B w w'/\(∀j,s.aX≠some j->j<w.heap.size->w'.heap[j]? =w.heap[j]?)/\(s'.aX=s.aX\/s'.aX=some (w.heap.size+1)):=by
 have xa:=Ext.al w o;obtain ⟨hp,hr⟩:=(h.ext xa).append (bytes:=bytes) (news:=news) (gj hB xa.size) hl h1 hb hb';refine ⟨hp,λs' w' bw=> ?_⟩;obtain ⟨ho,hn,hx,hk,JO⟩:=hr s' w' bw;have hz:(w.alloc o).heap.size=w.heap.size+1:=by simp
 refine ⟨hk _ (λhb=>absurd (h.own.lt hb).2 (Nat.lt_irrefl _)) bB,ho,hn,(Below.mono xa hB).trans hx,λj hj gZ=> ?_,by rw [<-hz];exact JO⟩;rw [hk j hj ab];exact xa.heap gZ
theorem aC.set{B E k:Nat}{w:World}{s:Sl}{rows:List (List Value)}(h:aC B E k w s rows){i j:Nat}{r:List Value}{v:Value}(hi:rows[i]? =some r)(hj:j<k)(hv:v.oneCell'=true)(hB:B<=w.heap.size):
  (af (af s.a (i*k)) j).isSome=true/\Wr w (af (af s.a (i*k)) j) 1/\aC B E k (aH w (af (af s.a (i*k)) j) [v]) s (rows.set i (r.set j v))/\
   Below B w (aH w (af (af s.a (i*k)) j) [v])/\(∀m,s.aX≠some m->(aH w (af (af s.a (i*k)) j) [v]).heap[m]? =w.heap[m]?):=by
 have dI:=bK h.wd;have Ic:i<rows.length:=(List.getElem?_eq_some_iff.1 hi).1;have hm:i*k+j<rows.flatten.length:=by rw [dI];have:(i+1)*k<=rows.length*k:=Nat.mul_le_mul_right _ Ic;rw [Nat.succ_mul] at this;omega
 obtain ⟨h1,h2,h3,h4⟩:=h.own.set (v:=v) hm hv;rw [dw];refine ⟨h1,h2,⟨?_,λq hq=> ?_⟩,?_,h4⟩
 ·have e:(rows.set i (r.set j v)).flatten=rows.flatten.set (i*k+j) v:=by
   have hw:=h.wd;clear h h1 h2 h3 h4 hm dI hv
   induction rows generalizing i with
   |nil=>simp at hi
   |cons a rows ih=>
    have ha:=hw a (.head _)
    cases i with
    |zero=>
     simp at hi;subst hi;simp only [List.set_cons_zero,List.flatten_cons,Nat.zero_mul,Nat.zero_add];rw [List.set_append_left _ _ (by omega)]
    |succ i=>
     simp only [List.set_cons_succ,List.flatten_cons];rw [List.set_append_right _ _ (by rw [ha,Nat.succ_mul];omega),show (i+1)*k+j-a.length=i*k+j from by rw [ha,Nat.succ_mul];omega];rw [ih (by simpa using hi) (by simpa using Ic) (λr hr=>hw r (.tail _ hr))]
  rw [e];exact h3
 ·rcases List.mem_or_eq_of_mem_set hq with hq|rfl
  ·exact h.wd q hq
  ·rw [List.length_set];exact h.wd r (List.mem_of_getElem? hi)
 ·refine Below.aH (Below.refl _ _) λx hx=> ?_
  have ho:=h.own;generalize rows.flatten=xs at ho
  cases ho with
  |nil=>simp [af] at hx
  |row g n c cs hg hr hc hn=>simp [af,mU] at hx;subst hx;exact hg
end Go.Vc
namespace Go.Vc
open Go Go.RowKit
theorem oW{E size:Nat}{w w':World}{a:Option Addr}{n:Nat}{news:LV}{s':Sl}(h:aV E size w ⟨a,0,0⟩ n news s' w')(hl:news.length=n*size){j:Nat}(hj:j<w):w'.heap[j]? =w.heap[j]? :=by
 cases h with
 |fits hf=>
  have:n=0:=by simp at hf;omega
  subst this;have:news=[]:=List.eq_nil_of_length_eq_zero ab;subst this
  cases hp:af a (0*size) with
  |none=>simp [hp,Go.Vc.aH]
  |some x=>simp only [hp,Go.Vc.aH];rfl
 |A3 hf fz rest cap h1 h2 h3 h4=>exact ((Ext.dr w).tr (Ext.al _ _)).heap hj
theorem RdK.flat{w:World}{s:Sl}{k:Nat}{rows:List (LV)}(h:RdK w s k rows)(hk:0<k):Rd w s.a rows.flatten:=by
 intro i v hi;have Ic:i<rows.flatten.length:=(cG.1 hi).1;rw [bK h.wd] at Ic;have hik:i / k<rows.length:=Nat.div_lt_of_lt_mul (by rw [Nat.mul_comm];exact Ic);have hr:rows[i / k]? =some rows[i / k]:=cZ hik;have hm:i % k<k:=Nat.mod_lt _ hk;have e:i / k*k+i % k=i:=by rw [Nat.mul_comm];exact Nat.div_add_mod i k
 have:=tj h.wd hr hm;rw [e,hi] at this;have:=h.rd _ _ hr _ v this.symm;rwa [e] at this
theorem fN{rows:List (LV)}(h:∀r ∈ rows,One r):One rows.flatten:=by intro v hv;obtain ⟨r,hr,hvr⟩:=List.mem_flatten.1 hv;exact h r hr v hvr
end Go.Vc
namespace Go.Vc
open Go Go.RowKit
theorem ve:∀(vs cs:LV)(off N:Nat),(aR cs off vs).take N=aR (cs.take N) off vs
 | [],_,_,_=>rfl
 |v::r,cs,off,N=>by
  show (aR (cs.set off v) (off+1) r).take N=aR ((cs.take N).set off v) (off+1) r
  rw [ve,List.take_set]
theorem kg(a:LV):∀(vs b:LV)(o:Nat),aR (a++b) (a.length+o) vs=a++aR b o vs
 | [],_,_=>rfl
 |v::r,b,o=>by
  show aR ((a++b).set (a.length+o) v) (a.length+o+1) r=a++aR (b.set o v) (o+1) r
  rw [List.set_append_right _ _ ab,Nat.add_sub_cancel_left,Nat.add_assoc]
  exact kg a r _ _
theorem Own.put{B E size:Nat}{w:World}{s:Sl}{xs:LV}(h:Own B E size w s xs){m:Nat}{vs:LV}(hm:m+vs.length<=xs.length)(hx:0<xs.length)(hv:One vs):
  (af s.a m).isSome=true/\Wr w (af s.a m) vs.length/\Own B E size (aH w (af s.a m) vs) s (aR xs m vs)/\(∀j,s.aX≠some j->(aH w (af s.a m) vs).heap[j]? =w.heap[j]?):=by
 cases h with
 |nil=>simp at hx
 |row g n c cs hg hr hc hn=>
  rw [du] at hm;rw [bf];have hs:=hr.aH (o:=0+m) (vs:=vs) ab hv;refine ⟨rfl,hr.wr ab,?_,λj hj=> ?_⟩
  ·rw [<-ve,hs,ep];exact .row g n c _ hg (hr.set _) (by rw [Go.Vc.dq];exact hc) hn
  ·rw [hs];exact setRow_other _ _ _ _ (λe=>hj (by rw [e];rfl))
theorem aC.put{B E k:Nat}{w:World}{s:Sl}{rows:List (List Value)}(h:aC B E k w s rows){i:Nat}{r:List Value}(hi:i<rows.length)(hk:0<k)(hr:r.length=k)(hv:One r):
  (af s.a (i*k)).isSome=true/\Wr w (af s.a (i*k)) k/\aC B E k (aH w (af s.a (i*k)) r) s (rows.set i r)/\
   Below B w (aH w (af s.a (i*k)) r)/\(∀m,s.aX≠some m->(aH w (af s.a (i*k)) r).heap[m]? =w.heap[m]?):=by
 have dI:=bK h.wd;have h1:(i+1)*k<=rows.length*k:=Nat.mul_le_mul_right _ hi;rw [Nat.succ_mul] at h1;obtain ⟨p1,p2,p3,p4⟩:=h.own.put (m:=i*k) (vs:=r) (by omega) (by omega) hv;rw [hr] at p2;refine ⟨p1,p2,⟨?_,λq hq=> ?_⟩,?_,p4⟩
 ·have e:(rows.set i r).flatten=aR rows.flatten (i*k) r:=by
   have hw:=h.wd;clear h p1 p2 p3 p4 dI h1
   induction rows generalizing i with
   |nil=>simp at hi
   |cons a rows ih=>
    have ha:=hw a (.head _)
    cases i with
    |zero=>
     simp only [List.set_cons_zero,List.flatten_cons,Nat.zero_mul];rw [dj _ _ _ (by rw [List.length_append];omega),hr,Nat.zero_add,List.drop_left' ha];simp
    |succ i=>
     simp only [List.set_cons_succ,List.flatten_cons];rw [show (i+1)*k=a.length+i*k from by rw [ha,Nat.succ_mul];omega,kg];rw [ih (by simpa using hi) (λr hr=>hw r (.tail _ hr))]
  rw [e];exact p3
 ·rcases List.mem_or_eq_of_mem_set hq with hq|rfl
  ·exact h.wd q hq
  ·exact hr
 ·refine Below.aH (Below.refl _ _) λx hx=> ?_
  have ho:=h.own;generalize rows.flatten=xs at ho
  cases ho with
  |nil=>simp [af] at hx
  |row g n c cs hg hr hc hn=>simp [af,mU] at hx;subst hx;exact hg
theorem lN(a:Option Addr)(m size j:Nat):af (aJ a 0 m size) j=af a j:=by
 unfold aJ;split
 ·rfl
 ·show af (af a (0*size)) j=_;rw [dw];simp
theorem RdK.cut{w:World}{s:Sl}{k:Nat}{rows:List (LV)}(h:RdK w s k rows){m c' c'':Nat}(hm:m<=rows.length):RdK w ⟨aJ s.a 0 c' k,m,c''⟩ k (rows.take m):=by
 refine ⟨by simp;omega,λr hr=>h.wd r (List.mem_of_mem_take hr),λi r hi j v hj=> ?_⟩;show ld w (af (aJ s.a 0 c' k) _)=_;rw [lN];rw [List.getElem?_take] at hi;split at hi
 ·exact h.rd i r hi j v hj
 ·cases hi
end Go.Vc
namespace Go.Vc
open Go Go.RowKit
theorem aC.FY{B E k bytes:Nat}{w:World}{s:Sl}{rows more:List (LV)}(h:aC B E k w s rows)(hB:B<=w)(hl:∀r ∈ more,r.length=k)(h1:∀r ∈ more,One r)
  (hb:(s.n+more.length)*bytes<=140737488355328)(hb':s.n+more.length<=9223372036854775807):
  ba bytes k w s more.length more.flatten/\∀(s':Sl)(w':World),aV E k w s more.length more.flatten s' w'->
   aC B E k w' s' (rows++more)/\s'.n=s.n+more.length/\Below B w w'/\(∀j,s.aX≠some j->j<w.heap.size->w'.heap[j]? =w.heap[j]?)/\(s'.aX=s.aX\/s'.aX=some w.heap.size):=by
 obtain ⟨hp,hr⟩:=h.own.append (bytes:=bytes) (m:=more.length) (news:=more.flatten) hB (bK hl) (fN h1) hb hb';refine ⟨hp,λs' w' bw=> ?_⟩;obtain ⟨ho,hn,hx,hk,JO⟩:=hr s' w' bw;refine ⟨⟨by rw [List.flatten_append];exact ho,λr hr=> ?_⟩,hn,hx,hk,JO⟩;rcases di.1 hr with hr|hr
 ·exact h.wd r hr
 ·exact hl r hr
end Go.Vc
namespace Go.Vc
open Go Go.RowKit
theorem RdK.rest{w:World}{s:Sl}{k:Nat}{rows:List (LV)}(h:RdK w s k rows){l m n' c':Nat}(hn:n'=rows.length-l)(hm:m=l->rows.length<=l):RdK w ⟨aJ s.a l m k,n',c'⟩ k (rows.drop l):=by
 refine ⟨by simpa using hn,λr hr=>h.wd r (List.mem_of_mem_drop hr),λi r hi j v hj=> ?_⟩;rw [List.getElem?_drop] at hi;show ld w (af (aJ s.a l m k) _)=_;unfold aJ;split
 ·rename_i e;have:=hm e;rw [ju ab] at hi;cases hi
 ·show ld w (af (af s.a (l*k)) _)=_;rw [dw];have:=h.rd (l+i) r hi j v hj;rwa [Nat.add_mul,Nat.add_assoc] at this
end Go.Vc
namespace Go.Vc
open Go Go.RowKit
theorem dp{P:Program}{fv:Value}{args:LV}{w:World}{R R':Ending->World->Prop}(h:cr P fv args w R)(hr:∀e w',R e w'->R' e w'):cr P fv args w R':=by
 unfold cr at h ⊢;split at h
 ·split at h
  ·exact h.mono hr
  ·obtain ⟨e,he,v,w',h1,h2⟩:=h;exact ⟨e,he,v,w',h1,hr _ _ h2⟩
 ·obtain ⟨h1,fn,tmps,assign,body,h2,h3⟩:=h;exact ⟨h1,fn,tmps,assign,body,h2,h3.mono hr⟩
 ·exact h.elim
theorem YK{P:Program}{f:FuncId}{first cap:Array Value}{args:LV}{w:World}{R:Ending->World->Prop}(hb:uk P f=true)(h:Calls P f (first.toList++args++cap.toList).toArray w R):
  cr P (.func (.func f) first cap) args w R:=by
 unfold cr;simp only [hb];exact h
theorem cS{P:Program}{f:FuncId}{first cap:Array Value}{args:LV}{w:World}{R:Ending->World->Prop}{asx:Array Value}(hb:uk P f=true)(ha:(first.toList++args++cap.toList).toArray=asx)(h:Calls P f asx w R):
  cr P (.func (.func f) first cap) args w R:=YK hb (by rw [ha];exact h)
theorem Bw(fn:Fn)(a b:Array Value):Ip (.func fn a b)=false:=rfl
theorem LP(fn:Fn)(a b:Array Value):fnC (.func fn a b)=[]:=rfl
structure Mod(F:Nat->Prop)(w w':World):Prop where
 os:w'.os=w.os
 tape:w'.tape=w.tape
 output:w'.output=w.output
 size:w.heap.size<=w'.heap.size
 same:∀i,i<w.heap.size->¬F i->w'.heap[i]? =w.heap[i]?
theorem Mod.refl(F:Nat->Prop)(w:World):Mod F w w:=⟨rfl,rfl,rfl,aB _,λ_ _ _=>rfl⟩
theorem Mod.aD{F:Nat->Prop}{w w':World}(h:Ext w w'):Mod F w w':=⟨h.os,h.tape,h.output,h.size,λi hi _=>h.block i hi⟩
theorem Mod.trans{F:Nat->Prop}{a b c:World}(h:Mod F a b)(k:Mod F b c):Mod F a c:=
 ⟨k.os.trans h.os,k.tape.trans h.tape,k.output.trans h.output,gj h.size k.size,λi hi hn=>(k.same i (j6 hi h.size) hn).trans (h.same i hi hn)⟩
theorem Mod.mono{F F':Nat->Prop}{a b:World}(h:Mod F a b)(hs:∀i,i<a.heap.size->F i->F' i):Mod F' a b:=⟨h.os,h.tape,h.output,h.size,λi hi hn=>h.same i hi λhf=>hn (hs i hi hf)⟩
theorem Mod.tr{F F':Nat->Prop}{a b c:World}(h:Mod F a b)(k:Mod F' b c)(hs:∀i,F' i->F i\/a.heap.size<=i):Mod F a c:=
 ⟨k.os.trans h.os,k.tape.trans h.tape,k.output.trans h.output,gj h.size k.size,λi hi hn=>(k.same i (j6 hi h.size) λhf=>by
  rcases hs i hf with hf|hf
  ·exact hn hf
  ·omega).trans (h.same i hi hn)⟩
theorem Mod.below{F:Nat->Prop}{B:Nat}{w w':World}(h:Mod F w w')(hB:B<=w)(hF:∀i,F i->B<=i):Below B w w':=⟨h.os,h.tape,h.output,h.size,λi hi=>h.same i ab λhf=>by have:=hF i hf;omega⟩
theorem Mod.ext{F:Nat->Prop}{w0 w w':World}(h:Mod F w w')(x:Ext w0 w)(hF:∀i,F i->w0.heap.size<=i):Ext w0 w':=x.trans (h.below x.size hF)
theorem Mod.nX{r:Nat}{w w':World}(h:Rec r w w'):Mod (λi=>i=r) w w':=⟨h.os,h.tape,h.output,Nat.le_of_eq h.size.symm,λi _ hn=>h.same i hn⟩
theorem acY{w w':World}{p:Option Addr}(h:∀b,bD p=some b->w'.heap[b]? =w.heap[b]?):ld w' p=ld w p:=by
 cases p with
 |none=>rfl
 |some a=>
  show w'.cell? a=w.cell? a;have:=h a.block rfl;simp only [World.cell?,this]
theorem RdK.same{w w':World}{s:Sl}{k:Nat}{rows:List (LV)}(h:RdK w s k rows)(hs:∀b,s.aX=some b->w'.heap[b]? =w.heap[b]?):RdK w' s k rows:=
 ⟨h.n,h.wd,λi r hi j v hj=>by rw [acY λb hb=>hs b (by rw [cV] at hb;exact hb)];exact h.rd i r hi j v hj⟩
end Go.Vc
namespace Go.Vc
open Go Go.RowKit
theorem RdK.P3{w:World}{s:Sl}{k:Nat}{rows:List (LV)}(h:RdK w s k rows)(hk:0<k)(iM:rows≠ []){b:Nat}(hb:s.aX=some b):b<w:=by
 cases rows with
 |nil=>exact absurd rfl iM
 |cons r rows=>
  have hl:=h.wd r (.head _);have h0:r[0]? =some (r[0]'ab):=cZ ab;have:=h.rd 0 r rfl 0 _ h0
  cases ha:s.a with
  |none=>rw [ha] at this;simp [ld,af] at this
  |some a=>
   rw [ha] at this;have gZ:=R8 (w:=w) (a:=a.add (0*k+0)) this;have:(a.add (0*k+0)).block=a.block:=by unfold Addr.add;split<;>rfl
   rw [this] at gZ;simp [Sl.aX,ha] at hb;omega
theorem RdK.aeK{w w':World}{s:Sl}{k:Nat}{rows:List (LV)}(h:RdK w s k rows)(hs:rows≠ []->∀b,s.aX=some b->w'.heap[b]? =w.heap[b]?):RdK w' s k rows:=by
 cases rows with
 |nil=>exact ⟨h.n,h.wd,λi r hi=>by simp at hi⟩
 |cons r rows=>exact h.same (hs bB)
end Go.Vc
namespace Go.Vc
open Go Go.RowKit
end Go.Vc
namespace Go.Vc
open Go Go.RowKit
theorem aC.form{B E k:Nat}{w:World}{s:Sl}{rows:List (LV)}(h:aC B E k w s rows)(hk:0<k):(s=⟨none,0,0⟩/\rows=[])\/
  ∃g cs,s.a=some ⟨g,0,none⟩/\B<=g/\Row w g cs E/\s.c*k<=cs.length/\s.n<=s.c/\cs.take (s.n*k)=rows.flatten/\s.n=rows.length:=by
 have hn:=(h.rd hk).n;have ho:=h.own;have hf:=bK h.wd;generalize hx:rows.flatten=xs at ho hf
 cases ho with
 |nil=>exact .inl ⟨rfl,List.eq_nil_of_length_eq_zero (by rw [<-hn])⟩
 |row g n c cs hg hr hc hn'=>exact .inr ⟨g,cs,rfl,hg,hr,hc,hn',rfl,hn⟩
theorem aC.jg{B E k:Nat}{w:World}{g n c:Nat}{cs:LV}{rows:List (LV)}(hg:B<=g)(hr:Row w g cs E)(hc:c*k<=cs.length)(hn:n<=c)(ht:cs.take (n*k)=rows.flatten)(hw:∀r ∈ rows,r.length=k):
  aC B E k w ⟨some ⟨g,0,none⟩,n,c⟩ rows:=⟨by rw [<-ht];exact .row g n c cs hg hr hc hn,hw⟩
theorem ed(a:Option Addr)(m size:Nat):aJ a 0 m size=a:=by
 unfold aJ;split
 ·rfl
 ·cases a<;>simp [Addr.add]
theorem qU(g l m size:Nat):aJ (some ⟨g,0,none⟩) l m size=if m=l then some ⟨g,0,none⟩ else some ⟨g,l*size,none⟩:=by
 unfold aJ;split
 ·rfl
 ·simp [mU]
theorem Row.afV{w:World}{g:Nat}{cs vs:LV}{E:TypeId}(hr:Row w g cs E){l m size:Nat}(hm:m=l->vs=[])(hv:∀j,j<vs.length->cs[l*size+j]? =vs[j]?):Rd w (aJ (some ⟨g,0,none⟩) l m size) vs:=by intro j v hj;have gZ:=(cG.1 hj).1;rw [qU,if_neg (λe=>by rw [hm e] at gZ;simp at gZ),bf,hr.ld,hv j gZ];exact hj
theorem Row.XA{w:World}{g:Nat}{cs vs:LV}{E:TypeId}(hr:Row w g cs E){l m size:Nat}(hm:m=l->vs=[])(hl:l*size+vs.length<=cs.length)(h1:One vs):
  Wr w (aJ (some ⟨g,0,none⟩) l m size) vs.length/\Row (Go.Vc.aH w (aJ (some ⟨g,0,none⟩) l m size) vs) g (aR cs (l*size) vs) E/\Mod (λi=>i=g) w (Go.Vc.aH w (aJ (some ⟨g,0,none⟩) l m size) vs):=by
 by_cases e:m=l
 ·have:=hm e;subst this;rw [qU,if_pos e];exact ⟨λi hi=>by simp at hi,hr,Mod.refl _ _⟩
 ·rw [qU,if_neg e,hr.aH hl h1];exact ⟨hr.wr hl,hr.set _,⟨rfl,rfl,rfl,by rw [setRow_size];exact aB _,λi _ hn=>setRow_other _ _ _ _ hn⟩⟩
theorem TM{w:World}{a:Option Addr}{xs ys:LV}(hx:Rd w a xs)(hy:Rd w a ys)(hl:xs.length=ys.length):xs=ys:=by
 apply iY;intro i;rcases Nat.lt_or_ge i xs.length with hi|hi
 ·have h1:=hx i xs[i] (cZ hi);have h2:=hy i (ys[i]'ab) (cZ ab);rw [h1] at h2;rw [cZ hi,cZ ab];exact h2
 ·rw [ju hi,ju ab]
theorem Row.rd0{w:World}{g:Nat}{cs vs:LV}{E:TypeId}(hr:Row w g cs E)(hv:∀j,j<vs.length->cs[j]? =vs[j]?):Rd w (some ⟨g,0,none⟩) vs:=by intro j v hj;have gZ:=(cG.1 hj).1;rw [bf,hr.ld,ep,hv j gZ];exact hj
theorem Row.ne{w:World}{g g':Nat}{cs cs':LV}{E E':TypeId}(hr:Row w g cs E)(hr':Row w g' cs' E')(hE:E≠E'):g≠g':=by rintro rfl;have:=hr.symm.trans hr';simp at this;exact hE this.2
theorem Row.jj{w:World}{g r:Nat}{cs:LV}{E:TypeId}{G:Value->Prop}{kvs:List (Value × Value)}(hr:Row w g cs E)(hm:cl G w (some r) kvs):g≠r:=by rintro rfl;exact hm.ug _ _ _ hr
theorem cl.same{w w':World}{G:Value->Prop}{r:Nat}{kvs:List (Value × Value)}(hm:cl G w (some r) kvs)(h:w'.heap[r]? =w.heap[r]?):cl G w' (some r) kvs:=by obtain ⟨es,c,h1,h2⟩:=hm;exact ⟨es,c,h.trans h1,h2⟩
theorem cl.lt{w:World}{G:Value->Prop}{r:Nat}{kvs:List (Value × Value)}(hm:cl G w (some r) kvs):r<w:=by obtain ⟨es,c,h1,h2⟩:=hm;exact (rP.1 h1).1
theorem cl.new{w:World}{G:Value->Prop}:cl G (w.alloc (.map #[] 0)) (some w.heap.size) []:=
 ⟨#[],0,World.alloc_heap_new w _,rfl,by simp,by simp,by simp,by simp⟩
end Go.Vc
namespace Go.Vc
open Go Go.RowKit
theorem xL{k:Nat}:∀{rows:List (LV)} (m:Nat),(∀r ∈ rows,r.length=k)->rows.flatten.take (m*k)=(rows.take m).flatten
 | [],m,_=>by simp
 |r::rows,0,_=>by simp
 |r::rows,m+1,hw=>by
  have hr:=hw r (.head _)
  rw [List.take_succ_cons,kf,kf,show (m+1)*k=r.length+m*k by rw [Nat.succ_mul,hr];omega,List.take_append,fC ab,Nat.add_sub_cancel_left,xL m λq hq=>hw q (.tail _ hq)]
theorem aC.cut{B E k:Nat}{w:World}{s:Sl}{rows:List (LV)}(h:aC B E k w s rows)(hk:0<k){m:Nat}(hm:m<=rows.length):aC B E k w ⟨aJ s.a 0 m k,m,m⟩ (rows.take m):=by
 rw [ed];rcases h.form hk with ⟨rfl,rfl⟩|⟨g,cs,ha,hg,hr,hc,hn,ht,hl⟩
 ·have:m=0:=by simpa using hm
  subst this;exact .nil
 ·rw [ha];have h1:m*k<=s.n*k:=Nat.mul_le_mul_right _ ab;have h2:s.n*k<=s.c*k:=Nat.mul_le_mul_right _ hn;refine aC.jg hg hr ab (aB _) ?_ (λr hr=>h.wd r (List.mem_of_mem_take hr));have e1:cs.take (m*k)=(cs.take (s.n*k)).take (m*k):=by rw [List.take_take,Nat.min_eq_left h1]
  rw [e1,ht,xL m h.wd]
end Go.Vc
namespace Go.Vc
open Go Go.RowKit
structure aM(F F':Nat->Prop)(w w':World):Prop where
 mod:Mod F w w'
 sub:∀i,F' i->F i\/w.heap.size<=i
theorem aM.refl(F:Nat->Prop)(w:World):aM F F w w:=⟨Mod.refl _ _,λ_ h=> .inl h⟩
theorem aM.trans{F G H:Nat->Prop}{a b c:World}(h:aM F G a b)(k:aM G H b c):aM F H a c:=
 ⟨h.mod.tr k.mod h.sub,λi hi=>by
  rcases k.sub i hi with hg|hg
  ·exact h.sub i hg
  ·exact .inr (gj h.mod.size hg)⟩
theorem aM.aD{F:Nat->Prop}{w w':World}(h:Ext w w'):aM F F w w':=⟨Mod.aD h,λ_ h=> .inl h⟩
theorem aM.fresh{F F':Nat->Prop}{w0 w w':World}(h:aM F F' w w')(x:Ext w0 w)(hF:∀i,F i->w0.heap.size<=i):Ext w0 w'/\∀i,F' i->w0.heap.size<=i:=
 ⟨h.mod.ext x hF,λi hi=>by
  rcases h.sub i hi with hf|hf
  ·exact hF i hf
  ·exact gj x.size hf⟩
theorem aM.apart{F F' G:Nat->Prop}{w w':World}(h:aM F F' w w')(hd:∀i,F i->¬G i)(hl:∀i,G i->i<w.heap.size):∀i,F' i->¬G i:=λi hi hg=>by
 rcases h.sub i hi with hf|hf
 ·exact hd i hf hg
 ·have:=hl i hg;omega
theorem Mod.vA{w w':World}{s:Sl}(hb:Below 0 w w')(hk:∀j,s.aX≠some j->j<w.heap.size->w'.heap[j]? =w.heap[j]?):Mod (λi=>s.aX=some i) w w':=
 ⟨hb.os,hb.tape,hb.output,hb.size,λi hi hn=>hk i hn hi⟩
theorem Mod.row{F:Nat->Prop}{w w':World}(h:Mod F w w'){g:Nat}{cs:LV}{t:TypeId}(hr:Row w g cs t)(hn:¬F g):Row w' g cs t:=hr.same (h.same g hr.lt hn)
theorem Mod.fk{F:Nat->Prop}{w w':World}(h:Mod F w w'){B E k:Nat}{s:Sl}{rows:List (LV)}(ho:aC B E k w s rows)(hn:∀b,s.aX=some b->¬F b):aC B E k w' s rows:=
 ho.c5 λb hb=>h.same b (ho.own.lt hb).2 (hn b hb)
theorem Mod.map{F:Nat->Prop}{w w':World}(h:Mod F w w'){G:Value->Prop}{r:Nat}{kvs:List (Value × Value)}(hm:cl G w (some r) kvs)(hn:¬F r):cl G w' (some r) kvs:=hm.same (h.same r hm.lt hn)
theorem Mod.rdK{F:Nat->Prop}{w w':World}(h:Mod F w w'){s:Sl}{k:Nat}{rows:List (LV)}(hk:0<k)(hr:RdK w s k rows)(hn:rows≠ []->∀b,s.aX=some b->¬F b):RdK w' s k rows:=
 hr.aeK λiM b hb=>h.same b (hr.P3 hk iM hb) (hn iM b hb)
theorem Zj{C x l:LV}{a b N:Nat}(hb:b=a+x.length)(hN:N=b+l.length)(hC:N<=C.length):(aR (aR C a x) b l).take N=C.take a++x++l:=by
 have ha:(C.take a).length=a:=by rw [du];omega
 rw [dj x C a ab];have hD:(C.take a++x).length=b:=by rw [dm,ha,hb]
 rw [dj _ _ _ (by rw [dm,hD,List.length_drop];omega),List.take_left' hD,List.take_left' (by rw [dm,hD];omega)]
theorem Vo{C x l:LV}{a b N:Nat}(hb:b=a+x.length)(hN:N=b+l.length)(hC:N<=C.length):(aR (aR C b l) a x).take N=C.take a++x++l:=by
 have ha:(C.take a).length=a:=by rw [du];omega
 have kD:(C.take b).length=b:=by rw [du];omega
 rw [dj l C b ab];have h1:(C.take b++l++C.drop (b+l.length)).take a=C.take a:=by rw [gE,List.take_append_of_le_length ab,List.take_take,Nat.min_eq_left ab]
 have h2:(C.take b++l++C.drop (b+l.length)).drop (a+x.length)=l++C.drop (b+l.length):=by rw [gE,<-hb,List.drop_left' kD]
 have hl:(C.take b++l++C.drop (b+l.length)).length=C.length:=by simp;omega
 rw [dj _ _ _ (by rw [hl];omega),h1,h2,<-gE,List.take_left' (by simp only [dm,ha];omega)]
theorem agE{lo hi:Nat}(h:lo+hi<=1000000):aj (((cX (aj ((lo:Int)+(hi:Int)))):Int).fdiv (2 ^(min (1:Int).toNat 64)))=(((lo+hi) / 2:Nat):Int):=by
 rw [aK (n:=(lo:Int)+hi) (by unfold inI;omega)];have h2:cX ((lo:Int)+hi)=lo+hi:=by unfold IntKind.wrap;simp only [IntKind.bits,IntKind.signed];simp;omega
 rw [h2];have h3:((lo:Int)+hi).fdiv (2 ^(min (1:Int).toNat 64))=(((lo+hi) / 2:Nat):Int):=by show ((lo:Int)+hi).fdiv 2=_;rw [rT _ ab];omega
 rw [h3,wI]
theorem Row.at{w:World}{g:Nat}{cs:LV}{E:TypeId}(hr:Row w g cs E)(j:Nat){v:Value}(h:cs[j]? =some v):Vc.ld w (af (some ⟨g,0,none⟩) j)=some v:=by rw [bf,hr.ld,ep];exact h
theorem Row.je{w:World}{g:Nat}{cs:LV}{E:TypeId}(hr:Row w g cs E){j:Nat}{v:Value}(hj:j<cs.length)(hv:v.oneCell'=true):
  Wr w (af (some ⟨g,0,none⟩) j) 1/\∀w',w'=Vc.aH w (af (some ⟨g,0,none⟩) j) [v]->Row w' g (aR cs j [v]) E/\Mod (λi=>i=g) w w':=by
 rw [bf,ep];have h1:One [v]:=by intro u hu;simp at hu;subst hu;exact hv
 refine ⟨hr.wr ab,λw' e=> ?_⟩;rw [hr.aH (by simp;omega) h1] at e;subst e;exact ⟨hr.set _,rfl,rfl,rfl,by rw [setRow_size];exact aB _,λi _ hn=>setRow_other _ _ _ _ hn⟩
theorem bc{B E k:Nat}{w:World}{s:Sl}{rows:List (LV)}(h:aC B E k w s rows)(hk:0<k){b:Nat}(hb:s.aX=some b):∃cs,Row w b cs E:=by
 rcases h.form hk with ⟨hs,-⟩|⟨g0,cs,ha,hg0,hr,-⟩
 ·rw [hs] at hb;cases hb
 ·unfold Sl.aX at hb;rw [ha] at hb;have:g0=b:=by simpa using hb
  exact ⟨cs,this▸hr⟩
open Go.ChangeShapes Go.WideShapes
theorem inI_wf'{n:Int}(h:(Lit.int .i64 n).wf=true):inI n:=by
 have h1:IntKind.min .i64= -9223372036854775808:=by decide
 have h2:IntKind.max .i64=9223372036854775807:=by decide
 simp only [Lit.wf,fm,cQ,h1,h2] at h;exact h
section
variable {H:Type} {enc:TypeId × Value->H} {P:Program} {w:World} {base:Nat} {spare:Nat->Bool} {held:Bool}
theorem acS{t:TypeId}{f0 f1:Field}{fuel:Nat}{cs:LV}{x:DataW H × List MemPlace}(ht:P.underlying t=some (.struct #[f0,f1]))(ce:P.cellsOf t=2)
  (o0:f0.offset=0)(o1:f1.offset=1)(c0:P.cellsOf f0.type=1)(c1:P.cellsOf f1.type=1)(u0:P.underlying f0.type=some (.int .i64))(u1:P.underlying f1.type=some (.int .i64))
  (h:DataW.trod enc P w base spare held fuel t cs=some x):∃a b,cs=[.int .i64 a,.int .i64 b]/\inI a/\inI b:=by
 obtain ⟨xs,n,_,_,hl,hxl,hf⟩:=DataW.trod_struct ht h;rw [ce] at hl
 match xs,hxl,cs,hl with
 | [y0,y1],_,[v0,v1],_=>
   have h0:=hf 0 f0 rfl;have h1:=hf 1 f1 rfl;rw [o0,c0] at h0;rw [o1,c1] at h1;obtain ⟨a,e0,_,wa⟩:=DataW.trod_int u0 h0;obtain ⟨b,e1,_,wb⟩:=DataW.trod_int u1 h1;simp at e0 e1;exact ⟨a,b,by rw [e0,e1],inI_wf' wa,inI_wf' wb⟩
theorem abt{t e:TypeId}{f0 f1:Field}{fuel:Nat}{a:Option Addr}{len cap:Nat}{x:DataW H × List MemPlace}(ht:P.underlying t=some (.slice e))(he:P.underlying e=some (.struct #[f0,f1]))
  (ce:P.cellsOf e=2)(o0:f0.offset=0)(o1:f1.offset=1)(c0:P.cellsOf f0.type=1)(c1:P.cellsOf f1.type=1)(u0:P.underlying f0.type=some (.int .i64))(u1:P.underlying f1.type=some (.int .i64))
  (h:DataW.trod enc P w base spare held fuel t [.slice a len cap]=some x):
  ∃l:List (Int × Int),RdK w ⟨a,len,cap⟩ 2 (l.map λr=> [.int .i64 r.1,.int .i64 r.2])/\(∀r ∈ l,inI r.1/\inI r.2)/\len<=cap/\cap<=maxLen:=by
 rcases Go.Deep.open_slice_pairs ht he ce o0 o1 c0 c1 h with ⟨xi,_⟩|⟨b,len',cap',m,n,V0,V1,D0,D1,P0,P1,xi,_,hl,hm,hmm,_,hx⟩
 ·simp at xi;obtain ⟨rfl,rfl,rfl⟩:=xi;exact ⟨[],⟨rfl,by simp,λi r hi=>by simp at hi⟩,by simp,aB _,by decide⟩
 ·simp at xi;obtain ⟨rfl,rfl,rfl⟩:=xi;have hlm:len<=m:=by rw [hmm];split<;>omega
  have each:∀i,i<len->∃r:Int × Int,w.cell? (b.add (i*2))=some (.int .i64 r.1)/\w.cell? (b.add (i*2+1))=some (.int .i64 r.2)/\inI r.1/\inI r.2:=by intro i hi;obtain ⟨h0,h1,h2,h3⟩:=hx i ab;obtain ⟨p,e0,_,wp⟩:=DataW.trod_int u0 h2;obtain ⟨q,e1,_,wq⟩:=DataW.trod_int u1 h3;simp at e0 e1;exact ⟨(p,q),by rw [h0,e0],by rw [h1,e1],inI_wf' wp,inI_wf' wq⟩
  have pick:∃f:Nat->Int × Int,∀i,i<len->w.cell? (b.add (i*2))=some (.int .i64 (f i).1)/\w.cell? (b.add (i*2+1))=some (.int .i64 (f i).2)/\inI (f i).1/\inI (f i).2:=by refine ⟨λi=>if hi:i<len then Classical.choose (each i hi) else (0,0),λi hi=> ?_⟩;simp only [dif_pos hi];exact Classical.choose_spec (each i hi)
  obtain ⟨f,hf⟩:=pick;refine ⟨(List.range len).map f,⟨by simp,by simp,λi r hi j v hj=> ?_⟩,λr hr=> ?_,hl,hm⟩
  ·simp only [List.map_map,aU,Option.map_eq_some_iff] at hi;obtain ⟨k,hk,rfl⟩:=hi;obtain ⟨MY,Fb⟩:=cG.1 hk;simp at MY Fb;subst Fb;obtain ⟨h0,h1,_,_⟩:=hf i MY;rcases j with _|_|j<;>simp at hj
   ·subst hj;exact h0
   ·subst hj;exact h1
  ·obtain ⟨i,hi,rfl⟩:=aZ.1 hr;exact (hf i (by simpa using hi)).2.2
theorem acT{t e:TypeId}{k:IntKind}{fuel:Nat}{a:Option Addr}{len cap:Nat}{x:DataW H × List MemPlace}(ht:P.underlying t=some (.slice e))(he:P.underlying e=some (.int k))(ce:P.cellsOf e=1)
  (h:DataW.trod enc P w base spare held fuel t [.slice a len cap]=some x):
  ∃z:List Int,RdK w ⟨a,len,cap⟩ 1 (z.map λn=> [.int k n])/\(∀n ∈ z,(Lit.int k n).wf=true)/\len<=cap/\cap<=maxLen:=by
 rcases Go.ChangeShapes.open_ints ht he ce h with ⟨xi,_⟩|⟨b,len',cap',zs,xi,_,hl,hm,hz,_,hcell,hwf⟩
 ·simp at xi;obtain ⟨rfl,rfl,rfl⟩:=xi;exact ⟨[],⟨rfl,by simp,λi r hi=>by simp at hi⟩,by simp,aB _,by decide⟩
 ·simp at xi;obtain ⟨rfl,rfl,rfl⟩:=xi;have hlm:len<=zs.length:=by rw [hz];split<;>omega
  refine ⟨zs.take len,⟨by simp;omega,λr hr=>by obtain ⟨q,_,rfl⟩:=aZ.1 hr;rfl,λi r hi j v hj=> ?_⟩,λn hn=>hwf n (List.mem_of_mem_take hn),hl,hm⟩;rw [aU,Option.map_eq_some_iff] at hi;obtain ⟨q,hq,rfl⟩:=hi;rw [List.getElem?_take] at hq;split at hq
  ·rename_i Ic;have:=hcell i ab;rw [dS,hq] at this;rcases j with _|j<;>simp at hj;subst hj;show w.cell? (b.add (i*1+0))=_;rw [Nat.mul_one,Nat.add_zero];exact this
  ·cases hq
theorem atV{n:Int}(h:(Lit.int .u8 n).wf=true):0<=n/\n<256:=by
 have h1:IntKind.min .u8=0:=by decide
 have h2:IntKind.max .u8=255:=by decide
 simp only [Lit.wf,fm,cQ,h1,h2] at h;omega
end
section
variable {H:Type} {enc:TypeId × Value->H} {P:Program} {w:World} {base:Nat} {spare:Nat->Bool} {held:Bool}
def EO(P:Program):Nat->TypeId->Bool
 |0,_=>false
 |n+1,t=>match P.underlying t with
  |some (.int .i64)=>P.cellsOf t==1
  |some (.struct fs)=>(List.range (P.cellsOf t)).all λi=>(List.range fs.size).any λj=>match fs[j]? with
   |some f=>decide (f.offset<=i) && decide (i<f.offset+P.cellsOf f.type) && EO P n f.type
   |none=>false
  |_=>false
theorem yA:∀{n:Nat} {t:TypeId} {fuel:Nat} {cs:LV} {x:DataW H × List MemPlace},EO P n t=true->DataW.trod enc P w base spare held fuel t cs=some x->
  cs.length=P.cellsOf t/\∀v ∈ cs,∃z,v=.int .i64 z/\inI z
 |0,_,_,_,_,h,_=>by simp [EO] at h
 |n+1,t,fuel,cs,x,h,ht=>by
  unfold EO at h
  split at h
  ·rename_i e
   obtain ⟨z,rfl,_,hw⟩:=DataW.trod_int e ht
   have:P.cellsOf t=1:=by simpa using h
   refine ⟨by rw [this];rfl,λv hv=> ?_⟩;rw [List.mem_singleton] at hv;exact ⟨z,hv,inI_wf' hw⟩
  ·rename_i fs e;obtain ⟨xs,k,_,_,hl,hxl,hf⟩:=DataW.trod_struct e ht;refine ⟨hl,λv hv=> ?_⟩;obtain ⟨i,hi,rfl⟩:=List.getElem_of_mem hv;rw [List.all_eq_true] at h;have hj:=h i (List.mem_range.2 ab);rw [List.any_eq_true] at hj;obtain ⟨j,hjr,hj⟩:=hj;rw [List.mem_range] at hjr;split at hj
   ·rename_i f hfj;simp only [fm,cQ] at hj;have hx:=hf j f hfj;rw [cZ ab] at hx;obtain ⟨dI,qA⟩:=yA hj.2 hx;refine qA _ (bg (i:=i-f.offset) ?_);rw [List.getElem?_take,if_pos ab,List.getElem?_drop,cZ ab];congr 2;omega
   ·cases hj
  ·cases h
theorem vp:∀{cs:LV},(∀v ∈ cs,∃z,v=.int .i64 z/\inI z)->∃r:List Int,cs=r.map (λn=> .int .i64 n)/\∀n ∈ r,inI n
 | [],_=>⟨[],rfl,by simp⟩
 |v::cs,h=>by
  obtain ⟨z,rfl,hz⟩:=h v (List.mem_cons_self ..)
  obtain ⟨r,rfl,hr⟩:=vp λu hu=>h u (List.mem_cons_of_mem _ hu)
  refine ⟨z::r,rfl,λn hn=> ?_⟩
  rcases cB.1 hn with rfl|hn
  ·exact hz
  ·exact hr n hn
theorem vq{n:Nat}{t:TypeId}{fuel:Nat}{cs:LV}{x:DataW H × List MemPlace}(hb:EO P n t=true)(h:DataW.trod enc P w base spare held fuel t cs=some x):
  ∃r:List Int,cs=r.map (λn=> .int .i64 n)/\r.length=P.cellsOf t/\∀n ∈ r,inI n:=by
 obtain ⟨h1,h2⟩:=yA hb h;obtain ⟨r,rfl,hr⟩:=vp h2;exact ⟨r,rfl,by simpa using h1,hr⟩
theorem flat3_of_trod{n:Nat}{t:TypeId}{fuel:Nat}{cs:LV}{x:DataW H × List MemPlace}(hb:EO P n t=true)(hk:P.cellsOf t=3)(h:DataW.trod enc P w base spare held fuel t cs=some x):
  ∃a b c,cs=[.int .i64 a,.int .i64 b,.int .i64 c]/\inI a/\inI b/\inI c:=by
 obtain ⟨r,rfl,hl,hi⟩:=vq hb h;rw [hk] at hl
 match r,hl with
 | [a,b,c],_=>exact ⟨a,b,c,rfl,hi a bB,hi b bB,hi c bB⟩
theorem ac4{m k:Nat}{t e:TypeId}{fuel:Nat}{a:Option Addr}{len cap:Nat}{x:DataW H × List MemPlace}(ht:P.underlying t=some (.slice e))(hb:EO P m e=true)(hk:P.cellsOf e=k)
  (h:DataW.trod enc P w base spare held fuel t [.slice a len cap]=some x):
  ∃z:List (List Int),RdK w ⟨a,len,cap⟩ k (z.map λr=>r.map λn=> .int .i64 n)/\(∀r ∈ z,r.length=k/\∀n ∈ r,inI n)/\len<=cap/\cap<=maxLen:=by
 rcases Go.Deep.open_slice ht h with ⟨xi,_⟩|⟨b,len',cap',m',n,D,Pl,xi,_,hl,hm,hmm,_,hx⟩
 ·simp at xi;obtain ⟨rfl,rfl,rfl⟩:=xi;exact ⟨[],⟨rfl,by simp,λi r hi=>by simp at hi⟩,by simp,aB _,by decide⟩
 ·simp at xi;obtain ⟨rfl,rfl,rfl⟩:=xi;have hlm:len<=m':=by rw [hmm];split<;>omega
  have each:∀i,i<len->∃r:List Int,(∀j,j<k->w.cell? ((b.add (i*k)).add j)=(r.map λn=>Value.int .i64 n)[j]?)/\r.length=k/\∀n ∈ r,inI n:=by intro i hi;obtain ⟨cs',h1,h2⟩:=hx i ab;obtain ⟨r,rfl,hr1,pP⟩:=vq hb h2;rw [hk] at h1 hr1;exact ⟨r,(World.cells?_some h1).2.2,hr1,pP⟩
  have pick:∃f:Nat->List Int,∀i,i<len->(∀j,j<k->w.cell? ((b.add (i*k)).add j)=((f i).map λn=>Value.int .i64 n)[j]?)/\(f i).length=k/\∀n ∈ f i,inI n:=by refine ⟨λi=>if hi:i<len then Classical.choose (each i hi) else [],λi hi=> ?_⟩;simp only [dif_pos hi];exact Classical.choose_spec (each i hi)
  obtain ⟨f,hf⟩:=pick;refine ⟨(List.range len).map f,⟨by simp,λr hr=> ?_,λi r hi j v hj=> ?_⟩,λr hr=> ?_,hl,hm⟩
  ·obtain ⟨r',hr',rfl⟩:=aZ.1 hr;obtain ⟨i,hi,rfl⟩:=aZ.1 hr';rw [aN];exact (hf i (by simpa using hi)).2.1
  ·simp only [List.map_map,aU,Option.map_eq_some_iff] at hi;obtain ⟨q,hq,rfl⟩:=hi;obtain ⟨MY,Fb⟩:=cG.1 hq;simp at MY Fb;subst Fb;obtain ⟨h0,h1,_⟩:=hf i MY;have Q0:j<k:=by have:=(cG.1 hj).1;simp at this;omega
   have:=h0 j Q0;rw [<-dw];show w.cell? ((b.add (i*k)).add j)=_;rw [this];exact hj
  ·obtain ⟨i,hi,rfl⟩:=aZ.1 hr;exact (hf i (by simpa using hi)).2
end
section
variable {H:Type} {enc:TypeId × Value->H} {P:Program} {w:World} {base:Nat} {spare:Nat->Bool} {held:Bool}
def ME(P:Program):Nat->TypeId->Nat->Bool->Bool
 |0,_,_,_=>false
 |n+1,t,i,b=>match P.underlying t with
  |some (.int .i64)=>b &&(i==0)
  |some .bool=> !b &&(i==0)
  |some (.struct fs)=>decide (i<P.cellsOf t) &&(List.range fs.size).any λj=>match fs[j]? with
   |some f=>decide (f.offset<=i) && decide (i<f.offset+P.cellsOf f.type) && ME P n f.type (i-f.offset) b
   |none=>false
  |_=>false
def ZA(b:Bool)(v:Value):Prop:=match b with|true=>∃z,v=.int .i64 z/\inI z|false=>∃c,v=.bool c
theorem yF:∀{n:Nat} {t:TypeId} {i:Nat} {b:Bool} {fuel:Nat} {cs:LV} {x:DataW H × List MemPlace},ME P n t i b=true->DataW.trod enc P w base spare held fuel t cs=some x->∃v,cs[i]? =some v/\ZA b v
 |0,_,_,_,_,_,_,h,_=>by simp [ME] at h
 |n+1,t,i,b,fuel,cs,x,h,ht=>by
  unfold ME at h
  split at h
  ·rename_i e
   obtain ⟨z,rfl,_,hw⟩:=DataW.trod_int e ht
   rw [fm] at h
   obtain ⟨rfl,h2⟩:=h
   have:i=0:=by simpa using h2
   subst this;exact ⟨_,rfl,z,rfl,inI_wf' hw⟩
  ·rename_i e;obtain ⟨c,rfl,_⟩:=DataW.trod_bool e ht;rw [fm] at h;obtain ⟨h1,h2⟩:=h;have:i=0:=by simpa using h2
   subst this;have:b=false:=by simpa using h1
   subst this;exact ⟨_,rfl,c,rfl⟩
  ·rename_i fs e;obtain ⟨xs,k,_,_,hl,hxl,hf⟩:=DataW.trod_struct e ht;rw [fm] at h;have hi:i<P.cellsOf t:=by simpa using h.1
   have h:=h.2;rw [List.any_eq_true] at h;obtain ⟨j,hjr,hj⟩:=h;rw [List.mem_range] at hjr;split at hj
   ·rename_i f hfj;rw [fm,fm,cQ,cQ] at hj;have hx:=hf j f hfj;rw [cZ ab] at hx;obtain ⟨v,hv,bt⟩:=yF hj.2 hx;rw [List.getElem?_take,if_pos ab,List.getElem?_drop] at hv;exact ⟨v,by rw [<-hv];congr 1;omega,bt⟩
   ·cases hj
  ·cases h
def MixR(ks:List Bool)(r:LV):Prop:=r.length=ks.length/\∀(i:Nat)(b:Bool),ks[i]? =some b->∃v,r[i]? =some v/\ZA b v
def ajS(P:Program)(m:Nat)(ks:List Bool)(e:TypeId):Bool:=P.cellsOf e==ks.length &&(List.range ks.length).all λi=>match ks[i]? with|some b=>ME P m e i b|none=>false
theorem mix_of_trod{m:Nat}{ks:List Bool}{t e:TypeId}{fuel:Nat}{a:Option Addr}{len cap:Nat}{x:DataW H × List MemPlace}(ht:P.underlying t=some (.slice e))(hb:ajS P m ks e=true)
  (h:DataW.trod enc P w base spare held fuel t [.slice a len cap]=some x):
  ∃z:List (LV),RdK w ⟨a,len,cap⟩ ks.length z/\(∀r ∈ z,MixR ks r)/\len<=cap/\cap<=maxLen:=by
 unfold ajS at hb;rw [fm] at hb;have hk:P.cellsOf e=ks.length:=by simpa using hb.1
 have hb:=hb.2;rw [List.all_eq_true] at hb;rcases Go.Deep.open_slice ht h with ⟨xi,_⟩|⟨b,len',cap',m',n,D,Pl,xi,_,hl,hm,hmm,_,hx⟩
 ·simp at xi;obtain ⟨rfl,rfl,rfl⟩:=xi;exact ⟨[],⟨rfl,by simp,λi r hi=>by simp at hi⟩,by simp,aB _,by decide⟩
 ·simp at xi;obtain ⟨rfl,rfl,rfl⟩:=xi;have hlm:len<=m':=by rw [hmm];split<;>omega
  have each:∀i,i<len->∃r:LV,(∀j,j<ks.length->w.cell? ((b.add (i*ks.length)).add j)=r[j]?)/\MixR ks r:=by intro i hi;obtain ⟨cs',h1,h2⟩:=hx i ab;rw [hk] at h1;have hl':cs'.length=ks.length:=(World.cells?_some h1).2.1;refine ⟨cs',(World.cells?_some h1).2.2,hl',λi b hib=> ?_⟩;have hi':=(cG.1 hib).1;have:=hb i (List.mem_range.2 hi');rw [hib] at this;exact yF this h2
  have pick:∃f:Nat->LV,∀i,i<len->(∀j,j<ks.length->w.cell? ((b.add (i*ks.length)).add j)=(f i)[j]?)/\MixR ks (f i):=by refine ⟨λi=>if hi:i<len then Classical.choose (each i hi) else [],λi hi=> ?_⟩;simp only [dif_pos hi];exact Classical.choose_spec (each i hi)
  obtain ⟨f,hf⟩:=pick;refine ⟨(List.range len).map f,⟨by simp,λr hr=> ?_,λi r hi j v hj=> ?_⟩,λr hr=> ?_,hl,hm⟩
  ·obtain ⟨i,hi,rfl⟩:=aZ.1 hr;exact (hf i (by simpa using hi)).2.1
  ·simp only [aU,Option.map_eq_some_iff] at hi;obtain ⟨q,hq,rfl⟩:=hi;obtain ⟨MY,Fb⟩:=cG.1 hq;simp at MY Fb;subst Fb;obtain ⟨h0,h1,_⟩:=hf i MY;have Q0:j<ks.length:=by have:=(cG.1 hj).1;omega
   have:=h0 j Q0;rw [<-dw];show w.cell? ((b.add (i*ks.length)).add j)=_;rw [this];exact hj
  ·obtain ⟨i,hi,rfl⟩:=aZ.1 hr;exact (hf i (by simpa using hi)).2
end
end Go.Vc
namespace Go.Proofs.YtkkkfkopcfdmaaaGreatDoor
open Go Go.Vc Go.RowKit Go.Proofs
set_option maxRecDepth 100000
set_option maxHeartbeats 8000000
set_option linter.unusedVariables false
variable {R:Ending->World->Prop} {w:World} {a0 a1 a2 a3 a4 a5 a6 a7 a8 a9 aA aq au aS aT aW bM bG bH Cr ak ao aw bz bT bR eW eX eD Cs bq bA bo wL wM uS uT wN wO wP Ct Cu Cv Cw Cx Cy Cz CA CB CC:Int}
abbrev K2(i0 i1:Nat)(x y:World)(P:Prop):Prop:=Kp i0 x y/\Kp i1 x y/\P
abbrev K3(i0 i1 i2:Nat)(x y:World)(P:Prop):Prop:=Kp i0 x y/\Kp i1 x y/\Kp i2 x y/\P
abbrev K4(i0 i1 i2 i3:Nat)(x y:World)(P:Prop):Prop:=Kp i0 x y/\Kp i1 x y/\Kp i2 x y/\Kp i3 x y/\P
abbrev K5(i0 i1 i2 i3 i4:Nat)(x y:World)(P:Prop):Prop:=Kp i0 x y/\Kp i1 x y/\Kp i2 x y/\Kp i3 x y/\Kp i4 x y/\P
abbrev K6(i0 i1 i2 i3 i4 i5:Nat)(x y:World)(P:Prop):Prop:=Kp i0 x y/\Kp i1 x y/\Kp i2 x y/\Kp i3 x y/\Kp i4 x y/\Kp i5 x y/\P
abbrev K7(i0 i1 i2 i3 i4 i5 i6:Nat)(x y:World)(P:Prop):Prop:=Kp i0 x y/\Kp i1 x y/\Kp i2 x y/\Kp i3 x y/\Kp i4 x y/\Kp i5 x y/\Kp i6 x y/\P
abbrev K8(i0 i1 i2 i3 i4 i5 i6 i7:Nat)(x y:World)(P:Prop):Prop:=Kp i0 x y/\Kp i1 x y/\Kp i2 x y/\Kp i3 x y/\Kp i4 x y/\Kp i5 x y/\Kp i6 x y/\Kp i7 x y/\P
abbrev Ra2(F:Int->Int->World->Prop)(e:Ending)(w:World):Prop:=∃x0 x1:Int,e=.returned (.agg #[x0,x1])/\F x0 x1 w
abbrev iC(F:Int->Int->Int->World->Prop)(e:Ending)(w:World):Prop:=∃x0 x1 x2:Int,e=.returned (.agg #[x0,x1,x2])/\F x0 x1 x2 w
abbrev vG(F:Int->Int->Int->Int->Int->Int->World->Prop)(e:Ending)(w:World):Prop:=∃x0 x1 x2 x3 x4 x5:Int,e=.returned (.agg #[x0,x1,x2,x3,x4,x5])/\F x0 x1 x2 x3 x4 x5 w
abbrev Ra9(F:Int->Int->Int->Int->Int->Int->Int->Int->Int->World->Prop)(e:Ending)(w:World):Prop:=∃x0 x1 x2 x3 x4 x5 x6 x7 x8:Int,e=.returned (.agg #[x0,x1,x2,x3,x4,x5,x6,x7,x8])/\F x0 x1 x2 x3 x4 x5 x6 x7 x8 w
abbrev Ri(F:Int->World->Prop)(e:Ending)(w:World):Prop:=∃x:Int,e=.returned x/\F x w
abbrev Rb(F:Bool->World->Prop)(e:Ending)(w:World):Prop:=∃x:Bool,e=.returned (.bool x)/\F x w
abbrev Rv(F:Value->World->Prop)(e:Ending)(w:World):Prop:=∃x:Value,e=.returned x/\F x w
abbrev Rs(F:Sl->World->Prop)(e:Ending)(w:World):Prop:=∃x:Sl,e=.returned x/\F x w
abbrev Rt(F:World->Prop)(e:Ending)(w:World):Prop:=e=.returned (.tuple #[])/\F w
abbrev Nq(p:Option Addr)(j:Nat):Prop:=bD p≠some j
abbrev Nb(i j:Nat):Prop:=bD (some ⟨i,0,none⟩)≠some j
abbrev Wt(w:World)(a:Addr)(n:Nat):Prop:=true=true/\Wr w (some a) n
abbrev Aw(w:World)(l:Array Value)(t:TypeId)(F:World->Prop):Prop:=∀v,v=w.alloc (.cells l t)->F v
abbrev Sw(w:World)(i:Nat)(l:Array Value)(F:World->Prop):Prop:=∀v,v=w.setRow i l->F v
theorem Tryz.aoP:BX Tryz.prog:=af6 (by kernel_rfl)
theorem Tryz.mixed:Tryz.prog.follows .mixedOrders=true:=by kernel_rfl
theorem cq{pre:Prop}{f:FuncId}{fn:Func}(an:Ann){args:List Value}{w:World}{R:Ending->World->Prop}(hf:Tryz.prog.funcs[f]? =some fn)(h:pre)(k:pre=acv Tryz.prog an fn args w R:=by kernel_rfl):Calls Tryz.prog f args.toArray w R:=
 Lc (an:=an) Tryz.aoP Tryz.mixed hf h k
abbrev bV:Ann:=⟨[],[],[]⟩
inductive CQ|a
abbrev ah:CQ:=.a
instance:CoeFun CQ (λ_=>FuncId->Array Value->World->(Ending->World->Prop)->Prop):=⟨λ_=>Calls Tryz.prog⟩
theorem O7.vc(h:
 Aw w #[aA,aq,au] 41 λw0=>
 Br (aq<0)
 (R (Value.tuple #[aa,false]) w0)
 (Br (aq>=32)
 (R (Value.tuple #[aa,false]) w0)
 (ah 282 #[au,(16:Int)] w0.drew (Ri λx2 w1=>Kp w w0.drew w1/\
 ag w1 w 0 [aA]/\ag w1 (some ⟨w,1,none⟩) 0 [aq]/\ah 282 #[aA,(16:Int)] w1 (Ri λx4 w3=>Kp w w1 w3/\
 ag w3 (some ⟨w,1,none⟩) 0 [aq]/\R (Value.tuple #[(aj ((aj ((aj ((aj (aq*16))+x2))*16))+x4)),true]) w3))))):ah 255 #[.agg #[aA,aq,au]] w R:=
 cq bV Tryz.func255 h
theorem T6.vc(h:
 ah 158 #[a0] w (λe w0=>∃(t1:ByteArray),e=Value.string t1/\
 R (Value.bool (!vd t1 (ByteArray.mk #[]))) w0)):ah 108 #[a0] w R:=
 cq bV Tryz.func108 h
theorem BY.vc{a0:Addr}(h:
 Aw w #[ak,ao,aw] 41 λw0=>
 ∃(x1 x2:Int),ag w0.drew (af (some a0) 0) 0 [x1,x2]/\
 ah 193 #[.agg #[x1,x2],.agg #[ak,ao,aw]] w0.drew (λe w3=>∃(x4:Int)(b5:Bool),e=Value.tuple #[x4,b5]/\Kp w w0.drew w3/\
 Br (!b5)
 (R (5:Int) w3)
 (ah 108 #[a2] w3 (Rb λb7 w6=>Kp w w3 w6/\
 Br (!b7)
 (R (1:Int) w6)
 (∃(s8:Sl),ld w6 (af (some a0) 2)=some (.slice s8.a s8.n s8.c)/\
 ah 295 #[s8,x4,a2] w6 (Rs λxf w9=>Kp w w6 w9/\
 (true=true/\Wr w9 (af (some a0) 2) 1)/\bD (af (some a0) 2)≠some w.heap.size/\(∀aY,aY=aH w9 (af (some a0) 2) [xf]->
 R (0:Int) aY))))))):ah 268 #[a0,.agg #[ak,ao,aw],a2] w R:=
 cq bV Tryz.func268 h
theorem zN.vc{a0:Addr}{a1:Addr}(h:
 ∃(b0:Bool),ld w (af (some a1) 1)=some (.bool b0)/\
 Br (!b0)
 (R (0:Int) w)
 (∃(p1:Option Addr),ld w (af (some a1) 0)=some (.pointer p1)/\
 aP (dv p1) (aP (dv p1) (∃(x2 x3:Int),ag w (af p1 0) 0 [x2,x3]/\
 ah 95 #[.agg #[x2,x3]] w (λe w4=>∃(x5 x6:Int),e=Value.agg #[x5,x6]/\
 ah 72 #[.agg #[x5,x6]] w4 (λe w7=>∃(x8:Int)(b9:Bool),e=Value.tuple #[x8,b9]/\
 ∃(Ih:Option Addr),ld w7.drew (af (some a0) 0)=some (.pointer Ih)/\
 ∃(WB:Option Addr),ld w7.drew (af (some a1) 0)=some (.pointer WB)/\
 ah 137 #[WB] w7.drew (λe cR=>∃(wS:Sl),e=wS/\
 ag cR (af (some a0) 0) 0 [.pointer Ih]/\ah 115 #[Ih,x8,wS] cR (λe bP=>∃(cA:Int),e=cA/\
 (true=true/\Wr bP (af (some a1) 1) 1)/\(∀cJ,cJ=aH bP (af (some a1) 1) [.bool (cA !=0)]->
 R cA cJ))))))))):ah 79 #[a0,a1] w R:=
 cq bV Tryz.func79 h
theorem BZ.vc{a0:Addr}(h:
 ∃(s0:Sl),ld w (af (some a0) 3)=some (.slice s0.a s0.n s0.c)/\
 eo s0.a a1 s0.n/\∃(p1:Option Addr),ld w (af s0.a ((a1:Int).toNat*1))=some (.pointer p1)/\
 ∃(s2:Sl),ld w.drew (af (some a0) 3)=some (.slice s2.a s2.n s2.c)/\
 (0:Int)<=a1/\a1<=((s2.c:Nat):Int)/\(0:Int)<=a1/\a1<=a1/\∃(s3:Sl),ld w.drew (af (some a0) 3)=some (.slice s3.a s3.n s3.c)/\
 (0:Int)<=(aj (a1+1))/\(aj (a1+1))<=((s3.n:Nat):Int)/\∃l4:LV,Rd w.drew (aJ s3.a (((aj (a1+1)):Int).toNat) (s3.c) 1) l4/\ba 8 1 w.drew ⟨(aJ s2.a (0) ((a1:Int).toNat) 1),((a1:Int).toNat-0),((a1:Int).toNat-0)⟩ (s3.n-((aj (a1+1)):Int).toNat) l4/\∀(s5:Sl)(w6:World),aV 137 1 w.drew ⟨(aJ s2.a (0) ((a1:Int).toNat) 1),((a1:Int).toNat-0),((a1:Int).toNat-0)⟩ (s3.n-((aj (a1+1)):Int).toNat) l4 s5 w6->
 ag w6 (af (some a0) 3) 0 [s3]/\ag w6 (af (some a0) 3) 0 [s2]/\(true=true/\Wr w6 (af (some a0) 3) 1)/\(∀w7,w7=aH w6 (af (some a0) 3) [s5]->
 R p1 w7)):ah 80 #[a0,a1] w R:=
 cq bV Tryz.func80 h
theorem T7.vc(h:
 ah 212 #[a0] w (λe w0=>∃(p1:Option Addr),e=p1/\
 Aw w0 #[p1] 217 λw2=>
 R (Value.pointer (some ⟨w0,0,none⟩)) w2)):ah 149 #[a0] w R:=
 cq bV Tryz.func149 h
theorem sE.vc{a0:Sl}{a1:Value}(h:
 ∃I0:Nat->Int->World->Prop,
 (∃n1,I0 n1 (0) w)/\
 ∀(n1:Nat)(wX:Nat->Value)(x3:Int)(w4:World),I0 n1 x3 w4->
 Br (decide (x3<((a0.n:Nat):Int)))
 (eo a0.a x3 a0.n/\∃(p6:Option Addr),ld w4 (af a0.a ((x3:Int).toNat*1))=some (.pointer p6)/\
 cr Tryz.prog a1 [.pointer p6] w4 (λe w7=>∃(b8:Bool),e=b8/\
 Br b8
 (R x3 w7)
 (∃n5,n5<n1/\I0 n5 ((aj (x3+1))) w7)))
 (R (Value.int .i64 (-1)) w4)):ah 129 #[a0,a1] w R:=
 cq ⟨[(2,⟨[(8,.int .i64)],[],[]⟩)],[],[]⟩ Tryz.func129 h
theorem vO.vc{a0:Addr}{c0:Addr}(h:
 ∃(p0:Option Addr),ld w.drew (af (some a0) 0)=some (.pointer p0)/\
 aP (dv p0) (aP (dv p0) (∃(x1 x2:Int),ag w.drew (af p0 0) 0 [x1,x2]/\
 ∃(x3 x4:Int),ag w.drew (some c0) 0 [x3,x4]/\
 ah 95 #[.agg #[x1,x2]] w.drew (λe w5=>∃(x6 x7:Int),e=Value.agg #[x6,x7]/\
 ag w5 (some c0) 0 [x3,x4]/\ag w5 (af (some a0) 0) 0 [.pointer p0]/\R (Value.bool ((x6==x3) &&(x7==x4))) w5)))):ah 130 #[a0,c0] w R:=
 cq bV Tryz.func130 h
theorem xO.vc(h:
 Aw w #[aA,aq] 172 λw0=>
 Aw w0 #[aa,aa] 40 λw1=>
 Sw w1 w0 #[aA,aq] λw2=>
 R (Value.agg #[aA,aq]) w2):ah 95 #[.agg #[aA,aq]] w R:=
 cq bV Tryz.func95 h
theorem vP.vc{a0:Addr}(h:
 ∃(x0:Int),ld w (af (some a0) 2)=some (.int .i64 x0)/\
 R (Value.bool (x0==0)) w):ah 131 #[a0] w R:=
 cq bV Tryz.func131 h
theorem T8.vc(h:
 Br (a0>=0)
 (R (Value.bool (decide (a0<=1099511627776))) w)
 (R false w)):ah 132 #[a0] w R:=
 cq bV Tryz.func132 h
theorem T9.vc{a0:Sl}(h:
 ∃I0:Nat->Sl->Int->Int->Sl->World->Prop,
 (∃n1,I0 n1 a0 ((-1)) a1 ⟨none,0,0⟩ w)/\
 ∀(n1:Nat)(wX:Nat->Value)(s3:Sl)(x4 x5:Int)(s6:Sl)(w7:World),I0 n1 s3 x4 x5 s6 w7->
 Br (decide ((((s3.n:Nat):Int):Int)>0))
 (eo s3.a 0 s3.n/\∃(x9:Int),ld w7 (af s3.a ((0:Int).toNat*1))=some (.int .u8 x9)/\
 Aw w7 #[aa,aa] 252 λbO=>
 Sw bO w7 #[aa,(aj x9)] λaY=>
 ah 108 #[(aj x9)] aY (Rb λFg cR=>Kp w7 aY cR/\
 Br (!Fg)
 (R (Value.tuple #[.slice none 0 0,(2:Int)]) cR)
 (Br (((aj x9):Int)==x4)
 (R (Value.tuple #[.slice none 0 0,(2:Int)]) cR)
 ((0:Int)<=((s3.n:Nat):Int)/\((s3.n:Nat):Int)<=((s3.c:Nat):Int)/\(0:Int)<=((s3.n:Nat):Int)/\(((s3.n:Nat):Int):Int)<=((s3.n:Nat):Int)/\(0:Int)<=1/\(1:Int)<=((s3.n:Nat):Int)/\ah 184 #[.slice (aJ s3.a ((1:Int).toNat) ((((s3.n:Nat):Int):Int).toNat) 1) ((((s3.n:Nat):Int):Int).toNat-(1:Int).toNat) ((((s3.n:Nat):Int):Int).toNat-(1:Int).toNat)] cR (λe bP=>∃(cA cD cY:Int),e=Value.tuple #[cA,cD,cY]/\Kp w7 cR bP/\
 Br (cY !=0)
 (R (Value.tuple #[.slice none 0 0,cY]) bP)
 (Br (cA==0)
 (R (Value.tuple #[.slice none 0 0,(2:Int)]) bP)
 (Br (cA>x5)
 (R (Value.tuple #[.slice none 0 0,(2:Int)]) bP)
 (Sw bP w7 #[cA,(aj x9)] λdG=>
 (0:Int)<=(aj (1+cD))/\(aj (1+cD))<=((s3.n:Nat):Int)/\Aw dG.drew #[cA,(aj x9)] 252 λfP=>
 ba 16 2 fP s6 1 [cA,(aj x9)]/\∀(uB:Sl)(eK:World),aV 252 2 fP s6 1 [cA,(aj x9)] uB eK->Kp w7 fP eK/\eK.heap[dG.drew.heap.size]? =fP.heap[dG.drew.heap.size]?/\
 Br (((aj (x5-cA)):Int)==0)
 (Br (decide (((aj (x5-cA)):Int)>0))
 (R (Value.tuple #[.slice none 0 0,(3:Int)]) eK)
 (Br (decide (((((s3.n-((aj (1+cD)):Int).toNat):Nat):Int):Int)>0))
 (R (Value.tuple #[.slice none 0 0,(2:Int)]) eK)
 (R (Value.tuple #[uB,aa]) eK)))
 (∃n8,n8<n1/\I0 n8 ⟨(aJ s3.a (((aj (1+cD)):Int).toNat) (s3.c) 1),(s3.n-((aj (1+cD)):Int).toNat),(s3.c-((aj (1+cD)):Int).toNat)⟩ ((aj x9)) ((aj (x5-cA))) uB eK)))))))))
 (Br (x5>0)
 (R (Value.tuple #[.slice none 0 0,(3:Int)]) w7)
 (Br (decide ((((s3.n:Nat):Int):Int)>0))
 (R (Value.tuple #[.slice none 0 0,(2:Int)]) w7)
 (R (Value.tuple #[s6,aa]) w7)))):ah 134 #[a0,a1] w R:=
 cq ⟨[(3,⟨[(0,.slice),(7,.int .i64),(1,.int .i64),(6,.slice)],[],[]⟩)],[],[]⟩ Tryz.func134 h
theorem zy.vc{a0:Addr}(h:
 ∃(p0:Option Addr),ld w (af (some a0) 0)=some (.pointer p0)/\
 R (Value.func (.func 83) #[p0] #[]) w):ah 27 #[a0] w R:=
 cq bV Tryz.func27 h
theorem Ua.vc{a1:Sl}(h:
 Aw w #[aA,aq] 40 λw0=>
 ah 185 #[a1,(8192:Int)] w0 (Rb λb2 w1=>Kp w w0 w1/\
 Br (!b2)
 (R (Value.tuple #[.pointer none,(1:Int)]) w1)
 ((ah 186 #[a1] w1.drew (Rs λs4 w3=>Kp w w1.drew w3/\
 Aw w3 #[aA,aq,s4] 175 λw5=>
 R (Value.tuple #[.pointer (some ⟨w3,0,none⟩),aa]) w5))/\(ah 186 #[a1] w1.drew (Rs λs7 w6=>Kp w w1.drew w6/\
 ag w6 w 0 [aA,aq]/\Aw w6 #[aA,aq,s7] 175 λw8=>
 R (Value.tuple #[.pointer (some ⟨w6,0,none⟩),aa]) w8))))):ah 135 #[.agg #[aA,aq],a1] w R:=
 cq bV Tryz.func135 h
theorem TI.vc(h:
 Aw w #[ak,ao] 40 λw0=>
 Aw w0 #[.slice none 0 0] 32 λw1=>
 ah 187 #[a0,.agg #[ak,ao]] w1 (Rv λv3 w2=>K2 w w0 w1 w2 (
 ∃(xs4:List (LV))(Rd5 F6:Nat->Prop)(I7:Nat->(Nat->Prop)->Sl->World->Prop)(X8:Option Nat->(Nat->Prop)->Sl->World->Prop),
 (∀x ∈ xs4,∃(x9:Int),x=[.int .i64 x9])/\
 (∀(n10:Nat)(F11:Nat->Prop)(jJ:Sl)(bJ bP:World),I7 n10 F11 jJ bJ->Below w2 bJ bP->(∀i,F11 i->bP.heap[i]? =bJ.heap[i]?)->I7 n10 F11 jJ bP)/\
 (∀(n15:Option Nat)(F16:Nat->Prop)(Fi:Sl)(dG fP:World),X8 n15 F16 Fi dG->Below w2 dG fP->(∀i,F16 i->fP.heap[i]? =dG.heap[i]?)->X8 n15 F16 Fi fP)/\
 (∀(Q3:Nat)(F21:Nat->Prop)(s22:Sl)(eh:World),I7 Q3 F21 s22 eh->∀i,F21 i->i<eh.heap.size/\i≠w2.heap.size/\i≠w2.heap.size+1)/\
 (∀(n24:Option Nat)(F25:Nat->Prop)(Oi:Sl)(eH:World),X8 n24 F25 Oi eH->∀i,F25 i->i<eH.heap.size/\i≠w2.heap.size/\i≠w2.heap.size+1)/\
 (∀i,Rd5 i->i<w2.heap.size/\¬F6 i/\i≠w.heap.size/\i≠w0.heap.size/\True)/\
 (∀gN:World,KO w2 w2 gN->Iter Tryz.prog (v3) gN Rd5 xs4/\aO [ak,ao]/\I7 0 F6 ⟨none,0,0⟩ gN)/\
 (∀(W6:Nat)(F30:Nat->Prop)(aqg:Nat->Value)(oL:Sl)(eF:Int)(jc:World),xs4[W6]? =some [.int .i64 eF]->I7 W6 F30 oL jc->
 Below jc jc jc/\∀jK:World,Rec (w2.heap.size+1) jc jK->I7 W6 F30 oL jK->
 Aw jK #[eF] 3 λjW=>
 ba 8 1 jW oL 1 [eF]/\∀(s37:Sl)(lf:World),aV 3 1 jW oL 1 [eF] s37 lf->K3 w w0 jK jW lf (
 Sw lf w0 #[s37] λjX=>
 ∃F40:Nat->Prop,(aO [ak,ao]/\I7 (W6+1) F40 s37 jX)/\Step (λi=>(F30 i\/i ∈([w.heap.size,w0.heap.size]:List Nat))\/jc.heap.size<=i) (λi=>F40 i\/i ∈([w.heap.size,w0.heap.size]:List Nat)) jK jX))/\
 (∀(F41:Nat->Prop)(axG:Nat->Value)(s43:Sl)(ko:World),I7 xs4.length F41 s43 ko->ko.heap[w2.heap.size]? =some (.deferred (some []))->
 ah 189 #[s43] ko (Rs λs46 AX=>K2 w w0 ko AX (
 ah 188 #[s46] AX (Rs λQ2 lg=>K2 w w0 AX lg (
 lg.heap[w2.heap.size]? =some (.deferred (some []))/\∀lA:World,Rec w2 lg lA->
 R Q2 lA)))))/\
 True))):ah 136 #[a0,.agg #[ak,ao]] w R:=
 cq ⟨[],[],[(4,⟨[],[(1,[.slice])],[]⟩,[.sc (.int .i64)])]⟩ Tryz.func136 h
theorem XD.vc(h:
 Br (a1<1)
 (R (0:Int) w)
 (aP (J6 a1) (aP (J6 a1) (Br (decide (((Int.tmod a0 a1):Int)<0))
 (R ((aj ((aj (Int.tdiv a0 a1))-1))) w)
 (R ((aj (Int.tdiv a0 a1))) w))))):ah 192 #[a0,a1] w R:=
 cq bV Tryz.func192 h
theorem xP.vc(h:
 Aw w #[aA,aq] 172 λw0=>
 Aw w0 #[ak,ao,aw] 41 λw1=>
 ah 255 #[.agg #[ak,ao,aw]] w1 (λe w2=>∃(x3:Int)(b4:Bool),e=Value.tuple #[x3,b4]/\K2 w w0 w1 w2 (
 Br b4
 (ah 139 #[.agg #[ak,ao,aw]] w2.drew (Ra2 λx6 x7 w5=>K2 w w0 w2.drew w5 (
 ag w5 w 0 [aA,aq]/\R (Value.tuple #[x3,.bool ((x6==aA) &&(x7==aq))]) w5)))
 (R (Value.tuple #[x3,false]) w2.drew)))):ah 193 #[.agg #[aA,aq],.agg #[ak,ao,aw]] w R:=
 cq bV Tryz.func193 h
theorem acw.vc{a0:Sl}(h:
 ∃I0:Nat->Int->Int->World->Prop,
 (∃n1,I0 n1 (0) a1 w)/\
 ∀(n1:Nat)(wX:Nat->Value)(x3 x4:Int)(w5:World),I0 n1 x3 x4 w5->
 Br (decide (x3<((a0.n:Nat):Int)))
 (eo a0.a x3 a0.n/\∃(x7 x8:Int),ag w5 (af a0.a ((x3:Int).toNat*2)) 0 [x7,x8]/\
 Aw w5 #[aa,aa] 252 λw9=>
 Sw w9 w5 #[x7,x8] λbO=>
 Br (x4>=0)
 (Br (x4<x7)
 (R x8 bO)
 (∃n6,n6<n1/\I0 n6 ((aj (x3+1))) ((aj (x4-x7))) bO))
 (∃n6,n6<n1/\I0 n6 ((aj (x3+1))) ((aj (x4-x7))) bO))
 (R (Value.int .i64 (-1)) w5)):ah 194 #[a0,a1] w R:=
 cq ⟨[(2,⟨[(9,.int .i64),(1,.int .i64)],[],[]⟩)],[],[]⟩ Tryz.func194 h
theorem Ub.vc(h:
 Br (a0>=8)
 (R (Value.bool (decide (a0<16))) w)
 (R false w)):ah 202 #[a0] w R:=
 cq bV Tryz.func202 h
theorem zV.vc{a0:Addr}(h:
 ∃(s0:Sl),ld w (af (some a0) 3)=some (.slice s0.a s0.n s0.c)/\
 ∃I1:Nat->Int->Sl->World->Prop,
 (∃n2,I1 n2 (0) ⟨none,0,0⟩ w)/\
 ∀(n2:Nat)(us3:Nat->Value)(x4:Int)(s5:Sl)(w6:World),I1 n2 x4 s5 w6->
 Br (decide (x4<((s0.n:Nat):Int)))
 (eo s0.a x4 s0.n/\∃(p8:Option Addr),ld w6 (af s0.a ((x4:Int).toNat*1))=some (.pointer p8)/\
 aP (dv p8) (aP (dv p8) (∃(p9:Option Addr),ld w6 (af p8 0)=some (.pointer p9)/\
 aP (dv p9) (aP (dv p9) (∃(bh bC:Int),ag w6 (af p9 0) 0 [bh,bC]/\
 ah 95 #[.agg #[bh,bC]] w6 (λe cR=>∃(cm bX:Int),e=Value.agg #[cm,bX]/\
 Aw cR #[cm,bX] 40 λeA=>
 ba 16 2 eA s5 1 [cm,bX]/\∀(W7:Sl)(cL:World),aV 40 2 eA s5 1 [cm,bX] W7 cL->Kp cR eA cL/\
 ∃n7,n7<n2/\I1 n7 ((aj (x4+1))) W7 cL))))))
 (R s5 w6)):ah 37 #[a0] w R:=
 cq ⟨[(3,⟨[(11,.int .i64),(3,.slice)],[],[]⟩)],[],[]⟩ Tryz.func37 h
theorem KC.vc(h:
 Aw w #[aA,aq] 40 λw0=>
 Aw w0 #[aa,aa,aa,aa,aa,aa,aa,aa,aa,aa] 227 λw1=>
 Wt w1 ⟨w0,0,none⟩ 10/\Nb w0 w/\(∀w2,w2=aH w1 (some ⟨w0,0,none⟩) [aA,aq,(aj (aA-1)),aq,(aj (aA+1)),aq,aA,(aj (aq-1)),aA,(aj (aq+1))]->
 ∃(x3 x4 x5 x6 x7 x8 x9 bh bC bN:Int),ag w2 (some ⟨w0,0,none⟩) 0 [x3,x4,x5,x6,x7,x8,x9,bh,bC,bN]/\
 R (Value.agg #[x3,x4,x5,x6,x7,x8,x9,bh,bC,bN]) w2)):ah 150 #[.agg #[aA,aq]] w R:=
 cq bV Tryz.func150 h
theorem uD.vc{a0:Sl}(h:
 Aw w #[ak,ao] 40 λw0=>
 ah 213 #[a0,.agg #[ak,ao]] w0 (Ri λx2 w1=>Kp w w0 w1/\
 R (Value.bool (decide (x2>=0))) w1)):ah 151 #[a0,.agg #[ak,ao]] w R:=
 cq bV Tryz.func151 h
theorem Ld.vc(h:
 ah 202 #[a0] w (λe w0=>∃(b1:Bool),e=b1/\
 Br (!b1)
 (R (Value.int .i64 (-1)) w0)
 (R ((aj (a0-8))) w0))):ah 280 #[a0] w R:=
 cq bV Tryz.func280 h
theorem TC.vc(h:
 aP (J6 a1) (Br (decide (((aj ((aj (Int.tdiv a0 a1))*a1)):Int)>a0))
 (R ((aj ((aj (Int.tdiv a0 a1))-1))) w)
 (R ((aj (Int.tdiv a0 a1))) w))):ah 86 #[a0,a1] w R:=
 cq bV Tryz.func86 h
theorem Uc.vc(h:
 Br (a0>=0)
 (Br (a0<=15)
 (Br (a0 !=6)
 (R (Value.bool (a0 !=7)) w)
 (R false w))
 (R false w))
 (R false w)):ah 111 #[a0] w R:=
 cq bV Tryz.func111 h
theorem XE.vc(h:
 Br (a1<1)
 (R (0:Int) w)
 (aP (J6 a1) (Br (decide (((Int.tmod a0 a1):Int)<0))
 (R ((aj ((Int.tmod a0 a1)+a1))) w)
 (R (Value.int .i64 (Int.tmod a0 a1)) w)))):ah 282 #[a0,a1] w R:=
 cq bV Tryz.func282 h
theorem PI.vc(h:
 Br (a0<0)
 (R (Value.string (ByteArray.mk #[])) w)
 (Br (a0>=16)
 (R (Value.string (ByteArray.mk #[])) w)
 (ah 218 #[] w (λe w0=>∃(t1 t2 t3 t4 t5 t6 t7 t8 t9 t10 t11 t12 t13 t14 t15 t16:ByteArray),e=Value.agg #[.string t1,.string t2,.string t3,.string t4,.string t5,.string t6,.string t7,.string t8,.string t9,.string t10,.string t11,.string t12,.string t13,.string t14,.string t15,.string t16]/\
 ((0:Int)<=a0/\a0<((16:Nat):Int))/\∃(t17:ByteArray),([.string t1,.string t2,.string t3,.string t4,.string t5,.string t6,.string t7,.string t8,.string t9,.string t10,.string t11,.string t12,.string t13,.string t14,.string t15,.string t16]:LV)[(a0:Int).toNat*1]? =some (.string t17)/\
 R (Value.string t17) w0)))):ah 158 #[a0] w R:=
 cq bV Tryz.func158 h
theorem XY.vc{a0:Sl}(h:
 Br (a1<0)
 (ah 186 #[a0] w (λe w0=>∃(s1:Sl),e=s1/\
 R s1 w0))
 (ah 253 #[a0] w (λe w2=>∃(x3:Int),e=x3/\
 Br (a1>=x3)
 (ah 186 #[a0] w2 (λe w4=>∃(s5:Sl),e=s5/\
 R s5 w4))
 (ah 309 #[a0,a1,(aj (a1+1)),a2] w2 (λe w6=>∃(s7:Sl),e=s7/\
 R s7 w6))))):ah 295 #[a0,a1,a2] w R:=
 cq bV Tryz.func295 h
theorem xQ.vc{a0:Addr}(h:
 ∃(s0:Sl),ld w (af (some a0) 2)=some (.slice s0.a s0.n s0.c)/\
 ah 190 #[s0] w (λe w1=>∃(s2:Sl)(x3:Int),e=Value.tuple #[s2,x3]/\
 R s2 w1)):ah 137 #[a0] w R:=
 cq bV Tryz.func137 h
theorem XZ.vc(h:
 ∀w0,w0=w.alloc (.map #[] 0)->
 Aw w0 #[.int .i64 (if 1048576<(if 0>a0 then 0 else a0) then 1048576 else (if 0>a0 then 0 else a0)),aa,aa,.map (some w.heap.size),.slice none 0 0] 277 λw1=>
 R (Value.pointer (some ⟨w0,0,none⟩)) w1):ah 212 #[a0] w R:=
 cq bV Tryz.func212 h
theorem Gh.vc{a0:Addr}(h:
 ah 228 #[a0] w (λe w0=>∃(m1:Option Nat),e=Value.map m1/\
 ∃(G2:Value->Prop)(kvs3:List (Value × Value)),iF Tryz.prog 3 G2/\cl G2 w0 m1 kvs3/\G2 a1/\∃(s4:Sl),∃b5:Bool,Gi kvs3 a1 (.slice none 0 0) s4 b5/\
 ah 230 #[s4] w0 (λe w6=>∃(s7:Sl),e=s7/\
 R (Value.tuple #[s7,b5]) w6))):ah 182 #[a0,a1] w R:=
 cq bV Tryz.func182 h
theorem PJ.vc{a0:Sl}(h:
 ah 246 #[a0] w (λe w0=>∃(s1:Sl)(x2:Int),e=Value.tuple #[s1,x2]/\
 Br (x2 !=0)
 (R (Value.tuple #[aa,.slice none 0 0,x2]) w0)
 (Br (decide ((((s1.n:Nat):Int):Int)<7))
 (R (Value.tuple #[aa,.slice none 0 0,(3:Int)]) w0)
 ((0:Int)<=4/\4<=((s1.c:Nat):Int)/\(0:Int)<=7/\7<=((s1.c:Nat):Int)/\(0:Int)<=4/\(4:Int)<=7/\(0:Int)<=7/\7<=((s1.n:Nat):Int)/\ah 247 #[.slice (aJ s1.a (0) (s1.c) 1) ((4:Int).toNat-0) (s1.c-0)] w0.drew (λe w3=>∃(x4:Int),e=x4/\
 ah 247 #[.slice (aJ s1.a ((4:Int).toNat) (s1.c) 1) ((7:Int).toNat-(4:Int).toNat) (s1.c-(4:Int).toNat)] w3 (λe w5=>∃(x6:Int),e=x6/\
 Br (x4<1)
 (R (Value.tuple #[aa,.slice none 0 0,(2:Int)]) w5)
 (Br (x4>1073741824)
 (R (Value.tuple #[aa,.slice none 0 0,(2:Int)]) w5)
 (Br (x6>65536)
 (R (Value.tuple #[aa,.slice none 0 0,(2:Int)]) w5)
 (Br (x6 !=(((s1.n-(7:Int).toNat):Nat):Int))
 (R (Value.tuple #[aa,.slice none 0 0,(2:Int)]) w5)
 (R (Value.tuple #[x4,.slice (aJ s1.a ((7:Int).toNat) (s1.c) 1) (s1.n-(7:Int).toNat) (s1.c-(7:Int).toNat),aa]) w5)))))))))):ah 183 #[a0] w R:=
 cq bV Tryz.func183 h
theorem Lf.vc{a0:Sl}(h:
 (0:Int)<=(if 3<((a0.n:Nat):Int) then 3 else ((a0.n:Nat):Int))/\(if 3<((a0.n:Nat):Int) then 3 else ((a0.n:Nat):Int))<=((a0.c:Nat):Int)/\∃I0:Nat->Int->Int->World->Prop,
 (∃n1,I0 n1 (0) (0) w)/\
 ∀(n1:Nat)(wX:Nat->Value)(x3 x4:Int)(w5:World),I0 n1 x3 x4 w5->
 Br (decide (x3<(((((if 3<((a0.n:Nat):Int) then 3 else ((a0.n:Nat):Int)):Int).toNat-0):Nat):Int)))
 (eo (aJ a0.a (0) (a0.c) 1) x3 (((if 3<((a0.n:Nat):Int) then 3 else ((a0.n:Nat):Int)):Int).toNat-0)/\∃(x7:Int),ld w5 (af (aJ a0.a (0) (a0.c) 1) ((x3:Int).toNat*1))=some (.int .u8 x7)/\
 aP (ngC (aj (7*x3))) (Br (x7>=128)
 (∃n6,n6<n1/\I0 n6 ((aj (x3+1))) ((Kr .i64 x4 (aj ((aj (ln .u8 x7 128))*2 ^(min ((aj (7*x3)):Int).toNat 64))))) w5)
 (Br (x7==0)
 (Br (x3>0)
 (R (Value.tuple #[aa,aa,(2:Int)]) w5)
 (Br (decide (((Kr .i64 x4 (aj ((aj (ln .u8 x7 128))*2 ^(min ((aj (7*x3)):Int).toNat 64)))):Int)>1048576))
 (R (Value.tuple #[aa,aa,(2:Int)]) w5)
 (R (Value.tuple #[.int .i64 (Kr .i64 x4 (aj ((aj (ln .u8 x7 128))*2 ^(min ((aj (7*x3)):Int).toNat 64)))),(aj (x3+1)),aa]) w5)))
 (Br (decide (((Kr .i64 x4 (aj ((aj (ln .u8 x7 128))*2 ^(min ((aj (7*x3)):Int).toNat 64)))):Int)>1048576))
 (R (Value.tuple #[aa,aa,(2:Int)]) w5)
 (R (Value.tuple #[.int .i64 (Kr .i64 x4 (aj ((aj (ln .u8 x7 128))*2 ^(min ((aj (7*x3)):Int).toNat 64)))),(aj (x3+1)),aa]) w5)))))
 (Br (decide ((((a0.n:Nat):Int):Int)<3))
 (R (Value.tuple #[aa,aa,(3:Int)]) w5)
 (R (Value.tuple #[aa,aa,(2:Int)]) w5))):ah 184 #[a0] w R:=
 cq ⟨[(3,⟨[(14,.int .i64),(5,.int .i64)],[],[]⟩)],[],[]⟩ Tryz.func184 h
theorem X0.vc{a0:Sl}(h:
 ∃I0:Nat->Int->Int->World->Prop,
 (∃n1,I0 n1 (0) a1 w)/\
 ∀(n1:Nat)(wX:Nat->Value)(x3 x4:Int)(w5:World),I0 n1 x3 x4 w5->
 Br (decide (x3<((a0.n:Nat):Int)))
 (eo a0.a x3 a0.n/\∃(x7 x8:Int),ag w5 (af a0.a ((x3:Int).toNat*2)) 0 [x7,x8]/\
 Aw w5 #[aa,aa] 252 λw9=>
 Sw w9 w5 #[x7,x8] λbO=>
 Br (x7<1)
 (R false bO.drew)
 (Br (x7>x4)
 (R false bO.drew)
 (ah 108 #[x8] bO.drew (Rb λQ1 aY=>Kp w5 bO.drew aY/\
 ag aY w5 0 [x7]/\ag aY w5 0 [x7]/\Br (!Q1)
 (R false aY)
 (Br (x3>0)
 (eo a0.a (aj (x3-1)) a0.n/\aP (dv (af a0.a (((aj (x3-1)):Int).toNat*2))) (∃(cm:Int),ld aY (af (af a0.a (((aj (x3-1)):Int).toNat*2)) 1)=some (.int .i64 cm)/\
 Br (cm==x8)
 (R false aY)
 (∃n6,n6<n1/\I0 n6 ((aj (x3+1))) ((aj (x4-x7))) aY)))
 (∃n6,n6<n1/\I0 n6 ((aj (x3+1))) ((aj (x4-x7))) aY))))))
 (Br (a1>0)
 (R (Value.bool (x4==0)) w5)
 (R false w5))):ah 185 #[a0,a1] w R:=
 cq ⟨[(3,⟨[(11,.int .i64),(5,.int .i64)],[],[]⟩)],[],[]⟩ Tryz.func185 h
theorem zX.vc{a0:Sl}(h:
 Br (a0.a).isNone
 (R (Value.slice none 0 0) w)
 (Aw w #[] 252 λw0=>
 ∃l1:LV,Rd w0 a0.a l1/\ba 16 2 w0 ⟨(some ⟨w,0,none⟩),0,0⟩ a0.n l1/\∀(s2:Sl)(w3:World),aV 252 2 w0 ⟨(some ⟨w,0,none⟩),0,0⟩ a0.n l1 s2 w3->Kp w w0 w3/\
 R s2 w3)):ah 186 #[a0] w R:=
 cq bV Tryz.func186 h
theorem Ud.vc(h:
 Aw w #[a0] 3 λw0=>
 Aw w0 #[ak,ao] 40 λw1=>
 R (Value.func (.func 248) #[] #[.pointer (some ⟨w0,0,none⟩),w]) w1):ah 187 #[a0,.agg #[ak,ao]] w R:=
 cq bV Tryz.func187 h
theorem acx.vc{a0:Sl}(h:
 ∃I0:Nat->Int->Sl->World->Prop,
 (∃n1,I0 n1 (0) ⟨none,0,0⟩ w)/\
 ∀(n1:Nat)(wX:Nat->Value)(x3:Int)(s4:Sl)(w5:World),I0 n1 x3 s4 w5->
 Br (decide (x3<((a0.n:Nat):Int)))
 (eo a0.a x3 a0.n/\∃(x7:Int),ld w5 (af a0.a ((x3:Int).toNat*1))=some (.int .i64 x7)/\
 ah 252 #[s4,.agg #[(1:Int),x7]] w5 (λe w8=>∃(s9:Sl),e=s9/\
 ∃n6,n6<n1/\I0 n6 ((aj (x3+1))) s9 w8))
 (R s4 w5)):ah 188 #[a0] w R:=
 cq ⟨[(3,⟨[(8,.int .i64),(3,.slice)],[],[]⟩)],[],[]⟩ Tryz.func188 h
theorem BN.vc{a0:Sl}(h:
 (0:Int)<=((a0.n:Nat):Int)/\((a0.n:Nat):Int)<=((a0.c:Nat):Int)/\(0:Int)<=((a0.n:Nat):Int)/\(((a0.n:Nat):Int):Int)<=((a0.n:Nat):Int)/\R (Value.slice (aJ a0.a (0) ((((a0.n:Nat):Int):Int).toNat) 1) ((((a0.n:Nat):Int):Int).toNat-0) ((((a0.n:Nat):Int):Int).toNat-0)) w):ah 189 #[a0] w R:=
 cq bV Tryz.func189 h
theorem zB.vc{a0:Sl}(h:
 Aw w #[ak,ao] 40 λw0=>
 ∃I1:Nat->Int->World->Prop,
 (∃n2,aO [ak,ao]/\I1 n2 (0) w0)/\
 ∀(n2:Nat)(us3:Nat->Value)(x4:Int)(w5:World),I1 n2 x4 w5->
 Br (decide (x4<((a0.n:Nat):Int)))
 (eo a0.a x4 a0.n/\∃(x7 x8:Int),ag w5.drew (af a0.a ((x4:Int).toNat*2)) 0 [x7,x8]/\
 Br ((ak==x7) &&(ao==x8))
 (R x4 w5.drew)
 (∃n6,n6<n2/\aO [ak,ao]/\I1 n6 ((aj (x4+1))) w5.drew))
 (R (Value.int .i64 (-1)) w5)):ah 213 #[a0,.agg #[ak,ao]] w R:=
 cq ⟨[(2,⟨[(8,.int .i64)],[],[]⟩)],[],[]⟩ Tryz.func213 h
theorem IX.vc(h:
 Br (a0==0)
 (R true w)
 (ah 202 #[a0] w (λe w0=>∃(b1:Bool),e=b1/\
 R b1 w0))):ah 144 #[a0] w R:=
 cq bV Tryz.func144 h
theorem Lg.vc(h:
 R ((aj (8+(if 7<(if 0>a0 then 0 else a0) then 7 else (if 0>a0 then 0 else a0))))) w):ah 302 #[a0] w R:=
 cq bV Tryz.func302 h
theorem Lh.vc(h:
 ∀w0,w0=w.alloc (.cells #[.string (ByteArray.mk #[]),.string (ByteArray.mk #[]),.string (ByteArray.mk #[]),.string (ByteArray.mk #[]),.string (ByteArray.mk #[]),.string (ByteArray.mk #[]),.string (ByteArray.mk #[]),.string (ByteArray.mk #[]),.string (ByteArray.mk #[]),.string (ByteArray.mk #[]),.string (ByteArray.mk #[]),.string (ByteArray.mk #[]),.string (ByteArray.mk #[]),.string (ByteArray.mk #[]),.string (ByteArray.mk #[]),.string (ByteArray.mk #[])] 285)->
 ∀w1,w1=w0.alloc (.cells #[.string (ByteArray.mk #[]),.string (ByteArray.mk #[]),.string (ByteArray.mk #[]),.string (ByteArray.mk #[]),.string (ByteArray.mk #[]),.string (ByteArray.mk #[]),.string (ByteArray.mk #[]),.string (ByteArray.mk #[]),.string (ByteArray.mk #[]),.string (ByteArray.mk #[]),.string (ByteArray.mk #[]),.string (ByteArray.mk #[]),.string (ByteArray.mk #[]),.string (ByteArray.mk #[]),.string (ByteArray.mk #[]),.string (ByteArray.mk #[])] 285)->
 Wt w1 ⟨w0,0,none⟩ 16/\(∀w2,w2=aH w1 (some ⟨w0,0,none⟩) [.string (ByteArray.mk #[97,105,114]),.string (ByteArray.mk #[115,116,111,110,101]),.string (ByteArray.mk #[100,105,114,116]),.string (ByteArray.mk #[115,97,110,100]),.string (ByteArray.mk #[108,97,100,100,101,114]),.string (ByteArray.mk #[103,108,97,115,115]),.string (ByteArray.mk #[]),.string (ByteArray.mk #[]),.string (ByteArray.mk #[]),.string (ByteArray.mk #[]),.string (ByteArray.mk #[]),.string (ByteArray.mk #[]),.string (ByteArray.mk #[]),.string (ByteArray.mk #[]),.string (ByteArray.mk #[]),.string (ByteArray.mk #[])]->
 ∃I3:Nat->Int->World->Prop,
 (∃n4,I3 n4 (0) w2)/\
 ∀(n4:Nat)(us5:Nat->Value)(x6:Int)(w7:World),I3 n4 x6 w7->
 Br (x6<8)
 (ah 267 #[x6] w7 (λe w9=>∃(t10:ByteArray),e=Value.string t10/\
 ((((ByteArray.mk #[119,97,116,101,114])).size+(t10).size:Nat):Int)<=IntKind.i64.max/\(0:Int)<=(aj (8+x6))/\((aj (8+x6)):Int)<((16:Nat):Int)/\(true=true/\Wr w9 (af (some ⟨w0,0,none⟩) (((aj (8+x6)):Int).toNat*1)) 1)/\(∀aY,aY=aH w9 (af (some ⟨w0,0,none⟩) (((aj (8+x6)):Int).toNat*1)) [.string ((ByteArray.mk #[119,97,116,101,114])++t10)]->
 ∃n8,n8<n4/\I3 n8 ((aj (x6+1))) aY)))
 (∃(t12 t13 t14 t15 t16 t17 t18 t19 t20 t21 t22 t23 t24 t25 t26 t27:ByteArray),ag w7 (some ⟨w0,0,none⟩) 0 [.string t12,.string t13,.string t14,.string t15,.string t16,.string t17,.string t18,.string t19,.string t20,.string t21,.string t22,.string t23,.string t24,.string t25,.string t26,.string t27]/\
 Wt w7 ⟨w,0,none⟩ 16/\(∀gN,gN=aH w7 w [.string t12,.string t13,.string t14,.string t15,.string t16,.string t17,.string t18,.string t19,.string t20,.string t21,.string t22,.string t23,.string t24,.string t25,.string t26,.string t27]->
 ∃(t29 t30 t31 t32 t33 t34 t35 t36 t37 t38 t39 t40 t41 t42 t43 t44:ByteArray),ag gN w 0 [.string t29,.string t30,.string t31,.string t32,.string t33,.string t34,.string t35,.string t36,.string t37,.string t38,.string t39,.string t40,.string t41,.string t42,.string t43,.string t44]/\
 R (Value.agg #[.string t29,.string t30,.string t31,.string t32,.string t33,.string t34,.string t35,.string t36,.string t37,.string t38,.string t39,.string t40,.string t41,.string t42,.string t43,.string t44]) gN)))):ah 218 #[] w R:=
 cq ⟨[(3,⟨[(4,.int .i64)],[],[]⟩)],[],[]⟩ Tryz.func218 h
theorem X1.vc{a0:Sl}(h:
 ∃I0:Nat->Int->Int->World->Prop,
 (∃n1,I0 n1 (0) (0) w)/\
 ∀(n1:Nat)(wX:Nat->Value)(x3 x4:Int)(w5:World),I0 n1 x3 x4 w5->
 Br (decide (x3<((a0.n:Nat):Int)))
 (eo a0.a x3 a0.n/\∃(x7 x8:Int),ag w5 (af a0.a ((x3:Int).toNat*2)) 0 [x7,x8]/\
 Aw w5 #[aa,aa] 252 λw9=>
 Sw w9 w5 #[x7,x8] λbO=>
 ∃n6,n6<n1/\I0 n6 ((aj (x3+1))) ((aj (x4+x7))) bO)
 (R x4 w5)):ah 253 #[a0] w R:=
 cq ⟨[(3,⟨[(8,.int .i64),(3,.int .i64)],[],[]⟩)],[],[]⟩ Tryz.func253 h
theorem Ue.vc{a0:Sl}(h:
 ah 253 #[a0] w (λe w0=>∃(x1:Int),e=x1/\
 ah 108 #[a3] w0 (λe w2=>∃(b3:Bool),e=b3/\
 Br (!b3)
 (ah 186 #[a0] w2 (λe w4=>∃(s5:Sl),e=s5/\
 R s5 w4))
 (Br (decide (((if x1<(if 0>a1 then 0 else a1) then x1 else (if 0>a1 then 0 else a1)):Int)>=(if x1<(if 0>a2 then 0 else a2) then x1 else (if 0>a2 then 0 else a2))))
 (ah 186 #[a0] w2 (λe w6=>∃(s7:Sl),e=s7/\
 R s7 w6))
 (ah 319 #[a0,aa,.int .i64 (if x1<(if 0>a1 then 0 else a1) then x1 else (if 0>a1 then 0 else a1))] w2 (λe w8=>∃(s9:Sl),e=s9/\
 ah 320 #[(aj ((if x1<(if 0>a2 then 0 else a2) then x1 else (if 0>a2 then 0 else a2))-(if x1<(if 0>a1 then 0 else a1) then x1 else (if 0>a1 then 0 else a1)))),a3] w8 (λe bO=>∃(AP:Sl),e=AP/\
 ah 319 #[a0,.int .i64 (if x1<(if 0>a2 then 0 else a2) then x1 else (if 0>a2 then 0 else a2)),x1] bO (λe cR=>∃(wS:Sl),e=wS/\
 Aw cR #[s9,AP,wS] 173 λbP=>
 ah 318 #[.slice (some ⟨cR,0,none⟩) 3 3] bP (λe eA=>∃(W7:Sl),e=W7/\
 R W7 eA))))))))):ah 309 #[a0,a1,a2,a3] w R:=
 cq bV Tryz.func309 h
theorem PK.vc{a0:Sl}(h:
 ∃I0:Nat->Int->Int->World->Prop,
 (∃n1,I0 n1 (0) (1048576) w)/\
 ∀(n1:Nat)(wX:Nat->Value)(x3 x4:Int)(w5:World),I0 n1 x3 x4 w5->
 Br (decide (x3<((a0.n:Nat):Int)))
 (eo a0.a x3 a0.n/\∃(x7 x8:Int),ag w5 (af a0.a ((x3:Int).toNat*2)) 0 [x7,x8]/\
 Aw w5 #[aa,aa] 252 λw9=>
 Sw w9 w5 #[x7,x8] λbO=>
 Br (x7<1)
 (R (Value.tuple #[.slice none 0 0,(1:Int)]) bO)
 (Br (decide (((aj (x4-x7)):Int)<0))
 (R (Value.tuple #[.slice none 0 0,(1:Int)]) bO)
 (∃n6,n6<n1/\I0 n6 ((aj (x3+1))) ((aj (x4-x7))) bO)))
 (ah 253 #[a0] w5 (λe aY=>∃(bN:Int),e=bN/\
 ah 185 #[a0,bN] aY (λe bJ=>∃(b14:Bool),e=b14/\
 Br (!b14)
 (R (Value.tuple #[.slice none 0 0,(1:Int)]) bJ)
 (∃I15:Nat->Int->Sl->World->Prop,
 (∃Ke,I15 Ke (0) ⟨none,0,0⟩ bJ)/\
 ∀(Ke:Nat)(apN:Nat->Value)(cp:Int)(Wa:Sl)(fx:World),I15 Ke cp Wa fx->
 Br (decide (cp<((a0.n:Nat):Int)))
 (eo a0.a cp a0.n/\∃(dN dz:Int),ag fx (af a0.a ((cp:Int).toNat*2)) 0 [dN,dz]/\
 Aw fx #[aa,aa] 252 λfZ=>
 Sw fZ fx #[dN,dz] λcU=>
 Aw cU.drew #[.int .u8 (eY dz)] 5 λfi=>
 ba 1 1 fi Wa 1 [.int .u8 (eY dz)]/\∀(S5:Sl)(gN:World),aV 5 1 fi Wa 1 [.int .u8 (eY dz)] S5 gN->gN.heap[fx.heap.size]? =fi.heap[fx.heap.size]?/\gN.heap[cU.drew.heap.size]? =fi.heap[cU.drew.heap.size]?/\
 ag gN fx 0 [dN]/\ag gN (some ⟨fx,1,none⟩) 0 [dz]/\ah 254 #[dN] gN (Rs λsS dR=>dR.heap[fx.heap.size]? =gN.heap[fx.heap.size]?/\dR.heap[cU.drew.heap.size]? =gN.heap[cU.drew.heap.size]?/\
 ag dR (some ⟨fx,1,none⟩) 0 [dz]/\∃l31:LV,Rd dR sS.a l31/\ba 1 1 dR S5 sS.n l31/\∀(oL:Sl)(eM:World),aV 5 1 dR S5 sS.n l31 oL eM->eM.heap[fx.heap.size]? =dR.heap[fx.heap.size]?/\eM.heap[cU.drew.heap.size]? =dR.heap[cU.drew.heap.size]?/\
 ag eM (some ⟨fx,1,none⟩) 0 [dz]/\∃n21,n21<Ke/\I15 n21 ((aj (cp+1))) oL eM))
 (R (Value.tuple #[Wa,aa]) fx)))))):ah 190 #[a0] w R:=
 cq ⟨[(13,⟨[(35,.int .i64),(7,.slice)],[],[]⟩),(3,⟨[(12,.int .i64),(4,.int .i64)],[],[]⟩)],[],[]⟩ Tryz.func190 h
theorem IY.vc(h:
 Br (a0<0)
 (aP (J6 a1) (R (Value.int .i64 (Int.tmod (aj (0-(aj (a0+1)))) a1)) w))
 (aP (J6 a1) (R (Value.int .i64 (Int.tmod a0 a1)) w))):ah 10 #[a0,a1] w R:=
 cq bV Tryz.func10 h
theorem Gj.vc{a0:Addr}(h:
 ∃(m0:Option Nat),ld w (af (some a0) 3)=some (.map m0)/\
 ah 272 #[.map m0] w (λe w1=>∃(m2:Option Nat),e=Value.map m2/\
 ∃(s3:Sl),ld w1 (af (some a0) 4)=some (.slice s3.a s3.n s3.c)/\
 ∃I4:Nat->Int->World->Prop,
 (∃n5,I4 n5 (0) w1)/\
 ∀(n5:Nat)(us6:Nat->Value)(x7:Int)(w8:World),I4 n5 x7 w8->
 Br (decide (x7<((s3.n:Nat):Int)))
 (eo s3.a x7 s3.n/\∃(bh:Int)(AP:Sl),ag w8 (af s3.a ((x7:Int).toNat*2)) 0 [bh,AP]/\
 Aw w8 #[aa,.slice none 0 0] 279 λcR=>
 Sw cR w8 #[bh,AP] λbJ=>
 ∃(G14:Value->Prop)(kvs15:List (Value × Value)),iF Tryz.prog 3 G14/\(m2:Option Nat).isSome=true/\cl G14 bJ m2 kvs15/\G14 bh/\∀cJ:World,Rec ((m2:Option Nat).getD 0) bJ cJ->cl G14 cJ m2 (vQ kvs15 bh AP)->
 ∃n9,n9<n5/\I4 n9 ((aj (x7+1))) cJ)
 (R (Value.map m2) w8))):ah 228 #[a0] w R:=
 cq ⟨[(3,⟨[(16,.int .i64)],[],[]⟩)],[],[]⟩ Tryz.func228 h
theorem xC.vc{a0:Sl}(h:
 Br (a0.a).isNone
 (R (Value.slice none 0 0) w)
 (Aw w #[] 5 λw0=>
 ∃l1:LV,Rd w0 a0.a l1/\ba 1 1 w0 ⟨(some ⟨w,0,none⟩),0,0⟩ a0.n l1/\∀(s2:Sl)(w3:World),aV 5 1 w0 ⟨(some ⟨w,0,none⟩),0,0⟩ a0.n l1 s2 w3->Kp w w0 w3/\
 R s2 w3)):ah 230 #[a0] w R:=
 cq bV Tryz.func230 h
theorem Xz.vc{a0:Sl}(h:
 Br (decide ((((a0.n:Nat):Int):Int)<2))
 (R (Value.tuple #[.slice none 0 0,(3:Int)]) w)
 (ah 281 #[a0] w (λe w0=>∃(b1:Bool),e=b1/\
 Br (!b1)
 (R (Value.tuple #[.slice none 0 0,(4:Int)]) w0)
 ((0:Int)<=(aj (((a0.n:Nat):Int)-2))/\(aj (((a0.n:Nat):Int)-2))<=((a0.c:Nat):Int)/\ah 230 #[.slice (aJ a0.a (0) (a0.c) 1) (((aj (((a0.n:Nat):Int)-2)):Int).toNat-0) (a0.c-0)] w0 (λe w2=>∃(s3:Sl),e=s3/\
 R (Value.tuple #[s3,aa]) w2))))):ah 246 #[a0] w R:=
 cq bV Tryz.func246 h
theorem Li.vc{a0:Value}{c0:Addr}{c1:Addr}(h:
 Aw w #[.int .i64 0,.int .i64 0,.int .i64 0,.int .i64 0,.int .i64 0,.int .i64 0,.int .i64 0,.int .i64 0,.int .i64 0,.int .i64 0,.int .i64 0,.int .i64 0,.int .i64 0,.int .i64 0,.int .i64 0,.int .i64 0,.int .i64 0,.int .i64 0,.int .i64 0,.int .i64 0,.int .i64 0,.int .i64 0,.int .i64 0,.int .i64 0,.int .i64 0,.int .i64 0,.int .i64 0,.int .i64 0,.int .i64 0,.int .i64 0,.int .i64 0,.int .i64 0,.int .i64 0,.int .i64 0,.int .i64 0,.int .i64 0,.int .i64 0,.int .i64 0,.int .i64 0,.int .i64 0,.int .i64 0,.int .i64 0,.int .i64 0,.int .i64 0,.int .i64 0,.int .i64 0,.int .i64 0,.int .i64 0,.int .i64 0,.int .i64 0,.int .i64 0,.int .i64 0,.int .i64 0,.int .i64 0,.int .i64 0,.int .i64 0,.int .i64 0,.int .i64 0,.int .i64 0,.int .i64 0,.int .i64 0,.int .i64 0,.int .i64 0,.int .i64 0,.int .i64 0,.int .i64 0,.int .i64 0,.int .i64 0,.int .i64 0,.int .i64 0,.int .i64 0,.int .i64 0,.int .i64 0,.int .i64 0,.int .i64 0,.int .i64 0,.int .i64 0,.int .i64 0,.int .i64 0,.int .i64 0,.int .i64 0,.int .i64 0,.int .i64 0,.int .i64 0,.int .i64 0,.int .i64 0,.int .i64 0,.int .i64 0,.int .i64 0,.int .i64 0,.int .i64 0,.int .i64 0,.int .i64 0,.int .i64 0,.int .i64 0,.int .i64 0,.int .i64 0,.int .i64 0,.int .i64 0,.int .i64 0,.int .i64 0,.int .i64 0,.int .i64 0,.int .i64 0,.int .i64 0,.int .i64 0,.int .i64 0,.int .i64 0,.int .i64 0,.int .i64 0,.int .i64 0,.int .i64 0,.int .i64 0,.int .i64 0,.int .i64 0,.int .i64 0,.int .i64 0,.int .i64 0,.int .i64 0,.int .i64 0,.int .i64 0,.int .i64 0,.int .i64 0,.int .i64 0,.int .i64 0,.int .i64 0,.int .i64 0,.int .i64 0,.int .i64 0,.int .i64 0,.int .i64 0,.int .i64 0,.int .i64 0,.int .i64 0,.int .i64 0,.int .i64 0,.int .i64 0,.int .i64 0,.int .i64 0,.int .i64 0,.int .i64 0,.int .i64 0,.int .i64 0,.int .i64 0,.int .i64 0,.int .i64 0,.int .i64 0,.int .i64 0,.int .i64 0,.int .i64 0,.int .i64 0,.int .i64 0,.int .i64 0,.int .i64 0,.int .i64 0,.int .i64 0,.int .i64 0,.int .i64 0,.int .i64 0,.int .i64 0,.int .i64 0,.int .i64 0,.int .i64 0,.int .i64 0,.int .i64 0,.int .i64 0,.int .i64 0,.int .i64 0,.int .i64 0,.int .i64 0,.int .i64 0,.int .i64 0,.int .i64 0,.int .i64 0,.int .i64 0,.int .i64 0,.int .i64 0,.int .i64 0,.int .i64 0,.int .i64 0,.int .i64 0,.int .i64 0,.int .i64 0,.int .i64 0,.int .i64 0,.int .i64 0,.int .i64 0,.int .i64 0,.int .i64 0,.int .i64 0,.int .i64 0,.int .i64 0,.int .i64 0,.int .i64 0,.int .i64 0,.int .i64 0,.int .i64 0,.int .i64 0,.int .i64 0,.int .i64 0,.int .i64 0,.int .i64 0,.int .i64 0,.int .i64 0,.int .i64 0,.int .i64 0,.int .i64 0,.int .i64 0,.int .i64 0,.int .i64 0,.int .i64 0,.int .i64 0,.int .i64 0,.int .i64 0,.int .i64 0,.int .i64 0,.int .i64 0,.int .i64 0,.int .i64 0,.int .i64 0,.int .i64 0,.int .i64 0,.int .i64 0,.int .i64 0,.int .i64 0,.int .i64 0,.int .i64 0,.int .i64 0,.int .i64 0,.int .i64 0,.int .i64 0,.int .i64 0,.int .i64 0,.int .i64 0,.int .i64 0,.int .i64 0,.int .i64 0,.int .i64 0,.int .i64 0,.int .i64 0,.int .i64 0,.int .i64 0,.int .i64 0,.int .i64 0,.int .i64 0,.int .i64 0,.int .i64 0,.int .i64 0,.int .i64 0,.int .i64 0,.int .i64 0,.int .i64 0,.int .i64 0,.int .i64 0,.int .i64 0,.int .i64 0] 311 λw0=>
 ∃I1:Nat->Int->World->Prop,
 (∃n2,I1 n2 (0) w0)/\
 ∀(n2:Nat)(us3:Nat->Value)(x4:Int)(w5:World),I1 n2 x4 w5->
 Br (x4<256)
 (∃(x7 x8:Int),ag w5 (some c0) 0 [x7,x8]/\
 ah 249 #[.agg #[x7,x8],x4] w5 (λe w9=>∃(bh bC bN:Int)(Fg:Bool),e=Value.tuple #[.agg #[bh,bC,bN],Fg]/\
 Aw w9 #[aa,aa,aa] 41 λbP=>
 Sw bP w9 #[bh,bC,bN] λeA=>
 ∃(cD:Int),ld eA (some c1)=some (.int .i64 cD)/\
 ah 250 #[cD,bh,bN] eA (Ri λcp cL=>Kp w9 eA cL/\
 (0:Int)<=x4/\x4<((256:Nat):Int)/\(true=true/\Wr cL (af (some ⟨w,0,none⟩) ((x4:Int).toNat*1)) 1)/\bD (af (some ⟨w,0,none⟩) ((x4:Int).toNat*1))≠some w9.heap.size/\(∀fP,fP=aH cL (af (some ⟨w,0,none⟩) ((x4:Int).toNat*1)) [cp]->
 ∃n6,n6<n2/\I1 n6 ((aj (x4+1))) fP))))
 (∃I20:Nat->Int->World->Prop,
 (∃n21,I20 n21 (0) w5)/\
 ∀(n21:Nat)(axJ:Nat->Value)(dz:Int)(fZ:World),I20 n21 dz fZ->
 Br (dz<8192)
 ((0:Int)<=(Int.tmod dz 256)/\((Int.tmod dz 256):Int)<((256:Nat):Int)/\∃(fy:Int),ld fZ (af (some ⟨w,0,none⟩) (((Int.tmod dz 256):Int).toNat*1))=some (.int .i64 fy)/\
 ah 251 #[(aj (Int.tdiv dz 256)),fy] fZ (λe eH=>∃(g7:Int),e=g7/\
 cr Tryz.prog a0 [g7] eH (λe dR=>∃(Wh:Bool),e=Wh/\
 Br (!Wh)
 (R sY dR)
 (∃n25,n25<n21/\I20 n25 ((aj (dz+1))) dR))))
 (R sY fZ))):ah 248 #[a0,c0,c1] w R:=
 cq ⟨[(8,⟨[(27,.int .i64)],[],[]⟩),(2,⟨[(9,.int .i64)],[],[]⟩)],[],[]⟩ Tryz.func248 h
theorem TD.vc(h:
 Aw w #[aA,aq] 40 λw0=>
 Aw w0 #[aa,aa,aa] 41 λw1=>
 Br (a1<0)
 (Sw w1 w0 #[aa,aa,aa] λw2=>
 R (Value.tuple #[.agg #[aa,aa,aa],false]) w2)
 (Br (a1>=8192)
 (Sw w1 w0 #[aa,aa,aa] λw3=>
 R (Value.tuple #[.agg #[aa,aa,aa],false]) w3)
 (Sw w1 w0 #[(aj ((aj (aA*16))+(Int.tmod a1 16))),(aj (Int.tdiv a1 256)),(aj ((aj (aq*16))+(Int.tmod (aj (Int.tdiv a1 16)) 16)))] λw4=>
 R (Value.tuple #[.agg #[(aj ((aj (aA*16))+(Int.tmod a1 16))),(aj (Int.tdiv a1 256)),(aj ((aj (aq*16))+(Int.tmod (aj (Int.tdiv a1 16)) 16)))],true]) w4))):ah 249 #[.agg #[aA,aq],a1] w R:=
 cq bV Tryz.func249 h
theorem Pu.vc(h:
 Aw w #[a0] 3 λw0=>
 ah 192 #[a1,(8:Int)] w0 (Ri λx2 w1=>Kp w w0 w1/\
 ah 192 #[a2,(8:Int)] w1 (Ri λx4 w3=>Kp w w1 w3/\
 ah 282 #[a1,(8:Int)] w3 (Ri λx6 w5=>Kp w w3 w5/\
 ah 282 #[a2,(8:Int)] w5 (Ri λx8 w7=>Kp w w5 w7/\
 ah 283 #[x2,x4,(aj ((aj (8-x6))*(aj (8-x8)))),w] w7 (λe w9=>∃(bh:Int),e=bh/\
 ah 283 #[(aj (x2+1)),x4,(aj (x6*(aj (8-x8)))),w] w9 (λe aY=>∃(bN:Int),e=bN/\
 ah 283 #[x2,(aj (x4+1)),(aj ((aj (8-x6))*x8)),w] aY (λe bJ=>∃(bX:Int),e=bX/\
 ah 283 #[(aj (x2+1)),(aj (x4+1)),(aj (x6*x8)),w] bJ (λe eA=>∃(cD:Int),e=cD/\
 R ((aj (6+(aj (Int.tdiv (aj ((aj ((aj (bh+bN))+bX))+cD)) 64))))) eA))))))))):ah 250 #[a0,a1,a2] w R:=
 cq bV Tryz.func250 h
theorem af0.vc(h:
 Br (a0<0)
 (R (0:Int) w)
 (Br (a0>=32)
 (R (0:Int) w)
 (Br (a0==0)
 (R (1:Int) w)
 (Br (decide (a0<(aj (a1-3))))
 (R (1:Int) w)
 (Br (decide (a0<(aj (a1-1))))
 (R (2:Int) w)
 (Br (a0==(aj (a1-1)))
 (Br (a1>9)
 (R (2:Int) w)
 (Br (a0==(aj (a1-1)))
 (R (3:Int) w)
 (Br (a0<9)
 (R (8:Int) w)
 (R (0:Int) w))))
 (Br (a0==(aj (a1-1)))
 (R (3:Int) w)
 (Br (a0<9)
 (R (8:Int) w)
 (R (0:Int) w))))))))):ah 251 #[a0,a1] w R:=
 cq bV Tryz.func251 h
theorem Uf.vc{a0:Sl}(h:
 Aw w #[ak,ao] 252 λw0=>
 Br (ak<1)
 (R a0 w0)
 (Br (decide (((aj (((a0.n:Nat):Int)-1)):Int)>=0))
 (eo a0.a (aj (((a0.n:Nat):Int)-1)) a0.n/\aP (dv (af a0.a (((aj (((a0.n:Nat):Int)-1)):Int).toNat*2))) (∃(x1:Int),ld w0.drew (af (af a0.a (((aj (((a0.n:Nat):Int)-1)):Int).toNat*2)) 1)=some (.int .i64 x1)/\
 Br (x1==ao)
 (eo a0.a (aj (((a0.n:Nat):Int)-1)) a0.n/\aP (dv (af a0.a (((aj (((a0.n:Nat):Int)-1)):Int).toNat*2))) (∃(x2:Int),ld w0.drew.drew (af (af a0.a (((aj (((a0.n:Nat):Int)-1)):Int).toNat*2)) 0)=some (.int .i64 x2)/\
 eo a0.a (aj (((a0.n:Nat):Int)-1)) a0.n/\aP (dv (af a0.a (((aj (((a0.n:Nat):Int)-1)):Int).toNat*2))) ((((af (af a0.a (((aj (((a0.n:Nat):Int)-1)):Int).toNat*2)) 0)).isSome=true/\Wr w0.drew.drew (af (af a0.a (((aj (((a0.n:Nat):Int)-1)):Int).toNat*2)) 0) 1)/\bD (af (af a0.a (((aj (((a0.n:Nat):Int)-1)):Int).toNat*2)) 0)≠some w.heap.size/\(∀w3,w3=aH w0.drew.drew (af (af a0.a (((aj (((a0.n:Nat):Int)-1)):Int).toNat*2)) 0) [(aj (x2+ak))]->
 R a0 w3))))
 (Aw w0.drew #[ak,ao] 252 λw4=>
 ba 16 2 w4 a0 1 [ak,ao]/\∀(s5:Sl)(w6:World),aV 252 2 w4 a0 1 [ak,ao] s5 w6->Kp w w4 w6/\w6.heap[w0.drew.heap.size]? =w4.heap[w0.drew.heap.size]?/\
 R s5 w6)))
 (Aw w0.drew #[ak,ao] 252 λw7=>
 ba 16 2 w7 a0 1 [ak,ao]/\∀(s8:Sl)(w9:World),aV 252 2 w7 a0 1 [ak,ao] s8 w9->Kp w w7 w9/\w9.heap[w0.drew.heap.size]? =w7.heap[w0.drew.heap.size]?/\
 R s8 w9))):ah 252 #[a0,.agg #[ak,ao]] w R:=
 cq bV Tryz.func252 h
theorem IZ.vc(h:
 ah 294 #[a0] w (λe w0=>∃(t1:ByteArray),e=Value.string t1/\
 R (Value.string t1) w0)):ah 267 #[a0] w R:=
 cq bV Tryz.func267 h
theorem Ug.vc{a0:Sl}(h:
 ∃I0:Nat->Int->Sl->World->Prop,
 (∃n1,I0 n1 (0) ⟨none,0,0⟩ w)/\
 ∀(n1:Nat)(wX:Nat->Value)(x3:Int)(s4:Sl)(w5:World),I0 n1 x3 s4 w5->
 Br (decide (x3<((a0.n:Nat):Int)))
 (eo a0.a x3 a0.n/\∃(s7:Sl),ld w5 (af a0.a ((x3:Int).toNat*1))=some (.slice s7.a s7.n s7.c)/\
 ∃I8:Nat->Int->Sl->World->Prop,
 (∃n9,I8 n9 (0) s4 w5)/\
 ∀(n9:Nat)(Wv:Nat->Value)(bC:Int)(jJ:Sl)(bJ:World),I8 n9 bC jJ bJ->
 Br (decide (bC<((s7.n:Nat):Int)))
 (eo s7.a bC s7.n/\∃(cA cD:Int),ag bJ (af s7.a ((bC:Int).toNat*2)) 0 [cA,cD]/\
 Aw bJ #[aa,aa] 252 λcL=>
 Sw cL bJ #[cA,cD] λdG=>
 ah 252 #[jJ,.agg #[cA,cD]] dG (Rs λuB fP=>Kp bJ dG fP/\
 ∃FO,FO<n9/\I8 FO ((aj (bC+1))) uB fP))
 (∃n6,n6<n1/\I0 n6 ((aj (x3+1))) jJ bJ))
 (R s4 w5)):ah 318 #[a0] w R:=
 cq ⟨[(6,⟨[(16,.int .i64),(3,.slice)],[],[]⟩),(3,⟨[(10,.int .i64),(3,.slice)],[],[]⟩)],[],[]⟩ Tryz.func318 h
theorem X2.vc{a0:Sl}(h:
 ∃I0:Nat->Int->Int->Sl->World->Prop,
 (∃n1,I0 n1 (0) (0) ⟨none,0,0⟩ w)/\
 ∀(n1:Nat)(wX:Nat->Value)(x3 x4:Int)(s5:Sl)(w6:World),I0 n1 x3 x4 s5 w6->
 Br (decide (x3<((a0.n:Nat):Int)))
 (eo a0.a x3 a0.n/\∃(x8 x9:Int),ag w6 (af a0.a ((x3:Int).toNat*2)) 0 [x8,x9]/\
 Aw w6 #[aa,aa] 252 λbO=>
 Sw bO w6 #[x8,x9] λaY=>
 Br (decide (((if (aj (x4+x8))<a2 then (aj (x4+x8)) else a2):Int)>(if x4>a1 then x4 else a1)))
 (ah 252 #[s5,.agg #[(aj ((if (aj (x4+x8))<a2 then (aj (x4+x8)) else a2)-(if x4>a1 then x4 else a1))),x9]] aY.drew (Rs λwS cR=>Kp w6 aY.drew cR/\
 ∃n7,n7<n1/\I0 n7 ((aj (x3+1))) ((aj (x4+x8))) wS cR))
 (∃n7,n7<n1/\I0 n7 ((aj (x3+1))) ((aj (x4+x8))) s5 aY.drew))
 (R s5 w6)):ah 319 #[a0,a1,a2] w R:=
 cq ⟨[(4,⟨[(15,.int .i64),(8,.int .i64),(7,.slice)],[],[]⟩)],[],[]⟩ Tryz.func319 h
theorem Uh.vc(h:
 ah 252 #[.slice none 0 0,.agg #[a0,a1]] w (λe w0=>∃(s1:Sl),e=s1/\
 R s1 w0)):ah 320 #[a0,a1] w R:=
 cq bV Tryz.func320 h
theorem Lj.vc(h:
 Br (a0<0)
 (R (Value.slice none 0 0) w)
 (Br (a0>1048576)
 (R (Value.slice none 0 0) w)
 (∃I0:Nat->Int->Sl->World->Prop,
 (∃n1,I0 n1 a0 ⟨none,0,0⟩ w)/\
 ∀(n1:Nat)(wX:Nat->Value)(x3:Int)(s4:Sl)(w5:World),I0 n1 x3 s4 w5->
 Br (x3>=128)
 (Aw w5 #[.int .u8 (Kr .u8 (eY x3) 128)] 5 λw7=>
 ba 1 1 w7 s4 1 [.int .u8 (Kr .u8 (eY x3) 128)]/\∀(s8:Sl)(w9:World),aV 5 1 w7 s4 1 [.int .u8 (Kr .u8 (eY x3) 128)] s8 w9->Kp w5 w7 w9/\
 ∃n6,n6<n1/\I0 n6 (((x3:Int).fdiv (2 ^(min (7:Int).toNat 64)))) s8 w9)
 (Aw w5 #[.int .u8 (eY x3)] 5 λbO=>
 ba 1 1 bO s4 1 [.int .u8 (eY x3)]/\∀(AP:Sl)(cR:World),aV 5 1 bO s4 1 [.int .u8 (eY x3)] AP cR->Kp w5 bO cR/\
 R AP cR)))):ah 254 #[a0] w R:=
 cq ⟨[(4,⟨[(0,.int .i64),(3,.slice)],[],[]⟩)],[],[]⟩ Tryz.func254 h
theorem B0.vc{a0:Option Nat}(h:
 Br (a0).isNone
 (R (Value.map none) w)
 (X3 Tryz.prog 298 [.iface 274 (.map a0)] w (λe w0=>∃(v1:Value),e=v1/\
 ∃(m2:Option Nat),(v1:Value)=.iface 274 (.map m2)/\
 R (Value.map m2) w0))):ah 272 #[.map a0] w R:=
 cq bV Tryz.func272 h
theorem IP.vc{c0:Addr}(h:
 ∃(x0:Int),ld w (some c0)=some (.int .i64 x0)/\
 ah 284 #[x0,a0,a1] w (λe w1=>∃(x2:Int),e=Value.int .u64 x2/\
 R ((aj ((aj (Int.tmod x2 9))*a2))) w1)):ah 283 #[a0,a1,a2,c0] w R:=
 cq bV Tryz.func283 h
theorem XK.vc(h:
 R (Value.int .u64 (ky .u64 (cX ((ky .u64 (cX ((cX ((cX ((cX a0)*11400714819323198485))+(cX ((cX a1)*14029467366897019727))))+(cX ((cX a2)*1609587929392839161)))) (((cX ((cX ((cX ((cX a0)*11400714819323198485))+(cX ((cX a1)*14029467366897019727))))+(cX ((cX a2)*1609587929392839161)))):Int).fdiv (2 ^(min (29:Int).toNat 64))))*13787848793156543929)) (((cX ((ky .u64 (cX ((cX ((cX ((cX a0)*11400714819323198485))+(cX ((cX a1)*14029467366897019727))))+(cX ((cX a2)*1609587929392839161)))) (((cX ((cX ((cX ((cX a0)*11400714819323198485))+(cX ((cX a1)*14029467366897019727))))+(cX ((cX a2)*1609587929392839161)))):Int).fdiv (2 ^(min (29:Int).toNat 64))))*13787848793156543929)):Int).fdiv (2 ^(min (32:Int).toNat 64))))) w):ah 284 #[a0,a1,a2] w R:=
 cq bV Tryz.func284 h
theorem sG.vc(h:
 ah 308 #[a0,(10:Int)] w (λe w0=>∃(t1:ByteArray),e=Value.string t1/\
 R (Value.string t1) w0)):ah 294 #[a0] w R:=
 cq bV Tryz.func294 h
theorem qZ.vc(h:
 Br (a0<10)
 ((0:Int)<=(aj (a0+1))/\(aj (a0+1))<=((((ByteArray.mk #[48,49,50,51,52,53,54,55,56,57,97,98,99,100,101,102,103,104,105,106,107,108,109,110,111,112,113,114,115,116,117,118,119,120,121,122])).size:Nat):Int)/\(0:Int)<=a0/\a0<=(aj (a0+1))/\R (Value.string (((ByteArray.mk #[48,49,50,51,52,53,54,55,56,57,97,98,99,100,101,102,103,104,105,106,107,108,109,110,111,112,113,114,115,116,117,118,119,120,121,122])).extract ((a0:Int).toNat) (((aj (a0+1)):Int).toNat))) w)
 ((0:Int)<=(aj ((aj (a0*2))+2))/\(aj ((aj (a0*2))+2))<=((((ByteArray.mk #[48,48,48,49,48,50,48,51,48,52,48,53,48,54,48,55,48,56,48,57,49,48,49,49,49,50,49,51,49,52,49,53,49,54,49,55,49,56,49,57,50,48,50,49,50,50,50,51,50,52,50,53,50,54,50,55,50,56,50,57,51,48,51,49,51,50,51,51,51,52,51,53,51,54,51,55,51,56,51,57,52,48,52,49,52,50,52,51,52,52,52,53,52,54,52,55,52,56,52,57,53,48,53,49,53,50,53,51,53,52,53,53,53,54,53,55,53,56,53,57,54,48,54,49,54,50,54,51,54,52,54,53,54,54,54,55,54,56,54,57,55,48,55,49,55,50,55,51,55,52,55,53,55,54,55,55,55,56,55,57,56,48,56,49,56,50,56,51,56,52,56,53,56,54,56,55,56,56,56,57,57,48,57,49,57,50,57,51,57,52,57,53,57,54,57,55,57,56,57,57])).size:Nat):Int)/\(0:Int)<=(aj (a0*2))/\((aj (a0*2)):Int)<=(aj ((aj (a0*2))+2))/\R (Value.string (((ByteArray.mk #[48,48,48,49,48,50,48,51,48,52,48,53,48,54,48,55,48,56,48,57,49,48,49,49,49,50,49,51,49,52,49,53,49,54,49,55,49,56,49,57,50,48,50,49,50,50,50,51,50,52,50,53,50,54,50,55,50,56,50,57,51,48,51,49,51,50,51,51,51,52,51,53,51,54,51,55,51,56,51,57,52,48,52,49,52,50,52,51,52,52,52,53,52,54,52,55,52,56,52,57,53,48,53,49,53,50,53,51,53,52,53,53,53,54,53,55,53,56,53,57,54,48,54,49,54,50,54,51,54,52,54,53,54,54,54,55,54,56,54,57,55,48,55,49,55,50,55,51,55,52,55,53,55,54,55,55,55,56,55,57,56,48,56,49,56,50,56,51,56,52,56,53,56,54,56,55,56,56,56,57,57,48,57,49,57,50,57,51,57,52,57,53,57,54,57,55,57,56,57,57])).extract (((aj (a0*2)):Int).toNat) (((aj ((aj (a0*2))+2)):Int).toNat))) w)):ah 314 #[a0] w R:=
 cq bV Tryz.func314 h
theorem BJ.vc{a0:Addr}(h:
 Aw w #[ak,ao,aw] 41 λw0=>
 ∃(p1:Option Addr),ld w0.drew (af (some a0) 0)=some (.pointer p1)/\
 ah 83 #[p1,.agg #[ak,ao,aw]] w0.drew (Ri λx3 w2=>Kp w w0.drew w2/\
 ∃(p4:Option Addr),ld w2.drew (af (some a0) 0)=some (.pointer p4)/\
 ah 221 #[p4,.agg #[ak,ao,aw],a2] w2.drew (Ri λx6 w5=>Kp w w2.drew w5/\
 Br (x6==0)
 (Br (x3 !=a2)
 (∃(s7:Sl),ld w5.drew (af (some a0) 1)=some (.slice s7.a s7.n s7.c)/\
 Aw w5.drew #[ak,ao,aw,a2] 289 λw8=>
 ba 32 4 w8 s7 1 [ak,ao,aw,a2]/\∀(s9:Sl)(bO:World),aV 289 4 w8 s7 1 [ak,ao,aw,a2] s9 bO->Kp w w8 bO/\bO.heap[w5.drew.heap.size]? =w8.heap[w5.drew.heap.size]?/\
 (true=true/\Wr bO (af (some a0) 1) 1)/\bD (af (some a0) 1)≠some w.heap.size/\bD (af (some a0) 1)≠some w5.drew.heap.size/\(∀aY,aY=aH bO (af (some a0) 1) [s9]->
 R x6 aY))
 (R x6 w5))
 (R x6 w5)))):ah 161 #[a0,.agg #[ak,ao,aw],a2] w R:=
 cq bV Tryz.func161 h
theorem Tw.vc(h:
 ah 96 #[a0,a1,a2] w (λe w0=>∃(p1:Option Addr),e=p1/\
 Aw w0 #[p1,.slice none 0 0] 133 λw2=>
 R (Value.pointer (some ⟨w0,0,none⟩)) w2)):ah 39 #[a0,a1,a2] w R:=
 cq bV Tryz.func39 h
theorem xt.vc{a0:Addr}(h:
 ∃(p0:Option Addr),ld w (af (some a0) 0)=some (.pointer p0)/\
 R p0 w):ah 19 #[a0] w R:=
 cq bV Tryz.func19 h
theorem zY.vc{a0:Addr}(h:
 Aw w #[ak,ao] 40 λw0=>
 ah 72 #[.agg #[ak,ao]] w0 (λe w1=>∃(x2:Int)(b3:Bool),e=Value.tuple #[x2,b3]/\Kp w w0 w1/\
 Br (!b3)
 (R (5:Int) w1)
 (ah 73 #[a0,.agg #[ak,ao]] w1 (Ri λx5 w4=>Kp w w1 w4/\
 Br (x5>=0)
 (ah 74 #[a0,x5] w4 (λe w6=>∃(p7:Option Addr),e=p7/\Kp w w4 w6/\
 R (0:Int) w6))
 (ah 75 #[a0] w4 (Ri λx9 w8=>Kp w w4 w8/\
 Br (x9 !=0)
 (R x9 w8)
 (∃(Ih:Option Addr),ld w8 (af (some a0) 0)=some (.pointer Ih)/\
 ah 76 #[Ih,x2] w8 (λe aY=>∃(jJ:Sl)(cm:Int)(b14:Bool),e=Value.tuple #[jJ,cm,b14]/\Kp w w8 aY/\
 ah 77 #[.agg #[ak,ao],jJ] aY (λe eA=>∃(p16:Option Addr)(cY:Int),e=Value.tuple #[p16,cY]/\Kp w aY eA/\
 Br (cY !=0)
 (∃(cp:Int),ld eA.drew (af (some a0) 1)=some (.int .i64 cp)/\
 ah 78 #[cp,.agg #[ak,ao]] eA.drew (λe fP=>∃(p20:Option Addr),e=p20/\Kp w eA.drew fP/\
 ∃(Rm:Sl),ld fP (af (some a0) 3)=some (.slice Rm.a Rm.n Rm.c)/\
 Aw fP #[p20,false,aa] 150 λdT=>
 Aw dT #[.pointer (some ⟨fP,0,none⟩)] 137 λeh=>
 ba 8 1 eh Rm 1 [.pointer (some ⟨fP,0,none⟩)]/\∀(rN:Sl)(cU:World),aV 137 1 eh Rm 1 [.pointer (some ⟨fP,0,none⟩)] rN cU->K2 w dT eh cU (
 (true=true/\Wr cU (af (some a0) 3) 1)/\bD (af (some a0) 3)≠some w.heap.size/\bD (af (some a0) 3)≠some dT.heap.size/\(∀fi,fi=aH cU (af (some a0) 3) [rN]->
 R (0:Int) fi))))
 (∃(S5:Sl),ld eA (af (some a0) 3)=some (.slice S5.a S5.n S5.c)/\
 Aw eA #[p16,false,aa] 150 λgN=>
 Aw gN #[.pointer (some ⟨eA,0,none⟩)] 137 λdR=>
 ba 8 1 dR S5 1 [.pointer (some ⟨eA,0,none⟩)]/\∀(sS:Sl)(fJ:World),aV 137 1 dR S5 1 [.pointer (some ⟨eA,0,none⟩)] sS fJ->K2 w gN dR fJ (
 (true=true/\Wr fJ (af (some a0) 3) 1)/\bD (af (some a0) 3)≠some w.heap.size/\bD (af (some a0) 3)≠some gN.heap.size/\(∀lv,lv=aH fJ (af (some a0) 3) [sS]->
 R (0:Int) lv)))))))))))):ah 20 #[a0,.agg #[ak,ao]] w R:=
 cq bV Tryz.func20 h
theorem DY.vc{a0:Addr}(h:
 Aw w #[ak,ao,aw] 41 λw0=>
 ah 139 #[.agg #[ak,ao,aw]] w0 (Ra2 λx2 x3 w1=>Kp w w0 w1/\
 ah 73 #[a0,.agg #[x2,x3]] w1 (Ri λx5 w4=>Kp w w1 w4/\
 Br (x5<0)
 (R (Value.int .i64 (-1)) w4)
 (Br (ao<0)
 (R (1:Int) w4)
 (∃(s6:Sl),ld w4.drew (af (some a0) 3)=some (.slice s6.a s6.n s6.c)/\
 eo s6.a x5 s6.n/\∃(p7:Option Addr),ld w4.drew (af s6.a ((x5:Int).toNat*1))=some (.pointer p7)/\
 aP (dv p7) (aP (dv p7) (∃(p8:Option Addr),ld w4.drew (af p7 0)=some (.pointer p8)/\
 ah 140 #[p8,.agg #[ak,ao,aw]] w4.drew (λe w9=>∃(bh:Int)(W3:Bool),e=Value.tuple #[bh,W3]/\Kp w w4.drew w9/\
 ag w9 (af s6.a ((x5:Int).toNat*1)) 0 [.pointer p7]/\ag w9 (af (some a0) 3) 0 [s6]/\R bh w9)))))))):ah 83 #[a0,.agg #[ak,ao,aw]] w R:=
 cq bV Tryz.func83 h
theorem PL.vc(h:
 ah 10 #[a0,(14:Int)] w (λe w0=>∃(x1:Int),e=x1/\
 Br (x1>5)
 (R ((aj (x1+2))) w0)
 (R x1 w0))):ah 110 #[a0] w R:=
 cq bV Tryz.func110 h
theorem B1.vc{a0:Addr}(h:
 Aw w #[ak,ao,aw] 41 λw0=>
 ah 139 #[.agg #[ak,ao,aw]] w0 (Ra2 λx2 x3 w1=>Kp w w0 w1/\
 ah 73 #[a0,.agg #[x2,x3]] w1 (Ri λx5 w4=>Kp w w1 w4/\
 ah 255 #[.agg #[ak,ao,aw]] w4 (λe w6=>∃(x7:Int)(b8:Bool),e=Value.tuple #[x7,b8]/\Kp w w4 w6/\
 Br (x5<0)
 (R (11:Int) w6)
 (Br (!b8)
 (R (5:Int) w6)
 (ah 108 #[a2] w6 (Rb λb10 w9=>Kp w w6 w9/\
 Br (!b10)
 (R (1:Int) w9)
 (ah 74 #[a0,x5] w9 (λe aY=>∃(oF:Option Addr),e=oF/\Kp w w9 aY/\
 aP (dv oF) (aP (dv oF) (∃(Nx:Option Addr),ld aY.drew (af oF 0)=some (.pointer Nx)/\
 ah 140 #[Nx,.agg #[ak,ao,aw]] aY.drew (λe bP=>∃(cA:Int)(b16:Bool),e=Value.tuple #[cA,b16]/\Kp w aY.drew bP/\
 aP (dv oF) (aP (dv oF) (∃(WX:Bool),ld bP (af oF 1)=some (.bool WX)/\
 Br WX
 (aP (dv oF) (aP (dv oF) ((((af oF 1)).isSome=true/\Wr bP (af oF 1) 1)/\bD (af oF 1)≠some w.heap.size/\(∀dG,dG=aH bP (af oF 1) [.bool true]->
 aP (dv oF) (aP (dv oF) (∃(lE:Option Addr),ld dG.drew (af oF 0)=some (.pointer lE)/\
 ah 268 #[lE,.agg #[ak,ao,aw],a2] dG.drew (Ri λdh fx=>Kp w dG.drew fx/\
 R dh fx)))))))
 (aP (dv oF) (aP (dv oF) ((((af oF 1)).isSome=true/\Wr bP (af oF 1) 1)/\bD (af oF 1)≠some w.heap.size/\(∀dT,dT=aH bP (af oF 1) [.bool (cA !=a2)]->
 aP (dv oF) (aP (dv oF) (∃(S6:Option Addr),ld dT.drew (af oF 0)=some (.pointer S6)/\
 ah 268 #[S6,.agg #[ak,ao,aw],a2] dT.drew (Ri λdQ fZ=>Kp w dT.drew fZ/\
 R dQ fZ))))))))))))))))))))):ah 221 #[a0,.agg #[ak,ao,aw],a2] w R:=
 cq bV Tryz.func221 h
theorem vR.vc{a0:Addr}(h:
 Aw w #[ak,ao] 40 λw0=>
 ah 73 #[a0,.agg #[ak,ao]] w0 (Ri λx2 w1=>Kp w w0 w1/\
 Br (x2<0)
 (R (6:Int) w1)
 (∃(s3:Sl),ld w1 (af (some a0) 3)=some (.slice s3.a s3.n s3.c)/\
 eo s3.a x2 s3.n/\∃(p4:Option Addr),ld w1 (af s3.a ((x2:Int).toNat*1))=some (.pointer p4)/\
 aP (dv p4) (aP (dv p4) (∃(x5:Int),ld w1 (af p4 2)=some (.int .i64 x5)/\
 Br (x5>0)
 (R (10:Int) w1)
 (∃(s6:Sl),ld w1 (af (some a0) 3)=some (.slice s6.a s6.n s6.c)/\
 eo s6.a x2 s6.n/\∃(p7:Option Addr),ld w1 (af s6.a ((x2:Int).toNat*1))=some (.pointer p7)/\
 ah 79 #[a0,p7] w1 (Ri λx9 w8=>Kp w w1 w8/\
 Br (x9==0)
 (ah 80 #[a0,x2] w8 (λe bO=>∃(WB:Option Addr),e=WB/\Kp w w8 bO/\
 R x9 bO))
 (R x9 w8)))))))):ah 21 #[a0,.agg #[ak,ao]] w R:=
 cq bV Tryz.func21 h
theorem Ui.vc(h:
 ah 149 #[a2] w (λe w0=>∃(p1:Option Addr),e=p1/\
 Aw w0 #[p1,a0,.int .i64 (if 16<(if 1>a1 then 1 else a1) then 16 else (if 1>a1 then 1 else a1)),.slice none 0 0] 143 λw2=>
 R (Value.pointer (some ⟨w0,0,none⟩)) w2)):ah 96 #[a0,a1,a2] w R:=
 cq bV Tryz.func96 h
theorem X4.vc(h:
 Aw w #[aA,aq] 40 λw0=>
 Br (aA<(-524288))
 (R (Value.tuple #[aa,false]) w0)
 (Br (aA>=524288)
 (R (Value.tuple #[aa,false]) w0)
 (Br (aq<(-524288))
 (R (Value.tuple #[aa,false]) w0)
 (Br (aq>=524288)
 (R (Value.tuple #[aa,false]) w0)
 (R (Value.tuple #[(aj ((aj ((aj ((aj ((aj ((aj (aA+524288))*2))*524288))+aq))+524288))+1)),true]) w0))))):ah 72 #[.agg #[aA,aq]] w R:=
 cq bV Tryz.func72 h
theorem zZ.vc{a0:Addr}(h:
 Aw w #[ak,ao] 40 λw0=>
 ∃(s1:Sl),ld w0 (af (some a0) 3)=some (.slice s1.a s1.n s1.c)/\
 ah 129 #[s1,.func (.func 130) #[] #[w]] w0 (λe w2=>∃(x3:Int),e=x3/\
 R x3 w2)):ah 73 #[a0,.agg #[ak,ao]] w R:=
 cq bV Tryz.func73 h
theorem xR.vc{a0:Addr}(h:
 ah 80 #[a0,a1] w (λe w0=>∃(p1:Option Addr),e=p1/\
 ∃(s2:Sl),ld w0 (af (some a0) 3)=some (.slice s2.a s2.n s2.c)/\
 Aw w0 #[p1] 137 λw3=>
 ba 8 1 w3 s2 1 [.pointer p1]/\∀(s4:Sl)(w5:World),aV 137 1 w3 s2 1 [.pointer p1] s4 w5->Kp w0 w3 w5/\
 (true=true/\Wr w5 (af (some a0) 3) 1)/\bD (af (some a0) 3)≠some w0.heap.size/\(∀w6,w6=aH w5 (af (some a0) 3) [s4]->
 R p1 w6))):ah 74 #[a0,a1] w R:=
 cq bV Tryz.func74 h
theorem Aa.vc{a0:Addr}(h:
 ∃(s0:Sl),ld w.drew (af (some a0) 3)=some (.slice s0.a s0.n s0.c)/\
 ∃(x1:Int),ld w.drew (af (some a0) 2)=some (.int .i64 x1)/\
 Br (decide ((((s0.n:Nat):Int):Int)<x1))
 (R (0:Int) w.drew)
 (∃(s2:Sl),ld w.drew (af (some a0) 3)=some (.slice s2.a s2.n s2.c)/\
 ah 129 #[s2,.func (.func 131) #[] #[]] w.drew (λe w3=>∃(x4:Int),e=x4/\
 Br (x4<0)
 (R (8:Int) w3)
 (∃(s5:Sl),ld w3 (af (some a0) 3)=some (.slice s5.a s5.n s5.c)/\
 eo s5.a x4 s5.n/\∃(p6:Option Addr),ld w3 (af s5.a ((x4:Int).toNat*1))=some (.pointer p6)/\
 ah 79 #[a0,p6] w3 (λe w7=>∃(x8:Int),e=x8/\
 Br (x8==0)
 (ah 80 #[a0,x4] w7 (λe w9=>∃(Ih:Option Addr),e=Ih/\
 R x8 w9))
 (R x8 w7)))))):ah 75 #[a0] w R:=
 cq bV Tryz.func75 h
theorem Ab.vc{a0:Addr}(h:
 ah 132 #[a1] w (λe w0=>∃(b1:Bool),e=b1/\
 Br (!b1)
 (R (Value.tuple #[.slice none 0 0,aa,false]) w0)
 (ah 133 #[a0,a1] w0 (λe w2=>∃(x3 x4:Int)(s5:Sl),e=Value.agg #[x3,x4,s5]/\
 Aw w2 #[aa,aa,.slice none 0 0] 202 λw6=>
 Sw w6 w2 #[x3,x4,s5] λw7=>
 R (Value.tuple #[s5,x4,.bool (decide (x4>0))]) w7.drew)))):ah 76 #[a0,a1] w R:=
 cq bV Tryz.func76 h
theorem PM.vc{a1:Sl}(h:
 Aw w #[aA,aq] 40 λw0=>
 ah 134 #[a1,(8192:Int)] w0 (λe w1=>∃(s2:Sl)(x3:Int),e=Value.tuple #[s2,x3]/\Kp w w0 w1/\
 Br (x3 !=0)
 (R (Value.tuple #[.pointer none,x3]) w1)
 (ah 135 #[.agg #[aA,aq],s2] w1 (λe w4=>∃(p5:Option Addr)(x6:Int),e=Value.tuple #[p5,x6]/\Kp w w1 w4/\
 R (Value.tuple #[p5,x6]) w4)))):ah 77 #[.agg #[aA,aq],a1] w R:=
 cq bV Tryz.func77 h
theorem PN.vc(h:
 Aw w #[ak,ao] 40 λw0=>
 (ah 136 #[a0,.agg #[ak,ao]] w0.drew (Rs λs2 w1=>Kp w w0.drew w1/\
 Aw w1 #[ak,ao,s2] 175 λw3=>
 R (Value.pointer (some ⟨w1,0,none⟩)) w3))/\(ah 136 #[a0,.agg #[ak,ao]] w0.drew (Rs λs5 w4=>Kp w w0.drew w4/\
 ag w4 w 0 [ak,ao]/\Aw w4 #[ak,ao,s5] 175 λw6=>
 R (Value.pointer (some ⟨w4,0,none⟩)) w6))):ah 78 #[a0,.agg #[ak,ao]] w R:=
 cq bV Tryz.func78 h
theorem O8.vc(h:
 Aw w #[aA,aq,au] 41 λw0=>
 Aw w0 #[aa,aa] 40 λw1=>
 ah 192 #[aA,(16:Int)] w1.drew (Ri λx3 w2=>K2 w w0 w1.drew w2 (
 ag w2 (some ⟨w,2,none⟩) 0 [au]/\ah 192 #[au,(16:Int)] w2 (Ri λx5 w4=>K2 w w0 w2 w4 (
 Sw w4 w0 #[x3,x5] λw6=>
 R (Value.agg #[x3,x5]) w6))))):ah 139 #[.agg #[aA,aq,au]] w R:=
 cq bV Tryz.func139 h
theorem DZ.vc{a0:Addr}(h:
 Aw w #[ak,ao,aw] 41 λw0=>
 ∃(x1 x2:Int),ag w0.drew (af (some a0) 0) 0 [x1,x2]/\
 ah 193 #[.agg #[x1,x2],.agg #[ak,ao,aw]] w0.drew (λe w3=>∃(x4:Int)(b5:Bool),e=Value.tuple #[x4,b5]/\Kp w w0.drew w3/\
 Br (!b5)
 (R (Value.tuple #[aa,false]) w3)
 (∃(s6:Sl),ld w3 (af (some a0) 2)=some (.slice s6.a s6.n s6.c)/\
 ah 194 #[s6,x4] w3 (Ri λx8 w7=>Kp w w3 w7/\
 R (Value.tuple #[x8,true]) w7)))):ah 140 #[a0,.agg #[ak,ao,aw]] w R:=
 cq bV Tryz.func140 h
theorem xy.vc{a0:Addr}(h:
 Aw w #[ak,ao,aw] 41 λw0=>
 ∃(p1:Option Addr),ld w0 (af (some a0) 0)=some (.pointer p1)/\
 ah 37 #[p1] w0 (Rs λs3 w2=>Kp w w0 w2/\
 ah 139 #[.agg #[ak,ao,aw]] w2 (Ra2 λx5 x6 w4=>Kp w w2 w4/\
 ah 150 #[.agg #[x5,x6]] w4 (λe w7=>∃(x8 x9 bh bC bN cm bX cA cD cY:Int),e=Value.agg #[x8,x9,bh,bC,bN,cm,bX,cA,cD,cY]/\Kp w w4 w7/\
 ∃I18:Nat->Int->World->Prop,
 (∃n19,aO [ak,ao,aw]/\I18 n19 (0) w7)/\
 ∀(n19:Nat)(aqB:Nat->Value)(dh:Int)(dT:World),I18 n19 dh dT->
 Br (dh<5)
 (((0:Int)<=dh/\dh<((5:Nat):Int))/\∃(eE dQ:Int),(([x8,x9,bh,bC,bN,cm,bX,cA,cD,cY]:LV).drop ((dh:Int).toNat*2)).take 2=[.int .i64 eE,.int .i64 dQ]/\
 Aw dT #[aa,aa] 40 λfi=>
 Sw fi dT #[eE,dQ] λeH=>
 ah 151 #[s3,.agg #[eE,dQ]] eH (Rb λb29 gN=>K2 w dT eH gN (
 Br (!b29)
 (R false gN)
 (∃n23,n23<n19/\aO [ak,ao,aw]/\I18 n23 ((aj (dh+1))) gN))))
 (R true dT))))):ah 100 #[a0,.agg #[ak,ao,aw]] w R:=
 cq ⟨[(3,⟨[(16,.int .i64)],[],[]⟩)],[],[]⟩ Tryz.func100 h
theorem Lk.vc(h:
 R (Value.bool (a0==3)) w):ah 243 #[a0] w R:=
 cq bV Tryz.func243 h
theorem Ll.vc(h:
 Br (a0==(-1))
 (Br (a0==(-1))
 (R true w)
 (R false w))
 (Br (a0==1)
 (Br (a0==1)
 (R true w)
 (R false w))
 (Br (a0==2)
 (Br (a0==2)
 (R true w)
 (R false w))
 (Br (a0==3)
 (Br (a0==3)
 (R true w)
 (R false w))
 (Br (a0==5)
 (R true w)
 (R false w)))))):ah 103 #[a0] w R:=
 cq bV Tryz.func103 h
theorem Uj.vc(h:
 Aw w #[aA,aq] 40 λw0=>
 Aw w0 #[aa,aa] 40 λw1=>
 ah 10 #[aA,(5:Int)] w1.drew (Ri λx3 w2=>K2 w w0 w1.drew w2 (
 ag w2 (some ⟨w,1,none⟩) 0 [aq]/\ah 10 #[aq,(5:Int)] w2 (Ri λx5 w4=>K2 w w0 w2 w4 (
 Sw w4 w0 #[(aj (x3-2)),(aj (x5-2))] λw6=>
 R (Value.agg #[(aj (x3-2)),(aj (x5-2))]) w6))))):ah 51 #[.agg #[aA,aq]] w R:=
 cq bV Tryz.func51 h
theorem Lm.vc(h:
 Br (a0==(-1))
 (R true w)
 (Br (a0==1)
 (R true w)
 (Br (a0==2)
 (R true w)
 (Br (a0==3)
 (R true w)
 (R (Value.bool (a0==5)) w))))):ah 114 #[a0] w R:=
 cq bV Tryz.func114 h
end Go.Proofs.YtkkkfkopcfdmaaaGreatDoor
