import Derived.Test.YtkkkfkopcfdmaaaGreatDoorB
import Derived.Lib.Overlaps
import Derived.Deep.SlicePairs
import Derived.ProofKit
import Derived.Test.YtkkkfkopcfdmaaaGreatDoorChecked
import Derived.KernelRfl
set_option linter.all false
namespace Go.Vc
open Go Go.RowKit
abbrev Ext (w w':World):Prop:=Below w w w'
theorem Ext.cQ (w:World):Ext w w:=Below.refl _ _
theorem Ext.tr {a b c:World} (h:Ext a b) (k:Ext b c):Ext a c:=Below.trans h (Below.mono k h.size)
theorem Ext.al (w:World) (o:Obj):Ext w (w.alloc o):=(Below.refl _ w).alloc (aB _) o
theorem Ext.dr (w:World):Ext w w.drew:=(Below.refl _ w).drew
theorem Ext.bB {a b c:World} {o:Obj} (h:Ext a b) (e:c=b.alloc o):Ext a c:=by subst e;exact h.tr (Ext.al _ _)
theorem aL {b c:World} {o:Obj} (e:c=b.alloc o):Ext b c:=(Ext.cQ _).bB e
theorem Ext.drew {a b:World} (h:Ext a b):Ext a b.drew:=h.tr (Ext.dr _)
theorem setRow_other (w:World) (g j:Nat) (cs:Array Value) (h:j≠g):(w.setRow g cs).heap[j]? =w.heap[j]? :=by simp only [World.setRow,Array.getElem?_modify,if_neg (Ne.symm h)]
theorem setRow_size (w:World) (g:Nat) (cs:Array Value):(w.setRow g cs).heap.size=w.heap.size:=by simp [World.setRow]
theorem Ext.setRow {a b:World} (h:Ext a b) {g:Nat} (hg:a.heap.size<=g) (cs:Array Value):Ext a (b.setRow g cs):=
 ⟨h.os,h.tape,h.output,by rw [setRow_size];exact h.size,λk hk=>by rw [setRow_other _ _ _ _ aa];exact h.block k hk⟩
theorem Ext.af {a b c:World} {g:Nat} {cs:Array Value} (h:Ext a b) (e:c=b.setRow g cs) (hg:a.heap.size<=g):Ext a c:=by subst e;exact h.setRow hg cs
theorem RY {w:World} {a:Addr} {v:Value} (h:w.cell? a=some v):a.block<w:=by
 unfold World.cell? at h;split at h
 ·rename_i hb;exact (rI.1 hb).1
 ·cases h
theorem Ext.ld {w w':World} (h:Ext w w') {p:Option Addr} {v:Value} (hl:ld w p=some v):ld w' p=some v:=by
 cases p with
 |none=>simp [Vc.ld] at hl
 |some a=>
  have hl':w.cell? a=some v:=hl;show w'.cell? a=some v;rw [Below.cell h (RY hl')];exact hl'
theorem Ext.heap {w w':World} (h:Ext w w') {i:Nat} (hi:i<w):w'.heap[i]? =w.heap[i]? :=h.block i hi
theorem Ext.k {w w':World} (h:Ext w w') {i:Nat} (hi:i<w.heap.size:=by omega):w'.heap[i]? =w.heap[i]? :=h.block i hi
theorem de (p:Option Addr) (m n:Nat):ae (ae p m) n=ae p (m+n):=by
 cases p with
 |none=>rfl
 |some a=>
  simp only [ae,Option.map_some,Option.some.injEq,Addr.add];by_cases hm:m=0
  ·subst hm;simp
  ·by_cases hn:n=0
   ·subst hn;simp [hm]
   ·simp [hm,hn,Nat.add_assoc]
@[simp] theorem fL (p:Option Addr) (n:Nat):(ae p n).isSome=p.isSome:=by cases p<;>rfl
theorem cY (p:Option Addr) (n:Nat):bC (ae p n)=bC p:=by
 cases p with
 |none=>rfl
 |some a=>simp only [ae,bC,Option.map_some,Addr.add];split<;>rfl
def Row (w:World) (g:Nat) (cs:LV) (t:TypeId):Prop:=w.heap[g]? =some (.cells cs.toArray t (0,0))
theorem Row.new (w:World) (cs:LV) (t:TypeId):Row (w.alloc (.cells cs.toArray t)) w.heap.size cs t:=by show (w.heap.push _)[w.heap.size]? =_;simp
theorem Row.lt {w:World} {g:Nat} {cs:LV} {t:TypeId} (h:Row w g cs t):g<w:=(rI.1 h).1
theorem Row.ext {w w':World} {g:Nat} {cs:LV} {t:TypeId} (h:Row w g cs t) (he:Ext w w'):Row w' g cs t:=(he.heap h.lt).trans h
theorem Row.same {w w':World} {g:Nat} {cs:LV} {t:TypeId} (h:Row w g cs t) (he:w'.heap[g]? =w.heap[g]?):Row w' g cs t:=he.trans h
theorem Row.set {w:World} {g:Nat} {cs:LV} {t:TypeId} (h:Row w g cs t) (cs':LV):Row (w.setRow g cs'.toArray) g cs' t:=setRow_heap _ _ _ _ _ _ h
theorem Row.so {w w':World} {g j:Nat} {cs:List Value} {t:TypeId} {c:Array Value} (h:Row w g cs t) (e:w'=w.setRow j c) (hn:g≠j:=by omega):Row w' g cs t:=h.same (by rw [e];exact setRow_other _ _ _ _ hn)
theorem Row.nw {w w':World} {l:List Value} {t:TypeId} (e:w'=w.alloc (.cells l.toArray t)):Row w' w.heap.size l t:=by rw [e];exact Row.new _ _ _
theorem Row.st {w w':World} {g:Nat} {l cs:List Value} {t:TypeId} (h:Row w g cs t) (e:w'=w.setRow g l.toArray):Row w' g l t:=by rw [e];exact h.set _
theorem Row.ld {w:World} {g:Nat} {cs:LV} {t:TypeId} (h:Row w g cs t) (j:Nat):ld w (some ⟨g,j,none⟩)=cs[j]? :=by simp [Vc.ld,World.cell?,show w.heap[g]? =_ from h]
theorem bh (g o j:Nat):ae (some ⟨g,o,none⟩) j=some ⟨g,o+j,none⟩:=by simp [ae,mJ]
theorem Row.wr {w:World} {g:Nat} {cs:LV} {t:TypeId} (h:Row w g cs t) {o n:Nat} (hn:o+n<=cs.length):Wr w (some ⟨g,o,none⟩) n:=by
 intro i hi;refine ⟨_,rfl,?_,?_⟩
 ·rw [mJ];simp [World.cell?,show w.heap[g]? =_ from h];omega
 ·rw [mJ];exact Th h _
theorem Row.bY {w:World} {g:Nat} {cs:LV} {t:TypeId} (h:Row w g cs t) {o:Nat} {vs:LV} (hv:∀j,j<vs.length->cs[o+j]? =vs[j]?):ag w (some ⟨g,o,none⟩) 0 vs:=
 lR λj hj=>by rw [bh,h.ld];simpa using hv j hj
theorem Row.aG {w:World} {g:Nat} {cs:LV} {t:TypeId} (h:Row w g cs t) {o:Nat} {vs:LV} (hl:o+vs.length<=cs.length) (h1:One vs):
  aG w (some ⟨g,o,none⟩) vs=w.setRow g (aR cs o vs).toArray:=by
 have e1:=fZ (P:=default) ⟨g,o,none⟩ vs 0 w h1 (λj hj=>by
  obtain ⟨a,e,q⟩:=h.wr hl j hj
  cases e;simpa using q)
 have e2:=run_storeCells_at default g o t vs 0 cs.toArray w h (by simpa using hl) h1;rw [e1] at e2;injection e2 with _ e3;show pG w _ 0 vs=_;rw [e3,dn _ _ _ hl];simp
inductive Own (B E size:Nat) (w:World):Sl->LV->Prop
 |nil:Own B E size w ⟨none,0,0⟩ []
 |row (g n c:Nat) (cs:LV) (hg:B<=g) (hr:Row w g cs E) (hc:c*size<=cs.length) (hn:n<=c):Own B E size w ⟨some ⟨g,0,none⟩,n,c⟩ (cs.take (n*size))
def Sl.aY (s:Sl):Option Nat:=s.a.map (·.block)
theorem Own.len {B E size:Nat} {w:World} {s:Sl} {xs:LV} (h:Own B E size w s xs):xs.length=s.n*size:=by
 cases h with
 |nil=>simp
 |row g n c cs hg hr hc hn=>
  have:n*size<=c*size:=Nat.mul_le_mul_right _ hn;rw [dC];show min (n*size) _=n*size;omega
theorem Own.rd {B E size:Nat} {w:World} {s:Sl} {xs:LV} (h:Own B E size w s xs):Rd w s.a xs:=by
 cases h with
 |nil=>intro i v hi;simp at hi
 |row g n c cs hg hr hc hn=>
  intro i v hi;rw [bh,hr.ld];rw [List.getElem?_take] at hi;split at hi
  ·simpa using hi
  ·cases hi
theorem Own.c9 {B E size:Nat} {w w':World} {s:Sl} {xs:LV} (h:Own B E size w s xs) (hk:∀g,s.aY=some g->w'.heap[g]? =w.heap[g]?):Own B E size w' s xs:=by
 cases h with
 |nil=>exact .nil
 |row g n c cs hg hr hc hn=>exact .row g n c cs hg (hr.same (hk g rfl)) hc hn
theorem Own.ext {B E size:Nat} {w w':World} {s:Sl} {xs:LV} (h:Own B E size w s xs) (he:Ext w w'):Own B E size w' s xs:=by
 cases h with
 |nil=>exact .nil
 |row g n c cs hg hr hc hn=>exact .row g n c cs hg (hr.ext he) hc hn
theorem Own.lt {B E size:Nat} {w:World} {s:Sl} {xs:LV} (h:Own B E size w s xs) {g:Nat} (hg:s.aY=some g):B<=g/\g<w:=by
 cases h with
 |nil=>cases hg
 |row g' n c cs hg' hr hc hn=>cases hg;exact ⟨hg',hr.lt⟩
theorem Own.append {B E size bytes:Nat} {w:World} {s:Sl} {xs:LV} (h:Own B E size w s xs) {m:Nat} {news:LV} (hB:B<=w) (hl:news.length=m*size) (h1:One news)
  (hb:(s.n+m)*bytes<=140737488355328) (hb':s.n+m<=9223372036854775807):
  ba bytes size w s m news/\∀(s':Sl) (w':World),aV E size w s m news s' w'->
   Own B E size w' s' (xs++news)/\s'.n=s.n+m/\Below B w w'/\(∀j,s.aY≠some j->j<w.heap.size->w'.heap[j]? =w.heap[j]?)/\(s'.aY=s.aY\/s'.aY=some w.heap.size):=by
 refine ⟨⟨λhf=> ?_,λhg=>⟨xs,h.len,h.rd⟩,λhg=>⟨growslice_fits hg hb,by omega⟩,hl,h1⟩,?_⟩
 ·cases h with
  |nil=>
   have:m=0:=by simp at hf;omega
   subst this;intro i hi;omega
  |row g n c cs hg hr hc hn=>
   rw [bh];refine hr.wr ?_;have:(n+m)*size<=c*size:=Nat.mul_le_mul_right _ hf;rw [Nat.add_mul] at this;simp;omega
 ·intro s' w' bo
  cases bo with
  |fits hf=>
   cases h with
   |nil=>
    have:m=0:=by simp at hf;omega
    subst this;have:news=[]:=List.length_eq_zero_iff.1 aa;subst this;exact ⟨.nil,rfl,Below.refl _ _,λ_ _ _=>rfl,.inl rfl⟩
   |row g n c cs hg hr hc hn=>
    have hle:n*size+news.length<=cs.length:=by have:(n+m)*size<=c*size:=Nat.mul_le_mul_right _ hf;rw [Nat.add_mul] at this;omega
    rw [bh,eB,hr.aG hle h1];have hr':=hr.set (aR cs (n*size) news);have e:cs.take (n*size)++news=(aR cs (n*size) news).take ((n+m)*size):=by
     have e0:(n+m)*size=n*size+news.length:=by rw [Nat.add_mul,hl]
     rw [dn _ _ _ hle,e0];exact ((List.take_append_of_le_length (by simp;omega)).trans (fB (by simp;omega))).symm
    refine ⟨?_,rfl,⟨rfl,rfl,rfl,by rw [setRow_size];exact aB _,λk hk=>setRow_other _ _ _ _ aa⟩,λj hj _=>setRow_other _ _ _ _ (λe=>hj (by rw [e];rfl)),.inl rfl⟩;rw [e];exact .row g (n+m) c _ hg hr' (by rw [dt];exact hc) hf
  |AL hg fz rest cap e1 e2 e3 e4=>
   have ho:fz=xs:=by
    have ic:=h.rd;have dG:=h.len;apply iX;intro i;rcases Nat.lt_or_ge i xs.length with hi|hi
    ·have h1:=ic i xs[i] (c8 hi);have hi':i<fz.length:=by omega
     have h2:=e2 i fz[i] (c8 hi');rw [h1] at h2;rw [c8 hi,c8 hi'];exact h2.symm
    ·rw [jt hi,jt aa]
   subst ho;have JA:=Row.new w.drew (fz++news++rest) E;have dG:=h.len;refine ⟨?_,rfl,?_,λj _ hj=>Below.heap_alloc _ _ _ hj,.inr rfl⟩
   ·have e:fz++news=(fz++news++rest).take ((s.n+m)*size):=by
     have e0:(s.n+m)*size=fz.length+news.length:=by rw [Nat.add_mul,hl,e1]
     rw [e0];exact ((List.take_append_of_le_length bt).trans (fB bt)).symm
    conv=>rhs;rw [e]
    exact .row w.heap.size (s.n+m) cap _ hB JA (Nat.le_of_eq e4.symm) e3
   ·exact (Below.refl B w).drew.alloc hB _
theorem K0 {P:Program} {pre:Prop} (hP:BI P) (hm:P.follows .mixedOrders=true) {f:FuncId} {fn:Func} {an:Ann} {args:LV} {w:World} {R:Ending->World->Prop} (hf:P.funcs[f]? =some fn)
  (h:pre) (e:pre=ab8 P an fn args w R):Calls P f args.toArray w R:=LR hP hm hf (e▸h)
def ngB (P:Program):Bool:=P.funcs.toList.all λfn=>fn.name != "runtime.NumGoroutine"
theorem afD {P:Program} (h:ngB P=true):BI P:=λf fn hf he=>by
 have:=List.all_eq_true.1 h fn (by have:=Array.mem_of_getElem? hf;simpa using this)
 simp [he] at this
def bS (n:Int):Prop:= -9223372036854775808<=n/\n<=9223372036854775807
theorem aK {n:Int} (h:bS n):aj n=n:=by unfold bS at h;unfold IntKind.wrap;simp only [IntKind.bits,IntKind.signed];simp only [Bool.true_and];split<;>simp_all<;>omega
theorem wI {n:Int} (h:bS n:=by unfold bS;omega):IntKind.wrap .i64 n=n:=aK h
theorem mh {j:Nat} (h:bS ((j:Int)+1):=by unfold bS;omega):IntKind.wrap .i64 ((j:Int)+1)=((j+1:Nat):Int):=by rw [aK h];omega
theorem YF (n:Int):bS (aj n):=by unfold bS IntKind.wrap;simp only [IntKind.bits,IntKind.signed];simp only [Bool.true_and];split<;>simp_all<;>omega
def PX {H:Type}:DataW H->Value
 | .lit (.int k n)=> .int k n
 | .lit (.bool b)=> .bool b
 | .lit (.string bs)=> .string ⟨bs.toArray⟩
 |_=> .bool false
def YI {H:Type}:DataW H->LV
 | .agg l=>l.flatMap fun
   | .agg m=>m.map PX
   |d=> [PX d]
 |d=> [PX d]
def layAll (P:Program) (l:List (String × DataW Unit)) (w:World):World:=
 {w with heap:=l.foldl (λh x=>match P.globalNamed x.1 with
   |some g=>h.modify g fun
    | .cells _ t frozen=> .cells (YI x.2).toArray t frozen
    |o=>o
   |none=>h) w.heap}
end Go.Vc
namespace Go.Vc
open Go Go.RowKit
structure RdK (w:World) (s:Sl) (k:Nat) (rows:List (LV)):Prop where
 n:s.n=rows.length
 wd:∀r ∈ rows,r.length=k
 rd:∀i r,rows[i]? =some r->∀j v,r[j]? =some v->ld w (ae s.a (i*k+j))=some v
theorem RdK.ext {w w':World} {s:Sl} {k:Nat} {rows:List (LV)} (h:RdK w s k rows) (he:Ext w w'):RdK w' s k rows:=
 ⟨h.n,h.wd,λi r hi j v hj=>he.ld (h.rd i r hi j v hj)⟩
theorem RdK.isSome {w:World} {s:Sl} {k:Nat} {rows:List (LV)} (h:RdK w s k rows) (hk:0<k) {i:Nat} (hi:i<rows.length):s.a.isSome=true:=by
 have hr:rows[i]? =some rows[i]:=c8 hi;have hl:=h.wd _ (List.getElem_mem hi);have h0:rows[i][0]? =some (rows[i][0]'aa):=c8 aa;have:=h.rd i _ hr 0 _ h0
 cases hs:s.a with
 |none=>rw [hs] at this;simp [ld,ae] at this
 |some a=>rfl
theorem RdK.gR {w:World} {s:Sl} {k:Nat} {rows:List (LV)} (h:RdK w s k rows) (hk:0<k) {i:Int} (h0:0<=i) (h1:i<(s.n:Int)):ee s.a i s.n:=
 ⟨h.isSome hk (i:=i.toNat) (by have:=h.n;omega),h0,h1⟩
theorem RdK.at {w:World} {s:Sl} {k:Nat} {rows:List (LV)} (h:RdK w s k rows) {i:Nat} {r:LV} (hi:rows[i]? =some r) {j:Nat} {v:Value} (hj:r[j]? =some v):ld w (ae (ae s.a (i*k)) j)=some v:=by rw [de];exact h.rd i r hi j v hj
theorem Da {w:World} {p:Option Addr}:∀{vs:LV} {i:Nat},(∀j v,vs[j]? =some v->ld w (ae p (i+j))=some v)->ag w p i vs
 | [],_,_=>trivial
 | [v],i,h=>by have:=h 0 v rfl;simpa [ag] using this
 |v::u::r,i,h=>⟨by have:=h 0 v rfl;simpa using this,Da (i:=i+1) λj x hj=>by
  have:=h (j+1) x (by simpa using hj)
  rwa [show i+(j+1)=i+1+j from by omega] at this⟩
theorem RdK.bY {w:World} {s:Sl} {k:Nat} {rows:List (LV)} (h:RdK w s k rows) {i:Nat} {r:LV} (hi:rows[i]? =some r):ag w (ae s.a (i*k)) 0 r:=
 Da λj v hj=>by rw [eB];exact h.at hi hj
theorem tk {k:Nat}:∀{rows:List (LV)},(∀r ∈ rows,r.length=k)->∀{i:Nat} {r:LV},rows[i]? =some r->∀{j:Nat},j<k->rows.flatten[i*k+j]? =r[j]?
 | [],_,i,r,hi,j,_=>by simp at hi
 |a::rows,h,0,r,hi,j,hj=>by
  simp at hi;subst hi
  have:=h a (.head _)
  rw [ki,nE aa]
  simp
 |a::rows,h,i+1,r,hi,j,hj=>by
  have ha:=h a (.head _)
  rw [ki,oK (by rw [ha,Nat.succ_mul];omega)]
  rw [show (i+1)*k+j-a.length=i*k+j from by rw [ha,Nat.succ_mul];omega]
  exact tk (λr hr=>h r (.tail _ hr)) (by simpa using hi) hj
theorem bM {k:Nat}:∀{rows:List (LV)},(∀r ∈ rows,r.length=k)->rows.flatten.length=rows.length*k
 | [],_=>by simp
 |a::rows,h=>by rw [ki,dc,bM (λr hr=>h r (.tail _ hr)),h a (.head _),dv,Nat.succ_mul,Nat.add_comm]
structure aC (B E k:Nat) (w:World) (s:Sl) (rows:List (LV)):Prop where
 own:Own B E k w s rows.flatten
 wd:∀r ∈ rows,r.length=k
theorem aC.rd {B E k:Nat} {w:World} {s:Sl} {rows:List (LV)} (h:aC B E k w s rows) (hk:0<k):RdK w s k rows:=by
 refine ⟨?_,h.wd,λi r hi j v hj=> ?_⟩
 ·have h1:=h.own.len;rw [bM h.wd] at h1;exact (Nat.eq_of_mul_eq_mul_right hk h1).symm
 ·have hl:=h.wd r (aZ hi);have QK:j<k:=by rw [<-hl];exact (cR.1 hj).1
  exact h.own.rd _ _ ((tk h.wd hi QK).trans hj)
theorem aC.nil {B E k:Nat} {w:World}:aC B E k w ⟨none,0,0⟩ []:=⟨.nil,λ_ h=>by cases h⟩
theorem aC.ext {B E k:Nat} {w w':World} {s:Sl} {rows:List (LV)} (h:aC B E k w s rows) (he:Ext w w'):aC B E k w' s rows:=⟨h.own.ext he,h.wd⟩
theorem aC.c9 {B E k:Nat} {w w':World} {s:Sl} {rows:List (LV)} (h:aC B E k w s rows) (hk:∀g,s.aY=some g->w'.heap[g]? =w.heap[g]?):aC B E k w' s rows:=⟨h.own.c9 hk,h.wd⟩
theorem aC.low {B B' E k:Nat} {w:World} {s:Sl} {rows:List (LV)} (h:aC B E k w s rows) (hb:B'<=B):aC B' E k w s rows:=by
 refine ⟨?_,h.wd⟩;have ho:=h.own;generalize rows.flatten=xs at ho
 cases ho with
 |nil=>exact .nil
 |row g n c cs hg hr hc hn=>exact .row g n c cs aa hr hc hn
theorem aC.append {B E k bytes:Nat} {w:World} {s:Sl} {rows:List (LV)} (h:aC B E k w s rows) {news:LV} (hB:B<=w) (hl:news.length=k) (h1:One news)
  (hb:(s.n+1)*bytes<=140737488355328) (hb':s.n+1<=9223372036854775807):
  ba bytes k w s 1 news/\∀(s':Sl) (w':World),aV E k w s 1 news s' w'->
   aC B E k w' s' (rows++ [news])/\s'.n=s.n+1/\Below B w w'/\(∀j,s.aY≠some j->j<w.heap.size->w'.heap[j]? =w.heap[j]?)/\(s'.aY=s.aY\/s'.aY=some w.heap.size):=by
 obtain ⟨hp,hr⟩:=h.own.append (bytes:=bytes) (m:=1) (news:=news) hB (by rw [hl,Nat.one_mul]) h1 hb hb';refine ⟨hp,λs' w' bo=> ?_⟩;obtain ⟨ho,hn,hx,hk,JB⟩:=hr s' w' bo;refine ⟨⟨by rw [List.flatten_append];simpa using ho,λr hr=> ?_⟩,hn,hx,hk,JB⟩;rcases dR.1 hr with hr|hr
 ·exact h.wd r hr
 ·simp at hr;rw [hr];exact hl
theorem Own.set {B E size:Nat} {w:World} {s:Sl} {xs:LV} (h:Own B E size w s xs) {m:Nat} {v:Value} (hm:m<xs.length) (hv:v.oneCell'=true):
  (ae s.a m).isSome=true/\Wr w (ae s.a m) 1/\Own B E size (aG w (ae s.a m) [v]) s (xs.set m v)/\(∀j,s.aY≠some j->(aG w (ae s.a m) [v]).heap[j]? =w.heap[j]?):=by
 cases h with
 |nil=>simp at hm
 |row g n c cs hg hr hc hn=>
  rw [dC] at hm;rw [bh];have h1:One [v]:=by intro u hu;simp at hu;subst hu;exact hv
  have hs:=hr.aG (o:=0+m) (vs:=[v]) (by simp;omega) h1;refine ⟨rfl,hr.wr aa,?_,λj hj=> ?_⟩
  ·rw [<-List.take_set];rw [hs];refine .row g n c _ hg ?_ (by simpa using hc) hn;have e:aR cs (0+m) [v]=cs.set m v:=by simp [aR]
   rw [e];exact hr.set (cs.set m v)
  ·rw [hs];exact setRow_other _ _ _ _ (λe=>hj (by rw [e];rfl))
end Go.Vc
namespace Go.Vc
open Go Go.RowKit
theorem Below.aG {B:Nat} {a b:World} (h:Below B a b) {p:Option Addr} {vs:LV} (hp:∀x,p=some x->B<=x.block):Below B a (aG b p vs):=by
 cases p with
 |none=>exact h
 |some x=>
  have hx:=hp x rfl;show Below B a (pG b x 0 vs);have key:∀(vs:LV) (i:Nat) (b:World),Below B a b->Below B a (pG b x i vs):=by
   intro vs
   induction vs with
   |nil=>intro i b h;exact h
   |cons v r ih=>
    intro i b h;refine ih _ _ (Below.setCell h ?_ _);unfold Addr.add;split<;>exact hx
  exact key vs 0 b h
theorem te (k:IntKind) (a:Int):One [.int k a]:=by intro v hv;simp at hv;subst hv;rfl
theorem zh (k k':IntKind) (a b:Int):One [.int k a,.int k' b]:=by intro v hv;simp at hv;rcases hv with rfl|rfl<;>rfl
theorem aC.iN {B E k bytes:Nat} {w:World} {s:Sl} {rows:List (LV)} (h:aC B E k w s rows) {news:LV} (o:Obj) (hB:B<=w) (hl:news.length=k) (h1:One news)
  (hb:(s.n+1)*bytes<=140737488355328) (hb':s.n+1<=9223372036854775807):
  ba bytes k (w.alloc o) s 1 news/\∀(s':Sl) (w':World),aV E k (w.alloc o) s 1 news s' w'->
   w'.heap[w.heap.size]? =(w.alloc o).heap[w.heap.size]?/\aC B E k w' s' (rows++ [news])/\s'.n=s.n+1/\Below B w w'/\(∀j,s.aY≠some j->j<w.heap.size->w'.heap[j]? =w.heap[j]?)/\(s'.aY=s.aY\/s'.aY=some (w.heap.size+1)):=by
 have xa:=Ext.al w o;obtain ⟨hp,hr⟩:=(h.ext xa).append (bytes:=bytes) (news:=news) (fY hB xa.size) hl h1 hb hb';refine ⟨hp,λs' w' bo=> ?_⟩;obtain ⟨ho,hn,hx,hk,JB⟩:=hr s' w' bo;have hz:(w.alloc o).heap.size=w.heap.size+1:=by simp
 refine ⟨hk _ (λhb=>absurd (h.own.lt hb).2 (Nat.lt_irrefl _)) bt,ho,hn,(Below.mono xa hB).trans hx,λj hj gW=> ?_,by rw [<-hz];exact JB⟩;rw [hk j hj aa];exact xa.heap gW
theorem aC.set {B E k:Nat} {w:World} {s:Sl} {rows:List (List Value)} (h:aC B E k w s rows) {i j:Nat} {r:List Value} {v:Value} (hi:rows[i]? =some r) (hj:j<k) (hv:v.oneCell'=true) (hB:B<=w.heap.size):
  (ae (ae s.a (i*k)) j).isSome=true/\Wr w (ae (ae s.a (i*k)) j) 1/\aC B E k (aG w (ae (ae s.a (i*k)) j) [v]) s (rows.set i (r.set j v))/\
   Below B w (aG w (ae (ae s.a (i*k)) j) [v])/\(∀m,s.aY≠some m->(aG w (ae (ae s.a (i*k)) j) [v]).heap[m]? =w.heap[m]?):=by
 have dG:=bM h.wd;have MR:i<rows.length:=(List.getElem?_eq_some_iff.1 hi).1;have hm:i*k+j<rows.flatten.length:=by rw [dG];have:(i+1)*k<=rows.length*k:=Nat.mul_le_mul_right _ MR;rw [Nat.succ_mul] at this;omega
 obtain ⟨h1,h2,h3,h4⟩:=h.own.set (v:=v) hm hv;rw [de];refine ⟨h1,h2,⟨?_,λq hq=> ?_⟩,?_,h4⟩
 ·have e:(rows.set i (r.set j v)).flatten=rows.flatten.set (i*k+j) v:=by
   have hw:=h.wd;clear h h1 h2 h3 h4 hm dG hv
   induction rows generalizing i with
   |nil=>simp at hi
   |cons a rows ih=>
    have ha:=hw a (.head _)
    cases i with
    |zero=>
     simp at hi;subst hi;simp only [List.set_cons_zero,List.flatten_cons,Nat.zero_mul,Nat.zero_add];rw [List.set_append_left _ _ (by omega)]
    |succ i=>
     simp only [List.set_cons_succ,List.flatten_cons];rw [List.set_append_right _ _ (by rw [ha,Nat.succ_mul];omega),show (i+1)*k+j-a.length=i*k+j from by rw [ha,Nat.succ_mul];omega];rw [ih (by simpa using hi) (by simpa using MR) (λr hr=>hw r (.tail _ hr))]
  rw [e];exact h3
 ·rcases List.mem_or_eq_of_mem_set hq with hq|rfl
  ·exact h.wd q hq
  ·rw [List.length_set];exact h.wd r (List.mem_of_getElem? hi)
 ·refine Below.aG (Below.refl _ _) λx hx=> ?_
  have ho:=h.own;generalize rows.flatten=xs at ho
  cases ho with
  |nil=>simp [ae] at hx
  |row g n c cs hg hr hc hn=>simp [ae,mJ] at hx;subst hx;exact hg
end Go.Vc
namespace Go.Vc
open Go Go.RowKit
theorem oP {E size:Nat} {w w':World} {a:Option Addr} {n:Nat} {news:LV} {s':Sl} (h:aV E size w ⟨a,0,0⟩ n news s' w') (hl:news.length=n*size) {j:Nat} (hj:j<w):w'.heap[j]? =w.heap[j]? :=by
 cases h with
 |fits hf=>
  have:n=0:=by simp at hf;omega
  subst this;have:news=[]:=List.eq_nil_of_length_eq_zero aa;subst this
  cases hp:ae a (0*size) with
  |none=>simp [hp,Go.Vc.aG]
  |some x=>simp only [hp,Go.Vc.aG];rfl
 |AL hf fz rest cap h1 h2 h3 h4=>exact ((Ext.dr w).tr (Ext.al _ _)).heap hj
theorem RdK.flat {w:World} {s:Sl} {k:Nat} {rows:List (LV)} (h:RdK w s k rows) (hk:0<k):Rd w s.a rows.flatten:=by
 intro i v hi;have MR:i<rows.flatten.length:=(cR.1 hi).1;rw [bM h.wd] at MR;have hik:i / k<rows.length:=Nat.div_lt_of_lt_mul (by rw [Nat.mul_comm];exact MR);have hr:rows[i / k]? =some rows[i / k]:=c8 hik;have hm:i % k<k:=Nat.mod_lt _ hk;have e:i / k*k+i % k=i:=by rw [Nat.mul_comm];exact Nat.div_add_mod i k
 have:=tk h.wd hr hm;rw [e,hi] at this;have:=h.rd _ _ hr _ v this.symm;rwa [e] at this
theorem fK {rows:List (LV)} (h:∀r ∈ rows,One r):One rows.flatten:=by intro v hv;obtain ⟨r,hr,hvr⟩:=List.mem_flatten.1 hv;exact h r hr v hvr
end Go.Vc
namespace Go.Vc
open Go Go.RowKit
theorem uX:∀(vs cs:LV) (off N:Nat),(aR cs off vs).take N=aR (cs.take N) off vs
 | [],_,_,_=>rfl
 |v::r,cs,off,N=>by
  show (aR (cs.set off v) (off+1) r).take N=aR ((cs.take N).set off v) (off+1) r
  rw [uX,List.take_set]
theorem kj (a:LV):∀(vs b:LV) (o:Nat),aR (a++b) (a.length+o) vs=a++aR b o vs
 | [],_,_=>rfl
 |v::r,b,o=>by
  show aR ((a++b).set (a.length+o) v) (a.length+o+1) r=a++aR (b.set o v) (o+1) r
  rw [List.set_append_right _ _ aa,Nat.add_sub_cancel_left,Nat.add_assoc]
  exact kj a r _ _
theorem Own.put {B E size:Nat} {w:World} {s:Sl} {xs:LV} (h:Own B E size w s xs) {m:Nat} {vs:LV} (hm:m+vs.length<=xs.length) (hx:0<xs.length) (hv:One vs):
  (ae s.a m).isSome=true/\Wr w (ae s.a m) vs.length/\Own B E size (aG w (ae s.a m) vs) s (aR xs m vs)/\(∀j,s.aY≠some j->(aG w (ae s.a m) vs).heap[j]? =w.heap[j]?):=by
 cases h with
 |nil=>simp at hx
 |row g n c cs hg hr hc hn=>
  rw [dC] at hm;rw [bh];have hs:=hr.aG (o:=0+m) (vs:=vs) aa hv;refine ⟨rfl,hr.wr aa,?_,λj hj=> ?_⟩
  ·rw [<-uX,hs,eB];exact .row g n c _ hg (hr.set _) (by rw [Go.Vc.dt];exact hc) hn
  ·rw [hs];exact setRow_other _ _ _ _ (λe=>hj (by rw [e];rfl))
theorem aC.put {B E k:Nat} {w:World} {s:Sl} {rows:List (List Value)} (h:aC B E k w s rows) {i:Nat} {r:List Value} (hi:i<rows.length) (hk:0<k) (hr:r.length=k) (hv:One r):
  (ae s.a (i*k)).isSome=true/\Wr w (ae s.a (i*k)) k/\aC B E k (aG w (ae s.a (i*k)) r) s (rows.set i r)/\
   Below B w (aG w (ae s.a (i*k)) r)/\(∀m,s.aY≠some m->(aG w (ae s.a (i*k)) r).heap[m]? =w.heap[m]?):=by
 have dG:=bM h.wd;have h1:(i+1)*k<=rows.length*k:=Nat.mul_le_mul_right _ hi;rw [Nat.succ_mul] at h1;obtain ⟨p1,p2,p3,p4⟩:=h.own.put (m:=i*k) (vs:=r) (by omega) (by omega) hv;rw [hr] at p2;refine ⟨p1,p2,⟨?_,λq hq=> ?_⟩,?_,p4⟩
 ·have e:(rows.set i r).flatten=aR rows.flatten (i*k) r:=by
   have hw:=h.wd;clear h p1 p2 p3 p4 dG h1
   induction rows generalizing i with
   |nil=>simp at hi
   |cons a rows ih=>
    have ha:=hw a (.head _)
    cases i with
    |zero=>
     simp only [List.set_cons_zero,List.flatten_cons,Nat.zero_mul];rw [dn _ _ _ (by rw [List.length_append];omega),hr,Nat.zero_add,List.drop_left' ha];simp
    |succ i=>
     simp only [List.set_cons_succ,List.flatten_cons];rw [show (i+1)*k=a.length+i*k from by rw [ha,Nat.succ_mul];omega,kj];rw [ih (by simpa using hi) (λr hr=>hw r (.tail _ hr))]
  rw [e];exact p3
 ·rcases List.mem_or_eq_of_mem_set hq with hq|rfl
  ·exact h.wd q hq
  ·exact hr
 ·refine Below.aG (Below.refl _ _) λx hx=> ?_
  have ho:=h.own;generalize rows.flatten=xs at ho
  cases ho with
  |nil=>simp [ae] at hx
  |row g n c cs hg hr hc hn=>simp [ae,mJ] at hx;subst hx;exact hg
theorem lG (a:Option Addr) (m size j:Nat):ae (aJ a 0 m size) j=ae a j:=by
 unfold aJ;split
 ·rfl
 ·show ae (ae a (0*size)) j=_;rw [de];simp
theorem RdK.cut {w:World} {s:Sl} {k:Nat} {rows:List (LV)} (h:RdK w s k rows) {m c' c'':Nat} (hm:m<=rows.length):RdK w ⟨aJ s.a 0 c' k,m,c''⟩ k (rows.take m):=by
 refine ⟨by simp;omega,λr hr=>h.wd r (List.mem_of_mem_take hr),λi r hi j v hj=> ?_⟩;show ld w (ae (aJ s.a 0 c' k) _)=_;rw [lG];rw [List.getElem?_take] at hi;split at hi
 ·exact h.rd i r hi j v hj
 ·cases hi
end Go.Vc
namespace Go.Vc
open Go Go.RowKit
theorem aC.FO {B E k bytes:Nat} {w:World} {s:Sl} {rows more:List (LV)} (h:aC B E k w s rows) (hB:B<=w) (hl:∀r ∈ more,r.length=k) (h1:∀r ∈ more,One r)
  (hb:(s.n+more.length)*bytes<=140737488355328) (hb':s.n+more.length<=9223372036854775807):
  ba bytes k w s more.length more.flatten/\∀(s':Sl) (w':World),aV E k w s more.length more.flatten s' w'->
   aC B E k w' s' (rows++more)/\s'.n=s.n+more.length/\Below B w w'/\(∀j,s.aY≠some j->j<w.heap.size->w'.heap[j]? =w.heap[j]?)/\(s'.aY=s.aY\/s'.aY=some w.heap.size):=by
 obtain ⟨hp,hr⟩:=h.own.append (bytes:=bytes) (m:=more.length) (news:=more.flatten) hB (bM hl) (fK h1) hb hb';refine ⟨hp,λs' w' bo=> ?_⟩;obtain ⟨ho,hn,hx,hk,JB⟩:=hr s' w' bo;refine ⟨⟨by rw [List.flatten_append];exact ho,λr hr=> ?_⟩,hn,hx,hk,JB⟩;rcases dR.1 hr with hr|hr
 ·exact h.wd r hr
 ·exact hl r hr
end Go.Vc
namespace Go.Vc
open Go Go.RowKit
theorem RdK.rest {w:World} {s:Sl} {k:Nat} {rows:List (LV)} (h:RdK w s k rows) {l m n' c':Nat} (hn:n'=rows.length-l) (hm:m=l->rows.length<=l):RdK w ⟨aJ s.a l m k,n',c'⟩ k (rows.drop l):=by
 refine ⟨by simpa using hn,λr hr=>h.wd r (List.mem_of_mem_drop hr),λi r hi j v hj=> ?_⟩;rw [List.getElem?_drop] at hi;show ld w (ae (aJ s.a l m k) _)=_;unfold aJ;split
 ·rename_i e;have:=hm e;rw [jt aa] at hi;cases hi
 ·show ld w (ae (ae s.a (l*k)) _)=_;rw [de];have:=h.rd (l+i) r hi j v hj;rwa [Nat.add_mul,Nat.add_assoc] at this
end Go.Vc
namespace Go.Vc
open Go Go.RowKit
theorem dq {P:Program} {fv:Value} {args:LV} {w:World} {R R':Ending->World->Prop} (h:cw P fv args w R) (hr:∀e w',R e w'->R' e w'):cw P fv args w R':=by
 unfold cw at h ⊢;split at h
 ·split at h
  ·exact h.mono hr
  ·obtain ⟨e,he,v,w',h1,h2⟩:=h;exact ⟨e,he,v,w',h1,hr _ _ h2⟩
 ·obtain ⟨h1,fn,tmps,assign,body,h2,h3⟩:=h;exact ⟨h1,fn,tmps,assign,body,h2,h3.mono hr⟩
 ·exact h.elim
theorem Yu {P:Program} {f:FuncId} {first cap:Array Value} {args:LV} {w:World} {R:Ending->World->Prop} (hb:uo P f=true) (h:Calls P f (first.toList++args++cap.toList).toArray w R):
  cw P (.func (.func f) first cap) args w R:=by
 unfold cw;simp only [hb];exact h
theorem cU {P:Program} {f:FuncId} {first cap:Array Value} {args:LV} {w:World} {R:Ending->World->Prop} {asx:Array Value} (hb:uo P f=true) (ha:(first.toList++args++cap.toList).toArray=asx) (h:Calls P f asx w R):
  cw P (.func (.func f) first cap) args w R:=Yu hb (by rw [ha];exact h)
theorem Be (fn:Fn) (a b:Array Value):Ia (.func fn a b)=false:=rfl
theorem LM (fn:Fn) (a b:Array Value):fnC (.func fn a b)=[]:=rfl
structure Mod (F:Nat->Prop) (w w':World):Prop where
 os:w'.os=w.os
 tape:w'.tape=w.tape
 output:w'.output=w.output
 size:w.heap.size<=w'.heap.size
 same:∀i,i<w.heap.size->¬F i->w'.heap[i]? =w.heap[i]?
theorem Mod.refl (F:Nat->Prop) (w:World):Mod F w w:=⟨rfl,rfl,rfl,aB _,λ_ _ _=>rfl⟩
theorem Mod.aD {F:Nat->Prop} {w w':World} (h:Ext w w'):Mod F w w':=⟨h.os,h.tape,h.output,h.size,λi hi _=>h.block i hi⟩
theorem Mod.trans {F:Nat->Prop} {a b c:World} (h:Mod F a b) (k:Mod F b c):Mod F a c:=
 ⟨k.os.trans h.os,k.tape.trans h.tape,k.output.trans h.output,fY h.size k.size,λi hi hn=>(k.same i (j9 hi h.size) hn).trans (h.same i hi hn)⟩
theorem Mod.mono {F F':Nat->Prop} {a b:World} (h:Mod F a b) (hs:∀i,i<a.heap.size->F i->F' i):Mod F' a b:=⟨h.os,h.tape,h.output,h.size,λi hi hn=>h.same i hi λhf=>hn (hs i hi hf)⟩
theorem Mod.tr {F F':Nat->Prop} {a b c:World} (h:Mod F a b) (k:Mod F' b c) (hs:∀i,F' i->F i\/a.heap.size<=i):Mod F a c:=
 ⟨k.os.trans h.os,k.tape.trans h.tape,k.output.trans h.output,fY h.size k.size,λi hi hn=>(k.same i (j9 hi h.size) λhf=>by
  rcases hs i hf with hf|hf
  ·exact hn hf
  ·omega).trans (h.same i hi hn)⟩
theorem Mod.below {F:Nat->Prop} {B:Nat} {w w':World} (h:Mod F w w') (hB:B<=w) (hF:∀i,F i->B<=i):Below B w w':=⟨h.os,h.tape,h.output,h.size,λi hi=>h.same i aa λhf=>by have:=hF i hf;omega⟩
theorem Mod.ext {F:Nat->Prop} {w0 w w':World} (h:Mod F w w') (x:Ext w0 w) (hF:∀i,F i->w0.heap.size<=i):Ext w0 w':=x.trans (h.below x.size hF)
theorem Mod.nO {r:Nat} {w w':World} (h:Rec r w w'):Mod (λi=>i=r) w w':=⟨h.os,h.tape,h.output,Nat.le_of_eq h.size.symm,λi _ hn=>h.same i hn⟩
theorem acG {w w':World} {p:Option Addr} (h:∀b,bC p=some b->w'.heap[b]? =w.heap[b]?):ld w' p=ld w p:=by
 cases p with
 |none=>rfl
 |some a=>
  show w'.cell? a=w.cell? a;have:=h a.block rfl;simp only [World.cell?,this]
theorem RdK.same {w w':World} {s:Sl} {k:Nat} {rows:List (LV)} (h:RdK w s k rows) (hs:∀b,s.aY=some b->w'.heap[b]? =w.heap[b]?):RdK w' s k rows:=
 ⟨h.n,h.wd,λi r hi j v hj=>by rw [acG λb hb=>hs b (by rw [cY] at hb;exact hb)];exact h.rd i r hi j v hj⟩
end Go.Vc
namespace Go.Vc
open Go Go.RowKit
theorem RdK.PL {w:World} {s:Sl} {k:Nat} {rows:List (LV)} (h:RdK w s k rows) (hk:0<k) (jb:rows≠ []) {b:Nat} (hb:s.aY=some b):b<w:=by
 cases rows with
 |nil=>exact absurd rfl jb
 |cons r rows=>
  have hl:=h.wd r (.head _);have h0:r[0]? =some (r[0]'aa):=c8 aa;have:=h.rd 0 r rfl 0 _ h0
  cases ha:s.a with
  |none=>rw [ha] at this;simp [ld,ae] at this
  |some a=>
   rw [ha] at this;have gW:=RY (w:=w) (a:=a.add (0*k+0)) this;have:(a.add (0*k+0)).block=a.block:=by unfold Addr.add;split<;>rfl
   rw [this] at gW;simp [Sl.aY,ha] at hb;omega
theorem RdK.aei {w w':World} {s:Sl} {k:Nat} {rows:List (LV)} (h:RdK w s k rows) (hs:rows≠ []->∀b,s.aY=some b->w'.heap[b]? =w.heap[b]?):RdK w' s k rows:=by
 cases rows with
 |nil=>exact ⟨h.n,h.wd,λi r hi=>by simp at hi⟩
 |cons r rows=>exact h.same (hs bt)
end Go.Vc
namespace Go.Vc
open Go Go.RowKit
end Go.Vc
namespace Go.Vc
open Go Go.RowKit
theorem aC.form {B E k:Nat} {w:World} {s:Sl} {rows:List (LV)} (h:aC B E k w s rows) (hk:0<k):(s=⟨none,0,0⟩/\rows=[])\/
  ∃g cs,s.a=some ⟨g,0,none⟩/\B<=g/\Row w g cs E/\s.c*k<=cs.length/\s.n<=s.c/\cs.take (s.n*k)=rows.flatten/\s.n=rows.length:=by
 have hn:=(h.rd hk).n;have ho:=h.own;have hf:=bM h.wd;generalize hx:rows.flatten=xs at ho hf
 cases ho with
 |nil=>exact .inl ⟨rfl,List.eq_nil_of_length_eq_zero (by rw [<-hn])⟩
 |row g n c cs hg hr hc hn'=>exact .inr ⟨g,cs,rfl,hg,hr,hc,hn',rfl,hn⟩
theorem aC.jf {B E k:Nat} {w:World} {g n c:Nat} {cs:LV} {rows:List (LV)} (hg:B<=g) (hr:Row w g cs E) (hc:c*k<=cs.length) (hn:n<=c) (ht:cs.take (n*k)=rows.flatten) (hw:∀r ∈ rows,r.length=k):
  aC B E k w ⟨some ⟨g,0,none⟩,n,c⟩ rows:=⟨by rw [<-ht];exact .row g n c cs hg hr hc hn,hw⟩
theorem eg (a:Option Addr) (m size:Nat):aJ a 0 m size=a:=by
 unfold aJ;split
 ·rfl
 ·cases a<;>simp [Addr.add]
theorem qK (g l m size:Nat):aJ (some ⟨g,0,none⟩) l m size=if m=l then some ⟨g,0,none⟩ else some ⟨g,l*size,none⟩:=by
 unfold aJ;split
 ·rfl
 ·simp [mJ]
theorem Row.afs {w:World} {g:Nat} {cs vs:LV} {E:TypeId} (hr:Row w g cs E) {l m size:Nat} (hm:m=l->vs=[]) (hv:∀j,j<vs.length->cs[l*size+j]? =vs[j]?):Rd w (aJ (some ⟨g,0,none⟩) l m size) vs:=by intro j v hj;have gW:=(cR.1 hj).1;rw [qK,if_neg (λe=>by rw [hm e] at gW;simp at gW),bh,hr.ld,hv j gW];exact hj
theorem Row.Xn {w:World} {g:Nat} {cs vs:LV} {E:TypeId} (hr:Row w g cs E) {l m size:Nat} (hm:m=l->vs=[]) (hl:l*size+vs.length<=cs.length) (h1:One vs):
  Wr w (aJ (some ⟨g,0,none⟩) l m size) vs.length/\Row (Go.Vc.aG w (aJ (some ⟨g,0,none⟩) l m size) vs) g (aR cs (l*size) vs) E/\Mod (λi=>i=g) w (Go.Vc.aG w (aJ (some ⟨g,0,none⟩) l m size) vs):=by
 by_cases e:m=l
 ·have:=hm e;subst this;rw [qK,if_pos e];exact ⟨λi hi=>by simp at hi,hr,Mod.refl _ _⟩
 ·rw [qK,if_neg e,hr.aG hl h1];exact ⟨hr.wr hl,hr.set _,⟨rfl,rfl,rfl,by rw [setRow_size];exact aB _,λi _ hn=>setRow_other _ _ _ _ hn⟩⟩
theorem Tz {w:World} {a:Option Addr} {xs ys:LV} (hx:Rd w a xs) (hy:Rd w a ys) (hl:xs.length=ys.length):xs=ys:=by
 apply iX;intro i;rcases Nat.lt_or_ge i xs.length with hi|hi
 ·have h1:=hx i xs[i] (c8 hi);have h2:=hy i (ys[i]'aa) (c8 aa);rw [h1] at h2;rw [c8 hi,c8 aa];exact h2
 ·rw [jt hi,jt aa]
theorem Row.rd0 {w:World} {g:Nat} {cs vs:LV} {E:TypeId} (hr:Row w g cs E) (hv:∀j,j<vs.length->cs[j]? =vs[j]?):Rd w (some ⟨g,0,none⟩) vs:=by intro j v hj;have gW:=(cR.1 hj).1;rw [bh,hr.ld,eB,hv j gW];exact hj
theorem Row.ne {w:World} {g g':Nat} {cs cs':LV} {E E':TypeId} (hr:Row w g cs E) (hr':Row w g' cs' E') (hE:E≠E'):g≠g':=by rintro rfl;have:=hr.symm.trans hr';simp at this;exact hE this.2
theorem Row.ji {w:World} {g r:Nat} {cs:LV} {E:TypeId} {G:Value->Prop} {kvs:List (Value × Value)} (hr:Row w g cs E) (hm:cj G w (some r) kvs):g≠r:=by rintro rfl;exact hm.ug _ _ _ hr
theorem cj.same {w w':World} {G:Value->Prop} {r:Nat} {kvs:List (Value × Value)} (hm:cj G w (some r) kvs) (h:w'.heap[r]? =w.heap[r]?):cj G w' (some r) kvs:=by obtain ⟨es,c,h1,h2⟩:=hm;exact ⟨es,c,h.trans h1,h2⟩
theorem cj.lt {w:World} {G:Value->Prop} {r:Nat} {kvs:List (Value × Value)} (hm:cj G w (some r) kvs):r<w:=by obtain ⟨es,c,h1,h2⟩:=hm;exact (rI.1 h1).1
theorem cj.new {w:World} {G:Value->Prop}:cj G (w.alloc (.map #[] 0)) (some w.heap.size) []:=
 ⟨#[],0,World.alloc_heap_new w _,rfl,by simp,by simp,by simp,by simp⟩
end Go.Vc
namespace Go.Vc
open Go Go.RowKit
theorem xA {k:Nat}:∀{rows:List (LV)} (m:Nat),(∀r ∈ rows,r.length=k)->rows.flatten.take (m*k)=(rows.take m).flatten
 | [],m,_=>by simp
 |r::rows,0,_=>by simp
 |r::rows,m+1,hw=>by
  have hr:=hw r (.head _)
  rw [List.take_succ_cons,ki,ki,show (m+1)*k=r.length+m*k by rw [Nat.succ_mul,hr];omega,List.take_append,fB aa,Nat.add_sub_cancel_left,xA m λq hq=>hw q (.tail _ hq)]
theorem aC.cut {B E k:Nat} {w:World} {s:Sl} {rows:List (LV)} (h:aC B E k w s rows) (hk:0<k) {m:Nat} (hm:m<=rows.length):aC B E k w ⟨aJ s.a 0 m k,m,m⟩ (rows.take m):=by
 rw [eg];rcases h.form hk with ⟨rfl,rfl⟩|⟨g,cs,ha,hg,hr,hc,hn,ht,hl⟩
 ·have:m=0:=by simpa using hm
  subst this;exact .nil
 ·rw [ha];have h1:m*k<=s.n*k:=Nat.mul_le_mul_right _ aa;have h2:s.n*k<=s.c*k:=Nat.mul_le_mul_right _ hn;refine aC.jf hg hr aa (aB _) ?_ (λr hr=>h.wd r (List.mem_of_mem_take hr));have e1:cs.take (m*k)=(cs.take (s.n*k)).take (m*k):=by rw [List.take_take,Nat.min_eq_left h1]
  rw [e1,ht,xA m h.wd]
end Go.Vc
namespace Go.Vc
open Go Go.RowKit
structure aN (F F':Nat->Prop) (w w':World):Prop where
 mod:Mod F w w'
 sub:∀i,F' i->F i\/w.heap.size<=i
theorem aN.refl (F:Nat->Prop) (w:World):aN F F w w:=⟨Mod.refl _ _,λ_ h=> .inl h⟩
theorem aN.trans {F G H:Nat->Prop} {a b c:World} (h:aN F G a b) (k:aN G H b c):aN F H a c:=
 ⟨h.mod.tr k.mod h.sub,λi hi=>by
  rcases k.sub i hi with hg|hg
  ·exact h.sub i hg
  ·exact .inr (fY h.mod.size hg)⟩
theorem aN.aD {F:Nat->Prop} {w w':World} (h:Ext w w'):aN F F w w':=⟨Mod.aD h,λ_ h=> .inl h⟩
theorem aN.fresh {F F':Nat->Prop} {w0 w w':World} (h:aN F F' w w') (x:Ext w0 w) (hF:∀i,F i->w0.heap.size<=i):Ext w0 w'/\∀i,F' i->w0.heap.size<=i:=
 ⟨h.mod.ext x hF,λi hi=>by
  rcases h.sub i hi with hf|hf
  ·exact hF i hf
  ·exact fY x.size hf⟩
theorem aN.apart {F F' G:Nat->Prop} {w w':World} (h:aN F F' w w') (hd:∀i,F i->¬G i) (hl:∀i,G i->i<w.heap.size):∀i,F' i->¬G i:=λi hi hg=>by
 rcases h.sub i hi with hf|hf
 ·exact hd i hf hg
 ·have:=hl i hg;omega
theorem Mod.vr {w w':World} {s:Sl} (hb:Below 0 w w') (hk:∀j,s.aY≠some j->j<w.heap.size->w'.heap[j]? =w.heap[j]?):Mod (λi=>s.aY=some i) w w':=
 ⟨hb.os,hb.tape,hb.output,hb.size,λi hi hn=>hk i hn hi⟩
theorem Mod.row {F:Nat->Prop} {w w':World} (h:Mod F w w') {g:Nat} {cs:LV} {t:TypeId} (hr:Row w g cs t) (hn:¬F g):Row w' g cs t:=hr.same (h.same g hr.lt hn)
theorem Mod.fm {F:Nat->Prop} {w w':World} (h:Mod F w w') {B E k:Nat} {s:Sl} {rows:List (LV)} (ho:aC B E k w s rows) (hn:∀b,s.aY=some b->¬F b):aC B E k w' s rows:=
 ho.c9 λb hb=>h.same b (ho.own.lt hb).2 (hn b hb)
theorem Mod.map {F:Nat->Prop} {w w':World} (h:Mod F w w') {G:Value->Prop} {r:Nat} {kvs:List (Value × Value)} (hm:cj G w (some r) kvs) (hn:¬F r):cj G w' (some r) kvs:=hm.same (h.same r hm.lt hn)
theorem Mod.rdK {F:Nat->Prop} {w w':World} (h:Mod F w w') {s:Sl} {k:Nat} {rows:List (LV)} (hk:0<k) (hr:RdK w s k rows) (hn:rows≠ []->∀b,s.aY=some b->¬F b):RdK w' s k rows:=
 hr.aei λjb b hb=>h.same b (hr.PL hk jb hb) (hn jb b hb)
theorem Y8 {C x l:LV} {a b N:Nat} (hb:b=a+x.length) (hN:N=b+l.length) (hC:N<=C.length):(aR (aR C a x) b l).take N=C.take a++x++l:=by
 have ha:(C.take a).length=a:=by rw [dC];omega
 rw [dn x C a aa];have hD:(C.take a++x).length=b:=by rw [dc,ha,hb]
 rw [dn _ _ _ (by rw [dc,hD,List.length_drop];omega),List.take_left' hD,List.take_left' (by rw [dc,hD];omega)]
theorem U7 {C x l:LV} {a b N:Nat} (hb:b=a+x.length) (hN:N=b+l.length) (hC:N<=C.length):(aR (aR C b l) a x).take N=C.take a++x++l:=by
 have ha:(C.take a).length=a:=by rw [dC];omega
 have kF:(C.take b).length=b:=by rw [dC];omega
 rw [dn l C b aa];have h1:(C.take b++l++C.drop (b+l.length)).take a=C.take a:=by rw [gO,List.take_append_of_le_length aa,List.take_take,Nat.min_eq_left aa]
 have h2:(C.take b++l++C.drop (b+l.length)).drop (a+x.length)=l++C.drop (b+l.length):=by rw [gO,<-hb,List.drop_left' kF]
 have hl:(C.take b++l++C.drop (b+l.length)).length=C.length:=by simp;omega
 rw [dn _ _ _ (by rw [hl];omega),h1,h2,<-gO,List.take_left' (by simp only [dc,ha];omega)]
theorem af9 {lo hi:Nat} (h:lo+hi<=1000000):aj (((c5 (aj ((lo:Int)+(hi:Int)))):Int).fdiv (2 ^(min (1:Int).toNat 64)))=(((lo+hi) / 2:Nat):Int):=by
 rw [aK (n:=(lo:Int)+hi) (by unfold bS;omega)];have h2:c5 ((lo:Int)+hi)=lo+hi:=by unfold IntKind.wrap;simp only [IntKind.bits,IntKind.signed];simp;omega
 rw [h2];have h3:((lo:Int)+hi).fdiv (2 ^(min (1:Int).toNat 64))=(((lo+hi) / 2:Nat):Int):=by show ((lo:Int)+hi).fdiv 2=_;rw [rM _ aa];omega
 rw [h3,wI]
theorem Row.at {w:World} {g:Nat} {cs:LV} {E:TypeId} (hr:Row w g cs E) (j:Nat) {v:Value} (h:cs[j]? =some v):Vc.ld w (ae (some ⟨g,0,none⟩) j)=some v:=by rw [bh,hr.ld,eB];exact h
theorem Row.je {w:World} {g:Nat} {cs:LV} {E:TypeId} (hr:Row w g cs E) {j:Nat} {v:Value} (hj:j<cs.length) (hv:v.oneCell'=true):
  Wr w (ae (some ⟨g,0,none⟩) j) 1/\∀w',w'=Vc.aG w (ae (some ⟨g,0,none⟩) j) [v]->Row w' g (aR cs j [v]) E/\Mod (λi=>i=g) w w':=by
 rw [bh,eB];have h1:One [v]:=by intro u hu;simp at hu;subst hu;exact hv
 refine ⟨hr.wr aa,λw' e=> ?_⟩;rw [hr.aG (by simp;omega) h1] at e;subst e;exact ⟨hr.set _,rfl,rfl,rfl,by rw [setRow_size];exact aB _,λi _ hn=>setRow_other _ _ _ _ hn⟩
theorem bc {B E k:Nat} {w:World} {s:Sl} {rows:List (LV)} (h:aC B E k w s rows) (hk:0<k) {b:Nat} (hb:s.aY=some b):∃cs,Row w b cs E:=by
 rcases h.form hk with ⟨hs,-⟩|⟨g0,cs,ha,hg0,hr,-⟩
 ·rw [hs] at hb;cases hb
 ·unfold Sl.aY at hb;rw [ha] at hb;have:g0=b:=by simpa using hb
  exact ⟨cs,this▸hr⟩
open Go.ChangeShapes Go.WideShapes
theorem inI_wf' {n:Int} (h:(Lit.int .i64 n).wf=true):bS n:=by
 have h1:IntKind.min .i64= -9223372036854775808:=by decide
 have h2:IntKind.max .i64=9223372036854775807:=by decide
 simp only [Lit.wf,fq,cS,h1,h2] at h;exact h
section
variable {H:Type} {enc:TypeId × Value->H} {P:Program} {w:World} {base:Nat} {spare:Nat->Bool} {held:Bool}
theorem acA {t:TypeId} {f0 f1:Field} {fuel:Nat} {cs:LV} {x:DataW H × List MemPlace} (ht:P.underlying t=some (.struct #[f0,f1])) (ce:P.cellsOf t=2)
  (o0:f0.offset=0) (o1:f1.offset=1) (c0:P.cellsOf f0.type=1) (c1:P.cellsOf f1.type=1) (u0:P.underlying f0.type=some (.int .i64)) (u1:P.underlying f1.type=some (.int .i64))
  (h:DataW.trod enc P w base spare held fuel t cs=some x):∃a b,cs=[.int .i64 a,.int .i64 b]/\bS a/\bS b:=by
 obtain ⟨xs,n,_,_,hl,hxl,hf⟩:=DataW.trod_struct ht h;rw [ce] at hl
 match xs,hxl,cs,hl with
 | [y0,y1],_,[v0,v1],_=>
   have h0:=hf 0 f0 rfl;have h1:=hf 1 f1 rfl;rw [o0,c0] at h0;rw [o1,c1] at h1;obtain ⟨a,e0,_,wa⟩:=DataW.trod_int u0 h0;obtain ⟨b,e1,_,wb⟩:=DataW.trod_int u1 h1;simp at e0 e1;exact ⟨a,b,by rw [e0,e1],inI_wf' wa,inI_wf' wb⟩
theorem abb {t e:TypeId} {f0 f1:Field} {fuel:Nat} {a:Option Addr} {len cap:Nat} {x:DataW H × List MemPlace} (ht:P.underlying t=some (.slice e)) (he:P.underlying e=some (.struct #[f0,f1]))
  (ce:P.cellsOf e=2) (o0:f0.offset=0) (o1:f1.offset=1) (c0:P.cellsOf f0.type=1) (c1:P.cellsOf f1.type=1) (u0:P.underlying f0.type=some (.int .i64)) (u1:P.underlying f1.type=some (.int .i64))
  (h:DataW.trod enc P w base spare held fuel t [.slice a len cap]=some x):
  ∃l:List (Int × Int),RdK w ⟨a,len,cap⟩ 2 (l.map λr=> [.int .i64 r.1,.int .i64 r.2])/\(∀r ∈ l,bS r.1/\bS r.2)/\len<=cap/\cap<=maxLen:=by
 rcases Go.Deep.open_slice_pairs ht he ce o0 o1 c0 c1 h with ⟨wU,_⟩|⟨b,len',cap',m,n,V0,V1,D0,D1,P0,P1,wU,_,hl,hm,hmm,_,hx⟩
 ·simp at wU;obtain ⟨rfl,rfl,rfl⟩:=wU;exact ⟨[],⟨rfl,by simp,λi r hi=>by simp at hi⟩,by simp,aB _,by decide⟩
 ·simp at wU;obtain ⟨rfl,rfl,rfl⟩:=wU;have hlm:len<=m:=by rw [hmm];split<;>omega
  have each:∀i,i<len->∃r:Int × Int,w.cell? (b.add (i*2))=some (.int .i64 r.1)/\w.cell? (b.add (i*2+1))=some (.int .i64 r.2)/\bS r.1/\bS r.2:=by intro i hi;obtain ⟨h0,h1,h2,h3⟩:=hx i aa;obtain ⟨p,e0,_,wp⟩:=DataW.trod_int u0 h2;obtain ⟨q,e1,_,wq⟩:=DataW.trod_int u1 h3;simp at e0 e1;exact ⟨(p,q),by rw [h0,e0],by rw [h1,e1],inI_wf' wp,inI_wf' wq⟩
  have pick:∃f:Nat->Int × Int,∀i,i<len->w.cell? (b.add (i*2))=some (.int .i64 (f i).1)/\w.cell? (b.add (i*2+1))=some (.int .i64 (f i).2)/\bS (f i).1/\bS (f i).2:=by refine ⟨λi=>if hi:i<len then Classical.choose (each i hi) else (0,0),λi hi=> ?_⟩;simp only [dif_pos hi];exact Classical.choose_spec (each i hi)
  obtain ⟨f,hf⟩:=pick;refine ⟨(List.range len).map f,⟨by simp,by simp,λi r hi j v hj=> ?_⟩,λr hr=> ?_,hl,hm⟩
  ·simp only [List.map_map,aS,Option.map_eq_some_iff] at hi;obtain ⟨k,hk,rfl⟩:=hi;obtain ⟨MO,EO⟩:=cR.1 hk;simp at MO EO;subst EO;obtain ⟨h0,h1,_,_⟩:=hf i MO;rcases j with _|_|j<;>simp at hj
   ·subst hj;exact h0
   ·subst hj;exact h1
  ·obtain ⟨i,hi,rfl⟩:=bg.1 hr;exact (hf i (by simpa using hi)).2.2
theorem acB {t e:TypeId} {k:IntKind} {fuel:Nat} {a:Option Addr} {len cap:Nat} {x:DataW H × List MemPlace} (ht:P.underlying t=some (.slice e)) (he:P.underlying e=some (.int k)) (ce:P.cellsOf e=1)
  (h:DataW.trod enc P w base spare held fuel t [.slice a len cap]=some x):
  ∃z:List Int,RdK w ⟨a,len,cap⟩ 1 (z.map λn=> [.int k n])/\(∀n ∈ z,(Lit.int k n).wf=true)/\len<=cap/\cap<=maxLen:=by
 rcases Go.ChangeShapes.open_ints ht he ce h with ⟨wU,_⟩|⟨b,len',cap',zs,wU,_,hl,hm,hz,_,hcell,hwf⟩
 ·simp at wU;obtain ⟨rfl,rfl,rfl⟩:=wU;exact ⟨[],⟨rfl,by simp,λi r hi=>by simp at hi⟩,by simp,aB _,by decide⟩
 ·simp at wU;obtain ⟨rfl,rfl,rfl⟩:=wU;have hlm:len<=zs.length:=by rw [hz];split<;>omega
  refine ⟨zs.take len,⟨by simp;omega,λr hr=>by obtain ⟨q,_,rfl⟩:=bg.1 hr;rfl,λi r hi j v hj=> ?_⟩,λn hn=>hwf n (List.mem_of_mem_take hn),hl,hm⟩;rw [aS,Option.map_eq_some_iff] at hi;obtain ⟨q,hq,rfl⟩:=hi;rw [List.getElem?_take] at hq;split at hq
  ·rename_i MR;have:=hcell i aa;rw [eA,hq] at this;rcases j with _|j<;>simp at hj;subst hj;show w.cell? (b.add (i*1+0))=_;rw [Nat.mul_one,Nat.add_zero];exact this
  ·cases hq
theorem atl {n:Int} (h:(Lit.int .u8 n).wf=true):0<=n/\n<256:=by
 have h1:IntKind.min .u8=0:=by decide
 have h2:IntKind.max .u8=255:=by decide
 simp only [Lit.wf,fq,cS,h1,h2] at h;omega
end
section
variable {H:Type} {enc:TypeId × Value->H} {P:Program} {w:World} {base:Nat} {spare:Nat->Bool} {held:Bool}
def Ep (P:Program):Nat->TypeId->Bool
 |0,_=>false
 |n+1,t=>match P.underlying t with
  |some (.int .i64)=>P.cellsOf t==1
  |some (.struct fs)=>(List.range (P.cellsOf t)).all λi=>(List.range fs.size).any λj=>match fs[j]? with
   |some f=>decide (f.offset<=i) && decide (i<f.offset+P.cellsOf f.type) && Ep P n f.type
   |none=>false
  |_=>false
theorem yl:∀{n:Nat} {t:TypeId} {fuel:Nat} {cs:LV} {x:DataW H × List MemPlace},Ep P n t=true->DataW.trod enc P w base spare held fuel t cs=some x->
  cs.length=P.cellsOf t/\∀v ∈ cs,∃z,v=.int .i64 z/\bS z
 |0,_,_,_,_,h,_=>by simp [Ep] at h
 |n+1,t,fuel,cs,x,h,ht=>by
  unfold Ep at h
  split at h
  ·rename_i e
   obtain ⟨z,rfl,_,hw⟩:=DataW.trod_int e ht
   have:P.cellsOf t=1:=by simpa using h
   refine ⟨by rw [this];rfl,λv hv=> ?_⟩;rw [List.mem_singleton] at hv;exact ⟨z,hv,inI_wf' hw⟩
  ·rename_i fs e;obtain ⟨xs,k,_,_,hl,hxl,hf⟩:=DataW.trod_struct e ht;refine ⟨hl,λv hv=> ?_⟩;obtain ⟨i,hi,rfl⟩:=List.getElem_of_mem hv;rw [List.all_eq_true] at h;have hj:=h i (List.mem_range.2 aa);rw [List.any_eq_true] at hj;obtain ⟨j,hjr,hj⟩:=hj;rw [List.mem_range] at hjr;split at hj
   ·rename_i f hfj;simp only [fq,cS] at hj;have hx:=hf j f hfj;rw [c8 aa] at hx;obtain ⟨dG,qg⟩:=yl hj.2 hx;refine qg _ (aZ (i:=i-f.offset) ?_);rw [List.getElem?_take,if_pos aa,List.getElem?_drop,c8 aa];congr 2;omega
   ·cases hj
  ·cases h
theorem vh:∀{cs:LV},(∀v ∈ cs,∃z,v=.int .i64 z/\bS z)->∃r:List Int,cs=r.map (λn=> .int .i64 n)/\∀n ∈ r,bS n
 | [],_=>⟨[],rfl,by simp⟩
 |v::cs,h=>by
  obtain ⟨z,rfl,hz⟩:=h v (List.mem_cons_self ..)
  obtain ⟨r,rfl,hr⟩:=vh λu hu=>h u (List.mem_cons_of_mem _ hu)
  refine ⟨z::r,rfl,λn hn=> ?_⟩
  rcases cH.1 hn with rfl|hn
  ·exact hz
  ·exact hr n hn
theorem vi {n:Nat} {t:TypeId} {fuel:Nat} {cs:LV} {x:DataW H × List MemPlace} (hb:Ep P n t=true) (h:DataW.trod enc P w base spare held fuel t cs=some x):
  ∃r:List Int,cs=r.map (λn=> .int .i64 n)/\r.length=P.cellsOf t/\∀n ∈ r,bS n:=by
 obtain ⟨h1,h2⟩:=yl hb h;obtain ⟨r,rfl,hr⟩:=vh h2;exact ⟨r,rfl,by simpa using h1,hr⟩
theorem abc {n:Nat} {t:TypeId} {fuel:Nat} {cs:LV} {x:DataW H × List MemPlace} (hb:Ep P n t=true) (hk:P.cellsOf t=3) (h:DataW.trod enc P w base spare held fuel t cs=some x):
  ∃a b c,cs=[.int .i64 a,.int .i64 b,.int .i64 c]/\bS a/\bS b/\bS c:=by
 obtain ⟨r,rfl,hl,hi⟩:=vi hb h;rw [hk] at hl
 match r,hl with
 | [a,b,c],_=>exact ⟨a,b,c,rfl,hi a bt,hi b bt,hi c bt⟩
theorem acM {m k:Nat} {t e:TypeId} {fuel:Nat} {a:Option Addr} {len cap:Nat} {x:DataW H × List MemPlace} (ht:P.underlying t=some (.slice e)) (hb:Ep P m e=true) (hk:P.cellsOf e=k)
  (h:DataW.trod enc P w base spare held fuel t [.slice a len cap]=some x):
  ∃z:List (List Int),RdK w ⟨a,len,cap⟩ k (z.map λr=>r.map λn=> .int .i64 n)/\(∀r ∈ z,r.length=k/\∀n ∈ r,bS n)/\len<=cap/\cap<=maxLen:=by
 rcases Go.Deep.open_slice ht h with ⟨wU,_⟩|⟨b,len',cap',m',n,D,Pl,wU,_,hl,hm,hmm,_,hx⟩
 ·simp at wU;obtain ⟨rfl,rfl,rfl⟩:=wU;exact ⟨[],⟨rfl,by simp,λi r hi=>by simp at hi⟩,by simp,aB _,by decide⟩
 ·simp at wU;obtain ⟨rfl,rfl,rfl⟩:=wU;have hlm:len<=m':=by rw [hmm];split<;>omega
  have each:∀i,i<len->∃r:List Int,(∀j,j<k->w.cell? ((b.add (i*k)).add j)=(r.map λn=>Value.int .i64 n)[j]?)/\r.length=k/\∀n ∈ r,bS n:=by intro i hi;obtain ⟨cs',h1,h2⟩:=hx i aa;obtain ⟨r,rfl,hr1,py⟩:=vi hb h2;rw [hk] at h1 hr1;exact ⟨r,(World.cells?_some h1).2.2,hr1,py⟩
  have pick:∃f:Nat->List Int,∀i,i<len->(∀j,j<k->w.cell? ((b.add (i*k)).add j)=((f i).map λn=>Value.int .i64 n)[j]?)/\(f i).length=k/\∀n ∈ f i,bS n:=by refine ⟨λi=>if hi:i<len then Classical.choose (each i hi) else [],λi hi=> ?_⟩;simp only [dif_pos hi];exact Classical.choose_spec (each i hi)
  obtain ⟨f,hf⟩:=pick;refine ⟨(List.range len).map f,⟨by simp,λr hr=> ?_,λi r hi j v hj=> ?_⟩,λr hr=> ?_,hl,hm⟩
  ·obtain ⟨r',hr',rfl⟩:=bg.1 hr;obtain ⟨i,hi,rfl⟩:=bg.1 hr';rw [aM];exact (hf i (by simpa using hi)).2.1
  ·simp only [List.map_map,aS,Option.map_eq_some_iff] at hi;obtain ⟨q,hq,rfl⟩:=hi;obtain ⟨MO,EO⟩:=cR.1 hq;simp at MO EO;subst EO;obtain ⟨h0,h1,_⟩:=hf i MO;have QK:j<k:=by have:=(cR.1 hj).1;simp at this;omega
   have:=h0 j QK;rw [<-de];show w.cell? ((b.add (i*k)).add j)=_;rw [this];exact hj
  ·obtain ⟨i,hi,rfl⟩:=bg.1 hr;exact (hf i (by simpa using hi)).2
end
section
variable {H:Type} {enc:TypeId × Value->H} {P:Program} {w:World} {base:Nat} {spare:Nat->Bool} {held:Bool}
def Mw (P:Program):Nat->TypeId->Nat->Bool->Bool
 |0,_,_,_=>false
 |n+1,t,i,b=>match P.underlying t with
  |some (.int .i64)=>b &&(i==0)
  |some .bool=> !b &&(i==0)
  |some (.struct fs)=>decide (i<P.cellsOf t) &&(List.range fs.size).any λj=>match fs[j]? with
   |some f=>decide (f.offset<=i) && decide (i<f.offset+P.cellsOf f.type) && Mw P n f.type (i-f.offset) b
   |none=>false
  |_=>false
def Zq (b:Bool) (v:Value):Prop:=match b with|true=>∃z,v=.int .i64 z/\bS z|false=>∃c,v=.bool c
theorem yr:∀{n:Nat} {t:TypeId} {i:Nat} {b:Bool} {fuel:Nat} {cs:LV} {x:DataW H × List MemPlace},Mw P n t i b=true->DataW.trod enc P w base spare held fuel t cs=some x->∃v,cs[i]? =some v/\Zq b v
 |0,_,_,_,_,_,_,h,_=>by simp [Mw] at h
 |n+1,t,i,b,fuel,cs,x,h,ht=>by
  unfold Mw at h
  split at h
  ·rename_i e
   obtain ⟨z,rfl,_,hw⟩:=DataW.trod_int e ht
   rw [fq] at h
   obtain ⟨rfl,h2⟩:=h
   have:i=0:=by simpa using h2
   subst this;exact ⟨_,rfl,z,rfl,inI_wf' hw⟩
  ·rename_i e;obtain ⟨c,rfl,_⟩:=DataW.trod_bool e ht;rw [fq] at h;obtain ⟨h1,h2⟩:=h;have:i=0:=by simpa using h2
   subst this;have:b=false:=by simpa using h1
   subst this;exact ⟨_,rfl,c,rfl⟩
  ·rename_i fs e;obtain ⟨xs,k,_,_,hl,hxl,hf⟩:=DataW.trod_struct e ht;rw [fq] at h;have hi:i<P.cellsOf t:=by simpa using h.1
   have h:=h.2;rw [List.any_eq_true] at h;obtain ⟨j,hjr,hj⟩:=h;rw [List.mem_range] at hjr;split at hj
   ·rename_i f hfj;rw [fq,fq,cS,cS] at hj;have hx:=hf j f hfj;rw [c8 aa] at hx;obtain ⟨v,hv,bk⟩:=yr hj.2 hx;rw [List.getElem?_take,if_pos aa,List.getElem?_drop] at hv;exact ⟨v,by rw [<-hv];congr 1;omega,bk⟩
   ·cases hj
  ·cases h
def MixR (ks:List Bool) (r:LV):Prop:=r.length=ks.length/\∀(i:Nat) (b:Bool),ks[i]? =some b->∃v,r[i]? =some v/\Zq b v
def ajp (P:Program) (m:Nat) (ks:List Bool) (e:TypeId):Bool:=P.cellsOf e==ks.length &&(List.range ks.length).all λi=>match ks[i]? with|some b=>Mw P m e i b|none=>false
theorem mix_of_trod {m:Nat} {ks:List Bool} {t e:TypeId} {fuel:Nat} {a:Option Addr} {len cap:Nat} {x:DataW H × List MemPlace} (ht:P.underlying t=some (.slice e)) (hb:ajp P m ks e=true)
  (h:DataW.trod enc P w base spare held fuel t [.slice a len cap]=some x):
  ∃z:List (LV),RdK w ⟨a,len,cap⟩ ks.length z/\(∀r ∈ z,MixR ks r)/\len<=cap/\cap<=maxLen:=by
 unfold ajp at hb;rw [fq] at hb;have hk:P.cellsOf e=ks.length:=by simpa using hb.1
 have hb:=hb.2;rw [List.all_eq_true] at hb;rcases Go.Deep.open_slice ht h with ⟨wU,_⟩|⟨b,len',cap',m',n,D,Pl,wU,_,hl,hm,hmm,_,hx⟩
 ·simp at wU;obtain ⟨rfl,rfl,rfl⟩:=wU;exact ⟨[],⟨rfl,by simp,λi r hi=>by simp at hi⟩,by simp,aB _,by decide⟩
 ·simp at wU;obtain ⟨rfl,rfl,rfl⟩:=wU;have hlm:len<=m':=by rw [hmm];split<;>omega
  have each:∀i,i<len->∃r:LV,(∀j,j<ks.length->w.cell? ((b.add (i*ks.length)).add j)=r[j]?)/\MixR ks r:=by intro i hi;obtain ⟨cs',h1,h2⟩:=hx i aa;rw [hk] at h1;have hl':cs'.length=ks.length:=(World.cells?_some h1).2.1;refine ⟨cs',(World.cells?_some h1).2.2,hl',λi b hib=> ?_⟩;have hi':=(cR.1 hib).1;have:=hb i (List.mem_range.2 hi');rw [hib] at this;exact yr this h2
  have pick:∃f:Nat->LV,∀i,i<len->(∀j,j<ks.length->w.cell? ((b.add (i*ks.length)).add j)=(f i)[j]?)/\MixR ks (f i):=by refine ⟨λi=>if hi:i<len then Classical.choose (each i hi) else [],λi hi=> ?_⟩;simp only [dif_pos hi];exact Classical.choose_spec (each i hi)
  obtain ⟨f,hf⟩:=pick;refine ⟨(List.range len).map f,⟨by simp,λr hr=> ?_,λi r hi j v hj=> ?_⟩,λr hr=> ?_,hl,hm⟩
  ·obtain ⟨i,hi,rfl⟩:=bg.1 hr;exact (hf i (by simpa using hi)).2.1
  ·simp only [aS,Option.map_eq_some_iff] at hi;obtain ⟨q,hq,rfl⟩:=hi;obtain ⟨MO,EO⟩:=cR.1 hq;simp at MO EO;subst EO;obtain ⟨h0,h1,_⟩:=hf i MO;have QK:j<ks.length:=by have:=(cR.1 hj).1;omega
   have:=h0 j QK;rw [<-de];show w.cell? ((b.add (i*ks.length)).add j)=_;rw [this];exact hj
  ·obtain ⟨i,hi,rfl⟩:=bg.1 hr;exact (hf i (by simpa using hi)).2
end
end Go.Vc
namespace Go.Proofs.YtkkkfkopcfdmaaaGreatDoor
open Go Go.Vc Go.RowKit Go.Proofs
set_option maxRecDepth 100000
set_option maxHeartbeats 8000000
set_option linter.unusedVariables false
variable {R:Ending->World->Prop} {w:World} {a0 a1 a2 a3 a4 a5 a6 a7 a8 a9 aA aq au aT aU aX bN bI bJ EU ak ao aw bw bR bP eZ fa eL EV br bG bq yC yD wC wD yE yF yG EW EX EY EZ E0 E1 E2 E3 E4 E5:Int}
abbrev K2 (i0 i1:Nat) (x y:World) (P:Prop):Prop:=Kp i0 x y/\Kp i1 x y/\P
abbrev K3 (i0 i1 i2:Nat) (x y:World) (P:Prop):Prop:=Kp i0 x y/\Kp i1 x y/\Kp i2 x y/\P
abbrev K4 (i0 i1 i2 i3:Nat) (x y:World) (P:Prop):Prop:=Kp i0 x y/\Kp i1 x y/\Kp i2 x y/\Kp i3 x y/\P
abbrev K5 (i0 i1 i2 i3 i4:Nat) (x y:World) (P:Prop):Prop:=Kp i0 x y/\Kp i1 x y/\Kp i2 x y/\Kp i3 x y/\Kp i4 x y/\P
abbrev K6 (i0 i1 i2 i3 i4 i5:Nat) (x y:World) (P:Prop):Prop:=Kp i0 x y/\Kp i1 x y/\Kp i2 x y/\Kp i3 x y/\Kp i4 x y/\Kp i5 x y/\P
abbrev K7 (i0 i1 i2 i3 i4 i5 i6:Nat) (x y:World) (P:Prop):Prop:=Kp i0 x y/\Kp i1 x y/\Kp i2 x y/\Kp i3 x y/\Kp i4 x y/\Kp i5 x y/\Kp i6 x y/\P
abbrev K8 (i0 i1 i2 i3 i4 i5 i6 i7:Nat) (x y:World) (P:Prop):Prop:=Kp i0 x y/\Kp i1 x y/\Kp i2 x y/\Kp i3 x y/\Kp i4 x y/\Kp i5 x y/\Kp i6 x y/\Kp i7 x y/\P
abbrev Ra2 (F:Int->Int->World->Prop) (e:Ending) (w:World):Prop:=∃x0 x1:Int,e=.returned (.agg #[x0,x1])/\F x0 x1 w
abbrev iM (F:Int->Int->Int->World->Prop) (e:Ending) (w:World):Prop:=∃x0 x1 x2:Int,e=.returned (.agg #[x0,x1,x2])/\F x0 x1 x2 w
abbrev vy (F:Int->Int->Int->Int->Int->Int->World->Prop) (e:Ending) (w:World):Prop:=∃x0 x1 x2 x3 x4 x5:Int,e=.returned (.agg #[x0,x1,x2,x3,x4,x5])/\F x0 x1 x2 x3 x4 x5 w
abbrev Ra9 (F:Int->Int->Int->Int->Int->Int->Int->Int->Int->World->Prop) (e:Ending) (w:World):Prop:=∃x0 x1 x2 x3 x4 x5 x6 x7 x8:Int,e=.returned (.agg #[x0,x1,x2,x3,x4,x5,x6,x7,x8])/\F x0 x1 x2 x3 x4 x5 x6 x7 x8 w
abbrev Ri (F:Int->World->Prop) (e:Ending) (w:World):Prop:=∃x:Int,e=.returned x/\F x w
abbrev Rb (F:Bool->World->Prop) (e:Ending) (w:World):Prop:=∃x:Bool,e=.returned (.bool x)/\F x w
abbrev Rv (F:Value->World->Prop) (e:Ending) (w:World):Prop:=∃x:Value,e=.returned x/\F x w
abbrev Rs (F:Sl->World->Prop) (e:Ending) (w:World):Prop:=∃x:Sl,e=.returned x/\F x w
abbrev Rt (F:World->Prop) (e:Ending) (w:World):Prop:=e=.returned (.tuple #[])/\F w
abbrev Nq (p:Option Addr) (j:Nat):Prop:=bC p≠some j
abbrev Nb (i j:Nat):Prop:=bC (some ⟨i,0,none⟩)≠some j
abbrev Wt (w:World) (a:Addr) (n:Nat):Prop:=true=true/\Wr w (some a) n
theorem Tryz.aom:BI Tryz.prog:=afD (by kernel_rfl)
theorem Tryz.mixed:Tryz.prog.follows .mixedOrders=true:=by kernel_rfl
theorem cq {pre:Prop} {f:FuncId} {fn:Func} (an:Ann) {args:List Value} {w:World} {R:Ending->World->Prop} (hf:Tryz.prog.funcs[f]? =some fn) (h:pre) (k:pre=ab8 Tryz.prog an fn args w R:=by kernel_rfl):Calls Tryz.prog f args.toArray w R:=
 K0 (an:=an) Tryz.aom Tryz.mixed hf h k
abbrev bT:Ann:=⟨[],[],[]⟩
inductive CQ|a
abbrev ah:CQ:=.a
instance:CoeFun CQ (λ_=>FuncId->Array Value->World->(Ending->World->Prop)->Prop):=⟨λ_=>Calls Tryz.prog⟩
theorem Oq.vc (h:
 ∀w0,w0=w.alloc (.cells #[aA,aq,au] 41)->
 Br (aq<0)
 (R (Value.tuple #[ab,false]) w0)
 (Br (aq>=32)
 (R (Value.tuple #[ab,false]) w0)
 (ah 282 #[au,(16:Int)] w0.drew (Ri λx2 w1=>Kp w w0.drew w1/\
 ag w1 w 0 [aA]/\ag w1 (some ⟨w,1,none⟩) 0 [aq]/\ah 282 #[aA,(16:Int)] w1 (Ri λx4 w3=>Kp w w1 w3/\
 ag w3 (some ⟨w,1,none⟩) 0 [aq]/\R (Value.tuple #[(aj ((aj ((aj ((aj (aq*16))+x2))*16))+x4)),true]) w3))))):ah 255 #[.agg #[aA,aq,au]] w R:=
 cq bT Tryz.func255 h
theorem TP.vc (h:
 ah 158 #[a0] w (λe w0=>∃(t1:ByteArray),e=Value.string t1/\
 R (Value.bool (!rJ t1 (ByteArray.mk #[]))) w0)):ah 108 #[a0] w R:=
 cq bT Tryz.func108 h
theorem BJ.vc {a0:Addr} (h:
 ∀w0,w0=w.alloc (.cells #[ak,ao,aw] 41)->
 ∃(x1 x2:Int),ag w0.drew (ae (some a0) 0) 0 [x1,x2]/\
 ah 193 #[.agg #[x1,x2],.agg #[ak,ao,aw]] w0.drew (λe w3=>∃(x4:Int) (b5:Bool),e=Value.tuple #[x4,b5]/\Kp w w0.drew w3/\
 Br (!b5)
 (R (5:Int) w3)
 (ah 108 #[a2] w3 (Rb λb7 w6=>Kp w w3 w6/\
 Br (!b7)
 (R (1:Int) w6)
 (∃(s8:Sl),ld w6 (ae (some a0) 2)=some (.slice s8.a s8.n s8.c)/\
 ah 295 #[s8,x4,a2] w6 (Rs λwT w9=>Kp w w6 w9/\
 (true=true/\Wr w9 (ae (some a0) 2) 1)/\bC (ae (some a0) 2)≠some w.heap.size/\(∀aW,aW=aG w9 (ae (some a0) 2) [wT]->
 R (0:Int) aW))))))):ah 268 #[a0,.agg #[ak,ao,aw],a2] w R:=
 cq bT Tryz.func268 h
theorem zC.vc {a0:Addr} {a1:Addr} (h:
 ∃(b0:Bool),ld w (ae (some a1) 1)=some (.bool b0)/\
 Br (!b0)
 (R (0:Int) w)
 (∃(p1:Option Addr),ld w (ae (some a1) 0)=some (.pointer p1)/\
 aP (dB p1) (aP (dB p1) (∃(x2 x3:Int),ag w (ae p1 0) 0 [x2,x3]/\
 ah 95 #[.agg #[x2,x3]] w (λe w4=>∃(x5 x6:Int),e=Value.agg #[x5,x6]/\
 ah 72 #[.agg #[x5,x6]] w4 (λe w7=>∃(x8:Int) (b9:Bool),e=Value.tuple #[x8,b9]/\
 ∃(H4:Option Addr),ld w7.drew (ae (some a0) 0)=some (.pointer H4)/\
 ∃(Wh:Option Addr),ld w7.drew (ae (some a1) 0)=some (.pointer Wh)/\
 ah 137 #[Wh] w7.drew (λe cM=>∃(wH:Sl),e=wH/\
 ag cM (ae (some a0) 0) 0 [.pointer H4]/\ah 115 #[H4,x8,wH] cM (λe bK=>∃(cm:Int),e=cm/\
 (true=true/\Wr bK (ae (some a1) 1) 1)/\(∀cB,cB=aG bK (ae (some a1) 1) [.bool (cm !=0)]->
 R cm cB))))))))):ah 79 #[a0,a1] w R:=
 cq bT Tryz.func79 h
theorem BK.vc {a0:Addr} (h:
 ∃(s0:Sl),ld w (ae (some a0) 3)=some (.slice s0.a s0.n s0.c)/\
 ee s0.a a1 s0.n/\∃(p1:Option Addr),ld w (ae s0.a ((a1:Int).toNat*1))=some (.pointer p1)/\
 ∃(s2:Sl),ld w.drew (ae (some a0) 3)=some (.slice s2.a s2.n s2.c)/\
 (0:Int)<=a1/\a1<=((s2.c:Nat):Int)/\(0:Int)<=a1/\a1<=a1/\∃(s3:Sl),ld w.drew (ae (some a0) 3)=some (.slice s3.a s3.n s3.c)/\
 (0:Int)<=(aj (a1+1))/\(aj (a1+1))<=((s3.n:Nat):Int)/\∃l4:LV,Rd w.drew (aJ s3.a (((aj (a1+1)):Int).toNat) (s3.c) 1) l4/\ba 8 1 w.drew ⟨(aJ s2.a (0) ((a1:Int).toNat) 1),((a1:Int).toNat-0),((a1:Int).toNat-0)⟩ (s3.n-((aj (a1+1)):Int).toNat) l4/\∀(s5:Sl) (w6:World),aV 137 1 w.drew ⟨(aJ s2.a (0) ((a1:Int).toNat) 1),((a1:Int).toNat-0),((a1:Int).toNat-0)⟩ (s3.n-((aj (a1+1)):Int).toNat) l4 s5 w6->
 ag w6 (ae (some a0) 3) 0 [s3]/\ag w6 (ae (some a0) 3) 0 [s2]/\(true=true/\Wr w6 (ae (some a0) 3) 1)/\(∀w7,w7=aG w6 (ae (some a0) 3) [s5]->
 R p1 w7)):ah 80 #[a0,a1] w R:=
 cq bT Tryz.func80 h
theorem TR.vc (h:
 ah 212 #[a0] w (λe w0=>∃(p1:Option Addr),e=p1/\
 ∀w2,w2=w0.alloc (.cells #[p1] 217)->
 R (Value.pointer (some ⟨w0,0,none⟩)) w2)):ah 149 #[a0] w R:=
 cq bT Tryz.func149 h
theorem sB.vc {a0:Sl} {a1:Value} (h:
 ∃I0:Nat->Int->World->Prop,
 (∃n1,I0 n1 (0) w)/\
 ∀(n1:Nat) (wM:Nat->Value) (x3:Int) (w4:World),I0 n1 x3 w4->
 Br (decide (x3<((a0.n:Nat):Int)))
 (ee a0.a x3 a0.n/\∃(p6:Option Addr),ld w4 (ae a0.a ((x3:Int).toNat*1))=some (.pointer p6)/\
 cw Tryz.prog a1 [.pointer p6] w4 (λe w7=>∃(b8:Bool),e=b8/\
 Br b8
 (R x3 w7)
 (∃n5,n5<n1/\I0 n5 ((aj (x3+1))) w7)))
 (R (Value.int .i64 (-1)) w4)):ah 129 #[a0,a1] w R:=
 cq ⟨[(2,⟨[(8,.int .i64)],[],[]⟩)],[],[]⟩ Tryz.func129 h
theorem vG.vc {a0:Addr} {c0:Addr} (h:
 ∃(p0:Option Addr),ld w.drew (ae (some a0) 0)=some (.pointer p0)/\
 aP (dB p0) (aP (dB p0) (∃(x1 x2:Int),ag w.drew (ae p0 0) 0 [x1,x2]/\
 ∃(x3 x4:Int),ag w.drew (some c0) 0 [x3,x4]/\
 ah 95 #[.agg #[x1,x2]] w.drew (λe w5=>∃(x6 x7:Int),e=Value.agg #[x6,x7]/\
 ag w5 (some c0) 0 [x3,x4]/\ag w5 (ae (some a0) 0) 0 [.pointer p0]/\R (Value.bool ((x6==x3) &&(x7==x4))) w5)))):ah 130 #[a0,c0] w R:=
 cq bT Tryz.func130 h
theorem xD.vc (h:
 ∀w0,w0=w.alloc (.cells #[aA,aq] 172)->
 ∀w1,w1=w0.alloc (.cells #[ab,ab] 40)->
 ∀w2,w2=w1.setRow w0 #[aA,aq]->
 R (Value.agg #[aA,aq]) w2):ah 95 #[.agg #[aA,aq]] w R:=
 cq bT Tryz.func95 h
theorem vH.vc {a0:Addr} (h:
 ∃(x0:Int),ld w (ae (some a0) 2)=some (.int .i64 x0)/\
 R (Value.bool (x0==0)) w):ah 131 #[a0] w R:=
 cq bT Tryz.func131 h
theorem TS.vc (h:
 Br (a0>=0)
 (R (Value.bool (decide (a0<=1099511627776))) w)
 (R false w)):ah 132 #[a0] w R:=
 cq bT Tryz.func132 h
theorem TT.vc {a0:Sl} (h:
 ∃I0:Nat->Sl->Int->Int->Sl->World->Prop,
 (∃n1,I0 n1 a0 ((-1)) a1 ⟨none,0,0⟩ w)/\
 ∀(n1:Nat) (wM:Nat->Value) (s3:Sl) (x4 x5:Int) (s6:Sl) (w7:World),I0 n1 s3 x4 x5 s6 w7->
 Br (decide ((((s3.n:Nat):Int):Int)>0))
 (ee s3.a 0 s3.n/\∃(x9:Int),ld w7 (ae s3.a ((0:Int).toNat*1))=some (.int .u8 x9)/\
 ∀bD,bD=w7.alloc (.cells #[ab,ab] 252)->
 ∀aW,aW=bD.setRow w7 #[ab,(aj x9)]->
 ah 108 #[(aj x9)] aW (Rb λE6 cM=>Kp w7 aW cM/\
 Br (!E6)
 (R (Value.tuple #[.slice none 0 0,(2:Int)]) cM)
 (Br (((aj x9):Int)==x4)
 (R (Value.tuple #[.slice none 0 0,(2:Int)]) cM)
 ((0:Int)<=((s3.n:Nat):Int)/\((s3.n:Nat):Int)<=((s3.c:Nat):Int)/\(0:Int)<=((s3.n:Nat):Int)/\(((s3.n:Nat):Int):Int)<=((s3.n:Nat):Int)/\(0:Int)<=1/\(1:Int)<=((s3.n:Nat):Int)/\ah 184 #[.slice (aJ s3.a ((1:Int).toNat) ((((s3.n:Nat):Int):Int).toNat) 1) ((((s3.n:Nat):Int):Int).toNat-(1:Int).toNat) ((((s3.n:Nat):Int):Int).toNat-(1:Int).toNat)] cM (λe bK=>∃(cm cp cT:Int),e=Value.tuple #[cm,cp,cT]/\Kp w7 cM bK/\
 Br (cT !=0)
 (R (Value.tuple #[.slice none 0 0,cT]) bK)
 (Br (cm==0)
 (R (Value.tuple #[.slice none 0 0,(2:Int)]) bK)
 (Br (cm>x5)
 (R (Value.tuple #[.slice none 0 0,(2:Int)]) bK)
 (∀dA,dA=bK.setRow w7 #[cm,(aj x9)]->
 (0:Int)<=(aj (1+cp))/\(aj (1+cp))<=((s3.n:Nat):Int)/\∀fy,fy=dA.drew.alloc (.cells #[cm,(aj x9)] 252)->
 ba 16 2 fy s6 1 [cm,(aj x9)]/\∀(uB:Sl) (ed:World),aV 252 2 fy s6 1 [cm,(aj x9)] uB ed->Kp w7 fy ed/\ed.heap[dA.drew.heap.size]? =fy.heap[dA.drew.heap.size]?/\
 Br (((aj (x5-cm)):Int)==0)
 (Br (decide (((aj (x5-cm)):Int)>0))
 (R (Value.tuple #[.slice none 0 0,(3:Int)]) ed)
 (Br (decide (((((s3.n-((aj (1+cp)):Int).toNat):Nat):Int):Int)>0))
 (R (Value.tuple #[.slice none 0 0,(2:Int)]) ed)
 (R (Value.tuple #[uB,ab]) ed)))
 (∃n8,n8<n1/\I0 n8 ⟨(aJ s3.a (((aj (1+cp)):Int).toNat) (s3.c) 1),(s3.n-((aj (1+cp)):Int).toNat),(s3.c-((aj (1+cp)):Int).toNat)⟩ ((aj x9)) ((aj (x5-cm))) uB ed)))))))))
 (Br (x5>0)
 (R (Value.tuple #[.slice none 0 0,(3:Int)]) w7)
 (Br (decide ((((s3.n:Nat):Int):Int)>0))
 (R (Value.tuple #[.slice none 0 0,(2:Int)]) w7)
 (R (Value.tuple #[s6,ab]) w7)))):ah 134 #[a0,a1] w R:=
 cq ⟨[(3,⟨[(0,.slice),(7,.int .i64),(1,.int .i64),(6,.slice)],[],[]⟩)],[],[]⟩ Tryz.func134 h
theorem zc.vc {a0:Addr} (h:
 ∃(p0:Option Addr),ld w (ae (some a0) 0)=some (.pointer p0)/\
 R (Value.func (.func 83) #[p0] #[]) w):ah 27 #[a0] w R:=
 cq bT Tryz.func27 h
theorem TU.vc {a1:Sl} (h:
 ∀w0,w0=w.alloc (.cells #[aA,aq] 40)->
 ah 185 #[a1,(8192:Int)] w0 (Rb λb2 w1=>Kp w w0 w1/\
 Br (!b2)
 (R (Value.tuple #[.pointer none,(1:Int)]) w1)
 ((ah 186 #[a1] w1.drew (Rs λs4 w3=>Kp w w1.drew w3/\
 ∀w5,w5=w3.alloc (.cells #[aA,aq,s4] 175)->
 R (Value.tuple #[.pointer (some ⟨w3,0,none⟩),ab]) w5))/\(ah 186 #[a1] w1.drew (Rs λs7 w6=>Kp w w1.drew w6/\
 ag w6 w 0 [aA,aq]/\∀w8,w8=w6.alloc (.cells #[aA,aq,s7] 175)->
 R (Value.tuple #[.pointer (some ⟨w6,0,none⟩),ab]) w8))))):ah 135 #[.agg #[aA,aq],a1] w R:=
 cq bT Tryz.func135 h
theorem Tu.vc (h:
 ∀w0,w0=w.alloc (.cells #[ak,ao] 40)->
 ∀w1,w1=w0.alloc (.cells #[.slice none 0 0] 32)->
 ah 187 #[a0,.agg #[ak,ao]] w1 (Rv λv3 w2=>K2 w w0 w1 w2 (
 ∃(xs4:List (LV)) (Rd5 F6:Nat->Prop) (I7:Nat->(Nat->Prop)->Sl->World->Prop) (X8:Option Nat->(Nat->Prop)->Sl->World->Prop),
 (∀x ∈ xs4,∃(x9:Int),x=[.int .i64 x9])/\
 (∀(n10:Nat) (F11:Nat->Prop) (jJ:Sl) (bF bK:World),I7 n10 F11 jJ bF->Below w2 bF bK->(∀i,F11 i->bK.heap[i]? =bF.heap[i]?)->I7 n10 F11 jJ bK)/\
 (∀(n15:Option Nat) (F16:Nat->Prop) (E9:Sl) (dA fy:World),X8 n15 F16 E9 dA->Below w2 dA fy->(∀i,F16 i->fy.heap[i]? =dA.heap[i]?)->X8 n15 F16 E9 fy)/\
 (∀(QN:Nat) (F21:Nat->Prop) (s22:Sl) (dT:World),I7 QN F21 s22 dT->∀i,F21 i->i<dT.heap.size/\i≠w2.heap.size/\i≠w2.heap.size+1)/\
 (∀(n24:Option Nat) (F25:Nat->Prop) (N5:Sl) (eo:World),X8 n24 F25 N5 eo->∀i,F25 i->i<eo.heap.size/\i≠w2.heap.size/\i≠w2.heap.size+1)/\
 (∀i,Rd5 i->i<w2.heap.size/\¬F6 i/\i≠w.heap.size/\i≠w0.heap.size/\True)/\
 (∀gn:World,KJ w2 w2 gn->Iter Tryz.prog (v3) gn Rd5 xs4/\aO [ak,ao]/\I7 0 F6 ⟨none,0,0⟩ gn)/\
 (∀(WO:Nat) (F30:Nat->Prop) (apH:Nat->Value) (oB:Sl) (ey:Int) (iL:World),xs4[WO]? =some [.int .i64 ey]->I7 WO F30 oB iL->
 Below iL iL iL/\∀ie:World,Rec (w2.heap.size+1) iL ie->I7 WO F30 oB ie->
 ∀jl,jl=ie.alloc (.cells #[ey] 3)->
 ba 8 1 jl oB 1 [ey]/\∀(s37:Sl) (mX:World),aV 3 1 jl oB 1 [ey] s37 mX->K3 w w0 ie jl mX (
 ∀jD,jD=mX.setRow w0 #[s37]->
 ∃F40:Nat->Prop,(aO [ak,ao]/\I7 (WO+1) F40 s37 jD)/\Step (λi=>(F30 i\/i ∈([w.heap.size,w0.heap.size]:List Nat))\/iL.heap.size<=i) (λi=>F40 i\/i ∈([w.heap.size,w0.heap.size]:List Nat)) ie jD))/\
 (∀(F41:Nat->Prop) (aw7:Nat->Value) (s43:Sl) (jV:World),I7 xs4.length F41 s43 jV->jV.heap[w2.heap.size]? =some (.deferred (some []))->
 ah 189 #[s43] jV (Rs λs46 yN=>K2 w w0 jV yN (
 ah 188 #[s46] yN (Rs λQM jQ=>K2 w w0 yN jQ (
 jQ.heap[w2.heap.size]? =some (.deferred (some []))/\∀kv:World,Rec w2 jQ kv->
 R QM kv)))))/\
 True))):ah 136 #[a0,.agg #[ak,ao]] w R:=
 cq ⟨[],[],[(4,⟨[],[(1,[.slice])],[]⟩,[.sc (.int .i64)])]⟩ Tryz.func136 h
theorem Xq.vc (h:
 Br (a1<1)
 (R (0:Int) w)
 (aP (JX a1) (aP (JX a1) (Br (decide (((Int.tmod a0 a1):Int)<0))
 (R ((aj ((aj (Int.tdiv a0 a1))-1))) w)
 (R ((aj (Int.tdiv a0 a1))) w))))):ah 192 #[a0,a1] w R:=
 cq bT Tryz.func192 h
theorem xE.vc (h:
 ∀w0,w0=w.alloc (.cells #[aA,aq] 172)->
 ∀w1,w1=w0.alloc (.cells #[ak,ao,aw] 41)->
 ah 255 #[.agg #[ak,ao,aw]] w1 (λe w2=>∃(x3:Int) (b4:Bool),e=Value.tuple #[x3,b4]/\K2 w w0 w1 w2 (
 Br b4
 (ah 139 #[.agg #[ak,ao,aw]] w2.drew (Ra2 λx6 x7 w5=>K2 w w0 w2.drew w5 (
 ag w5 w 0 [aA,aq]/\R (Value.tuple #[x3,.bool ((x6==aA) &&(x7==aq))]) w5)))
 (R (Value.tuple #[x3,false]) w2.drew)))):ah 193 #[.agg #[aA,aq],.agg #[ak,ao,aw]] w R:=
 cq bT Tryz.func193 h
theorem ab9.vc {a0:Sl} (h:
 ∃I0:Nat->Int->Int->World->Prop,
 (∃n1,I0 n1 (0) a1 w)/\
 ∀(n1:Nat) (wM:Nat->Value) (x3 x4:Int) (w5:World),I0 n1 x3 x4 w5->
 Br (decide (x3<((a0.n:Nat):Int)))
 (ee a0.a x3 a0.n/\∃(x7 x8:Int),ag w5 (ae a0.a ((x3:Int).toNat*2)) 0 [x7,x8]/\
 ∀w9,w9=w5.alloc (.cells #[ab,ab] 252)->
 ∀bD,bD=w9.setRow w5 #[x7,x8]->
 Br (x4>=0)
 (Br (x4<x7)
 (R x8 bD)
 (∃n6,n6<n1/\I0 n6 ((aj (x3+1))) ((aj (x4-x7))) bD))
 (∃n6,n6<n1/\I0 n6 ((aj (x3+1))) ((aj (x4-x7))) bD))
 (R (Value.int .i64 (-1)) w5)):ah 194 #[a0,a1] w R:=
 cq ⟨[(2,⟨[(9,.int .i64),(1,.int .i64)],[],[]⟩)],[],[]⟩ Tryz.func194 h
theorem TV.vc (h:
 Br (a0>=8)
 (R (Value.bool (decide (a0<16))) w)
 (R false w)):ah 202 #[a0] w R:=
 cq bT Tryz.func202 h
theorem zK.vc {a0:Addr} (h:
 ∃(s0:Sl),ld w (ae (some a0) 3)=some (.slice s0.a s0.n s0.c)/\
 ∃I1:Nat->Int->Sl->World->Prop,
 (∃n2,I1 n2 (0) ⟨none,0,0⟩ w)/\
 ∀(n2:Nat) (us3:Nat->Value) (x4:Int) (s5:Sl) (w6:World),I1 n2 x4 s5 w6->
 Br (decide (x4<((s0.n:Nat):Int)))
 (ee s0.a x4 s0.n/\∃(p8:Option Addr),ld w6 (ae s0.a ((x4:Int).toNat*1))=some (.pointer p8)/\
 aP (dB p8) (aP (dB p8) (∃(p9:Option Addr),ld w6 (ae p8 0)=some (.pointer p9)/\
 aP (dB p9) (aP (dB p9) (∃(bj bz:Int),ag w6 (ae p9 0) 0 [bj,bz]/\
 ah 95 #[.agg #[bj,bz]] w6 (λe cM=>∃(cc bW:Int),e=Value.agg #[cc,bW]/\
 ∀dY,dY=cM.alloc (.cells #[cc,bW] 40)->
 ba 16 2 dY s5 1 [cc,bW]/\∀(WR:Sl) (cE:World),aV 40 2 dY s5 1 [cc,bW] WR cE->Kp cM dY cE/\
 ∃n7,n7<n2/\I1 n7 ((aj (x4+1))) WR cE))))))
 (R s5 w6)):ah 37 #[a0] w R:=
 cq ⟨[(3,⟨[(11,.int .i64),(3,.slice)],[],[]⟩)],[],[]⟩ Tryz.func37 h
theorem Kw.vc (h:
 ∀w0,w0=w.alloc (.cells #[aA,aq] 40)->
 ∀w1,w1=w0.alloc (.cells #[ab,ab,ab,ab,ab,ab,ab,ab,ab,ab] 227)->
 Wt w1 ⟨w0,0,none⟩ 10/\Nb w0 w/\(∀w2,w2=aG w1 (some ⟨w0,0,none⟩) [aA,aq,(aj (aA-1)),aq,(aj (aA+1)),aq,aA,(aj (aq-1)),aA,(aj (aq+1))]->
 ∃(x3 x4 x5 x6 x7 x8 x9 bj bz bU:Int),ag w2 (some ⟨w0,0,none⟩) 0 [x3,x4,x5,x6,x7,x8,x9,bj,bz,bU]/\
 R (Value.agg #[x3,x4,x5,x6,x7,x8,x9,bj,bz,bU]) w2)):ah 150 #[.agg #[aA,aq]] w R:=
 cq bT Tryz.func150 h
theorem uD.vc {a0:Sl} (h:
 ∀w0,w0=w.alloc (.cells #[ak,ao] 40)->
 ah 213 #[a0,.agg #[ak,ao]] w0 (Ri λx2 w1=>Kp w w0 w1/\
 R (Value.bool (decide (x2>=0))) w1)):ah 151 #[a0,.agg #[ak,ao]] w R:=
 cq bT Tryz.func151 h
theorem K1.vc (h:
 ah 202 #[a0] w (λe w0=>∃(b1:Bool),e=b1/\
 Br (!b1)
 (R (Value.int .i64 (-1)) w0)
 (R ((aj (a0-8))) w0))):ah 280 #[a0] w R:=
 cq bT Tryz.func280 h
theorem To.vc (h:
 aP (JX a1) (Br (decide (((aj ((aj (Int.tdiv a0 a1))*a1)):Int)>a0))
 (R ((aj ((aj (Int.tdiv a0 a1))-1))) w)
 (R ((aj (Int.tdiv a0 a1))) w))):ah 86 #[a0,a1] w R:=
 cq bT Tryz.func86 h
theorem TW.vc (h:
 Br (a0>=0)
 (Br (a0<=15)
 (Br (a0 !=6)
 (R (Value.bool (a0 !=7)) w)
 (R false w))
 (R false w))
 (R false w)):ah 111 #[a0] w R:=
 cq bT Tryz.func111 h
theorem Xs.vc (h:
 Br (a1<1)
 (R (0:Int) w)
 (aP (JX a1) (Br (decide (((Int.tmod a0 a1):Int)<0))
 (R ((aj ((Int.tmod a0 a1)+a1))) w)
 (R (Value.int .i64 (Int.tmod a0 a1)) w)))):ah 282 #[a0,a1] w R:=
 cq bT Tryz.func282 h
theorem Ps.vc (h:
 Br (a0<0)
 (R (Value.string (ByteArray.mk #[])) w)
 (Br (a0>=16)
 (R (Value.string (ByteArray.mk #[])) w)
 (ah 218 #[] w (λe w0=>∃(t1 t2 t3 t4 t5 t6 t7 t8 t9 t10 t11 t12 t13 t14 t15 t16:ByteArray),e=Value.agg #[.string t1,.string t2,.string t3,.string t4,.string t5,.string t6,.string t7,.string t8,.string t9,.string t10,.string t11,.string t12,.string t13,.string t14,.string t15,.string t16]/\
 ((0:Int)<=a0/\a0<((16:Nat):Int))/\∃(t17:ByteArray),([.string t1,.string t2,.string t3,.string t4,.string t5,.string t6,.string t7,.string t8,.string t9,.string t10,.string t11,.string t12,.string t13,.string t14,.string t15,.string t16]:LV)[(a0:Int).toNat*1]? =some (.string t17)/\
 R (Value.string t17) w0)))):ah 158 #[a0] w R:=
 cq bT Tryz.func158 h
theorem XN.vc {a0:Sl} (h:
 Br (a1<0)
 (ah 186 #[a0] w (λe w0=>∃(s1:Sl),e=s1/\
 R s1 w0))
 (ah 253 #[a0] w (λe w2=>∃(x3:Int),e=x3/\
 Br (a1>=x3)
 (ah 186 #[a0] w2 (λe w4=>∃(s5:Sl),e=s5/\
 R s5 w4))
 (ah 309 #[a0,a1,(aj (a1+1)),a2] w2 (λe w6=>∃(s7:Sl),e=s7/\
 R s7 w6))))):ah 295 #[a0,a1,a2] w R:=
 cq bT Tryz.func295 h
theorem xF.vc {a0:Addr} (h:
 ∃(s0:Sl),ld w (ae (some a0) 2)=some (.slice s0.a s0.n s0.c)/\
 ah 190 #[s0] w (λe w1=>∃(s2:Sl) (x3:Int),e=Value.tuple #[s2,x3]/\
 R s2 w1)):ah 137 #[a0] w R:=
 cq bT Tryz.func137 h
theorem XO.vc (h:
 ∀w0,w0=w.alloc (.map #[] 0)->
 ∀w1,w1=w0.alloc (.cells #[.int .i64 (if 1048576<(if 0>a0 then 0 else a0) then 1048576 else (if 0>a0 then 0 else a0)),ab,ab,.map (some w.heap.size),.slice none 0 0] 277)->
 R (Value.pointer (some ⟨w0,0,none⟩)) w1):ah 212 #[a0] w R:=
 cq bT Tryz.func212 h
theorem FZ.vc {a0:Addr} (h:
 ah 228 #[a0] w (λe w0=>∃(m1:Option Nat),e=Value.map m1/\
 ∃(G2:Value->Prop) (kvs3:List (Value × Value)),iE Tryz.prog 3 G2/\cj G2 w0 m1 kvs3/\G2 a1/\∃(s4:Sl),∃b5:Bool,F7 kvs3 a1 (.slice none 0 0) s4 b5/\
 ah 230 #[s4] w0 (λe w6=>∃(s7:Sl),e=s7/\
 R (Value.tuple #[s7,b5]) w6))):ah 182 #[a0,a1] w R:=
 cq bT Tryz.func182 h
theorem Pt.vc {a0:Sl} (h:
 ah 246 #[a0] w (λe w0=>∃(s1:Sl) (x2:Int),e=Value.tuple #[s1,x2]/\
 Br (x2 !=0)
 (R (Value.tuple #[ab,.slice none 0 0,x2]) w0)
 (Br (decide ((((s1.n:Nat):Int):Int)<7))
 (R (Value.tuple #[ab,.slice none 0 0,(3:Int)]) w0)
 ((0:Int)<=4/\4<=((s1.c:Nat):Int)/\(0:Int)<=7/\7<=((s1.c:Nat):Int)/\(0:Int)<=4/\(4:Int)<=7/\(0:Int)<=7/\7<=((s1.n:Nat):Int)/\ah 247 #[.slice (aJ s1.a (0) (s1.c) 1) ((4:Int).toNat-0) (s1.c-0)] w0.drew (λe w3=>∃(x4:Int),e=x4/\
 ah 247 #[.slice (aJ s1.a ((4:Int).toNat) (s1.c) 1) ((7:Int).toNat-(4:Int).toNat) (s1.c-(4:Int).toNat)] w3 (λe w5=>∃(x6:Int),e=x6/\
 Br (x4<1)
 (R (Value.tuple #[ab,.slice none 0 0,(2:Int)]) w5)
 (Br (x4>1073741824)
 (R (Value.tuple #[ab,.slice none 0 0,(2:Int)]) w5)
 (Br (x6>65536)
 (R (Value.tuple #[ab,.slice none 0 0,(2:Int)]) w5)
 (Br (x6 !=(((s1.n-(7:Int).toNat):Nat):Int))
 (R (Value.tuple #[ab,.slice none 0 0,(2:Int)]) w5)
 (R (Value.tuple #[x4,.slice (aJ s1.a ((7:Int).toNat) (s1.c) 1) (s1.n-(7:Int).toNat) (s1.c-(7:Int).toNat),ab]) w5)))))))))):ah 183 #[a0] w R:=
 cq bT Tryz.func183 h
theorem K9.vc {a0:Sl} (h:
 (0:Int)<=(if 3<((a0.n:Nat):Int) then 3 else ((a0.n:Nat):Int))/\(if 3<((a0.n:Nat):Int) then 3 else ((a0.n:Nat):Int))<=((a0.c:Nat):Int)/\∃I0:Nat->Int->Int->World->Prop,
 (∃n1,I0 n1 (0) (0) w)/\
 ∀(n1:Nat) (wM:Nat->Value) (x3 x4:Int) (w5:World),I0 n1 x3 x4 w5->
 Br (decide (x3<(((((if 3<((a0.n:Nat):Int) then 3 else ((a0.n:Nat):Int)):Int).toNat-0):Nat):Int)))
 (ee (aJ a0.a (0) (a0.c) 1) x3 (((if 3<((a0.n:Nat):Int) then 3 else ((a0.n:Nat):Int)):Int).toNat-0)/\∃(x7:Int),ld w5 (ae (aJ a0.a (0) (a0.c) 1) ((x3:Int).toNat*1))=some (.int .u8 x7)/\
 aP (ngC (aj (7*x3))) (Br (x7>=128)
 (∃n6,n6<n1/\I0 n6 ((aj (x3+1))) ((Kl .i64 x4 (aj ((aj (lj .u8 x7 128))*2 ^(min ((aj (7*x3)):Int).toNat 64))))) w5)
 (Br (x7==0)
 (Br (x3>0)
 (R (Value.tuple #[ab,ab,(2:Int)]) w5)
 (Br (decide (((Kl .i64 x4 (aj ((aj (lj .u8 x7 128))*2 ^(min ((aj (7*x3)):Int).toNat 64)))):Int)>1048576))
 (R (Value.tuple #[ab,ab,(2:Int)]) w5)
 (R (Value.tuple #[.int .i64 (Kl .i64 x4 (aj ((aj (lj .u8 x7 128))*2 ^(min ((aj (7*x3)):Int).toNat 64)))),(aj (x3+1)),ab]) w5)))
 (Br (decide (((Kl .i64 x4 (aj ((aj (lj .u8 x7 128))*2 ^(min ((aj (7*x3)):Int).toNat 64)))):Int)>1048576))
 (R (Value.tuple #[ab,ab,(2:Int)]) w5)
 (R (Value.tuple #[.int .i64 (Kl .i64 x4 (aj ((aj (lj .u8 x7 128))*2 ^(min ((aj (7*x3)):Int).toNat 64)))),(aj (x3+1)),ab]) w5)))))
 (Br (decide ((((a0.n:Nat):Int):Int)<3))
 (R (Value.tuple #[ab,ab,(3:Int)]) w5)
 (R (Value.tuple #[ab,ab,(2:Int)]) w5))):ah 184 #[a0] w R:=
 cq ⟨[(3,⟨[(14,.int .i64),(5,.int .i64)],[],[]⟩)],[],[]⟩ Tryz.func184 h
theorem XP.vc {a0:Sl} (h:
 ∃I0:Nat->Int->Int->World->Prop,
 (∃n1,I0 n1 (0) a1 w)/\
 ∀(n1:Nat) (wM:Nat->Value) (x3 x4:Int) (w5:World),I0 n1 x3 x4 w5->
 Br (decide (x3<((a0.n:Nat):Int)))
 (ee a0.a x3 a0.n/\∃(x7 x8:Int),ag w5 (ae a0.a ((x3:Int).toNat*2)) 0 [x7,x8]/\
 ∀w9,w9=w5.alloc (.cells #[ab,ab] 252)->
 ∀bD,bD=w9.setRow w5 #[x7,x8]->
 Br (x7<1)
 (R false bD.drew)
 (Br (x7>x4)
 (R false bD.drew)
 (ah 108 #[x8] bD.drew (Rb λQL aW=>Kp w5 bD.drew aW/\
 ag aW w5 0 [x7]/\ag aW w5 0 [x7]/\Br (!QL)
 (R false aW)
 (Br (x3>0)
 (ee a0.a (aj (x3-1)) a0.n/\aP (dB (ae a0.a (((aj (x3-1)):Int).toNat*2))) (∃(cc:Int),ld aW (ae (ae a0.a (((aj (x3-1)):Int).toNat*2)) 1)=some (.int .i64 cc)/\
 Br (cc==x8)
 (R false aW)
 (∃n6,n6<n1/\I0 n6 ((aj (x3+1))) ((aj (x4-x7))) aW)))
 (∃n6,n6<n1/\I0 n6 ((aj (x3+1))) ((aj (x4-x7))) aW))))))
 (Br (a1>0)
 (R (Value.bool (x4==0)) w5)
 (R false w5))):ah 185 #[a0,a1] w R:=
 cq ⟨[(3,⟨[(11,.int .i64),(5,.int .i64)],[],[]⟩)],[],[]⟩ Tryz.func185 h
theorem zL.vc {a0:Sl} (h:
 Br (a0.a).isNone
 (R (Value.slice none 0 0) w)
 (∀w0,w0=w.alloc (.cells #[] 252)->
 ∃l1:LV,Rd w0 a0.a l1/\ba 16 2 w0 ⟨(some ⟨w,0,none⟩),0,0⟩ a0.n l1/\∀(s2:Sl) (w3:World),aV 252 2 w0 ⟨(some ⟨w,0,none⟩),0,0⟩ a0.n l1 s2 w3->Kp w w0 w3/\
 R s2 w3)):ah 186 #[a0] w R:=
 cq bT Tryz.func186 h
theorem TX.vc (h:
 ∀w0,w0=w.alloc (.cells #[a0] 3)->
 ∀w1,w1=w0.alloc (.cells #[ak,ao] 40)->
 R (Value.func (.func 248) #[] #[.pointer (some ⟨w0,0,none⟩),w]) w1):ah 187 #[a0,.agg #[ak,ao]] w R:=
 cq bT Tryz.func187 h
theorem aca.vc {a0:Sl} (h:
 ∃I0:Nat->Int->Sl->World->Prop,
 (∃n1,I0 n1 (0) ⟨none,0,0⟩ w)/\
 ∀(n1:Nat) (wM:Nat->Value) (x3:Int) (s4:Sl) (w5:World),I0 n1 x3 s4 w5->
 Br (decide (x3<((a0.n:Nat):Int)))
 (ee a0.a x3 a0.n/\∃(x7:Int),ld w5 (ae a0.a ((x3:Int).toNat*1))=some (.int .i64 x7)/\
 ah 252 #[s4,.agg #[(1:Int),x7]] w5 (λe w8=>∃(s9:Sl),e=s9/\
 ∃n6,n6<n1/\I0 n6 ((aj (x3+1))) s9 w8))
 (R s4 w5)):ah 188 #[a0] w R:=
 cq ⟨[(3,⟨[(8,.int .i64),(3,.slice)],[],[]⟩)],[],[]⟩ Tryz.func188 h
theorem Bz.vc {a0:Sl} (h:
 (0:Int)<=((a0.n:Nat):Int)/\((a0.n:Nat):Int)<=((a0.c:Nat):Int)/\(0:Int)<=((a0.n:Nat):Int)/\(((a0.n:Nat):Int):Int)<=((a0.n:Nat):Int)/\R (Value.slice (aJ a0.a (0) ((((a0.n:Nat):Int):Int).toNat) 1) ((((a0.n:Nat):Int):Int).toNat-0) ((((a0.n:Nat):Int):Int).toNat-0)) w):ah 189 #[a0] w R:=
 cq bT Tryz.func189 h
theorem ze.vc {a0:Sl} (h:
 ∀w0,w0=w.alloc (.cells #[ak,ao] 40)->
 ∃I1:Nat->Int->World->Prop,
 (∃n2,aO [ak,ao]/\I1 n2 (0) w0)/\
 ∀(n2:Nat) (us3:Nat->Value) (x4:Int) (w5:World),I1 n2 x4 w5->
 Br (decide (x4<((a0.n:Nat):Int)))
 (ee a0.a x4 a0.n/\∃(x7 x8:Int),ag w5.drew (ae a0.a ((x4:Int).toNat*2)) 0 [x7,x8]/\
 Br ((ak==x7) &&(ao==x8))
 (R x4 w5.drew)
 (∃n6,n6<n2/\aO [ak,ao]/\I1 n6 ((aj (x4+1))) w5.drew))
 (R (Value.int .i64 (-1)) w5)):ah 213 #[a0,.agg #[ak,ao]] w R:=
 cq ⟨[(2,⟨[(8,.int .i64)],[],[]⟩)],[],[]⟩ Tryz.func213 h
theorem IK.vc (h:
 Br (a0==0)
 (R true w)
 (ah 202 #[a0] w (λe w0=>∃(b1:Bool),e=b1/\
 R b1 w0))):ah 144 #[a0] w R:=
 cq bT Tryz.func144 h
theorem La.vc (h:
 R ((aj (8+(if 7<(if 0>a0 then 0 else a0) then 7 else (if 0>a0 then 0 else a0))))) w):ah 302 #[a0] w R:=
 cq bT Tryz.func302 h
theorem Lb.vc (h:
 ∀w0,w0=w.alloc (.cells #[.string (ByteArray.mk #[]),.string (ByteArray.mk #[]),.string (ByteArray.mk #[]),.string (ByteArray.mk #[]),.string (ByteArray.mk #[]),.string (ByteArray.mk #[]),.string (ByteArray.mk #[]),.string (ByteArray.mk #[]),.string (ByteArray.mk #[]),.string (ByteArray.mk #[]),.string (ByteArray.mk #[]),.string (ByteArray.mk #[]),.string (ByteArray.mk #[]),.string (ByteArray.mk #[]),.string (ByteArray.mk #[]),.string (ByteArray.mk #[])] 285)->
 ∀w1,w1=w0.alloc (.cells #[.string (ByteArray.mk #[]),.string (ByteArray.mk #[]),.string (ByteArray.mk #[]),.string (ByteArray.mk #[]),.string (ByteArray.mk #[]),.string (ByteArray.mk #[]),.string (ByteArray.mk #[]),.string (ByteArray.mk #[]),.string (ByteArray.mk #[]),.string (ByteArray.mk #[]),.string (ByteArray.mk #[]),.string (ByteArray.mk #[]),.string (ByteArray.mk #[]),.string (ByteArray.mk #[]),.string (ByteArray.mk #[]),.string (ByteArray.mk #[])] 285)->
 Wt w1 ⟨w0,0,none⟩ 16/\(∀w2,w2=aG w1 (some ⟨w0,0,none⟩) [.string (ByteArray.mk #[97,105,114]),.string (ByteArray.mk #[115,116,111,110,101]),.string (ByteArray.mk #[100,105,114,116]),.string (ByteArray.mk #[115,97,110,100]),.string (ByteArray.mk #[108,97,100,100,101,114]),.string (ByteArray.mk #[103,108,97,115,115]),.string (ByteArray.mk #[]),.string (ByteArray.mk #[]),.string (ByteArray.mk #[]),.string (ByteArray.mk #[]),.string (ByteArray.mk #[]),.string (ByteArray.mk #[]),.string (ByteArray.mk #[]),.string (ByteArray.mk #[]),.string (ByteArray.mk #[]),.string (ByteArray.mk #[])]->
 ∃I3:Nat->Int->World->Prop,
 (∃n4,I3 n4 (0) w2)/\
 ∀(n4:Nat) (us5:Nat->Value) (x6:Int) (w7:World),I3 n4 x6 w7->
 Br (x6<8)
 (ah 267 #[x6] w7 (λe w9=>∃(t10:ByteArray),e=Value.string t10/\
 ((((ByteArray.mk #[119,97,116,101,114])).size+(t10).size:Nat):Int)<=IntKind.i64.max/\(0:Int)<=(aj (8+x6))/\((aj (8+x6)):Int)<((16:Nat):Int)/\(true=true/\Wr w9 (ae (some ⟨w0,0,none⟩) (((aj (8+x6)):Int).toNat*1)) 1)/\(∀aW,aW=aG w9 (ae (some ⟨w0,0,none⟩) (((aj (8+x6)):Int).toNat*1)) [.string ((ByteArray.mk #[119,97,116,101,114])++t10)]->
 ∃n8,n8<n4/\I3 n8 ((aj (x6+1))) aW)))
 (∃(t12 t13 t14 t15 t16 t17 t18 t19 t20 t21 t22 t23 t24 t25 t26 t27:ByteArray),ag w7 (some ⟨w0,0,none⟩) 0 [.string t12,.string t13,.string t14,.string t15,.string t16,.string t17,.string t18,.string t19,.string t20,.string t21,.string t22,.string t23,.string t24,.string t25,.string t26,.string t27]/\
 Wt w7 ⟨w,0,none⟩ 16/\(∀gn,gn=aG w7 w [.string t12,.string t13,.string t14,.string t15,.string t16,.string t17,.string t18,.string t19,.string t20,.string t21,.string t22,.string t23,.string t24,.string t25,.string t26,.string t27]->
 ∃(t29 t30 t31 t32 t33 t34 t35 t36 t37 t38 t39 t40 t41 t42 t43 t44:ByteArray),ag gn w 0 [.string t29,.string t30,.string t31,.string t32,.string t33,.string t34,.string t35,.string t36,.string t37,.string t38,.string t39,.string t40,.string t41,.string t42,.string t43,.string t44]/\
 R (Value.agg #[.string t29,.string t30,.string t31,.string t32,.string t33,.string t34,.string t35,.string t36,.string t37,.string t38,.string t39,.string t40,.string t41,.string t42,.string t43,.string t44]) gn)))):ah 218 #[] w R:=
 cq ⟨[(3,⟨[(4,.int .i64)],[],[]⟩)],[],[]⟩ Tryz.func218 h
theorem XQ.vc {a0:Sl} (h:
 ∃I0:Nat->Int->Int->World->Prop,
 (∃n1,I0 n1 (0) (0) w)/\
 ∀(n1:Nat) (wM:Nat->Value) (x3 x4:Int) (w5:World),I0 n1 x3 x4 w5->
 Br (decide (x3<((a0.n:Nat):Int)))
 (ee a0.a x3 a0.n/\∃(x7 x8:Int),ag w5 (ae a0.a ((x3:Int).toNat*2)) 0 [x7,x8]/\
 ∀w9,w9=w5.alloc (.cells #[ab,ab] 252)->
 ∀bD,bD=w9.setRow w5 #[x7,x8]->
 ∃n6,n6<n1/\I0 n6 ((aj (x3+1))) ((aj (x4+x7))) bD)
 (R x4 w5)):ah 253 #[a0] w R:=
 cq ⟨[(3,⟨[(8,.int .i64),(3,.int .i64)],[],[]⟩)],[],[]⟩ Tryz.func253 h
theorem TY.vc {a0:Sl} (h:
 ah 253 #[a0] w (λe w0=>∃(x1:Int),e=x1/\
 ah 108 #[a3] w0 (λe w2=>∃(b3:Bool),e=b3/\
 Br (!b3)
 (ah 186 #[a0] w2 (λe w4=>∃(s5:Sl),e=s5/\
 R s5 w4))
 (Br (decide (((if x1<(if 0>a1 then 0 else a1) then x1 else (if 0>a1 then 0 else a1)):Int)>=(if x1<(if 0>a2 then 0 else a2) then x1 else (if 0>a2 then 0 else a2))))
 (ah 186 #[a0] w2 (λe w6=>∃(s7:Sl),e=s7/\
 R s7 w6))
 (ah 319 #[a0,ab,.int .i64 (if x1<(if 0>a1 then 0 else a1) then x1 else (if 0>a1 then 0 else a1))] w2 (λe w8=>∃(s9:Sl),e=s9/\
 ah 320 #[(aj ((if x1<(if 0>a2 then 0 else a2) then x1 else (if 0>a2 then 0 else a2))-(if x1<(if 0>a1 then 0 else a1) then x1 else (if 0>a1 then 0 else a1)))),a3] w8 (λe bD=>∃(Az:Sl),e=Az/\
 ah 319 #[a0,.int .i64 (if x1<(if 0>a2 then 0 else a2) then x1 else (if 0>a2 then 0 else a2)),x1] bD (λe cM=>∃(wH:Sl),e=wH/\
 ∀bK,bK=cM.alloc (.cells #[s9,Az,wH] 173)->
 ah 318 #[.slice (some ⟨cM,0,none⟩) 3 3] bK (λe dY=>∃(WR:Sl),e=WR/\
 R WR dY))))))))):ah 309 #[a0,a1,a2,a3] w R:=
 cq bT Tryz.func309 h
theorem Pu.vc {a0:Sl} (h:
 ∃I0:Nat->Int->Int->World->Prop,
 (∃n1,I0 n1 (0) (1048576) w)/\
 ∀(n1:Nat) (wM:Nat->Value) (x3 x4:Int) (w5:World),I0 n1 x3 x4 w5->
 Br (decide (x3<((a0.n:Nat):Int)))
 (ee a0.a x3 a0.n/\∃(x7 x8:Int),ag w5 (ae a0.a ((x3:Int).toNat*2)) 0 [x7,x8]/\
 ∀w9,w9=w5.alloc (.cells #[ab,ab] 252)->
 ∀bD,bD=w9.setRow w5 #[x7,x8]->
 Br (x7<1)
 (R (Value.tuple #[.slice none 0 0,(1:Int)]) bD)
 (Br (decide (((aj (x4-x7)):Int)<0))
 (R (Value.tuple #[.slice none 0 0,(1:Int)]) bD)
 (∃n6,n6<n1/\I0 n6 ((aj (x3+1))) ((aj (x4-x7))) bD)))
 (ah 253 #[a0] w5 (λe aW=>∃(bU:Int),e=bU/\
 ah 185 #[a0,bU] aW (λe bF=>∃(b14:Bool),e=b14/\
 Br (!b14)
 (R (Value.tuple #[.slice none 0 0,(1:Int)]) bF)
 (∃I15:Nat->Int->Sl->World->Prop,
 (∃J7,I15 J7 (0) ⟨none,0,0⟩ bF)/\
 ∀(J7:Nat) (apn:Nat->Value) (cg:Int) (VT:Sl) (fh:World),I15 J7 cg VT fh->
 Br (decide (cg<((a0.n:Nat):Int)))
 (ee a0.a cg a0.n/\∃(dI dz:Int),ag fh (ae a0.a ((cg:Int).toNat*2)) 0 [dI,dz]/\
 ∀fH,fH=fh.alloc (.cells #[ab,ab] 252)->
 ∀cP,cP=fH.setRow fh #[dI,dz]->
 ∀eG,eG=cP.drew.alloc (.cells #[.int .u8 (eV dz)] 5)->
 ba 1 1 eG VT 1 [.int .u8 (eV dz)]/\∀(Sy:Sl) (gn:World),aV 5 1 eG VT 1 [.int .u8 (eV dz)] Sy gn->gn.heap[fh.heap.size]? =eG.heap[fh.heap.size]?/\gn.heap[cP.drew.heap.size]? =eG.heap[cP.drew.heap.size]?/\
 ag gn fh 0 [dI]/\ag gn (some ⟨fh,1,none⟩) 0 [dz]/\ah 254 #[dI] gn (Rs λsS dH=>dH.heap[fh.heap.size]? =gn.heap[fh.heap.size]?/\dH.heap[cP.drew.heap.size]? =gn.heap[cP.drew.heap.size]?/\
 ag dH (some ⟨fh,1,none⟩) 0 [dz]/\∃l31:LV,Rd dH sS.a l31/\ba 1 1 dH Sy sS.n l31/\∀(oB:Sl) (ej:World),aV 5 1 dH Sy sS.n l31 oB ej->ej.heap[fh.heap.size]? =dH.heap[fh.heap.size]?/\ej.heap[cP.drew.heap.size]? =dH.heap[cP.drew.heap.size]?/\
 ag ej (some ⟨fh,1,none⟩) 0 [dz]/\∃n21,n21<J7/\I15 n21 ((aj (cg+1))) oB ej))
 (R (Value.tuple #[VT,ab]) fh)))))):ah 190 #[a0] w R:=
 cq ⟨[(13,⟨[(35,.int .i64),(7,.slice)],[],[]⟩),(3,⟨[(12,.int .i64),(4,.int .i64)],[],[]⟩)],[],[]⟩ Tryz.func190 h
theorem IL.vc (h:
 Br (a0<0)
 (aP (JX a1) (R (Value.int .i64 (Int.tmod (aj (0-(aj (a0+1)))) a1)) w))
 (aP (JX a1) (R (Value.int .i64 (Int.tmod a0 a1)) w))):ah 10 #[a0,a1] w R:=
 cq bT Tryz.func10 h
theorem F8.vc {a0:Addr} (h:
 ∃(m0:Option Nat),ld w (ae (some a0) 3)=some (.map m0)/\
 ah 272 #[.map m0] w (λe w1=>∃(m2:Option Nat),e=Value.map m2/\
 ∃(s3:Sl),ld w1 (ae (some a0) 4)=some (.slice s3.a s3.n s3.c)/\
 ∃I4:Nat->Int->World->Prop,
 (∃n5,I4 n5 (0) w1)/\
 ∀(n5:Nat) (us6:Nat->Value) (x7:Int) (w8:World),I4 n5 x7 w8->
 Br (decide (x7<((s3.n:Nat):Int)))
 (ee s3.a x7 s3.n/\∃(bj:Int) (Az:Sl),ag w8 (ae s3.a ((x7:Int).toNat*2)) 0 [bj,Az]/\
 ∀cM,cM=w8.alloc (.cells #[ab,.slice none 0 0] 279)->
 ∀bF,bF=cM.setRow w8 #[bj,Az]->
 ∃(G14:Value->Prop) (kvs15:List (Value × Value)),iE Tryz.prog 3 G14/\(m2:Option Nat).isSome=true/\cj G14 bF m2 kvs15/\G14 bj/\∀cB:World,Rec ((m2:Option Nat).getD 0) bF cB->cj G14 cB m2 (vI kvs15 bj Az)->
 ∃n9,n9<n5/\I4 n9 ((aj (x7+1))) cB)
 (R (Value.map m2) w8))):ah 228 #[a0] w R:=
 cq ⟨[(3,⟨[(16,.int .i64)],[],[]⟩)],[],[]⟩ Tryz.func228 h
theorem xi.vc {a0:Sl} (h:
 Br (a0.a).isNone
 (R (Value.slice none 0 0) w)
 (∀w0,w0=w.alloc (.cells #[] 5)->
 ∃l1:LV,Rd w0 a0.a l1/\ba 1 1 w0 ⟨(some ⟨w,0,none⟩),0,0⟩ a0.n l1/\∀(s2:Sl) (w3:World),aV 5 1 w0 ⟨(some ⟨w,0,none⟩),0,0⟩ a0.n l1 s2 w3->Kp w w0 w3/\
 R s2 w3)):ah 230 #[a0] w R:=
 cq bT Tryz.func230 h
theorem Xm.vc {a0:Sl} (h:
 Br (decide ((((a0.n:Nat):Int):Int)<2))
 (R (Value.tuple #[.slice none 0 0,(3:Int)]) w)
 (ah 281 #[a0] w (λe w0=>∃(b1:Bool),e=b1/\
 Br (!b1)
 (R (Value.tuple #[.slice none 0 0,(4:Int)]) w0)
 ((0:Int)<=(aj (((a0.n:Nat):Int)-2))/\(aj (((a0.n:Nat):Int)-2))<=((a0.c:Nat):Int)/\ah 230 #[.slice (aJ a0.a (0) (a0.c) 1) (((aj (((a0.n:Nat):Int)-2)):Int).toNat-0) (a0.c-0)] w0 (λe w2=>∃(s3:Sl),e=s3/\
 R (Value.tuple #[s3,ab]) w2))))):ah 246 #[a0] w R:=
 cq bT Tryz.func246 h
theorem Lc.vc {a0:Value} {c0:Addr} {c1:Addr} (h:
 ∀w0,w0=w.alloc (.cells #[.int .i64 0,.int .i64 0,.int .i64 0,.int .i64 0,.int .i64 0,.int .i64 0,.int .i64 0,.int .i64 0,.int .i64 0,.int .i64 0,.int .i64 0,.int .i64 0,.int .i64 0,.int .i64 0,.int .i64 0,.int .i64 0,.int .i64 0,.int .i64 0,.int .i64 0,.int .i64 0,.int .i64 0,.int .i64 0,.int .i64 0,.int .i64 0,.int .i64 0,.int .i64 0,.int .i64 0,.int .i64 0,.int .i64 0,.int .i64 0,.int .i64 0,.int .i64 0,.int .i64 0,.int .i64 0,.int .i64 0,.int .i64 0,.int .i64 0,.int .i64 0,.int .i64 0,.int .i64 0,.int .i64 0,.int .i64 0,.int .i64 0,.int .i64 0,.int .i64 0,.int .i64 0,.int .i64 0,.int .i64 0,.int .i64 0,.int .i64 0,.int .i64 0,.int .i64 0,.int .i64 0,.int .i64 0,.int .i64 0,.int .i64 0,.int .i64 0,.int .i64 0,.int .i64 0,.int .i64 0,.int .i64 0,.int .i64 0,.int .i64 0,.int .i64 0,.int .i64 0,.int .i64 0,.int .i64 0,.int .i64 0,.int .i64 0,.int .i64 0,.int .i64 0,.int .i64 0,.int .i64 0,.int .i64 0,.int .i64 0,.int .i64 0,.int .i64 0,.int .i64 0,.int .i64 0,.int .i64 0,.int .i64 0,.int .i64 0,.int .i64 0,.int .i64 0,.int .i64 0,.int .i64 0,.int .i64 0,.int .i64 0,.int .i64 0,.int .i64 0,.int .i64 0,.int .i64 0,.int .i64 0,.int .i64 0,.int .i64 0,.int .i64 0,.int .i64 0,.int .i64 0,.int .i64 0,.int .i64 0,.int .i64 0,.int .i64 0,.int .i64 0,.int .i64 0,.int .i64 0,.int .i64 0,.int .i64 0,.int .i64 0,.int .i64 0,.int .i64 0,.int .i64 0,.int .i64 0,.int .i64 0,.int .i64 0,.int .i64 0,.int .i64 0,.int .i64 0,.int .i64 0,.int .i64 0,.int .i64 0,.int .i64 0,.int .i64 0,.int .i64 0,.int .i64 0,.int .i64 0,.int .i64 0,.int .i64 0,.int .i64 0,.int .i64 0,.int .i64 0,.int .i64 0,.int .i64 0,.int .i64 0,.int .i64 0,.int .i64 0,.int .i64 0,.int .i64 0,.int .i64 0,.int .i64 0,.int .i64 0,.int .i64 0,.int .i64 0,.int .i64 0,.int .i64 0,.int .i64 0,.int .i64 0,.int .i64 0,.int .i64 0,.int .i64 0,.int .i64 0,.int .i64 0,.int .i64 0,.int .i64 0,.int .i64 0,.int .i64 0,.int .i64 0,.int .i64 0,.int .i64 0,.int .i64 0,.int .i64 0,.int .i64 0,.int .i64 0,.int .i64 0,.int .i64 0,.int .i64 0,.int .i64 0,.int .i64 0,.int .i64 0,.int .i64 0,.int .i64 0,.int .i64 0,.int .i64 0,.int .i64 0,.int .i64 0,.int .i64 0,.int .i64 0,.int .i64 0,.int .i64 0,.int .i64 0,.int .i64 0,.int .i64 0,.int .i64 0,.int .i64 0,.int .i64 0,.int .i64 0,.int .i64 0,.int .i64 0,.int .i64 0,.int .i64 0,.int .i64 0,.int .i64 0,.int .i64 0,.int .i64 0,.int .i64 0,.int .i64 0,.int .i64 0,.int .i64 0,.int .i64 0,.int .i64 0,.int .i64 0,.int .i64 0,.int .i64 0,.int .i64 0,.int .i64 0,.int .i64 0,.int .i64 0,.int .i64 0,.int .i64 0,.int .i64 0,.int .i64 0,.int .i64 0,.int .i64 0,.int .i64 0,.int .i64 0,.int .i64 0,.int .i64 0,.int .i64 0,.int .i64 0,.int .i64 0,.int .i64 0,.int .i64 0,.int .i64 0,.int .i64 0,.int .i64 0,.int .i64 0,.int .i64 0,.int .i64 0,.int .i64 0,.int .i64 0,.int .i64 0,.int .i64 0,.int .i64 0,.int .i64 0,.int .i64 0,.int .i64 0,.int .i64 0,.int .i64 0,.int .i64 0,.int .i64 0,.int .i64 0,.int .i64 0,.int .i64 0,.int .i64 0,.int .i64 0,.int .i64 0,.int .i64 0,.int .i64 0,.int .i64 0,.int .i64 0,.int .i64 0,.int .i64 0,.int .i64 0,.int .i64 0,.int .i64 0,.int .i64 0,.int .i64 0] 311)->
 ∃I1:Nat->Int->World->Prop,
 (∃n2,I1 n2 (0) w0)/\
 ∀(n2:Nat) (us3:Nat->Value) (x4:Int) (w5:World),I1 n2 x4 w5->
 Br (x4<256)
 (∃(x7 x8:Int),ag w5 (some c0) 0 [x7,x8]/\
 ah 249 #[.agg #[x7,x8],x4] w5 (λe w9=>∃(bj bz bU:Int) (E6:Bool),e=Value.tuple #[.agg #[bj,bz,bU],E6]/\
 ∀bK,bK=w9.alloc (.cells #[ab,ab,ab] 41)->
 ∀dY,dY=bK.setRow w9 #[bj,bz,bU]->
 ∃(cp:Int),ld dY (some c1)=some (.int .i64 cp)/\
 ah 250 #[cp,bj,bU] dY (Ri λcg cE=>Kp w9 dY cE/\
 (0:Int)<=x4/\x4<((256:Nat):Int)/\(true=true/\Wr cE (ae (some ⟨w,0,none⟩) ((x4:Int).toNat*1)) 1)/\bC (ae (some ⟨w,0,none⟩) ((x4:Int).toNat*1))≠some w9.heap.size/\(∀fy,fy=aG cE (ae (some ⟨w,0,none⟩) ((x4:Int).toNat*1)) [cg]->
 ∃n6,n6<n2/\I1 n6 ((aj (x4+1))) fy))))
 (∃I20:Nat->Int->World->Prop,
 (∃n21,I20 n21 (0) w5)/\
 ∀(n21:Nat) (axa:Nat->Value) (dz:Int) (fH:World),I20 n21 dz fH->
 Br (dz<8192)
 ((0:Int)<=(Int.tmod dz 256)/\((Int.tmod dz 256):Int)<((256:Nat):Int)/\∃(fk:Int),ld fH (ae (some ⟨w,0,none⟩) (((Int.tmod dz 256):Int).toNat*1))=some (.int .i64 fk)/\
 ah 251 #[(aj (Int.tdiv dz 256)),fk] fH (λe eo=>∃(gy:Int),e=gy/\
 cw Tryz.prog a0 [gy] eo (λe dH=>∃(VY:Bool),e=VY/\
 Br (!VY)
 (R sY dH)
 (∃n25,n25<n21/\I20 n25 ((aj (dz+1))) dH))))
 (R sY fH))):ah 248 #[a0,c0,c1] w R:=
 cq ⟨[(8,⟨[(27,.int .i64)],[],[]⟩),(2,⟨[(9,.int .i64)],[],[]⟩)],[],[]⟩ Tryz.func248 h
theorem Tp.vc (h:
 ∀w0,w0=w.alloc (.cells #[aA,aq] 40)->
 ∀w1,w1=w0.alloc (.cells #[ab,ab,ab] 41)->
 Br (a1<0)
 (∀w2,w2=w1.setRow w0 #[ab,ab,ab]->
 R (Value.tuple #[.agg #[ab,ab,ab],false]) w2)
 (Br (a1>=8192)
 (∀w3,w3=w1.setRow w0 #[ab,ab,ab]->
 R (Value.tuple #[.agg #[ab,ab,ab],false]) w3)
 (∀w4,w4=w1.setRow w0 #[(aj ((aj (aA*16))+(Int.tmod a1 16))),(aj (Int.tdiv a1 256)),(aj ((aj (aq*16))+(Int.tmod (aj (Int.tdiv a1 16)) 16)))]->
 R (Value.tuple #[.agg #[(aj ((aj (aA*16))+(Int.tmod a1 16))),(aj (Int.tdiv a1 256)),(aj ((aj (aq*16))+(Int.tmod (aj (Int.tdiv a1 16)) 16)))],true]) w4))):ah 249 #[.agg #[aA,aq],a1] w R:=
 cq bT Tryz.func249 h
theorem Pb.vc (h:
 ∀w0,w0=w.alloc (.cells #[a0] 3)->
 ah 192 #[a1,(8:Int)] w0 (Ri λx2 w1=>Kp w w0 w1/\
 ah 192 #[a2,(8:Int)] w1 (Ri λx4 w3=>Kp w w1 w3/\
 ah 282 #[a1,(8:Int)] w3 (Ri λx6 w5=>Kp w w3 w5/\
 ah 282 #[a2,(8:Int)] w5 (Ri λx8 w7=>Kp w w5 w7/\
 ah 283 #[x2,x4,(aj ((aj (8-x6))*(aj (8-x8)))),w] w7 (λe w9=>∃(bj:Int),e=bj/\
 ah 283 #[(aj (x2+1)),x4,(aj (x6*(aj (8-x8)))),w] w9 (λe aW=>∃(bU:Int),e=bU/\
 ah 283 #[x2,(aj (x4+1)),(aj ((aj (8-x6))*x8)),w] aW (λe bF=>∃(bW:Int),e=bW/\
 ah 283 #[(aj (x2+1)),(aj (x4+1)),(aj (x6*x8)),w] bF (λe dY=>∃(cp:Int),e=cp/\
 R ((aj (6+(aj (Int.tdiv (aj ((aj ((aj (bj+bU))+bW))+cp)) 64))))) dY))))))))):ah 250 #[a0,a1,a2] w R:=
 cq bT Tryz.func250 h
theorem afx.vc (h:
 Br (a0<0)
 (R (0:Int) w)
 (Br (a0>=32)
 (R (0:Int) w)
 (Br (a0==0)
 (R (1:Int) w)
 (Br (decide (a0<(aj (a1-3))))
 (R (1:Int) w)
 (Br (decide (a0<(aj (a1-1))))
 (R (2:Int) w)
 (Br (a0==(aj (a1-1)))
 (Br (a1>9)
 (R (2:Int) w)
 (Br (a0==(aj (a1-1)))
 (R (3:Int) w)
 (Br (a0<9)
 (R (8:Int) w)
 (R (0:Int) w))))
 (Br (a0==(aj (a1-1)))
 (R (3:Int) w)
 (Br (a0<9)
 (R (8:Int) w)
 (R (0:Int) w))))))))):ah 251 #[a0,a1] w R:=
 cq bT Tryz.func251 h
theorem TZ.vc {a0:Sl} (h:
 ∀w0,w0=w.alloc (.cells #[ak,ao] 252)->
 Br (ak<1)
 (R a0 w0)
 (Br (decide (((aj (((a0.n:Nat):Int)-1)):Int)>=0))
 (ee a0.a (aj (((a0.n:Nat):Int)-1)) a0.n/\aP (dB (ae a0.a (((aj (((a0.n:Nat):Int)-1)):Int).toNat*2))) (∃(x1:Int),ld w0.drew (ae (ae a0.a (((aj (((a0.n:Nat):Int)-1)):Int).toNat*2)) 1)=some (.int .i64 x1)/\
 Br (x1==ao)
 (ee a0.a (aj (((a0.n:Nat):Int)-1)) a0.n/\aP (dB (ae a0.a (((aj (((a0.n:Nat):Int)-1)):Int).toNat*2))) (∃(x2:Int),ld w0.drew.drew (ae (ae a0.a (((aj (((a0.n:Nat):Int)-1)):Int).toNat*2)) 0)=some (.int .i64 x2)/\
 ee a0.a (aj (((a0.n:Nat):Int)-1)) a0.n/\aP (dB (ae a0.a (((aj (((a0.n:Nat):Int)-1)):Int).toNat*2))) ((((ae (ae a0.a (((aj (((a0.n:Nat):Int)-1)):Int).toNat*2)) 0)).isSome=true/\Wr w0.drew.drew (ae (ae a0.a (((aj (((a0.n:Nat):Int)-1)):Int).toNat*2)) 0) 1)/\bC (ae (ae a0.a (((aj (((a0.n:Nat):Int)-1)):Int).toNat*2)) 0)≠some w.heap.size/\(∀w3,w3=aG w0.drew.drew (ae (ae a0.a (((aj (((a0.n:Nat):Int)-1)):Int).toNat*2)) 0) [(aj (x2+ak))]->
 R a0 w3))))
 (∀w4,w4=w0.drew.alloc (.cells #[ak,ao] 252)->
 ba 16 2 w4 a0 1 [ak,ao]/\∀(s5:Sl) (w6:World),aV 252 2 w4 a0 1 [ak,ao] s5 w6->Kp w w4 w6/\w6.heap[w0.drew.heap.size]? =w4.heap[w0.drew.heap.size]?/\
 R s5 w6)))
 (∀w7,w7=w0.drew.alloc (.cells #[ak,ao] 252)->
 ba 16 2 w7 a0 1 [ak,ao]/\∀(s8:Sl) (w9:World),aV 252 2 w7 a0 1 [ak,ao] s8 w9->Kp w w7 w9/\w9.heap[w0.drew.heap.size]? =w7.heap[w0.drew.heap.size]?/\
 R s8 w9))):ah 252 #[a0,.agg #[ak,ao]] w R:=
 cq bT Tryz.func252 h
theorem IM.vc (h:
 ah 294 #[a0] w (λe w0=>∃(t1:ByteArray),e=Value.string t1/\
 R (Value.string t1) w0)):ah 267 #[a0] w R:=
 cq bT Tryz.func267 h
theorem T0.vc {a0:Sl} (h:
 ∃I0:Nat->Int->Sl->World->Prop,
 (∃n1,I0 n1 (0) ⟨none,0,0⟩ w)/\
 ∀(n1:Nat) (wM:Nat->Value) (x3:Int) (s4:Sl) (w5:World),I0 n1 x3 s4 w5->
 Br (decide (x3<((a0.n:Nat):Int)))
 (ee a0.a x3 a0.n/\∃(s7:Sl),ld w5 (ae a0.a ((x3:Int).toNat*1))=some (.slice s7.a s7.n s7.c)/\
 ∃I8:Nat->Int->Sl->World->Prop,
 (∃n9,I8 n9 (0) s4 w5)/\
 ∀(n9:Nat) (Wb:Nat->Value) (bz:Int) (jJ:Sl) (bF:World),I8 n9 bz jJ bF->
 Br (decide (bz<((s7.n:Nat):Int)))
 (ee s7.a bz s7.n/\∃(cm cp:Int),ag bF (ae s7.a ((bz:Int).toNat*2)) 0 [cm,cp]/\
 ∀cE,cE=bF.alloc (.cells #[ab,ab] 252)->
 ∀dA,dA=cE.setRow bF #[cm,cp]->
 ah 252 #[jJ,.agg #[cm,cp]] dA (Rs λuB fy=>Kp bF dA fy/\
 ∃FD,FD<n9/\I8 FD ((aj (bz+1))) uB fy))
 (∃n6,n6<n1/\I0 n6 ((aj (x3+1))) jJ bF))
 (R s4 w5)):ah 318 #[a0] w R:=
 cq ⟨[(6,⟨[(16,.int .i64),(3,.slice)],[],[]⟩),(3,⟨[(10,.int .i64),(3,.slice)],[],[]⟩)],[],[]⟩ Tryz.func318 h
theorem XR.vc {a0:Sl} (h:
 ∃I0:Nat->Int->Int->Sl->World->Prop,
 (∃n1,I0 n1 (0) (0) ⟨none,0,0⟩ w)/\
 ∀(n1:Nat) (wM:Nat->Value) (x3 x4:Int) (s5:Sl) (w6:World),I0 n1 x3 x4 s5 w6->
 Br (decide (x3<((a0.n:Nat):Int)))
 (ee a0.a x3 a0.n/\∃(x8 x9:Int),ag w6 (ae a0.a ((x3:Int).toNat*2)) 0 [x8,x9]/\
 ∀bD,bD=w6.alloc (.cells #[ab,ab] 252)->
 ∀aW,aW=bD.setRow w6 #[x8,x9]->
 Br (decide (((if (aj (x4+x8))<a2 then (aj (x4+x8)) else a2):Int)>(if x4>a1 then x4 else a1)))
 (ah 252 #[s5,.agg #[(aj ((if (aj (x4+x8))<a2 then (aj (x4+x8)) else a2)-(if x4>a1 then x4 else a1))),x9]] aW.drew (Rs λwH cM=>Kp w6 aW.drew cM/\
 ∃n7,n7<n1/\I0 n7 ((aj (x3+1))) ((aj (x4+x8))) wH cM))
 (∃n7,n7<n1/\I0 n7 ((aj (x3+1))) ((aj (x4+x8))) s5 aW.drew))
 (R s5 w6)):ah 319 #[a0,a1,a2] w R:=
 cq ⟨[(4,⟨[(15,.int .i64),(8,.int .i64),(7,.slice)],[],[]⟩)],[],[]⟩ Tryz.func319 h
theorem T3.vc (h:
 ah 252 #[.slice none 0 0,.agg #[a0,a1]] w (λe w0=>∃(s1:Sl),e=s1/\
 R s1 w0)):ah 320 #[a0,a1] w R:=
 cq bT Tryz.func320 h
theorem Ld.vc (h:
 Br (a0<0)
 (R (Value.slice none 0 0) w)
 (Br (a0>1048576)
 (R (Value.slice none 0 0) w)
 (∃I0:Nat->Int->Sl->World->Prop,
 (∃n1,I0 n1 a0 ⟨none,0,0⟩ w)/\
 ∀(n1:Nat) (wM:Nat->Value) (x3:Int) (s4:Sl) (w5:World),I0 n1 x3 s4 w5->
 Br (x3>=128)
 (∀w7,w7=w5.alloc (.cells #[.int .u8 (Kl .u8 (eV x3) 128)] 5)->
 ba 1 1 w7 s4 1 [.int .u8 (Kl .u8 (eV x3) 128)]/\∀(s8:Sl) (w9:World),aV 5 1 w7 s4 1 [.int .u8 (Kl .u8 (eV x3) 128)] s8 w9->Kp w5 w7 w9/\
 ∃n6,n6<n1/\I0 n6 (((x3:Int).fdiv (2 ^(min (7:Int).toNat 64)))) s8 w9)
 (∀bD,bD=w5.alloc (.cells #[.int .u8 (eV x3)] 5)->
 ba 1 1 bD s4 1 [.int .u8 (eV x3)]/\∀(Az:Sl) (cM:World),aV 5 1 bD s4 1 [.int .u8 (eV x3)] Az cM->Kp w5 bD cM/\
 R Az cM)))):ah 254 #[a0] w R:=
 cq ⟨[(4,⟨[(0,.int .i64),(3,.slice)],[],[]⟩)],[],[]⟩ Tryz.func254 h
theorem BL.vc {a0:Option Nat} (h:
 Br (a0).isNone
 (R (Value.map none) w)
 (XS Tryz.prog 298 [.iface 274 (.map a0)] w (λe w0=>∃(v1:Value),e=v1/\
 ∃(m2:Option Nat),(v1:Value)=.iface 274 (.map m2)/\
 R (Value.map m2) w0))):ah 272 #[.map a0] w R:=
 cq bT Tryz.func272 h
theorem ID.vc {c0:Addr} (h:
 ∃(x0:Int),ld w (some c0)=some (.int .i64 x0)/\
 ah 284 #[x0,a0,a1] w (λe w1=>∃(x2:Int),e=Value.int .u64 x2/\
 R ((aj ((aj (Int.tmod x2 9))*a2))) w1)):ah 283 #[a0,a1,a2,c0] w R:=
 cq bT Tryz.func283 h
theorem Xy.vc (h:
 R (Value.int .u64 (kz .u64 (c5 ((kz .u64 (c5 ((c5 ((c5 ((c5 a0)*11400714819323198485))+(c5 ((c5 a1)*14029467366897019727))))+(c5 ((c5 a2)*1609587929392839161)))) (((c5 ((c5 ((c5 ((c5 a0)*11400714819323198485))+(c5 ((c5 a1)*14029467366897019727))))+(c5 ((c5 a2)*1609587929392839161)))):Int).fdiv (2 ^(min (29:Int).toNat 64))))*13787848793156543929)) (((c5 ((kz .u64 (c5 ((c5 ((c5 ((c5 a0)*11400714819323198485))+(c5 ((c5 a1)*14029467366897019727))))+(c5 ((c5 a2)*1609587929392839161)))) (((c5 ((c5 ((c5 ((c5 a0)*11400714819323198485))+(c5 ((c5 a1)*14029467366897019727))))+(c5 ((c5 a2)*1609587929392839161)))):Int).fdiv (2 ^(min (29:Int).toNat 64))))*13787848793156543929)):Int).fdiv (2 ^(min (32:Int).toNat 64))))) w):ah 284 #[a0,a1,a2] w R:=
 cq bT Tryz.func284 h
theorem sC.vc (h:
 ah 308 #[a0,(10:Int)] w (λe w0=>∃(t1:ByteArray),e=Value.string t1/\
 R (Value.string t1) w0)):ah 294 #[a0] w R:=
 cq bT Tryz.func294 h
theorem qQ.vc (h:
 Br (a0<10)
 ((0:Int)<=(aj (a0+1))/\(aj (a0+1))<=((((ByteArray.mk #[48,49,50,51,52,53,54,55,56,57,97,98,99,100,101,102,103,104,105,106,107,108,109,110,111,112,113,114,115,116,117,118,119,120,121,122])).size:Nat):Int)/\(0:Int)<=a0/\a0<=(aj (a0+1))/\R (Value.string (((ByteArray.mk #[48,49,50,51,52,53,54,55,56,57,97,98,99,100,101,102,103,104,105,106,107,108,109,110,111,112,113,114,115,116,117,118,119,120,121,122])).extract ((a0:Int).toNat) (((aj (a0+1)):Int).toNat))) w)
 ((0:Int)<=(aj ((aj (a0*2))+2))/\(aj ((aj (a0*2))+2))<=((((ByteArray.mk #[48,48,48,49,48,50,48,51,48,52,48,53,48,54,48,55,48,56,48,57,49,48,49,49,49,50,49,51,49,52,49,53,49,54,49,55,49,56,49,57,50,48,50,49,50,50,50,51,50,52,50,53,50,54,50,55,50,56,50,57,51,48,51,49,51,50,51,51,51,52,51,53,51,54,51,55,51,56,51,57,52,48,52,49,52,50,52,51,52,52,52,53,52,54,52,55,52,56,52,57,53,48,53,49,53,50,53,51,53,52,53,53,53,54,53,55,53,56,53,57,54,48,54,49,54,50,54,51,54,52,54,53,54,54,54,55,54,56,54,57,55,48,55,49,55,50,55,51,55,52,55,53,55,54,55,55,55,56,55,57,56,48,56,49,56,50,56,51,56,52,56,53,56,54,56,55,56,56,56,57,57,48,57,49,57,50,57,51,57,52,57,53,57,54,57,55,57,56,57,57])).size:Nat):Int)/\(0:Int)<=(aj (a0*2))/\((aj (a0*2)):Int)<=(aj ((aj (a0*2))+2))/\R (Value.string (((ByteArray.mk #[48,48,48,49,48,50,48,51,48,52,48,53,48,54,48,55,48,56,48,57,49,48,49,49,49,50,49,51,49,52,49,53,49,54,49,55,49,56,49,57,50,48,50,49,50,50,50,51,50,52,50,53,50,54,50,55,50,56,50,57,51,48,51,49,51,50,51,51,51,52,51,53,51,54,51,55,51,56,51,57,52,48,52,49,52,50,52,51,52,52,52,53,52,54,52,55,52,56,52,57,53,48,53,49,53,50,53,51,53,52,53,53,53,54,53,55,53,56,53,57,54,48,54,49,54,50,54,51,54,52,54,53,54,54,54,55,54,56,54,57,55,48,55,49,55,50,55,51,55,52,55,53,55,54,55,55,55,56,55,57,56,48,56,49,56,50,56,51,56,52,56,53,56,54,56,55,56,56,56,57,57,48,57,49,57,50,57,51,57,52,57,53,57,54,57,55,57,56,57,57])).extract (((aj (a0*2)):Int).toNat) (((aj ((aj (a0*2))+2)):Int).toNat))) w)):ah 314 #[a0] w R:=
 cq bT Tryz.func314 h
theorem Bt.vc {a0:Addr} (h:
 ∀w0,w0=w.alloc (.cells #[ak,ao,aw] 41)->
 ∃(p1:Option Addr),ld w0.drew (ae (some a0) 0)=some (.pointer p1)/\
 ah 83 #[p1,.agg #[ak,ao,aw]] w0.drew (Ri λx3 w2=>Kp w w0.drew w2/\
 ∃(p4:Option Addr),ld w2.drew (ae (some a0) 0)=some (.pointer p4)/\
 ah 221 #[p4,.agg #[ak,ao,aw],a2] w2.drew (Ri λx6 w5=>Kp w w2.drew w5/\
 Br (x6==0)
 (Br (x3 !=a2)
 (∃(s7:Sl),ld w5.drew (ae (some a0) 1)=some (.slice s7.a s7.n s7.c)/\
 ∀w8,w8=w5.drew.alloc (.cells #[ak,ao,aw,a2] 289)->
 ba 32 4 w8 s7 1 [ak,ao,aw,a2]/\∀(s9:Sl) (bD:World),aV 289 4 w8 s7 1 [ak,ao,aw,a2] s9 bD->Kp w w8 bD/\bD.heap[w5.drew.heap.size]? =w8.heap[w5.drew.heap.size]?/\
 (true=true/\Wr bD (ae (some a0) 1) 1)/\bC (ae (some a0) 1)≠some w.heap.size/\bC (ae (some a0) 1)≠some w5.drew.heap.size/\(∀aW,aW=aG bD (ae (some a0) 1) [s9]->
 R x6 aW))
 (R x6 w5))
 (R x6 w5)))):ah 161 #[a0,.agg #[ak,ao,aw],a2] w R:=
 cq bT Tryz.func161 h
theorem Ti.vc (h:
 ah 96 #[a0,a1,a2] w (λe w0=>∃(p1:Option Addr),e=p1/\
 ∀w2,w2=w0.alloc (.cells #[p1,.slice none 0 0] 133)->
 R (Value.pointer (some ⟨w0,0,none⟩)) w2)):ah 39 #[a0,a1,a2] w R:=
 cq bT Tryz.func39 h
theorem xe.vc {a0:Addr} (h:
 ∃(p0:Option Addr),ld w (ae (some a0) 0)=some (.pointer p0)/\
 R p0 w):ah 19 #[a0] w R:=
 cq bT Tryz.func19 h
theorem zM.vc {a0:Addr} (h:
 ∀w0,w0=w.alloc (.cells #[ak,ao] 40)->
 ah 72 #[.agg #[ak,ao]] w0 (λe w1=>∃(x2:Int) (b3:Bool),e=Value.tuple #[x2,b3]/\Kp w w0 w1/\
 Br (!b3)
 (R (5:Int) w1)
 (ah 73 #[a0,.agg #[ak,ao]] w1 (Ri λx5 w4=>Kp w w1 w4/\
 Br (x5>=0)
 (ah 74 #[a0,x5] w4 (λe w6=>∃(p7:Option Addr),e=p7/\Kp w w4 w6/\
 R (0:Int) w6))
 (ah 75 #[a0] w4 (Ri λx9 w8=>Kp w w4 w8/\
 Br (x9 !=0)
 (R x9 w8)
 (∃(H4:Option Addr),ld w8 (ae (some a0) 0)=some (.pointer H4)/\
 ah 76 #[H4,x2] w8 (λe aW=>∃(jJ:Sl) (cc:Int) (b14:Bool),e=Value.tuple #[jJ,cc,b14]/\Kp w w8 aW/\
 ah 77 #[.agg #[ak,ao],jJ] aW (λe dY=>∃(p16:Option Addr) (cT:Int),e=Value.tuple #[p16,cT]/\Kp w aW dY/\
 Br (cT !=0)
 (∃(cg:Int),ld dY.drew (ae (some a0) 1)=some (.int .i64 cg)/\
 ah 78 #[cg,.agg #[ak,ao]] dY.drew (λe fy=>∃(p20:Option Addr),e=p20/\Kp w dY.drew fy/\
 ∃(Q9:Sl),ld fy (ae (some a0) 3)=some (.slice Q9.a Q9.n Q9.c)/\
 ∀cL,cL=fy.alloc (.cells #[p20,false,ab] 150)->
 ∀dT,dT=cL.alloc (.cells #[.pointer (some ⟨fy,0,none⟩)] 137)->
 ba 8 1 dT Q9 1 [.pointer (some ⟨fy,0,none⟩)]/\∀(rE:Sl) (cP:World),aV 137 1 dT Q9 1 [.pointer (some ⟨fy,0,none⟩)] rE cP->K2 w cL dT cP (
 (true=true/\Wr cP (ae (some a0) 3) 1)/\bC (ae (some a0) 3)≠some w.heap.size/\bC (ae (some a0) 3)≠some cL.heap.size/\(∀eG,eG=aG cP (ae (some a0) 3) [rE]->
 R (0:Int) eG))))
 (∃(Sy:Sl),ld dY (ae (some a0) 3)=some (.slice Sy.a Sy.n Sy.c)/\
 ∀gn,gn=dY.alloc (.cells #[p16,false,ab] 150)->
 ∀dH,dH=gn.alloc (.cells #[.pointer (some ⟨dY,0,none⟩)] 137)->
 ba 8 1 dH Sy 1 [.pointer (some ⟨dY,0,none⟩)]/\∀(sS:Sl) (fj:World),aV 137 1 dH Sy 1 [.pointer (some ⟨dY,0,none⟩)] sS fj->K2 w gn dH fj (
 (true=true/\Wr fj (ae (some a0) 3) 1)/\bC (ae (some a0) 3)≠some w.heap.size/\bC (ae (some a0) 3)≠some gn.heap.size/\(∀j6,j6=aG fj (ae (some a0) 3) [sS]->
 R (0:Int) j6)))))))))))):ah 20 #[a0,.agg #[ak,ao]] w R:=
 cq bT Tryz.func20 h
theorem DC.vc {a0:Addr} (h:
 ∀w0,w0=w.alloc (.cells #[ak,ao,aw] 41)->
 ah 139 #[.agg #[ak,ao,aw]] w0 (Ra2 λx2 x3 w1=>Kp w w0 w1/\
 ah 73 #[a0,.agg #[x2,x3]] w1 (Ri λx5 w4=>Kp w w1 w4/\
 Br (x5<0)
 (R (Value.int .i64 (-1)) w4)
 (Br (ao<0)
 (R (1:Int) w4)
 (∃(s6:Sl),ld w4.drew (ae (some a0) 3)=some (.slice s6.a s6.n s6.c)/\
 ee s6.a x5 s6.n/\∃(p7:Option Addr),ld w4.drew (ae s6.a ((x5:Int).toNat*1))=some (.pointer p7)/\
 aP (dB p7) (aP (dB p7) (∃(p8:Option Addr),ld w4.drew (ae p7 0)=some (.pointer p8)/\
 ah 140 #[p8,.agg #[ak,ao,aw]] w4.drew (λe w9=>∃(bj:Int) (WL:Bool),e=Value.tuple #[bj,WL]/\Kp w w4.drew w9/\
 ag w9 (ae s6.a ((x5:Int).toNat*1)) 0 [.pointer p7]/\ag w9 (ae (some a0) 3) 0 [s6]/\R bj w9)))))))):ah 83 #[a0,.agg #[ak,ao,aw]] w R:=
 cq bT Tryz.func83 h
theorem Pv.vc (h:
 ah 10 #[a0,(14:Int)] w (λe w0=>∃(x1:Int),e=x1/\
 Br (x1>5)
 (R ((aj (x1+2))) w0)
 (R x1 w0))):ah 110 #[a0] w R:=
 cq bT Tryz.func110 h
theorem BM.vc {a0:Addr} (h:
 ∀w0,w0=w.alloc (.cells #[ak,ao,aw] 41)->
 ah 139 #[.agg #[ak,ao,aw]] w0 (Ra2 λx2 x3 w1=>Kp w w0 w1/\
 ah 73 #[a0,.agg #[x2,x3]] w1 (Ri λx5 w4=>Kp w w1 w4/\
 ah 255 #[.agg #[ak,ao,aw]] w4 (λe w6=>∃(x7:Int) (b8:Bool),e=Value.tuple #[x7,b8]/\Kp w w4 w6/\
 Br (x5<0)
 (R (11:Int) w6)
 (Br (!b8)
 (R (5:Int) w6)
 (ah 108 #[a2] w6 (Rb λb10 w9=>Kp w w6 w9/\
 Br (!b10)
 (R (1:Int) w9)
 (ah 74 #[a0,x5] w9 (λe aW=>∃(ow:Option Addr),e=ow/\Kp w w9 aW/\
 aP (dB ow) (aP (dB ow) (∃(Ng:Option Addr),ld aW.drew (ae ow 0)=some (.pointer Ng)/\
 ah 140 #[Ng,.agg #[ak,ao,aw]] aW.drew (λe bK=>∃(cm:Int) (b16:Bool),e=Value.tuple #[cm,b16]/\Kp w aW.drew bK/\
 aP (dB ow) (aP (dB ow) (∃(WH:Bool),ld bK (ae ow 1)=some (.bool WH)/\
 Br WH
 (aP (dB ow) (aP (dB ow) ((((ae ow 1)).isSome=true/\Wr bK (ae ow 1) 1)/\bC (ae ow 1)≠some w.heap.size/\(∀dA,dA=aG bK (ae ow 1) [.bool true]->
 aP (dB ow) (aP (dB ow) (∃(lu:Option Addr),ld dA.drew (ae ow 0)=some (.pointer lu)/\
 ah 268 #[lu,.agg #[ak,ao,aw],a2] dA.drew (Ri λdm fh=>Kp w dA.drew fh/\
 R dm fh)))))))
 (aP (dB ow) (aP (dB ow) ((((ae ow 1)).isSome=true/\Wr bK (ae ow 1) 1)/\bC (ae ow 1)≠some w.heap.size/\(∀cL,cL=aG bK (ae ow 1) [.bool (cm !=a2)]->
 aP (dB ow) (aP (dB ow) (∃(Sz:Option Addr),ld cL.drew (ae ow 0)=some (.pointer Sz)/\
 ah 268 #[Sz,.agg #[ak,ao,aw],a2] cL.drew (Ri λdQ fH=>Kp w cL.drew fH/\
 R dQ fH))))))))))))))))))))):ah 221 #[a0,.agg #[ak,ao,aw],a2] w R:=
 cq bT Tryz.func221 h
theorem vJ.vc {a0:Addr} (h:
 ∀w0,w0=w.alloc (.cells #[ak,ao] 40)->
 ah 73 #[a0,.agg #[ak,ao]] w0 (Ri λx2 w1=>Kp w w0 w1/\
 Br (x2<0)
 (R (6:Int) w1)
 (∃(s3:Sl),ld w1 (ae (some a0) 3)=some (.slice s3.a s3.n s3.c)/\
 ee s3.a x2 s3.n/\∃(p4:Option Addr),ld w1 (ae s3.a ((x2:Int).toNat*1))=some (.pointer p4)/\
 aP (dB p4) (aP (dB p4) (∃(x5:Int),ld w1 (ae p4 2)=some (.int .i64 x5)/\
 Br (x5>0)
 (R (10:Int) w1)
 (∃(s6:Sl),ld w1 (ae (some a0) 3)=some (.slice s6.a s6.n s6.c)/\
 ee s6.a x2 s6.n/\∃(p7:Option Addr),ld w1 (ae s6.a ((x2:Int).toNat*1))=some (.pointer p7)/\
 ah 79 #[a0,p7] w1 (Ri λx9 w8=>Kp w w1 w8/\
 Br (x9==0)
 (ah 80 #[a0,x2] w8 (λe bD=>∃(Wh:Option Addr),e=Wh/\Kp w w8 bD/\
 R x9 bD))
 (R x9 w8)))))))):ah 21 #[a0,.agg #[ak,ao]] w R:=
 cq bT Tryz.func21 h
theorem T4.vc (h:
 ah 149 #[a2] w (λe w0=>∃(p1:Option Addr),e=p1/\
 ∀w2,w2=w0.alloc (.cells #[p1,a0,.int .i64 (if 16<(if 1>a1 then 1 else a1) then 16 else (if 1>a1 then 1 else a1)),.slice none 0 0] 143)->
 R (Value.pointer (some ⟨w0,0,none⟩)) w2)):ah 96 #[a0,a1,a2] w R:=
 cq bT Tryz.func96 h
theorem XT.vc (h:
 ∀w0,w0=w.alloc (.cells #[aA,aq] 40)->
 Br (aA<(-524288))
 (R (Value.tuple #[ab,false]) w0)
 (Br (aA>=524288)
 (R (Value.tuple #[ab,false]) w0)
 (Br (aq<(-524288))
 (R (Value.tuple #[ab,false]) w0)
 (Br (aq>=524288)
 (R (Value.tuple #[ab,false]) w0)
 (R (Value.tuple #[(aj ((aj ((aj ((aj ((aj ((aj (aA+524288))*2))*524288))+aq))+524288))+1)),true]) w0))))):ah 72 #[.agg #[aA,aq]] w R:=
 cq bT Tryz.func72 h
theorem zN.vc {a0:Addr} (h:
 ∀w0,w0=w.alloc (.cells #[ak,ao] 40)->
 ∃(s1:Sl),ld w0 (ae (some a0) 3)=some (.slice s1.a s1.n s1.c)/\
 ah 129 #[s1,.func (.func 130) #[] #[w]] w0 (λe w2=>∃(x3:Int),e=x3/\
 R x3 w2)):ah 73 #[a0,.agg #[ak,ao]] w R:=
 cq bT Tryz.func73 h
theorem xG.vc {a0:Addr} (h:
 ah 80 #[a0,a1] w (λe w0=>∃(p1:Option Addr),e=p1/\
 ∃(s2:Sl),ld w0 (ae (some a0) 3)=some (.slice s2.a s2.n s2.c)/\
 ∀w3,w3=w0.alloc (.cells #[p1] 137)->
 ba 8 1 w3 s2 1 [.pointer p1]/\∀(s4:Sl) (w5:World),aV 137 1 w3 s2 1 [.pointer p1] s4 w5->Kp w0 w3 w5/\
 (true=true/\Wr w5 (ae (some a0) 3) 1)/\bC (ae (some a0) 3)≠some w0.heap.size/\(∀w6,w6=aG w5 (ae (some a0) 3) [s4]->
 R p1 w6))):ah 74 #[a0,a1] w R:=
 cq bT Tryz.func74 h
theorem zO.vc {a0:Addr} (h:
 ∃(s0:Sl),ld w.drew (ae (some a0) 3)=some (.slice s0.a s0.n s0.c)/\
 ∃(x1:Int),ld w.drew (ae (some a0) 2)=some (.int .i64 x1)/\
 Br (decide ((((s0.n:Nat):Int):Int)<x1))
 (R (0:Int) w.drew)
 (∃(s2:Sl),ld w.drew (ae (some a0) 3)=some (.slice s2.a s2.n s2.c)/\
 ah 129 #[s2,.func (.func 131) #[] #[]] w.drew (λe w3=>∃(x4:Int),e=x4/\
 Br (x4<0)
 (R (8:Int) w3)
 (∃(s5:Sl),ld w3 (ae (some a0) 3)=some (.slice s5.a s5.n s5.c)/\
 ee s5.a x4 s5.n/\∃(p6:Option Addr),ld w3 (ae s5.a ((x4:Int).toNat*1))=some (.pointer p6)/\
 ah 79 #[a0,p6] w3 (λe w7=>∃(x8:Int),e=x8/\
 Br (x8==0)
 (ah 80 #[a0,x4] w7 (λe w9=>∃(H4:Option Addr),e=H4/\
 R x8 w9))
 (R x8 w7)))))):ah 75 #[a0] w R:=
 cq bT Tryz.func75 h
theorem zP.vc {a0:Addr} (h:
 ah 132 #[a1] w (λe w0=>∃(b1:Bool),e=b1/\
 Br (!b1)
 (R (Value.tuple #[.slice none 0 0,ab,false]) w0)
 (ah 133 #[a0,a1] w0 (λe w2=>∃(x3 x4:Int) (s5:Sl),e=Value.agg #[x3,x4,s5]/\
 ∀w6,w6=w2.alloc (.cells #[ab,ab,.slice none 0 0] 202)->
 ∀w7,w7=w6.setRow w2 #[x3,x4,s5]->
 R (Value.tuple #[s5,x4,.bool (decide (x4>0))]) w7.drew)))):ah 76 #[a0,a1] w R:=
 cq bT Tryz.func76 h
theorem Pw.vc {a1:Sl} (h:
 ∀w0,w0=w.alloc (.cells #[aA,aq] 40)->
 ah 134 #[a1,(8192:Int)] w0 (λe w1=>∃(s2:Sl) (x3:Int),e=Value.tuple #[s2,x3]/\Kp w w0 w1/\
 Br (x3 !=0)
 (R (Value.tuple #[.pointer none,x3]) w1)
 (ah 135 #[.agg #[aA,aq],s2] w1 (λe w4=>∃(p5:Option Addr) (x6:Int),e=Value.tuple #[p5,x6]/\Kp w w1 w4/\
 R (Value.tuple #[p5,x6]) w4)))):ah 77 #[.agg #[aA,aq],a1] w R:=
 cq bT Tryz.func77 h
theorem Px.vc (h:
 ∀w0,w0=w.alloc (.cells #[ak,ao] 40)->
 (ah 136 #[a0,.agg #[ak,ao]] w0.drew (Rs λs2 w1=>Kp w w0.drew w1/\
 ∀w3,w3=w1.alloc (.cells #[ak,ao,s2] 175)->
 R (Value.pointer (some ⟨w1,0,none⟩)) w3))/\(ah 136 #[a0,.agg #[ak,ao]] w0.drew (Rs λs5 w4=>Kp w w0.drew w4/\
 ag w4 w 0 [ak,ao]/\∀w6,w6=w4.alloc (.cells #[ak,ao,s5] 175)->
 R (Value.pointer (some ⟨w4,0,none⟩)) w6))):ah 78 #[a0,.agg #[ak,ao]] w R:=
 cq bT Tryz.func78 h
theorem Ot.vc (h:
 ∀w0,w0=w.alloc (.cells #[aA,aq,au] 41)->
 ∀w1,w1=w0.alloc (.cells #[ab,ab] 40)->
 ah 192 #[aA,(16:Int)] w1.drew (Ri λx3 w2=>K2 w w0 w1.drew w2 (
 ag w2 (some ⟨w,2,none⟩) 0 [au]/\ah 192 #[au,(16:Int)] w2 (Ri λx5 w4=>K2 w w0 w2 w4 (
 ∀w6,w6=w4.setRow w0 #[x3,x5]->
 R (Value.agg #[x3,x5]) w6))))):ah 139 #[.agg #[aA,aq,au]] w R:=
 cq bT Tryz.func139 h
theorem DD.vc {a0:Addr} (h:
 ∀w0,w0=w.alloc (.cells #[ak,ao,aw] 41)->
 ∃(x1 x2:Int),ag w0.drew (ae (some a0) 0) 0 [x1,x2]/\
 ah 193 #[.agg #[x1,x2],.agg #[ak,ao,aw]] w0.drew (λe w3=>∃(x4:Int) (b5:Bool),e=Value.tuple #[x4,b5]/\Kp w w0.drew w3/\
 Br (!b5)
 (R (Value.tuple #[ab,false]) w3)
 (∃(s6:Sl),ld w3 (ae (some a0) 2)=some (.slice s6.a s6.n s6.c)/\
 ah 194 #[s6,x4] w3 (Ri λx8 w7=>Kp w w3 w7/\
 R (Value.tuple #[x8,true]) w7)))):ah 140 #[a0,.agg #[ak,ao,aw]] w R:=
 cq bT Tryz.func140 h
theorem xf.vc {a0:Addr} (h:
 ∀w0,w0=w.alloc (.cells #[ak,ao,aw] 41)->
 ∃(p1:Option Addr),ld w0 (ae (some a0) 0)=some (.pointer p1)/\
 ah 37 #[p1] w0 (Rs λs3 w2=>Kp w w0 w2/\
 ah 139 #[.agg #[ak,ao,aw]] w2 (Ra2 λx5 x6 w4=>Kp w w2 w4/\
 ah 150 #[.agg #[x5,x6]] w4 (λe w7=>∃(x8 x9 bj bz bU cc bW cm cp cT:Int),e=Value.agg #[x8,x9,bj,bz,bU,cc,bW,cm,cp,cT]/\Kp w w4 w7/\
 ∃I18:Nat->Int->World->Prop,
 (∃n19,aO [ak,ao,aw]/\I18 n19 (0) w7)/\
 ∀(n19:Nat) (ap2:Nat->Value) (dm:Int) (cL:World),I18 n19 dm cL->
 Br (dm<5)
 (((0:Int)<=dm/\dm<((5:Nat):Int))/\∃(eH dQ:Int),(([x8,x9,bj,bz,bU,cc,bW,cm,cp,cT]:LV).drop ((dm:Int).toNat*2)).take 2=[.int .i64 eH,.int .i64 dQ]/\
 ∀eG,eG=cL.alloc (.cells #[ab,ab] 40)->
 ∀eo,eo=eG.setRow cL #[eH,dQ]->
 ah 151 #[s3,.agg #[eH,dQ]] eo (Rb λb29 gn=>K2 w cL eo gn (
 Br (!b29)
 (R false gn)
 (∃n23,n23<n19/\aO [ak,ao,aw]/\I18 n23 ((aj (dm+1))) gn))))
 (R true cL))))):ah 100 #[a0,.agg #[ak,ao,aw]] w R:=
 cq ⟨[(3,⟨[(16,.int .i64)],[],[]⟩)],[],[]⟩ Tryz.func100 h
theorem Lf.vc (h:
 R (Value.bool (a0==3)) w):ah 243 #[a0] w R:=
 cq bT Tryz.func243 h
theorem Lg.vc (h:
 Br (a0==(-1))
 (Br (a0==(-1))
 (R true w)
 (R false w))
 (Br (a0==1)
 (Br (a0==1)
 (R true w)
 (R false w))
 (Br (a0==2)
 (Br (a0==2)
 (R true w)
 (R false w))
 (Br (a0==3)
 (Br (a0==3)
 (R true w)
 (R false w))
 (Br (a0==5)
 (R true w)
 (R false w)))))):ah 103 #[a0] w R:=
 cq bT Tryz.func103 h
theorem T6.vc (h:
 ∀w0,w0=w.alloc (.cells #[aA,aq] 40)->
 ∀w1,w1=w0.alloc (.cells #[ab,ab] 40)->
 ah 10 #[aA,(5:Int)] w1.drew (Ri λx3 w2=>K2 w w0 w1.drew w2 (
 ag w2 (some ⟨w,1,none⟩) 0 [aq]/\ah 10 #[aq,(5:Int)] w2 (Ri λx5 w4=>K2 w w0 w2 w4 (
 ∀w6,w6=w4.setRow w0 #[(aj (x3-2)),(aj (x5-2))]->
 R (Value.agg #[(aj (x3-2)),(aj (x5-2))]) w6))))):ah 51 #[.agg #[aA,aq]] w R:=
 cq bT Tryz.func51 h
theorem Lh.vc (h:
 Br (a0==(-1))
 (R true w)
 (Br (a0==1)
 (R true w)
 (Br (a0==2)
 (R true w)
 (Br (a0==3)
 (R true w)
 (R (Value.bool (a0==5)) w))))):ah 114 #[a0] w R:=
 cq bT Tryz.func114 h
theorem Py.vc {a0:Sl} {a1:Sl} (h:
 ∃l0:List Int,l0.length=a0.n/\ag w a0.a 0 (l0.map (Value.int .u8))/\
 ∃l1:List Int,l1.length=a1.n/\ag w a1.a 0 (l1.map (Value.int .u8))/\
 R (Value.bool (rJ (strOfNums l0) (strOfNums l1))) w):ah 25 #[a0,a1] w R:=
 cq bT Tryz.func25 h
end Go.Proofs.YtkkkfkopcfdmaaaGreatDoor
