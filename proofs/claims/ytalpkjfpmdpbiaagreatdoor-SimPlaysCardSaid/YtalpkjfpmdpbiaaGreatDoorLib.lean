import Derived.Test.YtalpkjfpmdpbiaaGreatDoorVc
import Derived.Lib.Overlaps
set_option linter.all false
namespace Go.Vc
open Go Go.RowKit
abbrev Ext(w w':World):Prop:=Below w w w'
def Ext.bX(w:World):Ext w w:=Below.refl _ _
def Ext.tr{a b c:World}(h:Ext a b)(k:Ext b c):Ext a c:=Below.trans h (Below.mono k h.size)
def Ext.al(w:World)(o:Obj):Ext w (w.alloc o):=(Below.refl _ w).alloc (ax _) o
def Ext.dr(w:World):Ext w w.drew:=(Below.refl _ w).drew
def Ext.ay{a b c:World}{o:Obj}(h:Ext a b)(e:c=b.alloc o):Ext a c:=by subst e;exact h.tr (Ext.al _ _)
def bo{b c:World}{o:Obj}(e:c=b.alloc o):Ext b c:=(Ext.bX _).ay e
def Ext.drew{a b:World}(h:Ext a b):Ext a b.drew:=h.tr (Ext.dr _)
def setRow_other(w:World)(g j:Nat)(cs:Array Value)(h:j≠g):(w.setRow g cs).heap[j]? =w.heap[j]? :=by simp only [World.setRow,Array.getElem?_modify,if_neg (Ne.symm h)]
def setRow_size(w:World)(g:Nat)(cs:Array Value):(w.setRow g cs).heap.size=w.heap.size:=by simp [World.setRow]
def Ext.setRow{a b:World}(h:Ext a b){g:Nat}(hg:a.heap.size<=g)(cs:Array Value):Ext a (b.setRow g cs):=
 ⟨h.os,h.tape,h.output,by rw [setRow_size];exact h.size,λk hk=>by rw [setRow_other _ _ _ _ aa];exact h.block k hk⟩
def Ext.ab{a b c:World}{g:Nat}{cs:Array Value}(h:Ext a b)(e:c=b.setRow g cs)(hg:a.heap.size<=g):Ext a c:=by subst e;exact h.setRow hg cs
def Nh{w:World}{a:Addr}{v:Value}(h:w.cell? a=some v):a.block<w:=by
 unfold World.cell? at h;split at h
 ·rename_i hb;exact (mQ.1 hb).1
 ·cases h
def Ext.ld{w w':World}(h:Ext w w'){p:Option Addr}{v:Value}(hl:ld w p=some v):ld w' p=some v:=by
 cases p with
 |none=>simp [Vc.ld] at hl
 |some a=>
  have hl':w.cell? a=some v:=hl;show w'.cell? a=some v;rw [Below.cell h (Nh hl')];exact hl'
def Ext.heap{w w':World}(h:Ext w w'){i:Nat}(hi:i<w):w'.heap[i]? =w.heap[i]? :=h.block i hi
def Ext.k{w w':World}(h:Ext w w'){i:Nat}(hi:i<w.heap.size:=by omega):w'.heap[i]? =w.heap[i]? :=h.block i hi
def eo(p:Option Addr)(m n:Nat):ae (ae p m) n=ae p (m+n):=by
 cases p with
 |none=>rfl
 |some a=>
  simp only [ae,mj,Option.some.injEq,Addr.add];by_cases hm:m=0
  ·subst hm;simp
  ·by_cases hn:n=0
   ·subst hn;simp [hm]
   ·simp [hm,hn,Nat.add_assoc]
@[simp] def ea(p:Option Addr)(n:Nat):(ae p n).isSome=p.isSome:=by cases p<;>rfl
def dj(p:Option Addr)(n:Nat):cS (ae p n)=cS p:=by
 cases p with
 |none=>rfl
 |some a=>simp only [ae,cS,mj,Addr.add];split<;>rfl
def Row(w:World)(g:Nat)(cs:LV)(t:TypeId):Prop:=w.heap[g]? =some (.cells cs.toArray t (0,0))
def Row.new(w:World)(cs:LV)(t:TypeId):Row (w.alloc (.cells cs.toArray t)) w.heap.size cs t:=by show (w.heap.push _)[w.heap.size]? =_;simp
def Row.lt{w:World}{g:Nat}{cs:LV}{t:TypeId}(h:Row w g cs t):g<w:=(mQ.1 h).1
def Row.ext{w w':World}{g:Nat}{cs:LV}{t:TypeId}(h:Row w g cs t)(he:Ext w w'):Row w' g cs t:=(he.heap h.lt).trans h
def Row.same{w w':World}{g:Nat}{cs:LV}{t:TypeId}(h:Row w g cs t)(he:w'.heap[g]? =w.heap[g]?):Row w' g cs t:=he.trans h
def Row.set{w:World}{g:Nat}{cs:LV}{t:TypeId}(h:Row w g cs t)(cs':LV):Row (w.setRow g cs'.toArray) g cs' t:=setRow_heap _ _ _ _ _ _ h
def Row.so{w w':World}{g j:Nat}{cs:List Value}{t:TypeId}{c:Array Value}(h:Row w g cs t)(e:w'=w.setRow j c)(hn:g≠j:=by omega):Row w' g cs t:=h.same (by rw [e];exact setRow_other _ _ _ _ hn)
def Row.nw{w w':World}{l:List Value}{t:TypeId}(e:w'=w.alloc (.cells l.toArray t)):Row w' w.heap.size l t:=by rw [e];exact Row.new _ _ _
def Row.st{w w':World}{g:Nat}{l cs:List Value}{t:TypeId}(h:Row w g cs t)(e:w'=w.setRow g l.toArray):Row w' g l t:=by rw [e];exact h.set _
def Row.ld{w:World}{g:Nat}{cs:LV}{t:TypeId}(h:Row w g cs t)(j:Nat):ld w (some ⟨g,j,none⟩)=cs[j]? :=by simp [Vc.ld,World.cell?,show w.heap[g]? =_ from h]
def bZ(g o j:Nat):ae (some ⟨g,o,none⟩) j=some ⟨g,o+j,none⟩:=by simp [ae,kY]
def Row.wr{w:World}{g:Nat}{cs:LV}{t:TypeId}(h:Row w g cs t){o n:Nat}(hn:o+n<=cs.length):Wr w (some ⟨g,o,none⟩) n:=by
 intro i hi;refine ⟨_,rfl,?_,?_⟩
 ·rw [kY];simp [World.cell?,show w.heap[g]? =_ from h];omega
 ·rw [kY];exact N2 h _
def Row.aY{w:World}{g:Nat}{cs:LV}{t:TypeId}(h:Row w g cs t){o:Nat}{vs:LV}(hv:∀j,j<vs.length->cs[o+j]? =vs[j]?):au w (some ⟨g,o,none⟩) 0 vs:=
 pT λj hj=>by rw [bZ,h.ld];simpa using hv j hj
def Row.bc{w:World}{g:Nat}{cs:LV}{t:TypeId}(h:Row w g cs t){o:Nat}{vs:LV}(hl:o+vs.length<=cs.length)(h1:One vs):
  bc w (some ⟨g,o,none⟩) vs=w.setRow g (aW cs o vs).toArray:=by
 have e1:=fC (P:=default) ⟨g,o,none⟩ vs 0 w h1 (λj hj=>by
  obtain ⟨a,e,q⟩:=h.wr hl j hj
  cases e;simpa using q)
 have e2:=run_storeCells_at default g o t vs 0 cs.toArray w h (by simpa using hl) h1;rw [e1] at e2;injection e2 with _ e3;show mS w _ 0 vs=_;rw [e3,dE _ _ _ hl];simp
inductive Own(B E size:Nat)(w:World):Sl->LV->Prop
 |nil:Own B E size w ⟨none,0,0⟩ []
 |row (g n c:Nat) (cs:LV) (hg:B<=g) (hr:Row w g cs E) (hc:c*size<=cs.length) (hn:n<=c):Own B E size w ⟨some ⟨g,0,none⟩,n,c⟩ (cs.take (n*size))
def Sl.bj(s:Sl):Option Nat:=s.a.map (·.block)
def Own.len{B E size:Nat}{w:World}{s:Sl}{xs:LV}(h:Own B E size w s xs):xs.length=s.n*size:=by
 cases h with
 |nil=>simp
 |row g n c cs hg hr hc hn=>
  have:n*size<=c*size:=tw _ hn;rw [bF];show min (n*size) _=n*size;omega
def Own.rd{B E size:Nat}{w:World}{s:Sl}{xs:LV}(h:Own B E size w s xs):Rd w s.a xs:=by
 cases h with
 |nil=>intro i v hi;simp at hi
 |row g n c cs hg hr hc hn=>
  intro i v hi;rw [bZ,hr.ld];rw [mW] at hi;split at hi
  ·simpa using hi
  ·cases hi
def Own.bM{B E size:Nat}{w w':World}{s:Sl}{xs:LV}(h:Own B E size w s xs)(hk:∀g,s.bj=some g->w'.heap[g]? =w.heap[g]?):Own B E size w' s xs:=by
 cases h with
 |nil=>exact .nil
 |row g n c cs hg hr hc hn=>exact .row g n c cs hg (hr.same (hk g rfl)) hc hn
def Own.ext{B E size:Nat}{w w':World}{s:Sl}{xs:LV}(h:Own B E size w s xs)(he:Ext w w'):Own B E size w' s xs:=by
 cases h with
 |nil=>exact .nil
 |row g n c cs hg hr hc hn=>exact .row g n c cs hg (hr.ext he) hc hn
def Own.lt{B E size:Nat}{w:World}{s:Sl}{xs:LV}(h:Own B E size w s xs){g:Nat}(hg:s.bj=some g):B<=g/\g<w:=by
 cases h with
 |nil=>cases hg
 |row g' n c cs hg' hr hc hn=>cases hg;exact ⟨hg',hr.lt⟩
def Own.append{B E size bytes:Nat}{w:World}{s:Sl}{xs:LV}(h:Own B E size w s xs){m:Nat}{news:LV}(hB:B<=w)(hl:news.length=m*size)(h1:One news)
  (hb:(s.n+m)*bytes<=140737488355328)(hb':s.n+m<=9223372036854775807):
  aF bytes size w s m news/\∀(s':Sl)(w':World),aE E size w s m news s' w'->
   Own B E size w' s' (xs++news)/\s'.n=s.n+m/\Below B w w'/\(∀j,s.bj≠some j->j<w.heap.size->w'.heap[j]? =w.heap[j]?)/\(s'.bj=s.bj\/s'.bj=some w.heap.size):=by
 refine ⟨⟨λhf=> ?_,λhg=>⟨xs,h.len,h.rd⟩,λhg=>⟨growslice_fits hg hb,by omega⟩,hl,h1⟩,?_⟩
 ·cases h with
  |nil=>
   have:m=0:=by simp at hf;omega
   subst this;intro i hi;omega
  |row g n c cs hg hr hc hn=>
   rw [bZ];refine hr.wr ?_;have:(n+m)*size<=c*size:=tw _ hf;rw [q9] at this;simp;omega
 ·intro s' w' aR
  cases aR with
  |fits hf=>
   cases h with
   |nil=>
    have:m=0:=by simp at hf;omega
    subst this;have:news=[]:=zn.1 aa;subst this;exact ⟨.nil,rfl,Below.refl _ _,λ_ _ _=>rfl,.inl rfl⟩
   |row g n c cs hg hr hc hn=>
    have hle:n*size+news.length<=cs.length:=by have:(n+m)*size<=c*size:=tw _ hf;rw [q9] at this;omega
    rw [bZ,cP,hr.bc hle h1];have hr':=hr.set (aW cs (n*size) news);have e:cs.take (n*size)++news=(aW cs (n*size) news).take ((n+m)*size):=by
     have e0:(n+m)*size=n*size+news.length:=by rw [q9,hl]
     rw [dE _ _ _ hle,e0];exact ((Ie (by simp;omega)).trans (cZ (by simp;omega))).symm
    refine ⟨?_,rfl,⟨rfl,rfl,rfl,by rw [setRow_size];exact ax _,λk hk=>setRow_other _ _ _ _ aa⟩,λj hj _=>setRow_other _ _ _ _ (λe=>hj (by rw [e];rfl)),.inl rfl⟩;rw [e];exact .row g (n+m) c _ hg hr' (by rw [cJ];exact hc) hf
  |wJ hg eU rest cap e1 e2 e3 e4=>
   have ho:eU=xs:=by
    have fq:=h.rd;have ed:=h.len;apply im;intro i;rcases fz i xs.length with hi|hi
    ·have h1:=fq i xs[i] (cy hi);have hi':i<eU.length:=by omega
     have h2:=e2 i eU[i] (cy hi');rw [h1] at h2;rw [cy hi,cy hi'];exact h2.symm
    ·rw [iq hi,iq aa]
   subst ho;have Bh:=Row.new w.drew (eU++news++rest) E;have ed:=h.len;refine ⟨?_,rfl,?_,λj _ hj=>Below.heap_alloc _ _ _ hj,.inr rfl⟩
   ·have e:eU++news=(eU++news++rest).take ((s.n+m)*size):=by
     have e0:(s.n+m)*size=eU.length+news.length:=by rw [q9,hl,e1]
     rw [e0];exact ((Ie cx).trans (cZ cx)).symm
    conv=>rhs;rw [e]
    exact .row w.heap.size (s.n+m) cap _ hB Bh (Nat.le_of_eq e4.symm) e3
   ·exact (Below.refl B w).drew.alloc hB _
def Hd{P:Program}{pre:Prop}(hP:vx P)(hm:P.follows .mixedOrders=true){f:FuncId}{fn:Func}{an:Vm}{args:LV}{w:World}{R:Ending->World->Prop}(hf:P.funcs[f]? =some fn)
  (h:pre)(e:pre=Z1 P an fn args w R):Calls P f args.toArray w R:=Ig hP hm hf (e▸h)
def ngB(P:Program):Bool:=P.funcs.toList.all λfn=>fn.name != "runtime.NumGoroutine"
def Z0{P:Program}(h:ngB P=true):vx P:=λf fn hf he=>by
 have:=zw.1 h fn (by have:=Array.mem_of_getElem? hf;simpa using this)
 simp [he] at this
def inI(n:Int):Prop:= -9223372036854775808<=n/\n<=9223372036854775807
def az{n:Int}(h:inI n):ai n=n:=by unfold inI at h;unfold IntKind.wrap;simp only [IntKind.bits,IntKind.signed];simp only [re];split<;>simp_all<;>omega
def wI{n:Int}(h:inI n:=by unfold inI;omega):IntKind.wrap .i64 n=n:=az h
def kK{j:Nat}(h:inI ((j:Int)+1):=by unfold inI;omega):IntKind.wrap .i64 ((j:Int)+1)=((j+1:Nat):Int):=by rw [az h];omega
def S9(n:Int):inI (ai n):=by unfold inI IntKind.wrap;simp only [IntKind.bits,IntKind.signed];simp only [re];split<;>simp_all<;>omega
def LI{H:Type}:DataW H->Value
 | .lit (.int k n)=> .int k n
 | .lit (.bool b)=> .bool b
 | .lit (.string bs)=> .string ⟨bs.toArray⟩
 |_=> .bool false
def Ta{H:Type}:DataW H->LV
 | .agg l=>l.flatMap fun
   | .agg m=>m.map LI
   |d=> [LI d]
 |d=> [LI d]
def layAll(P:Program)(l:List (String × DataW Unit))(w:World):World:=
 {w with heap:=l.foldl (λh x=>match P.globalNamed x.1 with
   |some g=>h.modify g fun
    | .cells _ t frozen=> .cells (Ta x.2).toArray t frozen
    |o=>o
   |none=>h) w.heap}
end Go.Vc
namespace Go.Vc
open Go Go.RowKit
structure RdK(w:World)(s:Sl)(k:Nat)(rows:List (LV)):Prop where
 n:s.n=rows.length
 wd:∀r ∈ rows,r.length=k
 rd:∀i r,rows[i]? =some r->∀j v,r[j]? =some v->ld w (ae s.a (i*k+j))=some v
def RdK.ext{w w':World}{s:Sl}{k:Nat}{rows:List (LV)}(h:RdK w s k rows)(he:Ext w w'):RdK w' s k rows:=
 ⟨h.n,h.wd,λi r hi j v hj=>he.ld (h.rd i r hi j v hj)⟩
def RdK.isSome{w:World}{s:Sl}{k:Nat}{rows:List (LV)}(h:RdK w s k rows)(hk:0<k){i:Nat}(hi:i<rows.length):s.a.isSome=true:=by
 have hr:rows[i]? =some rows[i]:=cy hi;have hl:=h.wd _ (List.getElem_mem hi);have h0:rows[i][0]? =some (rows[i][0]'aa):=cy aa;have:=h.rd i _ hr 0 _ h0
 cases hs:s.a with
 |none=>rw [hs] at this;simp [ld,ae] at this
 |some a=>rfl
def RdK.fp{w:World}{s:Sl}{k:Nat}{rows:List (LV)}(h:RdK w s k rows)(hk:0<k){i:Int}(h0:0<=i)(h1:i<(s.n:Int)):cA s.a i s.n:=
 ⟨h.isSome hk (i:=i.toNat) (by have:=h.n;omega),h0,h1⟩
def RdK.at{w:World}{s:Sl}{k:Nat}{rows:List (LV)}(h:RdK w s k rows){i:Nat}{r:LV}(hi:rows[i]? =some r){j:Nat}{v:Value}(hj:r[j]? =some v):ld w (ae (ae s.a (i*k)) j)=some v:=by rw [eo];exact h.rd i r hi j v hj
def ga{w:World}{p:Option Addr}:∀{vs:LV} {i:Nat},(∀j v,vs[j]? =some v->ld w (ae p (i+j))=some v)->au w p i vs
 | [],_,_=>trivial
 | [v],i,h=>by have:=h 0 v rfl;simpa [au] using this
 |v::u::r,i,h=>⟨by have:=h 0 v rfl;simpa using this,ga (i:=i+1) λj x hj=>by
  have:=h (j+1) x (by simpa using hj)
  rwa [show i+(j+1)=i+1+j from by omega] at this⟩
def RdK.aY{w:World}{s:Sl}{k:Nat}{rows:List (LV)}(h:RdK w s k rows){i:Nat}{r:LV}(hi:rows[i]? =some r):au w (ae s.a (i*k)) 0 r:=
 ga λj v hj=>by rw [cP];exact h.at hi hj
def pE{k:Nat}:∀{rows:List (LV)},(∀r ∈ rows,r.length=k)->∀{i:Nat} {r:LV},rows[i]? =some r->∀{j:Nat},j<k->rows.flatten[i*k+j]? =r[j]?
 | [],_,i,r,hi,j,_=>by simp at hi
 |a::rows,h,0,r,hi,j,hj=>by
  simp at hi;subst hi
  have:=h a (.head _)
  rw [C6,kT aa]
  simp
 |a::rows,h,i+1,r,hi,j,hj=>by
  have ha:=h a (.head _)
  rw [C6,mV (by rw [ha,Gq];omega)]
  rw [show (i+1)*k+j-a.length=i*k+j from by rw [ha,Gq];omega]
  exact pE (λr hr=>h r (.tail _ hr)) (by simpa using hi) hj
def bK{k:Nat}:∀{rows:List (LV)},(∀r ∈ rows,r.length=k)->rows.flatten.length=rows.length*k
 | [],_=>by simp
 |a::rows,h=>by rw [C6,eP,bK (λr hr=>h r (.tail _ hr)),h a (.head _),fX,Gq,CU]
structure aj(B E k:Nat)(w:World)(s:Sl)(rows:List (LV)):Prop where
 own:Own B E k w s rows.flatten
 wd:∀r ∈ rows,r.length=k
def aj.rd{B E k:Nat}{w:World}{s:Sl}{rows:List (LV)}(h:aj B E k w s rows)(hk:0<k):RdK w s k rows:=by
 refine ⟨?_,h.wd,λi r hi j v hj=> ?_⟩
 ·have h1:=h.own.len;rw [bK h.wd] at h1;exact (Nat.eq_of_mul_eq_mul_right hk h1).symm
 ·have hl:=h.wd r (bf hi);have Yy:j<k:=by rw [<-hl];exact (bH.1 hj).1
  exact h.own.rd _ _ ((pE h.wd hi Yy).trans hj)
def aj.nil{B E k:Nat}{w:World}:aj B E k w ⟨none,0,0⟩ []:=⟨.nil,λ_ h=>by cases h⟩
def aj.ext{B E k:Nat}{w w':World}{s:Sl}{rows:List (LV)}(h:aj B E k w s rows)(he:Ext w w'):aj B E k w' s rows:=⟨h.own.ext he,h.wd⟩
def aj.bM{B E k:Nat}{w w':World}{s:Sl}{rows:List (LV)}(h:aj B E k w s rows)(hk:∀g,s.bj=some g->w'.heap[g]? =w.heap[g]?):aj B E k w' s rows:=⟨h.own.bM hk,h.wd⟩
def aj.low{B B' E k:Nat}{w:World}{s:Sl}{rows:List (LV)}(h:aj B E k w s rows)(hb:B'<=B):aj B' E k w s rows:=by
 refine ⟨?_,h.wd⟩;have ho:=h.own;generalize rows.flatten=xs at ho
 cases ho with
 |nil=>exact .nil
 |row g n c cs hg hr hc hn=>exact .row g n c cs aa hr hc hn
def aj.append{B E k bytes:Nat}{w:World}{s:Sl}{rows:List (LV)}(h:aj B E k w s rows){news:LV}(hB:B<=w)(hl:news.length=k)(h1:One news)
  (hb:(s.n+1)*bytes<=140737488355328)(hb':s.n+1<=9223372036854775807):
  aF bytes k w s 1 news/\∀(s':Sl)(w':World),aE E k w s 1 news s' w'->
   aj B E k w' s' (rows++ [news])/\s'.n=s.n+1/\Below B w w'/\(∀j,s.bj≠some j->j<w.heap.size->w'.heap[j]? =w.heap[j]?)/\(s'.bj=s.bj\/s'.bj=some w.heap.size):=by
 obtain ⟨hp,hr⟩:=h.own.append (bytes:=bytes) (m:=1) (news:=news) hB (by rw [hl,Nat.one_mul]) h1 hb hb';refine ⟨hp,λs' w' aR=> ?_⟩;obtain ⟨ho,hn,hx,hk,Jj⟩:=hr s' w' aR;refine ⟨⟨by rw [C4];simpa using ho,λr hr=> ?_⟩,hn,hx,hk,Jj⟩;rcases cu.1 hr with hr|hr
 ·exact h.wd r hr
 ·simp at hr;rw [hr];exact hl
def Own.set{B E size:Nat}{w:World}{s:Sl}{xs:LV}(h:Own B E size w s xs){m:Nat}{v:Value}(hm:m<xs.length)(hv:v.oneCell'=true):
  (ae s.a m).isSome=true/\Wr w (ae s.a m) 1/\Own B E size (bc w (ae s.a m) [v]) s (xs.set m v)/\(∀j,s.bj≠some j->(bc w (ae s.a m) [v]).heap[j]? =w.heap[j]?):=by
 cases h with
 |nil=>simp at hm
 |row g n c cs hg hr hc hn=>
  rw [bF] at hm;rw [bZ];have h1:One [v]:=by intro u hu;simp at hu;subst hu;exact hv
  have hs:=hr.bc (o:=0+m) (vs:=[v]) (by simp;omega) h1;refine ⟨rfl,hr.wr aa,?_,λj hj=> ?_⟩
  ·rw [<-List.take_set];rw [hs];refine .row g n c _ hg ?_ (by simpa using hc) hn;have e:aW cs (0+m) [v]=cs.set m v:=by simp [aW]
   rw [e];exact hr.set (cs.set m v)
  ·rw [hs];exact setRow_other _ _ _ _ (λe=>hj (by rw [e];rfl))
end Go.Vc
namespace Go.Vc
open Go Go.RowKit
def Below.bc{B:Nat}{a b:World}(h:Below B a b){p:Option Addr}{vs:LV}(hp:∀x,p=some x->B<=x.block):Below B a (bc b p vs):=by
 cases p with
 |none=>exact h
 |some x=>
  have hx:=hp x rfl;show Below B a (mS b x 0 vs);have key:∀(vs:LV)(i:Nat)(b:World),Below B a b->Below B a (mS b x i vs):=by
   intro vs
   induction vs with
   |nil=>intro i b h;exact h
   |cons v r ih=>
    intro i b h;refine ih _ _ (Below.setCell h ?_ _);unfold Addr.add;split<;>exact hx
  exact key vs 0 b h
def lF(k:IntKind)(a:Int):One [.int k a]:=by intro v hv;simp at hv;subst hv;rfl
def nO(k k':IntKind)(a b:Int):One [.int k a,.int k' b]:=by intro v hv;simp at hv;rcases hv with rfl|rfl<;>rfl
def aj.kJ{B E k bytes:Nat}{w:World}{s:Sl}{rows:List (LV)}(h:aj B E k w s rows){news:LV}(o:Obj)(hB:B<=w)(hl:news.length=k)(h1:One news)
  (hb:(s.n+1)*bytes<=140737488355328)(hb':s.n+1<=9223372036854775807):
  aF bytes k (w.alloc o) s 1 news/\∀(s':Sl)(w':World),aE E k (w.alloc o) s 1 news s' w'->
   w'.heap[w.heap.size]? =(w.alloc o).heap[w.heap.size]?/\aj B E k w' s' (rows++ [news])/\s'.n=s.n+1/\Below B w w'/\(∀j,s.bj≠some j->j<w.heap.size->w'.heap[j]? =w.heap[j]?)/\(s'.bj=s.bj\/s'.bj=some (w.heap.size+1)):=by
 have xa:=Ext.al w o;obtain ⟨hp,hr⟩:=(h.ext xa).append (bytes:=bytes) (news:=news) (fA hB xa.size) hl h1 hb hb';refine ⟨hp,λs' w' aR=> ?_⟩;obtain ⟨ho,hn,hx,hk,Jj⟩:=hr s' w' aR;have hz:(w.alloc o).heap.size=w.heap.size+1:=by simp
 refine ⟨hk _ (λhb=>absurd (h.own.lt hb).2 (tA _)) cx,ho,hn,(Below.mono xa hB).trans hx,λj hj fH=> ?_,by rw [<-hz];exact Jj⟩;rw [hk j hj aa];exact xa.heap fH
def aj.set{B E k:Nat}{w:World}{s:Sl}{rows:List (List Value)}(h:aj B E k w s rows){i j:Nat}{r:List Value}{v:Value}(hi:rows[i]? =some r)(hj:j<k)(hv:v.oneCell'=true)(hB:B<=w.heap.size):
  (ae (ae s.a (i*k)) j).isSome=true/\Wr w (ae (ae s.a (i*k)) j) 1/\aj B E k (bc w (ae (ae s.a (i*k)) j) [v]) s (rows.set i (r.set j v))/\
   Below B w (bc w (ae (ae s.a (i*k)) j) [v])/\(∀m,s.bj≠some m->(bc w (ae (ae s.a (i*k)) j) [v]).heap[m]? =w.heap[m]?):=by
 have ed:=bK h.wd;have wg:i<rows.length:=(List.getElem?_eq_some_iff.1 hi).1;have hm:i*k+j<rows.flatten.length:=by rw [ed];have:(i+1)*k<=rows.length*k:=Nat.mul_le_mul_right _ wg;rw [Nat.succ_mul] at this;omega
 obtain ⟨h1,h2,h3,h4⟩:=h.own.set (v:=v) hm hv;rw [eo];refine ⟨h1,h2,⟨?_,λq hq=> ?_⟩,?_,h4⟩
 ·have e:(rows.set i (r.set j v)).flatten=rows.flatten.set (i*k+j) v:=by
   have hw:=h.wd;clear h h1 h2 h3 h4 hm ed hv
   induction rows generalizing i with
   |nil=>simp at hi
   |cons a rows ih=>
    have ha:=hw a (.head _)
    cases i with
    |zero=>
     simp at hi;subst hi;simp only [List.set_cons_zero,List.flatten_cons,Nat.zero_mul,Nat.zero_add];rw [List.set_append_left _ _ (by omega)]
    |succ i=>
     simp only [List.set_cons_succ,List.flatten_cons];rw [List.set_append_right _ _ (by rw [ha,Nat.succ_mul];omega),show (i+1)*k+j-a.length=i*k+j from by rw [ha,Nat.succ_mul];omega];rw [ih (by simpa using hi) (by simpa using wg) (λr hr=>hw r (.tail _ hr))]
  rw [e];exact h3
 ·rcases List.mem_or_eq_of_mem_set hq with hq|rfl
  ·exact h.wd q hq
  ·rw [List.length_set];exact h.wd r (List.mem_of_getElem? hi)
 ·refine Below.bc (Below.refl _ _) λx hx=> ?_
  have ho:=h.own;generalize rows.flatten=xs at ho
  cases ho with
  |nil=>simp [ae] at hx
  |row g n c cs hg hr hc hn=>simp [ae,kY] at hx;subst hx;exact hg
end Go.Vc
namespace Go.Vc
open Go Go.RowKit
def pB{E size:Nat}{w w':World}{a:Option Addr}{n:Nat}{news:LV}{s':Sl}(h:aE E size w ⟨a,0,0⟩ n news s' w')(hl:news.length=n*size){j:Nat}(hj:j<w):w'.heap[j]? =w.heap[j]? :=by
 cases h with
 |fits hf=>
  have:n=0:=by simp at hf;omega
  subst this;have:news=[]:=tu aa;subst this
  cases hp:ae a (0*size) with
  |none=>simp [hp,Go.Vc.bc]
  |some x=>simp only [hp,Go.Vc.bc];rfl
 |wJ hf eU rest cap h1 h2 h3 h4=>exact ((Ext.dr w).tr (Ext.al _ _)).heap hj
def RdK.flat{w:World}{s:Sl}{k:Nat}{rows:List (LV)}(h:RdK w s k rows)(hk:0<k):Rd w s.a rows.flatten:=by
 intro i v hi;have wg:i<rows.flatten.length:=(bH.1 hi).1;rw [bK h.wd] at wg;have hik:i / k<rows.length:=Nat.div_lt_of_lt_mul (by rw [Nat.mul_comm];exact wg);have hr:rows[i / k]? =some rows[i / k]:=cy hik;have hm:i % k<k:=Nat.mod_lt _ hk;have e:i / k*k+i % k=i:=by rw [Nat.mul_comm];exact Nat.div_add_mod i k
 have:=pE h.wd hr hm;rw [e,hi] at this;have:=h.rd _ _ hr _ v this.symm;rwa [e] at this
def fi{rows:List (LV)}(h:∀r ∈ rows,One r):One rows.flatten:=by intro v hv;obtain ⟨r,hr,hvr⟩:=List.mem_flatten.1 hv;exact h r hr v hvr
end Go.Vc
namespace Go.Vc
open Go Go.RowKit
def rf:∀(vs cs:LV)(off N:Nat),(aW cs off vs).take N=aW (cs.take N) off vs
 | [],_,_,_=>rfl
 |v::r,cs,off,N=>by
  show (aW (cs.set off v) (off+1) r).take N=aW ((cs.take N).set off v) (off+1) r
  rw [rf,List.take_set]
def pF(a:LV):∀(vs b:LV)(o:Nat),aW (a++b) (a.length+o) vs=a++aW b o vs
 | [],_,_=>rfl
 |v::r,b,o=>by
  show aW ((a++b).set (a.length+o) v) (a.length+o+1) r=a++aW (b.set o v) (o+1) r
  rw [List.set_append_right _ _ aa,Nat.add_sub_cancel_left,Nat.add_assoc]
  exact pF a r _ _
def Own.put{B E size:Nat}{w:World}{s:Sl}{xs:LV}(h:Own B E size w s xs){m:Nat}{vs:LV}(hm:m+vs.length<=xs.length)(hx:0<xs.length)(hv:One vs):
  (ae s.a m).isSome=true/\Wr w (ae s.a m) vs.length/\Own B E size (bc w (ae s.a m) vs) s (aW xs m vs)/\(∀j,s.bj≠some j->(bc w (ae s.a m) vs).heap[j]? =w.heap[j]?):=by
 cases h with
 |nil=>simp at hx
 |row g n c cs hg hr hc hn=>
  rw [bF] at hm;rw [bZ];have hs:=hr.bc (o:=0+m) (vs:=vs) aa hv;refine ⟨rfl,hr.wr aa,?_,λj hj=> ?_⟩
  ·rw [<-rf,hs,cP];exact .row g n c _ hg (hr.set _) (by rw [Go.Vc.cJ];exact hc) hn
  ·rw [hs];exact setRow_other _ _ _ _ (λe=>hj (by rw [e];rfl))
def aj.put{B E k:Nat}{w:World}{s:Sl}{rows:List (List Value)}(h:aj B E k w s rows){i:Nat}{r:List Value}(hi:i<rows.length)(hk:0<k)(hr:r.length=k)(hv:One r):
  (ae s.a (i*k)).isSome=true/\Wr w (ae s.a (i*k)) k/\aj B E k (bc w (ae s.a (i*k)) r) s (rows.set i r)/\
   Below B w (bc w (ae s.a (i*k)) r)/\(∀m,s.bj≠some m->(bc w (ae s.a (i*k)) r).heap[m]? =w.heap[m]?):=by
 have ed:=bK h.wd;have h1:(i+1)*k<=rows.length*k:=Nat.mul_le_mul_right _ hi;rw [Nat.succ_mul] at h1;obtain ⟨p1,p2,p3,p4⟩:=h.own.put (m:=i*k) (vs:=r) (by omega) (by omega) hv;rw [hr] at p2;refine ⟨p1,p2,⟨?_,λq hq=> ?_⟩,?_,p4⟩
 ·have e:(rows.set i r).flatten=aW rows.flatten (i*k) r:=by
   have hw:=h.wd;clear h p1 p2 p3 p4 ed h1
   induction rows generalizing i with
   |nil=>simp at hi
   |cons a rows ih=>
    have ha:=hw a (.head _)
    cases i with
    |zero=>
     simp only [List.set_cons_zero,List.flatten_cons,Nat.zero_mul];rw [dE _ _ _ (by rw [List.length_append];omega),hr,Nat.zero_add,List.drop_left' ha];simp
    |succ i=>
     simp only [List.set_cons_succ,List.flatten_cons];rw [show (i+1)*k=a.length+i*k from by rw [ha,Nat.succ_mul];omega,pF];rw [ih (by simpa using hi) (λr hr=>hw r (.tail _ hr))]
  rw [e];exact p3
 ·rcases List.mem_or_eq_of_mem_set hq with hq|rfl
  ·exact h.wd q hq
  ·exact hr
 ·refine Below.bc (Below.refl _ _) λx hx=> ?_
  have ho:=h.own;generalize rows.flatten=xs at ho
  cases ho with
  |nil=>simp [ae] at hx
  |row g n c cs hg hr hc hn=>simp [ae,kY] at hx;subst hx;exact hg
def pG(a:Option Addr)(m size j:Nat):ae (aA a 0 m size) j=ae a j:=by
 unfold aA;split
 ·rfl
 ·show ae (ae a (0*size)) j=_;rw [eo];simp
def RdK.cut{w:World}{s:Sl}{k:Nat}{rows:List (LV)}(h:RdK w s k rows){m c' c'':Nat}(hm:m<=rows.length):RdK w ⟨aA s.a 0 c' k,m,c''⟩ k (rows.take m):=by
 refine ⟨by simp;omega,λr hr=>h.wd r (kq hr),λi r hi j v hj=> ?_⟩;show ld w (ae (aA s.a 0 c' k) _)=_;rw [pG];rw [mW] at hi;split at hi
 ·exact h.rd i r hi j v hj
 ·cases hi
end Go.Vc
namespace Go.Vc
open Go Go.RowKit
def aj.kl{B E k bytes:Nat}{w:World}{s:Sl}{rows more:List (LV)}(h:aj B E k w s rows)(hB:B<=w)(hl:∀r ∈ more,r.length=k)(h1:∀r ∈ more,One r)
  (hb:(s.n+more.length)*bytes<=140737488355328)(hb':s.n+more.length<=9223372036854775807):
  aF bytes k w s more.length more.flatten/\∀(s':Sl)(w':World),aE E k w s more.length more.flatten s' w'->
   aj B E k w' s' (rows++more)/\s'.n=s.n+more.length/\Below B w w'/\(∀j,s.bj≠some j->j<w.heap.size->w'.heap[j]? =w.heap[j]?)/\(s'.bj=s.bj\/s'.bj=some w.heap.size):=by
 obtain ⟨hp,hr⟩:=h.own.append (bytes:=bytes) (m:=more.length) (news:=more.flatten) hB (bK hl) (fi h1) hb hb';refine ⟨hp,λs' w' aR=> ?_⟩;obtain ⟨ho,hn,hx,hk,Jj⟩:=hr s' w' aR;refine ⟨⟨by rw [C4];exact ho,λr hr=> ?_⟩,hn,hx,hk,Jj⟩;rcases cu.1 hr with hr|hr
 ·exact h.wd r hr
 ·exact hl r hr
end Go.Vc
namespace Go.Vc
open Go Go.RowKit
def RdK.rest{w:World}{s:Sl}{k:Nat}{rows:List (LV)}(h:RdK w s k rows){l m n' c':Nat}(hn:n'=rows.length-l)(hm:m=l->rows.length<=l):RdK w ⟨aA s.a l m k,n',c'⟩ k (rows.drop l):=by
 refine ⟨by simpa using hn,λr hr=>h.wd r (oE hr),λi r hi j v hj=> ?_⟩;rw [th] at hi;show ld w (ae (aA s.a l m k) _)=_;unfold aA;split
 ·rename_i e;have:=hm e;rw [iq aa] at hi;cases hi
 ·show ld w (ae (ae s.a (l*k)) _)=_;rw [eo];have:=h.rd (l+i) r hi j v hj;rwa [q9,Nat.add_assoc] at this
end Go.Vc
namespace Go.Vc
open Go Go.RowKit
def sw{P:Program}{fv:Value}{args:LV}{w:World}{R R':Ending->World->Prop}(h:dJ P fv args w R)(hr:∀e w',R e w'->R' e w'):dJ P fv args w R':=by
 unfold dJ at h ⊢;split at h
 ·split at h
  ·exact h.mono hr
  ·obtain ⟨e,he,v,w',h1,h2⟩:=h;exact ⟨e,he,v,w',h1,hr _ _ h2⟩
 ·obtain ⟨h1,fn,tmps,assign,body,h2,h3⟩:=h;exact ⟨h1,fn,tmps,assign,body,h2,h3.mono hr⟩
 ·exact h.elim
def S2{P:Program}{f:FuncId}{first cap:Array Value}{args:LV}{w:World}{R:Ending->World->Prop}(hb:qN P f=true)(h:Calls P f (first.toList++args++cap.toList).toArray w R):
  dJ P (.func (.func f) first cap) args w R:=by
 unfold dJ;simp only [hb];exact h
def iA{P:Program}{f:FuncId}{first cap:Array Value}{args:LV}{w:World}{R:Ending->World->Prop}{asx:Array Value}(hb:qN P f=true)(ha:(first.toList++args++cap.toList).toArray=asx)(h:Calls P f asx w R):
  dJ P (.func (.func f) first cap) args w R:=S2 hb (by rw [ha];exact h)
def H5(fn:Fn)(a b:Array Value):J9 (.func fn a b)=false:=rfl
def S3(fn:Fn)(a b:Array Value):fnC (.func fn a b)=[]:=rfl
structure Mod(F:Nat->Prop)(w w':World):Prop where
 os:w'.os=w.os
 tape:w'.tape=w.tape
 output:w'.output=w.output
 size:w.heap.size<=w'.heap.size
 same:∀i,i<w.heap.size->¬F i->w'.heap[i]? =w.heap[i]?
def Mod.refl(F:Nat->Prop)(w:World):Mod F w w:=⟨rfl,rfl,rfl,ax _,λ_ _ _=>rfl⟩
def Mod.aN{F:Nat->Prop}{w w':World}(h:Ext w w'):Mod F w w':=⟨h.os,h.tape,h.output,h.size,λi hi _=>h.block i hi⟩
def Mod.trans{F:Nat->Prop}{a b c:World}(h:Mod F a b)(k:Mod F b c):Mod F a c:=
 ⟨k.os.trans h.os,k.tape.trans h.tape,k.output.trans h.output,fA h.size k.size,λi hi hn=>(k.same i (kR hi h.size) hn).trans (h.same i hi hn)⟩
def Mod.mono{F F':Nat->Prop}{a b:World}(h:Mod F a b)(hs:∀i,i<a.heap.size->F i->F' i):Mod F' a b:=⟨h.os,h.tape,h.output,h.size,λi hi hn=>h.same i hi λhf=>hn (hs i hi hf)⟩
def Mod.tr{F F':Nat->Prop}{a b c:World}(h:Mod F a b)(k:Mod F' b c)(hs:∀i,F' i->F i\/a.heap.size<=i):Mod F a c:=
 ⟨k.os.trans h.os,k.tape.trans h.tape,k.output.trans h.output,fA h.size k.size,λi hi hn=>(k.same i (kR hi h.size) λhf=>by
  rcases hs i hf with hf|hf
  ·exact hn hf
  ·omega).trans (h.same i hi hn)⟩
def Mod.below{F:Nat->Prop}{B:Nat}{w w':World}(h:Mod F w w')(hB:B<=w)(hF:∀i,F i->B<=i):Below B w w':=⟨h.os,h.tape,h.output,h.size,λi hi=>h.same i aa λhf=>by have:=hF i hf;omega⟩
def Mod.ext{F:Nat->Prop}{w0 w w':World}(h:Mod F w w')(x:Ext w0 w)(hF:∀i,F i->w0.heap.size<=i):Ext w0 w':=x.trans (h.below x.size hF)
def Mod.ED{r:Nat}{w w':World}(h:Rec r w w'):Mod (λi=>i=r) w w':=⟨h.os,h.tape,h.output,Nat.le_of_eq h.size.symm,λi _ hn=>h.same i hn⟩
def WI{w w':World}{p:Option Addr}(h:∀b,cS p=some b->w'.heap[b]? =w.heap[b]?):ld w' p=ld w p:=by
 cases p with
 |none=>rfl
 |some a=>
  show w'.cell? a=w.cell? a;have:=h a.block rfl;simp only [World.cell?,this]
def RdK.same{w w':World}{s:Sl}{k:Nat}{rows:List (LV)}(h:RdK w s k rows)(hs:∀b,s.bj=some b->w'.heap[b]? =w.heap[b]?):RdK w' s k rows:=
 ⟨h.n,h.wd,λi r hi j v hj=>by rw [WI λb hb=>hs b (by rw [dj] at hb;exact hb)];exact h.rd i r hi j v hj⟩
end Go.Vc
namespace Go.Vc
open Go Go.RowKit
def RdK.jX{w:World}{s:Sl}{k:Nat}{rows:List (LV)}(h:RdK w s k rows)(hk:0<k)(dN:rows≠ []){b:Nat}(hb:s.bj=some b):b<w:=by
 cases rows with
 |nil=>exact absurd rfl dN
 |cons r rows=>
  have hl:=h.wd r (.head _);have h0:r[0]? =some (r[0]'aa):=cy aa;have:=h.rd 0 r rfl 0 _ h0
  cases ha:s.a with
  |none=>rw [ha] at this;simp [ld,ae] at this
  |some a=>
   rw [ha] at this;have fH:=Nh (w:=w) (a:=a.add (0*k+0)) this;have:(a.add (0*k+0)).block=a.block:=by unfold Addr.add;split<;>rfl
   rw [this] at fH;simp [Sl.bj,ha] at hb;omega
def RdK.AB{w w':World}{s:Sl}{k:Nat}{rows:List (LV)}(h:RdK w s k rows)(hs:rows≠ []->∀b,s.bj=some b->w'.heap[b]? =w.heap[b]?):RdK w' s k rows:=by
 cases rows with
 |nil=>exact ⟨h.n,h.wd,λi r hi=>by simp at hi⟩
 |cons r rows=>exact h.same (hs cx)
end Go.Vc
namespace Go.Vc
open Go Go.RowKit
end Go.Vc
namespace Go.Vc
open Go Go.RowKit
def aj.form{B E k:Nat}{w:World}{s:Sl}{rows:List (LV)}(h:aj B E k w s rows)(hk:0<k):(s=⟨none,0,0⟩/\rows=[])\/
  ∃g cs,s.a=bu g/\B<=g/\Row w g cs E/\s.c*k<=cs.length/\s.n<=s.c/\cs.take (s.n*k)=rows.flatten/\s.n=rows.length:=by
 have hn:=(h.rd hk).n;have ho:=h.own;have hf:=bK h.wd;generalize hx:rows.flatten=xs at ho hf
 cases ho with
 |nil=>exact .inl ⟨rfl,tu (by rw [<-hn])⟩
 |row g n c cs hg hr hc hn'=>exact .inr ⟨g,cs,rfl,hg,hr,hc,hn',rfl,hn⟩
def aj.gm{B E k:Nat}{w:World}{g n c:Nat}{cs:LV}{rows:List (LV)}(hg:B<=g)(hr:Row w g cs E)(hc:c*k<=cs.length)(hn:n<=c)(ht:cs.take (n*k)=rows.flatten)(hw:∀r ∈ rows,r.length=k):
  aj B E k w ⟨bu g,n,c⟩ rows:=⟨by rw [<-ht];exact .row g n c cs hg hr hc hn,hw⟩
def eJ(a:Option Addr)(m size:Nat):aA a 0 m size=a:=by
 unfold aA;split
 ·rfl
 ·cases a<;>simp [Addr.add]
def nR(g l m size:Nat):aA (bu g) l m size=if m=l then bu g else some ⟨g,l*size,none⟩:=by
 unfold aA;split
 ·rfl
 ·simp [kY]
def Row.ZD{w:World}{g:Nat}{cs vs:LV}{E:TypeId}(hr:Row w g cs E){l m size:Nat}(hm:m=l->vs=[])(hv:∀j,j<vs.length->cs[l*size+j]? =vs[j]?):Rd w (aA (bu g) l m size) vs:=by intro j v hj;have fH:=(bH.1 hj).1;rw [nR,if_neg (λe=>by rw [hm e] at fH;simp at fH),bZ,hr.ld,hv j fH];exact hj
def Row.Rj{w:World}{g:Nat}{cs vs:LV}{E:TypeId}(hr:Row w g cs E){l m size:Nat}(hm:m=l->vs=[])(hl:l*size+vs.length<=cs.length)(h1:One vs):
  Wr w (aA (bu g) l m size) vs.length/\Row (Go.Vc.bc w (aA (bu g) l m size) vs) g (aW cs (l*size) vs) E/\Mod (λi=>i=g) w (Go.Vc.bc w (aA (bu g) l m size) vs):=by
 by_cases e:m=l
 ·have:=hm e;subst this;rw [nR,if_pos e];exact ⟨λi hi=>by simp at hi,hr,Mod.refl _ _⟩
 ·rw [nR,if_neg e,hr.bc hl h1];exact ⟨hr.wr hl,hr.set _,⟨rfl,rfl,rfl,by rw [setRow_size];exact ax _,λi _ hn=>setRow_other _ _ _ _ hn⟩⟩
def Og{w:World}{a:Option Addr}{xs ys:LV}(hx:Rd w a xs)(hy:Rd w a ys)(hl:xs.length=ys.length):xs=ys:=by
 apply im;intro i;rcases fz i xs.length with hi|hi
 ·have h1:=hx i xs[i] (cy hi);have h2:=hy i (ys[i]'aa) (cy aa);rw [h1] at h2;rw [cy hi,cy aa];exact h2
 ·rw [iq hi,iq aa]
def Row.ZQ{w:World}{g:Nat}{cs vs:LV}{E:TypeId}(hr:Row w g cs E)(hv:∀j,j<vs.length->cs[j]? =vs[j]?):Rd w (bu g) vs:=by intro j v hj;have fH:=(bH.1 hj).1;rw [bZ,hr.ld,cP,hv j fH];exact hj
def Row.ne{w:World}{g g':Nat}{cs cs':LV}{E E':TypeId}(hr:Row w g cs E)(hr':Row w g' cs' E')(hE:E≠E'):g≠g':=by rintro rfl;have:=hr.symm.trans hr';simp at this;exact hE this.2
def Row.ic{w:World}{g r:Nat}{cs:LV}{E:TypeId}{G:Value->Prop}{kvs:List (Value × Value)}(hr:Row w g cs E)(hm:bN G w (some r) kvs):g≠r:=by rintro rfl;exact hm.qF _ _ _ hr
def bN.same{w w':World}{G:Value->Prop}{r:Nat}{kvs:List (Value × Value)}(hm:bN G w (some r) kvs)(h:w'.heap[r]? =w.heap[r]?):bN G w' (some r) kvs:=by obtain ⟨es,c,h1,h2⟩:=hm;exact ⟨es,c,h.trans h1,h2⟩
def bN.lt{w:World}{G:Value->Prop}{r:Nat}{kvs:List (Value × Value)}(hm:bN G w (some r) kvs):r<w:=by obtain ⟨es,c,h1,h2⟩:=hm;exact (mQ.1 h1).1
def bN.new{w:World}{G:Value->Prop}:bN G (w.alloc (.map #[] 0)) (some w.heap.size) []:=
 ⟨#[],0,World.alloc_heap_new w _,rfl,by simp,by simp,by simp,by simp⟩
end Go.Vc
namespace Go.Vc
open Go Go.RowKit
def tH{k:Nat}:∀{rows:List (LV)} (m:Nat),(∀r ∈ rows,r.length=k)->rows.flatten.take (m*k)=(rows.take m).flatten
 | [],m,_=>by simp
 |r::rows,0,_=>by simp
 |r::rows,m+1,hw=>by
  have hr:=hw r (.head _)
  rw [List.take_succ_cons,C6,C6,show (m+1)*k=r.length+m*k by rw [Gq,hr];omega,List.take_append,cZ aa,Nat.add_sub_cancel_left,tH m λq hq=>hw q (.tail _ hq)]
def aj.cut{B E k:Nat}{w:World}{s:Sl}{rows:List (LV)}(h:aj B E k w s rows)(hk:0<k){m:Nat}(hm:m<=rows.length):aj B E k w ⟨aA s.a 0 m k,m,m⟩ (rows.take m):=by
 rw [eJ];rcases h.form hk with ⟨rfl,rfl⟩|⟨g,cs,ha,hg,hr,hc,hn,ht,hl⟩
 ·have:m=0:=by simpa using hm
  subst this;exact .nil
 ·rw [ha];have h1:m*k<=s.n*k:=tw _ aa;have h2:s.n*k<=s.c*k:=tw _ hn;refine aj.gm hg hr aa (ax _) ?_ (λr hr=>h.wd r (kq hr));have e1:cs.take (m*k)=(cs.take (s.n*k)).take (m*k):=by rw [List.take_take,Nat.min_eq_left h1]
  rw [e1,ht,tH m h.wd]
end Go.Vc
namespace Go.Vc
open Go Go.RowKit
structure aG(F F':Nat->Prop)(w w':World):Prop where
 mod:Mod F w w'
 sub:∀i,F' i->F i\/w.heap.size<=i
def aG.refl(F:Nat->Prop)(w:World):aG F F w w:=⟨Mod.refl _ _,λ_ h=> .inl h⟩
def aG.trans{F G H:Nat->Prop}{a b c:World}(h:aG F G a b)(k:aG G H b c):aG F H a c:=
 ⟨h.mod.tr k.mod h.sub,λi hi=>by
  rcases k.sub i hi with hg|hg
  ·exact h.sub i hg
  ·exact .inr (fA h.mod.size hg)⟩
def aG.aN{F:Nat->Prop}{w w':World}(h:Ext w w'):aG F F w w':=⟨Mod.aN h,λ_ h=> .inl h⟩
def aG.fresh{F F':Nat->Prop}{w0 w w':World}(h:aG F F' w w')(x:Ext w0 w)(hF:∀i,F i->w0.heap.size<=i):Ext w0 w'/\∀i,F' i->w0.heap.size<=i:=
 ⟨h.mod.ext x hF,λi hi=>by
  rcases h.sub i hi with hf|hf
  ·exact hF i hf
  ·exact fA x.size hf⟩
def aG.apart{F F' G:Nat->Prop}{w w':World}(h:aG F F' w w')(hd:∀i,F i->¬G i)(hl:∀i,G i->i<w.heap.size):∀i,F' i->¬G i:=λi hi hg=>by
 rcases h.sub i hi with hf|hf
 ·exact hd i hf hg
 ·have:=hl i hg;omega
def Mod.rK{w w':World}{s:Sl}(hb:Below 0 w w')(hk:∀j,s.bj≠some j->j<w.heap.size->w'.heap[j]? =w.heap[j]?):Mod (λi=>s.bj=some i) w w':=
 ⟨hb.os,hb.tape,hb.output,hb.size,λi hi hn=>hk i hn hi⟩
def Mod.row{F:Nat->Prop}{w w':World}(h:Mod F w w'){g:Nat}{cs:LV}{t:TypeId}(hr:Row w g cs t)(hn:¬F g):Row w' g cs t:=hr.same (h.same g hr.lt hn)
def Mod.gK{F:Nat->Prop}{w w':World}(h:Mod F w w'){B E k:Nat}{s:Sl}{rows:List (LV)}(ho:aj B E k w s rows)(hn:∀b,s.bj=some b->¬F b):aj B E k w' s rows:=
 ho.bM λb hb=>h.same b (ho.own.lt hb).2 (hn b hb)
def Mod.map{F:Nat->Prop}{w w':World}(h:Mod F w w'){G:Value->Prop}{r:Nat}{kvs:List (Value × Value)}(hm:bN G w (some r) kvs)(hn:¬F r):bN G w' (some r) kvs:=hm.same (h.same r hm.lt hn)
def Mod.rdK{F:Nat->Prop}{w w':World}(h:Mod F w w'){s:Sl}{k:Nat}{rows:List (LV)}(hk:0<k)(hr:RdK w s k rows)(hn:rows≠ []->∀b,s.bj=some b->¬F b):RdK w' s k rows:=
 hr.AB λdN b hb=>h.same b (hr.jX hk dN hb) (hn dN b hb)
def TC{C x l:LV}{a b N:Nat}(hb:b=a+x.length)(hN:N=b+l.length)(hC:N<=C.length):(aW (aW C a x) b l).take N=C.take a++x++l:=by
 have ha:(C.take a).length=a:=by rw [bF];omega
 rw [dE x C a aa];have hD:(C.take a++x).length=b:=by rw [eP,ha,hb]
 rw [dE _ _ _ (by rw [eP,hD,iC];omega),zG hD,zG (by rw [eP,hD];omega)]
def PM{C x l:LV}{a b N:Nat}(hb:b=a+x.length)(hN:N=b+l.length)(hC:N<=C.length):(aW (aW C b l) a x).take N=C.take a++x++l:=by
 have ha:(C.take a).length=a:=by rw [bF];omega
 have uM:(C.take b).length=b:=by rw [bF];omega
 rw [dE l C b aa];have h1:(C.take b++l++C.drop (b+l.length)).take a=C.take a:=by rw [mX,Ie aa,List.take_take,Nat.min_eq_left aa]
 have h2:(C.take b++l++C.drop (b+l.length)).drop (a+x.length)=l++C.drop (b+l.length):=by rw [mX,<-hb,List.drop_left' uM]
 have hl:(C.take b++l++C.drop (b+l.length)).length=C.length:=by simp;omega
 rw [dE _ _ _ (by rw [hl];omega),h1,h2,<-mX,zG (by simp only [eP,ha];omega)]
def aat{lo hi:Nat}(h:lo+hi<=1000000):ai (((bD (ai ((lo:Int)+(hi:Int)))):Int).fdiv (2 ^(min (1:Int).toNat 64)))=(((lo+hi) / 2:Nat):Int):=by
 rw [az (n:=(lo:Int)+hi) (by unfold inI;omega)];have h2:bD ((lo:Int)+hi)=lo+hi:=by unfold IntKind.wrap;simp only [IntKind.bits,IntKind.signed];simp;omega
 rw [h2];have h3:((lo:Int)+hi).fdiv (2 ^(min (1:Int).toNat 64))=(((lo+hi) / 2:Nat):Int):=by show ((lo:Int)+hi).fdiv 2=_;rw [Az _ aa];omega
 rw [h3,wI]
def Row.at{w:World}{g:Nat}{cs:LV}{E:TypeId}(hr:Row w g cs E)(j:Nat){v:Value}(h:cs[j]? =some v):Vc.ld w (ae (bu g) j)=some v:=by rw [bZ,hr.ld,cP];exact h
def Row.jR{w:World}{g:Nat}{cs:LV}{E:TypeId}(hr:Row w g cs E){j:Nat}{v:Value}(hj:j<cs.length)(hv:v.oneCell'=true):
  Wr w (ae (bu g) j) 1/\∀w',w'=Vc.bc w (ae (bu g) j) [v]->Row w' g (aW cs j [v]) E/\Mod (λi=>i=g) w w':=by
 rw [bZ,cP];have h1:One [v]:=by intro u hu;simp at hu;subst hu;exact hv
 refine ⟨hr.wr aa,λw' e=> ?_⟩;rw [hr.bc (by simp;omega) h1] at e;subst e;exact ⟨hr.set _,rfl,rfl,rfl,by rw [setRow_size];exact ax _,λi _ hn=>setRow_other _ _ _ _ hn⟩
def aM{B E k:Nat}{w:World}{s:Sl}{rows:List (LV)}(h:aj B E k w s rows)(hk:0<k){b:Nat}(hb:s.bj=some b):∃cs,Row w b cs E:=by
 rcases h.form hk with ⟨hs,-⟩|⟨g0,cs,ha,Ua,hr,-⟩
 ·rw [hs] at hb;cases hb
 ·unfold Sl.bj at hb;rw [ha] at hb;have:g0=b:=by simpa using hb
  exact ⟨cs,this▸hr⟩
end Go.Vc
