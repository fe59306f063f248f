import Derived.Test.YtalpkjfpmdpbiaaGreatDoorVc
import Derived.Lib.Overlaps
set_option linter.all false
namespace Go.Vc
open Go Go.RowKit
abbrev Ext(w w':World):Prop:=Below w w w'
def Ext.ck(w:World):Ext w w:=Below.refl _ _
def Ext.tr{a b c:World}(h:Ext a b)(k:Ext b c):Ext a c:=Below.trans h (Below.mono k h.size)
def Ext.al(w:World)(o:Obj):Ext w (w.alloc o):=(Below.refl _ w).alloc (ax _) o
def Ext.dr(w:World):Ext w w.drew:=(Below.refl _ w).drew
def Ext.ay{a b c:World}{o:Obj}(h:Ext a b)(e:c=b.alloc o):Ext a c:=by subst e;exact h.tr (Ext.al _ _)
def bq{b c:World}{o:Obj}(e:c=b.alloc o):Ext b c:=(Ext.ck _).ay e
def Ext.drew{a b:World}(h:Ext a b):Ext a b.drew:=h.tr (Ext.dr _)
def setRow_other(w:World)(g j:Nat)(cs:Array Value)(h:j≠g):(w.setRow g cs).heap[j]? =w.heap[j]? :=by simp only [World.setRow,Array.getElem?_modify,if_neg (Ne.symm h)]
def setRow_size(w:World)(g:Nat)(cs:Array Value):(w.setRow g cs).heap.size=w.heap.size:=by simp [World.setRow]
def Ext.setRow{a b:World}(h:Ext a b){g:Nat}(hg:a.heap.size<=g)(cs:Array Value):Ext a (b.setRow g cs):=
 ⟨h.os,h.tape,h.output,by rw [setRow_size];exact h.size,λk hk=>by rw [setRow_other _ _ _ _ aa];exact h.block k hk⟩
def Ext.ab{a b c:World}{g:Nat}{cs:Array Value}(h:Ext a b)(e:c=b.setRow g cs)(hg:a.heap.size<=g):Ext a c:=by subst e;exact h.setRow hg cs
def Mu{w:World}{a:Addr}{v:Value}(h:w.cell? a=some v):a.block<w:=by
 unfold World.cell? at h;split at h
 ·rename_i hb;exact (mN.1 hb).1
 ·cases h
def Ext.ld{w w':World}(h:Ext w w'){p:Option Addr}{v:Value}(hl:ld w p=some v):ld w' p=some v:=by
 cases p with
 |none=>simp [Vc.ld] at hl
 |some a=>
  have hl':w.cell? a=some v:=hl;show w'.cell? a=some v;rw [Below.cell h (Mu hl')];exact hl'
def Ext.heap{w w':World}(h:Ext w w'){i:Nat}(hi:i<w):w'.heap[i]? =w.heap[i]? :=h.block i hi
def Ext.k{w w':World}(h:Ext w w'){i:Nat}(hi:i<w.heap.size:=by omega):w'.heap[i]? =w.heap[i]? :=h.block i hi
def eF(p:Option Addr)(m n:Nat):ae (ae p m) n=ae p (m+n):=by
 cases p with
 |none=>rfl
 |some a=>
  simp only [ae,mh,Option.some.injEq,Addr.add];by_cases hm:m=0
  ·subst hm;simp
  ·by_cases hn:n=0
   ·subst hn;simp [hm]
   ·simp [hm,hn,Nat.add_assoc]
@[simp] def dX(p:Option Addr)(n:Nat):(ae p n).isSome=p.isSome:=by cases p<;>rfl
def da(p:Option Addr)(n:Nat):cQ (ae p n)=cQ p:=by
 cases p with
 |none=>rfl
 |some a=>simp only [ae,cQ,mh,Addr.add];split<;>rfl
def Row(w:World)(g:Nat)(cs:LV)(t:TypeId):Prop:=w.heap[g]? =some (.cells cs.toArray t (0,0))
def Row.new(w:World)(cs:LV)(t:TypeId):Row (w.alloc (.cells cs.toArray t)) w.heap.size cs t:=by show (w.heap.push _)[w.heap.size]? =_;simp
def Row.lt{w:World}{g:Nat}{cs:LV}{t:TypeId}(h:Row w g cs t):g<w:=(mN.1 h).1
def Row.ext{w w':World}{g:Nat}{cs:LV}{t:TypeId}(h:Row w g cs t)(he:Ext w w'):Row w' g cs t:=(he.heap h.lt).trans h
def Row.same{w w':World}{g:Nat}{cs:LV}{t:TypeId}(h:Row w g cs t)(he:w'.heap[g]? =w.heap[g]?):Row w' g cs t:=he.trans h
def Row.set{w:World}{g:Nat}{cs:LV}{t:TypeId}(h:Row w g cs t)(cs':LV):Row (w.setRow g cs'.toArray) g cs' t:=setRow_heap _ _ _ _ _ _ h
def Row.so{w w':World}{g j:Nat}{cs:List Value}{t:TypeId}{c:Array Value}(h:Row w g cs t)(e:w'=w.setRow j c)(hn:g≠j:=by omega):Row w' g cs t:=h.same (by rw [e];exact setRow_other _ _ _ _ hn)
def Row.nw{w w':World}{l:List Value}{t:TypeId}(e:w'=w.alloc (.cells l.toArray t)):Row w' w.heap.size l t:=by rw [e];exact Row.new _ _ _
def Row.st{w w':World}{g:Nat}{l cs:List Value}{t:TypeId}(h:Row w g cs t)(e:w'=w.setRow g l.toArray):Row w' g l t:=by rw [e];exact h.set _
def Row.ld{w:World}{g:Nat}{cs:LV}{t:TypeId}(h:Row w g cs t)(j:Nat):ld w (some ⟨g,j,none⟩)=cs[j]? :=by simp [Vc.ld,World.cell?,show w.heap[g]? =_ from h]
def bW(g o j:Nat):ae (some ⟨g,o,none⟩) j=some ⟨g,o+j,none⟩:=by simp [ae,kU]
def Row.wr{w:World}{g:Nat}{cs:LV}{t:TypeId}(h:Row w g cs t){o n:Nat}(hn:o+n<=cs.length):Wr w (some ⟨g,o,none⟩) n:=by
 intro i hi;refine ⟨_,rfl,?_,?_⟩
 ·rw [kU];simp [World.cell?,show w.heap[g]? =_ from h];omega
 ·rw [kU];exact Nj h _
def Row.bk{w:World}{g:Nat}{cs:LV}{t:TypeId}(h:Row w g cs t){o:Nat}{vs:LV}(hv:∀j,j<vs.length->cs[o+j]? =vs[j]?):av w (some ⟨g,o,none⟩) 0 vs:=
 pK λj hj=>by rw [bW,h.ld];simpa using hv j hj
def Row.aZ{w:World}{g:Nat}{cs:LV}{t:TypeId}(h:Row w g cs t){o:Nat}{vs:LV}(hl:o+vs.length<=cs.length)(h1:One vs):
  aZ w (some ⟨g,o,none⟩) vs=w.setRow g (aV cs o vs).toArray:=by
 have e1:=fz (P:=default) ⟨g,o,none⟩ vs 0 w h1 (λj hj=>by
  obtain ⟨a,e,q⟩:=h.wr hl j hj
  cases e;simpa using q)
 have e2:=run_storeCells_at default g o t vs 0 cs.toArray w h (by simpa using hl) h1;rw [e1] at e2;injection e2 with _ e3;show mP w _ 0 vs=_;rw [e3,dA _ _ _ hl];simp
inductive Own(B E size:Nat)(w:World):Sl->LV->Prop
 |nil:Own B E size w ⟨none,0,0⟩ []
 |row (g n c:Nat) (cs:LV) (hg:B<=g) (hr:Row w g cs E) (hc:c*size<=cs.length) (hn:n<=c):Own B E size w ⟨some ⟨g,0,none⟩,n,c⟩ (cs.take (n*size))
def Sl.bg(s:Sl):Option Nat:=s.a.map (·.block)
def Own.len{B E size:Nat}{w:World}{s:Sl}{xs:LV}(h:Own B E size w s xs):xs.length=s.n*size:=by
 cases h with
 |nil=>simp
 |row g n c cs hg hr hc hn=>
  have:n*size<=c*size:=sO _ hn;rw [bG];show min (n*size) _=n*size;omega
def Own.rd{B E size:Nat}{w:World}{s:Sl}{xs:LV}(h:Own B E size w s xs):Rd w s.a xs:=by
 cases h with
 |nil=>intro i v hi;simp at hi
 |row g n c cs hg hr hc hn=>
  intro i v hi;rw [bW,hr.ld];rw [mT] at hi;split at hi
  ·simpa using hi
  ·cases hi
def Own.bP{B E size:Nat}{w w':World}{s:Sl}{xs:LV}(h:Own B E size w s xs)(hk:∀g,s.bg=some g->w'.heap[g]? =w.heap[g]?):Own B E size w' s xs:=by
 cases h with
 |nil=>exact .nil
 |row g n c cs hg hr hc hn=>exact .row g n c cs hg (hr.same (hk g rfl)) hc hn
def Own.ext{B E size:Nat}{w w':World}{s:Sl}{xs:LV}(h:Own B E size w s xs)(he:Ext w w'):Own B E size w' s xs:=by
 cases h with
 |nil=>exact .nil
 |row g n c cs hg hr hc hn=>exact .row g n c cs hg (hr.ext he) hc hn
def Own.lt{B E size:Nat}{w:World}{s:Sl}{xs:LV}(h:Own B E size w s xs){g:Nat}(hg:s.bg=some g):B<=g/\g<w:=by
 cases h with
 |nil=>cases hg
 |row g' n c cs hg' hr hc hn=>cases hg;exact ⟨hg',hr.lt⟩
def Own.append{B E size bytes:Nat}{w:World}{s:Sl}{xs:LV}(h:Own B E size w s xs){m:Nat}{news:LV}(hB:B<=w)(hl:news.length=m*size)(h1:One news)
  (hb:(s.n+m)*bytes<=140737488355328)(hb':s.n+m<=9223372036854775807):
  aF bytes size w s m news/\∀(s':Sl)(w':World),aD E size w s m news s' w'->
   Own B E size w' s' (xs++news)/\s'.n=s.n+m/\Below B w w'/\(∀j,s.bg≠some j->j<w.heap.size->w'.heap[j]? =w.heap[j]?)/\(s'.bg=s.bg\/s'.bg=some w.heap.size):=by
 refine ⟨⟨λhf=> ?_,λhg=>⟨xs,h.len,h.rd⟩,λhg=>⟨growslice_fits hg hb,by omega⟩,hl,h1⟩,?_⟩
 ·cases h with
  |nil=>
   have:m=0:=by simp at hf;omega
   subst this;intro i hi;omega
  |row g n c cs hg hr hc hn=>
   rw [bW];refine hr.wr ?_;have:(n+m)*size<=c*size:=sO _ hf;rw [qN] at this;simp;omega
 ·intro s' w' aS
  cases aS with
  |fits hf=>
   cases h with
   |nil=>
    have:m=0:=by simp at hf;omega
    subst this;have:news=[]:=yU.1 aa;subst this;exact ⟨.nil,rfl,Below.refl _ _,λ_ _ _=>rfl,.inl rfl⟩
   |row g n c cs hg hr hc hn=>
    have hle:n*size+news.length<=cs.length:=by have:(n+m)*size<=c*size:=sO _ hf;rw [qN] at this;omega
    rw [bW,cO,hr.aZ hle h1];have hr':=hr.set (aV cs (n*size) news);have e:cs.take (n*size)++news=(aV cs (n*size) news).take ((n+m)*size):=by
     have e0:(n+m)*size=n*size+news.length:=by rw [qN,hl]
     rw [dA _ _ _ hle,e0];exact ((HM (by simp;omega)).trans (dn (by simp;omega))).symm
    refine ⟨?_,rfl,⟨rfl,rfl,rfl,by rw [setRow_size];exact ax _,λk hk=>setRow_other _ _ _ _ aa⟩,λj hj _=>setRow_other _ _ _ _ (λe=>hj (by rw [e];rfl)),.inl rfl⟩;rw [e];exact .row g (n+m) c _ hg hr' (by rw [cG];exact hc) hf
  |vV hg eP rest cap e1 e2 e3 e4=>
   have ho:eP=xs:=by
    have eZ:=h.rd;have dY:=h.len;apply ik;intro i;rcases fx i xs.length with hi|hi
    ·have h1:=eZ i xs[i] (cr hi);have hi':i<eP.length:=by omega
     have h2:=e2 i eP[i] (cr hi');rw [h1] at h2;rw [cr hi,cr hi'];exact h2.symm
    ·rw [il hi,il aa]
   subst ho;have AU:=Row.new w.drew (eP++news++rest) E;have dY:=h.len;refine ⟨?_,rfl,?_,λj _ hj=>Below.heap_alloc _ _ _ hj,.inr rfl⟩
   ·have e:eP++news=(eP++news++rest).take ((s.n+m)*size):=by
     have e0:(s.n+m)*size=eP.length+news.length:=by rw [qN,hl,e1]
     rw [e0];exact ((HM cy).trans (dn cy)).symm
    conv=>rhs;rw [e]
    exact .row w.heap.size (s.n+m) cap _ hB AU (Nat.le_of_eq e4.symm) e3
   ·exact (Below.refl B w).drew.alloc hB _
def Gw{P:Program}{pre:Prop}(hP:uV P)(hm:P.follows .mixedOrders=true){f:FuncId}{fn:Func}{an:UI}{args:LV}{w:World}{R:Ending->World->Prop}(hf:P.funcs[f]? =some fn)
  (h:pre)(e:pre=Zh P an fn args w R):Calls P f args.toArray w R:=HN hP hm hf (e▸h)
def ngB(P:Program):Bool:=P.funcs.toList.all λfn=>fn.name != "runtime.NumGoroutine"
def Zg{P:Program}(h:ngB P=true):uV P:=λf fn hf he=>by
 have:=yZ.1 h fn (by have:=Array.mem_of_getElem? hf;simpa using this)
 simp [he] at this
def inI(n:Int):Prop:= -9223372036854775808<=n/\n<=9223372036854775807
def az{n:Int}(h:inI n):ai n=n:=by unfold inI at h;unfold IntKind.wrap;simp only [IntKind.bits,IntKind.signed];simp only [qO];split<;>simp_all<;>omega
def wI{n:Int}(h:inI n:=by unfold inI;omega):IntKind.wrap .i64 n=n:=az h
def lD{j:Nat}(h:inI ((j:Int)+1):=by unfold inI;omega):IntKind.wrap .i64 ((j:Int)+1)=((j+1:Nat):Int):=by rw [az h];omega
def Sj(n:Int):inI (ai n):=by unfold inI IntKind.wrap;simp only [IntKind.bits,IntKind.signed];simp only [qO];split<;>simp_all<;>omega
def KU{H:Type}:DataW H->Value
 | .lit (.int k n)=> .int k n
 | .lit (.bool b)=> .bool b
 | .lit (.string bs)=> .string ⟨bs.toArray⟩
 |_=> .bool false
def Sk{H:Type}:DataW H->LV
 | .agg l=>l.flatMap fun
   | .agg m=>m.map KU
   |d=> [KU d]
 |d=> [KU d]
def layAll(P:Program)(l:List (String × DataW Unit))(w:World):World:=
 {w with heap:=l.foldl (λh x=>match P.globalNamed x.1 with
   |some g=>h.modify g fun
    | .cells _ t frozen=> .cells (Sk x.2).toArray t frozen
    |o=>o
   |none=>h) w.heap}
end Go.Vc
namespace Go.Vc
open Go Go.RowKit
structure RdK(w:World)(s:Sl)(k:Nat)(rows:List (LV)):Prop where
 n:s.n=rows.length
 wd:∀r ∈ rows,r.length=k
 rd:∀i r,rows[i]? =some r->∀j v,r[j]? =some v->ld w (ae s.a (i*k+j))=some v
def RdK.ext{w w':World}{s:Sl}{k:Nat}{rows:List (LV)}(h:RdK w s k rows)(he:Ext w w'):RdK w' s k rows:=
 ⟨h.n,h.wd,λi r hi j v hj=>he.ld (h.rd i r hi j v hj)⟩
def RdK.isSome{w:World}{s:Sl}{k:Nat}{rows:List (LV)}(h:RdK w s k rows)(hk:0<k){i:Nat}(hi:i<rows.length):s.a.isSome=true:=by
 have hr:rows[i]? =some rows[i]:=cr hi;have hl:=h.wd _ (List.getElem_mem hi);have h0:rows[i][0]? =some (rows[i][0]'aa):=cr aa;have:=h.rd i _ hr 0 _ h0
 cases hs:s.a with
 |none=>rw [hs] at this;simp [ld,ae] at this
 |some a=>rfl
def RdK.fN{w:World}{s:Sl}{k:Nat}{rows:List (LV)}(h:RdK w s k rows)(hk:0<k){i:Int}(h0:0<=i)(h1:i<(s.n:Int)):cB s.a i s.n:=
 ⟨h.isSome hk (i:=i.toNat) (by have:=h.n;omega),h0,h1⟩
def RdK.at{w:World}{s:Sl}{k:Nat}{rows:List (LV)}(h:RdK w s k rows){i:Nat}{r:LV}(hi:rows[i]? =some r){j:Nat}{v:Value}(hj:r[j]? =some v):ld w (ae (ae s.a (i*k)) j)=some v:=by rw [eF];exact h.rd i r hi j v hj
def gC{w:World}{p:Option Addr}:∀{vs:LV} {i:Nat},(∀j v,vs[j]? =some v->ld w (ae p (i+j))=some v)->av w p i vs
 | [],_,_=>trivial
 | [v],i,h=>by have:=h 0 v rfl;simpa [av] using this
 |v::u::r,i,h=>⟨by have:=h 0 v rfl;simpa using this,gC (i:=i+1) λj x hj=>by
  have:=h (j+1) x (by simpa using hj)
  rwa [show i+(j+1)=i+1+j from by omega] at this⟩
def RdK.bk{w:World}{s:Sl}{k:Nat}{rows:List (LV)}(h:RdK w s k rows){i:Nat}{r:LV}(hi:rows[i]? =some r):av w (ae s.a (i*k)) 0 r:=
 gC λj v hj=>by rw [cO];exact h.at hi hj
def px{k:Nat}:∀{rows:List (LV)},(∀r ∈ rows,r.length=k)->∀{i:Nat} {r:LV},rows[i]? =some r->∀{j:Nat},j<k->rows.flatten[i*k+j]? =r[j]?
 | [],_,i,r,hi,j,_=>by simp at hi
 |a::rows,h,0,r,hi,j,hj=>by
  simp at hi;subst hi
  have:=h a (.head _)
  rw [CE,kP aa]
  simp
 |a::rows,h,i+1,r,hi,j,hj=>by
  have ha:=h a (.head _)
  rw [CE,mS (by rw [ha,FO];omega)]
  rw [show (i+1)*k+j-a.length=i*k+j from by rw [ha,FO];omega]
  exact px (λr hr=>h r (.tail _ hr)) (by simpa using hi) hj
def bJ{k:Nat}:∀{rows:List (LV)},(∀r ∈ rows,r.length=k)->rows.flatten.length=rows.length*k
 | [],_=>by simp
 |a::rows,h=>by rw [CE,eK,bJ (λr hr=>h r (.tail _ hr)),h a (.head _),fR,FO,Ct]
structure ak(B E k:Nat)(w:World)(s:Sl)(rows:List (LV)):Prop where
 own:Own B E k w s rows.flatten
 wd:∀r ∈ rows,r.length=k
def ak.rd{B E k:Nat}{w:World}{s:Sl}{rows:List (LV)}(h:ak B E k w s rows)(hk:0<k):RdK w s k rows:=by
 refine ⟨?_,h.wd,λi r hi j v hj=> ?_⟩
 ·have h1:=h.own.len;rw [bJ h.wd] at h1;exact (Nat.eq_of_mul_eq_mul_right hk h1).symm
 ·have hl:=h.wd r (bc hi);have XW:j<k:=by rw [<-hl];exact (bF.1 hj).1
  exact h.own.rd _ _ ((px h.wd hi XW).trans hj)
def ak.nil{B E k:Nat}{w:World}:ak B E k w ⟨none,0,0⟩ []:=⟨.nil,λ_ h=>by cases h⟩
def ak.ext{B E k:Nat}{w w':World}{s:Sl}{rows:List (LV)}(h:ak B E k w s rows)(he:Ext w w'):ak B E k w' s rows:=⟨h.own.ext he,h.wd⟩
def ak.bP{B E k:Nat}{w w':World}{s:Sl}{rows:List (LV)}(h:ak B E k w s rows)(hk:∀g,s.bg=some g->w'.heap[g]? =w.heap[g]?):ak B E k w' s rows:=⟨h.own.bP hk,h.wd⟩
def ak.low{B B' E k:Nat}{w:World}{s:Sl}{rows:List (LV)}(h:ak B E k w s rows)(hb:B'<=B):ak B' E k w s rows:=by
 refine ⟨?_,h.wd⟩;have ho:=h.own;generalize rows.flatten=xs at ho
 cases ho with
 |nil=>exact .nil
 |row g n c cs hg hr hc hn=>exact .row g n c cs aa hr hc hn
def ak.append{B E k bytes:Nat}{w:World}{s:Sl}{rows:List (LV)}(h:ak B E k w s rows){news:LV}(hB:B<=w)(hl:news.length=k)(h1:One news)
  (hb:(s.n+1)*bytes<=140737488355328)(hb':s.n+1<=9223372036854775807):
  aF bytes k w s 1 news/\∀(s':Sl)(w':World),aD E k w s 1 news s' w'->
   ak B E k w' s' (rows++ [news])/\s'.n=s.n+1/\Below B w w'/\(∀j,s.bg≠some j->j<w.heap.size->w'.heap[j]? =w.heap[j]?)/\(s'.bg=s.bg\/s'.bg=some w.heap.size):=by
 obtain ⟨hp,hr⟩:=h.own.append (bytes:=bytes) (m:=1) (news:=news) hB (by rw [hl,Nat.one_mul]) h1 hb hb';refine ⟨hp,λs' w' aS=> ?_⟩;obtain ⟨ho,hn,hx,hk,IG⟩:=hr s' w' aS;refine ⟨⟨by rw [CC];simpa using ho,λr hr=> ?_⟩,hn,hx,hk,IG⟩;rcases ct.1 hr with hr|hr
 ·exact h.wd r hr
 ·simp at hr;rw [hr];exact hl
def Own.set{B E size:Nat}{w:World}{s:Sl}{xs:LV}(h:Own B E size w s xs){m:Nat}{v:Value}(hm:m<xs.length)(hv:v.oneCell'=true):
  (ae s.a m).isSome=true/\Wr w (ae s.a m) 1/\Own B E size (aZ w (ae s.a m) [v]) s (xs.set m v)/\(∀j,s.bg≠some j->(aZ w (ae s.a m) [v]).heap[j]? =w.heap[j]?):=by
 cases h with
 |nil=>simp at hm
 |row g n c cs hg hr hc hn=>
  rw [bG] at hm;rw [bW];have h1:One [v]:=by intro u hu;simp at hu;subst hu;exact hv
  have hs:=hr.aZ (o:=0+m) (vs:=[v]) (by simp;omega) h1;refine ⟨rfl,hr.wr aa,?_,λj hj=> ?_⟩
  ·rw [<-List.take_set];rw [hs];refine .row g n c _ hg ?_ (by simpa using hc) hn;have e:aV cs (0+m) [v]=cs.set m v:=by simp [aV]
   rw [e];exact hr.set (cs.set m v)
  ·rw [hs];exact setRow_other _ _ _ _ (λe=>hj (by rw [e];rfl))
end Go.Vc
namespace Go.Vc
open Go Go.RowKit
def Below.aZ{B:Nat}{a b:World}(h:Below B a b){p:Option Addr}{vs:LV}(hp:∀x,p=some x->B<=x.block):Below B a (aZ b p vs):=by
 cases p with
 |none=>exact h
 |some x=>
  have hx:=hp x rfl;show Below B a (mP b x 0 vs);have key:∀(vs:LV)(i:Nat)(b:World),Below B a b->Below B a (mP b x i vs):=by
   intro vs
   induction vs with
   |nil=>intro i b h;exact h
   |cons v r ih=>
    intro i b h;refine ih _ _ (Below.setCell h ?_ _);unfold Addr.add;split<;>exact hx
  exact key vs 0 b h
def lG(k:IntKind)(a:Int):One [.int k a]:=by intro v hv;simp at hv;subst hv;rfl
def nI(k k':IntKind)(a b:Int):One [.int k a,.int k' b]:=by intro v hv;simp at hv;rcases hv with rfl|rfl<;>rfl
def ak.kD{B E k bytes:Nat}{w:World}{s:Sl}{rows:List (LV)}(h:ak B E k w s rows){news:LV}(o:Obj)(hB:B<=w)(hl:news.length=k)(h1:One news)
  (hb:(s.n+1)*bytes<=140737488355328)(hb':s.n+1<=9223372036854775807):
  aF bytes k (w.alloc o) s 1 news/\∀(s':Sl)(w':World),aD E k (w.alloc o) s 1 news s' w'->
   w'.heap[w.heap.size]? =(w.alloc o).heap[w.heap.size]?/\ak B E k w' s' (rows++ [news])/\s'.n=s.n+1/\Below B w w'/\(∀j,s.bg≠some j->j<w.heap.size->w'.heap[j]? =w.heap[j]?)/\(s'.bg=s.bg\/s'.bg=some (w.heap.size+1)):=by
 have xa:=Ext.al w o;obtain ⟨hp,hr⟩:=(h.ext xa).append (bytes:=bytes) (news:=news) (fy hB xa.size) hl h1 hb hb';refine ⟨hp,λs' w' aS=> ?_⟩;obtain ⟨ho,hn,hx,hk,IG⟩:=hr s' w' aS;have hz:(w.alloc o).heap.size=w.heap.size+1:=by simp
 refine ⟨hk _ (λhb=>absurd (h.own.lt hb).2 (sQ _)) cy,ho,hn,(Below.mono xa hB).trans hx,λj hj ft=> ?_,by rw [<-hz];exact IG⟩;rw [hk j hj aa];exact xa.heap ft
def ak.set{B E k:Nat}{w:World}{s:Sl}{rows:List (List Value)}(h:ak B E k w s rows){i j:Nat}{r:List Value}{v:Value}(hi:rows[i]? =some r)(hj:j<k)(hv:v.oneCell'=true)(hB:B<=w.heap.size):
  (ae (ae s.a (i*k)) j).isSome=true/\Wr w (ae (ae s.a (i*k)) j) 1/\ak B E k (aZ w (ae (ae s.a (i*k)) j) [v]) s (rows.set i (r.set j v))/\
   Below B w (aZ w (ae (ae s.a (i*k)) j) [v])/\(∀m,s.bg≠some m->(aZ w (ae (ae s.a (i*k)) j) [v]).heap[m]? =w.heap[m]?):=by
 have dY:=bJ h.wd;have vD:i<rows.length:=(List.getElem?_eq_some_iff.1 hi).1;have hm:i*k+j<rows.flatten.length:=by rw [dY];have:(i+1)*k<=rows.length*k:=Nat.mul_le_mul_right _ vD;rw [Nat.succ_mul] at this;omega
 obtain ⟨h1,h2,h3,h4⟩:=h.own.set (v:=v) hm hv;rw [eF];refine ⟨h1,h2,⟨?_,λq hq=> ?_⟩,?_,h4⟩
 ·have e:(rows.set i (r.set j v)).flatten=rows.flatten.set (i*k+j) v:=by
   have hw:=h.wd;clear h h1 h2 h3 h4 hm dY hv
   induction rows generalizing i with
   |nil=>simp at hi
   |cons a rows ih=>
    have ha:=hw a (.head _)
    cases i with
    |zero=>
     simp at hi;subst hi;simp only [List.set_cons_zero,List.flatten_cons,Nat.zero_mul,Nat.zero_add];rw [List.set_append_left _ _ (by omega)]
    |succ i=>
     simp only [List.set_cons_succ,List.flatten_cons];rw [List.set_append_right _ _ (by rw [ha,Nat.succ_mul];omega),show (i+1)*k+j-a.length=i*k+j from by rw [ha,Nat.succ_mul];omega];rw [ih (by simpa using hi) (by simpa using vD) (λr hr=>hw r (.tail _ hr))]
  rw [e];exact h3
 ·rcases List.mem_or_eq_of_mem_set hq with hq|rfl
  ·exact h.wd q hq
  ·rw [List.length_set];exact h.wd r (List.mem_of_getElem? hi)
 ·refine Below.aZ (Below.refl _ _) λx hx=> ?_
  have ho:=h.own;generalize rows.flatten=xs at ho
  cases ho with
  |nil=>simp [ae] at hx
  |row g n c cs hg hr hc hn=>simp [ae,kU] at hx;subst hx;exact hg
end Go.Vc
namespace Go.Vc
open Go Go.RowKit
def po{E size:Nat}{w w':World}{a:Option Addr}{n:Nat}{news:LV}{s':Sl}(h:aD E size w ⟨a,0,0⟩ n news s' w')(hl:news.length=n*size){j:Nat}(hj:j<w):w'.heap[j]? =w.heap[j]? :=by
 cases h with
 |fits hf=>
  have:n=0:=by simp at hf;omega
  subst this;have:news=[]:=sN aa;subst this
  cases hp:ae a (0*size) with
  |none=>simp [hp,Go.Vc.aZ]
  |some x=>simp only [hp,Go.Vc.aZ];rfl
 |vV hf eP rest cap h1 h2 h3 h4=>exact ((Ext.dr w).tr (Ext.al _ _)).heap hj
def RdK.flat{w:World}{s:Sl}{k:Nat}{rows:List (LV)}(h:RdK w s k rows)(hk:0<k):Rd w s.a rows.flatten:=by
 intro i v hi;have vD:i<rows.flatten.length:=(bF.1 hi).1;rw [bJ h.wd] at vD;have hik:i / k<rows.length:=Nat.div_lt_of_lt_mul (by rw [Nat.mul_comm];exact vD);have hr:rows[i / k]? =some rows[i / k]:=cr hik;have hm:i % k<k:=Nat.mod_lt _ hk;have e:i / k*k+i % k=i:=by rw [Nat.mul_comm];exact Nat.div_add_mod i k
 have:=px h.wd hr hm;rw [e,hi] at this;have:=h.rd _ _ hr _ v this.symm;rwa [e] at this
def fc{rows:List (LV)}(h:∀r ∈ rows,One r):One rows.flatten:=by intro v hv;obtain ⟨r,hr,hvr⟩:=List.mem_flatten.1 hv;exact h r hr v hvr
end Go.Vc
namespace Go.Vc
open Go Go.RowKit
def qP:∀(vs cs:LV)(off N:Nat),(aV cs off vs).take N=aV (cs.take N) off vs
 | [],_,_,_=>rfl
 |v::r,cs,off,N=>by
  show (aV (cs.set off v) (off+1) r).take N=aV ((cs.take N).set off v) (off+1) r
  rw [qP,List.take_set]
def py(a:LV):∀(vs b:LV)(o:Nat),aV (a++b) (a.length+o) vs=a++aV b o vs
 | [],_,_=>rfl
 |v::r,b,o=>by
  show aV ((a++b).set (a.length+o) v) (a.length+o+1) r=a++aV (b.set o v) (o+1) r
  rw [List.set_append_right _ _ aa,Nat.add_sub_cancel_left,Nat.add_assoc]
  exact py a r _ _
def Own.put{B E size:Nat}{w:World}{s:Sl}{xs:LV}(h:Own B E size w s xs){m:Nat}{vs:LV}(hm:m+vs.length<=xs.length)(hx:0<xs.length)(hv:One vs):
  (ae s.a m).isSome=true/\Wr w (ae s.a m) vs.length/\Own B E size (aZ w (ae s.a m) vs) s (aV xs m vs)/\(∀j,s.bg≠some j->(aZ w (ae s.a m) vs).heap[j]? =w.heap[j]?):=by
 cases h with
 |nil=>simp at hx
 |row g n c cs hg hr hc hn=>
  rw [bG] at hm;rw [bW];have hs:=hr.aZ (o:=0+m) (vs:=vs) aa hv;refine ⟨rfl,hr.wr aa,?_,λj hj=> ?_⟩
  ·rw [<-qP,hs,cO];exact .row g n c _ hg (hr.set _) (by rw [Go.Vc.cG];exact hc) hn
  ·rw [hs];exact setRow_other _ _ _ _ (λe=>hj (by rw [e];rfl))
def ak.put{B E k:Nat}{w:World}{s:Sl}{rows:List (List Value)}(h:ak B E k w s rows){i:Nat}{r:List Value}(hi:i<rows.length)(hk:0<k)(hr:r.length=k)(hv:One r):
  (ae s.a (i*k)).isSome=true/\Wr w (ae s.a (i*k)) k/\ak B E k (aZ w (ae s.a (i*k)) r) s (rows.set i r)/\
   Below B w (aZ w (ae s.a (i*k)) r)/\(∀m,s.bg≠some m->(aZ w (ae s.a (i*k)) r).heap[m]? =w.heap[m]?):=by
 have dY:=bJ h.wd;have h1:(i+1)*k<=rows.length*k:=Nat.mul_le_mul_right _ hi;rw [Nat.succ_mul] at h1;obtain ⟨p1,p2,p3,p4⟩:=h.own.put (m:=i*k) (vs:=r) (by omega) (by omega) hv;rw [hr] at p2;refine ⟨p1,p2,⟨?_,λq hq=> ?_⟩,?_,p4⟩
 ·have e:(rows.set i r).flatten=aV rows.flatten (i*k) r:=by
   have hw:=h.wd;clear h p1 p2 p3 p4 dY h1
   induction rows generalizing i with
   |nil=>simp at hi
   |cons a rows ih=>
    have ha:=hw a (.head _)
    cases i with
    |zero=>
     simp only [List.set_cons_zero,List.flatten_cons,Nat.zero_mul];rw [dA _ _ _ (by rw [List.length_append];omega),hr,Nat.zero_add,List.drop_left' ha];simp
    |succ i=>
     simp only [List.set_cons_succ,List.flatten_cons];rw [show (i+1)*k=a.length+i*k from by rw [ha,Nat.succ_mul];omega,py];rw [ih (by simpa using hi) (λr hr=>hw r (.tail _ hr))]
  rw [e];exact p3
 ·rcases List.mem_or_eq_of_mem_set hq with hq|rfl
  ·exact h.wd q hq
  ·exact hr
 ·refine Below.aZ (Below.refl _ _) λx hx=> ?_
  have ho:=h.own;generalize rows.flatten=xs at ho
  cases ho with
  |nil=>simp [ae] at hx
  |row g n c cs hg hr hc hn=>simp [ae,kU] at hx;subst hx;exact hg
def pz(a:Option Addr)(m size j:Nat):ae (aA a 0 m size) j=ae a j:=by
 unfold aA;split
 ·rfl
 ·show ae (ae a (0*size)) j=_;rw [eF];simp
def RdK.cut{w:World}{s:Sl}{k:Nat}{rows:List (LV)}(h:RdK w s k rows){m c' c'':Nat}(hm:m<=rows.length):RdK w ⟨aA s.a 0 c' k,m,c''⟩ k (rows.take m):=by
 refine ⟨by simp;omega,λr hr=>h.wd r (kh hr),λi r hi j v hj=> ?_⟩;show ld w (ae (aA s.a 0 c' k) _)=_;rw [pz];rw [mT] at hi;split at hi
 ·exact h.rd i r hi j v hj
 ·cases hi
end Go.Vc
namespace Go.Vc
open Go Go.RowKit
def ak.ke{B E k bytes:Nat}{w:World}{s:Sl}{rows more:List (LV)}(h:ak B E k w s rows)(hB:B<=w)(hl:∀r ∈ more,r.length=k)(h1:∀r ∈ more,One r)
  (hb:(s.n+more.length)*bytes<=140737488355328)(hb':s.n+more.length<=9223372036854775807):
  aF bytes k w s more.length more.flatten/\∀(s':Sl)(w':World),aD E k w s more.length more.flatten s' w'->
   ak B E k w' s' (rows++more)/\s'.n=s.n+more.length/\Below B w w'/\(∀j,s.bg≠some j->j<w.heap.size->w'.heap[j]? =w.heap[j]?)/\(s'.bg=s.bg\/s'.bg=some w.heap.size):=by
 obtain ⟨hp,hr⟩:=h.own.append (bytes:=bytes) (m:=more.length) (news:=more.flatten) hB (bJ hl) (fc h1) hb hb';refine ⟨hp,λs' w' aS=> ?_⟩;obtain ⟨ho,hn,hx,hk,IG⟩:=hr s' w' aS;refine ⟨⟨by rw [CC];exact ho,λr hr=> ?_⟩,hn,hx,hk,IG⟩;rcases ct.1 hr with hr|hr
 ·exact h.wd r hr
 ·exact hl r hr
end Go.Vc
namespace Go.Vc
open Go Go.RowKit
def RdK.rest{w:World}{s:Sl}{k:Nat}{rows:List (LV)}(h:RdK w s k rows){l m n' c':Nat}(hn:n'=rows.length-l)(hm:m=l->rows.length<=l):RdK w ⟨aA s.a l m k,n',c'⟩ k (rows.drop l):=by
 refine ⟨by simpa using hn,λr hr=>h.wd r (ow hr),λi r hi j v hj=> ?_⟩;rw [sG] at hi;show ld w (ae (aA s.a l m k) _)=_;unfold aA;split
 ·rename_i e;have:=hm e;rw [il aa] at hi;cases hi
 ·show ld w (ae (ae s.a (l*k)) _)=_;rw [eF];have:=h.rd (l+i) r hi j v hj;rwa [qN,Nat.add_assoc] at this
end Go.Vc
namespace Go.Vc
open Go Go.RowKit
def rN{P:Program}{fv:Value}{args:LV}{w:World}{R R':Ending->World->Prop}(h:dH P fv args w R)(hr:∀e w',R e w'->R' e w'):dH P fv args w R':=by
 unfold dH at h ⊢;split at h
 ·split at h
  ·exact h.mono hr
  ·obtain ⟨e,he,v,w',h1,h2⟩:=h;exact ⟨e,he,v,w',h1,hr _ _ h2⟩
 ·obtain ⟨h1,fn,tmps,assign,body,h2,h3⟩:=h;exact ⟨h1,fn,tmps,assign,body,h2,h3.mono hr⟩
 ·exact h.elim
def Sd{P:Program}{f:FuncId}{first cap:Array Value}{args:LV}{w:World}{R:Ending->World->Prop}(hb:qw P f=true)(h:Calls P f (first.toList++args++cap.toList).toArray w R):
  dH P (.func (.func f) first cap) args w R:=by
 unfold dH;simp only [hb];exact h
def jt{P:Program}{f:FuncId}{first cap:Array Value}{args:LV}{w:World}{R:Ending->World->Prop}{asx:Array Value}(hb:qw P f=true)(ha:(first.toList++args++cap.toList).toArray=asx)(h:Calls P f asx w R):
  dH P (.func (.func f) first cap) args w R:=Sd hb (by rw [ha];exact h)
structure Mod(F:Nat->Prop)(w w':World):Prop where
 os:w'.os=w.os
 tape:w'.tape=w.tape
 output:w'.output=w.output
 size:w.heap.size<=w'.heap.size
 same:∀i,i<w.heap.size->¬F i->w'.heap[i]? =w.heap[i]?
def Mod.refl(F:Nat->Prop)(w:World):Mod F w w:=⟨rfl,rfl,rfl,ax _,λ_ _ _=>rfl⟩
def Mod.aM{F:Nat->Prop}{w w':World}(h:Ext w w'):Mod F w w':=⟨h.os,h.tape,h.output,h.size,λi hi _=>h.block i hi⟩
def Mod.trans{F:Nat->Prop}{a b c:World}(h:Mod F a b)(k:Mod F b c):Mod F a c:=
 ⟨k.os.trans h.os,k.tape.trans h.tape,k.output.trans h.output,fy h.size k.size,λi hi hn=>(k.same i (kN hi h.size) hn).trans (h.same i hi hn)⟩
def Mod.mono{F F':Nat->Prop}{a b:World}(h:Mod F a b)(hs:∀i,i<a.heap.size->F i->F' i):Mod F' a b:=⟨h.os,h.tape,h.output,h.size,λi hi hn=>h.same i hi λhf=>hn (hs i hi hf)⟩
def Mod.tr{F F':Nat->Prop}{a b c:World}(h:Mod F a b)(k:Mod F' b c)(hs:∀i,F' i->F i\/a.heap.size<=i):Mod F a c:=
 ⟨k.os.trans h.os,k.tape.trans h.tape,k.output.trans h.output,fy h.size k.size,λi hi hn=>(k.same i (kN hi h.size) λhf=>by
  rcases hs i hf with hf|hf
  ·exact hn hf
  ·omega).trans (h.same i hi hn)⟩
def Mod.below{F:Nat->Prop}{B:Nat}{w w':World}(h:Mod F w w')(hB:B<=w)(hF:∀i,F i->B<=i):Below B w w':=⟨h.os,h.tape,h.output,h.size,λi hi=>h.same i aa λhf=>by have:=hF i hf;omega⟩
def Mod.ext{F:Nat->Prop}{w0 w w':World}(h:Mod F w w')(x:Ext w0 w)(hF:∀i,F i->w0.heap.size<=i):Ext w0 w':=x.trans (h.below x.size hF)
def Mod.Ec{r:Nat}{w w':World}(h:Rec r w w'):Mod (λi=>i=r) w w':=⟨h.os,h.tape,h.output,Nat.le_of_eq h.size.symm,λi _ hn=>h.same i hn⟩
def VV{w w':World}{p:Option Addr}(h:∀b,cQ p=some b->w'.heap[b]? =w.heap[b]?):ld w' p=ld w p:=by
 cases p with
 |none=>rfl
 |some a=>
  show w'.cell? a=w.cell? a;have:=h a.block rfl;simp only [World.cell?,this]
def RdK.same{w w':World}{s:Sl}{k:Nat}{rows:List (LV)}(h:RdK w s k rows)(hs:∀b,s.bg=some b->w'.heap[b]? =w.heap[b]?):RdK w' s k rows:=
 ⟨h.n,h.wd,λi r hi j v hj=>by rw [VV λb hb=>hs b (by rw [da] at hb;exact hb)];exact h.rd i r hi j v hj⟩
end Go.Vc
namespace Go.Vc
open Go Go.RowKit
def RdK.jT{w:World}{s:Sl}{k:Nat}{rows:List (LV)}(h:RdK w s k rows)(hk:0<k)(dI:rows≠ []){b:Nat}(hb:s.bg=some b):b<w:=by
 cases rows with
 |nil=>exact absurd rfl dI
 |cons r rows=>
  have hl:=h.wd r (.head _);have h0:r[0]? =some (r[0]'aa):=cr aa;have:=h.rd 0 r rfl 0 _ h0
  cases ha:s.a with
  |none=>rw [ha] at this;simp [ld,ae] at this
  |some a=>
   rw [ha] at this;have ft:=Mu (w:=w) (a:=a.add (0*k+0)) this;have:(a.add (0*k+0)).block=a.block:=by unfold Addr.add;split<;>rfl
   rw [this] at ft;simp [Sl.bg,ha] at hb;omega
def RdK.Ae{w w':World}{s:Sl}{k:Nat}{rows:List (LV)}(h:RdK w s k rows)(hs:rows≠ []->∀b,s.bg=some b->w'.heap[b]? =w.heap[b]?):RdK w' s k rows:=by
 cases rows with
 |nil=>exact ⟨h.n,h.wd,λi r hi=>by simp at hi⟩
 |cons r rows=>exact h.same (hs cy)
end Go.Vc
namespace Go.Vc
open Go Go.RowKit
end Go.Vc
namespace Go.Vc
open Go Go.RowKit
def ak.form{B E k:Nat}{w:World}{s:Sl}{rows:List (LV)}(h:ak B E k w s rows)(hk:0<k):(s=⟨none,0,0⟩/\rows=[])\/
  ∃g cs,s.a=bu g/\B<=g/\Row w g cs E/\s.c*k<=cs.length/\s.n<=s.c/\cs.take (s.n*k)=rows.flatten/\s.n=rows.length:=by
 have hn:=(h.rd hk).n;have ho:=h.own;have hf:=bJ h.wd;generalize hx:rows.flatten=xs at ho hf
 cases ho with
 |nil=>exact .inl ⟨rfl,sN (by rw [<-hn])⟩
 |row g n c cs hg hr hc hn'=>exact .inr ⟨g,cs,rfl,hg,hr,hc,hn',rfl,hn⟩
def ak.gg{B E k:Nat}{w:World}{g n c:Nat}{cs:LV}{rows:List (LV)}(hg:B<=g)(hr:Row w g cs E)(hc:c*k<=cs.length)(hn:n<=c)(ht:cs.take (n*k)=rows.flatten)(hw:∀r ∈ rows,r.length=k):
  ak B E k w ⟨bu g,n,c⟩ rows:=⟨by rw [<-ht];exact .row g n c cs hg hr hc hn,hw⟩
def eE(a:Option Addr)(m size:Nat):aA a 0 m size=a:=by
 unfold aA;split
 ·rfl
 ·cases a<;>simp [Addr.add]
def nL(g l m size:Nat):aA (bu g) l m size=if m=l then bu g else some ⟨g,l*size,none⟩:=by
 unfold aA;split
 ·rfl
 ·simp [kU]
def Row.Y6{w:World}{g:Nat}{cs vs:LV}{E:TypeId}(hr:Row w g cs E){l m size:Nat}(hm:m=l->vs=[])(hv:∀j,j<vs.length->cs[l*size+j]? =vs[j]?):Rd w (aA (bu g) l m size) vs:=by intro j v hj;have ft:=(bF.1 hj).1;rw [nL,if_neg (λe=>by rw [hm e] at ft;simp at ft),bW,hr.ld,hv j ft];exact hj
def Row.QK{w:World}{g:Nat}{cs vs:LV}{E:TypeId}(hr:Row w g cs E){l m size:Nat}(hm:m=l->vs=[])(hl:l*size+vs.length<=cs.length)(h1:One vs):
  Wr w (aA (bu g) l m size) vs.length/\Row (Go.Vc.aZ w (aA (bu g) l m size) vs) g (aV cs (l*size) vs) E/\Mod (λi=>i=g) w (Go.Vc.aZ w (aA (bu g) l m size) vs):=by
 by_cases e:m=l
 ·have:=hm e;subst this;rw [nL,if_pos e];exact ⟨λi hi=>by simp at hi,hr,Mod.refl _ _⟩
 ·rw [nL,if_neg e,hr.aZ hl h1];exact ⟨hr.wr hl,hr.set _,⟨rfl,rfl,rfl,by rw [setRow_size];exact ax _,λi _ hn=>setRow_other _ _ _ _ hn⟩⟩
def Nz{w:World}{a:Option Addr}{xs ys:LV}(hx:Rd w a xs)(hy:Rd w a ys)(hl:xs.length=ys.length):xs=ys:=by
 apply ik;intro i;rcases fx i xs.length with hi|hi
 ·have h1:=hx i xs[i] (cr hi);have h2:=hy i (ys[i]'aa) (cr aa);rw [h1] at h2;rw [cr hi,cr aa];exact h2
 ·rw [il hi,il aa]
def Row.Y9{w:World}{g:Nat}{cs vs:LV}{E:TypeId}(hr:Row w g cs E)(hv:∀j,j<vs.length->cs[j]? =vs[j]?):Rd w (bu g) vs:=by intro j v hj;have ft:=(bF.1 hj).1;rw [bW,hr.ld,cO,hv j ft];exact hj
def Row.ne{w:World}{g g':Nat}{cs cs':LV}{E E':TypeId}(hr:Row w g cs E)(hr':Row w g' cs' E')(hE:E≠E'):g≠g':=by rintro rfl;have:=hr.symm.trans hr';simp at this;exact hE this.2
def Row.hZ{w:World}{g r:Nat}{cs:LV}{E:TypeId}{G:Value->Prop}{kvs:List (Value × Value)}(hr:Row w g cs E)(hm:bK G w (some r) kvs):g≠r:=by rintro rfl;exact hm.qn _ _ _ hr
def bK.same{w w':World}{G:Value->Prop}{r:Nat}{kvs:List (Value × Value)}(hm:bK G w (some r) kvs)(h:w'.heap[r]? =w.heap[r]?):bK G w' (some r) kvs:=by obtain ⟨es,c,h1,h2⟩:=hm;exact ⟨es,c,h.trans h1,h2⟩
def bK.lt{w:World}{G:Value->Prop}{r:Nat}{kvs:List (Value × Value)}(hm:bK G w (some r) kvs):r<w:=by obtain ⟨es,c,h1,h2⟩:=hm;exact (mN.1 h1).1
def bK.new{w:World}{G:Value->Prop}:bK G (w.alloc (.map #[] 0)) (some w.heap.size) []:=
 ⟨#[],0,World.alloc_heap_new w _,rfl,by simp,by simp,by simp,by simp⟩
end Go.Vc
namespace Go.Vc
open Go Go.RowKit
def sW{k:Nat}:∀{rows:List (LV)} (m:Nat),(∀r ∈ rows,r.length=k)->rows.flatten.take (m*k)=(rows.take m).flatten
 | [],m,_=>by simp
 |r::rows,0,_=>by simp
 |r::rows,m+1,hw=>by
  have hr:=hw r (.head _)
  rw [List.take_succ_cons,CE,CE,show (m+1)*k=r.length+m*k by rw [FO,hr];omega,List.take_append,dn aa,Nat.add_sub_cancel_left,sW m λq hq=>hw q (.tail _ hq)]
def ak.cut{B E k:Nat}{w:World}{s:Sl}{rows:List (LV)}(h:ak B E k w s rows)(hk:0<k){m:Nat}(hm:m<=rows.length):ak B E k w ⟨aA s.a 0 m k,m,m⟩ (rows.take m):=by
 rw [eE];rcases h.form hk with ⟨rfl,rfl⟩|⟨g,cs,ha,hg,hr,hc,hn,ht,hl⟩
 ·have:m=0:=by simpa using hm
  subst this;exact .nil
 ·rw [ha];have h1:m*k<=s.n*k:=sO _ aa;have h2:s.n*k<=s.c*k:=sO _ hn;refine ak.gg hg hr aa (ax _) ?_ (λr hr=>h.wd r (kh hr));have e1:cs.take (m*k)=(cs.take (s.n*k)).take (m*k):=by rw [List.take_take,Nat.min_eq_left h1]
  rw [e1,ht,sW m h.wd]
end Go.Vc
namespace Go.Vc
open Go Go.RowKit
structure aG(F F':Nat->Prop)(w w':World):Prop where
 mod:Mod F w w'
 sub:∀i,F' i->F i\/w.heap.size<=i
def aG.refl(F:Nat->Prop)(w:World):aG F F w w:=⟨Mod.refl _ _,λ_ h=> .inl h⟩
def aG.trans{F G H:Nat->Prop}{a b c:World}(h:aG F G a b)(k:aG G H b c):aG F H a c:=
 ⟨h.mod.tr k.mod h.sub,λi hi=>by
  rcases k.sub i hi with hg|hg
  ·exact h.sub i hg
  ·exact .inr (fy h.mod.size hg)⟩
def aG.aM{F:Nat->Prop}{w w':World}(h:Ext w w'):aG F F w w':=⟨Mod.aM h,λ_ h=> .inl h⟩
def aG.fresh{F F':Nat->Prop}{w0 w w':World}(h:aG F F' w w')(x:Ext w0 w)(hF:∀i,F i->w0.heap.size<=i):Ext w0 w'/\∀i,F' i->w0.heap.size<=i:=
 ⟨h.mod.ext x hF,λi hi=>by
  rcases h.sub i hi with hf|hf
  ·exact hF i hf
  ·exact fy x.size hf⟩
def aG.apart{F F' G:Nat->Prop}{w w':World}(h:aG F F' w w')(hd:∀i,F i->¬G i)(hl:∀i,G i->i<w.heap.size):∀i,F' i->¬G i:=λi hi hg=>by
 rcases h.sub i hi with hf|hf
 ·exact hd i hf hg
 ·have:=hl i hg;omega
def Mod.ri{w w':World}{s:Sl}(hb:Below 0 w w')(hk:∀j,s.bg≠some j->j<w.heap.size->w'.heap[j]? =w.heap[j]?):Mod (λi=>s.bg=some i) w w':=
 ⟨hb.os,hb.tape,hb.output,hb.size,λi hi hn=>hk i hn hi⟩
def Mod.row{F:Nat->Prop}{w w':World}(h:Mod F w w'){g:Nat}{cs:LV}{t:TypeId}(hr:Row w g cs t)(hn:¬F g):Row w' g cs t:=hr.same (h.same g hr.lt hn)
def Mod.gQ{F:Nat->Prop}{w w':World}(h:Mod F w w'){B E k:Nat}{s:Sl}{rows:List (LV)}(ho:ak B E k w s rows)(hn:∀b,s.bg=some b->¬F b):ak B E k w' s rows:=
 ho.bP λb hb=>h.same b (ho.own.lt hb).2 (hn b hb)
def Mod.map{F:Nat->Prop}{w w':World}(h:Mod F w w'){G:Value->Prop}{r:Nat}{kvs:List (Value × Value)}(hm:bK G w (some r) kvs)(hn:¬F r):bK G w' (some r) kvs:=hm.same (h.same r hm.lt hn)
def Mod.rdK{F:Nat->Prop}{w w':World}(h:Mod F w w'){s:Sl}{k:Nat}{rows:List (LV)}(hk:0<k)(hr:RdK w s k rows)(hn:rows≠ []->∀b,s.bg=some b->¬F b):RdK w' s k rows:=
 hr.Ae λdI b hb=>h.same b (hr.jT hk dI hb) (hn dI b hb)
def S6{C x l:LV}{a b N:Nat}(hb:b=a+x.length)(hN:N=b+l.length)(hC:N<=C.length):(aV (aV C a x) b l).take N=C.take a++x++l:=by
 have ha:(C.take a).length=a:=by rw [bG];omega
 rw [dA x C a aa];have hD:(C.take a++x).length=b:=by rw [eK,ha,hb]
 rw [dA _ _ _ (by rw [eK,hD,iw];omega),zg hD,zg (by rw [eK,hD];omega)]
def O5{C x l:LV}{a b N:Nat}(hb:b=a+x.length)(hN:N=b+l.length)(hC:N<=C.length):(aV (aV C b l) a x).take N=C.take a++x++l:=by
 have ha:(C.take a).length=a:=by rw [bG];omega
 have vE:(C.take b).length=b:=by rw [bG];omega
 rw [dA l C b aa];have h1:(C.take b++l++C.drop (b+l.length)).take a=C.take a:=by rw [mU,HM aa,List.take_take,Nat.min_eq_left aa]
 have h2:(C.take b++l++C.drop (b+l.length)).drop (a+x.length)=l++C.drop (b+l.length):=by rw [mU,<-hb,List.drop_left' vE]
 have hl:(C.take b++l++C.drop (b+l.length)).length=C.length:=by simp;omega
 rw [dA _ _ _ (by rw [hl];omega),h1,h2,<-mU,zg (by simp only [eK,ha];omega)]
def ZT{lo hi:Nat}(h:lo+hi<=1000000):ai (((bD (ai ((lo:Int)+(hi:Int)))):Int).fdiv (2 ^(min (1:Int).toNat 64)))=(((lo+hi) / 2:Nat):Int):=by
 rw [az (n:=(lo:Int)+hi) (by unfold inI;omega)];have h2:bD ((lo:Int)+hi)=lo+hi:=by unfold IntKind.wrap;simp only [IntKind.bits,IntKind.signed];simp;omega
 rw [h2];have h3:((lo:Int)+hi).fdiv (2 ^(min (1:Int).toNat 64))=(((lo+hi) / 2:Nat):Int):=by show ((lo:Int)+hi).fdiv 2=_;rw [Ac _ aa];omega
 rw [h3,wI]
def Row.at{w:World}{g:Nat}{cs:LV}{E:TypeId}(hr:Row w g cs E)(j:Nat){v:Value}(h:cs[j]? =some v):Vc.ld w (ae (bu g) j)=some v:=by rw [bW,hr.ld,cO];exact h
def Row.kE{w:World}{g:Nat}{cs:LV}{E:TypeId}(hr:Row w g cs E){j:Nat}{v:Value}(hj:j<cs.length)(hv:v.oneCell'=true):
  Wr w (ae (bu g) j) 1/\∀w',w'=Vc.aZ w (ae (bu g) j) [v]->Row w' g (aV cs j [v]) E/\Mod (λi=>i=g) w w':=by
 rw [bW,cO];have h1:One [v]:=by intro u hu;simp at hu;subst hu;exact hv
 refine ⟨hr.wr aa,λw' e=> ?_⟩;rw [hr.aZ (by simp;omega) h1] at e;subst e;exact ⟨hr.set _,rfl,rfl,rfl,by rw [setRow_size];exact ax _,λi _ hn=>setRow_other _ _ _ _ hn⟩
def aN{B E k:Nat}{w:World}{s:Sl}{rows:List (LV)}(h:ak B E k w s rows)(hk:0<k){b:Nat}(hb:s.bg=some b):∃cs,Row w b cs E:=by
 rcases h.form hk with ⟨hs,-⟩|⟨g0,cs,ha,TA,hr,-⟩
 ·rw [hs] at hb;cases hb
 ·unfold Sl.bg at hb;rw [ha] at hb;have:g0=b:=by simpa using hb
  exact ⟨cs,this▸hr⟩
end Go.Vc
