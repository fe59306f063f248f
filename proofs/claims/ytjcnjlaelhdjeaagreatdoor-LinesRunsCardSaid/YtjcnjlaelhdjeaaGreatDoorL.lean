import Derived.Test.YtjcnjlaelhdjeaaGreatDoorJ
import Derived.Test.YtjcnjlaelhdjeaaGreatDoorD
import Derived.Test.YtjcnjlaelhdjeaaGreatDoorK
import Derived.Test.YtjcnjlaelhdjeaaGreatDoorI
import Derived.Tactics
import Derived.Tactics2
import Derived.Defers
import Derived.Recover
import Derived.Laws.Pointers
import Derived.Test.YtjcnjlaelhdjeaaGreatDoorG
import Derived.Shelf.Strings.Builder1
import Derived.Test.YtjcnjlaelhdjeaaGreatDoorH
import Derived.Shelf.Vars
set_option linter.all false
namespace Go.Proofs.YtjcnjlaelhdjeaaGreatDoor
open Go Go.Vc Go.RowKit Go.Proofs Go.nK
set_option maxRecDepth 100000
set_option maxHeartbeats 8000000
def R3(c:Int)(w:World):kT 65 #[.int .i32 c] w (Value.bool (c==32)):=by apply IW.vc;exact ⟨rfl,rfl⟩
def cU{f:FuncId}{fn:Func}{c:Code}(hf:Tryz.prog.funcs[f]? =some fn)(hname:(fn.name== "runtime.NumGoroutine")=false) (hb:fn.body=some c) (args:Array Value) (w:World):(callFunc f args).run Tryz.prog w=.ok (.enter f args) w:=by
 have h1:fn.name≠ "runtime.NumGoroutine":=by simpa using hname
 simp [callFunc,hf,h1,hb]
def HC(s:ByteArray)(w:World)(hs:s.size<=4294967296):ae 31 #[.string s] w λe w'=>∃sl:Sl,e=sl/\dB w' sl 1 ((cc s).map sv)/\sl.n<=sl.c/\(∀i,sl.aX=some i->w.heap.size<=i/\i<w'.heap.size)/\Ext w w':=by
 apply Q4.vc;refine (Tryz.strings_FieldsFunc_grows 65 #[] (λargs w=>cU Tryz.func65 (by kernel_rfl) rfl args w) R4 s w hs ?_).mono ?_
 ·intro W x hx hb;refine (R3 x W).gK ?_;refine ⟨?_,Below.refl _ _⟩;have:(((x:Nat):Int)==32)=R4 x:=by unfold R4;rw [Bool.eq_iff_iff,beq_iff_eq,beq_iff_eq];omega
  rw [this]
 ·rintro _ w' ⟨A,rfl,hA,lM,hb⟩;have hl:A<w'.heap.size:=by
   obtain ⟨-,h⟩:=lM;rcases h with ⟨h,-⟩|⟨g,cap,cur,h,-,hh,-⟩
   ·cases h
   ·cases h
    exact (oV.1 hh).1
  refine ⟨⟨aB A,_,_⟩,rfl,⟨aB A,_,_⟩,rfl,⟨by simp [cc],λr hr=> ?_,λi r hi j v hj=> ?_⟩,ak _,λi hi=> ?_,hb⟩
  ·obtain ⟨t,-,rfl⟩:=bf.1 hr;rfl
  ·rw [aZ,wJ] at hi;obtain ⟨t,ht,rfl⟩:=hi;have hj0:j=0:=by
    cases j with
    |zero=>rfl
    |succ j=>simp [sv] at hj
   subst hj0
   cases hj
   have fD:=(cP.1 ht).1;show ld w' (ab (aB A) (i*1+0))=_;rw [aF];show w'.cell? ⟨A,0+(i*1+0),none⟩=_;rw [show 0+(i*1+0)=i by omega,lM.cellAt i (by unfold cc at fD;omega),aZ];show Option.map _ ((cc s)[i]?)=_;rw [ht];rfl
  ·cases hi
   exact ⟨hA,hl⟩
abbrev H8:Ending:=.panicked [{v:=.iface 85 (.string (ByteArray.mk #[98,97,100])),recovered:=false}]
def ml(b:Bool)(w:World):ae 54 #[b] w λe w'=>(if b then e=pH else e=H8)/\w'=w:=by
 apply Vj.vc
 cases b with
 |true=>exact Br.mk (λh=>by cases h) (λ_=>⟨rfl,rfl⟩)
 |false=>exact Br.mk (λ_=>⟨rfl,rfl⟩) (λh=>by cases h)
structure AG(w:World)(B g:Nat)(ws:List ByteArray):Prop where
 lt:g<B
 le:B<=w.heap.size
 ex:∃sl:Sl,Row w g [sl] 84/\dB w sl 1 (ws.map sv)/\sl.n<=sl.c/\∀i,sl.aX=some i->i<B/\i≠g
def AG.aW{w w':World}{B g:Nat}{ws:List ByteArray}(h:AG w B g ws)(hl:B<=w'.heap.size)(hk:∀i,i<B->w'.heap[i]? =w.heap[i]?):AG w' B g ws:=by obtain ⟨sl,h1,h2,h3,h4⟩:=h.ex;exact ⟨h.lt,hl,sl,(hk g h.lt).trans h1,h2.same λb hb=>hk b (h4 b hb).1,h3,h4⟩
def AG.ext{w w':World}{B g:Nat}{ws:List ByteArray}(h:AG w B g ws)(x:Ext w w'):AG w' B g ws:=
 h.aW (c8 h.le x.size) λi hi=>x.heap (gA hi h.le)
def PR{α:Type}(w:World)(B g:Nat)(p:Option (α × List ByteArray))(ret:α->Value)(e:Ending)(w':World):Prop:=
 Mod (λi=>i=g) w w'/\match p with|none=>e=H8|some (x,r)=>e=(ret x)/\AG w' B g r
def C6:List ByteArray->Option (ByteArray × List ByteArray)| []=>none|t::r=>some (t,r)
def gE(ws:List ByteArray):Option (Int × List ByteArray):=match C6 ws with|none=>none|some (t,r)=>if (zT t).2 then some ((zT t).1,r) else none
def vJ{w:World}{B g:Nat}{ws:List ByteArray}(h:AG w B g ws):ae 53 #[g] w λe w'=>PR w B g (C6 ws) (.string ·) e w':=by
 obtain ⟨sl,h1,h2,h3,h4⟩:=h.ex;have hn:sl.n=ws.length:=by rw [h2.n,aJ]
 apply D8.vc;have l0:ld w (ab (aB g) 0)=some (.slice sl.a sl.n sl.c):=by rw [aF,h1.ld];rfl
 refine ⟨sl,l0,(ml _ w).mono ?_⟩;rintro e w1 ⟨he,rfl⟩
 cases ws with
 |nil=>
  have:(decide (((sl.n:Nat):Int)>0))=false:=by rw [hn];rfl
  rw [this] at he;simp only [Bool.false_eq_true,if_false] at he;subst he;exact ⟨Mod.refl _ _,rfl⟩
 |cons t r=>
  have hn1:sl.n=r.length+1:=hn;have:(decide (((sl.n:Nat):Int)>0))=true:=decide_eq_true aa;rw [this] at he;simp only [if_true] at he;subst he;have hl:ld w1 (ab sl.a ((0:Int).toNat*1))=some (.string t):=h2.rd 0 (sv t) rfl 0 _ rfl;have gy:bC w1 (ab (aB g) 0) [.slice (aE sl.a ((1:Int).toNat) (sl.c) 1) (sl.n-(1:Int).toNat) (sl.c-(1:Int).toNat)]=w1.setRow g #[.slice (aE sl.a ((1:Int).toNat) (sl.c) 1) (sl.n-(1:Int).toNat) (sl.c-(1:Int).toNat)]:=by rw [aF];exact h1.bC (o:=0) bo (λu hu=>by simp at hu;subst hu;rfl)
  refine ⟨rfl,sl,l0,h2.j2 aw aa aa,t,hl,sl,l0,aw,aa,⟨rfl,by rw [aF];exact h1.wr (o:=0) bo⟩,?_⟩;intro w5 e5;rw [gy] at e5;have hm:Mod (λi=>i=g) w1 w5:=by rw [e5];exact ⟨rfl,rfl,rfl,bo,λi _ hi=>setRow_other _ _ _ _ hi⟩
  have hb:∀i,(aE sl.a ((1:Int).toNat) (sl.c) 1).map (·.block)=some i->i<B/\i≠g:=by
   intro i hi;apply h4 i;unfold aE at hi;split at hi
   ·exact hi
   ·unfold Sl.aX
    cases ha:sl.a with
    |none=>rw [ha] at hi;cases hi
    |some a=>rw [ha] at hi;exact hi
  refine ⟨hm,rfl,h.lt,c8 h.le hm.size,⟨aE sl.a ((1:Int).toNat) (sl.c) 1,sl.n-(1:Int).toNat,sl.c-(1:Int).toNat⟩,by rw [e5];exact h1.set _,?_,by show sl.n-1<=sl.c-1;omega,hb⟩;have hd:=h2.rest (l:=1) (m:=sl.c) (n':=sl.n-(1:Int).toNat) (c':=sl.c-(1:Int).toNat) (by rw [aJ,<-hn];rfl) (by rw [aJ,<-hn];omega);refine (hd.same λb hq=>hm.same b ?_ (hb b hq).2);exact gA (hb b hq).1 h.le
def lh{w:World}{B g:Nat}{ws:List ByteArray}(h:AG w B g ws):ae 152 #[g] w λe w'=>PR w B g (gE ws) (.int .i64 ·) e w':=by
 apply Ha.vc;refine (vJ h).mono ?_;rintro e w0 ⟨m0,hp⟩;unfold gE
 cases hw:C6 ws with
 |none=>
  rw [hw] at hp;subst hp;exact ⟨m0,rfl⟩
 |some x=>
  obtain ⟨t,r⟩:=x;rw [hw] at hp;obtain ⟨rfl,ha⟩:=hp;refine ⟨t,rfl,(R5 t w0).bj λw2 x2=> ?_⟩;refine ⟨_,_,rfl,(ml _ w2).mono ?_⟩;rintro e w5 ⟨he,rfl⟩;have m5:Mod (λi=>i=g) w w5:=m0.trans (Mod.aq x2);simp only
  cases hb:(zT t).2 with
  |true=>
   rw [hb] at he;simp only [if_true] at he;subst he;exact ⟨rfl,m5,rfl,ha.ext x2⟩
  |false=>
   rw [hb] at he;simp only [Bool.false_eq_true,if_false] at he;subst he;exact ⟨m5,rfl⟩
def rj{w:World}{B g:Nat}{ws:List ByteArray}(h:AG w B g ws):ae 153 #[g] w λe w'=>w'=w/\if ws=[] then e=pH else e=H8:=by
 obtain ⟨sl,h1,h2,h3,h4⟩:=h.ex;have hn:sl.n=ws.length:=by rw [h2.n,aJ]
 apply Hb.vc;have l0:ld w (ab (aB g) 0)=some (.slice sl.a sl.n sl.c):=by rw [aF,h1.ld];rfl
 refine ⟨sl,l0,(ml _ w).mono ?_⟩;rintro e w1 ⟨he,rfl⟩
 cases ws with
 |nil=>
  have:((((sl.n:Nat):Int):Int)==0)=true:=by rw [hn];rfl
  rw [this] at he;simp only [if_true] at he;subst he;exact ⟨rfl,rfl,rfl⟩
 |cons t r=>
  have hn1:sl.n=r.length+1:=hn;have:((((sl.n:Nat):Int):Int)==0)=false:=by simp;omega
  rw [this] at he;simp only [Bool.false_eq_true,if_false] at he;subst he;exact ⟨rfl,by rw [if_neg bo]⟩
def iB(w:World)(k:Nat)(c:Array Value):Mod (λi=>i=k) w (w.setRow k c):=⟨rfl,rfl,rfl,bo,λi _ hi=>setRow_other _ _ _ _ hi⟩
def zp(ws:List ByteArray):Option ((Int × Int) × List ByteArray):=match gE ws with|none=>none|some (x,r)=>match gE r with|none=>none|some (z,r')=>some ((x,z),r')
def lG(ws:List ByteArray):Option ((Int × Int × Int) × List ByteArray):=match gE ws with|none=>none|some (x,r)=>match gE r with|none=>none|some (y,r')=>match gE r' with|none=>none|some (z,r'')=>some ((x,y,z),r'')
def QA{w:World}{B g:Nat}{ws:List ByteArray}(h:AG w B g ws):ae 156 #[g] w λe w'=>PR w B g (zp ws) (λp=> .agg #[.int .i64 p.1,.int .i64 p.2]) e w':=by
 apply Hc.vc;intro w0 e0;have x0:Ext w w0:=by rw [e0];exact Ext.al _ _
 have hs:=fE e0;have hgl:g<w:=gA h.lt h.le;have m0:Mod (λi=>i=g) w w0:=Mod.aq x0;refine (lh (h.ext x0)).mono ?_;rintro e w1 ⟨m1,hp⟩;unfold zp
 cases hw:gE ws with
 |none=>rw [hw] at hp;subst hp;exact ⟨m0.trans m1,rfl⟩
 |some x=>
  obtain ⟨x,r⟩:=x;rw [hw] at hp;obtain ⟨rfl,ha⟩:=hp;refine ⟨x,rfl,m1.same _ aa aa,(lh ha).mono ?_⟩;rintro e w3 ⟨m3,hp⟩;simp only
  cases yu:gE r with
  |none=>rw [yu] at hp;subst hp;exact ⟨(m0.trans m1).trans m3,rfl⟩
  |some z=>
   obtain ⟨z,r'⟩:=z;rw [yu] at hp;obtain ⟨rfl,Oe⟩:=hp;refine ⟨z,rfl,m3.same _ (by have:=m1.size;omega) aa,?_⟩;intro w5 e5;have m5:=iB w3 w #[x,z];rw [<-e5] at m5;have hB:=h.le;have hle:=Oe.le;exact ⟨((m0.trans m1).trans m3).tr m5 (λi hi=> .inr aa),rfl,Oe.aW (c8 hle m5.size) λi hi=>m5.same i aa aa⟩
def QB{w:World}{B g:Nat}{ws:List ByteArray}(h:AG w B g ws):ae 166 #[g] w λe w'=>PR w B g (lG ws) (λp=> .agg #[.int .i64 p.1,.int .i64 p.2.1,.int .i64 p.2.2]) e w':=by
 apply He.vc;intro w0 e0;have x0:Ext w w0:=by rw [e0];exact Ext.al _ _
 have hs:=fE e0;have hgl:g<w:=gA h.lt h.le;have m0:Mod (λi=>i=g) w w0:=Mod.aq x0;refine (lh (h.ext x0)).mono ?_;rintro e w1 ⟨m1,hp⟩;unfold lG
 cases hw:gE ws with
 |none=>rw [hw] at hp;subst hp;exact ⟨m0.trans m1,rfl⟩
 |some x=>
  obtain ⟨x,r⟩:=x;rw [hw] at hp;obtain ⟨rfl,ha⟩:=hp;refine ⟨x,rfl,m1.same _ aa aa,(lh ha).mono ?_⟩;rintro e w3 ⟨m3,hp⟩;simp only
  cases yu:gE r with
  |none=>rw [yu] at hp;subst hp;exact ⟨(m0.trans m1).trans m3,rfl⟩
  |some y=>
   obtain ⟨y,r'⟩:=y;rw [yu] at hp;obtain ⟨rfl,Oe⟩:=hp;refine ⟨y,rfl,m3.same _ (by have:=m1.size;omega) aa,(lh Oe).mono ?_⟩;rintro e w5 ⟨m5,hp⟩;simp only
   cases H2:gE r' with
   |none=>rw [H2] at hp;subst hp;exact ⟨((m0.trans m1).trans m3).trans m5,rfl⟩
   |some z=>
    obtain ⟨z,r''⟩:=z;rw [H2] at hp;obtain ⟨rfl,ha5⟩:=hp;refine ⟨z,rfl,m5.same _ (by have:=m1.size;have:=m3.size;omega) aa,?_⟩;intro w7 e7;have m7:=iB w5 w #[x,y,z];rw [<-e7] at m7;have hB:=h.le;have hle:=ha5.le;exact ⟨(((m0.trans m1).trans m3).trans m5).tr m7 (λi hi=> .inr aa),rfl,ha5.aW (c8 hle m7.size) λi hi=>m7.same i aa aa⟩
def J8{w:World}{B g:Nat}{ws:List ByteArray}(h:AG w B g ws):ae 169 #[g] w λe w'=>PR w B g (lG ws) (λp=> .agg #[.int .i64 p.1,.int .i64 p.2.1,.int .i64 p.2.2]) e w':=by
 apply D9.vc;intro w0 e0;have x0:Ext w w0:=by rw [e0];exact Ext.al _ _
 have hs:=fE e0;have hgl:g<w:=gA h.lt h.le;have m0:Mod (λi=>i=g) w w0:=Mod.aq x0;refine (QB (h.ext x0)).mono ?_;rintro e w1 ⟨m1,hp⟩
 cases hw:lG ws with
 |none=>rw [hw] at hp;subst hp;exact ⟨m0.trans m1,rfl⟩
 |some x=>
  obtain ⟨⟨x,y,z⟩,r⟩:=x;rw [hw] at hp;obtain ⟨rfl,ha⟩:=hp;refine ⟨x,y,z,rfl,m1.same _ aa aa,?_⟩;intro w5 e5 w6 e6 w7 e7;have x5:Ext w1 w5:=by rw [e5];exact Ext.al _ _
  have m6:=iB w5 w1 #[x,y,z];rw [<-e6] at m6;have m7:=iB w6 w #[x,y,z];rw [<-e7] at m7;have hB:=h.le;have hle:=ha.le;have h1:=m1.size;have h5:=x5.size;have h6:=m6.size;have k:∀i,i<w1.heap.size->i≠w.heap.size->w7.heap[i]? =w1.heap[i]? :=λi hi hn=>
   (m7.same i aa hn).trans ((m6.same i aa aa).trans (x5.heap hi))
  exact ⟨(((m0.trans m1).trans (Mod.aq x5)).tr m6 (λi hi=> .inr aa)).tr m7 (λi hi=> .inr aa),rfl,ha.aW (by have:=m7.size;omega) λi hi=>k i aa aa⟩
inductive xy(w:World):Value->ByteArray->Prop
 |s (t:ByteArray):xy w (.iface 9 (.string t)) t
 |ok:xy w (.iface 168 (0:Int)) (ByteArray.mk #[111,107])
 |n (x:Int) (t:ByteArray) (h:∀u,Ext w u->ae 224 #[x] u λe u'=>e=Value.string t/\Ext u u'):xy w (.iface 3 (x)) t
 |e (x:Int) (t:ByteArray) (h0:x≠0) (h:∀u,Ext w u->ae 225 #[x] u λe u'=>e=Value.string t/\Ext u u'):xy w (.iface 168 (x)) t
 |v (x y z:Int) (t:ByteArray) (h:∀u v,Ext w u->v=u.alloc (.cells #[.iface 3 (x),.iface 3 (y),.iface 3 (z)] 20)->ae 154 #[.slice (aB u.heap.size) 3 3] v λe u'=>e=Value.string t/\Ext v u'):xy w (.iface 73 (.agg #[x,y,z])) t
 |b (x:Bool) (t:ByteArray) (h:∀u v,Ext w u->v=u.alloc (.cells #[.iface 3 (.int .i64 (if x then 1 else 0))] 20)->ae 154 #[.slice (aB u.heap.size) 1 1] v λe u'=>e=Value.string t/\Ext v u'):xy w (.iface 4 (.bool x)) t
def xy.ext{w u:World}{x:Value}{t:ByteArray}(h:xy w x t)(hx:Ext w u):xy u x t:=by
 cases h with
 |s=>exact .s _
 |ok=>exact .ok
 |n x _ h=>exact .n x _ λv hv=>h v (hx.tr hv)
 |e x _ h0 h=>exact .e x _ h0 λv hv=>h v (hx.tr hv)
 |v x y z _ h=>exact .v x y z _ λu v hu=>h u v (hx.tr hu)
 |b x _ h=>exact .b x _ λu v hu=>h u v (hx.tr hu)
def GB(v:Value):Prop:=∃b:Bool,v=.bool b
def WV:gR Tryz.prog 4 GB:=by
 refine ⟨?_,?_,?_⟩
 ·rintro x y ⟨a,rfl⟩ ⟨b,rfl⟩;refine ⟨a==b,?_,by cases a<;>cases b<;>simp⟩
  cases a<;>cases b<;>kernel_rfl
 ·rintro x ⟨a,rfl⟩ b w
  cases a<;>kernel_rfl
 ·rintro x ⟨a,rfl⟩
  cases a<;>kernel_rfl
def eG(l:List ByteArray):ByteArray:=⟨(Lib.join (l.map (·.data.toList)) [32]).toArray⟩
def join_one(t:ByteArray):eG [t]=t:=by apply uC;show Lib.join [bl t] [32]=bl t;unfold Lib.join;simp [List.intercalate]
def qX{w:World}{sl:Sl}{xs:LV}{outs:List ByteArray}(h:dB w sl 1 (xs.map λx=> [x]))(hl:outs.length=xs.length)(hn:xs.length<=1000000)
  (hi:∀(i:Nat) x t,xs[i]? =some x->outs[i]? =some t->xy w x t)(hj:(Lib.join (outs.map (·.data.toList)) [32]).length<=140737488355328):
  eU 154 #[sl] w (Value.string (eG outs)):=by
 have tL:sl.n=xs.length:=by rw [h.n,aJ]
 apply Uj.vc;refine ⟨λn x s v=>∃p:Nat,x=(p:Int)/\p+n=sl.n/\ar w 9 1 v s ((outs.take p).map sv)/\Ext w v,⟨sl.n,0,rfl,aa,ar.nil,Ext.bU _⟩,?_⟩;rintro n1 wZ x3 s4 w5 ⟨p,rfl,hp,ho,x5⟩;have Ob:(outs.take p).length=p:=by rw [cK];omega
 have h4:s4.n=p:=by rw [(ar.rd ho aw).n,aJ,Ob]
 apply Br.mk<;>intro c
 ·have c:=of_decide_eq_true c;have hpx:p<xs.length:=by omega
  obtain ⟨x,hx⟩:∃x,xs[p]? =some x:=⟨_,cO hpx⟩;obtain ⟨t,ht⟩:∃t,outs[p]? =some t:=⟨_,cO aa⟩;have hit:=(hi p x t hx ht).ext x5;have etk:outs.take (p+1)=outs.take p++ [t]:=by rw [dq,ht];rfl
  have pO:ld w5 (ab sl.a (((p:Nat):Int).toNat*1))=some x:=by have:=x5.ld (h.rd p [x] (by rw [aZ,hx];rfl) 0 x rfl);simpa using this
  have push:∀u:World,Ext w5 u->∀v:World,v=u.alloc (.cells #[.string t] 9)->
    aY 16 1 v ⟨s4.a,s4.n,s4.c⟩ 1 [.string t]/\∀(s9:Sl)(bc:World),aT 9 1 v ⟨s4.a,s4.n,s4.c⟩ 1 [.string t] s9 bc->
     (∀j,w5.heap.size<=j->j<u.heap.size->bc.heap[j]? =v.heap[j]?)/\bc.heap[u.heap.size]? =v.heap[u.heap.size]?/\∃n6,n6<n1/\∃q:Nat,aC ((p:Int)+1)=(q:Int)/\q+n6=sl.n/\ar w 9 1 bc ⟨s9.a,s9.n,s9.c⟩ ((outs.take q).map sv)/\Ext w bc:=by
   rintro u xu v rfl;have xw:=x5.tr xu;obtain ⟨a1,a2⟩:=(ho.ext xu).kU (bytes:=16) (news:=sv t) (.cells #[.string t] 9) xw.size rfl (Ua t) aa aa;refine ⟨a1,λs9 bc hr=> ?_⟩;obtain ⟨b1,b2,b3,b4,b5,-⟩:=a2 s9 bc hr;refine ⟨λj h1 h2=>(b5 j (λq=>by have:=(ho.own.lt q).2;omega) h2).trans ((Ext.al u _).heap h2).symm,b1,n1-1,aa,p+1,by rw [wI];omega,aa,?_,Below.trans xw b4⟩;rw [etk,bS];exact b2
  have psh:=λ(u:World)(xu:Ext w5 u)(v:World)(ev:v=u.alloc (.cells #[.string t] 9))=>(show _/\∀(s9:Sl)(bc:World),_->_ from ⟨(push u xu v ev).1,λs9 bc hr=>((push u xu v ev).2 s9 bc hr).2⟩)
  refine ⟨h.j2 aw aa aa,x,pO,?_⟩
  cases hit with
  |s=>
   refine ⟨9,_,rfl,Br.mk (λc=>by cases c) (λ_=>⟨9,_,rfl,Br.mk (λ_=>⟨_,rfl,λeQ S8=>psh w5 (Ext.bU _) eQ S8⟩) (λc=>by cases c)⟩)⟩
  |ok=>
   refine ⟨168,_,rfl,Br.mk (λc=>by cases c) (λ_=>⟨168,_,rfl,Br.mk (λc=>by cases c) (λ_=>⟨168,_,rfl,Br.mk (λ_=>⟨_,rfl,Br.mk (λ_=>λeQ S8=>psh w5 (Ext.bU _) eQ S8) (λc=>by cases c)⟩) (λc=>by cases c)⟩)⟩)⟩
  |n x _ hc=>
   refine ⟨3,_,rfl,Br.mk (λ_=>⟨x,rfl,(hc w5 (Ext.bU _)).mono ?_⟩) (λc=>by cases c)⟩;rintro _ bB ⟨rfl,bR⟩;exact ⟨t,rfl,λbw Dv=>psh bB bR bw Dv⟩
  |e x _ h0 hc=>
   refine ⟨168,_,rfl,Br.mk (λc=>by cases c) (λ_=>⟨168,_,rfl,Br.mk (λc=>by cases c) (λ_=>⟨168,_,rfl,Br.mk (λ_=>⟨x,rfl,Br.mk (λc=>absurd (by simpa using c) h0) (λ_=>(hc w5 (Ext.bU _)).mono ?_)⟩) (λc=>by cases c)⟩)⟩)⟩;rintro _ jI ⟨rfl,rI⟩;exact ⟨t,rfl,λpN e30=>psh jI rI pN e30⟩
  |v x y z _ hc=>
   refine ⟨73,_,rfl,Br.mk (λc=>by cases c) (λ_=>⟨73,_,rfl,Br.mk (λc=>by cases c) (λ_=>⟨73,_,rfl,Br.mk (λc=>by cases c) (λ_=>⟨73,_,rfl,Br.mk (λ_=>⟨x,y,z,rfl,λtN e38 lN e39 nV e40=> ?_⟩) (λc=>by cases c)⟩)⟩)⟩)⟩;have rD:Ext w5 lN:=Ext.af (Ext.ba (Ext.bU _) e38) e39 (ak _);have z38:=fE e38;have z39:lN.heap.size=w5.heap.size+1:=by rw [e39];simp [z38]
   have z40:=fE e40;refine (hc lN nV rD e40).bj λkN lO=> ?_
   refine ⟨t,rfl,lO.heap aa,λiS X6=> ?_⟩;have awD:Ext w5 kN:=(rD.ba e40).tr lO;obtain ⟨p1,p2⟩:=push kN awD iS X6;refine ⟨p1,λs44 yI hr=> ?_⟩;obtain ⟨q1,q2⟩:=p2 s44 yI hr;exact ⟨q1 _ (ak _) (by have:=lO.size;omega),q2⟩
  |b x _ hc=>
   refine ⟨4,_,rfl,Br.mk (λc=>by cases c) (λ_=>⟨4,_,rfl,Br.mk (λc=>by cases c) (λ_=>⟨4,_,rfl,Br.mk (λc=>by cases c) (λ_=>⟨4,_,rfl,Br.mk (λc=>by cases c) (λ_=>⟨4,_,rfl,Br.mk (λ_=>⟨x,rfl,λnH e49=> ?_⟩) (λc=>by cases c)⟩)⟩)⟩)⟩)⟩;have awE:=Ext.ba (Ext.bU _) e49;refine ⟨GB,[],WV,rfl,by rw [e49];exact bH.new,⟨_,rfl⟩,λX7 awF arc=> ?_⟩;have wm:Ext w5 X7:=(Mod.pd awF).ext awE λi hi=>Nat.le_of_eq hi.symm
   have ek:pf [] (Value.bool true) (1:Int)=[(Value.bool true,Value.int .i64 1)]:=by unfold pf;rw [if_neg bo];rfl
   rw [ek] at arc;refine ⟨GB,_,WV,arc,⟨_,rfl⟩,if x then 1 else 0,x,?_,λpI e57=> ?_⟩
   ·cases x with
    |true=>exact .inl ⟨rfl,bo⟩
    |false=>exact .inr ⟨rfl,rfl,bo⟩
   ·refine (hc X7 pI wm e57).bj λCD KP=> ?_
    exact ⟨t,rfl,λnX e60=>psh CD ((wm.ba e57).tr KP) nX e60⟩
 ·have c:=of_decide_eq_false c;have hpe:p=xs.length:=by omega
  rw [show outs.take p=outs from dI aa] at ho;have fin:eU 226 #[s4,.string (ByteArray.mk #[32])] w5 (Value.string (eG outs)):=by
   have gl:=ar.rd ho aw
   cases hq:outs with
   |nil=>
    have:s4.n=0:=by rw [h4,hpe,<-hl,hq];rfl
    rw [this];refine (Tryz.strings_Join_none s4.a s4.c _ w5).gK ?_;exact ⟨rfl,Ext.bU _⟩
   |cons t0 r0=>
    have hon:=ho.own;obtain ⟨g,ha,Ib⟩:∃g,s4.a=aB g/\s4.n<=s4.c:=by
     generalize ((outs.map sv).flatten)=fl at hon
     cases hon with
     |nil=>rw [hq] at hl;simp at hl;simp at h4;omega
     |row g n c cs hg hr hc hn=>exact ⟨g,rfl,hn⟩
    rw [<-hq];have hgl:g<w5.heap.size:=gl.L5 aw (by rw [hq];simp) (by unfold Sl.aX;rw [ha];rfl);have:=Tryz.strings_Join g 0 s4.c outs (ByteArray.mk #[32]) w5 (λj y hy=>by have:=gl.rd j (sv y) (by rw [aZ,hy];rfl) 0 _ rfl;rw [ha,aF] at this;simpa [Vc.ld] using this) hgl aa aa hj;rw [ha,h4,hpe,<-hl];exact this
  refine fin.bj λOg Bj=> ?_
  exact ⟨_,rfl,rfl,x5.tr Bj⟩
def GS(v:Value):Prop:=∃t:ByteArray,v=.string t
def Vs:gR Tryz.prog 9 GS:=by
 refine ⟨?_,?_,?_⟩
 ·rintro x y ⟨a,rfl⟩ ⟨b,rfl⟩;refine ⟨ej a b,by kernel_rfl,?_⟩;rw [eY];exact ⟨λh=>by rw [h],λh=>by injection h⟩
 ·rintro x ⟨a,rfl⟩ b w;kernel_rfl
 ·rintro x ⟨a,rfl⟩;simp [Instr.sameBits];exact (Rq a a).2 rfl
def uM:List ByteArray:=[ByteArray.mk #[119,111,114,108,100],
 ByteArray.mk #[108,111,97,100],
 ByteArray.mk #[117,110,108,111,97,100],
 ByteArray.mk #[102,108,117,115,104],
 ByteArray.mk #[112,105,110],
 ByteArray.mk #[117,110,112,105,110],
 ByteArray.mk #[102,108,117,115,104,97,108,108],
 ByteArray.mk #[102,97,105,108],
 ByteArray.mk #[99,114,97,115,104],
 ByteArray.mk #[115,97,118,101],
 ByteArray.mk #[115,112,97,119,110],
 ByteArray.mk #[107,105,108,108],
 ByteArray.mk #[116,101,108,108],
 ByteArray.mk #[112,108,97,99,101],
 ByteArray.mk #[101,100,105,116],
 ByteArray.mk #[98,114,101,97,107],
 ByteArray.mk #[108,111,111,107],
 ByteArray.mk #[97,116],
 ByteArray.mk #[116,111,112],
 ByteArray.mk #[98,111,100,121],
 ByteArray.mk #[108,105,118,101],
 ByteArray.mk #[104,101,114,101],
 ByteArray.mk #[116,105,99,107]]
def kvZ(k:Nat)(vs:LV):List (Value × Value):=((uM.take k).map Value.string).zip vs
def se:uM.Nodup:=by decide
def aeg{kvs:List (Value × Value)}{k v:Value}(h:∀e ∈ kvs,e.1≠k):pf kvs k v=kvs++ [(k,v)]:=by unfold pf;rw [if_neg];rintro ⟨e,he,hk⟩;exact h e he hk
def aeh{k:Nat}{vs:LV}{key:ByteArray}{v:Value}(hk:uM[k]? =some key)(hl:vs.length=k):pf (kvZ k vs) (.string key) v=kvZ (k+1) (vs++ [v]):=by
 have fD:=(cP.1 hk).1;rw [aeg]
 ·unfold kvZ;rw [dq,hk,bS,List.zip_append (by rw [aJ,cK];omega)];rfl
 ·rintro ⟨a,b⟩ he;have h1:=(List.of_mem_zip he).1;obtain ⟨t,ht,rfl⟩:=bf.1 h1;intro hc;injection hc with hc;subst hc;obtain ⟨i,hi⟩:=JM.1 ht;rw [qS] at hi;split at hi
  ·rename_i hik;have:=(List.getElem?_inj (i:=i) (j:=k) aa se).1 (hi.trans hk.symm);omega
  ·cases hi
abbrev Vt:TypeId:=98
abbrev aiB(c:Nat):Value:=.func (.func 155) #[] #[c]
abbrev kD(f sh:Nat):Value:=.func (.func f) #[sh] #[]
abbrev ow(f t:Nat):Value:=.func (.func f) #[t] #[]
def Ef(sh:Nat)(c:List Nat):LV:=
 [kD 86 sh]++c.map aiB++ [kD 93 sh,kD 94 sh,kD 95 sh,kD 96 sh,kD 97 sh,kD 98 sh,kD 99 sh,kD 100 sh,kD 101 sh,kD 102 sh,kD 103 sh,kD 104 sh,kD 105 sh,kD 106 sh,kD 107 sh,kD 108 sh,kD 109 sh]
def Vu(sh f t:Nat)(w:World):ae 87 #[sh,ow f t] w λe w'=>e=(aiB w)/\Row w' w [ow f t] 157/\Ext w w':=by apply AF.vc;refine uw.2 ?_;intro w0 e0;exact ⟨rfl,by rw [e0];exact Row.new _ [_] _,by rw [e0];exact Ext.al _ _⟩
structure Iv(w:World)(sh g:Nat):Prop where
 row:Row w sh [g] Vt
structure DS(w v:World)(t n:Nat)(vs:LV)(cs:List Nat):Prop where
 l:vs.length=n
 m:bH GS v (some w.heap.size) (kvZ n vs)
 x:Ext w v
 c:∀(j c:Nat),cs[j]? =some c->c≠w.heap.size/\Row v c [ow (88+j) t] 157/\w.heap.size<=c
def DS.put{w u:World}{t n:Nat}{vs:LV}{cs:List Nat}(h:DS w u t n vs cs){key:ByteArray}{v:Value}(hk:uM[n]? =some key){K:wPp}(k:∀u',DS w u' t (n+1) (vs++ [v]) cs->K u'):DR 9 (some w.heap.size) u (.string key) v K:=by
 refine ⟨GS,_,Vs,rfl,h.m,⟨_,rfl⟩,λu' hr hm=>k u' ⟨by rw [List.length_append,h.l];rfl,?_,Below.trans h.x (hr.below (Nat.le_refl _)),λj c hj=> ?_⟩⟩
 · rw [aeh hk h.l] at hm;exact hm
 · obtain ⟨h1,h2,h3⟩:=h.c j c hj;exact ⟨h1,h2.same (hr.same c h1),h3⟩
def DS.tbl{w u : World}{t n : Nat}{vs : LV}{cs : List Nat}(h : DS w u t n vs cs){sh f : Nat}(hf : f = 88 + cs.length){K : Ending → World → Prop}(k : ∀ c u', DS w u' t n vs (cs ++ [c]) → K (.returned (aiB c)) u') : Calls Tryz.prog 87 #[.pointer (some ⟨sh, 0, none⟩), ow f t] u K := by
 refine (Vu sh f t u).mono ?_
 rintro _ u' ⟨rfl, hr, y⟩
 have hz := h.m.lt
 refine k _ u' ⟨h.l, h.m.same (y.heap hz), h.x.tr y, λj c hj => ?_⟩
 rcases Nat.lt_or_ge j cs.length with q | q
 · rw [List.getElem?_append_left q] at hj
   obtain ⟨h1, h2, h3⟩ := h.c j c hj
   exact ⟨h1, h2.ext y, h3⟩
 · rw [List.getElem?_append_right q, List.getElem?_singleton] at hj
   split at hj
   · cases hj
     have e : j = cs.length := by omega
     rw [e, <- hf]
     exact ⟨by omega, hr, by omega⟩
   · cases hj
def aac{F:Nat->Prop}{w:World}{g s o t:Nat}{M:Sm}{occ:Value}{L:lCs}(h:EF F w g s o t M occ L){sh:Nat}(hs:Iv w sh g):
  ae 52 #[sh] w λe w'=>∃(r c1 c2 c3 c4 c5:Nat),e=Value.map (some r)/\bH GS w' (some r) (kvZ 23 (Ef sh [c1,c2,c3,c4,c5]))/\
   Row w' c1 [ow 88 t] 157/\Row w' c2 [ow 89 t] 157/\Row w' c3 [ow 90 t] 157/\Row w' c4 [ow 91 t] 157/\Row w' c5 [ow 92 t] 157/\w.heap.size<=r/\w.heap.size<=c1/\w.heap.size<=c2/\w.heap.size<=c3/\w.heap.size<=c4/\w.heap.size<=c5/\Ext w w':=by
 obtain ⟨Fs,hS,hp,-,-⟩:=h.Is;apply Cb.vc;refine ⟨aB g,by rw [aF,hs.row.ld];rfl,?_⟩;refine cJ.2 ⟨rfl,cJ.2 ⟨rfl,aB s,hp,(eN hS).gK ?_⟩⟩;obtain ⟨Fw,hW,-,-⟩:=hS.world;refine ⟨_,rfl,(jl hW).gK ?_⟩;refine ⟨_,rfl,?_⟩;intro v0 e0;have h:DS w v0 t 0 [] []:=⟨rfl,by rw [e0];exact bH.new,aV e0,λj c hj=>by cases hj⟩;refine h.put rfl λ_ h=>h.tbl rfl λc1 _ h=>⟨_,rfl,h.put rfl λ_ h=>h.tbl rfl λc2 _ h=>⟨_,rfl,h.put rfl λ_ h=>h.tbl rfl λc3 _ h=>⟨_,rfl,h.put rfl λ_ h=>h.tbl rfl λc4 _ h=>⟨_,rfl,h.put rfl λ_ h=>h.tbl rfl λc5 _ h=>⟨_,rfl,h.put rfl λ_ h=> ?_⟩⟩⟩⟩⟩
 iterate 17 refine h.put rfl λ_ h=> ?_
 have e:=h.m;simp only [List.nil_append,List.cons_append,Nat.reduceAdd] at e;have z:=h.c;simp only [List.nil_append,List.cons_append] at z;exact ⟨w.heap.size,c1,c2,c3,c4,c5,rfl,e,(z 0 _ rfl).2.1,(z 1 _ rfl).2.1,(z 2 _ rfl).2.1,(z 3 _ rfl).2.1,(z 4 _ rfl).2.1,Nat.le_refl _,(z 0 _ rfl).2.2,(z 1 _ rfl).2.2,(z 2 _ rfl).2.2,(z 3 _ rfl).2.2,(z 4 _ rfl).2.2,h.x⟩
def awd:uA Tryz.prog 85=true:=by kernel_rfl
def awe:(Tryz.prog.info? 85).bind (·.zero)=some (.string (ByteArray.mk #[])):=by kernel_rfl
def amV(s:ByteArray)(w:World):(Instr.typeAssert (.iface 85 (.string s)) 20 85 true).run Tryz.prog w=.ok (.tuple #[.string s,true]) w:=by have:=Rw (P:=Tryz.prog) (a:=85) (xT:=20) (t:=85) (v:=.string s) awd awe w;rw [if_pos rfl] at this;exact this
def KH(p:Addr)(x:ByteArray)(s:ByteArray)(older:List PanicEntry)(w:World)(hc:w.cell? p=some (.string x))(hz:w.frozen? p=false):
  CallsD Tryz.prog 51 #[p] (.panicking ({v:=.iface 85 (.string s),recovered:=false}::older)) w λe u' w'=>
   e=pH/\u'=.panicking ({v:=.iface 85 (.string s),recovered:=true}::older)/\w'=w.setCell p (.string s):=by
 refine callsD_of_wpS Tryz.func51 rfl λc₀ cs hu=> ?_
 apply wpS_seq;apply wpS_region;simp [wpOpsS,go_sem,recoverD,hu,Tryz.ntmps51,Exit.thenS];refine wpS_of_wp (wp_mono (Q:=λe a' w'=>e=.normal/\w'=w.setCell p (.string s)/\a'.defers=[]) ?_ ?_)
 ·refine wp_block ?_;go_wp2;rw [amV];simp only [Result.andThen_ok,Oper.upon];rename_i K1 h1 K h2;apply h2;simp [wpList,go_sem,Act.put,Act.eval,Exit.then,Oper.wp,Oper.upon];refine .inl (.inl (h1 _ _ ?_));refine wp_cond_true (by simp [Act.eval,Array.replicate]) ?_;refine wp_seq (wp_region ?_);simp [wpOps,go_sem,Act.put,Act.eval,Exit.then,Oper.wp,Oper.upon];refine .inl (wp_region ?_);simp [wpOps,go_sem,Act.put,Act.eval,Exit.then,Oper.wp,Oper.upon,hc,hz];exact .inl (.inl ⟨rfl,rfl,rfl⟩)
 ·rintro e a w' ⟨rfl,rfl,hd⟩;simp [bodyPostS,results,Tryz.results51,hd]
def VT(p:Addr)(w:World):
  CallsD Tryz.prog 51 #[p] .returning w λe u' w'=>e=pH/\u'=.returning/\w'=w:=by
 refine callsD_of_wpS Tryz.func51 rfl λc₀ cs hu=> ?_
 apply wpS_seq;apply wpS_region;simp [wpOpsS,go_sem,recoverD,hu,Tryz.ntmps51,Exit.thenS];refine wpS_of_wp (wp_mono (Q:=λe a' w'=>e=.normal/\w'=w/\a'.defers=[]) ?_ ?_)
 ·refine wp_block (wp_seq (wp_region ?_));simp [wpOps,go_sem,Act.put,Act.eval,Exit.then,Oper.wp,Oper.upon];refine .inl ?_;refine wp_cond_true (by simp [Act.eval,Array.replicate]) ?_;refine wp_region ?_;simp [wpOps,go_sem,Act.put,Act.eval,Exit.then,Oper.wp,Oper.upon]
 ·rintro e a w' ⟨rfl,rfl,hd⟩
  cases c₀
  simp_all [bodyPostS,results,Tryz.results51]
def E5{w:World}{g:Nat}{x v:Value}{E:TypeId}(hr:Row w g [x] E)(h1:v.oneCell'=true):w.setCell ⟨g,0,none⟩ v=w.setRow g #[v]:=by have h:=hr.bC (o:=0) (vs:=[v]) bo (λu hu=>by simp at hu;subst hu;exact h1);have e:bC w (aB g) [v]=w.setCell ((⟨g,0,none⟩:Addr).add 0) v:=rfl;rw [e] at h;have a0:(⟨g,0,none⟩:Addr).add 0=⟨g,0,none⟩:=rfl;rw [a0] at h;rw [h];rfl
def akP:tI Tryz.prog 87=some (9,86,.nilFunc):=by kernel_rfl
structure awa(v:Value)(f:FuncId)(a b:Array Value):Prop where
 eq:v=.func (.func f) a b
 enter:∀args w,(callFunc f args).run Tryz.prog w=.ok (.enter f args) w
def Cu{w:World}{sh g:Nat}(line:ByteArray)(hl:line.size<=4294967296){F:Nat->Prop}{s o t:Nat}{M:Sm}{occ:Value}{L:lCs}(h:EF F w g s o t M occ L)(hs:Iv w sh g)(Q:ByteArray->wPp)
  (gy:∀tx u u',Q tx u->Mod (λi=>i=w.heap.size) u u'->Q tx u')
  (h0:cc line=[]->∀u,Ext w u->Q (ByteArray.mk #[]) u)
  (Wz:∀c r,cc line=c::r->c ∉ uM->∀u,Ext w u->Q (ByteArray.mk #[98,97,100]) u)
  (aAO:∀(c:ByteArray)(r:List ByteArray)(i:Nat),cc line=c::r->uM[i]? =some c->∀(u:World)(B ga c1 c2 c3 c4 c5:Nat),Ext w u->AG u B ga r->w.heap.size<ga->Row u c1 [ow 88 t] 157->Row u c2 [ow 89 t] 157->Row u c3 [ow 90 t] 157->Row u c4 [ow 91 t] 157->Row u c5 [ow 92 t] 157->
   (B<=c1/\B<=c2/\B<=c3/\B<=c4/\B<=c5)->∀v,(Ef sh [c1,c2,c3,c4,c5])[i]? =some v->∃f a b,awa v f a b/\ae f (a++ #[.pointer (some ⟨ga,0,none⟩)]++b) u λe u'=>u'.heap[w.heap.size]? =u.heap[w.heap.size]?/\((∃tx,e=Value.string tx/\Q tx u')\/(e=H8/\Q (ByteArray.mk #[98,97,100]) u'))):
  ae 14 #[.pointer (some ⟨sh,0,none⟩),.string line] w λe w'=>∃tx,e=Value.string tx/\Q tx w':=by
 go_enter_defers Tryz.func14,Tryz.ntmps14;refine wp_seq (wp_region ?_);simp [wpOps,go_sem,Act.put,Act.eval,Exit.then,Oper.wp,Oper.upon];refine .inl ?_;refine wp_seq (wp_region ?_);simp [wpOps,go_sem,Act.put,Act.eval,Exit.then,Oper.wp,Oper.upon];refine .inl (.inl ((HC line _ hl).mono ?_));rintro e w1 ⟨sl,rfl,gl,hlc,yx,x1⟩;simp [go_sem,Oper.upon,wpOps,Oper.wp,Act.put,Act.eval]
 repeat refine Or.inl ?_
 refine wp_seq (wp_seq (wp_region ?_));simp [wpOps,go_sem,Act.put,Act.eval,Exit.then,Oper.wp,Oper.upon]
 repeat refine Or.inl ?_
 have hn:sl.n=(cc line).length:=by rw [gl.n,aJ]
 have hr0:Row (w.alloc (.cells #[.string (ByteArray.mk #[])] 9)) w.heap.size [.string (ByteArray.mk #[])] 9:=Row.new _ [_] _;have jY:=(hr0.ext x1).ext (Ext.al w1 (.cells #[sl] 84));have x2:Ext w (w1.alloc (.cells #[sl] 84)):=((Ext.al w _).tr x1).tr (Ext.al w1 _);have nG:(w1.alloc (.cells #[sl] 84)).cell? ⟨w.heap.size,0,none⟩=some (.string (ByteArray.mk #[])):=by have:=jY.ld 0;simpa [Vc.ld] using this
 have hf2:(w1.alloc (.cells #[sl] 84)).frozen? ⟨w.heap.size,0,none⟩=false:=oP jY _
 cases hw:cc line with
 |nil=>
  rw [hw] at hn;refine wp_cond_true (by simp [Act.eval,hn]) ?_;refine wp_seq (wp_region ?_);simp [wpOps,go_sem,Act.put,Act.eval,Exit.then,Oper.wp,Oper.upon,nG,hf2]
  repeat refine Or.inl ?_
  refine wp_ret ?_;rw [E5 jY rfl];have hr3:=jY.set [.string (ByteArray.mk #[])];have K9:((w1.alloc (.cells #[sl] 84)).setRow w.heap.size #[.string (ByteArray.mk #[])]).cell? ⟨w.heap.size,0,none⟩=some (.string (ByteArray.mk #[])):=by have:=hr3.ld 0;simpa [Vc.ld] using this
  simp [bodyPostD,Leaves,results,Tryz.results14,go_sem,K9];exact gy _ _ _ (h0 hw _ x2) (iB _ _ _)
 |cons c r=>
  rw [hw] at hn;refine wp_cond_false (by simp [Act.eval,hn];omega) ?_;refine wp_skip ?_;simp only [Exit.then];refine wp_seq (wp_region ?_);simp [wpOps,go_sem,Act.put,Act.eval,Exit.then,Oper.wp,Oper.upon]
  repeat refine Or.inl ?_
  generalize hW2:w1.alloc (.cells #[sl] 84)=W2 at*;refine wp_seq (wp_region ?_);simp [wpOps,go_sem,Act.put,Act.eval,Exit.then,Oper.wp,Oper.upon]
  repeat refine Or.inl ?_
  refine (aac (h.ext x2) ⟨hs.row.ext x2⟩).mono ?_;rintro e w3 ⟨rm,c1,c2,c3,c4,c5,rfl,hm,r1,r2,r3,r4,r5,b0,b1,b2,b3,b4,b5,x3⟩;simp [go_sem,Oper.upon,wpOps,Oper.wp,Act.put,Act.eval]
  repeat refine Or.inl ?_
  have Il:W2.heap.size=w1.heap.size+1:=by rw [<-hW2];simp
  have xa:Ext w1 W2:=by rw [<-hW2];exact Ext.al _ _
  have ON:AG W2 W2.heap.size w1 (c::r):=⟨aa,ak _,sl,by rw [<-hW2];exact Row.new _ [_] _,by rw [<-hw];exact gl.ext xa,hlc,λi hi=>by have:=(yx i hi).2;omega⟩;refine (vJ (ON.ext x3)).mono ?_;rintro e w4 ⟨m4,hp⟩;obtain ⟨rfl,ha4⟩:=hp;have hzw:w.heap.size+1<=w1:=by have:=x1.size;simpa using this
  have x4:Ext w w4:=m4.ext (x2.tr x3) (λi hi=>by omega);have fA:∀i,W2.heap.size<=i->i≠w1.heap.size:=λi hi=>by omega
  have hm4:bH GS w4 (some rm) (kvZ 23 (Ef sh [c1,c2,c3,c4,c5])):=hm.same (m4.same rm hm.lt (fA _ b0));have k1:=r1.same (m4.same c1 r1.lt (fA _ b1));have k2:=r2.same (m4.same c2 r2.lt (fA _ b2));have k3:=r3.same (m4.same c3 r3.lt (fA _ b3));have k4:=r4.same (m4.same c4 r4.lt (fA _ b4));have k5:=r5.same (m4.same c5 r5.lt (fA _ b5));by_cases hc:c ∈ uM
  ·obtain ⟨i,hi⟩:=List.mem_iff_getElem?.1 hc;have aAQ:i<23:=(cP.1 hi).1;obtain ⟨v,hv⟩:∃v,(Ef sh [c1,c2,c3,c4,c5])[i]? =some v:=⟨_,cO (show i<(Ef sh [c1,c2,c3,c4,c5]).length from aAQ)⟩;obtain ⟨f,a,b,hcv,hcall⟩:=aAO c r i hw hi w4 W2.heap.size w1 c1 c2 c3 c4 c5 x4 ha4 (by omega) k1 k2 k3 k4 k5 ⟨b1,b2,b3,b4,b5⟩ v hv;have qN:(Instr.lookup 87 (.map (some rm)) (.string c) false).run Tryz.prog w4=.ok v w4:=by refine (yc (P:=Tryz.prog) (z:=.nilFunc) akP Vs hm4 ⟨c,rfl⟩ false (v:=v) (b:=true) (.inl ⟨rfl,?_⟩));unfold kvZ;refine List.mem_iff_getElem?.2 ⟨i,?_⟩;rw [List.getElem?_zip_eq_some];refine ⟨?_,hv⟩;rw [aZ,dI (by decide),hi];rfl
   simp [go_sem,Oper.upon,wpOps,Oper.wp,Act.put,Act.eval,qN];obtain ⟨rfl,aAR⟩:=hcv
   repeat refine Or.inl ?_
   refine wp_seq (wp_region ?_);simp [wpOps,go_sem,Act.put,Act.eval,Exit.then,Oper.wp,Oper.upon]
   repeat refine Or.inl ?_
   have hr4:Row w4 w [.string (ByteArray.mk #[])] 9:=(jY.ext x3).same (m4.same _ (jY.ext x3).lt (by omega));refine (ml true w4).mono ?_;rintro e w4' ⟨he,e4⟩;simp only [if_true] at he;subst he;rw [e4];refine wp_seq (wp_region ?_);simp [wpOps,go_sem,Act.put,Act.eval,Exit.then,Oper.wp,Oper.upon,invoke,aAR]
   repeat refine Or.inl ?_
   refine hcall.mono ?_;rintro e u ⟨hk,⟨tx,rfl,hq⟩|⟨rfl,hq⟩⟩
   ·have hru:=hr4.same hk;have hcu:u.cell? ⟨w.heap.size,0,none⟩=some (.string (ByteArray.mk #[])):=by have:=hru.ld 0;simpa [Vc.ld] using this
    have hfu:u.frozen? ⟨w.heap.size,0,none⟩=false:=oP hru _;have hrs:=hru.set [.string tx];have ti:(u.setRow w #[.string tx]).cell? ⟨w.heap.size,0,none⟩=some (.string tx):=by have:=hrs.ld 0;simpa [Vc.ld] using this
    have hqs:Q tx (u.setRow w #[.string tx]):=gy _ _ _ hq (iB _ _ _);simp [go_sem,storeCells,hcu,hfu];rw [E5 hru rfl]
    repeat refine Or.inl ?_
    refine wp_ret ?_;simp only [bodyPostD];refine leaves_cons (f:=51) (args:= #[.pointer (some ⟨w.heap.size,0,none⟩)]) (by simp) (cU Tryz.func51 (by kernel_rfl) rfl _ _) ?_;refine (VT ⟨w.heap.size,0,none⟩ _).mono ?_;rintro e u' w'' ⟨rfl,rfl,rfl⟩;simp [Leaves,settle,results,Tryz.results14,go_sem,ti];exact hqs
   ·have hru:=hr4.same hk;have hcu:u.cell? ⟨w.heap.size,0,none⟩=some (.string (ByteArray.mk #[])):=by have:=hru.ld 0;simpa [Vc.ld] using this
    have hfu:u.frozen? ⟨w.heap.size,0,none⟩=false:=oP hru _;have hrs:=hru.set [.string (ByteArray.mk #[98,97,100])];have ti:(u.setRow w #[.string (ByteArray.mk #[98,97,100])]).cell? ⟨w.heap.size,0,none⟩=some (.string (ByteArray.mk #[98,97,100])):=by have:=hrs.ld 0;simpa [Vc.ld] using this
    have hqs:Q (ByteArray.mk #[98,97,100]) (u.setRow w #[.string (ByteArray.mk #[98,97,100])]):=gy _ _ _ hq (iB _ _ _);simp only [H8,bodyPostD];refine leaves_cons (f:=51) (args:= #[.pointer (some ⟨w.heap.size,0,none⟩)]) (by simp) (cU Tryz.func51 (by kernel_rfl) rfl _ _) ?_;refine (KH ⟨w.heap.size,0,none⟩ (ByteArray.mk #[]) _ _ _ hcu hfu).mono ?_;rintro e u' w'' ⟨rfl,rfl,rfl⟩;rw [E5 hru rfl];simp [Leaves,settle,results,Tryz.results14,go_sem,ti];exact hqs
  ·have qN:(Instr.lookup 87 (.map (some rm)) (.string c) false).run Tryz.prog w4=.ok .nilFunc w4:=by refine (yc (P:=Tryz.prog) (z:=.nilFunc) akP Vs hm4 ⟨c,rfl⟩ false (v:=.nilFunc) (b:=false) (.inr ⟨rfl,rfl,?_⟩));rintro ⟨x,y⟩ he hx;obtain ⟨t',ht',hx'⟩:=bf.1 (List.of_mem_zip he).1;have:Value.string t'=.string c:=hx'.trans hx;injection this with this;rw [this] at ht';exact hc (List.mem_of_mem_take ht')
   have hr4:Row w4 w [.string (ByteArray.mk #[])] 9:=(jY.ext x3).same (m4.same _ (jY.ext x3).lt (by omega));have hc4:w4.cell? ⟨w.heap.size,0,none⟩=some (.string (ByteArray.mk #[])):=by have:=hr4.ld 0;simpa [Vc.ld] using this
   have hf4:w4.frozen? ⟨w.heap.size,0,none⟩=false:=oP hr4 _;simp [go_sem,Oper.upon,wpOps,Oper.wp,Act.put,Act.eval,qN]
   repeat refine Or.inl ?_
   refine wp_seq (wp_region ?_);simp [wpOps,go_sem,Act.put,Act.eval,Exit.then,Oper.wp,Oper.upon]
   repeat refine Or.inl ?_
   refine (ml false w4).mono ?_;rintro e w4' ⟨he,e4⟩;simp only [Bool.false_eq_true,if_false] at he;subst he;rw [e4]
   ·have hrs:=hr4.set [.string (ByteArray.mk #[98,97,100])];have ti:(w4.setRow w #[.string (ByteArray.mk #[98,97,100])]).cell? ⟨w.heap.size,0,none⟩=some (.string (ByteArray.mk #[98,97,100])):=by have:=hrs.ld 0;simpa [Vc.ld] using this
    have hqs:Q (ByteArray.mk #[98,97,100]) (w4.setRow w #[.string (ByteArray.mk #[98,97,100])]):=gy _ _ _ (Wz c r hw hc w4 x4) (iB _ _ _);simp only [H8,bodyPostD];refine leaves_cons (f:=51) (args:= #[.pointer (some ⟨w.heap.size,0,none⟩)]) (by simp) (cU Tryz.func51 (by kernel_rfl) rfl _ _) ?_;refine (KH ⟨w.heap.size,0,none⟩ (ByteArray.mk #[]) _ _ _ hc4 hf4).mono ?_;rintro e u' w'' ⟨rfl,rfl,rfl⟩;rw [E5 hr4 rfl];simp [Leaves,settle,results,Tryz.results14,go_sem,ti];exact hqs
open Go.cC Go.aO Go.Code
def Ue{F:Nat->Prop}{w:World}{g s o t:Nat}{M:Sm}{occ:Value}{L:lCs}(h:EF F w g s o t M occ L)(hW:M.T.1.l.length<=1000000)(p:Po):
  ae 88 #[t,pv p] w λe w'=>e=Value.int .i64 (Bh M.aj M.cap M.T.1 M.T.2 p).2/\dQ F w g s o t {M with T:=(Bh M.aj M.cap M.T.1 M.T.2 p).1} occ L w':=by
 obtain ⟨Fs,hS,hp,dP,hr⟩:=h.Is;obtain ⟨Fw,hw,hsub2,jY⟩:=hS.world;refine (Q0 hw hW p).bj λw' bq=> ?_
 exact ⟨rfl,hr (jY bq)⟩
def RZ{w:World}{B ga c0:Nat}{ws:List ByteArray}{fv:Value}(ha:AG w B ga ws)(hc:Row w c0 [fv] 157)(fA:c0≠ga)(hfv:kr fv=[])(R:eWp)
  (Wz:(∀p,zp ws≠some (p,[]))->∀u,Mod (λi=>i=ga) w u->R H8 u)
  (hdo:∀p r,zp ws=some (p,r)->r=[]->∀u,Mod (λi=>i=ga) w u->w.heap.size<u.heap.size->bu Tryz.prog fv [.agg #[.int .i64 p.1,.int .i64 p.2]] u λe u'=>∃(x:Int)(tx:ByteArray),e=Value.int .i64 x/\(∀i,w.heap.size<=i->i<u.heap.size->u'.heap[i]? =u.heap[i]?)/\u.heap.size<=u'.heap.size/\
   (∀v,Ext u' v->xy v (.iface 168 (.int .i64 x)) tx)/\tx.size<=1000000/\∀v,Ext u' v->R (.returned (.string tx)) v):
  ae 155 #[ga,c0] w R:=by
 apply wh.vc;refine (QA ha).mono ?_;rintro e w0 ⟨m0,hp⟩
 cases hw:zp ws with
 |none=>
  rw [hw] at hp;subst hp;exact Wz (λp q=>by rw [hw] at q;cases q) _ m0
 |some x=>
  obtain ⟨⟨x,z⟩,r⟩:=x;rw [hw] at hp;obtain ⟨rfl,ha0⟩:=hp;refine ⟨x,z,rfl,?_⟩;intro w3 e3 w4 e4;have x3:Ext w0 w3:=by rw [e3];exact Ext.al _ _
  have z3:=fE e3;have m4:=iB w3 w0 #[.int .i64 x,z];rw [<-e4] at m4;have x4:Ext w0 w4:=m4.ext x3 (λi hi=>by omega);have z4:w4.heap.size=w0.heap.size+1:=by rw [e4];simp [z3]
  have mw4:Mod (λi=>i=ga) w w4:=m0.trans (Mod.aq x4);refine (rj (ha0.ext x4)).mono ?_;rintro e w5 ⟨e5,he⟩;rw [e5];by_cases hr:r=[]
  ·rw [if_pos hr] at he;subst he;have hcw:Row w4 c0 [fv] 157:=hc.same (mw4.same c0 hc.lt fA);refine ⟨rfl,rfl,fv,by rw [hcw.ld];rfl,?_⟩;have h0w:=m0.size;refine bJ (hdo (x,z) r hw hr w4 mw4 aa) ?_;rintro e w7 ⟨xe,tx,rfl,hk,hs7,hit,nE,hR⟩;refine ⟨xe,rfl,hk _ h0w aa,?_⟩;intro w9 e9;have x9:Ext w7 w9:=by rw [e9];exact Ext.al _ _
   have hr9:Row w9 w7 [.iface 168 (xe)] 20:=Row.nw e9;have gl:dB w9 ⟨aB w7.heap.size,1,1⟩ 1 ([.iface 168 (xe)].map λx=> [x]):=by
    refine ⟨rfl,λq hq=>by simp at hq;subst hq;rfl,λi q hi j v hj=> ?_⟩
    cases i with
    |succ i=>simp at hi
    |zero=>
     simp at hi;subst hi
     cases j with
     |succ j=>simp at hj
     |zero=>
      simp at hj;subst hj;rw [aF,hr9.ld];rfl
   have hj1:(Lib.join ([tx].map (·.data.toList)) [32]).length<=140737488355328:=by have e:=congrArg bl (join_one tx);have e:Lib.join ([tx].map (·.data.toList)) [32]=bl tx:=e;rw [e,eM];omega
   refine (qX (outs:=[tx]) gl rfl bo (λi y t hy ht=> ?_) hj1).mono ?_
   ·cases i with
    |succ i=>simp at hy
    |zero=>
     simp at hy ht;subst hy;subst ht;exact hit w9 x9
   ·rintro _ bc ⟨rfl,bM⟩;refine ⟨_,rfl,bM.heap (by have:=x9.size;omega),?_⟩;rw [join_one];exact hR _ (x9.tr bM)
  ·rw [if_neg hr] at he;subst he;exact Wz (λp q=>by rw [hw] at q;cases q;exact hr rfl) _ mw4
def jn{u v:World}{x:Value}{tx:ByteArray}(hv:v=u.alloc (.cells #[x] 20))(hit:xy v x tx)(nE:tx.size<=1000000):
  eU 154 #[.slice (aB u.heap.size) 1 1] v (Value.string tx):=by
 have hr9:Row v u.heap.size [x] 20:=Row.nw hv;have gl:dB v ⟨aB u.heap.size,1,1⟩ 1 ([x].map λx=> [x]):=by
  refine ⟨rfl,λq hq=>by simp at hq;subst hq;rfl,λi q hi j v hj=> ?_⟩
  cases i with
  |succ i=>simp at hi
  |zero=>
   simp at hi;subst hi
   cases j with
   |succ j=>simp at hj
   |zero=>
    simp at hj;subst hj;rw [aF,hr9.ld];rfl
 have hj1:(Lib.join ([tx].map (·.data.toList)) [32]).length<=140737488355328:=by have e:=congrArg bl (join_one tx);have e:Lib.join ([tx].map (·.data.toList)) [32]=bl tx:=e;rw [e,eM];omega
 refine (qX (outs:=[tx]) gl rfl bo (λi y t hy ht=> ?_) hj1).mono ?_
 ·cases i with
  |succ i=>simp at hy
  |zero=>
   simp at hy ht;subst hy;subst ht;exact hit
 ·rintro _ bc ⟨rfl,bM⟩;rw [join_one];exact ⟨rfl,bM⟩
def tw(b:Int):ByteArray:=if b= -1 then ByteArray.mk #[97,119,97,121] else lp b
def YT{F:Nat->Prop}{w:World}{g s o t sh B ga:Nat}{M:Sm}{occ:Value}{L:lCs}{ws:List ByteArray}(h:EF F w g s o t M occ L)(hs:Iv w sh g)(ha:AG w B ga ws)(hF:¬F ga)(hsg:sh≠ga)
  (hnm:∀b,(lp b).size<=1000000)(R:eWp)(Wz:(∀p,lG ws≠some (p,[]))->∀u,Mod (λi=>i=ga) w u->R H8 u)
  (hok:∀c,lG ws=some (c,[])->qT c/\∀u,Mod (λi=>i=ga) w u->R (.returned (.string (tw (jm M.T.2 c)))) u):
  ae 104 #[sh,ga] w R:=by
 apply G9.vc;refine (J8 ha).mono ?_;rintro e w0 ⟨m0,hp⟩
 cases hw:lG ws with
 |none=>
  rw [hw] at hp;subst hp;exact Wz (λp q=>by rw [hw] at q;cases q) _ m0
 |some x=>
  obtain ⟨⟨x,y,z⟩,r⟩:=x;rw [hw] at hp;obtain ⟨rfl,ha0⟩:=hp;refine ⟨x,y,z,rfl,?_⟩;intro w4 e4 w5 e5;have x4:Ext w0 w4:=by rw [e4];exact Ext.al _ _
  have z4:=fE e4;have m5:=iB w4 w0 #[x,y,z];rw [<-e5] at m5;have x5:Ext w0 w5:=m5.ext x4 (λi hi=>by omega);have z5:w5.heap.size=w0.heap.size+1:=by rw [e5];simp [z4]
  have mw5:Mod (λi=>i=ga) w w5:=m0.trans (Mod.aq x5);refine (rj (ha0.ext x5)).mono ?_;rintro e w6 ⟨e6,he⟩;rw [e6];by_cases hr:r=[]
  ·rw [if_pos hr] at he;subst he;subst hr;obtain ⟨hc,hR⟩:=hok _ hw;have h5:EF F w5 g s o t M occ L:=h.same λi hi=>mw5.same i (h.lt hi) (λq=>hF (q▸hi))
   have hd:=h5.ext (Ext.dr w5);have hsh:Row w5.drew sh [g] Vt:=(hs.row.same (mw5.same sh hs.row.lt hsg)).ext (Ext.dr w5);have hb:Row w5.drew w0 (eZ (x,y,z)) 23:=by
    have:Row w5 w0 (eZ (x,y,z)) 23:=by have hr4:Row w4 w0 [ai,ai,ai] 23:=Row.nw e4;rw [e5];exact hr4.set [_,_,_]
    exact this.ext (Ext.dr w5)
   obtain ⟨Fs,hS,Of,-,-⟩:=hd.Is;obtain ⟨Fw,hW,-,-⟩:=hS.world;refine ⟨rfl,rfl,aB g,by rw [aF,hsh.ld];rfl,cJ.2 ⟨rfl,cJ.2 ⟨rfl,aB s,Of,(eN hS).gK ?_⟩⟩⟩;have lb:ah w5.drew (aB w0.heap.size) 0 [x,y,z]:=hb.bK (o:=0) (λj _=>by rw [eK]);have ls:ah w5.drew (ab (aB sh) 0) 0 [g]:=by rw [aF];exact hsh.bK (λj _=>by simp)
   refine ⟨_,rfl,rfl,lb,ls,(o5 hW).gK ?_⟩;have hca:bu Tryz.prog (.func (.func 113) #[t] #[]) [.agg #[x,y,z]] w5.drew λe w''=>e=Value.int .i64 (jm M.T.2 (x,y,z))/\Ext w5.drew w'':=hd.tl.at (c:=(x,y,z)) hc
   refine ⟨_,rfl,rfl,lb,ls,?_⟩;refine bJ hca ?_;rintro e bw ⟨rfl,cN⟩;have att:Ext w5 bw:=(Ext.dr w5).tr cN;have s5:=oa w5;have az8:w0.heap.size<bw:=by have:=cN.size;omega
   refine ⟨_,rfl,cN.heap aa,by rw [aF];exact (hsh.ext cN).bK (λj _=>by simp),Br.mk (λc1=> ?_) (λc1=> ?_)⟩
   ·have c1:=fC c1;intro dj pJ;have dm:Ext bw dj:=by rw [pJ];exact Ext.al _ _
    refine (jn pJ (.s _) aw).bj λcp dz=> ?_
    refine ⟨_,rfl,dz.heap (by have:=dm.size;omega),?_⟩;have:=hR cp (mw5.trans (Mod.aq ((att.tr dm).tr dz)));unfold tw at this;rw [if_pos c1] at this;exact this
   ·have c1:=fC c1;refine (km _ bw).bj λdN de=> ?_
    refine ⟨_,rfl,de.heap az8,?_⟩;intro fw wi;have fk:Ext dN fw:=by rw [wi];exact Ext.al _ _
    refine (jn wi (.s _) (hnm _)).bj λcX fj=> ?_
    refine ⟨_,rfl,fj.heap (by have:=de.size;have:=fk.size;omega),?_⟩;have:=hR cX (mw5.trans (Mod.aq (((att.tr de).tr fk).tr fj)));unfold tw at this;rw [if_neg c1] at this;exact this
  ·rw [if_neg hr] at he;subst he;exact Wz (λp q=>by rw [hw] at q;cases q;exact hr rfl) _ mw5
abbrev Ug:Value:=.func (.func 175) #[] #[]
def Gr(w:World):ae 26 #[] w λe w'=>∃(sh g s o t:Nat)(F:Nat->Prop),e=Value.pointer (aB sh)/\EF F w' g s o t (yG 1 9 200000 16) Ug xt/\Iv w' sh g/\¬F sh/\Ext w w'/\(∀i,F i->w.heap.size<=i)/\w.heap.size<=sh:=by
 apply Zj.vc;refine (J2 1 9 200000 16 w).mono ?_;rintro _ w0 ⟨g,s,o,t,F,rfl,h,x0,hF⟩;refine ⟨_,rfl,?_⟩;intro w2 e2;have x2:Ext w0 w2:=by rw [e2];exact Ext.al _ _
 exact ⟨w0.heap.size,g,s,o,t,F,rfl,h.ext x2,⟨by rw [e2];exact Row.new _ [_] _⟩,λq=>by have:=h.lt q;omega,x0.tr x2,hF,x0.size⟩
def ai9:(Tryz.prog.info? 112).map (·.size)=some 2:=by kernel_rfl
def aja:liesAt Tryz.prog Tryz.prog.depth 112 (2 / Tryz.prog.cellsOf 112) 0 112 1=true:=by kernel_rfl
def abb{w:World}{g:Nat}{cs:LV}{t:TypeId}(h:Row w g cs t):w.shape? g=some (t,cs.length):=by simp [World.shape?,show w.heap[g]? =_ from h]
def G6{w:World}{b:Nat}{p:Option Addr}{v:Value}(h:Row w b [.pointer p,v] 112)(hp:p=none\/p=aB b):
  ae 117 #[b] w λe w'=>e=pH/\Row w' b [b,v] 112/\Mod (λi=>i=b) w w'/\w'.heap.size=w.heap.size:=by
 have hc:w.cell? ⟨b,0,none⟩=some (.pointer p):=by have:=h.ld 0;simpa [Vc.ld] using this
 have hf:w.frozen? ⟨b,0,none⟩=false:=oP h _;obtain ⟨j,hj,hjs⟩:=wJ.1 ai9;have hsh:=abb h;have c1:=Lib.run_to_unsafe (P:=Tryz.prog) (w:=w) (src:=110) (dst:=230) ⟨b,0,none⟩ Tryz.underlying110 Tryz.underlying230 hj (by rw [hjs];decide) hsh bo;have c2:(callFunc 180 #[b]).run Tryz.prog w=_:=run_callFunc_extern Tryz.func180 (by kernel_rfl) (by kernel_rfl) (by kernel_rfl) (e:=Extern.AbiNoEscape.same) (by kernel_rfl) _ w;have c3:=Lib.run_from_unsafe (P:=Tryz.prog) (w:=w) (src:=230) (dst:=110) ⟨b,0,none⟩ Tryz.underlying230 Tryz.underlying110 hj hsh aja;have gy:w.setCell ⟨b,0,none⟩ (.pointer (aB b))=w.setRow b #[b,v]:=by have h2:=h.bC (o:=0) (vs:=[b]) bo (λu hu=>by simp at hu;subst hu;rfl);exact h2
 go_enter Tryz.func117,Tryz.ntmps117;refine wp_seq (wp_region ?_);simp [wpOps,go_sem,Act.put,Act.eval,Exit.then,Oper.wp,Oper.upon,hc]
 repeat refine Or.inl ?_
 rcases hp with rfl|rfl
 ·refine wp_cond_true (by simp [Act.eval]) ?_;refine wp_region ?_;simp [wpOps,go_sem,Act.put,Act.eval,Exit.then,Oper.wp,Oper.upon,c1,c2,c3,Lib.run_noEscape,hc,hf,storeCells]
  repeat refine Or.inl ?_
  go_end0;refine ⟨rfl,?_⟩;rw [gy];exact ⟨h.set [_,_],iB _ _ _,bo⟩
 ·refine wp_cond_false (by simp [Act.eval]) ?_;refine wp_seq (wp_region ?_);simp [wpOps,go_sem,Act.put,Act.eval,Exit.then,Oper.wp,Oper.upon,hc]
  repeat refine Or.inl ?_
  have cn:(binOp .neq 110 (.pointer (aB b)) (.pointer (aB b))).run Tryz.prog w=.ok (.bool false) w:=by
   have he:(Op.equal 110 (.pointer (aB b)) (.pointer (aB b))).run Tryz.prog w=.ok true w:=by unfold Op.equal Op.maxDepth;rw [show (10000:Nat)=9999+1 from rfl,Op.equalIn,Sem.run_bind,aA,Tryz.underlying110];simp [sameAddr,fK,go_sem]
   simp [binOp,run_underlying Tryz.underlying110,go_sem];rw [he];rfl
  simp [cn]
  repeat refine Or.inl ?_
  refine wp_cond_false (by simp [Act.eval]) ?_;refine wp_skip ?_;go_end0;exact ⟨rfl,h,Mod.refl _ _,rfl⟩
def Q3{w:World}{B b:Nat}{p:Option Addr}{v:Value}{bs:LV}(hp:p=none\/p=aB b)(hr:Row w b [.pointer p,v] 112)(lM:w.ownsRow B 5 1 v bs.length bs)(fA:v.ownBlock≠some b):
  ae 117 #[b] w λe w'=>e=pH/\Row w' b [b,v] 112/\w'.ownsRow B 5 1 v bs.length bs/\Mod (λi=>i=b) w w'/\w'.heap.size=w.heap.size:=by
 refine (G6 hr hp).mono ?_;rintro e w' ⟨rfl,hr',hm,hs⟩;refine ⟨rfl,hr',?_,hm,hs⟩;obtain ⟨h1,h2⟩:=lM;refine ⟨h1,h2.imp id ?_⟩;rintro ⟨g,cap,cur,rfl,q1,q2,q3⟩;refine ⟨g,cap,cur,rfl,q1,?_,q3⟩;rw [hm.same g (oV.1 q2).1 (λe=>fA (by rw [e];rfl))];exact q2
def G8{P:Program}(w:World)(base:Nat)(t u ty e:TypeId)(i:TypeInfo)(ht:P.underlying t=some (.slice e))(hu:P.underlying u=some .string)(hi:P.info? e=some i)(hz:i.zero=some (.int .u8 0))
  (hsize:i.size=1)(Wv:i.bytes=1)(v:Value)(n:Nat)(xs:LV)(lM:w.ownsRow base e 1 v n xs)(s:ByteArray)(hbytes:n+s.size<=140737488355328)(hbase:base<=w):
  ∃v' w',(Builtin.append_ #[t,u] ty #[v,.string s]).run P w=.ok v' w'/\w'.ownsRow base e 1 v' (n+s.size) (xs++Lib.strCells s)/\w.grownBy w' v.ownBlock/\(v'.ownBlock=v.ownBlock\/v'.ownBlock=some w.heap.size):=by
 obtain ⟨v',w',hr,h2,h3,h4⟩:=Lib.run_append_own_string w base t u ty e i ht hu hi hz hsize Wv v n xs lM s (by unfold maxLen;omega) hbytes hbase;refine ⟨v',w',hr,h2,h3,?_⟩;have hxl:xs.length=n:=by simpa using lM.1
 rcases lM.2 with ⟨rfl,rfl⟩|⟨g,cap,cur,rfl,hbg,hg,Ib,hcm,ti,htake⟩
 ·by_cases hm:s.size=0
  ·rw [h4.2 ⟨rfl,hm⟩];exact .inl rfl
  ·have q:=run_append_nil_string (P:=P) w t u ty e i (.int .u8 0) ht hu hi hz s aa aa (by rw [Wv];omega);rw [q] at hr
   cases hr
   exact .inr rfl
 ·by_cases hroom:n+s.size<=cap
  ·have q:=Lib.run_append_room_string (P:=P) w t u ty e i ht hu hi hsize g n cap cur hg s hroom aa;rw [q] at hr
   cases hr
   exact .inl rfl
  ·have holds:∀j u,xs[j]? =some u->w.cell? ((⟨g,0,none⟩:Addr).add j)=some u:=lM.cells (g:=g) rfl;have q:=Lib.run_append_grow_string (P:=P) w t u ty e i (.int .u8 0) ht hu hi hz ⟨g,0,none⟩ n cap xs (by rw [hsize];simpa using hxl) holds s aa aa (by rw [Wv];exact growslice_fits aa aa);rw [q] at hr
   cases hr
   exact .inr rfl
def Vg{P:Program}(w:World){ops:Array Oper}{rest:List Oper}{o:Oper}{a:Act}{Q:Exit->Act->wPp}(hgd:o.guard=none)(sl x:Operand)(t u:TypeId)
  (ho:o.op=.call {callee:=.builtin .append,args:= #[sl,x],argTypes:= #[t,u]})
  (base:Nat)(e:TypeId)(i:TypeInfo)(ht:P.underlying t=some (.slice e))(hu:P.underlying u=some .string)(hi:P.info? e=some i)(hz:i.zero=some (.int .u8 0))
  (hsize:i.size=1)(Wv:i.bytes=1)(v:Value)(n:Nat)(xs:LV)(hs:a.eval sl=v)(lM:w.ownsRow base e 1 v n xs)(s:ByteArray)(hx:a.eval x=.string s)
  (hbytes:n+s.size<=140737488355328)(hbase:base<=w)
  (h:∀v' w',w'.ownsRow base e 1 v' (n+s.size) (xs++Lib.strCells s)->w.grownBy w' v.ownBlock->(v'.ownBlock=v.ownBlock\/v'.ownBlock=some w.heap.size)->wpList P ops Q rest (a.put o.dst v') w'):wpList P ops Q (o::rest) a w:=by
 refine wpList_plain hgd λK hK=> ?_
 obtain ⟨v',w',hr,h2,h3,h4⟩:=G8 (P:=P) w base t u o.type e i ht hu hi hz hsize Wv v n xs lM s hbytes hbase;unfold Oper.wp execOp;simp only [ho,resolve,invoke,builtin,Sem.run_bind,Sem.run_pure,Result.andThen_ok,List.map_toArray,eL,List.map_nil,hs,hx,hr];exact hK _ _ (h v' w' h2 h3 h4)
def B8{w:World}{B b:Nat}{p:Option Addr}{v:Value}{bs:List Value}(s:ByteArray)(hp:p=none\/p=some ⟨b,0,none⟩)(dh:Row w b [.pointer p,v] 112)(hown0:w.ownsRow B 5 1 v bs.length bs)(hne0:v.ownBlock≠some b)(db:bs.length+s.size<=140737488355328)(hBw:B<=w.heap.size):
  Calls Tryz.prog 62 #[.pointer (some ⟨b,0,none⟩),.string s] w λe w'=>e=.returned (.tuple #[.int .i64 s.size,.nilIface])/\(∃v':Value,Row w' b [.pointer (some ⟨b,0,none⟩),v'] 112/\w'.ownsRow B 5 1 v' (bs++Lib.strCells s).length (bs++Lib.strCells s)/\v'.ownBlock≠some b/\(∀i,v'.ownBlock=some i->v.ownBlock=some i\/w.heap.size<=i))/\Mod (λi=>i=b\/v.ownBlock=some i) w w'/\∀i,i<w.heap.size->i≠b->v.ownBlock≠some i->w'.heap[i]? =w.heap[i]? :=by
 have X:=Tryz.qq;obtain ⟨i0,hi,hz0,hz1,Il⟩:=info_parts X.infoByte;have t72:=Tryz.underlying112;have a72:=Tryz.isAgg112;have z72:=Tryz.sizeOf112;have v72:=Tryz.zeroValue112;have u72:=run_underlying t72;have t70:=Tryz.underlying110;have a70:=Tryz.isAgg110;have z70:=Tryz.sizeOf110;have v70:=Tryz.zeroValue110;have u70:=run_underlying t70;have t37:=Tryz.underlying43;have a37:=Tryz.isAgg43;have z37:=Tryz.sizeOf43;have v37:=Tryz.zeroValue43;have u37:=run_underlying t37;have t3:=Tryz.underlying3;have a3:=Tryz.isAgg3;have z3:=Tryz.sizeOf3;have v3:=Tryz.zeroValue3;have u3:=run_underlying t3;have t9:=Tryz.underlying9;have a9:=Tryz.isAgg9;have z9:=Tryz.sizeOf9;have v9:=Tryz.zeroValue9;have u9:=run_underlying t9;have t5:=Tryz.underlying5;have a5:=Tryz.isAgg5;have z5:=Tryz.sizeOf5;have v5:=Tryz.zeroValue5;have u5:=run_underlying t5;have aGs:∀args w,(callFunc 117 args).run Tryz.prog w=.ok (.enter 117 args) w:=λargs w=>cU Tryz.func117 (by kernel_rfl) rfl args w
 go_enter Tryz.func62,Tryz.ntmps62;go_wp2_with (go_at_call 117;refine (Q3 hp dh hown0 hne0).mono ?_);rintro e w1 ⟨rfl,yx,lM,hm1,fE⟩;have fA:=hne0;have c0:w1.cell? ⟨b,0,none⟩=some (.pointer (some ⟨b,0,none⟩)):=by rw [Lib.cell_of_heap yx];rfl
 have c1:w1.cell? ⟨b,1,none⟩=some v:=by rw [Lib.cell_of_heap yx];rfl
 go_wp2_with (at_builtin;refine Vg _ rfl _ _ 43 9 rfl B 5 i0 Tryz.underlying43 Tryz.underlying9 hi hz0 hz1 Il _ _ _ rfl lM s rfl ?c4 ?c5 ?_)
 case c4=>omega
 case c5=>omega
 intro v' w2 agG hgrow K0;have fD:b<w1.heap.size:=(Array.getElem?_eq_some_iff.1 yx).1;have lK:w2.heap[b]? =some (.cells #[.pointer (some ⟨b,0,none⟩),v] 112 (0,0)):=by rw [hgrow.block b fD (λe=>fA e.symm)];exact yx
 have d0:w2.cell? ⟨b,0,none⟩=some (.pointer (some ⟨b,0,none⟩)):=by rw [Lib.cell_of_heap lK];rfl
 have d1:w2.cell? ⟨b,1,none⟩=some v:=by rw [Lib.cell_of_heap lK];rfl
 have f1:w2.frozen? ⟨b,1,none⟩=false:=Lib.frozen_of_heap lK 1;obtain ⟨ao,n',cap,rfl⟩:∃ao n' cap,v'=.slice ao n' cap:=by
  rcases agG.2 with ⟨hv,_⟩|⟨g,cap,cur,hv,_⟩
  ·exact ⟨_,_,_,hv⟩
  ·exact ⟨_,_,_,hv⟩
 go_wp2;go_ret2;have jY:Row w2 b [.pointer (some ⟨b,0,none⟩),v] 112:=lK;have oJ:=jY.bC (o:=1) (vs:=[.slice ao n' cap]) (by simp) (λu hu=>by simp at hu;subst hu;rfl);have oJ:w2.setCell ⟨b,1,none⟩ (.slice ao n' cap)=w2.setRow b #[.pointer (some ⟨b,0,none⟩),.slice ao n' cap]:=oJ;rw [oJ];have ms:=iB w2 b #[.pointer (some ⟨b,0,none⟩),.slice ao n' cap];have aW:∀i,i<w.heap.size->i≠b->v.ownBlock≠some i->(w2.setRow b #[.pointer (some ⟨b,0,none⟩),.slice ao n' cap]).heap[i]? =w.heap[i]? :=λi hi hib hvi=>
  (setRow_other _ _ _ _ hib).trans ((hgrow.block i (by omega) (λe=>hvi e.symm)).trans (hm1.same i hi hib))
 have aDc:n'=(bs++Lib.strCells s).length\/True:=.inr trivial;have nb:(Value.slice ao n' cap).ownBlock≠some b:=by
  intro hq;obtain ⟨-,h2⟩:=agG;rcases h2 with ⟨hv,-⟩|⟨g,cap',cur,hv,-,hh,-⟩
  ·cases hv;cases hq
  ·cases hv
   cases hq
   rw [lK] at hh;injection hh with hh;injection hh with _ hh
   cases hh
 refine ⟨rfl,⟨_,jY.set [_,_],?_,nb,λi hi=>K0.elim (λq=> .inl (q▸hi)) (λq=> .inr (by rw [q] at hi;cases hi;omega))⟩,⟨?_,?_,?_,?_,λi hi hn=>aW i hi (λq=>hn (.inl q)) (λq=>hn (.inr q))⟩,aW⟩
 ·have hown2:w2.ownsRow B 5 1 (.slice ao n' cap) (bs++Lib.strCells s).length (bs++Lib.strCells s):=by simpa [Lib.strCells_length] using agG
  obtain ⟨h1,h2⟩:=hown2;refine ⟨h1,h2.imp id ?_⟩;rintro ⟨g,cap',cur,hv,q1,q2,q3⟩;refine ⟨g,cap',cur,hv,q1,?_,q3⟩;rw [setRow_other _ _ _ _ (λe=>nb (by rw [hv,e];rfl))];exact q2
 ·exact hgrow.os.trans hm1.os
 ·exact hgrow.tape.trans hm1.tape
 ·exact hgrow.output.trans hm1.output
 ·have:=hgrow.size;simp;omega
structure SH(w0:World)(F0:Nat->Prop)(w:World)(sh g s o t:Nat)(M:Sm)(occ:Value)(L:lCs)(F:Nat->Prop):Prop where
 e:EF F w g s o t M occ L
 r:Iv w sh g
 n:¬F sh
 m:Mod F0 w0 w
 f:∀i,F i->F0 i\/w0.heap.size<=i
def SH.put{w0 u u':World}{F0 F:Nat->Prop}{sh g s o t k:Nat}{M:Sm}{occ:Value}{L:lCs}(h:SH w0 F0 u sh g s o t M occ L F)(hk:¬F k)(hs:sh≠k)(h0:w0.heap.size<=k)(m:Mod (λi=>i=k) u u'):SH w0 F0 u' sh g s o t M occ L F:=
 ⟨h.e.same λi hi=>m.same i (h.e.lt hi) (λq=>hk (q▸hi)),⟨h.r.row.same (m.same sh h.r.row.lt hs)⟩,h.n,h.m.tr m (λi hi=> .inr aa),h.f⟩
def JW(b:Int):(lp b).size<=1000000:=by
 unfold lp;split
 ·exact dU _
 ·rw [dn]
  cases h:nmT[b.toNat]? with
  |none=>exact dU _
  |some x=>
   have hm:=aQ h;have:∀y ∈ nmT,y.size<=10:=by unfold nmT;intro y hy;simp at hy;rcases hy with rfl|hy<;>first|decide|(repeat' (rcases hy with rfl|hy<;>first|decide|skip))<;>(try subst hy)<;>decide
   have:=this x hm;show x.size<=_;omega
def Xr:ByteArray:=ByteArray.mk #[108,111,97,100,32,48,32,48,10,97,116,32,48,32,48,32,48]
def ke:ByteArray:=ByteArray.mk #[108,111,97,100,32,48,32,48]
def lj:ByteArray:=ByteArray.mk #[97,116,32,48,32,48,32,48]
def DZ:ByteArray:=ByteArray.mk #[48]
def U5:cc ke=[ByteArray.mk #[108,111,97,100],DZ,DZ]:=by kernel_rfl
def adN:cc lj=[ByteArray.mk #[97,116],DZ,DZ,DZ]:=by kernel_rfl
def avL:zp [DZ,DZ]=some ((0,0),[]):=by kernel_rfl
def avN:lG [DZ,DZ,DZ]=some ((0,0,0),[]):=by kernel_rfl
def R6{w w':World}{B n:Nat}{v:Value}{xs:LV}(h:w.ownsRow B 5 1 v n xs)(hk:∀i,v.ownBlock=some i->w'.heap[i]? =w.heap[i]?):w'.ownsRow B 5 1 v n xs:=by obtain ⟨h1,h2⟩:=h;refine ⟨h1,h2.imp id ?_⟩;rintro ⟨g,cap,cur,rfl,q1,q2,q3⟩;exact ⟨g,cap,cur,rfl,q1,(hk g rfl).trans q2,q3⟩
def yf{w:World}{B n:Nat}{v:Value}{xs:LV}(h:w.ownsRow B 5 1 v n xs){i:Nat}(hi:v.ownBlock=some i):B<=i/\i<w/\∃cs,w.heap[i]? =some (.cells cs 5 (0,0)):=by
 obtain ⟨-,h2⟩:=h;rcases h2 with ⟨rfl,-⟩|⟨g,cap,cur,rfl,q1,q2,-⟩
 ·cases hi
 ·cases hi
  exact ⟨q1,(oV.1 q2).1,_,q2⟩
def aeK{w:World}{a:Nat}{xs:List ByteArray}(h:Row w a (xs.map Value.string) 9):dB w ⟨aB a,xs.length,xs.length⟩ 1 (xs.map sv):=by
 refine ⟨(aJ _).symm,λq hq=> ?_,λi q hi j v hj=> ?_⟩
 ·obtain ⟨t,-,rfl⟩:=bf.1 hq;rfl
 ·rw [aZ] at hi;obtain ⟨t,ht,rfl⟩:=wJ.1 hi
  cases j with
  |succ j=>simp at hj
  |zero=>
   simp at hj;subst hj;rw [aF,h.ld,aZ];simp [ht]
def ou(L:List ByteArray)(p:Nat):Prop:=p<100/\∃l,L[p]? =some l/\cc l≠ []
open Classical in
noncomputable def gF(L:List ByteArray)(T:Nat->ByteArray):Nat->List UInt8
 |0=> []
 |p+1=>gF L T p++if ou L p then bl (T p)++ [10] else []
def Aq{L:List ByteArray}{T:Nat->ByteArray}{p:Nat}(h:ou L p):gF L T (p+1)=gF L T p++(bl (T p)++ [10]):=by rw [gF,if_pos h]
def Mz{L:List ByteArray}{T:Nat->ByteArray}{p:Nat}(h:¬ou L p):gF L T (p+1)=gF L T p:=by rw [gF,if_neg h,mX]
structure Rst(w:World)(L:List ByteArray)(T:Nat->ByteArray)(I:Nat->Nat->(Nat->Prop)->wPp)(sh ka kb p:Nat)(F:Nat->Prop)(q:Option Addr)(v:Value)(u:World):Prop where
 i:I sh p F u
 f:∀i,F i->w.heap.size<=i
 a:Row u ka (L.map Value.string) 9
 an:¬F ka
 ag:w.heap.size<=ka
 b:Row u kb [.pointer q,v] 112
 bn:¬F kb
 bg:w.heap.size<=kb
 pp:q=none\/q=aB kb
 o:u.ownsRow w 5 1 v (gF L T p).length (Lib.byteCells (gF L T p))
 on:∀i,v.ownBlock=some i->¬F i
 x:Ext w u
 z:(gF L T p).length<=p*1000001
def aeL{w:World}{g:Nat}{cs:LV}{t E:TypeId}{xs:Array Value}(h:Row w g cs t)(h2:w.heap[g]? =some (.cells xs E (0,0))):t=E:=by have h:w.heap[g]? =_:=h;rw [h] at h2;injection h2 with h2;injection h2
def Rst.ob{w:World}{L:List ByteArray}{T:Nat->ByteArray}{I:Nat->Nat->(Nat->Prop)->wPp}{sh a b p:Nat}{F:Nat->Prop}{pp:Option Addr}{v:Value}{u:World}(h:Rst w L T I sh a b p F pp v u):v.ownBlock≠some b/\v.ownBlock≠some a:=by
 refine ⟨λq=> ?_,λq=> ?_⟩
 ·obtain ⟨-,-,cs,hc⟩:=yf h.o q
  cases aeL h.b hc
 ·obtain ⟨-,-,cs,hc⟩:=yf h.o q
  cases aeL h.a hc
def adL{w:World}{m:Int}(hm:w.cell? ⟨0,0,none⟩=some (.int .i64 m))(script:ByteArray)(nE:script.size<4294967281)(L:List ByteArray)(hL:Lib.splitB (ByteArray.mk #[10]) 0 (Lib.countB script (ByteArray.mk #[10])) script=L)(hn:L.length=Lib.countB script (ByteArray.mk #[10])+1)
  (hls:∀l ∈ L,l.size<=4294967296)(hlm:L.length<=1000000)(T:Nat->ByteArray)(I:Nat->Nat->(Nat->Prop)->wPp)
  (fD:∀sh p F u,I sh p F u->∀i,F i->i<u.heap.size)
  (hsame:∀sh p F u u',I sh p F u->(∀i,F i->u'.heap[i]? =u.heap[i]?)->I sh p F u')
  (vw:∀u sh g s o t F,EF F u g s o t (yG 1 9 200000 16) Ug xt->Iv u sh g->¬F sh->∃F',I sh 0 F' u/\∀i,F' i->F i\/i=sh)
  (hskip:∀sh p F u,I sh p F u->¬ou L p->I sh (p+1) F u)
  (hstep:∀sh p F u line,Ext w u->(∀i,F i->w.heap.size<=i)->I sh p F u->L[p]? =some line->p<100->cc line≠ []->ae 14 #[.pointer (aB sh),.string line] u λe u'=>e=Value.string (T p)/\(T p).size<=1000000/\∃F',I sh (p+1) F' u'/\Mod F u u'/\∀i,F' i->F i\/u.heap.size<=i):
  eU 29 #[.string script] w (Value.string ⟨(gF L T L.length).toArray⟩):=by
 apply Z2.vc;refine (Gr w).mono ?_;rintro _ w0 ⟨sh,g,s,o,t,F,rfl,hE,hS,hF,x0,hFw,aHr⟩;refine ⟨_,rfl,?_⟩;intro w2 e2;have x2:Ext w0 w2:=by rw [e2];exact Ext.al _ _
 have z2:=fE e2;have lK:Row w2 w0 [pno,.slice none 0 0] 112:=Row.nw e2;have nG:w2.cell? ⟨0,0,none⟩=some (.int .i64 m):=by have:Vc.ld w (some ⟨0,0,none⟩)=some (.int .i64 m):=hm;exact (x0.tr x2).ld this
 refine (Tryz.strings_Split script (ByteArray.mk #[10]) m w2 nE nG aw).bj λw3 e3=> ?_
 rw [hL] at e3;rw [<-hn];have x3:Ext w2 w3:=by rw [e3];exact Ext.al _ _
 have z3:=fE e3;have Oe:Row w3 w2 (L.map Value.string) 9:=by rw [e3];exact Row.new _ _ _
 have z0:=x0.size;obtain ⟨F0,hI0,hF0⟩:=vw w3 sh g s o t F (hE.ext (x2.tr x3)) ⟨hS.row.ext (x2.tr x3)⟩ hF;have f0:∀i,F0 i->w.heap.size<=i/\i<w0.heap.size:=λi hi=>(hF0 i hi).elim (λq=>⟨hFw i q,hE.lt q⟩) (λq=>by have:=hS.row.lt;omega)
 refine ⟨⟨aB w2.heap.size,L.length,L.length⟩,rfl,x3.heap aa,?_⟩;refine ⟨λn x u=>∃p:Nat,x=(p:Int)/\p+n=L.length/\∃F pp v,Rst w L T I sh w2 w0.heap.size p F pp v u,⟨L.length,0,rfl,aa,F0,none,.slice none 0 0,?_⟩,?_⟩
 ·refine ⟨hI0,λi hi=>(f0 i hi).1,Oe,λq=>by have:=f0 _ q;omega,aa,lK.ext x3,λq=>by have:=f0 _ q;omega,z0,.inl rfl,⟨rfl,.inl ⟨rfl,rfl⟩⟩,λi hi=>(by cases hi),x0.tr (x2.tr x3),dU _⟩
 ·rintro n us x u ⟨p,rfl,hp,F,pp,v,h⟩;have Oh:=h.ob;apply Br.mk<;>intro c
  ·have c:=of_decide_eq_true c;have Ob:p<L.length:=by simpa using c
   obtain ⟨line,hline⟩:∃l,L[p]? =some l:=⟨_,cO Ob⟩;have wk:=nJ (j:=p);have gl:=aeK h.a;refine ⟨gl.j2 aw aa (by simpa using Ob),line,?_,?_⟩
   ·have:=gl.rd p [.string line] (by rw [aZ,hline];rfl) 0 _ rfl;simpa using this
   ·have skip:∀u',Ext u u'->¬ou L p->∃n10,n10<n/\∃q:Nat,(aC ((p:Int)+1))=(q:Int)/\q+n10=L.length/\∃F pp v,Rst w L T I sh w2 w0.heap.size q F pp v u':=by intro u' xu lD;refine ⟨n-1,aa,p+1,wk,aa,F,pp,v,?_⟩;have eo:gF L T (p+1)=gF L T p:=Mz lD;exact ⟨hsame _ _ _ _ _ (hskip _ _ _ _ h.i lD) λi hi=>xu.heap (fD _ _ _ _ h.i i hi),h.f,h.a.ext xu,h.an,h.ag,h.b.ext xu,h.bn,h.bg,h.pp,by rw [eo];exact R6 h.o λi hi=>xu.heap (yf h.o hi).2.1,h.on,h.x.tr xu,by have:=h.z;have e:=congrArg List.length eo;omega⟩
    refine Br.mk (λc1=> ?_) (λc1=>skip u (Ext.bU _) λq=>by have:=q.1;simp at c1;omega);have agw:p<100:=by have:=of_decide_eq_true c1;omega
    refine (HC line u (hls _ (aQ hline))).mono ?_;rintro _ u1 ⟨sl,rfl,hrw,-,-,x1⟩;refine ⟨sl,rfl,?_⟩;have tL:sl.n=(cc line).length:=by rw [hrw.n,aJ]
    refine Br.mk (λc2=> ?_) (λc2=>skip u1 x1 λq=> ?_)
    ·have fA:cc line≠ []:=λq=>by rw [q] at tL;simp [tL] at c2
     have htl:ou L p:=⟨agw,line,hline,fA⟩;have hFs:∀i,F i->i<u.heap.size:=fD _ _ _ _ h.i;refine (hstep sh p F u1 line (h.x.tr x1) h.f (hsame _ _ _ _ _ h.i λi hi=>x1.heap (hFs i hi)) hline agw fA).mono ?_;rintro _ u2 ⟨rfl,hsT,F',hI',hm',dP⟩;have z1:=x1.size;have z2':=hm'.size;have Yg:=h.b.lt;have ha1:=h.a.lt;have kb:Row u2 w0 [.pointer pp,v] 112:=(h.b.ext x1).same (hm'.same _ aa h.bn);have ka:Row u2 w2 (L.map Value.string) 9:=(h.a.ext x1).same (hm'.same _ aa h.an);have ko:u2.ownsRow w 5 1 v (gF L T p).length (Lib.byteCells (gF L T p)):=R6 h.o λi hi=>(hm'.same _ (by have:=(yf h.o hi).2.1;omega) (h.on i hi)).trans (x1.heap (yf h.o hi).2.1)
     have nF':∀i,¬F i->i<u1.heap.size->¬F' i:=λi hn hi q=>(dP i q).elim hn (λq=>by omega)
     refine ⟨T p,rfl,?_,?_⟩
     ·have e1:(ByteArray.mk #[10]).size=1:=rfl;have e2:IntKind.i64.max=9223372036854775807:=by decide
      rw [e1,e2];omega
     have hzs:(T p++ByteArray.mk #[10]).size=(T p).size+1:=by rw [ByteArray.size_append];rfl
     have hz:=h.z;refine (B8 (B:=w.heap.size) (bs:=Lib.byteCells (gF L T p)) (T p++ByteArray.mk #[10]) h.pp kb (by rw [Lib.byteCells_length];exact ko) Oh.1 (by rw [Lib.byteCells_length];omega) (by have:=h.x.size;omega)).mono ?_;rintro _ u3 ⟨rfl,⟨v',kb3,ko3,hne3,hfr3⟩,hm3,-⟩;have eo:gF L T (p+1)=gF L T p++bl (T p++ByteArray.mk #[10]):=by rw [Aq htl,Bw]
     have ecells:Lib.byteCells (gF L T p)++Lib.strCells (T p++ByteArray.mk #[10])=Lib.byteCells (gF L T (p+1)):=by rw [eo,Lib.byteCells_append];rfl
     rw [ecells,Lib.byteCells_length] at ko3;have hF'lt:∀i,F' i->i<u2.heap.size:=fD _ _ _ _ hI';have aty:¬F' w0:=nF' _ h.bn aa;have atz:∀i,v.ownBlock=some i->¬F' i:=λi hi=>nF' i (h.on i hi) (by have:=(yf h.o hi).2.1;omega)
     have aAr:¬F' w2:=nF' _ h.an aa;refine ⟨_,_,rfl,n-1,aa,p+1,wk,aa,F',aB w0.heap.size,v',hsame _ _ _ _ _ hI' λi hi=>hm3.same i (hF'lt i hi) (λq=>q.elim (λq=>aty (q▸hi)) (λq=>atz i q hi)),λi hi=>(dP i hi).elim (h.f i) (λq=>by have:=h.x.size;omega),ka.same (hm3.same _ aa (λq=>q.elim aa (λq=>Oh.2 q))),aAr,h.ag,kb3,aty,h.bg,.inr rfl,ko3,λi hi=>(hfr3 i hi).elim (atz i) (λq hF=>by have:=hF'lt i hF;omega),?_,?_⟩
     ·refine hm3.ext (hm'.ext (h.x.tr x1) λi hi=>h.f i hi) λi hi=> ?_
      rcases hi with rfl|hi
      ·exact h.bg
      ·exact (yf h.o hi).1
     ·have e:=congrArg List.length eo;rw [bY,eM,hzs] at e;omega
    ·obtain ⟨-,l,hl,fA⟩:=q;rw [hline] at hl
     cases hl
     refine fA (tj.1 ?_);have:¬(sl.n:Int)>0:=by simpa using c2
     omega
  ·have c:=of_decide_eq_false c;have hpn:p=L.length:=by
    have:¬(p<L.length):=by simpa using c
    omega
   subst hpn;have hB:Lib.IsBuilder 112 5 w.heap.size w0.heap.size (Lib.byteCells (gF L T L.length)) u:=by
    have ho:u.ownsRow w 5 1 v (Lib.byteCells (gF L T L.length)).length (Lib.byteCells (gF L T L.length)):=by rw [Lib.byteCells_length];exact h.o
    rcases h.pp with q|q
    ·exact .inl ⟨h.bg,v,by have:=h.b;rw [q] at this;exact this,ho,Oh.1⟩
    ·exact .inr ⟨h.bg,v,by have:=h.b;rw [q] at this;exact this,ho,Oh.1⟩
   refine (Tryz.Builder_String_any _ _ _ u hB h.x.size).bj λeQ b19=> ?_
   exact ⟨_,rfl,rfl,h.x.trans b19⟩
def aml(aj limit room:Int){l:List En}(hl:(l.length:Int)<limit){p:Po}(hp:EP p)(hn:∀e ∈ l,e.1≠p):Bh aj limit (T6 room) l p=((T6 room,l++ [(p,made aj p,false,0)]),0):=by
 have hr:fZ limit (T6 room) l=((T6 room,l),0):=by unfold fZ;rw [if_pos hl]
 have hd:(Go.cC.qd (T6 room) (Bi p)).1=[]:=by unfold T6;rw [aib]
 have hf:bL (λe:En=>e.1==p) l= -1:=mZ λy hy=>by simpa using hn y hy
 unfold Bh;rw [if_neg (by simpa using hp),if_neg (by rw [hf];decide),hr,if_neg bo];simp only [hd,Vk]
abbrev M1r:Sm:={yG 1 9 200000 16 with T:=(Bh 1 (yG 1 9 200000 16).cap (yG 1 9 200000 16).T.1 (yG 1 9 200000 16).T.2 (0,0)).1}
def akA:Bh 1 9 (T6 200000) [] (0,0)=((T6 200000,[((0,0),made 1 (0,0),false,0)]),0):=aml 1 9 200000 (l:=[]) aw aw bo
def ad9(aj:Int)(M:List Int)(hM:M=made aj (0,0)):jm [(((0,0),M,false,0):En)] (0,0,0)=1:=by
 have h0:M[0]? =some 1:=by rw [hM,Q6 aj (0,0) aw];unfold TI;rw [if_neg aw,if_pos (.inl aw)]
 show ZQ (0,0) M (0,0,0)=1;have hk:Q7 (0,0) (0,0,0)=true:=by decide
 unfold ZQ;rw [hk,if_pos rfl];show atC M 0=1;unfold atC;rw [if_neg aw,dn];show (M[0]?).getD (-1)=1;rw [h0];rfl
def avM:(Bh 1 (yG 1 9 200000 16).cap (yG 1 9 200000 16).T.1 (yG 1 9 200000 16).T.2 (0,0)).2=0:=by
 have e:(yG 1 9 200000 16).cap=9:=by decide
 rw [e];show (Bh 1 9 (T6 200000) [] (0,0)).2=0;rw [akA]
def avO:jm M1r.T.2 (0,0,0)=1:=by
 have e:(yG 1 9 200000 16).cap=9:=by decide
 show jm (Bh 1 (yG 1 9 200000 16).cap (T6 200000) [] (0,0)).1.2 (0,0,0)=1;rw [e,akA];exact ad9 1 _ rfl
def aqz:ByteArray:=ByteArray.mk #[111,107,10,115,116,111,110,101,10]
def T0(p:Nat):ByteArray:=if p=0 then ByteArray.mk #[111,107] else tw 1
def aea:tw 1=ByteArray.mk #[115,116,111,110,101]:=by kernel_rfl
def ZA:gF [ke,lj] T0 2=bl aqz:=by have h0:ou [ke,lj] 0:=⟨aw,ke,rfl,by rw [U5];exact List.cons_ne_nil _ _⟩;have h1:ou [ke,lj] 1:=⟨aw,lj,rfl,by rw [adN];exact List.cons_ne_nil _ _⟩;rw [Aq h1,Aq h0];show []++(bl (ByteArray.mk #[111,107])++ [10])++(bl (tw 1)++ [10])=_;rw [aea];rfl
open Go.fi Go.fL Go.iZ
def Cw(s:ByteArray)(w:World):eU 237 #[.string s] w (Value.tuple #[.int .i64 (MM s).1,.bool (MM s).2]):=by
 apply Q5.vc;refine (rk w).bj λw0 x0=> ?_
 refine ⟨_,_,_,_,_,_,_,_,_,_,_,_,_,_,_,_,rfl,?_⟩;refine ⟨λn x wr=>∃k:Nat,x=k/\k+n=16/\Ext w wr/\∀j:Nat,j<k->D6 s j=false,⟨16,0,rfl,rfl,x0,λj hj=>by omega⟩,?_⟩;rintro n us x wr ⟨k,rfl,hk,xr,hn⟩;apply Br.mk<;>intro h<;>simp at h
 ·have hw:=aK (n:=(k:Int)+1) inO;have next:D6 s k=false->∃n22,n22<n/\∃k_1:Nat,aC ((k:Int)+1)=↑k_1/\k_1+n22=16/\Ext w wr/\∀j:Nat,j<k_1->D6 s ↑j=false:=by
   intro hf;refine ⟨n-1,aa,k+1,aa,aa,xr,λj hj=> ?_⟩;rcases iW j k with fD|OK
   ·exact hn j fD
   ·obtain rfl:j=k:=by omega
    exact hf
  refine ⟨⟨aa,h⟩,_,ad4 k aa h,Br.mk (λh1=>Br.mk (λh2=> ?_) (λh2=> ?_)) (λh1=> ?_)⟩
  ·have hm:cR k=true:=by rw [GV];intro e;rw [eY] at h1;rw [e] at h1;simp [<-h1] at h2;exact absurd ((eY ⟨#[]⟩ ⟨#[]⟩).2 rfl) (by simp [h2])
   rw [ad5 aa hn (by unfold D6;rw [hm,h1];rfl)];exact ⟨rfl,xr⟩
  ·refine next ?_;have V3:ej s ⟨#[]⟩=true:=by simpa using h2
   rw [eY] at h1 V3;have:cR k=false:=by
    have:=GV k
    cases hm:cR k<;>simp_all
   unfold D6;rw [this];rfl
  ·exact next (by unfold D6;rw [h1];simp)
 ·rw [ZT (λj hj=>hn j aa)];exact ⟨rfl,xr⟩
def Zn(ws:List ByteArray):Option (Int × List ByteArray):=match C6 ws with|none=>none|some (t,r)=>if (MM t).2 then some ((MM t).1,r) else none
def adA{w:World}{B g:Nat}{ws:List ByteArray}(h:AG w B g ws):ae 168 #[g] w λe w'=>PR w B g (Zn ws) (.int .i64 ·) e w':=by
 apply Cj.vc;refine (vJ h).mono ?_;rintro e w0 ⟨m0,hp⟩;unfold Zn
 cases hw:C6 ws with
 |none=>
  rw [hw] at hp;subst hp;exact ⟨m0,rfl⟩
 |some x=>
  obtain ⟨t,r⟩:=x;rw [hw] at hp;obtain ⟨rfl,ha⟩:=hp;refine ⟨t,rfl,(Cw t w0).bj λw2 x2=> ?_⟩;refine ⟨_,_,rfl,(ml _ w2).mono ?_⟩;rintro e w5 ⟨he,rfl⟩;have m5:Mod (λi=>i=g) w w5:=m0.trans (Mod.aq x2);simp only
  cases hb:(MM t).2 with
  |true=>
   rw [hb] at he;simp only [if_true] at he;subst he;exact ⟨rfl,m5,rfl,ha.ext x2⟩
  |false=>
   rw [hb] at he;simp only [Bool.false_eq_true,if_false] at he;subst he;exact ⟨m5,rfl⟩
def acT{u v:World}{xs:LV}{txs:List ByteArray}(hv:v=u.alloc (.cells xs.toArray 20))(hl:txs.length=xs.length)(hn:xs.length<=1000)(hit:∀(i:Nat) x t,xs[i]? =some x->txs[i]? =some t->xy v x t)(nE:∀t ∈ txs,t.size<=1000000):
  eU 154 #[.slice (aB u.heap.size) xs.length xs.length] v (Value.string (eG txs)):=by
 have hr9:Row v u.heap.size xs 20:=by rw [hv];exact Row.new _ _ _
 have gl:dB v ⟨aB u.heap.size,xs.length,xs.length⟩ 1 (xs.map λx=> [x]):=by
  refine ⟨(aJ _).symm,λq hq=> ?_,λi q hi j v hj=> ?_⟩
  ·obtain ⟨t,-,rfl⟩:=bf.1 hq;rfl
  ·rw [aZ] at hi;obtain ⟨t,ht,rfl⟩:=wJ.1 hi
   cases j with
   |succ j=>simp at hj
   |zero=>
    simp at hj;subst hj;rw [aF,hr9.ld];simp [ht]
 refine qX (w:=v) (sl:=⟨aB u.heap.size,xs.length,xs.length⟩) (xs:=xs) (outs:=txs) gl hl (c8 hn aw) hit ?_;have key:∀l:List ByteArray,(∀t ∈ l,t.size<=1000000)->(Lib.join (l.map (·.data.toList)) [32]).length<=l.length*1000001:=by
  intro l
  induction l with
  |nil=>intro _;exact dU _
  |cons t l ih=>
   intro h;have i1:=ih λx hx=>h x (qY _ hx)
   have i2:t.data.toList.length<=1000000:=by have:=h t (List.mem_cons_self ..);have e:=eM t;unfold bl at e;omega
   cases l with
   |nil=>simp [Lib.join,List.intercalate] at i2 ⊢;omega
   |cons t2 l2=>
    simp only [eL,Lib.join,List.intercalate,List.intersperse,kZ,bY,cD,kX] at i1 i2 ⊢;omega
 have hk:=key txs nE;omega
noncomputable def aiu(s:Stepped):Frame:=
 match s with
 | .next m=>match m.gs[0]? with
   |some g=>g.frame
   |none=>default
 |_=>default
def ij{P:Program}{f:FuncId}{args:Array Value}{w w':World}{v:Value}{fn:Func}(n:Nat)(fr:List Frame->Frame)(h5:P.funcs[f]? =some fn)(h:∀cs,runN P n (lone (Frame.enter P f args .normal) cs w)=.next (lone (fr cs) cs w'):=by intro;kernel_rfl)(h1:∀cs,(fr cs).fn=f:=by intro;kernel_rfl)(h2:∀cs,(fr cs).mode=.returning:=by intro;kernel_rfl)(h3:∀cs,(fr cs).defers=[]:=by intro;kernel_rfl)(h4:∀cs,(fr cs).kind=.normal:=by intro;kernel_rfl)(h6:∀cs,(results fn (fr cs).tmps).run P w'=.ok v w':=by intro;kernel_rfl):
  Calls P f args w λe u=>e=v/\u=w':=λcs=>
 ⟨.returned v,w',fr cs,⟨rfl,rfl⟩,⟨n,h cs⟩,h1 cs,h2 cs,h3 cs,h4 cs,fn,by rw [h1 cs];exact h5,h6 cs⟩
noncomputable abbrev Ca(x:Int)(w:World)(n:Nat)(cs:List Frame):Frame:=aiu (Go.runN Tryz.prog n (lone (Frame.enter Tryz.prog 225 #[x] .normal) cs w))
def iT(x:Int):ByteArray:=if x=0 then ByteArray.mk #[111,107] else ByteArray.mk (#[101,114,114,111,114,32]++(if x<10 then #[UInt8.ofNat (48+x.toNat)] else #[49,UInt8.ofNat (38+x.toNat)]))
def avQ(w:World):kT 225 #[(1:Int)] w (Value.string (iT 1)):=
 ij 51 (Ca 1 w 51) Tryz.func225
def avR(w:World):kT 225 #[(2:Int)] w (Value.string (iT 2)):=
 ij 51 (Ca 2 w 51) Tryz.func225
def avS(w:World):kT 225 #[(3:Int)] w (Value.string (iT 3)):=
 ij 51 (Ca 3 w 51) Tryz.func225
def avT(w:World):kT 225 #[(4:Int)] w (Value.string (iT 4)):=
 ij 51 (Ca 4 w 51) Tryz.func225
def avU(w:World):kT 225 #[(5:Int)] w (Value.string (iT 5)):=
 ij 51 (Ca 5 w 51) Tryz.func225
def avV(w:World):kT 225 #[(6:Int)] w (Value.string (iT 6)):=
 ij 51 (Ca 6 w 51) Tryz.func225
def avW(w:World):kT 225 #[(7:Int)] w (Value.string (iT 7)):=
 ij 51 (Ca 7 w 51) Tryz.func225
def avX(w:World):kT 225 #[(8:Int)] w (Value.string (iT 8)):=
 ij 51 (Ca 8 w 51) Tryz.func225
def avY(w:World):kT 225 #[(9:Int)] w (Value.string (iT 9)):=
 ij 51 (Ca 9 w 51) Tryz.func225
def aqD(w:World):kT 225 #[(10:Int)] w (Value.string (iT 10)):=
 ij 78 (Ca 10 w 78) Tryz.func225
def aqE(w:World):kT 225 #[(11:Int)] w (Value.string (iT 11)):=
 ij 78 (Ca 11 w 78) Tryz.func225
def aqF(w:World):kT 225 #[(12:Int)] w (Value.string (iT 12)):=
 ij 78 (Ca 12 w 78) Tryz.func225
def aqG(w:World):kT 225 #[(13:Int)] w (Value.string (iT 13)):=
 ij 78 (Ca 13 w 78) Tryz.func225
def Z1{x:Int}(h:0<x/\x<14)(w:World):kT 225 #[x] w (Value.string (iT x)):=by
 have:x=1\/x=2\/x=3\/x=4\/x=5\/x=6\/x=7\/x=8\/x=9\/x=10\/x=11\/x=12\/x=13:=by omega
 rcases this with rfl|rfl|rfl|rfl|rfl|rfl|rfl|rfl|rfl|rfl|rfl|rfl|rfl
 ·exact avQ w
 ·exact avR w
 ·exact avS w
 ·exact avT w
 ·exact avU w
 ·exact avV w
 ·exact avW w
 ·exact avX w
 ·exact avY w
 ·exact aqD w
 ·exact aqE w
 ·exact aqF w
 ·exact aqG w
def fq(x:Int):(iT x).size<=1000000:=by
 unfold iT;split
 ·decide
 ·split<;>simp [ByteArray.size]
def ql{x:Int}(h:0<=x/\x<14)(w:World):xy w (.iface 168 (x)) (iT x):=by
 by_cases h0:x=0
 ·rw [h0];exact .ok
 ·refine .e x _ h0 λu _=>(Z1 (x:=x) aa u).gK ?_
  exact ⟨rfl,Ext.bU _⟩
def JI{F:Nat->Prop}{w:World}{sh g s o t:Nat}{M:Sm}{occ:Value}{L:lCs}(h:EF F w g s o t M occ L)(hs:Iv w sh g)(line:ByteArray)(hl:line.size<=4294967296){c:ByteArray}{r:List ByteArray}(hw:cc line=c::r)
  (i f:Nat)(hi:uM[i]? =some c)(hv:∀c1 c2 c3 c4 c5,(Ef sh [c1,c2,c3,c4,c5])[i]? =some (kD f sh))(hen:∀args w,(callFunc f args).run Tryz.prog w=.ok (.enter f args) w)
  (Q:ByteArray->wPp)(gy:∀tx u u',Q tx u->Mod (λi=>i=w.heap.size) u u'->Q tx u')
  (hcall:∀(u:World)(B ga:Nat),Ext w u->AG u B ga r->w.heap.size<ga->ae f #[sh,ga] u λe u'=>u'.heap[w.heap.size]? =u.heap[w.heap.size]?/\((∃tx,e=Value.string tx/\Q tx u')\/(e=H8/\Q (ByteArray.mk #[98,97,100]) u'))):
  ae 14 #[sh,.string line] w λe w'=>∃tx,e=Value.string tx/\Q tx w':=by
 refine Cu line hl h hs Q gy ?_ ?_ ?_
 ·intro h1;rw [hw] at h1
  cases h1
 ·intro c' r' h1 h2;rw [hw] at h1
  cases h1
  exact absurd (aQ hi) h2
 ·intro c' r' i' h1 hi' u B ga c1 c2 c3 c4 c5 xu ON hga r1 r2 r3 r4 r5 hcB v hv';rw [hw] at h1
  cases h1
  have hi1:i'=i:=(List.getElem?_inj (i:=i') (j:=i) (cP.1 hi').1 se).1 (hi'.trans hi.symm);subst hi1;rw [hv] at hv'
  cases hv'
  exact ⟨f,#[sh],#[],⟨rfl,hen⟩,hcall u B ga xu ON hga⟩
def XD(x:Value)(t:TypeId):One [Value.iface t x]:=by intro v hv;simp at hv;subst hv;rfl
def aaf{n:Nat}(h:n<100)(w:World):xy w (.iface 3 (.int .i64 n)) ⟨(Lib.decDigits n).toArray⟩:=
 .n _ _ λu _=>(Tryz.strconv_Itoa_small n h u).mono λe u' hh=>⟨hh.1,hh.2▸Ext.bU _⟩
def Xc(L:lCs):ByteArray:=eG ((br L).map λn=>⟨(Lib.decDigits n.toNat).toArray⟩)
def xC{L:lCs}{n:Int}(h:n ∈ br L):0<=n/\n<16:=by unfold br at h;obtain ⟨i,hi,rfl⟩:=bf.1 h;have:=(j3.1 hi).1;rw [tA] at this;omega
def ac5(L:lCs):(br L).length<=16:=by unfold br;rw [aJ];refine c8 (zw _ _) ?_;rw [Gs];exact ak _
def aag{n:Nat}(h:n<100):(ByteArray.mk (Lib.decDigits n).toArray).size<=1000000:=by
 have:∀n:Fin 100,(ByteArray.mk (Lib.decDigits n.val).toArray).size<=1000000:=by decide+kernel
 exact this ⟨n,h⟩
def P2{F:Nat->Prop}{w:World}{g s o t sh B ga:Nat}{M:Sm}{occ:Value}{L:lCs}(h:EF F w g s o t M occ L)(hs:Iv w sh g)(ha:AG w B ga []):
  Calls Tryz.prog 107 #[.pointer (some ⟨sh,0,none⟩),.pointer (some ⟨ga,0,none⟩)] w λe w'=>e=.returned (.string (Xc L))/\Ext w w':=by
 apply q9.vc;refine (rj ha).mono ?_;rintro e w0 ⟨e0,he⟩;rw [e0];rw [if_pos rfl] at he;subst he;refine ⟨rfl,some ⟨g,0,none⟩,by rw [aF,hs.row.ld];rfl,(Km h).mono ?_⟩;rintro _ w2 ⟨s3,rfl,ho,x2⟩;refine ⟨s3,rfl,?_⟩;have gl:=ho.rd (by decide);have hn:s3.n=(br L).length:=by rw [gl.n,List.length_map]
 have hln:=ac5 L;refine ⟨λn x sl v=>∃p:Nat,x=(p:Int)/\p+n=s3.n/\ar w2.heap.size 20 1 v sl (((br L).take p).map λn=> [.iface 3 (.int .i64 n)])/\Ext w2 v,⟨s3.n,0,rfl,aa,ar.nil,Ext.bU _⟩,?_⟩;rintro n1 us x sl v ⟨p,rfl,hp,hos,xv⟩;have Ob:((br L).take p).length=p:=by rw [List.length_take];omega
 have h4:sl.n=p:=by rw [(ar.rd hos (by decide)).n,List.length_map,Ob]
 refine Br.mk (λc=> ?_) (λc=> ?_)
 ·have c:=of_decide_eq_true c;have hpx:p<(br L).length:=by omega
  obtain ⟨y,hy⟩:∃y,(br L)[p]? =some y:=⟨_,List.getElem?_eq_getElem hpx⟩;have pO:ld v (ab s3.a (((p:Nat):Int).toNat*1))=some (.int .i64 y):=by have:=xv.ld (gl.rd p [.int .i64 y] (by rw [List.getElem?_map,hy];rfl) 0 _ rfl);simpa using this
  refine ⟨gl.j2 (by decide) (by omega) (by omega),y,pO,λbO uv=> ?_⟩;subst uv;obtain ⟨a1,a2⟩:=hos.kU (bytes:=16) (news:=[.iface 3 (.int .i64 y)]) (.cells #[.iface 3 (.int .i64 y)] 20) xv.size rfl (XD _ _) (by omega) (by omega);refine ⟨a1,λkO cu bq=> ?_⟩;obtain ⟨b1,b2,b3,b4,-⟩:=a2 kO cu bq;refine ⟨b1,n1-1,aa,p+1,by rw [wI];omega,aa,?_,Below.trans xv b4⟩;rw [List.take_add_one,hy,List.map_append];exact b2
 ·have c:=of_decide_eq_false c;have hpe:p=(br L).length:=by omega
  rw [List.take_of_length_le (by omega)] at hos;have hrs:=ar.rd hos (by decide);have hrs:dB v ⟨sl.a,sl.n,sl.c⟩ 1 (((br L).map λn=>Value.iface 3 (.int .i64 n)).map λx=> [x]):=by rw [List.map_map];exact hrs
  have hj:∀l:List Int,(∀n ∈ l,0<=n/\n<16)->(Lib.join ((l.map λn=>ByteArray.mk (Lib.decDigits n.toNat).toArray).map (·.data.toList)) [32]).length<=l.length*1000001:=by
   intro l
   induction l with
   |nil=>intro _;exact Nat.zero_le _
   |cons a l ih=>
    intro hl;have i1:=ih λx hx=>hl x (List.mem_cons_of_mem _ hx)
    have i2:=aag (n:=a.toNat) (by have:=hl a (List.mem_cons_self ..);omega);have i2:(Lib.decDigits a.toNat).length<=1000000:=i2
    cases l with
    |nil=>simp [Lib.join,List.intercalate] at i2 ⊢;omega
    |cons t2 l2=>
     simp only [List.map_cons,Lib.join,List.intercalate,List.intersperse,List.flatten_cons,List.length_append,List.length_cons,List.length_nil] at i1 i2 ⊢;omega
  refine (qX (w:=v) (sl:=⟨sl.a,sl.n,sl.c⟩) (xs:=(br L).map λn=>Value.iface 3 (.int .i64 n)) (outs:=(br L).map λn=>⟨(Lib.decDigits n.toNat).toArray⟩) hrs (by rw [List.length_map,List.length_map]) (by rw [List.length_map];omega) ?_ ?_).mono ?_
  ·intro i y tt hy ht;rw [List.getElem?_map] at hy ht;obtain ⟨k,hk,rfl⟩:=Option.map_eq_some_iff.1 hy;rw [hk] at ht
   cases ht
   have EE:=xC (List.mem_of_getElem? hk);have:=aaf (n:=k.toNat) (by omega) v;rw [show ((k.toNat:Nat):Int)=k by omega] at this;exact this
  ·have:=hj (br L) λn hn=>xC hn
   omega
  ·rintro _ dj ⟨rfl,dm⟩;exact ⟨_,rfl,rfl,x2.tr (xv.tr dm)⟩
def Hy:∀l:List ByteArray,(∀t ∈ l,t.size<=1000000)->(Lib.join (l.map (·.data.toList)) [32]).length<=l.length*1000001
 | [],_=>dU _
 |t::l,h=>by
  have i1:=Hy l λx hx=>h x (qY _ hx)
  have i2:t.data.toList.length<=1000000:=by have:=h t (List.mem_cons_self ..);have e:=eM t;unfold bl at e;omega
  cases l with
  |nil=>simp [Lib.join,List.intercalate] at i2 ⊢;omega
  |cons t2 l2=>
   simp only [eL,Lib.join,List.intercalate,List.intersperse,kZ,bY,cD,kX] at i1 i2 ⊢;omega
def aax{w:World}{sl:Sl}{xs:LV}{txs:List ByteArray}(h:dB w sl 1 (xs.map λx=> [x]))(hl:txs.length=xs.length)(hn:xs.length<=1000)(hit:∀(i:Nat) x t,xs[i]? =some x->txs[i]? =some t->xy w x t)(nE:∀t ∈ txs,t.size<=1000000):
  eU 154 #[sl] w (Value.string (eG txs)):=by
 refine qX (w:=w) (sl:=sl) (xs:=xs) (outs:=txs) h hl (c8 hn aw) hit ?_;have hk:=Hy txs nE;omega
def vp(l:List En):LV:=(l.map λe=> [Value.iface 3 (.int .i64 e.1.1),Value.iface 3 (.int .i64 e.1.2)]).flatten
def wM(it:Int->ByteArray)(l:List En):List ByteArray:=(l.map λe=> [it e.1.1,it e.1.2]).flatten
def Hz(l:List En):(vp l).length=2*l.length:=by
 unfold vp
 induction l with
 |nil=>rfl
 |cons a l ih=>rw [eL,kZ,bY,ih];simp;omega
def JY(it:Int->ByteArray)(l:List En):(wM it l).length=2*l.length:=by
 unfold wM
 induction l with
 |nil=>rfl
 |cons a l ih=>rw [eL,kZ,bY,ih];simp;omega
def RX{w:World}{it:Int->ByteArray}:∀(l:List En),(∀e ∈ l,xy w (.iface 3 (.int .i64 e.1.1)) (it e.1.1)/\xy w (.iface 3 (.int .i64 e.1.2)) (it e.1.2))->∀(i:Nat) x t,(vp l)[i]? =some x->(wM it l)[i]? =some t->xy w x t
 | [],_,i,x,t,hx,_=>by simp [vp] at hx
 |a::l,h,i,x,t,hx,ht=>by
  have h0:=h a (List.mem_cons_self ..)
  have ih:=RX l λe he=>h e (qY _ he)
  have e1:vp (a::l)=Value.iface 3 (a.1.1)::Value.iface 3 (a.1.2)::vp l:=rfl
  have e2:wM it (a::l)=it a.1.1::it a.1.2::wM it l:=rfl
  rw [e1] at hx
  rw [e2] at ht
  match i with
  |0=>simp at hx ht;subst hx;subst ht;exact h0.1
  |1=>simp at hx ht;subst hx;subst ht;exact h0.2
  |i+2=>simp at hx ht;exact ih i x t hx ht
def P3{F:Nat->Prop}{w:World}{g s o t sh B ga:Nat}{M:Sm}{occ:Value}{L:lCs}(h:EF F w g s o t M occ L)(hs:Iv w sh g)(ha:AG w B ga []){it:Int->ByteArray}
  (hit:∀u,Ext w u->∀e ∈ M.T.2,xy u (.iface 3 (.int .i64 e.1.1)) (it e.1.1)/\xy u (.iface 3 (.int .i64 e.1.2)) (it e.1.2))(hn:M.T.2.length<=400)(nE:∀n,(it n).size<=1000000):
  eU 108 #[sh,ga] w (Value.string (eG (wM it M.T.2))):=by
 apply re.vc;refine (rj ha).mono ?_;rintro e w0 ⟨e0,he⟩;rw [e0];rw [if_pos rfl] at he;subst he;obtain ⟨Fs,hS,Of,-,-⟩:=h.Is;obtain ⟨Fw,hW,-,-⟩:=hS.world;refine ⟨rfl,aB g,by rw [aF,hs.row.ld];rfl,cJ.2 ⟨rfl,cJ.2 ⟨rfl,aB s,Of,(eN hS).gK ?_⟩⟩⟩;refine ⟨_,rfl,(jl hW).gK ?_⟩;obtain ⟨Ft,hT,-⟩:=hW.table;refine ⟨_,rfl,(CN hT).mono ?_⟩;rintro _ w7 ⟨s8,rfl,ho,x7⟩;refine ⟨s8,rfl,?_⟩;have gl:=ho.rd aw;have hn8:s8.n=M.T.2.length:=by rw [gl.n,aJ]
 refine ⟨λn x sl v=>∃p:Nat,x=(p:Int)/\p+n=s8.n/\ar w7 20 1 v sl ((vp (M.T.2.take p)).map λx=> [x])/\Ext w7 v,⟨s8.n,0,rfl,aa,ar.nil,Ext.bU _⟩,?_⟩;rintro n1 us x sl v ⟨p,rfl,hp,hos,xv⟩;have Ob:(M.T.2.take p).length=p:=by rw [cK];omega
 have h4:sl.n=2*p:=by rw [(ar.rd hos aw).n,aJ,Hz,Ob]
 apply Br.mk<;>intro c
 ·have c:=of_decide_eq_true c;have hpx:p<M.T.2.length:=by omega
  obtain ⟨y,hy⟩:∃y,M.T.2[p]? =some y:=⟨_,cO hpx⟩;have pO:ah v (ab s8.a (((p:Nat):Int).toNat*2)) 0 [.int .i64 y.1.1,.int .i64 y.1.2]:=by have:=(gl.ext xv).bK (i:=p) (r:=[.int .i64 y.1.1,.int .i64 y.1.2]) (by rw [aZ,hy];rfl);simpa using this
  refine ⟨gl.j2 aw aa aa,_,_,pO,λdN Od eQ S8 fw wi=> ?_⟩;have de:Ext v dN:=by rw [Od];exact Ext.al _ _
  have m19:=iB dN v.heap.size #[.int .i64 y.1.1,.int .i64 y.1.2];rw [<-S8] at m19;have dR:Ext v eQ:=m19.ext de (λi hi=>by omega);have fk:Ext eQ fw:=by rw [wi];exact Ext.al _ _
  have z20:=fE wi;have z19:=dR.size;have zv:=xv.size;obtain ⟨a1,a2⟩:=(hos.ext (dR.tr fk)).FC (bytes:=16) (more:=[[.iface 3 (.int .i64 y.1.1)],[.iface 3 (.int .i64 y.1.2)]]) aa (λr hr=>by simp at hr;rcases hr with rfl|rfl<;>rfl) (λr hr=>by simp at hr;rcases hr with rfl|rfl<;>exact XD _ _) smo smo;refine ⟨a1,λTt dt bq=> ?_⟩;obtain ⟨b1,b2,b3,b4,-⟩:=a2 Tt dt bq;have xw:=(xv.tr dR).tr fk;have aW:∀j,v.heap.size<=j->j<fw.heap.size->dt.heap[j]? =fw.heap[j]? :=λj h1 h2=>b4 j (λq=>by have:=(hos.own.lt q).2;omega) h2
  refine ⟨aW _ aa aa,aW _ aa aa,n1-1,aa,p+1,by rw [wI];omega,aa,?_,Below.trans xw b3⟩
  ·rw [dq,hy];have e:vp (M.T.2.take p++ [y])=vp (M.T.2.take p)++ [.iface 3 (.int .i64 y.1.1),.iface 3 (.int .i64 y.1.2)]:=by unfold vp;rw [bS,zi];rfl
   show ar _ _ _ _ _ ((vp (M.T.2.take p++ [y])).map _);rw [e,bS];exact b1
 ·have c:=of_decide_eq_false c;have hpe:p=M.T.2.length:=by omega
  rw [dI aa] at hos;have hrs:=ar.rd hos aw;refine (aax (sl:=⟨sl.a,sl.n,sl.c⟩) (txs:=wM it M.T.2) hrs (by rw [JY,Hz]) (by rw [Hz];omega) (RX _ (hit v (x7.tr xv))) (λtt ht=> ?_)).mono ?_
  ·unfold wM at ht;obtain ⟨l,hl,ht⟩:=List.mem_flatten.1 ht;obtain ⟨e,-,rfl⟩:=bf.1 hl;simp at ht;rcases ht with rfl|rfl<;>exact nE _
  ·rintro _ dj ⟨rfl,dm⟩;exact ⟨_,rfl,rfl,x7.tr (xv.tr dm)⟩
open Tryz
variable {R:eWp} {w:World} {a0 a1 a2:Int}
def DY.vc{a0:Addr}{a2:Sl}(h:(λA B=>
 (Pv w (ab (some a0) 3) 1 [.int .i64 (if 1099511627776<A then 1099511627776 else A)] λw0=>
 ae 174 #[(4096:Int)] w0 (tR λp2 w1=>(Pv w1 B 1 [.pointer p2] λw3=>
 fu w3 B λp4=>
 ae 249 #[p4,a2] w3 (gk λx6 w5=>R x6 w5))))) (if 0>a1 then 0 else a1) (ab (some a0) 0)):ae 186 #[a0,a1,a2] w R:=
 cq bD func186 h
def IK.vc{c0:Addr}{c1:Addr}(h:(λA B=>
 ∃J0:wPp,
 (lX w A λs1=>
 Br (decide (a0>((s1.n:Nat):Int)))
 ((Pv w (some c1) 1 [.bool false] λw2=>
 (Pv w2 A 1 [.slice none 0 0] λw3=>
 R (0:Int) w3)))
 (J0 w))/\
 ∀us4:Nat->Value,∀(w5:World),J0 w5->
 lX w5 A λs6=>(λAa=>
 (0:Int)<=a0/\a0<=((s6.c:Nat):Int)/\qH (λI7 n8=>I7 n8 (0) (0) w5) λI7 n8 us9 bM bR bO=>
 Br (decide (bM<(((B.toNat-0):Nat):Int)))
 (gJ Aa bM (B.toNat-0)/\∃(cY:Int),ld bO (ab Aa ((bM:Int).toNat*1))=some (.int .u8 cY)/\
 ∃n13,n13<n8/\I7 n13 ((aC (bM+1))) ((TE .i64 (aC (bR*2 ^(min (8:Int).toNat 64))) (aC cY))) bO)
 (lX bO A λoI=>
 (0:Int)<=a0/\a0<=((oI.n:Nat):Int)/\(Pv bO A 1 [.slice (aE oI.a (B.toNat) (oI.c) 1) (oI.n-B.toNat) (oI.c-B.toNat)] λcp=>
 R bR cp))) (aE s6.a (0) (s6.c) 1)) (some c0) (a0:Int)):ae 304 #[a0,c0,c1] w R:=
 cq ⟨[(6,⟨[(16,.int .i64),(5,.int .i64)],[],[]⟩)],[(4,⟨[],[],[]⟩)],[]⟩ func304 h
def IL.vc{c0:Addr}(h:
 ∃(v0:Value),ld w (some c0)=some (v0)/\
 bu Tryz.prog v0 [(6:Int)] w (gk λx2 w1=>∃J3:Int->wPp,
 (Br (x2>=140737488355328)
 (J3 ((aC (x2-281474976710656))) w1)
 (J3 x2 w1))/\
 ∀us4:Nat->Value,∀(x5:Int)(w6:World),J3 x5 w6->
 R x5 w6)):ae 305 #[c0] w R:=
 cq ⟨[],[(4,⟨[(2,.int .i64)],[],[]⟩)],[]⟩ func305 h
def IM.vc{c0:Addr}(h:(λA=>
 Aw w #[ai,ai,ai] 73 λw0=>
 ∃(v1:Value),ld w0.drew A=some (v1)/\
 ∃(v2:Value),ld w0.drew A=some (v2)/\
 bu Tryz.prog v1 [] w0.drew (Ri λx4 w3=>Kp w w0.drew w3/\
 ah w3 A 0 [v2]/\bu Tryz.prog v2 [] w3 (Ri λx6 w5=>Kp w w3 w5/\
 ∃(v7:Value),ld w5 A=some (v7)/\
 bu Tryz.prog v7 [] w5 (Ri λx9 w8=>Kp w w5 w8/\
 Sw w8 w #[x4,x6,x9] λbc=>
 R (tZ #[x4,x6,x9]) bc)))) (some c0)):ae 306 #[c0] w R:=
 cq bD func306 h
def Qv.vc{a0:Sl}(h:(λA B C=>
 Aw w #[a0] 43 λw0=>(λAa=>
 Aw w0 A 292 λw1=>(λAb=>
 Aw w1 #[false] 4 λw2=>
 Sw w2 w1 #[true] λw3=>(λAc=>
 Aw w3 #[.nilFunc] 32 λw4=>
 ∀w5,w5=w4.setRow w3 #[.func (.func 304) #[] #[w,.pointer Ab]]->
 Aw w5 #[.nilFunc] 69 λw6=>
 ∀w7,w7=w6.setRow w5 #[.func (.func 305) #[] #[.pointer Ac]]->
 ∃(v8:Value),ld w7 (aB w5)=some (v8)/\
 bu Tryz.prog v8 [] w7 (Ri λbM w9=>(λAd Ae=>Kp w0 w7 w9/\
 Aw w9 A 292 λbB=>
 Sw bB w9 #[bM,pno,pno,pno,pno,pno,pno,pno,pno,pno,pno,pno,pno,pno,pno,pno,pno,.slice none 0 0] λbO=>
 ∃J13:wPp,
 (Mi bO Ab λV5=>
 Br V5
 (jV bO Ae λdm=>
 Br (dm>=0)
 (jV bO Ae λdz=>
 Wr bO Ab 1/\(Pw bO Ab [.bool (decide (dz<=1099511627776))] λcM=>
 J13 cM))
 (Wr bO Ab 1/\(Pw bO Ab B λdN=>
 J13 dN)))
 (Wr bO Ab 1/\(Pw bO Ab B λeQ=>
 J13 eQ)))/\
 ∀arS:Nat->Value,∀(cX:World),J13 cX->
 ∃J22:wPp,
 (∃(v23:Value),ld cX Ac=some (v23)/\
 bu Tryz.prog v23 C cX (λe iH=>∃(gM:Int),e=gM/\
 qH (λYc n27=>Yc n27 gM ((-1)) iH) λYc n27 arN kK tM ik=>
 Br (kK>0)
 (Mi ik Ab λb33=>
 Br b33
 (∃(v34:Value),ld ik Ac=some (v34)/\
 bu Tryz.prog v34 C ik (λe iI=>∃(pP:Int),e=pP/\
 Aw iI #[ai,ai,ai,ai,ai,ai,ai,ai,false,ai,ai,false] 103 λjJ=>
 ae 306 #[.pointer (aB w5)] jJ (mh λrD rK lO tN=>Kp iI jJ tN/\
 Sw tN iI #[rD,rK,lO,ai,ai,ai,ai,ai,false,ai,ai,false] λpF=>
 ae 306 #[.pointer (aB w5)] pF (mh λrE yO pQ iS=>Kp iI pF iS/\
 Sw iS iI #[rD,rK,lO,rE,yO,pQ,ai,ai,false,ai,ai,false] λoK=>
 ∃(v48:Value),ld oK (aB w5)=some (v48)/\
 bu Tryz.prog v48 [] oK (Ri λFb nH=>Kp iI oK nH/\
 Sw nH iI #[rD,rK,lO,rE,yO,pQ,Fb,ai,false,ai,ai,false] λw51=>
 ∃(v52:Value),ld w51 (aB w5)=some (v52)/\
 bu Tryz.prog v52 [] w51 (Ri λCF w53=>Kp iI w51 w53/\
 Sw w53 iI #[rD,rK,lO,rE,yO,pQ,Fb,CF,false,ai,ai,false] λyN=>
 ∃(v56:Value),ld yN Ac=some (v56)/\
 bu Tryz.prog v56 C yN (Ri λKP pI=>Kp iI yN pI/\
 Sw pI iI #[rD,rK,lO,rE,yO,pQ,Fb,CF,.bool (KP==1),ai,ai,false] λpR=>
 ∃J60:wPp,
 (Mi pR Ab λb61=>
 Br b61
 (Br (pP>tM)
 (Br (pP<16)
 (Br (KP<=1)
 (jW pR (aB iI) λrJ Bj KX A8 rO yt yz A9 b70=>
 ae 48 #[.agg #[rJ,Bj,KX,A8,rO,yt,yz,A9,b70]] pR (λe w71=>∃(b72:Bool),e=b72/\
 Wr w71 Ab 1/\(Pw w71 Ab [.bool b72] λJl=>
 J60 Jl)))
 (Wr pR Ab 1/\(Pw pR Ab B λEx=>
 J60 Ex)))
 (Wr pR Ab 1/\(Pw pR Ab B λur=>
 J60 ur)))
 (Wr pR Ab 1/\(Pw pR Ab B λqM=>
 J60 qM)))
 (Wr pR Ab 1/\(Pw pR Ab B λuk=>
 J60 uk)))/\
 ∀axY:Nat->Value,∀(KV:World),J60 KV->
 Mi KV Ab λb80=>
 Br b80
 ((0:Int)<=pP/\pP<((16:Nat):Int)/\(Pv KV (ab (jS w9 1) ((pP:Int).toNat*1)) 1 [.pointer (aB iI)] λwx=>
 ∃n32,n32<n27/\Yc n32 ((aC (kK-1))) pP wx))
 (∃n32,n32<n27/\Yc n32 ((aC (kK-1))) tM KV))))))))
 (J22 ik))
 (J22 ik)))/\
 ∀aFo:Nat->Value,∀(w83:World),J22 w83->
 ∃J84:wPp,
 (∃(v85:Value),ld w83 Ac=some (v85)/\
 bu Tryz.prog v85 [(2:Int)] w83 (λe w86=>∃(xf:Int),e=xf/\
 uo (λI88 n89=>I88 n89 xf w86) λI88 n89 axM Ol w92=>
 Br (Ol>0)
 (Mi w92 Ab λb94=>
 Br b94
 (∃(v95:Value),ld w92 (aB w5)=some (v95)/\
 bu Tryz.prog v95 [] w92 (λe Ij=>∃(KW:Int),e=KW/\
 Aw Ij #[ai,ai,ai,ai] 106 λw98=>
 Sw w98 Ij #[KW,ai,ai,ai] λIc=>
 ae 306 #[.pointer (aB w5)] Ic (mh λpU Bb Eu tg=>(λAf Ag=>Kp Ij Ic tg/\
 Aw tg #[ai,ai,ai] 73 λabm=>
 Sw abm tg #[pU,Bb,Eu] λBf=>
 Sw Bf Ij Ag λyB=>
 ∃ajH:wPp,
 (Mi yB.drew Ab λanm=>
 Br anm
 (ae 280 #[.agg #[pU,Bb,Eu]] yB.drew (mh λlR yA lS um=>Kp Ij yB.drew um/\
 ah um (jS Ij 1) 0 [pU,Bb,Eu]/\ah um Ab 0 [.bool anm]/\Br ((pU==lR) &&((Bb==yA) &&(Eu==lS)))
 (lX um Ad λaym=>
 Wr um Ab 1/\Nb w1 Ij/\(Pw um Ab [.bool (decide ((((aym.n:Nat):Int):Int)<2000))] λJq=>
 aP Af/\ajH Jq))
 (Wr um Ab 1/\Nb w1 Ij/\(Pw um Ab B λEC=>
 aP Af/\ajH EC))))
 (Wr yB.drew Ab 1/\Nb w1 Ij/\(Pw yB.drew Ab B λayn=>
 aP Af/\ajH ayn)))/\
 ∀aCu:Nat->Value,∀(oL:World),ajH oL->
 lX oL Ad λarX=>
 Aw oL Ag 106 λEy=>
 aY 32 4 Ey arX 1 Af/\∀(arY:Sl)(yD:World),aT 106 4 Ey arX 1 Af arY yD->K2 Ij oL Ey yD (
 Wr yD Ad 1/\Nq Ad Ij/\Nq Ad oL/\(Pw yD Ad [arY] λayo=>
 ∃n93,n93<n89/\I88 n93 ((aC (Ol-1))) ayo))) [KW,pU,Bb,Eu] #[KW,pU,Bb,Eu])))
 (J84 w92))
 (J84 w92)))/\
 ∀aCw:Nat->Value,∀(oM:World),J84 oM->
 ∃(HZ:Int)(aou aov aow aox aoy aoz aoA aoB aoC aoD aoE aoF aoG aoH aoI aoJ:Option Addr)(aoK:Sl),ah oM.drew Ae 0 [HZ,aou,aov,aow,aox,aoy,aoz,aoA,aoB,aoC,aoD,aoE,aoF,aoG,aoH,aoI,aoJ,aoK]/\
 Mi oM.drew Ab λaoL=>
 Br aoL
 (lX oM.drew (aB w) λarZ=>
 Wr oM.drew Aa 18/\(Pw oM.drew Aa [HZ,aou,aov,aow,aox,aoy,aoz,aoA,aoB,aoC,aoD,aoE,aoF,aoG,aoH,aoI,aoJ,aoK] λTv=>
 ah Tv w 0 [arZ]/\ah Tv Ab 0 [.bool aoL]/\∃(Td:Int)(ar0 ar1 ar2 ar3 ar4 ar5 ar6 ar7 ar8 ar9 asa asb Tk Tm asc asd:Option Addr)(ase:Sl),ah Tv Aa 0 [Td,ar0,ar1,ar2,ar3,ar4,ar5,ar6,ar7,ar8,ar9,asa,asb,Tk,Tm,asc,asd,ase]/\
 R (eV #[.agg #[Td,ar0,ar1,ar2,ar3,ar4,ar5,ar6,ar7,ar8,ar9,asa,asb,Tk,Tm,asc,asd,ase],.bool ((((arZ.n:Nat):Int):Int)==0)]) Tv))
 (Wr oM.drew Aa 18/\(Pw oM.drew Aa [HZ,aou,aov,aow,aox,aoy,aoz,aoA,aoB,aoC,aoD,aoE,aoF,aoG,aoH,aoI,aoJ,aoK] λaoM=>
 ah aoM Ab 0 [.bool aoL]/\∃(ajv:Int)(asf asg ash asi asj asl asm asn aso asp asq asr ass ast asu asv:Option Addr)(asw:Sl),ah aoM Aa 0 [ajv,asf,asg,ash,asi,asj,asl,asm,asn,aso,asp,asq,asr,ass,ast,asu,asv,asw]/\
 R (eV #[.agg #[ajv,asf,asg,ash,asi,asj,asl,asm,asn,aso,asp,asq,asr,ass,ast,asu,asv,asw],false]) aoM))) (jS w9 17) (aB w9))) (aB w3)) (aB w1)) (aB w0)) #[ai,pno,pno,pno,pno,pno,pno,pno,pno,pno,pno,pno,pno,pno,pno,pno,pno,.slice none 0 0] [.bool false] [(1:Int)]):ae 248 #[a0] w R:=
 cq ⟨[(9,⟨[(10,.int .i64),(9,.int .i64)],[],[]⟩),(23,⟨[(14,.int .i64)],[],[]⟩)],[(20,⟨[],[],[6]⟩),(29,⟨[],[],[7]⟩),(30,⟨[],[],[]⟩),(22,⟨[],[],[]⟩),(7,⟨[],[],[1,5]⟩)],[]⟩ func248 h
def tV.vc{a0:Addr}{a1:Sl}(h:(λA=>
 ae 248 #[a1] w (λe w0=>∃(x1:Int)(p2 p3 p4 p5 p6 p7 p8 p9 Jt Ik yE p13 Tw p15 p16 p17:Option Addr)(s18:Sl)(b19:Bool),e=Value.tuple #[.agg #[x1,p2,p3,p4,p5,p6,p7,p8,p9,Jt,Ik,yE,p13,Tw,p15,p16,p17,s18],b19]/\
 Aw w0 #[ai,pno,pno,pno,pno,pno,pno,pno,pno,pno,pno,pno,pno,pno,pno,pno,pno,.slice none 0 0] 292 λfw=>
 Sw fw w0 #[x1,p2,p3,p4,p5,p6,p7,p8,p9,Jt,Ik,yE,p13,Tw,p15,p16,p17,s18] λcX=>
 Br (!b19)
 (R (2:Int) cX)
 ((true=true/\Wr cX A 16)/\bN A≠some w0.heap.size/\(Pw cX A [.pointer p2,p3,p4,p5,p6,p7,p8,p9,Jt,Ik,yE,p13,Tw,p15,p16,p17] λdt=>
 fu dt.drew (ab (some a0) 0) λTu=>
 ae 186 #[Tu,x1,s18] dt.drew (Ri λgM iH=>Kp w0 dt.drew iH/\
 R (0:Int) iH))))) (ab (some a0) 1)):ae 185 #[a0,a1] w R:=
 cq bD func185 h
def oq.vc{a0:Addr}(h:(λA B C=>
 fu w B λp0=>
 ae 39 #[p0] w (tR λp2 w1=>ae 40 #[p2] w1 (tR λp4 w3=>ae 183 #[p4,a1] w3 (gk λx6 w5=>ae 184 #[p4] w5 (λe w7=>∃(s8:Sl)(b9:Bool),e=Value.tuple #[s8,b9]/\
 Br (!b9)
 ((Pv w7 C 16 A λbc=>
 fu bc B λIk=>
 ae 186 #[Ik,ai,.slice none 0 0] bc (gk λcN bO=>R x6 bO)))
 (ae 185 #[a0,s8] w7 (gk λdm cu=>Br (dm !=0)
 ((Pv cu C 16 A λcp=>
 fu cp B λp17=>
 ae 186 #[p17,ai,.slice none 0 0] cp (gk λdR dN=>R x6 dN)))
 (R x6 cu)))))))) [pno,pno,pno,pno,pno,pno,pno,pno,pno,pno,pno,pno,pno,pno,pno,pno] (ab (some a0) 0) (ab (some a0) 1)):ae 123 #[a0,a1] w R:=
 cq bD func123 h
def aeI{l:List Go.fi.It}{x:Go.fi.It}(h:∀y ∈ l,y.1<=x.1):ug l x=l++ [x]:=by
 unfold ug;have key:∀(l:List Go.fi.It),(∀y ∈ l,y.1<=x.1)->l.takeWhile (λy=>decide (y.1<=x.1))=l/\l.dropWhile (λy=>decide (y.1<=x.1))=[]:=by
  intro l
  induction l with
  |nil=>intro _;exact ⟨rfl,rfl⟩
  |cons y l ih=>
   intro h;obtain ⟨i1,i2⟩:=ih λz hz=>h z (.tail _ hz)
   have hy:=decide_eq_true (h y (.head _));exact ⟨by rw [List.takeWhile_cons_of_pos (by exact hy),i1],by rw [List.dropWhile_cons_of_pos (by exact hy),i2]⟩
 obtain ⟨e1,e2⟩:=key l h;rw [e1,e2]
def HB:∀(xs pre:List Go.fi.It),yF ⟨4096,0,pre++xs⟩->D7 ⟨4096,0,pre⟩ xs=(⟨4096,0,pre++xs⟩,xs.length)
 | [],pre,_=>by rw [mX];rfl
 |x::xs,pre,h=>by
  have db:=h.len
  simp only [bY,cD] at db
  have lD:∀y ∈ pre,y.2≠x.2:=λy hy q=>by
   have hn:=h.nodup
   simp only [bS,eL] at hn
   exact (GP.1 hn).2.2 _ (bf.2 ⟨y,hy,rfl⟩) _ (.head _) q
  have hle:∀y ∈ pre,y.1<=x.1:=λy hy=>(List.pairwise_append.1 h.sorted).2.2 y hy x (.head _)
  have ha:lJ ⟨4096,0,pre⟩ x.2 x.1=(⟨4096,0,pre++ [x]⟩,true):=by rw [aeJ lD (by simp only;omega)];rw [aeI (x:=(x.1,x.2)) hle]
  have ih:=HB xs (pre++ [x]) (by rw [fY];exact h);unfold D7;rw [ha];simp only;rw [ih,fY];simp [yT]
section
variable {F F':Nat->Prop} {w w':World} {s o t:Nat} {M M':Sm} {occ:Value} {O:Ce->Bool}
def zf(h:SF F w s o t M occ)(n:Int)(a:Sl)(xs:List Go.fi.It)(ha:dB w a 4 (xs.map fR))(fD:∀b,a.aX=some b->b<w.heap.size/\¬F b)(hq:yF ⟨4096,0,xs⟩):
  Calls Tryz.prog 186 #[.pointer (some ⟨s,0,none⟩),.int .i64 n,.slice a.a a.n a.c] w λe w'=>e=.returned (.int .i64 xs.length)/\nm F w s o t {M with q:=⟨4096,0,xs⟩,now:=min (max n 0) 1099511627776} occ w':=by
 obtain ⟨g,m,qs,Fw,sd,h1,h2,hq0,h3,h4,h5,rfl⟩:=h;have hFs:=h1.lt;apply (DY.vc (a2:=a));have en:(if 1099511627776<(if 0>n then 0 else n) then 1099511627776 else (if 0>n then 0 else n))=min (max n 0) 1099511627776:=by split<;>split<;>omega
 obtain ⟨p1,p2⟩:=h1.fF (j:=3) (v:=.int .i64 (min (max n 0) 1099511627776)) (by simp [smC]) rfl;refine ⟨⟨rfl,p1⟩,λw0 e0=> ?_⟩;rw [en] at e0;obtain ⟨r0,m0⟩:=p2 w0 e0;refine (Q.Ar 4096 w0).mono ?_;rintro e w1 ⟨g',m',rfl,hn,x1,hg,hm⟩;have r1:=r0.ext x1;obtain ⟨p3,p4⟩:=r1.fF (j:=0) (v:=.pointer (some ⟨g',0,none⟩)) (by simp [smC,putCells]) rfl;refine ⟨_,rfl,⟨rfl,p3⟩,λw3 e3=> ?_⟩;obtain ⟨r3,m3⟩:=p4 w3 e3;have mm:Mod (λi=>i=s) w w3:=(m0.trans (Mod.aq x1)).trans m3;have z3:=mm.size;have z0:=m0.size;have z13:=m3.size;have hn3:Q.uf w3 g' m' ⟨none,0,0⟩ ⟨4096,0,[]⟩:=Q.uf.aW (q:=⟨4096,0,[]⟩) hn m3 λi hi e=>by
  rcases hi with hi|hi|hi
  ·omega
  ·omega
  ·cases hi
 have Oe:dB w3 a 4 (xs.map fR):=mm.rdK (by decide) ha λ_ b hb e=>(fD b hb).2 (.inl e)
 have db:=hq.len;refine ⟨_,r3.at 0 rfl,(Q.aeE hn3 adW ⟨Int.le_refl _,by simp only at db ⊢;omega⟩ Oe (λb hb=>by have:=(fD b hb).1;omega) (λb hb hf=>by
  have:=(fD b hb).1;rcases hf with hf|hf|hf
  ·omega
  ·omega
  ·cases hf)).mono ?_⟩
 have aj3:=HB xs [] (by rw [List.nil_append];exact hq);rw [List.nil_append] at aj3;rw [aj3];rintro e w5 ⟨rfl,s',hq5,ht⟩;have q1:∀b,sd.aX=some b->b≠s:=λb hb=>by obtain ⟨cs',hr'⟩:=aU h4 (by decide) hb;exact hr'.ne h1 (by decide)
 have q2:=h3.dT h1 (by decide) (by decide) (by decide);have hft:∀i,i<w.heap.size->¬Q.gS g' m' ⟨none,0,0⟩ i:=λi hi hf=>by
  rcases hf with hf|hf|hf
  ·omega
  ·omega
  ·cases hf
 have Em:∀i,Q.gS g' m' s' i->w.heap.size<=i:=λi hi=>by
  rcases ht.sub i hi with q|q
  ·by_cases hx:i<w.heap.size
   ·exact absurd q (hft i hx)
   ·omega
  ·omega
 have hW5:=(h3.aW mm λi hi e=>q2 (e▸hi)).aW ht.mod λi hi=>hft i (h3.lt hi)
 have hd5:=ht.mod.dX (mm.dX h4 q1) λb hb=>hft b (h4.own.lt hb).2
 have hr5:=ht.mod.row r3 (hft s hFs);refine ⟨_,rfl,rfl,_,⟨g',m',s',Fw,sd,hr5,hq5,hq,hW5,hd5,λi hi hf=>by have:=Em i hi;have:=h3.lt hf;omega,rfl⟩,⟨by rw [ht.mod.os,mm.os],by rw [ht.mod.tape,mm.tape],by rw [ht.mod.output,mm.output],Nat.le_trans z3 ht.mod.size,λi hi hn=> ?_⟩,λi hi=> ?_⟩
 ·exact (ht.mod.same i (by omega) (hft i hi)).trans (mm.same i hi λe=>hn (.inl e))
 ·rcases hi with hi|hi|hi|hi
  ·exact .inl (.inl hi)
  ·exact .inr (Em i hi)
  ·exact .inl (.inr (.inr (.inl hi)))
  ·exact .inl (.inr (.inr (.inr hi)))
end
section
variable {F:Nat->Prop} {w:World} {g s o t:Nat} {M M':Sm} {occ:Value} {L L0:lCs}
def EF.world(h:EF F w g s o t M occ L):∃Fw,WF Fw w o t M.aj M.cap M.T M.ch/\∀{w':World} {T':Tb} {ch':List Go.fL.Cg},O6 Fw w o t M.aj M.cap T' ch' w'->dQ F w g s o t {M with T:=T',ch:=ch'} occ L w':=by obtain ⟨Fs,hs,-,-,bq⟩:=h.Is;obtain ⟨Fw,hW,-,hresW⟩:=hs.world;exact ⟨Fw,hW,λhr=>bq (hresW hr)⟩
def AV{ch:List Cg}{T:Tb}{aj limit:Int}(h:WF F w o t aj limit T ch)(hW:T.1.l.length<=1000000)(hl:eA T.1.l<=1099511627776)(aW:Int):
  ae 183 #[t,aW] w λe w'=>e=Value.int .i64 (cA T.1 aW).2/\O6 F w o t aj limit ((cA T.1 aW).1,[]) ch w':=by
 obtain ⟨F1,hT,-,bq⟩:=h.table;refine (Ny hT hW hl aW).bj λw' hr=> ?_
 exact ⟨rfl,bq hr⟩
def Dh{ch:List Cg}{T:Tb}{aj limit:Int}(h:WF F w o t aj limit T ch)(hW:T.1.l.length<=1000000):
  ae 184 #[t] w λe w'=>∃s:Sl,e=Value.tuple #[s,.bool (Go.cC.qd T.1 0).2.2]/\ji w' s (Go.cC.qd T.1 0).1/\s.n<=s.c/\Ext w w':=by
 obtain ⟨F1,hT,-,-⟩:=h.table;refine (R0 hT hW).mono ?_;rintro e w' ⟨s,rfl,h1,-,-,h2,-,x⟩;exact ⟨s,rfl,h1,h2,x⟩
def dQ.tr{F':Nat->Prop}{w1 w2:World}{M2:Sm}{L2:lCs}{occ2:Value}(h:aI F F' w w1)(k:dQ F' w1 g s o t M2 occ2 L2 w2):dQ F w g s o t M2 occ2 L2 w2:=by obtain ⟨F2,h2,t2⟩:=k;exact ⟨F2,h2,h.trans t2⟩
abbrev aay:List (Option Nat):=List.replicate 16 none
def aiJ(w:World):EL w aay xt:=by
 refine ⟨rfl,rfl,λi a q=> ?_,λi q=> ?_,λi j a q=> ?_⟩
 ·rw [zZ] at q;split at q<;>cases q
 ·rw [zZ] at q ⊢;split at q
  ·rename_i hi;rw [if_pos hi]
  ·cases q
 ·rw [zZ] at q;split at q<;>cases q
def R1(h:EF F w g s o t M occ L0):(true=true/\Wr w (ab (some ⟨g,0,none⟩) 1) 16)/\∀u,u=bC w (ab (some ⟨g,0,none⟩) 1) (aay.map pA)->Vc.ld u (ab (some ⟨g,0,none⟩) 0)=some (.pointer (some ⟨s,0,none⟩))/\
  Calls Tryz.prog 186 #[.pointer (some ⟨s,0,none⟩),.int .i64 0,.slice none 0 0] u λe w'=>e=.returned (.int .i64 0)/\dQ F w g s o t {M with q:=⟨4096,0,[]⟩,now:=0} occ xt w':=by
 obtain ⟨Fs,av0,dh,hsf,hel0,rfl⟩:=h;have ng:¬Fs g:=hsf.qi dh kM.1.1 kM.1.2.1 kM.1.2.2.1 kM.1.2.2.2.1 kM.1.2.2.2.2.1 kM.1.2.2.2.2.2.1 kM.1.2.2.2.2.2.2;have S6:(Value.pointer (some ⟨s,0,none⟩)::av0.map pA).length=17:=by rw [List.length_cons,List.length_map,hel0.n]
 have ep:ab (some ⟨g,0,none⟩) 1=some ⟨g,1,none⟩:=aF ..;rw [ep];refine ⟨⟨rfl,dh.wr (o:=1) (n:=16) (by rw [S6];exact Nat.le_refl 17)⟩,λdt Du=> ?_⟩;have CB:=Du.trans (dh.bC (o:=1) (by rw [S6];exact Nat.le_refl 17) (by
  show ∀u ∈ _,_;intro u hu;obtain ⟨x,hx,rfl⟩:=List.mem_map.1 hu;rfl))
 have ecs:putCells (Value.pointer (some ⟨s,0,none⟩)::av0.map pA) 1 (aay.map pA)=.pointer (some ⟨s,0,none⟩)::aay.map pA:=by obtain ⟨b0,b1,b2,b3,b4,b5,b6,b7,b8,b9,b10,b11,b12,KO,V5,X5,rfl⟩:=Mt hel0.n;rfl
 have r22:Row dt g (.pointer (some ⟨s,0,none⟩)::aay.map pA) uE:=by rw [<-ecs,CB];exact Row.set dh _
 have o22:∀j,j≠g->dt.heap[j]? =w.heap[j]? :=λj hj=>by rw [CB];exact setRow_other _ _ _ _ hj
 have z22:dt.heap.size=w.heap.size:=by rw [CB,setRow_size]
 have mm:Mod (λi=>i=g) w dt:=⟨by rw [CB];rfl,by rw [CB];rfl,by rw [CB];rfl,Nat.le_of_eq z22.symm,λi _ hn=>o22 i hn⟩;have am8:SF Fs dt s o t M occ:=hsf.same λi hi=>o22 i λq=>ng (q▸hi)
 refine ⟨r22.at 0 rfl,(zf am8 0 ⟨none,0,0⟩ [] ((ar.nil (B:=0) (E:=157)).rd (show 0<4 by decide)) (λb hb=>by cases hb) adW).mono ?_⟩;rintro e iH ⟨rfl,F',ajh,ht⟩;refine ⟨rfl,λi=>i=g\/F' i\/some i ∈ aay,⟨F',_,ht.mod.row r22 ng,ajh,aiJ _,rfl⟩,(mm.mono λi _ hi=> .inl hi).trans (ht.mod.mono λi _ hi=> .inr (.inl hi)),λi hi=> ?_⟩;rcases hi with hi|hi|hi
 ·exact .inl (.inl hi)
 ·rcases ht.sub i hi with q|q
  ·exact .inl (.inr (.inl q))
  ·exact .inr (by omega)
 ·cases List.eq_of_mem_replicate hi
def R2(h:EF F w g s o t M occ L0)(aW:Int)(hW:M.T.1.l.length<=1000000)(hl:eA M.T.1.l<=1099511627776)(hW':(cA M.T.1 aW).1.l.length<=1000000)(hk:(Go.cC.qd (cA M.T.1 aW).1 0).2.2=false):
  ae 123 #[g,aW] w λe w'=>e=Value.int .i64 (cA M.T.1 aW).2/\dQ F w g s o t {M with T:=((cA M.T.1 aW).1,[]),q:=⟨4096,0,[]⟩,now:=0} occ xt w':=by
 obtain ⟨Fs,hs,pO,-⟩:=h.Is;obtain ⟨Fw,hWd,bq⟩:=h.world;apply oq.vc;refine ⟨_,pO,(eN hs).bj λw1 S7=> ?_⟩;subst S7;refine ⟨_,rfl,(jl hWd).bj λw3 H2=> ?_⟩;subst H2;refine ⟨_,rfl,(AV hWd hW hl aW).bj λw5 hr5=> ?_⟩;obtain ⟨F5,h5,t5⟩:=bq hr5;obtain ⟨Fw5,hW5,-⟩:=h5.world;refine ⟨_,rfl,(Dh hW5 hW').mono ?_⟩;rintro e w7 ⟨s8,rfl,-,-,x7⟩;refine ⟨s8,_,rfl,?_⟩;show Br (!(Go.cC.qd (cA M.T.1 aW).1 0).2.2) _ _;rw [hk];obtain ⟨p1,p2⟩:=R1 (h5.ext x7);refine Br.mk (λ_=>⟨p1,λbc vy=> ?_⟩) λq=>by cases q
 obtain ⟨q1,q2⟩:=p2 bc vy;refine ⟨_,q1,q2.bj λbO hr=> ?_⟩;exact ⟨_,rfl,rfl,dQ.tr t5 (dQ.aq x7 hr)⟩
end
abbrev lf(w:World):Prop:=Lib.TabIs Tryz.prog w "internal/strconv.uint64pow10" .u64 Lib.pow10Tab
def qn{w w':World}(h:lf w)(x:Ext w w'):lf w':=by
 unfold lf Lib.TabIs World.var? at*
 cases hg:Tryz.prog.globalNamed "internal/strconv.uint64pow10" with
 |none=>rw [hg] at h;cases h
 |some g=>
  rw [hg] at h;simp only [Option.bind_some] at h ⊢;have hl:g<w:=by
   by_cases c:g<w.heap.size
   ·exact c
   ·rw [Array.getElem?_eq_none aa] at h
    cases h
  rw [x.heap hl];exact h
def bI(n:Int):ByteArray:=⟨(Lib.itoa n).toArray⟩
def afr(w:World)(k:Nat)(os:Array Obj):Ext w (Go.Sort.grow (w.drewN k) os):=by
 refine ⟨rfl,rfl,rfl,?_,λi hi=> ?_⟩
 ·show w.heap.size<=(w.heap++os).size;rw [Array.size_append];omega
 ·show (w.heap++os)[i]? =w.heap[i]?;rw [Array.getElem?_append_left hi]
def gT{w:World}(hT:lf w){n:Int}(hn:cT n):xy w (.iface 3 (n)) (bI n):=
 .n _ _ λu xu=>(Tryz.strconv_Itoa n hn.1 hn.2 u (qn hT xu)).mono λe u' hh=>by obtain ⟨h1,k,os,h2⟩:=hh;exact ⟨h1,h2▸afr _ _ _⟩
def Ma:∀(k u:Nat),u<10 ^(k+1)->(Lib.decDigits u).length<=k+1
 |0,u,h=>by
  unfold Lib.decDigits
  rw [dif_pos aa]
  exact ak _
 |k+1,u,h=>by
  unfold Lib.decDigits
  split
  ·simp
  ·have:=Ma k (u / 10) (by rw [Nat.pow_succ] at h;omega)
   simp only [bY,cD,kX]
   omega
section
variable {F:Nat->Prop} {w:World} {sh g s o t:Nat} {M M':Sm} {occ occ':Value} {L L':lCs}
def akJ(h:EF F w g s o t M occ L)(hs:Iv w sh g)(hF:¬F sh){v v1 v':World}{ga:Nat}(xv:Ext w v)(hga:w.heap.size<ga)(hgv:ga<v.heap.size)(m1:Mod (λi=>i=ga) v v1)(hr:dQ F v1 g s o t M' occ' L' v'):∃F',SH w F v' sh g s o t M' occ' L' F'/\¬F' w/\v'.heap[w.heap.size]? =v.heap[w.heap.size]? :=by
 obtain ⟨F',h2,ht⟩:=hr;have nw:¬F w:=λq=>by have:=h.lt q;omega
 have mP:=hs.row.lt;have hz:=m1.size;have hm:Mod F w v':=((Mod.aq xv).tr m1 (λi hi=> .inr aa)).trans ht.mod;have sub:∀i,F' i->F i\/v1.heap.size<=i:=ht.sub;exact ⟨F',⟨h2,⟨hs.row.same (hm.same sh mP hF)⟩,λq=>(sub _ q).elim hF (λq=>by omega),hm,λi hi=>(sub i hi).imp id (λq=>by omega)⟩,λq=>(sub _ q).elim nw (λq=>by omega),(ht.mod.same _ aa nw).trans (m1.same _ aa aa)⟩
def Pu(h:EF F w g s o t M occ L)(hW:M.T.1.l.length<=1000000)(p:Po):
  ae 90 #[t,pv p] w λe w'=>e=Value.int .i64 (TG M.T.1 M.T.2 p).2/\dQ F w g s o t {M with T:=(TG M.T.1 M.T.2 p).1} occ L w':=by
 obtain ⟨Fw,hW0,bq⟩:=h.world;obtain ⟨F1,hT,-,hrt⟩:=hW0.table;refine (N8 hT hW p).bj λw' hr=> ?_
 exact ⟨rfl,bq (hrt hr)⟩
end
section
variable {F:Nat->Prop} {w:World} {sh g s o t B ga:Nat} {M M':Sm} {occ occ':Value} {L L':lCs} {ws:List ByteArray}
def Lt(hs:Iv w sh g)(ha:AG w B ga ws)(hsg:sh≠ga){a b c:Int}(hp:lG ws=some ((a,b,c),[])):
  ae 86 #[sh,ga] w λe w'=>e=Value.string (ByteArray.mk #[111,107])/\Mod (λi=>i=ga\/i=sh) w w'/\
   ∃(g' s' o' t':Nat)(F':Nat->Prop),EF F' w' g' s' o' t' (yG a b 200000 c) Ug xt/\Iv w' sh g'/\∀i,F' i->w.heap.size<=i:=by
 apply qu.vc;unfold lG at hp;refine (lh ha).mono ?_;rintro e w0 ⟨m0,hq⟩
 cases h1:gE ws with
 |none=>rw [h1] at hp;cases hp
 |some x1=>
  obtain ⟨a',r1⟩:=x1;rw [h1] at hq hp;simp only at hp;obtain ⟨rfl,ha0⟩:=hq;refine ⟨a',rfl,(lh ha0).mono ?_⟩;rintro e w2 ⟨m2,hq⟩
  cases h2:gE r1 with
  |none=>rw [h2] at hp;cases hp
  |some x2=>
   obtain ⟨b',r2⟩:=x2;rw [h2] at hq hp;simp only at hp;obtain ⟨rfl,ha2⟩:=hq;refine ⟨b',rfl,(lh ha2).mono ?_⟩;rintro e w4 ⟨m4,hq⟩
   cases h3:gE r2 with
   |none=>rw [h3] at hp;cases hp
   |some x3=>
    obtain ⟨c',r3⟩:=x3;rw [h3] at hq hp;simp only at hp
    cases hp
    obtain ⟨rfl,ha4⟩:=hq;refine ⟨c,rfl,(rj ha4).mono ?_⟩;rintro e w6 ⟨e6,he⟩;rw [if_pos rfl] at he;subst he;rw [e6];have m04:Mod (λi=>i=ga) w w4:=(m0.trans m2).trans m4;have hsh:Row w4 sh [g] Vt:=hs.row.same (m04.same sh hs.row.lt hsg);refine ⟨rfl,(J2 a b 200000 c w4).mono ?_⟩;rintro _ w7 ⟨g',s',o',t',F',rfl,hE,x7,hF'⟩;have hsh7:=hsh.ext x7;obtain ⟨p1,p2⟩:=hsh7.fF (j:=0) (v:=.pointer (aB g')) bo rfl;refine ⟨_,rfl,⟨rfl,p1⟩,λw9 e9 bc vy=> ?_⟩;obtain ⟨q1,q2⟩:=p2 w9 e9;have bM:Ext w9 bc:=by rw [vy];exact Ext.al _ _
    refine (jn vy .ok aw).bj λbB bR=> ?_
    have xx:=bM.tr bR;have fD:=hsh.lt;have z04:=m04.size;have mP:=hs.row.lt;have nF:¬F' sh:=λq=>by have:=hF' _ q;omega
    have hE9:EF F' w9 g' s' o' t' (yG a b 200000 c) Ug xt:=hE.same λi hi=>q2.same i (hE.lt hi) (λq=>nF (q▸hi))
    exact ⟨_,rfl,rfl,(((m04.trans (Mod.aq x7)).mono λi _ hi=> .inl hi).trans (q2.mono λi _ hi=> .inr hi)).trans (Mod.aq xx),g',s',o',t',F',hE9.ext xx,⟨q1.ext xx⟩,λi hi=>by have:=hF' i hi;omega⟩
end
variable {R:eWp} {w:World}
variable {R:eWp} {w:World}
variable {R:eWp} {w:World}
def ZE{w:World}(h:w.ShapedOpen Tryz.prog):∃m,w.cell? ⟨0,0,none⟩=some (.int .i64 m):=
 cell_of_shapedOpen_int (t:=3) (zero:= #[ai]) h (by decide+kernel) (by kernel_rfl) rfl (by kernel_rfl) (by kernel_rfl) Tryz.underlying3
def QI(w0:World)(A:List Nat)(sh:Nat)(M:Sm)(occ:Value)(L:lCs)(u:World):Prop:=
 Ext w0 u/\(∀i ∈ A,i<u.heap.size/\i≠sh)/\∃(g s o t:Nat)(F:Nat->Prop),EF F u g s o t M occ L/\Iv u sh g/\¬F sh/\w0.heap.size<=sh/\∀i,F i->w0.heap.size<=i/\i ∉ A
abbrev KpA(A:List Nat)(u u':World):Prop:=∀i ∈ A,u'.heap[i]? =u.heap[i]?
section
variable {w0 u u':World} {A:List Nat} {sh:Nat} {M M':Sm} {occ occ':Value} {L L':lCs}
def QI.ext(h:QI w0 A sh M occ L u)(x:Ext u u'):QI w0 A sh M occ L u'/\KpA A u u':=by obtain ⟨h1,h0,g,s,o,t,F,h2,h3,h4,h5,h6⟩:=h;exact ⟨⟨h1.tr x,λi hi=>⟨gA (h0 i hi).1 x.size,(h0 i hi).2⟩,g,s,o,t,F,h2.ext x,⟨h3.row.ext x⟩,h4,h5,h6⟩,λi hi=>x.heap (h0 i hi).1⟩
def QI.add(h:QI w0 A sh M occ L u)(x:Ext u u'){j:Nat}(hj:u.heap.size<=j)(hj':j<u'.heap.size):QI w0 (j::A) sh M occ L u':=by
 obtain ⟨h1,h0,g,s,o,t,F,h2,h3,h4,h5,h6⟩:=h;have mP:=h3.row.lt;refine ⟨h1.tr x,λi hi=> ?_,g,s,o,t,F,h2.ext x,⟨h3.row.ext x⟩,h4,h5,λi hi=>⟨(h6 i hi).1,λq=> ?_⟩⟩
 ·rcases cj.1 hi with rfl|hi
  ·exact ⟨hj',aa⟩
  ·exact ⟨gA (h0 i hi).1 x.size,(h0 i hi).2⟩
 ·rcases cj.1 q with rfl|q
  ·have:=h2.lt hi;omega
  ·exact (h6 i hi).2 q
def adP(w:World):ae 26 #[] w λe w'=>∃sh,e=Value.pointer (aB sh)/\QI w [] sh (yG 1 9 200000 16) Ug xt w':=by refine (Gr w).mono ?_;rintro e w' ⟨sh,g,s,o,t,F,rfl,h1,h2,h3,h4,h5,h6⟩;exact ⟨sh,rfl,h4,λi hi=>(by cases hi),g,s,o,t,F,h1,h2,h3,h6,λi hi=>⟨h5 i hi,iY⟩⟩
end
abbrev Lv:=lCs
abbrev Out:=ByteArray × Sm × Lv
abbrev k8:ByteArray:=ByteArray.mk #[98,97,100]
structure Mc(k:Nat)(w:World)(F:Nat->Prop)(sh g s o t B ga:Nat)(M:Sm)(occ:Value)(L:Lv)(ws:List ByteArray):Prop where
 e:EF F w g s o t M occ L
 r:Iv w sh g
 a:AG w B ga ws
 f:¬F ga
 n:sh≠ga
 i:Inv k M L
 t:∀u,Mod (λi=>F i\/i=ga) w u->lf u
 z:k<=1000
 q:¬F sh
def MR(k:Nat)(w:World)(ga:Nat)(F:Nat->Prop)(g s o t:Nat)(p:Option Out)(e:Ending)(u:World):Prop:=
 match p with
 |none=>e=H8/\Mod (λi=>i=ga) w u
 |some x=>e=Value.string x.1/\x.1.size<=1000000/\Inv (k+1) x.2.1 x.2.2/\∃v1 occ',Mod (λi=>i=ga) w v1/\dQ F v1 g s o t x.2.1 occ' x.2.2 u
section
variable {k:Nat} {w w' v v' u:World} {F:Nat->Prop} {sh g s o t B ga:Nat} {M M':Sm} {occ occ':Value} {L L':Lv} {ws r:List ByteArray} {T:ByteArray} {e:Ending} {p:Option Out}
def Mc.ef(h:Mc k w F sh g s o t B ga M occ L ws)(m:Mod (λi=>i=ga) w w'):EF F w' g s o t M occ L:=h.e.same λi hi=>m.same i (h.e.lt hi) (λq=>h.f (q▸hi))
def Mc.go(h:Mc k w F sh g s o t B ga M occ L ws)(m:Mod (λi=>i=ga) w w')(a:AG w' B ga r):Mc k w' F sh g s o t B ga M occ L r:=
 ⟨h.ef m,⟨h.r.row.same (m.same sh h.r.row.lt h.n)⟩,a,h.f,h.n,h.i,λu m'=>h.t u ((m.mono λi _ hi=> .inr hi).trans m'),h.z,h.q⟩
def Mc.ext(h:Mc k w F sh g s o t B ga M occ L ws)(x:Ext w w'):Mc k w' F sh g s o t B ga M occ L ws:=h.go (Mod.aq x) (h.a.ext x)
def MR.bad(m:Mod (λi=>i=ga) w u):MR k w ga F g s o t none H8 u:=⟨rfl,m⟩
def MR.TH(hT:T.size<=1000000)(hI:Inv (k+1) M' L')(m:Mod (λi=>i=ga) w v)(hr:dQ F v g s o t M' occ' L' v')(x:Ext v' u):MR k w ga F g s o t (some (T,M',L')) (.returned (.string T)) u:=by obtain ⟨F2,h2,t2⟩:=hr;exact ⟨rfl,hT,hI,v,occ',m,F2,h2.ext x,t2.trans (aI.aq x)⟩
def MR.same(h:Mc k w F sh g s o t B ga M occ L ws)(hT:T.size<=1000000)(m:Mod (λi=>i=ga) w v)(x:Ext v u):MR k w ga F g s o t (some (T,M,L)) (.returned (.string T)) u:=
 MR.TH hT h.i.up m ((h.ef m).res (Ext.bU v)) x
def LS(k:Nat)(w:World)(F:Nat->Prop)(sh:Nat)(M:Sm)(L:Lv)(u:World):Prop:=
 ∃g s o t occ F',EF F' u g s o t M occ L/\Iv u sh g/\¬F' sh/\Mod (λi=>F i\/i=sh) w u/\(∀i,F' i->F i\/w.heap.size<=i)/\Inv k M L
def kG(k:Nat)(line:ByteArray)(M:Sm)(L:Lv)(x:Out):Prop:=
 ∀(w0 w:World)(F:Nat->Prop)(sh g s o t:Nat)(occ:Value),k<=1000->lf w0->Ext w0 w->(∀i,F i->w0.heap.size<=i)->w0.heap.size<=sh->EF F w g s o t M occ L->Iv w sh g->¬F sh->Inv k M L->
  ae 14 #[sh,.string line] w λe u=>e=Value.string x.1/\x.1.size<=1000000/\LS (k+1) w F sh x.2.1 x.2.2 u
def LS.aeH{F':Nat->Prop}(h:SH w F u sh g s o t M occ L F')(hI:Inv k M L):LS k w F sh M L u:=
 ⟨g,s,o,t,occ,F',h.e,h.r,h.n,h.m.mono λi _ hi=> .inl hi,h.f,hI⟩
def MR.out{x0:Out}(h:EF F w g s o t M occ L)(hs:Iv w sh g)(hF:¬F sh)(hI:Inv k M L)(xv:Ext w v)(hga:w.heap.size<ga)(hgv:ga<v.heap.size)(h0:x0=(k8,M,L))(hr:MR k v ga F g s o t p e v'):
  v'.heap[w.heap.size]? =v.heap[w.heap.size]?/\((∃tx,e=Value.string tx/\(tx=(p.getD x0).1/\tx.size<=1000000/\∃occ' F',SH w F v' sh g s o t (p.getD x0).2.1 occ' (p.getD x0).2.2 F'/\¬F' w/\Inv (k+1) (p.getD x0).2.1 (p.getD x0).2.2))\/
   (e=H8/\(k8=(p.getD x0).1/\k8.size<=1000000/\∃occ' F',SH w F v' sh g s o t (p.getD x0).2.1 occ' (p.getD x0).2.2 F'/\¬F' w/\Inv (k+1) (p.getD x0).2.1 (p.getD x0).2.2))):=by
 subst h0;have hFga:¬F ga:=λq=>by have:=h.lt q;omega
 cases p with
 |none=>
  obtain ⟨rfl,m⟩:=hr;have hv:EF F v' g s o t M occ L:=(h.ext xv).same λi hi=>m.same i (by have:=h.lt hi;omega) (λq=>hFga (q▸hi))
  obtain ⟨F',hS,hn,hk⟩:=akJ h hs hF xv hga hgv m (hv.res (Ext.bU _));exact ⟨hk,.inr ⟨rfl,rfl,aw,occ,F',hS,hn,hI.up⟩⟩
 |some x=>
  obtain ⟨rfl,hT,hI',v1,occ',m,bq⟩:=hr;obtain ⟨F',hS,hn,hk⟩:=akJ h hs hF xv hga hgv m bq;exact ⟨hk,.inl ⟨_,rfl,rfl,hT,occ',F',hS,hn,hI'⟩⟩
def WU{w0:World}{G:Nat->Prop}(hT:lf w0)(x:Ext w0 w)(m:Mod G w u)(hG:∀i,G i->w0.heap.size<=i):lf u:=qn hT (m.ext x hG)
def kG.uN{line c:ByteArray}(hl:line.size<=4294967296)(hw:cc line=c::r)(i f:Nat)(hi:uM[i]? =some c)(hv:∀sh c1 c2 c3 c4 c5,(Ef sh [c1,c2,c3,c4,c5])[i]? =some (kD f sh))(hen:∀args w,(callFunc f args).run Tryz.prog w=.ok (.enter f args) w)
  (hcall:∀{w F sh g s o t B ga occ},Mc k w F sh g s o t B ga M occ L r->ae f #[.pointer (aB sh),ga] w (MR k w ga F g s o t p)):
  kG k line M L (p.getD (k8,M,L)):=by
 intro w0 w F sh g s o t occ hk hT hx hF0 hsh0 h hs hF hI;have mP:=hs.row.lt;refine (JI h hs line hl hw i f hi (hv sh) hen (λtx u=>tx=(p.getD (k8,M,L)).1/\tx.size<=1000000/\∃occ' F',SH w F u sh g s o t (p.getD (k8,M,L)).2.1 occ' (p.getD (k8,M,L)).2.2 F'/\¬F' w/\Inv (k+1) (p.getD (k8,M,L)).2.1 (p.getD (k8,M,L)).2.2) ?_ ?_).mono ?_
 ·rintro t' u u' ⟨rfl,hz,occ',F',hS,hn,hI'⟩ hm;exact ⟨rfl,hz,occ',F',hS.put hn aa (ak _) hm,hn,hI'⟩
 ·intro v B ga xv ON hga;have hgl:=ON.lt;have hle:=ON.le;have hz:=hx.size;have hFga:¬F ga:=λq=>by have:=h.lt q;omega
  exact (hcall ⟨h.ext xv,⟨hs.row.ext xv⟩,ON,hFga,aa,hI,λu m=>WU hT (hx.tr xv) m λi hi=>hi.elim (hF0 i) (λq=>by omega),hk,hF⟩).mono λe v' hr=>hr.out h hs hF hI xv hga aa rfl
 ·rintro e w' ⟨t',rfl,rfl,hz,occ',F',hS,-,hI'⟩;exact ⟨rfl,hz,LS.aeH hS hI'⟩
def kG.H8{line:ByteArray}(hl:line.size<=4294967296)(hw:∀c r,cc line=c::r->c ∉ uM):kG k line M L (if cc line=[] then ByteArray.mk #[] else k8,M,L):=by
 intro w0 w F sh g s o t occ hk hT hx hF0 hsh0 h hs hF hI;have mP:=hs.row.lt;have nw:¬F w:=λq=>by have:=h.lt q;omega
 refine (Cu line hl h hs (λtx u=>tx=(if cc line=[] then ByteArray.mk #[] else k8)/\SH w F u sh g s o t M occ L F) ?_ ?_ ?_ ?_).mono ?_
 ·rintro t' u u' ⟨rfl,hS⟩ hm;exact ⟨rfl,hS.put nw aa (ak _) hm⟩
 ·intro h0 u x;exact ⟨by rw [if_pos h0],h.ext x,⟨hs.row.ext x⟩,hF,Mod.aq x,λi hi=> .inl hi⟩
 ·intro c r h1 _ u x;exact ⟨by rw [h1,if_neg bo],h.ext x,⟨hs.row.ext x⟩,hF,Mod.aq x,λi hi=> .inl hi⟩
 ·intro c r i h1 hi;exact absurd (aQ hi) (hw c r h1)
 ·rintro e w' ⟨t',rfl,rfl,hS⟩;exact ⟨rfl,by dsimp only;split<;>decide,LS.aeH hS hI.up⟩
def kG.tbl{line c:ByteArray}(hl:line.size<=4294967296)(hw:cc line=c::r)(j:Nat)(hj:j<5)(hi:uM[j+1]? =some c)(op:Po->Int × Sm)
  (hop:∀{w F g s o t occ},EF F w g s o t M occ L->Inv k M L->k<=1000->∀p:Po,(0<=(op p).1/\(op p).1<14)/\Inv (k+1) (op p).2 L/\bu Tryz.prog (ow (88+j) t) [.agg #[p.1,p.2]] w λe u=>e=Value.int .i64 (op p).1/\dQ F w g s o t (op p).2 occ L u):
  kG k line M L ((match zp r with|some (p,[])=>some (iT (op p).1,(op p).2,L)|_=>none:Option Out).getD (k8,M,L)):=by
 intro w0 w F sh g s o t occ hk hT hx hF0 hsh0 h hs hF hI;have mP:=hs.row.lt;generalize hq:(match zp r with|some (p,[])=>some (iT (op p).1,(op p).2,L)|_=>none:Option Out)=q;refine (Cu line hl h hs (λtx u=>tx=(q.getD (k8,M,L)).1/\tx.size<=1000000/\∃occ' F',SH w F u sh g s o t (q.getD (k8,M,L)).2.1 occ' (q.getD (k8,M,L)).2.2 F'/\¬F' w/\Inv (k+1) (q.getD (k8,M,L)).2.1 (q.getD (k8,M,L)).2.2) ?_ ?_ ?_ ?_).mono ?_
 ·rintro t' u u' ⟨rfl,hz,occ',F',hS,hn,hI'⟩ hm;exact ⟨rfl,hz,occ',F',hS.put hn aa (ak _) hm,hn,hI'⟩
 ·intro h1;rw [hw] at h1
  cases h1
 ·intro c' r' h1 h2;rw [hw] at h1
  cases h1
  exact absurd (aQ hi) h2
 ·intro c' r' i h1 hi' u B ga c1 c2 c3 c4 c5 xu ON hga r1 r2 r3 r4 r5 hcB v hv;rw [hw] at h1
  cases h1
  have hi1:i=j+1:=(List.getElem?_inj (i:=i) (j:=j+1) (cP.1 hi').1 se).1 (hi'.trans hi.symm);subst hi1;obtain ⟨ck,hcv,Tz,hcb⟩:∃ck,aiB ck=v/\Row u ck [ow (88+j) t] 157/\B<=ck:=by
   have:j=0\/j=1\/j=2\/j=3\/j=4:=by omega
   rcases this with rfl|rfl|rfl|rfl|rfl
   ·exact ⟨c1,by simpa [Ef] using hv,r1,hcB.1⟩
   ·exact ⟨c2,by simpa [Ef] using hv,r2,hcB.2.1⟩
   ·exact ⟨c3,by simpa [Ef] using hv,r3,hcB.2.2.1⟩
   ·exact ⟨c4,by simpa [Ef] using hv,r4,hcB.2.2.2.1⟩
   ·exact ⟨c5,by simpa [Ef] using hv,r5,hcB.2.2.2.2⟩
  subst hcv;refine ⟨155,#[],#[.pointer (aB ck)],⟨rfl,λargs w=>cU Tryz.func155 (by kernel_rfl) rfl args w⟩,?_⟩;have hgl:=ON.lt;have hle:=ON.le;have hFga:¬F ga:=λq=>by have:=h.lt q;omega
  show ae 155 #[ga,.pointer (aB ck)] u _;refine RZ ON Tz aa rfl _ ?_ ?_
  ·intro lD u' hm;have e0:q=none:=by
    rw [<-hq];split
    ·rename_i p h1;exact absurd h1 (lD p)
    ·rfl
   rw [e0];exact MR.out (k:=k) (p:=none) h hs hF hI xu hga aa rfl (MR.bad hm)
  ·intro p r'' hp' hr'' u' hm fD;subst hr'';rw [hp'] at hq;simp only at hq;rw [<-hq];have h1:EF F u' g s o t M occ L:=(h.ext xu).same λi hi=>hm.same i (by have:=h.lt hi;have:=xu.size;omega) (λq=>hFga (q▸hi))
   obtain ⟨aAf,hI',aAg⟩:=hop h1 hI hk p;refine bJ aAg ?_;rintro e u2 ⟨rfl,hr⟩;obtain ⟨F2,h2,ht⟩:=hr;have Er:=ht.mod;have hwu:w.heap.size<=u.heap.size:=xu.size;have nF:∀i,w.heap.size<=i->¬F i:=λi hi q=>by have:=h.lt q;omega
   refine ⟨_,iT (op p).1,rfl,λi hi hi2=>Er.same i hi2 (nF i aa),Er.size,λv _=>ql aAf v,fq _,?_⟩;intro v hv;exact MR.out (k:=k) (p:=some (iT (op p).1,(op p).2,L)) h hs hF hI xu hga aa rfl (MR.TH (fq _) hI' hm ⟨F2,h2,ht⟩ hv)
 ·rintro e w' ⟨t',rfl,rfl,hz,occ',F',hS,-,hI'⟩;exact ⟨rfl,hz,LS.aeH hS hI'⟩
end
def EN{a b:List Int}(ha:mK a)(hb:mK b):mK (a++b):=λx hx=>(dp.1 hx).elim (ha x) (hb x)
def WS(n:Int):mK (j7 n):=λx hx=>by
 obtain ⟨q,-,rfl⟩:=bf.1 hx
 exact acD n q
def FG{α:Type}{f:α->List Int}{l:List α}(h:∀x ∈ l,mK (f x)):mK (l.map f).flatten:=λx hx=>by
 obtain ⟨r,hr,hx⟩:=List.mem_flatten.1 hx
 obtain ⟨y,hy,rfl⟩:=bf.1 hr
 exact h y hy x hx
def Ph(l:List Int):mK (qD l):=FG λx _=>WS x
def ahz(n m:Int):mK [n % 256,m % 256]:=λx hx=>by
 simp at hx
 rcases hx with rfl|rfl<;>omega
def WT(M:Sm)(L:lCs):mK (dA M L):=by
 unfold dA gj dV iq;refine EN (EN (EN (WS _) λx hx=> ?_) (FG λx hx=> ?_)) (EN (ahz _ _) (FG λx _=>Ph _))
 ·simp at hx;omega
 ·obtain ⟨i,rfl,hi,y,hy⟩:=zg hx;unfold FH BC;rw [hy];intro z hz;rcases cj.1 hz with rfl|hz
  ·omega
  ·rcases dp.1 hz with hz|hz
   ·exact Ph _ z hz
   ·have:z=stB y.1.fM:=by simpa using hz
    rw [this];unfold stB;split<;>decide
def ahA(M:Sm)(L:lCs):(dA M L).length<=50000:=by have h1:=r6 L (br L);have h2:=uF L;have h3:=Lp (M.q.l.take 2000);rw [cK] at h3;unfold dA gj iq;rw [bY,bY,bY,bY,h3,uG];simp only [cD,kX];omega
section
variable {F F':Nat->Prop} {w w':World} {g s o t m:Nat} {M M':Sm} {occ:Value} {L:lCs}
def DA{ch:List Cg}{T:Tb}{aj limit:Int}(h:WF F w o t aj limit T ch)(hW:T.1.l.length<=900000):
  ae 120 #[t] w λe w'=>e=Value.tuple #[.int .i64 (hZ T.1 T.2).2.1,.int .i64 (hZ T.1 T.2).2.2]/\O6 F w o t aj limit (hZ T.1 T.2).1 ch w':=by
 obtain ⟨F1,hT,-,bq⟩:=h.table;refine (DB hT hW).bj λw' hr=> ?_
 exact ⟨rfl,bq hr⟩
def Pj{ch:List Cg}{T:Tb}{aj limit:Int}(h:WF F w o t aj limit T ch)(hW:T.1.l.length<=1000000)(sl:Sl)(b:List Int)(hs:ji w sl b)(hb:mK b)(hn:b.length<=1099511627776):
  ae 182 #[t,sl] w λe w'=>e=Value.int .i64 (tQ T.1 0 b).2/\O6 F w o t aj limit ((tQ T.1 0 b).1,T.2) ch w':=by
 obtain ⟨F1,hT,-,bq⟩:=h.table;refine (Pk hT hW sl b hs hb hn).bj λw' hr=> ?_
 exact ⟨rfl,bq hr⟩
abbrev akh(M:Sm)(L:lCs):Sm:={M with T:=((tQ M.T.1 0 (dA M L)).1,M.T.2)}
def Ys(h:EF F w g s o t M occ L)(hW:M.T.1.l.length<=1000000):ae 121 #[g] w λe w'=>e=Value.int .i64 (tQ M.T.1 0 (dA M L)).2/\dQ F w g s o t (akh M L) occ L w':=by apply xl.vc;have xd:=Ext.bU w;have hd:=h;obtain ⟨Fs,hs,pO,-,-⟩:=hd.Is;obtain ⟨Fw,hW0,-,-⟩:=hs.world;refine ⟨_,pO,(eN hs).bj λw1 S7=> ?_⟩;subst S7;refine ⟨_,rfl,(jl hW0).bj λw2 yu=> ?_⟩;subst yu;refine ⟨_,rfl,(Pm hd).mono ?_⟩;rintro e w3 ⟨sl,rfl,ho,x3⟩;obtain ⟨Fw3,hW3,bq⟩:=(hd.ext x3).world;have hl:=ahA M L;refine ⟨sl,rfl,(Pj hW3 hW sl (dA M L) (ho.rd aw) (WT M L) aa).bj λw4 hr=> ?_⟩;exact ⟨_,rfl,rfl,dQ.aq (xd.tr x3) (bq hr)⟩
end
def ku(ws:List ByteArray):Option Unit:=if ws=[] then some () else none
def ady(b:Bool):Option Unit:=if b then some () else none
def al9{ws r:List ByteArray}{n:Int}(h:gE ws=some (n,r)): -1000000000000000<n/\n<1000000000000000:=by
 unfold gE at h;split at h
 ·cases h
 ·rename_i t r' _;split at h
  ·rename_i hb;have e:(zT t).1=n:=by cases h;rfl
   rw [<-e];by_cases c:(Oz (bl t)).length<1\/15<(Oz (bl t)).length
   ·rw [zU c];decide
   ·cases hd:uV (Oz (bl t)) with
    |none=>rw [Xo hd];decide
    |some x=>
     obtain ⟨h1,h2⟩:=EV _ rfl hd;have h3:(10:Int) ^(Oz (bl t)).length<=10 ^ 15:=by have:(10:Nat) ^(Oz (bl t)).length<=10 ^ 15:=Nat.pow_le_pow_right aw aa;exact_mod_cast this
     rw [adz c hd];simp only;split<;>omega
  ·cases h
def sB{ws r:List ByteArray}{n:Int}(h:gE ws=some (n,r)):cT n:=by have:=al9 h;unfold cT;omega
def Xb{ws r:List ByteArray}{c:Ce}(h:lG ws=some (c,r)):qT c:=by
 unfold lG at h;split at h
 ·cases h
 ·rename_i x r1 h1;split at h
  ·cases h
  ·rename_i y r2 h2;split at h
   ·cases h
   ·rename_i z r3 h3
    cases h
    exact ⟨sB h1,sB h2,sB h3⟩
structure At(k:Nat)(w0 w:World)(F:Nat->Prop)(sh g s o t B ga:Nat)(M:Sm)(occ:Value)(L:Lv)(ws:List ByteArray)(R:eWp)(p:Option Out):Prop where
 c:Mc k w F sh g s o t B ga M occ L ws
 m:Mod (λi=>i=ga) w0 w
 r:R=MR k w0 ga F g s o t p
section
variable {k:Nat} {w0 w u u':World} {F:Nat->Prop} {sh g s o t B ga:Nat} {M M':Sm} {occ occ':Value} {L L':Lv} {ws:List ByteArray} {R:eWp} {p:Option Out} {T:ByteArray}
def Mc.at(h:Mc k w F sh g s o t B ga M occ L ws)(p:Option Out):At k w w F sh g s o t B ga M occ L ws (MR k w ga F g s o t p) p:=⟨h,Mod.refl _ _,rfl⟩
def At.ext(h:At k w0 w F sh g s o t B ga M occ L ws R p)(x:Ext w u):At k w0 u F sh g s o t B ga M occ L ws R p:=⟨h.c.ext x,h.m.trans (Mod.aq x),h.r⟩
def At.H8(h:At k w0 w F sh g s o t B ga M occ L ws R none)(m:Mod (λi=>i=ga) w u):R H8 u:=by rw [h.r];exact MR.bad (h.m.trans m)
def At.TH(h:At k w0 w F sh g s o t B ga M occ L ws R (some (T,M',L')))(hT:T.size<=1000000)(hI:Inv (k+1) M' L')(hr:dQ F w g s o t M' occ' L' u)(x:Ext u u'):R (.returned (.string T)) u':=by rw [h.r];exact MR.TH hT hI h.m hr x
def At.same(h:At k w0 w F sh g s o t B ga M occ L ws R (some (T,M,L)))(hT:T.size<=1000000)(x:Ext w u):R (.returned (.string T)) u:=by rw [h.r];exact MR.TH hT h.c.i.up h.m (h.c.e.res (Ext.bU w)) x
def At.ld(h:At k w0 w F sh g s o t B ga M occ L ws R p):Vc.ld w (ab (aB sh) 0)=some (.pointer (aB g)):=by rw [aF,h.c.r.row.ld];rfl
def At.aW(h:At k w0 w F sh g s o t B ga M occ L ws R p)(m:Mod (λi=>i=ga) w u){b:Nat}(hb:B<=b)(hl:b<w):u.heap[b]? =w.heap[b]? :=m.same b hl (by have:=h.c.a.lt;omega)
def At.PI(h:At k w0 w F sh g s o t B ga M occ L ws R p)(hr:dQ F w g s o t M' occ' L' u){b:Nat}(hb:B<=b)(hl:b<w)(hf:¬F b):u.heap[b]? =w.heap[b]? :=by obtain ⟨F',-,ht⟩:=hr;exact ht.mod.same b hl hf
def At.le(h:At k w0 w F sh g s o t B ga M occ L ws R p):B<=w:=h.c.a.le
def At.go{q:Option Out}{r:List ByteArray}(h:At k w0 w F sh g s o t B ga M occ L ws R p)(m:Mod (λi=>i=ga) w u)(a:AG u B ga r)(e:p=q):At k w0 u F sh g s o t B ga M occ L r R q:=⟨h.c.go m a,h.m.trans m,e▸h.r⟩
def At.rd{α:Type}{q:α × List ByteArray->Option Out}{a:Option (α × List ByteArray)}{ret:α->Value}{e:Ending}{K:α->Prop}(h:At k w0 w F sh g s o t B ga M occ L ws R (a.bind q))(hp:PR w B ga a ret e u)
  (hy:∀x r,a=some (x,r)->Mod (λi=>i=ga) w u->At k w0 u F sh g s o t B ga M occ L r R (q (x,r))->K x):(e=Go.Proofs.YtjcnjlaelhdjeaaGreatDoor.H8/\R e u)\/∃x,e=(ret x)/\K x:=by
 obtain ⟨m,hp⟩:=hp
 cases a with
 |none=>exact .inl ⟨hp,by rw [hp];exact At.H8 (show At k w0 w F sh g s o t B ga M occ L ws R none from h) m⟩
 |some y=>
  obtain ⟨x,r⟩:=y;exact .inr ⟨x,hp.1,hy x r rfl m (h.go m hp.2 rfl)⟩
def At.num{K:Int->wPp}{q:Int × List ByteArray->Option Out}(h:At k w0 w F sh g s o t B ga M occ L ws R ((gE ws).bind q))(hy:∀x r u,gE ws=some (x,r)->Mod (λi=>i=ga) w u->At k w0 u F sh g s o t B ga M occ L r R (q (x,r))->K x u):
  ae 152 #[ga] w λe u=>ID R e u (∃x:Int,e=Value.int .i64 x/\K x u):=by
 refine (lh h.c.a).mono λe u hp=> ?_
 rcases h.rd hp (K:=λx=>K x u) (λx r h1 h2 h3=>hy x r u h1 h2 h3) with ⟨rfl,q⟩|⟨x,rfl,q⟩
 ·exact q
 ·exact ⟨x,rfl,q⟩
def At.aX{K:Int->wPp}{q:Int × List ByteArray->Option Out}(h:At k w0 w F sh g s o t B ga M occ L ws R ((Zn ws).bind q))(hy:∀x r u,Zn ws=some (x,r)->Mod (λi=>i=ga) w u->At k w0 u F sh g s o t B ga M occ L r R (q (x,r))->K x u):
  ae 168 #[ga] w λe u=>ID R e u (∃x:Int,e=Value.int .i64 x/\K x u):=by
 refine (adA h.c.a).mono λe u hp=> ?_
 rcases h.rd hp (K:=λx=>K x u) (λx r h1 h2 h3=>hy x r u h1 h2 h3) with ⟨rfl,q⟩|⟨x,rfl,q⟩
 ·exact q
 ·exact ⟨x,rfl,q⟩
def At.word{K:ByteArray->wPp}{q:ByteArray × List ByteArray->Option Out}(h:At k w0 w F sh g s o t B ga M occ L ws R ((C6 ws).bind q))(hy:∀x r u,C6 ws=some (x,r)->Mod (λi=>i=ga) w u->At k w0 u F sh g s o t B ga M occ L r R (q (x,r))->K x u):
  ae 53 #[ga] w λe u=>ID R e u (∃x:ByteArray,e=Value.string x/\K x u):=by
 refine (vJ h.c.a).mono λe u hp=> ?_
 rcases h.rd hp (K:=λx=>K x u) (λx r h1 h2 h3=>hy x r u h1 h2 h3) with ⟨rfl,q⟩|⟨x,rfl,q⟩
 ·exact q
 ·exact ⟨x,rfl,q⟩
def At.pos{K:Int->Int->wPp}{q:(Int × Int) × List ByteArray->Option Out}(h:At k w0 w F sh g s o t B ga M occ L ws R ((zp ws).bind q))(hy:∀x z r u,zp ws=some ((x,z),r)->Mod (λi=>i=ga) w u->At k w0 u F sh g s o t B ga M occ L r R (q ((x,z),r))->K x z u):
  ae 156 #[ga] w λe u=>ID R e u (∃x z:Int,e=Value.agg #[.int .i64 x,.int .i64 z]/\K x z u):=by
 refine (QA h.c.a).mono λe u hp=> ?_
 rcases h.rd hp (K:=λx=>K x.1 x.2 u) (λx r h1 h2 h3=>hy x.1 x.2 r u h1 h2 h3) with ⟨rfl,q⟩|⟨x,rfl,q⟩
 ·exact q
 ·exact ⟨x.1,x.2,rfl,q⟩
def At.vec{K:Int->Int->Int->wPp}{q:(Int × Int × Int) × List ByteArray->Option Out}(h:At k w0 w F sh g s o t B ga M occ L ws R ((lG ws).bind q))(hy:∀x y z r u,lG ws=some ((x,y,z),r)->Mod (λi=>i=ga) w u->At k w0 u F sh g s o t B ga M occ L r R (q ((x,y,z),r))->K x y z u):
  ae 166 #[ga] w λe u=>ID R e u (∃x y z:Int,e=Value.agg #[.int .i64 x,.int .i64 y,.int .i64 z]/\K x y z u):=by
 refine (QB h.c.a).mono λe u hp=> ?_
 rcases h.rd hp (K:=λx=>K x.1 x.2.1 x.2.2 u) (λx r h1 h2 h3=>hy x.1 x.2.1 x.2.2 r u h1 h2 h3) with ⟨rfl,q⟩|⟨x,rfl,q⟩
 ·exact q
 ·exact ⟨x.1,x.2.1,x.2.2,rfl,q⟩
def At.cell{K:Int->Int->Int->wPp}{q:(Int × Int × Int) × List ByteArray->Option Out}(h:At k w0 w F sh g s o t B ga M occ L ws R ((lG ws).bind q))(hy:∀x y z r u,lG ws=some ((x,y,z),r)->Mod (λi=>i=ga) w u->At k w0 u F sh g s o t B ga M occ L r R (q ((x,y,z),r))->K x y z u):
  ae 169 #[ga] w λe u=>ID R e u (∃x y z:Int,e=Value.agg #[.int .i64 x,.int .i64 y,.int .i64 z]/\K x y z u):=by
 refine (J8 h.c.a).mono λe u hp=> ?_
 rcases h.rd hp (K:=λx=>K x.1 x.2.1 x.2.2 u) (λx r h1 h2 h3=>hy x.1 x.2.1 x.2.2 r u h1 h2 h3) with ⟨rfl,q⟩|⟨x,rfl,q⟩
 ·exact q
 ·exact ⟨x.1,x.2.1,x.2.2,rfl,q⟩
def At.fin{K:wPp}{q:Unit->Option Out}(h:At k w0 w F sh g s o t B ga M occ L ws R ((ku ws).bind q))(hy:ws=[]->At k w0 w F sh g s o t B ga M occ L [] R (q ())->K w):
  ae 153 #[ga] w λe u=>ID R e u (e=pH/\K u):=by
 refine (rj h.c.a).mono ?_;rintro e u ⟨e0,he⟩;rw [e0];by_cases hr:ws=[]
 ·subst hr;rw [if_pos rfl] at he;subst he;exact ⟨rfl,hy rfl ⟨h.c,h.m,h.r⟩⟩
 ·rw [if_neg hr] at he;subst he;have e1:(ku ws).bind q=none:=by unfold ku;rw [if_neg hr];rfl
  rw [e1] at h;exact h.H8 (Mod.refl _ _)
def At.ama{K:wPp}{q:Unit->Option Out}{b b':Bool}(h:At k w0 w F sh g s o t B ga M occ L ws R ((ady b').bind q))(hb:b=b')(hy:b=true->At k w0 w F sh g s o t B ga M occ L ws R (q ())->K w):
  ae 54 #[b] w λe u=>ID R e u (e=pH/\K u):=by
 subst hb;refine (ml b w).mono ?_;rintro e u ⟨he,e0⟩;rw [e0]
 cases b with
 |true=>
  rw [if_pos rfl] at he;subst he;exact ⟨rfl,hy rfl ⟨h.c,h.m,h.r⟩⟩
 |false=>
  rw [if_neg aw] at he;subst he;exact At.H8 (show At k w0 w F sh g s o t B ga M occ L ws R none from h) (Mod.refl _ _)
end
abbrev byR(l:List Int):List (LV):=l.map λb=> [.int .u8 b]
abbrev tBy:TypeId:=43
structure Xp(w0 w:World)(gb:Nat)(s:Sl)(l:List Int):Prop where
 x:Ext w0 w
 lt:w0.heap.size<=gb
 row:Row w gb [s] tBy
 rd:dB w0 s 1 (byR l)
 nc:s.n<=s.c
 by_:mK l
def Xp.ext{w0 w w':World}{gb:Nat}{s:Sl}{l:List Int}(h:Xp w0 w gb s l)(x:Ext w w'):Xp w0 w' gb s l:=⟨h.x.tr x,h.lt,h.row.ext x,h.rd,h.nc,h.by_⟩
def Xp.n{w0 w:World}{gb:Nat}{s:Sl}{l:List Int}(h:Xp w0 w gb s l):s.n=l.length:=by rw [h.rd.n,aJ]
def aiX{l:List Int}(h:mK l){k:Nat}(hk:k<=5):0<=eC (l.take k)/\eC (l.take k)<1099511627776:=by
 have q:=N4 h k;have:(256:Int) ^ k<=256 ^ 5:=by rcases (show k=0\/k=1\/k=2\/k=3\/k=4\/k=5 by omega) with rfl|rfl|rfl|rfl|rfl|rfl<;>decide
 have e:(256:Int) ^ 5=1099511627776:=by decide
 omega
def Sy{w0 w:World}{gb gf:Nat}{s:Sl}{x l:List Int}(h:Xp w0 w gb s (x++l))(hk:x.length<=6):ae 304 #[(x.length:Int),gb,gf] w λe w'=>
  e=Value.int .i64 (eC x)/\Mod (λi=>i=gb) w w'/\∃s',Xp w0 w' gb s' l:=by
 apply IK.vc;have hn:s.n=x.length+l.length:=by rw [h.n,bY]
 have Ib:=h.nc;have hzx:=h.x.size;have fD:=h.row.lt;refine ⟨λu=>u=w,⟨s,h.row.at 0 rfl,BK (decide_eq_false aa) rfl⟩,?_⟩;rintro us w5 rfl;have hrw:=h.rd.ext h.x;have mH:dB w5 ⟨aE s.a 0 s.c 1,x.length,s.c⟩ 1 (byR x):=by
  have q:=hrw.cut (m:=x.length) (c':=s.c) (c'':=s.c) (by rw [aJ,bY];omega);have e:(byR (x++l)).take x.length=byR x:=by show ((x++l).map _).take x.length=_;rw [<-List.map_take,List.take_left]
  rw [e] at q;exact q
 have EH:mK x:=λc hc=>h.by_ c (G5 _ hc)
 refine ⟨s,h.row.at 0 rfl,aa,aa,λn i acc u=>∃j:Nat,i=j/\j+n=x.length/\acc=eC (x.take j)/\u=w5,⟨x.length,0,rfl,aa,rfl,rfl⟩,?_⟩;rintro n us i acc u ⟨j,rfl,hj,rfl,rfl⟩;have e0:((x.length:Int).toNat-0:Nat)=x.length:=by omega
 rw [e0];apply Br.mk<;>intro hq
 ·have hq:=fC hq;obtain ⟨c,hc⟩:=bZ (l:=x) (i:=j) aa;have hcb:=EH c (aQ hc);have dh:(byR x)[j]? =some [.int .u8 c]:=by rw [aZ,hc];rfl
  have q:=mH.at dh (j:=0) (v:=.int .u8 c) rfl;rw [fG] at q;have pE:gJ (aE s.a 0 s.c 1) (j:Int) x.length:=mH.j2 aw aa hq;have hb5:=aiX EH (k:=j) aa;have e8:(2:Int) ^ min (8:Int).toNat 64=256:=by decide
  refine ⟨pE,c,q,n-1,aa,j+1,by rw [wI];omega,aa,?_,rfl⟩;rw [e8,wI,wI,Sc aa hcb,dq,hc];exact (HE _ _).symm
 ·have hq:=fC hq;obtain rfl:j=x.length:=by omega
  obtain ⟨p1,p2⟩:=h.row.fF (j:=0) (v:=.slice (aE s.a ((x.length:Int).toNat) s.c 1) (s.n-(x.length:Int).toNat) (s.c-(x.length:Int).toNat)) (Nat.zero_lt_one) rfl;rw [fG] at p1 p2;refine ⟨s,h.row.at 0 rfl,aa,aa,⟨rfl,p1⟩,λcp CE=> ?_⟩;obtain ⟨q1,q2⟩:=p2 cp CE;rw [kA];refine ⟨rfl,q2,⟨aE s.a ((x.length:Int).toNat) s.c 1,s.n-(x.length:Int).toNat,s.c-(x.length:Int).toNat⟩,q2.ext h.x λi hi=>by rw [hi];exact h.lt,h.lt,q1,?_,by simp only;omega,λc hc=>h.by_ c (C8 _ hc)⟩;have q:=h.rd.rest (l:=x.length) (m:=s.c) (n':=s.n-x.length) (c':=s.c-x.length) (by rw [aJ,bY];omega) (λe=>by rw [aJ,bY];omega);have e:(byR (x++l)).drop x.length=byR l:=by show ((x++l).map _).drop x.length=_;rw [<-List.map_drop,List.drop_left]
  rw [e] at q;rw [gZ];exact q
def aiY{n:Int}(h: -140737488355328<=n/\n<140737488355328):eC (j7 n)=n % 281474976710656:=by have e:j7 n=[Xw n 0,Xw n 1,Xw n 2,Xw n 3,Xw n 4,Xw n 5]:=rfl;rw [e];unfold eC Xw;simp only [pq,List.foldl_nil];omega
abbrev smF(gb gf:Nat):Value:=.func (.func 304) #[] #[gb,gf]
abbrev nmF(gs:Nat):Value:=.func (.func 305) #[] #[gs]
structure Cx(w:World)(gb gf gs gn:Nat):Prop where
 s:∃τ,Row w gs [smF gb gf] τ
 n:∃τ,Row w gn [nmF gs] τ
 d:gb≠gs/\gb≠gn
def Cx.mod{w w':World}{gb gf gs gn:Nat}(h:Cx w gb gf gs gn)(m:Mod (λi=>i=gb) w w'):Cx w' gb gf gs gn:=by obtain ⟨⟨τ,h1⟩,⟨τ',h2⟩,h3⟩:=h;exact ⟨⟨τ,m.row h1 (Ne.symm h3.1)⟩,⟨τ',m.row h2 (Ne.symm h3.2)⟩,h3⟩
def Cx.ext{w w':World}{gb gf gs gn:Nat}(h:Cx w gb gf gs gn)(x:Ext w w'):Cx w' gb gf gs gn:=by obtain ⟨⟨τ,h1⟩,⟨τ',h2⟩,h3⟩:=h;exact ⟨⟨τ,h1.ext x⟩,⟨τ',h2.ext x⟩,h3⟩
section
variable {w0 w:World} {gb gf gs gn:Nat} {s:Sl} {l:List Int}
def Rds(w0 w:World)(gb:Nat)(l:List Int)(w':World):Prop:=Mod (λi=>i=gb) w w'/\∃s',Xp w0 w' gb s' l
def HO{x:List Int}(h:Xp w0 w gb s (x++l))(hk:x.length<=6):bu Tryz.prog (smF gb gf) [(x.length:Int)] w λe w'=>e=Value.int .i64 (eC x)/\Rds w0 w gb l w':=
 bV (by kernel_rfl) rfl (Sy h hk)
def aa2(hc:Cx w gb gf gs gn){n:Int}(hn: -140737488355328<=n/\n<140737488355328)(h:Xp w0 w gb s (j7 n++l)):ae 305 #[gs] w λe w'=>e=n/\Rds w0 w gb l w':=by
 apply IL.vc;obtain ⟨τ,hs⟩:=hc.s;refine ⟨_,hs.at 0 rfl,?_⟩;refine (λR' k=>bJ (R':=R') (HO (gf:=gf) (x:=j7 n) h (by rw [uG];decide)) k) _ ?_;rintro e w1 ⟨rfl,hr⟩;have e1:=aiY hn;refine ⟨_,rfl,λx u=>x=n/\u=w1,Br.mk (λhq=>⟨?_,rfl⟩) (λhq=>⟨?_,rfl⟩),?_⟩
 ·have hq:=fC hq;rw [wI];omega
 ·have hq:=fC hq;omega
 ·rintro us x u ⟨rfl,rfl⟩;exact ⟨rfl,hr⟩
def uX(hc:Cx w gb gf gs gn){n:Int}(hn: -140737488355328<=n/\n<140737488355328)(h:Xp w0 w gb s (j7 n++l)):bu Tryz.prog (nmF gs) [] w λe w'=>e=n/\Rds w0 w gb l w':=
 bV (by kernel_rfl) rfl (aa2 hc hn h)
def zY(n:Int):Prop:= -140737488355328<=n/\n<140737488355328
def aa3(hc:Cx w gb gf gs gn){v:Ce}(hv:zY v.1/\zY v.2.1/\zY v.2.2)(h:Xp w0 w gb s (j7 v.1++(j7 v.2.1++(j7 v.2.2++l)))):ae 306 #[gn] w λe w'=>e=(gg v)/\Rds w0 w gb l w':=by
 apply IM.vc;intro v0 e0;have x0:Ext w v0.drew:=(aV e0).drew;have z0:=zA e0;have zd:=oa v0;have hgb:=h.row.lt;have Eo:=hc.ext x0;obtain ⟨τ,hn0⟩:=Eo.n;refine ⟨_,hn0.at 0 rfl,_,hn0.at 0 rfl,?_⟩;refine (λR' k=>bJ (R':=R') (uX Eo hv.1 (h.ext x0)) k) _ ?_;rintro e w3 ⟨rfl,m3,s3,h3⟩;have z3:=m3.size;have K9:=Eo.mod m3;obtain ⟨τ3,hn3⟩:=K9.n;refine ⟨_,rfl,m3.same _ aa aa,Lo.wv hn3,?_⟩;refine (λR' k=>bJ (R':=R') (uX K9 hv.2.1 h3) k) _ ?_;rintro e w5 ⟨rfl,m5,s5,h5⟩;have z5:=m5.size;have hc5:=K9.mod m5;obtain ⟨τ5,hn5⟩:=hc5.n;refine ⟨_,rfl,m5.same _ aa aa,_,hn5.at 0 rfl,?_⟩;refine (λR' k=>bJ (R':=R') (uX hc5 hv.2.2 h5) k) _ ?_;rintro e w8 ⟨rfl,m8,s8,h8⟩;have z8:=m8.size;refine ⟨_,rfl,m8.same _ aa aa,λbc vy=>⟨rfl,?_,s8,?_⟩⟩
 ·have m10:Mod (λi=>i=w.heap.size) w8 bc:=⟨by rw [vy];rfl,by rw [vy];rfl,by rw [vy];rfl,by rw [vy,setRow_size];exact ak _,λi _ hn=>by rw [vy];exact setRow_other _ _ _ _ hn⟩;have mm:=(((Mod.aq x0:Mod (λi=>i=gb) w v0.drew).trans m3).trans m5).trans m8;exact ⟨m10.os.trans mm.os,m10.tape.trans mm.tape,m10.output.trans mm.output,c8 mm.size m10.size,λi hi hn=>(m10.same i (gA hi mm.size) aa).trans (mm.same i hi hn)⟩
 ·have xs:Ext w bc\/True:=.inr trivial;refine ⟨?_,h8.lt,h8.row.same (by rw [vy];exact setRow_other _ _ _ _ aa),h8.rd,h8.nc,h8.by_⟩;exact h8.x.af vy (c8 h.x.size (ak _))
end
abbrev Ub:TypeId:=292
abbrev Zs(y:cS):cS:=(y.1,(0,0,false))
def wF(L:lCs)(done:List Int):lCs:=(List.range 16).map λi:Nat=>if (i:Int) ∈ done then (cG L i).map Zs else none
def Mx(L:lCs)(d:List Int):(wF L d).length=16:=by unfold wF;rw [aJ,Gs]
def QD{L:lCs}{d:List Int}{i:Nat}(h:i<16):(wF L d)[i]? =some (if (i:Int) ∈ d then (cG L i).map Zs else none):=by unfold wF;rw [aZ,Fu h];rfl
def amd{L:lCs}{d:List Int}{i:Nat}{y:cS}(h:i<16)(hy:cG L (i:Nat)=some y):(wF L d).set i (some (Zs y))=wF L (d++ [(i:Int)]):=by
 refine jK λj=> ?_
 rcases iW j 16 with hj|hj
 ·rw [iX,Mx];split
  ·rename_i e;subst e;rw [QD hj,if_pos (C8 _ (gU.2 rfl)),hy];rfl
  ·rename_i e;rw [QD hj,QD hj];have:((j:Int) ∈ d++ [(i:Int)])=((j:Int) ∈ d):=by rw [dp,gU];exact propext ⟨λq=>q.resolve_right aa,.inl⟩
   simp only [this]
 ·rw [j4 (by rw [lU,Mx];omega),j4 (by rw [Mx];omega)]
structure RS(w0 w:World)(gb gq gf gs gn gr:Nat)(now:Int)(av:List (Option Nat))(P:lCs)(sl:Sl)(l:List Int):Prop where
 r:∃s,Xp w0 w gb s l
 c:Cx w gb gf gs gn
 f:Row w gf [.bool true] 4
 q:∃cs,cs.length=18/\Row w gq cs Ub
 g:Row w gr (.int .i64 now::(av.map pA++ [Value.slice sl.a sl.n sl.c])) Ub
 e:EL w av P
 o:w0.heap.size<=gb/\gb<gq/\gq<gf/\gf<gs/\gs<gn/\gn<gr
 a:∀a,some a ∈ av->gr<a
section
variable {w0 w w':World} {gb gq gf gs gn gr:Nat} {now:Int} {av:List (Option Nat)} {P:lCs} {sl:Sl} {l l':List Int}
def RS.ext(h:RS w0 w gb gq gf gs gn gr now av P sl l)(x:Ext w w'):RS w0 w' gb gq gf gs gn gr now av P sl l:=by obtain ⟨⟨s,h1⟩,h2,h3,⟨cs,hc,h4⟩,h5,h6,h7,h8⟩:=h;exact ⟨⟨s,h1.ext x⟩,h2.ext x,h3.ext x,⟨cs,hc,h4.ext x⟩,h5.ext x,h6.same λa ha=>x.heap (h6.lt ha),h7,h8⟩
def RS.rds(h:RS w0 w gb gq gf gs gn gr now av P sl l)(k:Rds w0 w gb l' w'):RS w0 w' gb gq gf gs gn gr now av P sl l':=by obtain ⟨-,h2,h3,⟨cs,hc,h4⟩,h5,h6,h7,h8⟩:=h;obtain ⟨m,hr⟩:=k;exact ⟨hr,h2.mod m,m.row h3 aa,⟨cs,hc,m.row h4 aa⟩,m.row h5 aa,h6.same λa ha=>m.same a (h6.lt ha) (by have:=h8 a ha;omega),h7,h8⟩
def RS.x0(h:RS w0 w gb gq gf gs gn gr now av P sl l):Ext w0 w:=by obtain ⟨s,q⟩:=h.r;exact q.x
def RS.own(h:RS w0 w gb gq gf gs gn gr now av P sl l){k:Nat}{cs:LV}(hk:gr<k)(hn:some k ∉ av)(e:w'=w.setRow k cs.toArray):RS w0 w' gb gq gf gs gn gr now av P sl l:=by
 have m:∀i,i≠k->w'.heap[i]? =w.heap[i]? :=λi hi=>by rw [e];exact setRow_other _ _ _ _ hi
 have hx:=h.x0;obtain ⟨⟨s,h1⟩,⟨⟨τ,c1⟩,⟨τ',c2⟩,c3⟩,h3,⟨cs',hc,h4⟩,h5,h6,h7,h8⟩:=h;exact ⟨⟨s,h1.x.af e aa,h1.lt,h1.row.same (m _ aa),h1.rd,h1.nc,h1.by_⟩,⟨⟨τ,c1.same (m _ aa)⟩,⟨τ',c2.same (m _ aa)⟩,c3⟩,h3.same (m _ aa),⟨cs',hc,h4.same (m _ aa)⟩,h5.same (m _ aa),h6.same λa ha=>m a λq=>hn (q▸ha),h7,h8⟩
def RS.amc(h:RS w0 w gb gq gf gs gn gr now av P sl l):Wr w (aB gf) 1/\∀u,u=bC w (aB gf) [.bool true]->RS w0 u gb gq gf gs gn gr now av P sl l/\Mod (λi=>i=gf) w u:=by obtain ⟨p1,p2⟩:=h.f.fF (j:=0) (v:=.bool true) Nat.zero_lt_one rfl;rw [fG] at p1 p2;refine ⟨p1,λu eu=> ?_⟩;obtain ⟨q1,q2⟩:=p2 u eu;obtain ⟨⟨s,h1⟩,⟨⟨τ,c1⟩,⟨τ',c2⟩,c3⟩,h3,⟨cs',hc,h4⟩,h5,h6,h7,h8⟩:=h;exact ⟨⟨⟨s,q2.ext h1.x λi hi=>by omega,h1.lt,q2.row h1.row aa,h1.rd,h1.nc,h1.by_⟩,⟨⟨τ,q2.row c1 aa⟩,⟨τ',q2.row c2 aa⟩,c3⟩,q1,⟨cs',hc,q2.row h4 aa⟩,q2.row h5 aa,h6.same λa ha=>q2.same a (h6.lt ha) (by have:=h8 a ha;omega),h7,h8⟩,q2⟩
def RS.put(h:RS w0 w gb gq gf gs gn gr now av P sl l){i k:Nat}{y:cS}(hi:i<16)(hr:Row w k (Gb y) kc)(hk:gr<k)(hn:some k ∉ av)(hz:av[i]? =some none):
  Wr w (ab (jS gr 1) (i*1)) 1/\∀u,u=bC w (ab (jS gr 1) (i*1)) [k]->RS w0 u gb gq gf gs gn gr now (av.set i (some k)) (P.set i (some y)) sl l:=by
 obtain ⟨⟨s,h1⟩,⟨⟨τ,c1⟩,⟨τ',c2⟩,c3⟩,h3,⟨cs',hc,h4⟩,h5,h6,h7,h8⟩:=h;have hl:(av.map pA).length=16:=by rw [aJ,h6.n]
 obtain ⟨p1,p2⟩:=h5.fF (j:=i+1) (v:=.pointer (aB k)) (by rw [cD,bY,hl];simp only [cD,kX];omega) rfl;have e:ab (jS gr 1) (i*1)=ab (aB gr) (i+1):=by rw [aF,aF,show 1+i*1=0+(i+1) from by omega]
 rw [e];refine ⟨p1,λu eu=> ?_⟩;obtain ⟨q1,q2⟩:=p2 u eu;have e2:putCells (Value.int .i64 now::(av.map pA++ [Value.slice sl.a sl.n sl.c])) (i+1) [k]=.int .i64 now::((av.set i (some k)).map pA++ [Value.slice sl.a sl.n sl.c]):=by show List.set _ _ _=_;rw [akC,List.set_append_left _ _ (by rw [hl];exact hi),pW];rfl
 rw [e2] at q1;have hkk:k≠gr:=by omega
 refine ⟨⟨s,q2.ext h1.x λi hi=>by omega,h1.lt,q2.row h1.row aa,h1.rd,h1.nc,h1.by_⟩,⟨⟨τ,q2.row c1 aa⟩,⟨τ',q2.row c2 aa⟩,c3⟩,q2.row h3 aa,⟨cs',hc,q2.row h4 aa⟩,q1,?_,h7,λa ha=> ?_⟩
 ·have h6':EL u av P:=h6.same λa ha=>q2.same a (h6.lt ha) (by have:=h8 a ha;omega)
  refine ⟨by rw [lU];exact h6.n,by rw [lU];exact h6.m,λj a hj=> ?_,λj hj=> ?_,λj j' a hj hj'=> ?_⟩
  ·rw [iX] at hj ⊢;split at hj
   ·rename_i e;subst e;rw [h6.n,if_pos hi] at hj;injection hj with hj;injection hj with hj;subst hj;rw [if_pos rfl,h6.m,if_pos hi];exact ⟨y,rfl,q2.row hr hkk⟩
   ·rename_i e;rw [if_neg e];exact h6'.s j a hj
  ·rw [iX] at hj ⊢;split at hj
   ·rw [h6.n,if_pos hi] at hj;injection hj with hj
    cases hj
   ·rename_i e;rw [if_neg e];exact h6'.z j hj
  ·have fr:∀j,av[j]?≠some (some k):=λj q=>hn (aQ q)
   rw [iX] at hj hj';split at hj<;>split at hj'
   ·omega
   ·rw [h6.n,if_pos hi] at hj;injection hj with hj;injection hj with hj;subst hj;exact absurd hj' (fr _)
   ·rw [h6.n,if_pos hi] at hj';injection hj' with hj';injection hj' with hj';subst hj';exact absurd hj (fr _)
   ·exact h6.d j j' a hj hj'
 ·obtain ⟨j,hj⟩:=qI ha;rw [iX] at hj;split at hj
  ·rw [h6.n,if_pos hi] at hj;injection hj with hj;injection hj with hj;omega
  ·exact h8 a (aQ hj)
end
section
variable {w0 w w':World} {gb gq gf gs gn gr:Nat} {now:Int} {av:List (Option Nat)} {P:lCs} {sl:Sl} {l l':List Int} {R:eWp}
def RS.sm1{i:Int}(h:RS w0 w gb gq gf gs gn gr now av P sl (i::l))(k:∀w',RS w0 w' gb gq gf gs gn gr now av P sl l->Mod (λi=>i=gb) w w'->R (.returned (.int .i64 i)) w'):
  ∃v,Vc.ld w (aB gs)=some v/\bu Tryz.prog v [(1:Int)] w R:=by
 obtain ⟨s,hr⟩:=h.r;obtain ⟨τ,hs⟩:=h.c.s;refine ⟨_,hs.at 0 rfl,(bJ (HO (gf:=gf) (x:=[i]) hr bo) ?_:bu Tryz.prog (smF gb gf) [.int .i64 (([i]:List Int).length:Int)] w R)⟩;rintro e u ⟨rfl,hu⟩;have:eC [i]=i:=by unfold eC;simp
 rw [this];exact k u (h.rds hu) hu.1
def RS.sm2{i j:Int}(h:RS w0 w gb gq gf gs gn gr now av P sl (i::j::l))(k:∀w',RS w0 w' gb gq gf gs gn gr now av P sl l->Mod (λi=>i=gb) w w'->R (.returned (.int .i64 (i*256+j))) w'):
  ∃v,Vc.ld w (aB gs)=some v/\bu Tryz.prog v [(2:Int)] w R:=by
 obtain ⟨s,hr⟩:=h.r;obtain ⟨τ,hs⟩:=h.c.s;refine ⟨_,hs.at 0 rfl,(bJ (HO (gf:=gf) (x:=[i,j]) hr bo) ?_:bu Tryz.prog (smF gb gf) [.int .i64 (([i,j]:List Int).length:Int)] w R)⟩;rintro e u ⟨rfl,hu⟩;have:eC [i,j]=i*256+j:=by unfold eC;simp
 rw [this];exact k u (h.rds hu) hu.1
def RS.num{n:Int}(hn:zY n)(h:RS w0 w gb gq gf gs gn gr now av P sl (j7 n++l))(k:∀w',RS w0 w' gb gq gf gs gn gr now av P sl l->Mod (λi=>i=gb) w w'->R (.returned n) w'):
  ∃v,Vc.ld w (aB gn)=some v/\bu Tryz.prog v [] w R:=by
 obtain ⟨s,hr⟩:=h.r;obtain ⟨τ,hs⟩:=h.c.n;refine ⟨_,hs.at 0 rfl,bJ (uX h.c hn hr) ?_⟩;rintro e u ⟨rfl,hu⟩;exact k u (h.rds hu) hu.1
def RS.gL{v:Ce}(hv:zY v.1/\zY v.2.1/\zY v.2.2)(h:RS w0 w gb gq gf gs gn gr now av P sl (j7 v.1++(j7 v.2.1++(j7 v.2.2++l))))(k:∀w',RS w0 w' gb gq gf gs gn gr now av P sl l->Mod (λi=>i=gb) w w'->R (.returned (gg v)) w'):
  ae 306 #[gn] w R:=by
 obtain ⟨s,hr⟩:=h.r;refine (aa3 h.c hv hr).bj λu hu=> ?_
 exact k u (h.rds hu) hu.1
def Zr(L:lCs):(br L).Pairwise (·<·):=by unfold br;rw [List.pairwise_map];exact ((List.pairwise_lt_range (n:=16)).filter _).imp λq=>by omega
def RS.free{L:lCs}{d:List Int}{i:Nat}(h:RS w0 w gb gq gf gs gn gr now av (wF L d) sl l)(hi:i<16)(hd:(i:Int) ∉ d):av[i]? =some none:=by
 have hn:=h.e.n;obtain ⟨o,ho⟩:=bZ (l:=av) (i:=i) aa
 cases o with
 |none=>exact ho
 |some a=>
  obtain ⟨x,q,-⟩:=h.e.s i a ho;rw [QD hi,if_neg hd] at q
  cases q
end
end Go.Proofs.YtjcnjlaelhdjeaaGreatDoor
