import Derived.Test.YtjcnjlaelhdjeaaGreatDoorJ
import Derived.Test.YtjcnjlaelhdjeaaGreatDoorD
import Derived.Test.YtjcnjlaelhdjeaaGreatDoorK
import Derived.Test.YtjcnjlaelhdjeaaGreatDoorI
import Derived.Tactics
import Derived.Tactics2
import Derived.Defers
import Derived.Recover
import Derived.Laws.Pointers
import Derived.Test.YtjcnjlaelhdjeaaGreatDoorG
import Derived.Shelf.Strings.Builder1
import Derived.Test.YtjcnjlaelhdjeaaGreatDoorE
import Derived.Shelf.Vars
set_option linter.all false
namespace Go.Proofs.YtjcnjlaelhdjeaaGreatDoor
open Go Go.Vc Go.RowKit Go.Proofs Go.iG
set_option maxRecDepth 100000
set_option maxHeartbeats 8000000
def R4(c:Int)(w:World):kh 65 #[.int .i32 c] w (Value.bool (c==32)):=by apply Jf.vc;exact⟨rfl,rfl⟩
def j5{f:FuncId}{fn:Func}{c:Code}(hf:Tryz.prog.funcs[f]? =some fn)(hname:(fn.name== "runtime.NumGoroutine")=false) (hb:fn.body=some c) (args:Array Value) (w:World):(callFunc f args).run Tryz.prog w=.ok (.enter f args) w:=by
 have h1:fn.name≠ "runtime.NumGoroutine":=by simpa using hname
 simp[callFunc,hf,h1,hb]
def HH(s:ByteArray)(w:World)(hs:s.size<=4294967296):ab 31 #[.string s] w λe w'=>∃sl:Sl,e=sl/\RdK w' sl 1 ((cT s).map sv)/\sl.n<=sl.c/\(∀i,sl.aX=some i->w.heap.size<=i/\i<w'.heap.size)/\Ext w w':=by
 apply Q5.vc;refine(Tryz.strings_FieldsFunc_grows 65 #[] (λargs w=>j5 Tryz.func65 (by kernel_rfl) rfl args w) aiZ s w hs ?_).mono ?_
 ·intro W x hx hb;refine(R4 x W).eL ?_;refine⟨?_,Below.refl _ _⟩;have:(((x:Nat):Int)==32)=aiZ x:=by unfold aiZ;rw[Bool.eq_iff_iff,beq_iff_eq,beq_iff_eq];omega
  rw[this]
 ·rintro _ w' ⟨A,rfl,hA,lF,hb⟩;have hl:A<w'.heap.size:=by
   obtain⟨-,h⟩:=lF;rcases h with⟨h,-⟩|⟨g,cap,cur,h,-,hh,-⟩
   ·cases h
   ·cases h
    exact(oQ.1 hh).1
  refine⟨⟨aB A,_,_⟩,rfl,⟨aB A,_,_⟩,rfl,⟨by simp[cT],λr hr=>?_,λi r hi j v hj=>?_⟩,ak _,λi hi=>?_,hb⟩
  ·obtain⟨t,-,rfl⟩:=bc.1 hr;rfl
  ·rw[aW,wM]at hi;obtain⟨t,ht,rfl⟩:=hi;have hj0:j=0:=by
    cases j with
    |zero=>rfl
    |succ j=>simp[sv]at hj
   subst hj0
   cases hj
   have fK:=(cG.1 ht).1;show ld w' (ae (aB A) (i*1+0))=_;rw[aF];show w'.cell? ⟨A,0+(i*1+0),none⟩=_;rw[show 0+(i*1+0)=i by omega,lF.cellAt i (by unfold cT at fK;omega),aW];show Option.map _ ((cT s)[i]?)=_;rw[ht];rfl
  ·cases hi
   exact⟨hA,hl⟩
abbrev Io:Ending:=.panicked [{v:=.iface 85 (.string (ByteArray.mk #[98,97,100])),recovered:=false}]
def mj(b:Bool)(w:World):ab 54 #[b] w λe w'=>(if b then e=pz else e=Io)/\w'=w:=by
 apply Vh.vc
 cases b with
 |true=>exact Br.mk (λh=>by cases h) (λ_=>⟨rfl,rfl⟩)
 |false=>exact Br.mk (λ_=>⟨rfl,rfl⟩) (λh=>by cases h)
structure AG(w:World)(B g:Nat)(ws:List ByteArray):Prop where
 lt:g<B
 le:B<=w.heap.size
 ex:∃sl:Sl,Row w g [sl] 84/\RdK w sl 1 (ws.map sv)/\sl.n<=sl.c/\∀i,sl.aX=some i->i<B/\i≠g
def AG.aV{w w':World}{B g:Nat}{ws:List ByteArray}(h:AG w B g ws)(hl:B<=w'.heap.size)(hk:∀i,i<B->w'.heap[i]? =w.heap[i]?):AG w' B g ws:=by obtain⟨sl,h1,h2,h3,h4⟩:=h.ex;exact⟨h.lt,hl,sl,(hk g h.lt).trans h1,h2.same λb hb=>hk b (h4 b hb).1,h3,h4⟩
def AG.ext{w w':World}{B g:Nat}{ws:List ByteArray}(h:AG w B g ws)(x:Ext w w'):AG w' B g ws:=
 h.aV (cV h.le x.size) λi hi=>x.heap (gK hi h.le)
def PR{α:Type}(w:World)(B g:Nat)(p:Option (α×List ByteArray))(ret:α->Value)(e:Ending)(w':World):Prop:=
 Mod (λi=>i=g) w w'/\match p with|none=>e=Io|some (x,r)=>e=(ret x)/\AG w' B g r
def Da:List ByteArray->Option (ByteArray×List ByteArray)| []=>none|t::r=>some (t,r)
def gz(ws:List ByteArray):Option (Int×List ByteArray):=match Da ws with|none=>none|some (t,r)=>if(zX t).2 then some ((zX t).1,r)else none
def vH{w:World}{B g:Nat}{ws:List ByteArray}(h:AG w B g ws):ab 53 #[g] w λe w'=>PR w B g (Da ws) (.string ·) e w':=by
 obtain⟨sl,h1,h2,h3,h4⟩:=h.ex;have hn:sl.n=ws.length:=by rw[h2.n,aK]
 apply Eb.vc;have l0:ld w (ae (aB g) 0)=some (.slice sl.a sl.n sl.c):=by rw[aF,h1.ld];rfl
 refine⟨sl,l0,(mj _ w).mono ?_⟩;rintro e w1 ⟨he,rfl⟩
 cases ws with
 |nil=>
  have:(decide (((sl.n:Nat):Int)>0))=false:=by rw[hn];rfl
  rw[this]at he;simp only[Bool.false_eq_true,if_false]at he;subst he;exact⟨Mod.refl _ _,rfl⟩
 |cons t r=>
  have hn1:sl.n=r.length+1:=hn;have:(decide (((sl.n:Nat):Int)>0))=true:=decide_eq_true aa;rw[this]at he;simp only[if_true]at he;subst he;have hl:ld w1 (ae sl.a ((0:Int).toNat*1))=some (.string t):=h2.rd 0 (sv t) rfl 0 _ rfl;have gm:bB w1 (ae (aB g) 0) [.slice (aE sl.a ((1:Int).toNat) (sl.c) 1) (sl.n-(1:Int).toNat) (sl.c-(1:Int).toNat)]=w1.setRow g #[.slice (aE sl.a ((1:Int).toNat) (sl.c) 1) (sl.n-(1:Int).toNat) (sl.c-(1:Int).toNat)]:=by rw[aF];exact h1.bB (o:=0) bo (λu hu=>by simp at hu;subst hu;rfl)
  refine⟨rfl,sl,l0,h2.jX au aa aa,t,hl,sl,l0,au,aa,⟨rfl,by rw[aF];exact h1.wr (o:=0) bo⟩,?_⟩;intro w5 e5;rw[gm]at e5;have hm:Mod (λi=>i=g) w1 w5:=by rw[e5];exact⟨rfl,rfl,rfl,bo,λi _ hi=>setRow_other _ _ _ _ hi⟩
  have hb:∀i,(aE sl.a ((1:Int).toNat) (sl.c) 1).map (·.block)=some i->i<B/\i≠g:=by
   intro i hi;apply h4 i;unfold aE at hi;split at hi
   ·exact hi
   ·unfold Sl.aX
    cases ha:sl.a with
    |none=>rw[ha]at hi;cases hi
    |some a=>rw[ha]at hi;exact hi
  refine⟨hm,rfl,h.lt,cV h.le hm.size,⟨aE sl.a ((1:Int).toNat) (sl.c) 1,sl.n-(1:Int).toNat,sl.c-(1:Int).toNat⟩,by rw[e5];exact h1.set _,?_,by show sl.n-1<=sl.c-1;omega,hb⟩;have hd:=h2.rest (l:=1) (m:=sl.c) (n':=sl.n-(1:Int).toNat) (c':=sl.c-(1:Int).toNat) (by rw[aK,<-hn];rfl) (by rw[aK,<-hn];omega);refine(hd.same λb hq=>hm.same b ?_ (hb b hq).2);exact gK (hb b hq).1 h.le
def k8{w:World}{B g:Nat}{ws:List ByteArray}(h:AG w B g ws):ab 152 #[g] w λe w'=>PR w B g (gz ws) (.int .i64 ·) e w':=by
 apply Hf.vc;refine(vH h).mono ?_;rintro e w0 ⟨m0,hp⟩;unfold gz
 cases hw:Da ws with
 |none=>
  rw[hw]at hp;subst hp;exact⟨m0,rfl⟩
 |some x=>
  obtain⟨t,r⟩:=x;rw[hw]at hp;obtain⟨rfl,ha⟩:=hp;refine⟨t,rfl,(R5 t w0).bf λw2 x2=>?_⟩;refine⟨_,_,rfl,(mj _ w2).mono ?_⟩;rintro e w5 ⟨he,rfl⟩;have m5:Mod (λi=>i=g) w w5:=m0.trans (Mod.aq x2);simp only
  cases hb:(zX t).2 with
  |true=>
   rw[hb]at he;simp only[if_true]at he;subst he;exact⟨rfl,m5,rfl,ha.ext x2⟩
  |false=>
   rw[hb]at he;simp only[Bool.false_eq_true,if_false]at he;subst he;exact⟨m5,rfl⟩
def qW{w:World}{B g:Nat}{ws:List ByteArray}(h:AG w B g ws):ab 153 #[g] w λe w'=>w'=w/\if ws=[]then e=pz else e=Io:=by
 obtain⟨sl,h1,h2,h3,h4⟩:=h.ex;have hn:sl.n=ws.length:=by rw[h2.n,aK]
 apply Hg.vc;have l0:ld w (ae (aB g) 0)=some (.slice sl.a sl.n sl.c):=by rw[aF,h1.ld];rfl
 refine⟨sl,l0,(mj _ w).mono ?_⟩;rintro e w1 ⟨he,rfl⟩
 cases ws with
 |nil=>
  have:((((sl.n:Nat):Int):Int)==0)=true:=by rw[hn];rfl
  rw[this]at he;simp only[if_true]at he;subst he;exact⟨rfl,rfl,rfl⟩
 |cons t r=>
  have hn1:sl.n=r.length+1:=hn;have:((((sl.n:Nat):Int):Int)==0)=false:=by simp;omega
  rw[this]at he;simp only[Bool.false_eq_true,if_false]at he;subst he;exact⟨rfl,by rw[if_neg bo]⟩
def iu(w:World)(k:Nat)(c:Array Value):Mod (λi=>i=k) w (w.setRow k c):=⟨rfl,rfl,rfl,bo,λi _ hi=>setRow_other _ _ _ _ hi⟩
def xC(ws:List ByteArray):Option ((Int×Int)×List ByteArray):=match gz ws with|none=>none|some (x,r)=>match gz r with|none=>none|some (z,r')=>some ((x,z),r')
def kI(ws:List ByteArray):Option ((Int×Int×Int)×List ByteArray):=match gz ws with|none=>none|some (x,r)=>match gz r with|none=>none|some (y,r')=>match gz r' with|none=>none|some (z,r'')=>some ((x,y,z),r'')
def QD{w:World}{B g:Nat}{ws:List ByteArray}(h:AG w B g ws):ab 156 #[g] w λe w'=>PR w B g (xC ws) (λp=>.agg #[vI p.1,vI p.2]) e w':=by
 apply Hh.vc;intro w0 e0;have x0:Ext w w0:=by rw[e0];exact Ext.al _ _
 have hs:=fD e0;have hgl:g<w:=gK h.lt h.le;have m0:Mod (λi=>i=g) w w0:=Mod.aq x0;refine(k8 (h.ext x0)).mono ?_;rintro e w1 ⟨m1,hp⟩;unfold xC
 cases hw:gz ws with
 |none=>rw[hw]at hp;subst hp;exact⟨m0.trans m1,rfl⟩
 |some x=>
  obtain⟨x,r⟩:=x;rw[hw]at hp;obtain⟨rfl,ha⟩:=hp;refine⟨x,rfl,m1.same _ aa aa,(k8 ha).mono ?_⟩;rintro e w3 ⟨m3,hp⟩;simp only
  cases yE:gz r with
  |none=>rw[yE]at hp;subst hp;exact⟨(m0.trans m1).trans m3,rfl⟩
  |some z=>
   obtain⟨z,r'⟩:=z;rw[yE]at hp;obtain⟨rfl,Ou⟩:=hp;refine⟨z,rfl,m3.same _ (by have:=m1.size;omega) aa,?_⟩;intro w5 e5;have m5:=iu w3 w #[x,z];rw[<-e5]at m5;have hB:=h.le;have hle:=Ou.le;exact⟨((m0.trans m1).trans m3).tr m5 (λi hi=>.inr aa),rfl,Ou.aV (cV hle m5.size) λi hi=>m5.same i aa aa⟩
def QE{w:World}{B g:Nat}{ws:List ByteArray}(h:AG w B g ws):ab 166 #[g] w λe w'=>PR w B g (kI ws) (λp=>.agg #[vI p.1,vI p.2.1,vI p.2.2]) e w':=by
 apply Hj.vc;intro w0 e0;have x0:Ext w w0:=by rw[e0];exact Ext.al _ _
 have hs:=fD e0;have hgl:g<w:=gK h.lt h.le;have m0:Mod (λi=>i=g) w w0:=Mod.aq x0;refine(k8 (h.ext x0)).mono ?_;rintro e w1 ⟨m1,hp⟩;unfold kI
 cases hw:gz ws with
 |none=>rw[hw]at hp;subst hp;exact⟨m0.trans m1,rfl⟩
 |some x=>
  obtain⟨x,r⟩:=x;rw[hw]at hp;obtain⟨rfl,ha⟩:=hp;refine⟨x,rfl,m1.same _ aa aa,(k8 ha).mono ?_⟩;rintro e w3 ⟨m3,hp⟩;simp only
  cases yE:gz r with
  |none=>rw[yE]at hp;subst hp;exact⟨(m0.trans m1).trans m3,rfl⟩
  |some y=>
   obtain⟨y,r'⟩:=y;rw[yE]at hp;obtain⟨rfl,Ou⟩:=hp;refine⟨y,rfl,m3.same _ (by have:=m1.size;omega) aa,(k8 Ou).mono ?_⟩;rintro e w5 ⟨m5,hp⟩;simp only
   cases Ig:gz r' with
   |none=>rw[Ig]at hp;subst hp;exact⟨((m0.trans m1).trans m3).trans m5,rfl⟩
   |some z=>
    obtain⟨z,r''⟩:=z;rw[Ig]at hp;obtain⟨rfl,ha5⟩:=hp;refine⟨z,rfl,m5.same _ (by have:=m1.size;have:=m3.size;omega) aa,?_⟩;intro w7 e7;have m7:=iu w5 w #[x,y,z];rw[<-e7]at m7;have hB:=h.le;have hle:=ha5.le;exact⟨(((m0.trans m1).trans m3).trans m5).tr m7 (λi hi=>.inr aa),rfl,ha5.aV (cV hle m7.size) λi hi=>m7.same i aa aa⟩
def Kk{w:World}{B g:Nat}{ws:List ByteArray}(h:AG w B g ws):ab 169 #[g] w λe w'=>PR w B g (kI ws) (λp=>.agg #[vI p.1,vI p.2.1,vI p.2.2]) e w':=by
 apply Ec.vc;intro w0 e0;have x0:Ext w w0:=by rw[e0];exact Ext.al _ _
 have hs:=fD e0;have hgl:g<w:=gK h.lt h.le;have m0:Mod (λi=>i=g) w w0:=Mod.aq x0;refine(QE (h.ext x0)).mono ?_;rintro e w1 ⟨m1,hp⟩
 cases hw:kI ws with
 |none=>rw[hw]at hp;subst hp;exact⟨m0.trans m1,rfl⟩
 |some x=>
  obtain⟨⟨x,y,z⟩,r⟩:=x;rw[hw]at hp;obtain⟨rfl,ha⟩:=hp;refine⟨x,y,z,rfl,m1.same _ aa aa,?_⟩;intro w5 e5 w6 e6 w7 e7;have x5:Ext w1 w5:=by rw[e5];exact Ext.al _ _
  have m6:=iu w5 w1 #[x,y,z];rw[<-e6]at m6;have m7:=iu w6 w #[x,y,z];rw[<-e7]at m7;have hB:=h.le;have hle:=ha.le;have h1:=m1.size;have h5:=x5.size;have h6:=m6.size;have k:∀i,i<w1.heap.size->i≠w.heap.size->w7.heap[i]? =w1.heap[i]? :=λi hi hn=>
   (m7.same i aa hn).trans ((m6.same i aa aa).trans (x5.heap hi))
  exact⟨(((m0.trans m1).trans (Mod.aq x5)).tr m6 (λi hi=>.inr aa)).tr m7 (λi hi=>.inr aa),rfl,ha.aV (by have:=m7.size;omega) λi hi=>k i aa aa⟩
inductive xD(w:World):Value->ByteArray->Prop
 |s (t:ByteArray):xD w (.iface 9 (.string t)) t
 |ok:xD w (.iface 168 (0:Int)) (ByteArray.mk #[111,107])
 |n (x:Int) (t:ByteArray) (h:∀u,Ext w u->ab 224 #[x] u λe u'=>e=Value.string t/\Ext u u'):xD w (.iface 3 (x)) t
 |e (x:Int) (t:ByteArray) (h0:x≠0) (h:∀u,Ext w u->ab 225 #[x] u λe u'=>e=Value.string t/\Ext u u'):xD w (.iface 168 (x)) t
 |v (x y z:Int) (t:ByteArray) (h:∀u v,Ext w u->v=u.alloc (.cells #[.iface 3 (x),.iface 3 (y),.iface 3 (z)] 20)->ab 154 #[.slice (aB u.heap.size) 3 3] v λe u'=>e=Value.string t/\Ext v u'):xD w (.iface 73 (.agg #[x,y,z])) t
 |b (x:Bool) (t:ByteArray) (h:∀u v,Ext w u->v=u.alloc (.cells #[.iface 3 (vI (if x then 1 else 0))] 20)->ab 154 #[.slice (aB u.heap.size) 1 1] v λe u'=>e=Value.string t/\Ext v u'):xD w (.iface 4 (.bool x)) t
def xD.ext{w u:World}{x:Value}{t:ByteArray}(h:xD w x t)(hx:Ext w u):xD u x t:=by
 cases h with
 |s=>exact .s _
 |ok=>exact .ok
 |n x _ h=>exact .n x _ λv hv=>h v (hx.tr hv)
 |e x _ h0 h=>exact .e x _ h0 λv hv=>h v (hx.tr hv)
 |v x y z _ h=>exact .v x y z _ λu v hu=>h u v (hx.tr hu)
 |b x _ h=>exact .b x _ λu v hu=>h u v (hx.tr hu)
def GB(v:Value):Prop:=∃b:Bool,v=.bool b
def W5:gM Tryz.prog 4 GB:=by
 refine⟨?_,?_,?_⟩
 ·rintro x y ⟨a,rfl⟩ ⟨b,rfl⟩;refine⟨a==b,?_,by cases a<;>cases b<;>simp⟩
  cases a<;>cases b<;>kernel_rfl
 ·rintro x ⟨a,rfl⟩ b w
  cases a<;>kernel_rfl
 ·rintro x ⟨a,rfl⟩
  cases a<;>kernel_rfl
def eI(l:List ByteArray):ByteArray:=⟨(Lib.join (l.map (·.data.toList)) [32]).toArray⟩
def join_one(t:ByteArray):eI [t]=t:=by apply Lr;show Lib.join [bl t] [32]=bl t;unfold Lib.join;simp[List.intercalate]
def qP{w:World}{sl:Sl}{xs:LV}{outs:List ByteArray}(h:RdK w sl 1 (xs.map λx=>[x]))(hl:outs.length=xs.length)(hn:xs.length<=1000000)
  (hi:∀(i:Nat) x t,xs[i]? =some x->outs[i]? =some t->xD w x t)(hj:(Lib.join (outs.map (·.data.toList)) [32]).length<=140737488355328):
  ed 154 #[sl] w (Value.string (eI outs)):=by
 have tE:sl.n=xs.length:=by rw[h.n,aK]
 apply Ui.vc;refine⟨λn x s v=>∃p:Nat,x=(p:Int)/\p+n=sl.n/\ar w 9 1 v s ((outs.take p).map sv)/\Ext w v,⟨sl.n,0,rfl,aa,ar.nil,Ext.bT _⟩,?_⟩;rintro n1 Bn x3 s4 w5 ⟨p,rfl,hp,ho,x5⟩;have S7:(outs.take p).length=p:=by rw[cS];omega
 have h4:s4.n=p:=by rw[(ar.rd ho au).n,aK,S7]
 apply Br.mk<;>intro c
 ·have c:=of_decide_eq_true c;have hpx:p<xs.length:=by omega
  obtain⟨x,hx⟩:∃x,xs[p]? =some x:=⟨_,cK hpx⟩;obtain⟨t,ht⟩:∃t,outs[p]? =some t:=⟨_,cK aa⟩;have hit:=(hi p x t hx ht).ext x5;have etk:outs.take (p+1)=outs.take p++[t]:=by rw[dq,ht];rfl
  have pG:ld w5 (ae sl.a (((p:Nat):Int).toNat*1))=some x:=by have:=x5.ld (h.rd p [x] (by rw[aW,hx];rfl) 0 x rfl);simpa using this
  have push:∀u:World,Ext w5 u->∀v:World,v=u.alloc (.cells #[.string t] 9)->
    bj 16 1 v ⟨s4.a,s4.n,s4.c⟩ 1 [.string t]/\∀(s9:Sl)(br:World),aY 9 1 v ⟨s4.a,s4.n,s4.c⟩ 1 [.string t] s9 br->
     (∀j,w5.heap.size<=j->j<u.heap.size->br.heap[j]? =v.heap[j]?)/\br.heap[u.heap.size]? =v.heap[u.heap.size]?/\∃n6,n6<n1/\∃q:Nat,aC ((p:Int)+1)=(q:Int)/\q+n6=sl.n/\ar w 9 1 br ⟨s9.a,s9.n,s9.c⟩ ((outs.take q).map sv)/\Ext w br:=by
   rintro u xu v rfl;have xw:=x5.tr xu;obtain⟨a1,a2⟩:=(ho.ext xu).l6 (bytes:=16) (news:=sv t) (.cells #[.string t] 9) xw.size rfl (amg t) aa aa;refine⟨a1,λs9 br hr=>?_⟩;obtain⟨b1,b2,b3,b4,b5,-⟩:=a2 s9 br hr;refine⟨λj h1 h2=>(b5 j (λq=>by have:=(ho.own.lt q).2;omega) h2).trans ((Ext.al u _).heap h2).symm,b1,n1-1,aa,p+1,by rw[wI];omega,aa,?_,Below.trans xw b4⟩;rw[etk,cl];exact b2
  have psh:=λ(u:World)(xu:Ext w5 u)(v:World)(ev:v=u.alloc (.cells #[.string t] 9))=>(show _/\∀(s9:Sl)(br:World),_->_ from⟨(push u xu v ev).1,λs9 br hr=>((push u xu v ev).2 s9 br hr).2⟩)
  refine⟨h.jX au aa aa,x,pG,?_⟩
  cases hit with
  |s=>
   refine⟨9,_,rfl,Br.mk (λc=>by cases c) (λ_=>⟨9,_,rfl,Br.mk (λ_=>⟨_,rfl,λfm Td=>psh w5 (Ext.bT _) fm Td⟩) (λc=>by cases c)⟩)⟩
  |ok=>
   refine⟨168,_,rfl,Br.mk (λc=>by cases c) (λ_=>⟨168,_,rfl,Br.mk (λc=>by cases c) (λ_=>⟨168,_,rfl,Br.mk (λ_=>⟨_,rfl,Br.mk (λ_=>λfm Td=>psh w5 (Ext.bT _) fm Td) (λc=>by cases c)⟩) (λc=>by cases c)⟩)⟩)⟩
  |n x _ hc=>
   refine⟨3,_,rfl,Br.mk (λ_=>⟨x,rfl,(hc w5 (Ext.bT _)).mono ?_⟩) (λc=>by cases c)⟩;rintro _ bE ⟨rfl,bS⟩;exact⟨t,rfl,λbw Dz=>psh bE bS bw Dz⟩
  |e x _ h0 hc=>
   refine⟨168,_,rfl,Br.mk (λc=>by cases c) (λ_=>⟨168,_,rfl,Br.mk (λc=>by cases c) (λ_=>⟨168,_,rfl,Br.mk (λ_=>⟨x,rfl,Br.mk (λc=>absurd (by simpa using c) h0) (λ_=>(hc w5 (Ext.bT _)).mono ?_)⟩) (λc=>by cases c)⟩)⟩)⟩;rintro _ iZ ⟨rfl,rC⟩;exact⟨t,rfl,λpw e30=>psh iZ rC pw e30⟩
  |v x y z _ hc=>
   refine⟨73,_,rfl,Br.mk (λc=>by cases c) (λ_=>⟨73,_,rfl,Br.mk (λc=>by cases c) (λ_=>⟨73,_,rfl,Br.mk (λc=>by cases c) (λ_=>⟨73,_,rfl,Br.mk (λ_=>⟨x,y,z,rfl,λtH e38 lG e39 nT e40=>?_⟩) (λc=>by cases c)⟩)⟩)⟩)⟩;have rq:Ext w5 lG:=Ext.af (Ext.aZ (Ext.bT _) e38) e39 (ak _);have z38:=fD e38;have z39:lG.heap.size=w5.heap.size+1:=by rw[e39];simp[z38]
   have z40:=fD e40;refine(hc lG nT rq e40).bf λkO kA=>?_
   refine⟨t,rfl,kA.k,λiO Yn=>?_⟩;have aw6:Ext w5 kO:=(rq.aZ e40).tr kA;obtain⟨p1,p2⟩:=push kO aw6 iO Yn;refine⟨p1,λs44 ue hr=>?_⟩;obtain⟨q1,q2⟩:=p2 s44 ue hr;exact⟨q1 _ (ak _) (by have:=kA.size;omega),q2⟩
  |b x _ hc=>
   refine⟨4,_,rfl,Br.mk (λc=>by cases c) (λ_=>⟨4,_,rfl,Br.mk (λc=>by cases c) (λ_=>⟨4,_,rfl,Br.mk (λc=>by cases c) (λ_=>⟨4,_,rfl,Br.mk (λc=>by cases c) (λ_=>⟨4,_,rfl,Br.mk (λ_=>⟨x,rfl,λnB e49=>?_⟩) (λc=>by cases c)⟩)⟩)⟩)⟩)⟩;have aw7:=Ext.aZ (Ext.bT _) e49;refine⟨GB,[],W5,rfl,by rw[e49];exact bG.new,⟨_,rfl⟩,λYo aw8 arH=>?_⟩;have tG:Ext w5 Yo:=(Mod.oX aw8).ext aw7 λi hi=>Nat.le_of_eq hi.symm
   have ek:oY [] (Value.bool true) (1:Int)=[(Value.bool true,vI 1)]:=by unfold oY;rw[if_neg bo];rfl
   rw[ek]at arH;refine⟨GB,_,W5,arH,⟨_,rfl⟩,if x then 1 else 0,x,?_,λnv e57=>?_⟩
   ·cases x with
    |true=>exact .inl ⟨rfl,bo⟩
    |false=>exact .inr ⟨rfl,rfl,bo⟩
   ·refine(hc Yo nv tG e57).bf λvQ Fa=>?_
    exact⟨t,rfl,λlV e60=>psh vQ ((tG.aZ e57).tr Fa) lV e60⟩
 ·have c:=of_decide_eq_false c;have hpe:p=xs.length:=by omega
  rw[show outs.take p=outs from dN aa]at ho;have fin:ed 226 #[s4,.string (ByteArray.mk #[32])] w5 (Value.string (eI outs)):=by
   have gF:=ar.rd ho au
   cases hq:outs with
   |nil=>
    have:s4.n=0:=by rw[h4,hpe,<-hl,hq];rfl
    rw[this];refine(Tryz.strings_Join_none s4.a s4.c _ w5).eL ?_;exact⟨rfl,Ext.bT _⟩
   |cons t0 r0=>
    have hon:=ho.own;obtain⟨g,ha,Is⟩:∃g,s4.a=aB g/\s4.n<=s4.c:=by
     generalize ((outs.map sv).flatten)=fl at hon
     cases hon with
     |nil=>rw[hq]at hl;simp at hl;simp at h4;omega
     |row g n c cs hg hr hc hn=>exact⟨g,rfl,hn⟩
    rw[<-hq];have hgl:g<w5.heap.size:=gF.Me au (by rw[hq];simp) (by unfold Sl.aX;rw[ha];rfl);have:=Tryz.strings_Join g 0 s4.c outs (ByteArray.mk #[32]) w5 (λj y hy=>by have:=gF.rd j (sv y) (by rw[aW,hy];rfl) 0 _ rfl;rw[ha,aF]at this;simpa[Vc.ld]using this) hgl aa aa hj;rw[ha,h4,hpe,<-hl];exact this
  refine fin.bf λOv Bo=>?_
  exact⟨_,rfl,rfl,x5.tr Bo⟩
def GS(v:Value):Prop:=∃t:ByteArray,v=.string t
def Vt:gM Tryz.prog 9 GS:=by
 refine⟨?_,?_,?_⟩
 ·rintro x y ⟨a,rfl⟩ ⟨b,rfl⟩;refine⟨gu a b,by kernel_rfl,?_⟩;rw[kD];exact⟨λh=>by rw[h],λh=>by injection h⟩
 ·rintro x ⟨a,rfl⟩ b w;kernel_rfl
 ·rintro x ⟨a,rfl⟩;simp[Instr.sameBits];exact(Ru a a).2 rfl
def uF:List ByteArray:=[ByteArray.mk #[119,111,114,108,100],
 ByteArray.mk #[108,111,97,100],
 ByteArray.mk #[117,110,108,111,97,100],
 ByteArray.mk #[102,108,117,115,104],
 ByteArray.mk #[112,105,110],
 ByteArray.mk #[117,110,112,105,110],
 ByteArray.mk #[102,108,117,115,104,97,108,108],
 ByteArray.mk #[102,97,105,108],
 ByteArray.mk #[99,114,97,115,104],
 ByteArray.mk #[115,97,118,101],
 ByteArray.mk #[115,112,97,119,110],
 ByteArray.mk #[107,105,108,108],
 ByteArray.mk #[116,101,108,108],
 ByteArray.mk #[112,108,97,99,101],
 ByteArray.mk #[101,100,105,116],
 ByteArray.mk #[98,114,101,97,107],
 ByteArray.mk #[108,111,111,107],
 ByteArray.mk #[97,116],
 ByteArray.mk #[116,111,112],
 ByteArray.mk #[98,111,100,121],
 ByteArray.mk #[108,105,118,101],
 ByteArray.mk #[104,101,114,101],
 ByteArray.mk #[116,105,99,107]]
def kvZ(k:Nat)(vs:LV):List (Value×Value):=((uF.take k).map Value.string).zip vs
def l8:uF.Nodup:=by decide
def aex{kvs:List (Value×Value)}{k v:Value}(h:∀e∈kvs,e.1≠k):oY kvs k v=kvs++[(k,v)]:=by unfold oY;rw[if_neg];rintro⟨e,he,hk⟩;exact h e he hk
def aey{k:Nat}{vs:LV}{key:ByteArray}{v:Value}(hk:uF[k]? =some key)(hl:vs.length=k):oY (kvZ k vs) (.string key) v=kvZ (k+1) (vs++[v]):=by
 have fK:=(cG.1 hk).1;rw[aex]
 ·unfold kvZ;rw[dq,hk,cl,List.zip_append (by rw[aK,cS];omega)];rfl
 ·rintro⟨a,b⟩ he;have h1:=(List.of_mem_zip he).1;obtain⟨t,ht,rfl⟩:=bc.1 h1;intro hc;injection hc with hc;subst hc;obtain⟨i,hi⟩:=JT.1 ht;rw[qM]at hi;split at hi
  ·rename_i hik;have:=(List.getElem?_inj (i:=i) (j:=k) aa l8).1 (hi.trans hk.symm);omega
  ·cases hi
abbrev Vu:TypeId:=98
abbrev aeo(c:Nat):Value:=.func (.func 155) #[] #[c]
abbrev kc(f sh:Nat):Value:=.func (.func f) #[sh] #[]
abbrev oo(f t:Nat):Value:=.func (.func f) #[t] #[]
def AF(sh:Nat)(c:List Nat):LV:=
 [kc 86 sh]++c.map aeo++[kc 93 sh,kc 94 sh,kc 95 sh,kc 96 sh,kc 97 sh,kc 98 sh,kc 99 sh,kc 100 sh,kc 101 sh,kc 102 sh,kc 103 sh,kc 104 sh,kc 105 sh,kc 106 sh,kc 107 sh,kc 108 sh,kc 109 sh]
def Vv(sh f t:Nat)(w:World):ab 87 #[sh,oo f t] w λe w'=>e=(aeo w)/\Row w' w [oo f t] 157/\Ext w w':=by apply AI.vc;refine uj.2 ?_;intro w0 e0;exact⟨rfl,by rw[e0];exact Row.new _ [_] _,by rw[e0];exact Ext.al _ _⟩
structure FN(w:World)(sh g:Nat):Prop where
 row:Row w sh [g] Vu
structure DS(w v:World)(t n:Nat)(vs:LV)(cs:List Nat):Prop where
 l:vs.length=n
 m:bG GS v (some w.heap.size) (kvZ n vs)
 x:Ext w v
 c:∀(j c:Nat),cs[j]? =some c->c≠w.heap.size/\Row v c [oo (88+j) t] 157/\w.heap.size<=c
def DS.put{w u:World}{t n:Nat}{vs:LV}{cs:List Nat}(h:DS w u t n vs cs){key:ByteArray}{v:Value}(hk:uF[n]? =some key){K:wPp}(k:∀u',DS w u' t (n+1) (vs++[v]) cs->K u'):DW 9 (some w.heap.size) u (.string key) v K:=by
 refine⟨GS,_,Vt,rfl,h.m,⟨_,rfl⟩,λu' hr hm=>k u' ⟨by rw[List.length_append,h.l];rfl,?_,Below.trans h.x (hr.below (Nat.le_refl _)),λj c hj=>?_⟩⟩
 · rw[aey hk h.l]at hm;exact hm
 · obtain⟨h1,h2,h3⟩:=h.c j c hj;exact⟨h1,h2.same (hr.same c h1),h3⟩
def DS.tbl{w u : World}{t n : Nat}{vs : LV}{cs : List Nat}(h : DS w u t n vs cs){sh f : Nat}(hf : f = 88 + cs.length){K : Ending → World → Prop}(k : ∀ c u', DS w u' t n vs (cs ++[c]) → K (.returned (aeo c)) u') : Calls Tryz.prog 87 #[.pointer (some ⟨sh, 0, none⟩), oo f t] u K := by
 refine(Vv sh f t u).mono ?_
 rintro _ u' ⟨rfl, hr, y⟩
 have hz := h.m.lt
 refine k _ u' ⟨h.l, h.m.same (y.heap hz), h.x.tr y, λj c hj =>?_⟩
 rcases Nat.lt_or_ge j cs.length with q | q
 · rw[List.getElem?_append_left q]at hj
   obtain⟨h1, h2, h3⟩ := h.c j c hj
   exact⟨h1, h2.ext y, h3⟩
 · rw[List.getElem?_append_right q, List.getElem?_singleton]at hj
   split at hj
   · cases hj
     have e : j = cs.length := by omega
     rw[e, <- hf]
     exact⟨by omega, hr, by omega⟩
   · cases hj
def aas{F:Nat->Prop}{w:World}{g s o t:Nat}{M:Sm}{occ:Value}{L:lCs}(h:EF F w g s o t M occ L){sh:Nat}(hs:FN w sh g):
  ab 52 #[sh] w λe w'=>∃(r c1 c2 c3 c4 c5:Nat),e=Value.map (some r)/\bG GS w' (some r) (kvZ 23 (AF sh [c1,c2,c3,c4,c5]))/\
   Row w' c1 [oo 88 t] 157/\Row w' c2 [oo 89 t] 157/\Row w' c3 [oo 90 t] 157/\Row w' c4 [oo 91 t] 157/\Row w' c5 [oo 92 t] 157/\w.heap.size<=r/\w.heap.size<=c1/\w.heap.size<=c2/\w.heap.size<=c3/\w.heap.size<=c4/\w.heap.size<=c5/\Ext w w':=by
 obtain⟨Fs,hS,hp,-,-⟩:=h.EN;apply Cd.vc;refine⟨aB g,by rw[aF,hs.row.ld];rfl,?_⟩;refine cA.2 ⟨rfl,cA.2 ⟨rfl,aB s,hp,(cZ hS).eL ?_⟩⟩;obtain⟨Fw,hW,-,-⟩:=hS.world;refine⟨_,rfl,(gx hW).eL ?_⟩;refine⟨_,rfl,?_⟩;intro v0 e0;have h:DS w v0 t 0 [] []:=⟨rfl,by rw[e0];exact bG.new,aU e0,λj c hj=>by cases hj⟩;refine h.put rfl λ_ h=>h.tbl rfl λc1 _ h=>⟨_,rfl,h.put rfl λ_ h=>h.tbl rfl λc2 _ h=>⟨_,rfl,h.put rfl λ_ h=>h.tbl rfl λc3 _ h=>⟨_,rfl,h.put rfl λ_ h=>h.tbl rfl λc4 _ h=>⟨_,rfl,h.put rfl λ_ h=>h.tbl rfl λc5 _ h=>⟨_,rfl,h.put rfl λ_ h=>?_⟩⟩⟩⟩⟩
 iterate 17 refine h.put rfl λ_ h=>?_
 have e:=h.m;simp only[List.nil_append,List.cons_append,Nat.reduceAdd]at e;have z:=h.c;simp only[List.nil_append,List.cons_append]at z;exact⟨w.heap.size,c1,c2,c3,c4,c5,rfl,e,(z 0 _ rfl).2.1,(z 1 _ rfl).2.1,(z 2 _ rfl).2.1,(z 3 _ rfl).2.1,(z 4 _ rfl).2.1,Nat.le_refl _,(z 0 _ rfl).2.2,(z 1 _ rfl).2.2,(z 2 _ rfl).2.2,(z 3 _ rfl).2.2,(z 4 _ rfl).2.2,h.x⟩
def awE:uq Tryz.prog 85=true:=by kernel_rfl
def awF:(Tryz.prog.info? 85).bind (·.zero)=some (.string (ByteArray.mk #[])):=by kernel_rfl
def ang(s:ByteArray)(w:World):(Instr.typeAssert (.iface 85 (.string s)) 20 85 true).run Tryz.prog w=.ok (.tuple #[.string s,true]) w:=by have:=Ry (P:=Tryz.prog) (a:=85) (xT:=20) (t:=85) (v:=.string s) awE awF w;rw[if_pos rfl]at this;exact this
def KP(p:Addr)(x:ByteArray)(s:ByteArray)(older:List PanicEntry)(w:World)(hc:w.cell? p=some (.string x))(hz:w.frozen? p=false):
  CallsD Tryz.prog 51 #[p] (.panicking ({v:=.iface 85 (.string s),recovered:=false}::older)) w λe u' w'=>
   e=pz/\u'=.panicking ({v:=.iface 85 (.string s),recovered:=true}::older)/\w'=w.setCell p (.string s):=by
 refine callsD_of_wpS Tryz.func51 rfl λc₀ cs hu=>?_
 apply wpS_seq;apply wpS_region;simp[wpOpsS,go_sem,recoverD,hu,Tryz.ntmps51,Exit.thenS];refine wpS_of_wp (wp_mono (Q:=λe a' w'=>e=.normal/\w'=w.setCell p (.string s)/\a'.defers=[]) ?_ ?_)
 ·refine wp_block ?_;go_wp2;rw[ang];simp only[Result.andThen_ok,Oper.upon];rename_i K1 h1 K h2;apply h2;simp[wpList,go_sem,Act.put,Act.eval,Exit.then,Oper.wp,Oper.upon];refine .inl (.inl (h1 _ _ ?_));refine wp_cond_true (by simp[Act.eval,Array.replicate]) ?_;refine wp_seq (wp_region ?_);simp[wpOps,go_sem,Act.put,Act.eval,Exit.then,Oper.wp,Oper.upon];refine .inl (wp_region ?_);simp[wpOps,go_sem,Act.put,Act.eval,Exit.then,Oper.wp,Oper.upon,hc,hz];exact .inl (.inl ⟨rfl,rfl,rfl⟩)
 ·rintro e a w' ⟨rfl,rfl,hd⟩;simp[bodyPostS,results,Tryz.results51,hd]
def VV(p:Addr)(w:World):
  CallsD Tryz.prog 51 #[p] .returning w λe u' w'=>e=pz/\u'=.returning/\w'=w:=by
 refine callsD_of_wpS Tryz.func51 rfl λc₀ cs hu=>?_
 apply wpS_seq;apply wpS_region;simp[wpOpsS,go_sem,recoverD,hu,Tryz.ntmps51,Exit.thenS];refine wpS_of_wp (wp_mono (Q:=λe a' w'=>e=.normal/\w'=w/\a'.defers=[]) ?_ ?_)
 ·refine wp_block (wp_seq (wp_region ?_));simp[wpOps,go_sem,Act.put,Act.eval,Exit.then,Oper.wp,Oper.upon];refine .inl ?_;refine wp_cond_true (by simp[Act.eval,Array.replicate]) ?_;refine wp_region ?_;simp[wpOps,go_sem,Act.put,Act.eval,Exit.then,Oper.wp,Oper.upon]
 ·rintro e a w' ⟨rfl,rfl,hd⟩
  cases c₀
  simp_all[bodyPostS,results,Tryz.results51]
def E4{w:World}{g:Nat}{x v:Value}{E:TypeId}(hr:Row w g [x] E)(h1:v.oneCell'=true):w.setCell ⟨g,0,none⟩ v=w.setRow g #[v]:=by have h:=hr.bB (o:=0) (vs:=[v]) bo (λu hu=>by simp at hu;subst hu;exact h1);have e:bB w (aB g) [v]=w.setCell ((⟨g,0,none⟩:Addr).add 0) v:=rfl;rw[e]at h;have a0:(⟨g,0,none⟩:Addr).add 0=⟨g,0,none⟩:=rfl;rw[a0]at h;rw[h];rfl
def ak4:tB Tryz.prog 87=some (9,86,.nilFunc):=by kernel_rfl
structure awB(v:Value)(f:FuncId)(a b:Array Value):Prop where
 eq:v=.func (.func f) a b
 enter:∀args w,(callFunc f args).run Tryz.prog w=.ok (.enter f args) w
def qZ{w:World}{sh g:Nat}(line:ByteArray)(hl:line.size<=4294967296){F:Nat->Prop}{s o t:Nat}{M:Sm}{occ:Value}{L:lCs}(h:EF F w g s o t M occ L)(hs:FN w sh g)(Q:ByteArray->wPp)
  (gm:∀tx u u',Q tx u->Mod (λi=>i=w.heap.size) u u'->Q tx u')
  (h0:cT line=[]->∀u,Ext w u->Q (ByteArray.mk #[]) u)
  (WJ:∀c r,cT line=c::r->c∉uF->∀u,Ext w u->Q (ByteArray.mk #[98,97,100]) u)
  (aBc:∀(c:ByteArray)(r:List ByteArray)(i:Nat),cT line=c::r->uF[i]? =some c->∀(u:World)(B ga c1 c2 c3 c4 c5:Nat),Ext w u->AG u B ga r->w.heap.size<ga->Row u c1 [oo 88 t] 157->Row u c2 [oo 89 t] 157->Row u c3 [oo 90 t] 157->Row u c4 [oo 91 t] 157->Row u c5 [oo 92 t] 157->
   (B<=c1/\B<=c2/\B<=c3/\B<=c4/\B<=c5)->∀v,(AF sh [c1,c2,c3,c4,c5])[i]? =some v->∃f a b,awB v f a b/\ab f (a++ #[.pointer (some ⟨ga,0,none⟩)]++b) u λe u'=>u'.heap[w.heap.size]? =u.heap[w.heap.size]?/\((∃tx,e=Value.string tx/\Q tx u')\/(e=Io/\Q (ByteArray.mk #[98,97,100]) u'))):
  ab 14 #[.pointer (some ⟨sh,0,none⟩),.string line] w λe w'=>∃tx,e=Value.string tx/\Q tx w':=by
 go_enter_defers Tryz.func14,Tryz.ntmps14;refine wp_seq (wp_region ?_);simp[wpOps,go_sem,Act.put,Act.eval,Exit.then,Oper.wp,Oper.upon];refine .inl ?_;refine wp_seq (wp_region ?_);simp[wpOps,go_sem,Act.put,Act.eval,Exit.then,Oper.wp,Oper.upon];refine .inl (.inl ((HH line _ hl).mono ?_));rintro e w1 ⟨sl,rfl,gF,hlc,yG,x1⟩;simp[go_sem,Oper.upon,wpOps,Oper.wp,Act.put,Act.eval]
 repeat refine Or.inl ?_
 refine wp_seq (wp_seq (wp_region ?_));simp[wpOps,go_sem,Act.put,Act.eval,Exit.then,Oper.wp,Oper.upon]
 repeat refine Or.inl ?_
 have hn:sl.n=(cT line).length:=by rw[gF.n,aK]
 have hr0:Row (w.alloc (.cells #[.string (ByteArray.mk #[])] 9)) w.heap.size [.string (ByteArray.mk #[])] 9:=Row.new _ [_] _;have jT:=(hr0.ext x1).ext (Ext.al w1 (.cells #[sl] 84));have x2:Ext w (w1.alloc (.cells #[sl] 84)):=((Ext.al w _).tr x1).tr (Ext.al w1 _);have nA:(w1.alloc (.cells #[sl] 84)).cell? ⟨w.heap.size,0,none⟩=some (.string (ByteArray.mk #[])):=by have:=jT.ld 0;simpa[Vc.ld]using this
 have hf2:(w1.alloc (.cells #[sl] 84)).frozen? ⟨w.heap.size,0,none⟩=false:=oJ jT _
 cases hw:cT line with
 |nil=>
  rw[hw]at hn;refine wp_cond_true (by simp[Act.eval,hn]) ?_;refine wp_seq (wp_region ?_);simp[wpOps,go_sem,Act.put,Act.eval,Exit.then,Oper.wp,Oper.upon,nA,hf2]
  repeat refine Or.inl ?_
  refine wp_ret ?_;rw[E4 jT rfl];have hr3:=jT.set [.string (ByteArray.mk #[])];have Lf:((w1.alloc (.cells #[sl] 84)).setRow w.heap.size #[.string (ByteArray.mk #[])]).cell? ⟨w.heap.size,0,none⟩=some (.string (ByteArray.mk #[])):=by have:=hr3.ld 0;simpa[Vc.ld]using this
  simp[bodyPostD,Leaves,results,Tryz.results14,go_sem,Lf];exact gm _ _ _ (h0 hw _ x2) (iu _ _ _)
 |cons c r=>
  rw[hw]at hn;refine wp_cond_false (by simp[Act.eval,hn];omega) ?_;refine wp_skip ?_;simp only[Exit.then];refine wp_seq (wp_region ?_);simp[wpOps,go_sem,Act.put,Act.eval,Exit.then,Oper.wp,Oper.upon]
  repeat refine Or.inl ?_
  generalize hW2:w1.alloc (.cells #[sl] 84)=W2 at*;refine wp_seq (wp_region ?_);simp[wpOps,go_sem,Act.put,Act.eval,Exit.then,Oper.wp,Oper.upon]
  repeat refine Or.inl ?_
  refine(aas (h.ext x2) ⟨hs.row.ext x2⟩).mono ?_;rintro e w3 ⟨rm,c1,c2,c3,c4,c5,rfl,hm,r1,r2,r3,r4,r5,b0,b1,b2,b3,b4,b5,x3⟩;simp[go_sem,Oper.upon,wpOps,Oper.wp,Act.put,Act.eval]
  repeat refine Or.inl ?_
  have IB:W2.heap.size=w1.heap.size+1:=by rw[<-hW2];simp
  have xa:Ext w1 W2:=by rw[<-hW2];exact Ext.al _ _
  have DA:AG W2 W2.heap.size w1 (c::r):=⟨aa,ak _,sl,by rw[<-hW2];exact Row.new _ [_] _,by rw[<-hw];exact gF.ext xa,hlc,λi hi=>by have:=(yG i hi).2;omega⟩;refine(vH (DA.ext x3)).mono ?_;rintro e w4 ⟨m4,hp⟩;obtain⟨rfl,ha4⟩:=hp;have hzw:w.heap.size+1<=w1:=by have:=x1.size;simpa using this
  have x4:Ext w w4:=m4.ext (x2.tr x3) (λi hi=>by omega);have gl:∀i,W2.heap.size<=i->i≠w1.heap.size:=λi hi=>by omega
  have hm4:bG GS w4 (some rm) (kvZ 23 (AF sh [c1,c2,c3,c4,c5])):=hm.same (m4.same rm hm.lt (gl _ b0));have k1:=r1.same (m4.same c1 r1.lt (gl _ b1));have k2:=r2.same (m4.same c2 r2.lt (gl _ b2));have k3:=r3.same (m4.same c3 r3.lt (gl _ b3));have k4:=r4.same (m4.same c4 r4.lt (gl _ b4));have k5:=r5.same (m4.same c5 r5.lt (gl _ b5));by_cases hc:c∈uF
  ·obtain⟨i,hi⟩:=List.mem_iff_getElem?.1 hc;have aBe:i<23:=(cG.1 hi).1;obtain⟨v,hv⟩:∃v,(AF sh [c1,c2,c3,c4,c5])[i]? =some v:=⟨_,cK (show i<(AF sh [c1,c2,c3,c4,c5]).length from aBe)⟩;obtain⟨f,a,b,hcv,hcall⟩:=aBc c r i hw hi w4 W2.heap.size w1 c1 c2 c3 c4 c5 x4 ha4 (by omega) k1 k2 k3 k4 k5 ⟨b1,b2,b3,b4,b5⟩ v hv;have qG:(Instr.lookup 87 (.map (some rm)) (.string c) false).run Tryz.prog w4=.ok v w4:=by refine(yk (P:=Tryz.prog) (z:=.nilFunc) ak4 Vt hm4 ⟨c,rfl⟩ false (v:=v) (b:=true) (.inl ⟨rfl,?_⟩));unfold kvZ;refine List.mem_iff_getElem?.2 ⟨i,?_⟩;rw[List.getElem?_zip_eq_some];refine⟨?_,hv⟩;rw[aW,dN (by decide),hi];rfl
   simp[go_sem,Oper.upon,wpOps,Oper.wp,Act.put,Act.eval,qG];obtain⟨rfl,aBf⟩:=hcv
   repeat refine Or.inl ?_
   refine wp_seq (wp_region ?_);simp[wpOps,go_sem,Act.put,Act.eval,Exit.then,Oper.wp,Oper.upon]
   repeat refine Or.inl ?_
   have hr4:Row w4 w [.string (ByteArray.mk #[])] 9:=(jT.ext x3).same (m4.same _ (jT.ext x3).lt (by omega));refine(mj true w4).mono ?_;rintro e w4' ⟨he,e4⟩;simp only[if_true]at he;subst he;rw[e4];refine wp_seq (wp_region ?_);simp[wpOps,go_sem,Act.put,Act.eval,Exit.then,Oper.wp,Oper.upon,invoke,aBf]
   repeat refine Or.inl ?_
   refine hcall.mono ?_;rintro e u ⟨hk,⟨tx,rfl,hq⟩|⟨rfl,hq⟩⟩
   ·have hru:=hr4.same hk;have hcu:u.cell? ⟨w.heap.size,0,none⟩=some (.string (ByteArray.mk #[])):=by have:=hru.ld 0;simpa[Vc.ld]using this
    have hfu:u.frozen? ⟨w.heap.size,0,none⟩=false:=oJ hru _;have hrs:=hru.set [.string tx];have tc:(u.setRow w #[.string tx]).cell? ⟨w.heap.size,0,none⟩=some (.string tx):=by have:=hrs.ld 0;simpa[Vc.ld]using this
    have hqs:Q tx (u.setRow w #[.string tx]):=gm _ _ _ hq (iu _ _ _);simp[go_sem,storeCells,hcu,hfu];rw[E4 hru rfl]
    repeat refine Or.inl ?_
    refine wp_ret ?_;simp only[bodyPostD];refine leaves_cons (f:=51) (args:= #[.pointer (some ⟨w.heap.size,0,none⟩)]) (by simp) (j5 Tryz.func51 (by kernel_rfl) rfl _ _) ?_;refine(VV ⟨w.heap.size,0,none⟩ _).mono ?_;rintro e u' w'' ⟨rfl,rfl,rfl⟩;simp[Leaves,settle,results,Tryz.results14,go_sem,tc];exact hqs
   ·have hru:=hr4.same hk;have hcu:u.cell? ⟨w.heap.size,0,none⟩=some (.string (ByteArray.mk #[])):=by have:=hru.ld 0;simpa[Vc.ld]using this
    have hfu:u.frozen? ⟨w.heap.size,0,none⟩=false:=oJ hru _;have hrs:=hru.set [.string (ByteArray.mk #[98,97,100])];have tc:(u.setRow w #[.string (ByteArray.mk #[98,97,100])]).cell? ⟨w.heap.size,0,none⟩=some (.string (ByteArray.mk #[98,97,100])):=by have:=hrs.ld 0;simpa[Vc.ld]using this
    have hqs:Q (ByteArray.mk #[98,97,100]) (u.setRow w #[.string (ByteArray.mk #[98,97,100])]):=gm _ _ _ hq (iu _ _ _);simp only[Io,bodyPostD];refine leaves_cons (f:=51) (args:= #[.pointer (some ⟨w.heap.size,0,none⟩)]) (by simp) (j5 Tryz.func51 (by kernel_rfl) rfl _ _) ?_;refine(KP ⟨w.heap.size,0,none⟩ (ByteArray.mk #[]) _ _ _ hcu hfu).mono ?_;rintro e u' w'' ⟨rfl,rfl,rfl⟩;rw[E4 hru rfl];simp[Leaves,settle,results,Tryz.results14,go_sem,tc];exact hqs
  ·have qG:(Instr.lookup 87 (.map (some rm)) (.string c) false).run Tryz.prog w4=.ok .nilFunc w4:=by refine(yk (P:=Tryz.prog) (z:=.nilFunc) ak4 Vt hm4 ⟨c,rfl⟩ false (v:=.nilFunc) (b:=false) (.inr ⟨rfl,rfl,?_⟩));rintro⟨x,y⟩ he hx;obtain⟨t',ht',hx'⟩:=bc.1 (List.of_mem_zip he).1;have:Value.string t'=.string c:=hx'.trans hx;injection this with this;rw[this]at ht';exact hc (List.mem_of_mem_take ht')
   have hr4:Row w4 w [.string (ByteArray.mk #[])] 9:=(jT.ext x3).same (m4.same _ (jT.ext x3).lt (by omega));have hc4:w4.cell? ⟨w.heap.size,0,none⟩=some (.string (ByteArray.mk #[])):=by have:=hr4.ld 0;simpa[Vc.ld]using this
   have hf4:w4.frozen? ⟨w.heap.size,0,none⟩=false:=oJ hr4 _;simp[go_sem,Oper.upon,wpOps,Oper.wp,Act.put,Act.eval,qG]
   repeat refine Or.inl ?_
   refine wp_seq (wp_region ?_);simp[wpOps,go_sem,Act.put,Act.eval,Exit.then,Oper.wp,Oper.upon]
   repeat refine Or.inl ?_
   refine(mj false w4).mono ?_;rintro e w4' ⟨he,e4⟩;simp only[Bool.false_eq_true,if_false]at he;subst he;rw[e4]
   ·have hrs:=hr4.set [.string (ByteArray.mk #[98,97,100])];have tc:(w4.setRow w #[.string (ByteArray.mk #[98,97,100])]).cell? ⟨w.heap.size,0,none⟩=some (.string (ByteArray.mk #[98,97,100])):=by have:=hrs.ld 0;simpa[Vc.ld]using this
    have hqs:Q (ByteArray.mk #[98,97,100]) (w4.setRow w #[.string (ByteArray.mk #[98,97,100])]):=gm _ _ _ (WJ c r hw hc w4 x4) (iu _ _ _);simp only[Io,bodyPostD];refine leaves_cons (f:=51) (args:= #[.pointer (some ⟨w.heap.size,0,none⟩)]) (by simp) (j5 Tryz.func51 (by kernel_rfl) rfl _ _) ?_;refine(KP ⟨w.heap.size,0,none⟩ (ByteArray.mk #[]) _ _ _ hc4 hf4).mono ?_;rintro e u' w'' ⟨rfl,rfl,rfl⟩;rw[E4 hr4 rfl];simp[Leaves,settle,results,Tryz.results14,go_sem,tc];exact hqs
open Go.bW Go.aN Go.Code
def FM{F:Nat->Prop}{w:World}{g s o t:Nat}{M:Sm}{occ:Value}{L:lCs}(h:EF F w g s o t M occ L)(hW:M.T.1.l.length<=1000000)(p:Po):
  ab 88 #[t,pv p] w λe w'=>e=vI (yO M.aj M.cap M.T.1 M.T.2 p).2/\dK F w g s o t {M with T:=(yO M.aj M.cap M.T.1 M.T.2 p).1} occ L w':=by
 obtain⟨Fs,hS,hp,dP,hr⟩:=h.EN;obtain⟨Fw,hw,hsub2,jT⟩:=hS.world;refine(Q1 hw hW p).bf λw' bq=>?_
 exact⟨rfl,hr (jT bq)⟩
def Di{w:World}{B ga c0:Nat}{ws:List ByteArray}{fv:Value}(ha:AG w B ga ws)(hc:Row w c0 [fv] 157)(gl:c0≠ga)(hfv:kq fv=[])(R:eWp)
  (WJ:(∀p,xC ws≠some (p,[]))->∀u,Mod (λi=>i=ga) w u->R Io u)
  (hdo:∀p r,xC ws=some (p,r)->r=[]->∀u,Mod (λi=>i=ga) w u->w.heap.size<u.heap.size->bu Tryz.prog fv [.agg #[vI p.1,vI p.2]] u λe u'=>∃(x:Int)(tx:ByteArray),e=vI x/\(∀i,w.heap.size<=i->i<u.heap.size->u'.heap[i]? =u.heap[i]?)/\u.heap.size<=u'.heap.size/\
   (∀v,Ext u' v->xD v (.iface 168 (vI x)) tx)/\tx.size<=1000000/\∀v,Ext u' v->R (.returned (.string tx)) v):
  ab 155 #[ga,c0] w R:=by
 apply wm.vc;refine(QD ha).mono ?_;rintro e w0 ⟨m0,hp⟩
 cases hw:xC ws with
 |none=>
  rw[hw]at hp;subst hp;exact WJ (λp q=>by rw[hw]at q;cases q) _ m0
 |some x=>
  obtain⟨⟨x,z⟩,r⟩:=x;rw[hw]at hp;obtain⟨rfl,ha0⟩:=hp;refine⟨x,z,rfl,?_⟩;intro w3 e3 w4 e4;have x3:Ext w0 w3:=by rw[e3];exact Ext.al _ _
  have z3:=fD e3;have m4:=iu w3 w0 #[vI x,z];rw[<-e4]at m4;have x4:Ext w0 w4:=m4.ext x3 (λi hi=>by omega);have z4:w4.heap.size=w0.heap.size+1:=by rw[e4];simp[z3]
  have mw4:Mod (λi=>i=ga) w w4:=m0.trans (Mod.aq x4);refine(qW (ha0.ext x4)).mono ?_;rintro e w5 ⟨e5,he⟩;rw[e5];by_cases hr:r=[]
  ·rw[if_pos hr]at he;subst he;have hcw:Row w4 c0 [fv] 157:=hc.same (mw4.same c0 hc.lt gl);refine⟨rfl,rfl,fv,by rw[hcw.ld];rfl,?_⟩;have h0w:=m0.size;refine bJ (hdo (x,z) r hw hr w4 mw4 aa) ?_;rintro e w7 ⟨xe,tx,rfl,hk,hs7,hit,nR,hR⟩;refine⟨xe,rfl,hk _ h0w aa,?_⟩;intro w9 e9;have x9:Ext w7 w9:=by rw[e9];exact Ext.al _ _
   have hr9:Row w9 w7 [.iface 168 (xe)] 20:=Row.nw e9;have gF:RdK w9 ⟨aB w7.heap.size,1,1⟩ 1 ([.iface 168 (xe)].map λx=>[x]):=by
    refine⟨rfl,λq hq=>by simp at hq;subst hq;rfl,λi q hi j v hj=>?_⟩
    cases i with
    |succ i=>simp at hi
    |zero=>
     simp at hi;subst hi
     cases j with
     |succ j=>simp at hj
     |zero=>
      simp at hj;subst hj;rw[aF,hr9.ld];rfl
   have hj1:(Lib.join ([tx].map (·.data.toList)) [32]).length<=140737488355328:=by have e:=congrArg bl (join_one tx);have e:Lib.join ([tx].map (·.data.toList)) [32]=bl tx:=e;rw[e,jQ];omega
   refine(qP (outs:=[tx]) gF rfl bo (λi y t hy ht=>?_) hj1).mono ?_
   ·cases i with
    |succ i=>simp at hy
    |zero=>
     simp at hy ht;subst hy;subst ht;exact hit w9 x9
   ·rintro _ br ⟨rfl,bL⟩;refine⟨_,rfl,bL.heap (by have:=x9.size;omega),?_⟩;rw[join_one];exact hR _ (x9.tr bL)
  ·rw[if_neg hr]at he;subst he;exact WJ (λp q=>by rw[hw]at q;cases q;exact hr rfl) _ mw4
def jg{u v:World}{x:Value}{tx:ByteArray}(hv:v=u.alloc (.cells #[x] 20))(hit:xD v x tx)(nR:tx.size<=1000000):
  ed 154 #[.slice (aB u.heap.size) 1 1] v (Value.string tx):=by
 have hr9:Row v u.heap.size [x] 20:=Row.nw hv;have gF:RdK v ⟨aB u.heap.size,1,1⟩ 1 ([x].map λx=>[x]):=by
  refine⟨rfl,λq hq=>by simp at hq;subst hq;rfl,λi q hi j v hj=>?_⟩
  cases i with
  |succ i=>simp at hi
  |zero=>
   simp at hi;subst hi
   cases j with
   |succ j=>simp at hj
   |zero=>
    simp at hj;subst hj;rw[aF,hr9.ld];rfl
 have hj1:(Lib.join ([tx].map (·.data.toList)) [32]).length<=140737488355328:=by have e:=congrArg bl (join_one tx);have e:Lib.join ([tx].map (·.data.toList)) [32]=bl tx:=e;rw[e,jQ];omega
 refine(qP (outs:=[tx]) gF rfl bo (λi y t hy ht=>?_) hj1).mono ?_
 ·cases i with
  |succ i=>simp at hy
  |zero=>
   simp at hy ht;subst hy;subst ht;exact hit
 ·rintro _ br ⟨rfl,bL⟩;rw[join_one];exact⟨rfl,bL⟩
def qS(b:Int):ByteArray:=if b= -1 then ByteArray.mk #[97,119,97,121]else kE b
def J5{F:Nat->Prop}{w:World}{g s o t sh B ga:Nat}{M:Sm}{occ:Value}{L:lCs}{ws:List ByteArray}(h:EF F w g s o t M occ L)(hs:FN w sh g)(ha:AG w B ga ws)(hF:¬F ga)(hsg:sh≠ga)
  (hnm:∀b,(kE b).size<=1000000)(R:eWp)(WJ:(∀p,kI ws≠some (p,[]))->∀u,Mod (λi=>i=ga) w u->R Io u)
  (hok:∀c,kI ws=some (c,[])->pQ c/\∀u,Mod (λi=>i=ga) w u->R (.returned (.string (qS (jc M.T.2 c)))) u):
  ab 104 #[sh,ga] w R:=by
 apply He.vc;refine(Kk ha).mono ?_;rintro e w0 ⟨m0,hp⟩
 cases hw:kI ws with
 |none=>
  rw[hw]at hp;subst hp;exact WJ (λp q=>by rw[hw]at q;cases q) _ m0
 |some x=>
  obtain⟨⟨x,y,z⟩,r⟩:=x;rw[hw]at hp;obtain⟨rfl,ha0⟩:=hp;refine⟨x,y,z,rfl,?_⟩;intro w4 e4 w5 e5;have x4:Ext w0 w4:=by rw[e4];exact Ext.al _ _
  have z4:=fD e4;have m5:=iu w4 w0 #[x,y,z];rw[<-e5]at m5;have x5:Ext w0 w5:=m5.ext x4 (λi hi=>by omega);have z5:w5.heap.size=w0.heap.size+1:=by rw[e5];simp[z4]
  have mw5:Mod (λi=>i=ga) w w5:=m0.trans (Mod.aq x5);refine(qW (ha0.ext x5)).mono ?_;rintro e w6 ⟨e6,he⟩;rw[e6];by_cases hr:r=[]
  ·rw[if_pos hr]at he;subst he;subst hr;obtain⟨hc,hR⟩:=hok _ hw;have h5:EF F w5 g s o t M occ L:=h.same λi hi=>mw5.same i (h.lt hi) (λq=>hF (q▸hi))
   have hd:=h5.ext (Ext.dr w5);have hsh:Row w5.drew sh [g] Vu:=(hs.row.same (mw5.same sh hs.row.lt hsg)).ext (Ext.dr w5);have hb:Row w5.drew w0 (eV (x,y,z)) 23:=by
    have:Row w5 w0 (eV (x,y,z)) 23:=by have hr4:Row w4 w0 [ai,ai,ai] 23:=Row.nw e4;rw[e5];exact hr4.set [_,_,_]
    exact this.ext (Ext.dr w5)
   obtain⟨Fs,hS,Eu,-,-⟩:=hd.EN;obtain⟨Fw,hW,-,-⟩:=hS.world;refine⟨rfl,rfl,aB g,by rw[aF,hsh.ld];rfl,cA.2 ⟨rfl,cA.2 ⟨rfl,aB s,Eu,(cZ hS).eL ?_⟩⟩⟩;have lb:ah w5.drew (aB w0.heap.size) 0 [x,y,z]:=hb.bH (o:=0) (λj _=>by rw[eF]);have ls:ah w5.drew (ae (aB sh) 0) 0 [g]:=by rw[aF];exact hsh.bH (λj _=>by simp)
   refine⟨_,rfl,rfl,lb,ls,(lZ hW).eL ?_⟩;have hca:bu Tryz.prog (.func (.func 113) #[t] #[]) [.agg #[x,y,z]] w5.drew λe w''=>e=vI (jc M.T.2 (x,y,z))/\Ext w5.drew w'':=hd.tl.at (c:=(x,y,z)) hc
   refine⟨_,rfl,rfl,lb,ls,?_⟩;refine bJ hca ?_;rintro e bw ⟨rfl,cJ⟩;have atW:Ext w5 bw:=(Ext.dr w5).tr cJ;have s5:=nV w5;have aAw:w0.heap.size<bw:=by have:=cJ.size;omega
   refine⟨_,rfl,cJ.k,by rw[aF];exact(hsh.ext cJ).bH (λj _=>by simp),Br.mk (λc1=>?_) (λc1=>?_)⟩
   ·have c1:=eK c1;intro c9 pC;have dn:Ext bw c9:=by rw[pC];exact Ext.al _ _
    refine(jg pC (.s _) au).bf λbZ dw=>?_
    refine⟨_,rfl,dw.heap (by have:=dn.size;omega),?_⟩;have:=hR bZ (mw5.trans (Mod.aq ((atW.tr dn).tr dw)));unfold qS at this;rw[if_pos c1]at this;exact this
   ·have c1:=eK c1;refine(kl _ bw).bf λdA dc=>?_
    refine⟨_,rfl,dc.heap aAw,?_⟩;intro eQ wx;have fe:Ext dA eQ:=by rw[wx];exact Ext.al _ _
    refine(jg wx (.s _) (hnm _)).bf λdi fk=>?_
    refine⟨_,rfl,fk.heap (by have:=dc.size;have:=fe.size;omega),?_⟩;have:=hR di (mw5.trans (Mod.aq (((atW.tr dc).tr fe).tr fk)));unfold qS at this;rw[if_neg c1]at this;exact this
  ·rw[if_neg hr]at he;subst he;exact WJ (λp q=>by rw[hw]at q;cases q;exact hr rfl) _ mw5
abbrev PE:Value:=.func (.func 175) #[] #[]
def Gu(w:World):ab 26 #[] w λe w'=>∃(sh g s o t:Nat)(F:Nat->Prop),e=Value.pointer (aB sh)/\EF F w' g s o t (FO 1 9 200000 16) PE OT/\FN w' sh g/\¬F sh/\Ext w w'/\(∀i,F i->w.heap.size<=i)/\w.heap.size<=sh:=by
 apply ZC.vc;refine(Ke 1 9 200000 16 w).mono ?_;rintro _ w0 ⟨g,s,o,t,F,rfl,h,x0,hF⟩;refine⟨_,rfl,?_⟩;intro w2 e2;have x2:Ext w0 w2:=by rw[e2];exact Ext.al _ _
 exact⟨w0.heap.size,g,s,o,t,F,rfl,h.ext x2,⟨by rw[e2];exact Row.new _ [_] _⟩,λq=>by have:=h.lt q;omega,x0.tr x2,hF,x0.size⟩
def ajr:(Tryz.prog.info? 112).map (·.size)=some 2:=by kernel_rfl
def ajs:liesAt Tryz.prog Tryz.prog.depth 112 (2/Tryz.prog.cellsOf 112) 0 112 1=true:=by kernel_rfl
def abB{w:World}{g:Nat}{cs:LV}{t:TypeId}(h:Row w g cs t):w.shape? g=some (t,cs.length):=by simp[World.shape?,show w.heap[g]? =_ from h]
def Hb{w:World}{b:Nat}{p:Option Addr}{v:Value}(h:Row w b [.pointer p,v] 112)(hp:p=none\/p=aB b):
  ab 117 #[b] w λe w'=>e=pz/\Row w' b [b,v] 112/\Mod (λi=>i=b) w w'/\w'.heap.size=w.heap.size:=by
 have hc:w.cell? ⟨b,0,none⟩=some (.pointer p):=by have:=h.ld 0;simpa[Vc.ld]using this
 have hf:w.frozen? ⟨b,0,none⟩=false:=oJ h _;obtain⟨j,hj,hjs⟩:=wM.1 ajr;have hsh:=abB h;have c1:=Lib.run_to_unsafe (P:=Tryz.prog) (w:=w) (src:=110) (dst:=230) ⟨b,0,none⟩ Tryz.underlying110 Tryz.underlying230 hj (by rw[hjs];decide) hsh bo;have c2:(callFunc 180 #[b]).run Tryz.prog w=_:=run_callFunc_extern Tryz.func180 (by kernel_rfl) (by kernel_rfl) (by kernel_rfl) (e:=Extern.AbiNoEscape.same) (by kernel_rfl) _ w;have c3:=Lib.run_from_unsafe (P:=Tryz.prog) (w:=w) (src:=230) (dst:=110) ⟨b,0,none⟩ Tryz.underlying230 Tryz.underlying110 hj hsh ajs;have gm:w.setCell ⟨b,0,none⟩ (.pointer (aB b))=w.setRow b #[b,v]:=by have h2:=h.bB (o:=0) (vs:=[b]) bo (λu hu=>by simp at hu;subst hu;rfl);exact h2
 go_enter Tryz.func117,Tryz.ntmps117;refine wp_seq (wp_region ?_);simp[wpOps,go_sem,Act.put,Act.eval,Exit.then,Oper.wp,Oper.upon,hc]
 repeat refine Or.inl ?_
 rcases hp with rfl|rfl
 ·refine wp_cond_true (by simp[Act.eval]) ?_;refine wp_region ?_;simp[wpOps,go_sem,Act.put,Act.eval,Exit.then,Oper.wp,Oper.upon,c1,c2,c3,Lib.run_noEscape,hc,hf,storeCells]
  repeat refine Or.inl ?_
  go_end0;refine⟨rfl,?_⟩;rw[gm];exact⟨h.set [_,_],iu _ _ _,bo⟩
 ·refine wp_cond_false (by simp[Act.eval]) ?_;refine wp_seq (wp_region ?_);simp[wpOps,go_sem,Act.put,Act.eval,Exit.then,Oper.wp,Oper.upon,hc]
  repeat refine Or.inl ?_
  have cn:(binOp .neq 110 (.pointer (aB b)) (.pointer (aB b))).run Tryz.prog w=.ok (.bool false) w:=by
   have he:(Op.equal 110 (.pointer (aB b)) (.pointer (aB b))).run Tryz.prog w=.ok true w:=by unfold Op.equal Op.maxDepth;rw[show(10000:Nat)=9999+1 from rfl,Op.equalIn,Sem.run_bind,aA,Tryz.underlying110];simp[sameAddr,fE,go_sem]
   simp[binOp,run_underlying Tryz.underlying110,go_sem];rw[he];rfl
  simp[cn]
  repeat refine Or.inl ?_
  refine wp_cond_false (by simp[Act.eval]) ?_;refine wp_skip ?_;go_end0;exact⟨rfl,h,Mod.refl _ _,rfl⟩
def Q4{w:World}{B b:Nat}{p:Option Addr}{v:Value}{bs:LV}(hp:p=none\/p=aB b)(hr:Row w b [.pointer p,v] 112)(lF:w.ownsRow B 5 1 v bs.length bs)(gl:v.ownBlock≠some b):
  ab 117 #[b] w λe w'=>e=pz/\Row w' b [b,v] 112/\w'.ownsRow B 5 1 v bs.length bs/\Mod (λi=>i=b) w w'/\w'.heap.size=w.heap.size:=by
 refine(Hb hr hp).mono ?_;rintro e w' ⟨rfl,hr',hm,hs⟩;refine⟨rfl,hr',?_,hm,hs⟩;obtain⟨h1,h2⟩:=lF;refine⟨h1,h2.imp id ?_⟩;rintro⟨g,cap,cur,rfl,q1,q2,q3⟩;refine⟨g,cap,cur,rfl,q1,?_,q3⟩;rw[hm.same g (oQ.1 q2).1 (λe=>gl (by rw[e];rfl))];exact q2
def Hc{P:Program}(w:World)(base:Nat)(t u ty e:TypeId)(i:TypeInfo)(ht:P.underlying t=some (.slice e))(hu:P.underlying u=some .string)(hi:P.info? e=some i)(hz:i.zero=some (.int .u8 0))
  (hsize:i.size=1)(WE:i.bytes=1)(v:Value)(n:Nat)(xs:LV)(lF:w.ownsRow base e 1 v n xs)(s:ByteArray)(hbytes:n+s.size<=140737488355328)(hbase:base<=w):
  ∃v' w',(Builtin.append_ #[t,u] ty #[v,.string s]).run P w=.ok v' w'/\w'.ownsRow base e 1 v' (n+s.size) (xs++Lib.strCells s)/\w.grownBy w' v.ownBlock/\(v'.ownBlock=v.ownBlock\/v'.ownBlock=some w.heap.size):=by
 obtain⟨v',w',hr,h2,h3,h4⟩:=Lib.run_append_own_string w base t u ty e i ht hu hi hz hsize WE v n xs lF s (by unfold maxLen;omega) hbytes hbase;refine⟨v',w',hr,h2,h3,?_⟩;have hxl:xs.length=n:=by simpa using lF.1
 rcases lF.2 with⟨rfl,rfl⟩|⟨g,cap,cur,rfl,hbg,hg,Is,hcm,tc,htake⟩
 ·by_cases hm:s.size=0
  ·rw[h4.2 ⟨rfl,hm⟩];exact .inl rfl
  ·have q:=run_append_nil_string (P:=P) w t u ty e i (.int .u8 0) ht hu hi hz s aa aa (by rw[WE];omega);rw[q]at hr
   cases hr
   exact .inr rfl
 ·by_cases hroom:n+s.size<=cap
  ·have q:=Lib.run_append_room_string (P:=P) w t u ty e i ht hu hi hsize g n cap cur hg s hroom aa;rw[q]at hr
   cases hr
   exact .inl rfl
  ·have holds:∀j u,xs[j]? =some u->w.cell? ((⟨g,0,none⟩:Addr).add j)=some u:=lF.cells (g:=g) rfl;have q:=Lib.run_append_grow_string (P:=P) w t u ty e i (.int .u8 0) ht hu hi hz ⟨g,0,none⟩ n cap xs (by rw[hsize];simpa using hxl) holds s aa aa (by rw[WE];exact growslice_fits aa aa);rw[q]at hr
   cases hr
   exact .inr rfl
def Ve{P:Program}(w:World){ops:Array Oper}{rest:List Oper}{o:Oper}{a:Act}{Q:Exit->Act->wPp}(hgd:o.guard=none)(sl x:Operand)(t u:TypeId)
  (ho:o.op=.call {callee:=.builtin .append,args:= #[sl,x],argTypes:= #[t,u]})
  (base:Nat)(e:TypeId)(i:TypeInfo)(ht:P.underlying t=some (.slice e))(hu:P.underlying u=some .string)(hi:P.info? e=some i)(hz:i.zero=some (.int .u8 0))
  (hsize:i.size=1)(WE:i.bytes=1)(v:Value)(n:Nat)(xs:LV)(hs:a.eval sl=v)(lF:w.ownsRow base e 1 v n xs)(s:ByteArray)(hx:a.eval x=.string s)
  (hbytes:n+s.size<=140737488355328)(hbase:base<=w)
  (h:∀v' w',w'.ownsRow base e 1 v' (n+s.size) (xs++Lib.strCells s)->w.grownBy w' v.ownBlock->(v'.ownBlock=v.ownBlock\/v'.ownBlock=some w.heap.size)->wpList P ops Q rest (a.put o.dst v') w'):wpList P ops Q (o::rest) a w:=by
 refine wpList_plain hgd λK hK=>?_
 obtain⟨v',w',hr,h2,h3,h4⟩:=Hc (P:=P) w base t u o.type e i ht hu hi hz hsize WE v n xs lF s hbytes hbase;unfold Oper.wp execOp;simp only[ho,resolve,invoke,builtin,Sem.run_bind,Sem.run_pure,Result.andThen_ok,List.map_toArray,eH,List.map_nil,hs,hx,hr];exact hK _ _ (h v' w' h2 h3 h4)
def Ca{w:World}{B b:Nat}{p:Option Addr}{v:Value}{bs:List Value}(s:ByteArray)(hp:p=none\/p=some ⟨b,0,none⟩)(de:Row w b [.pointer p,v] 112)(hown0:w.ownsRow B 5 1 v bs.length bs)(hne0:v.ownBlock≠some b)(cX:bs.length+s.size<=140737488355328)(hBw:B<=w.heap.size):
  Calls Tryz.prog 62 #[.pointer (some ⟨b,0,none⟩),.string s] w λe w'=>e=.returned (.tuple #[vI s.size,.nilIface])/\(∃v':Value,Row w' b [.pointer (some ⟨b,0,none⟩),v'] 112/\w'.ownsRow B 5 1 v' (bs++Lib.strCells s).length (bs++Lib.strCells s)/\v'.ownBlock≠some b/\(∀i,v'.ownBlock=some i->v.ownBlock=some i\/w.heap.size<=i))/\Mod (λi=>i=b\/v.ownBlock=some i) w w'/\∀i,i<w.heap.size->i≠b->v.ownBlock≠some i->w'.heap[i]? =w.heap[i]? :=by
 have X:=Tryz.qg;obtain⟨i0,hi,hz0,hz1,IB⟩:=info_parts X.infoByte;have t72:=Tryz.underlying112;have a72:=Tryz.isAgg112;have z72:=Tryz.sizeOf112;have v72:=Tryz.zeroValue112;have u72:=run_underlying t72;have t70:=Tryz.underlying110;have a70:=Tryz.isAgg110;have z70:=Tryz.sizeOf110;have v70:=Tryz.zeroValue110;have u70:=run_underlying t70;have t37:=Tryz.underlying43;have a37:=Tryz.isAgg43;have z37:=Tryz.sizeOf43;have v37:=Tryz.zeroValue43;have u37:=run_underlying t37;have t3:=Tryz.underlying3;have a3:=Tryz.isAgg3;have z3:=Tryz.sizeOf3;have v3:=Tryz.zeroValue3;have u3:=run_underlying t3;have t9:=Tryz.underlying9;have a9:=Tryz.isAgg9;have z9:=Tryz.sizeOf9;have v9:=Tryz.zeroValue9;have u9:=run_underlying t9;have t5:=Tryz.underlying5;have a5:=Tryz.isAgg5;have z5:=Tryz.sizeOf5;have v5:=Tryz.zeroValue5;have u5:=run_underlying t5;have aG6:∀args w,(callFunc 117 args).run Tryz.prog w=.ok (.enter 117 args) w:=λargs w=>j5 Tryz.func117 (by kernel_rfl) rfl args w
 go_enter Tryz.func62,Tryz.ntmps62;go_wp2_with (go_at_call 117;refine(Q4 hp de hown0 hne0).mono ?_);rintro e w1 ⟨rfl,yG,lF,hm1,fD⟩;have gl:=hne0;have c0:w1.cell? ⟨b,0,none⟩=some (.pointer (some ⟨b,0,none⟩)):=by rw[Lib.cell_of_heap yG];rfl
 have c1:w1.cell? ⟨b,1,none⟩=some v:=by rw[Lib.cell_of_heap yG];rfl
 go_wp2_with (at_builtin;refine Ve _ rfl _ _ 43 9 rfl B 5 i0 Tryz.underlying43 Tryz.underlying9 hi hz0 hz1 IB _ _ _ rfl lF s rfl ?c4 ?c5 ?_)
 case c4=>omega
 case c5=>omega
 intro v' w2 agZ hgrow Le;have fK:b<w1.heap.size:=(Array.getElem?_eq_some_iff.1 yG).1;have lk:w2.heap[b]? =some (.cells #[.pointer (some ⟨b,0,none⟩),v] 112 (0,0)):=by rw[hgrow.block b fK (λe=>gl e.symm)];exact yG
 have d0:w2.cell? ⟨b,0,none⟩=some (.pointer (some ⟨b,0,none⟩)):=by rw[Lib.cell_of_heap lk];rfl
 have d1:w2.cell? ⟨b,1,none⟩=some v:=by rw[Lib.cell_of_heap lk];rfl
 have f1:w2.frozen? ⟨b,1,none⟩=false:=Lib.frozen_of_heap lk 1;obtain⟨ao,n',cap,rfl⟩:∃ao n' cap,v'=.slice ao n' cap:=by
  rcases agZ.2 with⟨hv,_⟩|⟨g,cap,cur,hv,_⟩
  ·exact⟨_,_,_,hv⟩
  ·exact⟨_,_,_,hv⟩
 go_wp2;go_ret2;have jT:Row w2 b [.pointer (some ⟨b,0,none⟩),v] 112:=lk;have oD:=jT.bB (o:=1) (vs:=[.slice ao n' cap]) (by simp) (λu hu=>by simp at hu;subst hu;rfl);have oD:w2.setCell ⟨b,1,none⟩ (.slice ao n' cap)=w2.setRow b #[.pointer (some ⟨b,0,none⟩),.slice ao n' cap]:=oD;rw[oD];have ms:=iu w2 b #[.pointer (some ⟨b,0,none⟩),.slice ao n' cap];have aV:∀i,i<w.heap.size->i≠b->v.ownBlock≠some i->(w2.setRow b #[.pointer (some ⟨b,0,none⟩),.slice ao n' cap]).heap[i]? =w.heap[i]? :=λi hi hib hvi=>
  (setRow_other _ _ _ _ hib).trans ((hgrow.block i (by omega) (λe=>hvi e.symm)).trans (hm1.same i hi hib))
 have aDL:n'=(bs++Lib.strCells s).length\/True:=.inr trivial;have nb:(Value.slice ao n' cap).ownBlock≠some b:=by
  intro hq;obtain⟨-,h2⟩:=agZ;rcases h2 with⟨hv,-⟩|⟨g,cap',cur,hv,-,hh,-⟩
  ·cases hv;cases hq
  ·cases hv
   cases hq
   rw[lk]at hh;injection hh with hh;injection hh with _ hh
   cases hh
 refine⟨rfl,⟨_,jT.set [_,_],?_,nb,λi hi=>Le.elim (λq=>.inl (q▸hi)) (λq=>.inr (by rw[q]at hi;cases hi;omega))⟩,⟨?_,?_,?_,?_,λi hi hn=>aV i hi (λq=>hn (.inl q)) (λq=>hn (.inr q))⟩,aV⟩
 ·have hown2:w2.ownsRow B 5 1 (.slice ao n' cap) (bs++Lib.strCells s).length (bs++Lib.strCells s):=by simpa[Lib.strCells_length]using agZ
  obtain⟨h1,h2⟩:=hown2;refine⟨h1,h2.imp id ?_⟩;rintro⟨g,cap',cur,hv,q1,q2,q3⟩;refine⟨g,cap',cur,hv,q1,?_,q3⟩;rw[setRow_other _ _ _ _ (λe=>nb (by rw[hv,e];rfl))];exact q2
 ·exact hgrow.os.trans hm1.os
 ·exact hgrow.tape.trans hm1.tape
 ·exact hgrow.output.trans hm1.output
 ·have:=hgrow.size;simp;omega
structure SH(w0:World)(F0:Nat->Prop)(w:World)(sh g s o t:Nat)(M:Sm)(occ:Value)(L:lCs)(F:Nat->Prop):Prop where
 e:EF F w g s o t M occ L
 r:FN w sh g
 n:¬F sh
 m:Mod F0 w0 w
 f:∀i,F i->F0 i\/w0.heap.size<=i
def SH.put{w0 u u':World}{F0 F:Nat->Prop}{sh g s o t k:Nat}{M:Sm}{occ:Value}{L:lCs}(h:SH w0 F0 u sh g s o t M occ L F)(hk:¬F k)(hs:sh≠k)(h0:w0.heap.size<=k)(m:Mod (λi=>i=k) u u'):SH w0 F0 u' sh g s o t M occ L F:=
 ⟨h.e.same λi hi=>m.same i (h.e.lt hi) (λq=>hk (q▸hi)),⟨h.r.row.same (m.same sh h.r.row.lt hs)⟩,h.n,h.m.tr m (λi hi=>.inr aa),h.f⟩
def aab{F:Nat->Prop}{w:World}{sh g s o t:Nat}{M:Sm}{occ:Value}{L:lCs}(h:EF F w g s o t M occ L)(hs:FN w sh g)(hF:¬F sh)(hW:M.T.1.l.length<=1000000)
  (line:ByteArray)(hl:line.size<=4294967296)(r:List ByteArray)(hw:cT line=ByteArray.mk #[108,111,97,100]::r)(p:Po)(hp:xC r=some (p,[]))(h0:(yO M.aj M.cap M.T.1 M.T.2 p).2=0):
  ab 14 #[sh,.string line] w λe w'=>∃tx,e=Value.string tx/\tx=ByteArray.mk #[111,107]/\∃F',SH w F w' sh g s o t {M with T:=(yO M.aj M.cap M.T.1 M.T.2 p).1} occ L F'/\¬F' w:=by
 have lE:=hs.row.lt;refine qZ line hl h hs (λtx u=>tx=ByteArray.mk #[111,107]/\∃F',SH w F u sh g s o t {M with T:=(yO M.aj M.cap M.T.1 M.T.2 p).1} occ L F'/\¬F' w) ?_ ?_ ?_ ?_
 ·rintro tx u u' ⟨rfl,F',hS,hn⟩ hm;exact⟨rfl,F',hS.put hn aa (ak _) hm,hn⟩
 ·intro h1;rw[hw]at h1
  cases h1
 ·intro c r' h1 h2;rw[hw]at h1
  cases h1
  exact absurd (aQ (i:=1) rfl) h2
 ·intro c r' i h1 hi u B ga c1 c2 c3 c4 c5 xu DA hga r1 r2 r3 r4 r5 hcB v hv;rw[hw]at h1
  cases h1
  have hi1:i=1:=(List.getElem?_inj (i:=i) (j:=1) (cG.1 hi).1 l8).1 (hi.trans rfl);subst hi1;have hv:aeo c1=v:=by simpa[AF]using hv
  subst hv;refine⟨155,#[],#[c1],⟨rfl,λargs w=>j5 Tryz.func155 (by kernel_rfl) rfl args w⟩,?_⟩;have hgl:=DA.lt;have hle:=DA.le;have hFga:¬F ga:=λq=>by have:=h.lt q;omega
  show ab 155 #[ga,c1] u _;refine Di DA r1 aa rfl _ ?_ ?_
  ·intro lp;exact absurd hp (lp p)
  ·intro p' r'' hp' hr'' u' hm fK;rw[hp]at hp'
   cases hp'
   have hwu:w.heap.size<=u.heap.size:=xu.size;have h1:EF F u' g s o t M occ L:=(h.ext xu).same λi hi=>hm.same i (by have:=h.lt hi;omega) (λq=>hFga (q▸hi))
   refine bR (by kernel_rfl) rfl ((FM h1 hW p).mono ?_);rintro e u2 ⟨rfl,F',h2,ht⟩;have yA:=ht.mod;have ku:∀i,¬F i->i<u'.heap.size->u2.heap[i]? =u'.heap[i]? :=λi hn hi=>yA.same i hi hn
   have nF:∀i,w.heap.size<=i->¬F i:=λi hi q=>by have:=h.lt q;omega
   refine⟨0,ByteArray.mk #[111,107],by rw[h0],λi hi hi2=>ku i (nF i aa) hi2,yA.size,λv _=>.ok,by have e:(ByteArray.mk #[111,107]).size=2:=rfl;rw[e];omega,?_⟩;intro v hv;have hwv:Mod F w v:=(((Mod.aq xu).tr hm (λi hi=>.inr aa)).trans yA).trans (Mod.aq hv);have nR:=hm.size;have hsz2:=yA.size;have sub:∀i,F' i->F i\/u'.heap.size<=i:=ht.sub;refine⟨(hv.k).trans ((ku _ (nF _ (ak _)) aa).trans (hm.same _ aa aa)),.inl ⟨_,rfl,rfl,F',⟨h2.ext hv,⟨hs.row.same (hwv.same sh lE hF)⟩,λq=>(sub _ q).elim hF (λq=>by omega),hwv,λi hi=>(sub i hi).imp id (λq=>by omega)⟩,λq=>(sub _ q).elim (nF _ (ak _)) (λq=>by omega)⟩⟩
def BJ(b:Int):(kE b).size<=1000000:=by
 unfold kE;split
 ·exact eG _
 ·rw[dG]
  cases h:nmT[b.toNat]? with
  |none=>exact eG _
  |some x=>
   have hm:=aQ h;have:∀y∈nmT,y.size<=10:=by unfold nmT;intro y hy;simp at hy;rcases hy with rfl|hy<;>first|decide|(repeat' (rcases hy with rfl|hy<;>first|decide|skip))<;>(try subst hy)<;>decide
   have:=this x hm;show x.size<=_;omega
def aiK{F:Nat->Prop}{w:World}{sh g s o t:Nat}{M:Sm}{occ:Value}{L:lCs}(h:EF F w g s o t M occ L)(hs:FN w sh g)(hF:¬F sh)(hnm:∀b,(kE b).size<=1000000)
  (line:ByteArray)(hl:line.size<=4294967296)(r:List ByteArray)(hw:cT line=ByteArray.mk #[97,116]::r)(c:Ce)(hp:kI r=some (c,[]))(hc:pQ c):
  ab 14 #[sh,.string line] w λe w'=>∃tx,e=Value.string tx/\tx=qS (jc M.T.2 c)/\SH w F w' sh g s o t M occ L F:=by
 have lE:=hs.row.lt;have nw:¬F w:=λq=>by have:=h.lt q;omega
 refine qZ line hl h hs (λtx u=>tx=qS (jc M.T.2 c)/\SH w F u sh g s o t M occ L F) ?_ ?_ ?_ ?_
 ·rintro tx u u' ⟨rfl,hS⟩ hm;exact⟨rfl,hS.put nw aa (ak _) hm⟩
 ·intro h1;rw[hw]at h1
  cases h1
 ·intro c' r' h1 h2;rw[hw]at h1
  cases h1
  exact absurd (aQ (i:=17) rfl) h2
 ·intro c' r' i h1 hi u B ga c1 c2 c3 c4 c5 xu DA hga r1 r2 r3 r4 r5 hcB v hv;rw[hw]at h1
  cases h1
  have hi1:i=17:=(List.getElem?_inj (i:=i) (j:=17) (cG.1 hi).1 l8).1 (hi.trans rfl);subst hi1;have hv:kc 104 sh=v:=by simpa[AF]using hv
  subst hv;refine⟨104,#[sh],#[],⟨rfl,λargs w=>j5 Tryz.func104 (by kernel_rfl) rfl args w⟩,?_⟩;have hgl:=DA.lt;have hle:=DA.le;have hFga:¬F ga:=λq=>by have:=h.lt q;omega
  show ab 104 #[sh,ga] u _;refine J5 (h.ext xu) ⟨hs.row.ext xu⟩ DA hFga aa hnm _ ?_ ?_
  ·intro lp;exact absurd hp (lp c)
  ·intro c2' hp';rw[hp]at hp'
   cases hp'
   refine⟨hc,λu' hm=>?_⟩;have hwv:Mod F w u':=(Mod.aq xu).tr hm (λi hi=>.inr aa);have hwu:w.heap.size<=u.heap.size:=xu.size;refine⟨hm.same _ aa aa,.inl ⟨_,rfl,rfl,(h.ext xu).same λi hi=>hm.same i (by have:=h.lt hi;omega) (λq=>hFga (q▸hi)),⟨hs.row.same (hwv.same sh lE hF)⟩,hF,hwv,λi hi=>.inl hi⟩⟩
def EY:ByteArray:=ByteArray.mk #[108,111,97,100,32,48,32,48,10,97,116,32,48,32,48,32,48]
def tu:ByteArray:=ByteArray.mk #[108,111,97,100,32,48,32,48]
def tw:ByteArray:=ByteArray.mk #[97,116,32,48,32,48,32,48]
def w0b:ByteArray:=ByteArray.mk #[48]
def Vl:Lib.countB EY (ByteArray.mk #[10])=1/\Lib.splitB (ByteArray.mk #[10]) 0 1 EY=[tu,tw]:=⟨by kernel_rfl,by kernel_rfl⟩
def Vj:cT tu=[ByteArray.mk #[108,111,97,100],w0b,w0b]:=by kernel_rfl
def Vk:cT tw=[ByteArray.mk #[97,116],w0b,w0b,w0b]:=by kernel_rfl
def awq:xC [w0b,w0b]=some ((0,0),[]):=by kernel_rfl
def awr:kI [w0b,w0b,w0b]=some ((0,0,0),[]):=by kernel_rfl
def R6{w w':World}{B n:Nat}{v:Value}{xs:LV}(h:w.ownsRow B 5 1 v n xs)(hk:∀i,v.ownBlock=some i->w'.heap[i]? =w.heap[i]?):w'.ownsRow B 5 1 v n xs:=by obtain⟨h1,h2⟩:=h;refine⟨h1,h2.imp id ?_⟩;rintro⟨g,cap,cur,rfl,q1,q2,q3⟩;exact⟨g,cap,cur,rfl,q1,(hk g rfl).trans q2,q3⟩
def ym{w:World}{B n:Nat}{v:Value}{xs:LV}(h:w.ownsRow B 5 1 v n xs){i:Nat}(hi:v.ownBlock=some i):B<=i/\i<w/\∃cs,w.heap[i]? =some (.cells cs 5 (0,0)):=by
 obtain⟨-,h2⟩:=h;rcases h2 with⟨rfl,-⟩|⟨g,cap,cur,rfl,q1,q2,-⟩
 ·cases hi
 ·cases hi
  exact⟨q1,(oQ.1 q2).1,_,q2⟩
def ae0{w:World}{a:Nat}{xs:List ByteArray}(h:Row w a (xs.map Value.string) 9):RdK w ⟨aB a,xs.length,xs.length⟩ 1 (xs.map sv):=by
 refine⟨(aK _).symm,λq hq=>?_,λi q hi j v hj=>?_⟩
 ·obtain⟨t,-,rfl⟩:=bc.1 hq;rfl
 ·rw[aW]at hi;obtain⟨t,ht,rfl⟩:=wM.1 hi
  cases j with
  |succ j=>simp at hj
  |zero=>
   simp at hj;subst hj;rw[aF,h.ld,aW];simp[ht]
def wW(L:List ByteArray)(p:Nat):Prop:=p<100/\∃l,L[p]? =some l/\cT l≠[]
open Classical in
noncomputable def nO(L:List ByteArray)(T:Nat->ByteArray):Nat->List UInt8
 |0=>[]
 |p+1=>nO L T p++if wW L p then bl (T p)++[10]else []
def Hk{L:List ByteArray}{T:Nat->ByteArray}{p:Nat}(h:wW L p):nO L T (p+1)=nO L T p++(bl (T p)++[10]):=by rw[nO,if_pos h]
def ai0{L:List ByteArray}{T:Nat->ByteArray}{p:Nat}(h:¬wW L p):nO L T (p+1)=nO L T p:=by rw[nO,if_neg h,oV]
structure Rst(w:World)(L:List ByteArray)(T:Nat->ByteArray)(I:Nat->Nat->(Nat->Prop)->wPp)(sh ka kb p:Nat)(F:Nat->Prop)(q:Option Addr)(v:Value)(u:World):Prop where
 i:I sh p F u
 f:∀i,F i->w.heap.size<=i
 a:Row u ka (L.map Value.string) 9
 an:¬F ka
 ag:w.heap.size<=ka
 b:Row u kb [.pointer q,v] 112
 bn:¬F kb
 bg:w.heap.size<=kb
 pp:q=none\/q=aB kb
 o:u.ownsRow w 5 1 v (nO L T p).length (Lib.byteCells (nO L T p))
 on:∀i,v.ownBlock=some i->¬F i
 x:Ext w u
 z:(nO L T p).length<=p*1000001
def ae1{w:World}{g:Nat}{cs:LV}{t E:TypeId}{xs:Array Value}(h:Row w g cs t)(h2:w.heap[g]? =some (.cells xs E (0,0))):t=E:=by have h:w.heap[g]? =_:=h;rw[h]at h2;injection h2 with h2;injection h2
def Rst.ob{w:World}{L:List ByteArray}{T:Nat->ByteArray}{I:Nat->Nat->(Nat->Prop)->wPp}{sh a b p:Nat}{F:Nat->Prop}{pp:Option Addr}{v:Value}{u:World}(h:Rst w L T I sh a b p F pp v u):v.ownBlock≠some b/\v.ownBlock≠some a:=by
 refine⟨λq=>?_,λq=>?_⟩
 ·obtain⟨-,-,cs,hc⟩:=ym h.o q
  cases ae1 h.b hc
 ·obtain⟨-,-,cs,hc⟩:=ym h.o q
  cases ae1 h.a hc
def aer{w:World}{m:Int}(hm:w.cell? ⟨0,0,none⟩=some (vI m))(script:ByteArray)(nR:script.size<4294967281)(L:List ByteArray)(hL:Lib.splitB (ByteArray.mk #[10]) 0 (Lib.countB script (ByteArray.mk #[10])) script=L)(hn:L.length=Lib.countB script (ByteArray.mk #[10])+1)
  (hls:∀l∈L,l.size<=4294967296)(hlm:L.length<=1000000)(T:Nat->ByteArray)(I:Nat->Nat->(Nat->Prop)->wPp)
  (fK:∀sh p F u,I sh p F u->∀i,F i->i<u.heap.size)
  (hsame:∀sh p F u u',I sh p F u->(∀i,F i->u'.heap[i]? =u.heap[i]?)->I sh p F u')
  (vt:∀u sh g s o t F,EF F u g s o t (FO 1 9 200000 16) PE OT->FN u sh g->¬F sh->∃F',I sh 0 F' u/\∀i,F' i->F i\/i=sh)
  (hskip:∀sh p F u,I sh p F u->¬wW L p->I sh (p+1) F u)
  (hstep:∀sh p F u line,Ext w u->(∀i,F i->w.heap.size<=i)->I sh p F u->L[p]? =some line->p<100->cT line≠[]->ab 14 #[.pointer (aB sh),.string line] u λe u'=>e=Value.string (T p)/\(T p).size<=1000000/\∃F',I sh (p+1) F' u'/\Mod F u u'/\∀i,F' i->F i\/u.heap.size<=i):
  ed 29 #[.string script] w (Value.string ⟨(nO L T L.length).toArray⟩):=by
 apply aag.vc;refine(Gu w).mono ?_;rintro _ w0 ⟨sh,g,s,o,t,F,rfl,hE,hS,hF,x0,hFw,aH4⟩;refine⟨_,rfl,?_⟩;intro w2 e2;have x2:Ext w0 w2:=by rw[e2];exact Ext.al _ _
 have z2:=fD e2;have lk:Row w2 w0 [pno,.slice none 0 0] 112:=Row.nw e2;have nA:w2.cell? ⟨0,0,none⟩=some (vI m):=by have:Vc.ld w (some ⟨0,0,none⟩)=some (vI m):=hm;exact(x0.tr x2).ld this
 refine(Tryz.strings_Split script (ByteArray.mk #[10]) m w2 nR nA au).bf λw3 e3=>?_
 rw[hL]at e3;rw[<-hn];have x3:Ext w2 w3:=by rw[e3];exact Ext.al _ _
 have z3:=fD e3;have Ou:Row w3 w2 (L.map Value.string) 9:=by rw[e3];exact Row.new _ _ _
 have z0:=x0.size;obtain⟨F0,hI0,hF0⟩:=vt w3 sh g s o t F (hE.ext (x2.tr x3)) ⟨hS.row.ext (x2.tr x3)⟩ hF;have f0:∀i,F0 i->w.heap.size<=i/\i<w0.heap.size:=λi hi=>(hF0 i hi).elim (λq=>⟨hFw i q,hE.lt q⟩) (λq=>by have:=hS.row.lt;omega)
 refine⟨⟨aB w2.heap.size,L.length,L.length⟩,rfl,x3.k,?_⟩;refine⟨λn x u=>∃p:Nat,x=(p:Int)/\p+n=L.length/\∃F pp v,Rst w L T I sh w2 w0.heap.size p F pp v u,⟨L.length,0,rfl,aa,F0,none,.slice none 0 0,?_⟩,?_⟩
 ·refine⟨hI0,λi hi=>(f0 i hi).1,Ou,λq=>by have:=f0 _ q;omega,aa,lk.ext x3,λq=>by have:=f0 _ q;omega,z0,.inl rfl,⟨rfl,.inl ⟨rfl,rfl⟩⟩,λi hi=>(by cases hi),x0.tr (x2.tr x3),eG _⟩
 ·rintro n us x u ⟨p,rfl,hp,F,pp,v,h⟩;have Ow:=h.ob;apply Br.mk<;>intro c
  ·have c:=of_decide_eq_true c;have S7:p<L.length:=by simpa using c
   obtain⟨line,hline⟩:∃l,L[p]? =some l:=⟨_,cK S7⟩;have wk:=nE (j:=p);have gF:=ae0 h.a;refine⟨gF.jX au aa (by simpa using S7),line,?_,?_⟩
   ·have:=gF.rd p [.string line] (by rw[aW,hline];rfl) 0 _ rfl;simpa using this
   ·have skip:∀u',Ext u u'->¬wW L p->∃n10,n10<n/\∃q:Nat,(aC ((p:Int)+1))=(q:Int)/\q+n10=L.length/\∃F pp v,Rst w L T I sh w2 w0.heap.size q F pp v u':=by intro u' xu lp;refine⟨n-1,aa,p+1,wk,aa,F,pp,v,?_⟩;have eo:nO L T (p+1)=nO L T p:=ai0 lp;exact⟨hsame _ _ _ _ _ (hskip _ _ _ _ h.i lp) λi hi=>xu.heap (fK _ _ _ _ h.i i hi),h.f,h.a.ext xu,h.an,h.ag,h.b.ext xu,h.bn,h.bg,h.pp,by rw[eo];exact R6 h.o λi hi=>xu.heap (ym h.o hi).2.1,h.on,h.x.tr xu,by have:=h.z;have e:=congrArg List.length eo;omega⟩
    refine Br.mk (λc1=>?_) (λc1=>skip u (Ext.bT _) λq=>by have:=q.1;simp at c1;omega);have alT:p<100:=by have:=of_decide_eq_true c1;omega
    refine(HH line u (hls _ (aQ hline))).mono ?_;rintro _ u1 ⟨sl,rfl,hrw,-,-,x1⟩;refine⟨sl,rfl,?_⟩;have tE:sl.n=(cT line).length:=by rw[hrw.n,aK]
    refine Br.mk (λc2=>?_) (λc2=>skip u1 x1 λq=>?_)
    ·have gl:cT line≠[]:=λq=>by rw[q]at tE;simp[tE]at c2
     have htl:wW L p:=⟨alT,line,hline,gl⟩;have hFs:∀i,F i->i<u.heap.size:=fK _ _ _ _ h.i;refine(hstep sh p F u1 line (h.x.tr x1) h.f (hsame _ _ _ _ _ h.i λi hi=>x1.heap (hFs i hi)) hline alT gl).mono ?_;rintro _ u2 ⟨rfl,hsT,F',hI',hm',dP⟩;have z1:=x1.size;have z2':=hm'.size;have Yx:=h.b.lt;have ha1:=h.a.lt;have kb:Row u2 w0 [.pointer pp,v] 112:=(h.b.ext x1).same (hm'.same _ aa h.bn);have ka:Row u2 w2 (L.map Value.string) 9:=(h.a.ext x1).same (hm'.same _ aa h.an);have ko:u2.ownsRow w 5 1 v (nO L T p).length (Lib.byteCells (nO L T p)):=R6 h.o λi hi=>(hm'.same _ (by have:=(ym h.o hi).2.1;omega) (h.on i hi)).trans (x1.heap (ym h.o hi).2.1)
     have nF':∀i,¬F i->i<u1.heap.size->¬F' i:=λi hn hi q=>(dP i q).elim hn (λq=>by omega)
     refine⟨T p,rfl,?_,?_⟩
     ·have e1:(ByteArray.mk #[10]).size=1:=rfl;have e2:IntKind.i64.max=9223372036854775807:=by decide
      rw[e1,e2];omega
     have hzs:(T p++ByteArray.mk #[10]).size=(T p).size+1:=by rw[ByteArray.size_append];rfl
     have hz:=h.z;refine(Ca (B:=w.heap.size) (bs:=Lib.byteCells (nO L T p)) (T p++ByteArray.mk #[10]) h.pp kb (by rw[Lib.byteCells_length];exact ko) Ow.1 (by rw[Lib.byteCells_length];omega) (by have:=h.x.size;omega)).mono ?_;rintro _ u3 ⟨rfl,⟨v',kb3,ko3,hne3,hfr3⟩,hm3,-⟩;have eo:nO L T (p+1)=nO L T p++bl (T p++ByteArray.mk #[10]):=by rw[Hk htl,acZ]
     have ecells:Lib.byteCells (nO L T p)++Lib.strCells (T p++ByteArray.mk #[10])=Lib.byteCells (nO L T (p+1)):=by rw[eo,Lib.byteCells_append];rfl
     rw[ecells,Lib.byteCells_length]at ko3;have hF'lt:∀i,F' i->i<u2.heap.size:=fK _ _ _ _ hI';have at5:¬F' w0:=nF' _ h.bn aa;have at6:∀i,v.ownBlock=some i->¬F' i:=λi hi=>nF' i (h.on i hi) (by have:=(ym h.o hi).2.1;omega)
     have aAO:¬F' w2:=nF' _ h.an aa;refine⟨_,_,rfl,n-1,aa,p+1,wk,aa,F',aB w0.heap.size,v',hsame _ _ _ _ _ hI' λi hi=>hm3.same i (hF'lt i hi) (λq=>q.elim (λq=>at5 (q▸hi)) (λq=>at6 i q hi)),λi hi=>(dP i hi).elim (h.f i) (λq=>by have:=h.x.size;omega),ka.same (hm3.same _ aa (λq=>q.elim aa (λq=>Ow.2 q))),aAO,h.ag,kb3,at5,h.bg,.inr rfl,ko3,λi hi=>(hfr3 i hi).elim (at6 i) (λq hF=>by have:=hF'lt i hF;omega),?_,?_⟩
     ·refine hm3.ext (hm'.ext (h.x.tr x1) λi hi=>h.f i hi) λi hi=>?_
      rcases hi with rfl|hi
      ·exact h.bg
      ·exact(ym h.o hi).1
     ·have e:=congrArg List.length eo;rw[cj,jQ,hzs]at e;omega
    ·obtain⟨-,l,hl,gl⟩:=q;rw[hline]at hl
     cases hl
     refine gl (ur.1 ?_);have:¬(sl.n:Int)>0:=by simpa using c2
     omega
  ·have c:=of_decide_eq_false c;have hpn:p=L.length:=by
    have:¬(p<L.length):=by simpa using c
    omega
   subst hpn;have hB:Lib.IsBuilder 112 5 w.heap.size w0.heap.size (Lib.byteCells (nO L T L.length)) u:=by
    have ho:u.ownsRow w 5 1 v (Lib.byteCells (nO L T L.length)).length (Lib.byteCells (nO L T L.length)):=by rw[Lib.byteCells_length];exact h.o
    rcases h.pp with q|q
    ·exact .inl ⟨h.bg,v,by have:=h.b;rw[q]at this;exact this,ho,Ow.1⟩
    ·exact .inr ⟨h.bg,v,by have:=h.b;rw[q]at this;exact this,ho,Ow.1⟩
   refine(Tryz.Builder_String_any _ _ _ u hB h.x.size).bf λfm b19=>?_
   exact⟨_,rfl,rfl,h.x.trans b19⟩
def St(M:Sm)(sh:Nat)(F:Nat->Prop)(u:World):Prop:=∃(g s o t:Nat)(F0:Nat->Prop),EF F0 u g s o t M PE OT/\FN u sh g/\¬F0 sh/\F=λi=>F0 i\/i=sh
def St.lt{M:Sm}{sh:Nat}{F:Nat->Prop}{u:World}(h:St M sh F u):∀i,F i->i<u.heap.size:=by
 obtain⟨g,s,o,t,F0,hE,hS,hn,rfl⟩:=h;rintro i (hi|rfl)
 ·exact hE.lt hi
 ·exact hS.row.lt
def St.same{M:Sm}{sh:Nat}{F:Nat->Prop}{u u':World}(h:St M sh F u)(hk:∀i,F i->u'.heap[i]? =u.heap[i]?):St M sh F u':=by obtain⟨g,s,o,t,F0,hE,hS,hn,rfl⟩:=h;exact⟨g,s,o,t,F0,hE.same λi hi=>hk i (.inl hi),⟨hS.row.same (hk sh (.inr rfl))⟩,hn,rfl⟩
def St.Kt{w u:World}{F0 F:Nat->Prop}{sh g s o t:Nat}{M:Sm}(h:SH w F0 u sh g s o t M PE OT F):St M sh (λi=>F i\/i=sh) u/\Mod (λi=>F0 i\/i=sh) w u/\∀i,(F i\/i=sh)->(F0 i\/i=sh)\/w.heap.size<=i:=
 ⟨⟨g,s,o,t,F,h.e,h.r,h.n,rfl⟩,h.m.mono λi _ hi=>.inl hi,λi hi=>hi.elim (λq=>(h.f i q).imp .inl id) (λq=>.inl (.inr q))⟩
def amE(aj limit room:Int){l:List En}(hl:(l.length:Int)<limit){p:Po}(hp:EP p)(hn:∀e∈l,e.1≠p):yO aj limit (T9 room) l p=((T9 room,l++[(p,made aj p,false,0)]),0):=by
 have hr:fU limit (T9 room) l=((T9 room,l),0):=by unfold fU;rw[if_pos hl]
 have hd:(Go.bW.pU (T9 room) (Bk p)).1=[]:=by unfold T9;rw[air]
 have hf:bK (λe:En=>e.1==p) l= -1:=mX λy hy=>by simpa using hn y hy
 unfold yO;rw[if_neg (by simpa using hp),if_neg (by rw[hf];decide),hr,if_neg bo];simp only[hd,Vi]
abbrev M1r:Sm:={FO 1 9 200000 16 with T:=(yO 1 (FO 1 9 200000 16).cap (FO 1 9 200000 16).T.1 (FO 1 9 200000 16).T.2 (0,0)).1}
def akP:yO 1 9 (T9 200000) [] (0,0)=((T9 200000,[((0,0),made 1 (0,0),false,0)]),0):=amE 1 9 200000 (l:=[]) au au bo
def ok0:pQ (0,0,0):=by unfold pQ cH;simp
def aeq(aj:Int)(M:List Int)(hM:M=made aj (0,0)):jc [(((0,0),M,false,0):En)] (0,0,0)=1:=by
 have h0:M[0]? =some 1:=by rw[hM,Q7 aj (0,0) au];unfold TM;rw[if_neg au,if_pos (.inl au)]
 show Z3 (0,0) M (0,0,0)=1;have hk:Q8 (0,0) (0,0,0)=true:=by decide
 unfold Z3;rw[hk,if_pos rfl];show atC M 0=1;unfold atC;rw[if_neg au,dG];show(M[0]?).getD (-1)=1;rw[h0];rfl
def awo:(yO 1 (FO 1 9 200000 16).cap (FO 1 9 200000 16).T.1 (FO 1 9 200000 16).T.2 (0,0)).2=0:=by
 have e:(FO 1 9 200000 16).cap=9:=by decide
 rw[e];show(yO 1 9 (T9 200000) [] (0,0)).2=0;rw[akP]
def awp:jc M1r.T.2 (0,0,0)=1:=by
 have e:(FO 1 9 200000 16).cap=9:=by decide
 show jc (yO 1 (FO 1 9 200000 16).cap (T9 200000) [] (0,0)).1.2 (0,0,0)=1;rw[e,akP];exact aeq 1 _ rfl
def aq7:ByteArray:=ByteArray.mk #[111,107,10,115,116,111,110,101,10]
def T0(p:Nat):ByteArray:=if p=0 then ByteArray.mk #[111,107]else qS 1
def Q9:qS 1=ByteArray.mk #[115,116,111,110,101]:=by kernel_rfl
def aai:nO [tu,tw] T0 2=bl aq7:=by have h0:wW [tu,tw] 0:=⟨au,tu,rfl,by rw[Vj];exact List.cons_ne_nil _ _⟩;have h1:wW [tu,tw] 1:=⟨au,tw,rfl,by rw[Vk];exact List.cons_ne_nil _ _⟩;rw[Hk h1,Hk h0];show []++(bl (ByteArray.mk #[111,107])++[10])++(bl (qS 1)++[10])=_;rw[Q9];rfl
def aaj{w:World}{m:Int}(hm:w.cell? ⟨0,0,none⟩=some (vI m)):ed 29 #[.string EY] w (Value.string aq7):=by
 refine(aer hm EY au [tu,tw] (by rw[Vl.1];exact Vl.2) (by rw[Vl.1];rfl) (λl hl=>?_) au T0 (λsh p F u=>if p=0 then St (FO 1 9 200000 16) sh F u else if p=1 then St M1r sh F u else ∀i,F i->i<u.heap.size) ?_ ?_ ?_ ?_ ?_).mono ?_
 ·simp at hl;rcases hl with rfl|rfl<;>decide
 ·intro sh p F u h;split at h
  ·exact h.lt
  ·split at h
   ·exact h.lt
   ·exact h
 ·intro sh p F u u' h hk;split
  ·rename_i q;rw[if_pos q]at h;exact h.same hk
  ·rename_i q;rw[if_neg q]at h;split
   ·rename_i q1;rw[if_pos q1]at h;exact h.same hk
   ·rename_i q1;rw[if_neg q1]at h;intro i hi;have:=hk i hi;have hl:=h i hi;by_cases c:i<u'.heap.size
    ·exact c
    ·rw[Array.getElem?_eq_none aa,Array.getElem?_eq_getElem hl]at this
     cases this
 ·intro u sh g s o t F h hS hn;exact⟨λi=>F i\/i=sh,⟨g,s,o,t,F,h,hS,hn,rfl⟩,λi hi=>hi⟩
 ·intro sh p F u h lp;have h0:wW [tu,tw] 0:=⟨au,tu,rfl,by rw[Vj];exact List.cons_ne_nil _ _⟩;have h1:wW [tu,tw] 1:=⟨au,tw,rfl,by rw[Vk];exact List.cons_ne_nil _ _⟩;have p0:p≠0:=λq=>lp (q▸h0)
  have p1:p≠1:=λq=>lp (q▸h1)
  simp only[if_neg p0,if_neg p1]at h;simp only[if_neg (show p+1≠0 by omega),if_neg (show p+1≠1 by omega)];exact h
 ·intro sh p F u line _ _ h hl hp hw;have:p=0\/p=1:=by have:=(cG.1 hl).1;simp at this;omega
  rcases this with rfl|rfl
  ·simp only[if_true]at h;obtain⟨g,s,o,t,F0,hE,hS,hn,rfl⟩:=h
   cases hl
   refine(aab hE hS hn au tu au _ Vj (0,0) awq awo).mono ?_;rintro e u' ⟨tx,rfl,rfl,F',hSH,-⟩;obtain⟨q1,q2,q3⟩:=St.Kt hSH;exact⟨rfl,au,_,q1,q2,q3⟩
  ·simp only[if_neg (show(1:Nat)≠0 by decide),if_true]at h;obtain⟨g,s,o,t,F0,hE,hS,hn,rfl⟩:=h
   cases hl
   refine(aiK hE hS hn BJ tw au _ Vk (0,0,0) awr ok0).mono ?_;rintro e u' ⟨tx,he,htx,hSH⟩;rw[awp]at htx;rw[htx]at he;obtain⟨q1,q2,q3⟩:=St.Kt hSH;exact⟨he,by rw[show T0 1=qS 1 from rfl,Q9];decide,λi=>F0 i\/i=sh,by simp only[if_neg (show(1+1:Nat)≠0 by decide),if_neg (show(1+1:Nat)≠1 by decide)];exact q1.lt,q2,q3⟩
 ·rintro e w' ⟨rfl,x⟩;refine⟨?_,x⟩;show Ending.returned (.string ⟨(nO [tu,tw] T0 2).toArray⟩)=_;rw[aai]
open Go.dS Go.ej Go.fY
def CA(s:ByteArray)(w:World):ed 237 #[.string s] w (Value.tuple #[vI (Nd s).1,.bool (Nd s).2]):=by
 apply Q6.vc;refine(qX w).bf λw0 x0=>?_
 refine⟨_,_,_,_,_,_,_,_,_,_,_,_,_,_,_,_,rfl,?_⟩;refine⟨λn x wr=>∃k:Nat,x=k/\k+n=16/\Ext w wr/\∀j:Nat,j<k->D9 s j=false,⟨16,0,rfl,rfl,x0,λj hj=>by omega⟩,?_⟩;rintro n us x wr ⟨k,rfl,hk,xr,hn⟩;apply Br.mk<;>intro h<;>simp at h
 ·have hw:=aL (n:=(k:Int)+1) inO;have next:D9 s k=false->∃n22,n22<n/\∃k_1:Nat,aC ((k:Int)+1)=↑k_1/\k_1+n22=16/\Ext w wr/\∀j:Nat,j<k_1->D9 s ↑j=false:=by
   intro hf;refine⟨n-1,aa,k+1,aa,aa,xr,λj hj=>?_⟩;rcases iR j k with fK|S5
   ·exact hn j fK
   ·obtain rfl:j=k:=by omega
    exact hf
  refine⟨⟨aa,h⟩,_,aek k aa h,Br.mk (λh1=>Br.mk (λh2=>?_) (λh2=>?_)) (λh1=>?_)⟩
  ·have hm:cN k=true:=by rw[GZ];intro e;rw[kD]at h1;rw[e]at h1;simp[<-h1]at h2;exact absurd ((kD ⟨#[]⟩ ⟨#[]⟩).2 rfl) (by simp[h2])
   rw[ael aa hn (by unfold D9;rw[hm,h1];rfl)];exact⟨rfl,xr⟩
  ·refine next ?_;have V9:gu s ⟨#[]⟩=true:=by simpa using h2
   rw[kD]at h1 V9;have:cN k=false:=by
    have:=GZ k
    cases hm:cN k<;>simp_all
   unfold D9;rw[this];rfl
  ·exact next (by unfold D9;rw[h1];simp)
 ·rw[Z6 (λj hj=>hn j aa)];exact⟨rfl,xr⟩
def ZF(ws:List ByteArray):Option (Int×List ByteArray):=match Da ws with|none=>none|some (t,r)=>if(Nd t).2 then some ((Nd t).1,r)else none
def adX{w:World}{B g:Nat}{ws:List ByteArray}(h:AG w B g ws):ab 168 #[g] w λe w'=>PR w B g (ZF ws) (.int .i64 ·) e w':=by
 apply Cm.vc;refine(vH h).mono ?_;rintro e w0 ⟨m0,hp⟩;unfold ZF
 cases hw:Da ws with
 |none=>
  rw[hw]at hp;subst hp;exact⟨m0,rfl⟩
 |some x=>
  obtain⟨t,r⟩:=x;rw[hw]at hp;obtain⟨rfl,ha⟩:=hp;refine⟨t,rfl,(CA t w0).bf λw2 x2=>?_⟩;refine⟨_,_,rfl,(mj _ w2).mono ?_⟩;rintro e w5 ⟨he,rfl⟩;have m5:Mod (λi=>i=g) w w5:=m0.trans (Mod.aq x2);simp only
  cases hb:(Nd t).2 with
  |true=>
   rw[hb]at he;simp only[if_true]at he;subst he;exact⟨rfl,m5,rfl,ha.ext x2⟩
  |false=>
   rw[hb]at he;simp only[Bool.false_eq_true,if_false]at he;subst he;exact⟨m5,rfl⟩
def adl{u v:World}{xs:LV}{txs:List ByteArray}(hv:v=u.alloc (.cells xs.toArray 20))(hl:txs.length=xs.length)(hn:xs.length<=1000)(hit:∀(i:Nat) x t,xs[i]? =some x->txs[i]? =some t->xD v x t)(nR:∀t∈txs,t.size<=1000000):
  ed 154 #[.slice (aB u.heap.size) xs.length xs.length] v (Value.string (eI txs)):=by
 have hr9:Row v u.heap.size xs 20:=by rw[hv];exact Row.new _ _ _
 have gF:RdK v ⟨aB u.heap.size,xs.length,xs.length⟩ 1 (xs.map λx=>[x]):=by
  refine⟨(aK _).symm,λq hq=>?_,λi q hi j v hj=>?_⟩
  ·obtain⟨t,-,rfl⟩:=bc.1 hq;rfl
  ·rw[aW]at hi;obtain⟨t,ht,rfl⟩:=wM.1 hi
   cases j with
   |succ j=>simp at hj
   |zero=>
    simp at hj;subst hj;rw[aF,hr9.ld];simp[ht]
 refine qP (w:=v) (sl:=⟨aB u.heap.size,xs.length,xs.length⟩) (xs:=xs) (outs:=txs) gF hl (cV hn au) hit ?_;have key:∀l:List ByteArray,(∀t∈l,t.size<=1000000)->(Lib.join (l.map (·.data.toList)) [32]).length<=l.length*1000001:=by
  intro l
  induction l with
  |nil=>intro _;exact eG _
  |cons t l ih=>
   intro h;have i1:=ih λx hx=>h x (qQ _ hx)
   have i2:t.data.toList.length<=1000000:=by have:=h t (List.mem_cons_self ..);have e:=jQ t;unfold bl at e;omega
   cases l with
   |nil=>simp[Lib.join,List.intercalate]at i2⊢;omega
   |cons t2 l2=>
    simp only[eH,Lib.join,List.intercalate,List.intersperse,kX,cj,cL,mV]at i1 i2⊢;omega
 have hk:=key txs nR;omega
noncomputable def aiJ(s:Stepped):Frame:=
 match s with
 | .next m=>match m.gs[0]? with
   |some g=>g.frame
   |none=>default
 |_=>default
def hZ{P:Program}{f:FuncId}{args:Array Value}{w w':World}{v:Value}{fn:Func}(n:Nat)(fr:List Frame->Frame)(h5:P.funcs[f]? =some fn)(h:∀cs,runN P n (lone (Frame.enter P f args .normal) cs w)=.next (lone (fr cs) cs w'):=by intro;kernel_rfl)(h1:∀cs,(fr cs).fn=f:=by intro;kernel_rfl)(h2:∀cs,(fr cs).mode=.returning:=by intro;kernel_rfl)(h3:∀cs,(fr cs).defers=[]:=by intro;kernel_rfl)(h4:∀cs,(fr cs).kind=.normal:=by intro;kernel_rfl)(h6:∀cs,(results fn (fr cs).tmps).run P w'=.ok v w':=by intro;kernel_rfl):
  Calls P f args w λe u=>e=v/\u=w':=λcs=>
 ⟨.returned v,w',fr cs,⟨rfl,rfl⟩,⟨n,h cs⟩,h1 cs,h2 cs,h3 cs,h4 cs,fn,by rw[h1 cs];exact h5,h6 cs⟩
noncomputable abbrev Cc(x:Int)(w:World)(n:Nat)(cs:List Frame):Frame:=aiJ (Go.runN Tryz.prog n (lone (Frame.enter Tryz.prog 225 #[x] .normal) cs w))
def iX(x:Int):ByteArray:=if x=0 then ByteArray.mk #[111,107]else ByteArray.mk (#[101,114,114,111,114,32]++(if x<10 then #[UInt8.ofNat (48+x.toNat)]else #[49,UInt8.ofNat (38+x.toNat)]))
def awf(w:World):kh 225 #[(1:Int)] w (Value.string (iX 1)):=
 hZ 51 (Cc 1 w 51) Tryz.func225
def awg(w:World):kh 225 #[(2:Int)] w (Value.string (iX 2)):=
 hZ 51 (Cc 2 w 51) Tryz.func225
def awh(w:World):kh 225 #[(3:Int)] w (Value.string (iX 3)):=
 hZ 51 (Cc 3 w 51) Tryz.func225
def awi(w:World):kh 225 #[(4:Int)] w (Value.string (iX 4)):=
 hZ 51 (Cc 4 w 51) Tryz.func225
def awj(w:World):kh 225 #[(5:Int)] w (Value.string (iX 5)):=
 hZ 51 (Cc 5 w 51) Tryz.func225
def awk(w:World):kh 225 #[(6:Int)] w (Value.string (iX 6)):=
 hZ 51 (Cc 6 w 51) Tryz.func225
def awl(w:World):kh 225 #[(7:Int)] w (Value.string (iX 7)):=
 hZ 51 (Cc 7 w 51) Tryz.func225
def awm(w:World):kh 225 #[(8:Int)] w (Value.string (iX 8)):=
 hZ 51 (Cc 8 w 51) Tryz.func225
def awn(w:World):kh 225 #[(9:Int)] w (Value.string (iX 9)):=
 hZ 51 (Cc 9 w 51) Tryz.func225
def aq2(w:World):kh 225 #[(10:Int)] w (Value.string (iX 10)):=
 hZ 78 (Cc 10 w 78) Tryz.func225
def aq3(w:World):kh 225 #[(11:Int)] w (Value.string (iX 11)):=
 hZ 78 (Cc 11 w 78) Tryz.func225
def aq4(w:World):kh 225 #[(12:Int)] w (Value.string (iX 12)):=
 hZ 78 (Cc 12 w 78) Tryz.func225
def aq5(w:World):kh 225 #[(13:Int)] w (Value.string (iX 13)):=
 hZ 78 (Cc 13 w 78) Tryz.func225
def aaf{x:Int}(h:0<x/\x<14)(w:World):kh 225 #[x] w (Value.string (iX x)):=by
 have:x=1\/x=2\/x=3\/x=4\/x=5\/x=6\/x=7\/x=8\/x=9\/x=10\/x=11\/x=12\/x=13:=by omega
 rcases this with rfl|rfl|rfl|rfl|rfl|rfl|rfl|rfl|rfl|rfl|rfl|rfl|rfl
 ·exact awf w
 ·exact awg w
 ·exact awh w
 ·exact awi w
 ·exact awj w
 ·exact awk w
 ·exact awl w
 ·exact awm w
 ·exact awn w
 ·exact aq2 w
 ·exact aq3 w
 ·exact aq4 w
 ·exact aq5 w
def fi(x:Int):(iX x).size<=1000000:=by
 unfold iX;split
 ·decide
 ·split<;>simp[ByteArray.size]
def pZ{x:Int}(h:0<=x/\x<14)(w:World):xD w (.iface 168 (x)) (iX x):=by
 by_cases h0:x=0
 ·rw[h0];exact .ok
 ·refine .e x _ h0 λu _=>(aaf (x:=x) aa u).eL ?_
  exact⟨rfl,Ext.bT _⟩
def JR{F:Nat->Prop}{w:World}{sh g s o t:Nat}{M:Sm}{occ:Value}{L:lCs}(h:EF F w g s o t M occ L)(hs:FN w sh g)(line:ByteArray)(hl:line.size<=4294967296){c:ByteArray}{r:List ByteArray}(hw:cT line=c::r)
  (i f:Nat)(hi:uF[i]? =some c)(hv:∀c1 c2 c3 c4 c5,(AF sh [c1,c2,c3,c4,c5])[i]? =some (kc f sh))(hen:∀args w,(callFunc f args).run Tryz.prog w=.ok (.enter f args) w)
  (Q:ByteArray->wPp)(gm:∀tx u u',Q tx u->Mod (λi=>i=w.heap.size) u u'->Q tx u')
  (hcall:∀(u:World)(B ga:Nat),Ext w u->AG u B ga r->w.heap.size<ga->ab f #[sh,ga] u λe u'=>u'.heap[w.heap.size]? =u.heap[w.heap.size]?/\((∃tx,e=Value.string tx/\Q tx u')\/(e=Io/\Q (ByteArray.mk #[98,97,100]) u'))):
  ab 14 #[sh,.string line] w λe w'=>∃tx,e=Value.string tx/\Q tx w':=by
 refine qZ line hl h hs Q gm ?_ ?_ ?_
 ·intro h1;rw[hw]at h1
  cases h1
 ·intro c' r' h1 h2;rw[hw]at h1
  cases h1
  exact absurd (aQ hi) h2
 ·intro c' r' i' h1 hi' u B ga c1 c2 c3 c4 c5 xu DA hga r1 r2 r3 r4 r5 hcB v hv';rw[hw]at h1
  cases h1
  have hi1:i'=i:=(List.getElem?_inj (i:=i') (j:=i) (cG.1 hi').1 l8).1 (hi'.trans hi.symm);subst hi1;rw[hv]at hv'
  cases hv'
  exact⟨f,#[sh],#[],⟨rfl,hen⟩,hcall u B ga xu DA hga⟩
def XT(x:Value)(t:TypeId):One [Value.iface t x]:=by intro v hv;simp at hv;subst hv;rfl
def aaw{n:Nat}(h:n<100)(w:World):xD w (.iface 3 (vI n)) ⟨(Lib.decDigits n).toArray⟩:=
 .n _ _ λu _=>(Tryz.strconv_Itoa_small n h u).mono λe u' hh=>⟨hh.1,hh.2▸Ext.bT _⟩
def Xj(L:lCs):ByteArray:=eI ((bh L).map λn=>⟨(Lib.decDigits n.toNat).toArray⟩)
def xH{L:lCs}{n:Int}(h:n∈bh L):0<=n/\n<16:=by unfold bh at h;obtain⟨i,hi,rfl⟩:=bc.1 h;have:=(jY.1 hi).1;rw[qc]at this;omega
def UG(L:lCs):(bh L).length<=16:=by unfold bh;rw[aK];refine cV (zy _ _) ?_;rw[Gx];exact ak _
def aax{n:Nat}(h:n<100):(ByteArray.mk (Lib.decDigits n).toArray).size<=1000000:=by
 have:∀n:Fin 100,(ByteArray.mk (Lib.decDigits n.val).toArray).size<=1000000:=by decide+kernel
 exact this ⟨n,h⟩
def P8{F:Nat->Prop}{w:World}{g s o t sh B ga:Nat}{M:Sm}{occ:Value}{L:lCs}(h:EF F w g s o t M occ L)(hs:FN w sh g)(ha:AG w B ga []):
  Calls Tryz.prog 107 #[.pointer (some ⟨sh,0,none⟩),.pointer (some ⟨ga,0,none⟩)] w λe w'=>e=.returned (.string (Xj L))/\Ext w w':=by
 apply qT.vc;refine(qW ha).mono ?_;rintro e w0 ⟨e0,he⟩;rw[e0];rw[if_pos rfl]at he;subst he;refine⟨rfl,some ⟨g,0,none⟩,by rw[aF,hs.row.ld];rfl,(Cq h).mono ?_⟩;rintro _ w2 ⟨s3,rfl,ho,x2⟩;refine⟨s3,rfl,?_⟩;have gF:=ho.rd (by decide);have hn:s3.n=(bh L).length:=by rw[gF.n,List.length_map]
 have hln:=UG L;refine⟨λn x sl v=>∃p:Nat,x=(p:Int)/\p+n=s3.n/\ar w2.heap.size 20 1 v sl (((bh L).take p).map λn=>[.iface 3 (vI n)])/\Ext w2 v,⟨s3.n,0,rfl,aa,ar.nil,Ext.bT _⟩,?_⟩;rintro n1 us x sl v ⟨p,rfl,hp,hos,xv⟩;have S7:((bh L).take p).length=p:=by rw[List.length_take];omega
 have h4:sl.n=p:=by rw[(ar.rd hos (by decide)).n,List.length_map,S7]
 refine Br.mk (λc=>?_) (λc=>?_)
 ·have c:=of_decide_eq_true c;have hpx:p<(bh L).length:=by omega
  obtain⟨y,hy⟩:∃y,(bh L)[p]? =some y:=⟨_,List.getElem?_eq_getElem hpx⟩;have pG:ld v (ae s3.a (((p:Nat):Int).toNat*1))=some (vI y):=by have:=xv.ld (gF.rd p [vI y] (by rw[List.getElem?_map,hy];rfl) 0 _ rfl);simpa using this
  refine⟨gF.jX (by decide) (by omega) (by omega),y,pG,λbN ui=>?_⟩;subst ui;obtain⟨a1,a2⟩:=hos.l6 (bytes:=16) (news:=[.iface 3 (vI y)]) (.cells #[.iface 3 (vI y)] 20) xv.size rfl (XT _ _) (by omega) (by omega);refine⟨a1,λkP cp bq=>?_⟩;obtain⟨b1,b2,b3,b4,-⟩:=a2 kP cp bq;refine⟨b1,n1-1,aa,p+1,by rw[wI];omega,aa,?_,Below.trans xv b4⟩;rw[List.take_add_one,hy,List.map_append];exact b2
 ·have c:=of_decide_eq_false c;have hpe:p=(bh L).length:=by omega
  rw[List.take_of_length_le (by omega)]at hos;have hrs:=ar.rd hos (by decide);have hrs:RdK v ⟨sl.a,sl.n,sl.c⟩ 1 (((bh L).map λn=>Value.iface 3 (vI n)).map λx=>[x]):=by rw[List.map_map];exact hrs
  have hj:∀l:List Int,(∀n∈l,0<=n/\n<16)->(Lib.join ((l.map λn=>ByteArray.mk (Lib.decDigits n.toNat).toArray).map (·.data.toList)) [32]).length<=l.length*1000001:=by
   intro l
   induction l with
   |nil=>intro _;exact Nat.zero_le _
   |cons a l ih=>
    intro hl;have i1:=ih λx hx=>hl x (List.mem_cons_of_mem _ hx)
    have i2:=aax (n:=a.toNat) (by have:=hl a (List.mem_cons_self ..);omega);have i2:(Lib.decDigits a.toNat).length<=1000000:=i2
    cases l with
    |nil=>simp[Lib.join,List.intercalate]at i2⊢;omega
    |cons t2 l2=>
     simp only[List.map_cons,Lib.join,List.intercalate,List.intersperse,List.flatten_cons,List.length_append,List.length_cons,List.length_nil]at i1 i2⊢;omega
  refine(qP (w:=v) (sl:=⟨sl.a,sl.n,sl.c⟩) (xs:=(bh L).map λn=>Value.iface 3 (vI n)) (outs:=(bh L).map λn=>⟨(Lib.decDigits n.toNat).toArray⟩) hrs (by rw[List.length_map,List.length_map]) (by rw[List.length_map];omega) ?_ ?_).mono ?_
  ·intro i y tt hy ht;rw[List.getElem?_map]at hy ht;obtain⟨k,hk,rfl⟩:=Option.map_eq_some_iff.1 hy;rw[hk]at ht
   cases ht
   have EG:=xH (List.mem_of_getElem? hk);have:=aaw (n:=k.toNat) (by omega) v;rw[show((k.toNat:Nat):Int)=k by omega]at this;exact this
  ·have:=hj (bh L) λn hn=>xH hn
   omega
  ·rintro _ c9 ⟨rfl,dn⟩;exact⟨_,rfl,rfl,x2.tr (xv.tr dn)⟩
def wP(it:Int->ByteArray)(l:List En):List ByteArray:=(l.map λe=>[it e.1.1,it e.1.2]).flatten
open Tryz
variable{R:eWp}{w:World}{a0 a1 a2:Int}
section
variable{F F':Nat->Prop}{w w':World}{s o t:Nat}{M M':Sm}{occ:Value}{O:Ce->Bool}
end
section
variable{F:Nat->Prop}{w:World}{g s o t:Nat}{M M':Sm}{occ:Value}{L L0:lCs}
def EF.world(h:EF F w g s o t M occ L):∃Fw,WF Fw w o t M.aj M.cap M.T M.ch/\∀{w':World}{T':Tb}{ch':List Go.ej.Cg},Pf Fw w o t M.aj M.cap T' ch' w'->dK F w g s o t {M with T:=T',ch:=ch'} occ L w':=by obtain⟨Fs,hs,-,-,bq⟩:=h.EN;obtain⟨Fw,hW,-,hresW⟩:=hs.world;exact⟨Fw,hW,λhr=>bq (hresW hr)⟩
def dK.tr{F':Nat->Prop}{w1 w2:World}{M2:Sm}{L2:lCs}{occ2:Value}(h:aJ F F' w w1)(k:dK F' w1 g s o t M2 occ2 L2 w2):dK F w g s o t M2 occ2 L2 w2:=by obtain⟨F2,h2,t2⟩:=k;exact⟨F2,h2,h.trans t2⟩
end
abbrev lP(w:World):Prop:=Lib.TabIs Tryz.prog w "internal/strconv.uint64pow10" .u64 Lib.pow10Tab
def vE{w w':World}(h:lP w)(x:Ext w w'):lP w':=by
 unfold lP Lib.TabIs World.var? at*
 cases hg:Tryz.prog.globalNamed "internal/strconv.uint64pow10" with
 |none=>rw[hg]at h;cases h
 |some g=>
  rw[hg]at h;simp only[Option.bind_some]at h⊢;have hl:g<w:=by
   by_cases c:g<w.heap.size
   ·exact c
   ·rw[Array.getElem?_eq_none aa]at h
    cases h
  rw[x.heap hl];exact h
def bI(n:Int):ByteArray:=⟨(Lib.itoa n).toArray⟩
def afL(w:World)(k:Nat)(os:Array Obj):Ext w (Go.Sort.grow (w.drewN k) os):=by
 refine⟨rfl,rfl,rfl,?_,λi hi=>?_⟩
 ·show w.heap.size<=(w.heap++os).size;rw[Array.size_append];omega
 ·show(w.heap++os)[i]? =w.heap[i]?;rw[Array.getElem?_append_left hi]
def gP{w:World}(hT:lP w){n:Int}(hn:cH n):xD w (.iface 3 (n)) (bI n):=
 .n _ _ λu xu=>(Tryz.strconv_Itoa n hn.1 hn.2 u (vE hT xu)).mono λe u' hh=>by obtain⟨h1,k,os,h2⟩:=hh;exact⟨h1,h2▸afL _ _ _⟩
def Mi:∀(k u:Nat),u<10^(k+1)->(Lib.decDigits u).length<=k+1
 |0,u,h=>by
  unfold Lib.decDigits
  rw[dif_pos aa]
  exact ak _
 |k+1,u,h=>by
  unfold Lib.decDigits
  split
  ·simp
  ·have:=Mi k (u/10) (by rw[Nat.pow_succ]at h;omega)
   simp only[cj,cL,mV]
   omega
section
variable{F:Nat->Prop}{w:World}{sh g s o t:Nat}{M M':Sm}{occ occ':Value}{L L':lCs}
def akY(h:EF F w g s o t M occ L)(hs:FN w sh g)(hF:¬F sh){v v1 v':World}{ga:Nat}(xv:Ext w v)(hga:w.heap.size<ga)(hgv:ga<v.heap.size)(m1:Mod (λi=>i=ga) v v1)(hr:dK F v1 g s o t M' occ' L' v'):∃F',SH w F v' sh g s o t M' occ' L' F'/\¬F' w/\v'.heap[w.heap.size]? =v.heap[w.heap.size]? :=by
 obtain⟨F',h2,ht⟩:=hr;have nw:¬F w:=λq=>by have:=h.lt q;omega
 have lE:=hs.row.lt;have hz:=m1.size;have hm:Mod F w v':=((Mod.aq xv).tr m1 (λi hi=>.inr aa)).trans ht.mod;have sub:∀i,F' i->F i\/v1.heap.size<=i:=ht.sub;exact⟨F',⟨h2,⟨hs.row.same (hm.same sh lE hF)⟩,λq=>(sub _ q).elim hF (λq=>by omega),hm,λi hi=>(sub i hi).imp id (λq=>by omega)⟩,λq=>(sub _ q).elim nw (λq=>by omega),(ht.mod.same _ aa nw).trans (m1.same _ aa aa)⟩
def PD(h:EF F w g s o t M occ L)(hW:M.T.1.l.length<=1000000)(p:Po):
  ab 90 #[t,pv p] w λe w'=>e=vI (TK M.T.1 M.T.2 p).2/\dK F w g s o t {M with T:=(TK M.T.1 M.T.2 p).1} occ L w':=by
 obtain⟨Fw,hW0,bq⟩:=h.world;obtain⟨F1,hT,-,hrt⟩:=hW0.table;refine(On hT hW p).bf λw' hr=>?_
 exact⟨rfl,bq (hrt hr)⟩
end
section
variable{F:Nat->Prop}{w:World}{sh g s o t B ga:Nat}{M M':Sm}{occ occ':Value}{L L':lCs}{ws:List ByteArray}
def L4(hs:FN w sh g)(ha:AG w B ga ws)(hsg:sh≠ga){a b c:Int}(hp:kI ws=some ((a,b,c),[])):
  ab 86 #[sh,ga] w λe w'=>e=Value.string (ByteArray.mk #[111,107])/\Mod (λi=>i=ga\/i=sh) w w'/\
   ∃(g' s' o' t':Nat)(F':Nat->Prop),EF F' w' g' s' o' t' (FO a b 200000 c) PE OT/\FN w' sh g'/\∀i,F' i->w.heap.size<=i:=by
 apply qi.vc;unfold kI at hp;refine(k8 ha).mono ?_;rintro e w0 ⟨m0,hq⟩
 cases h1:gz ws with
 |none=>rw[h1]at hp;cases hp
 |some x1=>
  obtain⟨a',r1⟩:=x1;rw[h1]at hq hp;simp only at hp;obtain⟨rfl,ha0⟩:=hq;refine⟨a',rfl,(k8 ha0).mono ?_⟩;rintro e w2 ⟨m2,hq⟩
  cases h2:gz r1 with
  |none=>rw[h2]at hp;cases hp
  |some x2=>
   obtain⟨b',r2⟩:=x2;rw[h2]at hq hp;simp only at hp;obtain⟨rfl,ha2⟩:=hq;refine⟨b',rfl,(k8 ha2).mono ?_⟩;rintro e w4 ⟨m4,hq⟩
   cases h3:gz r2 with
   |none=>rw[h3]at hp;cases hp
   |some x3=>
    obtain⟨c',r3⟩:=x3;rw[h3]at hq hp;simp only at hp
    cases hp
    obtain⟨rfl,ha4⟩:=hq;refine⟨c,rfl,(qW ha4).mono ?_⟩;rintro e w6 ⟨e6,he⟩;rw[if_pos rfl]at he;subst he;rw[e6];have m04:Mod (λi=>i=ga) w w4:=(m0.trans m2).trans m4;have hsh:Row w4 sh [g] Vu:=hs.row.same (m04.same sh hs.row.lt hsg);refine⟨rfl,(Ke a b 200000 c w4).mono ?_⟩;rintro _ w7 ⟨g',s',o',t',F',rfl,hE,x7,hF'⟩;have hsh7:=hsh.ext x7;obtain⟨p1,p2⟩:=hsh7.ft (j:=0) (v:=.pointer (aB g')) bo rfl;refine⟨_,rfl,⟨rfl,p1⟩,λw9 e9 br vv=>?_⟩;obtain⟨q1,q2⟩:=p2 w9 e9;have bL:Ext w9 br:=by rw[vv];exact Ext.al _ _
    refine(jg vv .ok au).bf λbE bS=>?_
    have xx:=bL.tr bS;have fK:=hsh.lt;have z04:=m04.size;have lE:=hs.row.lt;have nF:¬F' sh:=λq=>by have:=hF' _ q;omega
    have hE9:EF F' w9 g' s' o' t' (FO a b 200000 c) PE OT:=hE.same λi hi=>q2.same i (hE.lt hi) (λq=>nF (q▸hi))
    exact⟨_,rfl,rfl,(((m04.trans (Mod.aq x7)).mono λi _ hi=>.inl hi).trans (q2.mono λi _ hi=>.inr hi)).trans (Mod.aq xx),g',s',o',t',F',hE9.ext xx,⟨q1.ext xx⟩,λi hi=>by have:=hF' i hi;omega⟩
end
def Fa(p:Po):Prop:=p=(3,0)\/p=(0,-4)
def A5(p:Po):Prop:=p∈([(0,0),(1,0),(-1,0),(0,1),(0,-1)]:List Po)
structure mr(l l':List En):Prop where
 n:eW l
 n':eW l'
 g:o0 l
 g':o0 l'
 h:∀p:Po,¬Fa p->(eR l p↔eR l' p)
 f:∀p:Po,eR l p->A5 p
 f':∀p:Po,eR l' p->A5 p\/Fa p
 v:v8 (jc l) (jc l')
def P0(l:List En)(c:Ce)(b:Int):(eR l (pos c)->(jo l c b).2=if ¬PL c then 5 else if cN b=false then 1 else 0)/\(¬eR l (pos c)->(jo l c b).2=11):=by
 unfold jo;rcases dm (λe:En=>e.1==pos c) l with⟨hf,hno⟩|⟨k,e,hk,hek,hf,-⟩
 ·rw[hf,if_pos au];refine⟨λ⟨e,he,hp⟩=>?_,λ_=>rfl⟩;have:=hno e he;rw[hp]at this;simp at this
 ·rw[hf,if_neg aa];refine⟨λ_=>?_,λhn=>absurd ⟨e,aQ hk,by simpa using hek⟩ hn⟩;split
  ·rfl
  ·split<;>rfl
section
variable{l l':List En}{c:Ce}{b:Int}
def P1(hc:c.1<48/\-48<=c.2.2):¬Fa (pos c):=by have e:pos c=(c.1/16,c.2.2/16):=rfl;rw[e];rintro(q|q)<;>(injection q with q1 q2;omega)
def mr.at(h:mr l l')(hc:c.1<48/\-48<=c.2.2):eR l (pos c)↔eR l' (pos c):=h.h _ (P1 hc)
def XD(h:mr l l')(hc:c.1<48/\-48<=c.2.2):(jo l' c b).2=(jo l c b).2/\mr (jo l c b).1 (jo l' c b).1:=by
 have hp:=h.at hc;obtain⟨a1,a2⟩:=P0 l c b;obtain⟨b1,b2⟩:=P0 l' c b;by_cases hh:eR l (pos c)
 ·have hh':=hp.1 hh;refine⟨(b1 hh').trans (a1 hh).symm,?_⟩;by_cases hy:PL c
  ·by_cases hb:cN b=true
   ·obtain⟨-,s2,s3,s4⟩:=P9 h.n h.g hh hy hb;obtain⟨-,t2,t3,t4⟩:=P9 h.n' h.g' hh' hy hb;exact⟨s2,t2,Qy h.g c b,Qy h.g' c b,λp q=>(s3 p).trans ((h.h p q).trans (t3 p).symm),λp q=>h.f p ((s3 p).1 q),λp q=>h.f' p ((t3 p).1 q),λx hx hz=>by rw[s4,t4,h.v x hx hz]⟩
   ·rw[(zi λq=>hb q.2.2).1,(zi λq=>hb q.2.2).1];exact h
  ·rw[(zi λq=>hy q.2.1).1,(zi λq=>hy q.2.1).1];exact h
 ·have hh':¬eR l' (pos c):=λq=>hh (hp.2 q)
  refine⟨(b2 hh').trans (a2 hh).symm,?_⟩;rw[(zi λq=>hh q.1).1,(zi λq=>hh' q.1).1];exact h
def tL(l:List En)(c:Ce):Fz l c=true↔∀q∈rO (pos c),eR l q:=by
 unfold Fz;rw[JK];refine forall_congr' λq=>forall_congr' λ_=>?_
 rw[decide_eq_true_eq];exact bc
def XE(h:∀p:Po,eR l p->A5 p\/Fa p)(hr:Fz l c=true):(0<=c.1/\c.1<16)/\0<=c.2.2/\c.2.2<16:=by
 have hr:=(tL l c).1 hr;have key:∀q,q∈rO (pos c)->(q.1=0/\-1<=q.2/\q.2<=1)\/(q.2=0/\-1<=q.1/\q.1<=1)\/(q.1=3/\q.2=0)\/q.1=0/\q.2= -4:=λq hq=>by
  rcases h q (hr q hq)with f|rfl|rfl
  ·unfold A5 at f;simp only[cu,iT,or_false]at f;rcases f with rfl|rfl|rfl|rfl|rfl<;>decide
  ·decide
  ·decide
 have h0:=key (pos c) (by unfold rO;simp);have h1:=key ((pos c).1-1,(pos c).2) (by unfold rO;simp);have h2:=key ((pos c).1+1,(pos c).2) (by unfold rO;simp);have h3:=key ((pos c).1,(pos c).2-1) (by unfold rO;simp);have h4:=key ((pos c).1,(pos c).2+1) (by unfold rO;simp);have e:(pos c).1=c.1/16:=rfl;have e':(pos c).2=c.2.2/16:=rfl;rw[e,e']at h0 h1 h2 h3 h4;simp only at h1 h2 h3 h4;omega
def mr.rx(h:mr l l')(hr:Fz l c=true):(0<=c.1/\c.1<16)/\0<=c.2.2/\c.2.2<16:=XE (λp q=>.inl (h.f p q)) hr
def D0(h:mr l l')(c:Ce):Fz l' c=Fz l c:=by
 rw[Bool.eq_iff_iff];have zG:((0<=c.1/\c.1<16)/\0<=c.2.2/\c.2.2<16)->∀q∈rO (pos c),¬Fa q:=λhc q hq=>by
  have e:(pos c).1=0:=by show c.1/16=0;omega
  have e':(pos c).2=0:=by show c.2.2/16=0;omega
  unfold rO at hq;rw[e,e']at hq;simp only[cu,iT,or_false]at hq;have ep:pos c=(0,0):=Prod.ext e e';rw[ep]at hq;unfold Fa;rcases hq with rfl|rfl|rfl|rfl|rfl<;>decide
 refine⟨λhr=>?_,λhr=>?_⟩
 ·have hc:=XE h.f' hr;exact(tL l c).2 λq hq=>(h.h q (zG hc q hq)).2 ((tL l' c).1 hr q hq)
 ·have hc:=h.rx hr;exact(tL l' c).2 λq hq=>(h.h q (zG hc q hq)).1 ((tL l c).1 hr q hq)
end
def D5{α β:Type}{f g:β->α->β}:∀(l:List α)(b:β),(∀x∈l,∀b,f b x=g b x)->l.foldl f b=l.foldl g b
 | [],_,_=>rfl
 |x::l,b,h=>by rw[qY,qY,h x (.head _),D5 l _ λy hy=>h y (.tail _ hy)]
abbrev Ea(c:Ce):Prop:=c.1<47/\-47<=c.2.2
section
variable{V V':Ce->Int}{c:Ce}
def Va{n:Ce}(h:n∈cU c):n.1<=c.1+1/\c.2.2-1<=n.2.2:=by unfold cU at h;simp only[cu,iT,or_false]at h;rcases h with rfl|rfl|rfl|rfl<;>simp only<;>omega
def af0{n:Ce}(h:n∈c::rZ c):n.1<=c.1+1/\c.2.2-1<=n.2.2:=by unfold rZ fy Ds at h;simp only[cu,iT,or_false]at h;rcases h with rfl|rfl|rfl|rfl|rfl|rfl|rfl<;>first|omega|(simp only;omega)
def YQ(h:v8 V V'){l:List Ce}(hl:∀n∈l,n.1<48/\-48<=n.2.2):Mg V l=Mg V' l:=by unfold Mg;exact D5 _ _ λx hx b=>by rw[h x (hl x hx).1 (hl x hx).2]
def YR(h:v8 V V')(hc:Ea c):ik V c=ik V' c:=by unfold ik;rw[h (Ds c) (by show c.1<48;omega) (by show -48<=c.2.2;omega),YQ h λn hn=>by have:=Va hn;omega]
def abX(h:v8 V V')(hc:Ea c):Go.ej.iU V c=Go.ej.iU V' c:=by
 have hs:(cU c).filter (λn=>decide (V n=0))=(cU c).filter λn=>decide (V' n=0):=List.filter_congr λn hn=>by have:=Va hn;rw[h n aa aa]
 unfold Go.ej.iU Sq nJ;rw[h c aa aa,h (fy c) (by show c.1<48;omega) (by show -48<=c.2.2;omega),YR h hc,hs]
def afn{x:Go.ej.Cg}(hx:x∈Go.ej.iU V c):x.1.1<=c.1+1/\c.2.2-1<=x.1.2.2:=by
 have lw:(fy c).1=c.1:=rfl;have lz:(fy c).2.2=c.2.2:=rfl;unfold Go.ej.iU Sq nJ at hx
 repeat' split at hx
 all_goals first
  |(obtain⟨n,hn,rfl⟩:=List.mem_map.1 hx;exact Va (List.mem_filter.1 hn).1)
  |(simp only[cu,iT,or_false]at hx;rcases hx with rfl|rfl<;>simp only<;>omega)
  |(simp only[cu,iT,or_false]at hx;subst hx;simp only;omega)
  |cases hx
def YY(h:v8 V V')(now:Int)(q:QS)(hc:Ea c):GR V now q c=GR V' now q c:=by
 have hn:∀n∈c::rZ c,V n=V' n:=λn hn=>by have:=af0 hn;exact h n aa aa
 have e:sG V c=sG V' c:=List.filter_congr λn q=>by rw[hn n q]
 unfold GR;rw[e];exact D5 _ _ λx hx b=>by rw[hn x (List.mem_filter.1 hx).1]
end
def eB(M:Sm)(T:Tb):Sm:={M with T:=T}
section
variable{M:Sm}{T:Tb}{c:Ce}{b:Int}
def QG(h:mr M.T.2 T.2)(hc:Ea c):Ay (eB M T) c b=eB (Ay M c b) (T.1,(jo T.2 c b).1)/\mr (Ay M c b).T.2 (jo T.2 c b).1:=by obtain⟨e,t⟩:=XD (b:=b) h (show c.1<48/\-48<=c.2.2 by omega);refine⟨?_,t⟩;have ea:=h.v c aa aa;show Sm.mk _ _ _ (wsC T.2 M.ch c b) (if(jo T.2 c b).2=0 then GR (jc (jo T.2 c b).1) M.now M.q c else M.q) _ _ _=Sm.mk _ _ _ (wsC M.T.2 M.ch c b) (if(jo M.T.2 c b).2=0 then GR (jc (jo M.T.2 c b).1) M.now M.q c else M.q) _ _ _;unfold wsC;rw[e,<-ea,YY t.v _ _ hc];rfl
def II(h:mr M.T.2 T.2){x:Go.ej.Cg}(hc:Ea x.1):∃T',eY (eB M T) x=eB (eY M x) T'/\mr (eY M x).T.2 T'.2:=by
 have ea:jc (eB M T).T.2 x.1=jc M.T.2 x.1:=(h.v x.1 aa aa).symm;unfold eY;rw[ea];split
 ·exact⟨T,rfl,h⟩
 ·obtain⟨e,t⟩:=QG (b:=x.2) h hc;exact⟨_,e,t⟩
def HD:∀(l:List Go.ej.Cg) {M:Sm}{T:Tb},mr M.T.2 T.2->(∀x∈l,Ea x.1)->∃T',l.foldl eY (eB M T)=eB (l.foldl eY M) T'/\mr (l.foldl eY M).T.2 T'.2
 | [],M,T,h,_=>⟨T,rfl,h⟩
 |x::l,M,T,h,hl=>by
  obtain⟨T',e,t⟩:=II h (hl x (.head _))
  rw[qY,qY,e]
  exact HD l t λy hy=>hl y (.tail _ hy)
def acx(O:Ce->Bool)(h:mr M.T.2 T.2)(c:Ce):∃T',wi O (eB M T) c=eB (wi O M c) T'/\mr (wi O M c).T.2 T'.2:=by
 have er:Fz (eB M T).T.2 c=Fz M.T.2 c:=D0 h c;unfold wi;rw[er];split
 ·exact⟨T,rfl,h⟩
 ·rename_i hr;have hc:=h.rx (c:=c) (by simpa using hr);have en:Go.ej.iU (jc (eB M T).T.2) c=Go.ej.iU (jc M.T.2) c:=(abX h.v aa).symm;have ehY7:GX O (eB M T) c=GX O M c:=by unfold GX;rw[en,show jc (eB M T).T.2 c=jc M.T.2 c from(h.v c aa aa).symm]
  rw[ehY7,en];split
  ·exact II (M:={M with nk:=M.nk++[fy c]}) (x:=(c,0)) h (by show Ea c;omega)
  ·exact HD _ h λx hx=>by have:=afn hx;omega
def QV(O:Ce->Bool):∀(l:List Ce) {M:Sm}{T:Tb},mr M.T.2 T.2->∃T',l.foldl (wi O) (eB M T)=eB (l.foldl (wi O) M) T'/\mr (l.foldl (wi O) M).T.2 T'.2
 | [],M,T,h=>⟨T,rfl,h⟩
 |x::l,M,T,h=>by
  obtain⟨T',e,t⟩:=acx O h x
  rw[qY,qY,e]
  exact QV O l t
def ZJ(O:Ce->Bool)(h:mr M.T.2 T.2):∃T',QT O (eB M T)=eB (QT O M) T'/\mr (QT O M).T.2 T'.2:=QV (M:=GY M) O (uO M) h
end
def S1:∀(l:List (Nat×eJ)) {L:lCs}{y:cQ},some y∈Kf L l->some y∈L\/∃x∈l,y.1=x.2
 | [],L,y,h=>.inl h
 |x::l,L,y,h=>by
  rcases S1 l (L:=D4 L x.1 x.2) h with h|⟨z,hz,e⟩
  ·unfold D4 at h
   split at h
   ·rcases pY h with h|h
    ·exact .inl h
    ·cases h
     exact .inr ⟨x,by simp,rfl⟩
   ·exact .inl h
  ·exact .inr ⟨z,by simp[hz],e⟩
def Ta{L:lCs}{n:Int}{y:cQ}(h:cE L n=some y):some y∈L:=by
 unfold cE at h;split at h
 ·exact aQ (Option.join_eq_some_iff.1 h)
 ·cases h
def wa(L:lCs):Prop:=∀y,some y∈L->I9 y.1.aw 2113536
section
variable{V V':Ce->Int}{M:Sm}{T:Tb}{L:lCs}
def ady(h:mr M.T.2 T.2)(L:lCs):kJ (eB M T) L=kJ M L:=by
 unfold kJ;refine List.filter_congr λi _=>?_
 unfold wQ
 cases cE L i with
 |none=>rfl
 |some y=>exact D0 h _
def XN(h:mr M.T.2 T.2){b:eJ}(ha:BT M b=true):I9 b.aw 1048576:=by have:=h.rx ha;have e:(ba b.aw).1=bY b.aw.1:=rfl;have e':(ba b.aw).2.2=bY b.aw.2.2:=rfl;rw[e,e']at this;unfold bY dD at this;unfold I9;omega
def V1(h:mr M.T.2 T.2)(hL:kx L)(hR:wa L):sD (eB M T) L=sD M L/\wa (sD M L):=by
 have ew:=ady h L;have stY7:∀i∈kJ M L,uP M L i=uP (eB M T) L i/\I9 (uP M L i).aw 1064960:=λi hi=>by obtain⟨-,y,hy⟩:=zT hi;have ha:wQ M L i=true:=(List.mem_filter.1 hi).2;unfold wQ at ha;rw[hy]at ha;have hx:=XN h ha;unfold uP;rw[hy];obtain⟨e,f⟩:=V3 h.v (VT (hL y (uQ hy))) au hx aa y.2;exact⟨e,f.up aa⟩
 have em:(kJ M L).map (uP M L)=(kJ M L).map (uP (eB M T) L):=CP λi hi=>(stY7 i hi).1
 have ho:Hp 1064960 ((kJ M L).map (uP M L)):=λb hb=>by obtain⟨i,hi,rfl⟩:=List.mem_map.1 hb;refine⟨?_,(stY7 i hi).2⟩;obtain⟨-,y,hy⟩:=zT hi;unfold uP;rw[hy];exact afe (am8 _) (hL y (uQ hy)) _
 obtain⟨ec,oc⟩:=V5 h.v (by rw[aK];exact aii M L) ho (jI _);refine⟨?_,λy hy=>?_⟩
 ·unfold sD Gw;rw[ew,<-em];show Kf L ((kJ M L).zip (uX (jc T.2) _))=_;rw[<-ec]
 ·rcases S1 _ hy with q|⟨x,hx,e⟩
  ·exact hR y q
  ·rw[e];exact(oc x.2 (List.of_mem_zip hx).2).2
def acm(h:v8 V V'){f d:Ce}(hf:(ba (eN f)).1<43/\-43<=(ba (eN f)).2.2):lh V f d 5=lh V' f d 5:=by
 have zG:∀x∈lj (eN f) (j9 d) (nt 5),x.1.1<48/\-48<=x.1.2.2:=λx hx=>by have:=(HR (f:=f) (d:=d) (r:=5) (by rw[aiQ];decide) x hx).1;omega
 unfold lh;rw[E1 (g:=λh:Hi=> !mN (V' h.1)) λx hx=>by rw[h x.1 (zG x hx).1 (zG x hx).2]]
 cases hq:(lj (eN f) (j9 d) (nt 5)).find? λh:Hi=> !mN (V' h.1)with
 |none=>rfl
 |some x=>
  have:=zG x (G6 hq);simp only;rw[h x.1 this.1 this.2]
def aeZ(hR:wa L){y:cQ}(hy:some y∈L):(ba (eN (pk y.1))).1<33/\-33<=(ba (eN (pk y.1))).2.2:=by have:=hR y hy;have e:(ba (eN (pk y.1))).1=bY (dD (dU y.1.aw.1 0)):=rfl;have e':(ba (eN (pk y.1))).2.2=bY (dD (dU y.1.aw.2.2 0)):=rfl;unfold I9 at this;rw[e,e'];unfold bY dU dD;omega
def IK(h:mr M.T.2 T.2)(hR:wa L)(n:Int)(gE:Ce):cM (eB M T) L n gE=cM M L n gE:=by
 unfold cM
 cases hq:cE L n with
 |none=>rfl
 |some y=>
  have hx:=aeZ hR (Ta hq);have e:lh (jc (eB M T).T.2) (pk y.1) gE 5=lh (jc M.T.2) (pk y.1) gE 5:=(acm h.v aa).symm;simp only[e]
def acn(hR:wa L){n:Int}{gE:Ce}(e:(cM M L n gE).2=0):Ea (cM M L n gE).1.1/\Ea (Sx (cM M L n gE).1).1:=by
 obtain⟨y,h1,h2,h3,-⟩:=Ro e;obtain⟨hn,-,hn2,-⟩:=Rp (by rw[aiQ];decide) h3;have hx:=aeZ hR h2;generalize (cM M L n gE).1=hh at*;refine⟨by omega,?_⟩;unfold Sx;split
 ·rename_i q;have hm:(rZ hh.1).getD hh.2.2.1.toNat (0,0,0)∈hh.1::rZ hh.1:=by
   have hl:hh.2.2.1.toNat<(rZ hh.1).length:=by show _<6;omega
   rw[dG,cK hl];exact .tail _ (List.getElem_mem hl)
  have:=af0 hm;show Ea ((rZ hh.1).getD hh.2.2.1.toNat (0,0,0));omega
 ·show Ea (0,0,0);decide
def El(h:mr M.T.2 T.2){c:Ce}(hc:Ea c)(L:lCs)(b:Int):∃T',iA (eB M T) L c b=((iA M L c b).1,eB (iA M L c b).2 T')/\mr (iA M L c b).2.T.2 T'.2:=by
 unfold iA;split
 ·exact⟨T,rfl,h⟩
 ·obtain⟨e,t⟩:=QG (b:=b) h hc;have ec:(jo (eB M T).T.2 c b).2=(jo M.T.2 c b).2:=(XD (b:=b) h (show c.1<48/\-48<=c.2.2 by omega)).1;exact⟨_,by rw[e,ec],t⟩
def aaL(h:mr M.T.2 T.2)(hR:wa L)(n:Int)(gE:Ce)(b:Int):∃T',sW (eB M T) L n gE b=((sW M L n gE b).1,eB (sW M L n gE b).2 T')/\mr (sW M L n gE b).2.T.2 T'.2:=by
 unfold sW;rw[IK h hR];split
 ·exact⟨T,rfl,h⟩
 split
 ·exact⟨T,rfl,h⟩
 split
 ·exact⟨T,rfl,h⟩
 split
 ·exact⟨T,rfl,h⟩
 rename_i q;split
 ·exact⟨T,rfl,h⟩
 ·exact El h (acn hR (by simpa using q)).2 L b
def aaO(h:mr M.T.2 T.2)(hR:wa L)(n:Int)(gE:Ce):∃T',mE (eB M T) L n gE=((mE M L n gE).1,eB (mE M L n gE).2 T')/\mr (mE M L n gE).2.T.2 T'.2:=by
 unfold mE;rw[IK h hR];split
 ·exact⟨T,rfl,h⟩
 rename_i q;obtain⟨T',e,t⟩:=El (c:=(cM M L n gE).1.1) h (acn hR (by simpa using q)).1 L 0;rw[e];refine⟨T',?_,?_⟩
 ·split<;>rfl
 ·split<;>exact t
def ab1(h:mr M.T.2 T.2)(hL:kx L)(hR:wa L):∃T',zS (eB M T) L=(eB (zS M L).1 T',(zS M L).2)/\mr (zS M L).1.T.2 T'.2/\wa (zS M L).2:=by obtain⟨e,r⟩:=V1 h hL hR;obtain⟨T',e',t⟩:=ZJ (Gh (sD M L)) h;refine⟨T',?_,t,r⟩;unfold zS;rw[e,e']
def aaE(h:mr M.T.2 T.2)(hR:wa L)(b:eJ):iP (eB M T) L b=iP M L b/\wa (iP M L b).2.2:=by
 have ea:BT (eB M T) b=BT M b:=D0 h _;unfold iP;rw[ea];split
 ·exact⟨rfl,hR⟩
 rename_i aia;split
 ·exact⟨rfl,hR⟩
 split
 ·exact⟨rfl,hR⟩
 rename_i haw;have hx:=XN h (b:=b) (by simpa using haw);have hw:b.wd<=131072:=by
  have:b.may=true:=by simpa using aia
  unfold eJ.may at this;simp only[fF,decide_eq_true_eq]at this;exact this.2.1
 have e1:b.box.1.1=nh b.aw.1 (max b.wd 0/2):=rfl;have e2:b.box.2.1=dU b.aw.1 (max b.wd 0/2):=rfl;have e3:b.box.1.2.2=nh b.aw.2.2 (max b.wd 0/2):=rfl;have hl:(b.box.1.1<3145728/\b.box.2.1<3145728)/\-3145728<=b.box.1.2.2:=by unfold I9 at hx;rw[e1,e2,e3];unfold dU nh dD;omega
 have u1:j8 (jc (eB M T).T.2) b.box aD=j8 (jc M.T.2) b.box aD:=(oh h.v (CF hl.1 hl.2)).symm;have u2:j8 (jc (eB M T).T.2) (nL b.box) aD=j8 (jc M.T.2) (nL b.box) aD:=(oh h.v (AJ hl.1 hl.2)).symm;rw[u1,u2];refine⟨rfl,?_⟩;split
 ·exact hR
 ·intro y hy;rcases pY hy with q|q
  ·exact hR y q
  ·cases q
   exact hx.up aa
def acB(h:wa L)(i:Int)(inp:QO):wa (A2 L i inp).2:=by
 unfold A2;split
 ·exact h
 ·rename_i y hy;intro z hz;rcases pY hz with q|q
  ·exact h z q
  ·cases q
   exact h y (Ta hy)
def acA(h:wa L)(i:Int):wa (zB L i).2:=by
 unfold zB;split
 ·exact h
 ·intro z hz;rcases pY hz with q|q
  ·exact h z q
  ·cases q
end
def okT(x:dS.It):Prop:=Cn x.2/\0<=x.1/\x.1<=2000000000000
structure Rok(M:Sm)(L:lCs):Prop where
 b:kx L
 q:∀x∈M.q.l,okT x
 n:0<=M.now/\M.now<=1099511627776
 o:yN M.q
def Blk(b:List Int):Prop:=∃(v:Int)(M:Sm)(L:lCs)(n:Nat),(1<=v/\v<=1073741824)/\Rok M L/\b=(gL (Go.bW.dy v (dy M L))).take n
def KR(D:Dk):Prop:=∀x,x∈D.safe\/x∈D.l->x.1=0\/x.1=1->Blk x.2
def Oe{l:List ki}{w x:ki}(h:x∈lay l w):x=w\/x∈l:=by
 rcases cu.1 ((qN l w).mem_iff.1 h)with h|h
 ·exact .inl h
 ·exact .inr (jY.1 h).1
def Sj:∀(t:List ki) {s:List ki}{x:ki},x∈t.foldl lay s->x∈t\/x∈s
 | [],s,x,h=>.inr h
 |w::t,s,x,h=>by
  rcases Sj t h with h|h
  ·exact .inl (qQ _ h)
  ·rcases Oe h with h|h
   ·exact .inl (h▸List.mem_cons_self ..)
   ·exact .inr h
def KR.now{D:Dk}(h:KR D){x:ki}(hx:x∈tU D)(h0:x.1=0\/x.1=1):Blk x.2:=
 h x ((Sj _ hx).symm) h0
def KR.of{D D':Dk}(h:KR D)(h1:D'.safe=D.safe)(h2:D'.l=D.l):KR D':=λx hx=>h x (by rw[h1,h2]at hx;exact hx)
def KR.ask{D:Dk}(h:KR D):KR (jN D).1:=h.of (jq D).1 (jq D).2.1
def KR.put{D:Dk}(h:KR D){k:Int}{b:List Int}(hb:k=0\/k=1->Blk b):KR (kV D k b).1:=by
 unfold kV;split
 ·exact h.ask
 split
 ·exact h.ask
 ·intro x hx h0;rcases hx with hx|hx
  ·have hx:x∈(jN D).1.safe:=hx;exact h.ask x (.inl hx) h0
  ·rcases dp.1 hx with hx|hx
   ·exact h x (.inr hx) h0
   ·rw[ig.1 hx]at h0⊢;exact hb h0
def KR.sync{D:Dk}(h:KR D):KR (nX D).1:=by
 unfold nX;split
 ·exact h.ask
 ·intro x hx h0;rcases hx with hx|hx
  ·exact h.now hx h0
  ·cases hx
def KR.save{D:Dk}(h:KR D)(id:Int)(b:List Int)(hb:(4*id+1-(kL D id).1=0\/4*id+1-(kL D id).1=1)->(zf ((kL D id).2.1+1) b).2=0->Blk (zf ((kL D id).2.1+1) b).1):KR (tJ D id b).1:=by
 unfold tJ;split
 ·split
  ·exact h
  ·rename_i h0;have hp:KR (kV D (4*id+1-(kL D id).1) (zf ((kL D id).2.1+1) b).1).1:=h.put λq=>hb q (by simpa using h0)
   split
   ·exact hp
   ·exact hp.sync
 ·exact h
def KR.chunk{D:Dk}(h:KR D){id:Int}(hid:1<=id)(b:List Int):KR (tJ D id b).1:=
 h.save id b λq _=>by have:=Pm D id;omega
def KR.aV{D:Dk}(h:KR D){M:Sm}{L:lCs}(hr:Rok M L):KR (tJ D 0 (dy M L)).1:=
 h.save 0 _ λ_ h0=>by
  have hv:=akv D 0;unfold zf at h0⊢;split at h0
  ·simp at h0
  ·rename_i c;rw[if_neg c];exact⟨_,M,L,_,aa,hr,(dN (ak _)).symm⟩
def Sk(k:Nat)(e:En):Prop:=EP e.1/\0<=e.2.2.2/\e.2.2.2<=k
structure nI(k n:Nat)(T:Tb):Prop where
 e:∀e∈T.2,Sk k e
 d:T.1.l.length<=n
 r:KR T.1
section
variable{k n:Nat}{D:Dk}{l:List En}{aj limit:Int}{T:Tb}
def Sk.mono{e:En}(h:Sk k e){m:Nat}(hm:k<=m):Sk m e:=⟨h.1,h.2.1,by have:=h.2.2;omega⟩
def nI.mono(h:nI k n T){k' n':Nat}(hk:k<=k')(hn:n<=n'):nI k' n' T:=⟨λe he=>(h.e e he).mono hk,cV h.d hn,h.r⟩
def Sk.save{e:En}(he:Sk k e)(D:Dk):Sk k (cD D e).2.1:=by
 unfold cD;split
 ·exact he
 ·exact he
def KR.cD{e:En}(h:KR D)(he:Sk k e):KR (cD D e).1:=by
 unfold Go.Proofs.YtjcnjlaelhdjeaaGreatDoor.cD;split
 ·exact h.chunk (ahW he.1).1 _
 ·exact h
def nI.go(h:nI k n (D,l))(i:Nat):nI k (n+1) (goE D l i).1:=by
 unfold goE;split
 ·exact h.mono (ak _) (lN _)
 ·rename_i e he;have h1:=h.e e (aQ he);have h2:=h.r.cD h1;have h3:=Am D e;have h4:D.l.length<=n:=h.d;split
  ·exact⟨λx hx=>h.e x ((GA ..).subset hx),by simp only;omega,h2⟩
  ·refine⟨λx hx=>?_,by simp only;omega,h2⟩;rcases pY hx with hx|rfl
   ·exact h.e x hx
   ·exact h1.save D
def nI.room(h:nI k n (D,l)):nI k (n+1) (fU limit D l).1:=by
 unfold fU;split
 ·exact h.mono (ak _) (lN _)
 split
 ·exact h.mono (ak _) (lN _)
 ·exact h.go _
def nI.load(h:nI k n (D,l))(p:Po):nI k (n+1) (yO aj limit D l p).1:=by
 unfold yO;split
 ·exact h.mono (ak _) (lN _)
 rename_i hp;split
 ·refine⟨λe he=>?_,Nat.le_succ_of_le h.d,h.r⟩;rcases dp.1 he with he|he
  ·exact h.e e ((GA ..).subset he)
  ·exact h.e e (aQ (Option.mem_toList.1 he))
 have hr:=h.room (limit:=limit);split
 ·exact hr
 ·refine⟨λe he=>?_,hr.d,hr.r⟩;rcases dp.1 he with he|he
  ·exact hr.e e he
  ·rw[ig.1 he];exact⟨by simpa using hp,by simp only;omega,by simp only;omega⟩
def nI.ame(h:nI k n (D,l))(p:Po):nI k (n+1) (oa D l p).1:=by
 unfold oa;split
 ·split
  ·exact h.mono (ak _) (lN _)
  ·exact h.go _
 ·exact h.mono (ak _) (lN _)
def nI.flush(h:nI k n (D,l))(p:Po):nI k (n+1) (TK D l p).1:=by
 unfold TK;split
 ·split
  ·rename_i e he;have h1:=h.e e (aQ he);have h3:=Am D e;have h4:D.l.length<=n:=h.d;refine⟨λx hx=>?_,by simp only;omega,h.r.cD h1⟩;rcases pY hx with hx|rfl
   ·exact h.e x hx
   ·exact h1.save D
  ·exact h.mono (ak _) (lN _)
 ·exact h.mono (ak _) (lN _)
def nI.U9:∀(l:List En) {n:Nat}{D:Dk}{pre:List En}{m:Int},nI k n (D,pre++l)->nI k (n+l.length) (U9 D pre l m).1
 | [],n,D,pre,m,h=>by rw[oV]at h;exact h
 |e::l,n,D,pre,m,h=>by
  have h1:=h.e e (Dc _ (.head _))
  have h2:=h.r.cD h1
  have h3:=Am D e
  have h4:D.l.length<=n:=h.d
  have h5:nI k (n+1) ((cD D e).1,pre++(cD D e).2.1::l):=by
   refine⟨λx hx=>?_,by simp only;omega,h2⟩;rcases dp.1 hx with hx|hx
   ·exact h.e x (Ha _ hx)
   ·rcases cu.1 hx with rfl|hx
    ·exact h1.save D
    ·exact h.e x (Dc _ (.tail _ hx))
  unfold Go.Proofs.YtjcnjlaelhdjeaaGreatDoor.U9;rw[cL];split
  ·have h6:nI k (n+1) ((cD D e).1,(pre++[(cD D e).2.1])++l):=by rw[fT];exact h5
   exact(nI.U9 l h6).mono (ak _) aa
  ·exact h5.mono (ak _) aa
def nI.ark(h:nI k n (D,l)):nI k (n+l.length) (gT D l).1:=nI.U9 (pre:=[]) l h
def Yb{l:List En}{i:Nat}{f:En->En}{x:En}(h:x∈l.modify i f):x∈l\/∃y,l[i]? =some y/\x=f y:=by
 obtain⟨j,hj⟩:=JT.1 h;rw[CR]at hj
 cases hy:l[j]? with
 |none=>rw[hy]at hj;cases hj
 |some y=>
  rw[hy]at hj;have e:x=if i=j then f y else y:=(Option.some.inj hj).symm;by_cases c:i=j
  ·rw[if_pos c]at e;subst c;exact .inr ⟨y,hy,e⟩
  ·rw[if_neg c]at e;exact .inl (e▸aQ hy)
def nI.pin(h:nI k n (D,l))(p:Po):nI (k+1) n (D,(zq l p).1):=by
 unfold zq;split
 ·refine⟨λe he=>?_,h.d,h.r⟩;rcases Yb he with he|⟨y,hy,rfl⟩
  ·exact(h.e e he).mono (lN _)
  ·obtain⟨q1,q2,q3⟩:=h.e y (aQ hy);exact⟨q1,by simp only;omega,by simp only;omega⟩
 ·exact h.mono (lN _) (ak _)
def nI.aqM(h:nI k n (D,l))(p:Po):nI k n (D,(kY l p).1):=by
 unfold kY;split
 ·split
  ·exact h
  ·rename_i h0;refine⟨λe he=>?_,h.d,h.r⟩;rcases Yb he with he|⟨y,hy,rfl⟩
   ·exact h.e e he
   ·obtain⟨q1,q2,q3⟩:=h.e y (aQ hy);rw[hy]at h0;simp only[mT,Option.some.injEq]at h0;exact⟨q1,by simp only;omega,by simp only;omega⟩
 ·exact h
def nI.set(h:nI k n (D,l))(c:Ce)(b:Int):nI k n (D,(jo l c b).1):=by
 unfold jo;split
 ·exact h
 split
 ·exact h
 split
 ·exact h
 ·refine⟨λe he=>?_,h.d,h.r⟩;rcases dp.1 he with he|he
  ·exact h.e e ((GA ..).subset he)
  ·obtain⟨x,hx,rfl⟩:=wM.1 (Option.mem_toList.1 he);exact h.e x (aQ hx)
def nI.aV(h:nI k n (D,l)){M:Sm}{L:lCs}(hr:Rok M L):nI k (n+1) ((tJ D 0 (dy M L)).1,l):=⟨h.e,cV (acX D 0 _) (Nat.succ_le_succ h.d),h.r.aV hr⟩
end
def KM{l:List En}{c:Ce}{b:Int}(h:(jo l c b).2=0):PL c/\∃e∈l,e.1=pos c:=by
 unfold jo at h;split at h
 ·simp only at h;omega
 rename_i h1;split at h
 ·simp only at h;omega
 rename_i h2;refine⟨by simpa using h2,?_⟩;rcases dm (λe:En=>e.1==pos c) l with⟨e,-⟩|⟨k,x,hx,hq,-,-⟩
 ·rw[e]at h1;omega
 ·exact⟨x,aQ hx,by simpa using hq⟩
def Sn{c:Ce}(h:EP (pos c))(hy:PL c):(-9000000<=c.1/\c.1<=9000000)/\(0<=c.2.1/\c.2.1<32)/\-9000000<=c.2.2/\c.2.2<=9000000:=by unfold EP pos at h;unfold PL at hy;simp only at h;omega
def Yc{q:QS}{c:Ce}{t:Int}{x:dS.It}(h:x∈(lD q c t).1.l):x∈q.l\/x=(t,c):=by
 unfold lD at h;split at h
 ·split at h
  ·exact .inl h
  ·rcases(G8 _ _ _).1 h with h|h
   ·exact .inr h
   ·exact .inl ((B9 q.l c).subset h)
 ·split at h
  ·exact .inl h
  ·rcases(G8 _ _ _).1 h with h|h
   ·exact .inr h
   ·exact .inl h
def Yd{V:Ce->Int}{now:Int}{c:Ce}:∀(l:List Ce) {q:QS}{x:dS.It},x∈(l.foldl (λq n=>(lD q n (now+jS (V n))).1) q).l->x∈q.l\/(x.2∈l/\now<=x.1/\x.1<=now+5)
 | [],q,x,h=>.inl h
 |n::l,q,x,h=>by
  rcases Yd (c:=c) l h with h|h
  ·rcases Yc h with h|h
   ·exact .inl h
   ·have:=QR (V n)
    exact .inr (by rw[h];exact⟨bo,by simp only;omega,by simp only;omega⟩)
  ·exact .inr ⟨qQ _ h.1,h.2⟩
def aa0{V:Ce->Int}{c:Ce}(h:(-9000000<=c.1/\c.1<=9000000)/\(0<=c.2.1/\c.2.1<32)/\-9000000<=c.2.2/\c.2.2<=9000000):∀n∈sG V c,Cn n:=by intro n hn;have hn:=(jY.1 hn).1;obtain⟨x,y,z⟩:=c;simp only at h;unfold Cn;simp only[rZ,cu,iT,or_false]at hn;rcases hn with rfl|rfl|rfl|rfl|rfl|rfl|rfl<;>(try simp only[fy,Ds])<;>omega
def Nr(k n:Nat)(M:Sm):Prop:=nI k n M.T/\(∀x∈M.q.l,okT x)/\0<=M.now/\M.now<=1099511627776
section
variable{k n:Nat}
def Nr.edit{M:Sm}(h:Nr k n M)(c:Ce)(b:Int):Nr k n (Ay M c b):=by
 refine⟨nI.set (D:=M.T.1) (l:=M.T.2) h.1 c b,λx hx=>?_,h.2.2⟩;have hx:x∈(if(jo M.T.2 c b).2=0 then GR (jc (jo M.T.2 c b).1) M.now M.q c else M.q).l:=hx;split at hx
 ·rename_i h0;obtain⟨hy,e,he,hp⟩:=KM h0;have hc:=Sn (by rw[<-hp];exact(h.1.e e he).1) hy;rcases Yd (c:=c) _ hx with hx|⟨hx,h1,h2⟩
  ·exact h.2.1 x hx
  ·have:=h.2.2;exact⟨aa0 hc _ hx,aa,aa⟩
 ·exact h.2.1 x hx
def Nr.change{M:Sm}(h:Nr k n M)(x:Go.ej.Cg):Nr k n (eY M x):=by
 unfold eY;split
 ·exact h
 ·exact h.edit _ _
def Nr.changes:∀(l:List Go.ej.Cg) {M:Sm},Nr k n M->Nr k n (l.foldl eY M)
 | [],M,h=>h
 |x::l,M,h=>Nr.changes l (h.change x)
def Nr.upd{M:Sm}(h:Nr k n M)(O:Ce->Bool){c:Ce}(hc:Cn c):Nr k n (wi O M c):=by
 unfold wi;split
 ·refine⟨h.1,λx hx=>?_,h.2.2⟩;rcases Yc hx with hx|hx
  ·exact h.2.1 x hx
  ·have:=h.2.2;rw[hx];exact⟨hc,by simp only;omega,by simp only;omega⟩
 split
 ·exact Nr.change (M:={M with nk:=M.nk++[fy c]}) h (c,0)
 ·exact Nr.changes _ h
def Nr.aao(O:Ce->Bool):∀(l:List Ce) {M:Sm},Xq l->Nr k n M->Nr k n (l.foldl (wi O) M)
 | [],M,_,h=>h
 |c::l,M,hl,h=>Nr.aao O l (λy hy=>hl y (by simp[hy])) (h.upd O (hl c bo))
def Nr.due{M:Sm}(h:Nr k n M):Xq (uO M):=λy hy=>by
 have hy:y∈(M.q.l.take (iQ M.q.l (qC M) M.dz)).map (·.2):=hy
 obtain⟨x,hx,rfl⟩:=bc.1 hy
 exact(h.2.1 x (nZ hx)).1
def Nr.tick{M:Sm}(h:Nr k n M)(O:Ce->Bool):Nr k n (QT O M):=Nr.aao O _ h.due ⟨h.1,λx hx=>h.2.1 x (zo (show x∈M.q.l.drop _ from hx)),by have:=h.2.2;show 0<=qC M/\qC M<=_;unfold qC;omega⟩
end
def vo:∀(l:List Go.ej.Cg)(M:Sm),(l.foldl eY M).dz=M.dz
 | [],M=>rfl
 |x::l,M=>(vo l (eY M x)).trans (by unfold eY;split<;>rfl)
def VS(O:Ce->Bool)(M:Sm)(c:Ce):(wi O M c).dz=M.dz:=by
 unfold wi;split
 ·rfl
 split
 ·unfold eY;split<;>rfl
 ·exact vo _ _
def Dt(O:Ce->Bool):∀(l:List Ce)(M:Sm),(l.foldl (wi O) M).dz=M.dz
 | [],M=>rfl
 |c::l,M=>(Dt O l (wi O M c)).trans (VS O M c)
def Of(O:Ce->Bool)(M:Sm):(QT O M).dz=M.dz:=Dt O _ _
abbrev sr(e:En):Po×List Int:=(e.1,e.2.1)
def kc1{x y:En}(h:sr x=sr y):x.1=y.1/\x.2.1=y.2.1:=Prod.mk.inj h
def Ft{α:Type}[DecidableEq α]:∀{l k:List α},l.Nodup->(∀x∈l,x∈k)->l.length<=k.length
 | [],_,_,_=>eG _
 |x::l,k,hn,hs=>by
  obtain⟨h1,h2⟩:=List.nodup_cons.1 hn
  have hx:=hs x (.head _)
  have:=Ft (k:=k.erase x) h2 λy hy=>(List.mem_erase_of_ne (λq=>h1 (by rw[<-q];exact hy))).2 (hs y (.tail _ hy))
  have hl:=List.length_erase_of_mem hx
  have:0<k.length:=List.length_pos_of_mem hx
  rw[cL]
  omega
section
variable{l l' l2:List En}{D:Dk}{aj limit:Int}{p:Po}
def mr.len(h:mr l l'):l'.length<=7:=by
 have:=Ft (k:=[(0,0),(1,0),(-1,0),(0,1),(0,-1),(3,0),(0,-4)]) h.n' λx hx=>by obtain⟨e,he,rfl⟩:=List.mem_map.1 hx;have:=h.f' _ ⟨e,he,rfl⟩;unfold A5 Fa at this;simp only[cu,iT,or_false]at this⊢;rcases this with(h|h|h|h|h)|h|h<;>simp[h]
 rw[aK]at this;exact this
def M1(h:mr l l')(hn:eW l2)(hg:o0 l2)(h1:∀x∈l2,¬Fa x.1->∃y∈l',sr y=sr x)(h2:∀y∈l',¬Fa y.1->∃x∈l2,sr x=sr y):mr l l2:=by
 have hh:∀q:Po,¬Fa q->(eR l' q↔eR l2 q):=λq hq=>by
  constructor
  ·rintro⟨y,hy,rfl⟩;obtain⟨x,hx,e⟩:=h2 y hy hq;exact⟨x,hx,(kc1 e).1⟩
  ·rintro⟨x,hx,rfl⟩;obtain⟨y,hy,e⟩:=h1 x hx hq;exact⟨y,hy,(kc1 e).1⟩
 refine⟨h.n,hn,h.g,hg,λq hq=>(h.h q hq).trans (hh q hq),h.f,λq hq=>?_,λc hc hz=>(h.v c hc hz).trans ?_⟩
 ·by_cases hf:Fa q
  ·exact .inr hf
  ·exact .inl (h.f q ((h.h q hf).2 ((hh q hf).2 hq)))
 have hp:=P1 (c:=c) ⟨hc,hz⟩;by_cases hy:eR l' (pos c)
 ·obtain⟨y,hy,e⟩:=hy;obtain⟨x,hx,k⟩:=h2 y hy (by rw[e];exact hp);obtain⟨k1,k2⟩:=kc1 k;rw[AX h.n' hy e,AX hn hx (k1.trans e),k1,k2]
 ·rw[HX hy,HX λq=>hy ((hh _ hp).2 q)]
def M7(h:mr l l')(hg:o0 l2)(e:l2.map sr=l'.map sr):mr l l2:=by
 have e1:l2.map (·.1)=l'.map (·.1):=by have:=congrArg (List.map Prod.fst) e;rw[pR,pR]at this;exact this
 refine M1 h (by unfold eW;rw[e1];exact h.n') hg (λx hx _=>?_) (λy hy _=>?_)
 ·have:sr x∈l'.map sr:=e▸List.mem_map_of_mem hx;obtain⟨y,hy,q⟩:=List.mem_map.1 this;exact⟨y,hy,q⟩
 ·have:sr y∈l2.map sr:=e▸List.mem_map_of_mem hy;obtain⟨x,hx,q⟩:=List.mem_map.1 this;exact⟨x,hx,q⟩
def HY(D:Dk)(e:En):sr (cD D e).2.1=sr e:=by unfold cD;split<;>rfl
def aci{i:Nat}{e x:En}(hi:l[i]? =some e)(hx:sr x=sr e):(l.set i x).map sr=l.map sr:=by
 rw[pM,hx];refine jF λj=>?_
 rw[iS];split
 ·rename_i q;subst q;rw[aW,hi];have:=(List.getElem?_eq_some_iff.1 hi).1;rw[if_pos (by rw[aK];exact this)];rfl
 ·rfl
def acj:∀(l:List En)(D:Dk)(pre:List En)(n:Int),(U9 D pre l n).1.2.map sr=pre.map sr++l.map sr
 | [],D,pre,n=>by unfold U9;simp
 |e::l,D,pre,n=>by
  unfold U9
  split
  ·rw[acj l,cl,eH,List.map_nil,HY,eH,fT]
   rfl
  ·simp only[cl,eH,HY]
def aaZ(h:mr l l')(hg:o0 (gT D l').1.2):mr l (gT D l').1.2:=M7 h hg (acj l' D [] 0)
def afH(h:mr l l')(hg:o0 (TK D l' p).1.2):mr l (TK D l' p).1.2:=by
 refine M7 h hg ?_;unfold TK;split
 ·split
  ·rename_i e he;exact aci he (HY D e)
  ·rfl
 ·rfl
def Sa(p:Po){e:En}(he:l'[(bK (λe:En=>e.1==p) l').toNat]? =some e)(h0:0<=bK (λe:En=>e.1==p) l'):e.1=p:=by
 rcases dm (λe:En=>e.1==p) l' with⟨hf,-⟩|⟨k,x,hk,hx,hf,-⟩
 ·omega
 ·rw[hf,iI,hk]at he
  cases he
  simpa using hx
def ab4(h:mr l l')(hp:Fa p)(hg:o0 (oa D l' p).1.2):mr l (oa D l' p).1.2:=by
 unfold oa at hg⊢;split
 ·rename_i q;rw[if_pos q]at hg;split
  ·exact h
  ·rename_i q2;rw[if_neg q2]at hg;unfold goE at hg⊢;split
   ·exact h
   rename_i e he;rw[he]at hg;simp only at hg;split
   ·rename_i q3;rw[if_pos q3]at hg;have hpe:=Sa p he q;refine M1 h (Hd h.n' _) hg (λx hx _=>⟨x,List.mem_of_mem_eraseIdx hx,rfl⟩) (λy hy r=>⟨y,(mem_erase h.n' he y).2 ⟨hy,λs=>r ?_⟩,rfl⟩);rw[s,hpe];exact hp
   ·rename_i q3;rw[if_neg q3]at hg;exact M7 h hg (aci he (HY D e))
 ·exact h
def afA(h:mr l l')(hp:Fa p)(hl:9<=limit)(hg:o0 (yO aj limit D l' p).1.2):mr l (yO aj limit D l' p).1.2:=by
 have hz:=h.len;have hroom:fU limit D l'=((D,l'),0):=by unfold fU;rw[if_pos aa]
 unfold yO at hg⊢;split
 ·exact h
 rename_i q;rw[if_neg q]at hg;split
 ·rename_i q2;rw[if_pos q2]at hg
  cases he:l'[(bK (λe:En=>e.1==p) l').toNat]? with
  |none=>
   simp only[Option.toList_none,oV];rw[List.eraseIdx_of_length_le (List.getElem?_eq_none_iff.1 he)];exact h
  |some e=>
   rw[he]at hg;simp only[Option.toList_some]at hg⊢;have hpe:=Sa p he q2;refine M1 h (C4 (Hd h.n' _) λ⟨x,hx,r⟩=>((mem_erase h.n' he x).1 hx).2 r) hg (λx hx r=>?_) (λy hy r=>⟨y,Ha _ ((mem_erase h.n' he y).2 ⟨hy,λs=>r ?_⟩),rfl⟩)
   ·rcases List.mem_append.1 hx with s|s
    ·exact⟨x,List.mem_of_mem_eraseIdx s,rfl⟩
    ·obtain rfl:=List.mem_singleton.1 s;exact absurd (hpe▸hp) r
   ·rw[s,hpe];exact hp
 ·rename_i q2;rw[if_neg q2]at hg;rw[hroom]at hg⊢;rw[if_neg (λr=>r rfl)]at hg⊢;refine M1 h (C4 h.n' λ⟨x,hx,r⟩=>?_) hg (λx hx r=>?_) (λy hy _=>⟨y,Ha _ hy,rfl⟩)
  ·obtain⟨k,-,h2⟩:=xi h.n' hx;have r:x.1=p:=r;rw[r]at h2;omega
  ·rcases List.mem_append.1 hx with s|s
   ·exact⟨x,s,rfl⟩
   ·obtain rfl:=List.mem_singleton.1 s;exact absurd hp r
def acF{l:List En}(h:eW l/\∀q,eR l q->A5 q)(hp:A5 p)(hl:9<=limit):eW (yO aj limit D l p).1.2/\∀q,eR (yO aj limit D l p).1.2 q->A5 q:=by
 have hz:l.length<=5:=by
  have:=Ft (k:=[(0,0),(1,0),(-1,0),(0,1),(0,-1)]) h.1 λx hx=>by obtain⟨e,he,rfl⟩:=List.mem_map.1 hx;exact h.2 _ ⟨e,he,rfl⟩
  rw[aK]at this;exact this
 have hroom:fU limit D l=((D,l),0):=by unfold fU;rw[if_pos aa]
 unfold yO;split
 ·exact h
 split
 ·rename_i q2
  cases he:l[(bK (λe:En=>e.1==p) l).toNat]? with
  |none=>
   simp only[Option.toList_none,oV];rw[List.eraseIdx_of_length_le (List.getElem?_eq_none_iff.1 he)];exact h
  |some e=>
   refine⟨C4 (Hd h.1 _) λ⟨x,hx,r⟩=>((mem_erase h.1 he x).1 hx).2 r,λq hq=>?_⟩;obtain⟨x,hx,rfl⟩:=hq;rcases List.mem_append.1 hx with s|s
   ·exact h.2 _ ⟨x,List.mem_of_mem_eraseIdx s,rfl⟩
   ·obtain rfl:=List.mem_singleton.1 s;exact h.2 _ ⟨x,aQ he,rfl⟩
 ·rename_i q2;rw[hroom,if_neg (λr=>r rfl)];refine⟨C4 h.1 λ⟨x,hx,r⟩=>?_,λq hq=>?_⟩
  ·obtain⟨k,-,h2⟩:=xi h.1 hx;have r:x.1=p:=r;rw[r]at h2;omega
  ·obtain⟨x,hx,rfl⟩:=hq;rcases List.mem_append.1 hx with s|s
   ·exact h.2 _ ⟨x,s,rfl⟩
   ·obtain rfl:=List.mem_singleton.1 s;exact hp
end
def IZ(M:Sm)(x:Go.ej.Cg):(eY M x).cap=M.cap:=by unfold eY;split<;>rfl
def HG:∀(l:List Go.ej.Cg)(M:Sm),(l.foldl eY M).cap=M.cap
 | [],_=>rfl
 |x::l,M=>(HG l (eY M x)).trans (IZ M x)
def acT(O:Ce->Bool)(M:Sm)(c:Ce):(wi O M c).cap=M.cap:=by
 unfold wi;split
 ·rfl
 ·split
  ·exact IZ _ _
  ·exact HG _ _
def Su(O:Ce->Bool):∀(l:List Ce)(M:Sm),(l.foldl (wi O) M).cap=M.cap
 | [],_=>rfl
 |x::l,M=>(Su O l (wi O M x)).trans (acT O M x)
def aaP(O:Ce->Bool)(M:Sm):(QT O M).cap=M.cap:=Su O _ _
structure Inv(k:Nat)(M:Sm)(L:lCs):Prop where
 b:kx L
 s:qB M (300000*k)
 n:Nr k (20*k) M
 u:1<=M.dz/\M.dz<=64
section
variable{k:Nat}{M M':Sm}{L L':lCs}
def Nr.mono{k n k' n':Nat}(h:Nr k n M)(hk:k<=k')(hn:n<=n'):Nr k' n' M:=⟨h.1.mono hk hn,h.2⟩
def Inv.mono(h:Inv k M L){k':Nat}(hk:k<=k'):Inv k' M L:=⟨h.b,h.s.mono aa,h.n.mono hk aa,h.u⟩
def Inv.tab(h:Inv k M L){T':Tb}(ht:nI (k+1) (20*(k+1)) T'):Inv (k+1) {M with T:=T'} L:=
 ⟨h.b,⟨h.s.mono aa|>.l,(h.s.mono aa:qB M (300000*(k+1))).c,h.s.now,(h.s.mono aa:qB M (300000*(k+1))).d⟩,⟨ht,h.n.2⟩,h.u⟩
def Inv.lv(h:Inv k M L)(hb:kx L'):Inv (k+1) M L':=⟨hb,h.s.mono aa,h.n.mono aa aa,h.u⟩
def Inv.edit(h:Inv k M L)(c:Ce)(b:Int):Inv (k+1) (Ay M c b) L:=⟨h.b,(h.s.edit c b).mono aa,(h.n.edit c b).mono aa aa,h.u⟩
def Inv.up(h:Inv k M L):Inv (k+1) M L:=h.mono (lN _)
def Inv.afF(h:Inv k M L)(L':lCs)(c:Ce)(b:Int):Inv (k+1) (iA M L' c b).2 L:=by
 unfold iA;split
 ·exact h.up
 ·exact h.edit c b
def Inv.place(h:Inv k M L)(n:Int)(gE:Ce)(b:Int):Inv (k+1) (sW M L n gE b).2 L:=by
 unfold sW
 repeat' split
 all_goals first|exact h.up|exact h.afF _ _ _
def Inv.brk(h:Inv k M L)(n:Int)(gE:Ce):Inv (k+1) (mE M L n gE).2 L:=by
 unfold mE
 repeat' split
 all_goals first|exact h.up|exact h.afF _ _ _
def Inv.rok(h:Inv k M L)(hq:yN M.q):Rok M L:=⟨h.b,h.n.2.1,h.s.now,hq⟩
def fJ:Nat->Sm->lCs->Int×Sm×lCs
 |0,M,L=>(0,M,L)
 |n+1,M,L=>((fJ n M L).1+((uO (fJ n M L).2.1).length:Int),(zS (fJ n M L).2.1 (fJ n M L).2.2).1,(zS (fJ n M L).2.1 (fJ n M L).2.2).2)
structure Jnv(k j:Nat)(M:Sm)(L:lCs):Prop where
 b:kx L
 s:qB M (300000*k+2560*j)
 n:Nr k (20*k) M
 u:1<=M.dz/\M.dz<=64
def Inv.j(h:Inv k M L):Jnv k 0 M L:=⟨h.b,h.s.mono aa,h.n,h.u⟩
def Jnv.inv{j:Nat}(h:Jnv k j M L)(hj:j<=100):Inv (k+1) M L:=⟨h.b,h.s.mono aa,h.n.mono aa aa,h.u⟩
def Jnv.tick{j:Nat}(h:Jnv k j M L):Jnv k (j+1) (zS M L).1 (zS M L).2:=by have hl:=EZ (q:=M.q) (now:=qC M) h.u;have gm:qB (GY M) (300000*k+2560*j):=⟨h.s.l,h.s.c,by have:=h.s.now;show 0<=qC M/\qC M<=_;unfold qC;omega,h.s.d⟩;have hS:qB (zS M L).1 (300000*k+2560*j+40*(uO M).length):=qB.aao _ (uO M) gm;have TE:(uO M).length<=64:=hl;refine⟨h.b.tick,hS.mono aa,h.n.tick _,?_⟩;have:(zS M L).1.dz=M.dz:=Of _ _;rw[this];exact h.u
def Inv.ak6(h:Inv k M L):∀n:Nat,Jnv k n (fJ n M L).2.1 (fJ n M L).2.2/\0<=(fJ n M L).1/\(fJ n M L).1<=64*n
 |0=>⟨h.j,jI _,jI _⟩
 |n+1=>by
  obtain⟨h1,h2,h3⟩:=Inv.ak6 h n
  have hl:=EZ (q:=(fJ n M L).2.1.q) (now:=qC (fJ n M L).2.1) h1.u
  have TE:(uO (fJ n M L).2.1).length<=64:=hl
  refine⟨h1.tick,?_,?_⟩<;>(show _<=_)<;>unfold fJ<;>omega
end
abbrev er(x:Int):Prop:=0<=x/\x<14
def ank(D:Dk)(k:Int)(b:List Int):er (kV D k b).2:=by
 unfold kV er
 repeat' split
 all_goals (simp only;omega)
def ajl(D:Dk):er (nX D).2:=by unfold nX er;split<;>(simp only;omega)
def ak3(D:Dk)(id:Int)(b:List Int):er (tJ D id b).2:=by
 unfold tJ;split
 ·split
  ·unfold zf er;split<;>(simp only;omega)
  ·split
   ·exact ank ..
   ·exact ajl _
 ·unfold er;simp only;omega
def Oo(D:Dk)(e:En):er (cD D e).2.2:=by
 unfold cD;split
 ·exact ak3 ..
 ·unfold er;simp only;omega
def ak7(D:Dk)(l:List En)(i:Nat):er (goE D l i).2:=by
 unfold goE;split
 ·unfold er;simp only;omega
 ·split
  ·unfold er;simp only;omega
  ·exact Oo ..
def ajm(limit:Int)(D:Dk)(l:List En):er (fU limit D l).2:=by
 unfold fU;split
 ·unfold er;simp only;omega
 split
 ·unfold er;simp only;omega
 ·exact ak7 ..
def ahS(aj limit:Int)(D:Dk)(l:List En)(p:Po):er (yO aj limit D l p).2:=by
 unfold yO;split
 ·unfold er;simp only;omega
 split
 ·unfold er;simp only;omega
 split
 ·exact ajm ..
 ·unfold er;simp only;omega
def YU(D:Dk)(l:List En)(p:Po):er (oa D l p).2:=by
 unfold oa;split
 ·split
  ·unfold er;simp only;omega
  ·exact ak7 ..
 ·unfold er;simp only;omega
def ac8(D:Dk)(l:List En)(p:Po):er (TK D l p).2:=by
 unfold TK;split
 ·split
  ·exact Oo ..
  ·unfold er;simp only;omega
 ·unfold er;simp only;omega
def afm:∀(l:List En)(D:Dk)(pre:List En)(n:Int),0<=n->er (U9 D pre l n).2.2/\0<=(U9 D pre l n).2.1/\(U9 D pre l n).2.1<=n+l.length
 | [],D,pre,n,h=>by unfold U9 er;simp only[mV];omega
 |e::l,D,pre,n,h=>by
  unfold U9
  rw[cL]
  split
  ·have:=afm l (cD D e).1 (pre++[(cD D e).2.1]) (if e.2.2.1=true then n+1 else n) (by split<;>omega)
   refine⟨this.1,this.2.1,?_⟩
   have h2:=this.2.2
   have:(if e.2.2.1=true then n+1 else n)<=n+1:=by split<;>omega
   omega
  ·exact⟨Oo ..,by simp only;omega,by simp only;omega⟩
def ac9(l:List En)(p:Po):er (zq l p).2/\er (kY l p).2:=by
 unfold zq kY er;refine⟨by split<;>(simp only;omega),?_⟩
 repeat' split
 all_goals (simp only;omega)
def anl(l:List En)(c:Ce)(b:Int):er (jo l c b).2:=by
 unfold jo er
 repeat' split
 all_goals (simp only;omega)
def Oq(M:Sm)(L:lCs)(c:Ce)(b:Int):er (iA M L c b).1:=by
 unfold iA;split
 ·unfold er;simp only;omega
 ·exact anl ..
def Nh(M:Sm)(L:lCs)(n:Int)(gE:Ce):er (cM M L n gE).2:=by
 unfold cM er
 repeat' split
 all_goals (simp only;omega)
def afG(M:Sm)(L:lCs)(n:Int)(gE:Ce)(b:Int):er (sW M L n gE b).1:=by
 unfold sW
 repeat' split
 all_goals first|exact Oq .. |exact Nh .. |(unfold er;simp only;omega)
def anm(M:Sm)(L:lCs)(n:Int)(gE:Ce):er (mE M L n gE).1.2:=by
 unfold mE
 repeat' split
 all_goals first|exact Oq .. |exact Nh .. |(unfold er;simp only;omega)
def ahZ(L:lCs)(n:Int):er (zB L n).1:=by unfold zB er;split<;>(simp only;omega)
def ajn(L:lCs)(n:Int)(i:QO):er (A2 L n i).1:=by unfold A2 er;split<;>(simp only;omega)
def ado(M:Sm)(L:lCs)(b:eJ):er (iP M L b).2.1:=by
 unfold iP er
 repeat' split
 all_goals (simp only;omega)
variable{R:eWp}{w:World}{a0:Int}
def aaX.vc(h:
 ab 29 #[.string (ByteArray.mk #[108,111,97,100,32,48,32,48,10,97,116,32,48,32,48,32,48])] w (lu λt1 w0=>R (Ga (gu t1 (ByteArray.mk #[111,107,10,115,116,111,110,101,10]))) w0)):ab 19 #[] w R:=
 cq bz func19 h
def aat.vc{a0:Addr}(h:(λA=>
 eO w A λp0=>
 ab 39 #[p0] w (nH λp2 w1=>Br (p2).isNone
 (R false w1)
 (ab 44 #[a0] w1 (nH λp4 w3=>Br (p4).isNone
 (R false w3)
 (eO w3 A λp5=>
 ab 39 #[p5] w3 (nH λp7 w6=>ab 58 #[p7] w6 (Gr λv9 w8=>aO (fnC v9) (Br (!(acL v9))
 (eO w8 A λIe=>
 ab 39 #[Ie] w8 (nH λwC bE=>ab 40 #[wC] bE (nH λBm bw=>R (Ga (!(Bm).isNone)) bw)))
 (R false w8))))))))) (ae (some a0) 0)):ab 23 #[a0] w R:=
 cq bz func23 h
def aaY.vc(h:(λA B C=>
 ab 26 #[] w (nH λp1 w0=>Br (p1).isNone
 (R C w0)
 (ab 12 #[a0,(1000:Int)] w0 (fw λx3 w2=>ab 13 #[x3] w2 (lu λt5 w4=>(λAa=>(((A).size+(t5).size:Nat):Int)<=IntKind.i64.max/\(((Aa).size+(B).size:Nat):Int)<=IntKind.i64.max/\ab 14 #[p1,.string (Aa++B)] w4 (lu λt7 w6=>ab 14 #[p1,.string (ByteArray.mk #[108,111,97,100,32,48,32,48])] w6 (lu λt9 w8=>ab 14 #[p1,.string (ByteArray.mk #[108,111,97,100,32,49,32,48])] w8 (lu λt11 br=>ab 14 #[p1,.string (ByteArray.mk #[108,111,97,100,32,45,49,32,48])] br (lu λt13 bN=>ab 14 #[p1,.string (ByteArray.mk #[108,111,97,100,32,48,32,49])] bN (lu λt15 cp=>ab 14 #[p1,.string (ByteArray.mk #[108,111,97,100,32,48,32,45,49])] cp (lu λt17 bZ=>ab 24 #[p1] bZ (nH λp19 dA=>ab 23 #[p19] dA (yM λb21 eQ=>Br (!b21)
 (R C eQ)
 (R p1 eQ)))))))))) (A++t5)))))) (ByteArray.mk #[119,111,114,108,100,32]) (ByteArray.mk #[32,57,32,56]) (Value.pointer none)):ab 10 #[a0] w R:=
 cq bz func10 h
variable{R:eWp}{w:World}
def Wd(t:ByteArray):Prop:=bl t≠[]/\∀c∈bl t,c≠32
def acD{x y z:Int}{a b c:ByteArray}{r:List ByteArray}(ha:zX a=(x,true))(hb:zX b=(y,true))(hc:zX c=(z,true)):kI (a::b::c::r)=some ((x,y,z),r):=by unfold kI gz Da;simp only[ha,hb,hc,if_true]
def le_max{n:Nat}(h:n<=1000):((n:Nat):Int)<=IntKind.i64.max:=by
 have:IntKind.i64.max=9223372036854775807:=by decide
 omega
variable{R:eWp}{w:World}
def aa3{s t:ByteArray}(h:t∈cT s):t.size<=s.size:=by
 have ex:∀i j,(s.extract i j).size<=s.size:=λi j=>by rw[ByteArray.size_extract];omega
 rw[Cf]at h;rcases List.mem_append.1 h with h|h
 ·obtain⟨x,-,rfl⟩:=List.mem_map.1 h;exact ex _ _
 ·split at h
  ·rw[List.mem_singleton.1 h];exact ex _ _
  ·cases h
def XJ(s:ByteArray):∀i:Nat,(qU s i).2.length<=i
 |0=>ak _
 |i+1=>by
  have ih:=XJ s i
  show(nu s i (qU s i)).2.length<=i+1
  unfold nu
  split
  ·split
   ·simp;omega
   ·show(qU s i).2.length<=i+1
    omega
  ·show(qU s i).2.length<=i+1
   omega
def aa4(s:ByteArray):(cT s).length<=s.size+1:=by have h:=XJ s s.size;rw[Cf,cj];unfold iG.Gw;rw[aK];split<;>simp<;>omega
def aaQ{w:World}(h:w.ShapedOpen Tryz.prog):∃m,w.cell? ⟨0,0,none⟩=some (vI m):=
 cell_of_shapedOpen_int (t:=3) (zero:= #[ai]) h (by decide+kernel) (by kernel_rfl) rfl (by kernel_rfl) (by kernel_rfl) Tryz.underlying3
def ad6(w0:World)(A:List Nat)(sh:Nat)(M:Sm)(occ:Value)(L:lCs)(u:World):Prop:=
 Ext w0 u/\(∀i∈A,i<u.heap.size/\i≠sh)/\∃(g s o t:Nat)(F:Nat->Prop),EF F u g s o t M occ L/\FN u sh g/\¬F sh/\w0.heap.size<=sh/\∀i,F i->w0.heap.size<=i/\i∉A
abbrev KpA(A:List Nat)(u u':World):Prop:=∀i∈A,u'.heap[i]? =u.heap[i]?
section
variable{w0 u u':World}{A:List Nat}{sh:Nat}{M M':Sm}{occ occ':Value}{L L':lCs}
def ad6.ext(h:ad6 w0 A sh M occ L u)(x:Ext u u'):ad6 w0 A sh M occ L u'/\KpA A u u':=by obtain⟨h1,h0,g,s,o,t,F,h2,h3,h4,h5,h6⟩:=h;exact⟨⟨h1.tr x,λi hi=>⟨gK (h0 i hi).1 x.size,(h0 i hi).2⟩,g,s,o,t,F,h2.ext x,⟨h3.row.ext x⟩,h4,h5,h6⟩,λi hi=>x.heap (h0 i hi).1⟩
def ad7(w:World):ab 26 #[] w λe w'=>∃sh,e=Value.pointer (aB sh)/\ad6 w [] sh (FO 1 9 200000 16) PE OT w':=by refine(Gu w).mono ?_;rintro e w' ⟨sh,g,s,o,t,F,rfl,h1,h2,h3,h4,h5,h6⟩;exact⟨sh,rfl,h4,λi hi=>(by cases hi),g,s,o,t,F,h1,h2,h3,h6,λi hi=>⟨h5 i hi,iT⟩⟩
end
abbrev Lv:=lCs
abbrev Out:=ByteArray×Sm×Lv
abbrev kZ:ByteArray:=ByteArray.mk #[98,97,100]
structure Mc(k:Nat)(w:World)(F:Nat->Prop)(sh g s o t B ga:Nat)(M:Sm)(occ:Value)(L:Lv)(ws:List ByteArray):Prop where
 e:EF F w g s o t M occ L
 r:FN w sh g
 a:AG w B ga ws
 f:¬F ga
 n:sh≠ga
 i:Inv k M L
 t:∀u,Mod (λi=>F i\/i=ga) w u->lP u
 z:k<=1000
 q:¬F sh
def MR(k:Nat)(w:World)(ga:Nat)(F:Nat->Prop)(g s o t:Nat)(p:Option Out)(e:Ending)(u:World):Prop:=
 match p with
 |none=>e=Io/\Mod (λi=>i=ga) w u
 |some x=>e=Value.string x.1/\x.1.size<=1000000/\Inv (k+1) x.2.1 x.2.2/\∃v1 occ',Mod (λi=>i=ga) w v1/\dK F v1 g s o t x.2.1 occ' x.2.2 u
section
variable{k:Nat}{w w' v v' u:World}{F:Nat->Prop}{sh g s o t B ga:Nat}{M M':Sm}{occ occ':Value}{L L':Lv}{ws r:List ByteArray}{T:ByteArray}{e:Ending}{p:Option Out}
def Mc.ef(h:Mc k w F sh g s o t B ga M occ L ws)(m:Mod (λi=>i=ga) w w'):EF F w' g s o t M occ L:=h.e.same λi hi=>m.same i (h.e.lt hi) (λq=>h.f (q▸hi))
def Mc.go(h:Mc k w F sh g s o t B ga M occ L ws)(m:Mod (λi=>i=ga) w w')(a:AG w' B ga r):Mc k w' F sh g s o t B ga M occ L r:=
 ⟨h.ef m,⟨h.r.row.same (m.same sh h.r.row.lt h.n)⟩,a,h.f,h.n,h.i,λu m'=>h.t u ((m.mono λi _ hi=>.inr hi).trans m'),h.z,h.q⟩
def Mc.ext(h:Mc k w F sh g s o t B ga M occ L ws)(x:Ext w w'):Mc k w' F sh g s o t B ga M occ L ws:=h.go (Mod.aq x) (h.a.ext x)
def MR.bad(m:Mod (λi=>i=ga) w u):MR k w ga F g s o t none Io u:=⟨rfl,m⟩
def MR.TL(hT:T.size<=1000000)(hI:Inv (k+1) M' L')(m:Mod (λi=>i=ga) w v)(hr:dK F v g s o t M' occ' L' v')(x:Ext v' u):MR k w ga F g s o t (some (T,M',L')) (.returned (.string T)) u:=by obtain⟨F2,h2,t2⟩:=hr;exact⟨rfl,hT,hI,v,occ',m,F2,h2.ext x,t2.trans (aJ.aq x)⟩
def MR.same(h:Mc k w F sh g s o t B ga M occ L ws)(hT:T.size<=1000000)(m:Mod (λi=>i=ga) w v)(x:Ext v u):MR k w ga F g s o t (some (T,M,L)) (.returned (.string T)) u:=
 MR.TL hT h.i.up m ((h.ef m).res (Ext.bT v)) x
def LS(k:Nat)(w:World)(F:Nat->Prop)(sh:Nat)(M:Sm)(L:Lv)(u:World):Prop:=
 ∃g s o t occ F',EF F' u g s o t M occ L/\FN u sh g/\¬F' sh/\Mod (λi=>F i\/i=sh) w u/\(∀i,F' i->F i\/w.heap.size<=i)/\Inv k M L
def kH(k:Nat)(line:ByteArray)(M:Sm)(L:Lv)(x:Out):Prop:=
 ∀(w0 w:World)(F:Nat->Prop)(sh g s o t:Nat)(occ:Value),k<=1000->lP w0->Ext w0 w->(∀i,F i->w0.heap.size<=i)->w0.heap.size<=sh->EF F w g s o t M occ L->FN w sh g->¬F sh->Inv k M L->
  ab 14 #[sh,.string line] w λe u=>e=Value.string x.1/\x.1.size<=1000000/\LS (k+1) w F sh x.2.1 x.2.2 u
def LS.Kt{F':Nat->Prop}(h:SH w F u sh g s o t M occ L F')(hI:Inv k M L):LS k w F sh M L u:=
 ⟨g,s,o,t,occ,F',h.e,h.r,h.n,h.m.mono λi _ hi=>.inl hi,h.f,hI⟩
def MR.out{x0:Out}(h:EF F w g s o t M occ L)(hs:FN w sh g)(hF:¬F sh)(hI:Inv k M L)(xv:Ext w v)(hga:w.heap.size<ga)(hgv:ga<v.heap.size)(h0:x0=(kZ,M,L))(hr:MR k v ga F g s o t p e v'):
  v'.heap[w.heap.size]? =v.heap[w.heap.size]?/\((∃tx,e=Value.string tx/\(tx=(p.getD x0).1/\tx.size<=1000000/\∃occ' F',SH w F v' sh g s o t (p.getD x0).2.1 occ' (p.getD x0).2.2 F'/\¬F' w/\Inv (k+1) (p.getD x0).2.1 (p.getD x0).2.2))\/
   (e=Io/\(kZ=(p.getD x0).1/\kZ.size<=1000000/\∃occ' F',SH w F v' sh g s o t (p.getD x0).2.1 occ' (p.getD x0).2.2 F'/\¬F' w/\Inv (k+1) (p.getD x0).2.1 (p.getD x0).2.2))):=by
 subst h0;have hFga:¬F ga:=λq=>by have:=h.lt q;omega
 cases p with
 |none=>
  obtain⟨rfl,m⟩:=hr;have hv:EF F v' g s o t M occ L:=(h.ext xv).same λi hi=>m.same i (by have:=h.lt hi;omega) (λq=>hFga (q▸hi))
  obtain⟨F',hS,hn,hk⟩:=akY h hs hF xv hga hgv m (hv.res (Ext.bT _));exact⟨hk,.inr ⟨rfl,rfl,au,occ,F',hS,hn,hI.up⟩⟩
 |some x=>
  obtain⟨rfl,hT,hI',v1,occ',m,bq⟩:=hr;obtain⟨F',hS,hn,hk⟩:=akY h hs hF xv hga hgv m bq;exact⟨hk,.inl ⟨_,rfl,rfl,hT,occ',F',hS,hn,hI'⟩⟩
def W4{w0:World}{G:Nat->Prop}(hT:lP w0)(x:Ext w0 w)(m:Mod G w u)(hG:∀i,G i->w0.heap.size<=i):lP u:=vE hT (m.ext x hG)
def kH.uG{line c:ByteArray}(hl:line.size<=4294967296)(hw:cT line=c::r)(i f:Nat)(hi:uF[i]? =some c){fn:Func}{cd:Code}(hf:Tryz.prog.funcs[f]? =some fn)
  (hcall:∀{w F sh g s o t B ga occ},Mc k w F sh g s o t B ga M occ L r->ab f #[.pointer (aB sh),ga] w (MR k w ga F g s o t p))(hv:∀sh c1 c2 c3 c4 c5,(AF sh [c1,c2,c3,c4,c5])[i]? =some (kc f sh):=by intros;rfl)(hn:(fn.name== "runtime.NumGoroutine")=false:=by kernel_rfl) (hb:fn.body=some cd:=by rfl):
  kH k line M L (p.getD (kZ,M,L)):=by
 intro w0 w F sh g s o t occ hk hT hx hF0 hsh0 h hs hF hI;have lE:=hs.row.lt;refine(JR h hs line hl hw i f hi (hv sh) (j5 hf hn hb) (λtx u=>tx=(p.getD (kZ,M,L)).1/\tx.size<=1000000/\∃occ' F',SH w F u sh g s o t (p.getD (kZ,M,L)).2.1 occ' (p.getD (kZ,M,L)).2.2 F'/\¬F' w/\Inv (k+1) (p.getD (kZ,M,L)).2.1 (p.getD (kZ,M,L)).2.2) ?_ ?_).mono ?_
 ·rintro t' u u' ⟨rfl,hz,occ',F',hS,hn,hI'⟩ hm;exact⟨rfl,hz,occ',F',hS.put hn aa (ak _) hm,hn,hI'⟩
 ·intro v B ga xv DA hga;have hgl:=DA.lt;have hle:=DA.le;have hz:=hx.size;have hFga:¬F ga:=λq=>by have:=h.lt q;omega
  exact(hcall ⟨h.ext xv,⟨hs.row.ext xv⟩,DA,hFga,aa,hI,λu m=>W4 hT (hx.tr xv) m λi hi=>hi.elim (hF0 i) (λq=>by omega),hk,hF⟩).mono λe v' hr=>hr.out h hs hF hI xv hga aa rfl
 ·rintro e w' ⟨t',rfl,rfl,hz,occ',F',hS,-,hI'⟩;exact⟨rfl,hz,LS.Kt hS hI'⟩
def kH.tbl{line c:ByteArray}(hl:line.size<=4294967296)(hw:cT line=c::r)(j:Nat)(hj:j<5)(hi:uF[j+1]? =some c)(op:Po->Int×Sm)
  (hop:∀{w F g s o t occ},EF F w g s o t M occ L->Inv k M L->k<=1000->∀p:Po,(0<=(op p).1/\(op p).1<14)/\Inv (k+1) (op p).2 L/\bu Tryz.prog (oo (88+j) t) [.agg #[p.1,p.2]] w λe u=>e=vI (op p).1/\dK F w g s o t (op p).2 occ L u):
  kH k line M L ((match xC r with|some (p,[])=>some (iX (op p).1,(op p).2,L)|_=>none:Option Out).getD (kZ,M,L)):=by
 intro w0 w F sh g s o t occ hk hT hx hF0 hsh0 h hs hF hI;have lE:=hs.row.lt;generalize hq:(match xC r with|some (p,[])=>some (iX (op p).1,(op p).2,L)|_=>none:Option Out)=q;refine(qZ line hl h hs (λtx u=>tx=(q.getD (kZ,M,L)).1/\tx.size<=1000000/\∃occ' F',SH w F u sh g s o t (q.getD (kZ,M,L)).2.1 occ' (q.getD (kZ,M,L)).2.2 F'/\¬F' w/\Inv (k+1) (q.getD (kZ,M,L)).2.1 (q.getD (kZ,M,L)).2.2) ?_ ?_ ?_ ?_).mono ?_
 ·rintro t' u u' ⟨rfl,hz,occ',F',hS,hn,hI'⟩ hm;exact⟨rfl,hz,occ',F',hS.put hn aa (ak _) hm,hn,hI'⟩
 ·intro h1;rw[hw]at h1
  cases h1
 ·intro c' r' h1 h2;rw[hw]at h1
  cases h1
  exact absurd (aQ hi) h2
 ·intro c' r' i h1 hi' u B ga c1 c2 c3 c4 c5 xu DA hga r1 r2 r3 r4 r5 hcB v hv;rw[hw]at h1
  cases h1
  have hi1:i=j+1:=(List.getElem?_inj (i:=i) (j:=j+1) (cG.1 hi').1 l8).1 (hi'.trans hi.symm);subst hi1;obtain⟨ck,hcv,TC,hcb⟩:∃ck,aeo ck=v/\Row u ck [oo (88+j) t] 157/\B<=ck:=by
   have:j=0\/j=1\/j=2\/j=3\/j=4:=by omega
   rcases this with rfl|rfl|rfl|rfl|rfl
   ·exact⟨c1,by simpa[AF]using hv,r1,hcB.1⟩
   ·exact⟨c2,by simpa[AF]using hv,r2,hcB.2.1⟩
   ·exact⟨c3,by simpa[AF]using hv,r3,hcB.2.2.1⟩
   ·exact⟨c4,by simpa[AF]using hv,r4,hcB.2.2.2.1⟩
   ·exact⟨c5,by simpa[AF]using hv,r5,hcB.2.2.2.2⟩
  subst hcv;refine⟨155,#[],#[.pointer (aB ck)],⟨rfl,λargs w=>j5 Tryz.func155 (by kernel_rfl) rfl args w⟩,?_⟩;have hgl:=DA.lt;have hle:=DA.le;have hFga:¬F ga:=λq=>by have:=h.lt q;omega
  show ab 155 #[ga,.pointer (aB ck)] u _;refine Di DA TC aa rfl _ ?_ ?_
  ·intro lp u' hm;have e0:q=none:=by
    rw[<-hq];split
    ·rename_i p h1;exact absurd h1 (lp p)
    ·rfl
   rw[e0];exact MR.out (k:=k) (p:=none) h hs hF hI xu hga aa rfl (MR.bad hm)
  ·intro p r'' hp' hr'' u' hm fK;subst hr'';rw[hp']at hq;simp only at hq;rw[<-hq];have h1:EF F u' g s o t M occ L:=(h.ext xu).same λi hi=>hm.same i (by have:=h.lt hi;have:=xu.size;omega) (λq=>hFga (q▸hi))
   obtain⟨aAC,hI',aAD⟩:=hop h1 hI hk p;refine bJ aAD ?_;rintro e u2 ⟨rfl,hr⟩;obtain⟨F2,h2,ht⟩:=hr;have yA:=ht.mod;have hwu:w.heap.size<=u.heap.size:=xu.size;have nF:∀i,w.heap.size<=i->¬F i:=λi hi q=>by have:=h.lt q;omega
   refine⟨_,iX (op p).1,rfl,λi hi hi2=>yA.same i hi2 (nF i aa),yA.size,λv _=>pZ aAC v,fi _,?_⟩;intro v hv;exact MR.out (k:=k) (p:=some (iX (op p).1,(op p).2,L)) h hs hF hI xu hga aa rfl (MR.TL (fi _) hI' hm ⟨F2,h2,ht⟩ hv)
 ·rintro e w' ⟨t',rfl,rfl,hz,occ',F',hS,-,hI'⟩;exact⟨rfl,hz,LS.Kt hS hI'⟩
end
def EM{a b:List Int}(ha:mJ a)(hb:mJ b):mJ (a++b):=λx hx=>(dp.1 hx).elim (ha x) (hb x)
def WZ(n:Int):mJ (j3 n):=λx hx=>by
 obtain⟨q,-,rfl⟩:=bc.1 hx
 exact ac4 n q
def FE{α:Type}{f:α->List Int}{l:List α}(h:∀x∈l,mJ (f x)):mJ (l.map f).flatten:=λx hx=>by
 obtain⟨r,hr,hx⟩:=List.mem_flatten.1 hx
 obtain⟨y,hy,rfl⟩:=bc.1 hr
 exact h y hy x hx
def Pr(l:List Int):mJ (qt l):=FE λx _=>WZ x
def ahP(n m:Int):mJ [n%256,m%256]:=λx hx=>by
 simp at hx
 rcases hx with rfl|rfl<;>omega
def W3(M:Sm)(L:lCs):mJ (dy M L):=by
 unfold dy fZ dT ij;refine EM (EM (EM (WZ _) λx hx=>?_) (FE λx hx=>?_)) (EM (ahP _ _) (FE λx _=>Pr _))
 ·simp at hx;omega
 ·obtain⟨i,rfl,hi,y,hy⟩:=ux hx;unfold FG BD;rw[hy];intro z hz;rcases cu.1 hz with rfl|hz
  ·omega
  ·rcases dp.1 hz with hz|hz
   ·exact Pr _ z hz
   ·have:z=stB y.1.fG:=by simpa using hz
    rw[this];unfold stB;split<;>decide
def ahQ(M:Sm)(L:lCs):(dy M L).length<=50000:=by have h1:=rR L (bh L);have h2:=uy L;have h3:=Lz (M.q.l.take 2000);rw[cS]at h3;unfold dy fZ ij;rw[cj,cj,cj,cj,h3,uz];simp only[cL,mV];omega
section
variable{F F':Nat->Prop}{w w':World}{g s o t m:Nat}{M M':Sm}{occ:Value}{L:lCs}
def DE{ch:List Cg}{T:Tb}{aj limit:Int}(h:WF F w o t aj limit T ch)(hW:T.1.l.length<=900000):
  ab 120 #[t] w λe w'=>e=Value.tuple #[vI (gT T.1 T.2).2.1,vI (gT T.1 T.2).2.2]/\Pf F w o t aj limit (gT T.1 T.2).1 ch w':=by
 obtain⟨F1,hT,-,bq⟩:=h.table;refine(DF hT hW).bf λw' hr=>?_
 exact⟨rfl,bq hr⟩
def Ps{ch:List Cg}{T:Tb}{aj limit:Int}(h:WF F w o t aj limit T ch)(hW:T.1.l.length<=1000000)(sl:Sl)(b:List Int)(hs:jd w sl b)(hb:mJ b)(hn:b.length<=1099511627776):
  ab 182 #[t,sl] w λe w'=>e=vI (tJ T.1 0 b).2/\Pf F w o t aj limit ((tJ T.1 0 b).1,T.2) ch w':=by
 obtain⟨F1,hT,-,bq⟩:=h.table;refine(Pu hT hW sl b hs hb hn).bf λw' hr=>?_
 exact⟨rfl,bq hr⟩
abbrev akw(M:Sm)(L:lCs):Sm:={M with T:=((tJ M.T.1 0 (dy M L)).1,M.T.2)}
def YS(h:EF F w g s o t M occ L)(hW:M.T.1.l.length<=1000000):ab 121 #[g] w λe w'=>e=vI (tJ M.T.1 0 (dy M L)).2/\dK F w g s o t (akw M L) occ L w':=by apply xy.vc;have xd:=Ext.bT w;have hd:=h;obtain⟨Fs,hs,pG,-,-⟩:=hd.EN;obtain⟨Fw,hW0,-,-⟩:=hs.world;refine⟨_,pG,(cZ hs).bf λw1 Tc=>?_⟩;subst Tc;refine⟨_,rfl,(gx hW0).bf λw2 yE=>?_⟩;subst yE;refine⟨_,rfl,(Px hd).mono ?_⟩;rintro e w3 ⟨sl,rfl,ho,x3⟩;obtain⟨Fw3,hW3,bq⟩:=(hd.ext x3).world;have hl:=ahQ M L;refine⟨sl,rfl,(Ps hW3 hW sl (dy M L) (ho.rd au) (W3 M L) aa).bf λw4 hr=>?_⟩;exact⟨_,rfl,rfl,dK.aq (xd.tr x3) (bq hr)⟩
end
def ks(ws:List ByteArray):Option Unit:=if ws=[]then some ()else none
def adV(b:Bool):Option Unit:=if b then some ()else none
def ams{ws r:List ByteArray}{n:Int}(h:gz ws=some (n,r)): -1000000000000000<n/\n<1000000000000000:=by
 unfold gz at h;split at h
 ·cases h
 ·rename_i t r' _;split at h
  ·rename_i hb;have e:(zX t).1=n:=by cases h;rfl
   rw[<-e];by_cases c:(OU (bl t)).length<1\/15<(OU (bl t)).length
   ·rw[zY c];decide
   ·cases hd:uR (OU (bl t))with
    |none=>rw[Xt hd];decide
    |some x=>
     obtain⟨h1,h2⟩:=EU _ rfl hd;have h3:(10:Int)^(OU (bl t)).length<=10^15:=by have:(10:Nat)^(OU (bl t)).length<=10^15:=Nat.pow_le_pow_right au aa;exact_mod_cast this
     rw[adW c hd];simp only;split<;>omega
  ·cases h
def se{ws r:List ByteArray}{n:Int}(h:gz ws=some (n,r)):cH n:=by have:=ams h;unfold cH;omega
def Xi{ws r:List ByteArray}{c:Ce}(h:kI ws=some (c,r)):pQ c:=by
 unfold kI at h;split at h
 ·cases h
 ·rename_i x r1 h1;split at h
  ·cases h
  ·rename_i y r2 h2;split at h
   ·cases h
   ·rename_i z r3 h3
    cases h
    exact⟨se h1,se h2,se h3⟩
structure At(k:Nat)(w0 w:World)(F:Nat->Prop)(sh g s o t B ga:Nat)(M:Sm)(occ:Value)(L:Lv)(ws:List ByteArray)(R:eWp)(p:Option Out):Prop where
 c:Mc k w F sh g s o t B ga M occ L ws
 m:Mod (λi=>i=ga) w0 w
 r:R=MR k w0 ga F g s o t p
section
variable{k:Nat}{w0 w u u':World}{F:Nat->Prop}{sh g s o t B ga:Nat}{M M':Sm}{occ occ':Value}{L L':Lv}{ws:List ByteArray}{R:eWp}{p:Option Out}{T:ByteArray}
def Mc.at(h:Mc k w F sh g s o t B ga M occ L ws)(p:Option Out):At k w w F sh g s o t B ga M occ L ws (MR k w ga F g s o t p) p:=⟨h,Mod.refl _ _,rfl⟩
def At.ext(h:At k w0 w F sh g s o t B ga M occ L ws R p)(x:Ext w u):At k w0 u F sh g s o t B ga M occ L ws R p:=⟨h.c.ext x,h.m.trans (Mod.aq x),h.r⟩
def At.Io(h:At k w0 w F sh g s o t B ga M occ L ws R none)(m:Mod (λi=>i=ga) w u):R Io u:=by rw[h.r];exact MR.bad (h.m.trans m)
def At.TL(h:At k w0 w F sh g s o t B ga M occ L ws R (some (T,M',L')))(hT:T.size<=1000000)(hI:Inv (k+1) M' L')(hr:dK F w g s o t M' occ' L' u)(x:Ext u u'):R (.returned (.string T)) u':=by rw[h.r];exact MR.TL hT hI h.m hr x
def At.same(h:At k w0 w F sh g s o t B ga M occ L ws R (some (T,M,L)))(hT:T.size<=1000000)(x:Ext w u):R (.returned (.string T)) u:=by rw[h.r];exact MR.TL hT h.c.i.up h.m (h.c.e.res (Ext.bT w)) x
def At.ld(h:At k w0 w F sh g s o t B ga M occ L ws R p):Vc.ld w (ae (aB sh) 0)=some (.pointer (aB g)):=by rw[aF,h.c.r.row.ld];rfl
def At.aV(h:At k w0 w F sh g s o t B ga M occ L ws R p)(m:Mod (λi=>i=ga) w u){b:Nat}(hb:B<=b)(hl:b<w):u.heap[b]? =w.heap[b]? :=m.same b hl (by have:=h.c.a.lt;omega)
def At.PS(h:At k w0 w F sh g s o t B ga M occ L ws R p)(hr:dK F w g s o t M' occ' L' u){b:Nat}(hb:B<=b)(hl:b<w)(hf:¬F b):u.heap[b]? =w.heap[b]? :=by obtain⟨F',-,ht⟩:=hr;exact ht.mod.same b hl hf
def At.le(h:At k w0 w F sh g s o t B ga M occ L ws R p):B<=w:=h.c.a.le
def At.go{q:Option Out}{r:List ByteArray}(h:At k w0 w F sh g s o t B ga M occ L ws R p)(m:Mod (λi=>i=ga) w u)(a:AG u B ga r)(e:p=q):At k w0 u F sh g s o t B ga M occ L r R q:=⟨h.c.go m a,h.m.trans m,e▸h.r⟩
def At.rd{α:Type}{q:α×List ByteArray->Option Out}{a:Option (α×List ByteArray)}{ret:α->Value}{e:Ending}{K:α->Prop}(h:At k w0 w F sh g s o t B ga M occ L ws R (a.bind q))(hp:PR w B ga a ret e u)
  (hy:∀x r,a=some (x,r)->Mod (λi=>i=ga) w u->At k w0 u F sh g s o t B ga M occ L r R (q (x,r))->K x):(e=Go.Proofs.YtjcnjlaelhdjeaaGreatDoor.Io/\R e u)\/∃x,e=(ret x)/\K x:=by
 obtain⟨m,hp⟩:=hp
 cases a with
 |none=>exact .inl ⟨hp,by rw[hp];exact At.Io (show At k w0 w F sh g s o t B ga M occ L ws R none from h) m⟩
 |some y=>
  obtain⟨x,r⟩:=y;exact .inr ⟨x,hp.1,hy x r rfl m (h.go m hp.2 rfl)⟩
def At.num{K:Int->wPp}{q:Int×List ByteArray->Option Out}(h:At k w0 w F sh g s o t B ga M occ L ws R ((gz ws).bind q))(hy:∀x r u,gz ws=some (x,r)->Mod (λi=>i=ga) w u->At k w0 u F sh g s o t B ga M occ L r R (q (x,r))->K x u):
  ab 152 #[ga] w λe u=>IQ R e u (∃x:Int,e=vI x/\K x u):=by
 refine(k8 h.c.a).mono λe u hp=>?_
 rcases h.rd hp (K:=λx=>K x u) (λx r h1 h2 h3=>hy x r u h1 h2 h3)with⟨rfl,q⟩|⟨x,rfl,q⟩
 ·exact q
 ·exact⟨x,rfl,q⟩
def At.aX{K:Int->wPp}{q:Int×List ByteArray->Option Out}(h:At k w0 w F sh g s o t B ga M occ L ws R ((ZF ws).bind q))(hy:∀x r u,ZF ws=some (x,r)->Mod (λi=>i=ga) w u->At k w0 u F sh g s o t B ga M occ L r R (q (x,r))->K x u):
  ab 168 #[ga] w λe u=>IQ R e u (∃x:Int,e=vI x/\K x u):=by
 refine(adX h.c.a).mono λe u hp=>?_
 rcases h.rd hp (K:=λx=>K x u) (λx r h1 h2 h3=>hy x r u h1 h2 h3)with⟨rfl,q⟩|⟨x,rfl,q⟩
 ·exact q
 ·exact⟨x,rfl,q⟩
def At.word{K:ByteArray->wPp}{q:ByteArray×List ByteArray->Option Out}(h:At k w0 w F sh g s o t B ga M occ L ws R ((Da ws).bind q))(hy:∀x r u,Da ws=some (x,r)->Mod (λi=>i=ga) w u->At k w0 u F sh g s o t B ga M occ L r R (q (x,r))->K x u):
  ab 53 #[ga] w λe u=>IQ R e u (∃x:ByteArray,e=Value.string x/\K x u):=by
 refine(vH h.c.a).mono λe u hp=>?_
 rcases h.rd hp (K:=λx=>K x u) (λx r h1 h2 h3=>hy x r u h1 h2 h3)with⟨rfl,q⟩|⟨x,rfl,q⟩
 ·exact q
 ·exact⟨x,rfl,q⟩
def At.pos{K:Int->Int->wPp}{q:(Int×Int)×List ByteArray->Option Out}(h:At k w0 w F sh g s o t B ga M occ L ws R ((xC ws).bind q))(hy:∀x z r u,xC ws=some ((x,z),r)->Mod (λi=>i=ga) w u->At k w0 u F sh g s o t B ga M occ L r R (q ((x,z),r))->K x z u):
  ab 156 #[ga] w λe u=>IQ R e u (∃x z:Int,e=Value.agg #[vI x,vI z]/\K x z u):=by
 refine(QD h.c.a).mono λe u hp=>?_
 rcases h.rd hp (K:=λx=>K x.1 x.2 u) (λx r h1 h2 h3=>hy x.1 x.2 r u h1 h2 h3)with⟨rfl,q⟩|⟨x,rfl,q⟩
 ·exact q
 ·exact⟨x.1,x.2,rfl,q⟩
def At.vec{K:Int->Int->Int->wPp}{q:(Int×Int×Int)×List ByteArray->Option Out}(h:At k w0 w F sh g s o t B ga M occ L ws R ((kI ws).bind q))(hy:∀x y z r u,kI ws=some ((x,y,z),r)->Mod (λi=>i=ga) w u->At k w0 u F sh g s o t B ga M occ L r R (q ((x,y,z),r))->K x y z u):
  ab 166 #[ga] w λe u=>IQ R e u (∃x y z:Int,e=Value.agg #[vI x,vI y,vI z]/\K x y z u):=by
 refine(QE h.c.a).mono λe u hp=>?_
 rcases h.rd hp (K:=λx=>K x.1 x.2.1 x.2.2 u) (λx r h1 h2 h3=>hy x.1 x.2.1 x.2.2 r u h1 h2 h3)with⟨rfl,q⟩|⟨x,rfl,q⟩
 ·exact q
 ·exact⟨x.1,x.2.1,x.2.2,rfl,q⟩
def At.cell{K:Int->Int->Int->wPp}{q:(Int×Int×Int)×List ByteArray->Option Out}(h:At k w0 w F sh g s o t B ga M occ L ws R ((kI ws).bind q))(hy:∀x y z r u,kI ws=some ((x,y,z),r)->Mod (λi=>i=ga) w u->At k w0 u F sh g s o t B ga M occ L r R (q ((x,y,z),r))->K x y z u):
  ab 169 #[ga] w λe u=>IQ R e u (∃x y z:Int,e=Value.agg #[vI x,vI y,vI z]/\K x y z u):=by
 refine(Kk h.c.a).mono λe u hp=>?_
 rcases h.rd hp (K:=λx=>K x.1 x.2.1 x.2.2 u) (λx r h1 h2 h3=>hy x.1 x.2.1 x.2.2 r u h1 h2 h3)with⟨rfl,q⟩|⟨x,rfl,q⟩
 ·exact q
 ·exact⟨x.1,x.2.1,x.2.2,rfl,q⟩
def At.fin{K:wPp}{q:Unit->Option Out}(h:At k w0 w F sh g s o t B ga M occ L ws R ((ks ws).bind q))(hy:ws=[]->At k w0 w F sh g s o t B ga M occ L [] R (q ())->K w):
  ab 153 #[ga] w λe u=>IQ R e u (e=pz/\K u):=by
 refine(qW h.c.a).mono ?_;rintro e u ⟨e0,he⟩;rw[e0];by_cases hr:ws=[]
 ·subst hr;rw[if_pos rfl]at he;subst he;exact⟨rfl,hy rfl ⟨h.c,h.m,h.r⟩⟩
 ·rw[if_neg hr]at he;subst he;have e1:(ks ws).bind q=none:=by unfold ks;rw[if_neg hr];rfl
  rw[e1]at h;exact h.Io (Mod.refl _ _)
def At.amt{K:wPp}{q:Unit->Option Out}{b b':Bool}(h:At k w0 w F sh g s o t B ga M occ L ws R ((adV b').bind q))(hb:b=b')(hy:b=true->At k w0 w F sh g s o t B ga M occ L ws R (q ())->K w):
  ab 54 #[b] w λe u=>IQ R e u (e=pz/\K u):=by
 subst hb;refine(mj b w).mono ?_;rintro e u ⟨he,e0⟩;rw[e0]
 cases b with
 |true=>
  rw[if_pos rfl]at he;subst he;exact⟨rfl,hy rfl ⟨h.c,h.m,h.r⟩⟩
 |false=>
  rw[if_neg au]at he;subst he;exact At.Io (show At k w0 w F sh g s o t B ga M occ L ws R none from h) (Mod.refl _ _)
end
section
variable{w0 w:World}{gb gf gs gn:Nat}{s:Sl}{l:List Int}
def An(n:Int):Prop:= -140737488355328<=n/\n<140737488355328
end
abbrev ZK(y:cQ):cQ:=(y.1,(0,0,false))
def wF(L:lCs)(done:List Int):lCs:=(List.range 16).map λi:Nat=>if(i:Int)∈done then(cE L i).map ZK else none
section
variable{w0 w w':World}{gb gq gf gs gn gr:Nat}{now:Int}{av:List (Option Nat)}{P:lCs}{sl:Sl}{l l':List Int}
end
section
variable{w0 w w':World}{gb gq gf gs gn gr:Nat}{now:Int}{av:List (Option Nat)}{P:lCs}{sl:Sl}{l l':List Int}{R:eWp}
end
section
variable{w0 w w':World}{gb gq gf gs gn gr:Nat}{now:Int}{av:List (Option Nat)}{P:lCs}{sl:Sl}{l l':List Int}{R:eWp}
end
def okW(l:List dS.It):Prop:=∀x∈l,An x.1/\(-2147483648<=x.2.1/\x.2.1<=2147483648)/\(-2147483648<=x.2.2.1/\x.2.2.1<=2147483648)/\-2147483648<=x.2.2.2/\x.2.2.2<=2147483648
section
variable{F:Nat->Prop}{w:World}{g s o t:Nat}{M M':Sm}{occ:Value}{L L0:lCs}
end
section
variable{F:Nat->Prop}{w:World}{g s o t:Nat}{M M':Sm}{occ:Value}{L L0:lCs}
end
end Go.Proofs.YtjcnjlaelhdjeaaGreatDoor
