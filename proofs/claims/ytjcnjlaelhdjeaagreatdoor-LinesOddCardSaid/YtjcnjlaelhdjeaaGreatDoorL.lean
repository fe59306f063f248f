import Derived.Test.YtjcnjlaelhdjeaaGreatDoorJ
import Derived.Test.YtjcnjlaelhdjeaaGreatDoorD
import Derived.Test.YtjcnjlaelhdjeaaGreatDoorK
import Derived.Test.YtjcnjlaelhdjeaaGreatDoorI
import Derived.Tactics
import Derived.Tactics2
import Derived.Defers
import Derived.Recover
import Derived.Laws.Pointers
import Derived.Test.YtjcnjlaelhdjeaaGreatDoorG
import Derived.Shelf.Strings.Builder1
import Derived.Test.YtjcnjlaelhdjeaaGreatDoorH
import Derived.Test.YtjcnjlaelhdjeaaGreatDoorE
import Derived.Shelf.Vars
set_option linter.all false
namespace Go.Proofs.YtjcnjlaelhdjeaaGreatDoor
open Go Go.Vc Go.RowKit Go.Proofs Go.iG
set_option maxRecDepth 100000
set_option maxHeartbeats 8000000
def R4(c:Int)(w:au):kh 65 #[.int .i32 c] w (eL (c==32)):=by apply Jf.B;exact⟨rfl,rfl⟩
def j5{f:bH}{fn:Func}{c:Code}(hf:ka5.funcs[f]? =some fn)(hname:(fn.name== "runtime.NumGoroutine")=false) (hb:fn.body=some c) (args:ae) (w:au):(callFunc f args).run ka5 w=.ok (.enter f args) w:=by
 have h1:fn.name≠ "runtime.NumGoroutine":=by simpa using hname
 simp[callFunc,hf,h1,hb]
def HH(s:aq)(w:au)(hs:s.size<=4294967296):Y 31 #[.string s] w λe w'=>∃sl:H,e=sl/\RdK w' sl 1 ((cT s).map sv)/\sl.n<=sl.c/\(∀i,sl.D=some i->w<=i/\i<w')/\Ext w w':=by
 apply Q5.B;refine(Tryz.strings_FieldsFunc_grows 65 #[] (λargs w=>j5 Tryz.func65 (by kernel_rfl) rfl args w) U' s w hs ?_).mono ?_
 ·intro W x hx hb;refine(R4 x W).V ?_;refine⟨?_,Below.refl _ _⟩;have:(((x:Nat):Int)==32)=U' x:=by unfold U';rw[Bool.eq_iff_iff,beq_iff_eq,beq_iff_eq];omega
  rw[this]
 ·rintro _ w' ⟨A,rfl,hA,lF,hb⟩;have hl:A<w':=by
   obtain⟨-,h⟩:=lF;rcases h with⟨h,-⟩|⟨g,cap,cur,h,-,hh,-⟩
   ·cases h
   ·cases h
    exact(oQ.1 hh).1
  refine⟨⟨O A,_,_⟩,rfl,⟨O A,_,_⟩,rfl,⟨by simp[cT],λr hr=>?_,λi r hi j v hj=>?_⟩,ak _,λi hi=>?_,hb⟩
  ·obtain⟨t,-,rfl⟩:=bc.1 hr;rfl
  ·rw[aW,wM]at hi;obtain⟨t,ht,rfl⟩:=hi;have hj0:j=0:=by
    cases j with
    |zero=>rfl
    |succ j=>simp[sv]at hj
   subst hj0
   cases hj
   have fK:=(cG.1 ht).1;show ld w' (N (O A) (i*1+0))=_;rw[aF];show w'.cell? ⟨A,0+(i*1+0),none⟩=_;rw[show 0+(i*1+0)=i by omega,lF.cellAt i (by unfold cT at fK;omega),aW];show Option.map _ ((cT s)[i]?)=_;rw[ht];rfl
  ·cases hi
   exact⟨hA,hl⟩
abbrev Io:Ending:=.panicked [{v:=.iface 85 (.string ⟨#[98,97,100]⟩),recovered:=false}]
def mj(b:aX)(w:au):Y 54 #[b] w λe w'=>(if b then e=pz else e=Io)/\w'=w:=by
 apply Vh.B
 cases b with
 |true=>exact Z.mk (λh=>by cases h) (λ_=>⟨rfl,rfl⟩)
 |false=>exact Z.mk (λ_=>⟨rfl,rfl⟩) (λh=>by cases h)
structure AG(w:au)(B g:Nat)(ws:aa):Prop where
 lt:g<B
 le:B<=w
 ex:∃sl:H,Row w g [sl] 84/\RdK w sl 1 (ws.map sv)/\sl.n<=sl.c/\∀i,sl.D=some i->i<B/\i≠g
section
variable{w w':au}{B g:Nat}{ws:aa}(h:AG w B g ws)
def AG.aV(hl:B<=w')(hk:∀i,i<B->w'.heap[i]? =w.heap[i]?):AG w' B g ws:=by have⟨sl,h1,h2,h3,h4⟩:=h.ex;exact⟨h.lt,hl,sl,(hk g h.lt).trans h1,h2.same λb hb=>hk b (h4 b hb).1,h3,h4⟩
def AG.ext(x:Ext w w'):AG w' B g ws:=
 h.aV (cV h.le x.size) λi hi=>x.heap (gK hi h.le)
def PR{α:Type}(w:au)(B g:Nat)(p:Option (α×aa))(ret:α->aC)(e:Ending)(w':au):Prop:=
 Mod (λi=>i=g) w w'/\match p with|none=>e=Io|some (x,r)=>e=(ret x)/\AG w' B g r
def Da:aa->Option (aq×aa)| []=>none|t::r=>some (t,r)
def gz(ws:aa):Option (Int×aa):=match Da ws with|none=>none|some (t,r)=>if(zX t).2 then some ((zX t).1,r)else none
def vH:Y 53 #[g] w λe w'=>PR w B g (Da ws) (.string ·) e w':=by
 have⟨sl,h1,h2,h3,h4⟩:=h.ex;have hn:sl.n=ws.length:=by rw[h2.n,aK]
 apply Eb.B;have l0:ld w (N (O g) 0)=some (.slice sl.a sl.n sl.c):=by rw[aF,h1.ld];rfl
 refine⟨sl,l0,(mj _ w).mono ?_⟩;rintro e w1 ⟨he,rfl⟩
 cases ws with
 |nil=>
  have:(decide (((sl.n:Nat):Int)>0))=false:=by rw[hn];rfl
  rw[this]at he;simp only[Bool.false_eq_true,if_false]at he;subst he;exact⟨Mod.refl _ _,rfl⟩
 |cons t r=>
  have hn1:sl.n=r.length+1:=hn;have:(decide (((sl.n:Nat):Int)>0))=true:=decide_eq_true U;rw[this]at he;simp only[if_true]at he;subst he;have hl:ld w1 (N sl.a ((0:Int).toNat*1))=some (.string t):=h2.rd 0 (sv t) rfl 0 _ rfl;have gm:bB w1 (N (O g) 0) [.slice (aE sl.a ((1:Int).toNat) (sl.c) 1) (sl.n-(1:Int).toNat) (sl.c-(1:Int).toNat)]=w1.setRow g #[.slice (aE sl.a ((1:Int).toNat) (sl.c) 1) (sl.n-(1:Int).toNat) (sl.c-(1:Int).toNat)]:=by rw[aF];exact h1.bB (o:=0) bo (λu hu=>a0Q)
  refine⟨rfl,sl,l0,h2.jX X U U,t,hl,sl,l0,X,U,⟨rfl,by rw[aF];exact h1.wr (o:=0) bo⟩,?_⟩;intro w5 e5;rw[gm]at e5;have hm:Mod (λi=>i=g) w1 w5:=by rw[e5];exact⟨rfl,rfl,rfl,bo,λi _ hi=>setRow_other _ _ _ _ hi⟩
  have hb:∀i,(aE sl.a ((1:Int).toNat) (sl.c) 1).map (·.block)=some i->i<B/\i≠g:=by
   intro i hi;apply h4 i;unfold aE at hi;split at hi
   ·exact hi
   ·unfold H.D
    cases ha:sl.a with
    |none=>rw[ha]at hi;cases hi
    |some a=>rw[ha]at hi;exact hi
  refine⟨hm,rfl,h.lt,cV h.le hm.size,⟨aE sl.a ((1:Int).toNat) (sl.c) 1,sl.n-(1:Int).toNat,sl.c-(1:Int).toNat⟩,by rw[e5];exact h1.set _,?_,by show sl.n-1<=sl.c-1;omega,hb⟩;have hd:=h2.rest (l:=1) (m:=sl.c) (n':=sl.n-(1:Int).toNat) (c':=sl.c-(1:Int).toNat) (by rw[aK,<-hn];rfl) (by rw[aK,<-hn];omega);refine(hd.same λb hq=>hm.same b ?_ (hb b hq).2);exact gK (hb b hq).1 h.le
def k8:Y 152 #[g] w λe w'=>PR w B g (gz ws) (.int .i64 ·) e w':=by
 apply Hf.B;refine(vH h).mono ?_;rintro e w0 ⟨m0,hp⟩;unfold gz
 cases hw:Da ws with
 |none=>
  rw[hw]at hp;subst hp;exact⟨m0,rfl⟩
 |some x=>
  have⟨t,r⟩:=x;rw[hw]at hp;obtain⟨rfl,ha⟩:=hp;refine⟨t,rfl,(R5 t w0).F λw2 x2=>?_⟩;refine⟨_,_,rfl,(mj _ w2).mono ?_⟩;rintro e w5 ⟨he,rfl⟩;have m5:Mod (λi=>i=g) w w5:=m0.trans (Mod.P x2);simp only
  cases hb:(zX t).2 with
  |true=>
   rw[hb]at he;simp only[if_true]at he;subst he;exact⟨rfl,m5,rfl,ha.ext x2⟩
  |false=>
   rw[hb]at he;simp only[Bool.false_eq_true,if_false]at he;subst he;exact⟨m5,rfl⟩
def qW:Y 153 #[g] w λe w'=>w'=w/\if ws=[]then e=pz else e=Io:=by
 have⟨sl,h1,h2,h3,h4⟩:=h.ex;have hn:sl.n=ws.length:=by rw[h2.n,aK]
 apply Hg.B;have l0:ld w (N (O g) 0)=some (.slice sl.a sl.n sl.c):=by rw[aF,h1.ld];rfl
 refine⟨sl,l0,(mj _ w).mono ?_⟩;rintro e w1 ⟨he,rfl⟩
 cases ws with
 |nil=>
  have:((((sl.n:Nat):Int):Int)==0)=true:=by rw[hn];rfl
  rw[this]at he;simp only[if_true]at he;subst he;exact⟨rfl,rfl,rfl⟩
 |cons t r=>
  have hn1:sl.n=r.length+1:=hn;have:((((sl.n:Nat):Int):Int)==0)=false:=by simp;omega
  rw[this]at he;simp only[Bool.false_eq_true,if_false]at he;subst he;exact⟨rfl,by rw[if_neg bo]⟩
end
def iu(w:au)(k:Nat)(c:ae):Mod (λi=>i=k) w (w.setRow k c):=⟨rfl,rfl,rfl,bo,λi _ hi=>setRow_other _ _ _ _ hi⟩
def xC(ws:aa):Option ((Int×Int)×aa):=match gz ws with|none=>none|some (x,r)=>match gz r with|none=>none|some (z,r')=>some ((x,z),r')
def kI(ws:aa):Option ((Int×Int×Int)×aa):=match gz ws with|none=>none|some (x,r)=>match gz r with|none=>none|some (y,r')=>match gz r' with|none=>none|some (z,r'')=>some ((x,y,z),r'')
section
variable{w:au}{B g:Nat}{ws:aa}(h:AG w B g ws)
def QD:Y 156 #[g] w λe w'=>PR w B g (xC ws) (λp=>.agg #[S p.1,S p.2]) e w':=by
 apply Hh.B;intro w0 e0;have x0:Ext w w0:=a0i
 have hs:=fD e0;have hgl:g<w:=gK h.lt h.le;have m0:Mod (λi=>i=g) w w0:=Mod.P x0;refine(k8 (h.ext x0)).mono ?_;rintro e w1 ⟨m1,hp⟩;unfold xC
 cases hw:gz ws with
 |none=>rw[hw]at hp;subst hp;exact⟨m0.trans m1,rfl⟩
 |some x=>
  have⟨x,r⟩:=x;rw[hw]at hp;obtain⟨rfl,ha⟩:=hp;refine⟨x,rfl,m1.same _ U U,(k8 ha).mono ?_⟩;rintro e w3 ⟨m3,hp⟩;simp only
  cases yE:gz r with
  |none=>rw[yE]at hp;subst hp;exact⟨(m0.trans m1).trans m3,rfl⟩
  |some z=>
   have⟨z,r'⟩:=z;rw[yE]at hp;obtain⟨rfl,Ou⟩:=hp;refine⟨z,rfl,m3.same _ (a1N m1.size) U,?_⟩;intro w5 e5;have m5:=iu w3 w #[x,z];rw[<-e5]at m5;have hB:=h.le;have hle:=Ou.le;exact⟨((m0.trans m1).trans m3).A m5 (λi hi=>.inr U),rfl,Ou.aV (cV hle m5.size) λi hi=>m5.same i U U⟩
def QE:Y 166 #[g] w λe w'=>PR w B g (kI ws) (λp=>.agg #[S p.1,S p.2.1,S p.2.2]) e w':=by
 apply Hj.B;intro w0 e0;have x0:Ext w w0:=a0i
 have hs:=fD e0;have hgl:g<w:=gK h.lt h.le;have m0:Mod (λi=>i=g) w w0:=Mod.P x0;refine(k8 (h.ext x0)).mono ?_;rintro e w1 ⟨m1,hp⟩;unfold kI
 cases hw:gz ws with
 |none=>rw[hw]at hp;subst hp;exact⟨m0.trans m1,rfl⟩
 |some x=>
  have⟨x,r⟩:=x;rw[hw]at hp;obtain⟨rfl,ha⟩:=hp;refine⟨x,rfl,m1.same _ U U,(k8 ha).mono ?_⟩;rintro e w3 ⟨m3,hp⟩;simp only
  cases yE:gz r with
  |none=>rw[yE]at hp;subst hp;exact⟨(m0.trans m1).trans m3,rfl⟩
  |some y=>
   have⟨y,r'⟩:=y;rw[yE]at hp;obtain⟨rfl,Ou⟩:=hp;refine⟨y,rfl,m3.same _ (a1N m1.size) U,(k8 Ou).mono ?_⟩;rintro e w5 ⟨m5,hp⟩;simp only
   cases Ig:gz r' with
   |none=>rw[Ig]at hp;subst hp;exact⟨((m0.trans m1).trans m3).trans m5,rfl⟩
   |some z=>
    have⟨z,r''⟩:=z;rw[Ig]at hp;obtain⟨rfl,ha5⟩:=hp;refine⟨z,rfl,m5.same _ (by have:=m1.size;have:=m3.size;omega) U,?_⟩;intro w7 e7;have m7:=iu w5 w #[x,y,z];rw[<-e7]at m7;have hB:=h.le;have hle:=ha5.le;exact⟨(((m0.trans m1).trans m3).trans m5).A m7 (λi hi=>.inr U),rfl,ha5.aV (cV hle m7.size) λi hi=>m7.same i U U⟩
def Kk:Y 169 #[g] w λe w'=>PR w B g (kI ws) (λp=>.agg #[S p.1,S p.2.1,S p.2.2]) e w':=by
 apply Ec.B;intro w0 e0;have x0:Ext w w0:=a0i
 have hs:=fD e0;have hgl:g<w:=gK h.lt h.le;have m0:Mod (λi=>i=g) w w0:=Mod.P x0;refine(QE (h.ext x0)).mono ?_;rintro e w1 ⟨m1,hp⟩
 cases hw:kI ws with
 |none=>rw[hw]at hp;subst hp;exact⟨m0.trans m1,rfl⟩
 |some x=>
  have⟨⟨x,y,z⟩,r⟩:=x;rw[hw]at hp;obtain⟨rfl,ha⟩:=hp;refine⟨x,y,z,rfl,m1.same _ U U,?_⟩;intro w5 e5 w6 e6 w7 e7;have x5:Ext w1 w5:=by rw[e5];exact Ext.al _ _
  have m6:=iu w5 w1 #[x,y,z];rw[<-e6]at m6;have m7:=iu w6 w #[x,y,z];rw[<-e7]at m7;have hB:=h.le;have hle:=ha.le;have h1:=m1.size;have h5:=x5.size;have h6:=m6.size;have k:∀i,i<w1.heap.size->i≠w.heap.size->w7.heap[i]? =w1.heap[i]? :=λi hi hn=>
   (m7.same i U hn).trans ((m6.same i U U).trans (x5.heap hi))
  exact⟨(((m0.trans m1).trans (Mod.P x5)).A m6 (λi hi=>.inr U)).A m7 (λi hi=>.inr U),rfl,ha.aV (a1N m7.size) λi hi=>k i U U⟩
end
inductive xD(w:au):aC->aq->Prop
 |s (t:aq):xD w (.iface 9 (.string t)) t
 |ok:xD w (.iface 168 (0:Int)) ⟨#[111,107]⟩
 |n (x:Int) (t:aq) (h:∀u,Ext w u->Y 224 #[x] u λe u'=>e=bP t/\Ext u u'):xD w (.iface 3 (x)) t
 |e (x:Int) (t:aq) (h0:x≠0) (h:∀u,Ext w u->Y 225 #[x] u λe u'=>e=bP t/\Ext u u'):xD w (.iface 168 (x)) t
 |v (x y z:Int) (t:aq) (h:∀u v,Ext w u->v=u.alloc (.cells #[.iface 3 (x),.iface 3 (y),.iface 3 (z)] 20)->Y 154 #[.slice (O u) 3 3] v λe u'=>e=bP t/\Ext v u'):xD w (.iface 73 (.agg #[x,y,z])) t
 |b (x:aX) (t:aq) (h:∀u v,Ext w u->v=u.alloc (.cells #[.iface 3 (S (if x then 1 else 0))] 20)->Y 154 #[.slice (O u) 1 1] v λe u'=>e=bP t/\Ext v u'):xD w (.iface 4 (.bool x)) t
def xD.ext{w u:au}{x:aC}{t:aq}(h:xD w x t)(hx:Ext w u):xD u x t:=by
 cases h with
 |s=>exact .s _
 |ok=>exact .ok
 |n x _ h=>exact .n x _ λv hv=>h v (hx.A hv)
 |e x _ h0 h=>exact .e x _ h0 λv hv=>h v (hx.A hv)
 |v x y z _ h=>exact .v x y z _ λu v hu=>h u v (hx.A hu)
 |b x _ h=>exact .b x _ λu v hu=>h u v (hx.A hu)
def GB(v:aC):Prop:=∃b:aX,v=.bool b
def W5:gM ka5 4 GB:=by
 refine⟨?_,?_,?_⟩
 ·rintro x y ⟨a,rfl⟩ ⟨b,rfl⟩;refine⟨a==b,?_,by cases a<;>cases b<;>simp⟩
  cases a<;>cases b<;>kernel_rfl
 ·rintro x ⟨a,rfl⟩ b w
  cases a<;>kernel_rfl
 ·rintro x ⟨a,rfl⟩
  cases a<;>kernel_rfl
def eI(l:aa):aq:=⟨(Lib.join (l.map (·.data.toList)) [32]).toArray⟩
def join_one(t:aq):eI [t]=t:=by apply Lr;show Lib.join [bl t] [32]=bl t;unfold Lib.join;simp[List.intercalate]
def qP{w:au}{sl:H}{xs:LV}{outs:aa}(h:RdK w sl 1 (xs.map λx=>[x]))(hl:outs.length=xs.length)(hn:xs.length<=1000000) (hi:∀(i:Nat) x t,xs[i]? =some x->outs[i]? =some t->xD w x t)(hj:(Lib.join (outs.map (·.data.toList)) [32]).length<=140737488355328): ed 154 #[sl] w (bP (eI outs)):=by
 have tE:sl.n=xs.length:=by rw[h.n,aK]
 apply Ui.B;refine⟨λn x s v=>∃p:Nat,x=(p:Int)/\p+n=sl.n/\ar w 9 1 v s ((outs.take p).map sv)/\Ext w v,⟨sl.n,0,rfl,U,ar.nil,Ext.M _⟩,?_⟩;rintro n1 Bn x3 s4 w5 ⟨p,rfl,hp,ho,x5⟩;have S7:(outs.take p).length=p:=by rw[cS];omega
 have h4:s4.n=p:=by rw[(ar.rd ho X).n,aK,S7]
 apply Z.mk<;>intro c
 ·have c:=of_decide_eq_true c;have hpx:p<xs.length:=by omega
  obtain⟨x,hx⟩:∃x,xs[p]? =some x:=⟨_,cK hpx⟩;obtain⟨t,ht⟩:∃t,outs[p]? =some t:=⟨_,cK U⟩;have hit:=(hi p x t hx ht).ext x5;have etk:outs.take (p+1)=outs.take p++[t]:=by rw[dq,ht];rfl
  have pG:ld w5 (N sl.a (((p:Nat):Int).toNat*1))=some x:=by have:=x5.ld (h.rd p [x] (by rw[aW,hx];rfl) 0 x rfl);simpa using this
  have push:∀u:au,Ext w5 u->∀v:au,v=u.alloc (.cells #[.string t] 9)->
    bj 16 1 v ⟨s4.a,s4.n,s4.c⟩ 1 [.string t]/\∀(s9:H)(br:au),aY 9 1 v ⟨s4.a,s4.n,s4.c⟩ 1 [.string t] s9 br->
     (∀j,w5.heap.size<=j->j<u.heap.size->br.heap[j]? =v.heap[j]?)/\br.heap[u.heap.size]? =v.heap[u.heap.size]?/\∃n6,n6<n1/\∃q:Nat,I ((p:Int)+1)=(q:Int)/\q+n6=sl.n/\ar w 9 1 br ⟨s9.a,s9.n,s9.c⟩ ((outs.take q).map sv)/\Ext w br:=by
   rintro u xu v rfl;have xw:=x5.A xu;have⟨a1,a2⟩:=(ho.ext xu).l6 (bytes:=16) (news:=sv t) (.cells #[.string t] 9) xw.size rfl (amg t) U U;refine⟨a1,λs9 br hr=>?_⟩;obtain⟨b1,b2,b3,b4,b5,-⟩:=a2 s9 br hr;refine⟨λj h1 h2=>(b5 j (λq=>a1N ((ho.own.lt q).2)) h2).trans ((Ext.al u _).heap h2).symm,b1,n1-1,U,p+1,by rw[wI];omega,U,?_,Below.trans xw b4⟩;rw[etk,cl];exact b2
  have psh:=λ(u:au)(xu:Ext w5 u)(v:au)(ev:v=u.alloc (.cells #[.string t] 9))=>(show _/\∀(s9:H)(br:au),_->_ from⟨(push u xu v ev).1,λs9 br hr=>((push u xu v ev).2 s9 br hr).2⟩)
  refine⟨h.jX X U U,x,pG,?_⟩
  cases hit with
  |s=>
   refine⟨9,_,rfl,Z.mk (λc=>by cases c) (λ_=>⟨9,_,rfl,Z.mk (λ_=>⟨_,rfl,λfm Td=>psh w5 (Ext.M _) fm Td⟩) (λc=>by cases c)⟩)⟩
  |ok=>
   refine⟨168,_,rfl,Z.mk (λc=>by cases c) (λ_=>⟨168,_,rfl,Z.mk (λc=>by cases c) (λ_=>⟨168,_,rfl,Z.mk (λ_=>⟨_,rfl,Z.mk (λ_=>λfm Td=>psh w5 (Ext.M _) fm Td) (λc=>by cases c)⟩) (λc=>by cases c)⟩)⟩)⟩
  |n x _ hc=>
   refine⟨3,_,rfl,Z.mk (λ_=>⟨x,rfl,(hc w5 (Ext.M _)).mono ?_⟩) (λc=>by cases c)⟩;rintro _ bE ⟨rfl,bS⟩;exact⟨t,rfl,λbw Dz=>psh bE bS bw Dz⟩
  |e x _ h0 hc=>
   refine⟨168,_,rfl,Z.mk (λc=>by cases c) (λ_=>⟨168,_,rfl,Z.mk (λc=>by cases c) (λ_=>⟨168,_,rfl,Z.mk (λ_=>⟨x,rfl,Z.mk (λc=>absurd (ds c) h0) (λ_=>(hc w5 (Ext.M _)).mono ?_)⟩) (λc=>by cases c)⟩)⟩)⟩;rintro _ iZ ⟨rfl,rC⟩;exact⟨t,rfl,λpw e30=>psh iZ rC pw e30⟩
  |v x y z _ hc=>
   refine⟨73,_,rfl,Z.mk (λc=>by cases c) (λ_=>⟨73,_,rfl,Z.mk (λc=>by cases c) (λ_=>⟨73,_,rfl,Z.mk (λc=>by cases c) (λ_=>⟨73,_,rfl,Z.mk (λ_=>⟨x,y,z,rfl,λtH e38 lG e39 nT e40=>?_⟩) (λc=>by cases c)⟩)⟩)⟩)⟩;have rq:Ext w5 lG:=Ext.L (Ext.aZ (Ext.M _) e38) e39 (ak _);have z38:=fD e38;have z39:lG.heap.size=w5.heap.size+1:=by rw[e39];simp[z38]
   have z40:=fD e40;refine(hc lG nT rq e40).F λkO kA=>?_
   refine⟨t,rfl,kA.k,λiO Yn=>?_⟩;have aw6:Ext w5 kO:=(rq.aZ e40).A kA;have⟨p1,p2⟩:=push kO aw6 iO Yn;refine⟨p1,λs44 ue hr=>?_⟩;have⟨q1,q2⟩:=p2 s44 ue hr;exact⟨q1 _ (ak _) (a1N kA.size),q2⟩
  |b x _ hc=>
   refine⟨4,_,rfl,Z.mk (λc=>by cases c) (λ_=>⟨4,_,rfl,Z.mk (λc=>by cases c) (λ_=>⟨4,_,rfl,Z.mk (λc=>by cases c) (λ_=>⟨4,_,rfl,Z.mk (λc=>by cases c) (λ_=>⟨4,_,rfl,Z.mk (λ_=>⟨x,rfl,λnB e49=>?_⟩) (λc=>by cases c)⟩)⟩)⟩)⟩)⟩;have aw7:=Ext.aZ (Ext.M _) e49;refine⟨GB,[],W5,rfl,by rw[e49];exact bG.new,⟨_,rfl⟩,λYo aw8 arH=>?_⟩;have tG:Ext w5 Yo:=(Mod.oX aw8).ext aw7 λi hi=>Nat.le_of_eq hi.symm
   have ek:oY [] (eL true) (1:Int)=[(eL true,S 1)]:=by unfold oY;rw[if_neg bo];rfl
   rw[ek]at arH;refine⟨GB,_,W5,arH,⟨_,rfl⟩,if x then 1 else 0,x,?_,λnv e57=>?_⟩
   ·cases x with
    |true=>exact .inl ⟨rfl,bo⟩
    |false=>exact .inr ⟨rfl,rfl,bo⟩
   ·refine(hc Yo nv tG e57).F λvQ Fa=>?_
    exact⟨t,rfl,λlV e60=>psh vQ ((tG.aZ e57).A Fa) lV e60⟩
 ·have c:=of_decide_eq_false c;have hpe:p=xs.length:=by omega
  rw[show outs.take p=outs from dN U]at ho;have fin:ed 226 #[s4,.string ⟨#[32]⟩] w5 (bP (eI outs)):=by
   have gF:=ar.rd ho X
   cases hq:outs with
   |nil=>
    have:s4.n=0:=by rw[h4,hpe,<-hl,hq];rfl
    rw[this];refine(Tryz.strings_Join_none s4.a s4.c _ w5).V ?_;exact⟨rfl,Ext.M _⟩
   |cons t0 r0=>
    have hon:=ho.own;obtain⟨g,ha,Is⟩:∃g,s4.a=O g/\s4.n<=s4.c:=by
     generalize ((outs.map sv).flatten)=fl at hon
     cases hon with
     |nil=>rw[hq]at hl;simp at hl;simp at h4;omega
     |row g n c cs hg hr hc hn=>exact⟨g,rfl,hn⟩
    rw[<-hq];have hgl:g<w5.heap.size:=gF.Me X (by rw[hq];simp) a1J;have:=Tryz.strings_Join g 0 s4.c outs ⟨#[32]⟩ w5 (λj y hy=>by have:=gF.rd j (sv y) (by rw[aW,hy];rfl) 0 _ rfl;rw[ha,aF]at this;simpa[Vc.ld]using this) hgl U U hj;rw[ha,h4,hpe,<-hl];exact this
  refine fin.F λOv Bo=>?_
  exact⟨_,rfl,rfl,x5.A Bo⟩
def GS(v:aC):Prop:=∃t:aq,v=.string t
def Vt:gM ka5 9 GS:=by
 refine⟨?_,?_,?_⟩
 ·rintro x y ⟨a,rfl⟩ ⟨b,rfl⟩;refine⟨gu a b,by kernel_rfl,?_⟩;rw[kD];exact⟨λh=>by rw[h],λh=>by injection h⟩
 ·rintro x ⟨a,rfl⟩ b w;kernel_rfl
 ·rintro x ⟨a,rfl⟩;simp[Instr.sameBits];exact(Ru a a).2 rfl
def uF:aa:=[ka4 #[119,111,114,108,100],
 ka4 #[108,111,97,100],
 ka4 #[117,110,108,111,97,100],
 ka4 #[102,108,117,115,104],
 ka4 #[112,105,110],
 ka4 #[117,110,112,105,110],
 ka4 #[102,108,117,115,104,97,108,108],
 ka4 #[102,97,105,108],
 ka4 #[99,114,97,115,104],
 ka4 #[115,97,118,101],
 ka4 #[115,112,97,119,110],
 ka4 #[107,105,108,108],
 ka4 #[116,101,108,108],
 ka4 #[112,108,97,99,101],
 ka4 #[101,100,105,116],
 ka4 #[98,114,101,97,107],
 ka4 #[108,111,111,107],
 ka4 #[97,116],
 ka4 #[116,111,112],
 ka4 #[98,111,100,121],
 ka4 #[108,105,118,101],
 ka4 #[104,101,114,101],
 ka4 #[116,105,99,107]]
def Y'(k:Nat)(vs:LV):List (aC×aC):=((uF.take k).map bP).zip vs
def l8:uF.Nodup:=by decide
def aex{kvs:List (aC×aC)}{k v:aC}(h:∀e∈kvs,e.1≠k):oY kvs k v=kvs++[(k,v)]:=by unfold oY;rw[if_neg];rintro⟨e,he,hk⟩;exact h e he hk
def aey{k:Nat}{vs:LV}{key:aq}{v:aC}(hk:uF[k]? =some key)(hl:vs.length=k):oY (Y' k vs) (.string key) v=Y' (k+1) (vs++[v]):=by
 have fK:=(cG.1 hk).1;rw[aex]
 ·unfold Y';rw[dq,hk,cl,List.zip_append (by rw[aK,cS];omega)];rfl
 ·rintro⟨a,b⟩ he;have h1:=(List.of_mem_zip he).1;obtain⟨t,ht,rfl⟩:=bc.1 h1;intro hc;injection hc with hc;subst hc;have⟨i,hi⟩:=JT.1 ht;rw[qM]at hi;split at hi
  next hik=>have:=(List.getElem?_inj (i:=i) (j:=k) U l8).1 (hi.trans hk.symm);omega
  ·cases hi
abbrev Vu:aB:=98
abbrev aeo(c:Nat):aC:=.func (.func 155) #[] #[c]
abbrev kc(f sh:Nat):aC:=.func (.func f) #[sh] #[]
abbrev oo(f t:Nat):aC:=.func (.func f) #[t] #[]
def AF(sh:Nat)(c:bf):LV:=
 [kc 86 sh]++c.map aeo++[kc 93 sh,kc 94 sh,kc 95 sh,kc 96 sh,kc 97 sh,kc 98 sh,kc 99 sh,kc 100 sh,kc 101 sh,kc 102 sh,kc 103 sh,kc 104 sh,kc 105 sh,kc 106 sh,kc 107 sh,kc 108 sh,kc 109 sh]
def Vv(sh f t:Nat)(w:au):Y 87 #[sh,oo f t] w λe w'=>e=(aeo w)/\Row w' w [oo f t] 157/\Ext w w':=by apply AI.B;refine uj.2 ?_;intro w0 e0;exact⟨rfl,by rw[e0];exact Row.new _ [_] _,a0i⟩
structure FN(w:au)(sh g:Nat):Prop where
 row:Row w sh [g] Vu
structure DS(w v:au)(t n:Nat)(vs:LV)(cs:bf):Prop where
 l:vs.length=n
 m:bG GS v (some w) (Y' n vs)
 x:Ext w v
 c:∀(j c:Nat),cs[j]? =some c->c≠w/\Row v c [oo (88+j) t] 157/\w<=c
def DS.put{w u:au}{t n:Nat}{vs:LV}{cs:bf}(h:DS w u t n vs cs){key:aq}{v:aC}(hk:uF[n]? =some key){K:k_}(k:∀u',DS w u' t (n+1) (vs++[v]) cs->K u'):DW 9 (some w) u (.string key) v K:=by
 refine⟨GS,_,Vt,rfl,h.m,⟨_,rfl⟩,λu' hr hm=>k u' ⟨by rw[List.length_append,h.l];rfl,?_,Below.trans h.x (hr.below (Nat.le_refl _)),λj c hj=>?_⟩⟩
 · rw[aey hk h.l]at hm;exact hm
 · have⟨h1,h2,h3⟩:=h.c j c hj;exact⟨h1,h2.same (hr.same c h1),h3⟩
def DS.Z_{w u : au}{t n : Nat}{vs : LV}{cs : bf}(h : DS w u t n vs cs){sh f : Nat}(hf : f = 88 + cs.length){K : Ending → au → Prop}(k : ∀ c u', DS w u' t n vs (cs ++[c]) → K (.returned (aeo c)) u') : Calls ka5 87 #[.pointer (some ⟨sh, 0, none⟩), oo f t] u K := by
 refine(Vv sh f t u).mono ?_
 rintro _ u' ⟨rfl, hr, y⟩
 have hz := h.m.lt
 refine k _ u' ⟨h.l, h.m.same (y.heap hz), h.x.A y, λj c hj =>?_⟩
 rcases Nat.lt_or_ge j cs.length with q | q
 · rw[List.getElem?_append_left q]at hj
   have⟨h1, h2, h3⟩:= h.c j c hj
   exact⟨h1, h2.ext y, h3⟩
 · rw[List.getElem?_append_right q, List.getElem?_singleton]at hj
   split at hj
   · cases hj
     have e : j = cs.length := by omega
     rw[e, <- hf]
     exact⟨by omega, hr, by omega⟩
   · cases hj
def aas{F:Nat->Prop}{w:au}{g s o t:Nat}{M:Sm}{occ:aC}{L:h_}(h:EF F w g s o t M occ L){sh:Nat}(hs:FN w sh g): Y 52 #[sh] w λe w'=>∃(r c1 c2 c3 c4 c5:Nat),e=Value.map (some r)/\bG GS w' (some r) (Y' 23 (AF sh [c1,c2,c3,c4,c5]))/\Row w' c1 [oo 88 t] 157/\Row w' c2 [oo 89 t] 157/\Row w' c3 [oo 90 t] 157/\Row w' c4 [oo 91 t] 157/\Row w' c5 [oo 92 t] 157/\w<=r/\w<=c1/\w<=c2/\w<=c3/\w<=c4/\w<=c5/\Ext w w':=by
 obtain⟨Fs,hS,hp,-,-⟩:=h.EN;apply Cd.B;refine⟨O g,by rw[aF,hs.row.ld];rfl,?_⟩;refine cA.2 ⟨rfl,cA.2 ⟨rfl,O s,hp,(cZ hS).V ?_⟩⟩;obtain⟨Fw,hW,-,-⟩:=hS.world;refine⟨_,rfl,(gx hW).V ?_⟩;refine⟨_,rfl,?_⟩;intro v0 e0;have h:DS w v0 t 0 [] []:=⟨rfl,by rw[e0];exact bG.new,aU e0,λj c hj=>by cases hj⟩;refine h.put rfl λ_ h=>h.Z_ rfl λc1 _ h=>⟨_,rfl,h.put rfl λ_ h=>h.Z_ rfl λc2 _ h=>⟨_,rfl,h.put rfl λ_ h=>h.Z_ rfl λc3 _ h=>⟨_,rfl,h.put rfl λ_ h=>h.Z_ rfl λc4 _ h=>⟨_,rfl,h.put rfl λ_ h=>h.Z_ rfl λc5 _ h=>⟨_,rfl,h.put rfl λ_ h=>?_⟩⟩⟩⟩⟩
 iterate 17 refine h.put rfl λ_ h=>?_
 have e:=h.m;simp only[List.nil_append,List.cons_append,Nat.reduceAdd]at e;have z:=h.c;simp only[List.nil_append,List.cons_append]at z;exact⟨w,c1,c2,c3,c4,c5,rfl,e,(z 0 _ rfl).2.1,(z 1 _ rfl).2.1,(z 2 _ rfl).2.1,(z 3 _ rfl).2.1,(z 4 _ rfl).2.1,Nat.le_refl _,(z 0 _ rfl).2.2,(z 1 _ rfl).2.2,(z 2 _ rfl).2.2,(z 3 _ rfl).2.2,(z 4 _ rfl).2.2,h.x⟩
def awE:uq ka5 85=true:=by kernel_rfl
def awF:(ka5.info? 85).bind (·.zero)=some (.string ⟨#[]⟩):=by kernel_rfl
def ang(s:aq)(w:au):(Instr.typeAssert (.iface 85 (.string s)) 20 85 true).run ka5 w=.ok (.tuple #[.string s,true]) w:=by have:=Ry (P:=ka5) (a:=85) (xT:=20) (t:=85) (v:=.string s) awE awF w;rw[if_pos rfl]at this;exact this
def KP(p:Addr)(x:aq)(s:aq)(older:List PanicEntry)(w:au)(hc:w.cell? p=some (.string x))(hz:w.frozen? p=false): CallsD ka5 51 #[p] (.panicking ({v:=.iface 85 (.string s),recovered:=false}::older)) w λe u' w'=>
   e=pz/\u'=.panicking ({v:=.iface 85 (.string s),recovered:=true}::older)/\w'=w.setCell p (.string s):=by
 refine callsD_of_wpS Tryz.func51 rfl λc₀ cs hu=>?_
 apply wpS_seq;apply wpS_region;simp[wpOpsS,go_sem,recoverD,hu,Tryz.ntmps51,Exit.thenS];refine wpS_of_wp (wp_mono (Q:=λe a' w'=>e=.normal/\w'=w.setCell p (.string s)/\a'.defers=[]) ?_ ?_)
 ·refine wp_block ?_;go_wp2;rw[ang];simp only[Br,Oper.upon];rename_i K1 h1 K h2;apply h2;simp[wpList,go_sem,Act.put,Act.eval,Exit.then,Oper.wp,Oper.upon];refine .inl (.inl (h1 _ _ ?_));refine wp_cond_true (by simp[Act.eval,Array.replicate]) ?_;refine wp_seq (wp_region ?_);simp[wpOps,go_sem,Act.put,Act.eval,Exit.then,Oper.wp,Oper.upon];refine .inl (wp_region ?_);simp[wpOps,go_sem,Act.put,Act.eval,Exit.then,Oper.wp,Oper.upon,hc,hz];exact .inl (.inl ⟨rfl,rfl,rfl⟩)
 ·rintro e a w' ⟨rfl,rfl,hd⟩;simp[bodyPostS,results,Tryz.results51,hd]
def VV(p:Addr)(w:au): CallsD ka5 51 #[p] .returning w λe u' w'=>e=pz/\u'=.returning/\w'=w:=by
 refine callsD_of_wpS Tryz.func51 rfl λc₀ cs hu=>?_
 apply wpS_seq;apply wpS_region;simp[wpOpsS,go_sem,recoverD,hu,Tryz.ntmps51,Exit.thenS];refine wpS_of_wp (wp_mono (Q:=λe a' w'=>e=.normal/\w'=w/\a'.defers=[]) ?_ ?_)
 ·refine wp_block (wp_seq (wp_region ?_));simp[wpOps,go_sem,Act.put,Act.eval,Exit.then,Oper.wp,Oper.upon];refine .inl ?_;refine wp_cond_true (by simp[Act.eval,Array.replicate]) ?_;refine wp_region ?_;simp[wpOps,go_sem,Act.put,Act.eval,Exit.then,Oper.wp,Oper.upon]
 ·rintro e a w' ⟨rfl,rfl,hd⟩
  cases c₀
  simp_all[bodyPostS,results,Tryz.results51]
def E4{w:au}{g:Nat}{x v:aC}{E:aB}(hr:Row w g [x] E)(h1:v.oneCell'=true):w.setCell ⟨g,0,none⟩ v=w.setRow g #[v]:=by have h:=hr.bB (o:=0) (vs:=[v]) bo (λu hu=>by simp at hu;subst hu;exact h1);have e:bB w (O g) [v]=w.setCell ((⟨g,0,none⟩:Addr).add 0) v:=rfl;rw[e]at h;have a0:(⟨g,0,none⟩:Addr).add 0=⟨g,0,none⟩:=rfl;rw[a0]at h;rw[h];rfl
def ak4:tB ka5 87=some (9,86,.nilFunc):=by kernel_rfl
structure awB(v:aC)(f:bH)(a b:ae):Prop where
 eq:v=.func (.func f) a b
 enter:∀args w,(callFunc f args).run ka5 w=.ok (.enter f args) w
def qZ{w:au}{sh g:Nat}(line:aq)(hl:line.size<=4294967296){F:Nat->Prop}{s o t:Nat}{M:Sm}{occ:aC}{L:h_}(h:EF F w g s o t M occ L)(hs:FN w sh g)(Q:aq->k_) (gm:∀tx u u',Q tx u->Mod (λi=>i=w.heap.size) u u'->Q tx u') (h0:cT line=[]->∀u,Ext w u->Q ⟨#[]⟩ u) (WJ:∀c r,cT line=c::r->c∉uF->∀u,Ext w u->Q ⟨#[98,97,100]⟩ u) (aBc:∀(c:aq)(r:aa)(i:Nat),cT line=c::r->uF[i]? =some c->∀(u:au)(B ga c1 c2 c3 c4 c5:Nat),Ext w u->AG u B ga r->w.heap.size<ga->Row u c1 [oo 88 t] 157->Row u c2 [oo 89 t] 157->Row u c3 [oo 90 t] 157->Row u c4 [oo 91 t] 157->Row u c5 [oo 92 t] 157->(B<=c1/\B<=c2/\B<=c3/\B<=c4/\B<=c5)->∀v,(AF sh [c1,c2,c3,c4,c5])[i]? =some v->∃f a b,awB v f a b/\Y f (a++ #[.pointer (some ⟨ga,0,none⟩)]++b) u λe u'=>u'.heap[w.heap.size]? =u.heap[w.heap.size]?/\((∃tx,e=bP tx/\Q tx u')\/(e=Io/\Q ⟨#[98,97,100]⟩ u'))): Y 14 #[.pointer (some ⟨sh,0,none⟩),.string line] w λe w'=>∃tx,e=bP tx/\Q tx w':=by
 go_enter_defers Tryz.func14,Tryz.ntmps14;refine wp_seq (wp_region ?_);simp[wpOps,go_sem,Act.put,Act.eval,Exit.then,Oper.wp,Oper.upon];refine .inl ?_;refine wp_seq (wp_region ?_);simp[wpOps,go_sem,Act.put,Act.eval,Exit.then,Oper.wp,Oper.upon];refine .inl (.inl ((HH line _ hl).mono ?_));rintro e w1 ⟨sl,rfl,gF,hlc,yG,x1⟩;simp[go_sem,Oper.upon,wpOps,Oper.wp,Act.put,Act.eval]
 repeat refine Or.inl ?_
 refine wp_seq (wp_seq (wp_region ?_));simp[wpOps,go_sem,Act.put,Act.eval,Exit.then,Oper.wp,Oper.upon]
 repeat refine Or.inl ?_
 have hn:sl.n=(cT line).length:=by rw[gF.n,aK]
 have hr0:Row (w.alloc (.cells #[.string ⟨#[]⟩] 9)) w.heap.size [.string ⟨#[]⟩] 9:=Row.new _ [_] _;have jT:=(hr0.ext x1).ext (Ext.al w1 (.cells #[sl] 84));have x2:Ext w (w1.alloc (.cells #[sl] 84)):=((Ext.al w _).A x1).A (Ext.al w1 _);have nA:(w1.alloc (.cells #[sl] 84)).cell? ⟨w,0,none⟩=some (.string ⟨#[]⟩):=by have:=jT.ld 0;simpa[Vc.ld]using this
 have hf2:(w1.alloc (.cells #[sl] 84)).frozen? ⟨w,0,none⟩=false:=oJ jT _
 cases hw:cT line with
 |nil=>
  rw[hw]at hn;refine wp_cond_true (by simp[Act.eval,hn]) ?_;refine wp_seq (wp_region ?_);simp[wpOps,go_sem,Act.put,Act.eval,Exit.then,Oper.wp,Oper.upon,nA,hf2]
  repeat refine Or.inl ?_
  refine wp_ret ?_;rw[E4 jT rfl];have hr3:=jT.set [.string ⟨#[]⟩];have Lf:((w1.alloc (.cells #[sl] 84)).setRow w.heap.size #[.string ⟨#[]⟩]).cell? ⟨w,0,none⟩=some (.string ⟨#[]⟩):=by have:=hr3.ld 0;simpa[Vc.ld]using this
  simp[bodyPostD,Leaves,results,Tryz.results14,go_sem,Lf];exact gm _ _ _ (h0 hw _ x2) (iu _ _ _)
 |cons c r=>
  rw[hw]at hn;refine wp_cond_false (by simp[Act.eval,hn];omega) ?_;refine wp_skip ?_;simp only[Exit.then];refine wp_seq (wp_region ?_);simp[wpOps,go_sem,Act.put,Act.eval,Exit.then,Oper.wp,Oper.upon]
  repeat refine Or.inl ?_
  generalize hW2:w1.alloc (.cells #[sl] 84)=W2 at*;refine wp_seq (wp_region ?_);simp[wpOps,go_sem,Act.put,Act.eval,Exit.then,Oper.wp,Oper.upon]
  repeat refine Or.inl ?_
  refine(aas (h.ext x2) ⟨hs.row.ext x2⟩).mono ?_;rintro e w3 ⟨rm,c1,c2,c3,c4,c5,rfl,hm,r1,r2,r3,r4,r5,b0,b1,b2,b3,b4,b5,x3⟩;simp[go_sem,Oper.upon,wpOps,Oper.wp,Act.put,Act.eval]
  repeat refine Or.inl ?_
  have IB:W2.heap.size=w1.heap.size+1:=by rw[<-hW2];simp
  have xa:Ext w1 W2:=by rw[<-hW2];exact Ext.al _ _
  have DA:AG W2 W2 w1 (c::r):=⟨U,ak _,sl,by rw[<-hW2];exact Row.new _ [_] _,by rw[<-hw];exact gF.ext xa,hlc,λi hi=>a1N ((yG i hi).2)⟩;refine(vH (DA.ext x3)).mono ?_;rintro e w4 ⟨m4,hp⟩;obtain⟨rfl,ha4⟩:=hp;have hzw:w.heap.size+1<=w1:=by have:=x1.size;simpa using this
  have x4:Ext w w4:=m4.ext (x2.A x3) (λi hi=>by omega);have gl:∀i,W2.heap.size<=i->i≠w1.heap.size:=λi hi=>by omega
  have hm4:bG GS w4 (some rm) (Y' 23 (AF sh [c1,c2,c3,c4,c5])):=hm.same (m4.same rm hm.lt (gl _ b0));have k1:=r1.same (m4.same c1 r1.lt (gl _ b1));have k2:=r2.same (m4.same c2 r2.lt (gl _ b2));have k3:=r3.same (m4.same c3 r3.lt (gl _ b3));have k4:=r4.same (m4.same c4 r4.lt (gl _ b4));have k5:=r5.same (m4.same c5 r5.lt (gl _ b5));by_cases hc:c∈uF
  ·have⟨i,hi⟩:=List.mem_iff_getElem?.1 hc;have aBe:i<23:=(cG.1 hi).1;obtain⟨v,hv⟩:∃v,(AF sh [c1,c2,c3,c4,c5])[i]? =some v:=⟨_,cK (show i<(AF sh [c1,c2,c3,c4,c5]).length from aBe)⟩;have⟨f,a,b,hcv,hcall⟩:=aBc c r i hw hi w4 W2 w1 c1 c2 c3 c4 c5 x4 ha4 (by omega) k1 k2 k3 k4 k5 ⟨b1,b2,b3,b4,b5⟩ v hv;have qG:(Instr.lookup 87 (.map (some rm)) (.string c) false).run ka5 w4=.ok v w4:=by refine(yk (P:=ka5) (z:=.nilFunc) ak4 Vt hm4 ⟨c,rfl⟩ false (v:=v) (b:=true) (.inl ⟨rfl,?_⟩));unfold Y';refine List.mem_iff_getElem?.2 ⟨i,?_⟩;rw[List.getElem?_zip_eq_some];refine⟨?_,hv⟩;rw[aW,dN (by decide),hi];rfl
   simp[go_sem,Oper.upon,wpOps,Oper.wp,Act.put,Act.eval,qG];obtain⟨rfl,aBf⟩:=hcv
   repeat refine Or.inl ?_
   refine wp_seq (wp_region ?_);simp[wpOps,go_sem,Act.put,Act.eval,Exit.then,Oper.wp,Oper.upon]
   repeat refine Or.inl ?_
   have hr4:Row w4 w [.string ⟨#[]⟩] 9:=(jT.ext x3).same (m4.same _ (jT.ext x3).lt (by omega));refine(mj true w4).mono ?_;rintro e w4' ⟨he,e4⟩;simp only[if_true]at he;subst he;rw[e4];refine wp_seq (wp_region ?_);simp[wpOps,go_sem,Act.put,Act.eval,Exit.then,Oper.wp,Oper.upon,invoke,aBf]
   repeat refine Or.inl ?_
   refine hcall.mono ?_;rintro e u ⟨hk,⟨tx,rfl,hq⟩|⟨rfl,hq⟩⟩
   ·have hru:=hr4.same hk;have hcu:u.cell? ⟨w,0,none⟩=some (.string ⟨#[]⟩):=by have:=hru.ld 0;simpa[Vc.ld]using this
    have hfu:u.frozen? ⟨w,0,none⟩=false:=oJ hru _;have hrs:=hru.set [.string tx];have tc:(u.setRow w #[.string tx]).cell? ⟨w,0,none⟩=some (.string tx):=by have:=hrs.ld 0;simpa[Vc.ld]using this
    have hqs:Q tx (u.setRow w #[.string tx]):=gm _ _ _ hq (iu _ _ _);simp[go_sem,storeCells,hcu,hfu];rw[E4 hru rfl]
    repeat refine Or.inl ?_
    refine wp_ret ?_;simp only[bodyPostD];refine leaves_cons (f:=51) (args:= #[.pointer (some ⟨w,0,none⟩)]) (by simp) (j5 Tryz.func51 (by kernel_rfl) rfl _ _) ?_;refine(VV ⟨w,0,none⟩ _).mono ?_;rintro e u' w'' ⟨rfl,rfl,rfl⟩;simp[Leaves,settle,results,Tryz.results14,go_sem,tc];exact hqs
   ·have hru:=hr4.same hk;have hcu:u.cell? ⟨w,0,none⟩=some (.string ⟨#[]⟩):=by have:=hru.ld 0;simpa[Vc.ld]using this
    have hfu:u.frozen? ⟨w,0,none⟩=false:=oJ hru _;have hrs:=hru.set [.string ⟨#[98,97,100]⟩];have tc:(u.setRow w #[.string ⟨#[98,97,100]⟩]).cell? ⟨w,0,none⟩=some (.string ⟨#[98,97,100]⟩):=by have:=hrs.ld 0;simpa[Vc.ld]using this
    have hqs:Q ⟨#[98,97,100]⟩ (u.setRow w #[.string ⟨#[98,97,100]⟩]):=gm _ _ _ hq (iu _ _ _);simp only[Io,bodyPostD];refine leaves_cons (f:=51) (args:= #[.pointer (some ⟨w,0,none⟩)]) (by simp) (j5 Tryz.func51 (by kernel_rfl) rfl _ _) ?_;refine(KP ⟨w,0,none⟩ ⟨#[]⟩ _ _ _ hcu hfu).mono ?_;rintro e u' w'' ⟨rfl,rfl,rfl⟩;rw[E4 hru rfl];simp[Leaves,settle,results,Tryz.results14,go_sem,tc];exact hqs
  ·have qG:(Instr.lookup 87 (.map (some rm)) (.string c) false).run ka5 w4=.ok .nilFunc w4:=by refine(yk (P:=ka5) (z:=.nilFunc) ak4 Vt hm4 ⟨c,rfl⟩ false (v:=.nilFunc) (b:=false) (.inr ⟨rfl,rfl,?_⟩));rintro⟨x,y⟩ he hx;have⟨t',ht',hx'⟩:=bc.1 (List.of_mem_zip he).1;have:bP t'=.string c:=hx'.trans hx;injection this with this;rw[this]at ht';exact hc (List.mem_of_mem_take ht')
   have hr4:Row w4 w [.string ⟨#[]⟩] 9:=(jT.ext x3).same (m4.same _ (jT.ext x3).lt (by omega));have hc4:w4.cell? ⟨w,0,none⟩=some (.string ⟨#[]⟩):=by have:=hr4.ld 0;simpa[Vc.ld]using this
   have hf4:w4.frozen? ⟨w,0,none⟩=false:=oJ hr4 _;simp[go_sem,Oper.upon,wpOps,Oper.wp,Act.put,Act.eval,qG]
   repeat refine Or.inl ?_
   refine wp_seq (wp_region ?_);simp[wpOps,go_sem,Act.put,Act.eval,Exit.then,Oper.wp,Oper.upon]
   repeat refine Or.inl ?_
   refine(mj false w4).mono ?_;rintro e w4' ⟨he,e4⟩;simp only[Bool.false_eq_true,if_false]at he;subst he;rw[e4]
   ·have hrs:=hr4.set [.string ⟨#[98,97,100]⟩];have tc:(w4.setRow w #[.string ⟨#[98,97,100]⟩]).cell? ⟨w,0,none⟩=some (.string ⟨#[98,97,100]⟩):=by have:=hrs.ld 0;simpa[Vc.ld]using this
    have hqs:Q ⟨#[98,97,100]⟩ (w4.setRow w #[.string ⟨#[98,97,100]⟩]):=gm _ _ _ (WJ c r hw hc w4 x4) (iu _ _ _);simp only[Io,bodyPostD];refine leaves_cons (f:=51) (args:= #[.pointer (some ⟨w,0,none⟩)]) (by simp) (j5 Tryz.func51 (by kernel_rfl) rfl _ _) ?_;refine(KP ⟨w,0,none⟩ ⟨#[]⟩ _ _ _ hc4 hf4).mono ?_;rintro e u' w'' ⟨rfl,rfl,rfl⟩;rw[E4 hr4 rfl];simp[Leaves,settle,results,Tryz.results14,go_sem,tc];exact hqs
open Go.bW Go.aN Go.Code
def FM{F:Nat->Prop}{w:au}{g s o t:Nat}{M:Sm}{occ:aC}{L:h_}(h:EF F w g s o t M occ L)(hW:M.T.1.l.length<=1000000)(p:Po): Y 88 #[t,pv p] w λe w'=>e=S (yO M.aj M.cap M.T.1 M.T.2 p).2/\dK F w g s o t {M with T:=(yO M.aj M.cap M.T.1 M.T.2 p).1} occ L w':=by
 have⟨Fs,hS,hp,dP,hr⟩:=h.EN;have⟨Fw,hw,hsub2,jT⟩:=hS.world;refine(Q1 hw hW p).F λw' bq=>?_
 exact⟨rfl,hr (jT bq)⟩
def Di{w:au}{B ga c0:Nat}{ws:aa}{fv:aC}(ha:AG w B ga ws)(hc:Row w c0 [fv] 157)(gl:c0≠ga)(hfv:kq fv=[])(R:l_) (WJ:(∀p,xC ws≠some (p,[]))->∀u,Mod (λi=>i=ga) w u->R Io u) (hdo:∀p r,xC ws=some (p,r)->r=[]->∀u,Mod (λi=>i=ga) w u->w.heap.size<u.heap.size->bu ka5 fv [.agg #[S p.1,S p.2]] u λe u'=>∃(x:Int)(tx:aq),e=S x/\(∀i,w.heap.size<=i->i<u.heap.size->u'.heap[i]? =u.heap[i]?)/\u.heap.size<=u'.heap.size/\(∀v,Ext u' v->xD v (.iface 168 (S x)) tx)/\tx.size<=1000000/\∀v,Ext u' v->R (.returned (.string tx)) v): Y 155 #[ga,c0] w R:=by
 apply wm.B;refine(QD ha).mono ?_;rintro e w0 ⟨m0,hp⟩
 cases hw:xC ws with
 |none=>
  rw[hw]at hp;subst hp;exact WJ (λp q=>by rw[hw]at q;cases q) _ m0
 |some x=>
  have⟨⟨x,z⟩,r⟩:=x;rw[hw]at hp;obtain⟨rfl,ha0⟩:=hp;refine⟨x,z,rfl,?_⟩;intro w3 e3 w4 e4;have x3:Ext w0 w3:=a1L
  have z3:=fD e3;have m4:=iu w3 w0 #[S x,z];rw[<-e4]at m4;have x4:Ext w0 w4:=m4.ext x3 (λi hi=>by omega);have z4:w4.heap.size=w0.heap.size+1:=by rw[e4];simp[z3]
  have mw4:Mod (λi=>i=ga) w w4:=m0.trans (Mod.P x4);refine(qW (ha0.ext x4)).mono ?_;rintro e w5 ⟨e5,he⟩;rw[e5];by_cases hr:r=[]
  ·rw[if_pos hr]at he;subst he;have hcw:Row w4 c0 [fv] 157:=hc.same (mw4.same c0 hc.lt gl);refine⟨rfl,rfl,fv,by rw[hcw.ld];rfl,?_⟩;have h0w:=m0.size;refine bJ (hdo (x,z) r hw hr w4 mw4 U) ?_;rintro e w7 ⟨xe,tx,rfl,hk,hs7,hit,nR,hR⟩;refine⟨xe,rfl,hk _ h0w U,?_⟩;intro w9 e9;have x9:Ext w7 w9:=by rw[e9];exact Ext.al _ _
   have hr9:Row w9 w7 [.iface 168 (xe)] 20:=Row.nw e9;have gF:RdK w9 ⟨O w7,1,1⟩ 1 ([.iface 168 (xe)].map λx=>[x]):=by
    refine⟨rfl,λq hq=>by simp at hq;subst hq;rfl,λi q hi j v hj=>?_⟩
    cases i with
    |succ i=>simp at hi
    |zero=>
     simp at hi;subst hi
     cases j with
     |succ j=>simp at hj
     |zero=>
      simp at hj;subst hj;rw[aF,hr9.ld];rfl
   have hj1:(Lib.join ([tx].map (·.data.toList)) [32]).length<=140737488355328:=a0m
   refine(qP (outs:=[tx]) gF rfl bo (λi y t hy ht=>?_) hj1).mono ?_
   ·cases i with
    |succ i=>simp at hy
    |zero=>
     simp at hy ht;subst hy;subst ht;exact hit w9 x9
   ·rintro _ br ⟨rfl,bL⟩;refine⟨_,rfl,bL.heap (a1N x9.size),?_⟩;rw[join_one];exact hR _ (x9.A bL)
  ·rw[if_neg hr]at he;subst he;exact WJ (λp q=>by rw[hw]at q;cases q;exact hr rfl) _ mw4
def jg{u v:au}{x:aC}{tx:aq}(hv:v=u.alloc (.cells #[x] 20))(hit:xD v x tx)(nR:tx.size<=1000000): ed 154 #[.slice (O u) 1 1] v (bP tx):=by
 have hr9:Row v u [x] 20:=Row.nw hv;have gF:RdK v ⟨O u,1,1⟩ 1 ([x].map λx=>[x]):=by
  refine⟨rfl,λq hq=>by simp at hq;subst hq;rfl,λi q hi j v hj=>?_⟩
  cases i with
  |succ i=>simp at hi
  |zero=>
   simp at hi;subst hi
   cases j with
   |succ j=>simp at hj
   |zero=>
    simp at hj;subst hj;rw[aF,hr9.ld];rfl
 have hj1:(Lib.join ([tx].map (·.data.toList)) [32]).length<=140737488355328:=a0m
 refine(qP (outs:=[tx]) gF rfl bo (λi y t hy ht=>?_) hj1).mono ?_
 ·cases i with
  |succ i=>simp at hy
  |zero=>
   simp at hy ht;subst hy;subst ht;exact hit
 ·rintro _ br ⟨rfl,bL⟩;rw[join_one];exact⟨rfl,bL⟩
def qS(b:Int):aq:=if b= -1 then ka4 #[97,119,97,121]else kE b
def J5{F:Nat->Prop}{w:au}{g s o t sh B ga:Nat}{M:Sm}{occ:aC}{L:h_}{ws:aa}(h:EF F w g s o t M occ L)(hs:FN w sh g)(ha:AG w B ga ws)(hF:¬F ga)(hsg:sh≠ga) (hnm:∀b,(kE b).size<=1000000)(R:l_)(WJ:(∀p,kI ws≠some (p,[]))->∀u,Mod (λi=>i=ga) w u->R Io u) (hok:∀c,kI ws=some (c,[])->pQ c/\∀u,Mod (λi=>i=ga) w u->R (.returned (.string (qS (jc M.T.2 c)))) u): Y 104 #[sh,ga] w R:=by
 apply He.B;refine(Kk ha).mono ?_;rintro e w0 ⟨m0,hp⟩
 cases hw:kI ws with
 |none=>
  rw[hw]at hp;subst hp;exact WJ (λp q=>by rw[hw]at q;cases q) _ m0
 |some x=>
  have⟨⟨x,y,z⟩,r⟩:=x;rw[hw]at hp;obtain⟨rfl,ha0⟩:=hp;refine⟨x,y,z,rfl,?_⟩;intro w4 e4 w5 e5;have x4:Ext w0 w4:=by rw[e4];exact Ext.al _ _
  have z4:=fD e4;have m5:=iu w4 w0 #[x,y,z];rw[<-e5]at m5;have x5:Ext w0 w5:=m5.ext x4 (λi hi=>by omega);have z5:w5.heap.size=w0.heap.size+1:=by rw[e5];simp[z4]
  have mw5:Mod (λi=>i=ga) w w5:=m0.trans (Mod.P x5);refine(qW (ha0.ext x5)).mono ?_;rintro e w6 ⟨e6,he⟩;rw[e6];by_cases hr:r=[]
  ·rw[if_pos hr]at he;subst he;subst hr;have⟨hc,hR⟩:=hok _ hw;have h5:EF F w5 g s o t M occ L:=h.same λi hi=>mw5.same i (h.lt hi) (λq=>hF (q▸hi))
   have hd:=h5.ext (Ext.K w5);have hsh:Row w5.drew sh [g] Vu:=(hs.row.same (mw5.same sh hs.row.lt hsg)).ext (Ext.K w5);have hb:Row w5.drew w0 (eV (x,y,z)) 23:=by
    have:Row w5 w0 (eV (x,y,z)) 23:=by have hr4:Row w4 w0 [J,J,J] 23:=Row.nw e4;rw[e5];exact hr4.set [_,_,_]
    exact this.ext (Ext.K w5)
   obtain⟨Fs,hS,Eu,-,-⟩:=hd.EN;obtain⟨Fw,hW,-,-⟩:=hS.world;refine⟨rfl,rfl,O g,by rw[aF,hsh.ld];rfl,cA.2 ⟨rfl,cA.2 ⟨rfl,O s,Eu,(cZ hS).V ?_⟩⟩⟩;have lb:ah w5.drew (O w0) 0 [x,y,z]:=hb.y (o:=0) (λj _=>by rw[eF]);have ls:ah w5.drew (N (O sh) 0) 0 [g]:=by rw[aF];exact hsh.y (λj _=>by simp)
   refine⟨_,rfl,rfl,lb,ls,(lZ hW).V ?_⟩;have hca:bu ka5 (.func (.func 113) #[t] #[]) [.agg #[x,y,z]] w5.drew λe w''=>e=S (jc M.T.2 (x,y,z))/\Ext w5.drew w'':=hd.tl.at (c:=(x,y,z)) hc
   refine⟨_,rfl,rfl,lb,ls,?_⟩;refine bJ hca ?_;rintro e bw ⟨rfl,cJ⟩;have atW:Ext w5 bw:=(Ext.K w5).A cJ;have s5:=nV w5;have aAw:w0.heap.size<bw:=a1N cJ.size
   refine⟨_,rfl,cJ.k,by rw[aF];exact(hsh.ext cJ).y (λj _=>by simp),Z.mk (λc1=>?_) (λc1=>?_)⟩
   ·have c1:=eK c1;intro c9 pC;have dn:Ext bw c9:=by rw[pC];exact Ext.al _ _
    refine(jg pC (.s _) X).F λbZ dw=>?_
    refine⟨_,rfl,dw.heap (a1N dn.size),?_⟩;have:=hR bZ (mw5.trans (Mod.P ((atW.A dn).A dw)));unfold qS at this;rw[if_pos c1]at this;exact this
   ·have c1:=eK c1;refine(kl _ bw).F λdA dc=>?_
    refine⟨_,rfl,dc.heap aAw,?_⟩;intro eQ wx;have fe:Ext dA eQ:=by rw[wx];exact Ext.al _ _
    refine(jg wx (.s _) (hnm _)).F λdi fk=>?_
    refine⟨_,rfl,fk.heap (by have:=dc.size;have:=fe.size;omega),?_⟩;have:=hR di (mw5.trans (Mod.P (((atW.A dc).A fe).A fk)));unfold qS at this;rw[if_neg c1]at this;exact this
  ·rw[if_neg hr]at he;subst he;exact WJ (λp q=>by rw[hw]at q;cases q;exact hr rfl) _ mw5
abbrev PE:aC:=.func (.func 175) #[] #[]
def Gu(w:au):Y 26 #[] w λe w'=>∃(sh g s o t:Nat)(F:Nat->Prop),e=dr (O sh)/\EF F w' g s o t (FO 1 9 200000 16) PE OT/\FN w' sh g/\¬F sh/\Ext w w'/\(∀i,F i->w<=i)/\w<=sh:=by
 apply ZC.B;refine(Ke 1 9 200000 16 w).mono ?_;rintro _ w0 ⟨g,s,o,t,F,rfl,h,x0,hF⟩;refine⟨_,rfl,?_⟩;intro w2 e2;have x2:Ext w0 w2:=by rw[e2];exact Ext.al _ _
 exact⟨w0,g,s,o,t,F,rfl,h.ext x2,⟨by rw[e2];exact Row.new _ [_] _⟩,λq=>a0h,x0.A x2,hF,x0.size⟩
def ajr:(ka5.info? 112).map (·.size)=some 2:=by kernel_rfl
def ajs:liesAt ka5 ka5.depth 112 (2/ka5.cellsOf 112) 0 112 1=true:=by kernel_rfl
def abB{w:au}{g:Nat}{cs:LV}{t:aB}(h:Row w g cs t):w.shape? g=some (t,cs.length):=by simp[World.shape?,show w.heap[g]? =_ from h]
def Hb{w:au}{b:Nat}{p:ai}{v:aC}(h:Row w b [.pointer p,v] 112)(hp:p=none\/p=O b): Y 117 #[b] w λe w'=>e=pz/\Row w' b [b,v] 112/\Mod (λi=>i=b) w w'/\w'.heap.size=w.heap.size:=by
 have hc:w.cell? ⟨b,0,none⟩=some (.pointer p):=by have:=h.ld 0;simpa[Vc.ld]using this
 have hf:w.frozen? ⟨b,0,none⟩=false:=oJ h _;have⟨j,hj,hjs⟩:=wM.1 ajr;have hsh:=abB h;have c1:=Lib.run_to_unsafe (P:=ka5) (w:=w) (src:=110) (dst:=230) ⟨b,0,none⟩ Tryz.underlying110 Tryz.underlying230 hj (by rw[hjs];decide) hsh bo;have c2:(callFunc 180 #[b]).run ka5 w=_:=run_callFunc_extern Tryz.func180 (by kernel_rfl) (by kernel_rfl) (by kernel_rfl) (e:=Extern.AbiNoEscape.same) (by kernel_rfl) _ w;have c3:=Lib.run_from_unsafe (P:=ka5) (w:=w) (src:=230) (dst:=110) ⟨b,0,none⟩ Tryz.underlying230 Tryz.underlying110 hj hsh ajs;have gm:w.setCell ⟨b,0,none⟩ (.pointer (O b))=w.setRow b #[b,v]:=by have h2:=h.bB (o:=0) (vs:=[b]) bo (λu hu=>a0Q);exact h2
 go_enter Tryz.func117,Tryz.ntmps117;refine wp_seq (wp_region ?_);simp[wpOps,go_sem,Act.put,Act.eval,Exit.then,Oper.wp,Oper.upon,hc]
 repeat refine Or.inl ?_
 rcases hp with rfl|rfl
 ·refine wp_cond_true (by simp[Act.eval]) ?_;refine wp_region ?_;simp[wpOps,go_sem,Act.put,Act.eval,Exit.then,Oper.wp,Oper.upon,c1,c2,c3,Lib.run_noEscape,hc,hf,storeCells]
  repeat refine Or.inl ?_
  go_end0;refine⟨rfl,?_⟩;rw[gm];exact⟨h.set [_,_],iu _ _ _,bo⟩
 ·refine wp_cond_false (by simp[Act.eval]) ?_;refine wp_seq (wp_region ?_);simp[wpOps,go_sem,Act.put,Act.eval,Exit.then,Oper.wp,Oper.upon,hc]
  repeat refine Or.inl ?_
  have cn:(binOp .neq 110 (.pointer (O b)) (.pointer (O b))).run ka5 w=.ok (.bool false) w:=by
   have he:(Op.equal 110 (.pointer (O b)) (.pointer (O b))).run ka5 w=.ok true w:=by unfold Op.equal Op.maxDepth;rw[show(10000:Nat)=9999+1 from rfl,Op.equalIn,Aw,aA,Tryz.underlying110];simp[sameAddr,fE,go_sem]
   simp[binOp,run_underlying Tryz.underlying110,go_sem];rw[he];rfl
  simp[cn]
  repeat refine Or.inl ?_
  refine wp_cond_false (by simp[Act.eval]) ?_;refine wp_skip ?_;go_end0;exact⟨rfl,h,Mod.refl _ _,rfl⟩
def Q4{w:au}{B b:Nat}{p:ai}{v:aC}{bs:LV}(hp:p=none\/p=O b)(hr:Row w b [.pointer p,v] 112)(lF:w.ownsRow B 5 1 v bs.length bs)(gl:v.ownBlock≠some b): Y 117 #[b] w λe w'=>e=pz/\Row w' b [b,v] 112/\w'.ownsRow B 5 1 v bs.length bs/\Mod (λi=>i=b) w w'/\w'.heap.size=w.heap.size:=by
 refine(Hb hr hp).mono ?_;rintro e w' ⟨rfl,hr',hm,hs⟩;refine⟨rfl,hr',?_,hm,hs⟩;have⟨h1,h2⟩:=lF;refine⟨h1,h2.imp id ?_⟩;rintro⟨g,cap,cur,rfl,q1,q2,q3⟩;refine⟨g,cap,cur,rfl,q1,?_,q3⟩;rw[hm.same g (oQ.1 q2).1 (λe=>gl (e▸rfl))];exact q2
def Hc{P:Program}(w:au)(base:Nat)(t u ty e:aB)(i:TypeInfo)(ht:P.underlying t=some (.slice e))(hu:P.underlying u=some .string)(hi:P.info? e=some i)(hz:i.zero=some (.int .u8 0)) (hsize:i.size=1)(WE:i.bytes=1)(v:aC)(n:Nat)(xs:LV)(lF:w.ownsRow base e 1 v n xs)(s:aq)(hbytes:n+s.size<=140737488355328)(hbase:base<=w): ∃v' w',(Builtin.append_ #[t,u] ty #[v,.string s]).run P w=.ok v' w'/\w'.ownsRow base e 1 v' (n+s.size) (xs++Lib.strCells s)/\w.grownBy w' v.ownBlock/\(v'.ownBlock=v.ownBlock\/v'.ownBlock=some w):=by
 have⟨v',w',hr,h2,h3,h4⟩:=Lib.run_append_own_string w base t u ty e i ht hu hi hz hsize WE v n xs lF s (by unfold maxLen;omega) hbytes hbase;refine⟨v',w',hr,h2,h3,?_⟩;have hxl:xs.length=n:=by simpa using lF.1
 rcases lF.2 with⟨rfl,rfl⟩|⟨g,cap,cur,rfl,hbg,hg,Is,hcm,tc,htake⟩
 ·by_cases hm:s.size=0
  ·rw[h4.2 ⟨rfl,hm⟩];exact .inl rfl
  ·have q:=run_append_nil_string (P:=P) w t u ty e i (.int .u8 0) ht hu hi hz s U U (by rw[WE];omega);rw[q]at hr
   cases hr
   exact .inr rfl
 ·by_cases hroom:n+s.size<=cap
  ·have q:=Lib.run_append_room_string (P:=P) w t u ty e i ht hu hi hsize g n cap cur hg s hroom U;rw[q]at hr
   cases hr
   exact .inl rfl
  ·have holds:∀j u,xs[j]? =some u->w.cell? ((⟨g,0,none⟩:Addr).add j)=some u:=lF.cells (g:=g) rfl;have q:=Lib.run_append_grow_string (P:=P) w t u ty e i (.int .u8 0) ht hu hi hz ⟨g,0,none⟩ n cap xs (by rw[hsize];simpa using hxl) holds s U U (by rw[WE];exact growslice_fits U U);rw[q]at hr
   cases hr
   exact .inr rfl
def Ve{P:Program}(w:au){ops:Array Oper}{rest:List Oper}{o:Oper}{a:Act}{Q:Exit->Act->k_}(hgd:o.guard=none)(sl x:Operand)(t u:aB) (ho:o.op=.call {callee:=.builtin .append,args:= #[sl,x],argTypes:= #[t,u]})
  (base:Nat)(e:aB)(i:TypeInfo)(ht:P.underlying t=some (.slice e))(hu:P.underlying u=some .string)(hi:P.info? e=some i)(hz:i.zero=some (.int .u8 0))
  (hsize:i.size=1)(WE:i.bytes=1)(v:aC)(n:Nat)(xs:LV)(hs:a.eval sl=v)(lF:w.ownsRow base e 1 v n xs)(s:aq)(hx:a.eval x=.string s)
  (hbytes:n+s.size<=140737488355328)(hbase:base<=w)
  (h:∀v' w',w'.ownsRow base e 1 v' (n+s.size) (xs++Lib.strCells s)->w.grownBy w' v.ownBlock->(v'.ownBlock=v.ownBlock\/v'.ownBlock=some w.heap.size)->wpList P ops Q rest (a.put o.dst v') w'):wpList P ops Q (o::rest) a w:=by
 refine wpList_plain hgd λK hK=>?_
 have⟨v',w',hr,h2,h3,h4⟩:=Hc (P:=P) w base t u o.type e i ht hu hi hz hsize WE v n xs lF s hbytes hbase;unfold Oper.wp execOp;simp only[ho,resolve,invoke,builtin,Aw,ka3,Br,List.map_toArray,eH,List.map_nil,hs,hx,hr];exact hK _ _ (h v' w' h2 h3 h4)
def Ca{w:au}{B b:Nat}{p:ai}{v:aC}{bs:af}(s:aq)(hp:p=none\/p=some ⟨b,0,none⟩)(de:Row w b [.pointer p,v] 112)(hown0:w.ownsRow B 5 1 v bs.length bs)(hne0:v.ownBlock≠some b)(cX:bs.length+s.size<=140737488355328)(hBw:B<=w): Calls Tryz.prog 62 #[.pointer (some ⟨b,0,none⟩),.string s] w λe w'=>e=.returned (.tuple #[S s.size,.nilIface])/\(∃v':aC,Row w' b [.pointer (some ⟨b,0,none⟩),v'] 112/\w'.ownsRow B 5 1 v' (bs++Lib.strCells s).length (bs++Lib.strCells s)/\v'.ownBlock≠some b/\(∀i,v'.ownBlock=some i->v.ownBlock=some i\/w.heap.size<=i))/\Mod (λi=>i=b\/v.ownBlock=some i) w w'/\∀i,i<w.heap.size->i≠b->v.ownBlock≠some i->w'.heap[i]? =w.heap[i]? :=by
 have e_:=Tryz.qg;have⟨i0,hi,hz0,hz1,IB⟩:=info_parts e_.infoByte;have t72:=Tryz.underlying112;have a72:=Tryz.isAgg112;have z72:=Tryz.sizeOf112;have v72:=Tryz.zeroValue112;have u72:=run_underlying t72;have t70:=Tryz.underlying110;have a70:=Tryz.isAgg110;have z70:=Tryz.sizeOf110;have v70:=Tryz.zeroValue110;have u70:=run_underlying t70;have t37:=Tryz.underlying43;have a37:=Tryz.isAgg43;have z37:=Tryz.sizeOf43;have v37:=Tryz.zeroValue43;have u37:=run_underlying t37;have t3:=Tryz.underlying3;have a3:=Tryz.isAgg3;have z3:=Tryz.sizeOf3;have v3:=Tryz.zeroValue3;have u3:=run_underlying t3;have t9:=Tryz.underlying9;have a9:=Tryz.isAgg9;have z9:=Tryz.sizeOf9;have v9:=Tryz.zeroValue9;have u9:=run_underlying t9;have t5:=Tryz.underlying5;have a5:=Tryz.isAgg5;have z5:=Tryz.sizeOf5;have v5:=Tryz.zeroValue5;have u5:=run_underlying t5;have aG6:∀args w,(callFunc 117 args).run Tryz.prog w=.ok (.enter 117 args) w:=λargs w=>j5 Tryz.func117 (by kernel_rfl) rfl args w
 go_enter Tryz.func62,Tryz.ntmps62;go_wp2_with (go_at_call 117;refine(Q4 hp de hown0 hne0).mono ?_);rintro e w1 ⟨rfl,yG,lF,hm1,fD⟩;have gl:=hne0;have c0:w1.cell? ⟨b,0,none⟩=some (.pointer (some ⟨b,0,none⟩)):=by rw[Lib.cell_of_heap yG];rfl
 have c1:w1.cell? ⟨b,1,none⟩=some v:=by rw[Lib.cell_of_heap yG];rfl
 go_wp2_with (at_builtin;refine Ve _ rfl _ _ 43 9 rfl B 5 i0 Tryz.underlying43 Tryz.underlying9 hi hz0 hz1 IB _ _ _ rfl lF s rfl ?c4 ?c5 ?_)
 case c4=>omega
 case c5=>omega
 intro v' w2 agZ hgrow Le;have fK:b<w1.heap.size:=(Array.getElem?_eq_some_iff.1 yG).1;have lk:w2.heap[b]? =some (.cells #[.pointer (some ⟨b,0,none⟩),v] 112 (0,0)):=by rw[hgrow.block b fK (λe=>gl e.symm)];exact yG
 have d0:w2.cell? ⟨b,0,none⟩=some (.pointer (some ⟨b,0,none⟩)):=by rw[Lib.cell_of_heap lk];rfl
 have d1:w2.cell? ⟨b,1,none⟩=some v:=by rw[Lib.cell_of_heap lk];rfl
 have f1:w2.frozen? ⟨b,1,none⟩=false:=Lib.frozen_of_heap lk 1;obtain⟨ao,n',cap,rfl⟩:∃ao n' cap,v'=.slice ao n' cap:=by
  rcases agZ.2 with⟨hv,_⟩|⟨g,cap,cur,hv,_⟩
  ·exact⟨_,_,_,hv⟩
  ·exact⟨_,_,_,hv⟩
 go_wp2;go_ret2;have jT:Row w2 b [.pointer (some ⟨b,0,none⟩),v] 112:=lk;have oD:=jT.bB (o:=1) (vs:=[.slice ao n' cap]) (by simp) (λu hu=>a0Q);have oD:w2.setCell ⟨b,1,none⟩ (.slice ao n' cap)=w2.setRow b #[.pointer (some ⟨b,0,none⟩),.slice ao n' cap]:=oD;rw[oD];have ms:=iu w2 b #[.pointer (some ⟨b,0,none⟩),.slice ao n' cap];have aV:∀i,i<w.heap.size->i≠b->v.ownBlock≠some i->(w2.setRow b #[.pointer (some ⟨b,0,none⟩),.slice ao n' cap]).heap[i]? =w.heap[i]? :=λi hi hib hvi=>
  (setRow_other _ _ _ _ hib).trans ((hgrow.block i (by omega) (λe=>hvi e.symm)).trans (hm1.same i hi hib))
 have aDL:n'=(bs++Lib.strCells s).length\/True:=.inr trivial;have nb:(Value.slice ao n' cap).ownBlock≠some b:=by
  intro hq;obtain⟨-,h2⟩:=agZ;rcases h2 with⟨hv,-⟩|⟨g,cap',cur,hv,-,hh,-⟩
  ·cases hv;cases hq
  ·cases hv
   cases hq
   rw[lk]at hh;injection hh with hh;injection hh with _ hh
   cases hh
 refine⟨rfl,⟨_,jT.set [_,_],?_,nb,λi hi=>Le.elim (λq=>.inl (q▸hi)) (λq=>.inr (by rw[q]at hi;cases hi;omega))⟩,⟨?_,?_,?_,?_,λi hi hn=>aV i hi (λq=>hn (.inl q)) (λq=>hn (.inr q))⟩,aV⟩
 ·have hown2:w2.ownsRow B 5 1 (.slice ao n' cap) (bs++Lib.strCells s).length (bs++Lib.strCells s):=by simpa[Lib.strCells_length]using agZ
  have⟨h1,h2⟩:=hown2;refine⟨h1,h2.imp id ?_⟩;rintro⟨g,cap',cur,hv,q1,q2,q3⟩;refine⟨g,cap',cur,hv,q1,?_,q3⟩;rw[setRow_other _ _ _ _ (λe=>nb (by rw[hv,e];rfl))];exact q2
 ·exact hgrow.os.trans hm1.os
 ·exact hgrow.tape.trans hm1.tape
 ·exact hgrow.output.trans hm1.output
 ·have:=hgrow.size;simp;omega
structure SH(w0:au)(F0:Nat->Prop)(w:au)(sh g s o t:Nat)(M:Sm)(occ:aC)(L:h_)(F:Nat->Prop):Prop where
 e:EF F w g s o t M occ L
 r:FN w sh g
 n:¬F sh
 m:Mod F0 w0 w
 f:∀i,F i->F0 i\/w0<=i
def SH.put{w0 u u':au}{F0 F:Nat->Prop}{sh g s o t k:Nat}{M:Sm}{occ:aC}{L:h_}(h:SH w0 F0 u sh g s o t M occ L F)(hk:¬F k)(hs:sh≠k)(h0:w0<=k)(m:Mod (λi=>i=k) u u'):SH w0 F0 u' sh g s o t M occ L F:=
 ⟨h.e.same λi hi=>m.same i (h.e.lt hi) (λq=>hk (q▸hi)),⟨h.r.row.same (m.same sh h.r.row.lt hs)⟩,h.n,h.m.A m (λi hi=>.inr U),h.f⟩
def BJ(b:Int):(kE b).size<=1000000:=by
 unfold kE;split
 ·exact eG _
 ·rw[dG]
  cases h:u_[b.toNat]? with
  |none=>exact eG _
  |some x=>
   have hm:=aQ h;have:∀y∈u_,y.size<=10:=by unfold u_;intro y hy;simp at hy;rcases hy with rfl|hy<;>first|decide|(repeat' (rcases hy with rfl|hy<;>first|decide|skip))<;>(try subst hy)<;>decide
   have:=this x hm;show x.size<=_;omega
def EY:aq:=ka4 #[108,111,97,100,32,48,32,48,10,97,116,32,48,32,48,32,48]
def tu:aq:=ka4 #[108,111,97,100,32,48,32,48]
def tw:aq:=ka4 #[97,116,32,48,32,48,32,48]
def n_:aq:=ka4 #[48]
def Vj:cT tu=[ka4 #[108,111,97,100],n_,n_]:=by kernel_rfl
def Vk:cT tw=[ka4 #[97,116],n_,n_,n_]:=by kernel_rfl
def awq:xC [n_,n_]=some ((0,0),[]):=by kernel_rfl
def awr:kI [n_,n_,n_]=some ((0,0,0),[]):=by kernel_rfl
section
variable{w:au}{B n:Nat}{v:aC}{xs:LV}(h:w.ownsRow B 5 1 v n xs)
def R6{w':au}(hk:∀i,v.ownBlock=some i->w'.heap[i]? =w.heap[i]?):w'.ownsRow B 5 1 v n xs:=by have⟨h1,h2⟩:=h;refine⟨h1,h2.imp id ?_⟩;rintro⟨g,cap,cur,rfl,q1,q2,q3⟩;exact⟨g,cap,cur,rfl,q1,(hk g rfl).trans q2,q3⟩
def ym{i:Nat}(hi:v.ownBlock=some i):B<=i/\i<w/\∃cs,w.heap[i]? =some (.cells cs 5 (0,0)):=by
 obtain⟨-,h2⟩:=h;rcases h2 with⟨rfl,-⟩|⟨g,cap,cur,rfl,q1,q2,-⟩
 ·cases hi
 ·cases hi
  exact⟨q1,(oQ.1 q2).1,_,q2⟩
variable{xs:aa}{a:Nat}
def ae0(h:Row w a (xs.map bP) 9):RdK w ⟨O a,xs.length,xs.length⟩ 1 (xs.map sv):=by
 refine⟨(aK _).symm,λq hq=>?_,λi q hi j v hj=>?_⟩
 ·obtain⟨t,-,rfl⟩:=bc.1 hq;rfl
 ·rw[aW]at hi;obtain⟨t,ht,rfl⟩:=wM.1 hi
  cases j with
  |succ j=>simp at hj
  |zero=>
   simp at hj;subst hj;rw[aF,h.ld,aW];simp[ht]
def wW(L:aa)(p:Nat):Prop:=p<100/\∃l,L[p]? =some l/\cT l≠[]
open Classical in
noncomputable def nO(L:aa)(T:Nat->aq):Nat->List UInt8
 |0=>[]
 |p+1=>nO L T p++if wW L p then bl (T p)++[10]else []
variable{L:aa}{T:Nat->aq}{p:Nat}
def Hk(h:wW L p):nO L T (p+1)=nO L T p++(bl (T p)++[10]):=by rw[nO,if_pos h]
def ai0(h:¬wW L p):nO L T (p+1)=nO L T p:=by rw[nO,if_neg h,oV]
structure Rst(w:au)(L:aa)(T:Nat->aq)(f_:Nat->Nat->(Nat->Prop)->k_)(sh ka kb p:Nat)(F:Nat->Prop)(q:ai)(v:aC)(u:au):Prop where
 i:f_ sh p F u
 f:∀i,F i->w<=i
 a:Row u ka (L.map bP) 9
 an:¬F ka
 ag:w<=ka
 b:Row u kb [.pointer q,v] 112
 bn:¬F kb
 bg:w<=kb
 pp:q=none\/q=O kb
 o:u.ownsRow w 5 1 v (nO L T p).length (Lib.byteCells (nO L T p))
 on:∀i,v.ownBlock=some i->¬F i
 x:Ext w u
 z:(nO L T p).length<=p*1000001
variable{xs:ae}
def ae1{g:Nat}{cs:LV}{t E:aB}(h:Row w g cs t)(h2:w.heap[g]? =some (.cells xs E (0,0))):t=E:=by have h:w.heap[g]? =_:=h;rw[h]at h2;injection h2 with h2;injection h2
def Rst.ob{f_:Nat->Nat->(Nat->Prop)->k_}{sh b:Nat}{F:Nat->Prop}{pp:ai}{u:au}(h:Rst w L T f_ sh a b p F pp v u):v.ownBlock≠some b/\v.ownBlock≠some a:=by
 refine⟨λq=>?_,λq=>?_⟩
 ·obtain⟨-,-,cs,hc⟩:=ym h.o q
  cases ae1 h.b hc
 ·obtain⟨-,-,cs,hc⟩:=ym h.o q
  cases ae1 h.a hc
def aer{m:Int}(hm:w.cell? ⟨0,0,none⟩=some (S m))(script:aq)(nR:script.size<4294967281)(L:aa)(hL:Lib.splitB (ByteArray.mk #[10]) 0 (Lib.countB script (ByteArray.mk #[10])) script=L)(hn:L.length=Lib.countB script (ByteArray.mk #[10])+1) (hls:∀l∈L,l.size<=4294967296)(hlm:L.length<=1000000)(T:Nat->aq)(f_:Nat->Nat->(Nat->Prop)->k_) (fK:∀sh p F u,f_ sh p F u->∀i,F i->i<u.heap.size) (hsame:∀sh p F u u',f_ sh p F u->(∀i,F i->u'.heap[i]? =u.heap[i]?)->f_ sh p F u') (vt:∀u sh g s o t F,EF F u g s o t (FO 1 9 200000 16) PE OT->FN u sh g->¬F sh->∃F',f_ sh 0 F' u/\∀i,F' i->F i\/i=sh) (hskip:∀sh p F u,f_ sh p F u->¬wW L p->f_ sh (p+1) F u) (hstep:∀sh p F u line,Ext w u->(∀i,F i->w.heap.size<=i)->f_ sh p F u->L[p]? =some line->p<100->cT line≠[]->Y 14 #[.pointer (O sh),.string line] u λe u'=>e=Value.string (T p)/\(T p).size<=1000000/\∃F',f_ sh (p+1) F' u'/\Mod F u u'/\∀i,F' i->F i\/u.heap.size<=i): ed 29 #[.string script] w (Value.string ⟨(nO L T L.length).toArray⟩):=by
 apply aag.B;refine(Gu w).mono ?_;rintro _ w0 ⟨sh,g,s,o,t,F,rfl,hE,hS,hF,x0,hFw,aH4⟩;refine⟨_,rfl,?_⟩;intro w2 e2;have x2:Ext w0 w2:=by rw[e2];exact Ext.al _ _
 have z2:=fD e2;have lk:Row w2 w0 [i_,.slice none 0 0] 112:=Row.nw e2;have nA:w2.cell? ⟨0,0,none⟩=some (S m):=by have:Vc.ld w (some ⟨0,0,none⟩)=some (S m):=hm;exact(x0.A x2).ld this
 refine(Tryz.strings_Split script (ByteArray.mk #[10]) m w2 nR nA X).F λw3 e3=>?_
 rw[hL]at e3;rw[<-hn];have x3:Ext w2 w3:=by rw[e3];exact Ext.al _ _
 have z3:=fD e3;have Ou:Row w3 w2 (L.map Value.string) 9:=by rw[e3];exact Row.new _ _ _
 have z0:=x0.size;obtain⟨F0,hI0,hF0⟩:=vt w3 sh g s o t F (hE.ext (x2.A x3)) ⟨hS.row.ext (x2.A x3)⟩ hF;have f0:∀i,F0 i->w.heap.size<=i/\i<w0.heap.size:=λi hi=>(hF0 i hi).elim (λq=>⟨hFw i q,hE.lt q⟩) (λq=>by have:=hS.row.lt;omega)
 refine⟨⟨O w2.heap.size,L.length,L.length⟩,rfl,x3.k,?_⟩;refine⟨λn x u=>∃p:Nat,x=(p:Int)/\p+n=L.length/\∃F pp v,Rst w L T f_ sh w2 w0.heap.size p F pp v u,⟨L.length,0,rfl,U,F0,none,.slice none 0 0,?_⟩,?_⟩
 ·refine⟨hI0,λi hi=>(f0 i hi).1,Ou,λq=>by have:=f0 _ q;omega,U,lk.ext x3,λq=>by have:=f0 _ q;omega,z0,.inl rfl,⟨rfl,.inl ⟨rfl,rfl⟩⟩,λi hi=>(by cases hi),x0.A (x2.A x3),eG _⟩
 ·rintro n us x u ⟨p,rfl,hp,F,pp,v,h⟩;have Ow:=h.ob;apply Z.mk<;>intro c
  ·have c:=of_decide_eq_true c;have S7:p<L.length:=by simpa using c
   obtain⟨line,hline⟩:∃l,L[p]? =some l:=⟨_,cK S7⟩;have wk:=nE (j:=p);have gF:=ae0 h.a;refine⟨gF.jX X U (by simpa using S7),line,?_,?_⟩
   ·have:=gF.rd p [.string line] (by rw[aW,hline];rfl) 0 _ rfl;simpa using this
   ·have skip:∀u',Ext u u'->¬wW L p->∃n10,n10<n/\∃q:Nat,(I ((p:Int)+1))=(q:Int)/\q+n10=L.length/\∃F pp v,Rst w L T f_ sh w2 w0.heap.size q F pp v u':=by intro u' xu lp;refine⟨n-1,U,p+1,wk,U,F,pp,v,?_⟩;have eo:nO L T (p+1)=nO L T p:=ai0 lp;exact⟨hsame _ _ _ _ _ (hskip _ _ _ _ h.i lp) λi hi=>xu.heap (fK _ _ _ _ h.i i hi),h.f,h.a.ext xu,h.an,h.ag,h.b.ext xu,h.bn,h.bg,h.pp,by rw[eo];exact R6 h.o λi hi=>xu.heap (ym h.o hi).2.1,h.on,h.x.A xu,by have:=h.z;have e:=congrArg List.length eo;omega⟩
    refine Z.mk (λc1=>?_) (λc1=>skip u (Ext.M _) λq=>by have:=q.1;simp at c1;omega);have alT:p<100:=by have:=of_decide_eq_true c1;omega
    refine(HH line u (hls _ (aQ hline))).mono ?_;rintro _ u1 ⟨sl,rfl,hrw,-,-,x1⟩;refine⟨sl,rfl,?_⟩;have tE:sl.n=(cT line).length:=by rw[hrw.n,aK]
    refine Z.mk (λc2=>?_) (λc2=>skip u1 x1 λq=>?_)
    ·have gl:cT line≠[]:=λq=>by rw[q]at tE;simp[tE]at c2
     have htl:wW L p:=⟨alT,line,hline,gl⟩;have hFs:∀i,F i->i<u.heap.size:=fK _ _ _ _ h.i;refine(hstep sh p F u1 line (h.x.A x1) h.f (hsame _ _ _ _ _ h.i λi hi=>x1.heap (hFs i hi)) hline alT gl).mono ?_;rintro _ u2 ⟨rfl,hsT,F',hI',hm',dP⟩;have z1:=x1.size;have z2':=hm'.size;have Yx:=h.b.lt;have ha1:=h.a.lt;have kb:Row u2 w0 [.pointer pp,v] 112:=(h.b.ext x1).same (hm'.same _ U h.bn);have ka:Row u2 w2 (L.map Value.string) 9:=(h.a.ext x1).same (hm'.same _ U h.an);have ko:u2.ownsRow w 5 1 v (nO L T p).length (Lib.byteCells (nO L T p)):=R6 h.o λi hi=>(hm'.same _ (by have:=(ym h.o hi).2.1;omega) (h.on i hi)).trans (x1.heap (ym h.o hi).2.1)
     have nF':∀i,¬F i->i<u1.heap.size->¬F' i:=λi hn hi q=>(dP i q).elim hn (λq=>by omega)
     refine⟨T p,rfl,?_,?_⟩
     ·have e1:(ByteArray.mk #[10]).size=1:=rfl;have e2:IntKind.i64.max=9223372036854775807:=by decide
      rw[e1,e2];omega
     have hzs:(T p++ByteArray.mk #[10]).size=(T p).size+1:=by rw[ByteArray.size_append];rfl
     have hz:=h.z;refine(Ca (B:=w.heap.size) (bs:=Lib.byteCells (nO L T p)) (T p++ByteArray.mk #[10]) h.pp kb (by rw[Lib.byteCells_length];exact ko) Ow.1 (by rw[Lib.byteCells_length];omega) (by have:=h.x.size;omega)).mono ?_;rintro _ u3 ⟨rfl,⟨v',kb3,ko3,hne3,hfr3⟩,hm3,-⟩;have eo:nO L T (p+1)=nO L T p++bl (T p++ByteArray.mk #[10]):=by rw[Hk htl,acZ]
     have ecells:Lib.byteCells (nO L T p)++Lib.strCells (T p++ByteArray.mk #[10])=Lib.byteCells (nO L T (p+1)):=by rw[eo,Lib.byteCells_append];rfl
     rw[ecells,Lib.byteCells_length]at ko3;have hF'lt:∀i,F' i->i<u2.heap.size:=fK _ _ _ _ hI';have at5:¬F' w0:=nF' _ h.bn U;have at6:∀i,v.ownBlock=some i->¬F' i:=λi hi=>nF' i (h.on i hi) (by have:=(ym h.o hi).2.1;omega)
     have aAO:¬F' w2:=nF' _ h.an U;refine⟨_,_,rfl,n-1,U,p+1,wk,U,F',O w0.heap.size,v',hsame _ _ _ _ _ hI' λi hi=>hm3.same i (hF'lt i hi) (λq=>q.elim (λq=>at5 (q▸hi)) (λq=>at6 i q hi)),λi hi=>(dP i hi).elim (h.f i) (λq=>by have:=h.x.size;omega),ka.same (hm3.same _ U (λq=>q.elim U (λq=>Ow.2 q))),aAO,h.ag,kb3,at5,h.bg,.inr rfl,ko3,λi hi=>(hfr3 i hi).elim (at6 i) (λq hF=>by have:=hF'lt i hF;omega),?_,?_⟩
     ·refine hm3.ext (hm'.ext (h.x.A x1) λi hi=>h.f i hi) λi hi=>?_
      rcases hi with rfl|hi
      ·exact h.bg
      ·exact(ym h.o hi).1
     ·have e:=congrArg List.length eo;rw[cj,jQ,hzs]at e;omega
    ·obtain⟨-,l,hl,gl⟩:=q;rw[hline]at hl
     cases hl
     refine gl (ur.1 ?_);have:¬(sl.n:Int)>0:=by simpa using c2
     omega
  ·have c:=of_decide_eq_false c;have hpn:p=L.length:=by
    have:¬(p<L.length):=by simpa using c
    omega
   subst hpn;have hB:Lib.IsBuilder 112 5 w.heap.size w0.heap.size (Lib.byteCells (nO L T L.length)) u:=by
    have ho:u.ownsRow w 5 1 v (Lib.byteCells (nO L T L.length)).length (Lib.byteCells (nO L T L.length)):=by rw[Lib.byteCells_length];exact h.o
    rcases h.pp with q|q
    ·exact .inl ⟨h.bg,v,by have:=h.b;rw[q]at this;exact this,ho,Ow.1⟩
    ·exact .inr ⟨h.bg,v,by have:=h.b;rw[q]at this;exact this,ho,Ow.1⟩
   refine(Tryz.Builder_String_any _ _ _ u hB h.x.size).F λfm b19=>?_
   exact⟨_,rfl,rfl,h.x.trans b19⟩
end
def St(M:Sm)(sh:Nat)(F:Nat->Prop)(u:au):Prop:=∃(g s o t:Nat)(F0:Nat->Prop),EF F0 u g s o t M PE OT/\FN u sh g/\¬F0 sh/\F=λi=>F0 i\/i=sh
def amE(aj limit room:Int){l:List En}(hl:(l.length:Int)<limit){p:Po}(hp:EP p)(hn:∀e∈l,e.1≠p):yO aj limit (T9 room) l p=((T9 room,l++[(p,made aj p,false,0)]),0):=by
 have hr:fU limit (T9 room) l=((T9 room,l),0):=by unfold fU;rw[if_pos hl]
 have hd:(Go.bW.pU (T9 room) (Bk p)).1=[]:=by unfold T9;rw[air]
 have hf:bK (λe:En=>e.1==p) l= -1:=mX λy hy=>by simpa using hn y hy
 unfold yO;rw[if_neg (ds hp),if_neg (by rw[hf];decide),hr,if_neg bo];simp only[hd,Vi]
abbrev G_:Sm:={FO 1 9 200000 16 with T:=(yO 1 (FO 1 9 200000 16).cap (FO 1 9 200000 16).T.1 (FO 1 9 200000 16).T.2 (0,0)).1}
def akP:yO 1 9 (T9 200000) [] (0,0)=((T9 200000,[((0,0),made 1 (0,0),false,0)]),0):=amE 1 9 200000 (l:=[]) X X bo
def aeq(aj:Int)(M:ab)(hM:M=made aj (0,0)):jc [(((0,0),M,false,0):En)] (0,0,0)=1:=by
 have h0:M[0]? =some 1:=by rw[hM,Q7 aj (0,0) X];unfold TM;rw[if_neg X,if_pos (.inl X)]
 show Z3 (0,0) M (0,0,0)=1;have hk:Q8 (0,0) (0,0,0)=true:=by decide
 unfold Z3;rw[hk,if_pos rfl];show T_ M 0=1;unfold T_;rw[if_neg X,dG];show(M[0]?).getD (-1)=1;rw[h0];rfl
def awo:(yO 1 (FO 1 9 200000 16).cap (FO 1 9 200000 16).T.1 (FO 1 9 200000 16).T.2 (0,0)).2=0:=by
 have e:(FO 1 9 200000 16).cap=9:=by decide
 rw[e];show(yO 1 9 (T9 200000) [] (0,0)).2=0;rw[akP]
def awp:jc G_.T.2 (0,0,0)=1:=by
 have e:(FO 1 9 200000 16).cap=9:=by decide
 show jc (yO 1 (FO 1 9 200000 16).cap (T9 200000) [] (0,0)).1.2 (0,0,0)=1;rw[e,akP];exact aeq 1 _ rfl
def aq7:aq:=ka4 #[111,107,10,115,116,111,110,101,10]
def T0(p:Nat):aq:=if p=0 then ka4 #[111,107]else qS 1
def Q9:qS 1=ka4 #[115,116,111,110,101]:=by kernel_rfl
def aai:nO [tu,tw] T0 2=bl aq7:=by have h0:wW [tu,tw] 0:=⟨X,tu,rfl,by rw[Vj];exact List.cons_ne_nil _ _⟩;have h1:wW [tu,tw] 1:=⟨X,tw,rfl,by rw[Vk];exact List.cons_ne_nil _ _⟩;rw[Hk h1,Hk h0];show []++(bl ⟨#[111,107]⟩++[10])++(bl (qS 1)++[10])=_;rw[Q9];rfl
open Go.dS Go.ej Go.fY
def CA(s:aq)(w:au):ed 237 #[.string s] w (bT #[S (Nd s).1,.bool (Nd s).2]):=by
 apply Q6.B;refine(qX w).F λw0 x0=>?_
 refine⟨_,_,_,_,_,_,_,_,_,_,_,_,_,_,_,_,rfl,?_⟩;refine⟨λn x wr=>∃k:Nat,x=k/\k+n=16/\Ext w wr/\∀j:Nat,j<k->D9 s j=false,⟨16,0,rfl,rfl,x0,λj hj=>by omega⟩,?_⟩;rintro n us x wr ⟨k,rfl,hk,xr,hn⟩;apply Z.mk<;>intro h<;>simp at h
 ·have hw:=aL (n:=(k:Int)+1) j_;have next:D9 s k=false->∃n22,n22<n/\∃k_1:Nat,I ((k:Int)+1)=↑k_1/\k_1+n22=16/\Ext w wr/\∀j:Nat,j<k_1->D9 s ↑j=false:=by
   intro hf;refine⟨n-1,U,k+1,U,U,xr,λj hj=>?_⟩;rcases iR j k with fK|S5
   ·exact hn j fK
   ·obtain rfl:j=k:=by omega
    exact hf
  refine⟨⟨U,h⟩,_,aek k U h,Z.mk (λh1=>Z.mk (λh2=>?_) (λh2=>?_)) (λh1=>?_)⟩
  ·have hm:cN k=true:=by rw[GZ];intro e;rw[kD]at h1;rw[e]at h1;simp[<-h1]at h2;exact absurd ((kD ⟨#[]⟩ ⟨#[]⟩).2 rfl) (by simp[h2])
   rw[ael U hn (by unfold D9;rw[hm,h1];rfl)];exact⟨rfl,xr⟩
  ·refine next ?_;have V9:gu s ⟨#[]⟩=true:=by simpa using h2
   rw[kD]at h1 V9;have:cN k=false:=by
    have:=GZ k
    cases hm:cN k<;>simp_all
   unfold D9;rw[this];rfl
  ·exact next (by unfold D9;rw[h1];simp)
 ·rw[Z6 (λj hj=>hn j U)];exact⟨rfl,xr⟩
def ZF(ws:aa):Option (Int×aa):=match Da ws with|none=>none|some (t,r)=>if(Nd t).2 then some ((Nd t).1,r)else none
def adX{w:au}{B g:Nat}{ws:aa}(h:AG w B g ws):Y 168 #[g] w λe w'=>PR w B g (ZF ws) (.int .i64 ·) e w':=by
 apply Cm.B;refine(vH h).mono ?_;rintro e w0 ⟨m0,hp⟩;unfold ZF
 cases hw:Da ws with
 |none=>
  rw[hw]at hp;subst hp;exact⟨m0,rfl⟩
 |some x=>
  have⟨t,r⟩:=x;rw[hw]at hp;obtain⟨rfl,ha⟩:=hp;refine⟨t,rfl,(CA t w0).F λw2 x2=>?_⟩;refine⟨_,_,rfl,(mj _ w2).mono ?_⟩;rintro e w5 ⟨he,rfl⟩;have m5:Mod (λi=>i=g) w w5:=m0.trans (Mod.P x2);simp only
  cases hb:(Nd t).2 with
  |true=>
   rw[hb]at he;simp only[if_true]at he;subst he;exact⟨rfl,m5,rfl,ha.ext x2⟩
  |false=>
   rw[hb]at he;simp only[Bool.false_eq_true,if_false]at he;subst he;exact⟨m5,rfl⟩
def adl{u v:au}{xs:LV}{txs:aa}(hv:v=u.alloc (.cells xs.toArray 20))(hl:txs.length=xs.length)(hn:xs.length<=1000)(hit:∀(i:Nat) x t,xs[i]? =some x->txs[i]? =some t->xD v x t)(nR:∀t∈txs,t.size<=1000000): ed 154 #[.slice (O u) xs.length xs.length] v (bP (eI txs)):=by
 have hr9:Row v u xs 20:=by rw[hv];exact Row.new _ _ _
 have gF:RdK v ⟨O u,xs.length,xs.length⟩ 1 (xs.map λx=>[x]):=by
  refine⟨(aK _).symm,λq hq=>?_,λi q hi j v hj=>?_⟩
  ·obtain⟨t,-,rfl⟩:=bc.1 hq;rfl
  ·rw[aW]at hi;obtain⟨t,ht,rfl⟩:=wM.1 hi
   cases j with
   |succ j=>simp at hj
   |zero=>
    simp at hj;subst hj;rw[aF,hr9.ld];simp[ht]
 refine qP (w:=v) (sl:=⟨O u,xs.length,xs.length⟩) (xs:=xs) (outs:=txs) gF hl (cV hn X) hit ?_;have key:∀l:aa,(∀t∈l,t.size<=1000000)->(Lib.join (l.map (·.data.toList)) [32]).length<=l.length*1000001:=by
  intro l
  induction l with
  |nil=>intro _;exact eG _
  |cons t l ih=>
   intro h;have i1:=ih λx hx=>h x (qQ _ hx)
   have i2:t.data.toList.length<=1000000:=a0a
   cases l with
   |nil=>simp[Lib.join,List.intercalate]at i2⊢;omega
   |cons t2 l2=>
    simp only[eH,Lib.join,List.intercalate,List.intersperse,kX,cj,cL,mV]at i1 i2⊢;omega
 have hk:=key txs nR;omega
noncomputable def aiJ(s:Stepped):Frame:=
 match s with
 | .next m=>match m.gs[0]? with
   |some g=>g.frame
   |none=>default
 |_=>default
def hZ{P:Program}{f:bH}{args:ae}{w w':au}{v:aC}{fn:Func}(n:Nat)(fr:List Frame->Frame)(h5:P.funcs[f]? =some fn)(h:∀cs,runN P n (lone (Frame.enter P f args .normal) cs w)=.next (lone (fr cs) cs w'):=by intro;kernel_rfl)(h1:∀cs,(fr cs).fn=f:=by intro;kernel_rfl)(h2:∀cs,(fr cs).mode=.returning:=by intro;kernel_rfl)(h3:∀cs,(fr cs).defers=[]:=by intro;kernel_rfl)(h4:∀cs,(fr cs).kind=.normal:=by intro;kernel_rfl)(h6:∀cs,(results fn (fr cs).tmps).run P w'=.ok v w':=by intro;kernel_rfl):
  Calls P f args w λe u=>e=v/\u=w':=λcs=>
 ⟨.returned v,w',fr cs,⟨rfl,rfl⟩,⟨n,h cs⟩,h1 cs,h2 cs,h3 cs,h4 cs,fn,by rw[h1 cs];exact h5,h6 cs⟩
noncomputable abbrev Cc(x:Int)(w:au)(n:Nat)(cs:List Frame):Frame:=aiJ (Go.runN ka5 n (lone (Frame.enter ka5 225 #[x] .normal) cs w))
def iX(x:Int):aq:=if x=0 then ka4 #[111,107]else ka4 (#[101,114,114,111,114,32]++(if x<10 then #[UInt8.ofNat (48+x.toNat)]else #[49,UInt8.ofNat (38+x.toNat)]))
def awf(w:au):kh 225 #[(1:Int)] w (Value.string (iX 1)):=
 hZ 51 (Cc 1 w 51) Tryz.func225
def awg(w:au):kh 225 #[(2:Int)] w (Value.string (iX 2)):=
 hZ 51 (Cc 2 w 51) Tryz.func225
def awh(w:au):kh 225 #[(3:Int)] w (Value.string (iX 3)):=
 hZ 51 (Cc 3 w 51) Tryz.func225
def awi(w:au):kh 225 #[(4:Int)] w (Value.string (iX 4)):=
 hZ 51 (Cc 4 w 51) Tryz.func225
def awj(w:au):kh 225 #[(5:Int)] w (Value.string (iX 5)):=
 hZ 51 (Cc 5 w 51) Tryz.func225
def awk(w:au):kh 225 #[(6:Int)] w (Value.string (iX 6)):=
 hZ 51 (Cc 6 w 51) Tryz.func225
def awl(w:au):kh 225 #[(7:Int)] w (Value.string (iX 7)):=
 hZ 51 (Cc 7 w 51) Tryz.func225
def awm(w:au):kh 225 #[(8:Int)] w (Value.string (iX 8)):=
 hZ 51 (Cc 8 w 51) Tryz.func225
def awn(w:au):kh 225 #[(9:Int)] w (Value.string (iX 9)):=
 hZ 51 (Cc 9 w 51) Tryz.func225
def aq2(w:au):kh 225 #[(10:Int)] w (Value.string (iX 10)):=
 hZ 78 (Cc 10 w 78) Tryz.func225
def aq3(w:au):kh 225 #[(11:Int)] w (Value.string (iX 11)):=
 hZ 78 (Cc 11 w 78) Tryz.func225
def aq4(w:au):kh 225 #[(12:Int)] w (Value.string (iX 12)):=
 hZ 78 (Cc 12 w 78) Tryz.func225
def aq5(w:au):kh 225 #[(13:Int)] w (Value.string (iX 13)):=
 hZ 78 (Cc 13 w 78) Tryz.func225
def aaf{x:Int}(h:0<x/\x<14)(w:au):kh 225 #[x] w (bP (iX x)):=by
 have:x=1\/x=2\/x=3\/x=4\/x=5\/x=6\/x=7\/x=8\/x=9\/x=10\/x=11\/x=12\/x=13:=by omega
 rcases this with rfl|rfl|rfl|rfl|rfl|rfl|rfl|rfl|rfl|rfl|rfl|rfl|rfl
 ·exact awf w
 ·exact awg w
 ·exact awh w
 ·exact awi w
 ·exact awj w
 ·exact awk w
 ·exact awl w
 ·exact awm w
 ·exact awn w
 ·exact aq2 w
 ·exact aq3 w
 ·exact aq4 w
 ·exact aq5 w
def fi(x:Int):(iX x).size<=1000000:=by
 unfold iX;split
 ·decide
 ·split<;>simp[ByteArray.size]
def pZ{x:Int}(h:0<=x/\x<14)(w:au):xD w (.iface 168 (x)) (iX x):=by
 by_cases h0:x=0
 ·rw[h0];exact .ok
 ·refine .e x _ h0 λu _=>(aaf (x:=x) U u).V ?_
  exact⟨rfl,Ext.M _⟩
def JR{F:Nat->Prop}{w:au}{sh g s o t:Nat}{M:Sm}{occ:aC}{L:h_}(h:EF F w g s o t M occ L)(hs:FN w sh g)(line:aq)(hl:line.size<=4294967296){c:aq}{r:aa}(hw:cT line=c::r) (i f:Nat)(hi:uF[i]? =some c)(hv:∀c1 c2 c3 c4 c5,(AF sh [c1,c2,c3,c4,c5])[i]? =some (kc f sh))(hen:∀args w,(callFunc f args).run ka5 w=.ok (.enter f args) w) (Q:aq->k_)(gm:∀tx u u',Q tx u->Mod (λi=>i=w.heap.size) u u'->Q tx u') (hcall:∀(u:au)(B ga:Nat),Ext w u->AG u B ga r->w.heap.size<ga->Y f #[sh,ga] u λe u'=>u'.heap[w.heap.size]? =u.heap[w.heap.size]?/\((∃tx,e=bP tx/\Q tx u')\/(e=Io/\Q ⟨#[98,97,100]⟩ u'))): Y 14 #[sh,.string line] w λe w'=>∃tx,e=bP tx/\Q tx w':=by
 refine qZ line hl h hs Q gm ?_ ?_ ?_
 ·intro h1;rw[hw]at h1
  cases h1
 ·intro c' r' h1 h2;rw[hw]at h1
  cases h1
  exact absurd (aQ hi) h2
 ·intro c' r' i' h1 hi' u B ga c1 c2 c3 c4 c5 xu DA hga r1 r2 r3 r4 r5 hcB v hv';rw[hw]at h1
  cases h1
  have hi1:i'=i:=(List.getElem?_inj (i:=i') (j:=i) (cG.1 hi').1 l8).1 (hi'.trans hi.symm);subst hi1;rw[hv]at hv'
  cases hv'
  exact⟨f,#[sh],#[],⟨rfl,hen⟩,hcall u B ga xu DA hga⟩
def XT(x:aC)(t:aB):One [Value.iface t x]:=a0q
def aaw{n:Nat}(h:n<100)(w:au):xD w (.iface 3 (S n)) ⟨(Lib.decDigits n).toArray⟩:=
 .n _ _ λu _=>(Tryz.strconv_Itoa_small n h u).mono λe u' hh=>⟨hh.1,hh.2▸Ext.M _⟩
def Xj(L:h_):aq:=eI ((bh L).map λn=>⟨(Lib.decDigits n.toNat).toArray⟩)
def xH{L:h_}{n:Int}(h:n∈bh L):0<=n/\n<16:=by unfold bh at h;obtain⟨i,hi,rfl⟩:=bc.1 h;have:=(jY.1 hi).1;rw[qc]at this;omega
def UG(L:h_):(bh L).length<=16:=by unfold bh;rw[aK];refine cV (zy _ _) ?_;rw[Gx];exact ak _
def aax{n:Nat}(h:n<100):(ka4 (Lib.decDigits n).toArray).size<=1000000:=by
 have:∀n:Fin 100,(ka4 (Lib.decDigits n.val).toArray).size<=1000000:=by decide+kernel
 exact this ⟨n,h⟩
def P8{F:Nat->Prop}{w:au}{g s o t sh B ga:Nat}{M:Sm}{occ:aC}{L:h_}(h:EF F w g s o t M occ L)(hs:FN w sh g)(ha:AG w B ga []): Calls Tryz.prog 107 #[.pointer (some ⟨sh,0,none⟩),.pointer (some ⟨ga,0,none⟩)] w λe w'=>e=.returned (.string (Xj L))/\Ext w w':=by
 apply qT.B;refine(qW ha).mono ?_;rintro e w0 ⟨e0,he⟩;rw[e0];rw[if_pos rfl]at he;subst he;refine⟨rfl,some ⟨g,0,none⟩,by rw[aF,hs.row.ld];rfl,(Cq h).mono ?_⟩;rintro _ w2 ⟨s3,rfl,ho,x2⟩;refine⟨s3,rfl,?_⟩;have gF:=ho.rd (by decide);have hn:s3.n=(bh L).length:=by rw[gF.n,List.length_map]
 have hln:=UG L;refine⟨λn x sl v=>∃p:Nat,x=(p:Int)/\p+n=s3.n/\ar w2 20 1 v sl (((bh L).take p).map λn=>[.iface 3 (S n)])/\Ext w2 v,⟨s3.n,0,rfl,U,ar.nil,Ext.M _⟩,?_⟩;rintro n1 us x sl v ⟨p,rfl,hp,hos,xv⟩;have S7:((bh L).take p).length=p:=by rw[List.length_take];omega
 have h4:sl.n=p:=by rw[(ar.rd hos (by decide)).n,List.length_map,S7]
 refine Z.mk (λc=>?_) (λc=>?_)
 ·have c:=of_decide_eq_true c;have hpx:p<(bh L).length:=by omega
  obtain⟨y,hy⟩:∃y,(bh L)[p]? =some y:=⟨_,List.getElem?_eq_getElem hpx⟩;have pG:ld v (N s3.a (((p:Nat):Int).toNat*1))=some (S y):=by have:=xv.ld (gF.rd p [S y] (by rw[List.getElem?_map,hy];rfl) 0 _ rfl);simpa using this
  refine⟨gF.jX (by decide) (by omega) (by omega),y,pG,λbN ui=>?_⟩;subst ui;have⟨a1,a2⟩:=hos.l6 (bytes:=16) (news:=[.iface 3 (S y)]) (.cells #[.iface 3 (S y)] 20) xv.size rfl (XT _ _) (by omega) (by omega);refine⟨a1,λkP cp bq=>?_⟩;obtain⟨b1,b2,b3,b4,-⟩:=a2 kP cp bq;refine⟨b1,n1-1,U,p+1,by rw[wI];omega,U,?_,Below.trans xv b4⟩;rw[List.take_add_one,hy,List.map_append];exact b2
 ·have c:=of_decide_eq_false c;have hpe:p=(bh L).length:=by omega
  rw[List.take_of_length_le (by omega)]at hos;have hrs:=ar.rd hos (by decide);have hrs:RdK v ⟨sl.a,sl.n,sl.c⟩ 1 (((bh L).map λn=>Value.iface 3 (S n)).map λx=>[x]):=by rw[List.map_map];exact hrs
  have hj:∀l:ab,(∀n∈l,0<=n/\n<16)->(Lib.join ((l.map λn=>ByteArray.mk (Lib.decDigits n.toNat).toArray).map (·.data.toList)) [32]).length<=l.length*1000001:=by
   intro l
   induction l with
   |nil=>intro _;exact Nat.zero_le _
   |cons a l ih=>
    intro hl;have i1:=ih λx hx=>hl x (List.mem_cons_of_mem _ hx)
    have i2:=aax (n:=a.toNat) (a1N (hl a (List.mem_cons_self ..)));have i2:(Lib.decDigits a.toNat).length<=1000000:=i2
    cases l with
    |nil=>simp[Lib.join,List.intercalate]at i2⊢;omega
    |cons t2 l2=>
     simp only[List.map_cons,Lib.join,List.intercalate,List.intersperse,List.flatten_cons,List.length_append,List.length_cons,List.length_nil]at i1 i2⊢;omega
  refine(qP (w:=v) (sl:=⟨sl.a,sl.n,sl.c⟩) (xs:=(bh L).map λn=>Value.iface 3 (S n)) (outs:=(bh L).map λn=>⟨(Lib.decDigits n.toNat).toArray⟩) hrs (by rw[List.length_map,List.length_map]) (by rw[List.length_map];omega) ?_ ?_).mono ?_
  ·intro i y tt hy ht;rw[List.getElem?_map]at hy ht;obtain⟨k,hk,rfl⟩:=Option.map_eq_some_iff.1 hy;rw[hk]at ht
   cases ht
   have EG:=xH (List.mem_of_getElem? hk);have:=aaw (n:=k.toNat) (by omega) v;rw[show((k.toNat:Nat):Int)=k by omega]at this;exact this
  ·have:=hj (bh L) λn hn=>xH hn
   omega
  ·rintro _ c9 ⟨rfl,dn⟩;exact⟨_,rfl,rfl,x2.A (xv.A dn)⟩
def HD:∀l:aa,(∀t∈l,t.size<=1000000)->(Lib.join (l.map (·.data.toList)) [32]).length<=l.length*1000001
 | [],_=>eG _
 |t::l,h=>by
  have i1:=HD l λx hx=>h x (qQ _ hx)
  have i2:t.data.toList.length<=1000000:=a0a
  cases l with
  |nil=>simp[Lib.join,List.intercalate]at i2⊢;omega
  |cons t2 l2=>
   simp only[eH,Lib.join,List.intercalate,List.intersperse,kX,cj,cL,mV]at i1 i2⊢;omega
def aaO{w:au}{sl:H}{xs:LV}{txs:aa}(h:RdK w sl 1 (xs.map λx=>[x]))(hl:txs.length=xs.length)(hn:xs.length<=1000)(hit:∀(i:Nat) x t,xs[i]? =some x->txs[i]? =some t->xD w x t)(nR:∀t∈txs,t.size<=1000000): ed 154 #[sl] w (bP (eI txs)):=by
 refine qP (w:=w) (sl:=sl) (xs:=xs) (outs:=txs) h hl (cV hn X) hit ?_;have hk:=HD txs nR;omega
def vk(l:List En):LV:=(l.map λe=>[Value.iface 3 (S e.1.1),Value.iface 3 (S e.1.2)]).flatten
def wP(it:Int->aq)(l:List En):aa:=(l.map λe=>[it e.1.1,it e.1.2]).flatten
def HE(l:List En):(vk l).length=2*l.length:=by
 unfold vk
 induction l with
 |nil=>rfl
 |cons a l ih=>rw[eH,kX,cj,ih];simp;omega
def Ka(it:Int->aq)(l:List En):(wP it l).length=2*l.length:=by
 unfold wP
 induction l with
 |nil=>rfl
 |cons a l ih=>rw[eH,kX,cj,ih];simp;omega
def RZ{w:au}{it:Int->aq}:∀(l:List En),(∀e∈l,xD w (.iface 3 (S e.1.1)) (it e.1.1)/\xD w (.iface 3 (S e.1.2)) (it e.1.2))->∀(i:Nat) x t,(vk l)[i]? =some x->(wP it l)[i]? =some t->xD w x t
 | [],_,i,x,t,hx,_=>by simp[vk]at hx
 |a::l,h,i,x,t,hx,ht=>by
  have h0:=h a (ka2 ..)
  have ih:=RZ l λe he=>h e (qQ _ he)
  have e1:vk (a::l)=Value.iface 3 (a.1.1)::Value.iface 3 (a.1.2)::vk l:=rfl
  have e2:wP it (a::l)=it a.1.1::it a.1.2::wP it l:=rfl
  rw[e1]at hx
  rw[e2]at ht
  match i with
  |0=>simp at hx ht;subst hx;subst ht;exact h0.1
  |1=>simp at hx ht;subst hx;subst ht;exact h0.2
  |i+2=>simp at hx ht;exact ih i x t hx ht
def P9{F:Nat->Prop}{w:au}{g s o t sh B ga:Nat}{M:Sm}{occ:aC}{L:h_}(h:EF F w g s o t M occ L)(hs:FN w sh g)(ha:AG w B ga []){it:Int->aq} (hit:∀u,Ext w u->∀e∈M.T.2,xD u (.iface 3 (S e.1.1)) (it e.1.1)/\xD u (.iface 3 (S e.1.2)) (it e.1.2))(hn:M.T.2.length<=400)(nR:∀n,(it n).size<=1000000): ed 108 #[sh,ga] w (bP (eI (wP it M.T.2))):=by
 apply qU.B;refine(qW ha).mono ?_;rintro e w0 ⟨e0,he⟩;rw[e0];rw[if_pos rfl]at he;subst he;obtain⟨Fs,hS,Eu,-,-⟩:=h.EN;obtain⟨Fw,hW,-,-⟩:=hS.world;refine⟨rfl,O g,by rw[aF,hs.row.ld];rfl,cA.2 ⟨rfl,cA.2 ⟨rfl,O s,Eu,(cZ hS).V ?_⟩⟩⟩;refine⟨_,rfl,(gx hW).V ?_⟩;obtain⟨Ft,hT,-⟩:=hW.table;refine⟨_,rfl,(uu hT).mono ?_⟩;rintro _ w7 ⟨s8,rfl,ho,x7⟩;refine⟨s8,rfl,?_⟩;have gF:=ho.rd X;have hn8:s8.n=M.T.2.length:=by rw[gF.n,aK]
 refine⟨λn x sl v=>∃p:Nat,x=(p:Int)/\p+n=s8.n/\ar w7 20 1 v sl ((vk (M.T.2.take p)).map λx=>[x])/\Ext w7 v,⟨s8.n,0,rfl,U,ar.nil,Ext.M _⟩,?_⟩;rintro n1 us x sl v ⟨p,rfl,hp,hos,xv⟩;have S7:(M.T.2.take p).length=p:=by rw[cS];omega
 have h4:sl.n=2*p:=by rw[(ar.rd hos X).n,aK,HE,S7]
 apply Z.mk<;>intro c
 ·have c:=of_decide_eq_true c;have hpx:p<M.T.2.length:=by omega
  obtain⟨y,hy⟩:∃y,M.T.2[p]? =some y:=⟨_,cK hpx⟩;have pG:ah v (N s8.a (((p:Nat):Int).toNat*2)) 0 [S y.1.1,S y.1.2]:=by have:=(gF.ext xv).y (i:=p) (r:=[S y.1.1,S y.1.2]) (by rw[aW,hy];rfl);simpa using this
  refine⟨gF.jX X U U,_,_,pG,λdA Ot fm Td eQ wx=>?_⟩;have dc:Ext v dA:=by rw[Ot];exact Ext.al _ _
  have m19:=iu dA v #[S y.1.1,S y.1.2];rw[<-Td]at m19;have dQ:Ext v fm:=m19.ext dc (λi hi=>by omega);have fe:Ext fm eQ:=by rw[wx];exact Ext.al _ _
  have z20:=fD wx;have z19:=dQ.size;have zv:=xv.size;have⟨a1,a2⟩:=(hos.ext (dQ.A fe)).FB (bytes:=16) (more:=[[.iface 3 (S y.1.1)],[.iface 3 (S y.1.2)]]) U (λr hr=>a0g) (λr hr=>by simp at hr;rcases hr with rfl|rfl<;>exact XT _ _) m_ m_;refine⟨a1,λTx dh bq=>?_⟩;obtain⟨b1,b2,b3,b4,-⟩:=a2 Tx dh bq;have xw:=(xv.A dQ).A fe;have aV:∀j,v.heap.size<=j->j<eQ.heap.size->dh.heap[j]? =eQ.heap[j]? :=λj h1 h2=>b4 j (λq=>a1N ((hos.own.lt q).2)) h2
  refine⟨aV _ U U,aV _ U U,n1-1,U,p+1,by rw[wI];omega,U,?_,Below.trans xw b3⟩
  ·rw[dq,hy];have e:vk (M.T.2.take p++[y])=vk (M.T.2.take p)++[.iface 3 (S y.1.1),.iface 3 (S y.1.2)]:=by unfold vk;rw[cl,zm];rfl
   show ar _ _ _ _ _ ((vk (M.T.2.take p++[y])).map _);rw[e,cl];exact b1
 ·have c:=of_decide_eq_false c;have hpe:p=M.T.2.length:=by omega
  rw[dN U]at hos;have hrs:=ar.rd hos X;refine(aaO (sl:=⟨sl.a,sl.n,sl.c⟩) (txs:=wP it M.T.2) hrs (by rw[Ka,HE]) (by rw[HE];omega) (RZ _ (hit v (x7.A xv))) (λtt ht=>?_)).mono ?_
  ·unfold wP at ht;have⟨l,hl,ht⟩:=List.mem_flatten.1 ht;obtain⟨e,-,rfl⟩:=bc.1 hl;simp at ht;rcases ht with rfl|rfl<;>exact nR _
  ·rintro _ c9 ⟨rfl,dn⟩;exact⟨_,rfl,rfl,x7.A (xv.A dn)⟩
open Tryz
variable{R:l_}{w:au}{a0 a1 a2:Int}
def D5.B{a0:Addr}{a2:H}(h:(λA B=>(Pv w (N (some a0) 3) 1 [S (if 1099511627776<A then 1099511627776 else A)] λw0=>Y 174 #[(4096:Int)] w0 (nH λp2 w1=>(Pv w1 B 1 [.pointer p2] λw3=>eO w3 B λp4=>Y 249 #[p4,a2] w3 (fw λx6 w5=>R x6 w5))))) (if 0>a1 then 0 else a1) (N (some a0) 0)):Y 186 #[a0,a1,a2] w R:= cq bz func186 h
def IX.B{c0:Addr}{c1:Addr}(h:(λA B=>∃J0:k_,(lR w A λs1=>Z (decide (a0>((s1.n:Nat):Int))) ((Pv w (some c1) 1 [.bool false] λw2=>(Pv w2 A 1 [.slice none 0 0] λw3=>R (0:Int) w3))) (J0 w))/\∀us4:Nat->aC,∀(w5:au),J0 w5->lR w5 A λs6=>(λAa=>(0:Int)<=a0/\a0<=((s6.c:Nat):Int)/\qx (λI7 n8=>I7 n8 (0) (0) w5) λI7 n8 us9 bL bS bN=>Z (decide (bL<(((B.toNat-0):Nat):Int))) (gD Aa bL (B.toNat-0)/\∃(cY:Int),ld bN (N Aa ((bL:Int).toNat*1))=some (.int .u8 cY)/\∃n13,n13<n8/\I7 n13 ((I (bL+1))) ((TJ .i64 (I (bS*2^(min (8:Int).toNat 64))) (I cY))) bN) (lR bN A λqp=>(0:Int)<=a0/\a0<=((qp.n:Nat):Int)/\(Pv bN A 1 [.slice (aE qp.a (B.toNat) (qp.c) 1) (qp.n-B.toNat) (qp.c-B.toNat)] λbZ=>R bS bZ))) (aE s6.a (0) (s6.c) 1)) (some c0) (a0:Int)):Y 304 #[a0,c0,c1] w R:= cq ⟨[(6,⟨[(16,.int .i64),(5,.int .i64)],[],[]⟩)],[(4,⟨[],[],[]⟩)],[]⟩ func304 h
def IY.B{c0:Addr}(h: ∃(v0:aC),ld w (some c0)=some (v0)/\bu ka5 v0 [(6:Int)] w (fw λx2 w1=>∃J3:Int->k_,(Z (x2>=140737488355328) (J3 ((I (x2-281474976710656))) w1) (J3 x2 w1))/\∀us4:Nat->aC,∀(x5:Int)(w6:au),J3 x5 w6->R x5 w6)):Y 305 #[c0] w R:= cq ⟨[],[(4,⟨[(2,.int .i64)],[],[]⟩)],[]⟩ func305 h
def IZ.B{c0:Addr}(h:(λA=>G w #[J,J,J] 73 λw0=>∃(v1:aC),ld w0.drew A=some (v1)/\∃(v2:aC),ld w0.drew A=some (v2)/\bu ka5 v1 [] w0.drew (Ri λx4 w3=>Kp w w0.drew w3/\ah w3 A 0 [v2]/\bu ka5 v2 [] w3 (Ri λx6 w5=>Kp w w3 w5/\∃(v7:aC),ld w5 A=some (v7)/\bu ka5 v7 [] w5 (Ri λx9 w8=>Kp w w5 w8/\Sw w8 w #[x4,x6,x9] λbr=>R (tO #[x4,x6,x9]) br)))) (some c0)):Y 306 #[c0] w R:= cq bz func306 h
def Qy.B{a0:H}(h:(λA B C=>G w #[a0] 43 λw0=>(λAa=>G w0 A 292 λw1=>(λAb=>G w1 #[false] 4 λw2=>Sw w2 w1 #[true] λw3=>(λAc=>G w3 #[.nilFunc] 32 λw4=>∀w5,w5=w4.setRow w3 #[.func (.func 304) #[] #[w,.pointer Ab]]->G w5 #[.nilFunc] 69 λw6=>∀w7,w7=w6.setRow w5 #[.func (.func 305) #[] #[.pointer Ac]]->∃(v8:aC),ld w7 (O w5)=some (v8)/\bu ka5 v8 [] w7 (Ri λbL w9=>(λAd Ae=>Kp w0 w7 w9/\G w9 A 292 λbE=>Sw bE w9 #[bL,i_,i_,i_,i_,i_,i_,i_,i_,i_,i_,i_,i_,i_,i_,i_,i_,.slice none 0 0] λbN=>∃J13:k_,(Mp bN Ab λWc=>Z Wc (jr bN Ae λdn=>Z (dn>=0) (jr bN Ae λdw=>Wr bN Ab 1/\(Pw bN Ab [.bool (decide (dw<=1099511627776))] λcP=>J13 cP)) (Wr bN Ab 1/\(Pw bN Ab B λdA=>J13 dA))) (Wr bN Ab 1/\(Pw bN Ab B λfm=>J13 fm)))/\∀asm:Nat->aC,∀(di:au),J13 di->∃J22:k_,(∃(v23:aC),ld di Ac=some (v23)/\bu ka5 v23 C di (λe ie=>∃(gG:Int),e=gG/\qx (λYs n27=>Ys n27 gG ((-1)) ie) λYs n27 asg kz tF ia=>Z (kz>0) (Mp ia Ab λb33=>Z b33 (∃(v34:aC),ld ia Ac=some (v34)/\bu ka5 v34 C ia (λe iD=>∃(oP:Int),e=oP/\G iD #[J,J,J,J,J,J,J,J,false,J,J,false] 103 λjD=>Y 306 #[.pointer (O w5)] jD (mg λrq rE kA tH=>Kp iD jD tH/\Sw tH iD #[rq,rE,kA,J,J,J,J,J,false,J,J,false] λnS=>Y 306 #[.pointer (O w5)] nS (mg λqE xm oq iO=>Kp iD nS iO/\Sw iO iD #[rq,rE,kA,qE,xm,oq,J,J,false,J,J,false] λoE=>∃(v48:aC),ld oE (O w5)=some (v48)/\bu ka5 v48 [] oE (Ri λBa nB=>Kp iD oE nB/\Sw nB iD #[rq,rE,kA,qE,xm,oq,Ba,J,false,J,J,false] λw51=>∃(v52:aC),ld w51 (O w5)=some (v52)/\bu ka5 v52 [] w51 (Ri λCI w53=>Kp iD w51 w53/\Sw w53 iD #[rq,rE,kA,qE,xm,oq,Ba,CI,false,J,J,false] λyS=>∃(v56:aC),ld yS Ac=some (v56)/\bu ka5 v56 C yS (Ri λFa nv=>Kp iD yS nv/\Sw nv iD #[rq,rE,kA,qE,xm,oq,Ba,CI,.bool (Fa==1),J,J,false] λpH=>∃J60:k_,(Mp pH Ab λb61=>Z b61 (Z (oP>tF) (Z (oP<16) (Z (Fa<=1) (jR pH (O iD) λrD Bo Lb Be rG yB vT yD b70=>Y 48 #[.agg #[rD,Bo,Lb,Be,rG,yB,vT,yD,b70]] pH (λe w71=>∃(b72:aX),e=b72/\Wr w71 Ab 1/\(Pw w71 Ab [.bool b72] λJu=>J60 Ju))) (Wr pH Ab 1/\(Pw pH Ab B λCE=>J60 CE))) (Wr pH Ab 1/\(Pw pH Ab B λuh=>J60 uh))) (Wr pH Ab 1/\(Pw pH Ab B λpB=>J60 pB))) (Wr pH Ab 1/\(Pw pH Ab B λuc=>J60 uc)))/\∀ayq:Nat->aC,∀(K9:au),J60 K9->Mp K9 Ab λb80=>Z b80 ((0:Int)<=oP/\oP<((16:Nat):Int)/\(Pv K9 (N (jM w9 1) ((oP:Int).toNat*1)) 1 [.pointer (O iD)] λwA=>∃n32,n32<n27/\Ys n32 ((I (kz-1))) oP wA)) (∃n32,n32<n27/\Ys n32 ((I (kz-1))) tF K9)))))))) (J22 ia)) (J22 ia)))/\∀aF4:Nat->aC,∀(w83:au),J22 w83->∃J84:k_,(∃(v85:aC),ld w83 Ac=some (v85)/\bu ka5 v85 [(2:Int)] w83 (λe w86=>∃(xl:Int),e=xl/\rP (λI88 n89=>I88 n89 xl w86) λI88 n89 ayf Oz w92=>Z (Oz>0) (Mp w92 Ab λb94=>Z b94 (∃(v95:aC),ld w92 (O w5)=some (v95)/\bu ka5 v95 [] w92 (λe Iz=>∃(La:Int),e=La/\G Iz #[J,J,J,J] 106 λw98=>Sw w98 Iz #[La,J,J,J] λIu=>Y 306 #[.pointer (O w5)] Iu (mg λpK Bg Ew sZ=>(λAf Ag=>Kp Iz Iu sZ/\G sZ #[J,J,J] 73 λabP=>Sw abP sZ #[pK,Bg,Ew] λBj=>Sw Bj Iz Ag λyI=>∃ajZ:k_,(Mp yI.drew Ab λanM=>Z anM (Y 280 #[.agg #[pK,Bg,Ew]] yI.drew (mg λlJ yH lK ud=>Kp Iz yI.drew ud/\ah ud (jM Iz 1) 0 [pK,Bg,Ew]/\ah ud Ab 0 [.bool anM]/\Z ((pK==lJ)&&((Bg==yH)&&(Ew==lK))) (lR ud Ad λayM=>Wr ud Ab 1/\Nb w1 Iz/\(Pw ud Ab [.bool (decide ((((ayM.n:Nat):Int):Int)<2000))] λJA=>aR Af/\ajZ JA)) (Wr ud Ab 1/\Nb w1 Iz/\(Pw ud Ab B λED=>aR Af/\ajZ ED)))) (Wr yI.drew Ab 1/\Nb w1 Iz/\(Pw yI.drew Ab B λayN=>aR Af/\ajZ ayN)))/\∀aC3:Nat->aC,∀(oF:au),ajZ oF->lR oF Ad λasq=>G oF Ag 106 λEz=>bj 32 4 Ez asq 1 Af/\∀(asr:H)(yK:au),aY 106 4 Ez asq 1 Af asr yK->K2 Iz oF Ez yK (Wr yK Ad 1/\Nq Ad Iz/\Nq Ad oF/\(Pw yK Ad [asr] λayO=>∃n93,n93<n89/\I88 n93 ((I (Oz-1))) ayO))) [La,pK,Bg,Ew] #[La,pK,Bg,Ew]))) (J84 w92)) (J84 w92)))/\∀aC5:Nat->aC,∀(oG:au),J84 oG->∃(Ib:Int)(aoQ aoR aoS aoT aoU aoV aoW aoX aoY aoZ ao0 ao1 ao2 ao3 ao4 ao5:ai)(ao6:H),ah oG.drew Ae 0 [Ib,aoQ,aoR,aoS,aoT,aoU,aoV,aoW,aoX,aoY,aoZ,ao0,ao1,ao2,ao3,ao4,ao5,ao6]/\Mp oG.drew Ab λao7=>Z ao7 (lR oG.drew (O w) λass=>Wr oG.drew Aa 18/\(Pw oG.drew Aa [Ib,aoQ,aoR,aoS,aoT,aoU,aoV,aoW,aoX,aoY,aoZ,ao0,ao1,ao2,ao3,ao4,ao5,ao6] λTA=>ah TA w 0 [ass]/\ah TA Ab 0 [.bool ao7]/\∃(Th:Int)(ast asu asv asw asy asz asA asB asC asD asE asF Tp Tq asG asH:ai)(asI:H),ah TA Aa 0 [Th,ast,asu,asv,asw,asy,asz,asA,asB,asC,asD,asE,asF,Tp,Tq,asG,asH,asI]/\R (eP #[.agg #[Th,ast,asu,asv,asw,asy,asz,asA,asB,asC,asD,asE,asF,Tp,Tq,asG,asH,asI],.bool ((((ass.n:Nat):Int):Int)==0)]) TA)) (Wr oG.drew Aa 18/\(Pw oG.drew Aa [Ib,aoQ,aoR,aoS,aoT,aoU,aoV,aoW,aoX,aoY,aoZ,ao0,ao1,ao2,ao3,ao4,ao5,ao6] λao8=>ah ao8 Ab 0 [.bool ao7]/\∃(ajP:Int)(asJ asK asL asM asN asO asP asQ asR asS asT asU asV asW asX asY:ai)(asZ:H),ah ao8 Aa 0 [ajP,asJ,asK,asL,asM,asN,asO,asP,asQ,asR,asS,asT,asU,asV,asW,asX,asY,asZ]/\R (eP #[.agg #[ajP,asJ,asK,asL,asM,asN,asO,asP,asQ,asR,asS,asT,asU,asV,asW,asX,asY,asZ],false]) ao8))) (jM w9 17) (O w9))) (O w3)) (O w1)) (O w0)) #[J,i_,i_,i_,i_,i_,i_,i_,i_,i_,i_,i_,i_,i_,i_,i_,i_,.slice none 0 0] [.bool false] [(1:Int)]):Y 248 #[a0] w R:= cq ⟨[(9,⟨[(10,.int .i64),(9,.int .i64)],[],[]⟩),(23,⟨[(14,.int .i64)],[],[]⟩)],[(20,⟨[],[],[6]⟩),(29,⟨[],[],[7]⟩),(30,⟨[],[],[]⟩),(22,⟨[],[],[]⟩),(7,⟨[],[],[1,5]⟩)],[]⟩ func248 h
def tL.B{a0:Addr}{a1:H}(h:(λA=>Y 248 #[a1] w (λe w0=>∃(x1:Int)(p2 p3 p4 p5 p6 p7 p8 p9 Ie IA wC p13 Bm p15 q_ p17:ai)(s18:H)(b19:aX),e=bT #[.agg #[x1,p2,p3,p4,p5,p6,p7,p8,p9,Ie,IA,wC,p13,Bm,p15,q_,p17,s18],b19]/\G w0 #[J,i_,i_,i_,i_,i_,i_,i_,i_,i_,i_,i_,i_,i_,i_,i_,i_,.slice none 0 0] 292 λeQ=>Sw eQ w0 #[x1,p2,p3,p4,p5,p6,p7,p8,p9,Ie,IA,wC,p13,Bm,p15,q_,p17,s18] λdi=>Z (!b19) (R (2:Int) di) ((true=true/\Wr di A 16)/\bM A≠some w0/\(Pw di A [.pointer p2,p3,p4,p5,p6,p7,p8,p9,Ie,IA,wC,p13,Bm,p15,q_,p17] λdh=>eO dh.drew (N (some a0) 0) λTz=>Y 186 #[Tz,x1,s18] dh.drew (Ri λgG ie=>Kp w0 dh.drew ie/\R (0:Int) ie))))) (N (some a0) 1)):Y 185 #[a0,a1] w R:= cq bz func185 h
def oh.B{a0:Addr}(h:(λA B C=>eO w B λp0=>Y 39 #[p0] w (nH λp2 w1=>Y 40 #[p2] w1 (nH λp4 w3=>Y 183 #[p4,a1] w3 (fw λx6 w5=>Y 184 #[p4] w5 (λe w7=>∃(s8:H)(b9:aX),e=bT #[s8,b9]/\Z (!b9) ((Pv w7 C 16 A λbr=>eO br B λIA=>Y 186 #[IA,J,.slice none 0 0] br (fw λcJ bN=>R x6 bN))) (Y 185 #[a0,s8] w7 (fw λdn cp=>Z (dn !=0) ((Pv cp C 16 A λbZ=>eO bZ B λp17=>Y 186 #[p17,J,.slice none 0 0] bZ (fw λdQ dA=>R x6 dA))) (R x6 cp)))))))) [i_,i_,i_,i_,i_,i_,i_,i_,i_,i_,i_,i_,i_,i_,i_,i_] (N (some a0) 0) (N (some a0) 1)):Y 123 #[a0,a1] w R:= cq bz func123 h
def aeY{l:List Go.dS.It}{x:Go.dS.It}(h:∀y∈l,y.1<=x.1):tY l x=l++[x]:=by
 unfold tY;have key:∀(l:List Go.dS.It),(∀y∈l,y.1<=x.1)->l.takeWhile (λy=>decide (y.1<=x.1))=l/\l.dropWhile (λy=>decide (y.1<=x.1))=[]:=by
  intro l
  induction l with
  |nil=>intro _;exact⟨rfl,rfl⟩
  |cons y l ih=>
   intro h;have⟨i1,i2⟩:=ih λz hz=>h z (.tail _ hz)
   have hy:=decide_eq_true (h y (.head _));exact⟨by rw[List.takeWhile_cons_of_pos (by exact hy),i1],by rw[List.dropWhile_cons_of_pos (by exact hy),i2]⟩
 have⟨e1,e2⟩:=key l h;rw[e1,e2]
def HG:∀(xs pre:List Go.dS.It),yN ⟨4096,0,pre++xs⟩->Ea ⟨4096,0,pre⟩ xs=(⟨4096,0,pre++xs⟩,xs.length)
 | [],pre,_=>by rw[oV];rfl
 |x::xs,pre,h=>by
  have cX:=h.len
  simp only[cj,cL]at cX
  have lp:∀y∈pre,y.2≠x.2:=λy hy q=>by
   have hn:=h.nodup
   simp only[cl,eH]at hn
   exact(GW.1 hn).2.2 _ (bc.2 ⟨y,hy,rfl⟩) _ (.head _) q
  have hle:∀y∈pre,y.1<=x.1:=λy hy=>(List.pairwise_append.1 h.sorted).2.2 y hy x (.head _)
  have ha:lD ⟨4096,0,pre⟩ x.2 x.1=(⟨4096,0,pre++[x]⟩,true):=by rw[aeZ lp hX];rw[aeY (x:=(x.1,x.2)) hle]
  have ih:=HG xs (pre++[x]) (by rw[fT];exact h);unfold Ea;rw[ha];simp only;rw[ih,fT];simp[CO]
section
variable{F F':Nat->Prop}{w w':au}{s o t:Nat}{M M':Sm}{occ:aC}{d':Ce->aX}
def zi(h:SF F w s o t M occ)(n:Int)(a:H)(xs:List Go.dS.It)(ha:RdK w a 4 (xs.map fM))(fK:∀b,a.D=some b->b<w.heap.size/\¬F b)(hq:yN ⟨4096,0,xs⟩): Calls Tryz.prog 186 #[.pointer (some ⟨s,0,none⟩),S n,.slice a.a a.n a.c] w λe w'=>e=.returned (S xs.length)/\ni F w s o t {M with q:=⟨4096,0,xs⟩,now:=min (max n 0) 1099511627776} occ w':=by
 obtain ⟨g,m,qs,Fw,sd,h1,h2,hq0,h3,h4,h5,rfl⟩:=h;have hFs:=h1.lt;apply (D5.B (a2:=a));have en:(if 1099511627776<(if 0>n then 0 else n) then 1099511627776 else (if 0>n then 0 else n))=min (max n 0) 1099511627776:=by split<;>split<;>omega
 obtain ⟨p1,p2⟩:=h1.ft (j:=3) (v:=S (min (max n 0) 1099511627776)) (by simp [G']) rfl;refine ⟨⟨rfl,p1⟩,λw0 e0=> ?_⟩;rw [en] at e0;obtain ⟨r0,m0⟩:=p2 w0 e0;refine (Q.Au 4096 w0).mono ?_;rintro e w1 ⟨g',m',rfl,hn,x1,hg,hm⟩;have r1:=r0.ext x1;obtain ⟨p3,p4⟩:=r1.ft (j:=0) (v:=.pointer (some ⟨g',0,none⟩)) (by simp [G',putCells]) rfl;refine ⟨_,rfl,⟨rfl,p3⟩,λw3 e3=> ?_⟩;obtain ⟨r3,m3⟩:=p4 w3 e3;have mm:Mod (λi=>i=s) w w3:=(m0.trans (Mod.P x1)).trans m3;have z3:=mm.size;have z0:=m0.size;have z13:=m3.size;have hn3:Q.tX w3 g' m' ⟨none,0,0⟩ ⟨4096,0,[]⟩:=Q.tX.aV (q:=⟨4096,0,[]⟩) hn m3 λi hi e=>by
  rcases hi with hi|hi|hi
  ·omega
  ·omega
  ·cases hi
 have Ou:RdK w3 a 4 (xs.map fM):=mm.rdK (by decide) ha λ_ b hb e=>(fK b hb).2 (.inl e)
 have cX:=hq.len;refine ⟨_,r3.at 0 rfl,(Q.aeV hn3 aec ⟨Int.le_refl _,by simp only at cX ⊢;omega⟩ Ou (λb hb=>by have:=(fK b hb).1;omega) (λb hb hf=>by
  have:=(fK b hb).1;rcases hf with hf|hf|hf
  ·omega
  ·omega
  ·cases hf)).mono ?_⟩
 have akk:=HG xs [] (by rw [List.nil_append];exact hq);rw [List.nil_append] at akk;rw [akk];rintro e w5 ⟨rfl,s',hq5,ht⟩;have q1:∀b,sd.D=some b->b≠s:=λb hb=>by obtain ⟨cs',hr'⟩:=aT h4 (by decide) hb;exact hr'.ne h1 (by decide)
 have q2:=h3.dR h1 (by decide) (by decide) (by decide);have hft:∀i,i<w.heap.size->¬Q.gN g' m' ⟨none,0,0⟩ i:=λi hi hf=>by
  rcases hf with hf|hf|hf
  ·omega
  ·omega
  ·cases hf
 have Ep:∀i,Q.gN g' m' s' i->w.heap.size<=i:=λi hi=>by
  rcases ht.sub i hi with q|q
  ·by_cases hx:i<w.heap.size
   ·exact absurd q (hft i hx)
   ·omega
  ·omega
 have hW5:=(h3.aV mm λi hi e=>q2 (e▸hi)).aV ht.mod λi hi=>hft i (h3.lt hi)
 have hd5:=ht.mod.gR (mm.gR h4 q1) λb hb=>hft b (h4.own.lt hb).2
 have hr5:=ht.mod.row r3 (hft s hFs);refine ⟨_,rfl,rfl,_,⟨g',m',s',Fw,sd,hr5,hq5,hq,hW5,hd5,λi hi hf=>by have:=Ep i hi;have:=h3.lt hf;omega,rfl⟩,⟨by rw [ht.mod.os,mm.os],by rw [ht.mod.tape,mm.tape],by rw [ht.mod.output,mm.output],Nat.le_trans z3 ht.mod.size,λi hi hn=> ?_⟩,λi hi=> ?_⟩
 ·exact (ht.mod.same i (by omega) (hft i hi)).trans (mm.same i hi λe=>hn (.inl e))
 ·rcases hi with hi|hi|hi|hi
  ·exact .inl (.inl hi)
  ·exact .inr (Ep i hi)
  ·exact .inl (.inr (.inr (.inl hi)))
  ·exact .inl (.inr (.inr (.inr hi)))
end
section
variable{F:Nat->Prop}{w:au}{g s o t:Nat}{M M':Sm}{occ:aC}{L L0:h_}
def EF.world(h:EF F w g s o t M occ L):∃Fw,WF Fw w o t M.aj M.cap M.T M.ch/\∀{w':au}{T':Tb}{ch':List Go.ej.Cg},Pf Fw w o t M.aj M.cap T' ch' w'->dK F w g s o t {M with T:=T',ch:=ch'} occ L w':=by obtain⟨Fs,hs,-,-,bq⟩:=h.EN;obtain⟨Fw,hW,-,hresW⟩:=hs.world;exact⟨Fw,hW,λhr=>bq (hresW hr)⟩
variable{ch:List Cg}{T:Tb}{aj limit:Int}
def AX(h:WF F w o t aj limit T ch)(hW:T.1.l.length<=1000000)(hl:ee T.1.l<=1099511627776)(aV:Int): Y 183 #[t,aV] w λe w'=>e=S (cw T.1 aV).2/\Pf F w o t aj limit ((cw T.1 aV).1,[]) ch w':=by
 obtain⟨F1,hT,-,bq⟩:=h.table;refine(N9 hT hW hl aV).F λw' hr=>?_
 exact⟨rfl,bq hr⟩
def Dp(h:WF F w o t aj limit T ch)(hW:T.1.l.length<=1000000): Y 184 #[t] w λe w'=>∃s:H,e=bT #[s,.bool (Go.bW.pU T.1 0).2.2]/\jd w' s (Go.bW.pU T.1 0).1/\s.n<=s.c/\Ext w w':=by
 obtain⟨F1,hT,-,-⟩:=h.table;refine(R1 hT hW).mono ?_;rintro e w' ⟨s,rfl,h1,-,-,h2,-,x⟩;exact⟨s,rfl,h1,h2,x⟩
def dK.A{F':Nat->Prop}{w1 w2:au}{M2:Sm}{L2:h_}{occ2:aC}(h:aJ F F' w w1)(k:dK F' w1 g s o t M2 occ2 L2 w2):dK F w g s o t M2 occ2 L2 w2:=a1C
abbrev aaP:List (Option Nat):=List.replicate 16 none
def aiY(w:au):EL w aaP OT:=by
 refine⟨rfl,rfl,λi a q=>?_,λi q=>?_,λi j a q=>?_⟩
 ·exact a1g
 ·rw[Ao]at q⊢;split at q
  next hi=>rw[if_pos hi]
  ·cases q
 ·exact a1g
def R2(h:EF F w g s o t M occ L0):(true=true/\Wr w (N (some ⟨g,0,none⟩) 1) 16)/\∀u,u=bB w (N (some ⟨g,0,none⟩) 1) (aaP.map pA)->Vc.ld u (N (some ⟨g,0,none⟩) 0)=some (.pointer (some ⟨s,0,none⟩))/\Calls ka5 186 #[.pointer (some ⟨s,0,none⟩),S 0,.slice none 0 0] u λe w'=>e=.returned (S 0)/\dK F w g s o t {M with q:=⟨4096,0,[]⟩,now:=0} occ OT w':=by
 obtain⟨Fs,av0,de,hsf,hel0,rfl⟩:=h;have ng:¬Fs g:=hsf.pX de kM.1.1 kM.1.2.1 kM.1.2.2.1 kM.1.2.2.2.1 kM.1.2.2.2.2.1 kM.1.2.2.2.2.2.1 kM.1.2.2.2.2.2.2;have Ta:(dr (some ⟨s,0,none⟩)::av0.map pA).length=17:=by rw[List.length_cons,List.length_map,hel0.n]
 have ep:N (some ⟨g,0,none⟩) 1=some ⟨g,1,none⟩:=aF ..;rw[ep];refine⟨⟨rfl,de.wr (o:=1) (n:=16) (by rw[Ta];exact Nat.le_refl 17)⟩,λdh Dy=>?_⟩;have CF:=Dy.trans (de.bB (o:=1) (by rw[Ta];exact Nat.le_refl 17) (by
  show ∀u∈_,_;intro u hu;obtain⟨x,hx,rfl⟩:=List.mem_map.1 hu;rfl))
 have ecs:putCells (dr (some ⟨s,0,none⟩)::av0.map pA) 1 (aaP.map pA)=.pointer (some ⟨s,0,none⟩)::aaP.map pA:=by obtain⟨b0,b1,b2,b3,b4,b5,b6,b7,b8,b9,b10,b11,b12,KX,Wc,Ym,rfl⟩:=M3 hel0.n;rfl
 have r22:Row dh g (.pointer (some ⟨s,0,none⟩)::aaP.map pA) uw:=by rw[<-ecs,CF];exact Row.set de _
 have o22:∀j,j≠g->dh.heap[j]? =w.heap[j]? :=λj hj=>by rw[CF];exact setRow_other _ _ _ _ hj
 have z22:dh.heap.size=w.heap.size:=by rw[CF,setRow_size]
 have mm:Mod (λi=>i=g) w dh:=⟨by rw[CF];rfl,by rw[CF];rfl,by rw[CF];rfl,Nat.le_of_eq z22.symm,λi _ hn=>o22 i hn⟩;have anw:SF Fs dh s o t M occ:=hsf.same λi hi=>o22 i λq=>ng (q▸hi)
 refine⟨r22.at 0 rfl,(zi anw 0 ⟨none,0,0⟩ [] ((ar.nil (B:=0) (E:=157)).rd (show 0<4 by decide)) (λb hb=>(by cases hb)) aec).mono ?_⟩;rintro e ie ⟨rfl,F',ajB,ht⟩;refine⟨rfl,λi=>i=g\/F' i\/some i∈aaP,⟨F',_,ht.mod.row r22 ng,ajB,aiY _,rfl⟩,(mm.mono λi _ hi=>.inl hi).trans (ht.mod.mono λi _ hi=>.inr (.inl hi)),λi hi=>?_⟩;rcases hi with hi|hi|hi
 ·exact a0U
 ·rcases ht.sub i hi with q|q
  ·exact .inl (.inr (.inl q))
  ·exact .inr (by omega)
 ·cases List.eq_of_mem_replicate hi
def R3(h:EF F w g s o t M occ L0)(aV:Int)(hW:M.T.1.l.length<=1000000)(hl:ee M.T.1.l<=1099511627776)(hW':(cw M.T.1 aV).1.l.length<=1000000)(hk:(Go.bW.pU (cw M.T.1 aV).1 0).2.2=false): Y 123 #[g,aV] w λe w'=>e=S (cw M.T.1 aV).2/\dK F w g s o t {M with T:=((cw M.T.1 aV).1,[]),q:=⟨4096,0,[]⟩,now:=0} occ OT w':=by
 obtain⟨Fs,hs,pG,-⟩:=h.EN;have⟨Fw,hWd,bq⟩:=h.world;apply oh.B;refine⟨_,pG,(cZ hs).F λw1 Tc=>?_⟩;subst Tc;refine⟨_,rfl,(gx hWd).F λw3 Ig=>?_⟩;subst Ig;refine⟨_,rfl,(AX hWd hW hl aV).F λw5 hr5=>?_⟩;have⟨F5,h5,t5⟩:=bq hr5;obtain⟨Fw5,hW5,-⟩:=h5.world;refine⟨_,rfl,(Dp hW5 hW').mono ?_⟩;rintro e w7 ⟨s8,rfl,-,-,x7⟩;refine⟨s8,_,rfl,?_⟩;show Z (!(Go.bW.pU (cw M.T.1 aV).1 0).2.2) _ _;rw[hk];have⟨p1,p2⟩:=R2 (h5.ext x7);refine Z.mk (λ_=>⟨p1,λbr vv=>?_⟩) λq=>(by cases q)
 have⟨q1,q2⟩:=p2 br vv;refine⟨_,q1,q2.F λbN hr=>?_⟩;exact⟨_,rfl,rfl,dK.A t5 (dK.P x7 hr)⟩
end
abbrev lP(w:au):Prop:=Lib.TabIs ka5 w "internal/strconv.uint64pow10" .u64 Lib.pow10Tab
def vE{w w':au}(h:lP w)(x:Ext w w'):lP w':=by
 unfold lP Lib.TabIs World.var? at*
 cases hg:ka5.globalNamed "internal/strconv.uint64pow10" with
 |none=>rw[hg]at h;cases h
 |some g=>
  rw[hg]at h;simp only[Option.bind_some]at h⊢;have hl:g<w:=by
   by_cases c:g<w
   ·exact c
   ·rw[Array.getElem?_eq_none U]at h
    cases h
  rw[x.heap hl];exact h
def bI(n:Int):aq:=⟨(Lib.itoa n).toArray⟩
def afL(w:au)(k:Nat)(os:Array Obj):Ext w (Go.Sort.grow (w.drewN k) os):=by
 refine⟨rfl,rfl,rfl,?_,λi hi=>?_⟩
 ·show w<=(w.heap++os).size;rw[Array.size_append];omega
 ·show(w.heap++os)[i]? =w.heap[i]?;rw[Array.getElem?_append_left hi]
def gP{w:au}(hT:lP w){n:Int}(hn:cH n):xD w (.iface 3 (n)) (bI n):=
 .n _ _ λu xu=>(Tryz.strconv_Itoa n hn.1 hn.2 u (vE hT xu)).mono λe u' hh=>by have⟨h1,k,os,h2⟩:=hh;exact⟨h1,h2▸afL _ _ _⟩
def Mi:∀(k u:Nat),u<10^(k+1)->(Lib.decDigits u).length<=k+1
 |0,u,h=>by
  unfold Lib.decDigits
  rw[dif_pos U]
  exact ak _
 |k+1,u,h=>by
  unfold Lib.decDigits
  split
  ·simp
  ·have:=Mi k (u/10) (by rw[Nat.pow_succ]at h;omega)
   simp only[cj,cL,mV]
   omega
section
variable{F:Nat->Prop}{w:au}{sh g s o t:Nat}{M M':Sm}{occ occ':aC}{L L':h_}
def akY(h:EF F w g s o t M occ L)(hs:FN w sh g)(hF:¬F sh){v v1 v':au}{ga:Nat}(xv:Ext w v)(hga:w.heap.size<ga)(hgv:ga<v)(m1:Mod (λi=>i=ga) v v1)(hr:dK F v1 g s o t M' occ' L' v'):∃F',SH w F v' sh g s o t M' occ' L' F'/\¬F' w/\v'.heap[w.heap.size]? =v.heap[w.heap.size]? :=by
 have⟨F',h2,ht⟩:=hr;have nw:¬F w:=λq=>a0h
 have lE:=hs.row.lt;have hz:=m1.size;have hm:Mod F w v':=((Mod.P xv).A m1 (λi hi=>.inr U)).trans ht.mod;have sub:∀i,F' i->F i\/v1.heap.size<=i:=ht.sub;exact⟨F',⟨h2,⟨hs.row.same (hm.same sh lE hF)⟩,λq=>(sub _ q).elim hF (λq=>by omega),hm,λi hi=>(sub i hi).imp id (λq=>by omega)⟩,λq=>(sub _ q).elim nw (λq=>by omega),(ht.mod.same _ U nw).trans (m1.same _ U U)⟩
def PD(h:EF F w g s o t M occ L)(hW:M.T.1.l.length<=1000000)(p:Po): Y 90 #[t,pv p] w λe w'=>e=S (TK M.T.1 M.T.2 p).2/\dK F w g s o t {M with T:=(TK M.T.1 M.T.2 p).1} occ L w':=by
 have⟨Fw,hW0,bq⟩:=h.world;obtain⟨F1,hT,-,hrt⟩:=hW0.table;refine(On hT hW p).F λw' hr=>?_
 exact⟨rfl,bq (hrt hr)⟩
end
section
variable{F:Nat->Prop}{w:au}{sh g s o t B ga:Nat}{M M':Sm}{occ occ':aC}{L L':h_}{ws:aa}
def L4(hs:FN w sh g)(ha:AG w B ga ws)(hsg:sh≠ga){a b c:Int}(hp:kI ws=some ((a,b,c),[])): Y 86 #[sh,ga] w λe w'=>e=bP ⟨#[111,107]⟩/\Mod (λi=>i=ga\/i=sh) w w'/\∃(g' s' o' t':Nat)(F':Nat->Prop),EF F' w' g' s' o' t' (FO a b 200000 c) PE OT/\FN w' sh g'/\∀i,F' i->w<=i:=by
 apply qi.B;unfold kI at hp;refine(k8 ha).mono ?_;rintro e w0 ⟨m0,hq⟩
 cases h1:gz ws with
 |none=>rw[h1]at hp;cases hp
 |some x1=>
  have⟨a',r1⟩:=x1;rw[h1]at hq hp;simp only at hp;obtain⟨rfl,ha0⟩:=hq;refine⟨a',rfl,(k8 ha0).mono ?_⟩;rintro e w2 ⟨m2,hq⟩
  cases h2:gz r1 with
  |none=>rw[h2]at hp;cases hp
  |some x2=>
   have⟨b',r2⟩:=x2;rw[h2]at hq hp;simp only at hp;obtain⟨rfl,ha2⟩:=hq;refine⟨b',rfl,(k8 ha2).mono ?_⟩;rintro e w4 ⟨m4,hq⟩
   cases h3:gz r2 with
   |none=>rw[h3]at hp;cases hp
   |some x3=>
    have⟨c',r3⟩:=x3;rw[h3]at hq hp;simp only at hp
    cases hp
    obtain⟨rfl,ha4⟩:=hq;refine⟨c,rfl,(qW ha4).mono ?_⟩;rintro e w6 ⟨e6,he⟩;rw[if_pos rfl]at he;subst he;rw[e6];have m04:Mod (λi=>i=ga) w w4:=(m0.trans m2).trans m4;have hsh:Row w4 sh [g] Vu:=hs.row.same (m04.same sh hs.row.lt hsg);refine⟨rfl,(Ke a b 200000 c w4).mono ?_⟩;rintro _ w7 ⟨g',s',o',t',F',rfl,hE,x7,hF'⟩;have hsh7:=hsh.ext x7;have⟨p1,p2⟩:=hsh7.ft (j:=0) (v:=.pointer (O g')) bo rfl;refine⟨_,rfl,⟨rfl,p1⟩,λw9 e9 br vv=>?_⟩;have⟨q1,q2⟩:=p2 w9 e9;have bL:Ext w9 br:=by rw[vv];exact Ext.al _ _
    refine(jg vv .ok X).F λbE bS=>?_
    have xx:=bL.A bS;have fK:=hsh.lt;have z04:=m04.size;have lE:=hs.row.lt;have nF:¬F' sh:=λq=>a1N (hF' _ q)
    have hE9:EF F' w9 g' s' o' t' (FO a b 200000 c) PE OT:=hE.same λi hi=>q2.same i (hE.lt hi) (λq=>nF (q▸hi))
    exact⟨_,rfl,rfl,(((m04.trans (Mod.P x7)).mono λi _ hi=>.inl hi).trans (q2.mono λi _ hi=>.inr hi)).trans (Mod.P xx),g',s',o',t',F',hE9.ext xx,⟨q1.ext xx⟩,λi hi=>a1N (hF' i hi)⟩
end
variable{R:l_}{w:au}{a0:Int}
variable{R:l_}{w:au}
def M1(b : Int)(w : au)(hb : cH b) : Calls Tryz.prog 16 #[.int .i64 b] w λe w' => e = .returned (.string (kE b)) ∧ Ext w w' := by
 apply aaZ.B
 refine (HY b w).mono ?_
 rintro e w' ⟨rfl, rfl⟩
 refine ⟨_, rfl, Z.mk (λh => ?_) (λh => Z.mk (λh2 => ?_) (λh2 => ?_))⟩
 ·have : kE b = ⟨#[]⟩ := by
   have := GZ b
   cases hm : cN b <;> simp_all
  rw [this]; exact ⟨rfl, Ext.M _⟩
 ·simp at h h2
  have hm := h
  unfold cN at hm
  simp at hm
  unfold cH at hb
  rw [wI (by unfold cH; omega), wI (by unfold cH; omega)]
  have : b = 8 ∨ b = 9 ∨ b = 10 ∨ b = 11 ∨ b = 12 ∨ b = 13 ∨ b = 14 ∨ b = 15 := by omega
  refine ⟨by omega, ?_, by omega, by omega, ?_, ?_, Ext.M _⟩
  ·show b - 7 ≤ 8
   omega
  ·have : IntKind.i64.max = 9223372036854775807 := by decide
   rcases ‹b = 8 ∨ _› with rfl | rfl | rfl | rfl | rfl | rfl | rfl | rfl <;> decide
  ·rcases this with rfl | rfl | rfl | rfl | rfl | rfl | rfl | rfl <;> (congr 2)
 ·simp at h h2
  have hm := h
  unfold cN at hm
  simp at hm
  intro N6 hw2
  have r2 : Row N6 w'.heap.size ((u_.take 6).map .string) 9 := by rw [hw2]; exact Row.new w' ((u_.take 6).map .string) 9
  refine ⟨⟨rfl, by omega, by omega⟩, kE b, ?_, rfl, (Ext.M _).aZ hw2⟩
  rw [aF, r2.ld]
  have : b = 0 ∨ b = 1 ∨ b = 2 ∨ b = 3 ∨ b = 4 ∨ b = 5 := by omega
  rcases this with rfl | rfl | rfl | rfl | rfl | rfl <;> rfl
variable{R:l_}{w:au}
def agU{s t:aq}(h:t∈cT s):t.size<=s.size:=by
 have ex:∀i j,(s.extract i j).size<=s.size:=λi j=>by rw[ByteArray.size_extract];omega
 rw[aaX]at h;rcases List.mem_append.1 h with h|h
 ·obtain⟨x,-,rfl⟩:=List.mem_map.1 h;exact ex _ _
 ·split at h
  ·rw[List.mem_singleton.1 h];exact ex _ _
  ·cases h
def aaQ{w:au}(h:w.ShapedOpen ka5):∃m,w.cell? ⟨0,0,none⟩=some (S m):=
 cell_of_shapedOpen_int (t:=3) (zero:= #[J]) h (by decide+kernel) (by kernel_rfl) rfl (by kernel_rfl) (by kernel_rfl) Tryz.underlying3
def ad6(w0:au)(A:bf)(sh:Nat)(M:Sm)(occ:aC)(L:h_)(u:au):Prop:=
 Ext w0 u/\(∀i∈A,i<u/\i≠sh)/\∃(g s o t:Nat)(F:Nat->Prop),EF F u g s o t M occ L/\FN u sh g/\¬F sh/\w0<=sh/\∀i,F i->w0<=i/\i∉A
abbrev KpA(A:bf)(u u':au):Prop:=∀i∈A,u'.heap[i]? =u.heap[i]?
section
variable{w0 u u':au}{A:bf}{sh:Nat}{M M':Sm}{occ occ':aC}{L L':h_}
def ad7(w:au):Y 26 #[] w λe w'=>∃sh,e=dr (O sh)/\ad6 w [] sh (FO 1 9 200000 16) PE OT w':=by refine(Gu w).mono ?_;rintro e w' ⟨sh,g,s,o,t,F,rfl,h1,h2,h3,h4,h5,h6⟩;exact⟨sh,rfl,h4,λi hi=>(by cases hi),g,s,o,t,F,h1,h2,h3,h6,λi hi=>⟨h5 i hi,iT⟩⟩
end
abbrev Lv:=h_
abbrev Out:=aq×Sm×Lv
abbrev kZ:aq:=ka4 #[98,97,100]
structure Mc(k:Nat)(w:au)(F:Nat->Prop)(sh g s o t B ga:Nat)(M:Sm)(occ:aC)(L:Lv)(ws:aa):Prop where
 e:EF F w g s o t M occ L
 r:FN w sh g
 a:AG w B ga ws
 f:¬F ga
 n:sh≠ga
 i:Inv k M L
 t:∀u,Mod (λi=>F i\/i=ga) w u->lP u
 z:k<=1000
 q:¬F sh
def MR(k:Nat)(w:au)(ga:Nat)(F:Nat->Prop)(g s o t:Nat)(p:Option Out)(e:Ending)(u:au):Prop:=
 match p with
 |none=>e=Io/\Mod (λi=>i=ga) w u
 |some x=>e=bP x.1/\x.1.size<=1000000/\Inv (k+1) x.2.1 x.2.2/\∃v1 occ',Mod (λi=>i=ga) w v1/\dK F v1 g s o t x.2.1 occ' x.2.2 u
section
variable{k:Nat}{w w' v v' u:au}{F:Nat->Prop}{sh g s o t B ga:Nat}{M M':Sm}{occ occ':aC}{L L':Lv}{ws r:aa}{T:aq}{e:Ending}{p:Option Out}
def Mc.ef(h:Mc k w F sh g s o t B ga M occ L ws)(m:Mod (λi=>i=ga) w w'):EF F w' g s o t M occ L:=h.e.same λi hi=>m.same i (h.e.lt hi) (λq=>h.f (q▸hi))
def Mc.go(h:Mc k w F sh g s o t B ga M occ L ws)(m:Mod (λi=>i=ga) w w')(a:AG w' B ga r):Mc k w' F sh g s o t B ga M occ L r:=
 ⟨h.ef m,⟨h.r.row.same (m.same sh h.r.row.lt h.n)⟩,a,h.f,h.n,h.i,λu m'=>h.t u ((m.mono λi _ hi=>.inr hi).trans m'),h.z,h.q⟩
def Mc.ext(h:Mc k w F sh g s o t B ga M occ L ws)(x:Ext w w'):Mc k w' F sh g s o t B ga M occ L ws:=h.go (Mod.P x) (h.a.ext x)
def MR.bad(m:Mod (λi=>i=ga) w u):MR k w ga F g s o t none Io u:=⟨rfl,m⟩
def MR.TL(hT:T.size<=1000000)(hI:Inv (k+1) M' L')(m:Mod (λi=>i=ga) w v)(hr:dK F v g s o t M' occ' L' v')(x:Ext v' u):MR k w ga F g s o t (some (T,M',L')) (.returned (.string T)) u:=by have⟨F2,h2,t2⟩:=hr;exact⟨rfl,hT,hI,v,occ',m,F2,h2.ext x,t2.trans (aJ.P x)⟩
def MR.same(h:Mc k w F sh g s o t B ga M occ L ws)(hT:T.size<=1000000)(m:Mod (λi=>i=ga) w v)(x:Ext v u):MR k w ga F g s o t (some (T,M,L)) (.returned (.string T)) u:=
 MR.TL hT h.i.up m ((h.ef m).res (Ext.M v)) x
def LS(k:Nat)(w:au)(F:Nat->Prop)(sh:Nat)(M:Sm)(L:Lv)(u:au):Prop:=
 ∃g s o t occ F',EF F' u g s o t M occ L/\FN u sh g/\¬F' sh/\Mod (λi=>F i\/i=sh) w u/\(∀i,F' i->F i\/w<=i)/\Inv k M L
def kH(k:Nat)(line:aq)(M:Sm)(L:Lv)(x:Out):Prop:=
 ∀(w0 w:au)(F:Nat->Prop)(sh g s o t:Nat)(occ:aC),k<=1000->lP w0->Ext w0 w->(∀i,F i->w0<=i)->w0<=sh->EF F w g s o t M occ L->FN w sh g->¬F sh->Inv k M L->
  Y 14 #[sh,.string line] w λe u=>e=bP x.1/\x.1.size<=1000000/\LS (k+1) w F sh x.2.1 x.2.2 u
def LS.Kt{F':Nat->Prop}(h:SH w F u sh g s o t M occ L F')(hI:Inv k M L):LS k w F sh M L u:=
 ⟨g,s,o,t,occ,F',h.e,h.r,h.n,h.m.mono λi _ hi=>.inl hi,h.f,hI⟩
def MR.out{x0:Out}(h:EF F w g s o t M occ L)(hs:FN w sh g)(hF:¬F sh)(hI:Inv k M L)(xv:Ext w v)(hga:w.heap.size<ga)(hgv:ga<v)(h0:x0=(kZ,M,L))(hr:MR k v ga F g s o t p e v'): v'.heap[w.heap.size]? =v.heap[w.heap.size]?/\((∃tx,e=bP tx/\(tx=(p.getD x0).1/\tx.size<=1000000/\∃occ' F',SH w F v' sh g s o t (p.getD x0).2.1 occ' (p.getD x0).2.2 F'/\¬F' w/\Inv (k+1) (p.getD x0).2.1 (p.getD x0).2.2))\/ (e=Io/\(kZ=(p.getD x0).1/\kZ.size<=1000000/\∃occ' F',SH w F v' sh g s o t (p.getD x0).2.1 occ' (p.getD x0).2.2 F'/\¬F' w/\Inv (k+1) (p.getD x0).2.1 (p.getD x0).2.2))):=by
 subst h0;have hFga:¬F ga:=λq=>a0h
 cases p with
 |none=>
  obtain⟨rfl,m⟩:=hr;have hv:EF F v' g s o t M occ L:=(h.ext xv).same λi hi=>m.same i (a1N (h.lt hi)) (λq=>hFga (q▸hi))
  have⟨F',hS,hn,hk⟩:=akY h hs hF xv hga hgv m (hv.res (Ext.M _));exact⟨hk,.inr ⟨rfl,rfl,X,occ,F',hS,hn,hI.up⟩⟩
 |some x=>
  obtain⟨rfl,hT,hI',v1,occ',m,bq⟩:=hr;have⟨F',hS,hn,hk⟩:=akY h hs hF xv hga hgv m bq;exact⟨hk,.inl ⟨_,rfl,rfl,hT,occ',F',hS,hn,hI'⟩⟩
def W4{w0:au}{g_:Nat->Prop}(hT:lP w0)(x:Ext w0 w)(m:Mod g_ w u)(hG:∀i,g_ i->w0<=i):lP u:=vE hT (m.ext x hG)
def kH.uG{line c:aq}(hl:line.size<=4294967296)(hw:cT line=c::r)(i f:Nat)(hi:uF[i]? =some c){fn:Func}{cd:Code}(hf:ka5.funcs[f]? =some fn) (hcall:∀{w F sh g s o t B ga occ},Mc k w F sh g s o t B ga M occ L r->Y f #[.pointer (O sh),ga] w (MR k w ga F g s o t p))(hv:∀sh c1 c2 c3 c4 c5,(AF sh [c1,c2,c3,c4,c5])[i]? =some (kc f sh):=by intros;rfl)(hn:(fn.name== "runtime.NumGoroutine")=false:=by kernel_rfl) (hb:fn.body=some cd:=by rfl):
  kH k line M L (p.getD (kZ,M,L)):=by
 intro w0 w F sh g s o t occ hk hT hx hF0 hsh0 h hs hF hI;have lE:=hs.row.lt;refine(JR h hs line hl hw i f hi (hv sh) (j5 hf hn hb) (λtx u=>tx=(p.getD (kZ,M,L)).1/\tx.size<=1000000/\∃occ' F',SH w F u sh g s o t (p.getD (kZ,M,L)).2.1 occ' (p.getD (kZ,M,L)).2.2 F'/\¬F' w/\Inv (k+1) (p.getD (kZ,M,L)).2.1 (p.getD (kZ,M,L)).2.2) ?_ ?_).mono ?_
 ·exact a0A
 ·intro v B ga xv DA hga;have hgl:=DA.lt;have hle:=DA.le;have hz:=hx.size;have hFga:¬F ga:=λq=>by have:=h.lt q;omega
  exact(hcall ⟨h.ext xv,⟨hs.row.ext xv⟩,DA,hFga,U,hI,λu m=>W4 hT (hx.A xv) m λi hi=>hi.elim (hF0 i) (λq=>by omega),hk,hF⟩).mono λe v' hr=>hr.out h hs hF hI xv hga U rfl
 ·exact a10
def kH.Io{line:aq}(hl:line.size<=4294967296)(hw:∀c r,cT line=c::r->c∉uF):kH k line M L (if cT line=[]then ka4 #[]else kZ,M,L):=by
 intro w0 w F sh g s o t occ hk hT hx hF0 hsh0 h hs hF hI;have lE:=hs.row.lt;have nw:¬F w:=λq=>a0h
 refine(qZ line hl h hs (λtx u=>tx=(if cT line=[]then ka4 #[]else kZ)/\SH w F u sh g s o t M occ L F) ?_ ?_ ?_ ?_).mono ?_
 ·rintro t' u u' ⟨rfl,hS⟩ hm;exact⟨rfl,hS.put nw U (ak _) hm⟩
 ·intro h0 u x;exact⟨by rw[if_pos h0],h.ext x,⟨hs.row.ext x⟩,hF,Mod.P x,λi hi=>.inl hi⟩
 ·intro c r h1 _ u x;exact⟨by rw[h1,if_neg bo],h.ext x,⟨hs.row.ext x⟩,hF,Mod.P x,λi hi=>.inl hi⟩
 ·intro c r i h1 hi;exact absurd (aQ hi) (hw c r h1)
 ·rintro e w' ⟨t',rfl,rfl,hS⟩;exact⟨rfl,by dsimp only;split<;>decide,LS.Kt hS hI.up⟩
def kH.Z_{line c:aq}(hl:line.size<=4294967296)(hw:cT line=c::r)(j:Nat)(hj:j<5)(hi:uF[j+1]? =some c)(op:Po->Int×Sm) (hop:∀{w F g s o t occ},EF F w g s o t M occ L->Inv k M L->k<=1000->∀p:Po,(0<=(op p).1/\(op p).1<14)/\Inv (k+1) (op p).2 L/\bu ka5 (oo (88+j) t) [.agg #[p.1,p.2]] w λe u=>e=S (op p).1/\dK F w g s o t (op p).2 occ L u): kH k line M L ((match xC r with|some (p,[])=>some (iX (op p).1,(op p).2,L)|_=>none:Option Out).getD (kZ,M,L)):=by
 intro w0 w F sh g s o t occ hk hT hx hF0 hsh0 h hs hF hI;have lE:=hs.row.lt;generalize hq:(match xC r with|some (p,[])=>some (iX (op p).1,(op p).2,L)|_=>none:Option Out)=q;refine(qZ line hl h hs (λtx u=>tx=(q.getD (kZ,M,L)).1/\tx.size<=1000000/\∃occ' F',SH w F u sh g s o t (q.getD (kZ,M,L)).2.1 occ' (q.getD (kZ,M,L)).2.2 F'/\¬F' w/\Inv (k+1) (q.getD (kZ,M,L)).2.1 (q.getD (kZ,M,L)).2.2) ?_ ?_ ?_ ?_).mono ?_
 ·exact a0A
 ·intro h1;rw[hw]at h1
  cases h1
 ·intro c' r' h1 h2;rw[hw]at h1
  cases h1
  exact absurd (aQ hi) h2
 ·intro c' r' i h1 hi' u B ga c1 c2 c3 c4 c5 xu DA hga r1 r2 r3 r4 r5 hcB v hv;rw[hw]at h1
  cases h1
  have hi1:i=j+1:=(List.getElem?_inj (i:=i) (j:=j+1) (cG.1 hi').1 l8).1 (hi'.trans hi.symm);subst hi1;obtain⟨ck,hcv,TC,hcb⟩:∃ck,aeo ck=v/\Row u ck [oo (88+j) t] 157/\B<=ck:=by
   have:j=0\/j=1\/j=2\/j=3\/j=4:=by omega
   rcases this with rfl|rfl|rfl|rfl|rfl
   ·exact⟨c1,a0R,r1,hcB.1⟩
   ·exact⟨c2,a0R,r2,hcB.2.1⟩
   ·exact⟨c3,a0R,r3,hcB.2.2.1⟩
   ·exact⟨c4,a0R,r4,hcB.2.2.2.1⟩
   ·exact⟨c5,a0R,r5,hcB.2.2.2.2⟩
  subst hcv;refine⟨155,#[],#[.pointer (O ck)],⟨rfl,λargs w=>j5 Tryz.func155 (by kernel_rfl) rfl args w⟩,?_⟩;have hgl:=DA.lt;have hle:=DA.le;have hFga:¬F ga:=λq=>a0h
  show Y 155 #[ga,.pointer (O ck)] u _;refine Di DA TC U rfl _ ?_ ?_
  ·intro lp u' hm;have e0:q=none:=by
    rw[<-hq];split
    next p h1=>exact absurd h1 (lp p)
    ·rfl
   rw[e0];exact MR.out (k:=k) (p:=none) h hs hF hI xu hga U rfl (MR.bad hm)
  ·intro p r'' hp' hr'' u' hm fK;subst hr'';rw[hp']at hq;simp only at hq;rw[<-hq];have h1:EF F u' g s o t M occ L:=(h.ext xu).same λi hi=>hm.same i (by have:=h.lt hi;have:=xu.size;omega) (λq=>hFga (q▸hi))
   have⟨aAC,hI',aAD⟩:=hop h1 hI hk p;refine bJ aAD ?_;rintro e u2 ⟨rfl,hr⟩;have⟨F2,h2,ht⟩:=hr;have yA:=ht.mod;have hwu:w.heap.size<=u.heap.size:=xu.size;have nF:∀i,w.heap.size<=i->¬F i:=λi hi q=>a0h
   refine⟨_,iX (op p).1,rfl,λi hi hi2=>yA.same i hi2 (nF i U),yA.size,λv _=>pZ aAC v,fi _,?_⟩;intro v hv;exact MR.out (k:=k) (p:=some (iX (op p).1,(op p).2,L)) h hs hF hI xu hga U rfl (MR.TL (fi _) hI' hm ⟨F2,h2,ht⟩ hv)
 ·exact a10
end
def EM{a b:ab}(ha:mJ a)(hb:mJ b):mJ (a++b):=λx hx=>(dp.1 hx).elim (ha x) (hb x)
def WZ(n:Int):mJ (j3 n):=λx hx=>by
 obtain⟨q,-,rfl⟩:=bc.1 hx
 exact ac4 n q
def FE{α:Type}{f:α->ab}{l:List α}(h:∀x∈l,mJ (f x)):mJ (l.map f).flatten:=λx hx=>by
 have⟨r,hr,hx⟩:=List.mem_flatten.1 hx
 obtain⟨y,hy,rfl⟩:=bc.1 hr
 exact h y hy x hx
def Pr(l:ab):mJ (qt l):=FE λx _=>WZ x
def ahP(n m:Int):mJ [n%256,m%256]:=λx hx=>by
 simp at hx
 rcases hx with rfl|rfl<;>omega
def W3(M:Sm)(L:h_):mJ (dy M L):=by
 unfold dy fZ dT ij;refine EM (EM (EM (WZ _) λx hx=>?_) (FE λx hx=>?_)) (EM (ahP _ _) (FE λx _=>Pr _))
 ·simp at hx;omega
 ·obtain⟨i,rfl,hi,y,hy⟩:=ux hx;unfold FG BD;rw[hy];intro z hz;rcases cu.1 hz with rfl|hz
  ·omega
  ·rcases dp.1 hz with hz|hz
   ·exact Pr _ z hz
   ·have:z=stB y.1.fG:=by simpa using hz
    rw[this];unfold stB;split<;>decide
def ahQ(M:Sm)(L:h_):(dy M L).length<=50000:=a09
section
variable{F F':Nat->Prop}{w w':au}{g s o t m:Nat}{M M':Sm}{occ:aC}{L:h_}
variable{ch:List Cg}{T:Tb}{aj limit:Int}
def DE(h:WF F w o t aj limit T ch)(hW:T.1.l.length<=900000): Y 120 #[t] w λe w'=>e=bT #[S (gT T.1 T.2).2.1,S (gT T.1 T.2).2.2]/\Pf F w o t aj limit (gT T.1 T.2).1 ch w':=by
 obtain⟨F1,hT,-,bq⟩:=h.table;refine(DF hT hW).F λw' hr=>?_
 exact⟨rfl,bq hr⟩
def Ps(h:WF F w o t aj limit T ch)(hW:T.1.l.length<=1000000)(sl:H)(b:ab)(hs:jd w sl b)(hb:mJ b)(hn:b.length<=1099511627776): Y 182 #[t,sl] w λe w'=>e=S (tJ T.1 0 b).2/\Pf F w o t aj limit ((tJ T.1 0 b).1,T.2) ch w':=by
 obtain⟨F1,hT,-,bq⟩:=h.table;refine(Pu hT hW sl b hs hb hn).F λw' hr=>?_
 exact⟨rfl,bq hr⟩
abbrev akw(M:Sm)(L:h_):Sm:={M with T:=((tJ M.T.1 0 (dy M L)).1,M.T.2)}
def YS(h:EF F w g s o t M occ L)(hW:M.T.1.l.length<=1000000):Y 121 #[g] w λe w'=>e=S (tJ M.T.1 0 (dy M L)).2/\dK F w g s o t (akw M L) occ L w':=by apply xy.B;have xd:=Ext.M w;have hd:=h;obtain⟨Fs,hs,pG,-,-⟩:=hd.EN;obtain⟨Fw,hW0,-,-⟩:=hs.world;refine⟨_,pG,(cZ hs).F λw1 Tc=>?_⟩;subst Tc;refine⟨_,rfl,(gx hW0).F λw2 yE=>?_⟩;subst yE;refine⟨_,rfl,(Px hd).mono ?_⟩;rintro e w3 ⟨sl,rfl,ho,x3⟩;have⟨Fw3,hW3,bq⟩:=(hd.ext x3).world;have hl:=ahQ M L;refine⟨sl,rfl,(Ps hW3 hW sl (dy M L) (ho.rd X) (W3 M L) U).F λw4 hr=>?_⟩;exact⟨_,rfl,rfl,dK.P (xd.A x3) (bq hr)⟩
end
def ks(ws:aa):Option Unit:=if ws=[]then some ()else none
def adV(b:aX):Option Unit:=if b then some ()else none
def ams{ws r:aa}{n:Int}(h:gz ws=some (n,r)): -1000000000000000<n/\n<1000000000000000:=by
 unfold gz at h;split at h
 ·cases h
 ·rename_i t r' _;split at h
  ·rename_i hb;have e:(zX t).1=n:=by cases h;rfl
   rw[<-e];by_cases c:(OU (bl t)).length<1\/15<(OU (bl t)).length
   ·rw[zY c];decide
   ·cases hd:uR (OU (bl t))with
    |none=>rw[Xt hd];decide
    |some x=>
     have⟨h1,h2⟩:=EU _ rfl hd;have h3:(10:Int)^(OU (bl t)).length<=10^15:=by have:(10:Nat)^(OU (bl t)).length<=10^15:=Nat.pow_le_pow_right X U;exact_mod_cast this
     rw[adW c hd];simp only;split<;>omega
  ·cases h
def se{ws r:aa}{n:Int}(h:gz ws=some (n,r)):cH n:=by have:=ams h;unfold cH;omega
def Xi{ws r:aa}{c:Ce}(h:kI ws=some (c,r)):pQ c:=by
 unfold kI at h;split at h
 ·cases h
 ·rename_i x r1 h1;split at h
  ·cases h
  ·rename_i y r2 h2;split at h
   ·cases h
   ·rename_i z r3 h3
    cases h
    exact⟨se h1,se h2,se h3⟩
structure At(k:Nat)(w0 w:au)(F:Nat->Prop)(sh g s o t B ga:Nat)(M:Sm)(occ:aC)(L:Lv)(ws:aa)(R:l_)(p:Option Out):Prop where
 c:Mc k w F sh g s o t B ga M occ L ws
 m:Mod (λi=>i=ga) w0 w
 r:R=MR k w0 ga F g s o t p
section
variable{k:Nat}{w0 w u u':au}{F:Nat->Prop}{sh g s o t B ga:Nat}{M M':Sm}{occ occ':aC}{L L':Lv}{ws:aa}{R:l_}{p:Option Out}{T:aq}
def Mc.at(h:Mc k w F sh g s o t B ga M occ L ws)(p:Option Out):At k w w F sh g s o t B ga M occ L ws (MR k w ga F g s o t p) p:=⟨h,Mod.refl _ _,rfl⟩
def At.ext(h:At k w0 w F sh g s o t B ga M occ L ws R p)(x:Ext w u):At k w0 u F sh g s o t B ga M occ L ws R p:=⟨h.c.ext x,h.m.trans (Mod.P x),h.r⟩
def At.Io(h:At k w0 w F sh g s o t B ga M occ L ws R none)(m:Mod (λi=>i=ga) w u):R Io u:=by rw[h.r];exact MR.bad (h.m.trans m)
def At.TL(h:At k w0 w F sh g s o t B ga M occ L ws R (some (T,M',L')))(hT:T.size<=1000000)(hI:Inv (k+1) M' L')(hr:dK F w g s o t M' occ' L' u)(x:Ext u u'):R (.returned (.string T)) u':=by rw[h.r];exact MR.TL hT hI h.m hr x
def At.same(h:At k w0 w F sh g s o t B ga M occ L ws R (some (T,M,L)))(hT:T.size<=1000000)(x:Ext w u):R (.returned (.string T)) u:=by rw[h.r];exact MR.TL hT h.c.i.up h.m (h.c.e.res (Ext.M w)) x
def At.ld(h:At k w0 w F sh g s o t B ga M occ L ws R p):Vc.ld w (N (O sh) 0)=some (.pointer (O g)):=by rw[aF,h.c.r.row.ld];rfl
variable{b:Nat}
def At.aV(h:At k w0 w F sh g s o t B ga M occ L ws R p)(m:Mod (λi=>i=ga) w u)(hb:B<=b)(hl:b<w):u.heap[b]? =w.heap[b]? :=m.same b hl (a1N h.c.a.lt)
def At.PS(h:At k w0 w F sh g s o t B ga M occ L ws R p)(hr:dK F w g s o t M' occ' L' u)(hb:B<=b)(hl:b<w)(hf:¬F b):u.heap[b]? =w.heap[b]? :=by obtain⟨F',-,ht⟩:=hr;exact ht.mod.same b hl hf
def At.le(h:At k w0 w F sh g s o t B ga M occ L ws R p):B<=w:=h.c.a.le
variable{q:Option Out}
def At.go{r:aa}(h:At k w0 w F sh g s o t B ga M occ L ws R p)(m:Mod (λi=>i=ga) w u)(a:AG u B ga r)(e:p=q):At k w0 u F sh g s o t B ga M occ L r R q:=⟨h.c.go m a,h.m.trans m,e▸h.r⟩
def At.rd{α:Type}{q:α×aa->Option Out}{a:Option (α×aa)}{ret:α->aC}{e:Ending}{K:α->Prop}(h:At k w0 w F sh g s o t B ga M occ L ws R (a.bind q))(hp:PR w B ga a ret e u) (hy:∀x r,a=some (x,r)->Mod (λi=>i=ga) w u->At k w0 u F sh g s o t B ga M occ L r R (q (x,r))->K x):(e=Go.Proofs.YtjcnjlaelhdjeaaGreatDoor.Io/\R e u)\/∃x,e=(ret x)/\K x:=by
 have⟨m,hp⟩:=hp
 cases a with
 |none=>exact .inl ⟨hp,by rw[hp];exact At.Io (show At k w0 w F sh g s o t B ga M occ L ws R none from h) m⟩
 |some y=>
  have⟨x,r⟩:=y;exact .inr ⟨x,hp.1,hy x r rfl m (h.go m hp.2 rfl)⟩
variable{q:Int×aa->Option Out}{K:Int->k_}
def At.num(h:At k w0 w F sh g s o t B ga M occ L ws R ((gz ws).bind q))(hy:∀x r u,gz ws=some (x,r)->Mod (λi=>i=ga) w u->At k w0 u F sh g s o t B ga M occ L r R (q (x,r))->K x u): Y 152 #[ga] w λe u=>IQ R e u (∃x:Int,e=S x/\K x u):=by
 refine(k8 h.c.a).mono λe u hp=>?_
 rcases h.rd hp (K:=λx=>K x u) (λx r h1 h2 h3=>hy x r u h1 h2 h3)with⟨rfl,q⟩|⟨x,rfl,q⟩
 ·exact q
 ·exact⟨x,rfl,q⟩
def At.D(h:At k w0 w F sh g s o t B ga M occ L ws R ((ZF ws).bind q))(hy:∀x r u,ZF ws=some (x,r)->Mod (λi=>i=ga) w u->At k w0 u F sh g s o t B ga M occ L r R (q (x,r))->K x u): Y 168 #[ga] w λe u=>IQ R e u (∃x:Int,e=S x/\K x u):=by
 refine(adX h.c.a).mono λe u hp=>?_
 rcases h.rd hp (K:=λx=>K x u) (λx r h1 h2 h3=>hy x r u h1 h2 h3)with⟨rfl,q⟩|⟨x,rfl,q⟩
 ·exact q
 ·exact⟨x,rfl,q⟩
variable{q:aq×aa->Option Out}{K:aq->k_}
def At.word(h:At k w0 w F sh g s o t B ga M occ L ws R ((Da ws).bind q))(hy:∀x r u,Da ws=some (x,r)->Mod (λi=>i=ga) w u->At k w0 u F sh g s o t B ga M occ L r R (q (x,r))->K x u): Y 53 #[ga] w λe u=>IQ R e u (∃x:aq,e=bP x/\K x u):=by
 refine(vH h.c.a).mono λe u hp=>?_
 rcases h.rd hp (K:=λx=>K x u) (λx r h1 h2 h3=>hy x r u h1 h2 h3)with⟨rfl,q⟩|⟨x,rfl,q⟩
 ·exact q
 ·exact⟨x,rfl,q⟩
variable{q:(Int×Int)×aa->Option Out}{K:Int->Int->k_}
def At.pos(h:At k w0 w F sh g s o t B ga M occ L ws R ((xC ws).bind q))(hy:∀x z r u,xC ws=some ((x,z),r)->Mod (λi=>i=ga) w u->At k w0 u F sh g s o t B ga M occ L r R (q ((x,z),r))->K x z u): Y 156 #[ga] w λe u=>IQ R e u (∃x z:Int,e=vI #[S x,S z]/\K x z u):=by
 refine(QD h.c.a).mono λe u hp=>?_
 rcases h.rd hp (K:=λx=>K x.1 x.2 u) (λx r h1 h2 h3=>hy x.1 x.2 r u h1 h2 h3)with⟨rfl,q⟩|⟨x,rfl,q⟩
 ·exact q
 ·exact⟨x.1,x.2,rfl,q⟩
variable{q:(Int×Int×Int)×aa->Option Out}{K:Int->Int->Int->k_}
def At.vec(h:At k w0 w F sh g s o t B ga M occ L ws R ((kI ws).bind q))(hy:∀x y z r u,kI ws=some ((x,y,z),r)->Mod (λi=>i=ga) w u->At k w0 u F sh g s o t B ga M occ L r R (q ((x,y,z),r))->K x y z u): Y 166 #[ga] w λe u=>IQ R e u (∃x y z:Int,e=vI #[S x,S y,S z]/\K x y z u):=by
 refine(QE h.c.a).mono λe u hp=>?_
 rcases h.rd hp (K:=λx=>K x.1 x.2.1 x.2.2 u) (λx r h1 h2 h3=>hy x.1 x.2.1 x.2.2 r u h1 h2 h3)with⟨rfl,q⟩|⟨x,rfl,q⟩
 ·exact q
 ·exact⟨x.1,x.2.1,x.2.2,rfl,q⟩
def At.cell(h:At k w0 w F sh g s o t B ga M occ L ws R ((kI ws).bind q))(hy:∀x y z r u,kI ws=some ((x,y,z),r)->Mod (λi=>i=ga) w u->At k w0 u F sh g s o t B ga M occ L r R (q ((x,y,z),r))->K x y z u): Y 169 #[ga] w λe u=>IQ R e u (∃x y z:Int,e=vI #[S x,S y,S z]/\K x y z u):=by
 refine(Kk h.c.a).mono λe u hp=>?_
 rcases h.rd hp (K:=λx=>K x.1 x.2.1 x.2.2 u) (λx r h1 h2 h3=>hy x.1 x.2.1 x.2.2 r u h1 h2 h3)with⟨rfl,q⟩|⟨x,rfl,q⟩
 ·exact q
 ·exact⟨x.1,x.2.1,x.2.2,rfl,q⟩
variable{q:Unit->Option Out}{K:k_}
def At.fin(h:At k w0 w F sh g s o t B ga M occ L ws R ((ks ws).bind q))(hy:ws=[]->At k w0 w F sh g s o t B ga M occ L [] R (q ())->K w): Y 153 #[ga] w λe u=>IQ R e u (e=pz/\K u):=by
 refine(qW h.c.a).mono ?_;rintro e u ⟨e0,he⟩;rw[e0];by_cases hr:ws=[]
 ·subst hr;rw[if_pos rfl]at he;subst he;exact⟨rfl,hy rfl ⟨h.c,h.m,h.r⟩⟩
 ·rw[if_neg hr]at he;subst he;have e1:(ks ws).bind q=none:=by unfold ks;rw[if_neg hr];rfl
  rw[e1]at h;exact h.Io (Mod.refl _ _)
def At.amt{b b':aX}(h:At k w0 w F sh g s o t B ga M occ L ws R ((adV b').bind q))(hb:b=b')(hy:b=true->At k w0 w F sh g s o t B ga M occ L ws R (q ())->K w): Y 54 #[b] w λe u=>IQ R e u (e=pz/\K u):=by
 subst hb;refine(mj b w).mono ?_;rintro e u ⟨he,e0⟩;rw[e0]
 cases b with
 |true=>
  rw[if_pos rfl]at he;subst he;exact⟨rfl,hy rfl ⟨h.c,h.m,h.r⟩⟩
 |false=>
  rw[if_neg X]at he;subst he;exact At.Io (show At k w0 w F sh g s o t B ga M occ L ws R none from h) (Mod.refl _ _)
end
abbrev N'(l:ab):List (LV):=l.map λb=>[.int .u8 b]
abbrev tBy:aB:=43
structure Xu(w0 w:au)(gb:Nat)(s:H)(l:ab):Prop where
 x:Ext w0 w
 lt:w0<=gb
 row:Row w gb [s] tBy
 rd:RdK w0 s 1 (N' l)
 nc:s.n<=s.c
 R_:mJ l
section
variable{w0 w w':au}{gb:Nat}{s:H}{l:ab}(h:Xu w0 w gb s l)
def Xu.ext(x:Ext w w'):Xu w0 w' gb s l:=⟨h.x.A x,h.lt,h.row.ext x,h.rd,h.nc,h.R_⟩
def Xu.n:s.n=l.length:=by rw[h.rd.n,aK]
def aje(h:mJ l){k:Nat}(hk:k<=5):0<=eh (l.take k)/\eh (l.take k)<1099511627776:=by
 have q:=Oj h k;have:(256:Int)^k<=256^5:=by rcases(show k=0\/k=1\/k=2\/k=3\/k=4\/k=5 by omega)with rfl|rfl|rfl|rfl|rfl|rfl<;>decide
 have e:(256:Int)^5=1099511627776:=by decide
 omega
variable{gf:Nat}
def SR{w0 w:au}{gb gf:Nat}{s:H}{x l:ab}(h:Xu w0 w gb s (x++l))(hk:x.length<=6):Y 304 #[(x.length:Int),gb,gf] w λe w'=>e=S (eh x)/\Mod (λi=>i=gb) w w'/\∃s',Xu w0 w' gb s' l:=by
 apply IX.B;have hn:s.n=x.length+l.length:=by rw[h.n,cj]
 have Is:=h.nc;have hzx:=h.x.size;have fK:=h.row.lt;refine⟨λu=>u=w,⟨s,h.row.at 0 rfl,uN (decide_eq_false U) rfl⟩,?_⟩;rintro us w5 rfl;have hrw:=h.rd.ext h.x;have mF:RdK w5 ⟨aE s.a 0 s.c 1,x.length,s.c⟩ 1 (N' x):=by
  have q:=hrw.cut (m:=x.length) (c':=s.c) (c'':=s.c) (by rw[aK,cj];omega);have e:(N' (x++l)).take x.length=N' x:=by show((x++l).map _).take x.length=_;rw[<-List.map_take,List.take_left]
  rw[e]at q;exact q
 have EI:mJ x:=λc hc=>h.R_ c (Ha _ hc)
 refine⟨s,h.row.at 0 rfl,U,U,λn i acc u=>∃j:Nat,i=j/\j+n=x.length/\acc=eh (x.take j)/\u=w5,⟨x.length,0,rfl,U,rfl,rfl⟩,?_⟩;rintro n us i acc u ⟨j,rfl,hj,rfl,rfl⟩;have e0:((x.length:Int).toNat-0:Nat)=x.length:=by omega
 rw[e0];apply Z.mk<;>intro hq
 ·have hq:=eK hq;have⟨c,hc⟩:=bX (l:=x) (i:=j) U;have hcb:=EI c (aQ hc);have de:(N' x)[j]? =some [.int .u8 c]:=by rw[aW,hc];rfl
  have q:=mF.at de (j:=0) (v:=.int .u8 c) rfl;rw[fu]at q;have px:gD (aE s.a 0 s.c 1) (j:Int) x.length:=mF.jX X U hq;have hb5:=aje EI (k:=j) U;have e8:(2:Int)^min (8:Int).toNat 64=256:=by decide
  refine⟨px,c,q,n-1,U,j+1,by rw[wI];omega,U,?_,rfl⟩;rw[e8,wI,wI,Sc U hcb,dq,hc];exact(HJ _ _).symm
 ·have hq:=eK hq;obtain rfl:j=x.length:=by omega
  have⟨p1,p2⟩:=h.row.ft (j:=0) (v:=.slice (aE s.a ((x.length:Int).toNat) s.c 1) (s.n-(x.length:Int).toNat) (s.c-(x.length:Int).toNat)) (Nat.zero_lt_one) rfl;rw[fu]at p1 p2;refine⟨s,h.row.at 0 rfl,U,U,⟨rfl,p1⟩,λbZ CH=>?_⟩;have⟨q1,q2⟩:=p2 bZ CH;rw[kB];refine⟨rfl,q2,⟨aE s.a ((x.length:Int).toNat) s.c 1,s.n-(x.length:Int).toNat,s.c-(x.length:Int).toNat⟩,q2.ext h.x λi hi=>by rw[hi];exact h.lt,h.lt,q1,?_,hX,λc hc=>h.R_ c (Dc _ hc)⟩;have q:=h.rd.rest (l:=x.length) (m:=s.c) (n':=s.n-x.length) (c':=s.c-x.length) (by rw[aK,cj];omega) (λe=>by rw[aK,cj];omega);have e:(N' (x++l)).drop x.length=N' l:=by show((x++l).map _).drop x.length=_;rw[<-List.map_drop,List.drop_left]
  rw[e]at q;rw[iI];exact q
def ajf{n:Int}(h: -140737488355328<=n/\n<140737488355328):eh (j3 n)=n%281474976710656:=by have e:j3 n=[Xz n 0,Xz n 1,Xz n 2,Xz n 3,Xz n 4,Xz n 5]:=rfl;rw[e];unfold eh Xz;simp only[qY,List.foldl_nil];omega
abbrev smF(gb gf:Nat):aC:=.func (.func 304) #[] #[gb,gf]
abbrev nmF(gs:Nat):aC:=.func (.func 305) #[] #[gs]
structure Cx(w:au)(gb gf gs gn:Nat):Prop where
 s:∃τ,Row w gs [smF gb gf] τ
 n:∃τ,Row w gn [nmF gs] τ
 d:gb≠gs/\gb≠gn
variable{gs gn:Nat}(h:Cx w gb gf gs gn)
def Cx.mod{w w':au}{gb gf gs gn:Nat}(h:Cx w gb gf gs gn)(m:Mod (λi=>i=gb) w w'):Cx w' gb gf gs gn:=by have⟨⟨τ,h1⟩,⟨τ',h2⟩,h3⟩:=h;exact⟨⟨τ,m.row h1 (Ne.symm h3.1)⟩,⟨τ',m.row h2 (Ne.symm h3.2)⟩,h3⟩
def Cx.ext{w w':au}{gb gf gs gn:Nat}(h:Cx w gb gf gs gn)(x:Ext w w'):Cx w' gb gf gs gn:=by have⟨⟨τ,h1⟩,⟨τ',h2⟩,h3⟩:=h;exact⟨⟨τ,h1.ext x⟩,⟨τ',h2.ext x⟩,h3⟩
section
variable{w0 w:au}{gb gf gs gn:Nat}{s:H}{l:ab}
def Rds(w0 w:au)(gb:Nat)(l:ab)(w':au):Prop:=Mod (λi=>i=gb) w w'/\∃s',Xu w0 w' gb s' l
def HT{x:ab}(h:Xu w0 w gb s (x++l))(hk:x.length<=6):bu ka5 (smF gb gf) [(x.length:Int)] w λe w'=>e=S (eh x)/\Rds w0 w gb l w':=
 bR (by kernel_rfl) rfl (SR h hk)
def abm(hc:Cx w gb gf gs gn){n:Int}(hn: -140737488355328<=n/\n<140737488355328)(h:Xu w0 w gb s (j3 n++l)):Y 305 #[gs] w λe w'=>e=n/\Rds w0 w gb l w':=by
 apply IY.B;have⟨τ,hs⟩:=hc.s;refine⟨_,hs.at 0 rfl,?_⟩;refine(λR' k=>bJ (R':=R') (HT (gf:=gf) (x:=j3 n) h (by rw[uz];decide)) k) _ ?_;rintro e w1 ⟨rfl,hr⟩;have e1:=ajf hn;refine⟨_,rfl,λx u=>x=n/\u=w1,Z.mk (λhq=>⟨?_,rfl⟩) (λhq=>⟨?_,rfl⟩),?_⟩
 ·have hq:=eK hq;rw[wI];omega
 ·have hq:=eK hq;omega
 ·rintro us x u ⟨rfl,rfl⟩;exact⟨rfl,hr⟩
def uT(hc:Cx w gb gf gs gn){n:Int}(hn: -140737488355328<=n/\n<140737488355328)(h:Xu w0 w gb s (j3 n++l)):bu ka5 (nmF gs) [] w λe w'=>e=n/\Rds w0 w gb l w':=
 bR (by kernel_rfl) rfl (abm hc hn h)
def An(n:Int):Prop:= -140737488355328<=n/\n<140737488355328
def abn(hc:Cx w gb gf gs gn){v:Ce}(hv:An v.1/\An v.2.1/\An v.2.2)(h:Xu w0 w gb s (j3 v.1++(j3 v.2.1++(j3 v.2.2++l)))):Y 306 #[gn] w λe w'=>e=(fQ v)/\Rds w0 w gb l w':=by
 apply IZ.B;intro v0 e0;have x0:Ext w v0.drew:=(aU e0).drew;have z0:=zA e0;have zd:=nV v0;have hgb:=h.row.lt;have Er:=hc.ext x0;have⟨τ,hn0⟩:=Er.n;refine⟨_,hn0.at 0 rfl,_,hn0.at 0 rfl,?_⟩;refine(λR' k=>bJ (R':=R') (uT Er hv.1 (h.ext x0)) k) _ ?_;rintro e w3 ⟨rfl,m3,s3,h3⟩;have z3:=m3.size;have Lf:=Er.mod m3;have⟨τ3,hn3⟩:=Lf.n;refine⟨_,rfl,m3.same _ U U,Lo.wv hn3,?_⟩;refine(λR' k=>bJ (R':=R') (uT Lf hv.2.1 h3) k) _ ?_;rintro e w5 ⟨rfl,m5,s5,h5⟩;have z5:=m5.size;have hc5:=Lf.mod m5;have⟨τ5,hn5⟩:=hc5.n;refine⟨_,rfl,m5.same _ U U,_,hn5.at 0 rfl,?_⟩;refine(λR' k=>bJ (R':=R') (uT hc5 hv.2.2 h5) k) _ ?_;rintro e w8 ⟨rfl,m8,s8,h8⟩;have z8:=m8.size;refine⟨_,rfl,m8.same _ U U,λbr vv=>⟨rfl,?_,s8,?_⟩⟩
 ·have m10:Mod (λi=>i=w) w8 br:=⟨by rw[vv];rfl,by rw[vv];rfl,by rw[vv];rfl,by rw[vv,setRow_size];exact ak _,λi _ hn=>by rw[vv];exact setRow_other _ _ _ _ hn⟩;have mm:=(((Mod.P x0:Mod (λi=>i=gb) w v0.drew).trans m3).trans m5).trans m8;exact⟨m10.os.trans mm.os,m10.tape.trans mm.tape,m10.output.trans mm.output,cV mm.size m10.size,λi hi hn=>(m10.same i (gK hi mm.size) U).trans (mm.same i hi hn)⟩
 ·have xs:Ext w br\/True:=.inr trivial;refine⟨?_,h8.lt,h8.row.same (by rw[vv];exact setRow_other _ _ _ _ U),h8.rd,h8.nc,h8.R_⟩;exact h8.x.L vv (cV h.x.size (ak _))
end
end
abbrev Uc:aB:=292
abbrev ZK(y:cQ):cQ:=(y.1,(0,0,false))
def wF(L:h_)(done:ab):h_:=(List.range 16).map λi:Nat=>if(i:Int)∈done then(cE L i).map ZK else none
def M7(L:h_)(d:ab):(wF L d).length=16:=by unfold wF;rw[aK,Gx]
def QG{L:h_}{d:ab}{i:Nat}(h:i<16):(wF L d)[i]? =some (if(i:Int)∈d then(cE L i).map ZK else none):=by unfold wF;rw[aW,Fq h];rfl
def amw{L:h_}{d:ab}{i:Nat}{y:cQ}(h:i<16)(hy:cE L (i:Nat)=some y):(wF L d).set i (some (ZK y))=wF L (d++[(i:Int)]):=by
 refine jF λj=>?_
 rcases iR j 16 with hj|hj
 ·rw[iS,M7];split
  next e=>subst e;rw[QG hj,if_pos (Dc _ (ig.2 rfl)),hy];rfl
  ·rename_i e;rw[QG hj,QG hj];have:((j:Int)∈d++[(i:Int)])=((j:Int)∈d):=by rw[dp,ig];exact propext ⟨λq=>q.resolve_right U,.inl⟩
   simp only[this]
 ·rw[jZ (by rw[lO,M7];omega),jZ (by rw[M7];omega)]
structure RS(w0 w:au)(gb gq gf gs gn gr:Nat)(now:Int)(av:List (Option Nat))(P:h_)(sl:H)(l:ab):Prop where
 r:∃s,Xu w0 w gb s l
 c:Cx w gb gf gs gn
 f:Row w gf [.bool true] 4
 q:∃cs,cs.length=18/\Row w gq cs Uc
 g:Row w gr (S now::(av.map pA++[tr sl.a sl.n sl.c])) Uc
 e:EL w av P
 o:w0<=gb/\gb<gq/\gq<gf/\gf<gs/\gs<gn/\gn<gr
 a:∀a,some a∈av->gr<a
section
variable{w0 w w':au}{gb gq gf gs gn gr:Nat}{now:Int}{av:List (Option Nat)}{P:h_}{sl:H}{l l':ab}
def RS.ext(h:RS w0 w gb gq gf gs gn gr now av P sl l)(x:Ext w w'):RS w0 w' gb gq gf gs gn gr now av P sl l:=by have⟨⟨s,h1⟩,h2,h3,⟨cs,hc,h4⟩,h5,h6,h7,h8⟩:=h;exact⟨⟨s,h1.ext x⟩,h2.ext x,h3.ext x,⟨cs,hc,h4.ext x⟩,h5.ext x,h6.same λa ha=>x.heap (h6.lt ha),h7,h8⟩
def RS.rds(h:RS w0 w gb gq gf gs gn gr now av P sl l)(k:Rds w0 w gb l' w'):RS w0 w' gb gq gf gs gn gr now av P sl l':=by obtain⟨-,h2,h3,⟨cs,hc,h4⟩,h5,h6,h7,h8⟩:=h;have⟨m,hr⟩:=k;exact⟨hr,h2.mod m,m.row h3 U,⟨cs,hc,m.row h4 U⟩,m.row h5 U,h6.same λa ha=>m.same a (h6.lt ha) a1j,h7,h8⟩
def RS.x0(h:RS w0 w gb gq gf gs gn gr now av P sl l):Ext w0 w:=by have⟨s,q⟩:=h.r;exact q.x
def RS.own(h:RS w0 w gb gq gf gs gn gr now av P sl l){k:Nat}{cs:LV}(hk:gr<k)(hn:some k∉av)(e:w'=w.setRow k cs.toArray):RS w0 w' gb gq gf gs gn gr now av P sl l:=by
 have m:∀i,i≠k->w'.heap[i]? =w.heap[i]? :=λi hi=>by rw[e];exact setRow_other _ _ _ _ hi
 have hx:=h.x0;have⟨⟨s,h1⟩,⟨⟨τ,c1⟩,⟨τ',c2⟩,c3⟩,h3,⟨cs',hc,h4⟩,h5,h6,h7,h8⟩:=h;exact⟨⟨s,h1.x.L e U,h1.lt,h1.row.same (m _ U),h1.rd,h1.nc,h1.R_⟩,⟨⟨τ,c1.same (m _ U)⟩,⟨τ',c2.same (m _ U)⟩,c3⟩,h3.same (m _ U),⟨cs',hc,h4.same (m _ U)⟩,h5.same (m _ U),h6.same λa ha=>m a λq=>hn (q▸ha),h7,h8⟩
def RS.amv(h:RS w0 w gb gq gf gs gn gr now av P sl l):Wr w (O gf) 1/\∀u,u=bB w (O gf) [.bool true]->RS w0 u gb gq gf gs gn gr now av P sl l/\Mod (λi=>i=gf) w u:=by have⟨p1,p2⟩:=h.f.ft (j:=0) (v:=.bool true) Nat.zero_lt_one rfl;rw[fu]at p1 p2;refine⟨p1,λu eu=>?_⟩;have⟨q1,q2⟩:=p2 u eu;have⟨⟨s,h1⟩,⟨⟨τ,c1⟩,⟨τ',c2⟩,c3⟩,h3,⟨cs',hc,h4⟩,h5,h6,h7,h8⟩:=h;exact⟨⟨⟨s,q2.ext h1.x λi hi=>by omega,h1.lt,q2.row h1.row U,h1.rd,h1.nc,h1.R_⟩,⟨⟨τ,q2.row c1 U⟩,⟨τ',q2.row c2 U⟩,c3⟩,q1,⟨cs',hc,q2.row h4 U⟩,q2.row h5 U,h6.same λa ha=>q2.same a (h6.lt ha) a1j,h7,h8⟩,q2⟩
def RS.put(h:RS w0 w gb gq gf gs gn gr now av P sl l){i k:Nat}{y:cQ}(hi:i<16)(hr:Row w k (Gf y) j7)(hk:gr<k)(hn:some k∉av)(hz:av[i]? =some none): Wr w (N (jM gr 1) (i*1)) 1/\∀u,u=bB w (N (jM gr 1) (i*1)) [k]->RS w0 u gb gq gf gs gn gr now (av.set i (some k)) (P.set i (some y)) sl l:=by
 have⟨⟨s,h1⟩,⟨⟨τ,c1⟩,⟨τ',c2⟩,c3⟩,h3,⟨cs',hc,h4⟩,h5,h6,h7,h8⟩:=h;have hl:(av.map pA).length=16:=by rw[aK,h6.n]
 have⟨p1,p2⟩:=h5.ft (j:=i+1) (v:=.pointer (O k)) (by rw[cL,cj,hl];simp only[cL,mV];omega) rfl;have e:N (jM gr 1) (i*1)=N (O gr) (i+1):=by rw[aF,aF,show 1+i*1=0+(i+1)from by omega]
 rw[e];refine⟨p1,λu eu=>?_⟩;have⟨q1,q2⟩:=p2 u eu;have e2:putCells (S now::(av.map pA++[tr sl.a sl.n sl.c])) (i+1) [k]=S now::((av.set i (some k)).map pA++[tr sl.a sl.n sl.c]):=by show List.set _ _ _=_;rw[akR,List.set_append_left _ _ (hl▸hi),pM];rfl
 rw[e2]at q1;have hkk:k≠gr:=by omega
 refine⟨⟨s,q2.ext h1.x λi hi=>by omega,h1.lt,q2.row h1.row U,h1.rd,h1.nc,h1.R_⟩,⟨⟨τ,q2.row c1 U⟩,⟨τ',q2.row c2 U⟩,c3⟩,q2.row h3 U,⟨cs',hc,q2.row h4 U⟩,q1,?_,h7,λa ha=>?_⟩
 ·have h6':EL u av P:=h6.same λa ha=>q2.same a (h6.lt ha) a1j
  refine⟨by rw[lO];exact h6.n,by rw[lO];exact h6.m,λj a hj=>?_,λj hj=>?_,λj j' a hj hj'=>?_⟩
  ·rw[iS]at hj⊢;split at hj
   next e=>subst e;rw[h6.n,if_pos hi]at hj;injection hj with hj;injection hj with hj;subst hj;rw[if_pos rfl,h6.m,if_pos hi];exact⟨y,rfl,q2.row hr hkk⟩
   next e=>rw[if_neg e];exact h6'.s j a hj
  ·rw[iS]at hj⊢;split at hj
   ·rw[h6.n,if_pos hi]at hj;injection hj with hj
    cases hj
   next e=>rw[if_neg e];exact h6'.z j hj
  ·have fr:∀j,av[j]?≠some (some k):=λj q=>hn (aQ q)
   rw[iS]at hj hj';split at hj<;>split at hj'
   ·omega
   ·rw[h6.n,if_pos hi]at hj;injection hj with hj;injection hj with hj;subst hj;exact absurd hj' (fr _)
   ·rw[h6.n,if_pos hi]at hj';injection hj' with hj';injection hj' with hj';subst hj';exact absurd hj (fr _)
   ·exact h6.d j j' a hj hj'
 ·have⟨j,hj⟩:=qA ha;rw[iS]at hj;split at hj
  ·rw[h6.n,if_pos hi]at hj;injection hj with hj;injection hj with hj;omega
  ·exact h8 a (aQ hj)
end
section
variable{w0 w w':au}{gb gq gf gs gn gr:Nat}{now:Int}{av:List (Option Nat)}{P:h_}{sl:H}{l l':ab}{R:l_}
def RS.sm1{i:Int}(h:RS w0 w gb gq gf gs gn gr now av P sl (i::l))(k:∀w',RS w0 w' gb gq gf gs gn gr now av P sl l->Mod (λi=>i=gb) w w'->R (.returned (S i)) w'): ∃v,Vc.ld w (O gs)=some v/\bu ka5 v [(1:Int)] w R:=by
 have⟨s,hr⟩:=h.r;have⟨τ,hs⟩:=h.c.s;refine⟨_,hs.at 0 rfl,(bJ (HT (gf:=gf) (x:=[i]) hr bo) ?_:bu ka5 (smF gb gf) [S (([i]:ab).length:Int)] w R)⟩;rintro e u ⟨rfl,hu⟩;have:eh [i]=i:=by unfold eh;simp
 rw[this];exact k u (h.rds hu) hu.1
def RS.sm2{i j:Int}(h:RS w0 w gb gq gf gs gn gr now av P sl (i::j::l))(k:∀w',RS w0 w' gb gq gf gs gn gr now av P sl l->Mod (λi=>i=gb) w w'->R (.returned (S (i*256+j))) w'): ∃v,Vc.ld w (O gs)=some v/\bu ka5 v [(2:Int)] w R:=by
 have⟨s,hr⟩:=h.r;have⟨τ,hs⟩:=h.c.s;refine⟨_,hs.at 0 rfl,(bJ (HT (gf:=gf) (x:=[i,j]) hr bo) ?_:bu ka5 (smF gb gf) [S (([i,j]:ab).length:Int)] w R)⟩;rintro e u ⟨rfl,hu⟩;have:eh [i,j]=i*256+j:=by unfold eh;simp
 rw[this];exact k u (h.rds hu) hu.1
def RS.num{n:Int}(hn:An n)(h:RS w0 w gb gq gf gs gn gr now av P sl (j3 n++l))(k:∀w',RS w0 w' gb gq gf gs gn gr now av P sl l->Mod (λi=>i=gb) w w'->R (.returned n) w'): ∃v,Vc.ld w (O gn)=some v/\bu ka5 v [] w R:=by
 have⟨s,hr⟩:=h.r;have⟨τ,hs⟩:=h.c.n;refine⟨_,hs.at 0 rfl,bJ (uT h.c hn hr) ?_⟩;rintro e u ⟨rfl,hu⟩;exact k u (h.rds hu) hu.1
def RS.gE{v:Ce}(hv:An v.1/\An v.2.1/\An v.2.2)(h:RS w0 w gb gq gf gs gn gr now av P sl (j3 v.1++(j3 v.2.1++(j3 v.2.2++l))))(k:∀w',RS w0 w' gb gq gf gs gn gr now av P sl l->Mod (λi=>i=gb) w w'->R (.returned (fQ v)) w'): Y 306 #[gn] w R:=by
 have⟨s,hr⟩:=h.r;refine(abn h.c hv hr).F λu hu=>?_
 exact k u (h.rds hu) hu.1
def ZJ(L:h_):(bh L).Pairwise (·<·):=by unfold bh;rw[List.pairwise_map];exact((List.pairwise_lt_range (n:=16)).filter _).imp λq=>by omega
def RS.free{L:h_}{d:ab}{i:Nat}(h:RS w0 w gb gq gf gs gn gr now av (wF L d) sl l)(hi:i<16)(hd:(i:Int)∉d):av[i]? =some none:=by
 have hn:=h.e.n;have⟨o,ho⟩:=bX (l:=av) (i:=i) U
 cases o with
 |none=>exact ho
 |some a=>
  obtain⟨x,q,-⟩:=h.e.s i a ho;rw[QG hi,if_neg hd]at q
  cases q
end
def okR(L:h_):Prop:=∀(i:Nat)(y:cQ),cE L i=some y->y.1.may=true/\∀n∈tk y.1,An n
section
variable{w0 w w':au}{gb gq gf gs gn gr:Nat}{now:Int}{av:List (Option Nat)}{P:h_}{sl:H}{l l':ab}{R:l_}
def ail{v x:aC}(h:av.length=16):(v::(av.map pA++[x])).length=18:=by rw[cL,cj,aK,h];rfl
def ad0{v x:aC}(h:av.length=16):(v::(av.map pA++[x]))[17]? =some x:=by rw[Kh,pO (by rw[aK];omega),aK,h];rfl
def RS.amu(h:RS w0 w gb gq gf gs gn gr now av P sl l)(s':H):Wr w (some ⟨gr,17,none⟩) 1/\∀u,u=bB w (some ⟨gr,17,none⟩) [.slice s'.a s'.n s'.c]->RS w0 u gb gq gf gs gn gr now av P s' l/\Mod (λi=>i=gr) w u:=by
 have hl:=ail (v:=S now) (x:=.slice sl.a sl.n sl.c) h.e.n;have⟨p1,p2⟩:=h.g.ft (j:=17) (v:=.slice s'.a s'.n s'.c) (by rw[hl];decide) rfl;rw[aF]at p1 p2;refine⟨p1,λu eu=>?_⟩;have⟨q1,q2⟩:=p2 u eu;have e2:putCells (S now::(av.map pA++[tr sl.a sl.n sl.c])) 17 [.slice s'.a s'.n s'.c]=S now::(av.map pA++[.slice s'.a s'.n s'.c]):=by show List.set _ _ _=_;rw[List.set_cons_succ,List.set_append_right _ _ (by rw[List.length_map,h.e.n];decide),List.length_map,h.e.n];rfl
 rw[e2]at q1;have⟨⟨s,h1⟩,⟨⟨τ,c1⟩,⟨τ',c2⟩,c3⟩,h3,⟨cs',hc,h4⟩,h5,h6,h7,h8⟩:=h;exact⟨⟨⟨s,q2.ext h1.x λi hi=>by omega,h1.lt,q2.row h1.row (by omega),h1.rd,h1.nc,h1.R_⟩,⟨⟨τ,q2.row c1 (by omega)⟩,⟨τ',q2.row c2 (by omega)⟩,c3⟩,q2.row h3 (by omega),⟨cs',hc,q2.row h4 (by omega)⟩,q1,h6.same λa ha=>q2.same a (h6.lt ha) a1j,h7,h8⟩,q2⟩
end
def okW(l:List dS.It):Prop:=∀x∈l,An x.1/\(-2147483648<=x.2.1/\x.2.1<=2147483648)/\(-2147483648<=x.2.2.1/\x.2.2.1<=2147483648)/\-2147483648<=x.2.2.2/\x.2.2.2<=2147483648
def ac3{α:Type}{l:List α}(h:l.length=16):∃a0 a1 a2 a3 a4 a5 a6 a7 a8 a9 S9 a11 a12 a13 a14 a15,l=[a0,a1,a2,a3,a4,a5,a6,a7,a8,a9,S9,a11,a12,a13,a14,a15]:=by
 match l,h with
 | [a0,a1,a2,a3,a4,a5,a6,a7,a8,a9,S9,a11,a12,a13,a14,a15],_=>exact⟨_,_,_,_,_,_,_,_,_,_,_,_,_,_,_,_,rfl⟩
abbrev lf9(f s:Ce)(a b:Int):LV:=Gf (⟨f,s,a,b,false⟩,(0,0,false))
def YR{w:au}{s:H}{M:Sm}{L:h_}(hs:RdK w s 1 (N' (dy M L)))(hc:s.n<=s.c)(hL:okR L)(hW:okW M.q.l)(hM:0<=M.now/\M.now<=1099511627776): Y 248 #[s] w λe w'=>∃(av:List (Option Nat))(sl:H),e=bT #[.agg (S M.now::(av.map pA++[tr sl.a sl.n sl.c])).toArray,true]/\Ext w w'/\EL w' av (wF L (bh L))/\(∀a,some a∈av->w.heap.size<=a)/\ar w Q.cc 4 w' sl ((M.q.l.take 2000).map fM):=by
 apply Qy.B;intro w0 e0 w1 e1 w2 e2 w3 e3 w4 e4 w5 e5 w6 e6 w7 e7;have z0:=zA e0;have z1:=zA e1;have z2:=zA e2;have z3:w3.heap.size=w2.heap.size:=by rw[e3,setRow_size]
 have z4:=zA e4;have z5:w5.heap.size=w4.heap.size:=by rw[e5,setRow_size]
 have z6:=zA e6;have z7:w7.heap.size=w6.heap.size:=by rw[e7,setRow_size]
 have hr:Xu w w7 w s (dy M L)/\Cx w7 w w1 w3 w5/\Row w7 w1 [.bool true] 4/\∃cs,cs.length=18/\Row w7 w0 cs Uc:=by
  have x1:=aU e1;have x2:=aU e2;have x3:Ext w1 w3:=x2.L e3 (ak _);have x5:Ext w3 w5:=(aU e4).L e5 (ak _);have x7:Ext w5 w7:=(aU e6).L e7 (ak _);have mO:=x5.A x7;have dO:=x3.A mO;have x07:=x1.A dO;have r0:Row w0 w [s] tBy:=Row.nw e0;have r1:Row w1 w0 [J,i_,i_,i_,i_,i_,i_,i_,i_,i_,i_,i_,i_,i_,i_,i_,i_,.slice none 0 0] Uc:=Row.nw e1;have r3:Row w3 w1 [.bool true] 4:=by rw[e3];exact Row.set a1b _
  have r5:Row w5 w3 [smF w w1] 32:=by rw[e5];exact Row.set (by rw[e4];exact Row.new w3 [_] _) _
  have r7:Row w7 w5 [nmF w3] 69:=by rw[e7];exact Row.set (by rw[e6];exact Row.new w5 [_] _) _
  exact⟨⟨(aU e0).A x07,ak _,r0.ext x07,hs,hc,W3 M L⟩,⟨⟨_,r5.ext x7⟩,⟨_,r7⟩,U,U⟩,r3.ext mO,_,rfl,r1.ext dO⟩
 have⟨hr,hcx,hf,cs,tc,hq⟩:=hr;have eB:dy M L=j3 M.now++(((bh L).length:Int)%256::(dT L (bh L)++ij M.q.l)):=by unfold dy fZ;simp only[fT,List.cons_append,Pz]
 rw[eB]at hr;have⟨τ,hn⟩:=hcx.n;refine⟨_,hn.at 0 rfl,?_⟩;refine(λR' k=>bJ (R':=R') (uT hcx (n:=M.now) U hr) k) _ ?_;rintro e w9 ⟨rfl,m9,s9,h9⟩;have z9:=m9.size;refine⟨_,rfl,m9.same _ U U,λbE A8 bN ui=>?_⟩;have z11:=zA A8;have z12:bN.heap.size=bE.heap.size:=by rw[ui,setRow_size]
 have cr:Ext w9 bN:=(aU A8).L ui (ak _);have g12:Row bN w9 (S M.now::((List.replicate 16 none).map pA++[.slice none 0 0])) Uc:=by rw[ui];exact Row.set (by rw[A8];exact Row.new w9 [_,_,_,_,_,_,_,_,_,_,_,_,_,_,_,_,_,_] _) _
 have H12:RS w bN w w0 w1 w3 w5 w9 M.now (List.replicate 16 none) (wF L []) ⟨none,0,0⟩ (((bh L).length:Int)%256::(dT L (bh L)++ij M.q.l)):=by
  refine⟨⟨s9,h9.ext cr⟩,(hcx.mod m9).ext cr,(m9.row hf U).ext cr,⟨cs,tc,(m9.row hq U).ext cr⟩,g12,⟨bo,M7 _ _,λi a q=>?_,λi q=>?_,λi j a q=>?_⟩,U,λa ha=>?_⟩
  ·exact a1g
  ·have:i<16:=by
    rw[Ao]at q;split at q
    ·assumption
    ·cases q
   rw[QG this];rfl
  ·exact a1g
  ·cases List.eq_of_mem_replicate ha
 refine⟨λu=>RS w u w w0 w1 w3 w5 w9 M.now (List.replicate 16 none) (wF L []) ⟨none,0,0⟩ (((bh L).length:Int)%256::(dT L (bh L)++ij M.q.l)),?_,?_⟩
 ·refine⟨true,H12.f.at 0 rfl,M.now,H12.g.at 0 rfl,Z.mk (λ_=>⟨M.now,H12.g.at 0 rfl,?_⟩) (λq=>?_)⟩
  ·dsimp only;rw[show decide (M.now<=1099511627776)=true from decide_eq_true hM.2];have⟨p1,p2⟩:=H12.amv;exact⟨p1,λu eu=>(p2 u eu).1⟩
  ·have q:=eK q;omega
 generalize hgb:w.heap.size=gb at*;generalize hgq:w0.heap.size=gq at*;generalize hgf:w1.heap.size=gf at*;generalize hgs:w3.heap.size=gs at*;generalize hgn:w5.heap.size=gn at*;generalize hgr:w9.heap.size=gr at*;intro us di H21;refine⟨λu=>∃av,RS w u gb gq gf gs gn gr M.now av (wF L (bh L)) ⟨none,0,0⟩ (ij M.q.l),H21.sm1 λie H24 m24=>⟨_,rfl,λn x b u=>∃(d r:ab)(av:List (Option Nat)),bh L=d++r/\x=r.length/\n=r.length/\(∀i∈r,b<i)/\RS w u gb gq gf gs gn gr M.now av (wF L d) ⟨none,0,0⟩ (dT L r++ij M.q.l),⟨_,[],bh L,_,rfl,?_,rfl,λi hi=>?_,H24⟩,?_⟩,?_⟩
 ·have:=uy L;omega
 ·obtain⟨j,rfl,-⟩:=ux hi;omega
 ·rintro n us x b ia ⟨d,r,av,hdr,rfl,rfl,hb,H31⟩
  cases r with
  |nil=>
   refine Z.mk (λhq=>?_) (λ_=>?_)
   ·simp at hq
   ·rw[oV]at hdr;rw[hdr];exact⟨av,H31⟩
  |cons i0 r=>
  refine Z.mk (λ_=>⟨true,H31.f.at 0 rfl,?_⟩) (λhq=>by rw[cL]at hq;simp at hq);obtain⟨i,rfl,hi,y,hy⟩:=ux (L:=L) (x:=i0) (hdr▸Dc _ (ka2 ..));have hps:=ZJ L;rw[hdr]at hps;obtain⟨-,WG,hp3⟩:=List.pairwise_append.1 hps;have hid:(i:Int)∉d:=λq=>a1N (hp3 _ q _ (ka2 ..))
  have hmr:∀j∈r,(i:Int)<j:=(List.pairwise_cons.1 WG).1;have⟨aj2,h47⟩:=hL i y hy;have eR:dT L ((i:Int)::r)++ij M.q.l=(i:Int)::(j3 y.1.aw.1++(j3 y.1.aw.2.1++(j3 y.1.aw.2.2++(j3 y.1.speed.1++(j3 y.1.speed.2.1++(j3 y.1.speed.2.2++(j3 y.1.wd++(j3 y.1.ht++(stB y.1.fG::(dT L r++ij M.q.l)))))))))):=by unfold dT;rw[eH,kX];unfold FG;rw[hy];unfold BD qt;simp only[eH,List.map_nil,kX,List.flatten_nil,fT,List.cons_append,Pz,oV]
  rw[eR]at H31;have q1:=h47 _ (ka2 ..);have q2:=h47 y.1.aw.2.1 bo;have q3:=h47 y.1.aw.2.2 bo;have q4:=h47 y.1.speed.1 bo;have q5:=h47 y.1.speed.2.1 bo;have q6:=h47 y.1.speed.2.2 bo;have q7:=h47 y.1.wd bo;have q8:=h47 y.1.ht bo;have haz:=H31.free hi hid;refine H31.sm1 λiD H35 m35=>⟨_,rfl,λjD e37=>?_⟩
  have z37:=zA e37;have r37:Row jD iD [J,J,J,J,J,J,J,J,false,J,J,false] j7:=Row.nw e37;have hk:gr<iD:=H35.g.lt;have hka:some iD.heap.size∉av:=λq=>a1N (H35.e.lt q)
  have KW:iD.heap.size≠gb:=a1N H35.o
  have H37:=H35.ext (aU e37);generalize iD=k at*;refine RS.gE (v:=y.1.aw) ⟨q1,q2,q3⟩ H37 λtH H38 m38=>⟨_,_,_,rfl,m38.same _ r37.lt KW,λnS e42=>?_⟩
  have H42:=H38.own hk hka e42;have r42:Row nS k (lf9 y.1.aw (0,0,0) 0 0) j7:=by rw[e42];exact Row.set (m38.row r37 KW) _
  refine RS.gE (v:=y.1.speed) ⟨q4,q5,q6⟩ H42 λiO H43 m43=>⟨_,_,_,rfl,m43.same _ r42.lt KW,λoE e47=>?_⟩
  have H47:=H43.own hk hka e47;have r47:Row oE k (lf9 y.1.aw y.1.speed 0 0) j7:=by rw[e47];exact Row.set (m43.row r42 KW) _
  refine RS.num q7 H47 λnB H49 m49=>⟨_,rfl,m49.same _ r47.lt KW,λw51 e51=>?_⟩
  have H51:=H49.own hk hka e51;have r51:Row w51 k (lf9 y.1.aw y.1.speed y.1.wd 0) j7:=by rw[e51];exact Row.set (m49.row r47 KW) _
  refine RS.num q8 H51 λw53 H53 m53=>⟨_,rfl,m53.same _ r51.lt KW,λyS e55=>?_⟩
  have H55:=H53.own hk hka e55;have r55:Row yS k (lf9 y.1.aw y.1.speed y.1.wd y.1.ht) j7:=by rw[e55];exact Row.set (m53.row r51 KW) _
  refine RS.sm1 H55 λnv H57 m57=>⟨_,rfl,m57.same _ r55.lt KW,λpH TX=>?_⟩
  have H59:=H57.own hk hka TX;have eS:(stB y.1.fG==1)=y.1.fG:=by cases y.1.fG<;>rfl
  have hS:stB y.1.fG<=1:=by cases y.1.fG<;>decide
  rw[eS]at TX;have r59:Row pH k (Gf (ZK y)) j7:=by rw[TX];exact Row.set (m57.row r55 KW) (Gf (ZK y))
  have hbi:=hb i (ka2 ..);refine⟨λu=>RS w u gb gq gf gs gn gr M.now av (wF L d) ⟨none,0,0⟩ (dT L r++ij M.q.l)/\Row u k (Gf (ZK y)) j7,⟨true,H59.f.at 0 rfl,Z.mk (λ_=>Z.mk (λ_=>Z.mk (λ_=>Z.mk (λ_=>?_) (λhq=>?_)) (λhq=>?_)) (λhq=>?_)) (λhq=>(by cases hq))⟩,?_⟩
  ·refine⟨_,_,_,_,_,_,_,_,_,r59.y (vs:=pc y.1) (λj hj=>?_),(Gv y.1 pH).mono ?_⟩
   ·rcases(show j=0\/j=1\/j=2\/j=3\/j=4\/j=5\/j=6\/j=7\/j=8 by simp at hj;omega)with rfl|rfl|rfl|rfl|rfl|rfl|rfl|rfl|rfl<;>rfl
   rintro e w71 ⟨rfl,Bf⟩;have H71:=H59.ext Bf;have⟨p1,p2⟩:=H71.amv;refine⟨_,rfl,p1,λu eu=>?_⟩;rw[aj2]at eu;have hkf:k≠gf:=a1N H71.o
   exact⟨(p2 u eu).1,(p2 u eu).2.row (r59.ext Bf) hkf⟩
  ·simp at hq;omega
  ·simp at hq;omega
  ·simp at hq;omega
  rintro us K9 ⟨H79,r79⟩;refine⟨true,H79.f.at 0 rfl,?_⟩;have⟨p1,p2⟩:=H79.put hi r79 hk hka haz;refine⟨U,U,⟨rfl,p1⟩,λu eu=>⟨r.length,by rw[cL];omega,d++[(i:Int)],r,av.set i (some k),by rw[hdr,fT];rfl,?_,rfl,hmr,?_⟩⟩
  ·rw[cL,aL (by unfold cH;have:=uy L;rw[hdr,cj,cL]at this;omega)];omega
  ·rw[<-amw hi hy];exact p2 u eu
 rintro us w83 ⟨av,H83⟩;generalize hWW:M.q.l.take 2000=W;have hWl:W.length=min M.q.l.length 2000:=by rw[<-hWW,cS,Nat.min_comm]
 have hWk:okW W:=λx hx=>hW x (nZ (hWW▸hx))
 have eW:ij M.q.l=((W.length:Nat):Int)/256%256::((W.length:Nat):Int)%256::(W.map ir).flatten:=by unfold ij;rw[hWW,hWl];rfl
 rw[eW]at H83;have o83:=H83.o;have g83:=H83.g.lt;generalize hB:w83.heap.size=B at*;have haB:∀a,some a∈av->a<B:=λa ha=>hB▸H83.e.lt ha
 refine⟨λu=>∃sl,RS w u gb gq gf gs gn gr M.now av (wF L (bh L)) sl []/\ar B Q.cc 4 u sl (W.map fM),H83.sm2 λw86 H86 m86=>⟨_,rfl,λn x u=>∃(k:Nat)(sl:H),k+n=W.length/\x=n/\B<=u/\RS w u gb gq gf gs gn gr M.now av (wF L (bh L)) sl ((W.drop k).map ir).flatten/\ar B Q.cc 4 u sl ((W.take k).map fM),⟨W.length,0,⟨none,0,0⟩,U,U,hB▸m86.size,H86,ar.nil⟩,?_⟩,?_⟩
 ·rintro n us x w92 ⟨k,sl,Wb,rfl,aGu,H92,K92⟩;refine Z.mk (λhq=>⟨true,H92.f.at 0 rfl,?_⟩) (λhq=>by
   have hq:=eK hq;obtain rfl:k=W.length:=by omega
   rw[List.drop_length]at H92;rw[kB]at K92;exact⟨sl,H92,K92⟩)
  have hq:=eK hq;have⟨it,hit⟩:=bX (l:=W) (i:=k) U;have hok:=hWk it (aQ hit);have⟨t1,t2,t3,t4⟩:=hok;have eD:((W.drop k).map ir).flatten=j3 it.1++(j3 it.2.1++(j3 it.2.2.1++(j3 it.2.2.2++((W.drop (k+1)).map ir).flatten))):=by
   have:W.drop k=it::W.drop (k+1):=by have⟨fK,he⟩:=cG.1 hit;rw[zV fK,he]
   rw[this,eH,kX];unfold ir qt;simp only[eH,List.map_nil,kX,List.flatten_nil,fT,oV]
  rw[eD]at H92;have OM:∀g,sl.D=some g->B<=g/\g<w92.heap.size:=λg hg=>K92.own.lt hg
  have tE:sl.n=k:=by have:=(K92.rd (show 0<4 by decide)).n;rw[aK,cS]at this;omega
  refine RS.num t1 H92 λIz H96 m96=>⟨_,rfl,λw98 e98 Iu e99=>?_⟩
  have z96:=m96.size;have z98:=zA e98;have z99:=zR e99;have Yr:Ext Iz Iu:=(aU e98).L e99 (ak _);have r99:Row Iu Iz (fM (it.1,0,0,0)) Q.cc:=by rw[e99];exact Row.set (by rw[e98];exact Row.new Iz [_,_,_,_] _) _
  have K99:=(K92.aV λg hg=>m96.same g (OM g hg).2 a0j).ext Yr;have H99:=H96.ext Yr;refine RS.gE (v:=it.2) ⟨by unfold An;omega,by unfold An;omega,by unfold An;omega⟩ H99 λsZ ayW aj4=>⟨_,_,_,rfl,aj4.same _ U U,λabP as8 Bj as9 yI aj5=>?_⟩
  have ayX:=aj4.size;have aGz:=zA as8;have aGA:=zR as9;have aGB:=zR aj5;have Ex:Ext sZ Bj:=(aU as8).L as9 (ak _);have ayY:=(aj4.row r99 U).ext Ex;have ayZ:=(K99.aV λg hg=>aj4.same g a0j a0j).ext Ex;have hka:some Iz.heap.size∉av:=λq=>a1N (haB _ q)
  have ay0:=(ayW.ext Ex).own U hka aj5;have ay1:=ayZ.aV (w':=yI) λg hg=>by rw[aj5];exact setRow_other _ _ _ _ a0j
  have ay2:Row yI Iz (fM it) Q.cc:=by rw[aj5];exact Row.set ayY _
  have zd:=nV yI;have xd:=Ext.K yI;have Hd:=ay0.ext xd;have Kd:=ay1.ext xd;have rd:=ay2.ext xd;refine⟨λu=>RS w u gb gq gf gs gn gr M.now av (wF L (bh L)) sl ((W.drop (k+1)).map ir).flatten/\ar B Q.cc 4 u sl ((W.take k).map fM)/\yI.heap.size<=u.heap.size,⟨true,Hd.f.at 0 rfl,Z.mk (λ_=>(QH it.2 ⟨t2,t3,t4⟩ _).mono ?_) (λhq=>(by cases hq))⟩,?_⟩
  ·rintro e ud ⟨rfl,ru⟩;have ay3:=ru.size;have ab5:=Hd.ext ru;have ay4:=Kd.ext ru;have ay5:=rd.ext ru;refine⟨_,_,_,rfl,ru.k,ay5.y (λj hj=>?_),Lo.wv ab5.f,Z.mk (λ_=>⟨sl,?_,?_⟩) (λhq=>?_)⟩
   ·rcases(show j=0\/j=1\/j=2 by simp at hj;omega)with rfl|rfl|rfl<;>rfl
   ·have:=ab5.g.at 17 (ad0 ab5.e.n);rw[aF]at this;exact this
   ·have⟨p1,p2⟩:=ab5.amv;refine⟨p1,λq=>?_,λu eu=>⟨rfl,?_⟩⟩
    ·have q:gf=Iz.heap.size:=ka1 q;have:=ab5.o;omega
    ·rw[show decide (((sl.n:Nat):Int)<2000)=true from decide_eq_true U]at eu;have⟨p3,p4⟩:=p2 u eu;exact⟨p3,ay4.aV λg hg=>p4.same g a0j (by have:=OM g hg;have:=ab5.o;omega),a1N p4.size⟩
   ·simp at hq
  ·rintro us oF ⟨aj6,ay6,aGC⟩;have Ta:=aj6.g.at 17 (ad0 aj6.e.n);rw[aF]at Ta;refine⟨sl,Ta,λEz ata=>?_⟩;have aGD:=zA ata;subst ata;have⟨hp,bq⟩:=ay6.l6 (bytes:=32) (news:=fM it) (.cells (fM it).toArray Q.cc) U rfl (Q.rT it) U U;refine⟨hp,λapa yK atb=>?_⟩;have⟨f1,f2,f3,f4,f5,f6⟩:=bq apa yK atb;have aGE:=f4.size;have z92:Iz.heap.size+1<=oF:=by omega
   have yG:∀j,j<oF.heap.size->(∀g,sl.D=some g->g≠j)->yK.heap[j]? =oF.heap[j]? :=λj hj hn=>f5 j (λq=>hn j q rfl) hj
   have abT:∀j,j<oF.heap.size->(oF.alloc (.cells (fM it).toArray Q.cc)).heap[j]? =oF.heap[j]? :=λj hj=>(Ext.al oF _).heap hj
   have ay7:RS w yK gb gq gf gs gn gr M.now av (wF L (bh L)) sl ((W.drop (k+1)).map ir).flatten:=by
    have hn:∀j,j<B->yK.heap[j]? =oF.heap[j]? :=λj hj=>yG j U λg hg=>a0j
    have o:=aj6.o;have⟨⟨s,h1⟩,⟨⟨τ,c1⟩,⟨τ',c2⟩,c3⟩,h3,⟨cs',hc,h4⟩,h5,h6,h7,h8⟩:=aj6;exact⟨⟨s,h1.x.trans (f4.mono U),h1.lt,h1.row.same (hn _ U),h1.rd,h1.nc,h1.R_⟩,⟨⟨τ,c1.same (hn _ U)⟩,⟨τ',c2.same (hn _ U)⟩,c3⟩,h3.same (hn _ U),⟨cs',hc,h4.same (hn _ U)⟩,h5.same (hn _ U),h6.same λa ha=>hn _ (haB a ha),h7,h8⟩
   have⟨p1,p2⟩:=ay7.amu apa;refine⟨(yG _ U λg hg=>a0j).trans (abT _ U).symm,f1,p1,λq=>?_,λq=>?_,λu eu=>?_⟩
   ·have q:gr=Iz.heap.size:=ka1 q;omega
   ·have q:gr=oF.heap.size:=ka1 q;omega
   ·have⟨p3,p4⟩:=p2 u eu;have:=p4.size;refine⟨n-1,U,k+1,apa,U,by rw[wI];omega,U,p3,?_⟩;have eT:(W.take (k+1)).map fM=(W.take k).map fM++[fM it]:=by rw[dq,hit,cl];rfl
    rw[eT];exact f2.aV (w':=u) λg hg=>p4.same g (f2.own.lt hg).2 (a1N ((f2.own.lt hg).1))
 rintro us oG ⟨sl,ay8,ay9⟩;have Hd:=ay8.ext (Ext.K oG);have Kd:=ay9.ext (Ext.K oG);have hx:=Hd.x0;have ho:=Hd.o;obtain⟨a0,a1,a2,a3,a4,a5,a6,a7,a8,a9,S9,a11,a12,a13,a14,a15,rfl⟩:=ac3 Hd.e.n;have⟨s1,hr1⟩:=Hd.r;have Fb:s1.n=0:=hr1.n;have⟨cs',hc',hq'⟩:=Hd.q;refine⟨_,_,_,_,_,_,_,_,_,_,_,_,_,_,_,_,_,_,Lo.wv Hd.g,true,Hd.f.at 0 rfl,s1,hr1.row.at 0 rfl,hq'.wr (o:=0) (n:=18) U,λTA aza=>?_⟩;have Yw:=aza.trans (hq'.bB (o:=0) (by rw[hc'];exact ak 18) (by
  show ∀u∈_,_
  repeat' (refine List.forall_mem_cons.2 ⟨rfl,?_⟩)
  exactλ_ q=>(by cases q)))
 rw[dC (hc'▸rfl)]at Yw;have aj7:∀j,j≠gq->TA.heap[j]? =oG.drew.heap[j]? :=λj hj=>by rw[Yw];exact setRow_other _ _ _ _ hj
 have azb:Row TA gq (S M.now::([a0,a1,a2,a3,a4,a5,a6,a7,a8,a9,S9,a11,a12,a13,a14,a15].map pA++[tr sl.a sl.n sl.c])) Uc:=by rw[Yw];exact Row.set hq' _
 refine⟨Lo.wv (hr1.row.same (aj7 _ U)),Lo.wv (Hd.f.same (aj7 _ U)),_,_,_,_,_,_,_,_,_,_,_,_,_,_,_,_,_,_,Lo.wv azb,[a0,a1,a2,a3,a4,a5,a6,a7,a8,a9,S9,a11,a12,a13,a14,a15],sl,by rw[Fb];rfl,hx.L Yw U,Hd.e.same λa ha=>aj7 a (a1N (Hd.a a ha)),λa ha=>a1N (Hd.a a ha),(Kd.aV (w':=TA) λg hg=>aj7 g (a1N ((Kd.own.lt hg).1))).low U⟩
section
variable{F:Nat->Prop}{w:au}{g s o t:Nat}{M M':Sm}{occ:aC}{L L0:h_}
def II(h:EF F w g s o t M occ L0){a:H}(ha:RdK w a 1 (N' (dy M' L)))(hc:a.n<=a.c)(hL:okR L)(hW:okW M'.q.l)(hM:0<=M'.now/\M'.now<=1099511627776)(hq:yN ⟨4096,0,M'.q.l.take 2000⟩): Y 185 #[g,.slice a.a a.n a.c] w λe w'=>e=(0:Int)/\dK F w g s o t {M with q:=⟨4096,0,M'.q.l.take 2000⟩,now:=M'.now} occ (wF L (bh L)) w':=by
 apply(tL.B (a1:=a));refine(YR ha hc hL hW hM).mono ?_;rintro e w0 ⟨av,sq,rfl,x0,jm,hav,hrq⟩;have z0:=x0.size;obtain⟨a0,a1,a2,a3,a4,a5,a6,a7,a8,a9,S9,a11,a12,a13,a14,a15,rfl⟩:=ac3 jm.n;refine⟨_,_,_,_,_,_,_,_,_,_,_,_,_,_,_,_,_,_,_,rfl,λeQ wx di vq=>?_⟩;have z20:=zA wx;have z21:=zR vq;have anv:Ext w0 di:=(aU wx).L vq (ak _);have r21:Row di w0 (S M'.now::([a0,a1,a2,a3,a4,a5,a6,a7,a8,a9,S9,a11,a12,a13,a14,a15].map pA++[tr sq.a sq.n sq.c])) Uc:=by rw[vq];exact Row.set (by rw[wx];exact Row.new w0 [_,_,_,_,_,_,_,_,_,_,_,_,_,_,_,_,_,_] _) _
 have fk:=x0.A anv;obtain⟨Fs,av0,de,hsf,hel0,rfl⟩:=h;have ng:¬Fs g:=hsf.pX de kM.1.1 kM.1.2.1 kM.1.2.2.1 kM.1.2.2.2.1 kM.1.2.2.2.2.1 kM.1.2.2.2.2.2.1 kM.1.2.2.2.2.2.2;have hFl:∀{i},Fs i->i<w.heap.size:=λhi=>hsf.lt hi
 have hrow21:=de.ext fk;have hgw:=de.lt;have Ta:(dr (O s)::av0.map pA).length=17:=by rw[cL,aK,hel0.n]
 have ep:N (O g) 1=some ⟨g,1,none⟩:=aF ..;rw[ep];refine⟨⟨rfl,hrow21.wr (o:=1) (n:=16) (by rw[Ta];exact ak 17)⟩,λq=>?_,λdh Dy=>?_⟩
 ·have q:g=w0.heap.size:=ka1 q;omega
 have CF:=Dy.trans (hrow21.bB (o:=1) (by rw[Ta];exact ak 17) (by
  show ∀u∈_,_
  repeat' (refine List.forall_mem_cons.2 ⟨rfl,?_⟩)
  exactλ_ q=>(by cases q)))
 have ecs:putCells (dr (O s)::av0.map pA) 1 ([a0,a1,a2,a3,a4,a5,a6,a7,a8,a9,S9,a11,a12,a13,a14,a15].map pA)=.pointer (O s)::[a0,a1,a2,a3,a4,a5,a6,a7,a8,a9,S9,a11,a12,a13,a14,a15].map pA:=by obtain⟨b0,b1,b2,b3,b4,b5,b6,b7,b8,b9,b10,b11,b12,KX,Wc,Ym,rfl⟩:=ac3 hel0.n;rfl
 have r22:Row dh g (.pointer (O s)::[a0,a1,a2,a3,a4,a5,a6,a7,a8,a9,S9,a11,a12,a13,a14,a15].map pA) uw:=by rw[<-ecs,CF];exact Row.set hrow21 _
 have o22:∀j,j≠g->dh.heap[j]? =di.heap[j]? :=λj hj=>by rw[CF];exact setRow_other _ _ _ _ hj
 have z22:dh.heap.size=di.heap.size:=by rw[CF,setRow_size]
 have m22:Mod (λi=>i=g) di dh:=⟨by rw[CF];rfl,by rw[CF];rfl,by rw[CF];rfl,Nat.le_of_eq z22.symm,λi _ hn=>o22 i hn⟩;have mm:Mod (λi=>i=g) w dh.drew:=((Mod.P fk).trans m22).trans (Mod.P (Ext.K dh));have anw:SF Fs dh.drew s o t M occ:=hsf.same λi hi=>mm.same i (hFl hi) λq=>ng (q▸hi)
 have arB:EL dh.drew [a0,a1,a2,a3,a4,a5,a6,a7,a8,a9,S9,a11,a12,a13,a14,a15] (wF L (bh L)):=jm.same λa ha=>(o22 a (a1N (hav a ha))).trans (anv.heap (jm.lt ha))
 have arC:=hrq.ext anv;have anx:=arC.aV (w':=dh.drew) λb hb=>o22 b (a1N ((arC.own.lt hb).1))
 have gF:=anx.rd (show 0<4 by decide);refine⟨_,(r22.ext (Ext.K dh)).at 0 rfl,(zi anw M'.now sq (M'.q.l.take 2000) gF (λb hb=>⟨(anx.own.lt hb).2,λhf=>by have:=hFl hf;have:=(anx.own.lt hb).1;omega⟩) hq).mono ?_⟩;rintro e ie ⟨rfl,F',ajB,ht⟩;have zd:=nV dh;refine⟨_,rfl,ht.mod.same _ U λhf=>a1N (hFl hf),rfl,λi=>i=g\/F' i\/some i∈[a0,a1,a2,a3,a4,a5,a6,a7,a8,a9,S9,a11,a12,a13,a14,a15],⟨F',_,ht.mod.row (r22.ext (Ext.K dh)) ng,?_,arB.same λa ha=>ht.mod.same a (arB.lt ha) λhf=>by have:=hFl hf;have:=hav a ha;omega,rfl⟩,(mm.mono λi _ hi=>.inl hi).trans (ht.mod.mono λi _ hi=>.inr (.inl hi)),λi hi=>?_⟩
 ·have en:min (max M'.now 0) 1099511627776=M'.now:=by omega
  rw[en]at ajB;exact ajB
 ·rcases hi with hi|hi|hi
  ·exact .inl (.inl hi)
  ·rcases ht.sub i hi with q|q
   ·exact .inl (.inr (.inl q))
   ·exact .inr (a1N mm.size)
  ·exact .inr (hav i hi)
end
section
variable{F:Nat->Prop}{w:au}{g s o t:Nat}{M M':Sm}{occ:aC}{L L0:h_}
def Sa(h:EF F w g s o t M occ L0)(aV:Int)(hW:M.T.1.l.length<=1000000)(hl:ee M.T.1.l<=1099511627776)(hW':(cw M.T.1 aV).1.l.length<=1000000)(hk:(Go.bW.pU (cw M.T.1 aV).1 0).1=dy M' L/\(Go.bW.pU (cw M.T.1 aV).1 0).2.2=true) (hL:okR L)(hw:okW M'.q.l)(hM:0<=M'.now/\M'.now<=1099511627776)(hq:yN ⟨4096,0,M'.q.l.take 2000⟩): Y 123 #[g,aV] w λe w'=>e=S (cw M.T.1 aV).2/\dK F w g s o t {M with T:=((cw M.T.1 aV).1,[]),q:=⟨4096,0,M'.q.l.take 2000⟩,now:=M'.now} occ (wF L (bh L)) w':=by
 obtain⟨Fs,hs,pG,-⟩:=h.EN;have⟨Fw,hWd,bq⟩:=h.world;apply oh.B;refine⟨_,pG,(cZ hs).F λw1 Tc=>?_⟩;subst Tc;refine⟨_,rfl,(gx hWd).F λw3 Ig=>?_⟩;subst Ig;refine⟨_,rfl,(AX hWd hW hl aV).F λw5 hr5=>?_⟩;have⟨F5,h5,t5⟩:=bq hr5;obtain⟨Fw5,hW5,-⟩:=h5.world;refine⟨_,rfl,(Dp hW5 hW').mono ?_⟩;rintro e w7 ⟨s8,rfl,gF,Is,x7⟩;have⟨hk1,Yj⟩:=hk;refine⟨s8,_,rfl,?_⟩;show Z (!(Go.bW.pU (cw M.T.1 aV).1 0).2.2) _ _;rw[Yj];have gF:RdK w7 s8 1 (N' (dy M' L)):=by rw[<-hk1];exact gF
 refine Z.mk (λq=>(by cases q)) λ_=>(II (h5.ext x7) gF Is hL hw hM hq).F λcp hr=>?_
 refine⟨_,rfl,Z.mk (λq=>(by cases q)) λ_=>⟨rfl,?_⟩⟩;exact dK.A t5 (dK.P x7 hr)
end
end Go.Proofs.YtjcnjlaelhdjeaaGreatDoor
