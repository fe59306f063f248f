import Derived.Test.YtalpkjfpmdpbiaaGreatDoorQA
import Derived.Test.YtalpkjfpmdpbiaaGreatDoorGD
set_option linter.all false
namespace Go.Proofs.YtalpkjfpmdpbiaaGreatDoor.Q
open Go Go.Vc Go.RowKit Go.Proofs Go.km
set_option maxRecDepth 100000
abbrev tX:TypeId:=79
def qK{B E k:Nat}{w:World}{s:Sl}{rows:List (LV)}(h:aj B E k w s rows)(hk:0<k):s.n<=s.c:=by
 rcases h.form hk with ⟨hs,-⟩|⟨g0,cs,ha,Ua,hr,hc,Gb,-⟩
 ·rw [hs];exact ax _
 ·exact Gb
def Bc(l:List It)(c:Cl):Int:=match l.findIdx? λx=>x.2==c with|some i=>i|none=> -1
def Be{l:List It}{c:Cl}{k:Nat}{x:It}(hk:∀y ∈ l.take k,y.2≠c)(hx:l[k]? =some x)(hc:x.2=c):Bc l c=k:=by
 unfold Bc;have:l.findIdx? (λx=>x.2==c)=some k:=by rw [List.findIdx?_eq_some_iff_getElem];obtain ⟨fH,he⟩:=bH.1 hx;refine ⟨fH,by simp [he,hc],λj hj=> ?_⟩;have:=hk (l[j]'aa) (List.mem_take_iff_getElem.2 ⟨j,by omega,rfl⟩);simpa using this
 rw [this]
def Bf{l:List It}{c:Cl}(hk:∀y ∈ l,y.2≠c):Bc l c= -1:=by
 unfold Bc;have:l.findIdx? (λx=>x.2==c)=none:=by rw [List.findIdx?_eq_none_iff];intro x hx;simpa using hk x hx
 rw [this]
def xe(l:List It)(c:Cl):(Bc l c= -1/\(∀y ∈ l,y.2≠c)/\iD l c=none)\/∃k:Nat,∃x,Bc l c=k/\l[k]? =some x/\x.2=c/\(∀y ∈ l.take k,y.2≠c)/\iD l c=some x.1:=by
 induction l with
 |nil=>exact .inl ⟨rfl,by simp,rfl⟩
 |cons a l ih=>
  by_cases ha:a.2=c
  ·refine .inr ⟨0,a,Be cx rfl ha,rfl,ha,by simp,?_⟩;unfold iD;rw [List.find?_cons_of_pos (by simp [ha])];rfl
  ·rcases ih with ⟨-,h2,h3⟩|⟨k,x,h1,h2,h3,h4,h5⟩
   ·have jG:∀y ∈ a::l,y.2≠c:=λy hy=>by
     rcases bJ.1 hy with rfl|hy
     ·exact ha
     ·exact h2 y hy
    refine .inl ⟨Bf jG,jG,?_⟩;unfold iD at h3 ⊢;rw [List.find?_cons_of_neg (by simp [ha])];exact h3
   ·have jG:∀y ∈(a::l).take (k+1),y.2≠c:=λy hy=>by
     rw [List.take_succ_cons] at hy;rcases bJ.1 hy with rfl|hy
     ·exact ha
     ·exact h4 y hy
    refine .inr ⟨k+1,x,Be jG (by simpa using h2) h3,by simpa using h2,h3,jG,?_⟩;unfold iD at h5 ⊢;rw [List.find?_cons_of_neg (by simp [ha])];exact h5
def fQ{w:World}{s:Sl}{l:List It}(h:RdK w s 4 (l.map cN))(hl:l.length<=5000)(room lost:Int)(c:Cl):
  ah 102 #[.agg #[room,lost,s],cv c] w λe w'=>e=Value.int .i64 (Bc l c)/\Ext w w':=by
 apply L5.vc;have hn:s.n=l.length:=by rw [h.n,aB]
 intro w0 e0 w1 e1;have x1:Ext w w1:=(bo e0).ay e1;refine ⟨λn x wr=>Ext w wr/\∃k:Nat,x=k/\k+n=l.length/\∀y ∈ l.take k,y.2≠c,⟨l.length,rfl,rfl,x1,0,rfl,by omega,by simp⟩,?_⟩;rintro n us x wr ⟨xr,k,rfl,hk,lk⟩;apply Br.mk<;>intro hc
 ·replace hc:=fe hc;have dC:l[k]? =some (l[k]'aa):=cy aa;generalize l[k]'aa=y at dC;have fq:=h.ext xr.drew;have hs:=fq.isSome aC (i:=k) (by simp;omega);refine ⟨⟨hs,by omega,by omega⟩,bn.2 ⟨gq.2 (by rw [ea];exact hs),y.2.1,y.2.2.1,y.2.2.2,?_,Br.mk (λhb=> ?_) (λhb=> ?_)⟩⟩
  ·rw [eo];refine ga λj v hj=> ?_
   have h1:=fq.rd k (cN y) (by rw [aV,dC];rfl);rw [cP,eo,Nat.add_assoc];exact h1 (1+j) v (by rw [CU];exact hj)
  ·have hy:y.2=c:=by simp only [gr,beq_iff_eq] at hb;obtain ⟨h1,h2,h3⟩:=hb;exact Prod.ext h1 (Prod.ext h2 h3)
   exact ⟨by rw [Be lk dC hy],xr.drew⟩
  ·have hw:=kK (j:=k);rw [hw];refine ⟨n-1,by omega,rfl,rfl,xr.drew,k+1,rfl,by omega,λz hz=> ?_⟩;rw [cm,dC] at hz;rcases cu.1 hz with hz|hz
   ·exact lk z hz
   ·simp only [Option.toList_some,fB] at hz;subst hz;intro e;subst e;simp at hb
 ·replace hc:=eX hc;rw [cZ aa] at lk;exact ⟨by rw [Bf lk],xr⟩
end Go.Proofs.YtalpkjfpmdpbiaaGreatDoor.Q
namespace Go.Proofs.YtalpkjfpmdpbiaaGreatDoor.Q
open Go Go.Vc Go.RowKit Go.Proofs Go.km
set_option maxRecDepth 100000
def Ss{l:List It}(hn:(l.map (·.2)).Nodup){k:Nat}{x:It}(hx:l[k]? =some x):bP l x.2=l.take k++l.drop (k+1):=by
 obtain ⟨fH,he⟩:=bH.1 hx;have hd:l=l.take k++x::l.drop (k+1):=by rw [<-he,<-kW fH,jK]
 have Ga:=hn;rw [hd,aT,dG,lH] at Ga;unfold bP;conv=>lhs;rw [hd]
 rw [tz,Rp cx,wL.2 λy hy=> ?_,wL.2 λy hy=> ?_]
 ·have h1:=(lE.1 Ga.2.1).1;have:y.2≠x.2:=λe=>h1 (e▸List.mem_map_of_mem hy)
  simpa using this
 ·have:=Ga.2.2 y.2 (List.mem_map_of_mem hy) x.2 (List.mem_cons_self ..);simpa using this
def nj{w:World}{s:Sl}{l:List It}(ho:aj 0 tX 4 w s (l.map cN)){k:Nat}(hk:k<=l.length)(hl:l.length<=5000)(c':Nat):
  Rd w (aA s.a 0 c' 4) ((l.take k).map cN).flatten/\aF 32 4 w ⟨none,0,0⟩ k ((l.take k).map cN).flatten/\∀s' w',aE 79 4 w ⟨none,0,0⟩ k ((l.take k).map cN).flatten s' w'->
   aj w tX 4 w' s' ((l.take k).map cN)/\Ext w w'/\s'.n=k:=by
 have hn:s.n=l.length:=by rw [(ho.rd aC).n,aB]
 have ed:((l.take k).map cN).length=k:=by rw [aB,bF];omega
 obtain ⟨hp,hr⟩:=(aj.nil (B:=w.heap.size) (E:=tX) (k:=4) (w:=w)).kl (bytes:=32) (more:=(l.take k).map cN) (ax _) (ei _) (gN _) (by rw [ed];simp;omega) (by rw [ed];simp;omega);rw [ed] at hp hr;refine ⟨?_,hp,λs' w' aR=> ?_⟩
 ·have:=((ho.rd aC).cut (m:=k) (c':=c') (c'':=0) (by simpa using hk)).flat aC;rw [<-List.map_take] at this;exact this
 ·obtain ⟨h1,h2,h3,h4,h5⟩:=hr s' w' aR;exact ⟨h1,h3,by simpa using h2⟩
def pO{w:World}{B:Nat}{s d:Sl}{l r:List It}(ho:aj 0 tX 4 w s (l.map cN))(hd:aj B tX 4 w d (r.map cN))(hB:B<=w){k:Nat}(hl:l.length<=5000)(hr:r.length<=5000):
  Rd w (aA s.a k s.c 4) ((l.drop k).map cN).flatten/\aF 32 4 w ⟨d.a,d.n,d.c⟩ (s.n-k) ((l.drop k).map cN).flatten/\∀s' w',aE 79 4 w ⟨d.a,d.n,d.c⟩ (s.n-k) ((l.drop k).map cN).flatten s' w'->
   aj B tX 4 w' s' ((r++l.drop k).map cN)/\Below B w w'/\∀j,d.bj≠some j->j<w.heap.size->w'.heap[j]? =w.heap[j]? :=by
 have hn:s.n=l.length:=by rw [(ho.rd aC).n,aB]
 have hdn:d.n=r.length:=by rw [(hd.rd aC).n,aB]
 have hc:=qK ho aC;have ed:((l.drop k).map cN).length=s.n-k:=by rw [aB,iC];omega
 obtain ⟨hp,hr⟩:=hd.kl (bytes:=32) (more:=(l.drop k).map cN) hB (ei _) (gN _) (by rw [ed];omega) (by rw [ed];omega);rw [ed] at hp hr;refine ⟨?_,hp,λs' w' aR=> ?_⟩
 ·have:=((ho.rd aC).rest (l:=k) (m:=s.c) (n':=l.length-k) (c':=0) cx (λe=>by simp;omega)).flat aC;rw [<-List.map_drop] at this;exact this
 ·obtain ⟨h1,h2,h3,h4,h5⟩:=hr s' w' aR;exact ⟨by rw [aT];exact h1,h3,h4⟩
def aj.boxed{B:Nat}{w w':World}{s:Sl}{l:List It}(ho:aj B tX 4 w s (l.map cN)){b:Nat}(hb:b<B){cs:Array Value}(e:w'=w.setRow b cs):aj B tX 4 w' s (l.map cN):=by subst e;exact ho.bM λg hg=>setRow_other _ _ _ _ (by have:=(ho.own.lt hg).1;omega)
def Lp{w:World}{s:Sl}{l:List It}(ho:aj 0 tX 4 w s (l.map cN))(hn:(l.map (·.2)).Nodup)(hl:l.length<=5000)(room lost:Int)(c:Cl):
  ah 103 #[.agg #[room,lost,s],cv c] w λe w'=>(∃s':Sl,e=Value.tuple #[.agg #[room,lost,s'],.bool (iD l c).isSome]/\aj 0 tX 4 w' s' ((bP l c).map cN))/\Ext w w':=by
 apply Lq.vc;have kf:s.n=l.length:=by rw [(ho.rd aC).n,aB]
 have uH:=qK ho aC;intro w0 e0 w1 e1 w2 e2;have x2:Ext w w2:=((bo e0).ay e1).ay e2;have z0:=dt e0;have z1:w1.heap.size=w.heap.size+2:=by rw [e1];simp [z0]
 have z2:w2.heap.size=w.heap.size+3:=by rw [e2];simp [z1]
 refine (fQ ((ho.ext x2).rd aC) hl room lost c).mono ?_;rintro e w3 ⟨rfl,x3⟩;have sN:=x2.tr x3;have z3:=x3.size;refine ⟨_,rfl,?_⟩;(repeat (refine And.intro ((x3).block _ aa) ?_));rcases xe l c with ⟨hf,jG,hq⟩|⟨k,x,hf,hx,hc,ajA,hq⟩
 ·rw [hf];refine Br.mk (λ_=> ?_) (λh=>by simp at h);intro w5 e5;have:bP l c=l:=by unfold bP;rw [wL];intro y hy;simpa using jG y hy
  rw [this,hq];exact ⟨⟨s,rfl,(ho.ext (sN.ab e5 aa))⟩,sN.ab e5 aa⟩
 ·rw [hf];obtain ⟨fH,-⟩:=bH.1 hx;refine Br.mk (λh=>by simp at h;omega) (λ_=> ?_);have hw:=kK (j:=k);rw [hw];simp only [jt,Nat.sub_zero];have h3:=ho.ext sN;obtain ⟨a1,a2,a3⟩:=nj h3 (k:=k) aa hl s.c;refine ⟨by omega,by omega,_,a1,a2,λs7 w8 aR=> ?_⟩;obtain ⟨b1,b2,b3⟩:=a3 s7 w8 aR;(repeat (refine And.intro ((b2).block _ aa) ?_));have h8:=h3.ext b2;obtain ⟨c1,c2,c3⟩:=pO (k:=k+1) h8 b1 b2.size hl (by rw [bF];omega);refine ⟨by omega,by omega,_,c1,c2,λcO cB hres2=> ?_⟩;obtain ⟨d1,d2,-⟩:=c3 cO cB hres2;(repeat (refine And.intro ((d2).block _ aa) ?_));intro bS BW cC qX;have hd:=Ss hn hx;rw [hc] at hd;have bR:Ext w cB:=sN.tr (b2.trans d2);refine ⟨⟨cO,by rw [hq];rfl,?_⟩,(bR.ab BW (ax _)).ab qX aa⟩;rw [hd];exact (aj.boxed (aj.boxed d1 aa BW) aa qX).low (eC _)
end Go.Proofs.YtalpkjfpmdpbiaaGreatDoor.Q
namespace Go.Proofs.YtalpkjfpmdpbiaaGreatDoor.Q
open Go Go.Vc Go.RowKit Go.Proofs Go.km
set_option maxRecDepth 100000
def um{l:List It}(hs:l.Pairwise λa b=>a.1<=b.1){t:Int}{k:Nat}(hk:k<=l.length)(hb:∀y ∈ l.drop k,t<y.1)(ha:∀x,k≠0->l[k-1]? =some x->x.1<=t):(l.takeWhile λy=>decide (y.1<=t)).length=k:=by
 have hle:(l.takeWhile λy=>decide (y.1<=t)).length<=k:=by
  rcases fz k (l.takeWhile λy=>decide (y.1<=t)).length with h|h
  ·have rF:k<l.length:=kR h (List.takeWhile_sublist _).length_le;have hg:l[k]? =some l[k]:=cy rF;have h1:=(jw hs t hg).1 h;have h2:=hb l[k] (List.mem_drop_iff_getElem.2 ⟨0,by omega,by simp⟩);omega
  ·exact h
 rcases tk k with h0|h0
 ·omega
 ·have hg:l[k-1]? =some (l[k-1]'aa):=cy aa;have:=(jw hs t hg).2 (ha _ aa hg);omega
def vX{w:World}{s:Sl}{q:QS}(ho:aj 0 tX 4 w s (q.l.map cN))(hq:xR q)(hlost:0<=q.lost/\q.lost<=1000000)(c:Cl)(t:Int):
  ah 58 #[.agg #[q.room,q.lost,s],cv c,t] w λe w'=>(∃s':Sl,e=Value.tuple #[.agg #[.int .i64 (fc q c t).1.room,.int .i64 (fc q c t).1.lost,s'],.bool (fc q c t).2]/\aj 0 tX 4 w' s' ((fc q c t).1.l.map cN))/\Ext w w':=by
 apply Pu.vc;have kf:s.n=q.l.length:=by rw [(ho.rd aC).n,aB]
 have ed:=hq.len;have hroom:=hq.room;intro w0 e0 w1 e1 w2 e2;have x2:Ext w w2:=((bo e0).ay e1).ay e2;have z0:=dt e0;have z1:w1.heap.size=w.heap.size+2:=by rw [e1];simp [z0]
 have z2:w2.heap.size=w.heap.size+3:=by rw [e2];simp [z1]
 refine (fQ ((ho.ext x2).rd aC) aa q.room q.lost c).mono ?_;rintro e w3 ⟨rfl,x3⟩;have sN:=x2.tr x3;have z3:=x3.size;have h3:=ho.ext sN;have hrd3:=h3.rd aC;refine ⟨_,rfl,?_⟩;(repeat (refine And.intro ((x3).block _ aa) ?_));rcases xe q.l c with ⟨hf,jG,hqt⟩|⟨i,x,hf,hx,hc,ajA,hqt⟩
 ·rw [hf];refine Br.mk (λh=>by simp at h) (λ_=>Br.mk (λ_=> ?_) (λh=>by simp at h));apply Br.mk<;>intro hb
  ·replace hb:=fe hb;intro JX VN BV VO;have e:fc q c t=({q with lost:=q.lost+1},false):=by unfold fc;rw [hqt];simp only;rw [if_pos aa]
   rw [e,wI];have rI:=(sN.ab VN (ax _)).ab VO aa;exact ⟨⟨s,rfl,ho.ext rI⟩,rI⟩
  ·replace hb:=eX hb;have e:fc q c t=({q with l:=pR q.l (t,c)},true):=by unfold fc;rw [hqt];simp only;rw [if_neg aa]
   rw [e];refine ⟨λn x wr=>w3=wr/\∃k:Nat,x=k/\k=n/\k<=q.l.length/\∀y ∈ q.l.drop k,t<y.1,⟨q.l.length,rfl,rfl,rfl,rfl,q.l.length,by rw [kf],rfl,ax _,by simp⟩,?_⟩;rintro n us x wr ⟨rfl,k,rfl,rfl,rF,MA⟩;have hsort:=hq.sorted;have sG:=h3;have XT:q.l.length<=5000:=by omega
   apply Br.mk<;>intro hc
   ·replace hc:=fe hc;have hw:ai ((k:Int)-1)=((k-1:Nat):Int):=by rw [wI];omega
    rw [hw];have dC:q.l[k-1]? =some (q.l[k-1]'aa):=cy aa;have hcons:q.l.drop (k-1)=q.l[k-1]'aa::q.l.drop k:=by rw [kW aa];congr 2;omega
    generalize q.l[k-1]'aa=y at dC hcons;have hs:=hrd3.isSome aC (i:=k-1) (by simp;omega);refine ⟨⟨hs,by omega,by omega⟩,bn.2 ⟨gq.2 (by rw [ea];exact hs),y.1,hrd3.at (i:=k-1) (r:=cN y) (by rw [aV,dC];rfl) rfl,Br.mk (λhb=> ?_) (λhb=> ?_)⟩⟩
    ·replace hb:=fe hb;refine ⟨k-1,by omega,rfl,rfl,rfl,rfl,k-1,rfl,rfl,by omega,λz hz=> ?_⟩;rw [hcons] at hz;rcases bJ.1 hz with rfl|hz
     ·exact hb
     ·exact MA z hz
    ·replace hb:=eX hb;have MB:∀x,k≠0->q.l[k-1]? =some x->x.1<=t:=λx _ hx=>by rw [dC] at hx;cases hx;omega
     (
      have QN:=um hsort rF MA MB
      have hcapr:=qK h3 aC
      have XU:(s).n=(q.l).length:=by rw [((h3).rd aC).n,aB]
      simp only [jt,Nat.sub_zero]
      obtain ⟨a1,a2,a3⟩:=nj h3 (k:=k) rF XT (s).c
      refine ⟨by omega,by omega,_,a1,a2,λs7 w8 aR=> ?_⟩
      obtain ⟨b1,b2,b3⟩:=a3 s7 w8 aR
      (repeat (refine And.intro ((b2).block _ aa) ?_))
      intro jf yF
      have dp:=bo yF
      have z27:=dt yF
      have z8:=b2.size
      have hown27:=((h3).ext b2).ext dp
      have fH:(((q.l).take k).map cN).length=k:=by rw [aB,bF];omega
      obtain ⟨c1,c2⟩:=(b1.ext dp).kl (bytes:=32) (more:=[cN (t,c)]) aa (by intro r hr;simp at hr;subst hr;rfl) (by intro r hr;simp at hr;subst hr;exact jr (t,c)) (by simp only [b3,List.length_singleton];omega) (by simp only [b3,List.length_singleton];omega)
      refine ⟨c1,λsY fP hres2=> ?_⟩
      obtain ⟨d1,d2,d3,d4,d5⟩:=c2 sY fP hres2
      have CK:aj (w3).heap.size tX 4 fP sY (((q.l).take k++ [(t,c)]).map cN):=by rw [aT];exact d1
      have UW:s7.bj≠some w8.heap.size:=λe=>by have:=(b1.own.lt e).2;omega
      have MC:fP.heap[w8.heap.size]? =jf.heap[w8.heap.size]? :=d4 _ UW aa
      (repeat (refine And.intro ((d3).block _ aa) ?_))
      refine And.intro MC ?_
      have z29:=d3.size
      have hown29:aj 0 tX 4 fP s ((q.l).map cN):=hown27.bM λg hg=>d3.block g (((h3).own.lt hg).2)
      obtain ⟨f1,f2,f3⟩:=pO (k:=k) hown29 CK aa XT (by simp;omega)
      refine ⟨by omega,by omega,_,f1,f2,λib y8 hres3=> ?_⟩
      obtain ⟨g1,g2,g3⟩:=f3 ib y8 hres3
      (repeat (refine And.intro ((g2).block _ aa) ?_))
      refine And.intro (g3 _ (λe=> ?_) aa) ?_
      ·rcases d5 with d5|d5
       ·exact UW (d5▸e)
       ·rw [d5] at e;have:jf.heap.size=w8.heap.size:=by simpa using e
        omega
      intro lz wF ly CL
      have jB:Ext w y8:=(sN).tr (((b2.tr dp).trans d3).trans g2)
      refine ⟨⟨ib,rfl,?_⟩,(jB.ab wF (ax _)).ab CL aa⟩
      have BE:=ug q.l (t,c)
      rw [show ((q.l).takeWhile λy=>decide (y.1<=(t,c).1)).length=k from QN] at BE
      rw [<-BE]
      have:=(aj.boxed (aj.boxed g1 aa wF) aa CL).low (eC _)
      simpa using this)
   ·replace hc:=eX hc;have MB:∀x,k≠0->q.l[k-1]? =some x->x.1<=t:=λx h _=>by omega
    (
     have QN:=um hsort rF MA MB
     have hcapr:=qK h3 aC
     have XU:(s).n=(q.l).length:=by rw [((h3).rd aC).n,aB]
     simp only [jt,Nat.sub_zero]
     obtain ⟨a1,a2,a3⟩:=nj h3 (k:=k) rF XT (s).c
     refine ⟨by omega,by omega,_,a1,a2,λs7 w8 aR=> ?_⟩
     obtain ⟨b1,b2,b3⟩:=a3 s7 w8 aR
     (repeat (refine And.intro ((b2).block _ aa) ?_))
     intro jf yF
     have dp:=bo yF
     have z27:=dt yF
     have z8:=b2.size
     have hown27:=((h3).ext b2).ext dp
     have fH:(((q.l).take k).map cN).length=k:=by rw [aB,bF];omega
     obtain ⟨c1,c2⟩:=(b1.ext dp).kl (bytes:=32) (more:=[cN (t,c)]) aa (by intro r hr;simp at hr;subst hr;rfl) (by intro r hr;simp at hr;subst hr;exact jr (t,c)) (by simp only [b3,List.length_singleton];omega) (by simp only [b3,List.length_singleton];omega)
     refine ⟨c1,λsY fP hres2=> ?_⟩
     obtain ⟨d1,d2,d3,d4,d5⟩:=c2 sY fP hres2
     have CK:aj (w3).heap.size tX 4 fP sY (((q.l).take k++ [(t,c)]).map cN):=by rw [aT];exact d1
     have UW:s7.bj≠some w8.heap.size:=λe=>by have:=(b1.own.lt e).2;omega
     have MC:fP.heap[w8.heap.size]? =jf.heap[w8.heap.size]? :=d4 _ UW aa
     (repeat (refine And.intro ((d3).block _ aa) ?_))
     refine And.intro MC ?_
     have z29:=d3.size
     have hown29:aj 0 tX 4 fP s ((q.l).map cN):=hown27.bM λg hg=>d3.block g (((h3).own.lt hg).2)
     obtain ⟨f1,f2,f3⟩:=pO (k:=k) hown29 CK aa XT (by simp;omega)
     refine ⟨by omega,by omega,_,f1,f2,λib y8 hres3=> ?_⟩
     obtain ⟨g1,g2,g3⟩:=f3 ib y8 hres3
     (repeat (refine And.intro ((g2).block _ aa) ?_))
     refine And.intro (g3 _ (λe=> ?_) aa) ?_
     ·rcases d5 with d5|d5
      ·exact UW (d5▸e)
      ·rw [d5] at e;have:jf.heap.size=w8.heap.size:=by simpa using e
       omega
     intro lz wF ly CL
     have jB:Ext w y8:=(sN).tr (((b2.tr dp).trans d3).trans g2)
     refine ⟨⟨ib,rfl,?_⟩,(jB.ab wF (ax _)).ab CL aa⟩
     have BE:=ug q.l (t,c)
     rw [show ((q.l).takeWhile λy=>decide (y.1<=(t,c).1)).length=k from QN] at BE
     rw [<-BE]
     have:=(aj.boxed (aj.boxed g1 aa wF) aa CL).low (eC _)
     simpa using this)
 ·rw [hf];obtain ⟨fH,-⟩:=bH.1 hx;refine Br.mk (λ_=> ?_) (λh=>by simp at h);have hs:=hrd3.isSome aC (i:=i) (by simp;omega);refine ⟨⟨hs,by omega,by omega⟩,bn.2 ⟨gq.2 (by rw [ea];exact hs),x.1,hrd3.at (i:=i) (r:=cN x) (by rw [aV,hx];rfl) rfl,Br.mk (λhb=> ?_) (λhb=> ?_)⟩⟩
  ·replace hb:=fe hb;intro w6 e6;have e:fc q c t=(q,false):=by unfold fc;rw [hqt];simp only;rw [if_pos hb]
   rw [e];have x6:=sN.ab e6 aa;exact ⟨⟨s,rfl,ho.ext x6⟩,x6⟩
  ·replace hb:=eX hb;have e:fc q c t=({q with l:=pR (bP q.l c) (t,c)},true):=by unfold fc;rw [hqt];simp only;rw [if_neg hb]
   rw [e];refine (Lp h3 hq.nodup aa q.room q.lost c).mono ?_;rintro e w7 ⟨⟨cO,rfl,VD⟩,x7⟩;have z7:=x7.size;refine ⟨q.room,q.lost,cO,_,rfl,?_⟩;(repeat (refine And.intro ((x7).block _ aa) ?_));intro bS BW cC qX bY mB;have hqd:=hq.drop c;have akx:=hqd.len;have bU:=bo BW;have cz:Ext w7 cC:=bU.ab qX (ax _);have VA:=dt BW;have z13:cC.heap.size=w7.heap.size+1:=by rw [qX,setRow_size,VA]
   have Vx:bY.heap.size=w7.heap.size+1:=by rw [mB,setRow_size,z13]
   have bW:Ext w bY:=(sN.tr (x7.tr cz)).ab mB (ax _);have BF:aj 0 tX 4 bY cO ((bP q.l c).map cN):=by
    have aby:Row w7 w _ 36:=((((by rw [e0];exact Row.new w [_,_,_] _:Row w0 w [q.room,q.lost,s] 36).ext (bo e1)).ext (bo e2)).ext x3).ext x7;have h13:=VD.ext cz;refine h13.bM λb hb=> ?_
    rw [mB];refine setRow_other _ _ _ _ λe=> ?_
    obtain ⟨cs,hr⟩:=aM VD aC hb;exact hr.ne aby aC e
   have hrd14:=BF.rd aC;have ad5:cO.n=(bP q.l c).length:=by rw [hrd14.n,aB]
   simp only at akx;have XT:(bP q.l c).length<=5000:=by omega
   have hsort:=hqd.sorted;simp only at hsort;refine Br.mk (λh=>by simp at h;omega) (λ_=> ?_);refine ⟨λn x wr=>bY=wr/\∃k:Nat,x=k/\k=n/\k<=(bP q.l c).length/\∀y ∈(bP q.l c).drop k,t<y.1,⟨(bP q.l c).length,rfl,rfl,rfl,rfl,rfl,(bP q.l c).length,by rw [ad5],rfl,ax _,by simp⟩,?_⟩;rintro n us x wr ⟨rfl,k,rfl,rfl,rF,MA⟩;apply Br.mk<;>intro hc
   ·replace hc:=fe hc;have hw:ai ((k:Int)-1)=((k-1:Nat):Int):=by rw [wI];omega
    rw [hw];have dC:(bP q.l c)[k-1]? =some ((bP q.l c)[k-1]'aa):=cy aa;have hcons:(bP q.l c).drop (k-1)=(bP q.l c)[k-1]'aa::(bP q.l c).drop k:=by rw [kW aa];congr 2;omega
    generalize (bP q.l c)[k-1]'aa=y at dC hcons;have hs:=hrd14.isSome aC (i:=k-1) (by simp;omega);refine ⟨⟨hs,by omega,by omega⟩,bn.2 ⟨gq.2 (by rw [ea];exact hs),y.1,hrd14.at (i:=k-1) (r:=cN y) (by rw [aV,dC];rfl) rfl,Br.mk (λhb=> ?_) (λhb=> ?_)⟩⟩
    ·replace hb:=fe hb;refine ⟨k-1,by omega,rfl,rfl,rfl,rfl,rfl,k-1,rfl,rfl,by omega,λz hz=> ?_⟩;rw [hcons] at hz;rcases bJ.1 hz with rfl|hz
     ·exact hb
     ·exact MA z hz
    ·replace hb:=eX hb;have MB:∀x,k≠0->(bP q.l c)[k-1]? =some x->x.1<=t:=λx _ hx=>by rw [dC] at hx;cases hx;omega
     (
      have QN:=um hsort rF MA MB
      have hcapr:=qK BF aC
      have XU:(cO).n=((bP q.l c)).length:=by rw [((BF).rd aC).n,aB]
      simp only [jt,Nat.sub_zero]
      obtain ⟨a1,a2,a3⟩:=nj BF (k:=k) rF XT (cO).c
      refine ⟨by omega,by omega,_,a1,a2,λs7 w8 aR=> ?_⟩
      obtain ⟨b1,b2,b3⟩:=a3 s7 w8 aR
      (repeat (refine And.intro ((b2).block _ aa) ?_))
      intro jf yF
      have dp:=bo yF
      have z27:=dt yF
      have z8:=b2.size
      have hown27:=((BF).ext b2).ext dp
      have fH:((((bP q.l c)).take k).map cN).length=k:=by rw [aB,bF];omega
      obtain ⟨c1,c2⟩:=(b1.ext dp).kl (bytes:=32) (more:=[cN (t,c)]) aa (by intro r hr;simp at hr;subst hr;rfl) (by intro r hr;simp at hr;subst hr;exact jr (t,c)) (by simp only [b3,List.length_singleton];omega) (by simp only [b3,List.length_singleton];omega)
      refine ⟨c1,λsY fP hres2=> ?_⟩
      obtain ⟨d1,d2,d3,d4,d5⟩:=c2 sY fP hres2
      have CK:aj (bY).heap.size tX 4 fP sY ((((bP q.l c)).take k++ [(t,c)]).map cN):=by rw [aT];exact d1
      have UW:s7.bj≠some w8.heap.size:=λe=>by have:=(b1.own.lt e).2;omega
      have MC:fP.heap[w8.heap.size]? =jf.heap[w8.heap.size]? :=d4 _ UW aa
      (repeat (refine And.intro ((d3).block _ aa) ?_))
      refine And.intro MC ?_
      have z29:=d3.size
      have hown29:aj 0 tX 4 fP cO (((bP q.l c)).map cN):=hown27.bM λg hg=>d3.block g (((BF).own.lt hg).2)
      obtain ⟨f1,f2,f3⟩:=pO (k:=k) hown29 CK aa XT (by simp;omega)
      refine ⟨by omega,by omega,_,f1,f2,λib y8 hres3=> ?_⟩
      obtain ⟨g1,g2,g3⟩:=f3 ib y8 hres3
      (repeat (refine And.intro ((g2).block _ aa) ?_))
      refine And.intro (g3 _ (λe=> ?_) aa) ?_
      ·rcases d5 with d5|d5
       ·exact UW (d5▸e)
       ·rw [d5] at e;have:jf.heap.size=w8.heap.size:=by simpa using e
        omega
      intro lz wF ly CL
      have jB:Ext w y8:=(bW).tr (((b2.tr dp).trans d3).trans g2)
      refine ⟨⟨ib,rfl,?_⟩,(jB.ab wF (ax _)).ab CL aa⟩
      have BE:=ug (bP q.l c) (t,c)
      rw [show (((bP q.l c)).takeWhile λy=>decide (y.1<=(t,c).1)).length=k from QN] at BE
      rw [<-BE]
      have:=(aj.boxed (aj.boxed g1 aa wF) aa CL).low (eC _)
      simpa using this)
   ·replace hc:=eX hc;have MB:∀x,k≠0->(bP q.l c)[k-1]? =some x->x.1<=t:=λx h _=>by omega
    (
     have QN:=um hsort rF MA MB
     have hcapr:=qK BF aC
     have XU:(cO).n=((bP q.l c)).length:=by rw [((BF).rd aC).n,aB]
     simp only [jt,Nat.sub_zero]
     obtain ⟨a1,a2,a3⟩:=nj BF (k:=k) rF XT (cO).c
     refine ⟨by omega,by omega,_,a1,a2,λs7 w8 aR=> ?_⟩
     obtain ⟨b1,b2,b3⟩:=a3 s7 w8 aR
     (repeat (refine And.intro ((b2).block _ aa) ?_))
     intro jf yF
     have dp:=bo yF
     have z27:=dt yF
     have z8:=b2.size
     have hown27:=((BF).ext b2).ext dp
     have fH:((((bP q.l c)).take k).map cN).length=k:=by rw [aB,bF];omega
     obtain ⟨c1,c2⟩:=(b1.ext dp).kl (bytes:=32) (more:=[cN (t,c)]) aa (by intro r hr;simp at hr;subst hr;rfl) (by intro r hr;simp at hr;subst hr;exact jr (t,c)) (by simp only [b3,List.length_singleton];omega) (by simp only [b3,List.length_singleton];omega)
     refine ⟨c1,λsY fP hres2=> ?_⟩
     obtain ⟨d1,d2,d3,d4,d5⟩:=c2 sY fP hres2
     have CK:aj (bY).heap.size tX 4 fP sY ((((bP q.l c)).take k++ [(t,c)]).map cN):=by rw [aT];exact d1
     have UW:s7.bj≠some w8.heap.size:=λe=>by have:=(b1.own.lt e).2;omega
     have MC:fP.heap[w8.heap.size]? =jf.heap[w8.heap.size]? :=d4 _ UW aa
     (repeat (refine And.intro ((d3).block _ aa) ?_))
     refine And.intro MC ?_
     have z29:=d3.size
     have hown29:aj 0 tX 4 fP cO (((bP q.l c)).map cN):=hown27.bM λg hg=>d3.block g (((BF).own.lt hg).2)
     obtain ⟨f1,f2,f3⟩:=pO (k:=k) hown29 CK aa XT (by simp;omega)
     refine ⟨by omega,by omega,_,f1,f2,λib y8 hres3=> ?_⟩
     obtain ⟨g1,g2,g3⟩:=f3 ib y8 hres3
     (repeat (refine And.intro ((g2).block _ aa) ?_))
     refine And.intro (g3 _ (λe=> ?_) aa) ?_
     ·rcases d5 with d5|d5
      ·exact UW (d5▸e)
      ·rw [d5] at e;have:jf.heap.size=w8.heap.size:=by simpa using e
       omega
     intro lz wF ly CL
     have jB:Ext w y8:=(bW).tr (((b2.tr dp).trans d3).trans g2)
     refine ⟨⟨ib,rfl,?_⟩,(jB.ab wF (ax _)).ab CL aa⟩
     have BE:=ug (bP q.l c) (t,c)
     rw [show (((bP q.l c)).takeWhile λy=>decide (y.1<=(t,c).1)).length=k from QN] at BE
     rw [<-BE]
     have:=(aj.boxed (aj.boxed g1 aa wF) aa CL).low (eC _)
     simpa using this)
end Go.Proofs.YtalpkjfpmdpbiaaGreatDoor.Q
