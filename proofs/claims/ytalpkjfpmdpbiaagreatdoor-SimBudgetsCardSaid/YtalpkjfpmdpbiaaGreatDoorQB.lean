import Derived.Test.YtalpkjfpmdpbiaaGreatDoorQA
import Derived.Test.YtalpkjfpmdpbiaaGreatDoorGD
set_option linter.all false
namespace Go.Proofs.YtalpkjfpmdpbiaaGreatDoor.Q
open Go Go.Vc Go.RowKit Go.Proofs Go.ks
set_option maxRecDepth 100000
abbrev tX:TypeId:=79
def qt{B E k:Nat}{w:World}{s:Sl}{rows:List (LV)}(h:ak B E k w s rows)(hk:0<k):s.n<=s.c:=by
 rcases h.form hk with ⟨hs,-⟩|⟨g0,cs,ha,TA,hr,hc,Fv,-⟩
 ·rw [hs];exact ax _
 ·exact Fv
def AQ(l:List It)(c:Cl):Int:=match l.findIdx? λx=>x.2==c with|some i=>i|none=> -1
def AR{l:List It}{c:Cl}{k:Nat}{x:It}(hk:∀y ∈ l.take k,y.2≠c)(hx:l[k]? =some x)(hc:x.2=c):AQ l c=k:=by
 unfold AQ;have:l.findIdx? (λx=>x.2==c)=some k:=by rw [List.findIdx?_eq_some_iff_getElem];obtain ⟨ft,he⟩:=bF.1 hx;refine ⟨ft,by simp [he,hc],λj hj=> ?_⟩;have:=hk (l[j]'aa) (List.mem_take_iff_getElem.2 ⟨j,by omega,rfl⟩);simpa using this
 rw [this]
def AS{l:List It}{c:Cl}(hk:∀y ∈ l,y.2≠c):AQ l c= -1:=by
 unfold AQ;have:l.findIdx? (λx=>x.2==c)=none:=by rw [List.findIdx?_eq_none_iff];intro x hx;simpa using hk x hx
 rw [this]
def wD(l:List It)(c:Cl):(AQ l c= -1/\(∀y ∈ l,y.2≠c)/\iA l c=none)\/∃k:Nat,∃x,AQ l c=k/\l[k]? =some x/\x.2=c/\(∀y ∈ l.take k,y.2≠c)/\iA l c=some x.1:=by
 induction l with
 |nil=>exact .inl ⟨rfl,by simp,rfl⟩
 |cons a l ih=>
  by_cases ha:a.2=c
  ·refine .inr ⟨0,a,AR cy rfl ha,rfl,ha,by simp,?_⟩;unfold iA;rw [List.find?_cons_of_pos (by simp [ha])];rfl
  ·rcases ih with ⟨-,h2,h3⟩|⟨k,x,h1,h2,h3,h4,h5⟩
   ·have jD:∀y ∈ a::l,y.2≠c:=λy hy=>by
     rcases bI.1 hy with rfl|hy
     ·exact ha
     ·exact h2 y hy
    refine .inl ⟨AS jD,jD,?_⟩;unfold iA at h3 ⊢;rw [List.find?_cons_of_neg (by simp [ha])];exact h3
   ·have jD:∀y ∈(a::l).take (k+1),y.2≠c:=λy hy=>by
     rw [List.take_succ_cons] at hy;rcases bI.1 hy with rfl|hy
     ·exact ha
     ·exact h4 y hy
    refine .inr ⟨k+1,x,AR jD (by simpa using h2) h3,by simpa using h2,h3,jD,?_⟩;unfold iA at h5 ⊢;rw [List.find?_cons_of_neg (by simp [ha])];exact h5
def fK{w:World}{s:Sl}{l:List It}(h:RdK w s 4 (l.map cM))(hl:l.length<=5000)(room lost:Int)(c:Cl):
  ah 102 #[.agg #[room,lost,s],cv c] w λe w'=>e=Value.int .i64 (AQ l c)/\Ext w w':=by
 apply Ll.vc;have hn:s.n=l.length:=by rw [h.n,aB]
 intro w0 e0 w1 e1;have x1:Ext w w1:=(bq e0).ay e1;refine ⟨λn x wr=>Ext w wr/\∃k:Nat,x=k/\k+n=l.length/\∀y ∈ l.take k,y.2≠c,⟨l.length,rfl,rfl,x1,0,rfl,by omega,by simp⟩,?_⟩;rintro n us x wr ⟨xr,k,rfl,hk,my⟩;apply Br.mk<;>intro hc
 ·replace hc:=fj hc;have dw:l[k]? =some (l[k]'aa):=cr aa;generalize l[k]'aa=y at dw;have eZ:=h.ext xr.drew;have hs:=eZ.isSome aE (i:=k) (by simp;omega);refine ⟨⟨hs,by omega,by omega⟩,bj.2 ⟨gj.2 (by rw [dX];exact hs),y.2.1,y.2.2.1,y.2.2.2,?_,Br.mk (λhb=> ?_) (λhb=> ?_)⟩⟩
  ·rw [eF];refine gC λj v hj=> ?_
   have h1:=eZ.rd k (cM y) (by rw [aX,dw];rfl);rw [cO,eF,Nat.add_assoc];exact h1 (1+j) v (by rw [Ct];exact hj)
  ·have hy:y.2=c:=by simp only [gy,beq_iff_eq] at hb;obtain ⟨h1,h2,h3⟩:=hb;exact Prod.ext h1 (Prod.ext h2 h3)
   exact ⟨by rw [AR my dw hy],xr.drew⟩
  ·have hw:=lD (j:=k);rw [hw];refine ⟨n-1,by omega,rfl,rfl,xr.drew,k+1,rfl,by omega,λz hz=> ?_⟩;rw [cu,dw] at hz;rcases ct.1 hz with hz|hz
   ·exact my z hz
   ·simp only [Option.toList_some,fH] at hz;subst hz;intro e;subst e;simp at hb
 ·replace hc:=fh hc;rw [dn aa] at my;exact ⟨by rw [AS my],xr⟩
end Go.Proofs.YtalpkjfpmdpbiaaGreatDoor.Q
namespace Go.Proofs.YtalpkjfpmdpbiaaGreatDoor.Q
open Go Go.Vc Go.RowKit Go.Proofs Go.ks
set_option maxRecDepth 100000
def RU{l:List It}(hn:(l.map (·.2)).Nodup){k:Nat}{x:It}(hx:l[k]? =some x):bN l x.2=l.take k++l.drop (k+1):=by
 obtain ⟨ft,he⟩:=bF.1 hx;have hd:l=l.take k++x::l.drop (k+1):=by rw [<-he,<-kT ft,kf]
 have Fu:=hn;rw [hd,aT,dE,mq] at Fu;unfold bN;conv=>lhs;rw [hd]
 rw [sP,QP cy,vY.2 λy hy=> ?_,vY.2 λy hy=> ?_]
 ·have h1:=(lF.1 Fu.2.1).1;have:y.2≠x.2:=λe=>h1 (e▸List.mem_map_of_mem hy)
  simpa using this
 ·have:=Fu.2.2 y.2 (List.mem_map_of_mem hy) x.2 (List.mem_cons_self ..);simpa using this
def nc{w:World}{s:Sl}{l:List It}(ho:ak 0 tX 4 w s (l.map cM)){k:Nat}(hk:k<=l.length)(hl:l.length<=5000)(c':Nat):
  Rd w (aA s.a 0 c' 4) ((l.take k).map cM).flatten/\aF 32 4 w ⟨none,0,0⟩ k ((l.take k).map cM).flatten/\∀s' w',aD 79 4 w ⟨none,0,0⟩ k ((l.take k).map cM).flatten s' w'->
   ak w tX 4 w' s' ((l.take k).map cM)/\Ext w w'/\s'.n=k:=by
 have hn:s.n=l.length:=by rw [(ho.rd aE).n,aB]
 have dY:((l.take k).map cM).length=k:=by rw [aB,bG];omega
 obtain ⟨hp,hr⟩:=(ak.nil (B:=w.heap.size) (E:=tX) (k:=4) (w:=w)).ke (bytes:=32) (more:=(l.take k).map cM) (ax _) (eh _) (gB _) (by rw [dY];simp;omega) (by rw [dY];simp;omega);rw [dY] at hp hr;refine ⟨?_,hp,λs' w' aS=> ?_⟩
 ·have:=((ho.rd aE).cut (m:=k) (c':=c') (c'':=0) (by simpa using hk)).flat aE;rw [<-List.map_take] at this;exact this
 ·obtain ⟨h1,h2,h3,h4,h5⟩:=hr s' w' aS;exact ⟨h1,h3,by simpa using h2⟩
def pG{w:World}{B:Nat}{s d:Sl}{l r:List It}(ho:ak 0 tX 4 w s (l.map cM))(hd:ak B tX 4 w d (r.map cM))(hB:B<=w){k:Nat}(hl:l.length<=5000)(hr:r.length<=5000):
  Rd w (aA s.a k s.c 4) ((l.drop k).map cM).flatten/\aF 32 4 w ⟨d.a,d.n,d.c⟩ (s.n-k) ((l.drop k).map cM).flatten/\∀s' w',aD 79 4 w ⟨d.a,d.n,d.c⟩ (s.n-k) ((l.drop k).map cM).flatten s' w'->
   ak B tX 4 w' s' ((r++l.drop k).map cM)/\Below B w w'/\∀j,d.bg≠some j->j<w.heap.size->w'.heap[j]? =w.heap[j]? :=by
 have hn:s.n=l.length:=by rw [(ho.rd aE).n,aB]
 have hdn:d.n=r.length:=by rw [(hd.rd aE).n,aB]
 have hc:=qt ho aE;have dY:((l.drop k).map cM).length=s.n-k:=by rw [aB,iw];omega
 obtain ⟨hp,hr⟩:=hd.ke (bytes:=32) (more:=(l.drop k).map cM) hB (eh _) (gB _) (by rw [dY];omega) (by rw [dY];omega);rw [dY] at hp hr;refine ⟨?_,hp,λs' w' aS=> ?_⟩
 ·have:=((ho.rd aE).rest (l:=k) (m:=s.c) (n':=l.length-k) (c':=0) cy (λe=>by simp;omega)).flat aE;rw [<-List.map_drop] at this;exact this
 ·obtain ⟨h1,h2,h3,h4,h5⟩:=hr s' w' aS;exact ⟨by rw [aT];exact h1,h3,h4⟩
def ak.boxed{B:Nat}{w w':World}{s:Sl}{l:List It}(ho:ak B tX 4 w s (l.map cM)){b:Nat}(hb:b<B){cs:Array Value}(e:w'=w.setRow b cs):ak B tX 4 w' s (l.map cM):=by subst e;exact ho.bP λg hg=>setRow_other _ _ _ _ (by have:=(ho.own.lt hg).1;omega)
def KG{w:World}{s:Sl}{l:List It}(ho:ak 0 tX 4 w s (l.map cM))(hn:(l.map (·.2)).Nodup)(hl:l.length<=5000)(room lost:Int)(c:Cl):
  ah 103 #[.agg #[room,lost,s],cv c] w λe w'=>(∃s':Sl,e=Value.tuple #[.agg #[room,lost,s'],.bool (iA l c).isSome]/\ak 0 tX 4 w' s' ((bN l c).map cM))/\Ext w w':=by
 apply KH.vc;have j6:s.n=l.length:=by rw [(ho.rd aE).n,aB]
 have ue:=qt ho aE;intro w0 e0 w1 e1 w2 e2;have x2:Ext w w2:=((bq e0).ay e1).ay e2;have z0:=du e0;have z1:w1.heap.size=w.heap.size+2:=by rw [e1];simp [z0]
 have z2:w2.heap.size=w.heap.size+3:=by rw [e2];simp [z1]
 refine (fK ((ho.ext x2).rd aE) hl room lost c).mono ?_;rintro e w3 ⟨rfl,x3⟩;have r6:=x2.tr x3;have z3:=x3.size;refine ⟨_,rfl,?_⟩;(repeat (refine And.intro ((x3).block _ aa) ?_));rcases wD l c with ⟨hf,jD,hq⟩|⟨k,x,hf,hx,hc,aiT,hq⟩
 ·rw [hf];refine Br.mk (λ_=> ?_) (λh=>by simp at h);intro w5 e5;have:bN l c=l:=by unfold bN;rw [vY];intro y hy;simpa using jD y hy
  rw [this,hq];exact ⟨⟨s,rfl,(ho.ext (r6.ab e5 aa))⟩,r6.ab e5 aa⟩
 ·rw [hf];obtain ⟨ft,-⟩:=bF.1 hx;refine Br.mk (λh=>by simp at h;omega) (λ_=> ?_);have hw:=lD (j:=k);rw [hw];simp only [ju,Nat.sub_zero];have h3:=ho.ext r6;obtain ⟨a1,a2,a3⟩:=nc h3 (k:=k) aa hl s.c;refine ⟨by omega,by omega,_,a1,a2,λs7 w8 aS=> ?_⟩;obtain ⟨b1,b2,b3⟩:=a3 s7 w8 aS;(repeat (refine And.intro ((b2).block _ aa) ?_));have h8:=h3.ext b2;obtain ⟨c1,c2,c3⟩:=pG (k:=k+1) h8 b1 b2.size hl (by rw [bG];omega);refine ⟨by omega,by omega,_,c1,c2,λcL cH hres2=> ?_⟩;obtain ⟨d1,d2,-⟩:=c3 cL cH hres2;(repeat (refine And.intro ((d2).block _ aa) ?_));intro bR Bv cA ud;have hd:=RU hn hx;rw [hc] at hd;have bV:Ext w cH:=r6.tr (b2.trans d2);refine ⟨⟨cL,by rw [hq];rfl,?_⟩,(bV.ab Bv (ax _)).ab ud aa⟩;rw [hd];exact (ak.boxed (ak.boxed d1 aa Bv) aa ud).low (fm _)
end Go.Proofs.YtalpkjfpmdpbiaaGreatDoor.Q
namespace Go.Proofs.YtalpkjfpmdpbiaaGreatDoor.Q
open Go Go.Vc Go.RowKit Go.Proofs Go.ks
set_option maxRecDepth 100000
def tH{l:List It}(hs:l.Pairwise λa b=>a.1<=b.1){t:Int}{k:Nat}(hk:k<=l.length)(hb:∀y ∈ l.drop k,t<y.1)(ha:∀x,k≠0->l[k-1]? =some x->x.1<=t):(l.takeWhile λy=>decide (y.1<=t)).length=k:=by
 have hle:(l.takeWhile λy=>decide (y.1<=t)).length<=k:=by
  rcases fx k (l.takeWhile λy=>decide (y.1<=t)).length with h|h
  ·have q9:k<l.length:=kN h (List.takeWhile_sublist _).length_le;have hg:l[k]? =some l[k]:=cr q9;have h1:=(gT hs t hg).1 h;have h2:=hb l[k] (List.mem_drop_iff_getElem.2 ⟨0,by omega,by simp⟩);omega
  ·exact h
 rcases sJ k with h0|h0
 ·omega
 ·have hg:l[k-1]? =some (l[k-1]'aa):=cr aa;have:=(gT hs t hg).2 (ha _ aa hg);omega
def vu{w:World}{s:Sl}{q:QS}(ho:ak 0 tX 4 w s (q.l.map cM))(hq:wC q)(hlost:0<=q.lost/\q.lost<=1000000)(c:Cl)(t:Int):
  ah 58 #[.agg #[q.room,q.lost,s],cv c,t] w λe w'=>(∃s':Sl,e=Value.tuple #[.agg #[.int .i64 (eX q c t).1.room,.int .i64 (eX q c t).1.lost,s'],.bool (eX q c t).2]/\ak 0 tX 4 w' s' ((eX q c t).1.l.map cM))/\Ext w w':=by
 apply ON.vc;have j6:s.n=q.l.length:=by rw [(ho.rd aE).n,aB]
 have dY:=hq.len;have hroom:=hq.room;intro w0 e0 w1 e1 w2 e2;have x2:Ext w w2:=((bq e0).ay e1).ay e2;have z0:=du e0;have z1:w1.heap.size=w.heap.size+2:=by rw [e1];simp [z0]
 have z2:w2.heap.size=w.heap.size+3:=by rw [e2];simp [z1]
 refine (fK ((ho.ext x2).rd aE) aa q.room q.lost c).mono ?_;rintro e w3 ⟨rfl,x3⟩;have r6:=x2.tr x3;have z3:=x3.size;have h3:=ho.ext r6;have hrd3:=h3.rd aE;refine ⟨_,rfl,?_⟩;(repeat (refine And.intro ((x3).block _ aa) ?_));rcases wD q.l c with ⟨hf,jD,hqt⟩|⟨i,x,hf,hx,hc,aiT,hqt⟩
 ·rw [hf];refine Br.mk (λh=>by simp at h) (λ_=>Br.mk (λ_=> ?_) (λh=>by simp at h));apply Br.mk<;>intro hb
  ·replace hb:=fj hb;intro Jj U9 Bu Va;have e:eX q c t=({q with lost:=q.lost+1},false):=by unfold eX;rw [hqt];simp only;rw [if_pos aa]
   rw [e,wI];have rf:=(r6.ab U9 (ax _)).ab Va aa;exact ⟨⟨s,rfl,ho.ext rf⟩,rf⟩
  ·replace hb:=fh hb;have e:eX q c t=({q with l:=pJ q.l (t,c)},true):=by unfold eX;rw [hqt];simp only;rw [if_neg aa]
   rw [e];refine ⟨λn x wr=>w3=wr/\∃k:Nat,x=k/\k=n/\k<=q.l.length/\∀y ∈ q.l.drop k,t<y.1,⟨q.l.length,rfl,rfl,rfl,rfl,q.l.length,by rw [j6],rfl,ax _,by simp⟩,?_⟩;rintro n us x wr ⟨rfl,k,rfl,rfl,q9,LQ⟩;have hsort:=hq.sorted;have rV:=h3;have Xi:q.l.length<=5000:=by omega
   apply Br.mk<;>intro hc
   ·replace hc:=fj hc;have hw:ai ((k:Int)-1)=((k-1:Nat):Int):=by rw [wI];omega
    rw [hw];have dw:q.l[k-1]? =some (q.l[k-1]'aa):=cr aa;have hcons:q.l.drop (k-1)=q.l[k-1]'aa::q.l.drop k:=by rw [kT aa];congr 2;omega
    generalize q.l[k-1]'aa=y at dw hcons;have hs:=hrd3.isSome aE (i:=k-1) (by simp;omega);refine ⟨⟨hs,by omega,by omega⟩,bj.2 ⟨gj.2 (by rw [dX];exact hs),y.1,hrd3.at (i:=k-1) (r:=cM y) (by rw [aX,dw];rfl) rfl,Br.mk (λhb=> ?_) (λhb=> ?_)⟩⟩
    ·replace hb:=fj hb;refine ⟨k-1,by omega,rfl,rfl,rfl,rfl,k-1,rfl,rfl,by omega,λz hz=> ?_⟩;rw [hcons] at hz;rcases bI.1 hz with rfl|hz
     ·exact hb
     ·exact LQ z hz
    ·replace hb:=fh hb;have LR:∀x,k≠0->q.l[k-1]? =some x->x.1<=t:=λx _ hx=>by rw [dw] at hx;cases hx;omega
     (
      have PC:=tH hsort q9 LQ LR
      have hcapr:=qt h3 aE
      have Xj:(s).n=(q.l).length:=by rw [((h3).rd aE).n,aB]
      simp only [ju,Nat.sub_zero]
      obtain ⟨a1,a2,a3⟩:=nc h3 (k:=k) q9 Xi (s).c
      refine ⟨by omega,by omega,_,a1,a2,λs7 w8 aS=> ?_⟩
      obtain ⟨b1,b2,b3⟩:=a3 s7 w8 aS
      (repeat (refine And.intro ((b2).block _ aa) ?_))
      intro jb yf
      have dc:=bq yf
      have z27:=du yf
      have z8:=b2.size
      have hown27:=((h3).ext b2).ext dc
      have ft:(((q.l).take k).map cM).length=k:=by rw [aB,bG];omega
      obtain ⟨c1,c2⟩:=(b1.ext dc).ke (bytes:=32) (more:=[cM (t,c)]) aa (by intro r hr;simp at hr;subst hr;rfl) (by intro r hr;simp at hr;subst hr;exact jr (t,c)) (by simp only [b3,List.length_singleton];omega) (by simp only [b3,List.length_singleton];omega)
      refine ⟨c1,λsB fJ hres2=> ?_⟩
      obtain ⟨d1,d2,d3,d4,d5⟩:=c2 sB fJ hres2
      have Cj:ak (w3).heap.size tX 4 fJ sB (((q.l).take k++ [(t,c)]).map cM):=by rw [aT];exact d1
      have Ul:s7.bg≠some w8.heap.size:=λe=>by have:=(b1.own.lt e).2;omega
      have LS:fJ.heap[w8.heap.size]? =jb.heap[w8.heap.size]? :=d4 _ Ul aa
      (repeat (refine And.intro ((d3).block _ aa) ?_))
      refine And.intro LS ?_
      have z29:=d3.size
      have hown29:ak 0 tX 4 fJ s ((q.l).map cM):=hown27.bP λg hg=>d3.block g (((h3).own.lt hg).2)
      obtain ⟨f1,f2,f3⟩:=pG (k:=k) hown29 Cj aa Xi (by simp;omega)
      refine ⟨by omega,by omega,_,f1,f2,λg9 yJ hres3=> ?_⟩
      obtain ⟨g1,g2,g3⟩:=f3 g9 yJ hres3
      (repeat (refine And.intro ((g2).block _ aa) ?_))
      refine And.intro (g3 _ (λe=> ?_) aa) ?_
      ·rcases d5 with d5|d5
       ·exact Ul (d5▸e)
       ·rw [d5] at e;have:jb.heap.size=w8.heap.size:=by simpa using e
        omega
      intro lz vS ly Ck
      have jA:Ext w yJ:=(r6).tr (((b2.tr dc).trans d3).trans g2)
      refine ⟨⟨g9,rfl,?_⟩,(jA.ab vS (ax _)).ab Ck aa⟩
      have Bb:=tC q.l (t,c)
      rw [show ((q.l).takeWhile λy=>decide (y.1<=(t,c).1)).length=k from PC] at Bb
      rw [<-Bb]
      have:=(ak.boxed (ak.boxed g1 aa vS) aa Ck).low (fm _)
      simpa using this)
   ·replace hc:=fh hc;have LR:∀x,k≠0->q.l[k-1]? =some x->x.1<=t:=λx h _=>by omega
    (
     have PC:=tH hsort q9 LQ LR
     have hcapr:=qt h3 aE
     have Xj:(s).n=(q.l).length:=by rw [((h3).rd aE).n,aB]
     simp only [ju,Nat.sub_zero]
     obtain ⟨a1,a2,a3⟩:=nc h3 (k:=k) q9 Xi (s).c
     refine ⟨by omega,by omega,_,a1,a2,λs7 w8 aS=> ?_⟩
     obtain ⟨b1,b2,b3⟩:=a3 s7 w8 aS
     (repeat (refine And.intro ((b2).block _ aa) ?_))
     intro jb yf
     have dc:=bq yf
     have z27:=du yf
     have z8:=b2.size
     have hown27:=((h3).ext b2).ext dc
     have ft:(((q.l).take k).map cM).length=k:=by rw [aB,bG];omega
     obtain ⟨c1,c2⟩:=(b1.ext dc).ke (bytes:=32) (more:=[cM (t,c)]) aa (by intro r hr;simp at hr;subst hr;rfl) (by intro r hr;simp at hr;subst hr;exact jr (t,c)) (by simp only [b3,List.length_singleton];omega) (by simp only [b3,List.length_singleton];omega)
     refine ⟨c1,λsB fJ hres2=> ?_⟩
     obtain ⟨d1,d2,d3,d4,d5⟩:=c2 sB fJ hres2
     have Cj:ak (w3).heap.size tX 4 fJ sB (((q.l).take k++ [(t,c)]).map cM):=by rw [aT];exact d1
     have Ul:s7.bg≠some w8.heap.size:=λe=>by have:=(b1.own.lt e).2;omega
     have LS:fJ.heap[w8.heap.size]? =jb.heap[w8.heap.size]? :=d4 _ Ul aa
     (repeat (refine And.intro ((d3).block _ aa) ?_))
     refine And.intro LS ?_
     have z29:=d3.size
     have hown29:ak 0 tX 4 fJ s ((q.l).map cM):=hown27.bP λg hg=>d3.block g (((h3).own.lt hg).2)
     obtain ⟨f1,f2,f3⟩:=pG (k:=k) hown29 Cj aa Xi (by simp;omega)
     refine ⟨by omega,by omega,_,f1,f2,λg9 yJ hres3=> ?_⟩
     obtain ⟨g1,g2,g3⟩:=f3 g9 yJ hres3
     (repeat (refine And.intro ((g2).block _ aa) ?_))
     refine And.intro (g3 _ (λe=> ?_) aa) ?_
     ·rcases d5 with d5|d5
      ·exact Ul (d5▸e)
      ·rw [d5] at e;have:jb.heap.size=w8.heap.size:=by simpa using e
       omega
     intro lz vS ly Ck
     have jA:Ext w yJ:=(r6).tr (((b2.tr dc).trans d3).trans g2)
     refine ⟨⟨g9,rfl,?_⟩,(jA.ab vS (ax _)).ab Ck aa⟩
     have Bb:=tC q.l (t,c)
     rw [show ((q.l).takeWhile λy=>decide (y.1<=(t,c).1)).length=k from PC] at Bb
     rw [<-Bb]
     have:=(ak.boxed (ak.boxed g1 aa vS) aa Ck).low (fm _)
     simpa using this)
 ·rw [hf];obtain ⟨ft,-⟩:=bF.1 hx;refine Br.mk (λ_=> ?_) (λh=>by simp at h);have hs:=hrd3.isSome aE (i:=i) (by simp;omega);refine ⟨⟨hs,by omega,by omega⟩,bj.2 ⟨gj.2 (by rw [dX];exact hs),x.1,hrd3.at (i:=i) (r:=cM x) (by rw [aX,hx];rfl) rfl,Br.mk (λhb=> ?_) (λhb=> ?_)⟩⟩
  ·replace hb:=fj hb;intro w6 e6;have e:eX q c t=(q,false):=by unfold eX;rw [hqt];simp only;rw [if_pos hb]
   rw [e];have x6:=r6.ab e6 aa;exact ⟨⟨s,rfl,ho.ext x6⟩,x6⟩
  ·replace hb:=fh hb;have e:eX q c t=({q with l:=pJ (bN q.l c) (t,c)},true):=by unfold eX;rw [hqt];simp only;rw [if_neg hb]
   rw [e];refine (KG h3 hq.nodup aa q.room q.lost c).mono ?_;rintro e w7 ⟨⟨cL,rfl,UY⟩,x7⟩;have z7:=x7.size;refine ⟨q.room,q.lost,cL,_,rfl,?_⟩;(repeat (refine And.intro ((x7).block _ aa) ?_));intro bR Bv cA ud cm nu;have hqd:=hq.drop c;have ajS:=hqd.len;have bT:=bq Bv;have cD:Ext w7 cA:=bT.ab ud (ax _);have UU:=du Bv;have z13:cA.heap.size=w7.heap.size+1:=by rw [ud,setRow_size,UU]
   have Wx:cm.heap.size=w7.heap.size+1:=by rw [nu,setRow_size,z13]
   have cl:Ext w cm:=(r6.tr (x7.tr cD)).ab nu (ax _);have Bc:ak 0 tX 4 cm cL ((bN q.l c).map cM):=by
    have aaV:Row w7 w _ 36:=((((by rw [e0];exact Row.new w [_,_,_] _:Row w0 w [q.room,q.lost,s] 36).ext (bq e1)).ext (bq e2)).ext x3).ext x7;have h13:=UY.ext cD;refine h13.bP λb hb=> ?_
    rw [nu];refine setRow_other _ _ _ _ λe=> ?_
    obtain ⟨cs,hr⟩:=aN UY aE hb;exact hr.ne aaV aE e
   have hrd14:=Bc.rd aE;have adk:cL.n=(bN q.l c).length:=by rw [hrd14.n,aB]
   simp only at ajS;have Xi:(bN q.l c).length<=5000:=by omega
   have hsort:=hqd.sorted;simp only at hsort;refine Br.mk (λh=>by simp at h;omega) (λ_=> ?_);refine ⟨λn x wr=>cm=wr/\∃k:Nat,x=k/\k=n/\k<=(bN q.l c).length/\∀y ∈(bN q.l c).drop k,t<y.1,⟨(bN q.l c).length,rfl,rfl,rfl,rfl,rfl,(bN q.l c).length,by rw [adk],rfl,ax _,by simp⟩,?_⟩;rintro n us x wr ⟨rfl,k,rfl,rfl,q9,LQ⟩;apply Br.mk<;>intro hc
   ·replace hc:=fj hc;have hw:ai ((k:Int)-1)=((k-1:Nat):Int):=by rw [wI];omega
    rw [hw];have dw:(bN q.l c)[k-1]? =some ((bN q.l c)[k-1]'aa):=cr aa;have hcons:(bN q.l c).drop (k-1)=(bN q.l c)[k-1]'aa::(bN q.l c).drop k:=by rw [kT aa];congr 2;omega
    generalize (bN q.l c)[k-1]'aa=y at dw hcons;have hs:=hrd14.isSome aE (i:=k-1) (by simp;omega);refine ⟨⟨hs,by omega,by omega⟩,bj.2 ⟨gj.2 (by rw [dX];exact hs),y.1,hrd14.at (i:=k-1) (r:=cM y) (by rw [aX,dw];rfl) rfl,Br.mk (λhb=> ?_) (λhb=> ?_)⟩⟩
    ·replace hb:=fj hb;refine ⟨k-1,by omega,rfl,rfl,rfl,rfl,rfl,k-1,rfl,rfl,by omega,λz hz=> ?_⟩;rw [hcons] at hz;rcases bI.1 hz with rfl|hz
     ·exact hb
     ·exact LQ z hz
    ·replace hb:=fh hb;have LR:∀x,k≠0->(bN q.l c)[k-1]? =some x->x.1<=t:=λx _ hx=>by rw [dw] at hx;cases hx;omega
     (
      have PC:=tH hsort q9 LQ LR
      have hcapr:=qt Bc aE
      have Xj:(cL).n=((bN q.l c)).length:=by rw [((Bc).rd aE).n,aB]
      simp only [ju,Nat.sub_zero]
      obtain ⟨a1,a2,a3⟩:=nc Bc (k:=k) q9 Xi (cL).c
      refine ⟨by omega,by omega,_,a1,a2,λs7 w8 aS=> ?_⟩
      obtain ⟨b1,b2,b3⟩:=a3 s7 w8 aS
      (repeat (refine And.intro ((b2).block _ aa) ?_))
      intro jb yf
      have dc:=bq yf
      have z27:=du yf
      have z8:=b2.size
      have hown27:=((Bc).ext b2).ext dc
      have ft:((((bN q.l c)).take k).map cM).length=k:=by rw [aB,bG];omega
      obtain ⟨c1,c2⟩:=(b1.ext dc).ke (bytes:=32) (more:=[cM (t,c)]) aa (by intro r hr;simp at hr;subst hr;rfl) (by intro r hr;simp at hr;subst hr;exact jr (t,c)) (by simp only [b3,List.length_singleton];omega) (by simp only [b3,List.length_singleton];omega)
      refine ⟨c1,λsB fJ hres2=> ?_⟩
      obtain ⟨d1,d2,d3,d4,d5⟩:=c2 sB fJ hres2
      have Cj:ak (cm).heap.size tX 4 fJ sB ((((bN q.l c)).take k++ [(t,c)]).map cM):=by rw [aT];exact d1
      have Ul:s7.bg≠some w8.heap.size:=λe=>by have:=(b1.own.lt e).2;omega
      have LS:fJ.heap[w8.heap.size]? =jb.heap[w8.heap.size]? :=d4 _ Ul aa
      (repeat (refine And.intro ((d3).block _ aa) ?_))
      refine And.intro LS ?_
      have z29:=d3.size
      have hown29:ak 0 tX 4 fJ cL (((bN q.l c)).map cM):=hown27.bP λg hg=>d3.block g (((Bc).own.lt hg).2)
      obtain ⟨f1,f2,f3⟩:=pG (k:=k) hown29 Cj aa Xi (by simp;omega)
      refine ⟨by omega,by omega,_,f1,f2,λg9 yJ hres3=> ?_⟩
      obtain ⟨g1,g2,g3⟩:=f3 g9 yJ hres3
      (repeat (refine And.intro ((g2).block _ aa) ?_))
      refine And.intro (g3 _ (λe=> ?_) aa) ?_
      ·rcases d5 with d5|d5
       ·exact Ul (d5▸e)
       ·rw [d5] at e;have:jb.heap.size=w8.heap.size:=by simpa using e
        omega
      intro lz vS ly Ck
      have jA:Ext w yJ:=(cl).tr (((b2.tr dc).trans d3).trans g2)
      refine ⟨⟨g9,rfl,?_⟩,(jA.ab vS (ax _)).ab Ck aa⟩
      have Bb:=tC (bN q.l c) (t,c)
      rw [show (((bN q.l c)).takeWhile λy=>decide (y.1<=(t,c).1)).length=k from PC] at Bb
      rw [<-Bb]
      have:=(ak.boxed (ak.boxed g1 aa vS) aa Ck).low (fm _)
      simpa using this)
   ·replace hc:=fh hc;have LR:∀x,k≠0->(bN q.l c)[k-1]? =some x->x.1<=t:=λx h _=>by omega
    (
     have PC:=tH hsort q9 LQ LR
     have hcapr:=qt Bc aE
     have Xj:(cL).n=((bN q.l c)).length:=by rw [((Bc).rd aE).n,aB]
     simp only [ju,Nat.sub_zero]
     obtain ⟨a1,a2,a3⟩:=nc Bc (k:=k) q9 Xi (cL).c
     refine ⟨by omega,by omega,_,a1,a2,λs7 w8 aS=> ?_⟩
     obtain ⟨b1,b2,b3⟩:=a3 s7 w8 aS
     (repeat (refine And.intro ((b2).block _ aa) ?_))
     intro jb yf
     have dc:=bq yf
     have z27:=du yf
     have z8:=b2.size
     have hown27:=((Bc).ext b2).ext dc
     have ft:((((bN q.l c)).take k).map cM).length=k:=by rw [aB,bG];omega
     obtain ⟨c1,c2⟩:=(b1.ext dc).ke (bytes:=32) (more:=[cM (t,c)]) aa (by intro r hr;simp at hr;subst hr;rfl) (by intro r hr;simp at hr;subst hr;exact jr (t,c)) (by simp only [b3,List.length_singleton];omega) (by simp only [b3,List.length_singleton];omega)
     refine ⟨c1,λsB fJ hres2=> ?_⟩
     obtain ⟨d1,d2,d3,d4,d5⟩:=c2 sB fJ hres2
     have Cj:ak (cm).heap.size tX 4 fJ sB ((((bN q.l c)).take k++ [(t,c)]).map cM):=by rw [aT];exact d1
     have Ul:s7.bg≠some w8.heap.size:=λe=>by have:=(b1.own.lt e).2;omega
     have LS:fJ.heap[w8.heap.size]? =jb.heap[w8.heap.size]? :=d4 _ Ul aa
     (repeat (refine And.intro ((d3).block _ aa) ?_))
     refine And.intro LS ?_
     have z29:=d3.size
     have hown29:ak 0 tX 4 fJ cL (((bN q.l c)).map cM):=hown27.bP λg hg=>d3.block g (((Bc).own.lt hg).2)
     obtain ⟨f1,f2,f3⟩:=pG (k:=k) hown29 Cj aa Xi (by simp;omega)
     refine ⟨by omega,by omega,_,f1,f2,λg9 yJ hres3=> ?_⟩
     obtain ⟨g1,g2,g3⟩:=f3 g9 yJ hres3
     (repeat (refine And.intro ((g2).block _ aa) ?_))
     refine And.intro (g3 _ (λe=> ?_) aa) ?_
     ·rcases d5 with d5|d5
      ·exact Ul (d5▸e)
      ·rw [d5] at e;have:jb.heap.size=w8.heap.size:=by simpa using e
       omega
     intro lz vS ly Ck
     have jA:Ext w yJ:=(cl).tr (((b2.tr dc).trans d3).trans g2)
     refine ⟨⟨g9,rfl,?_⟩,(jA.ab vS (ax _)).ab Ck aa⟩
     have Bb:=tC (bN q.l c) (t,c)
     rw [show (((bN q.l c)).takeWhile λy=>decide (y.1<=(t,c).1)).length=k from PC] at Bb
     rw [<-Bb]
     have:=(ak.boxed (ak.boxed g1 aa vS) aa Ck).low (fm _)
     simpa using this)
end Go.Proofs.YtalpkjfpmdpbiaaGreatDoor.Q
