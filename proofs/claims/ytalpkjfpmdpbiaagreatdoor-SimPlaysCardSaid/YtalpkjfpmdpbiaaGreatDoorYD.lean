import Derived.Test.YtalpkjfpmdpbiaaGreatDoorYC
import Derived.Test.YtalpkjfpmdpbiaaGreatDoorYB
set_option linter.all false
namespace Go.Proofs.YtalpkjfpmdpbiaaGreatDoor
open Go Go.Vc Go.RowKit Go.Proofs Go.dS Go.bh Go.Code Go.km Go.iQ
set_option maxRecDepth 100000
section
variable {F F':Nat->Prop} {w w':World} {s o t:Nat} {M M':Sm} {occ:Value}
def SF.tl(h:SF F w s o t M occ):Tl (.func (.func 43) #[t] #[]) (eB M.T.2) w:=by obtain ⟨Fw,hW,-,-⟩:=h.world;exact ⟨Fw,λi hi=>hW.lt hi,λw' hk c hc=>hW.adL hk c hc⟩
def Ya:xR ⟨4096,0,[]⟩:=⟨by decide,by decide,List.Pairwise.nil,List.nodup_nil⟩
def wZ{Fw:Nat->Prop}{ag cap:Int}{T:Tb}{ch:List Go.iQ.Cg}(h:WF Fw w o t ag cap T ch)(aO:Int):ah 40 #[o,aO] w λe w'=>∃s F,e=Value.pointer (bu s)/\SF F w' s o t ⟨ag,cap,T,ch,⟨4096,0,[]⟩,min (max aO 1) 64,0,[]⟩ (.func (.func 83) #[] #[])/\Ext w w'/\(∀i,F i->Fw i\/w.heap.size<=i):=by
 apply Wh.vc;refine (Q.Al 4096 w).mono ?_;rintro e w0 ⟨g,m,rfl,hq,x0,hg,hm⟩;refine ⟨_,rfl,λw2 e2=> ?_⟩;have eb:(if 64<(if 1>aO then 1 else aO) then 64 else (if 1>aO then 1 else aO))=min (max aO 1) 64:=by split<;>split<;>omega
 rw [eb] at e2;have x2:=bo e2;have hr:Row w2 w0 (Vo g o ⟨ag,cap,T,ch,⟨4096,0,[]⟩,min (max aO 1) 64,0,[]⟩ (.func (.func 83) #[] #[]) ⟨none,0,0⟩) pc:=Row.nw e2;refine ⟨w0.heap.size,_,rfl,⟨g,m,⟨none,0,0⟩,Fw,⟨none,0,0⟩,hr,hq.ext x2,Ya,h.ext (x0.tr x2),aj.nil,?_,rfl⟩,x0.tr x2,λi hi=> ?_⟩
 ·rintro i (hi|hi|hi) hf
  ·have:=h.lt hf;omega
  ·have:=h.lt hf;omega
  ·cases hi
 ·have:=x0.size;rcases hi with hi|(hi|hi|hi)|hi|hi
  ·exact .inr aa
  ·exact .inr aa
  ·exact .inr aa
  ·cases hi
  ·exact .inl hi
  ·cases hi
def pN(h:SF F w s o t M occ):ah 10 #[s] w λe w'=>e=Value.pointer (bu o)/\w'=w:=by obtain ⟨g,sd,h1,-⟩:=h.row;apply B2.vc;exact ⟨_,h1.at 1 rfl,rfl,rfl⟩
def B9(h:SF F w s o t M occ):ah 23 #[s] w λe w'=>∃s':Sl,e=s'/\aj w Q.bT 4 w' s' (M.q.l.map cN)/\Ext w w':=by obtain ⟨g,m,qs,hq,aU,⟨sd,hr⟩,-⟩:=h.queue;apply xK.vc;refine ⟨_,hr.at 0 rfl,(Q.Sp hq aU).mono ?_⟩;rintro e w' ⟨s',rfl,ho,x⟩;exact ⟨s',rfl,s',rfl,ho,x⟩
def ub(h:SF F w s o t M occ)(f:Fn)(a b:Array Value):ah 17 #[s,.func f a b] w λe w'=>e=FX/\jM F w s o t M (.func f a b) w'/\Mod (λi=>i=s) w w':=by
 obtain ⟨g,sd,hr,ho,-,-,aR⟩:=h.row;apply zS.vc;obtain ⟨p1,p2⟩:=hr.jR (j:=4) (v:=.func f a b) (by simp [Vo]) rfl;refine ⟨⟨rfl,p1⟩,λw0 e0=>⟨rfl,?_⟩⟩;obtain ⟨q1,q2⟩:=p2 w0 e0;have lA:∀b,sd.bj=some b->b≠s:=λb hb=>by obtain ⟨cs',hr'⟩:=aM ho aC hb;exact hr'.ne hr aC
 exact ⟨aR (M':=M) rfl rfl rfl rfl rfl (q2.mono λi _ hi=> .inl hi) q1 (q2.gK ho lA) (λb hb=> .inl hb),q2⟩
def xc(h:SF F w s o t M occ):ah 20 #[s] w λe w'=>∃sd:Sl,e=sd/\aj 0 gz 3 w' sd (M.dK.map dn)/\jM F w s o t {M with dK:=[]} occ w'/\Mod (λi=>i=s) w w':=by
 obtain ⟨g,sd,hr,ho,-,-,aR⟩:=h.row;apply B3.vc;obtain ⟨p1,p2⟩:=hr.jR (j:=5) (v:=.slice none 0 0) (by simp [Vo]) rfl;refine ⟨sd,hr.at 5 rfl,⟨rfl,p1⟩,λw0 e0=> ?_⟩;obtain ⟨q1,q2⟩:=p2 w0 e0;have lA:∀b,sd.bj=some b->b≠s:=λb hb=>by obtain ⟨cs',hr'⟩:=aM ho aC hb;exact hr'.ne hr aC
 exact ⟨sd,rfl,q2.gK ho lA,aR (M':={M with dK:=[]}) (sd':=⟨none,0,0⟩) rfl rfl rfl rfl rfl (q2.mono λi _ hi=> .inl hi) q1 aj.nil (λb hb=>by cases hb),q2⟩
def HG(b:Int):0<=bQ b/\bQ b<=5:=by
 unfold bQ;split
 ·decide
 ·split<;>decide
def Sq{V:Ce->Int}{c:Ce}(hc:dH c):∀n ∈ iR V c,lY n:=λn hn=>by
 unfold iR at hn
 rcases bJ.1 (jJ.1 hn).1 with rfl|h
 ·exact hc.ok
 ·exact wQ hc h
def Dh(V:Ce->Int)(c:Ce):(iR V c).length<=7:=C7 _ _
abbrev oO(V:Ce->Int)(now:Int)(q:QS)(n:Ce):QS:=(fc q n (now+bQ (V n))).1
def r6(V:Ce->Int)(now:Int):∀(l:List Ce)(q:QS),q.lost<=(l.foldl (oO V now) q).lost/\(l.foldl (oO V now) q).lost<=q.lost+l.length
 | [],q=>⟨mu _,by simp⟩
 |n::l,q=>by
  have h1:=r6 V now l (oO V now q n)
  have h2:=vM q n (now+bQ (V n))
  have h3:(oO V now q n).lost=(fc q n (now+bQ (V n))).1.lost:=rfl
  simp only [jL,fX]
  omega
set_option maxRecDepth 100000 in
def O4(h:SF F w s o t M occ)(c:Ce)(hc:dH c)(hl:0<=M.q.lost/\M.q.lost<=900000)(Uh:0<=M.now/\M.now<=1099511627776):
  ah 45 #[s,iG c] w λe w'=>e=FX/\jM F w s o t {M with q:=oJ (eB M.T.2) M.now M.q c} occ w':=by
 apply Er.vc;intro w0 e0;have x0:=bo e0;have z0:=dt e0;have h0:=h.ext x0;obtain ⟨g,sd,hr,-,hFs,-⟩:=h0.row;obtain ⟨Fw,hW,-,-⟩:=h0.world;refine ⟨_,hr.at 1 rfl,(nM hW).mono ?_⟩;rintro e w2 ⟨rfl,hw⟩;subst hw;refine ⟨_,rfl,rfl,(Li h0.tl c hc).mono ?_⟩;rintro e w4 ⟨s5,rfl,ho,x4⟩;have z4:=x4.size;have fq:=ho.rd (show 0<3 by decide);have hn5:=fq.n;have h4:=h0.ext x4;have hL:=Dh (eB M.T.2) c;have aU:=Sq (V:=eB M.T.2) hc;unfold oJ;generalize hLe:iR (eB M.T.2) c=L at*;rw [aB] at hn5;refine ⟨s5,rfl,x4.heap aa,λn x bL=>∃(j:Nat)(F':Nat->Prop),x=j/\j+n=L.length/\SF F' bL s o t {M with q:=(L.take j).foldl (oO (eB M.T.2) M.now) M.q} occ/\aG F F' w4 bL,⟨L.length,rfl,0,F,rfl,by omega,h4,aG.refl _ _⟩,?_⟩;rintro n us x bL ⟨j,F',rfl,hj,hS,hT⟩;have z10:=hT.mod.size;have hF:∀i,F i->i<w.heap.size:=λi hi=>h.lt hi
 have hrd10:RdK bL s5 3 (L.map dn):=hT.mod.rdK aC fq λ_ b hb hf=>by have:=(ho.own.lt hb).1;have:=hF b hf;omega
 apply Br.mk<;>intro hb
 ·replace hb:=fe hb;obtain ⟨y,hy⟩:=aZ (l:=L) (i:=j) aa;have oky:=aU y (bf hy);have hy':(L.map dn)[j]? =some (dn y):=by rw [aV,hy];rfl
  have j2:L.take (j+1)=L.take j++ [y]:=by rw [cm,hy];rfl
  have hlost:=r6 (eB M.T.2) M.now (L.take j) M.q;have aje:(L.take j).length<=7:=by rw [bF];omega
  generalize Qa:(L.take j).foldl (oO (eB M.T.2) M.now) M.q=qj at*;refine ⟨hrd10.fp (i:=(j:Int)) aC aa hb,_,_,_,hrd10.aY hy',λcU Bo cY yZ=> ?_⟩;have cQ:Ext bL cY:=(bo Bo).ab yZ (ax _);have z16:=jE Bo yZ;have ajf:Row cY bL (dn y) gz:=by rw [yZ];exact Row.set (by rw [Bo];exact Row.new bL [_,_,_] _) _
  have xd:=cQ.tr (Ext.dr cY);have zd:=kQ cY;have aez:=hS.ext xd;obtain ⟨g',m,qs,hq,qZ,⟨sd',hr'⟩,eI,aR⟩:=aez.queue;refine ⟨_,hr'.at 0 rfl,_,hr'.at 3 rfl,dI (aez.tl.at oky) ?_⟩;rintro e ft ⟨rfl,cK⟩;have z19:=cK.size;have Xx:=hr'.ext cK;have aeA:=(ajf.ext (Ext.dr cY)).ext cK;have hd:=HG (eB M.T.2 y);have wr:ai (M.now+bQ (eB M.T.2 y))=M.now+bQ (eB M.T.2 y):=wI;refine ⟨_,rfl,cK.heap aa,cK.heap aa,lG (Xx.at 3 rfl),Lo.wv aeA,lG (Xx.at 0 rfl),(Am (eB M.T.2 y) ft).mono ?_⟩;rintro e ef ⟨rfl,hw⟩;subst hw;refine ⟨_,rfl,rfl,rfl,lG (Xx.at 3 rfl),Lo.wv aeA,lG (Xx.at 0 rfl),?_⟩;rw [wr];refine (Q.HH (hq.ext cK) qZ (by simp only at hlost ⊢;omega) y (M.now+bQ (eB M.T.2 y))).mono ?_;rintro e gp ⟨rfl,qs',hq',ht⟩;have wk:=kK (j:=j);have ht':aG (Q.gW g' m qs) (Q.gW g' m qs') cY.drew gp:=(aG.aN cK).trans ht;obtain ⟨F2,te,ph⟩:=aR hq' (qZ.add y _) ht';have hsF:¬Q.gW g' m qs s:=(hq).cF hr' aC aC;have aaS:=ht'.mod.row hr' hsF;have nf:∀i,(w.heap.size<=i/\i<w4.heap.size\/bL.heap.size<=i)->i<cY.drew.heap.size->gp.heap[i]? =ef.heap[i]? :=λi h1 h2=>(ph.mod.same i h2 (λhf=>by
   rcases h1 with ⟨h1,ND⟩|h1
   ·rcases hT.sub i hf with q|q
    ·have:=hF i q;omega
    ·omega
   ·have:=hS.lt hf;omega)).trans (cK.heap h2).symm
  refine ⟨_,rfl,nf _ (.inl aa) aa,nf _ (.inr aa) aa,lG (aaS.at 3 rfl),n-1,by omega,rfl,j+1,F2,wk,by omega,?_,(hT.trans (aG.aN xd)).trans ph⟩;rw [j2,jc,Qa];exact te
 ·replace hb:=eX hb;rw [cZ aa] at hS;exact ⟨rfl,F',hS,(aG.aN (x0.tr x4)).trans hT⟩
end
end Go.Proofs.YtalpkjfpmdpbiaaGreatDoor
namespace Go.Proofs.YtalpkjfpmdpbiaaGreatDoor
open Go Go.Vc Go.RowKit Go.Proofs Go.dS Go.bh Go.Code Go.km Go.iQ
set_option maxRecDepth 100000
section
variable {F F':Nat->Prop} {w w':World} {s o t:Nat} {M M':Sm} {occ:Value}
def jM.trans{F1:Nat->Prop}{w1:World}(h:aG F F1 w w1)(k:jM F1 w1 s o t M occ w'):jM F w s o t M occ w':=by obtain ⟨F2,h2,t2⟩:=k;exact ⟨F2,h2,h.trans t2⟩
structure ng(M:Sm)(n:Nat):Prop where
 l:0<=M.q.lost/\M.q.lost<=n
 c:M.ch.length<=n
 now:0<=M.now/\M.now<=1099511627776
 d:M.dK.length<=n
def ng.mono{n m:Nat}(h:ng M n)(hm:n<=m):ng M m:=⟨⟨h.l.1,by have:=h.l.2;omega⟩,fA h.c hm,h.now,fA h.d hm⟩
def zW(l:List En)(ch:List Go.iQ.Cg)(c:Ce)(b:Int):(xE l ch c b).length<=ch.length+1:=V6 l ch c b
def LJ(V:Ce->Int)(now:Int)(q:QS)(c:Ce):q.lost<=(oJ V now q c).lost/\(oJ V now q c).lost<=q.lost+7:=by have h1:=r6 V now (iR V c) q;have h2:=Dh V c;have h3:oJ V now q c=(iR V c).foldl (oO V now) q:=rfl;rw [h3];omega
def ng.edit{n:Nat}(h:ng M n)(c:Ce)(b:Int):ng (gw M c b) (n+7):=by
 have h1:=zW M.T.2 M.ch c b;have h2:=LJ (eB (cr M.T.2 c b).1) M.now M.q c;have h3:=h.l;have h4:=h.c;unfold gw;have h5:=h.d;refine ⟨?_,?_,h.now,by simp only;omega⟩
 ·simp only;split<;>omega
 ·simp only;omega
def ng.change{n:Nat}(h:ng M n)(x:Go.iQ.Cg):ng (bB M x) (n+7):=by
 unfold bB;split
 ·exact h.mono aa
 ·exact h.edit _ _
def lJ(h:SF F w s o t M occ)(c:Ce)(hc:dH c)(b:Int)(hk:ng M 800000):
  ah 14 #[s,iG c,b] w λe w'=>e=Value.int .i64 (cr M.T.2 c b).2/\jM F w s o t (gw M c b) occ w':=by
 apply Ep.vc;intro w0 e0;have x0:Ext w w0.drew:=(bo e0).tr (Ext.dr w0);have z0:w0.drew.heap.size=w.heap.size+1:=by show w0.heap.size=_;rw [e0];simp
 have zd:=kQ w0;have h0:=h.ext x0;obtain ⟨g,sd,hr,-⟩:=h0.row;obtain ⟨Fw,hW,eI,aR⟩:=h0.world;have hlc:=hk.c;have NU:=hk.l;refine ⟨_,(hr.at 1 rfl),(N4 hW c hc.ok b aa).mono ?_⟩;rintro e w2 ⟨rfl,hw⟩;obtain ⟨F2,h2,t2⟩:=aR hw;have hF:∀{i},w.heap.size<=i->i<w0.drew.heap.size->w2.heap[i]? =w0.drew.heap[i]? :=λh1 h3=>t2.mod.same _ h3 λhf=>by have:=h.lt hf;omega
 unfold gw;refine ⟨_,rfl,hF (ax _) aa,Br.mk (λhb=> ?_) (λhb=> ?_)⟩
 ·rw [if_pos (by simpa using hb)];refine (O4 h2 c hc (by simp only;omega) hk.now).mono ?_;rintro e w4 ⟨rfl,F4,h4,t4⟩;have hz:=t2.mod.size;have hnf:¬F2 w:=λhf=>by
   rcases t2.sub _ hf with q|q
   ·have:=h.lt q;omega
   ·omega
  exact ⟨rfl,t4.mod.same _ aa hnf,rfl,F4,h4,(aG.aN x0).trans (t2.trans t4)⟩
 ·rw [if_neg (by simpa using hb)];exact ⟨rfl,F2,h2,(aG.aN x0).trans t2⟩
def my(h:SF F w s o t M occ)(x:Go.iQ.Cg)(hc:dH x.1)(hk:ng M 800000):
  ah 95 #[s,.agg (fx x).toArray] w λe w'=>e=FX/\jM F w s o t (bB M x) occ w':=by
 apply zT.vc;intro w0 e0;have hb0:Row w0 w (fx x) eH:=Row.nw e0;have x0:Ext w w0.drew:=(bo e0).tr (Ext.dr w0);have z0:w0.drew.heap.size=w.heap.size+1:=by show w0.heap.size=_;rw [e0];simp
 have hb:=hb0.ext (Ext.dr w0);have h0:=h.ext x0;obtain ⟨g,sd,hr,-⟩:=h0.row;obtain ⟨Fw,hW,-,-⟩:=h0.world;refine ⟨_,(hr.at 1 rfl),(nM hW).mono ?_⟩;rintro e w2 ⟨rfl,hw⟩;subst hw;refine ⟨_,rfl,rfl,hb.aY (o:=3) (λj hj=>by
  match j,hj with
  |0,_=>rfl),hb.aY (o:=0) (λj hj=>by
  match j,hj with
  |0,_=>rfl
  |1,_=>rfl
  |2,_=>rfl),dI (h0.tl.at hc.ok) ?_⟩
 rintro e w4 ⟨rfl,x4⟩;have z4:=x4.size;have JZ:=x0.tr x4;unfold bB;refine ⟨_,rfl,x4.heap aa,(hb.ext x4).aY (o:=3) (λj hj=>by
  match j,hj with
  |0,_=>rfl),Br.mk (λeF=> ?_) (λeF=> ?_)⟩
 ·rw [if_neg (by simpa using eF)];refine (lJ (h.ext JZ) x.1 hc x.2 hk).mono ?_;rintro e w6 ⟨rfl,F6,h6,t6⟩;exact ⟨_,rfl,t6.mod.same _ aa (λhf=>by have:=h.lt hf;omega),rfl,F6,h6,(aG.aN JZ).trans t6⟩
 ·rw [if_pos (by simpa using eF)];exact ⟨rfl,F,h.ext JZ,aG.aN JZ⟩
end
end Go.Proofs.YtalpkjfpmdpbiaaGreatDoor
namespace Go.Proofs.YtalpkjfpmdpbiaaGreatDoor
open Go Go.Vc Go.RowKit Go.Proofs Go.dS Go.bh Go.Code Go.km Go.iQ
set_option maxRecDepth 100000
def Oc(occ:Value)(O:Ce->Bool)(F:Nat->Prop)(w:World):Prop:=∃D:Nat->Prop,(∀i,D i->i<w.heap.size/\¬F i)/\∀w',(∀i,D i->w'.heap[i]? =w.heap[i]?)->∀c,lY c->dJ Tryz.prog occ [iG c] w' λe w''=>e=Value.bool (O c)/\Ext w' w''
section
variable {F F':Nat->Prop} {w w':World} {s o t:Nat} {M M':Sm} {occ:Value} {O:Ce->Bool}
def Oc.iT(h:Oc occ O F w)(ht:aG F F' w w'):Oc occ O F' w':=by
 obtain ⟨D,h1,h2⟩:=h;refine ⟨D,λi hi=>⟨kR (h1 i hi).1 ht.mod.size,λhf=> ?_⟩,λw'' hk=>h2 w'' λi hi=>(hk i hi).trans (ht.mod.same i (h1 i hi).1 (h1 i hi).2)⟩;rcases ht.sub i hf with q|q
 ·exact (h1 i hi).2 q
 ·have:=(h1 i hi).1;omega
def Oc.ext(h:Oc occ O F w)(x:Ext w w'):Oc occ O F w':=h.iT (aG.aN x)
def Oc.at(h:Oc occ O F w){c:Ce}(hc:lY c):dJ Tryz.prog occ [iG c] w λe w'=>e=Value.bool (O c)/\Ext w w':=by obtain ⟨D,h1,h2⟩:=h;exact h2 w (λ_ _=>rfl) c hc
def ng.fold{n:Nat}:∀{M:Sm} (l:List Go.iQ.Cg),ng M n->ng (l.foldl bB M) (n+7*l.length)
 |M,[],h=>h
 |M,x::l,h=>(ng.fold l (h.change x)).mono (by simp only [fX];omega)
def H6(V:Ce->Int)(c:Ce):(jq V c).length<=4:=by
 unfold jq pD jS;split
 ·split<;>simp
 ·split
  ·split
   ·simp
   ·split
    ·simp
    ·split
     ·simp
     ·split
      ·simp
      ·rw [aB];exact C7 _ _
  ·simp
def PZ(V:Ce->Int)(c:Ce):∀x ∈ jq V c,x.1=c\/x.1 ∈ iI c:=by
 have QF:bz c ∈ iI c:=by simp [iI]
 have hside:∀n ∈ aQ c,n ∈ iI c:=λn hn=>by
  unfold aQ at hn;unfold iI;simp only [bJ,fY,or_false] at hn ⊢;rcases hn with h|h|h|h
  ·exact .inl h
  ·exact .inr (.inl h)
  ·exact .inr (.inr (.inr (.inr (.inl h))))
  ·exact .inr (.inr (.inr (.inr (.inr h))))
 intro x hx;unfold jq at hx;split at hx
 ·unfold pD at hx;split at hx
  ·simp only [bJ,fY,or_false] at hx;rcases hx with rfl|rfl
   ·exact .inl rfl
   ·exact .inr QF
  ·cases hx
 ·split at hx
  ·unfold jS at hx;split at hx
   ·simp only [bJ,fY,or_false] at hx;rw [hx];exact .inl rfl
   ·split at hx
    ·simp only [bJ,fY,or_false] at hx;rw [hx];exact .inl rfl
    ·split at hx
     ·simp only [bJ,fY,or_false] at hx;rw [hx];exact .inr QF
     ·split at hx
      ·cases hx
      ·obtain ⟨n,hn,rfl⟩:=aS.1 hx;exact .inr (hside n (jJ.1 hn).1)
  ·cases hx
set_option maxRecDepth 100000 in
def H7(h:SF F w s o t M occ)(hO:Oc occ O F w)(c:Ce)(hc:nZ c)(hk:ng M 700000):
  ah 47 #[s,iG c] w λe w'=>e=FX/\jM F w s o t (g9 O M c) occ w':=by
 apply zU.vc;have hc':=id hc;unfold nZ at hc';intro w0 e0;have x0:Ext w w0.drew:=(bo e0).tr (Ext.dr w0);have z0:w0.drew.heap.size=w.heap.size+1:=by show w0.heap.size=_;rw [e0];simp
 have h0:=h.ext x0;obtain ⟨g,sd,hr,hdr,-,hsdF,aR⟩:=h0.row;obtain ⟨Fw,hW,-,-⟩:=h0.world;refine ⟨_,(hr.at 1 rfl),(Gx hW c hc.wide.ok (V7 aa aa)).mono ?_⟩;rintro e w2 ⟨rfl,x2⟩;have z2:=x2.size;have DP:=x0.tr x2;have QF:lY (bz c):=wQ hc.wide (by simp [iI]);refine ⟨_,rfl,x2.heap aa,Br.mk (λhb=> ?_) (λhb=> ?_)⟩
 ·have xd:=x2.tr (Ext.dr w2);have zd:=kQ w2;have Uh:=hk.now;have wr:ai (M.now+1)=M.now+1:=wI;obtain ⟨g',m,qs,hq,qZ,⟨sd',hr'⟩,eI,hresq⟩:=(h0.ext xd).queue;refine ⟨_,hr'.at 0 rfl,_,hr'.at 3 rfl,?_⟩;rw [wr];have NU:=hk.l;refine (Q.HH hq qZ aa c (M.now+1)).mono ?_;rintro e w6 ⟨rfl,qs',hq',ht⟩;obtain ⟨F2,te,ph⟩:=hresq hq' (qZ.add c _) ht;have hsF:¬Q.gW g' m qs s:=hq.cF hr' aC aC;refine ⟨_,rfl,ph.mod.same _ aa (λhf=>by have:=h.lt hf;omega),lG ((ht.mod.row hr' hsF).at 3 rfl),rfl,?_⟩;unfold g9;rw [if_pos (by simpa using hb)];exact ⟨F2,te,(aG.aN (x0.tr xd)).trans ph⟩
 have alQ:¬lD M.T.2 c=false:=by simpa using hb
 have mM:=hr.ext x2;refine ⟨_,(mM.at 1 rfl),(nM (hW.ext x2)).mono ?_⟩;rintro e w9 ⟨rfl,hw9⟩;subst hw9;refine ⟨_,rfl,rfl,(Kv (h0.tl.ext x2) c hc.wide).mono ?_⟩;rintro e cB ⟨eM,rfl,ho,bR⟩;have z11:=bR.size;have fq:=ho.rd (show 0<4 by decide);have alR:=fq.n;have hLlen:=H6 (eB M.T.2) c;have hLw:∀x ∈ jq (eB M.T.2) c,dH x.1:=λx hx=>by
  rcases PZ _ _ x hx with q|q
  ·rw [q];exact hc.wide
  ·exact WU hc q
 have hU:g9 O M c=if pI O M c=true then bB {M with dK:=M.dK++ [bz c]} (c,0) else (jq (eB M.T.2) c).foldl bB M:=by unfold g9;rw [if_neg alQ]
 have hH:pI O M c=(decide (eB M.T.2 c=3) &&(!(jq (eB M.T.2) c).isEmpty && O (bz c))):=rfl;generalize jq (eB M.T.2) c=L at*;rw [aB] at alR;refine ⟨eM,rfl,bR.heap aa,(lu c hc.wide cB).mono ?_⟩;rintro e cC ⟨rfl,cz⟩;have z13:=cz.size;refine ⟨_,_,_,_,_,_,_,_,_,_,_,_,_,_,_,_,_,_,rfl,cz.heap aa,by decide,_,_,_,Ku c,λxu e35 nC Jk=> ?_⟩;have kF:Ext cC nC:=(bo e35).ab Jk (ax _);have z36:=jE e35 Jk;have xd:=Ext.dr nC;have zd:=kQ nC;have Zg:=cz.tr (kF.tr xd);have afZ:=DP.tr (bR.tr Zg);refine dI ((h.ext afZ).tl.at hc.wide.ok) ?_;rintro e hX ⟨rfl,gk⟩;have z37:=gk.size;have uJ:=afZ.tr gk;have JQ:=Zg.tr gk;refine ⟨_,rfl,gk.heap aa,gk.heap aa,(rP (eB M.T.2 c) hX).mono ?_⟩;rintro e iU ⟨rfl,alS⟩;subst alS;have abU:=mM.ext (bR.tr JQ);refine ⟨_,rfl,rfl,rfl,Br.mk (λhf=>Br.mk (λhp=> ?_) (λhp=> ?_)) (λhf=> ?_)⟩
 ·refine ⟨_,abU.at 4 rfl,dI ((hO.ext uJ).at QF) ?_⟩;rintro e ny ⟨rfl,lU⟩;have z42:=lU.size;have X0:=uJ.tr lU;have hpn:(!L.isEmpty)=true:=by
   have:0<L.length:=by simp only [bA,gt_iff_lt] at hp;omega
   cases L with
   |nil=>simp at this
   |cons=>rfl
  have hf3:decide (eB M.T.2 c=3)=true:=by simpa using hf
  refine ⟨_,rfl,lU.heap aa,lU.heap aa,Br.mk (λhh=> ?_) (λhh=> ?_)⟩
  ·have hHt:pI O M c=true:=by rw [hH,hf3,hpn,hh];rfl
   intro jA Ql;have jI:=bo Ql;have z44:=dt Ql;have rch:Row jA ny (fx (c,0)) eH:=Row.nw Ql;have acA:=Ext.dr jA;have arT:=kQ jA;have af0:=X0.tr (jI.tr acA);have aog:=x2.tr ((bR.tr JQ).tr (lU.tr (jI.tr acA)));obtain ⟨g2,sd2,Vd,hdr44,hFs,hsdF2,hres44⟩:=(h.ext af0).row;refine ⟨sd2,Vd.at 5 rfl,λDQ VE=> ?_⟩;subst VE;have kf:sd2.n=M.dK.length:=by have:=(hdr44.rd (show 0<3 by decide)).n;rwa [aB] at this
   have hkd:=hk.d;obtain ⟨Ml,hres8⟩:=hdr44.kJ (bytes:=24) (news:=dn (bz c)) (.cells #[.int .i64 (bz c).1,.int .i64 (bz c).2.1,.int .i64 (bz c).2.2] gz) (eC _) rfl (A4 _) aa aa;refine ⟨Ml,λuN uK alT=> ?_⟩;obtain ⟨f8,xt,hn8,x8,Vz,hM⟩:=hres8 uN uK alT;have xa:=Ext.al jA.drew (.cells #[.int .i64 (bz c).1,.int .i64 (bz c).2.1,.int .i64 (bz c).2.2] gz);have hsdlt:∀b,sd2.bj=some b->b<w.heap.size:=λb hb=>h.lt (hsdF2 b hb)
   have kp:∀j,w.heap.size<=j->j<jA.drew.heap.size->uK.heap[j]? =(jA.drew.alloc (.cells #[.int .i64 (bz c).1,.int .i64 (bz c).2.1,.int .i64 (bz c).2.2] gz)).heap[j]? :=λj h1 h2=>by rw [Vz j (λhb=>by have:=hsdlt j hb;omega) h2,xa.heap h2]
   have arU:=h.lt hFs;have m48:Mod (λj=>sd2.bj=some j) jA.drew uK:=Mod.rK x8 Vz;have alV:¬sd2.bj=some s:=λe=>by obtain ⟨cs',hr'⟩:=aM hdr44 aC e;exact hr'.ne Vd aC rfl
   have Zh:=m48.row Vd alV;obtain ⟨p1,p2⟩:=Zh.jR (j:=5) (v:=.slice uN.a uN.n uN.c) (by simp [Vo]) rfl;have z48:=m48.size;have pb:∀j:Nat,s<j->cS (ae (some ⟨s,0,none⟩) 5)≠some j:=λj hj e=>by
    rw [dj] at e;have:s=j:=by simpa [cS] using e
    omega
   refine ⟨kp _ aa aa,kp _ aa aa,kp _ aa aa,f8,⟨rfl,p1⟩,pb _ aa,pb _ aa,pb _ aa,pb _ aa,λBS e49=> ?_⟩;obtain ⟨q1,q2⟩:=p2 BS e49;have P9:∀b,uN.bj=some b->b≠s:=λb hb=>by obtain ⟨cs',hr'⟩:=aM xt aC hb;exact hr'.ne Zh aC
   have m49:Mod (λj=>j=s\/sd2.bj=some j) jA.drew BS:=(m48.mono λi _ hi=> .inr hi).trans (q2.mono λi _ hi=> .inl hi);obtain ⟨F3,hS3,hT3⟩:=hres44 (M':={M with dK:=M.dK++ [bz c]}) rfl rfl rfl rfl rfl m49 q1 (by rw [aT];exact q2.gK xt P9) (λb hb=>by
    rcases hM with e|e
    ·exact .inl (by rw [<-e];exact hb)
    ·rw [e] at hb;cases hb;exact .inr (zA _))
   have z49:=q2.size;have alW:Row BS jA.drew.heap.size (dn (bz c)) gz:=q2.row (Row.same (Row.new jA.drew [_,_,_] gz) f8) aa;have Jl:¬F3 jA.drew.heap.size:=hS3.cF alW adR.1 aC aC aC aC aC (λg sd r1 hb=>by
    have e1:=(r1.at 5 rfl).symm.trans (q1.at 5 rfl);have e2:sd.a=uN.a:=by injection e1 with e1;injection e1
    have e3:sd.bj=uN.bj:=by unfold Sl.bj;rw [e2]
    rw [e3] at hb;rcases hM with e|e
    ·have:=hsdlt _ (by rw [<-e];exact hb);omega
    ·rw [e] at hb;simp at hb)
   have hch49:Row BS ny (fx (c,0)) eH:=m49.row (rch.ext acA) (λq=>by
    rcases q with q|q
    ·omega
    ·have:=hsdlt _ q;omega)
   have hF3:∀i,F3 i->i<w.heap.size\/jA.heap.size<=i:=λi hi=>(hT3.sub i hi).imp (λq=>h.lt q) id
   refine ⟨λn x wr=>(x=0/\n=1/\wr=BS)\/(x=1/\n=0/\jM F3 BS s o t (bB {M with dK:=M.dK++ [bz c]} (c,0)) occ wr),⟨1,rfl,rfl,rfl,rfl,.inl ⟨rfl,rfl,rfl⟩⟩,?_⟩;rintro n us x wr (⟨rfl,rfl,rfl⟩|⟨rfl,rfl,hS⟩)
   ·refine Br.mk (λ_=> ?_) (λq=>by simp at q);refine ⟨⟨rfl,by decide,by decide⟩,_,_,_,_,Lo.wv hch49,λBQ Vy yY e61=> ?_⟩;have pn:Ext wr yY:=(bo Vy).ab e61 (ax _);have z61:=jE Vy e61;refine (my (hS3.ext pn) (c,0) hc.wide ⟨by have:=hk.l;simp only;omega,by have:=hk.c;simp only;omega,hk.now,by have:=hk.d;simp only [eP,List.length_singleton];omega⟩).mono ?_;rintro e Bi ⟨rfl,F4,hS4,hT4⟩;have nf:∀i,(w.heap.size<=i/\i<jA.heap.size\/wr.heap.size<=i)->i<yY.heap.size->Bi.heap[i]? =yY.heap[i]? :=λi h1 h2=>hT4.mod.same i h2 λhf=>by
     rcases h1 with ⟨h1,ND⟩|h1
     ·rcases hF3 i hf with q|q<;>omega
     ·have:=hS3.lt hf;omega
    refine ⟨rfl,nf _ (.inl aa) aa,nf _ (.inl aa) aa,nf _ (.inl aa) aa,hT4.mod.same _ aa Jl,nf _ (.inr aa) aa,0,by omega,rfl,rfl,rfl,rfl,.inr ⟨rfl,rfl,F4,hS4,(aG.aN pn).trans hT4⟩⟩
   ·refine Br.mk (λq=>by simp at q) (λ_=> ?_);rw [hU,if_pos hHt];exact ⟨rfl,jM.trans ((aG.aN af0).trans hT3) hS⟩
  ·have hHf:¬pI O M c=true:=by rw [hH,hh,Bool.and_false,Bool.and_false];decide
   refine ⟨λn x wr=>∃(j:Nat)(F':Nat->Prop),x=j/\j+n=L.length/\SF F' wr s o t ((L.take j).foldl bB M) occ/\aG F F' ny wr,⟨L.length,rfl,rfl,0,F,rfl,by omega,h.ext X0,aG.refl _ _⟩,?_⟩;rintro n us x wr ⟨j,F',rfl,hj,hS,hT⟩;have zr:=hT.mod.size;have hzw42:=(X0).size;have rS:RdK wr eM 4 (L.map fx):=hT.mod.rdK aC (fq.ext (JQ.tr lU)) λ_ b hb hf=>by have:=(ho.own.lt hb).1;have:=h.lt hf;omega
   have nf:∀{w2:World} {F2:Nat->Prop} {w1:World},Ext wr w1->aG F' F2 w1 w2->∀i,(w.heap.size<=i/\i<ny.heap.size\/wr.heap.size<=i)->i<w1.heap.size->w2.heap[i]? =w1.heap[i]? :=λx1 t2 i h1 h2=>t2.mod.same i h2 λhf=>by
    rcases h1 with ⟨h1,ND⟩|h1
    ·rcases hT.sub i hf with q|q
     ·have:=h.lt q;omega
     ·omega
    ·have:=hS.lt hf;omega
   apply Br.mk<;>intro hb
   ·replace hb:=fe hb;obtain ⟨y,hy⟩:=aZ (l:=L) (i:=j) aa;have hy':(L.map fx)[j]? =some (fx y):=by rw [aV,hy];rfl
    have j2:L.take (j+1)=L.take j++ [y]:=by rw [cm,hy];rfl
    have wk:=kK (j:=j);refine ⟨rS.fp (i:=(j:Int)) aC aa hb,_,_,_,_,rS.aY hy',λy3 zc lV rJ=> ?_⟩;have wC:Ext wr lV:=(bo zc).ab rJ (ax _);have z87:=jE zc rJ;refine (my (hS.ext wC) y (hLw y (bf hy)) ((hk.fold (L.take j)).mono (by rw [bF];omega))).mono ?_;rintro e y7 ⟨rfl,F2,te,ph⟩;refine ⟨rfl,nf wC ph _ (.inl aa) aa,nf wC ph _ (.inl aa) aa,nf wC ph _ (.inr aa) aa,n-1,by omega,rfl,rfl,j+1,F2,wk,by omega,?_,(hT.trans (aG.aN wC)).trans ph⟩;rw [j2,jc];exact te
   ·replace hb:=eX hb;rw [cZ aa] at hS;rw [hU,if_neg hHf];exact ⟨rfl,F',hS,(aG.aN X0).trans hT⟩
 ·have hHf:¬pI O M c=true:=by
   have:L=[]:=by
    have:¬0<L.length:=by simp only [bV,gt_iff_lt] at hp;omega
    exact zn.1 aa
   rw [hH,this];simp
  refine ⟨λn x wr=>∃(j:Nat)(F':Nat->Prop),x=j/\j+n=L.length/\SF F' wr s o t ((L.take j).foldl bB M) occ/\aG F F' iU wr,⟨L.length,rfl,rfl,0,F,rfl,by omega,h.ext uJ,aG.refl _ _⟩,?_⟩;rintro n us x wr ⟨j,F',rfl,hj,hS,hT⟩;have zr:=hT.mod.size;have hzw39:=(uJ).size;have rS:RdK wr eM 4 (L.map fx):=hT.mod.rdK aC (fq.ext JQ) λ_ b hb hf=>by have:=(ho.own.lt hb).1;have:=h.lt hf;omega
  have nf:∀{w2:World} {F2:Nat->Prop} {w1:World},Ext wr w1->aG F' F2 w1 w2->∀i,(w.heap.size<=i/\i<iU.heap.size\/wr.heap.size<=i)->i<w1.heap.size->w2.heap[i]? =w1.heap[i]? :=λx1 t2 i h1 h2=>t2.mod.same i h2 λhf=>by
   rcases h1 with ⟨h1,ND⟩|h1
   ·rcases hT.sub i hf with q|q
    ·have:=h.lt q;omega
    ·omega
   ·have:=hS.lt hf;omega
  apply Br.mk<;>intro hb
  ·replace hb:=fe hb;obtain ⟨y,hy⟩:=aZ (l:=L) (i:=j) aa;have hy':(L.map fx)[j]? =some (fx y):=by rw [aV,hy];rfl
   have j2:L.take (j+1)=L.take j++ [y]:=by rw [cm,hy];rfl
   have wk:=kK (j:=j);refine ⟨rS.fp (i:=(j:Int)) aC aa hb,_,_,_,_,rS.aY hy',λy3 zc lV rJ=> ?_⟩;have wC:Ext wr lV:=(bo zc).ab rJ (ax _);have z87:=jE zc rJ;refine (my (hS.ext wC) y (hLw y (bf hy)) ((hk.fold (L.take j)).mono (by rw [bF];omega))).mono ?_;rintro e y7 ⟨rfl,F2,te,ph⟩;refine ⟨rfl,nf wC ph _ (.inl aa) aa,nf wC ph _ (.inl aa) aa,nf wC ph _ (.inr aa) aa,n-1,by omega,rfl,rfl,j+1,F2,wk,by omega,?_,(hT.trans (aG.aN wC)).trans ph⟩;rw [j2,jc];exact te
  ·replace hb:=eX hb;rw [cZ aa] at hS;rw [hU,if_neg hHf];exact ⟨rfl,F',hS,(aG.aN uJ).trans hT⟩
 ·have hHf:¬pI O M c=true:=by
   have:¬eB M.T.2 c=3:=by simpa using hf
   rw [hH,decide_eq_false this];simp
  refine ⟨λn x wr=>∃(j:Nat)(F':Nat->Prop),x=j/\j+n=L.length/\SF F' wr s o t ((L.take j).foldl bB M) occ/\aG F F' iU wr,⟨L.length,rfl,rfl,0,F,rfl,by omega,h.ext uJ,aG.refl _ _⟩,?_⟩;rintro n us x wr ⟨j,F',rfl,hj,hS,hT⟩;have zr:=hT.mod.size;have hzw39:=(uJ).size;have rS:RdK wr eM 4 (L.map fx):=hT.mod.rdK aC (fq.ext JQ) λ_ b hb hf=>by have:=(ho.own.lt hb).1;have:=h.lt hf;omega
  have nf:∀{w2:World} {F2:Nat->Prop} {w1:World},Ext wr w1->aG F' F2 w1 w2->∀i,(w.heap.size<=i/\i<iU.heap.size\/wr.heap.size<=i)->i<w1.heap.size->w2.heap[i]? =w1.heap[i]? :=λx1 t2 i h1 h2=>t2.mod.same i h2 λhf=>by
   rcases h1 with ⟨h1,ND⟩|h1
   ·rcases hT.sub i hf with q|q
    ·have:=h.lt q;omega
    ·omega
   ·have:=hS.lt hf;omega
  apply Br.mk<;>intro hb
  ·replace hb:=fe hb;obtain ⟨y,hy⟩:=aZ (l:=L) (i:=j) aa;have hy':(L.map fx)[j]? =some (fx y):=by rw [aV,hy];rfl
   have j2:L.take (j+1)=L.take j++ [y]:=by rw [cm,hy];rfl
   have wk:=kK (j:=j);refine ⟨rS.fp (i:=(j:Int)) aC aa hb,_,_,_,_,rS.aY hy',λy3 zc lV rJ=> ?_⟩;have wC:Ext wr lV:=(bo zc).ab rJ (ax _);have z87:=jE zc rJ;refine (my (hS.ext wC) y (hLw y (bf hy)) ((hk.fold (L.take j)).mono (by rw [bF];omega))).mono ?_;rintro e y7 ⟨rfl,F2,te,ph⟩;refine ⟨rfl,nf wC ph _ (.inl aa) aa,nf wC ph _ (.inl aa) aa,nf wC ph _ (.inr aa) aa,n-1,by omega,rfl,rfl,j+1,F2,wk,by omega,?_,(hT.trans (aG.aN wC)).trans ph⟩;rw [j2,jc];exact te
  ·replace hb:=eX hb;rw [cZ aa] at hS;rw [hU,if_neg hHf];exact ⟨rfl,F',hS,(aG.aN uJ).trans hT⟩
end
end Go.Proofs.YtalpkjfpmdpbiaaGreatDoor
namespace Go.Proofs.YtalpkjfpmdpbiaaGreatDoor
open Go Go.Vc Go.RowKit Go.Proofs Go.dS Go.bh Go.Code Go.km Go.iQ
set_option maxRecDepth 100000
section
variable {F F':Nat->Prop} {w w':World} {s o t:Nat} {M M':Sm} {occ:Value} {O:Ce->Bool}
def Ht(l:List Ce):Prop:=∀y ∈ l,nZ y
def Oc.mono(h:Oc occ O F w)(hs:∀i,F' i->F i):Oc occ O F' w:=by obtain ⟨D,h1,h2⟩:=h;exact ⟨D,λi hi=>⟨(h1 i hi).1,λq=>(h1 i hi).2 (hs i q)⟩,h2⟩
def ng.upd{n:Nat}(h:ng M n)(O:Ce->Bool)(c:Ce):ng (g9 O M c) (n+40):=by
 have h1:=h.l;have h2:=vM M.q c (M.now+1);unfold g9;split
 ·exact ⟨by simp only;omega,by have:=h.c;simp only;omega,h.now,by have:=h.d;simp only;omega⟩
 ·split
  ·have:ng {M with dK:=M.dK++ [bz c]} (n+1):=⟨by simp only;omega,by have:=h.c;simp only;omega,h.now,by have:=h.d;simp only [eP,List.length_singleton];omega⟩;exact (this.change _).mono aa
  ·have:=H6 (eB M.T.2) c;exact (h.fold _).mono aa
def ng.KU{n:Nat}(O:Ce->Bool):∀{M:Sm} (l:List Ce),ng M n->ng (l.foldl (g9 O) M) (n+40*l.length)
 |M,[],h=>h
 |M,x::l,h=>(ng.KU O l (h.upd O x)).mono (by simp only [fX];omega)
def Ez{q:QS}{now b:Int}(hb:1<=b/\b<=64):(ue q now b).2.length<=64:=by unfold ue fR;rw [aB,bF];omega
def nm(h:SF F w s o t M occ)(hO:Oc occ O F w)(hd:Ht (mH M))(hk:ng M 600000)(hb:1<=M.aO/\M.aO<=64):
  ah 15 #[s] w λe w'=>e=Value.int .i64 (mH M).length/\jM F w s o t (fN O M) occ w':=by
 obtain ⟨g,sd,hr,ho,-,-,aR⟩:=h.row;apply Es.vc;have Uh:=hk.now;have wr:ai (M.now+1)=M.now+1:=wI;have en:(if 1099511627776<M.now+1 then 1099511627776 else M.now+1)=nh M:=by unfold nh;split<;>omega
 obtain ⟨p1,p2⟩:=hr.jR (j:=3) (v:=.int .i64 (nh M)) (by simp [Vo]) rfl;refine ⟨M.now,hr.at 3 rfl,⟨rfl,p1⟩,λw1 e1=> ?_⟩;rw [wr,en] at e1;obtain ⟨q1,q2⟩:=p2 w1 e1;have lA:∀b,sd.bj=some b->b≠s:=λb hb=>by obtain ⟨cs',hr'⟩:=aM ho aC hb;exact hr'.ne hr aC
 obtain ⟨F1,h1,t1⟩:=aR (M':={M with now:=nh M}) (occ':=occ) (sd':=sd) rfl rfl rfl rfl rfl (q2.mono λi _ hi=> .inl hi) q1 (q2.gK ho lA) (λb hb=> .inl hb);have xd:=Ext.dr w1;have t1d:=t1.trans (aG.aN xd);obtain ⟨g',m,qs,hq,qZ,⟨sd',hr'⟩,eI,hresq⟩:=(h1.ext xd).queue;refine ⟨_,hr'.at 0 rfl,_,hr'.at 3 rfl,_,hr'.at 2 rfl,(Q.S4 hq qZ (nh M) M.aO).mono ?_⟩;rintro e w5 ⟨s6,rfl,qs',sG,hq',ht⟩;obtain ⟨F5,h5,t5⟩:=hresq hq' (qZ.due _ _) ht;have h5:SF F5 w5 s o t (jv M) occ:=h5;have T5:=t1d.trans t5;have hO5:=hO.iT T5;have fq:=sG.rd (show 0<3 by decide);have Qj:(mH M).length<=64:=Ez hb;have fq:RdK w5 s6 3 ((mH M).map dn):=fq;have sG:aj w1.drew.heap.size gz 3 w5 s6 ((mH M).map dn):=sG;have hk5:ng (jv M) 600000:=⟨hk.l,hk.c,by show 0<=nh M/\nh M<=_;unfold nh;omega,hk.d⟩;obtain ⟨g1,sd1,r1,-,-,f1,-⟩:=(h1.ext xd).row;have hsq:¬Q.gW g' m qs s:=hq.cF hr' aC aC;have r5:=ht.mod.row r1 hsq;have hsF:∀b,s6.bj=some b->¬F5 b:=λb hb=>by
  obtain ⟨cs6,hr6⟩:=aM sG aC hb;refine h5.cF hr6 adR.1 aC aC aC aC aC (λg sd r2 eF=> ?_);have e1:=(r2.at 5 rfl).symm.trans (r5.at 5 rfl);have e2:sd.a=sd1.a:=by injection e1 with e1;injection e1
  have e3:sd.bj=sd1.bj:=by unfold Sl.bj;rw [e2]
  have q1:=h1.lt (f1 b (by rw [<-e3];exact eF));have q2:=(sG.own.lt hb).1;have q3:=kQ w1;omega
 unfold fN;generalize mH M=L at*;generalize jv M=M0 at*;have hn6:=fq.n;rw [aB] at hn6;refine ⟨s6,rfl,λn x wr=>∃(j:Nat)(F':Nat->Prop),x=j/\j+n=L.length/\SF F' wr s o t ((L.take j).foldl (g9 O) M0) occ/\aG F5 F' w5 wr,⟨L.length,0,F5,rfl,by omega,h5,aG.refl _ _⟩,?_⟩;rintro n us x Vw ⟨j,F',rfl,hj,hS,hT⟩;have zr:=hT.mod.size;have rS:RdK Vw s6 3 (L.map dn):=hT.mod.rdK aC fq λ_ b hb hf=>hsF b hb hf
 apply Br.mk<;>intro hb
 ·replace hb:=fe hb;obtain ⟨y,hy⟩:=aZ (l:=L) (i:=j) aa;have hy':(L.map dn)[j]? =some (dn y):=by rw [aV,hy];rfl
  have j2:L.take (j+1)=L.take j++ [y]:=by rw [cm,hy];rfl
  have wk:=kK (j:=j);have rD:=hd y (bf hy);refine ⟨rS.fp (i:=(j:Int)) aC aa hb,_,_,_,rS.aY hy',λcY yZ cE qk=> ?_⟩;have cR:Ext Vw cE:=(bo yZ).ab qk (ax _);have z17:=jE yZ qk;refine (H7 (hS.ext cR) ((hO5.iT hT).ext cR) y rD ((hk5.KU O (L.take j)).mono (by rw [bF];omega))).mono ?_;rintro e dA ⟨rfl,F2,te,ph⟩;refine ⟨rfl,ph.mod.same _ aa (λhf=>by have:=hS.lt hf;omega),n-1,by omega,j+1,F2,wk,by omega,?_,(hT.trans (aG.aN cR)).trans ph⟩;rw [j2,jc];exact te
 ·replace hb:=eX hb;rw [cZ aa] at hS;exact ⟨by rw [hn6],F',hS,T5.trans hT⟩
end
end Go.Proofs.YtalpkjfpmdpbiaaGreatDoor
