import Derived.Test.YtalpkjfpmdpbiaaGreatDoorYC
import Derived.Test.YtalpkjfpmdpbiaaGreatDoorYB
set_option linter.all false
namespace Go.Proofs.YtalpkjfpmdpbiaaGreatDoor
open Go Go.Vc Go.RowKit Go.Proofs Go.dQ Go.bf Go.Code Go.ks Go.jd
set_option maxRecDepth 100000
section
variable {F F':Nat->Prop} {w w':World} {s o t:Nat} {M M':Sm} {occ:Value}
def SF.tl(h:SF F w s o t M occ):Tl (.func (.func 43) #[t] #[]) (ey M.T.2) w:=by obtain ⟨Fw,hW,-,-⟩:=h.world;exact ⟨Fw,λi hi=>hW.lt hi,λw' hk c hc=>hW.acX hk c hc⟩
def XB:wC ⟨4096,0,[]⟩:=⟨by decide,by decide,List.Pairwise.nil,List.nodup_nil⟩
def Hb{Fw:Nat->Prop}{ag cap:Int}{T:Tb}{ch:List Go.jd.Cg}(h:WF Fw w o t ag cap T ch)(aO:Int):ah 40 #[o,aO] w λe w'=>∃s F,e=Value.pointer (bu s)/\SF F w' s o t ⟨ag,cap,T,ch,⟨4096,0,[]⟩,min (max aO 1) 64,0,[]⟩ (.func (.func 83) #[] #[])/\Ext w w'/\(∀i,F i->Fw i\/w.heap.size<=i):=by
 apply VB.vc;refine (Q.zQ 4096 w).mono ?_;rintro e w0 ⟨g,m,rfl,hq,x0,hg,hm⟩;refine ⟨_,rfl,λw2 e2=> ?_⟩;have eb:(if 64<(if 1>aO then 1 else aO) then 64 else (if 1>aO then 1 else aO))=min (max aO 1) 64:=by split<;>split<;>omega
 rw [eb] at e2;have x2:=bq e2;have hr:Row w2 w0 (VJ g o ⟨ag,cap,T,ch,⟨4096,0,[]⟩,min (max aO 1) 64,0,[]⟩ (.func (.func 83) #[] #[]) ⟨none,0,0⟩) tw:=Row.nw e2;refine ⟨w0.heap.size,_,rfl,⟨g,m,⟨none,0,0⟩,Fw,⟨none,0,0⟩,hr,hq.ext x2,XB,h.ext (x0.tr x2),ak.nil,?_,rfl⟩,x0.tr x2,λi hi=> ?_⟩
 ·rintro i (hi|hi|hi) hf
  ·have:=h.lt hf;omega
  ·have:=h.lt hf;omega
  ·cases hi
 ·have:=x0.size;rcases hi with hi|(hi|hi|hi)|hi|hi
  ·exact .inr aa
  ·exact .inr aa
  ·exact .inr aa
  ·cases hi
  ·exact .inl hi
  ·cases hi
def Hc(h:SF F w s o t M occ):ah 10 #[s] w λe w'=>e=Value.pointer (bu o)/\w'=w:=by obtain ⟨g,sd,h1,-⟩:=h.row;apply BD.vc;exact ⟨_,h1.at 1 rfl,rfl,rfl⟩
def BJ(h:SF F w s o t M occ):ah 23 #[s] w λe w'=>∃s':Sl,e=s'/\ak w Q.bS 4 w' s' (M.q.l.map cM)/\Ext w w':=by obtain ⟨g,m,qs,hq,aU,⟨sd,hr⟩,-⟩:=h.queue;apply xm.vc;refine ⟨_,hr.at 0 rfl,(Q.Rz hq aU).mono ?_⟩;rintro e w' ⟨s',rfl,ho,x⟩;exact ⟨s',rfl,s',rfl,ho,x⟩
def Ee(h:SF F w s o t M occ)(f:Fn)(a b:Array Value):ah 17 #[s,.func f a b] w λe w'=>e=Fl/\kS F w s o t M (.func f a b) w'/\Mod (λi=>i=s) w w':=by
 obtain ⟨g,sd,hr,ho,-,-,aS⟩:=h.row;apply zw.vc;obtain ⟨p1,p2⟩:=hr.kE (j:=4) (v:=.func f a b) (by simp [VJ]) rfl;refine ⟨⟨rfl,p1⟩,λw0 e0=>⟨rfl,?_⟩⟩;obtain ⟨q1,q2⟩:=p2 w0 e0;have mz:∀b,sd.bg=some b->b≠s:=λb hb=>by obtain ⟨cs',hr'⟩:=aN ho aE hb;exact hr'.ne hr aE
 exact ⟨aS (M':=M) rfl rfl rfl rfl rfl (q2.mono λi _ hi=> .inl hi) q1 (q2.gQ ho mz) (λb hb=> .inl hb),q2⟩
def Hd(b:Int):0<=bO b/\bO b<=5:=by
 unfold bO;split
 ·decide
 ·split<;>decide
def RP{V:Ce->Int}{c:Ce}(hc:dB c):∀n ∈ iN V c,mA n:=λn hn=>by
 unfold iN at hn
 rcases bI.1 (jH.1 hn).1 with rfl|h
 ·exact hc.ok
 ·exact v9 hc h
def CP(V:Ce->Int)(c:Ce):(iN V c).length<=7:=CF _ _
abbrev oG(V:Ce->Int)(now:Int)(q:QS)(n:Ce):QS:=(eX q n (now+bO (V n))).1
def rH(V:Ce->Int)(now:Int):∀(l:List Ce)(q:QS),q.lost<=(l.foldl (oG V now) q).lost/\(l.foldl (oG V now) q).lost<=q.lost+l.length
 | [],q=>⟨oF _,by simp⟩
 |n::l,q=>by
  have h1:=rH V now l (oG V now q n)
  have h2:=vg q n (now+bO (V n))
  have h3:(oG V now q n).lost=(eX q n (now+bO (V n))).1.lost:=rfl
  simp only [jI,fR]
  omega
set_option maxRecDepth 100000 in
def Om(h:SF F w s o t M occ)(c:Ce)(hc:dB c)(hl:0<=M.q.lost/\M.q.lost<=900000)(TJ:0<=M.now/\M.now<=1099511627776):
  ah 45 #[s,iS c] w λe w'=>e=Fl/\kS F w s o t {M with q:=oB (ey M.T.2) M.now M.q c} occ w':=by
 apply DX.vc;intro w0 e0;have x0:=bq e0;have z0:=du e0;have h0:=h.ext x0;obtain ⟨g,sd,hr,-,hFs,-⟩:=h0.row;obtain ⟨Fw,hW,-,-⟩:=h0.world;refine ⟨_,hr.at 1 rfl,(rh hW).mono ?_⟩;rintro e w2 ⟨rfl,hw⟩;subst hw;refine ⟨_,rfl,rfl,(KC h0.tl c hc).mono ?_⟩;rintro e w4 ⟨s5,rfl,ho,x4⟩;have z4:=x4.size;have eZ:=ho.rd (show 0<3 by decide);have hn5:=eZ.n;have h4:=h0.ext x4;have hL:=CP (ey M.T.2) c;have aU:=RP (V:=ey M.T.2) hc;unfold oB;generalize hLe:iN (ey M.T.2) c=L at*;rw [aB] at hn5;refine ⟨s5,rfl,x4.heap aa,λn x bL=>∃(j:Nat)(F':Nat->Prop),x=j/\j+n=L.length/\SF F' bL s o t {M with q:=(L.take j).foldl (oG (ey M.T.2) M.now) M.q} occ/\aG F F' w4 bL,⟨L.length,rfl,0,F,rfl,by omega,h4,aG.refl _ _⟩,?_⟩;rintro n us x bL ⟨j,F',rfl,hj,hS,hT⟩;have z10:=hT.mod.size;have hF:∀i,F i->i<w.heap.size:=λi hi=>h.lt hi
 have hrd10:RdK bL s5 3 (L.map ef):=hT.mod.rdK aE eZ λ_ b hb hf=>by have:=(ho.own.lt hb).1;have:=hF b hf;omega
 apply Br.mk<;>intro hb
 ·replace hb:=fj hb;obtain ⟨y,hy⟩:=bh (l:=L) (i:=j) aa;have oky:=aU y (bc hy);have hy':(L.map ef)[j]? =some (ef y):=by rw [aX,hy];rfl
  have kJ:L.take (j+1)=L.take j++ [y]:=by rw [cu,hy];rfl
  have hlost:=rH (ey M.T.2) M.now (L.take j) M.q;have aiy:(L.take j).length<=7:=by rw [bG];omega
  generalize Pt:(L.take j).foldl (oG (ey M.T.2) M.now) M.q=qj at*;refine ⟨hrd10.fN (i:=(j:Int)) aE aa hb,_,_,_,hrd10.bk hy',λcS A1 dy yH=> ?_⟩;have cY:Ext bL dy:=(bq A1).ab yH (ax _);have z16:=kC A1 yH;have aiz:Row dy bL (ef y) iE:=by rw [yH];exact Row.set (by rw [A1];exact Row.new bL [_,_,_] _) _
  have xd:=cY.tr (Ext.dr dy);have zd:=lW dy;have adQ:=hS.ext xd;obtain ⟨g',m,qs,hq,qI,⟨sd',hr'⟩,eG,aS⟩:=adQ.queue;refine ⟨_,hr'.at 0 rfl,_,hr'.at 3 rfl,dW (adQ.tl.at oky) ?_⟩;rintro e fD ⟨rfl,cN⟩;have z19:=cN.size;have WW:=hr'.ext cN;have adR:=(aiz.ext (Ext.dr dy)).ext cN;have hd:=Hd (ey M.T.2 y);have wr:ai (M.now+bO (ey M.T.2 y))=M.now+bO (ey M.T.2 y):=wI;refine ⟨_,rfl,cN.heap aa,cN.heap aa,lH (WW.at 3 rfl),Lo.wv adR,lH (WW.at 0 rfl),(zR (ey M.T.2 y) fD).mono ?_⟩;rintro e ea ⟨rfl,hw⟩;subst hw;refine ⟨_,rfl,rfl,rfl,lH (WW.at 3 rfl),Lo.wv adR,lH (WW.at 0 rfl),?_⟩;rw [wr];refine (Q.He (hq.ext cN) qI (by simp only at hlost ⊢;omega) y (M.now+bO (ey M.T.2 y))).mono ?_;rintro e gi ⟨rfl,qs',hq',ht⟩;have wk:=lD (j:=j);have ht':aG (Q.gJ g' m qs) (Q.gJ g' m qs') dy.drew gi:=(aG.aM cN).trans ht;obtain ⟨F2,uw,qH⟩:=aS hq' (qI.add y _) ht';have hsF:¬Q.gJ g' m qs s:=(hq).cX hr' aE aE;have aaj:=ht'.mod.row hr' hsF;have nf:∀i,(w.heap.size<=i/\i<w4.heap.size\/bL.heap.size<=i)->i<dy.drew.heap.size->gi.heap[i]? =ea.heap[i]? :=λi h1 h2=>(qH.mod.same i h2 (λhf=>by
   rcases h1 with ⟨h1,MP⟩|h1
   ·rcases hT.sub i hf with q|q
    ·have:=hF i q;omega
    ·omega
   ·have:=hS.lt hf;omega)).trans (cN.heap h2).symm
  refine ⟨_,rfl,nf _ (.inl aa) aa,nf _ (.inr aa) aa,lH (aaj.at 3 rfl),n-1,by omega,rfl,j+1,F2,wk,by omega,?_,(hT.trans (aG.aM xd)).trans qH⟩;rw [kJ,iY,Pt];exact uw
 ·replace hb:=fh hb;rw [dn aa] at hS;exact ⟨rfl,F',hS,(aG.aM (x0.tr x4)).trans hT⟩
end
end Go.Proofs.YtalpkjfpmdpbiaaGreatDoor
namespace Go.Proofs.YtalpkjfpmdpbiaaGreatDoor
open Go Go.Vc Go.RowKit Go.Proofs Go.dQ Go.bf Go.Code Go.ks Go.jd
set_option maxRecDepth 100000
section
variable {F F':Nat->Prop} {w w':World} {s o t:Nat} {M M':Sm} {occ:Value}
def kS.trans{F1:Nat->Prop}{w1:World}(h:aG F F1 w w1)(k:kS F1 w1 s o t M occ w'):kS F w s o t M occ w':=by obtain ⟨F2,h2,t2⟩:=k;exact ⟨F2,h2,h.trans t2⟩
structure m8(M:Sm)(n:Nat):Prop where
 l:0<=M.q.lost/\M.q.lost<=n
 c:M.ch.length<=n
 now:0<=M.now/\M.now<=1099511627776
 d:M.dR.length<=n
def m8.mono{n m:Nat}(h:m8 M n)(hm:n<=m):m8 M m:=⟨⟨h.l.1,by have:=h.l.2;omega⟩,fy h.c hm,h.now,fy h.d hm⟩
def zB(l:List En)(ch:List Go.jd.Cg)(c:Ce)(b:Int):(xe l ch c b).length<=ch.length+1:=Vr l ch c b
def KV(V:Ce->Int)(now:Int)(q:QS)(c:Ce):q.lost<=(oB V now q c).lost/\(oB V now q c).lost<=q.lost+7:=by have h1:=rH V now (iN V c) q;have h2:=CP V c;have h3:oB V now q c=(iN V c).foldl (oG V now) q:=rfl;rw [h3];omega
def m8.edit{n:Nat}(h:m8 M n)(c:Ce)(b:Int):m8 (gm M c b) (n+7):=by
 have h1:=zB M.T.2 M.ch c b;have h2:=KV (ey (cj M.T.2 c b).1) M.now M.q c;have h3:=h.l;have h4:=h.c;unfold gm;have h5:=h.d;refine ⟨?_,?_,h.now,by simp only;omega⟩
 ·simp only;split<;>omega
 ·simp only;omega
def m8.change{n:Nat}(h:m8 M n)(x:Go.jd.Cg):m8 (bw M x) (n+7):=by
 unfold bw;split
 ·exact h.mono aa
 ·exact h.edit _ _
def lJ(h:SF F w s o t M occ)(c:Ce)(hc:dB c)(b:Int)(hk:m8 M 800000):
  ah 14 #[s,iS c,b] w λe w'=>e=Value.int .i64 (cj M.T.2 c b).2/\kS F w s o t (gm M c b) occ w':=by
 apply DW.vc;intro w0 e0;have x0:Ext w w0.drew:=(bq e0).tr (Ext.dr w0);have z0:w0.drew.heap.size=w.heap.size+1:=by show w0.heap.size=_;rw [e0];simp
 have zd:=lW w0;have h0:=h.ext x0;obtain ⟨g,sd,hr,-⟩:=h0.row;obtain ⟨Fw,hW,eG,aS⟩:=h0.world;have hlc:=hk.c;have M6:=hk.l;refine ⟨_,(hr.at 1 rfl),(Nn hW c hc.ok b aa).mono ?_⟩;rintro e w2 ⟨rfl,hw⟩;obtain ⟨F2,h2,t2⟩:=aS hw;have hF:∀{i},w.heap.size<=i->i<w0.drew.heap.size->w2.heap[i]? =w0.drew.heap[i]? :=λh1 h3=>t2.mod.same _ h3 λhf=>by have:=h.lt hf;omega
 unfold gm;refine ⟨_,rfl,hF (ax _) aa,Br.mk (λhb=> ?_) (λhb=> ?_)⟩
 ·rw [if_pos (by simpa using hb)];refine (Om h2 c hc (by simp only;omega) hk.now).mono ?_;rintro e w4 ⟨rfl,F4,h4,t4⟩;have hz:=t2.mod.size;have hnf:¬F2 w:=λhf=>by
   rcases t2.sub _ hf with q|q
   ·have:=h.lt q;omega
   ·omega
  exact ⟨rfl,t4.mod.same _ aa hnf,rfl,F4,h4,(aG.aM x0).trans (t2.trans t4)⟩
 ·rw [if_neg (by simpa using hb)];exact ⟨rfl,F2,h2,(aG.aM x0).trans t2⟩
def mv(h:SF F w s o t M occ)(x:Go.jd.Cg)(hc:dB x.1)(hk:m8 M 800000):
  ah 95 #[s,.agg (fq x).toArray] w λe w'=>e=Fl/\kS F w s o t (bw M x) occ w':=by
 apply zx.vc;intro w0 e0;have hb0:Row w0 w (fq x) eT:=Row.nw e0;have x0:Ext w w0.drew:=(bq e0).tr (Ext.dr w0);have z0:w0.drew.heap.size=w.heap.size+1:=by show w0.heap.size=_;rw [e0];simp
 have hb:=hb0.ext (Ext.dr w0);have h0:=h.ext x0;obtain ⟨g,sd,hr,-⟩:=h0.row;obtain ⟨Fw,hW,-,-⟩:=h0.world;refine ⟨_,(hr.at 1 rfl),(rh hW).mono ?_⟩;rintro e w2 ⟨rfl,hw⟩;subst hw;refine ⟨_,rfl,rfl,hb.bk (o:=3) (λj hj=>by
  match j,hj with
  |0,_=>rfl),hb.bk (o:=0) (λj hj=>by
  match j,hj with
  |0,_=>rfl
  |1,_=>rfl
  |2,_=>rfl),dW (h0.tl.at hc.ok) ?_⟩
 rintro e w4 ⟨rfl,x4⟩;have z4:=x4.size;have Jl:=x0.tr x4;unfold bw;refine ⟨_,rfl,x4.heap aa,(hb.ext x4).bk (o:=3) (λj hj=>by
  match j,hj with
  |0,_=>rfl),Br.mk (λfi=> ?_) (λfi=> ?_)⟩
 ·rw [if_neg (by simpa using fi)];refine (lJ (h.ext Jl) x.1 hc x.2 hk).mono ?_;rintro e w6 ⟨rfl,F6,h6,t6⟩;exact ⟨_,rfl,t6.mod.same _ aa (λhf=>by have:=h.lt hf;omega),rfl,F6,h6,(aG.aM Jl).trans t6⟩
 ·rw [if_pos (by simpa using fi)];exact ⟨rfl,F,h.ext Jl,aG.aM Jl⟩
end
end Go.Proofs.YtalpkjfpmdpbiaaGreatDoor
namespace Go.Proofs.YtalpkjfpmdpbiaaGreatDoor
open Go Go.Vc Go.RowKit Go.Proofs Go.dQ Go.bf Go.Code Go.ks Go.jd
set_option maxRecDepth 100000
def Oc(occ:Value)(O:Ce->Bool)(F:Nat->Prop)(w:World):Prop:=∃D:Nat->Prop,(∀i,D i->i<w.heap.size/\¬F i)/\∀w',(∀i,D i->w'.heap[i]? =w.heap[i]?)->∀c,mA c->dH Tryz.prog occ [iS c] w' λe w''=>e=Value.bool (O c)/\Ext w' w''
section
variable {F F':Nat->Prop} {w w':World} {s o t:Nat} {M M':Sm} {occ:Value} {O:Ce->Bool}
def Oc.ib(h:Oc occ O F w)(ht:aG F F' w w'):Oc occ O F' w':=by
 obtain ⟨D,h1,h2⟩:=h;refine ⟨D,λi hi=>⟨kN (h1 i hi).1 ht.mod.size,λhf=> ?_⟩,λw'' hk=>h2 w'' λi hi=>(hk i hi).trans (ht.mod.same i (h1 i hi).1 (h1 i hi).2)⟩;rcases ht.sub i hf with q|q
 ·exact (h1 i hi).2 q
 ·have:=(h1 i hi).1;omega
def Oc.ext(h:Oc occ O F w)(x:Ext w w'):Oc occ O F w':=h.ib (aG.aM x)
def Oc.at(h:Oc occ O F w){c:Ce}(hc:mA c):dH Tryz.prog occ [iS c] w λe w'=>e=Value.bool (O c)/\Ext w w':=by obtain ⟨D,h1,h2⟩:=h;exact h2 w (λ_ _=>rfl) c hc
def m8.fold{n:Nat}:∀{M:Sm} (l:List Go.jd.Cg),m8 M n->m8 (l.foldl bw M) (n+7*l.length)
 |M,[],h=>h
 |M,x::l,h=>(m8.fold l (h.change x)).mono (by simp only [fR];omega)
def HF(V:Ce->Int)(c:Ce):(jq V c).length<=4:=by
 unfold jq pr jO;split
 ·split<;>simp
 ·split
  ·split
   ·simp
   ·split
    ·simp
    ·split
     ·simp
     ·split
      ·simp
      ·rw [aB];exact CF _ _
  ·simp
def Pg(V:Ce->Int)(c:Ce):∀x ∈ jq V c,x.1=c\/x.1 ∈ iF c:=by
 have P6:bz c ∈ iF c:=by simp [iF]
 have hside:∀n ∈ aQ c,n ∈ iF c:=λn hn=>by
  unfold aQ at hn;unfold iF;simp only [bI,fS,or_false] at hn ⊢;rcases hn with h|h|h|h
  ·exact .inl h
  ·exact .inr (.inl h)
  ·exact .inr (.inr (.inr (.inr (.inl h))))
  ·exact .inr (.inr (.inr (.inr (.inr h))))
 intro x hx;unfold jq at hx;split at hx
 ·unfold pr at hx;split at hx
  ·simp only [bI,fS,or_false] at hx;rcases hx with rfl|rfl
   ·exact .inl rfl
   ·exact .inr P6
  ·cases hx
 ·split at hx
  ·unfold jO at hx;split at hx
   ·simp only [bI,fS,or_false] at hx;rw [hx];exact .inl rfl
   ·split at hx
    ·simp only [bI,fS,or_false] at hx;rw [hx];exact .inl rfl
    ·split at hx
     ·simp only [bI,fS,or_false] at hx;rw [hx];exact .inr P6
     ·split at hx
      ·cases hx
      ·obtain ⟨n,hn,rfl⟩:=aR.1 hx;exact .inr (hside n (jH.1 hn).1)
  ·cases hx
set_option maxRecDepth 100000 in
def HG(h:SF F w s o t M occ)(hO:Oc occ O F w)(c:Ce)(hc:nS c)(hk:m8 M 700000):
  ah 47 #[s,iS c] w λe w'=>e=Fl/\kS F w s o t (fU O M c) occ w':=by
 apply zy.vc;have hc':=id hc;unfold nS at hc';intro w0 e0;have x0:Ext w w0.drew:=(bq e0).tr (Ext.dr w0);have z0:w0.drew.heap.size=w.heap.size+1:=by show w0.heap.size=_;rw [e0];simp
 have h0:=h.ext x0;obtain ⟨g,sd,hr,hdr,-,hsdF,aS⟩:=h0.row;obtain ⟨Fw,hW,-,-⟩:=h0.world;refine ⟨_,(hr.at 1 rfl),(FW hW c hc.wide.ok (Vs aa aa)).mono ?_⟩;rintro e w2 ⟨rfl,x2⟩;have z2:=x2.size;have Dl:=x0.tr x2;have P6:mA (bz c):=v9 hc.wide (by simp [iF]);refine ⟨_,rfl,x2.heap aa,Br.mk (λhb=> ?_) (λhb=> ?_)⟩
 ·have xd:=x2.tr (Ext.dr w2);have zd:=lW w2;have TJ:=hk.now;have wr:ai (M.now+1)=M.now+1:=wI;obtain ⟨g',m,qs,hq,qI,⟨sd',hr'⟩,eG,hresq⟩:=(h0.ext xd).queue;refine ⟨_,hr'.at 0 rfl,_,hr'.at 3 rfl,?_⟩;rw [wr];have M6:=hk.l;refine (Q.He hq qI aa c (M.now+1)).mono ?_;rintro e w6 ⟨rfl,qs',hq',ht⟩;obtain ⟨F2,uw,qH⟩:=hresq hq' (qI.add c _) ht;have hsF:¬Q.gJ g' m qs s:=hq.cX hr' aE aE;refine ⟨_,rfl,qH.mod.same _ aa (λhf=>by have:=h.lt hf;omega),lH ((ht.mod.row hr' hsF).at 3 rfl),rfl,?_⟩;unfold fU;rw [if_pos (by simpa using hb)];exact ⟨F2,uw,(aG.aM (x0.tr xd)).trans qH⟩
 have alb:¬lE M.T.2 c=false:=by simpa using hb
 have mK:=hr.ext x2;refine ⟨_,(mK.at 1 rfl),(rh (hW.ext x2)).mono ?_⟩;rintro e w9 ⟨rfl,hw9⟩;subst hw9;refine ⟨_,rfl,rfl,(JT (h0.tl.ext x2) c hc.wide).mono ?_⟩;rintro e cH ⟨eH,rfl,ho,bV⟩;have z11:=bV.size;have eZ:=ho.rd (show 0<4 by decide);have alc:=eZ.n;have hLlen:=HF (ey M.T.2) c;have hLw:∀x ∈ jq (ey M.T.2) c,dB x.1:=λx hx=>by
  rcases Pg _ _ x hx with q|q
  ·rw [q];exact hc.wide
  ·exact V8 hc q
 have hU:fU O M c=if pB O M c=true then bw {M with dR:=M.dR++ [bz c]} (c,0) else (jq (ey M.T.2) c).foldl bw M:=by unfold fU;rw [if_neg alb]
 have hH:pB O M c=(decide (ey M.T.2 c=3) &&(!(jq (ey M.T.2) c).isEmpty && O (bz c))):=rfl;generalize jq (ey M.T.2) c=L at*;rw [aB] at alc;refine ⟨eH,rfl,bV.heap aa,(lr c hc.wide cH).mono ?_⟩;rintro e cA ⟨rfl,cD⟩;have z13:=cD.size;refine ⟨_,_,_,_,_,_,_,_,_,_,_,_,_,_,_,_,_,_,rfl,cD.heap aa,by decide,_,_,_,JS c,λwP e35 nv IH=> ?_⟩;have kx:Ext cA nv:=(bq e35).ab IH (ax _);have z36:=kC e35 IH;have xd:=Ext.dr nv;have zd:=lW nv;have Yv:=cD.tr (kx.tr xd);have afv:=Dl.tr (bV.tr Yv);refine dW ((h.ext afv).tl.at hc.wide.ok) ?_;rintro e jj ⟨rfl,gd⟩;have z37:=gd.size;have ug:=afv.tr gd;have Jd:=Yv.tr gd;refine ⟨_,rfl,gd.heap aa,gd.heap aa,(ru (ey M.T.2 c) jj).mono ?_⟩;rintro e iP ⟨rfl,ald⟩;subst ald;have aba:=mK.ext (bV.tr Jd);refine ⟨_,rfl,rfl,rfl,Br.mk (λhf=>Br.mk (λhp=> ?_) (λhp=> ?_)) (λhf=> ?_)⟩
 ·refine ⟨_,aba.at 4 rfl,dW ((hO.ext ug).at P6) ?_⟩;rintro e np ⟨rfl,lU⟩;have z42:=lU.size;have Xr:=ug.tr lU;have hpn:(!L.isEmpty)=true:=by
   have:0<L.length:=by simp only [bB,gt_iff_lt] at hp;omega
   cases L with
   |nil=>simp at this
   |cons=>rfl
  have hf3:decide (ey M.T.2 c=3)=true:=by simpa using hf
  refine ⟨_,rfl,lU.heap aa,lU.heap aa,Br.mk (λhh=> ?_) (λhh=> ?_)⟩
  ·have hHt:pB O M c=true:=by rw [hH,hf3,hpn,hh];rfl
   intro jz PF;have jF:=bq PF;have z44:=du PF;have rch:Row jz np (fq (c,0)) eT:=Row.nw PF;have abN:=Ext.dr jz;have ars:=lW jz;have afw:=Xr.tr (jF.tr abN);have anz:=x2.tr ((bV.tr Jd).tr (lU.tr (jF.tr abN)));obtain ⟨g2,sd2,Uy,hdr44,hFs,hsdF2,hres44⟩:=(h.ext afw).row;refine ⟨sd2,Uy.at 5 rfl,λDn UZ=> ?_⟩;subst UZ;have j6:sd2.n=M.dR.length:=by have:=(hdr44.rd (show 0<3 by decide)).n;rwa [aB] at this
   have hkd:=hk.d;obtain ⟨Pv,hres8⟩:=hdr44.kD (bytes:=24) (news:=ef (bz c)) (.cells #[.int .i64 (bz c).1,.int .i64 (bz c).2.1,.int .i64 (bz c).2.2] iE) (fm _) rfl (AI _) aa aa;refine ⟨Pv,λuj uh ale=> ?_⟩;obtain ⟨f8,wO,hn8,x8,UT,gX⟩:=hres8 uj uh ale;have xa:=Ext.al jz.drew (.cells #[.int .i64 (bz c).1,.int .i64 (bz c).2.1,.int .i64 (bz c).2.2] iE);have hsdlt:∀b,sd2.bg=some b->b<w.heap.size:=λb hb=>h.lt (hsdF2 b hb)
   have kp:∀j,w.heap.size<=j->j<jz.drew.heap.size->uh.heap[j]? =(jz.drew.alloc (.cells #[.int .i64 (bz c).1,.int .i64 (bz c).2.1,.int .i64 (bz c).2.2] iE)).heap[j]? :=λj h1 h2=>by rw [UT j (λhb=>by have:=hsdlt j hb;omega) h2,xa.heap h2]
   have art:=h.lt hFs;have m48:Mod (λj=>sd2.bg=some j) jz.drew uh:=Mod.ri x8 UT;have alg:¬sd2.bg=some s:=λe=>by obtain ⟨cs',hr'⟩:=aN hdr44 aE e;exact hr'.ne Uy aE rfl
   have Yw:=m48.row Uy alg;obtain ⟨p1,p2⟩:=Yw.kE (j:=5) (v:=.slice uj.a uj.n uj.c) (by simp [VJ]) rfl;have z48:=m48.size;have pb:∀j:Nat,s<j->cQ (ae (some ⟨s,0,none⟩) 5)≠some j:=λj hj e=>by
    rw [da] at e;have:s=j:=by simpa [cQ] using e
    omega
   refine ⟨kp _ aa aa,kp _ aa aa,kp _ aa aa,f8,⟨rfl,p1⟩,pb _ aa,pb _ aa,pb _ aa,pb _ aa,λBq e49=> ?_⟩;obtain ⟨q1,q2⟩:=p2 Bq e49;have Pr:∀b,uj.bg=some b->b≠s:=λb hb=>by obtain ⟨cs',hr'⟩:=aN wO aE hb;exact hr'.ne Yw aE
   have m49:Mod (λj=>j=s\/sd2.bg=some j) jz.drew Bq:=(m48.mono λi _ hi=> .inr hi).trans (q2.mono λi _ hi=> .inl hi);obtain ⟨F3,hS3,hT3⟩:=hres44 (M':={M with dR:=M.dR++ [bz c]}) rfl rfl rfl rfl rfl m49 q1 (by rw [aT];exact q2.gQ wO Pr) (λb hb=>by
    rcases gX with e|e
    ·exact .inl (by rw [<-e];exact hb)
    ·rw [e] at hb;cases hb;exact .inr (y8 _))
   have z49:=q2.size;have alh:Row Bq jz.drew.heap.size (ef (bz c)) iE:=q2.row (Row.same (Row.new jz.drew [_,_,_] iE) f8) aa;have II:¬F3 jz.drew.heap.size:=hS3.cX alh ac4.1 aE aE aE aE aE (λg sd r1 hb=>by
    have e1:=(r1.at 5 rfl).symm.trans (q1.at 5 rfl);have e2:sd.a=uj.a:=by injection e1 with e1;injection e1
    have e3:sd.bg=uj.bg:=by unfold Sl.bg;rw [e2]
    rw [e3] at hb;rcases gX with e|e
    ·have:=hsdlt _ (by rw [<-e];exact hb);omega
    ·rw [e] at hb;simp at hb)
   have hch49:Row Bq np (fq (c,0)) eT:=m49.row (rch.ext abN) (λq=>by
    rcases q with q|q
    ·omega
    ·have:=hsdlt _ q;omega)
   have hF3:∀i,F3 i->i<w.heap.size\/jz.heap.size<=i:=λi hi=>(hT3.sub i hi).imp (λq=>h.lt q) id
   refine ⟨λn x wr=>(x=0/\n=1/\wr=Bq)\/(x=1/\n=0/\kS F3 Bq s o t (bw {M with dR:=M.dR++ [bz c]} (c,0)) occ wr),⟨1,rfl,rfl,rfl,rfl,.inl ⟨rfl,rfl,rfl⟩⟩,?_⟩;rintro n us x wr (⟨rfl,rfl,rfl⟩|⟨rfl,rfl,hS⟩)
   ·refine Br.mk (λ_=> ?_) (λq=>by simp at q);refine ⟨⟨rfl,by decide,by decide⟩,_,_,_,_,Lo.wv hch49,λBo US yG e61=> ?_⟩;have pa:Ext wr yG:=(bq US).ab e61 (ax _);have z61:=kC US e61;refine (mv (hS3.ext pa) (c,0) hc.wide ⟨by have:=hk.l;simp only;omega,by have:=hk.c;simp only;omega,hk.now,by have:=hk.d;simp only [eK,List.length_singleton];omega⟩).mono ?_;rintro e AV ⟨rfl,F4,hS4,hT4⟩;have nf:∀i,(w.heap.size<=i/\i<jz.heap.size\/wr.heap.size<=i)->i<yG.heap.size->AV.heap[i]? =yG.heap[i]? :=λi h1 h2=>hT4.mod.same i h2 λhf=>by
     rcases h1 with ⟨h1,MP⟩|h1
     ·rcases hF3 i hf with q|q<;>omega
     ·have:=hS3.lt hf;omega
    refine ⟨rfl,nf _ (.inl aa) aa,nf _ (.inl aa) aa,nf _ (.inl aa) aa,hT4.mod.same _ aa II,nf _ (.inr aa) aa,0,by omega,rfl,rfl,rfl,rfl,.inr ⟨rfl,rfl,F4,hS4,(aG.aM pa).trans hT4⟩⟩
   ·refine Br.mk (λq=>by simp at q) (λ_=> ?_);rw [hU,if_pos hHt];exact ⟨rfl,kS.trans ((aG.aM afw).trans hT3) hS⟩
  ·have hHf:¬pB O M c=true:=by rw [hH,hh,Bool.and_false,Bool.and_false];decide
   refine ⟨λn x wr=>∃(j:Nat)(F':Nat->Prop),x=j/\j+n=L.length/\SF F' wr s o t ((L.take j).foldl bw M) occ/\aG F F' np wr,⟨L.length,rfl,rfl,0,F,rfl,by omega,h.ext Xr,aG.refl _ _⟩,?_⟩;rintro n us x wr ⟨j,F',rfl,hj,hS,hT⟩;have zr:=hT.mod.size;have hzw42:=(Xr).size;have rA:RdK wr eH 4 (L.map fq):=hT.mod.rdK aE (eZ.ext (Jd.tr lU)) λ_ b hb hf=>by have:=(ho.own.lt hb).1;have:=h.lt hf;omega
   have nf:∀{w2:World} {F2:Nat->Prop} {w1:World},Ext wr w1->aG F' F2 w1 w2->∀i,(w.heap.size<=i/\i<np.heap.size\/wr.heap.size<=i)->i<w1.heap.size->w2.heap[i]? =w1.heap[i]? :=λx1 t2 i h1 h2=>t2.mod.same i h2 λhf=>by
    rcases h1 with ⟨h1,MP⟩|h1
    ·rcases hT.sub i hf with q|q
     ·have:=h.lt q;omega
     ·omega
    ·have:=hS.lt hf;omega
   apply Br.mk<;>intro hb
   ·replace hb:=fj hb;obtain ⟨y,hy⟩:=bh (l:=L) (i:=j) aa;have hy':(L.map fq)[j]? =some (fq y):=by rw [aX,hy];rfl
    have kJ:L.take (j+1)=L.take j++ [y]:=by rw [cu,hy];rfl
    have wk:=lD (j:=j);refine ⟨rA.fN (i:=(j:Int)) aE aa hb,_,_,_,_,rA.bk hy',λAZ Du pZ uG=> ?_⟩;have yL:Ext wr pZ:=(bq Du).ab uG (ax _);have z87:=kC Du uG;refine (mv (hS.ext yL) y (hLw y (bc hy)) ((hk.fold (L.take j)).mono (by rw [bG];omega))).mono ?_;rintro e yI ⟨rfl,F2,uw,qH⟩;refine ⟨rfl,nf yL qH _ (.inl aa) aa,nf yL qH _ (.inl aa) aa,nf yL qH _ (.inr aa) aa,n-1,by omega,rfl,rfl,j+1,F2,wk,by omega,?_,(hT.trans (aG.aM yL)).trans qH⟩;rw [kJ,iY];exact uw
   ·replace hb:=fh hb;rw [dn aa] at hS;rw [hU,if_neg hHf];exact ⟨rfl,F',hS,(aG.aM Xr).trans hT⟩
 ·have hHf:¬pB O M c=true:=by
   have:L=[]:=by
    have:¬0<L.length:=by simp only [bQ,gt_iff_lt] at hp;omega
    exact yU.1 aa
   rw [hH,this];simp
  refine ⟨λn x wr=>∃(j:Nat)(F':Nat->Prop),x=j/\j+n=L.length/\SF F' wr s o t ((L.take j).foldl bw M) occ/\aG F F' iP wr,⟨L.length,rfl,rfl,0,F,rfl,by omega,h.ext ug,aG.refl _ _⟩,?_⟩;rintro n us x wr ⟨j,F',rfl,hj,hS,hT⟩;have zr:=hT.mod.size;have hzw39:=(ug).size;have rA:RdK wr eH 4 (L.map fq):=hT.mod.rdK aE (eZ.ext Jd) λ_ b hb hf=>by have:=(ho.own.lt hb).1;have:=h.lt hf;omega
  have nf:∀{w2:World} {F2:Nat->Prop} {w1:World},Ext wr w1->aG F' F2 w1 w2->∀i,(w.heap.size<=i/\i<iP.heap.size\/wr.heap.size<=i)->i<w1.heap.size->w2.heap[i]? =w1.heap[i]? :=λx1 t2 i h1 h2=>t2.mod.same i h2 λhf=>by
   rcases h1 with ⟨h1,MP⟩|h1
   ·rcases hT.sub i hf with q|q
    ·have:=h.lt q;omega
    ·omega
   ·have:=hS.lt hf;omega
  apply Br.mk<;>intro hb
  ·replace hb:=fj hb;obtain ⟨y,hy⟩:=bh (l:=L) (i:=j) aa;have hy':(L.map fq)[j]? =some (fq y):=by rw [aX,hy];rfl
   have kJ:L.take (j+1)=L.take j++ [y]:=by rw [cu,hy];rfl
   have wk:=lD (j:=j);refine ⟨rA.fN (i:=(j:Int)) aE aa hb,_,_,_,_,rA.bk hy',λAZ Du pZ uG=> ?_⟩;have yL:Ext wr pZ:=(bq Du).ab uG (ax _);have z87:=kC Du uG;refine (mv (hS.ext yL) y (hLw y (bc hy)) ((hk.fold (L.take j)).mono (by rw [bG];omega))).mono ?_;rintro e yI ⟨rfl,F2,uw,qH⟩;refine ⟨rfl,nf yL qH _ (.inl aa) aa,nf yL qH _ (.inl aa) aa,nf yL qH _ (.inr aa) aa,n-1,by omega,rfl,rfl,j+1,F2,wk,by omega,?_,(hT.trans (aG.aM yL)).trans qH⟩;rw [kJ,iY];exact uw
  ·replace hb:=fh hb;rw [dn aa] at hS;rw [hU,if_neg hHf];exact ⟨rfl,F',hS,(aG.aM ug).trans hT⟩
 ·have hHf:¬pB O M c=true:=by
   have:¬ey M.T.2 c=3:=by simpa using hf
   rw [hH,decide_eq_false this];simp
  refine ⟨λn x wr=>∃(j:Nat)(F':Nat->Prop),x=j/\j+n=L.length/\SF F' wr s o t ((L.take j).foldl bw M) occ/\aG F F' iP wr,⟨L.length,rfl,rfl,0,F,rfl,by omega,h.ext ug,aG.refl _ _⟩,?_⟩;rintro n us x wr ⟨j,F',rfl,hj,hS,hT⟩;have zr:=hT.mod.size;have hzw39:=(ug).size;have rA:RdK wr eH 4 (L.map fq):=hT.mod.rdK aE (eZ.ext Jd) λ_ b hb hf=>by have:=(ho.own.lt hb).1;have:=h.lt hf;omega
  have nf:∀{w2:World} {F2:Nat->Prop} {w1:World},Ext wr w1->aG F' F2 w1 w2->∀i,(w.heap.size<=i/\i<iP.heap.size\/wr.heap.size<=i)->i<w1.heap.size->w2.heap[i]? =w1.heap[i]? :=λx1 t2 i h1 h2=>t2.mod.same i h2 λhf=>by
   rcases h1 with ⟨h1,MP⟩|h1
   ·rcases hT.sub i hf with q|q
    ·have:=h.lt q;omega
    ·omega
   ·have:=hS.lt hf;omega
  apply Br.mk<;>intro hb
  ·replace hb:=fj hb;obtain ⟨y,hy⟩:=bh (l:=L) (i:=j) aa;have hy':(L.map fq)[j]? =some (fq y):=by rw [aX,hy];rfl
   have kJ:L.take (j+1)=L.take j++ [y]:=by rw [cu,hy];rfl
   have wk:=lD (j:=j);refine ⟨rA.fN (i:=(j:Int)) aE aa hb,_,_,_,_,rA.bk hy',λAZ Du pZ uG=> ?_⟩;have yL:Ext wr pZ:=(bq Du).ab uG (ax _);have z87:=kC Du uG;refine (mv (hS.ext yL) y (hLw y (bc hy)) ((hk.fold (L.take j)).mono (by rw [bG];omega))).mono ?_;rintro e yI ⟨rfl,F2,uw,qH⟩;refine ⟨rfl,nf yL qH _ (.inl aa) aa,nf yL qH _ (.inl aa) aa,nf yL qH _ (.inr aa) aa,n-1,by omega,rfl,rfl,j+1,F2,wk,by omega,?_,(hT.trans (aG.aM yL)).trans qH⟩;rw [kJ,iY];exact uw
  ·replace hb:=fh hb;rw [dn aa] at hS;rw [hU,if_neg hHf];exact ⟨rfl,F',hS,(aG.aM ug).trans hT⟩
end
end Go.Proofs.YtalpkjfpmdpbiaaGreatDoor
namespace Go.Proofs.YtalpkjfpmdpbiaaGreatDoor
open Go Go.Vc Go.RowKit Go.Proofs Go.dQ Go.bf Go.Code Go.ks Go.jd
set_option maxRecDepth 100000
section
variable {F F':Nat->Prop} {w w':World} {s o t:Nat} {M M':Sm} {occ:Value} {O:Ce->Bool}
def GU(l:List Ce):Prop:=∀y ∈ l,nS y
def Oc.mono(h:Oc occ O F w)(hs:∀i,F' i->F i):Oc occ O F' w:=by obtain ⟨D,h1,h2⟩:=h;exact ⟨D,λi hi=>⟨(h1 i hi).1,λq=>(h1 i hi).2 (hs i q)⟩,h2⟩
def m8.upd{n:Nat}(h:m8 M n)(O:Ce->Bool)(c:Ce):m8 (fU O M c) (n+40):=by
 have h1:=h.l;have h2:=vg M.q c (M.now+1);unfold fU;split
 ·exact ⟨by simp only;omega,by have:=h.c;simp only;omega,h.now,by have:=h.d;simp only;omega⟩
 ·split
  ·have:m8 {M with dR:=M.dR++ [bz c]} (n+1):=⟨by simp only;omega,by have:=h.c;simp only;omega,h.now,by have:=h.d;simp only [eK,List.length_singleton];omega⟩;exact (this.change _).mono aa
  ·have:=HF (ey M.T.2) c;exact (h.fold _).mono aa
def m8.Kj{n:Nat}(O:Ce->Bool):∀{M:Sm} (l:List Ce),m8 M n->m8 (l.foldl (fU O) M) (n+40*l.length)
 |M,[],h=>h
 |M,x::l,h=>(m8.Kj O l (h.upd O x)).mono (by simp only [fR];omega)
def D8{q:QS}{now b:Int}(hb:1<=b/\b<=64):(rK q now b).2.length<=64:=by unfold rK fC;rw [aB,bG];omega
def lu(h:SF F w s o t M occ)(hO:Oc occ O F w)(hd:GU (k7 M))(hk:m8 M 600000)(hb:1<=M.aO/\M.aO<=64):
  ah 15 #[s] w λe w'=>e=Value.int .i64 (k7 M).length/\kS F w s o t (fo O M) occ w':=by
 obtain ⟨g,sd,hr,ho,-,-,aS⟩:=h.row;apply DY.vc;have TJ:=hk.now;have wr:ai (M.now+1)=M.now+1:=wI;have en:(if 1099511627776<M.now+1 then 1099511627776 else M.now+1)=gh M:=by unfold gh;split<;>omega
 obtain ⟨p1,p2⟩:=hr.kE (j:=3) (v:=.int .i64 (gh M)) (by simp [VJ]) rfl;refine ⟨M.now,hr.at 3 rfl,⟨rfl,p1⟩,λw1 e1=> ?_⟩;rw [wr,en] at e1;obtain ⟨q1,q2⟩:=p2 w1 e1;have mz:∀b,sd.bg=some b->b≠s:=λb hb=>by obtain ⟨cs',hr'⟩:=aN ho aE hb;exact hr'.ne hr aE
 obtain ⟨F1,h1,t1⟩:=aS (M':={M with now:=gh M}) (occ':=occ) (sd':=sd) rfl rfl rfl rfl rfl (q2.mono λi _ hi=> .inl hi) q1 (q2.gQ ho mz) (λb hb=> .inl hb);have xd:=Ext.dr w1;have t1d:=t1.trans (aG.aM xd);obtain ⟨g',m,qs,hq,qI,⟨sd',hr'⟩,eG,hresq⟩:=(h1.ext xd).queue;refine ⟨_,hr'.at 0 rfl,_,hr'.at 3 rfl,_,hr'.at 2 rfl,(Q.Se hq qI (gh M) M.aO).mono ?_⟩;rintro e w5 ⟨s6,rfl,qs',rV,hq',ht⟩;obtain ⟨F5,h5,t5⟩:=hresq hq' (qI.due _ _) ht;have h5:SF F5 w5 s o t (iO M) occ:=h5;have T5:=t1d.trans t5;have hO5:=hO.ib T5;have eZ:=rV.rd (show 0<3 by decide);have PE:(k7 M).length<=64:=D8 hb;have eZ:RdK w5 s6 3 ((k7 M).map ef):=eZ;have rV:ak w1.drew.heap.size iE 3 w5 s6 ((k7 M).map ef):=rV;have hk5:m8 (iO M) 600000:=⟨hk.l,hk.c,by show 0<=gh M/\gh M<=_;unfold gh;omega,hk.d⟩;obtain ⟨g1,sd1,r1,-,-,f1,-⟩:=(h1.ext xd).row;have hsq:¬Q.gJ g' m qs s:=hq.cX hr' aE aE;have r5:=ht.mod.row r1 hsq;have hsF:∀b,s6.bg=some b->¬F5 b:=λb hb=>by
  obtain ⟨cs6,hr6⟩:=aN rV aE hb;refine h5.cX hr6 ac4.1 aE aE aE aE aE (λg sd r2 fi=> ?_);have e1:=(r2.at 5 rfl).symm.trans (r5.at 5 rfl);have e2:sd.a=sd1.a:=by injection e1 with e1;injection e1
  have e3:sd.bg=sd1.bg:=by unfold Sl.bg;rw [e2]
  have q1:=h1.lt (f1 b (by rw [<-e3];exact fi));have q2:=(rV.own.lt hb).1;have q3:=lW w1;omega
 unfold fo;generalize k7 M=L at*;generalize iO M=M0 at*;have hn6:=eZ.n;rw [aB] at hn6;refine ⟨s6,rfl,λn x wr=>∃(j:Nat)(F':Nat->Prop),x=j/\j+n=L.length/\SF F' wr s o t ((L.take j).foldl (fU O) M0) occ/\aG F5 F' w5 wr,⟨L.length,0,F5,rfl,by omega,h5,aG.refl _ _⟩,?_⟩;rintro n us x UR ⟨j,F',rfl,hj,hS,hT⟩;have zr:=hT.mod.size;have rA:RdK UR s6 3 (L.map ef):=hT.mod.rdK aE eZ λ_ b hb hf=>hsF b hb hf
 apply Br.mk<;>intro hb
 ·replace hb:=fj hb;obtain ⟨y,hy⟩:=bh (l:=L) (i:=j) aa;have hy':(L.map ef)[j]? =some (ef y):=by rw [aX,hy];rfl
  have kJ:L.take (j+1)=L.take j++ [y]:=by rw [cu,hy];rfl
  have wk:=lD (j:=j);have q7:=hd y (bc hy);refine ⟨rA.fN (i:=(j:Int)) aE aa hb,_,_,_,rA.bk hy',λdy yH cC pX=> ?_⟩;have cP:Ext UR cC:=(bq yH).ab pX (ax _);have z17:=kC yH pX;refine (HG (hS.ext cP) ((hO5.ib hT).ext cP) y q7 ((hk5.Kj O (L.take j)).mono (by rw [bG];omega))).mono ?_;rintro e dJ ⟨rfl,F2,uw,qH⟩;refine ⟨rfl,qH.mod.same _ aa (λhf=>by have:=hS.lt hf;omega),n-1,by omega,j+1,F2,wk,by omega,?_,(hT.trans (aG.aM cP)).trans qH⟩;rw [kJ,iY];exact uw
 ·replace hb:=fh hb;rw [dn aa] at hS;exact ⟨by rw [hn6],F',hS,T5.trans hT⟩
end
end Go.Proofs.YtalpkjfpmdpbiaaGreatDoor
