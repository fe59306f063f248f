import Derived.Test.YtkkkfkopcfdmaaaGreatDoorJ
import Derived.Test.YtkkkfkopcfdmaaaGreatDoorI
import Derived.Test.YtkkkfkopcfdmaaaGreatDoorC
set_option linter.all false
namespace Go.Proofs.YtkkkfkopcfdmaaaGreatDoor
open Go Go.Vc Go.RowKit Go.Proofs Go.cZ Go.aT Go.Code Go.fh Go.eH Go.gr
set_option maxRecDepth 100000
def amQ(ak:Int):ju (l9 ak 9):=by unfold ju l9;rw [kS];show (uA.map id).Nodup;decide
def amR{K:Nat->Prop}{w0 w:World}{a:Ad}{Me Mm:Sm}{Le:List (Option dS)}{rows:List iE}(h:qP K w0 w a Me Le Mm rows):lu Me.T.2:=by obtain ⟨F,occ,hE,-⟩:=h.e;obtain ⟨Fs,QY,-,-,-⟩:=hE.ud;obtain ⟨Fw,hW,-,-⟩:=QY.world;exact hW.aeQ
section
variable {V V':Ce->Int} {b:ee} {m r:Int}
def Tw(h:okB m b)(hm:m<=99970000000000):Rgt b.box (m+1000000) b.box.1.1 (b.aD.1+500000)/\b.box.1.1<=b.aD.1:=by
 have hn:=h.nV hm;obtain ⟨h1,h2,-⟩:=h;have e1:b.box.1.1=jV b.aD.1 (max b.wd 0 / 2):=rfl;have e2:b.box.2.1=fK b.aD.1 (max b.wd 0 / 2):=rfl;have hf:=h1.1;have hs:b.box.1.1<=b.aD.1:=by rw [e1];unfold jV cT;omega
 refine ⟨⟨hn,oP _,?_,by omega⟩,hs⟩;rw [e2];unfold fK cT;omega
def ahH{aD d:Ce}{m:Int}(h:hZ aD m)(hm:m<=70368744177664):(m8 aD d).1<=max d.1 0:=by have e:(m8 aD d).1=jV (uS (fK aD.1 d.1)) aD.1:=rfl;have hf:=h.1;rw [e];unfold uS jV fK cT;omega
def ab1{b:ee}{c:Ce}{m n k:Int}(hf:hZ b.aD m)(hb:hZ b.box.1 n)(hc:hZ c n)(hm:m<=100000000000000)(hn:n<=130000000000000)(h:c.1<=b.box.1.1+k)(hk:0<=k):(jW b.aD (xK c b.box.1)).1<=b.aD.1+k:=by have e:(jW b.aD (xK c b.box.1)).1=fK b.aD.1 (jV c.1 b.box.1.1):=rfl;have h1:=hf.1;have h2:=hb.1;have h3:=hc.1;rw [e];unfold fK jV cT;omega
def ab2(h:KW V V')(hb:okB m b)(hm:m<=70000000000000){s:Int}(hs:max b.speed.1 0<=s)(hr:b.aD.1+500000+s<3145728):Ab V b=Ab V' b/\(Ab V b).aD.1<=b.aD.1+s:=by
 obtain ⟨k1,k2⟩:=Tw hb ab;have w:=ahH (d:=b.speed) hb.1 ab;obtain ⟨e,q⟩:=ab3 (p:=aG) h (d:=m8 b.aD b.speed) (up:=32768) k1 ab ab;have u:=qe (p:=aG) h (zp (b:=(iU V aG b.box (m8 b.aD b.speed) 32768).1) (by have:=q.2;omega));refine ⟨?_,?_⟩
 ·unfold Ab;simp only;rw [<-e,<-u]
 ·have hn:=(hb.nV ab).up (show m+1000000<=m+1000000+16777216 by omega);exact ab1 hb.1 hn.lo q.1.lo ab ab (by have:=q.2.1;omega) ab
def ab4(h:KW V V')(hb:okB m b)(hm:m<=70000000000000)(hr:b.aD.1+500000<3145728)(i:El):jF V b i=jF V' b i/\(jF V b i).aD=b.aD/\(jF V b i).speed.1=b.speed.1:=by
 obtain ⟨k1,k2⟩:=Tw hb ab;have hl:b.box.1.1<3145728/\b.box.2.1<3145728:=by have:=k1.2;omega
 have a1:=qe (p:=λx=>x==4) h (zo hl);have a2:=qe (p:=rq) h (zo hl);have a3:=qe (p:=aG) h (zp hl);refine ⟨?_,?_⟩
 ·unfold jF;rw [a1,a2,a3]
 ·unfold jF;split
  ·exact ⟨rfl,rfl⟩
  ·split<;>exact ⟨rfl,rfl⟩
def VZ(h:KW V V')(hb:okB m b)(hm:m<=70000000000000)(hr:b.aD.1+600000<3145728)(i:El):oU V b i=oU V' b i/\(oU V b i).aD.1<=b.aD.1+16384:=by
 have hw:okB m (mF b i):=hb;obtain ⟨e1,e2,e3⟩:=ab4 (b:=mF b i) h hw hm (by show b.aD.1+500000<_;omega) i;have hf:(jF V (mF b i) i).aD.1=b.aD.1:=by rw [e2];rfl
 have hx:(jF V (mF b i) i).speed.1=zL i.1:=by rw [e3];rfl
 have hk:zL i.1<=16384:=by unfold zL;omega
 obtain ⟨g1,g2⟩:=ab2 (b:=jF V (mF b i) i) (s:=16384) h (UX hw) hm (by rw [hx];omega) (by rw [hf];omega);rw [hf] at g2;exact ⟨by unfold oU;rw [<-e1,g1],g2⟩
def Kk(h:KW V V')(hb:okB m b)(hm:m<=70000000000000){d:Ce}(hd:d.1<=4096)(hr:b.aD.1+600000<3145728):iZ V b d=iZ V' b d/\(iZ V b d).aD.1<=b.aD.1+4096:=by
 obtain ⟨k1,k2⟩:=Tw hb ab;have w:=ahH (d:=d) hb.1 ab;obtain ⟨e,q⟩:=PV (p:=aG) h (d:=m8 b.aD d) k1 ab ab;refine ⟨?_,?_⟩
 ·unfold iZ;rw [<-e]
 ·have hn:=(hb.nV ab).up (show m+1000000<=m+1000000+12582912 by omega);exact ab1 hb.1 hn.lo q.1.lo ab ab (by have:=q.2.1;omega) ab
def ajL{a b:ee}{m:Int}(ha:okB m a)(hb:okB m b)(hm:m<=99970000000000):(ia a b).1.1<=4096/\(ia a b).2.1<=4096:=by
 have na:=ha.nV hm;have nb:=hb.nV hm;have side:∀{c:ee},okB m c->dA c.box.1 (Df a b)<=dA c.box.2 (Df a b):=λ{c} hc=>by
  have e1:c.box.1.1=jV c.aD.1 (max c.wd 0 / 2):=rfl;have e2:c.box.2.1=fK c.aD.1 (max c.wd 0 / 2):=rfl;have e3:c.box.1.2.2=jV c.aD.2.2 (max c.wd 0 / 2):=rfl;have e4:c.box.2.2.2=fK c.aD.2.2 (max c.wd 0 / 2):=rfl;obtain ⟨⟨f1,f2,f3⟩,w,-⟩:=hc;unfold Df;split
  ·show c.box.1.2.2<=c.box.2.2.2;rw [e3,e4];unfold jV fK cT;omega
  ·show c.box.1.1<=c.box.2.1;rw [e1,e2];unfold jV fK cT;omega
 have sa:=side ha;have sb:=side hb;unfold ia;split
 ·rename_i ho;unfold jc ovK at ho;simp only [fk,cN] at ho;have hov:dA a.box.1 (Df a b)<dA b.box.2 (Df a b)/\dA b.box.1 (Df a b)<dA a.box.2 (Df a b):=by
   unfold Df;split
   ·exact ho.2
   ·exact ho.1.1
  have xa:=na.ax (by have:=na.lo.1;omega) (Df a b);have xb:=nb.ax (by have:=nb.lo.1;omega) (Df a b);have hN:0<=GP a.box b.box (Df a b):=by unfold GP;rw [aK (by unfold bN;split<;>split<;>omega)];split<;>split<;>omega
  have hP:0<=nP a b/\nP a b<=4096:=by unfold nP;split<;>omega
  have hS: -4096<=sP a b/\sP a b<=4096:=by
   unfold sP;split
   ·rw [wI];omega
   ·omega
  have e:∀n:Int,-4096<=n/\n<=4096->(fB (0,0,0) (Df a b) n).1<=4096:=λn hn=>(Bs (ax:=Df a b) hn aF).1.2
  exact ⟨e _ hS,e _ (by rw [wI];omega)⟩
 ·exact ⟨by show (0:Int)<=_;decide,by show (0:Int)<=_;decide⟩
end
abbrev Bg(m r:Int)(l:List ee):Prop:=∀b ∈ l,okB m b/\b.aD.1<=r
section
variable {V V':Ce->Int} {m r:Int} {l:List ee}
def Bg.up(h:Bg m r l){m' r':Int}(hm:m<=m')(hr:r<=r'):Bg m' r' l:=λb hb=>⟨(h b hb).1.up hm,Int.le_trans (h b hb).2 hr⟩
def acv(h:KW V V')(hl:Bg m r l)(hm:m<=69000000000000)(hr:r+600000<3145728)(i k:Nat):qh V i k l=qh V' i k l/\Bg (m+12582912) (r+4096) (qh V i k l)/\(qh V i k l).length=l.length:=by
 unfold qh
 cases ha:l[i]? with
 |none=>exact ⟨rfl,hl.up ab ab,rfl⟩
 |some a=>
  cases hb:l[k]? with
  |none=>exact ⟨rfl,hl.up ab ab,rfl⟩
  |some b=>
   obtain ⟨a1,a2⟩:=hl a (aX ha);obtain ⟨b1,b2⟩:=hl b (aX hb);obtain ⟨p1,p2⟩:=ajL a1 b1 ab;obtain ⟨e1,f1⟩:=Kk h a1 ab p1 ab;obtain ⟨e2,f2⟩:=Kk h b1 ab p2 ab;simp only;refine ⟨by rw [<-e1,<-e2],λx hx=> ?_,by rw [gW,gW]⟩;rcases hX hx with hx|rfl
   ·rcases hX hx with hx|rfl
    ·exact ⟨(hl x hx).1.up ab,by have:=(hl x hx).2;omega⟩
    ·exact ⟨rE a1 ab,by omega⟩
   ·exact ⟨rE b1 ab,by omega⟩
def Vo(h:KW V V')(i:Nat):∀(n k:Nat) {l:List ee} {m r:Int},Bg m r l->m+n*12582912<=69000000000000->r+n*4096+600000<3145728->vW V i k n l=vW V' i k n l/\Bg (m+n*12582912) (r+n*4096) (vW V i k n l)/\(vW V i k n l).length=l.length
 |0,k,l,m,r,hl,hm,hr=>⟨rfl,hl.up ab ab,rfl⟩
 |n+1,k,l,m,r,hl,hm,hr=>by
  obtain ⟨e,q,z⟩:=acv h hl ab ab i k
  obtain ⟨e',q',z'⟩:=Vo h i n (k+1) q ab ab
  unfold vW
  rw [<-e]
  exact ⟨e',q'.up ab ab,z'.trans z⟩
def acw(h:KW V V'):∀(n i:Nat) {l:List ee} {m r:Int},l.length<=16->Bg m r l->m+n*(16*12582912)<=69000000000000->r+n*(16*4096)+600000<3145728->W7 V i n l=W7 V' i n l/\Bg (m+n*(16*12582912)) (r+n*(16*4096)) (W7 V i n l)
 |0,i,l,m,r,hz,hl,hm,hr=>⟨rfl,hl.up ab ab⟩
 |n+1,i,l,m,r,hz,hl,hm,hr=>by
  obtain ⟨e,q,z⟩:=Vo h i (l.length-(i+1)) (i+1) hl ab ab
  have q16:Bg (m+16*12582912) (r+16*4096) (vW V i (i+1) (l.length-(i+1)) l):=q.up ab ab
  obtain ⟨e',q'⟩:=acw h n (i+1) (by rw [z];exact hz) q16 ab ab
  unfold W7
  rw [<-e]
  exact ⟨e',q'.up ab ab⟩
def V2(h:KW V V')(hz:l.length<=16)(hl:Bg m r l)(hm:m<=68000000000000)(hr:r<=1064960):lJ V l=lJ V' l/\Bg (m+3300000000) (r+1048576) (lJ V l):=by obtain ⟨e,q⟩:=acw h l.length 0 hz hl ab ab;exact ⟨e,q.up ab ab⟩
end
def fif:List Po:=[-1,0,1,3,4].flatMap λx=> [-1,0,1].map λz=>(x,z)
def am0{p:Po}(h:p ∈ fif):p.1<=1\/p.1=3\/p.1=4:=by
 have:∀p ∈ fif,p.1<=1\/p.1=3\/p.1=4:=by decide
 exact this p h
structure nE(l l':List En):Prop where
 n:ju l
 n':ju l'
 g:lu l
 g':lu l'
 h:∀p:Po,p.1<=2->(je l p ↔ je l' p)
 f:∀p:Po,je l p->p.1<=1
 f':∀p:Po,je l' p->p ∈ fif
 v:KW (fj l) (fj l')
def Qg(l:List En)(c:Ce)(b:Int):(je l (pos c)->(eM l c b).2=if ¬Bi c then 5 else if cK b=false then 1 else 0)/\(¬je l (pos c)->(eM l c b).2=11):=by
 unfold eM;rcases dD (λe:En=>e.1==pos c) l with ⟨hf,mO⟩|⟨k,e,hk,hek,hf,-⟩
 ·rw [hf,if_pos aF];refine ⟨λ⟨e,he,hp⟩=> ?_,λ_=>rfl⟩;have:=mO e he;rw [hp] at this;simp at this
 ·rw [hf,if_neg ab];refine ⟨λ_=> ?_,λhn=>absurd ⟨e,aX hk,by simpa using hek⟩ hn⟩;split
  ·rfl
  ·split<;>rfl
section
variable {l l':List En} {c:Ce} {b:Int}
def nE.at(h:nE l l')(hc:c.1<48):je l (pos c) ↔ je l' (pos c):=h.h _ (by show c.1 / 16<=2;omega)
def UC(h:nE l l')(hc:c.1<48):(eM l' c b).2=(eM l c b).2/\nE (eM l c b).1 (eM l' c b).1:=by
 have hp:=h.at hc;obtain ⟨a1,a2⟩:=Qg l c b;obtain ⟨b1,b2⟩:=Qg l' c b;by_cases hh:je l (pos c)
 ·have hh':=hp.1 hh;refine ⟨(b1 hh').trans (a1 hh).symm,?_⟩;by_cases hy:Bi c
  ·by_cases hb:cK b=true
   ·obtain ⟨-,s2,s3,s4⟩:=Qd h.n h.g hh hy hb;obtain ⟨-,t2,t3,t4⟩:=Qd h.n' h.g' hh' hy hb;exact ⟨s2,t2,N0 h.g c b,N0 h.g' c b,λp q=>(s3 p).trans ((h.h p q).trans (t3 p).symm),λp q=>h.f p ((s3 p).1 q),λp q=>h.f' p ((t3 p).1 q),λx hx=>by rw [s4,t4,h.v x hx]⟩
   ·rw [(vG λq=>hb q.2.2).1,(vG λq=>hb q.2.2).1];exact h
  ·rw [(vG λq=>hy q.2.1).1,(vG λq=>hy q.2.1).1];exact h
 ·have hh':¬je l' (pos c):=λq=>hh (hp.2 q)
  refine ⟨(b2 hh').trans (a2 hh).symm,?_⟩;rw [(vG λq=>hh q.1).1,(vG λq=>hh' q.1).1];exact h
def rM(l:List En)(c:Ce):mZ l c=true ↔ ∀q ∈ jl (pos c),je l q:=by
 unfold mZ;rw [CG];refine forall_congr' λq=>forall_congr' λ_=> ?_
 rw [cN];exact aW
def Eo(h:∀p:Po,je l p->p.1<=1\/p.1=3\/p.1=4)(hr:mZ l c=true):c.1<16:=by have hr:=(rM l c).1 hr;have h0:=h _ (hr (pos c) (by unfold jl;simp));have h1:=h _ (hr ((pos c).1-1,(pos c).2) (by unfold jl;simp));have h2:=h _ (hr ((pos c).1+1,(pos c).2) (by unfold jl;simp));have e:(pos c).1=c.1 / 16:=rfl;rw [e] at h0 h1 h2;simp only at h1 h2;omega
def Bf(h:nE l l')(c:Ce):mZ l' c=mZ l c:=by
 rw [Bool.eq_iff_iff];have nV:c.1<16->∀q ∈ jl (pos c),q.1<=2:=λhc q hq=>by have e:(pos c).1=c.1 / 16:=rfl;unfold jl at hq;simp only [cB,iJ,or_false] at hq;rcases hq with rfl|rfl|rfl|rfl|rfl<;>first|omega|(simp only;omega)
 refine ⟨λhr=> ?_,λhr=> ?_⟩
 ·have hc:=Eo (λp q=>am0 (h.f' p q)) hr;exact (rM l c).2 λq hq=>(h.h q (nV hc q hq)).2 ((rM l' c).1 hr q hq)
 ·have hc:=Eo (λp q=> .inl (h.f p q)) hr;exact (rM l' c).2 λq hq=>(h.h q (nV hc q hq)).1 ((rM l c).1 hr q hq)
end
def Ca{α β:Type}{f g:β->α->β}:∀(l:List α)(b:β),(∀x ∈ l,∀b,f b x=g b x)->l.foldl f b=l.foldl g b
 | [],_,_=>rfl
 |x::l,b,h=>by rw [nJ,nJ,h x (.head _),Ca l _ λy hy=>h y (.tail _ hy)]
section
variable {V V':Ce->Int} {c:Ce}
def TI{n:Ce}(h:n ∈ cS c):n.1<=c.1+1:=by unfold cS at h;simp only [cB,iJ,or_false] at h;rcases h with rfl|rfl|rfl|rfl<;>simp only<;>omega
def amu{n:Ce}(h:n ∈ c::nX c):n.1<=c.1+1:=by unfold nX eY xg at h;simp only [cB,iJ,or_false] at h;rcases h with rfl|rfl|rfl|rfl|rfl|rfl|rfl<;>first|omega|(simp only;omega)
def Yx(h:KW V V'){l:List Ce}(hl:∀n ∈ l,n.1<48):xD V l=xD V' l:=by unfold xD;exact Ca _ _ λx hx b=>by rw [h x (hl x hx)]
def Yy(h:KW V V')(hc:c.1<47):fR V c=fR V' c:=by unfold fR;rw [h (xg c) (by show c.1<48;omega),Yx h λn hn=>by have:=TI hn;omega]
def acu(h:KW V V')(hc:c.1<47):Go.eH.gd V c=Go.eH.gd V' c:=by
 have hs:(cS c).filter (λn=>decide (V n=0))=(cS c).filter λn=>decide (V' n=0):=List.filter_congr λn hn=>by rw [h n (by have:=TI hn;omega)]
 unfold Go.eH.gd GY kX;rw [h c ab,h (eY c) (by show c.1<48;omega),Yy h hc,hs]
def ajQ{x:Go.eH.Cg}(hx:x ∈ Go.eH.gd V c):x.1.1<=c.1+1:=by
 have lw:(eY c).1=c.1:=rfl;unfold Go.eH.gd GY kX at hx
 repeat' split at hx
 all_goals first
  |(obtain ⟨n,hn,rfl⟩:=List.mem_map.1 hx;exact TI (List.mem_filter.1 hn).1)
  |(simp only [List.mem_cons,List.not_mem_nil,or_false] at hx;rcases hx with rfl|rfl<;>simp only<;>omega)
  |(simp only [List.mem_cons,List.not_mem_nil,or_false] at hx;subst hx;simp only;omega)
  |cases hx
def Yz(h:KW V V')(now:Int)(q:QS)(hc:c.1<47):tz V now q c=tz V' now q c:=by
 have hn:∀n ∈ c::nX c,V n=V' n:=λn hn=>h n (by have:=amu hn;omega)
 have e:oW V c=oW V' c:=List.filter_congr λn q=>by rw [hn n q]
 unfold tz;rw [e];exact Ca _ _ λx hx b=>by rw [hn x (iI.1 hx).1]
end
def wT(M:Sm)(k:Int)(T:Tb):Sm:={M with cap:=k,T:=T}
section
variable {M:Sm} {k:Int} {T:Tb} {c:Ce} {b:Int}
def M9(h:nE M.T.2 T.2)(hc:c.1<47):tw (wT M k T) c b=wT (tw M c b) k (T.1,(eM T.2 c b).1)/\nE (tw M c b).T.2 (eM T.2 c b).1:=by obtain ⟨e,t⟩:=UC (b:=b) h (show c.1<48 by omega);refine ⟨?_,t⟩;have ea:=h.v c ab;show Sm.mk _ _ _ (Ux T.2 M.ch c b) (if (eM T.2 c b).2=0 then tz (fj (eM T.2 c b).1) M.now M.q c else M.q) _ _ _=Sm.mk _ _ _ (Ux M.T.2 M.ch c b) (if (eM M.T.2 c b).2=0 then tz (fj (eM M.T.2 c b).1) M.now M.q c else M.q) _ _ _;unfold Ux;rw [e,<-ea,Yz t.v _ _ hc];rfl
def Hd(h:nE M.T.2 T.2){x:Go.eH.Cg}(hc:x.1.1<47):∃T',cY (wT M k T) x=wT (cY M x) k T'/\nE (cY M x).T.2 T'.2:=by
 have ea:fj (wT M k T).T.2 x.1=fj M.T.2 x.1:=(h.v x.1 ab).symm;unfold cY;rw [ea];split
 ·exact ⟨T,rfl,h⟩
 ·obtain ⟨e,t⟩:=M9 (k:=k) (b:=x.2) h hc;exact ⟨_,e,t⟩
def Dn:∀(l:List Go.eH.Cg) {M:Sm} {T:Tb},nE M.T.2 T.2->(∀x ∈ l,x.1.1<47)->∃T',l.foldl cY (wT M k T)=wT (l.foldl cY M) k T'/\nE (l.foldl cY M).T.2 T'.2
 | [],M,T,h,_=>⟨T,rfl,h⟩
 |x::l,M,T,h,hl=>by
  obtain ⟨T',e,t⟩:=Hd (k:=k) h (hl x (.head _))
  rw [nJ,nJ,e]
  exact Dn l t λy hy=>hl y (.tail _ hy)
def af3(O:Ce->Bool)(h:nE M.T.2 T.2)(c:Ce):∃T',mD O (wT M k T) c=wT (mD O M c) k T'/\nE (mD O M c).T.2 T'.2:=by
 have er:mZ (wT M k T).T.2 c=mZ M.T.2 c:=Bf h c;unfold mD;rw [er];split
 ·exact ⟨T,rfl,h⟩
 ·rename_i hr;have hc:c.1<16:=Eo (λp q=> .inl (h.f p q)) (by simpa using hr);have en:Go.eH.gd (fj (wT M k T).T.2) c=Go.eH.gd (fj M.T.2) c:=(acu h.v ab).symm;have eh:wW O (wT M k T) c=wW O M c:=by unfold wW;rw [en,show fj (wT M k T).T.2 c=fj M.T.2 c from (h.v c ab).symm]
  rw [eh,en];split
  ·exact Hd (M:={M with kC:=M.kC++ [eY c]}) (k:=k) (x:=(c,0)) h (by show c.1<47;omega)
  ·exact Dn _ h λx hx=>by have:=ajQ hx;omega
def Qe(O:Ce->Bool):∀(l:List Ce) {M:Sm} {T:Tb},nE M.T.2 T.2->∃T',l.foldl (mD O) (wT M k T)=wT (l.foldl (mD O) M) k T'/\nE (l.foldl (mD O) M).T.2 T'.2
 | [],M,T,h=>⟨T,rfl,h⟩
 |x::l,M,T,h=>by
  obtain ⟨T',e,t⟩:=af3 (k:=k) O h x
  rw [nJ,nJ,e]
  exact Qe O l t
def V6(O:Ce->Bool)(h:nE M.T.2 T.2):∃T',C6 O (wT M k T)=wT (C6 O M) k T'/\nE (C6 O M).T.2 T'.2:=Qe (M:=BG M) O (qR M) h
end
def Rl(L:List (Option dS)):Prop:=∀y,some y ∈ L->y.1.aD.1<=2113536
section
variable {V V':Ce->Int} {M:Sm} {k:Int} {T:Tb} {L:List (Option dS)} {m:Int}
def aeW(h:nE M.T.2 T.2)(L:List (Option dS)):ey (wT M k T) L=ey M L:=by
 unfold ey;refine List.filter_congr λi _=> ?_
 unfold kz
 cases cj L i with
 |none=>rfl
 |some y=>exact Bf h _
def UB(h:nE M.T.2 T.2){b:ee}(ha:kT M b=true):b.aD.1<1048576:=by have:=Eo (λp q=> .inl (h.f p q)) ha;have e:(bq b.aD).1=cc b.aD.1:=rfl;rw [e] at this;unfold cc cT at this;omega
def Rz(h:nE M.T.2 T.2)(hL:q9 m L)(hm:m<=60000000000000)(hR:Rl L):jm (wT M k T) L=jm M L/\Rl (jm M L):=by
 have ew:=aeW (k:=k) h L;have st:∀i ∈ ey M L,gP M L i=gP (wT M k T) L i/\(gP M L i).aD.1<=1064960:=λi hi=>by obtain ⟨-,y,hy⟩:=re hi;have ha:kz M L i=true:=(iI.1 hi).2;unfold kz at ha;rw [hy] at ha;have hx:=UB h ha;unfold gP;rw [hy];obtain ⟨e,f⟩:=VZ h.v (hL y (oF hy)) ab ab y.2;exact ⟨e,by simp only;omega⟩
 have em:(ey M L).map (gP M L)=(ey M L).map (gP (wT M k T) L):=wG λi hi=>(st i hi).1
 have ho:Bg (m+16777216) 1064960 ((ey M L).map (gP M L)):=λb hb=>⟨zi hL ab b hb,by
  obtain ⟨i,hi,rfl⟩:=aW.1 hb;exact (st i hi).2⟩
 obtain ⟨ec,oc⟩:=V2 h.v (by rw [aN];exact Ep M L) ho ab (oP _);refine ⟨?_,λy hy=> ?_⟩
 ·unfold jm qx;rw [ew,<-em];show wL L ((ey M L).zip (lJ (fj T.2) _))=_;rw [<-ec]
 ·rcases M6 _ hy with q|⟨x,hx,e⟩
  ·exact hR y q
  ·rw [e];exact (oc x.2 (List.of_mem_zip hx).2).2
def aad(h:KW V V'){f d:Ce}(hf:(bq (eI f)).1<43):fZ V f d 5=fZ V' f d 5:=by
 have nV:∀x ∈ kq (eI f) (jU d) (lp 5),x.1.1<48:=λx hx=>by have:=(xC (f:=f) (d:=d) (r:=5) (by rw [V3];decide) x hx).1.1;omega
 unfold fZ;rw [Fk (g:=λh:Hi=> !j8 (V' h.1)) λx hx=>by rw [h x.1 (nV x hx)]]
 cases hq:(kq (eI f) (jU d) (lp 5)).find? λh:Hi=> !j8 (V' h.1) with
 |none=>rfl
 |some x=>
  simp only;rw [h x.1 (nV x (Ju hq))]
def ahl(hR:Rl L){y:dS}(hy:some y ∈ L):(bq (eI (iS y.1))).1<33:=by have:=hR y hy;have e:(bq (eI (iS y.1))).1=cc (cT (fK y.1.aD.1 0)):=rfl;rw [e];unfold cc fK cT;omega
def M7(h:nE M.T.2 T.2)(hR:Rl L)(n:Int)(c9:Ce):cr (wT M k T) L n c9=cr M L n c9:=by
 unfold cr
 cases hq:cj L n with
 |none=>rfl
 |some y=>
  have hx:=ahl hR (M8 hq);have e:fZ (fj (wT M k T).T.2) (iS y.1) c9 5=fZ (fj M.T.2) (iS y.1) c9 5:=(aad h.v ab).symm;simp only [e]
def aae(hR:Rl L){n:Int}{c9:Ce}(e:(cr M L n c9).2=0):(cr M L n c9).1.1.1<38/\(zk (cr M L n c9).1).1.1<39:=by
 obtain ⟨y,h1,h2,h3,-⟩:=Fl e;have hn:=(Fo (by rw [V3];decide) h3).1;have hx:=ahl hR h2;generalize (cr M L n c9).1=hh at*;refine ⟨by omega,?_⟩;unfold zk;split
 ·rename_i q;have hm:(nX hh.1).getD hh.2.2.1.toNat (0,0,0) ∈ hh.1::nX hh.1:=by
   have hl:hh.2.2.1.toNat<(nX hh.1).length:=by show _<6;omega
   rw [dZ,dm hl];exact .tail _ (List.getElem_mem hl)
  have:=amu hm;show ((nX hh.1).getD hh.2.2.1.toNat (0,0,0)).1<39;omega
 ·show (0:Int)<39;decide
def Bh(h:nE M.T.2 T.2){c:Ce}(hc:c.1<47)(L:List (Option dS))(b:Int):∃T',dT (wT M k T) L c b=((dT M L c b).1,wT (dT M L c b).2 k T')/\nE (dT M L c b).2.T.2 T'.2:=by
 unfold dT;split
 ·exact ⟨T,rfl,h⟩
 ·obtain ⟨e,t⟩:=M9 (k:=k) (b:=b) h hc;have ec:(eM (wT M k T).T.2 c b).2=(eM M.T.2 c b).2:=(UC (b:=b) h (show c.1<48 by omega)).1;exact ⟨_,by rw [e,ec],t⟩
def V4(h:nE M.T.2 T.2)(hR:Rl L)(n:Int)(c9:Ce)(b:Int):∃T',iK (wT M k T) L n c9 b=((iK M L n c9 b).1,wT (iK M L n c9 b).2 k T')/\nE (iK M L n c9 b).2.T.2 T'.2:=by
 unfold iK;rw [M7 h hR];split
 ·exact ⟨T,rfl,h⟩
 split
 ·exact ⟨T,rfl,h⟩
 split
 ·exact ⟨T,rfl,h⟩
 split
 ·exact ⟨T,rfl,h⟩
 rename_i q;split
 ·exact ⟨T,rfl,h⟩
 ·exact Bh h (by have:=(aae hR (by simpa using q)).2;omega) L b
def V5(h:nE M.T.2 T.2)(hR:Rl L)(n:Int)(c9:Ce):∃T',gN (wT M k T) L n c9=((gN M L n c9).1,wT (gN M L n c9).2 k T')/\nE (gN M L n c9).2.T.2 T'.2:=by
 unfold gN;rw [M7 h hR];split
 ·exact ⟨T,rfl,h⟩
 rename_i q;obtain ⟨T',e,t⟩:=Bh (k:=k) (c:=(cr M L n c9).1.1) h (by have:=(aae hR (by simpa using q)).1;omega) L 0;rw [e];refine ⟨T',?_,?_⟩
 ·split<;>rfl
 ·split<;>exact t
def aaf(h:nE M.T.2 T.2)(hL:q9 m L)(hm:m<=60000000000000)(hR:Rl L):∃T',kL (wT M k T) L=(wT (kL M L).1 k T',(kL M L).2)/\nE (kL M L).1.T.2 T'.2/\Rl (kL M L).2:=by obtain ⟨e,r⟩:=Rz (k:=k) h hL hm hR;obtain ⟨T',e',t⟩:=V6 (k:=k) (rf (jm M L)) h;refine ⟨T',?_,t,r⟩;unfold kL;rw [e,e']
def V7(h:nE M.T.2 T.2)(hR:Rl L)(b:ee):cR (wT M k T) L b=cR M L b/\Rl (cR M L b).2.2:=by
 have ea:kT (wT M k T) b=kT M b:=Bf h _;unfold cR;rw [ea];split
 ·exact ⟨rfl,hR⟩
 rename_i agh;split
 ·exact ⟨rfl,hR⟩
 split
 ·exact ⟨rfl,hR⟩
 rename_i haw;have hx:=UB h (b:=b) (by simpa using haw);have hw:b.wd<=131072:=by
  have:b.may=true:=by simpa using agh
  unfold ee.may at this;simp only [fk,cN] at this;exact this.2.1
 have e1:b.box.1.1=jV b.aD.1 (max b.wd 0 / 2):=rfl;have e2:b.box.2.1=fK b.aD.1 (max b.wd 0 / 2):=rfl;have hl:b.box.1.1<3145728/\b.box.2.1<3145728:=by rw [e1,e2];unfold fK jV cT;omega
 have u1:g8 (fj (wT M k T).T.2) b.box aG=g8 (fj M.T.2) b.box aG:=(qe h.v (zo hl)).symm;have u2:g8 (fj (wT M k T).T.2) (gz b.box) aG=g8 (fj M.T.2) (gz b.box) aG:=(qe h.v (zp hl)).symm;rw [u1,u2];refine ⟨rfl,?_⟩;split
 ·exact hR
 ·intro y hy;rcases hX hy with q|q
  ·exact hR y q
  ·cases q
   show b.aD.1<=_;omega
end
def On(M:Sm)(L:List (Option dS))(d:Dr):Sm × List (Option dS):=
 if d.kind=3 then (M,(cR M L (JK d)).2.2)
 else if d.kind=4 then (M,(nu L (ix d) d.pQ).2)
 else if d.kind=5 then ((iK M L (ix d) d.c9 (tO d.b)).2,L)
 else if d.kind=6 then ((gN M L (ix d) d.c9).2,L)
 else if d.kind=7 then ((dT M L (iL d.c) (tO d.b)).2,L)
 else if d.kind=8 then (M,(nv L (ix d)).2)
 else if d.kind=10 then (M,L)
 else kL M L
section
variable {M:Sm} {k:Int} {T:Tb} {rows:List iE} {m:Int}
def afh{L:List (Option dS)}(h:Rl L)(i:Int)(pQ:El):Rl (nu L i pQ).2:=by
 unfold nu;split
 ·exact h
 ·rename_i y hy;intro z hz;rcases hX hz with q|q
  ·exact h z q
  ·cases q
   exact h y (M8 hy)
def afi{L:List (Option dS)}(h:Rl L)(i:Int):Rl (nv L i).2:=by
 unfold nv;split
 ·exact h
 ·intro z hz;rcases hX hz with q|q
  ·exact h z q
  ·cases q
def afj(h:nE M.T.2 T.2)(hL:q9 m (rows.map ai))(hm:m<=60000000000000)(hR:Rl (rows.map ai))(d:Dr)(h0:d.kind≠0)(h1:d.kind≠1)(h2:d.kind≠2)(h9:d.kind≠9):
  ∃T',On (wT M k T) (rows.map ai) d=(wT (vN M rows d).1 k T',(vN M rows d).2.map ai)/\nE (vN M rows d).1.T.2 T'.2/\Rl ((vN M rows d).2.map ai):=by
 have hix:0<=ix d:=by show 0<=cm d.n 4;exact (bM d.n 4 aF).1
 unfold vN On;rw [if_neg h0,if_neg h1,if_neg h2];split
 ·obtain ⟨e,r⟩:=V7 (k:=k) h hR (JK d);exact ⟨T,by rw [e];simp only [pP],h,by rw [pP];exact r⟩
 split
 ·exact ⟨T,by simp only [rZ (rows:=rows) (ix d) hix d.pQ],h,by rw [rZ _ hix];exact afh hR _ _⟩
 split
 ·obtain ⟨T',e,t⟩:=V4 (k:=k) h hR (ix d) d.c9 (tO d.b);exact ⟨T',by rw [e],t,hR⟩
 split
 ·obtain ⟨T',e,t⟩:=V5 (k:=k) h hR (ix d) d.c9;exact ⟨T',by rw [e],t,hR⟩
 split
 ·have hc:(iL d.c).1<47:=by have:=bM d.c.1 10 aF;unfold iL;simp only;omega
  obtain ⟨T',e,t⟩:=Bh (k:=k) h hc (rows.map ai) (tO d.b);exact ⟨T',by rw [e],t,hR⟩
 split
 ·exact ⟨T,by simp only [sh (rows:=rows) (ix d) hix],h,by rw [sh _ hix];exact afi hR _⟩
 split
 ·exact ⟨T,rfl,h,hR⟩
 ·obtain ⟨T',e,t,r⟩:=aaf (k:=k) h hL hm hR;refine ⟨T',?_,t,by rw [ji];exact r⟩;rw [e];simp only [ji];rfl
end
abbrev kc(e:En):Po × List Int:=(e.1,e.2.1)
def kc1{x y:En}(h:kc x=kc y):x.1=y.1/\x.2.1=y.2.1:=Prod.mk.inj h
def Ki{α:Type} [DecidableEq α]:∀{l k:List α},l.Nodup->(∀x ∈ l,x ∈ k)->l.length<=k.length
 | [],_,_,_=>g7 _
 |x::l,k,hn,hs=>by
  obtain ⟨h1,h2⟩:=oL.1 hn
  have hx:=hs x (.head _)
  have:=Ki (k:=k.erase x) h2 λy hy=>(List.mem_erase_of_ne (λq=>h1 (by rw [<-q];exact hy))).2 (hs y (.tail _ hy))
  have hl:=List.length_erase_of_mem hx
  have:0<k.length:=List.length_pos_of_mem hx
  rw [du]
  omega
section
variable {l l' l2:List En} {D:Dk} {ak limit:Int} {p:Po}
def nE.len(h:nE l l'):l'.length<=15:=by
 have:=Ki (k:=fif) h.n' λx hx=>by obtain ⟨e,he,rfl⟩:=aW.1 hx;exact h.f' _ ⟨e,he,rfl⟩
 rw [aN] at this;exact this
def L0(h:nE l l')(hn:ju l2)(hg:lu l2)(h1:∀x ∈ l2,x.1.1<=2->∃y ∈ l',kc y=kc x)(h2:∀y ∈ l',y.1.1<=2->∃x ∈ l2,kc x=kc y)(hf:∀x ∈ l2,x.1 ∈ fif):nE l l2:=by
 have hh:∀q:Po,q.1<=2->(je l' q ↔ je l2 q):=λq hq=>by
  constructor
  ·rintro ⟨y,hy,rfl⟩;obtain ⟨x,hx,e⟩:=h2 y hy hq;exact ⟨x,hx,(kc1 e).1⟩
  ·rintro ⟨x,hx,rfl⟩;obtain ⟨y,hy,e⟩:=h1 x hx hq;exact ⟨y,hy,(kc1 e).1⟩
 refine ⟨h.n,hn,h.g,hg,λq hq=>(h.h q hq).trans (hh q hq),h.f,λq ⟨x,hx,e⟩=>e▸hf x hx,λc hc=>(h.v c hc).trans ?_⟩;have hp:(pos c).1<=2:=by show c.1 / 16<=2;omega
 by_cases hy:je l' (pos c)
 ·obtain ⟨y,hy,e⟩:=hy;obtain ⟨x,hx,k⟩:=h2 y hy (by rw [e];exact hp);obtain ⟨k1,k2⟩:=kc1 k;rw [vE h.n' hy e,vE hn hx (k1.trans e),k1,k2]
 ·rw [Ex hy,Ex λq=>hy ((hh _ hp).2 q)]
def L1(h:nE l l')(hg:lu l2)(e:l2.map kc=l'.map kc):nE l l2:=by
 have e1:l2.map (·.1)=l'.map (·.1):=by have:=congrArg (List.map Prod.fst) e;rw [kS,kS] at this;exact this
 refine L0 h (by unfold ju;rw [e1];exact h.n') hg (λx hx _=> ?_) (λy hy _=> ?_) λx hx=> ?_
 ·have:kc x ∈ l'.map kc:=e▸List.mem_map_of_mem hx;obtain ⟨y,hy,q⟩:=aW.1 this;exact ⟨y,hy,q⟩
 ·have:kc y ∈ l2.map kc:=e▸List.mem_map_of_mem hy;obtain ⟨x,hx,q⟩:=aW.1 this;exact ⟨x,hx,q⟩
 ·have:x.1 ∈ l'.map (·.1):=e1▸List.mem_map_of_mem hx;obtain ⟨y,hy,q⟩:=aW.1 this;exact h.f' _ ⟨y,hy,q⟩
def Ey(D:Dk)(e:En):kc (da D e).2.1=kc e:=by unfold da;split<;>rfl
def abW{i:Nat}{e x:En}(hi:l[i]? =some e)(hx:kc x=kc e):(l.set i x).map kc=l.map kc:=by
 rw [jC,hx];refine iP λj=> ?_
 rw [jR];split
 ·rename_i q;subst q;rw [aR,hi];have:=(cG.1 hi).1;rw [if_pos (by rw [aN];exact this)];rfl
 ·rfl
def abX:∀(l:List En)(D:Dk)(pre:List En)(n:Int),(Sv D pre l n).1.2.map kc=pre.map kc++l.map kc
 | [],D,pre,n=>by unfold Sv;simp
 |e::l,D,pre,n=>by
  unfold Sv
  split
  ·rw [abX l,bW,fu,List.map_nil,Ey,fu,gK]
   rfl
  ·simp only [bW,fu,Ey]
def Xn(h:nE l l')(hg:lu (kv D l').1.2):nE l (kv D l').1.2:=L1 h hg (abX l' D [] 0)
def ajk(h:nE l l')(hg:lu (UY D l' p).1.2):nE l (UY D l' p).1.2:=by
 refine L1 h hg ?_;unfold UY;split
 ·split
  ·rename_i e he;exact abW he (Ey D e)
  ·rfl
 ·rfl
def abe{p:Po}(h:p ∈ fif):tp p:=by
 have:∀p ∈ fif,(-1<=p.1/\p.1<=4)/\-1<=p.2/\p.2<=1:=by decide
 have:=this p h;unfold tp;omega
def Sz(p:Po):Prop:=p ∈ fif/\2<p.1
def ajJ(h:nE l l'){i:Nat}(hp:∀e,l'[i]? =some e->2<e.1.1)(hg:lu (Mv D l' i).1.2):nE l (Mv D l' i).1.2:=by
 have hn:=(abY (D:=D) (i:=i) h.n').1;revert hg hn;unfold Mv;split
 ·exact λ_ _=>h
 rename_i e he;have hpe:=hp e he;split
 ·intro hg hn;refine L0 h hn hg (λx hx _=>⟨x,List.mem_of_mem_eraseIdx hx,rfl⟩) (λy hy q=>⟨y,(mem_erase h.n' he y).2 ⟨hy,λr=> ?_⟩,rfl⟩) λx hx=>h.f' _ ⟨x,List.mem_of_mem_eraseIdx hx,rfl⟩
  rw [r] at q;omega
 ·intro hg _;exact L1 h hg (abW he (Ey D e))
def Kj(hp:Sz p){e:En}(he:l'[(bX (λe:En=>e.1==p) l').toNat]? =some e)(h0:0<=bX (λe:En=>e.1==p) l'):2<e.1.1:=by
 rcases dD (λe:En=>e.1==p) l' with ⟨hf,-⟩|⟨k,x,hk,hx,hf,-⟩
 ·omega
 ·rw [hf,dQ,hk] at he
  cases he
  have:e.1=p:=by simpa using hx
  rw [this];exact hp.2
def abf(h:nE l l')(hp:Sz p)(hg:lu (kZ D l' p).1.2):nE l (kZ D l' p).1.2:=by
 unfold kZ at hg ⊢;split
 ·rename_i q;rw [if_pos q] at hg;split
  ·exact h
  ·rename_i q2;rw [if_neg q2] at hg;exact ajJ h (λe he=>Kj hp he q) hg
 ·exact h
def ajh(h:nE l l')(hp:Sz p)(hl:16<=limit)(hg:lu (DK ak limit D l' p).1.2):nE l (DK ak limit D l' p).1.2:=by
 have hn:=ajK (ak:=ak) (limit:=limit) (D:=D) (p:=p) h.n';have hz:=h.len;have hroom:fo limit D l'=((D,l'),0):=by unfold fo;rw [if_pos ab]
 unfold DK at hg hn ⊢;split
 ·exact h
 rename_i q;rw [if_neg q] at hg hn;split
 ·rename_i q2;rw [if_pos q2] at hg hn
  cases he:l'[(bX (λe:En=>e.1==p) l').toNat]? with
  |none=>
   rw [he] at hg hn;simp only [Option.toList_none,q8] at hg hn ⊢;rw [List.eraseIdx_of_length_le (List.getElem?_eq_none_iff.1 he)] at hg hn ⊢;exact h
  |some e=>
   rw [he] at hg hn;simp only [Option.toList_some] at hg hn ⊢;have hpe:=Kj hp he q2;refine L0 h hn hg (λx hx r=> ?_) (λy hy r=>⟨y,Ak _ ((mem_erase h.n' he y).2 ⟨hy,λs=>by rw [s] at r;omega⟩),rfl⟩) λx hx=> ?_
   ·rcases cV.1 hx with s|s
    ·exact ⟨x,List.mem_of_mem_eraseIdx s,rfl⟩
    ·obtain rfl:=iN.1 s;omega
   ·rcases cV.1 hx with s|s
    ·exact h.f' _ ⟨x,List.mem_of_mem_eraseIdx s,rfl⟩
    ·obtain rfl:=iN.1 s;exact h.f' _ ⟨x,aX he,rfl⟩
 ·rename_i q2;rw [if_neg q2] at hg hn;rw [hroom] at hg hn ⊢;rw [if_neg (λr=>r rfl)] at hg hn ⊢;refine L0 h hn hg (λx hx r=> ?_) (λy hy _=>⟨y,Ak _ hy,rfl⟩) λx hx=> ?_
  ·rcases cV.1 hx with s|s
   ·exact ⟨x,s,rfl⟩
   ·obtain rfl:=iN.1 s;have:=hp.2;simp only at r;omega
  ·rcases cV.1 hx with s|s
   ·exact h.f' _ ⟨x,s,rfl⟩
   ·obtain rfl:=iN.1 s;exact hp.1
end
set_option maxHeartbeats 8000000
set_option linter.unusedVariables false
variable {R:Ending->World->Prop} {w:World} {a0 a1 a2 a3 a4 a5 a6 a7 a8 a9 aA ar au aU aV aZ bG bC bD Cf aj aq aw bt bR bH eB eO eC wh bA bQ bw wi wm vb vd wo wu wx Ch Ci Cj Ck Cm Cn Co Cp Cq Cr:Int}
def LY.vc{a0:Addr}{adU:Int}{Kz:Int}{KA:Int}{KC:Int}{adV:Int}{adW:Int}{adX:Bool}(h:
 Aw w #[aj,aq,aw,bt,bR,bH,eB,eO,eC,wh,adU,Kz,KA,KC,adV,adW,adX] 45 λw0=>
 ah 10 #[aq,(4:Int)] w0 (Ri λx2 w1=>Kp w w0 w1/\
 Br (aj==3)
 (ah 52 #[.agg #[eC,wh,adU]] w1.drew (iF λx4 x5 x6 w3=>Kp w w1.drew w3/\
 af w3 (dC w 6) 0 [eB]/\af w3 (dC w 5) 0 [bH]/\ah 10 #[bH,(60000:Int)] w3 (Ri λx8 w7=>Kp w w3 w7/\
 af w7 (dC w 6) 0 [eB]/\ah 10 #[eB,(120000:Int)] w7 (Ri λbj w9=>Kp w w7 w9/\
 ah 11 #[a0,.agg #[x4,x5,x6],x8,bj] w9 (λe bg=>∃(bV cn:Int),e=Value.tuple #[bV,cn]/\Kp w w9 bg/\
 R po bg)))))
 (Br (aj==4)
 (ah 54 #[a0,x2,.agg #[adV,adW,adX]] w1 (Ri λcw bO=>Kp w w1 bO/\
 R po bO))
 (Br (aj==5)
 (ah 56 #[aw] w1.drew (Ri λdh cF=>Kp w w1.drew cF/\
 af cF (dC w 11) 0 [Kz,KA,KC]/\ah 55 #[a0,x2,.agg #[Kz,KA,KC],dh] cF (Ri λcu dH=>Kp w cF dH/\
 R po dH)))
 (Br (aj==6)
 (ah 33 #[a0,x2,.agg #[Kz,KA,KC]] w1 (λe eW=>∃(db ef:Int),e=Value.tuple #[db,ef]/\Kp w w1 eW/\
 R po eW))
 (Br (aj==7)
 (ah 28 #[.agg #[bH,eB,eO]] w1.drew (iF λeU dY fg eP=>Kp w w1.drew eP/\
 af eP (dC w 2) 0 [aw]/\ah 56 #[aw] eP (Ri λgm dX=>Kp w eP dX/\
 ah 59 #[a0,.agg #[eU,dY,fg],gm] dX (Ri λjN dW=>Kp w dX dW/\
 R po dW))))
 (Br (aj==8)
 (ah 13 #[a0,x2] w1 (Ri λic gf=>Kp w w1 gf/\
 R po gf))
 (Br (aj==10)
 (ah 32 #[a0,x2,.agg #[Kz,KA,KC]] w1 (λe eT=>∃(ie kI nh gI gk oh mP:Int),e=Value.tuple #[.agg #[ie,kI,nh,gI,gk,oh],mP]/\Kp w w1 eT/\
 R po eT))
 (ah 64 #[a0] w1 (Ri λnj jw=>Kp w w1 jw/\
 R po jw)))))))))):ah 24 #[a0,.agg #[aj,aq,aw,bt,bR,bH,eB,eO,eC,wh,adU,Kz,KA,KC,adV,adW,adX]] w R:=
 cq bU Tryz.func24 h
def ym.vc{a1:Sl}{a2:Sl}(h:
 ah 9 #[a0,(8:Int),(10:Int)] w (λe w0=>∃(p1 p2:Option Addr),e=Value.tuple #[p1,p2]/\
 ah 9 #[a0,(8:Int),(16:Int)] w0 (λe w3=>∃(p4 p5:Option Addr),e=Value.tuple #[p4,p5]/\
 Br (p1).isNone
 (R false w3)
 (Br (p4).isNone
 (R false w3)
 (aP (dq p4) (aP (dq p4) (∃(p6:Option Addr),ld w3 (ae p4 0)=some (.pointer p6)/\
 ah 18 #[p6] w3 (λe w7=>∃(p8:Option Addr),e=p8/\
 ah 19 #[p8] w7 (λe w9=>∃(tf:Option Addr),e=tf/\
 Br (tf).isNone
 (R false w9)
 (∃I11:Nat->Int->World->Prop,
 (∃EO,I11 EO (0) w9)/\
 ∀(EO:Nat)(apd:Nat->Value)(bI:Int)(dB:World),I11 EO bI dB->
 Br (decide (bI<((a1.n:Nat):Int)))
 (Br (bI<20)
 (∃J17:World->Prop,
 (Br (decide (bI<((a2.n:Nat):Int)))
 (eA a2.a bI a2.n/\aP (dq (ae a2.a ((bI:Int).toNat*17))) (aP (dq (ae (ae a2.a ((bI:Int).toNat*17)) 3)) (∃(cA:Int),ld dB.drew (ae (ae (ae a2.a ((bI:Int).toNat*17)) 3) 0)=some (.int .i64 cA)/\
 eA a2.a bI a2.n/\aP (dq (ae a2.a ((bI:Int).toNat*17))) (aP (dq (ae (ae a2.a ((bI:Int).toNat*17)) 3)) (∃(cu:Int),ld dB.drew (ae (ae (ae a2.a ((bI:Int).toNat*17)) 3) 1)=some (.int .i64 cu)/\
 (ah 10 #[cA,(2:Int)] dB.drew (λe eW=>∃(db:Int),e=db/\
 af eW (ae (ae (ae a2.a ((bI:Int).toNat*17)) 3) 1) 0 [cu]/\(ah 10 #[cu,(3:Int)] eW (λe dP=>∃(dG:Int),e=dG/\
 (Aw dP #[aa,aa] 40 λgl=>
 Sw gl dP #[(ao (3+db)),(ao (dG-1))] λcW=>
 eA a2.a bI a2.n/\aP (dq (ae a2.a ((bI:Int).toNat*17))) (∃(fg:Int),ld cW (ae (ae a2.a ((bI:Int).toNat*17)) 0)=some (.int .i64 fg)/\
 Br (((Int.tmod fg 4):Int)==0)
 (ah 20 #[tf,.agg #[(ao (3+db)),(ao (dG-1))]] cW (Ri λgm dX=>Kp dP cW dX/\
 J17 dX))
 (Br (((Int.tmod fg 4):Int)==1)
 (ah 21 #[tf,.agg #[(ao (3+db)),(ao (dG-1))]] cW (Ri λjN dW=>Kp dP cW dW/\
 J17 dW))
 (Br (((Int.tmod fg 4):Int)==2)
 (ah 22 #[tf] cW (λe gf=>∃(ic eL:Int),e=Value.tuple #[ic,eL]/\Kp dP cW gf/\
 J17 gf))
 (ah 23 #[tf,.agg #[aa,aa]] cW (Ri λkI jf=>Kp dP cW jf/\
 J17 jf))))))/\(Aw dP #[aa,aa] 40 λkG=>
 Sw kG dP #[(ao (3+db)),(ao (dG-1))] λgw=>
 eA a2.a bI a2.n/\aP (dq (ae a2.a ((bI:Int).toNat*17))) (∃(gk:Int),ld gw (ae (ae a2.a ((bI:Int).toNat*17)) 0)=some (.int .i64 gk)/\
 Br (((Int.tmod gk 4):Int)==0)
 (ah 20 #[tf,.agg #[(ao (3+db)),(ao (dG-1))]] gw (Ri λmP kx=>Kp dP gw kx/\
 J17 kx))
 (Br (((Int.tmod gk 4):Int)==1)
 (ah 21 #[tf,.agg #[(ao (3+db)),(ao (dG-1))]] gw (Ri λnj jw=>Kp dP gw jw/\
 J17 jw))
 (Br (((Int.tmod gk 4):Int)==2)
 (ah 22 #[tf] gw (λe jg=>∃(lD pI:Int),e=Value.tuple #[lD,pI]/\Kp dP gw jg/\
 J17 jg))
 (ah 23 #[tf,.agg #[aa,aa]] gw (Ri λsW qo=>Kp dP gw qo/\
 J17 qo))))))))/\(Aw eW #[aa,aa] 40 λgj=>
 ah 10 #[cu,(3:Int)] gj (Ri λtc lq=>Kp eW gj lq/\
 Sw lq eW #[(ao (3+db)),(ao (tc-1))] λtH=>
 eA a2.a bI a2.n/\aP (dq (ae a2.a ((bI:Int).toNat*17))) (∃(lh:Int),ld tH (ae (ae a2.a ((bI:Int).toNat*17)) 0)=some (.int .i64 lh)/\
 Br (((Int.tmod lh 4):Int)==0)
 (ah 20 #[tf,.agg #[(ao (3+db)),(ao (tc-1))]] tH (Ri λqp Uh=>Kp eW tH Uh/\
 J17 Uh))
 (Br (((Int.tmod lh 4):Int)==1)
 (ah 21 #[tf,.agg #[(ao (3+db)),(ao (tc-1))]] tH (Ri λsX xk=>Kp eW tH xk/\
 J17 xk))
 (Br (((Int.tmod lh 4):Int)==2)
 (ah 22 #[tf] tH (λe mR=>∃(wy qq:Int),e=Value.tuple #[wy,qq]/\Kp eW tH mR/\
 J17 mR))
 (ah 23 #[tf,.agg #[aa,aa]] tH (Ri λvI mQ=>Kp eW tH mQ/\
 J17 mQ)))))))))/\(Aw dB.drew #[aa,aa] 40 λiH=>
 ah 10 #[cA,(2:Int)] iH (Ri λwD Dq=>Dq.heap[dB.drew.heap.size]? =iH.heap[dB.drew.heap.size]?/\
 af Dq (ae (ae (ae a2.a ((bI:Int).toNat*17)) 3) 1) 0 [cu]/\ah 10 #[cu,(3:Int)] Dq (Ri λmg EJ=>EJ.heap[dB.drew.heap.size]? =Dq.heap[dB.drew.heap.size]?/\
 Sw EJ dB.drew.heap.size #[(ao (3+wD)),(ao (mg-1))] λjH=>
 eA a2.a bI a2.n/\aP (dq (ae a2.a ((bI:Int).toNat*17))) (∃(mS:Int),ld jH (ae (ae a2.a ((bI:Int).toNat*17)) 0)=some (.int .i64 mS)/\
 Br (((Int.tmod mS 4):Int)==0)
 (ah 20 #[tf,.agg #[(ao (3+wD)),(ao (mg-1))]] jH (Ri λpy IF=>IF.heap[dB.drew.heap.size]? =jH.heap[dB.drew.heap.size]?/\
 J17 IF))
 (Br (((Int.tmod mS 4):Int)==1)
 (ah 21 #[tf,.agg #[(ao (3+wD)),(ao (mg-1))]] jH (Ri λnL w71=>w71.heap[dB.drew.heap.size]? =jH.heap[dB.drew.heap.size]?/\
 J17 w71))
 (Br (((Int.tmod mS 4):Int)==2)
 (ah 22 #[tf] jH (λe Ky=>∃(vi ve:Int),e=Value.tuple #[vi,ve]/\Ky.heap[dB.drew.heap.size]? =jH.heap[dB.drew.heap.size]?/\
 J17 Ky))
 (ah 23 #[tf,.agg #[aa,aa]] jH (Ri λHo j6=>j6.heap[dB.drew.heap.size]? =jH.heap[dB.drew.heap.size]?/\
 J17 j6)))))))))))))
 (J17 dB))/\
 ∀atA:Nat->Value,∀(l6:World),J17 l6->
 eA a1.a bI a1.n/\∃(tI rP qt rV vJ vK Hs qO QR IQ MI yP xl tJ Kx yE:Int)(b96:Bool),af l6 (ae a1.a ((bI:Int).toNat*17)) 0 [tI,rP,qt,rV,vJ,vK,Hs,qO,QR,IQ,MI,yP,xl,tJ,Kx,yE,b96]/\
 Aw l6 #[aa,aa,aa,aa,aa,aa,aa,aa,aa,aa,aa,aa,aa,aa,aa,aa,false] 45 λw97=>
 Sw w97 l6 #[tI,rP,qt,rV,vJ,vK,Hs,qO,QR,IQ,MI,yP,xl,tJ,Kx,yE,b96] λQq=>
 ∃J99:Int->Int->Int->Int->Int->Int->Int->Int->Int->Int->Int->Int->Int->Int->Int->Int->Bool->World->Prop,
 (Br (tI>=0)
 (Br (tI<=2)
 (Sw Qq l6 #[(11:Int),rP,qt,rV,vJ,vK,Hs,qO,QR,IQ,MI,yP,xl,tJ,Kx,yE,b96] λqF=>
 J99 (11) rP qt rV vJ vK Hs qO QR IQ MI yP xl tJ Kx yE b96 qF)
 (J99 tI rP qt rV vJ vK Hs qO QR IQ MI yP xl tJ Kx yE b96 Qq))
 (J99 tI rP qt rV vJ vK Hs qO QR IQ MI yP xl tJ Kx yE b96 Qq))/\
 ∀ay6:Nat->Value,∀(qG sZ pJ ph np nq yJ pj jB nr ig ta vg HE HD IS:Int)(ag9:Bool)(pK:World),J99 qG sZ pJ ph np nq yJ pj jB nr ig ta vg HE HD IS ag9 pK->
 ∃ali:Int->Int->Int->Int->Int->Int->Int->Int->Int->Int->Int->Int->Int->Int->Int->Int->Bool->World->Prop,
 (Br (qG==9)
 (Sw pK l6 #[(10:Int),sZ,pJ,ph,np,nq,yJ,pj,jB,nr,ig,ta,vg,HE,HD,IS,ag9] λyF=>
 ali (10) sZ pJ ph np nq yJ pj jB nr ig ta vg HE HD IS ag9 yF)
 (ali qG sZ pJ ph np nq yJ pj jB nr ig ta vg HE HD IS ag9 pK))/\
 ∀ay7:Nat->Value,∀(AP Ea QB AQ AR qI pL pM Eb Zl Zd QE QF QG QH QI:Int)(alj:Bool)(Ua:World),ali AP Ea QB AQ AR qI pL pM Eb Zl Zd QE QF QG QH QI alj Ua->
 ah 15 #[p1,p2,.agg #[AP,Ea,QB,AQ,AR,qI,pL,pM,Eb,Zl,Zd,QE,QF,QG,QH,QI,alj]] Ua (Rb λavE Ub=>Kp l6 Ua Ub/\
 Br (!avE)
 (R false Ub)
 (ah 24 #[p4,.agg #[AP,Ea,QB,AQ,AR,qI,pL,pM,Eb,Zl,Zd,QE,QF,QG,QH,QI,alj]] Ub (Rt λvj=>Kp l6 Ub vj/\
 ah 26 #[p1] vj.drew (Rs λavF ag6=>Kp l6 vj.drew ag6/\
 ah 26 #[p4] ag6 (Rs λavG adT=>Kp l6 ag6 adT/\
 ah 25 #[avF,avG] adT (Rb λTY Um=>Kp l6 adT Um/\
 Br (!TY)
 (R false Um)
 (aP (dq p1) (aP (dq p1) (∃(ape:Option Addr),ld Um (ae p1 0)=some (.pointer ape)/\
 aP (dq p4) (aP (dq p4) (∃(Zt:Option Addr),ld Um (ae p4 0)=some (.pointer Zt)/\
 ah 18 #[ape] Um (λe IJ=>∃(apf:Option Addr),e=apf/\Kp l6 Um IJ/\
 af IJ (dC l6 5) 0 [qI,pL,pM]/\af IJ (ae p4 0) 0 [.pointer Zt]/\af IJ (dC l6 5) 0 [qI,pL,pM]/\ah 27 #[apf] IJ (Rv λavH Ec=>Kp l6 IJ Ec/\
 af Ec (dC l6 5) 0 [qI,pL,pM]/\af Ec (ae p4 0) 0 [.pointer Zt]/\af Ec (dC l6 5) 0 [qI,pL,pM]/\ah 28 #[.agg #[qI,pL,pM]] Ec (iF λTZ T0 T3 Ed=>Kp l6 Ec Ed/\
 af Ed (dC l6 5) 0 [qI,pL,pM]/\af Ed (ae p4 0) 0 [.pointer Zt]/\cC Tryz.prog avH [.agg #[TZ,T0,T3]] Ed (Ri λT4 Zp=>Kp l6 Ed Zp/\
 af Zp (dC l6 5) 0 [qI,pL,pM]/\af Zp (ae p4 0) 0 [.pointer Zt]/\ah 18 #[Zt] Zp (λe IU=>∃(apg:Option Addr),e=apg/\Kp l6 Zp IU/\
 af IU (dC l6 5) 0 [qI,pL,pM]/\ah 27 #[apg] IU (Rv λavI aha=>Kp l6 IU aha/\
 af aha (dC l6 5) 0 [qI,pL,pM]/\ah 28 #[.agg #[qI,pL,pM]] aha (iF λagA agB agC IK=>Kp l6 aha IK/\
 cC Tryz.prog avI [.agg #[agA,agB,agC]] IK (Ri λQv ag7=>Kp l6 IK ag7/\
 Br (T4 !=Qv)
 (R false ag7)
 (∃IE,IE<EO/\I11 IE ((ao (bI+1))) ag7)))))))))))))))))))))
 (ah 14 #[] dB (λe avJ=>∃(aph:Bool),e=aph/\
 R aph avJ)))
 (ah 14 #[] dB (λe avK=>∃(api:Bool),e=api/\
 R api avK)))))))))))):ah 6 #[a0,a1,a2] w R:=
 cq ⟨[(9,⟨[(12,.int .i64)],[],[]⟩)],[(26,⟨[],[(0,[.int .i64,.int .i64,.int .i64,.int .i64,.int .i64,.int .i64,.int .i64,.int .i64,.int .i64,.int .i64,.int .i64,.int .i64,.int .i64,.int .i64,.int .i64,.int .i64,.bool])],[]⟩),(24,⟨[],[(0,[.int .i64,.int .i64,.int .i64,.int .i64,.int .i64,.int .i64,.int .i64,.int .i64,.int .i64,.int .i64,.int .i64,.int .i64,.int .i64,.int .i64,.int .i64,.int .i64,.bool])],[]⟩),(21,⟨[],[],[]⟩)],[]⟩ Tryz.func6 h
section
variable {F:Nat->Prop} {w:World} {g s o t:Nat} {M:Sm} {occ:Value} {L:List (Option dS)} {m:Int}
set_option maxHeartbeats 4000000 in
def O5(h:EF F w g s o t M occ L)(hL:q9 m L)(hm0:0<=m)(hm:m<=99900000000000)(hk:qQ M 600000)(hN:CC (qR M))(hu:1<=M.dE/\M.dE<=64)(d:Dr)(hd:dIn d):
  ah 24 #[g,dV d] w λe w'=>e=po/\∃occ',gO F w g s o t (On M L d).1 occ' (On M L d).2 w':=by
 obtain ⟨hd1,hd2,hd3,⟨hd4,hd5⟩,hd6,hd7⟩:=hd;have iC:∀i,F i->i<w.heap.size:=λi hi=>h.lt hi
 have hE0:=h;apply LY.vc;intro w0 e0;have x0:=aQ e0;have z0:w0.heap.size=w.heap.size+1:=zA e0;have r0:∃τ,Row w0 w (dL d) τ:=⟨_,by rw [e0];exact Row.new w [_,_,_,_,_,_,_,_,_,_,_,_,_,_,_,_,_] _⟩;obtain ⟨τ,r0⟩:=r0;have fin:∀{v u:World} {M':Sm} {occ':Value} {L':List (Option dS)},Ext w0 v->gO F v g s o t M' occ' L' u->On M L d=(M',L')->u.heap[w.heap.size]? =v.heap[w.heap.size]?/\Ending.returned (.tuple #[])=po/\∃occ',gO F w g s o t (On M L d).1 occ' (On M L d).2 u:=λ{v u M' occ' L'} x hr e=>by have z:=x.size;have xx:=x0.tr x;refine ⟨gO.de hE0 xx (aC _) ab iC hr,rfl,occ',?_⟩;rw [e];exact gO.aH xx hr
 refine (c8 d.n 4 w0 hd2 aF (by unfold bN;omega)).mono ?_;rintro e w1 ⟨rfl,hv⟩;subst hv;refine ⟨_,rfl,rfl,?_⟩;have xd:=Ext.dr w1;have one:∀{u:World} {o:Nat} {v:Value},Ext w1 u->(dL d)[o]? =some v->af u (dC w.heap.size o) 0 [v]:=λx hv=>m7 (r0.ext x) hv
 apply Br.mk<;>intro q
 ·have q:=cU q;refine (ES d.aD hd7 w1.drew).mono ?_;rintro e u1 ⟨rfl,x1⟩;have xx:=xd.tr x1;refine ⟨_,_,_,rfl,x1.heap (by show _<w1.heap.size;omega),one xx rfl,one xx rfl,(c8 d.c.1 60000 u1 hd6.1 aF (by unfold bN;omega)).mono ?_⟩;rintro e u2 ⟨rfl,hv⟩;subst hv;refine ⟨_,rfl,rfl,one xx rfl,(c8 d.c.2.1 120000 u2 hd6.2.1 aF (by unfold bN;omega)).mono ?_⟩;rintro e u3 ⟨rfl,hv⟩;subst hv;have b1:=bM d.c.1 60000 aF;refine ⟨_,rfl,rfl,(xm (h.ext (x0.tr xx)) (IX d.aD) (cm d.c.1 60000) (cm d.c.2.1 120000) (by unfold bN;omega)).mono ?_⟩;rintro e u4 ⟨rfl,hr⟩;exact ⟨_,_,rfl,fin xx hr (by unfold On;rw [if_pos q])⟩
 have n3:=cU q;apply Br.mk<;>intro q
 ·have q:=cU q;refine (IZ (h.ext x0) (ix d) d.pQ).mono ?_;rintro e u4 ⟨rfl,hr⟩;exact ⟨_,rfl,fin (Ext.cM _) hr (by unfold On;rw [if_neg n3,if_pos q])⟩
 have n4:=cU q;apply Br.mk<;>intro q
 ·have q:=cU q;refine (ky d.b hd3 w1.drew).mono ?_;rintro e u1 ⟨rfl,hv⟩;subst hv;refine ⟨_,rfl,rfl,(r0.ext xd).bY λj hj=> ?_,(Cz (h.ext (x0.tr xd)) hL ab (ix d) d.c9 (tO d.b) (hk.mono ab)).mono ?_⟩
  ·have hj:j<3:=hj;have:j=0\/j=1\/j=2:=by omega
   rcases this with rfl|rfl|rfl<;>rfl
  rintro e u4 ⟨rfl,hr⟩;exact ⟨_,rfl,fin xd hr (by unfold On;rw [if_neg n3,if_neg n4,if_pos q])⟩
 have n5:=cU q;apply Br.mk<;>intro q
 ·have q:=cU q;refine (CA (h.ext x0) hL ab (ix d) d.c9 (hk.mono ab)).mono ?_;rintro e u4 ⟨rfl,hr⟩;exact ⟨_,_,rfl,fin (Ext.cM _) hr (by unfold On;rw [if_neg n3,if_neg n4,if_neg n5,if_pos q])⟩
 have n6:=cU q;apply Br.mk<;>intro q
 ·have q:=cU q;have hcw:eQ (iL d.c):=by have b1:=bM d.c.1 10 aF;have b2:=bM d.c.2.1 14 aF;have b3:=bM d.c.2.2 10 aF;unfold eQ iL;simp only;omega
  refine (r6 d.c hd6 w1.drew).mono ?_;rintro e u1 ⟨rfl,x1⟩;have xx:=xd.tr x1;refine ⟨_,_,_,rfl,x1.heap (by show _<w1.heap.size;omega),one xx rfl,(ky d.b hd3 u1).mono ?_⟩;rintro e u2 ⟨rfl,hv⟩;subst hv;refine ⟨_,rfl,rfl,(se (h.ext (x0.tr xx)) hL (iL d.c) hcw (tO d.b) (hk.mono ab)).mono ?_⟩;rintro e u4 ⟨rfl,hr⟩;exact ⟨_,rfl,fin xx hr (by unfold On;rw [if_neg n3,if_neg n4,if_neg n5,if_neg n6,if_pos q])⟩
 have n7:=cU q;apply Br.mk<;>intro q
 ·have q:=cU q;refine (I9 (h.ext x0) (ix d)).mono ?_;rintro e u4 ⟨rfl,hr⟩;exact ⟨_,rfl,fin (Ext.cM _) hr (by unfold On;rw [if_neg n3,if_neg n4,if_neg n5,if_neg n6,if_neg n7,if_pos q])⟩
 have n8:=cU q;apply Br.mk<;>intro q
 ·have q:=cU q;refine (vk (h.ext x0) hL ab (ix d) d.c9).mono ?_;rintro e u4 ⟨rfl,x4⟩;exact ⟨_,_,_,_,_,_,_,rfl,fin x4 ((h.ext (x0.tr x4)).res (Ext.cM _)) (by unfold On;rw [if_neg n3,if_neg n4,if_neg n5,if_neg n6,if_neg n7,if_neg n8,if_pos q])|>λk=>⟨x4.heap ab,k.2⟩⟩
 have n10:=cU q;refine (Jb (h.ext x0) hL hm0 hm hN hk hu).mono ?_;rintro e u4 ⟨rfl,hr,-⟩;exact ⟨_,rfl,fin (Ext.cM _) hr (by unfold On;rw [if_neg n3,if_neg n4,if_neg n5,if_neg n6,if_neg n7,if_neg n8,if_neg n10])⟩
end
def qP.oth{K:Nat->Prop}{w0 w w':World}{a:Ad}{Me Mm:Sm}{Le:List (Option dS)}{rows:List iE}(h:qP K w0 w a Me Le Mm rows){F G:Nat->Prop}(hF:∀i,F i->K i)(f:∀i,F i->w0.heap.size<=i)(g:aM F G w w')(hG:∀i,G i->i<w'.heap.size):
  qP G w0 w' a Me Le Mm rows/\∀i,G i->w0.heap.size<=i:=by
 obtain ⟨A,A',oc,oc',h1,h2,h3,h4,h5,h6,h7⟩:=h;obtain ⟨x,fr⟩:=g.fresh h7 f;refine ⟨⟨A,A',oc,oc',h1.same λi hi=>g.mod.same i (h1.lt hi) λq=>(h6 i (hF i q)).1 hi,h2.same λi hi=>g.mod.same i (h2.lt hi) λq=>(h6 i (hF i q)).2.1 hi,h3,h4,h5,λj hj=> ?_,x⟩,fr⟩;rcases g.sub j hj with q|q
 ·exact ⟨(h6 j (hF j q)).1,(h6 j (hF j q)).2.1,hG j hj⟩
 ·exact ⟨λs=>by have:=h1.lt s;omega,λs=>by have:=h2.lt s;omega,hG j hj⟩
structure Iz(v0 u:World)(a b:Ad)(j n:Nat)(M:Sm)(rows:List iE)(T:Tb)(F:Nat->Prop)(occ:Value):Prop where
 B:qP F v0 u a M (rows.map ai) M rows
 E:EF F u b.g b.s b.o b.t (wT M 16 T) occ (rows.map ai)
 f:∀i,F i->v0.heap.size<=i
 J:Jv j M (rows.map ai)
 t:nE M.T.2 T.2
 r:Rl (rows.map ai)
 d:T.1.l.length<=n
section
variable {v0 u v u':World} {a b:Ad} {j n:Nat} {M:Sm} {rows:List iE} {T T':Tb} {F:Nat->Prop} {occ:Value} {p:Po}
def Iz.ext(h:Iz v0 u a b j n M rows T F occ)(x:Ext u v):Iz v0 v a b j n M rows T F occ:=⟨(h.B.same x).1,h.E.ext x,h.f,h.J,h.t,h.r,h.d⟩
def Iz.x(h:Iz v0 u a b j n M rows T F occ):Ext v0 u:=by obtain ⟨F,F',oc,oc',h1,h2,h3,h4,h5,h6,h7⟩:=h.B;exact h7
abbrev Izs(v0 u:World)(a b:Ad)(j n:Nat):Prop:=∃(M:Sm)(rows:List iE)(T:Tb)(F:Nat->Prop)(occ:Value),Iz v0 u a b j n M rows T F occ
def Iz.far(h:Iz v0 u a b j n M rows T F occ)(x:Ext u v)(hr:gO F v b.g b.s b.o b.t (wT M 16 T') occ (rows.map ai) u')(ht:lu T'.2->nE M.T.2 T'.2){n':Nat}(hd:T'.1.l.length<=n'):
  (∀i,u.heap.size<=i/\i<v.heap.size->u'.heap[i]? =v.heap[i]?)/\Izs v0 u' a b j n':=by
 obtain ⟨F',hE',hT⟩:=hr;have hv:=h.ext x;have hg:lu T'.2:=by obtain ⟨Fs,hs,-⟩:=hE'.ud;obtain ⟨Fw,hW,-⟩:=hs.world;exact hW.aeQ
 obtain ⟨hB,hf⟩:=hv.B.oth (λ_ q=>q) h.f hT λi hi=>hE'.lt hi
 exact ⟨λi hi=>hT.mod.same i hi.2 λq=>by have:=h.E.lt q;omega,M,rows,T',F',occ,hB,hE',hf,h.J,ht hg,h.r,hd⟩
abbrev afD(v0 u v:World)(a b:Ad)(j n:Nat)(u':World):Prop:=(∀i,u.heap.size<=i/\i<v.heap.size->u'.heap[i]? =v.heap[i]?)/\Izs v0 u' a b j n
def Iz.load(h:Iz v0 u a b j n M rows T F occ)(x:Ext u v)(hn:n<=800000)(hp:Sz p):ah 20 #[.pointer (aB b.t),pv p] v λe u'=>∃c:Int,e=c/\afD v0 u v a b j (n+20) u':=by obtain ⟨Fw,hW,bk⟩:=(h.E.ext x).world;have hd:=h.d;refine (pO hW (by show T.1.l.length<=_;omega) p).mono ?_;rintro e u' ⟨rfl,hr⟩;exact ⟨_,rfl,h.far (T':=(DK M.ak 16 T.1 T.2 p).1) x (bk hr) (λhg=>ajh h.t hp (oP _) hg) (by have:=(ahs (ak:=M.ak) (limit:=16) (D:=T.1) (l:=T.2) (p:=p) λe he=>abe (h.t.f' _ ⟨e,he,rfl⟩)).2;omega)⟩
def Iz.aji(h:Iz v0 u a b j n M rows T F occ)(x:Ext u v)(hn:n<=800000)(hp:Sz p):ah 21 #[.pointer (aB b.t),pv p] v λe u'=>∃c:Int,e=c/\afD v0 u v a b j (n+20) u':=by obtain ⟨Fw,hW,bk⟩:=(h.E.ext x).world;have hd:=h.d;refine (qv hW (by show T.1.l.length<=_;omega) p).mono ?_;rintro e u' ⟨rfl,hr⟩;exact ⟨_,rfl,h.far (T':=(kZ T.1 T.2 p).1) x (bk hr) (λhg=>abf h.t hp hg) (by have:=(UT (D:=T.1) (l:=T.2) (p:=p) λe he=>abe (h.t.f' _ ⟨e,he,rfl⟩)).2.1;omega)⟩
def Iz.amI(h:Iz v0 u a b j n M rows T F occ)(x:Ext u v)(hn:n<=800000):ah 22 #[.pointer (aB b.t)] v λe u'=>∃c c':Int,e=Value.tuple #[c,c']/\afD v0 u v a b j (n+20) u':=by
 obtain ⟨Fw,hW,bk⟩:=(h.E.ext x).world;have hd:=h.d;have hz:=h.t.len;refine (mW hW (by show T.1.l.length<=_;omega)).mono ?_;rintro e u' ⟨rfl,hr⟩;exact ⟨_,_,rfl,h.far (T':=(kv T.1 T.2).1) x (bk hr) (λhg=>Xn h.t hg) (by
  have:=(So T.2 (D:=T.1) (pre:=[]) (n:=0) (λe he=>by cases he) λe he=>abe (h.t.f' _ ⟨e,he,rfl⟩)).2.1;show (Sv T.1 [] T.2 0).1.1.l.length<=_;omega)⟩
def ajj{D:Dk}{l:List En}{p:Po}:(UY D l p).1.1.l.length<=D.l.length+1:=by
 unfold UY;split
 ·split
  ·exact Ev _ _
  ·simp only;omega
 ·simp only;omega
def Iz.fl(h:Iz v0 u a b j n M rows T F occ)(x:Ext u v)(hn:n<=800000):ah 23 #[.pointer (aB b.t),pv p] v λe u'=>∃c:Int,e=c/\afD v0 u v a b j (n+20) u':=by obtain ⟨Fw,hW,bk⟩:=(h.E.ext x).world;obtain ⟨F1,hTF,-,hres1⟩:=hW.table;have hd:=h.d;refine (Lz hTF (by show T.1.l.length<=_;omega) p).mono ?_;rintro e u' ⟨rfl,hr⟩;exact ⟨_,rfl,h.far (T':=(UY T.1 T.2 p).1) x (bk (hres1 hr)) (λhg=>ajk h.t hg) (by have:=ajj (D:=T.1) (l:=T.2) (p:=p);omega)⟩
def afE(M:Sm)(L:List (Option dS))(d:Dr):(On M L d).1.T.1=M.T.1:=by
 have pl:(iK M L (ix d) d.c9 (tO d.b)).2.T.1=M.T.1:=by unfold iK dT;(repeat' split)<;>rfl
 have br:(gN M L (ix d) d.c9).2.T.1=M.T.1:=by unfold gN dT;(repeat' split)<;>rfl
 have ed:(dT M L (iL d.c) (tO d.b)).2.T.1=M.T.1:=by unfold dT;split<;>rfl
 have tk:(kL M L).1.T.1=M.T.1:=BF _ _ _;unfold On
 repeat' split
 all_goals first
  |rfl
  |exact pl
  |exact br
  |exact ed
  |exact tk
def Iz.ar1(h:Iz v0 u a b j n M rows T F occ)(x:Ext u v)(hj:j<=40)(d:Dr)(hd:dIn d)(h0:d.kind≠0)(h1:d.kind≠1)(h2:d.kind≠2)(h9:d.kind≠9):
  ah 15 #[.pointer (aB a.g),.pointer (aB a.m),dV d] v λe v'=>e=true/\(∀i,u.heap.size<=i/\i<v.heap.size->v'.heap[i]? =v.heap[i]?)/\
   ah 24 #[.pointer (aB b.g),dV d] v' λe u'=>e=po/\(∀i,u.heap.size<=i/\i<v.heap.size->u'.heap[i]? =v'.heap[i]?)/\Izs v0 u' a b (j+1) n:=by
 have auE:=h.B.few;refine (VK (h.B.ext x) h.J ab d hd).mono ?_;rintro e v' ⟨rfl,hB,hk⟩;have hE':EF F v' b.g b.s b.o b.t (wT M 16 T) occ (rows.map ai):=(h.E.ext x).same λi hi=>hk i (.inl hi)
 refine ⟨rfl,λi hi=>hk i (.inr hi),?_⟩;have hJ:=h.J;have hs:qQ (wT M 16 T) 600000:=⟨⟨hJ.s.l.1,by have:=hJ.s.l.2;show M.q.lost<=_;omega⟩,by have:=hJ.s.c;show M.ch.length<=_;omega,hJ.s.now,by have:=hJ.s.d;show M.kC.length<=_;omega⟩;refine (O5 hE' hJ.b ab ab hs (show CC (qR M) from Nr.due ⟨hJ.t,hJ.q,hJ.s.now⟩) hJ.u d hd).mono ?_;rintro e u' ⟨rfl,occ',F',hE2,hT⟩;obtain ⟨T',e',t',r'⟩:=afj (k:=16) h.t hJ.b ab h.r d h0 h1 h2 h9;have hdk:T'.1=T.1:=by have:=afE (wT M 16 T) (rows.map ai) d;rw [e'] at this;exact this
 rw [e'] at hE2;obtain ⟨Hg,hf⟩:=hB.oth (λ_ q=> .inl q) h.f hT λi hi=>hE2.lt hi
 have hz:v.heap.size<=v'.heap.size\/True:=.inr trivial;refine ⟨rfl,λi hi=>hT.mod.same i (hB.lt (j:=i) (.inr hi)) λq=>by have:=h.E.lt q;omega,_,_,T',F',occ',Hg,hE2,hf,hJ.step d auE ab,t',r',by rw [hdk];exact h.d⟩
end
def iz0{ak:Int}{w w0 w3:World}{a b:Ad}(hA:qP (λ_=>False) w w0 a (UF ak 10 8) (uy.map ai) (UF ak 10 8) uy)(hB:qP (λ_=>False) w0 w3 b (UF ak 16 8) (uy.map ai) (UF ak 16 8) uy):
  Izs w w3 a b 0 0:=by
 obtain ⟨F,F',oc,oc',h1,-,-,h4,-,-,x⟩:=hB;have hx:Ext w w0:=by obtain ⟨F,F',oc,oc',h1,h2,h3,h4,h5,h6,h7⟩:=hA;exact h7
 have hz:=hx.size;have h9:∀p:Po,je (l9 ak 9) p->p ∈ fif/\p.1<=1:=λp ⟨e,he,hp⟩=>by
  unfold l9 at he;obtain ⟨q,hq,rfl⟩:=aW.1 he;have hq:q ∈ uA:=qd hq;have:∀q ∈ uA,q ∈ fif/\q.1<=1:=by decide
  exact hp▸this q hq
 have hg:lu (l9 ak 9):=amR hA;refine ⟨UF ak 10 8,uy,(UF ak 10 8).T,F,oc,(hA.ext x).mono λi hi=> .inr ⟨h4 i hi,h1.lt hi⟩,h1,λi hi=>by have:=h4 i hi;omega,jv0 _ _ _,⟨amQ ak,amQ ak,hg,hg,λ_ _=>Iff.rfl,λp q=>(h9 p q).2,λp q=>(h9 p q).1,λ_ _=>rfl⟩,λy hy=> ?_,by show (Mu 1000000).l.length<=0;decide⟩;rw [FB] at hy;have:=List.eq_of_mem_replicate hy
 cases this
def mM(d:Dr):Dr:=if d.kind>=0/\d.kind<=2 then {d with kind:=11} else d
def B4(d:Dr):Dr:=if d.kind=9 then {d with kind:=10} else d
def ajA{d:Dr}(h:dIn d):dIn (B4 (mM d))/\(B4 (mM d)).kind≠0/\(B4 (mM d)).kind≠1/\(B4 (mM d)).kind≠2/\(B4 (mM d)).kind≠9:=by
 have h1:dIn (mM d)/\((mM d).kind≠0/\(mM d).kind≠1/\(mM d).kind≠2):=by
  unfold mM;split
  ·exact ⟨⟨(by unfold bN;decide:bN 11),h.2⟩,by show (11:Int)≠0/\(11:Int)≠1/\(11:Int)≠2;decide⟩
  ·exact ⟨h,by omega,by omega,by omega⟩
 obtain ⟨h1,h2,h3,h4⟩:=h1;unfold B4;split
 ·exact ⟨⟨(by unfold bN;decide:bN 10),h1.2⟩,by show (10:Int)≠0/\(10:Int)≠1/\(10:Int)≠2/\(10:Int)≠9;decide⟩
 ·rename_i q;exact ⟨h1,h2,h3,h4,q⟩
def ajz(x z:Int):Sz (ao (3+cm x 2),ao (cm z 3-1)):=by
 have b1:=bM x 2 aF;have b2:=bM z 3 aF;generalize cm x 2=m at*;generalize cm z 3=n at*;have hm:m=0\/m=1:=by omega
 have hn:n=0\/n=1\/n=2:=by omega
 rcases hm with rfl|rfl<;>rcases hn with rfl|rfl|rfl<;>exact ⟨by decide,by decide⟩
section
variable {w u v:World} {a b:Ad} {i n:Nat} {M:Sm} {rows:List iE} {T:Tb} {F:Nat->Prop} {occ:Value}
set_option maxHeartbeats 4000000 in
def Iz.leaf(h:Iz w u a b i n M rows T F occ)(hn:n<=800000){s:Sl}{ds:List Dr}(hr:RdK u s 17 (ds.map dL)){k:Nat}{d:Dr}(hk:ds[k]? =some d)(x:Ext u v){bx:Nat}(hb:u.heap.size<=bx/\bx<v.heap.size){p1 p2:Int}(hp:Sz (p1,p2)):
  eA s.a (k:Int) s.n/\aP (dq (ae s.a ((k:Int).toNat*17))) (∃fg:Int,ld v (ae (ae s.a ((k:Int).toNat*17)) 0)=some (.int .i64 fg)/\
   Br (((Int.tmod fg 4):Int)==0)
    (ah 20 #[.pointer (aB b.t),.agg #[p1,p2]] v (λe dX=>∃gm:Int,e=gm/\dX.heap[bx]? =v.heap[bx]?/\Izs w dX a b i (n+20)))
    (Br (((Int.tmod fg 4):Int)==1)
     (ah 21 #[.pointer (aB b.t),.agg #[p1,p2]] v (λe dX=>∃gm:Int,e=gm/\dX.heap[bx]? =v.heap[bx]?/\Izs w dX a b i (n+20)))
     (Br (((Int.tmod fg 4):Int)==2)
      (ah 22 #[.pointer (aB b.t)] v (λe dX=>∃gm gn:Int,e=Value.tuple #[gm,gn]/\dX.heap[bx]? =v.heap[bx]?/\Izs w dX a b i (n+20)))
      (ah 23 #[.pointer (aB b.t),.agg #[aa,aa]] v (λe dX=>∃gm:Int,e=gm/\dX.heap[bx]? =v.heap[bx]?/\Izs w dX a b i (n+20)))))):=by
 have hl:k<s.n:=by have:=hr.n;rw [aN] at this;have:=(cG.1 hk).1;omega
 have inb:eA s.a (k:Int) s.n:=hr.im aF ab ab;have dy:(ds.map dL)[(k:Int).toNat]? =some (dL d):=by rw [dQ,aR,hk];rfl
 refine ⟨inb,fT (by unfold ae;rw [Option.isSome_map];exact inb.1) ⟨d.kind,(hr.ext x).at dy (j:=0) rfl,Br.mk (λ_=> ?_) (λ_=>Br.mk (λ_=> ?_) (λ_=>Br.mk (λ_=> ?_) (λ_=> ?_)))⟩⟩
 ·refine (h.load x hn hp).mono ?_;rintro e u' ⟨c,rfl,k1,k2⟩;exact ⟨c,rfl,k1 _ hb,k2⟩
 ·refine (h.aji x hn hp).mono ?_;rintro e u' ⟨c,rfl,k1,k2⟩;exact ⟨c,rfl,k1 _ hb,k2⟩
 ·refine (h.amI x hn).mono ?_;rintro e u' ⟨c,c',rfl,k1,k2⟩;exact ⟨c,c',rfl,k1 _ hb,k2⟩
 ·refine (h.fl (p:=(0,0)) x hn).mono ?_;rintro e u' ⟨c,rfl,k1,k2⟩;exact ⟨c,rfl,k1 _ hb,k2⟩
end
set_option maxHeartbeats 16000000 in
def BW(ak:Int){s1 s2:Sl}{d1 d2:List Dr}{w:World}(eR:RdK w s1 17 (d1.map dL))(hd1:∀d ∈ d1,dIn d)(AU:RdK w s2 17 (d2.map dL))(hd2:∀d ∈ d2,dIn d):
  ah 6 #[ak,s1,s2] w λe w'=>e=true/\Ext w w':=by
 apply (ym.vc (a1:=s1) (a2:=s2));have Ml:s1.n=d1.length:=by rw [eR.n,aN]
 have Vt:s2.n=d2.length:=by rw [AU.n,aN]
 refine (FC ak 8 10 aF w).mono ?_;rintro e w0 ⟨a,rfl,hA⟩;refine ⟨_,_,rfl,(FC ak 8 16 aF w0).mono ?_⟩;rintro e w3 ⟨b,rfl,hB⟩;have hI:=iz0 hA hB;obtain ⟨q1,q2,q3⟩:=hB.e0;refine ⟨_,_,rfl,fP rfl (fP rfl (fT rfl (fT rfl ⟨_,q1,q2.mono ?_⟩)))⟩;rintro e u ⟨rfl,hv⟩;subst hv;refine ⟨_,rfl,q3.mono ?_⟩;rintro e u ⟨rfl,hv⟩;subst hv;refine ⟨_,rfl,fP rfl ⟨λn x u=>∃i:Nat,x=i/\i+n=20/\Izs w u a b i (20*i),⟨20,0,rfl,rfl,hI⟩,?_⟩⟩;rintro n us x dB ⟨i,rfl,pc,M,rows,T,F,occ,h⟩;have stop:ah 14 #[] dB λe eT=>∃YZ:Bool,e=YZ/\Ending.returned (.bool YZ)=true/\Ext w eT:=by refine (LU dB).mono ?_;rintro e eT ⟨rfl,eL⟩;exact ⟨_,rfl,rfl,h.x.tr eL⟩
 refine Br.mk (λhq=>Br.mk (λhq2=> ?_) (λ_=>stop)) (λ_=>stop);have hq:=cU hq;have hq2:=cU hq2;refine ⟨λu=>Izs w u a b i (20*i+20),Br.mk (λhf=> ?_) (λ_=>⟨M,rows,T,F,occ,h.B,h.E,h.f,h.J,h.t,h.r,by have:=h.d;omega⟩),?_⟩
 ·have hf:=cU hf;obtain ⟨d,hdi⟩:=bE (l:=d2) (i:=i) ab;obtain ⟨-,-,-,⟨dp1,dp2⟩,-⟩:=hd2 d (aX hdi);have hr:=AU.ext h.x;have dy:(d2.map dL)[(i:Int).toNat]? =some (dL d):=by rw [dQ,aR,hdi];rfl
  have inb:eA s2.a (i:Int) s2.n:=hr.im aF ab hf;have n1:(ae s2.a ((i:Int).toNat*17)).isSome=true:=by unfold ae;rw [Option.isSome_map];exact inb.1
  have n2:(ae (ae s2.a ((i:Int).toNat*17)) 3).isSome=true:=by rw [dn];unfold ae;rw [Option.isSome_map];exact inb.1
  have LL:∀{u:World},Ext dB u->af u (ae (ae s2.a ((i:Int).toNat*17)) 3) 0 [d.p.1,d.p.2]:=λx=>kB (hr.ext x) dy λj hj=>by
   have hj:j<2:=hj;have:j=0\/j=1:=by omega
   rcases this with rfl|rfl<;>rfl
  have xd:=Ext.dr dB;have zd:=lE dB;have hp:=ajz d.p.1 d.p.2;refine ⟨inb,fT n1 (fT n2 ⟨_,(LL xd).1,inb,fT n1 (fT n2 ⟨_,(LL xd).2,(c8 d.p.1 2 dB.drew dp1 aF (by unfold bN;omega)).mono ?_,λv e1=> ?_⟩)⟩)⟩
  ·rintro e v ⟨rfl,hv⟩;subst hv;refine ⟨_,rfl,lQ (LL xd).2,(c8 d.p.2 3 dB.drew dp2 aF (by unfold bN;omega)).mono ?_,λv e1=> ?_⟩
   ·rintro e v ⟨rfl,hv⟩;subst hv;refine ⟨_,rfl,λv e1 v2 e2=> ?_,λv e1 v2 e2=> ?_⟩
    ·exact h.leaf ab hr hdi (xd.tr ((aQ e1).ag e2 (aC _))) ⟨by omega,by rw [zR e2,zA e1];omega⟩ hp
    ·exact h.leaf ab hr hdi (xd.tr ((aQ e1).ag e2 (aC _))) ⟨by omega,by rw [zR e2,zA e1];omega⟩ hp
   ·have y1:=aQ e1;refine (c8 d.p.2 3 v dp2 aF (by unfold bN;omega)).mono ?_;rintro e v1 ⟨rfl,hv⟩;subst hv;exact ⟨_,rfl,rfl,λv2 e2=>h.leaf ab hr hdi (xd.tr (y1.ag e2 (aC _))) ⟨by omega,by rw [zR e2,zA e1];omega⟩ hp⟩
  ·have y1:=aQ e1;refine (c8 d.p.1 2 v dp1 aF (by unfold bN;omega)).mono ?_;rintro e v1 ⟨rfl,hv⟩;subst hv;refine ⟨_,rfl,rfl,lQ (LL (xd.tr y1)).2,(c8 d.p.2 3 _ dp2 aF (by unfold bN;omega)).mono ?_⟩;rintro e v1 ⟨rfl,hv⟩;subst hv;exact ⟨_,rfl,rfl,λv2 e2=>h.leaf ab hr hdi (xd.tr (y1.ag e2 (aC _))) ⟨by omega,by rw [zR e2,zA e1];omega⟩ hp⟩
 rintro us l6 ⟨M,rows,T,F,occ,h⟩;obtain ⟨d,hdi⟩:=bE (l:=d1) (i:=i) ab;have hdd:=hd1 d (aX hdi);obtain ⟨k0,k1,k2,k3,k9⟩:=ajA hdd;have hr:=eR.ext h.x;have dy:(d1.map dL)[(i:Int).toNat]? =some (dL d):=by rw [dQ,aR,hdi];rfl
 refine ⟨hr.im aF ab hq,_,_,_,_,_,_,_,_,_,_,_,_,_,_,_,_,_,hr.bY dy,λu1 e1 u2 e2=> ?_⟩;have x2:Ext l6 u2:=(aQ e1).ag e2 (aC _);have z2:u2.heap.size=l6.heap.size+1:=by rw [zR e2,zA e1]
 have r2:∃τ,Row u2 l6 (dL d) τ:=⟨_,by rw [e2,e1];exact Row.set (Row.new l6 [_,_,_,_,_,_,_,_,_,_,_,_,_,_,_,_,_] _) [_,_,_,_,_,_,_,_,_,_,_,_,_,_,_,_,_]⟩;obtain ⟨τ,r2⟩:=r2;refine ⟨λx0 x1 x2 x3 x4 x5 x6 x7 x8 x9 bj bu bV cn bI cw xb u=>x0=(mM d).kind/\x1=(mM d).n/\x2=(mM d).b/\x3=(mM d).p.1/\x4=(mM d).p.2/\x5=(mM d).c.1/\x6=(mM d).c.2.1/\x7=(mM d).c.2.2/\x8=(mM d).aD.1/\x9=(mM d).aD.2.1/\bj=(mM d).aD.2.2/\bu=(mM d).c9.1/\bV=(mM d).c9.2.1/\cn=(mM d).c9.2.2/\bI=(mM d).pQ.1/\cw=(mM d).pQ.2.1/\xb=(mM d).pQ.2.2/\Ext l6 u/\u.heap.size=l6.heap.size+1/\∃τ,Row u l6 (dL (mM d)) τ,?_,?_⟩
 ·have same:¬(d.kind>=0/\d.kind<=2)->mM d=d:=λq=>if_neg q
  refine Br.mk (λq=>Br.mk (λq' u3 e3=> ?_) (λq'=> ?_)) (λq=> ?_)
  ·have e:mM d={d with kind:=11}:=if_pos ⟨by simpa using q,by simpa using q'⟩;rw [e];exact ⟨rfl,rfl,rfl,rfl,rfl,rfl,rfl,rfl,rfl,rfl,rfl,rfl,rfl,rfl,rfl,rfl,rfl,x2.ag e3 (aC _),by rw [zR e3];exact z2,_,by rw [e3];exact Row.set r2 [_,_,_,_,_,_,_,_,_,_,_,_,_,_,_,_,_]⟩
  ·rw [same λs=>by have:¬d.kind<=2:=(by simpa using q');exact this s.2]
   exact ⟨rfl,rfl,rfl,rfl,rfl,rfl,rfl,rfl,rfl,rfl,rfl,rfl,rfl,rfl,rfl,rfl,rfl,x2,z2,_,r2⟩
  ·rw [same λs=>by have:¬d.kind>=0:=(by simpa using q);exact this s.1]
   exact ⟨rfl,rfl,rfl,rfl,rfl,rfl,rfl,rfl,rfl,rfl,rfl,rfl,rfl,rfl,rfl,rfl,rfl,x2,z2,_,r2⟩
 rintro us x0 x1 x2 x3 x4 x5 x6 x7 x8 x9 bj bu bV cn bI cw xb u2 ⟨rfl,rfl,rfl,rfl,rfl,rfl,rfl,rfl,rfl,rfl,rfl,rfl,rfl,rfl,rfl,rfl,rfl,x2,z2,τ,r2⟩;refine ⟨λx0 x1 x2 x3 x4 x5 x6 x7 x8 x9 bj bu bV cn bI cw xb u=>x0=(B4 (mM d)).kind/\x1=(B4 (mM d)).n/\x2=(B4 (mM d)).b/\x3=(B4 (mM d)).p.1/\x4=(B4 (mM d)).p.2/\x5=(B4 (mM d)).c.1/\x6=(B4 (mM d)).c.2.1/\x7=(B4 (mM d)).c.2.2/\x8=(B4 (mM d)).aD.1/\x9=(B4 (mM d)).aD.2.1/\bj=(B4 (mM d)).aD.2.2/\bu=(B4 (mM d)).c9.1/\bV=(B4 (mM d)).c9.2.1/\cn=(B4 (mM d)).c9.2.2/\bI=(B4 (mM d)).pQ.1/\cw=(B4 (mM d)).pQ.2.1/\xb=(B4 (mM d)).pQ.2.2/\Ext l6 u/\u.heap.size=l6.heap.size+1/\∃τ,Row u l6 (dL (B4 (mM d))) τ,?_,?_⟩
 ·refine Br.mk (λq u3 e3=> ?_) (λq=> ?_)
  ·have e:B4 (mM d)={mM d with kind:=10}:=if_pos (by simpa using q);rw [e];exact ⟨rfl,rfl,rfl,rfl,rfl,rfl,rfl,rfl,rfl,rfl,rfl,rfl,rfl,rfl,rfl,rfl,rfl,x2.ag e3 (aC _),by rw [zR e3];exact z2,_,by rw [e3];exact Row.set r2 [_,_,_,_,_,_,_,_,_,_,_,_,_,_,_,_,_]⟩
  ·have e:B4 (mM d)=mM d:=if_neg (by simpa using q);rw [e];exact ⟨rfl,rfl,rfl,rfl,rfl,rfl,rfl,rfl,rfl,rfl,rfl,rfl,rfl,rfl,rfl,rfl,rfl,x2,z2,_,r2⟩
 rintro us x0 x1 x2 x3 x4 x5 x6 x7 x8 x9 bj bu bV cn bI cw xb Ua ⟨rfl,rfl,rfl,rfl,rfl,rfl,rfl,rfl,rfl,rfl,rfl,rfl,rfl,rfl,rfl,rfl,rfl,x3,z3,τ,r3⟩;generalize B4 (mM d)=d3 at*;refine (h.ar1 x3 ab d3 k0 k1 k2 k3 k9).mono ?_;rintro e Ub ⟨rfl,kk1,avp⟩;have bx:l6.heap.size<=l6/\l6.heap.size<Ua:=⟨aC _,by omega⟩;refine ⟨_,rfl,kk1 _ bx,fP rfl (avp.mono ?_)⟩;rintro e vj ⟨rfl,kk2,M',rows',T',F',occ',h'⟩;have ao8:=r3.same ((kk2 _ bx).trans (kk1 _ bx));have iC:=ao8.lt;obtain ⟨Fa,oca,hEa,-⟩:=h'.B.e;refine ⟨rfl,kk2 _ bx,(uT (hEa.ext (Ext.dr vj))).mono ?_⟩;rintro e ag6 ⟨sa,rfl,hoa,xa⟩;have za:=xa.size;have zd:=lE vj;refine ⟨sa,rfl,xa.heap ab,(uT (h'.E.ext ((Ext.dr _).tr xa))).mono ?_⟩;rintro e adT ⟨sb,rfl,Vx,xb⟩;have zb:=xb.size;have iy:=afP (KF M' (rows'.map ai));refine ⟨sb,rfl,xb.heap ab,(DV sa sb (mX M' (rows'.map ai)) (mX M' (rows'.map ai)) adT ((hoa.ext xb).rd aF) (Vx.rd aF) iy iy).mono ?_⟩;rintro e Um ⟨rfl,hv⟩;subst hv;have y:=(Ext.dr vj).tr (xa.tr xb);have hcw:pW (iL d3.c):=by have b1:=bM d3.c.1 10 aF;have b2:=bM d3.c.2.1 14 aF;have b3:=bM d3.c.2.2 10 aF;unfold pW bN iL;simp only;omega
 have avq:(iL d3.c).1<48:=by have b1:=bM d3.c.1 10 aF;unfold iL;simp only;omega
 have hdc:pW d3.c:=k0.2.2.2.2.1;have cl:∀{u:World},Ext vj u->af u (dC l6.heap.size 5) 0 (eg d3.c):=λx=>(ao8.ext x).bY λj hj=>by
  have hj:j<3:=hj;have:j=0\/j=1\/j=2:=by omega
  rcases this with rfl|rfl|rfl<;>rfl
 obtain ⟨Fs,hsA,hldA,-⟩:=(hEa.ext y).ud;obtain ⟨FwA,hWA,-⟩:=hsA.world;obtain ⟨Ft,hsB,hldB,-⟩:=(h'.E.ext y).ud;refine ⟨_,rfl,rfl,fP cp (fT rfl (fT rfl ⟨_,hldA,fT rfl (fT rfl ⟨_,hldB,(fY hsA).mono ?_⟩)⟩))⟩;rintro e v ⟨rfl,hv⟩;subst hv;refine ⟨_,rfl,rfl,cl y,N2 hldB,cl y,(fz hWA).mono ?_⟩;rintro e v ⟨rfl,hv⟩;subst hv;refine ⟨_,rfl,rfl,cl y,N2 hldB,cl y,(r6 d3.c hdc _).mono ?_⟩;rintro e Ed ⟨rfl,x5⟩;have z5:=x5.size;obtain ⟨-,-,hldB5,-⟩:=(h'.E.ext (y.tr x5)).ud;refine ⟨_,_,_,rfl,x5.heap ab,cl (y.tr x5),N2 hldB5,((hEa.ext (y.tr x5)).tl.at hcw|>λhh=>dw hh ?_)⟩;rintro e Zp ⟨rfl,x6⟩;have z6:=x6.size;have y6:=(y.tr x5).tr x6;obtain ⟨Ft6,hsB6,hldB6,-⟩:=(h'.E.ext y6).ud;obtain ⟨FwB,hWB,-⟩:=hsB6.world;refine ⟨_,rfl,x6.heap ab,cl y6,N2 hldB6,(fY hsB6).mono ?_⟩;rintro e v ⟨rfl,hv⟩;subst hv;refine ⟨_,rfl,rfl,cl y6,(fz hWB).mono ?_⟩;rintro e v ⟨rfl,hv⟩;subst hv;refine ⟨_,rfl,rfl,cl y6,(r6 d3.c hdc _).mono ?_⟩;rintro e IK ⟨rfl,x7⟩;have z7:=x7.size;refine ⟨_,_,_,rfl,x7.heap ab,((h'.E.ext (y6.tr x7)).tl.at hcw|>λhh=>dw hh ?_)⟩;rintro e ag7 ⟨rfl,x8⟩;have z8:=x8.size;have Mb:=h'.ext ((y6.tr x7).tr x8);have ev:fj M'.T.2 (iL d3.c)=fj T'.2 (iL d3.c):=h'.t.v _ avq;refine ⟨_,rfl,x8.heap ab,fP (by show (fj M'.T.2 (iL d3.c) !=fj T'.2 (iL d3.c))=false;rw [ev];simp) ⟨n-1,by omega,i+1,by rw [wI];omega,by omega,M',rows',T',F',occ',?_⟩⟩;exact ⟨Mb.B,Mb.E,Mb.f,Mb.J,Mb.t,Mb.r,by have:=Mb.d;omega⟩
end Go.Proofs.YtkkkfkopcfdmaaaGreatDoor
