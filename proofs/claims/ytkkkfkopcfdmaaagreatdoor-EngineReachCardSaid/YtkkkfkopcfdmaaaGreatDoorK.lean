import Derived.Test.YtkkkfkopcfdmaaaGreatDoorJ
import Derived.Test.YtkkkfkopcfdmaaaGreatDoorI
set_option linter.all false
namespace Go.Proofs.YtkkkfkopcfdmaaaGreatDoor
open Go Go.Vc Go.RowKit Go.Proofs Go.dJ Go.bj Go.Code Go.gg Go.fR Go.jV
set_option maxRecDepth 100000
def B3(h:Qy):Ce × Bool:=if 0<=h.2.2.1/\h.2.2.1<6 then ((pN h.1).getD h.2.2.1.toNat (0,0,0),true) else ((0,0,0),false)
theorem MN(h:Qy)(hc:eO h.1)(w:World):ah 109 #[Sa h] w λe w'=>e=Value.tuple #[dY (B3 h).1,.bool (B3 h).2]/\Ext w w':=by
 obtain ⟨c,b,f,t⟩:=h;apply PV.vc;intro w0 e0 w1 e1;have x0:=aL e0;have z0:=zA e0;have r0:∃τ,Row w0 w [c.1,c.2.1,c.2.2,b,f,t] τ:=⟨_,by rw [e0];exact Row.new w [_,_,_,_,_,_] _⟩;have x1:=aL e1;have z1:=zA e1;have jT:=x0.tr x1;have hd:=lG w1;obtain ⟨τ,r0⟩:=r0;unfold B3;simp only;refine Br.mk (λh=>λw2 e2=> ?_) (λh=>Br.mk (λh2=>λw3 e3=> ?_) (λh2=>(iP c hc w1.drew).mono ?_))
 ·have h:f<0:=by simpa using h
  rw [if_neg ab];exact ⟨rfl,jT.ae e2 ab⟩
 ·have h2:f>=6:=by simpa using h2
  rw [if_neg ab];exact ⟨rfl,jT.ae e3 ab⟩
 ·have h:¬f<0:=by simpa using h
  have h2:¬f>=6:=by simpa using h2
  obtain ⟨k,rfl⟩:∃k:Nat,f=k:=⟨f.toNat,by omega⟩;rw [if_pos ab,ej];rintro e w4 ⟨rfl,x4⟩;have z4:=x4.size;refine ⟨_,_,_,_,_,_,_,_,_,_,_,_,_,_,_,_,_,_,rfl,x4.heap ab,x4.heap ab,kB (r0.ext (x1.tr ((Ext.dr w1).tr x4))) rfl,⟨by omega,by omega⟩,((pN c).getD k (0,0,0)).1,((pN c).getD k (0,0,0)).2.1,((pN c).getD k (0,0,0)).2.2,?_,λfi zk=>⟨rfl,(jT.tr ((Ext.dr w1).tr x4)).ae zk ab⟩⟩;have:k=0\/k=1\/k=2\/k=3\/k=4\/k=5:=by omega
  rcases this with rfl|rfl|rfl|rfl|rfl|rfl<;>rfl
def ij(b:ef):Ce:=jU b.aI (0,Int.tdiv (b.ht*4) 5,0)
theorem E2(b:ef)(hh: -1000000000<=b.ht/\b.ht<=1000000000)(w:World):ah 88 #[BV b] w λe w'=>e=(dY (ij b))/\Ext w w':=by
 apply Gm.vc;intro w0 e0 w1 e1;have x0:=aL e0;have z0:=zA e0;have x1:=aL e1;have z1:=zA e1;have e4:aj (Int.tdiv (aj (b.ht*4)) 5)=Int.tdiv (b.ht*4) 5:=by
  have h5: -4000000000<=Int.tdiv (b.ht*4) 5/\Int.tdiv (b.ht*4) 5<=4000000000:=by
   rcases Int.le_total 0 (b.ht*4) with h|h
   ·rw [qb h];omega
   ·have e:b.ht*4= -(-(b.ht*4)):=by omega
    rw [e,Int.neg_tdiv,qb ab];omega
  rw [aK (n:=b.ht*4) (by unfold inI;omega),wI]
 rw [e4];refine (iS b.aI (0,Int.tdiv (b.ht*4) 5,0) w1).mono ?_;rintro e w2 ⟨rfl,x2⟩;have z2:=x2.size;exact ⟨_,_,_,rfl,x2.heap ab,x2.heap ab,λw6 e6=>⟨rfl,(x0.tr (x1.tr x2)).ae e6 ab⟩⟩
def vg(c:Ce):Bx:=((pO c.1,pO c.2.1,pO c.2.2),jU (pO c.1,pO c.2.1,pO c.2.2) (65536,65536,65536))
theorem TT(c:Ce)(w:World):ah 121 #[dY c] w λe w'=>e=(qQ (vg c))/\Ext w w':=by
 apply Ye.vc;intro w0 e0 w1 e1;have x0:=aL e0;have z0:=zA e0;have r0:∃τ,Row w0 w [c.1,c.2.1,c.2.2] τ:=⟨_,by rw [e0];exact Row.new w [_,_,_] _⟩;have x1:=aL e1;have z1:=zA e1;have hd:=lG w1;obtain ⟨τ,r0⟩:=r0;have r1:=r0.ext (x1.tr (Ext.dr w1));have jT:=x0.tr (x1.tr (Ext.dr w1));have last:∀v1 v2:World,v1=w1.drew.alloc (.cells #[aa,aa,aa] eu)->v2=v1.setRow w1.drew.heap.size #[(pO c.1),(pO c.2.1),(pO c.2.2)]->
   ah 145 #[dY (pO c.1,pO c.2.1,pO c.2.2),dY (65536,65536,65536)] v2.drew λe bO=>∃x y z:Int,e=Value.agg #[x,y,z]/\bO.heap[w.heap.size]? =v2.drew.heap[w.heap.size]?/\bO.heap[w0.heap.size]? =v2.drew.heap[w0.heap.size]?/\bO.heap[w1.drew.heap.size]? =v2.drew.heap[w1.drew.heap.size]?/\
    ag bO (some ⟨w1.drew.heap.size,0,none⟩) 0 [(pO c.1),(pO c.2.1),(pO c.2.2)]/\∀bP:World,bP=bO.setRow w0 #[(pO c.1),(pO c.2.1),(pO c.2.2),x,y,z]->
    Ending.returned (.agg #[(pO c.1),(pO c.2.1),(pO c.2.2),x,y,z])=(qQ (vg c))/\Ext w bP:=by
  intro v1 v2 f1 f2;have y1:Ext w1.drew v2:=(aL f1).ae f2 (aB _);have s2:v2.drew.heap.size=w1.heap.size+1:=by show v2.heap.size=_;rw [zR f2,zA f1];rfl
  have rv:Row v2 w1.drew.heap.size [(pO c.1),(pO c.2.1),(pO c.2.2)] eu:=by rw [f2,f1];exact Row.set (Row.new w1.drew [_,_,_] _) [_,_,_]
  refine (iS (pO c.1,pO c.2.1,pO c.2.2) (65536,65536,65536) v2.drew).mono ?_;rintro e bO ⟨rfl,bh⟩;exact ⟨_,_,_,rfl,bh.heap ab,bh.heap ab,bh.heap ab,Lo.wv (rv.ext ((Ext.dr v2).tr bh)),λbP ux=>⟨rfl,(jT.tr (y1.tr ((Ext.dr v2).tr bh))).ae ux ab⟩⟩
 have of1:∀(n:Int) {u:World} {R:Ending->World->Prop},R (.returned (.int .i64 (pO n))) u->ah 174 #[.int .i64 n] u R:=λn u R h=>(qY n u).mono (by rintro e w' ⟨rfl,rfl⟩;exact h)
 have l2:ag w1.drew (some ⟨w.heap.size,2,none⟩) 0 [c.2.2]:=kB r1 rfl;have l1:ag w1.drew (some ⟨w.heap.size,1,none⟩) 0 [c.2.1]:=kB r1 rfl;refine ⟨of1 _ ⟨_,rfl,rfl,rfl,l2,l1,of1 _ ⟨_,rfl,rfl,rfl,l2,of1 _ ⟨_,rfl,rfl,rfl,λw8 e8 w9 e9=>last _ _ e8 e9,λw8 e8 w9 e9=>last _ _ e8 e9⟩,λdT yX=> ?_⟩,λfJ e31=> ?_⟩,λku ZV=> ?_⟩
 ·exact of1 _ ⟨_,rfl,rfl,rfl,rfl,λcU wK=>last _ _ yX wK⟩
 ·have xa:=aL e31;exact of1 _ ⟨_,rfl,rfl,rfl,rfl,kB (r1.ext xa) rfl,of1 _ ⟨_,rfl,rfl,rfl,rfl,λjW ZY=>last _ _ e31 ZY⟩⟩
 ·have xa:=aL ZV;exact of1 _ ⟨_,rfl,rfl,rfl,rfl,kB (r1.ext xa) rfl,kB (r1.ext xa) rfl,of1 _ ⟨_,rfl,rfl,rfl,rfl,kB (r1.ext xa) rfl,of1 _ ⟨_,rfl,rfl,rfl,rfl,λlA e49=>last _ _ ZV e49⟩⟩⟩
def DP(c:Ce)(x:Option dZ):Bool:=match x with|some y=>jB y.1.box (vg c)|none=>false
def qi(L:List (Option dZ))(c:Ce):Bool:=L.any (DP c)
set_option maxHeartbeats 1000000 in
theorem Py{w:World}{a:Option Nat}{x:Option dZ}(ha:∀b,a=some b->∃y,x=some y/\Row w b (J7 y) kQ/\inI y.1.wd)(hn:a=none->x=none){c:Ce}{g:Nat}{τ:TypeId}(hg:Row w g (fV (vg c)) τ):
  ah 123 #[pA a,g] w λe w'=>e=Value.bool (DP c x)/\Ext w w':=by
 cases a with
 |none=>
  rw [hn rfl];apply sI.vc;exact eZ rfl ⟨rfl,Ext.dr w⟩
 |some b=>
  obtain ⟨y,rfl,hr,hw⟩:=ha b rfl;apply (tz.vc (a0:=⟨b,0,none⟩));refine ⟨_,_,_,_,_,_,_,_,_,(hr.ext (Ext.dr w)).bZ (vs:=jo y.1) (o:=0) (λj hj=> ?_),_,_,_,_,_,_,Lo.wv (hg.ext (Ext.dr w)),(cP y.1 hw w.drew).mono ?_⟩
  ·have hj:j<9:=hj;have:j=0\/j=1\/j=2\/j=3\/j=4\/j=5\/j=6\/j=7\/j=8:=by omega
   rcases this with rfl|rfl|rfl|rfl|rfl|rfl|rfl|rfl|rfl<;>rfl
  rintro e eA ⟨rfl,cA⟩;refine ⟨_,_,_,_,_,_,rfl,Lo.wv (hg.ext ((Ext.dr w).tr cA)),(yC y.1.box (vg c) eA).mono ?_⟩;rintro e dT ⟨rfl,dN⟩;exact ⟨_,rfl,rfl,(Ext.dr w).tr (cA.tr dN)⟩
def sC(m:Int)(L:List (Option dZ)):Prop:=∀y,some y ∈ L->okB m y.1
theorem sC.up{m n:Int}{L:List (Option dZ)}(h:sC m L)(hn:m<=n):sC n L:=λy hy=>(h y hy).up hn
section
variable {F F':Nat->Prop} {w w':World} {g s o t:Nat} {M M':Sm} {occ:Value} {L:List (Option dZ)}
theorem EL.held{av:List (Option Nat)}(he:EL w av L){m:Int}(hL:sC m L){k:Nat}{a:Option Nat}(ha:av[k]? =some a):
  ∃x,L[k]? =some x/\(∀b,a=some b->∃y,x=some y/\Row w b (J7 y) kQ/\inI y.1.wd)/\(a=none->x=none):=by
 cases a with
 |none=>exact ⟨none,he.z k ha,λb hb=>(by cases hb),λ_=>rfl⟩
 |some b=>
  obtain ⟨y,hy,hr⟩:=he.s k b ha;exact ⟨some y,hy,λb' hb=>by cases hb;exact ⟨y,rfl,hr,(hL y (bg hy)).wdi⟩,λq=>(by cases q)⟩
set_option maxHeartbeats 1000000 in
theorem KY{p:Value}{av:List (Option Nat)}{τ τ':TypeId}(hr:Row w g (p::av.map pA) τ)(he:EL w av L){m:Int}(hL:sC m L){c:Ce}{b:Nat}(hb:Row w b (fV (vg c)) τ'):
  ah 175 #[.slice (aJ (af (some ⟨g,0,none⟩) 1) 0 16 1) (16-0) (16-0),.func (.func 123) #[] #[b]] w λe w'=>(∃n:Int,e=Value.int .i64 n/\decide (n>=0)=qi L c)/\Ext w w':=by
 apply (sD.vc (a0:=⟨aJ (af (some ⟨g,0,none⟩) 1) 0 16 1,16-0,16-0⟩));rw [ed];refine ⟨λn x wr=>∃k:Nat,x=k/\k+n=16/\Ext w wr/\∀j,j<k->∀y,L[j]? =some y->DP c y=false,⟨16,0,rfl,rfl,Ext.cE _,λj hj=>by omega⟩,?_⟩;rintro n us x wr ⟨k,rfl,hk,xr,mF⟩;apply Br.mk<;>intro hq
 ·have hq:(k:Int)<((16-0:Nat):Int):=by simpa using hq
  obtain ⟨a,ha⟩:=bI (l:=av) (i:=k) (by have:=he.n;omega);obtain ⟨y,hy,h1,h2⟩:=he.held hL ha;refine ⟨⟨rfl,by omega,hq⟩,_,IS (hr.ext xr) ha,cS (by kernel_rfl) rfl ((Py (a:=a) (x:=y) (λb' e=> ?_) h2 (hb.ext xr)).mono ?_)⟩
  ·obtain ⟨z,e1,e2,e3⟩:=h1 b' e;exact ⟨z,e1,e2.ext xr,e3⟩
  rintro e w7 ⟨rfl,x7⟩;refine ⟨_,rfl,Br.mk (λhm=>⟨⟨_,rfl,?_⟩,xr.tr x7⟩) (λhm=> ?_)⟩
  ·rw [decide_eq_true (by omega:(k:Int)>=0)];exact (List.any_eq_true.2 ⟨y,bg hy,hm⟩).symm
  ·have wk:=mz (j:=k);refine ⟨n-1,by omega,k+1,wk,by omega,xr.tr x7,λj hj z hz=> ?_⟩;by_cases q:j<k
   ·exact mF j q z hz
   ·rw [show j=k from by omega,hy] at hz;rw [<-Option.some.inj hz];exact hm
 ·have hq:¬(k:Int)<((16-0:Nat):Int):=by simpa using hq
  refine ⟨⟨_,rfl,?_⟩,xr⟩;rw [decide_eq_false aF];refine (List.any_eq_false.2 λy hy=> ?_).symm;obtain ⟨j,hj⟩:=List.mem_iff_getElem?.1 hy;have:=(cG.1 hj).1;have:=he.m;rw [mF j ab y hj];decide
theorem Hr{p:Value}{av:List (Option Nat)}{τ:TypeId}(hr:Row w g (p::av.map pA) τ)(he:EL w av L){m:Int}(hL:sC m L)(c:Ce):
  ah 66 #[g,dY c] w λe w'=>e=Value.bool (qi L c)/\Ext w w':=by
 apply vL.vc;intro w0 e0;have x0:=aL e0;have z0:=zA e0;refine (TT c w0).mono ?_;rintro e w1 ⟨rfl,x1⟩;have z1:=x1.size;refine ⟨_,_,_,_,_,_,rfl,x1.heap ab,λw8 e8 w9 e9=> ?_⟩;have x9:Ext w1 w9:=(aL e8).ae e9 (aB _);have r9:∃τ',Row w9 w1 (fV (vg c)) τ':=⟨_,by rw [e9,e8];exact Row.set (Row.new w1 [_,_,_,_,_,_] _) [_,_,_,_,_,_]⟩;have z9:w9.heap.size=w1.heap.size+1:=by rw [zR e9,zA e8]
 obtain ⟨τ',r9⟩:=r9;have Nt:=x0.tr (x1.tr x9);refine Calls.mono (pw.vc (a0:=⟨aJ (af (some ⟨g,0,none⟩) 1) 0 16 1,16-0,16-0⟩) (R:=λe w'=>e=Value.bool (qi L c)/\Ext w9 w') ?_) ?_
 ·refine (KY (hr.ext Nt) (he.same λa ha=>Nt.heap (he.lt ha)) hL r9).mono ?_;rintro e bO ⟨⟨n,rfl,hn⟩,bh⟩;exact ⟨n,rfl,by rw [hn],bh⟩
 ·rintro e bO ⟨rfl,bh⟩;exact ⟨_,rfl,bh.heap ab,rfl,Nt.tr bh⟩
end
def KZ(a b:Ce)(n:Nat):Prop:=(-(n:Int)<=a.1-b.1/\a.1-b.1<=n)/\(-(n:Int)<=a.2.1-b.2.1/\a.2.1-b.2.1<=n)/\-(n:Int)<=a.2.2-b.2.2/\a.2.2-b.2.2<=n
theorem af4(c:Ce)(i:Nat):KZ (XO c i) c 1:=by unfold XO KZ;split<;>(simp only;omega)
theorem XP{d c0:Ce}{r:Int}:∀{n:Nat} {s:S3} {h0 h:Hi},h ∈ goK d c0 r n s h0->lq c0 h.1 r=true/\(h.2.1=h0.2.1\/0<=h.2.1/\h.2.1<6)/\KZ h.1 h0.1 n
 |0,s,h0,h,hm=>by cases hm
 |n+1,s,h0,h,hm=>by
  unfold goK at hm
  split at hm
  ·rename_i hw
   rcases cB.1 hm with rfl|hm
   ·exact ⟨hw,.inl rfl,by unfold KZ;omega⟩
   ·cases hq:iZ d s h0 with
    |none=>rw [hq] at hm;cases hm
    |some q=>
     rw [hq] at hm
     obtain ⟨h1,h2,h3⟩:=XP hm
     unfold iZ at hq
     split at hq
     ·cases hq
     injection hq with hq
     refine ⟨h1,.inr ?_,?_⟩
     ·rcases h2 with h2|h2
      ·rw [h2,<-hq]
       have:=at3 s
       simp only
       split<;>omega
      ·exact h2
     ·have hn:KZ q.2.1 h0.1 1:=by rw [<-hq];exact af4 _ _
      unfold KZ at hn h3 ⊢;omega
  ·cases hm
def QP:Qy:=((0,0,0),0,0,0)
def bW(M:Sm)(L:List (Option dZ))(n:Int)(cK:Ce):Qy × Int:=
 match cc L n with
 |none=>(QP,6)
 |some y=>if (hZ (gy M.T.2) (ij y.1) cK 5).2=false then (QP,13) else if (hZ (gy M.T.2) (ij y.1) cK 5).1.2.1= -1 then (QP,11) else ((hZ (gy M.T.2) (ij y.1) cK 5).1,0)
theorem yn{b:ef}{m:Int}(h:okB m b)(hm:m<=99970000000000):(-1600000000<=(br (eJ (ij b))).1/\(br (eJ (ij b))).1<=1600000000)/\(-1600000000<=(br (eJ (ij b))).2.1/\(br (eJ (ij b))).2.1<=1600000000)/\-1600000000<=(br (eJ (ij b))).2.2/\(br (eJ (ij b))).2.2<=1600000000:=by
 obtain ⟨⟨h1,h2,h3⟩,-,h5,-⟩:=h;have ht:0<=Int.tdiv (b.ht*4) 5/\Int.tdiv (b.ht*4) 5<=1000000:=by rw [qb ab];omega
 have e1:(br (eJ (ij b))).1=cu (dB (m4 b.aI.1 0)):=rfl;have e2:(br (eJ (ij b))).2.1=cu (dB (m4 b.aI.2.1 (Int.tdiv (b.ht*4) 5))):=rfl;have e3:(br (eJ (ij b))).2.2=cu (dB (m4 b.aI.2.2 0)):=rfl;rw [e1,e2,e3];unfold cu m4 dB;omega
theorem AI{a b r:Int}(h:rI a b r=true)(ha: -4000000000<=a/\a<=4000000000)(hb: -4000000000<=b/\b<=4000000000):a-b<=r/\b-a<=r:=by unfold rI at h;simp only [fm,cQ] at h;rw [wI,wI] at h;exact h
theorem E1{f d:Ce}{r:Int}(hr:l6 r<=5):∀h ∈ kZ (eJ f) (km d) (l6 r),(((br (eJ f)).1-h.1.1<=5/\h.1.1-(br (eJ f)).1<=5)/\((br (eJ f)).2.1-h.1.2.1<=5/\h.1.2.1-(br (eJ f)).2.1<=5)/\(br (eJ f)).2.2-h.1.2.2<=5/\h.1.2.2-(br (eJ f)).2.2<=5)/\(h.2.1= -1\/0<=h.2.1/\h.2.1<6):=by
 intro h hh;obtain ⟨h1,h2,h3⟩:=XP hh;replace h3:KZ h.1 (br (eJ f)) _:=h3;have hc:=ui (eJ f);have hn:((3*(l6 r).toNat+2:Nat):Int)<=17:=by omega
 unfold KZ at h3;unfold lq at h1;simp only [fm] at h1;have q1:=AI h1.1 ab ab;have q2:=AI h1.2.1 ab ab;have q3:=AI h1.2.2 ab ab;exact ⟨⟨by omega,by omega,by omega⟩,h2⟩
theorem D5{V:Ce->Int}{f d:Ce}{r:Int}(hr:l6 r<=5){h:Qy}(e:hZ V f d r=(h,true)):
  ((br (eJ f)).1-h.1.1<=5/\h.1.1-(br (eJ f)).1<=5)/\((br (eJ f)).2.1-h.1.2.1<=5/\h.1.2.1-(br (eJ f)).2.1<=5)/\((br (eJ f)).2.2-h.1.2.2<=5/\h.1.2.2-(br (eJ f)).2.2<=5)/\V h.1=h.2.1/\(h.2.2.1= -1\/0<=h.2.2.1/\h.2.2.1<6):=by
 unfold hZ at e;split at e
 ·rename_i x hx;obtain ⟨⟨h1,h2,h3⟩,h4⟩:=E1 hr x (List.mem_of_find?_eq_some hx);injection e with e1 e2;subst e1;exact ⟨h1,h2,h3,rfl,h4⟩
 ·injection e with e1 e2
  cases e2
theorem ML{f d:Ce}{r:Int}(hr:l6 r<=5)(hf:(-1600000000<=(br (eJ f)).1/\(br (eJ f)).1<=1600000000)/\(-1600000000<=(br (eJ f)).2.1/\(br (eJ f)).2.1<=1600000000)/\-1600000000<=(br (eJ f)).2.2/\(br (eJ f)).2.2<=1600000000):
  ∀h ∈ kZ (eJ f) (km d) (l6 r),pn h.1:=by
 intro h hh;obtain ⟨h1,-⟩:=E1 hr h hh;unfold pn inI;omega
theorem X5:l6 5=5:=by decide
section
variable {F F':Nat->Prop} {w w':World} {g s o t:Nat} {M M':Sm} {occ:Value} {L:List (Option dZ)}
theorem EL.at{av:List (Option Nat)}(he:EL w av L){k b:Nat}(ha:av[k]? =some (some b)):∃y,cc L k=some y/\some y ∈ L/\Row w b (J7 y) kQ:=by obtain ⟨y,hy,hr⟩:=he.s k b ha;refine ⟨y,?_,bg hy,hr⟩;unfold cc;rw [if_pos ab,ej,hy];rfl
theorem EL.at0{av:List (Option Nat)}(he:EL w av L){k:Nat}(ha:av[k]? =some none):cc L k=none:=by unfold cc;rw [if_pos ab,ej,he.z k ha];rfl
theorem R2{b:Nat}{y:dZ}(hr:Row w b (J7 y) kQ):ag w (af (some ⟨b,0,none⟩) 0) 0 (jo y.1):=by
 rw [bf];refine hr.bZ (o:=0) λj hj=> ?_
 have hj:j<9:=hj;have:j=0\/j=1\/j=2\/j=3\/j=4\/j=5\/j=6\/j=7\/j=8:=by omega
 rcases this with rfl|rfl|rfl|rfl|rfl|rfl|rfl|rfl|rfl<;>rfl
theorem ajA{b:Nat}{y:dZ}(hr:Row w b (J7 y) kQ):ag w (af (some ⟨b,0,none⟩) 9) 0 [y.2.1,y.2.2.1,.bool y.2.2.2]:=by
 rw [bf];refine hr.bZ (o:=9) λj hj=> ?_
 have hj:j<3:=hj;have:j=0\/j=1\/j=2:=by omega
 rcases this with rfl|rfl|rfl<;>rfl
set_option maxHeartbeats 2000000 in
theorem ub(h:EF F w g s o t M occ L){m:Int}(hL:sC m L)(hm:m<=99970000000000)(n:Int)(cK:Ce):
  ah 32 #[g,n,dY cK] w λe w'=>e=Value.tuple #[Sa (bW M L n cK).1,.int .i64 (bW M L n cK).2]/\Ext w w':=by
 apply vW.vc;intro w0 e0 w1 e1;have x0:=aL e0;have z0:=zA e0;have r0:∃τ,Row w0 w (dA cK) τ:=⟨_,by rw [e0];exact Row.new w [_,_,_] _⟩;have x1:=aL e1;have z1:=zA e1;obtain ⟨τ,r0⟩:=r0;have r1:=r0.ext x1;have jT:=x0.tr x1;have h1:=h.ext jT;obtain ⟨av,cO,jn,-,-,-⟩:=h1.row;refine (CS cO jn.n n).mono ?_;rintro e w2 ⟨a,rfl,AQ,hc⟩;subst AQ;refine ⟨_,rfl,rfl,rfl,?_⟩;rcases hc with ⟨k,rfl,hk,ha⟩|⟨iX,rfl⟩
 case inr=>
  refine yes rfl λw4 e4=>⟨?_,jT.ae e4 ab⟩
  unfold bW;rw [qv jn.m iX];rfl
 cases a with
 |none=>
  refine yes rfl λw4 e4=>⟨?_,jT.ae e4 ab⟩
  unfold bW;rw [jn.at0 ha];rfl
 |some b=>
  obtain ⟨y,hy,mg,Rp⟩:=jn.at ha;have oky:=hL y mg;refine eZ rfl (fU rfl (fU rfl ?_));have xd:=Ext.dr w2;have hd:=lG w2;have eyn:=yn oky hm;have hhb: -1000000000<=y.1.ht/\y.1.ht<=1000000000:=by have:=oky.2.2.1;omega
  have pQ:bW M L k cK=if (hZ (gy M.T.2) (ij y.1) cK 5).2=false then (QP,13) else if (hZ (gy M.T.2) (ij y.1) cK 5).1.2.1= -1 then (QP,11) else ((hZ (gy M.T.2) (ij y.1) cK 5).1,0):=by unfold bW;rw [hy]
  have castS:∀{u:World},Ext w2.drew u->ah 87 #[.func (.func 83) #[t] #[],dY (ij y.1),dY cK,(5:Int)] u λe w'=>e=Value.tuple #[Sa (hZ (gy M.T.2) (ij y.1) cK 5).1,.bool (hZ (gy M.T.2) (ij y.1) cK 5).2]/\Ext u w':=λ{u} xu=>
   H8 (h1.ext (xd.tr xu)).tl rfl (ij y.1) cK 5 ⟨by omega,by omega,by omega⟩ (ML (by rw [X5];decide) eyn)
  generalize hZ (gy M.T.2) (ij y.1) cK 5=ck at pQ castS;obtain ⟨⟨⟨cx,cy,cz⟩,cb,cf,ct⟩,cq⟩:=ck;have fin:∀{u:World},Ext w2.drew u->Br (!cq)
    (∀fu:World,fu=u.setRow w0 #[aa,aa,aa,aa,aa,aa]->Ending.returned (.tuple #[.agg #[aa,aa,aa,aa,aa,aa],(13:Int)])=Value.tuple #[Sa (bW M L k cK).1,.int .i64 (bW M L k cK).2]/\Ext w fu)
    (Br (cb==(-1))
     (∀fu:World,fu=u.setRow w0 #[aa,aa,aa,aa,aa,aa]->Ending.returned (.tuple #[.agg #[aa,aa,aa,aa,aa,aa],(11:Int)])=Value.tuple #[Sa (bW M L k cK).1,.int .i64 (bW M L k cK).2]/\Ext w fu)
     (∀fu:World,fu=u.setRow w0 #[cx,cy,cz,cb,cf,ct]->Ending.returned (.tuple #[.agg #[cx,cy,cz,cb,cf,ct],(0:Int)])=Value.tuple #[Sa (bW M L k cK).1,.int .i64 (bW M L k cK).2]/\Ext w fu)):=by
   intro u xu;have xx:=jT.tr (xd.tr xu);rw [pQ];refine Br.mk (λhb=>λfu J9=>⟨?_,xx.ae J9 ab⟩) (λhb=>Br.mk (λjC=>λfu J9=>⟨?_,xx.ae J9 ab⟩) (λjC=>λfu J9=>⟨?_,xx.ae J9 ab⟩))
   ·have hb:cq=false:=by simpa using hb
    rw [if_pos hb];rfl
   ·have hb:cq=true:=by simpa using hb
    have jC:cb= -1:=by simpa using jC
    rw [if_neg (by simp [hb]),if_pos jC];rfl
   ·have hb:cq=true:=by simpa using hb
    have jC:¬cb= -1:=by simpa using jC
    rw [if_neg (by simp [hb]),if_neg jC]
  have wayL:∀{u:World},Ext w2.drew u->ag u (some ⟨w.heap.size,0,none⟩) 0 (dA cK):=λxu=>Lo.wv (r1.ext (xd.tr xu))
  have bdyL:∀{u:World},Ext w2.drew u->ag u (af (some ⟨b,0,none⟩) 0) 0 (jo y.1):=λxu=>R2 (Rp.ext (xd.tr xu))
  refine ⟨_,_,_,_,_,_,_,_,_,bdyL (Ext.cE _),?_,?_⟩
  ·refine (kU (h1.ext xd)).mono ?_;rintro e bP ⟨rfl,aiw⟩;subst aiw;refine ⟨_,rfl,rfl,rfl,wayL (Ext.cE _),bdyL (Ext.cE _),?_,λqC e46=> ?_⟩
   ·refine (E2 y.1 hhb w2.drew).mono ?_;rintro e cJ ⟨rfl,cD⟩;have z16:=cD.size;refine ⟨_,_,_,rfl,cD.heap ab,cD.heap ab,wayL cD,?_,λeM M5=> ?_⟩
    ·refine (castS cD).mono ?_;rintro e fx ⟨rfl,cW⟩;have z20:=cW.size;refine ⟨_,_,_,_,_,_,_,rfl,cW.heap ab,cW.heap ab,λgN e28 dR M3=> ?_⟩;exact fin ((cD.tr cW).tr ((aL e28).ae M3 (aB _)))
    ·have eF:=aL M5;have z33:=zA M5;refine (castS (cD.tr eF)).mono ?_;rintro e jc ⟨rfl,g8⟩;have z34:=g8.size;refine ⟨_,_,_,_,_,_,_,rfl,g8.heap ab,g8.heap ab,g8.heap ab,λku ZV=> ?_⟩;exact fin (((cD.tr eF).tr g8).ae ZV ab)
   ·have gC:=aL e46;have z46:=zA e46;refine (E2 y.1 hhb qC).mono ?_;rintro e lg ⟨rfl,ph⟩;have z47:=ph.size;refine ⟨_,_,_,rfl,ph.heap ab,ph.heap ab,ph.heap ab,wayL (gC.tr ph),(castS (gC.tr ph)).mono ?_⟩;rintro e zf ⟨rfl,mH⟩;have z51:=mH.size;refine ⟨_,_,_,_,_,_,_,rfl,mH.heap ab,mH.heap ab,mH.heap ab,λxh W5=> ?_⟩;exact fin (((gC.tr ph).tr mH).ae W5 ab)
  ·intro xe e63;have sR:=aL e63;have z63:=zA e63;refine (kU (h1.ext (xd.tr sR))).mono ?_;rintro e sO ⟨rfl,asO⟩;subst asO;refine ⟨_,rfl,rfl,rfl,rfl,wayL sR,bdyL sR,(E2 y.1 hhb sO).mono ?_⟩;rintro e oK ⟨rfl,mS⟩;have z66:=mS.size;refine ⟨_,_,_,rfl,mS.heap ab,mS.heap ab,mS.heap ab,wayL (sR.tr mS),(castS (sR.tr mS)).mono ?_⟩;rintro e np ⟨rfl,nG⟩;have z70:=nG.size;refine ⟨_,_,_,_,_,_,_,rfl,nG.heap ab,nG.heap ab,nG.heap ab,λpk e78=> ?_⟩;exact fin (((sR.tr mS).tr nG).ae e78 ab)
end
theorem lO{w:World}{g:Nat}{cs vs:LV}{E:TypeId}(hr:Row w g cs E){off:Nat}(hl:off+vs.length<=cs.length)(h1:One vs):
  Wr w (af (some ⟨g,0,none⟩) off) vs.length/\∀w',w'=Vc.aH w (af (some ⟨g,0,none⟩) off) vs->Row w' g (aR cs off vs) E/\Mod (λi=>i=g) w w':=by
 rw [bf,ep];refine ⟨hr.wr hl,λw' e=> ?_⟩;rw [hr.aH hl h1] at e;subst e;exact ⟨hr.set _,rfl,rfl,rfl,by rw [setRow_size];exact aB _,λi _ hn=>setRow_other _ _ _ _ hn⟩
section
variable {F F':Nat->Prop} {w w':World} {g s o t:Nat} {M M':Sm} {occ:Value} {L:List (Option dZ)}
theorem EL.put{av:List (Option Nat)}(he:EL w av L){k b:Nat}(ha:av[k]? =some (some b)){y:dZ}(hr:Row w' b (J7 y) kQ)(hs:∀a,some a ∈ av->a≠b->w'.heap[a]? =w.heap[a]?):EL w' av (L.set k (some y)):=by
 have hk:k<16:=by rw [<-he.n];exact (cG.1 ha).1
 refine ⟨he.n,by rw [iq];exact he.m,λi a hi=> ?_,λi hi=> ?_,he.d⟩
 ·by_cases q:i=k
  ·subst q;rw [ha] at hi
   cases hi
   exact ⟨y,oP (by rw [he.m];exact hk),hr⟩
  ·obtain ⟨x,h1,h2⟩:=he.s i a hi;refine ⟨x,by rw [List.getElem?_set_ne (Ne.symm q)];exact h1,h2.same (hs a (bg hi) λe=> ?_)⟩;subst e;exact q (he.d i k a hi ha)
 ·have q:i≠k:=λe=>by subst e;rw [ha] at hi;cases hi
  rw [List.getElem?_set_ne (Ne.symm q)];exact he.z i hi
theorem jh.aD{w0:World}(x:Ext w w0)(h:jh F w0 g s o t M occ L w'):jh F w g s o t M occ L w':=by obtain ⟨F',h1,h2⟩:=h;exact ⟨F',h1,(aM.aD x).trans h2⟩
def pS(L:List (Option dZ))(n:Int)(i:Int × Int × Bool):Int × List (Option dZ):=match cc L n with|none=>(6,L)|some y=>(0,L.set n.toNat (some (y.1,i)))
theorem Tk(h:EF F w g s o t M occ L)(n:Int)(i:Int × Int × Bool):ah 54 #[g,n,.agg #[i.1,i.2.1,.bool i.2.2]] w λe w'=>e=Value.int .i64 (pS L n i).1/\jh F w g s o t M occ (pS L n i).2 w':=by
 apply vY.vc;intro w0 e0;have x0:=aL e0;have z0:=zA e0;have h0:=h.ext x0;obtain ⟨av,cO,jn,hFg,hFa,bw⟩:=h0.row;refine (CS cO jn.n n).mono ?_;rintro e w1 ⟨a,rfl,Ru,hc⟩;subst Ru;unfold pS;refine ⟨_,rfl,rfl,?_⟩;rcases hc with ⟨k,rfl,hk,ha⟩|⟨iX,rfl⟩
 case inr=>
  rw [qv jn.m iX];exact yes rfl ⟨rfl,jh.aD x0 (h0.res (Ext.cE _))⟩
 cases a with
 |none=>
  rw [jn.at0 ha];exact yes rfl ⟨rfl,jh.aD x0 (h0.res (Ext.cE _))⟩
 |some b=>
  obtain ⟨y,hy,mg,Rp⟩:=jn.at ha;have hb:=h.lt (i:=b);rw [hy];have uQ:One [i.1,i.2.1,.bool i.2.2]:=by intro u hu;simp at hu;rcases hu with rfl|rfl|rfl<;>rfl
  obtain ⟨p1,p2⟩:=lO Rp (off:=9) (vs:=[.int .i64 i.1,.int .i64 i.2.1,.bool i.2.2]) (by show 9+3<=12;decide) uQ;have hbw:b<w:=h.lt (hFa b (bg ha));refine eZ rfl (fU rfl (fU rfl ⟨⟨rfl,p1⟩,?_,λw3 e3=> ?_⟩))
  ·intro q;have q:some b=some w.heap.size:=q;have q:b=w.heap.size:=Option.some.inj q;omega
  obtain ⟨q1,q2⟩:=p2 w3 e3;have q1:Row w3 b (J7 (y.1,i)) kQ:=q1;have iM:b≠g:=λe=>cO.ne Rp oA.2.2 e.symm
  refine ⟨rfl,jh.aD x0 (bw (q2.mono λj _ hj=> .inr (by rw [hj];exact bg ha)) (cO.same (q2.same _ cO.lt λe=>iM e.symm)) ?_ λa ha=> .inl ha)⟩;show EL w3 av (L.set ((k:Nat):Int).toNat (some (y.1,i)));rw [ej];exact jn.put ha q1 λa ha' hn=>q2.same _ (jn.lt ha') hn
def Da:ef:=⟨(0,0,0),(0,0,0),0,0,false⟩
def LW(L:List (Option dZ))(n:Int):ef × Bool:=match cc L n with|none=>(Da,false)|some y=>(y.1,true)
theorem UX(h:EF F w g s o t M occ L)(n:Int):ah 29 #[g,n] w λe w'=>e=Value.tuple #[BV (LW L n).1,.bool (LW L n).2]/\Ext w w':=by
 apply vZ.vc;intro w0 e0;have x0:=aL e0;have z0:=zA e0;have h0:=h.ext x0;obtain ⟨av,cO,jn,-,-,-⟩:=h0.row;refine (CS cO jn.n n).mono ?_;rintro e w1 ⟨a,rfl,Ru,hc⟩;subst Ru;unfold LW;refine ⟨_,rfl,rfl,?_⟩;rcases hc with ⟨k,rfl,hk,ha⟩|⟨iX,rfl⟩
 case inr=>
  rw [qv jn.m iX];exact yes rfl λw3 e3=>⟨rfl,x0.ae e3 ab⟩
 cases a with
 |none=>
  rw [jn.at0 ha];exact yes rfl λw3 e3=>⟨rfl,x0.ae e3 ab⟩
 |some b=>
  obtain ⟨y,hy,mg,Rp⟩:=jn.at ha;rw [hy];exact eZ rfl (fU rfl (fU rfl ⟨_,_,_,_,_,_,_,_,_,R2 Rp,λbJ Cp=>⟨rfl,x0.ae Cp ab⟩⟩))
def eR(M:Sm)(L:List (Option dZ))(c:Ce)(b:Int):Int × Sm:=if aE b=true/\qi L c=true then (12,M) else ((gI M.T.2 c b).2,vj M c b)
theorem vx(h:EF F w g s o t M occ L){m:Int}(hL:sC m L)(c:Ce)(hc:eO c)(b:Int)(hk:qH M 800000):ah 59 #[g,dY c,b] w λe w'=>e=Value.int .i64 (eR M L c b).1/\jh F w g s o t (eR M L c b).2 occ L w':=by
 apply vX.vc;intro w0 e0;have x0:=aL e0;have z0:=zA e0;have inner:∀{u:World},Ext w0 u->¬(aE b=true/\qi L c=true)->∃p:Option Addr,Vc.ld u (af (some ⟨g,0,none⟩) 0)=some (.pointer p)/\
   ah 113 #[p,dY c,b] u λe w6=>∃x7:Int,e=x7/\w6.heap[w.heap.size]? =u.heap[w.heap.size]?/\Ending.returned x7=Value.int .i64 (eR M L c b).1/\jh F w g s o t (eR M L c b).2 occ L w6:=by
  intro u xu hn;have hu:=h.ext (x0.tr xu);have zu:=xu.size;obtain ⟨Fs,hs,jq,eL,bw⟩:=hu.vb;refine ⟨_,jq,(wo hs c hc b hk).mono ?_⟩;rintro e w6 ⟨rfl,hr⟩;have hk6:w6.heap[w.heap.size]? =u.heap[w.heap.size]? :=by obtain ⟨F6,-,t6⟩:=hr;exact t6.mod.same _ ab λq=>by have:=h.lt (eL _ q);omega
  unfold eR;rw [if_neg hn];exact ⟨_,rfl,hk6,rfl,jh.aD (x0.tr xu) (bw hr)⟩
 refine (qk b w0).mono ?_;rintro e w1 ⟨rfl,Ru⟩;subst Ru;refine ⟨_,rfl,rfl,Br.mk (λhb=> ?_) (λhb=>inner (Ext.dr _) λq=>by rw [hb] at q;cases q.1)⟩;have h1:=h.ext x0;obtain ⟨av,cO,jn,-,-,-⟩:=h1.row;refine (Hr cO jn hL c).mono ?_;rintro e w3 ⟨rfl,x3⟩;have z3:=x3.size;refine ⟨_,rfl,x3.heap ab,Br.mk (λhq=> ?_) (λhq=> ?_)⟩
 ·unfold eR;rw [if_pos ⟨hb,hq⟩];exact ⟨rfl,h.res (x0.tr x3)⟩
 ·exact inner (x3.tr (Ext.dr _)) λq=>by rw [hq] at q;cases q.2
end
def iJ(c:Ce)(m:Int):Prop:=(-m<=c.1/\c.1<=m)/\(-m<=c.2.1/\c.2.1<=m)/\-m<=c.2.2/\c.2.2<=m
theorem iJ.wide{c:Ce}{m:Int}(h:iJ c m)(hm:m<=2000000000):eO c:=by unfold iJ at h;unfold eO;omega
theorem D4{M:Sm}{L:List (Option dZ)}{n:Int}{cK:Ce}(e:(bW M L n cK).2=0):∃y,cc L n=some y/\some y ∈ L/\hZ (gy M.T.2) (ij y.1) cK 5=((bW M L n cK).1,true)/\(bW M L n cK).1.2.1≠-1:=by
 unfold bW at e ⊢
 cases hq:cc L n with
 |none=>rw [hq] at e;simp only at e;omega
 |some y=>
  rw [hq] at e;simp only at e ⊢;have hm:some y ∈ L:=by
   unfold cc at hq;split at hq
   ·rcases Option.join_eq_some_iff.1 hq with hq;exact bg hq
   ·cases hq
  refine ⟨y,rfl,hm,?_⟩;split at e
  ·simp only at e;omega
  split at e
  ·simp only at e;omega
  rename_i h1 h2;rw [if_neg h1,if_neg h2];exact ⟨Prod.ext rfl (by simpa using h1),h2⟩
theorem ql{M:Sm}{L:List (Option dZ)}{m:Int}(hL:sC m L)(hm:m<=99970000000000){n:Int}{cK:Ce}(e:(bW M L n cK).2=0):iJ (bW M L n cK).1.1 1600000005/\iJ (B3 (bW M L n cK).1).1 1600000006:=by
 obtain ⟨y,h1,h2,h3,h4⟩:=D4 e;have hn:=D5 (by rw [X5];decide) h3;have he:=yn (hL y h2) hm;have hc:iJ (bW M L n cK).1.1 1600000005:=by unfold iJ;omega
 refine ⟨hc,?_⟩;generalize (bW M L n cK).1=h at hc;obtain ⟨c,b,f,tt⟩:=h;unfold B3;split
 ·rename_i hf;simp only at hf ⊢;obtain ⟨k,rfl⟩:∃k:Nat,f=k:=⟨f.toNat,by omega⟩;rw [ej];unfold iJ at hc;have:k=0\/k=1\/k=2\/k=3\/k=4\/k=5:=by omega
  rcases this with rfl|rfl|rfl|rfl|rfl|rfl
  ·show iJ (c.1-1,c.2.1,c.2.2) _;unfold iJ;simp only;simp only at hc;omega
  ·show iJ (c.1+1,c.2.1,c.2.2) _;unfold iJ;simp only;simp only at hc;omega
  ·show iJ (c.1,c.2.1-1,c.2.2) _;unfold iJ;simp only;simp only at hc;omega
  ·show iJ (c.1,c.2.1+1,c.2.2) _;unfold iJ;simp only;simp only at hc;omega
  ·show iJ (c.1,c.2.1,c.2.2-1) _;unfold iJ;simp only;simp only at hc;omega
  ·show iJ (c.1,c.2.1,c.2.2+1) _;unfold iJ;simp only;simp only at hc;omega
 ·unfold iJ;simp only;omega
def nI(M:Sm)(L:List (Option dZ))(n:Int)(cK:Ce)(b:Int):Int × Sm:=
 if (bW M L n cK).2=6 then (6,M) else if cN b=false then (1,M) else if b=0 then (1,M) else if (bW M L n cK).2≠0 then ((bW M L n cK).2,M) else if (B3 (bW M L n cK).1).2=false then (12,M) else eR M L (B3 (bW M L n cK).1).1 b
def fG(M:Sm)(L:List (Option dZ))(n:Int)(cK:Ce):(Int × Int) × Sm:=
 if (bW M L n cK).2≠0 then ((0,(bW M L n cK).2),M) else if (eR M L (bW M L n cK).1.1 0).1≠0 then ((0,(eR M L (bW M L n cK).1.1 0).1),(eR M L (bW M L n cK).1.1 0).2) else (((bW M L n cK).1.2.1,0),(eR M L (bW M L n cK).1.1 0).2)
section
variable {F F':Nat->Prop} {w w':World} {g s o t:Nat} {M M':Sm} {occ:Value} {L:List (Option dZ)}
theorem jh.c5{k:Nat}(h:EF F w g s o t M occ L){w0:World}(x:Ext w w0)(hk:w.heap.size<=k)(hk0:k<w0)(h0:∀i,F i->i<w.heap.size){M':Sm}{occ':Value}{L':List (Option dZ)}(r:jh F w0 g s o t M' occ' L' w'):w'.heap[k]? =w0.heap[k]? :=by obtain ⟨F',-,h2⟩:=r;exact h2.mod.same _ hk0 λq=>by have:=h0 _ q;omega
set_option maxHeartbeats 1000000 in
theorem Kn(h:EF F w g s o t M occ L){m:Int}(hL:sC m L)(hm:m<=99970000000000)(n:Int)(cK:Ce)(b:Int)(hk:qH M 800000):
  ah 55 #[g,n,dY cK,b] w λe w'=>e=Value.int .i64 (nI M L n cK b).1/\jh F w g s o t (nI M L n cK b).2 occ L w':=by
 apply uJ.vc;intro w0 e0;have x0:=aL e0;have z0:=zA e0;refine (ub (h.ext x0) hL hm n cK).mono ?_;rintro e w1 ⟨rfl,x1⟩;have z1:=x1.size;refine ⟨_,_,_,_,_,_,_,rfl,x1.heap ab,λw9 e9 bO vw=> ?_⟩;have bh:Ext w1 bO:=(aL e9).ae vw (aB _);have QX:bO.heap.size=w1.heap.size+1:=by rw [zR vw,zA e9]
 have oy:=x0.tr (x1.tr bh);unfold nI;refine Br.mk (λh6=> ?_) (λh6=>(gw b bO).mono ?_)
 ·rw [if_pos (by simpa using h6)];have h6:(bW M L n cK).2=6:=by simpa using h6
  rw [h6];exact ⟨rfl,h.res oy⟩
 rw [if_neg (by simpa using h6)];rintro e aY ⟨rfl,bC⟩;have z11:=bC.size;have WO:=oy.tr bC;refine ⟨_,rfl,bC.heap ab,bC.heap ab,Br.mk (λhb=> ?_) (λhb=>Br.mk (λS7=> ?_) (λS7=>Br.mk (λhn=> ?_) (λhn=> ?_)))⟩
 ·rw [if_pos (by simpa using hb)];exact ⟨rfl,h.res WO⟩
 ·rw [if_neg (by simpa using hb),if_pos (by simpa using S7)];exact ⟨rfl,h.res WO⟩
 ·rw [if_neg (by simpa using hb),if_neg (by simpa using S7),if_pos (by simpa using hn)];exact ⟨rfl,h.res WO⟩
 rw [if_neg (by simpa using hb),if_neg (by simpa using S7),if_neg (by simpa using hn)];have JX:(bW M L n cK).2=0:=by simpa using hn
 obtain ⟨Ki,SY⟩:=ql hL hm JX;refine (MN (bW M L n cK).1 (Ki.wide aF) aY).mono ?_;rintro e bJ ⟨rfl,cm⟩;have z13:=cm.size;refine ⟨_,_,_,_,rfl,cm.heap ab,cm.heap ab,λdG We fP e19=> ?_⟩;have cn:Ext bJ fP:=(aL We).ae e19 (aB _);have z19:fP.heap.size=bJ.heap.size+1:=by rw [zR e19,zA We]
 have FK:=WO.tr (cm.tr cn);apply Br.mk<;>intro hq
 ·rw [if_pos (by simpa using hq)];exact ⟨rfl,h.res FK⟩
 rw [if_neg (by simpa using hq)];refine (vx (h.ext FK) hL (B3 (bW M L n cK).1).1 (SY.wide aF) b hk).mono ?_;rintro e fx ⟨rfl,r⟩;have hh:∀i,F i->i<w.heap.size:=λi=>h.lt
 exact ⟨_,rfl,jh.c5 h FK ab ab hh r,jh.c5 h FK ab ab hh r,jh.c5 h FK ab ab hh r,rfl,jh.aD FK r⟩
set_option maxHeartbeats 1000000 in
theorem sV(h:EF F w g s o t M occ L){m:Int}(hL:sC m L)(hm:m<=99970000000000)(n:Int)(cK:Ce)(hk:qH M 800000):
  ah 33 #[g,n,dY cK] w λe w'=>e=Value.tuple #[.int .i64 (fG M L n cK).1.1,.int .i64 (fG M L n cK).1.2]/\jh F w g s o t (fG M L n cK).2 occ L w':=by
 apply uK.vc;intro w0 e0;have x0:=aL e0;have z0:=zA e0;refine (ub (h.ext x0) hL hm n cK).mono ?_;rintro e w1 ⟨rfl,x1⟩;have z1:=x1.size;refine ⟨_,_,_,_,_,_,_,rfl,x1.heap ab,λw9 e9 bO vw=> ?_⟩;have bh:Ext w1 bO:=(aL e9).ae vw (aB _);have QX:bO.heap.size=w1.heap.size+1:=by rw [zR vw,zA e9]
 have oy:=x0.tr (x1.tr bh);unfold fG;refine Br.mk (λh0=> ?_) (λh0=>yes (by simpa using h0) ?_)
 ·have JX:(bW M L n cK).2=0:=by simpa using h0
  rw [if_neg (by simp [JX])];obtain ⟨Ki,-⟩:=ql hL hm JX;refine (vx (h.ext oy) hL (bW M L n cK).1.1 (Ki.wide aF) 0 hk).mono ?_;rintro e aY ⟨rfl,r⟩;have hh:∀i,F i->i<w.heap.size:=λi=>h.lt
  refine ⟨_,rfl,jh.c5 h oy ab ab hh r,jh.c5 h oy ab ab hh r,Br.mk (λhq=> ?_) (λhq=> ?_)⟩
  ·rw [if_pos (by simpa using hq)];exact ⟨rfl,jh.aD oy r⟩
  ·rw [if_neg (by simpa using hq)];exact ⟨rfl,jh.aD oy r⟩
 ·rw [if_pos (by simpa using h0)];exact ⟨rfl,h.res oy⟩
end
def lS(M:Sm)(L:List (Option dZ))(i:Nat):Bool:=match cc L i with|some y=>nR M y.1|none=>false
def eV(M:Sm)(L:List (Option dZ)):List Nat:=(List.range 16).filter (lS M L)
def mC(M:Sm)(L:List (Option dZ))(i:Nat):ef:=match cc L i with|some y=>tu (gy M.T.2) y.1 y.2|none=>Da
def qm(M:Sm)(L:List (Option dZ)):List ef:=q9 (gy M.T.2) ((eV M L).map (mC M L))
def vT(L:List (Option dZ))(i:Nat)(b:ef):List (Option dZ):=match cc L i with|some y=>L.set i (some (b,y.2))|none=>L
def Bp(L:List (Option dZ))(l:List (Nat × ef)):List (Option dZ):=l.foldl (λL x=>vT L x.1 x.2) L
def o5(M:Sm)(L:List (Option dZ)):List (Option dZ):=Bp L ((eV M L).zip (qm M L))
def sX(M:Sm)(L:List (Option dZ)):Sm × List (Option dZ):=(Ly (qi (o5 M L)) M,o5 M L)
abbrev tLp:TypeId:=53
theorem ajz(p:Option Addr):One [.pointer p]:=by intro u hu;simp at hu;subst hu;rfl
theorem pR{L:List (Option dZ)}{i:Nat}{y:dZ}(h:cc L i=some y):some y ∈ L:=by unfold cc at h;rw [if_pos ab,ej] at h;exact bg (Option.join_eq_some_iff.1 h)
theorem tq{M:Sm}{L:List (Option dZ)}{i:Nat}(h:i ∈ eV M L):i<16/\∃y,cc L i=some y:=by
 unfold eV at h;obtain ⟨h1,h2⟩:=List.mem_filter.1 h;refine ⟨List.mem_range.1 h1,?_⟩;unfold lS at h2
 cases hq:cc L i with
 |none=>rw [hq] at h2;cases h2
 |some y=>exact ⟨y,rfl⟩
theorem ZL{L:List (Option dZ)}{i j:Nat}{b:ef}:(cc (vT L i b) j).isSome=(cc L j).isSome:=by
 unfold vT
 cases hq:cc L i with
 |none=>rfl
 |some y=>
  simp only;unfold cc at hq ⊢;rw [if_pos ab,ej] at hq ⊢;rw [if_pos ab];by_cases e:i=j
  ·subst e;have hq:=Option.join_eq_some_iff.1 hq;rw [oP (cG.1 hq).1,hq];rfl
  ·rw [List.getElem?_set_ne e]
theorem Hv{j:Nat}:∀(l:List (Nat × ef))(L:List (Option dZ)),(cc (Bp L l) j).isSome=(cc L j).isSome
 | [],L=>rfl
 |x::l,L=>(Hv l (vT L x.1 x.2)).trans ZL
theorem agO{L:List (Option dZ)}{i:Nat}{b:ef}{m:Int}(h:sC m L)(hb:okB m b):sC m (vT L i b):=by
 unfold vT
 cases hq:cc L i with
 |none=>exact h
 |some y=>
  intro z hz;rcases kh hz with hz|hz
  ·exact h z hz
  ·cases hz
   exact hb
theorem CP{m:Int}:∀(l:List (Nat × ef)) {L:List (Option dZ)},sC m L->(∀x ∈ l,okB m x.2)->sC m (Bp L l)
 | [],L,h,_=>h
 |x::l,L,h,hl=>CP l (agO h (hl x bB)) λy hy=>hl y (by simp [hy])
theorem I9(M:Sm)(L:List (Option dZ)):(eV M L).length<=16:=by have:=List.length_filter_le (lS M L) (List.range 16);rw [Bk] at this;exact this
theorem D9{M:Sm}{L:List (Option dZ)}{m:Int}(h:sC m L)(hm:m<=99970000000000):∀b ∈(eV M L).map (mC M L),okB (m+16777216) b:=by intro b hb;obtain ⟨i,hi,rfl⟩:=aZ.1 hb;obtain ⟨-,y,hy⟩:=tq hi;unfold mC;rw [hy];exact acM (h y (pR hy)) hm
section
variable {F F':Nat->Prop} {w w':World} {g s o t:Nat} {M M':Sm} {occ:Value} {L:List (Option dZ)}
theorem EL.aoQ{av:List (Option Nat)}(he:EL w av L){k b:Nat}(ha:av[k]? =some (some b)){y:dZ}(hy:cc L k=some y)(x:ef){w':World}(hr:Row w' b (J7 (x,y.2)) kQ)(hs:∀a,some a ∈ av->a≠b->w'.heap[a]? =w.heap[a]?):EL w' av (vT L k x):=by
 have e:vT L k x=L.set k (some (x,y.2)):=by unfold vT;rw [hy]
 rw [e];exact he.put ha hr hs
theorem EL.full{av:List (Option Nat)}(he:EL w av L){k:Nat}{y:dZ}(hk:k<16)(hy:cc L k=some y):∃b,av[k]? =some (some b)/\Row w b (J7 y) kQ:=by
 obtain ⟨a,ha⟩:=bI (l:=av) (i:=k) (by rw [he.n];exact hk)
 cases a with
 |none=>rw [he.at0 ha] at hy;cases hy
 |some b=>
  obtain ⟨z,h1,-,h3⟩:=he.at ha;rw [h1] at hy
  cases hy
  exact ⟨b,ha,h3⟩
theorem SF.oc{Fs:Nat->Prop}(h2:SF Fs w s o t M occ){p:Value}{av:List (Option Nat)}(h1:Row w g (p::av.map pA) sB)(h3:EL w av L){m:Int}(hL:sC m L):Oc (.func (.func 66) #[g] #[]) (qi L) Fs w:=by
 have ng:¬Fs g:=h2.jG h1 oA.1.1 oA.1.2.1 oA.1.2.2.1 oA.1.2.2.2.1 oA.1.2.2.2.2.1 oA.1.2.2.2.2.2.1 oA.1.2.2.2.2.2.2;have na:∀a,some a ∈ av->¬Fs a:=λa ha=>by obtain ⟨i,hi⟩:=pq ha;obtain ⟨x,-,hr⟩:=h3.s i a hi;exact h2.jG hr oA.2.1.1 oA.2.1.2.1 oA.2.1.2.2.1 oA.2.1.2.2.2.1 oA.2.1.2.2.2.2.1 oA.2.1.2.2.2.2.2.1 oA.2.1.2.2.2.2.2.2
 refine ⟨λi=>i=g\/some i ∈ av,λi hi=> ?_,λw' hk c _=>cS (by kernel_rfl) rfl (Hr (h1.same (hk _ (.inl rfl))) (h3.same λa ha=>hk a (.inr ha)) hL c)⟩;rcases hi with rfl|hi
 ·exact ⟨h1.lt,ng⟩
 ·exact ⟨h3.lt hi,na i hi⟩
end
section
variable {F F':Nat->Prop} {w w':World} {g s o t:Nat} {M M':Sm} {occ:Value} {L:List (Option dZ)}
abbrev Lq(M:Sm)(L:List (Option dZ))(j:Nat):List (Option dZ):=Bp L (((eV M L).zip (qm M L)).take j)
theorem Ul{j:Nat}{i:Nat}{b:ef}(hi:(eV M L)[j]? =some i)(hb:(qm M L)[j]? =some b):Lq M L (j+1)=vT (Lq M L j) i b:=by
 have e:((eV M L).zip (qm M L))[j]? =some (i,b):=by rw [List.getElem?_zip_eq_some];exact ⟨hi,hb⟩
 unfold Lq Bp;rw [dD,e,List.foldl_append];rfl
theorem X9(h:(qm M L).length=(eV M L).length):Lq M L (eV M L).length=o5 M L:=by unfold Lq o5;rw [fC (by rw [List.length_zip,h];omega)]
set_option maxHeartbeats 4000000 in
theorem Tp(h:EF F w g s o t M occ L){m:Int}(hL:sC m L)(hm0:0<=m)(hm:m<=99900000000000)(hd:G3 (sm M))(hk:qH M 600000)(ahS:1<=M.dH/\M.dH<=64):
  ah 64 #[g] w λe w'=>e=Value.int .i64 (sm M).length/\jh F w g s o t (sX M L).1 (.func (.func 66) #[g] #[]) (sX M L).2 w'/\sC (m+3300000000) (sX M L).2:=by
 apply vU.vc;obtain ⟨av,cO,jn,hFg,hFa,bw⟩:=h.row;have jq:ag w (af (some ⟨g,0,none⟩) 1) 0 (av.map pA):=by rw [bf];exact cO.bZ λj hj=>by rw [show 0+1+j=j+1 from by omega,Bm]
 obtain ⟨b0,b1,b2,b3,b4,b5,b6,b7,b8,b9,b10,W3,Q1,Fg,b14,SZ,hav⟩:=R1 jn.n;have eN:∀k:Nat,k<16->∃a:Option Nat,(([b0,b1,b2,b3,b4,b5,b6,b7,b8,b9,b10,W3,Q1,Fg,b14,SZ]:List (Option Nat)).map pA)[((k:Nat):Int).toNat*1]? =some (pA a)/\av[k]? =some a:=λk hk=>by obtain ⟨a,ha⟩:=bI (l:=av) (i:=k) (by rw [jn.n];exact hk);exact ⟨a,by rw [<-hav,ej,Nat.mul_one,aU,ha];rfl,ha⟩
 rw [hav] at jq;have atk:∀i:Nat,i ∈ eV M L->∃b y,av[i]? =some (some b)/\cc L i=some y/\Row w b (J7 y) kQ:=λi hi=>by obtain ⟨h1,y,hy⟩:=tq hi;obtain ⟨b,h2,h3⟩:=jn.full h1 hy;exact ⟨b,y,h2,hy,h3⟩
 have hwl:=I9 M L
 let ptr:Nat->LV:=λi=> [pA (av.getD i none)]
 have ptr_eq:∀{i:Nat} {a:Option Nat},av[i]? =some a->ptr i=[pA a]:=λ{i a} ha=>by show [pA (av.getD i none)]=_;rw [dS,ha];rfl
 refine ⟨_,_,_,_,_,_,_,_,_,_,_,_,_,_,_,_,jq,λn x sl wr=>∃k:Nat,x=k/\k+n=16/\aC w tLp 1 wr sl (((List.range k).filter (lS M L)).map ptr)/\Ext w wr,⟨16,0,rfl,rfl,aC.nil,Ext.cE _⟩,?_⟩;rintro n us x sl wr ⟨k,rfl,hk',ho,xr⟩;have zr:=xr.size;apply Br.mk<;>intro hb
 ·have hb:(k:Int)<16:=by simpa using hb
  obtain ⟨a,ha,ha'⟩:=eN k ab;have wk:=mz (j:=k);have dI:sl.n<=16:=by have h1:=(ho.rd (show 0<1 by decide)).n;have h2:=List.length_filter_le (lS M L) (List.range k);rw [aN] at h1;rw [Bk] at h2;omega
  have skip:lS M L k=false->∀{u:World},Ext wr u->∃Ny,Ny<n/\∃k':Nat,aj ((k:Int)+1)=k'/\k'+Ny=16/\aC w tLp 1 u ⟨sl.a,sl.n,sl.c⟩ (((List.range k').filter (lS M L)).map ptr)/\Ext w u:=λhq {u} xu=>by refine ⟨n-1,by omega,k+1,wk,by omega,?_,xr.tr xu⟩;rw [List.range_succ,oY,bU,List.filter_cons_of_neg (by rw [hq];decide)];simpa using ho.ext xu
  refine ⟨⟨by omega,by omega⟩,_,ha,?_⟩
  cases a with
  |none=>
   refine eZ rfl (skip ?_ (Ext.cE _));unfold lS;rw [jn.at0 ha']
  |some b=>
   obtain ⟨y,hy,mg,Rp⟩:=jn.at ha';refine yes rfl (fU rfl (fU rfl ⟨_,_,_,_,_,_,_,_,_,R2 (Rp.ext xr),(Bn (h.ext xr) y.1).mono ?_⟩));rintro e eM ⟨rfl,eF⟩;have z33:=eF.size;have hwake:lS M L k=nR M y.1:=by unfold lS;rw [hy]
   refine ⟨_,rfl,Br.mk (λhq=>λjK e35=> ?_) (λhq=>skip (by rw [hwake];exact hq) eF)⟩;subst e35;obtain ⟨Cq,hres8⟩:=(ho.ext eF).iO (bytes:=8) (news:=[pA (some b)]) (.cells #[pA (some b)] tLp) ab rfl (ajz _) ab ab;refine ⟨Cq,λs36 ie aqE=> ?_⟩;obtain ⟨f8,xc,hn8,x8,Fc,-⟩:=hres8 s36 ie aqE;refine ⟨f8,n-1,by omega,k+1,wk,by omega,?_,(Below.trans (xr.tr eF) x8:Below w w ie)⟩;rw [List.range_succ,oY,bU,List.filter_cons_of_pos (by rw [hwake];exact hq)];show aC _ _ _ _ _ (_++ [ptr k]);rw [ptr_eq ha'];exact xc
 have hb:¬(k:Int)<16:=by simpa using hb
 have uR:k=16:=by omega
 subst uR;replace ho:aC w tLp 1 wr sl ((eV M L).map ptr):=ho;have tR:sl.n=(eV M L).length:=by rw [(ho.rd (show 0<1 by decide)).n,aN]
 have slk:∀b,sl.aX=some b->w.heap.size<=b/\b<wr.heap.size:=λb hb=>ho.own.lt hb
 refine ⟨λn x s2 jd=>∃j:Nat,x=j/\j+n=(eV M L).length/\aC wr y9 9 jd s2 ((((eV M L).take j).map (mC M L)).map jo)/\Ext wr jd,⟨(eV M L).length,0,rfl,by omega,aC.nil,Ext.cE _⟩,?_⟩;rintro n2 wX x s2 jd ⟨j,rfl,hj,yW,oE⟩;have z43:=oE.size;apply Br.mk<;>intro hb
 ·have hb:(j:Int)<sl.n:=by simpa using hb
  have hjw:j<(eV M L).length:=by omega
  obtain ⟨i,hi⟩:=bI (l:=eV M L) (i:=j) hjw;obtain ⟨b,y,hab,hy,Rp⟩:=atk i (bg hi);have FC:=(ho.ext oE).rd (show 0<1 by decide);have uP:((eV M L).map ptr)[j]? =some [pA (some b)]:=by rw [aU,hi];exact congrArg some (ptr_eq hab)
  have JZ:Vc.ld jd (af sl.a ((j:Int).toNat*1))=some (pA (some b)):=by have:=FC.at uP (j:=0) (v:=pA (some b)) rfl;rw [dw] at this;exact this
  have xd:=Ext.dr jd;have hbdL:∀{u:World},Ext jd u->ag u (af (some ⟨b,0,none⟩) 0) 0 (jo y.1):=λxu=>R2 (Rp.ext (xr.tr (oE.tr xu)))
  have hinL:∀{u:World},Ext jd u->ag u (af (some ⟨b,0,none⟩) 9) 0 [.int .i64 y.2.1,.int .i64 y.2.2.1,.bool y.2.2.2]:=λxu=>ajA (Rp.ext (xr.tr (oE.tr xu)))
  refine ⟨FC.g9 aF ab ab,_,JZ,fU rfl (fU rfl ⟨_,_,_,_,_,_,_,_,_,hbdL xd,fU rfl (fU rfl ⟨_,_,_,hinL xd,(kU (h.ext (xr.tr (oE.tr xd)))).mono ?_⟩)⟩)⟩;rintro e kr ⟨rfl,aqG⟩;subst aqG;have oky:=hL y (pR hy);refine ⟨_,rfl,hinL xd,hbdL xd,(D7 (h.ext (xr.tr (oE.tr xd))).tl rfl y.1 oky.wdi oky.2.2.2 (oky.zP ab) ab y.2).mono ?_⟩;rintro e mQ ⟨rfl,iW⟩;have z60:=iW.size;have zd:=lG jd;refine ⟨_,_,_,_,_,_,_,_,_,rfl,λnp e70=> ?_⟩;subst e70;have dI:s2.n<=16:=by have h1:=(yW.rd (show 0<9 by decide)).n;rw [aN,aN,du] at h1;omega
  obtain ⟨Cq,hres8⟩:=(yW.ext (xd.tr iW)).iO (bytes:=72) (news:=jo (tu (gy M.T.2) y.1 y.2)) (.cells (jo (tu (gy M.T.2) y.1 y.2)).toArray y9) ab rfl (vN _) ab ab;refine ⟨Cq,λs71 w72 aqH=> ?_⟩;obtain ⟨f8,xc,hn8,x8,Fc,-⟩:=hres8 s71 w72 aqH;have wk:=mz (j:=j);refine ⟨f8,n2-1,by omega,j+1,wk,by omega,?_,(Below.trans (oE.tr (xd.tr iW)) x8:Below wr wr w72)⟩;rw [dD,hi,bU,bU];have e1:mC M L i=tu (gy M.T.2) y.1 y.2:=by unfold mC;rw [hy]
  show aC _ _ _ _ _ (_++ [jo (mC M L i)]);rw [e1];exact xc
 have hb:¬(j:Int)<sl.n:=by simpa using hb
 have hjw:j=(eV M L).length:=by omega
 subst hjw;rw [iA] at yW;have h43:=h.ext (xr.tr oE);refine (kU h43).mono ?_;rintro e M8 ⟨rfl,aqI⟩;subst aqI;refine ⟨_,rfl,(D8 h43.tl rfl yW (by rw [aN];exact hwl) (D9 hL ab) ab ab).mono ?_⟩;rintro e qD ⟨Fh,rfl,aaY,uU,bt,S8⟩;rw [aN] at S8;replace aaY:aC M8 y9 9 qD Fh ((qm M L).map jo):=aaY;replace S8:(qm M L).length=(eV M L).length:=S8;replace bt:∀b ∈ qm M L,okB (m+16777216+16*16*12582912) b:=bt;have z75:=uU.size;have s76k:∀b,Fh.aX=some b->M8.heap.size<=b/\b<qD.heap.size:=λb hb=>aaY.own.lt hb
 have axM:Fh.n=(eV M L).length:=by rw [(aaY.rd (show 0<9 by decide)).n,aN,S8]
 have aaZ:=xr.tr (oE.tr uU);have avlt:∀a,some a ∈ av->a<w.heap.size:=λa ha=>jn.lt ha
 have iM:∀a,some a ∈ av->a≠g:=λa ha q=>by subst q;obtain ⟨i,hi⟩:=pq ha;obtain ⟨x,-,hr⟩:=jn.s i a hi;exact cO.ne hr oA.2.2 rfl
 refine ⟨Fh,rfl,λn x uW=>∃j:Nat,x=j/\j+n=(eV M L).length/\EL uW av (Lq M L j)/\Mod (λi=>some i ∈ av) qD uW,⟨(eV M L).length,0,rfl,by omega,(jn.same λa ha=>aaZ.heap (jn.lt ha)),Mod.refl _ _⟩,?_⟩;rintro n3 us3 x uW ⟨j,rfl,hj,ad6,m81⟩;have z81:=m81.size;apply Br.mk<;>intro hb
 ·have hb:(j:Int)<Fh.n:=by simpa using hb
  have hjw:j<(eV M L).length:=by omega
  obtain ⟨i,hi⟩:=bI (l:=eV M L) (i:=j) hjw;obtain ⟨x,hx⟩:=bI (l:=qm M L) (i:=j) ab;obtain ⟨b,y0,hab,hy0,-⟩:=atk i (bg hi);have FD:=(tq (bg hi)).1;obtain ⟨y,hy⟩:∃y,cc (Lq M L j) i=some y:=by
   have:=Hv (j:=i) (((eV M L).zip (qm M L)).take j) L;rw [hy0] at this
   cases hq:cc (Lq M L j) i with
   |none=>rw [hq] at this;cases this
   |some y=>exact ⟨y,rfl⟩
  obtain ⟨b',alf,Rp⟩:=ad6.full FD hy;rw [hab] at alf
  cases alf
  have hrd76:=(m81.fk aaY λb hb hq=>by have:=s76k b hb;have:=avlt b hq;omega).rd (show 0<9 by decide);have hrx:((qm M L).map jo)[j]? =some (jo x):=by rw [aU,hx];rfl
  refine ⟨hrd76.g9 aF ab ab,_,_,_,_,_,_,_,_,_,hrd76.bZ hrx,λZZ e92 GZ e93=> ?_⟩;have uz:Ext uW GZ:=(aL e92).ae e93 (aB _);have z93:GZ.heap.size=uW.heap.size+1:=by rw [zR e93,zA e92]
  have xd:=uz.tr (Ext.dr GZ);have FC:=(((m81.fk ((ho.ext oE).ext uU) λb hb hq=>by have:=slk b hb;have:=avlt b hq;omega).ext uz).ext (Ext.dr GZ)).rd (show 0<1 by decide);have uP:((eV M L).map ptr)[j]? =some [pA (some b)]:=by rw [aU,hi];exact congrArg some (ptr_eq hab)
  have JZ:Vc.ld GZ.drew (af sl.a ((j:Int).toNat*1))=some (pA (some b)):=by have:=FC.at uP (j:=0) (v:=pA (some b)) rfl;rw [dw] at this;exact this
  have axO:=avlt b (bg hab);have hwz:=aaZ.size;obtain ⟨p1,p2⟩:=lO (Rp.ext xd) (off:=0) (vs:=jo x) (by show 0+9<=12;decide) (vN x);refine ⟨FC.g9 aF ab ab,_,JZ,fU rfl (fU rfl ⟨⟨rfl,p1⟩,?_,λZ0 e95=> ?_⟩)⟩
  ·intro q;have q:some b=some uW.heap.size:=q;have q:b=uW.heap.size:=Option.some.inj q;omega
  obtain ⟨q1,q2⟩:=p2 Z0 e95;have q1:Row Z0 b (J7 (x,y.2)) kQ:=q1;have wk:=mz (j:=j);refine ⟨n3-1,by omega,j+1,wk,by omega,?_,m81.trans ((Mod.aD xd).trans (q2.mono λi _ hi=>by rw [hi];exact bg hab))⟩;rw [Ul hi hx];refine ad6.aoQ hab hy x q1 λa ha hn=> ?_
  have:=avlt a ha;exact (q2.same a (by have:=xd.size;omega) hn).trans (xd.heap ab)
 have hb:¬(j:Int)<Fh.n:=by simpa using hb
 have hjw:j=(eV M L).length:=by omega
 subst hjw;rw [X9 S8] at ad6;have aqJ:Mod (λi=>i=g\/some i ∈ av) w uW:=(Mod.aD aaZ).trans (m81.mono λi _ hi=> .inr hi);obtain ⟨F81,h81,t81⟩:=bw aqJ (cO.ext aaZ|>.same (m81.same _ (by have:=aaZ.size;have:=cO.lt;omega) λq=>iM g q rfl)) ad6 λa ha=> .inl ha
 have hok2:sC (m+3300000000) (o5 M L):=CP _ (hL.up ab) λx hx=>(bt x.2 (List.of_mem_zip hx).2).up ab
 obtain ⟨Fs,hs,jq,eL,hresS⟩:=h81.vb;refine ⟨_,jq,(xV hs (.func 66) #[g] #[]).mono ?_⟩;rintro e w97 ⟨rfl,hr,-⟩;refine ⟨rfl,?_⟩;obtain ⟨F97,h97,t97⟩:=hresS hr;obtain ⟨Fs2,BI,hld2,hsub2,hresS2⟩:=h97.vb;obtain ⟨av2,hrow2,hel2,-,-,-⟩:=h97.row;refine ⟨_,hld2,(Hw BI (BI.oc hrow2 hel2 hok2) hd hk ahS).mono ?_⟩;rintro e Of ⟨rfl,pP⟩;obtain ⟨F99,h99,t99⟩:=hresS2 pP;exact ⟨_,rfl,rfl,⟨F99,h99,t81.trans (t97.trans t99)⟩,hok2⟩
end
structure Ap(B:Nat)(w0:World)(s0:Sl)(w:World)(s:Sl)(b:List Int):Prop where
 own:mA B w s b
 bel:Below B w0 w
 P6:∀j,s0.aX≠some j->j<w0.heap.size->w.heap[j]? =w0.heap[j]?
 aX:∀j,s.aX=some j->s0.aX=some j\/w0.heap.size<=j
 low:B<=w0
theorem Ap.refl{B:Nat}{w:World}{s:Sl}{b:List Int}(h:mA B w s b)(hB:B<=w):Ap B w s w s b:=⟨h,Below.refl _ _,λ_ _ _=>rfl,λ_ hj=> .inl hj,hB⟩
theorem Ap.ext{B:Nat}{w0 w u:World}{s0 s:Sl}{b:List Int}(h:Ap B w0 s0 w s b)(x:Ext w u):Ap B w0 s0 u s b:=
 ⟨h.own.ext x,Below.trans h.bel (Below.mono x (gj h.low h.bel.size)),λj hj hl=>(x.heap (j6 hl h.bel.size)).trans (h.P6 j hj hl),h.aX,h.low⟩
theorem Ap.n{B:Nat}{w0 w:World}{s0 s:Sl}{b:List Int}(h:Ap B w0 s0 w s b):s.n=b.length:=by rw [(h.own.rd aF).n,aN]
theorem Ap.app{B:Nat}{w0 w:World}{s0 s:Sl}{b:List Int}(h:Ap B w0 s0 w s b)(news:List Int)(hl:b.length+news.length<=1000000):
  ba 1 1 w s news.length (news.map yv).flatten/\∀s' w',aV hX 1 w s news.length (news.map yv).flatten s' w'->Ap B w0 s0 w' s' (b++news)/\(∀j,s.aX≠some j->j<w.heap.size->w'.heap[j]? =w.heap[j]?)/\(s'.aX=s.aX\/s'.aX=some w.heap.size)/\w.heap.size<=w'.heap.size:=by
 have hn:=h.n;have hlm:(news.map yv).length=news.length:=aN ..;have hB:B<=w:=gj h.low h.bel.size;obtain ⟨hp,hr⟩:=h.own.FY (bytes:=1) (more:=news.map yv) hB (λr hr=>by obtain ⟨x,-,rfl⟩:=aZ.1 hr;rfl) (λr hr=>by obtain ⟨x,-,rfl⟩:=aZ.1 hr;exact te _ _) ab ab;rw [hlm] at hp hr;refine ⟨hp,λs' w' bw=> ?_⟩;obtain ⟨h1,h2,h3,h4,h5⟩:=hr s' w' bw;have hz:=h3.size;have hz0:=h.bel.size;refine ⟨⟨by show aC _ _ _ _ _ ((b++news).map yv);rw [bU];exact h1,Below.trans h.bel h3,λj hj hl=> ?_,λj hj=> ?_,h.low⟩,h4,h5,h3.size⟩
 ·have:s.aX≠some j:=λe=>by
   rcases h.aX j e with q|q
   ·exact hj q
   ·omega
  exact (h4 j this ab).trans (h.P6 j hj hl)
 ·rcases h5 with q|q
  ·exact h.aX j (by rw [<-q];exact hj)
  ·rw [q] at hj;injection hj with hj;exact .inr ab
theorem Ap.ne{B:Nat}{w0 w:World}{s0 s:Sl}{b:List Int}(h:Ap B w0 s0 w s b){j:Nat}(hj:w.heap.size<=j):s.aX≠some j:=λe=>by have:=(h.own.own.lt e).2;omega
theorem Ap.iO{B:Nat}{w0 w v:World}{s0 s:Sl}{b:List Int}(h:Ap B w0 s0 w s b)(news:List Int)(hl:b.length+news.length<=1000000){o:Obj}(e:v=w.alloc o):
  ba 1 1 v s news.length (news.map yv).flatten/\∀s' w',aV hX 1 v s news.length (news.map yv).flatten s' w'->Ap B w0 s0 w' s' (b++news)/\w'.heap[w.heap.size]? =v.heap[w.heap.size]?/\(∀j,s.aX≠some j->j<v.heap.size->w'.heap[j]? =v.heap[j]?)/\(s'.aX=s.aX\/s'.aX=some v.heap.size)/\v.heap.size<=w'.heap.size:=by
 obtain ⟨hp,hr⟩:=(h.ext (aL e)).app news hl;have z:=zA e;refine ⟨hp,λs' w' bw=> ?_⟩;obtain ⟨h1,h2,h3,h4⟩:=hr s' w' bw;exact ⟨h1,h2 _ (h.ne (aB _)) ab,h2,h3,h4⟩
theorem eI{s s':Sl}{n j:Nat}(hb:s'.aX=s.aX\/s'.aX=some n)(h1:s.aX≠some j)(h2:n≠j):s'.aX≠some j:=λe=>by
 rcases hb with q|q
 ·exact h1 (q.symm.trans e)
 ·rw [q] at e
  injection e with e
  exact h2 e
theorem Ap.off{B:Nat}{w0 w:World}{s0 s:Sl}{b:List Int}(h:Ap B w0 s0 w s b){j:Nat}(hj:s0.aX≠some j)(hl:j<w0):s.aX≠some j:=λe=>by
 rcases h.aX j e with q|q
 ·exact hj q
 ·omega
theorem Ap.trans{B:Nat}{w0 w w':World}{s0 s s':Sl}{b b':List Int}(h:Ap B w0 s0 w s b)(k:Ap B w s w' s' b'):Ap B w0 s0 w' s' b':=
 ⟨k.own,Below.trans h.bel k.bel,λj hj hl=>(k.P6 j (h.off hj hl) (j6 hl h.bel.size)).trans (h.P6 j hj hl),λj hj=>(k.aX j hj).elim (λq=>h.aX j q) λq=> .inr (gj h.bel.size q),h.low⟩
theorem rdI{w v:World}{l:List Int}{o:TypeId}(e:v=w.alloc (.cells (l.map (Value.int .i64)).toArray o)):RdK v ⟨some ⟨w.heap.size,0,none⟩,l.length,l.length⟩ 1 (l.map iv):=by
 have hr:Row v w (l.map (Value.int .i64)) o:=by rw [e];exact Row.new w _ _
 have hf:∀l:List Int,(l.map iv).flatten=l.map (Value.int .i64):=λl=>by
  induction l with
  |nil=>rfl
  |cons a l ih=>rw [eP,kf,ih];rfl
 exact (aC.jg (B:=0) (k:=1) (Nat.zero_le _) hr (by rw [aN];omega) (aB _) (by rw [hf,fC (by rw [aN];omega)]) λr hr=>by obtain ⟨x,-,rfl⟩:=aZ.1 hr;rfl).rd aF
def R7(n:Int):Nat->Int
 |0=>n / 1099511627776 % 256
 |1=>n / 4294967296 % 256
 |2=>n / 16777216 % 256
 |3=>n / 65536 % 256
 |4=>n / 256 % 256
 |_=>n % 256
def B7(n:Int):List Int:=(List.range 6).map (R7 n)
def lW(l:List Int):List Int:=(l.map B7).flatten
theorem tC(n:Int):(B7 n).length=6:=rfl
theorem qt(l:List Int):(lW l).length=6*l.length:=by
 unfold lW
 induction l with
 |nil=>rfl
 |cons a l ih=>rw [eP,kf,dm,ih,tC,dt];omega
theorem HG{l:List Int}{k:Nat}{n:Int}(h:l[k]? =some n):lW (l.take (k+1))=lW (l.take k)++B7 n:=by unfold lW;rw [dD,h,bU,List.flatten_append];simp
theorem YF(n:Int)(q:Nat):0<=R7 n q/\R7 n q<256:=by unfold R7;split<;>omega
theorem HH{α:Type}(f:Nat->α)(q:Nat):(List.range (q+1)).map f=(List.range q).map f++ [f q]:=by rw [List.range_succ,bU];rfl
theorem acU(n:Int)(q:Nat)(hq:q<6):eY (n.fdiv (2 ^(min (aj (8*(5-(q:Int)))).toNat 64)))=R7 n q:=by
 rw [wrap_u8];have:q=0\/q=1\/q=2\/q=3\/q=4\/q=5:=by omega
 rcases this with rfl|rfl|rfl|rfl|rfl|rfl
 all_goals
  rw [rT _ aF]
 ·show n / 1099511627776 % 256=_;rfl
 ·show n / 4294967296 % 256=_;rfl
 ·show n / 16777216 % 256=_;rfl
 ·show n / 65536 % 256=_;rfl
 ·show n / 256 % 256=_;rfl
 ·show n / 1 % 256=_;rw [Int.ediv_one];rfl
set_option maxHeartbeats 1000000 in
theorem qu{B:Nat}{w:World}{s:Sl}{b:List Int}(h:mA B w s b)(hB:B<=w){s1:Sl}{l:List Int}(hl:RdK w s1 1 (l.map iv))(iM:l≠ []->∀j,s1.aX=some j->s.aX≠some j)(dI:b.length+6*l.length<=900000):
  ah 81 #[s,s1] w λe w'=>∃s':Sl,e=s'/\Ap B w s w' s' (b++lW l):=by
 apply P7.vc;have Ki:s1.n=l.length:=by rw [hl.n,aN]
 refine ⟨λn x sl wr=>∃k:Nat,x=k/\k+n=l.length/\Ap B w s wr sl (b++lW (l.take k)),⟨l.length,0,rfl,by omega,by rw [Ba];show Ap B w s w s (b++ []);rw [rS];exact Ap.refl h hB⟩,?_⟩;rintro n us x sl wr ⟨k,rfl,hk,ha⟩;apply Br.mk<;>intro hq
 ·have hq:(k:Int)<s1.n:=by simpa using hq
  have J0:k<l.length:=by omega
  obtain ⟨y,hy⟩:=bI J0;have arj:l≠ []:=λe=>by rw [e] at J0;exact absurd J0 bB
  have gS:RdK wr s1 1 (l.map iv):=hl.aeK λhrn j hj=>ha.P6 j (iM arj j hj) (hl.P3 aF hrn hj)
  have hyi:(l.map iv)[k]? =some (iv y):=by rw [aU,hy];rfl
  have jq:=gS.at hyi (j:=0) (v:=.int .i64 y) rfl;rw [dw] at jq;have Rx:(lW (l.take k)).length=6*k:=by rw [qt,du];omega
  have wk:=mz (j:=k);refine ⟨gS.g9 aF ab hq,y,jq,λn x jJ bJ=>∃q:Nat,x=5-(q:Int)/\q+n=6/\Ap B w s bJ jJ (b++lW (l.take k)++(List.range q).map (R7 y)),⟨6,0,rfl,rfl,by simpa using ha⟩,?_⟩;rintro n9 Wv x jJ bJ ⟨q,rfl,hq6,hA⟩;apply Br.mk<;>intro hc
  ·have hc:(5-(q:Int))>=0:=by simpa using hc
   rw [acU y q ab];refine bE.2 ⟨CJ.2 (by rw [wI];omega),λeA oO=> ?_⟩;obtain ⟨hp,hr⟩:=hA.iO [R7 y q] (by simp only [dm,aN,Bk,Rx,dt,List.length_nil];omega) oO;refine ⟨hp,λW7 cL h17=> ?_⟩;obtain ⟨h1,h2,-⟩:=hr W7 cL h17;refine ⟨h2,n9-1,by omega,q+1,by rw [wI];omega,by omega,?_⟩;rw [HH,<-gE];exact h1
  ·have hc:¬(5-(q:Int))>=0:=by simpa using hc
   have:q=6:=by omega
   subst this;refine ⟨n-1,by omega,k+1,wk,by omega,?_⟩;rw [HG hy,<-gE];exact hA
 ·have hq:¬(k:Int)<s1.n:=by simpa using hq
  have:k=l.length:=by omega
  subst this;rw [iA] at ha;exact ⟨sl,rfl,ha⟩
def stB(b:Bool):Int:=if b then 1 else 0
abbrev jZ(b:ef):List Int:=[b.aI.1,b.aI.2.1,b.aI.2.2,b.speed.1,b.speed.2.1,b.speed.2.2,b.wd,b.ht]
def gr(i:Int)(b:ef):List Int:=i::(lW (jZ b)++ [stB b.gV])
def Bj(L:List (Option dZ))(i:Int):List Int:=match cc L i with|some y=>gr i y.1|none=> []
def fq(L:List (Option dZ))(l:List Int):List Int:=(l.map (Bj L)).flatten
def ia(x:gg.It):List Int:=lW [x.1,x.2.1,x.2.2.1,x.2.2.2]
def uu(l:List gg.It):List Int:=[((min l.length 2000:Nat):Int) / 256 % 256,((min l.length 2000:Nat):Int) % 256]++((l.take 2000).map ia).flatten
def dC(now:Int)(n:Nat):List Int:=B7 now++ [(n:Int) % 256]
def nJ(M:Sm)(L:List (Option dZ)):List Int:=dC M.now (cg L).length++fq L (cg L)++uu M.q.l
theorem sW(L:List (Option dZ)):(cg L).length<=16:=by unfold cg;rw [aN];have:=List.length_filter_le (λi:Nat=>(cc L (i:Nat)).isSome) (List.range 16);rw [Bk] at this;exact this
theorem Ez{L:List (Option dZ)}{x:Int}(h:x ∈ cg L):∃i:Nat,x=i/\i<16/\∃y,cc L i=some y:=by unfold cg at h;obtain ⟨i,hi,rfl⟩:=aZ.1 h;obtain ⟨h1,h2⟩:=List.mem_filter.1 hi;exact ⟨i,rfl,List.mem_range.1 h1,nH.1 h2⟩
theorem EU(i:Int)(b:ef):(gr i b).length=50:=by unfold gr;rw [dt,dm,qt];rfl
theorem wA(L:List (Option dZ)):∀l:List Int,(fq L l).length<=50*l.length
 | []=>aB _
 |x::l=>by
  have:=wA L l
  unfold fq at this ⊢
  rw [eP,kf,dm,dt]
  have:(Bj L x).length<=50:=by
   unfold Bj;split
   ·rw [EU];exact aB _
   ·exact Nat.zero_le _
  omega
theorem BB(x:gg.It):(ia x).length=24:=by unfold ia;rw [qt];rfl
theorem uv{α:Type}(f:α->List Int){l:List α}{k:Nat}{x:α}(h:l[k]? =some x):((l.take (k+1)).map f).flatten=((l.take k).map f).flatten++f x:=by rw [dD,h,bU,List.flatten_append];simp
theorem JE:∀l:List gg.It,(l.map ia).flatten.length=24*l.length
 | []=>rfl
 |x::l=>by rw [eP,kf,dm,BB,JE l,dt];omega
theorem agJ{B E k:Nat}{w:World}{s:Sl}{xs:LV}(h:Vc.Own B E k w s xs):s.n<=s.c:=by
 cases h with
 |nil=>exact aB _
 |row g n c cs hg hr hc hn=>exact hn
theorem My{w:World}{b:Nat}{y:dZ}(hr:Row w b (J7 y) kQ)(j:Nat){v:Value}(h:(J7 y)[j]? =some v):ag w (af (some ⟨b,0,none⟩) j) 0 [v]:=by rw [bf,ep];exact kB hr h
theorem yD{w:World}{b:Nat}{y:dZ}(hr:Row w b (J7 y) kQ)(j:Nat){v:Value}(h:(J7 y)[j]? =some v):Vc.ld w (af (some ⟨b,0,none⟩) j)=some v:=hr.at j h
section
variable {F F':Nat->Prop} {w w':World} {g s o t:Nat} {M M':Sm} {occ:Value} {L:List (Option dZ)}
theorem Hu(h:SF F w s o t M occ):ah 68 #[s] w λe w'=>e=(M.now)/\w'=w:=by obtain ⟨g,sd,h1,-⟩:=h.row;apply K9.vc;exact ⟨_,h1.at 3 rfl,rfl,rfl⟩
set_option maxHeartbeats 4000000 in
theorem Mz(h:EF F w g s o t M occ L):ah 26 #[g] w λe w'=>∃sl:Sl,e=Value.slice sl.a sl.n sl.c/\mA w w' sl (nJ M L)/\Ext w w':=by
 apply tN.vc;refine (HL h).mono ?_;rintro e w1 ⟨s1,rfl,ho1,x1⟩;have z1:=x1.size;have h1:=h.ext x1;have Ki:s1.n=(cg L).length:=by rw [(ho1.rd aF).n,aN]
 have hll:=sW L;obtain ⟨Fs,hs,jq,eL,-⟩:=h1.vb;refine ⟨s1,rfl,_,jq,(Hu hs).mono ?_⟩;rintro e w3 ⟨rfl,Ol⟩;subst Ol;refine ⟨_,rfl,λw5 e5=> ?_⟩;have x5:=aL e5;have z5:=zA e5;have hr5:=rdI (l:=[M.now]) e5;refine (qu (B:=w3.heap.size) (s:=⟨none,0,0⟩) (b:=[]) aC.nil x5.size hr5 (λ_ j _ q=>(by cases q)) bB).mono ?_;rintro e w6 ⟨s7,rfl,a6⟩;have e6:([]:List Int)++lW [M.now]=B7 M.now:=by show B7 M.now++ []=_;rw [rS]
 rw [e6] at a6;refine ⟨s7,rfl,λw8 e8=> ?_⟩;have ew:eY ((s1.n:Nat):Int)=((cg L).length:Int) % 256:=by rw [wrap_u8,Ki]
 rw [ew] at e8 ⊢;obtain ⟨Cq,hr8⟩:=a6.iO [((cg L).length:Int) % 256] (by rw [tC];simp) e8;have z8:=zA e8;refine ⟨Cq,λs9 bO r10=> ?_⟩;obtain ⟨a10,k10,-,b10,QX⟩:=hr8 s9 bO r10;replace a10:Ap w3 w5 ⟨none,0,0⟩ bO s9 (dC M.now (cg L).length):=a10;have z6:=a6.bel.size;have ail:Ext w3 bO:=x5.trans (Below.mono a10.bel (aB _));have n96:s9.aX≠some w6.heap.size:=eI b10 (a6.ne (aB _)) ab;have ht7:(dC M.now (cg L).length).length=7:=rfl;have A0:Ap w3 bO s9 bO s9 (dC M.now (cg L).length):=Ap.refl a10.own ab;refine ⟨k10,λn x sl wr=>∃k:Nat,x=k/\k+n=(cg L).length/\Ap w3 bO s9 wr sl (dC M.now (cg L).length++fq L ((cg L).take k)),⟨(cg L).length,rfl,0,rfl,by omega,by rw [Ba];show Ap _ _ _ _ _ (_++ []);rw [rS];exact A0⟩,?_⟩;rintro n us x lj cJ ⟨k,rfl,hk,Rz⟩;have ain:Ext w3 cJ:=ail.trans (Below.mono Rz.bel (aB _));have z16:=Rz.bel.size;have kD:(dC M.now (cg L).length++fq L ((cg L).take k)).length<=1000:=by have:=wA L ((cg L).take k);rw [du] at this;rw [dm,ht7];omega
 apply Br.mk<;>intro hq
 ·have hq:(k:Int)<s1.n:=by simpa using hq
  obtain ⟨v,hv⟩:=bI (l:=cg L) (i:=k) ab;obtain ⟨i,rfl,FD,y,hy⟩:=Ez (bg hv);have gS:=(ho1.ext ain).rd (show 0<1 by decide);have hvi:((cg L).map λi=> [Value.int .i64 i])[k]? =some [.int .i64 (i:Int)]:=by rw [aU,hv];rfl
  have amf:=gS.at hvi (j:=0) (v:=.int .i64 i) rfl;rw [dw] at amf;obtain ⟨av,cO,jn,-,-,-⟩:=h1.row;obtain ⟨b,hab,Rp⟩:=jn.full FD hy;have rowU:∀{u:World} {c:Sl} {bs:List Int},Ap w3 bO s9 u c bs->Row u b (J7 y) kQ:=λ{u c bs} ha=>Rp.ext (ail.trans (Below.mono ha.bel (aB _)))
  have asp:=rowU Rz;have xd:=Ext.dr cJ;have rbd:=asp.ext xd;have zd:=lG cJ;have ad:=Rz.ext xd;have wk:=mz (j:=k);have ei:eY ((i:Nat):Int)=(i:Int):=by rw [wrap_u8];omega
  refine ⟨gS.g9 aF ab hq,_,amf,by omega,by omega,_,IS (cO.ext ain) hab,?_⟩;refine ⟨λc u=>Ap w3 bO s9 u c (dC M.now (cg L).length++fq L ((cg L).take k)++((i:Int)::lW (jZ y.1))),?_,?_⟩
  ·refine fU rfl (fU rfl (fU rfl (fU rfl ⟨_,yD rbd 0 rfl,fU rfl (fU rfl (fU rfl (fU rfl ⟨_,yD rbd 1 rfl,fU rfl (fU rfl (fU rfl (fU rfl ⟨_,yD rbd 2 rfl,fU rfl (fU rfl (fU rfl (fU rfl ⟨_,yD rbd 3 rfl,fU rfl (fU rfl (fU rfl (fU rfl ⟨_,yD rbd 4 rfl,fU rfl (fU rfl (fU rfl (fU rfl ⟨_,yD rbd 5 rfl,fU rfl (fU rfl (fU rfl ⟨_,yD rbd 6 rfl,fU rfl (fU rfl (fU rfl ⟨_,yD rbd 7 rfl,?_⟩))⟩))⟩)))⟩)))⟩)))⟩)))⟩)))⟩)));rw [ei];have fin:∀{u u':World} {c c':Sl},Ap w3 bO s9 u c (dC M.now (cg L).length++fq L ((cg L).take k)++ [(i:Int)])->Ap w3 u c u' c' (dC M.now (cg L).length++fq L ((cg L).take k)++ [(i:Int)]++lW (jZ y.1))->Ap w3 bO s9 u' c' (dC M.now (cg L).length++fq L ((cg L).take k)++((i:Int)::lW (jZ y.1))):=λh1 h2=>by have:=h1.trans h2;rw [gE,gE] at this;rw [gE];exact this
   have hlen1:((dC M.now (cg L).length++fq L ((cg L).take k))++ [(i:Int)]).length+6*(jZ y.1).length<=900000:=by rw [dm];show _+1+6*8<=_;omega
   have WL:lj.aX≠some w6.heap.size:=Rz.off n96 ab;refine ⟨λdR M3=>⟨?_,λjK e35=> ?_⟩,λjr QZ gO e41=> ?_⟩
   ·obtain ⟨hp,hr⟩:=ad.iO [(i:Int)] (by rw [dt,List.length_nil];omega) M3;have z29:=zA M3;refine ⟨hp,λsS fJ r31=> ?_⟩;obtain ⟨a31,k31,m31,WY,z31⟩:=hr sS fJ r31;have N0:=rowU a31;refine ⟨m31 _ WL ab,k31,My N0 7 rfl,My N0 6 rfl,My N0 5 rfl,My N0 4 rfl,My N0 3 rfl,My N0 2 rfl,My N0 1 rfl,My N0 0 rfl,λlv Rj=> ?_⟩;have a32:=a31.ext (aL Rj);have z32:=zA Rj;have hrd32:=rdI (l:=jZ y.1) Rj;have nd:sS.aX≠some cJ.drew.heap.size:=eI WY (Rz.ne (aB _)) ab;refine (qu a32.own (by have:=a32.bel.size;omega) hrd32 (λ_ j hj q=> ?_) hlen1).mono ?_
    ·have hj:j=fJ.heap.size:=(Option.some.inj hj).symm;subst hj;exact a31.ne (aB _) q
    rintro e eM ⟨s34,rfl,a33⟩;exact ⟨s34,rfl,a33.P6 _ (a31.off n96 ab) ab,a33.P6 _ nd ab,rfl,fin a32 a33⟩
   ·have gd:=aL M3;have z29:=zA M3;obtain ⟨hp,hr⟩:=(ad.ext gd).iO [(i:Int)] (by rw [dt,List.length_nil];omega) e35;have z35:=zA e35;have hrd35:=rdI (l:=jZ y.1) e35;refine ⟨hp,λs36 ie r37=> ?_⟩;obtain ⟨a37,k37,m37,b37,z37⟩:=hr s36 ie r37;have nd:lj.aX≠some cJ.drew.heap.size:=Rz.ne (aB _);have W6:s36.aX≠some dR.heap.size:=eI b37 (Rz.ne ab) ab;refine ⟨m37 _ WL ab,m37 _ nd ab,k37,(qu a37.own (by have:=a37.bel.size;omega) (hrd35.same λj hj=> ?_) (λ_ j hj q=> ?_) hlen1).mono ?_⟩
    ·have hj:j=dR.heap.size:=(Option.some.inj hj).symm;subst hj;exact k37
    ·have hj:j=dR.heap.size:=(Option.some.inj hj).symm;subst hj;exact W6 q
    rintro e lf ⟨S1,rfl,a38⟩;exact ⟨S1,rfl,a38.P6 _ (a37.off n96 ab) ab,a38.P6 _ (eI b37 nd ab) ab,rfl,fin a37 a38⟩
   ·have mc:=aL QZ;have z40:=zA QZ;have hrd40:=rdI (l:=jZ y.1) QZ;obtain ⟨hp,hr⟩:=(ad.ext mc).iO [(i:Int)] (by rw [dt,List.length_nil];omega) e41;have z41:=zA e41;have kI:=aL e41;refine ⟨hp,λs42 jd r43=> ?_⟩;obtain ⟨a43,k43,m43,M7,z43⟩:=hr s42 jd r43;have nd:lj.aX≠some cJ.drew.heap.size:=Rz.ne (aB _);have n40:lj.aX≠some jr.heap.size:=Rz.ne ab;refine ⟨m43 _ WL ab,m43 _ nd ab,k43,(qu a43.own (by have:=a43.bel.size;omega) ((hrd40.ext kI).same λj hj=> ?_) (λ_ j hj q=> ?_) hlen1).mono ?_⟩
    ·have hj:j=cJ.drew.heap.size:=(Option.some.inj hj).symm;subst hj;exact m43 _ nd ab
    ·have hj:j=cJ.drew.heap.size:=(Option.some.inj hj).symm;subst hj;exact eI M7 nd ab q
    rintro e ko ⟨s45,rfl,a44⟩;exact ⟨s45,rfl,a44.P6 _ (a43.off n96 ab) ab,a44.P6 _ (eI M7 n40 ab) ab,rfl,fin a43 a44⟩
  ·intro amg C3 fY N1;have asu:=rowU N1;have z48:=N1.bel.size;have asv:(dC M.now (cg L).length++fq L ((cg L).take k)++((i:Int)::lW (jZ y.1))).length<=2000:=by rw [dm,dt,qt];show _+(6*8+1)<=_;omega
   have endS:∀(st:Int),st=stB y.1.gV->∀{v:World} {c:Sl},Ap w3 bO s9 v c (dC M.now (cg L).length++fq L ((cg L).take k)++((i:Int)::lW (jZ y.1))++ [st])->Ap w3 bO s9 v c (dC M.now (cg L).length++fq L ((cg L).take (k+1))):=λst gG {v c} h=>by
    have e:fq L ((cg L).take (k+1))=fq L ((cg L).take k)++((i:Int)::(lW (jZ y.1)++ [st])):=by unfold fq;rw [uv (Bj L) hv];unfold Bj gr;rw [hy,gG]
    rw [e,<-gE];rw [gE] at h;exact h
   refine fU rfl (fU rfl (fU rfl ⟨_,yD asu 8 rfl,Br.mk (λhb=>λmi e50=> ?_) (λhb=>λRq e53=> ?_)⟩))
   ·obtain ⟨hp,hr⟩:=N1.iO [1] (by rw [dt,List.length_nil];omega) e50;have z50:=zA e50;refine ⟨hp,λs51 Kd r52=> ?_⟩;obtain ⟨a52,k52,m52,b52,z52⟩:=hr s51 Kd r52;exact ⟨m52 _ (N1.off n96 ab) ab,k52,n-1,by omega,rfl,k+1,wk,by omega,endS 1 (by rw [hb];rfl) a52⟩
   ·obtain ⟨hp,hr⟩:=N1.iO [0] (by rw [dt,List.length_nil];omega) e53;have z53:=zA e53;refine ⟨hp,λC1 yQ r55=> ?_⟩;obtain ⟨a55,k55,m55,b55,z55⟩:=hr C1 yQ r55;exact ⟨m55 _ (N1.off n96 ab) ab,k55,n-1,by omega,rfl,k+1,wk,by omega,endS 0 (by rw [hb];rfl) a55⟩
 ·have hq:¬(k:Int)<s1.n:=by simpa using hq
  have hk':k=(cg L).length:=by omega
  subst hk';rw [iA] at Rz kD;obtain ⟨azH,amh,hld16,-,-⟩:=(h1.ext ain).vb;refine ⟨_,hld16,(vh amh).mono ?_⟩;rintro e mR ⟨mu,rfl,RA,mG⟩;have z57:=mG.size;obtain ⟨gq,mq,qs,-,tP,-⟩:=amh.queue;have hql:M.q.l.length<=4096:=by have:=tP.len;have:=tP.room;omega
  have aes:mu.n=M.q.l.length:=by rw [(RA.rd (show 0<4 by decide)).n,aN]
  have asx:=(RA.rd (show 0<4 by decide));have M4:mu.n<=mu.c:=agJ RA.own;have WL:lj.aX≠some w6.heap.size:=Rz.off n96 ab;have aio:(if 2000<((mu.n:Nat):Int) then 2000 else ((mu.n:Nat):Int))=((min M.q.l.length 2000:Nat):Int):=by rw [aes];split<;>omega
  refine ⟨mu,rfl,mG.heap ab,?_⟩;rw [aio];refine ⟨by omega,by omega,λxh W5=> ?_⟩;rw [ed];have a57:=Rz.ext mG;have eb1:eY (((((((min M.q.l.length 2000:Nat):Int):Int).toNat-0:Nat):Int)).fdiv (2 ^(min (8:Int).toNat 64)))=((min M.q.l.length 2000:Nat):Int) / 256 % 256:=by rw [wrap_u8,rT _ aF];rfl
  have eb2:eY ((((((min M.q.l.length 2000:Nat):Int):Int).toNat-0:Nat):Int))=((min M.q.l.length 2000:Nat):Int) % 256:=by rw [wrap_u8];rfl
  rw [eb1,eb2] at W5 ⊢;obtain ⟨hp,hr⟩:=a57.iO [((min M.q.l.length 2000:Nat):Int) / 256 % 256,((min M.q.l.length 2000:Nat):Int) % 256] (by rw [dt,dt,List.length_nil];omega) W5;have z59:=zA W5;refine ⟨hp,λRB oD r61=> ?_⟩;obtain ⟨a61,k61,m61,b61,z61⟩:=hr RB oD r61;have kJ:=aL W5;have asA:RB.aX≠some w6.heap.size:=eI b61 WL ab;have ami:RB.aX≠some mR.heap.size:=eI b61 (a57.ne (aB _)) ab;have aiq:∀j,mu.aX=some j->cJ.heap.size<=j/\j<mR.heap.size:=λj hj=>RA.own.lt hj
  have amj:∀j,mu.aX=some j->RB.aX≠some j:=λj hj=>by obtain ⟨q1,q2⟩:=aiq j hj;exact eI b61 (Rz.ne q1) ab
  have hrd61:RdK oD mu 4 (M.q.l.map fI):=asx.same λj hj=>by obtain ⟨q1,q2⟩:=aiq j hj;exact (m61 j (Rz.ne q1) ab).trans (kJ.heap q2)
  let W:=M.q.l.take 2000
  have hW:W.length=min M.q.l.length 2000:=by rw [du,Nat.min_comm]
  have A61:Ap w3 oD RB oD RB (dC M.now (cg L).length++fq L (cg L)++ [((min M.q.l.length 2000:Nat):Int) / 256 % 256,((min M.q.l.length 2000:Nat):Int) % 256]):=Ap.refl a61.own (by have:=a61.bel.size;omega);have ah3:((((min M.q.l.length 2000:Nat):Int)).toNat-0:Nat)=W.length:=by rw [hW];omega
  rw [ah3];refine ⟨m61 _ WL ab,k61,λn x sl wr=>∃k:Nat,x=k/\k+n=W.length/\Ap w3 oD RB wr sl (dC M.now (cg L).length++fq L (cg L)++ [((min M.q.l.length 2000:Nat):Int) / 256 % 256,((min M.q.l.length 2000:Nat):Int) % 256]++((W.take k).map ia).flatten),⟨W.length,rfl,rfl,0,rfl,by omega,by rw [Ba];show Ap _ _ _ _ _ (_++ []);rw [rS];exact A61⟩,?_⟩;rintro n2 wX x s66 kx ⟨k,rfl,hk,a67⟩;have z67:=a67.bel.size;apply Br.mk<;>intro hq
  ·have hq:(k:Int)<W.length:=by simpa using hq
   have hkW:k<W.length:=by omega
   obtain ⟨it,Rk⟩:=bI hkW;have aet:M.q.l[k]? =some it:=by have h2:W[k]? =M.q.l[k]? :=List.getElem?_take_of_lt ab;rw [<-h2];exact Rk
   have cO:(M.q.l.map fI)[k]? =some (fI it):=by rw [aU,aet];rfl
   have hrd67:RdK kx mu 4 (M.q.l.map fI):=hrd61.same λj hj=>a67.P6 j (amj j hj) (by have:=aiq j hj;omega)
   have oq:eo mu.a (k:Int) W.length:=by obtain ⟨q1,q2,q3⟩:=hrd67.g9 (i:=(k:Int)) aF ab ab;exact ⟨q1,q2,hq⟩
   refine ⟨oq,_,_,_,_,hrd67.bZ cO,λM8 e73 lD e74 qD Wz=> ?_⟩;have uX:Ext kx lD:=(aL e73).ae e74 (aB _);have z74:lD.heap.size=kx.heap.size+1:=by rw [zR e74,zA e73]
   have uU:=aL Wz;have z75:=zA Wz;have hrd75:=rdI (l:=[it.1,it.2.1,it.2.2.1,it.2.2.2]) Wz;have a75:=a67.ext (uX.tr uU);have azK:(dC M.now (cg L).length++fq L (cg L)++ [((min M.q.l.length 2000:Nat):Int) / 256 % 256,((min M.q.l.length 2000:Nat):Int) % 256]++((W.take k).map ia).flatten).length<=100000:=by rw [dm,dm,JE,du];show _+2+_<=_;omega
   refine (qu a75.own (by have:=a75.bel.size;omega) hrd75 (λ_ j hj q=> ?_) (by show _+6*4<=_;omega)).mono ?_
   ·have hj:j=lD.heap.size:=(Option.some.inj hj).symm;subst hj;exact a67.ne ab q
   rintro e jt ⟨s77,rfl,a76⟩;refine ⟨s77,rfl,a76.P6 _ (a67.off asA ab) ab,a76.P6 _ (a67.off ami ab) ab,a76.P6 _ (a67.ne (aB _)) ab,n2-1,by omega,rfl,rfl,k+1,by rw [wI];omega,by omega,?_⟩;rw [uv ia Rk,<-gE];exact a75.trans a76
  ·have hq:¬(k:Int)<W.length:=by simpa using hq
   have hk':k=W.length:=by omega
   subst hk';rw [iA] at a67;refine ⟨s66,rfl,?_,?_⟩
   ·have e:nJ M L=dC M.now (cg L).length++fq L (cg L)++ [((min M.q.l.length 2000:Nat):Int) / 256 % 256,((min M.q.l.length 2000:Nat):Int) % 256]++(W.map ia).flatten:=by unfold nJ uu;rw [<-gE]
    rw [e];exact aC.low a67.own z1
   ·have b3:Below w3 w3 kx:=Below.trans ail (Below.trans a61.bel a67.bel);exact x1.tr b3
end
def uq:Nat->Int
 |0=>1099511627776
 |1=>4294967296
 |2=>16777216
 |3=>65536
 |4=>256
 |5=>1
 |_=>0
theorem adl(q:Nat)(hq:q<6):aj (Int.tdiv (uq q) 256)=uq (q+1):=by
 have:q=0\/q=1\/q=2\/q=3\/q=4\/q=5:=by omega
 rcases this with rfl|rfl|rfl|rfl|rfl|rfl<;>decide
theorem agR{n:Int}(h0:0<=n)(h1:n<=4611686018427387904)(q:Nat)(hq:q<6):eY (Int.tmod (aj (Int.tdiv n (uq q))) 256)=R7 n q:=by
 have hu:0<uq q:=by
  have:q=0\/q=1\/q=2\/q=3\/q=4\/q=5:=by omega
  rcases this with rfl|rfl|rfl|rfl|rfl|rfl<;>decide
 have hd:0<=n / uq q/\n / uq q<=n:=⟨Int.ediv_nonneg h0 (Int.le_of_lt hu),Int.ediv_le_self _ h0⟩;rw [qb h0,wI,Int.tmod_eq_emod_of_nonneg hd.1,wrap_u8,Int.emod_emod_of_dvd _ (Int.dvd_refl 256)];have:q=0\/q=1\/q=2\/q=3\/q=4\/q=5:=by omega
 rcases this with rfl|rfl|rfl|rfl|rfl|rfl
 ·rfl
 ·rfl
 ·rfl
 ·rfl
 ·rfl
 ·show n / 1 % 256=n % 256;rw [Int.ediv_one]
theorem ZO(n:Int)(q:Nat)(hq:q<6):R7 (n+281474976710656) q=R7 n q:=by
 have:q=0\/q=1\/q=2\/q=3\/q=4\/q=5:=by omega
 rcases this with rfl|rfl|rfl|rfl|rfl|rfl
 ·show (n+281474976710656) / 1099511627776 % 256=n / 1099511627776 % 256;omega
 ·show (n+281474976710656) / 4294967296 % 256=n / 4294967296 % 256;omega
 ·show (n+281474976710656) / 16777216 % 256=n / 16777216 % 256;omega
 ·show (n+281474976710656) / 65536 % 256=n / 65536 % 256;omega
 ·show (n+281474976710656) / 256 % 256=n / 256 % 256;omega
 ·show (n+281474976710656) % 256=n % 256;omega
abbrev C5(n:Int):Prop:= -281474976710656<=n/\n<=4611686018427387904
theorem BF(n:Int)(hn:C5 n)(w:World):ah 89 #[n] w λe w'=>∃s:Sl,e=s/\mA w w' s (B7 n)/\Ext w w':=by
 apply JI.vc;have body:∀(n':Int),0<=n'->n'<=4611686018427387904->(∀q,q<6->R7 n' q=R7 n q)->∃I0:Nat->Int->Sl->Int->World->Prop,
   (∃n1,I0 n1 (0) ⟨none,0,0⟩ (1099511627776) w)/\
   ∀(n1:Nat)(wX:Nat->Value)(x3:Int)(s4:Sl)(x5:Int)(w6:World),I0 n1 x3 s4 x5 w6->
   Br (decide ((x3:Int)<6))
   (aP (J6 x5) (∀w8:World,w8=w6.alloc (.cells #[.int .u8 (eY (Int.tmod (aj (Int.tdiv n' x5)) 256))] hX)->
   ba 1 1 w8 ⟨s4.a,s4.n,s4.c⟩ 1 [.int .u8 (eY (Int.tmod (aj (Int.tdiv n' x5)) 256))]/\∀(s9:Sl)(bO:World),aV hX 1 w8 ⟨s4.a,s4.n,s4.c⟩ 1 [.int .u8 (eY (Int.tmod (aj (Int.tdiv n' x5)) 256))] s9 bO->bO.heap[w6.heap.size]? =w8.heap[w6.heap.size]?/\
   ∃n7,n7<n1/\I0 n7 ((aj (x3+1))) ⟨s9.a,s9.n,s9.c⟩ ((aj (Int.tdiv x5 256))) bO))
   (∃s:Sl,Ending.returned s4=s/\mA w w6 s (B7 n)/\Ext w w6):=by
  intro n' h0 h1 hq;refine ⟨λm x sl u wr=>∃q:Nat,x=q/\q+m=6/\u=uq q/\Ap w w ⟨none,0,0⟩ wr sl ((List.range q).map (R7 n)),⟨6,0,rfl,rfl,rfl,Ap.refl aC.nil (aB _)⟩,?_⟩;rintro m us x s4 x5 w6 ⟨q,rfl,hm,rfl,ha⟩;apply Br.mk<;>intro hc
  ·have hc:(q:Int)<6:=by simpa using hc
   have hq6:q<6:=by omega
   rw [agR h0 h1 q hq6,hq q hq6];refine bE.2 ⟨qI.2 ?_,λw8 e8=> ?_⟩
   ·have:q=0\/q=1\/q=2\/q=3\/q=4\/q=5:=by omega
    rcases this with rfl|rfl|rfl|rfl|rfl|rfl<;>decide
   obtain ⟨hp,hr⟩:=ha.iO [R7 n q] (by simp only [aN,Bk,dt,List.length_nil];omega) e8;refine ⟨hp,λs9 bO r10=> ?_⟩;obtain ⟨h1,h2,-⟩:=hr s9 bO r10;refine ⟨h2,m-1,by omega,q+1,by rw [wI];omega,by omega,adl q hq6,?_⟩;rw [HH];exact h1
  ·have hc:¬(q:Int)<6:=by simpa using hc
   have:q=6:=by omega
   subst this;exact ⟨s4,rfl,ha.own,ha.bel⟩
 refine Br.mk (λh=> ?_) (λh=>body n (by simp at h;omega) hn.2 λ_ _=>rfl);have h:n<0:=by simpa using h
 have e:aj (n+281474976710656)=n+281474976710656:=wI;rw [e];exact body _ ab ab λq hq=>ZO n q hq
theorem yI{w:World}{s1:Sl}{l:List Int}(hl:RdK w s1 1 (l.map iv))(hn:∀x ∈ l,C5 x)(dI:l.length<=10000):ah 90 #[s1] w λe w'=>∃s:Sl,e=s/\mA w w' s (lW l)/\Ext w w':=by
 apply Gz.vc;have Ki:s1.n=l.length:=by rw [hl.n,aN]
 refine ⟨λn x sl wr=>∃k:Nat,x=k/\k+n=l.length/\Ap w w ⟨none,0,0⟩ wr sl (lW (l.take k)),⟨l.length,0,rfl,by omega,Ap.refl aC.nil (aB _)⟩,?_⟩;rintro n us x sl wr ⟨k,rfl,hk,ha⟩;apply Br.mk<;>intro hq
 ·have hq:(k:Int)<s1.n:=by simpa using hq
  obtain ⟨y,hy⟩:=bI (l:=l) (i:=k) ab;have gS:RdK wr s1 1 (l.map iv):=hl.ext ha.bel;have hyi:(l.map iv)[k]? =some (iv y):=by rw [aU,hy];rfl
  have jq:=gS.at hyi (j:=0) (v:=.int .i64 y) rfl;rw [dw] at jq;refine ⟨gS.g9 aF ab hq,y,jq,(BF y (hn y (bg hy)) wr).mono ?_⟩;rintro e w8 ⟨s9,rfl,ho9,x8⟩;have hn9:s9.n=(B7 y).length:=by rw [(ho9.rd aF).n,aN]
  obtain ⟨hp,hr⟩:=(ha.ext x8).app (B7 y) (by rw [qt,du,tC];omega);refine ⟨s9,rfl,_,(ho9.rd aF).flat aF,by rw [hn9];exact hp,λAP cR r12=> ?_⟩;rw [hn9] at r12;obtain ⟨h1,-⟩:=hr AP cR r12;refine ⟨n-1,by omega,k+1,by rw [wI];omega,by omega,?_⟩;rw [HG hy];exact h1
 ·have hq:¬(k:Int)<s1.n:=by simpa using hq
  have:k=l.length:=by omega
  subst this;rw [iA] at ha;exact ⟨sl,rfl,ha.own,ha.bel⟩
abbrev Xr:=Int × ef
abbrev XV(x:Xr):LV:=.int .i64 x.1::jo x.2
def DX(now:Int)(xs:List Xr)(ws:List gg.It):List Int:=dC now xs.length++(xs.map λx=>gr x.1 x.2).flatten++uu ws
theorem kT{w:World}{s:Sl}{k:Nat}{rows:List (LV)}(h:RdK w s k rows){i:Nat}{r:LV}(hi:rows[i]? =some r){off:Nat}{vs:LV}(hv:∀j,j<vs.length->r[off+j]? =vs[j]?):ag w (af (af s.a (i*k)) off) 0 vs:=
 lX λj hj=>by have e:=hv j hj;have hs:vs[j]? =some vs[j]:=cZ hj;rw [hs] at e ⊢;have:=h.at hi (j:=off+j) e;rw [dw,ep];exact this
theorem ajU:∀l:List Xr,(l.map λx=>gr x.1 x.2).flatten.length=50*l.length
 | []=>rfl
 |x::l=>by rw [eP,kf,dm,EU,ajU l,dt];omega
set_option maxHeartbeats 4000000 in
theorem Ov{now:Int}{sx sw:Sl}{xs:List Xr}{ws:List gg.It}{w:World}(hx:RdK w sx 10 (xs.map XV))(hw:RdK w sw 4 (ws.map fI))(aed:C5 now)(hxn:xs.length<=16)(hwn:ws.length<=4096)
  (hxb:∀x ∈ xs,(0<=x.1/\x.1<16)/\∀n ∈ jZ x.2,C5 n)(FR:∀x ∈ ws,∀n ∈ [x.1,x.2.1,x.2.2.1,x.2.2.2],C5 n):
  ah 34 #[.agg #[now,sx,sw]] w λe w'=>∃sl:Sl,e=Value.slice sl.a sl.n sl.c/\mA w w' sl (DX now xs ws)/\Ext w w':=by
 apply (MP.vc (aq:=sx) (au:=sw));have hnx:sx.n=xs.length:=by rw [hx.n,aN]
 have hnw:sw.n=ws.length:=by rw [hw.n,aN]
 intro w0 e0;have x0:=aL e0;have z0:=zA e0;have r0:∃τ,Row w0 w [now,sx,sw] τ:=⟨_,by rw [e0];exact Row.new w [_,_,_] _⟩;obtain ⟨τ,r0⟩:=r0;refine (BF now aed w0).mono ?_;rintro e w1 ⟨s2,rfl,yW,x1⟩;have z1:=x1.size;refine ⟨s2,rfl,x1.heap ab,λw3 e3=> ?_⟩;have ew:eY ((sx.n:Nat):Int)=(xs.length:Int) % 256:=by rw [wrap_u8,hnx]
 rw [ew] at e3 ⊢;have a1:Ap w0 w1 s2 w1 s2 (B7 now):=Ap.refl yW x1.size;obtain ⟨hp3,hr3⟩:=a1.iO [(xs.length:Int) % 256] (by rw [tC];simp) e3;have z3:=zA e3;have n2w:s2.aX≠some w.heap.size:=λq=>by have:=(yW.own.lt q).1;omega
 refine ⟨hp3,λs4 w5 r5=> ?_⟩;obtain ⟨a5,k5,m5,b5,z5⟩:=hr3 s4 w5 r5;replace a5:Ap w0 w1 s2 w5 s4 (dC now xs.length):=a5;have Nu:Ext w0 w5:=x1.trans a5.bel;have n4w:s4.aX≠some w.heap.size:=eI b5 n2w ab;have n41:s4.aX≠some w1.heap.size:=eI b5 (a1.ne (aB _)) ab;have ht7:(dC now xs.length).length=7:=rfl;have A5:Ap w0 w5 s4 w5 s4 (dC now xs.length):=Ap.refl a5.own ab;refine ⟨m5 _ n2w ab,k5,?_⟩;refine ⟨λn x sl wr=>∃k:Nat,x=k/\k+n=xs.length/\Ap w0 w5 s4 wr sl (dC now xs.length++((xs.take k).map λx=>gr x.1 x.2).flatten),⟨xs.length,rfl,rfl,0,rfl,by omega,by rw [Ba];show Ap _ _ _ _ _ (_++ []);rw [rS];exact A5⟩,?_⟩;rintro n us x xf aY ⟨k,rfl,hk,a11⟩;have z11:=a11.bel.size;have WO:Ext w0 aY:=Nu.trans a11.bel;have kD:(dC now xs.length++((xs.take k).map λx=>gr x.1 x.2).flatten).length<=1000:=by rw [dm,ajU,du,ht7];omega
 have n10w:=a11.off n4w ab;have aex:=a11.off n41 ab;apply Br.mk<;>intro hq
 ·have hq:(k:Int)<sx.n:=by simpa using hq
  obtain ⟨v,hv⟩:=bI (l:=xs) (i:=k) ab;obtain ⟨⟨hv0,aAp⟩,hvb⟩:=hxb v (bg hv);have hvr:(xs.map XV)[k]? =some (XV v):=by rw [aU,hv];rfl
  have hrd11:=hx.ext (x0.tr WO);have eL:∀j,j<(jo v.2).length->(XV v)[1+j]? =(jo v.2)[j]? :=λj _=>by rw [Nat.add_comm,Bm]
  have oq:=hrd11.g9 (i:=(k:Int)) aF ab hq;refine ⟨oq,bE.2 ⟨iN.2 (by rw [gF];exact oq.1),_,_,_,_,_,_,_,_,_,kT hrd11 hvr eL,λdT yX eh Ii=> ?_⟩⟩;have dz:Ext aY eh:=(aL yX).ae Ii (aB _);have z23:eh.heap.size=aY.heap.size+1:=by rw [zR Ii,zA yX]
  have hrd23:=hrd11.ext dz;have hin2:=hrd23.g9 (i:=(k:Int)) aF ab hq;refine ⟨hin2,bE.2 ⟨iN.2 (by rw [gF];exact hin2.1),_,hrd23.at hvr (j:=0) (v:=.int .i64 v.1) rfl,λcU wK=> ?_⟩⟩;have ei:eY v.1=v.1:=by rw [wrap_u8];omega
  rw [ei] at wK ⊢;obtain ⟨hp,hr⟩:=(a11.ext dz).iO [v.1] (by rw [dt,List.length_nil];omega) wK;have z25:=zA wK;refine ⟨hp,λOi eH r27=> ?_⟩;obtain ⟨a27,k27,m27,AM,z27⟩:=hr Oi eH r27;have afG:xf.aX≠some aY.heap.size:=a11.ne (aB _);have amR:xf.aX≠some eh.heap.size:=a11.ne ab;refine ⟨m27 _ n10w ab,m27 _ aex ab,m27 _ afG ab,k27,λgN e28=> ?_⟩;have g7:=aL e28;have z28:=zA e28;have hrd28:=rdI (l:=jZ v.2) e28;refine (yI hrd28 hvb (by show 8<=10000;decide)).mono ?_;rintro e dR ⟨sS,rfl,amS,gd⟩;have z29:=gd.size;have ais:sS.n=(lW (jZ v.2)).length:=by rw [(amS.rd aF).n,aN]
  have Rx:(lW (jZ v.2)).length=48:=by rw [qt];rfl
  obtain ⟨hp,hr⟩:=(a27.ext (g7.tr gd)).app (lW (jZ v.2)) (by rw [dm,Rx,dt,List.length_nil];omega);refine ⟨sS,rfl,gd.heap ab,gd.heap ab,gd.heap ab,gd.heap ab,_,(amS.rd aF).flat aF,by rw [ais];exact hp,λoL eM r33=> ?_⟩;rw [ais] at r33;obtain ⟨a33,m33,b33,z33⟩:=hr oL eM r33;have n26w:Oi.aX≠some w.heap.size:=eI AM n10w ab;have aiD:Oi.aX≠some w1.heap.size:=eI AM aex ab;have abp:Oi.aX≠some aY.heap.size:=eI AM afG ab;have abq:Oi.aX≠some eh.heap.size:=eI AM amR ab;have aAt:(dC now xs.length++((xs.take k).map λx=>gr x.1 x.2).flatten++ [v.1]++lW (jZ v.2)).length<=2000:=by rw [dm,Rx,dm,dt,List.length_nil];omega
  have wk:=mz (j:=k);have endS:∀(st:Int),st=stB v.2.gV->∀{v':World} {c:Sl},Ap w0 w5 s4 v' c (dC now xs.length++((xs.take k).map λx=>gr x.1 x.2).flatten++ [v.1]++lW (jZ v.2)++ [st])->Ap w0 w5 s4 v' c (dC now xs.length++((xs.take (k+1)).map λx=>gr x.1 x.2).flatten):=λst gG {v' c} h=>by rw [uv (λx:Xr=>gr x.1 x.2) hv];unfold gr;rw [gG] at h;simp only [gE,List.cons_append,XC] at h ⊢;exact h
  have q1:eY 1=1:=by decide
  have q0:eY 0=0:=by decide
  refine ⟨m33 _ n26w ab,m33 _ aiD ab,m33 _ abp ab,m33 _ abq ab,Br.mk (λhb=> ?_) (λhb=> ?_)⟩
  ·rw [q1];intro jc e34;obtain ⟨hp,hr⟩:=a33.iO [1] (by rw [dt,List.length_nil];omega) e34;have z34:=zA e34;refine ⟨hp,λs35 jW r36=> ?_⟩;obtain ⟨a36,k36,m36,b36,z36⟩:=hr s35 jW r36;exact ⟨m36 _ (eI b33 n26w ab) ab,m36 _ (eI b33 aiD ab) ab,m36 _ (eI b33 abp ab) ab,m36 _ (eI b33 abq ab) ab,k36,n-1,by omega,rfl,rfl,k+1,wk,by omega,endS 1 (by rw [hb];rfl) a36⟩
  ·rw [q0];intro ie WW;obtain ⟨hp,hr⟩:=a33.iO [0] (by rw [dt,List.length_nil];omega) WW;have z37:=zA WW;refine ⟨hp,λs38 jX r39=> ?_⟩;obtain ⟨a39,k39,m39,b39,z39⟩:=hr s38 jX r39;exact ⟨m39 _ (eI b33 n26w ab) ab,m39 _ (eI b33 aiD ab) ab,m39 _ (eI b33 abp ab) ab,m39 _ (eI b33 abq ab) ab,k39,n-1,by omega,rfl,rfl,k+1,wk,by omega,endS 0 (by rw [hb];rfl) a39⟩
 ·have hq:¬(k:Int)<sx.n:=by simpa using hq
  have hk':k=xs.length:=by omega
  subst hk';rw [iA] at a11 kD;have aio:(if 2000<((sw.n:Nat):Int) then 2000 else ((sw.n:Nat):Int))=((min ws.length 2000:Nat):Int):=by rw [hnw];split<;>omega
  rw [aio];have eb1:eY (aj (Int.tdiv ((min ws.length 2000:Nat):Int) 256))=((min ws.length 2000:Nat):Int) / 256 % 256:=by rw [qb ab,wI,wrap_u8]
  have eb2:eY (Int.tmod ((min ws.length 2000:Nat):Int) 256)=((min ws.length 2000:Nat):Int) % 256:=by rw [Int.tmod_eq_emod_of_nonneg ab,wrap_u8];omega
  rw [eb1,eb2];intro jr QZ;obtain ⟨hp,hr⟩:=a11.iO [((min ws.length 2000:Nat):Int) / 256 % 256,((min ws.length 2000:Nat):Int) % 256] (by rw [dt,dt,List.length_nil];omega) QZ;have z40:=zA QZ;refine ⟨hp,λKb ku r42=> ?_⟩;obtain ⟨a42,k42,m42,b42,z42⟩:=hr Kb ku r42;have n41w:=eI b42 n10w ab;have atz:=eI b42 aex ab;have amT:=eI b42 (a11.ne (aB _)) ab
  let W:=ws.take 2000
  have hW:W.length=min ws.length 2000:=by rw [du,Nat.min_comm]
  have A42:Ap w0 ku Kb ku Kb (dC now xs.length++(xs.map λx=>gr x.1 x.2).flatten++ [((min ws.length 2000:Nat):Int) / 256 % 256,((min ws.length 2000:Nat):Int) % 256]):=Ap.refl a42.own (by have:=a42.bel.size;omega);have N4:Ext w0 ku:=Nu.trans a42.bel;rw [<-hW];rw [<-hW] at A42;refine ⟨m42 _ n10w ab,m42 _ aex ab,k42,λn x sl wr=>∃k:Nat,x=k/\k+n=W.length/\Ap w0 ku Kb wr sl (dC now xs.length++(xs.map λx=>gr x.1 x.2).flatten++ [((W.length:Nat):Int) / 256 % 256,((W.length:Nat):Int) % 256]++((W.take k).map ia).flatten),⟨W.length,rfl,rfl,rfl,0,rfl,by omega,by rw [Ba];show Ap _ _ _ _ _ (_++ []);rw [rS];exact A42⟩,?_⟩;rintro n2 wX x C3 fY ⟨k,rfl,hk,N1⟩;have z48:=N1.bel.size;have GK:Ext w0 fY:=N4.trans N1.bel;apply Br.mk<;>intro hq
  ·have hq:(k:Int)<W.length:=by simpa using hq
   have hkW:k<W.length:=by omega
   obtain ⟨it,Rk⟩:=bI hkW;have aet:ws[k]? =some it:=by have h2:W[k]? =ws[k]? :=List.getElem?_take_of_lt ab;rw [<-h2];exact Rk
   have cO:(ws.map fI)[k]? =some (fI it):=by rw [aU,aet];rfl
   have hrd48:=hw.ext (x0.tr GK);have oq:=hrd48.g9 (i:=(k:Int)) aF ab ab;refine ⟨oq,bE.2 ⟨iN.2 (by rw [gF];exact oq.1),_,_,_,kT hrd48 cO (off:=1) (vs:=[.int .i64 it.2.1,.int .i64 it.2.2.1,.int .i64 it.2.2.2]) (λj _=>by rw [Nat.add_comm,Bm]),λRq e53 AS e54=> ?_⟩⟩;have pE:Ext fY AS.drew:=((aL e53).ae e54 (aB _)).drew;have z54:AS.drew.heap.size=fY.heap.size+1:=by show AS.heap.size=_;rw [zR e54,zA e53]
   have hrd54:=hrd48.ext pE;have atB:Ext fY AS:=(aL e53).ae e54 (aB _);have hin2:=(hrd48.ext atB).g9 (i:=(k:Int)) aF ab ab;refine ⟨hin2,bE.2 ⟨iN.2 (by rw [gF];exact hin2.1),_,hrd54.at cO (j:=0) (v:=.int .i64 it.1) rfl,λpH e56=> ?_⟩⟩;have qF:=aL e56;have z56:=zA e56;have hrd56:=rdI (l:=[it.1,it.2.1,it.2.2.1,it.2.2.2]) e56;refine (yI hrd56 (FR it (bg aet)) bB).mono ?_;rintro e mR ⟨mu,rfl,RA,mG⟩;have z57:=mG.size;have aes:mu.n=(ia it).length:=by rw [(RA.rd aF).n,aN];rfl
   have a57:=N1.ext (pE.tr (qF.tr mG));have asv:(dC now xs.length++(xs.map λx=>gr x.1 x.2).flatten++ [((W.length:Nat):Int) / 256 % 256,((W.length:Nat):Int) % 256]++((W.take k).map ia).flatten).length+24<=100000:=by have J0:(W.take k).length=k:=List.length_take_of_le ab;rw [dm,dm,JE,J0];show _+2+_+24<=_;omega
   obtain ⟨hp,hr⟩:=a57.app (ia it) (by rw [BB];omega);have par:∀{u:World},Ext w0 u->ag u (some ⟨w.heap.size,2,none⟩) 0 [sw]:=λxu=>kB (r0.ext xu) rfl
   refine ⟨mu,rfl,mG.heap ab,mG.heap ab,mG.heap ab,mG.heap ab,par (GK.tr (pE.tr (qF.tr mG))),_,(RA.rd aF).flat aF,by rw [aes];exact hp,λRB oD r61=> ?_⟩;rw [aes] at r61;obtain ⟨a61,m61,b61,z61⟩:=hr RB oD r61;refine ⟨m61 _ (N1.off n41w ab) ab,m61 _ (N1.off atz ab) ab,m61 _ (N1.off amT ab) ab,m61 _ (N1.ne (aB _)) ab,par (N4.trans a61.bel),n2-1,by omega,rfl,rfl,rfl,k+1,by rw [wI];omega,by omega,?_⟩;rw [uv ia Rk,<-gE];exact a61
  ·have hq:¬(k:Int)<W.length:=by simpa using hq
   have hk':k=W.length:=by omega
   subst hk';rw [iA] at N1;refine ⟨C3,rfl,?_,x0.tr (N4.trans N1.bel)⟩;have e:DX now xs ws=dC now xs.length++(xs.map λx=>gr x.1 x.2).flatten++ [((W.length:Nat):Int) / 256 % 256,((W.length:Nat):Int) % 256]++(W.map ia).flatten:=by unfold DX uu;rw [<-gE,hW]
   rw [e];exact aC.low N1.own ab
theorem iL(n:Int)(w:World):ah 141 #[n] w λe w'=>e=Value.int .i64 (dB n)/\w'=w:=by
 apply Vp.vc;unfold dB;refine Br.mk (λh=> ?_) (λh=>Br.mk (λh2=> ?_) (λh2=> ?_))
 ·have h:n>140737488355328:=by simpa using h
  exact ⟨by rw [show min (max n (-140737488355328)) 140737488355328=140737488355328 from by omega],rfl⟩
 ·have h2:n< -140737488355328:=by simpa using h2
  exact ⟨by rw [show min (max n (-140737488355328)) 140737488355328= -140737488355328 from by omega],rfl⟩
 ·have h:¬n>140737488355328:=by simpa using h
  have h2:¬n< -140737488355328:=by simpa using h2
  exact ⟨by rw [show min (max n (-140737488355328)) 140737488355328=n from by omega],rfl⟩
theorem tL(n:Int)(w:World):ah 84 #[n] w λe w'=>e=Value.int .i64 (cu n)/\w'=w:=by apply Mo.vc;refine (iL n w).mono ?_;rintro e w0 ⟨rfl,rfl⟩;refine ⟨_,rfl,(Dz (dB n) 65536 (by have:=jH n;unfold inI;omega) aF w0).mono ?_⟩;rintro e w2 ⟨rfl,rfl⟩;exact ⟨_,rfl,rfl,rfl⟩
theorem LX(v:Ce)(w:World):ah 30 #[dY v] w λe w'=>e=(dY (br v))/\Ext w w':=by apply Zk.vc;intro w0 e0 w1 e1;have x0:=aL e0;have z0:=zA e0;have r0:∃τ,Row w0 w (dA v) τ:=⟨_,by rw [e0];exact Row.new w [_,_,_] _⟩;have x1:Ext w0 w1.drew:=(aL e1).drew;obtain ⟨τ,r0⟩:=r0;have r1:=r0.ext x1;refine (tL v.1 w1.drew).mono ?_;rintro e w2 ⟨rfl,hw⟩;subst hw;refine ⟨_,rfl,rfl,rfl,kB r1 rfl,kB r1 rfl,(tL v.2.1 _).mono ?_⟩;rintro e w2 ⟨rfl,hw⟩;subst hw;refine ⟨_,rfl,rfl,rfl,kB r1 rfl,(tL v.2.2 _).mono ?_⟩;rintro e w2 ⟨rfl,hw⟩;subst hw;exact ⟨_,rfl,rfl,rfl,λw8 e8=>⟨rfl,(x0.tr x1).ae e8 ab⟩⟩
theorem ur(a b:Int)(w:World):ah 142 #[a,b] w λe w'=>e=Value.int .i64 (m4 a b)/\w'=w:=by apply Vq.vc;refine (iL a w).mono ?_;rintro e w0 ⟨rfl,rfl⟩;refine ⟨_,rfl,(iL b _).mono ?_⟩;rintro e w0 ⟨rfl,rfl⟩;have ha:=jH a;have hb:=jH b;refine ⟨_,rfl,?_⟩;rw [aK (n:=dB a+dB b) (by unfold inI;omega)];refine (iL _ _).mono ?_;rintro e w0 ⟨rfl,rfl⟩;exact ⟨_,rfl,rfl,rfl⟩
theorem Vr(a b:Int)(w:World):ah 181 #[a,b] w λe w'=>e=Value.int .i64 (qd a b)/\w'=w:=by apply Vs.vc;refine (iL a w).mono ?_;rintro e w0 ⟨rfl,rfl⟩;refine ⟨_,rfl,(iL b _).mono ?_⟩;rintro e w0 ⟨rfl,rfl⟩;have ha:=jH a;have hb:=jH b;refine ⟨_,rfl,?_⟩;rw [aK (n:=dB a-dB b) (by unfold inI;omega)];refine (iL _ _).mono ?_;rintro e w0 ⟨rfl,rfl⟩;exact ⟨_,rfl,rfl,rfl⟩
theorem HY(a b:Ce)(w:World):ah 85 #[dY a,dY b] w λe w'=>e=(dY (jU a b))/\Ext w w':=by apply Vt.vc;intro w0 e0 w1 e1 w2 e2;have x0:=aL e0;have z0:=zA e0;have r0:∃τ,Row w0 w (dA a) τ:=⟨_,by rw [e0];exact Row.new w [_,_,_] _⟩;have x1:=aL e1;have z1:=zA e1;have r1:∃τ,Row w1 w0 (dA b) τ:=⟨_,by rw [e1];exact Row.new w0 [_,_,_] _⟩;have x2:Ext w1 w2.drew:=(aL e2).drew;obtain ⟨τ,r0⟩:=r0;obtain ⟨τ',r1⟩:=r1;have ra:=r0.ext (x1.tr x2);have rb:=r1.ext x2;refine (ur a.1 b.1 w2.drew).mono ?_;rintro e w3 ⟨rfl,hw⟩;subst hw;refine ⟨_,rfl,rfl,rfl,rfl,kB rb rfl,kB ra rfl,kB rb rfl,kB ra rfl,(ur a.2.1 b.2.1 _).mono ?_⟩;rintro e w3 ⟨rfl,hw⟩;subst hw;refine ⟨_,rfl,rfl,rfl,rfl,kB rb rfl,kB ra rfl,(ur a.2.2 b.2.2 _).mono ?_⟩;rintro e w3 ⟨rfl,hw⟩;subst hw;exact ⟨_,rfl,rfl,rfl,rfl,λw9 e9=>⟨rfl,(x0.tr (x1.tr x2)).ae e9 ab⟩⟩
theorem Qf(v:Ce)(i:Int)(w:World):ah 180 #[dY v,i] w λe w'=>e=Value.int .i64 (db v i)/\Ext w w':=by
 apply Qz.vc;intro w0 e0;have x0:=aL e0;unfold db;refine Br.mk (λh=> ?_) (λh=>Br.mk (λh2=> ?_) (λh2=>Br.mk (λh3=> ?_) (λh3=> ?_)))
 ·rw [if_pos (by simpa using h)];exact ⟨rfl,x0⟩
 ·rw [if_neg (by simpa using h),if_pos (by simpa using h2)];exact ⟨rfl,x0⟩
 ·rw [if_neg (by simpa using h),if_neg (by simpa using h2),if_pos (by simpa using h3)];exact ⟨rfl,x0⟩
 ·rw [if_neg (by simpa using h),if_neg (by simpa using h2),if_neg (by simpa using h3)];exact ⟨rfl,x0⟩
theorem QA(a b:Bx):jB a b=(decide (a.1.1<b.2.1) && decide (a.1.2.1<b.2.2.1) && decide (a.1.2.2<b.2.2.2) && decide (b.1.1<a.2.1) && decide (b.1.2.1<a.2.2.1) && decide (b.1.2.2<a.2.2.2)):=by
 unfold jB ovK;have e0:∀v:Ce,db v 0=v.1:=λ_=>rfl
 have e1:∀v:Ce,db v 1=v.2.1:=λ_=>rfl
 have e2:∀v:Ce,db v 2=v.2.2:=λ_=>rfl
 simp only [e0,e1,e2]
 cases decide (a.1.1<b.2.1)<;>cases decide (a.1.2.1<b.2.2.1)<;>cases decide (a.1.2.2<b.2.2.2)<;>cases decide (b.1.1<a.2.1)<;>cases decide (b.1.2.1<a.2.2.1)<;>cases decide (b.1.2.2<a.2.2.2)<;>rfl
theorem Gv(a b:Bx)(w:World):ah 179 #[qQ a,qQ b] w λe w'=>e=Value.bool (jB a b)/\Ext w w':=by
 apply Gw.vc;intro w0 e0 w1 e1;have x1:Ext w w1:=(aL e0).bn e1;rw [QA];apply Br.mk<;>intro h1<;>apply Br.mk<;>intro h2<;>first|(apply Br.mk<;>intro h3)|skip
 all_goals (repeat' (first|(apply Br.mk<;>intro h<;>rw [h])))
 all_goals (first|rw [h1]|skip)
 all_goals (first|rw [h2]|skip)
 all_goals (first|rw [h3]|skip)
 all_goals exact ⟨by simp,x1⟩
theorem ajP(n:Int):qd n 0=dB n:=by unfold qd dB;omega
set_option maxHeartbeats 2000000 in
theorem Mp(aI:Ce)(wd h:Int)(hw:inI wd)(w:World):ah 128 #[dY aI,wd,.int .i64 h] w λe w'=>e=(qQ (vK aI wd h))/\Ext w w':=by
 apply Mq.vc;intro w0 e0 w1 e1;have x0:=aL e0;have z0:=zA e0;have r0:∃τ,Row w0 w (dA aI) τ:=⟨_,by rw [e0];exact Row.new w [_,_,_] _⟩;have x1:Ext w0 w1.drew:=(aL e1).drew;obtain ⟨τ,r0⟩:=r0;have r1:=r0.ext x1;have jT:=x0.tr x1;rw [aeD hw,ajt h];have e:qQ (vK aI wd h)=.agg #[(qd aI.1 (max wd 0 / 2)),(dB aI.2.1),(qd aI.2.2 (max wd 0 / 2)),(m4 aI.1 (max wd 0 / 2)),.int .i64 (m4 aI.2.1 (max h 0)),(m4 aI.2.2 (max wd 0 / 2))]:=by rw [<-ajP aI.2.1];rfl
 rw [e];have A:∀(a b:Int) {u:World} {R:Ending->World->Prop},R (.returned (.int .i64 (m4 a b))) u->ah 142 #[.int .i64 a,.int .i64 b] u R:=λa b u R h=>(ur a b u).mono (by rintro e w' ⟨rfl,rfl⟩;exact h)
 have S:∀(a b:Int) {u:World} {R:Ending->World->Prop},R (.returned (.int .i64 (qd a b))) u->ah 181 #[.int .i64 a,.int .i64 b] u R:=λa b u R h=>(Vr a b u).mono (by rintro e w' ⟨rfl,rfl⟩;exact h)
 have C:∀(a:Int) {u:World} {R:Ending->World->Prop},R (.returned (.int .i64 (dB a))) u->ah 141 #[.int .i64 a] u R:=λa u R h=>(iL a u).mono (by rintro e w' ⟨rfl,rfl⟩;exact h)
 repeat' (first
  |refine A _ _ ?_
  |refine S _ _ ?_
  |refine C _ ?_
  |refine ⟨_,rfl,rfl,rfl,?_⟩
  |refine ⟨kB r1 rfl,?_⟩
  |exact λw' e'=>⟨rfl,jT.ae e' ab⟩
  |refine ⟨?_,?_⟩)
theorem um(b:ef)(hh: -1000000000<=b.ht/\b.ht<=1000000000)(h0:0<=b.ht)(w:World):ah 31 #[BV b] w λe w'=>e=(dY (ij b))/\Ext w w':=by
 apply Vu.vc;intro w0 e0 w1 e1;have x0:=aL e0;have z0:=zA e0;have r0:∃τ,Row w0 w (jo b) τ:=⟨_,by rw [e0];exact Row.new w [_,_,_,_,_,_,_,_,_] _⟩;have x1:Ext w0 w1.drew:=(aL e1).drew;have z1:w1.drew.heap.size=w0.heap.size+1:=by show w1.heap.size=_;exact zA e1
 obtain ⟨τ,r0⟩:=r0;have r1:=r0.ext x1;have jT:=x0.tr x1;have e4:aj (b.ht*4)=b.ht*4:=wI;rw [e4];refine (Dz (b.ht*4) 5 (by unfold inI;omega) aF w1.drew).mono ?_;rintro e w2 ⟨rfl,hw⟩;subst hw;have e5:b.ht*4 / 5=Int.tdiv (b.ht*4) 5:=by rw [qb ab]
 rw [e5];refine ⟨_,rfl,rfl,rfl,kB r1 rfl,qe r1 rfl rfl rfl,(HY b.aI (0,Int.tdiv (b.ht*4) 5,0) _).mono ?_⟩;rintro e w4 ⟨rfl,x4⟩;have z4:=x4.size;exact ⟨_,_,_,rfl,x4.heap ab,x4.heap ab,kB (r1.ext x4) rfl,λw8 e8=>⟨rfl,(jT.tr x4).ae e8 ab⟩⟩
theorem zF(b:ef)(hw:inI b.wd)(w:World):ah 70 #[BV b] w λe w'=>e=(qQ b.box)/\Ext w w':=by apply Vv.vc;intro w0 e0 w1 e1;have x0:=aL e0;have z0:=zA e0;have x1:=aL e1;have z1:=zA e1;refine (Mp b.aI b.wd b.ht hw w1).mono ?_;rintro e w2 ⟨rfl,x2⟩;have z2:=x2.size;exact ⟨_,_,_,_,_,_,rfl,x2.heap ab,x2.heap ab,λw9 e9=>⟨rfl,(x0.tr (x1.tr x2)).ae e9 ab⟩⟩
theorem Mr(a b:Bx)(w:World):ah 125 #[qQ a,qQ b] w λe w'=>e=Value.bool (jB a b)/\Ext w w':=by apply Ms.vc;intro w0 e0 w1 e1;have x0:=aL e0;have z0:=zA e0;have x1:=aL e1;have z1:=zA e1;refine (Gv a b w1).mono ?_;rintro e w2 ⟨rfl,x2⟩;have z2:=x2.size;exact ⟨_,rfl,x2.heap ab,x2.heap ab,rfl,x0.tr (x1.tr x2)⟩
def AZ(c:Ce):Ce:=(3+cH c.1 10,6+cH c.2.1 14,3+cH c.2.2 10)
def Kl(c:Ce):Ce:=(196608+cH c.1 589825,589824+cH c.2.1 589825,196608+cH c.2.2 589825)
def FT(n:Int):Int:=if n<0 then n else Zl n
theorem Ot(c:Ce)(hc:pn c)(w:World):ah 28 #[dY c] w λe w'=>e=(dY (AZ c))/\Ext w w':=by
 apply QB.vc;intro w0 e0 w1 e1;have x0:=aL e0;have r0:∃τ,Row w0 w (dA c) τ:=⟨_,by rw [e0];exact Row.new w [_,_,_] _⟩;have z0:=zA e0;have x1:Ext w0 w1.drew:=(aL e1).drew;obtain ⟨τ,r0⟩:=r0;have r1:=r0.ext x1;obtain ⟨h1,h2,h3⟩:=hc;have A:∀(a m:Int) {u:World} {R:Ending->World->Prop},inI a->0<m->inI m->R (.returned (.int .i64 (cH a m))) u->ah 10 #[.int .i64 a,.int .i64 m] u R:=λa m u R ha hm hi h=>(gD a m u ha hm hi).mono (by rintro e w' ⟨rfl,rfl⟩;exact h)
 have b1:=c9 c.1 10 aF;have b2:=c9 c.2.1 14 aF;have b3:=c9 c.2.2 10 aF;refine A _ _ h1 aF (by unfold inI;omega) ⟨_,rfl,rfl,rfl,kB r1 rfl,kB r1 rfl,A _ _ h2 aF (by unfold inI;omega) ⟨_,rfl,rfl,rfl,kB r1 rfl,A _ _ h3 aF (by unfold inI;omega) ⟨_,rfl,rfl,rfl,λw8 e8=>⟨?_,(x0.tr x1).ae e8 ab⟩⟩⟩⟩;rw [aK (n:=3+cH c.1 10) (by unfold inI;omega),aK (n:=6+cH c.2.1 14) (by unfold inI;omega),aK (n:=3+cH c.2.2 10) (by unfold inI;omega)];rfl
theorem Oo(c:Ce)(hc:pn c)(w:World):ah 52 #[dY c] w λe w'=>e=(dY (Kl c))/\Ext w w':=by
 apply QC.vc;intro w0 e0 w1 e1;have x0:=aL e0;have r0:∃τ,Row w0 w (dA c) τ:=⟨_,by rw [e0];exact Row.new w [_,_,_] _⟩;have z0:=zA e0;have x1:Ext w0 w1.drew:=(aL e1).drew;obtain ⟨τ,r0⟩:=r0;have r1:=r0.ext x1;obtain ⟨h1,h2,h3⟩:=hc;have A:∀(a m:Int) {u:World} {R:Ending->World->Prop},inI a->0<m->inI m->R (.returned (.int .i64 (cH a m))) u->ah 10 #[.int .i64 a,.int .i64 m] u R:=λa m u R ha hm hi h=>(gD a m u ha hm hi).mono (by rintro e w' ⟨rfl,rfl⟩;exact h)
 have b1:=c9 c.1 589825 aF;have b2:=c9 c.2.1 589825 aF;have b3:=c9 c.2.2 589825 aF;refine A _ _ h1 aF (by unfold inI;omega) ⟨_,rfl,rfl,rfl,kB r1 rfl,kB r1 rfl,A _ _ h2 aF (by unfold inI;omega) ⟨_,rfl,rfl,rfl,kB r1 rfl,A _ _ h3 aF (by unfold inI;omega) ⟨_,rfl,rfl,rfl,λw8 e8=>⟨?_,(x0.tr x1).ae e8 ab⟩⟩⟩⟩;rw [aK (n:=196608+cH c.1 589825) (by unfold inI;omega),aK (n:=589824+cH c.2.1 589825) (by unfold inI;omega),aK (n:=196608+cH c.2.2 589825) (by unfold inI;omega)];rfl
theorem oQ(n:Int)(hn:inI n)(w:World):ah 56 #[n] w λe w'=>e=Value.int .i64 (FT n)/\w'=w:=by
 apply Mt.vc;unfold FT;apply Br.mk<;>intro h
 ·rw [if_pos (by simpa using h)];exact ⟨rfl,rfl⟩
 ·rw [if_neg (by simpa using h)];refine (Ch n w hn).mono ?_;rintro e w0 ⟨rfl,rfl⟩;exact ⟨_,rfl,rfl,rfl⟩
set_option maxHeartbeats 8000000
set_option linter.unusedVariables false
variable {R:Ending->World->Prop} {w:World} {a0 a1 a2 a3 a4 a5 a6 a7 a8 a9 aA aq au aS aT aW bM bG bH Cr ak ao aw bz bT bR eW eX eD Cs bq bA bo wL wM uS uT wN wO wP Ct Cu Cv Cw Cx Cy Cz CA CB CC:Int}
theorem xF.vc{a0:Addr}{eD:Bool}(h:
 Aw w #[ak,ao,aw,bz,bT,bR,eW,eX,eD] 70 λw0=>
 ∃(p1:Option Addr),ld w0.drew (af (some a0) 0)=some (.pointer p1)/\
 ah 30 #[.agg #[ak,ao,aw]] w0.drew (iC λx3 x4 x5 w2=>Kp w w0.drew w2/\
 ag w2 (af (some a0) 0) 0 [.pointer p1]/\ah 100 #[p1,.agg #[x3,x4,x5]] w2 (Rb λb7 w6=>Kp w w2 w6/\
 R b7 w6))):ah 107 #[a0,.agg #[ak,ao,aw,bz,bT,bR,eW,eX,eD]] w R:=
 cq bV Tryz.func107 h
theorem zG.vc{a0:Addr}(h:
 Aw w #[ak,ao,aw] 41 λw0=>
 ∃I1:Nat->Int->World->Prop,
 (∃n2,aO [ak,ao,aw]/\I1 n2 (0) w0)/\
 ∀(n2:Nat)(us3:Nat->Value)(x4:Int)(w5:World),I1 n2 x4 w5->
 Br (x4<16)
 (∃(s7:Sl),ld w5.drew (af (some a0) 2)=some (.slice s7.a s7.n s7.c)/\
 eo s7.a x4 s7.n/\aP (dv (af s7.a ((x4:Int).toNat*13))) (∃(b8:Bool),ld w5.drew (af (af s7.a ((x4:Int).toNat*13)) 0)=some (.bool b8)/\
 Br b8
 (∃(s9:Sl),ld w5.drew (af (some a0) 2)=some (.slice s9.a s9.n s9.c)/\
 eo s9.a x4 s9.n/\aP (dv (af s9.a ((x4:Int).toNat*13))) (∃(bh bC bN cm bX cA cD cY:Int)(b18:Bool),ag w5.drew (af (af s9.a ((x4:Int).toNat*13)) 1) 0 [bh,bC,bN,cm,bX,cA,cD,cY,b18]/\
 ah 70 #[.agg #[bh,bC,bN,cm,bX,cA,cD,cY,b18]] w5.drew (vG λcW dh dN dz eE dQ fP=>Kp w w5.drew fP/\
 ag fP w 0 [ak,ao,aw]/\ag fP (af (some a0) 2) 0 [s9]/\ag fP (af (af s7.a ((x4:Int).toNat*13)) 0) 0 [.bool b8]/\ag fP (af (some a0) 2) 0 [s7]/\ah 126 #[.agg #[ak,ao,aw]] fP (vG λfE g7 gd jD ic ig fi=>Kp w fP fi/\
 ag fi (af (some a0) 2) 0 [s9]/\ag fi (af (af s7.a ((x4:Int).toNat*13)) 0) 0 [.bool b8]/\ag fi (af (some a0) 2) 0 [s7]/\ah 125 #[.agg #[cW,dh,dN,dz,eE,dQ],.agg #[fE,g7,gd,jD,ic,ig]] fi (Rb λb34 eM=>Kp w fi eM/\
 ag eM (af (some a0) 2) 0 [s9]/\ag eM (af (af s7.a ((x4:Int).toNat*13)) 0) 0 [.bool b8]/\ag eM (af (some a0) 2) 0 [s7]/\Br b34
 (R true eM)
 (∃n6,n6<n2/\aO [ak,ao,aw]/\I1 n6 ((aj (x4+1))) eM))))))
 (∃n6,n6<n2/\aO [ak,ao,aw]/\I1 n6 ((aj (x4+1))) w5.drew)))
 (R false w5)):ah 67 #[a0,.agg #[ak,ao,aw]] w R:=
 cq ⟨[(2,⟨[(5,.int .i64)],[],[]⟩)],[],[]⟩ Tryz.func67 h
theorem zH.vc{a0:Addr}(h:
 Aw w #[ak,ao,aw] 41 λw0=>
 ah 114 #[a2] w0 (Rb λb2 w1=>Kp w w0 w1/\
 Br b2
 (ah 67 #[a0,.agg #[ak,ao,aw]] w1 (Rb λb4 w3=>Kp w w1 w3/\
 Br b4
 (R (12:Int) w3)
 (∃(p5:Option Addr),ld w3.drew (af (some a0) 1)=some (.pointer p5)/\
 ah 113 #[p5,.agg #[ak,ao,aw],a2] w3.drew (Ri λx7 w6=>Kp w w3.drew w6/\
 R x7 w6))))
 (∃(p8:Option Addr),ld w1.drew (af (some a0) 1)=some (.pointer p8)/\
 ah 113 #[p8,.agg #[ak,ao,aw],a2] w1.drew (Ri λbh w9=>Kp w w1.drew w9/\
 R bh w9)))):ah 60 #[a0,.agg #[ak,ao,aw],a2] w R:=
 cq bV Tryz.func60 h
theorem xD.vc{a0:Addr}(h:
 Aw w #[ak,ao,aw] 28 λw0=>
 Aw w0 #[aa,aa,aa,aa,aa,aa,aa,aa,false] 75 λw1=>
 Sw w1 w0 #[ak,ao,aw,aa,aa,aa,a2,a3,false] λw2=>
 ah 106 #[.agg #[ak,ao,aw,aa,aa,aa,a2,a3,false]] w2 (Rb λb4 w3=>K2 w w0 w2 w3 (
 Br (!b4)
 (R (Value.tuple #[(-1:Int),(1:Int)]) w3)
 (∃I5:Nat->Int->Int->World->Prop,
 (∃n6,aO [ak,ao,aw]/\aO [ak,ao,aw,aa,aa,aa,a2,a3,false]/\I5 n6 (15) ((-1)) w3)/\
 ∀(n6:Nat)(us7:Nat->Value)(x8 x9:Int)(bO:World),I5 n6 x8 x9 bO->
 Br (x8>=0)
 (∃(jJ:Sl),ld bO (af (some a0) 2)=some (.slice jJ.a jJ.n jJ.c)/\
 eo jJ.a x8 jJ.n/\aP (dv (af jJ.a ((x8:Int).toNat*13))) (∃(Fg:Bool),ld bO (af (af jJ.a ((x8:Int).toNat*13)) 0)=some (.bool Fg)/\
 Br (!Fg)
 (∃sb,sb<n6/\aO [ak,ao,aw]/\aO [ak,ao,aw,aa,aa,aa,a2,a3,false]/\I5 sb ((aj (x8-1))) x8 bO)
 (∃sb,sb<n6/\aO [ak,ao,aw]/\aO [ak,ao,aw,aa,aa,aa,a2,a3,false]/\I5 sb ((aj (x8-1))) x9 bO)))
 (Br (x9<0)
 (R (Value.tuple #[(-1:Int),(8:Int)]) bO)
 (ah 107 #[a0,.agg #[ak,ao,aw,aa,aa,aa,a2,a3,false]] bO (Rb λSZ bP=>K2 w w0 bO bP (
 Br (!SZ)
 (R (Value.tuple #[(-1:Int),(11:Int)]) bP)
 (∃(p16:Option Addr),ld bP.drew (af (some a0) 0)=some (.pointer p16)/\
 ah 27 #[p16] bP.drew (Rv λv18 cL=>K2 w w0 bP.drew cL (
 ag cL (some ⟨w0,0,none⟩) 0 [ak,ao,aw,aa,aa,aa,a2,a3,false]/\ah 70 #[.agg #[ak,ao,aw,aa,aa,aa,a2,a3,false]] cL (vG λcW dh dN dz eE dQ fP=>K2 w w0 cL fP (
 ah 46 #[v18,.agg #[cW,dh,dN,dz,eE,dQ]] fP (Rb λAM fi=>K2 w w0 fP fi (
 Br AM
 (R (Value.tuple #[(-1:Int),(12:Int)]) fi)
 (∃(p28:Option Addr),ld fi.drew (af (some a0) 0)=some (.pointer p28)/\
 ah 27 #[p28] fi.drew (Rv λv30 dR=>K2 w w0 fi.drew dR (
 ag dR (some ⟨w0,0,none⟩) 0 [ak,ao,aw,aa,aa,aa,a2,a3,false]/\ah 70 #[.agg #[ak,ao,aw,aa,aa,aa,a2,a3,false]] dR (vG λig eF g8 kv nk fB fJ=>K2 w w0 dR fJ (
 ah 49 #[v30,.agg #[ig,eF,g8,kv,nk,fB]] fJ (Rb λb39 lf=>K2 w w0 fJ lf (
 Sw lf w0 #[ak,ao,aw,aa,aa,aa,a2,a3,b39] λjr=>
 ∃(Kb:Sl),ld jr.drew (af (some a0) 2)=some (.slice Kb.a Kb.n Kb.c)/\
 eo Kb.a x9 Kb.n/\(((af Kb.a ((x9:Int).toNat*13))).isSome=true/\Wr jr.drew (af Kb.a ((x9:Int).toNat*13)) 13)/\bD (af Kb.a ((x9:Int).toNat*13))≠some w.heap.size/\bD (af Kb.a ((x9:Int).toNat*13))≠some w0.heap.size/\(∀ku,ku=aH jr.drew (af Kb.a ((x9:Int).toNat*13)) [.bool true,ak,ao,aw,aa,aa,aa,a2,a3,b39,aa,aa,false]->
 R (Value.tuple #[x9,aa]) ku))))))))))))))))))))))):ah 53 #[a0,.agg #[ak,ao,aw],a2,a3] w R:=
 cq ⟨[(6,⟨[(12,.int .i64),(11,.int .i64)],[],[]⟩)],[],[]⟩ Tryz.func53 h
theorem zI.vc{a0:Addr}(h:
 Aw w #[bq,bA,bo] 28 λw0=>
 Aw w0 #[aa,aa,aa,aa,aa,aa] 77 λw1=>
 Br (a1<0)
 (Sw w1 w0 #[aa,aa,aa,aa,aa,aa] λw2=>
 R (Value.tuple #[.agg #[aa,aa,aa,aa,aa,aa],(6:Int)]) w2)
 (Br (a1>15)
 (Sw w1 w0 #[aa,aa,aa,aa,aa,aa] λw3=>
 R (Value.tuple #[.agg #[aa,aa,aa,aa,aa,aa],(6:Int)]) w3)
 (∃(s4:Sl),ld w1 (af (some a0) 2)=some (.slice s4.a s4.n s4.c)/\
 eo s4.a (if 0>(if 15<a1 then 15 else a1) then 0 else (if 15<a1 then 15 else a1)) s4.n/\aP (dv (af s4.a (((if 0>(if 15<a1 then 15 else a1) then 0 else (if 15<a1 then 15 else a1)):Int).toNat*13))) (∃(b5:Bool),ld w1 (af (af s4.a (((if 0>(if 15<a1 then 15 else a1) then 0 else (if 15<a1 then 15 else a1)):Int).toNat*13)) 0)=some (.bool b5)/\
 Br (!b5)
 (Sw w1 w0 #[aa,aa,aa,aa,aa,aa] λw6=>
 R (Value.tuple #[.agg #[aa,aa,aa,aa,aa,aa],(6:Int)]) w6)
 (∃(p7:Option Addr),ld w1.drew (af (some a0) 0)=some (.pointer p7)/\
 ∃(s8:Sl),ld w1.drew (af (some a0) 2)=some (.slice s8.a s8.n s8.c)/\
 eo s8.a a1 s8.n/\aP (dv (af s8.a ((a1:Int).toNat*13))) (∃(x9 bh bC bN cm bX cA cD:Int)(WX:Bool),ag w1.drew (af (af s8.a ((a1:Int).toNat*13)) 1) 0 [x9,bh,bC,bN,cm,bX,cA,cD,WX]/\
 (ah 27 #[p7] w1.drew (Rv λv19 dG=>K2 w w0 w1.drew dG (
 ag dG w 0 [bq,bA,bo]/\ag dG (af (af s8.a ((a1:Int).toNat*13)) 1) 0 [x9,bh,bC,bN,cm,bX,cA,cD,WX]/\ag dG (af (some a0) 2) 0 [s8]/\(ah 31 #[.agg #[x9,bh,bC,bN,cm,bX,cA,cD,WX]] dG (iC λdh dN dz fx=>K2 w w0 dG fx (
 ag fx w 0 [bq,bA,bo]/\ag fx (af (some a0) 2) 0 [s8]/\(ah 87 #[v19,.agg #[dh,dN,dz],.agg #[bq,bA,bo],(5:Int)] fx (λe fZ=>∃(dQ fy fE g7 gd jD:Int)(WY:Bool),e=Value.tuple #[.agg #[dQ,fy,fE,g7,gd,jD],WY]/\K2 w w0 fx fZ (
 ag fZ (af (some a0) 2) 0 [s8]/\Aw fZ #[aa,aa,aa,aa,aa,aa] 77 λlv=>
 Sw lv fZ #[dQ,fy,fE,g7,gd,jD] λeM=>
 Br (!WY)
 (Sw eM w0 #[aa,aa,aa,aa,aa,aa] λjc=>
 R (Value.tuple #[.agg #[aa,aa,aa,aa,aa,aa],(13:Int)]) jc)
 (Br (g7==(-1))
 (Sw eM w0 #[aa,aa,aa,aa,aa,aa] λjK=>
 R (Value.tuple #[.agg #[aa,aa,aa,aa,aa,aa],(11:Int)]) jK)
 (Sw eM w0 #[dQ,fy,fE,g7,gd,jD] λjW=>
 R (Value.tuple #[.agg #[dQ,fy,fE,g7,gd,jD],(0:Int)]) jW)))))/\(Aw fx #[aa,aa,aa,aa,aa,aa] 77 λie=>
 ah 87 #[v19,.agg #[dh,dN,dz],.agg #[bq,bA,bo],(5:Int)] ie (λe lf=>∃(ou mc kI lh oE jY:Int)(M6:Bool),e=Value.tuple #[.agg #[ou,mc,kI,lh,oE,jY],M6]/\K3 w w0 fx ie lf (
 ag lf (af (some a0) 2) 0 [s8]/\Sw lf fx #[ou,mc,kI,lh,oE,jY] λqC=>
 Br (!M6)
 (Sw qC w0 #[aa,aa,aa,aa,aa,aa] λlg=>
 R (Value.tuple #[.agg #[aa,aa,aa,aa,aa,aa],(13:Int)]) lg)
 (Br (lh==(-1))
 (Sw qC w0 #[aa,aa,aa,aa,aa,aa] λfY=>
 R (Value.tuple #[.agg #[aa,aa,aa,aa,aa,aa],(11:Int)]) fY)
 (Sw qC w0 #[ou,mc,kI,lh,oE,jY] λlA=>
 R (Value.tuple #[.agg #[ou,mc,kI,lh,oE,jY],(0:Int)]) lA))))))))/\(Aw dG #[aa,aa,aa,aa,aa,aa] 77 λmi=>
 ah 31 #[.agg #[x9,bh,bC,bN,cm,bX,cA,cD,WX]] mi (iC λlC iV pE zf=>K3 w w0 dG mi zf (
 ag zf w 0 [bq,bA,bo]/\ag zf (af (some a0) 2) 0 [s8]/\ah 87 #[v19,.agg #[lC,iV,pE],.agg #[bq,bA,bo],(5:Int)] zf (λe yQ=>∃(qF mG wQ kJ iW ov:Int)(b62:Bool),e=Value.tuple #[.agg #[qF,mG,wQ,kJ,iW,ov],b62]/\K3 w w0 dG zf yQ (
 ag yQ (af (some a0) 2) 0 [s8]/\Sw yQ dG #[qF,mG,wQ,kJ,iW,ov] λxe=>
 Br (!b62)
 (Sw xe w0 #[aa,aa,aa,aa,aa,aa] λsO=>
 R (Value.tuple #[.agg #[aa,aa,aa,aa,aa,aa],(13:Int)]) sO)
 (Br (kJ==(-1))
 (Sw xe w0 #[aa,aa,aa,aa,aa,aa] λGL=>
 R (Value.tuple #[.agg #[aa,aa,aa,aa,aa,aa],(11:Int)]) GL)
 (Sw xe w0 #[qF,mG,wQ,kJ,iW,ov] λoK=>
 R (Value.tuple #[.agg #[qF,mG,wQ,kJ,iW,ov],(0:Int)]) oK))))))))))/\(Aw w1.drew #[aa,aa,aa,aa,aa,aa] 77 λkx=>
 ah 27 #[p7] kx (Rv λv69 sJ=>K2 w w0 kx sJ (
 sJ.heap[w1.drew.heap.size]? =kx.heap[w1.drew.heap.size]?/\
 ag sJ w 0 [bq,bA,bo]/\ag sJ (af (af s8.a ((a1:Int).toNat*13)) 1) 0 [x9,bh,bC,bN,cm,bX,cA,cD,WX]/\ag sJ (af (some a0) 2) 0 [s8]/\ah 31 #[.agg #[x9,bh,bC,bN,cm,bX,cA,cD,WX]] sJ (iC λmj ml me np=>K2 w w0 sJ np (
 np.heap[w1.drew.heap.size]? =sJ.heap[w1.drew.heap.size]?/\
 ag np w 0 [bq,bA,bo]/\ag np (af (some a0) 2) 0 [s8]/\ah 87 #[v69,.agg #[mj,ml,me],.agg #[bq,bA,bo],(5:Int)] np (λe lD=>∃(uU wR FN zg vt uy:Int)(b81:Bool),e=Value.tuple #[.agg #[uU,wR,FN,zg,vt,uy],b81]/\K2 w w0 np lD (
 lD.heap[w1.drew.heap.size]? =np.heap[w1.drew.heap.size]?/\
 ag lD (af (some a0) 2) 0 [s8]/\Sw lD w1.drew.heap.size #[uU,wR,FN,zg,vt,uy] λw82=>
 Br (!b81)
 (Sw w82 w0 #[aa,aa,aa,aa,aa,aa] λw83=>
 R (Value.tuple #[.agg #[aa,aa,aa,aa,aa,aa],(13:Int)]) w83)
 (Br (zg==(-1))
 (Sw w82 w0 #[aa,aa,aa,aa,aa,aa] λJP=>
 R (Value.tuple #[.agg #[aa,aa,aa,aa,aa,aa],(11:Int)]) JP)
 (Sw w82 w0 #[uU,wR,FN,zg,vt,uy] λWZ=>
 R (Value.tuple #[.agg #[uU,wR,FN,zg,vt,uy],(0:Int)]) WZ))))))))))))))):ah 63 #[a0,a1,.agg #[bq,bA,bo]] w R:=
 cq bV Tryz.func63 h
theorem xG.vc{a0:Addr}(h:
 Aw w #[bq,bA,bo] 28 λw0=>
 ah 63 #[a0,a1,.agg #[bq,bA,bo]] w0 (λe w1=>∃(x2 x3 x4 x5 x6 x7 x8:Int),e=Value.tuple #[.agg #[x2,x3,x4,x5,x6,x7],x8]/\Kp w w0 w1/\
 Aw w1 #[aa,aa,aa,aa,aa,aa] 77 λw9=>
 Sw w9 w1 #[x2,x3,x4,x5,x6,x7] λbO=>
 Br (x8==6)
 (R x8 bO)
 (ah 111 #[a3] bO (Rb λQ1 aY=>K2 w w1 bO aY (
 Br (!Q1)
 (R (1:Int) aY)
 (Br (a3==0)
 (R (1:Int) aY)
 (Br (x8 !=0)
 (R x8 aY)
 (Br (x6<0)
 (R (12:Int) aY)
 (ah 112 #[.agg #[x2,x3,x4]] aY (λe bJ=>∃(bX cA cD cY cp cn cW dh dN dz eE dQ fy fE g7 gd jD ic:Int),e=Value.agg #[bX,cA,cD,cY,cp,cn,cW,dh,dN,dz,eE,dQ,fy,fE,g7,gd,jD,ic]/\K2 w w1 aY bJ (
 Aw bJ #[aa,aa,aa,aa,aa,aa,aa,aa,aa,aa,aa,aa,aa,aa,aa,aa,aa,aa] 186 λlv=>
 Wt lv ⟨bJ,0,none⟩ 18/\Nb bJ w/\Nb bJ w1/\(∀eM,eM=aH lv (some ⟨bJ,0,none⟩) [bX,cA,cD,cY,cp,cn,cW,dh,dN,dz,eE,dQ,fy,fE,g7,gd,jD,ic]->
 (0:Int)<=x6/\x6<((6:Nat):Int)/\∃(g8 kv nk:Int),ag eM (af (some ⟨bJ,0,none⟩) ((x6:Int).toNat*3)) 0 [g8,kv,nk]/\
 ah 60 #[a0,.agg #[g8,kv,nk],a3] eM (Ri λgA ie=>K2 w w1 eM ie (
 R gA ie)))))))))))))):ah 57 #[a0,a1,.agg #[bq,bA,bo],a3] w R:=
 cq bV Tryz.func57 h
theorem zJ.vc{a0:Addr}(h:
 Aw w #[bq,bA,bo] 28 λw0=>
 ah 63 #[a0,a1,.agg #[bq,bA,bo]] w0 (λe w1=>∃(x2 x3 x4 x5 x6 x7 x8:Int),e=Value.tuple #[.agg #[x2,x3,x4,x5,x6,x7],x8]/\Kp w w0 w1/\
 Aw w1 #[aa,aa,aa,aa,aa,aa] 77 λw9=>
 Sw w9 w1 #[x2,x3,x4,x5,x6,x7] λbO=>
 Br (x8 !=0)
 (R (Value.tuple #[aa,x8]) bO)
 (ah 60 #[a0,.agg #[x2,x3,x4],(0:Int)] bO (Ri λbN aY=>K2 w w1 bO aY (
 Br (bN !=0)
 (R (Value.tuple #[aa,bN]) aY)
 (R (Value.tuple #[x5,aa]) aY)))))):ah 58 #[a0,a1,.agg #[bq,bA,bo]] w R:=
 cq bV Tryz.func58 h
theorem vH.vc{c0:Addr}(h:
 Aw w #[aA,aq,au] 41 λw0=>
 ∃(p1:Option Addr),ld w0 (some c0)=some (.pointer p1)/\
 ah 67 #[p1,.agg #[aA,aq,au]] w0 (Rb λb3 w2=>Kp w w0 w2/\
 R b3 w2)):ah 120 #[.agg #[aA,aq,au],c0] w R:=
 cq bV Tryz.func120 h
theorem zK.vc{a0:Addr}(h:
 Aw w #[a0] 23 λw0=>
 ∃I1:Nat->Int->Sl->World->Prop,
 (∃n2,aO [.pointer (some a0)]/\I1 n2 (0) ⟨none,0,0⟩ w0)/\
 ∀(n2:Nat)(us3:Nat->Value)(x4:Int)(s5:Sl)(w6:World),I1 n2 x4 s5 w6->
 Br (x4<16)
 (∃(s8:Sl),ld w6.drew (af (some a0) 2)=some (.slice s8.a s8.n s8.c)/\
 eo s8.a x4 s8.n/\aP (dv (af s8.a ((x4:Int).toNat*13))) (∃(b9:Bool),ld w6.drew (af (af s8.a ((x4:Int).toNat*13)) 0)=some (.bool b9)/\
 Br b9
 (∃(xf:Sl),ld w6.drew (af (some a0) 2)=some (.slice xf.a xf.n xf.c)/\
 eo xf.a x4 xf.n/\aP (dv (af xf.a ((x4:Int).toNat*13))) (∃(bC bN cm bX cA cD cY cp:Int)(b19:Bool),ag w6.drew (af (af xf.a ((x4:Int).toNat*13)) 1) 0 [bC,bN,cm,bX,cA,cD,cY,cp,b19]/\
 ah 107 #[a0,.agg #[bC,bN,cm,bX,cA,cD,cY,cp,b19]] w6.drew (Rb λKc fx=>Kp w w6.drew fx/\
 ag fx (af (some a0) 2) 0 [xf]/\ag fx w 0 [.pointer (some a0)]/\ag fx (af (af s8.a ((x4:Int).toNat*13)) 0) 0 [.bool b9]/\ag fx (af (some a0) 2) 0 [s8]/\ag fx w 0 [.pointer (some a0)]/\Br Kc
 (Aw fx #[x4] 3 λdT=>
 ba 8 1 dT s5 1 [x4]/\∀(s23:Sl)(fZ:World),aV 3 1 dT s5 1 [x4] s23 fZ->K2 w fx dT fZ (
 ∃n7,n7<n2/\aO [.pointer (some a0)]/\I1 n7 ((aj (x4+1))) s23 fZ))
 (∃n7,n7<n2/\aO [.pointer (some a0)]/\I1 n7 ((aj (x4+1))) s5 fx))))
 (∃n7,n7<n2/\aO [.pointer (some a0)]/\I1 n7 ((aj (x4+1))) s5 w6.drew)))
 (∃I25:Nat->Int->Sl->World->Prop,
 (∃n26,aO [.pointer (some a0)]/\I25 n26 (0) ⟨none,0,0⟩ w6)/\
 ∀(n26:Nat)(axi:Nat->Value)(g7:Int)(s29:Sl)(fu:World),I25 n26 g7 s29 fu->
 Br (decide (g7<((s5.n:Nat):Int)))
 (∃(oL:Sl),ld fu.drew (af (some a0) 2)=some (.slice oL.a oL.n oL.c)/\
 eo s5.a g7 s5.n/\∃(eF:Int),ld fu.drew (af s5.a ((g7:Int).toNat*1))=some (.int .i64 eF)/\
 eo oL.a eF oL.n/\∃(b34:Bool)(kv nk fB gA ou mc kI lh:Int)(M7:Bool)(jY nq:Int)(b46:Bool),ag fu.drew (af oL.a ((eF:Int).toNat*13)) 0 [.bool b34,kv,nk,fB,gA,ou,mc,kI,lh,M7,jY,nq,b46]/\
 Aw fu.drew #[false,aa,aa,aa,aa,aa,aa,aa,aa,false,aa,aa,false] 117 λlg=>
 Sw lg fu.drew.heap.size #[b34,kv,nk,fB,gA,ou,mc,kI,lh,M7,jY,nq,b46] λfY=>
 ∃(p49:Option Addr),ld fY.drew (af (some a0) 0)=some (.pointer p49)/\
 ah 27 #[p49] fY.drew (Rv λv51 mi=>Kp w fY.drew mi/\mi.heap[fu.drew.heap.size]? =fY.drew.heap[fu.drew.heap.size]?/\
 ag mi (some ⟨fu.drew.heap.size,10,none⟩) 0 [jY,nq,b46]/\ag mi w 0 [.pointer (some a0)]/\ag mi (some ⟨fu.drew.heap.size,1,none⟩) 0 [kv,nk,fB,gA,ou,mc,kI,lh,M7]/\ah 116 #[.agg #[kv,nk,fB,gA,ou,mc,kI,lh,M7],v51,.agg #[jY,nq,b46]] mi (λe Kd=>∃(iV pE kC qF mG wQ kJ iW:Int)(b61:Bool),e=Value.agg #[iV,pE,kC,qF,mG,wQ,kJ,iW,b61]/\Kp w mi Kd/\Kd.heap[fu.drew.heap.size]? =mi.heap[fu.drew.heap.size]?/\
 ag Kd w 0 [.pointer (some a0)]/\Aw Kd #[iV,pE,kC,qF,mG,wQ,kJ,iW,b61] 70 λil=>
 ba 72 9 il s29 1 [iV,pE,kC,qF,mG,wQ,kJ,iW,b61]/\∀(s63:Sl)(sO:World),aV 70 9 il s29 1 [iV,pE,kC,qF,mG,wQ,kJ,iW,b61] s63 sO->Kp w il sO/\sO.heap[fu.drew.heap.size]? =il.heap[fu.drew.heap.size]?/\Kp Kd il sO/\
 ag sO w 0 [.pointer (some a0)]/\∃S0,S0<n26/\aO [.pointer (some a0)]/\I25 S0 ((aj (g7+1))) s63 sO)))
 (∃(p65:Option Addr),ld fu (af (some a0) 0)=some (.pointer p65)/\
 ah 27 #[p65] fu (Rv λv67 oK=>Kp w fu oK/\
 ah 117 #[v67,s29] oK (Rs λs69 sJ=>Kp w oK sJ/\
 ∃I70:Nat->Int->World->Prop,
 (∃n71,aO [.pointer (some a0)]/\I70 n71 (0) sJ)/\
 ∀(n71:Nat)(apG:Nat->Value)(me:Int)(lD:World),I70 n71 me lD->
 Br (decide (me<((s5.n:Nat):Int)))
 (Br (decide (me<((s69.n:Nat):Int)))
 (∃(Fh:Sl),ld lD.drew (af (some a0) 2)=some (.slice Fh.a Fh.n Fh.c)/\
 eo s5.a me s5.n/\∃(FN:Int),ld lD.drew (af s5.a ((me:Int).toNat*1))=some (.int .i64 FN)/\
 eo s69.a me s69.n/\∃(zg vt uy sK qG sQ xg AN:Int)(b86:Bool),ag lD.drew (af s69.a ((me:Int).toNat*9)) 0 [zg,vt,uy,sK,qG,sQ,xg,AN,b86]/\
 eo Fh.a FN Fh.n/\aP (dv (af Fh.a ((FN:Int).toNat*13))) ((((af (af Fh.a ((FN:Int).toNat*13)) 1)).isSome=true/\Wr lD.drew (af (af Fh.a ((FN:Int).toNat*13)) 1) 9)/\bD (af (af Fh.a ((FN:Int).toNat*13)) 1)≠some w.heap.size/\(∀AO,AO=aH lD.drew (af (af Fh.a ((FN:Int).toNat*13)) 1) [zg,vt,uy,sK,qG,sQ,xg,AN,b86]->
 ∃n75,n75<n71/\aO [.pointer (some a0)]/\I70 n75 ((aj (me+1))) AO)))
 (∃(JQ:Option Addr),ld lD (af (some a0) 1)=some (.pointer JQ)/\
 ah 118 #[JQ,.func (.func 120) #[] #[w]] lD (λe gf=>e=sY/\
 ∃(p90:Option Addr),ld gf (some ⟨w,0,none⟩)=some (.pointer p90)/\
 aP (dv p90) (aP (dv p90) (∃(p91:Option Addr),ld gf (af p90 1)=some (.pointer p91)/\
 ah 119 #[p91] gf (λe ZZ=>∃(uz:Int),e=uz/\
 R uz ZZ))))))
 (∃(p94:Option Addr),ld lD (af (some a0) 1)=some (.pointer p94)/\
 ah 118 #[p94,.func (.func 120) #[] #[w]] lD (λe Z0=>e=sY/\
 ∃(p96:Option Addr),ld Z0 (some ⟨w,0,none⟩)=some (.pointer p96)/\
 aP (dv p96) (aP (dv p96) (∃(p97:Option Addr),ld Z0 (af p96 1)=some (.pointer p97)/\
 ah 119 #[p97] Z0 (λe GM=>∃(Ie:Int),e=Ie/\
 R Ie GM)))))))))):ah 65 #[a0] w R:=
 cq ⟨[(15,⟨[(9,.int .i64)],[],[]⟩),(9,⟨[(6,.int .i64),(4,.slice)],[],[]⟩),(4,⟨[(5,.int .i64),(3,.slice)],[],[]⟩)],[],[]⟩ Tryz.func65 h
theorem vI.vc{a0:Addr}(h:
 Aw w #[aa,.slice none 0 0,.slice none 0 0] 86 λw0=>
 ∃(p1:Option Addr),ld w0 (af (some a0) 1)=some (.pointer p1)/\
 ah 68 #[p1] w0 (Ri λx3 w2=>Kp w w0 w2/\
 Aw w2 #[aa,.slice none 0 0,.slice none 0 0] 86 λw4=>
 Sw w4 w2 #[x3,.slice none 0 0,.slice none 0 0] λw5=>
 ∃I6:Nat->Int->Int->Sl->Sl->World->Prop,
 (∃n7,aO [aa,.slice none 0 0,.slice none 0 0]/\I6 n7 (0) x3 ⟨none,0,0⟩ ⟨none,0,0⟩ w5)/\
 ∀(n7:Nat)(us8:Nat->Value)(x9 bh:Int)(AP jJ:Sl)(bJ:World),I6 n7 x9 bh AP jJ bJ->
 Br (x9<16)
 (∃(lj:Sl),ld bJ (af (some a0) 2)=some (.slice lj.a lj.n lj.c)/\
 eo lj.a x9 lj.n/\aP (dv (af lj.a ((x9:Int).toNat*13))) (∃(b16:Bool),ld bJ (af (af lj.a ((x9:Int).toNat*13)) 0)=some (.bool b16)/\
 Br b16
 (∃(Fi:Sl),ld bJ.drew (af (some a0) 2)=some (.slice Fi.a Fi.n Fi.c)/\
 eo Fi.a x9 Fi.n/\aP (dv (af Fi.a ((x9:Int).toNat*13))) (∃(cp cn cW dh dN dz eE dQ:Int)(Fj:Bool),ag bJ.drew (af (af Fi.a ((x9:Int).toNat*13)) 1) 0 [cp,cn,cW,dh,dN,dz,eE,dQ,Fj]/\
 Aw bJ.drew #[x9,cp,cn,cW,dh,dN,dz,eE,dQ,Fj] 164 λeH=>
 ba 80 10 eH AP 1 [x9,cp,cn,cW,dh,dN,dz,eE,dQ,Fj]/\∀(N9:Sl)(dR:World),aV 164 10 eH AP 1 [x9,cp,cn,cW,dh,dN,dz,eE,dQ,Fj] N9 dR->K2 w w2 eH dR (
 dR.heap[bJ.drew.heap.size]? =eH.heap[bJ.drew.heap.size]?/\
 ag dR (af (some a0) 2) 0 [Fi]/\Sw dR w2 #[bh,N9,jJ] λfu=>
 ∃FO,FO<n7/\aO [aa,.slice none 0 0,.slice none 0 0]/\I6 FO ((aj (x9+1))) bh N9 jJ fu)))
 (∃FO,FO<n7/\aO [aa,.slice none 0 0,.slice none 0 0]/\I6 FO ((aj (x9+1))) bh AP jJ bJ)))
 (∃(p31:Option Addr),ld bJ (af (some a0) 1)=some (.pointer p31)/\
 ah 82 #[p31] bJ (Rs λvu lv=>K2 w w2 bJ lv (
 ∃I34:Nat->Int->Int->Sl->Sl->World->Prop,
 (∃CD,aO [aa,.slice none 0 0,.slice none 0 0]/\I34 CD (0) bh AP jJ lv)/\
 ∀(CD:Nat)(apH:Nat->Value)(fB gA:Int)(S1 s40:Sl)(gO:World),I34 CD fB gA S1 s40 gO->
 Br (decide (fB<((vu.n:Nat):Int)))
 (eo vu.a fB vu.n/\aP (dv (af vu.a ((fB:Int).toNat*4))) (∃(oE:Int),ld gO.drew (af (af vu.a ((fB:Int).toNat*4)) 0)=some (.int .i64 oE)/\
 eo vu.a fB vu.n/\aP (dv (af vu.a ((fB:Int).toNat*4))) (∃(jY nq gC:Int),ag gO.drew (af (af vu.a ((fB:Int).toNat*4)) 1) 0 [jY,nq,gC]/\
 Aw gO.drew #[oE,jY,nq,gC] 166 λlg=>
 ba 32 4 lg s40 1 [oE,jY,nq,gC]/\∀(Q2:Sl)(lA:World),aV 166 4 lg s40 1 [oE,jY,nq,gC] Q2 lA->K2 w w2 lg lA (
 lA.heap[gO.drew.heap.size]? =lg.heap[gO.drew.heap.size]?/\
 Sw lA w2 #[gA,S1,Q2] λmi=>
 ∃n42,n42<CD/\aO [aa,.slice none 0 0,.slice none 0 0]/\I34 n42 ((aj (fB+1))) gA S1 Q2 mi))))
 (Sw gO w #[gA,S1,s40] λzf=>
 R (Value.agg #[gA,S1,s40]) zf)))))):ah 62 #[a0] w R:=
 cq ⟨[(9,⟨[(6,.int .i64)],[(1,[.int .i64,.slice,.slice])],[]⟩),(3,⟨[(4,.int .i64)],[(1,[.int .i64,.slice,.slice])],[]⟩)],[],[]⟩ Tryz.func62 h
def tO(n:Int):Int:=min (max n (-2147483648)) 2147483648
theorem QR(n:Int):(if 2147483648<(if (-2147483648)>n then (-2147483648) else n) then 2147483648 else (if (-2147483648)>n then (-2147483648) else n))=tO n:=by
 unfold tO
 repeat' split
 all_goals omega
theorem E6{n:Int}(h: -2147483648<=n/\n<=2147483648):tO n=n:=by unfold tO;omega
theorem E7(c:Ce)(w:World):ah 160 #[dY c] w λe w'=>e=(dY (tO c.1,tO c.2.1,tO c.2.2))/\Ext w w':=by apply VP.vc;intro w0 e0 w1 e1 w2 e2;rw [QR,QR,QR] at*;have x0:=aL e0;have z0:=zA e0;have x1:=aL e1;exact ⟨rfl,(x0.tr x1).ae e2 ab⟩
theorem MQ{c:Ce}(h:(-2147483648<=c.1/\c.1<=2147483648)/\(-2147483648<=c.2.1/\c.2.1<=2147483648)/\-2147483648<=c.2.2/\c.2.2<=2147483648)(w:World):ah 160 #[dY c] w λe w'=>e=(dY c)/\Ext w w':=by have:=E7 c w;rw [E6 h.1,E6 h.2.1,E6 h.2.2] at this;exact this
theorem QT(c:Ce)(w:World):ah 126 #[dY c] w λe w'=>e=(qQ (vg c))/\Ext w w':=by
 apply VQ.vc;intro w0 e0 w1 e1;have x0:=aL e0;have z0:=zA e0;have x1:=aL e1;have z1:=zA e1;refine (E7 c w1).mono ?_;rintro e w2 ⟨rfl,x2⟩;have z2:=x2.size;refine ⟨_,_,_,rfl,x2.heap ab,x2.heap ab,λw6 e6 w7 e7 w8 e8 w9 e9=> ?_⟩;have x7:Ext w2 w7:=(aL e6).ae e7 (aB _);have z7:w7.heap.size=w2.heap.size+1:=by rw [zR e7,zA e6]
 have hb:∀n,-2147483648<=tO n/\tO n<=2147483648:=λn=>by unfold tO;omega
 have hof:∀n,aj (tO n*65536)=pO n:=λn=>by have:=hb n;rw [wI];rfl
 have x9:Ext w7 w9.drew:=((aL e8).ae e9 (aB _)).drew;have z9:w9.drew.heap.size=w7.heap.size+1:=by show w9.heap.size=_;rw [zR e9,zA e8]
 rw [hof,hof,hof] at e9 ⊢;have r9:∃τ,Row w9.drew w7 (dA (pO c.1,pO c.2.1,pO c.2.2)) τ:=⟨_,by rw [e9,e8];exact (Row.set (Row.new w7 [_,_,_] _) [_,_,_]).ext (Ext.dr _)⟩;obtain ⟨τ,r9⟩:=r9;refine (HY (pO c.1,pO c.2.1,pO c.2.2) (65536,65536,65536) w9.drew).mono ?_;rintro e bO ⟨rfl,bh⟩;have QX:=bh.size;exact ⟨_,_,_,rfl,bh.heap ab,bh.heap ab,bh.heap ab,bh.heap ab,Lo.wv (r9.ext bh),λbP ux=>⟨rfl,(x0.tr (x1.tr (x2.tr (x7.tr (x9.tr bh))))).ae ux ab⟩⟩
def E8(m:Int):Prop:= -2000000000<=m/\m<=2000000000
def GA(c:Ce)(k:Nat):LV:=((List.range 6).map λj=>if j<k then dA ((pN c).getD j (0,0,0)) else dA (0,0,0)).flatten
set_option maxHeartbeats 4000000 in
theorem PO(c:Ce)(hc:eO c)(w:World):ah 112 #[dY c] w λe w'=>e=Value.agg (B2 c).toArray/\Ext w w':=by
 apply QQ.vc;intro w0 e0 w1 e1 w2 e2;have x0:=aL e0;have z0:=zA e0;have x1:=aL e1;have z1:=zA e1;have r1:∃τ,Row w1 w0 (GA c 0) τ:=⟨_,by rw [e1];exact Row.new w0 (GA c 0) _⟩;have x2:=aL e2;have z2:=zA e2;have r2:∃τ,Row w2 w1 (GA c 0) τ:=⟨_,by rw [e2];exact Row.new w1 (GA c 0) _⟩;obtain ⟨τ,r1⟩:=r1;obtain ⟨τ',r2⟩:=r2;have hw:=hc;unfold eO at hw;refine ⟨λn x wr=>∃k:Nat,x=k/\k+n=6/\Row wr w1 (GA c k) τ'/\Row wr w0 (GA c 0) τ/\Ext w wr/\w2.heap.size<=wr,⟨6,rfl,0,rfl,rfl,r2,r1.ext x2,x0.tr (x1.tr x2),aB _⟩,?_⟩;rintro n us x w7 ⟨k,rfl,hk,rk,rz,x7,z7⟩;apply Br.mk<;>intro hq
 ·have hq:(k:Int)<6:=by simpa using hq
  refine (MQ (c:=c) ab w7).mono ?_;rintro e w9 ⟨rfl,x9⟩;have z9:=x9.size;refine ⟨_,_,_,rfl,x9.heap ab,λbJ Cp bP ux=> ?_⟩;have bX:Ext w9 bP:=(aL Cp).ae ux (aB _);have Wb:bP.heap.size=w9.heap.size+1:=by rw [zR ux,zA Cp]
  have last:∀{u:World} (d:Ce),d=(pN c).getD k (0,0,0)->((-2147483648<=d.1/\d.1<=2147483648)/\(-2147483648<=d.2.1/\d.2.1<=2147483648)/\-2147483648<=d.2.2/\d.2.2<=2147483648)->Ext w9 u->w9.heap.size+1=u.heap.size->
    ah 160 #[dY d] u λe v=>∃a b f:Int,e=Value.agg #[a,b,f]/\v.heap[w.heap.size]? =u.heap[w.heap.size]?/\v.heap[w9.heap.size]? =u.heap[w9.heap.size]?/\
     (0:Int)<=(k:Int)/\(k:Int)<((6:Nat):Int)/\(true=true/\Wr v (af (some ⟨w1.heap.size,0,none⟩) ((k:Int).toNat*3)) 3)/\bD (af (some ⟨w1.heap.size,0,none⟩) ((k:Int).toNat*3))≠some w.heap.size/\bD (af (some ⟨w1.heap.size,0,none⟩) ((k:Int).toNat*3))≠some w9.heap.size/\
     ∀eH:World,eH=Vc.aH v (af (some ⟨w1.heap.size,0,none⟩) ((k:Int).toNat*3)) [a,b,f]->∃n8,n8<n/\aO [c.1,c.2.1,c.2.2]/\
      ∃k':Nat,aj ((k:Int)+1)=k'/\k'+n8=6/\Row eH w1 (GA c k') τ'/\Row eH w0 (GA c 0) τ/\Ext w eH/\w2.heap.size<=eH:=by
   intro u d hd hdb xu zu;refine (MQ hdb u).mono ?_;rintro e v ⟨rfl,xv⟩;have zv:=xv.size;have rv:=rk.ext (x9.tr (xu.tr xv));rw [ej];obtain ⟨p1,p2⟩:=lO rv (off:=k*3) (vs:=dA d) (by
    have:k=0\/k=1\/k=2\/k=3\/k=4\/k=5:=by omega
    rcases this with rfl|rfl|rfl|rfl|rfl|rfl<;>(show _+3<=18;decide)) (AG d)
   have hpb:bD (af (some ⟨w1.heap.size,0,none⟩) (k*3))=some w1.heap.size:=by rw [bf];rfl
   refine ⟨_,_,_,rfl,xv.heap ab,xv.heap ab,by omega,by omega,⟨rfl,p1⟩,by rw [hpb];intro q;injection q with q;omega,by rw [hpb];intro q;injection q with q;omega,λeH e27=> ?_⟩;obtain ⟨q1,q2⟩:=p2 eH e27;have zq:=q2.size;refine ⟨n-1,by omega,rfl,k+1,by rw [wI];omega,by omega,?_,(rz.ext (x9.tr (xu.tr xv))).same (q2.same _ ab ab),q2.ext (x7.tr (x9.tr (xu.tr xv))) (λi hi=>by omega),by omega⟩;have:aR (GA c k) (k*3) (dA d)=GA c (k+1):=by
    rw [hd];have:k=0\/k=1\/k=2\/k=3\/k=4\/k=5:=by omega
    rcases this with rfl|rfl|rfl|rfl|rfl|rfl<;>rfl
   rw [<-this];exact q1
  have m1:∀m:Int,E8 m->aj (m+(-1))=m-1:=λm hm=>by rw [aK (by unfold E8 at hm;unfold inI;omega)];omega
  have p1:∀m:Int,E8 m->aj (m+1)=m+1:=λm hm=>by rw [aK (by unfold E8 at hm;unfold inI;omega)]
  have hx:E8 c.1:=hc.1;have hy:E8 c.2.1:=hc.2.1;have hz:E8 c.2.2:=hc.2.2;have by0:aj (aj (2*Int.tmod 0 2)-1)= -1:=by decide
  have by1:aj (aj (2*Int.tmod 1 2)-1)=1:=by decide
  have hk6:k=0\/k=1\/k=2\/k=3\/k=4\/k=5:=by omega
  rcases hk6 with rfl|rfl|rfl|rfl|rfl|rfl
  ·refine yes aF λeA oO=>eZ aF (eZ aF ?_)
   have hb:aj (c.1+aj (aj (2*Int.tmod ((0:Nat):Int) 2)-1))=c.1-1:=by rw [show aj (aj (2*Int.tmod ((0:Nat):Int) 2)-1)= -1 from by decide];exact m1 _ hx
   rw [hb] at oO ⊢;exact last (c.1-1,c.2.1,c.2.2) rfl (by simp only;omega) (bX.ae oO (aB _)) (by rw [zR oO];omega)
  ·refine yes aF λeA oO=>eZ aF (eZ aF ?_)
   have hb:aj (c.1+aj (aj (2*Int.tmod ((1:Nat):Int) 2)-1))=c.1+1:=by rw [show aj (aj (2*Int.tmod ((1:Nat):Int) 2)-1)=1 from by decide];exact p1 _ hx
   rw [hb] at oO ⊢;exact last (c.1+1,c.2.1,c.2.2) rfl (by simp only;omega) (bX.ae oO (aB _)) (by rw [zR oO];omega)
  ·refine eZ aF (yes aF λeA oO=>eZ aF ?_);have hb:aj (c.2.1+aj (aj (2*Int.tmod ((2:Nat):Int) 2)-1))=c.2.1-1:=by rw [show aj (aj (2*Int.tmod ((2:Nat):Int) 2)-1)= -1 from by decide];exact m1 _ hy
   rw [hb] at oO ⊢;exact last (c.1,c.2.1-1,c.2.2) rfl (by simp only;omega) (bX.ae oO (aB _)) (by rw [zR oO];omega)
  ·refine eZ aF (yes aF λeA oO=>eZ aF ?_);have hb:aj (c.2.1+aj (aj (2*Int.tmod ((3:Nat):Int) 2)-1))=c.2.1+1:=by rw [show aj (aj (2*Int.tmod ((3:Nat):Int) 2)-1)=1 from by decide];exact p1 _ hy
   rw [hb] at oO ⊢;exact last (c.1,c.2.1+1,c.2.2) rfl (by simp only;omega) (bX.ae oO (aB _)) (by rw [zR oO];omega)
  ·refine eZ aF (eZ aF (yes aF λeA oO=> ?_));have hb:aj (c.2.2+aj (aj (2*Int.tmod ((4:Nat):Int) 2)-1))=c.2.2-1:=by rw [show aj (aj (2*Int.tmod ((4:Nat):Int) 2)-1)= -1 from by decide];exact m1 _ hz
   rw [hb] at oO ⊢;exact last (c.1,c.2.1,c.2.2-1) rfl (by simp only;omega) (bX.ae oO (aB _)) (by rw [zR oO];omega)
  ·refine eZ aF (eZ aF (yes aF λeA oO=> ?_));have hb:aj (c.2.2+aj (aj (2*Int.tmod ((5:Nat):Int) 2)-1))=c.2.2+1:=by rw [show aj (aj (2*Int.tmod ((5:Nat):Int) 2)-1)=1 from by decide];exact p1 _ hz
   rw [hb] at oO ⊢;exact last (c.1,c.2.1,c.2.2+1) rfl (by simp only;omega) (bX.ae oO (aB _)) (by rw [zR oO];omega)
 ·have hq:¬(k:Int)<6:=by simpa using hq
  have:k=6:=by omega
  subst this;have rk:Row w7 w1 (B2 c) τ':=rk;have uQ:One (B2 c):=D6 c;obtain ⟨p1,p2⟩:=lO rz (off:=0) (vs:=B2 c) (by show 0+18<=18;decide) uQ;refine ⟨_,_,_,_,_,_,_,_,_,_,_,_,_,_,_,_,_,_,Lo.wv rk,⟨rfl,p1⟩,?_,λuA e80=> ?_⟩
  ·intro q;have q:some w0.heap.size=some w.heap.size:=q;injection q with q;omega
  obtain ⟨q1,q2⟩:=p2 uA e80;have q1:Row uA w0 (B2 c) τ:=q1;exact ⟨_,_,_,_,_,_,_,_,_,_,_,_,_,_,_,_,_,_,Lo.wv q1,rfl,q2.ext x7 λi hi=>by omega⟩
abbrev im:=Bool × dZ
abbrev jL(r:im):LV:=[.bool r.1,.int .i64 r.2.1.aI.1,.int .i64 r.2.1.aI.2.1,.int .i64 r.2.1.aI.2.2,.int .i64 r.2.1.speed.1,.int .i64 r.2.1.speed.2.1,.int .i64 r.2.1.speed.2.2,.int .i64 r.2.1.wd,.int .i64 r.2.1.ht,.bool r.2.1.gV,.int .i64 r.2.2.1,.int .i64 r.2.2.2.1,.bool r.2.2.2.2]
def ai(r:im):Option dZ:=if r.1 then some r.2 else none
def MF(F:Nat->Prop)(w:World)(m s o t:Nat)(M:Sm)(occ:Value)(rows:List im):Prop:=
 ∃(Fs:Nat->Prop)(b:Nat),Row w m [o,s,.slice (some ⟨b,0,none⟩) 16 16] tk/\SF Fs w s o t M occ/\Row w b (rows.map jL).flatten Bb/\rows.length=16/\F=λi=>i=m\/i=b\/Fs i
abbrev kA(F:Nat->Prop)(w:World)(m s o t:Nat)(M:Sm)(occ:Value)(rows:List im)(w':World):Prop:=∃F',MF F' w' m s o t M occ rows/\aM F F' w w'
theorem TY{w:World}{p:Option Addr}{v:Value}(h:Vc.ld w p=some v):ag w p 0 [v]:=lX λj hj=>by
 have:j=0:=by simpa using hj
 subst this;have e:af p (0+0)=p:=by
  cases p with
  |none=>rfl
  |some a=>obtain ⟨b,o,k⟩:=a;cases k<;>simp [af,Addr.add]
 rw [e];exact h
theorem mL:(Dq tk/\tk≠qL/\tk≠kc/\tk≠zL/\tk≠Q.gK/\tk≠Q.cC/\tk≠pM)/\(Dq Bb/\Bb≠qL/\Bb≠kc/\Bb≠zL/\Bb≠Q.gK/\Bb≠Q.cC/\Bb≠pM)/\tk≠Bb:=by decide
theorem af7(r:im):One (jL r):=by intro u hu;simp at hu;rcases hu with rfl|rfl|rfl|rfl|rfl|rfl|rfl|rfl|rfl|rfl|rfl|rfl|rfl<;>rfl
theorem sU{w:World}{b:Nat}{rows:List im}(hr:Row w b (rows.map jL).flatten Bb)(hn:rows.length=16):RdK w ⟨some ⟨b,0,none⟩,16,16⟩ 13 (rows.map jL):=by
 have hl:(rows.map jL).flatten.length=16*13:=by
  have:=bK (k:=13) (rows:=rows.map jL) λr hr=>by obtain ⟨x,-,rfl⟩:=aZ.1 hr;rfl
  rw [this,aN,hn]
 exact (aC.jg (B:=0) (k:=13) (n:=16) (c:=16) (Nat.zero_le _) hr ab (aB _) (by rw [fC ab]) λr hr=>by obtain ⟨x,-,rfl⟩:=aZ.1 hr;rfl).rd aF
section
variable {F F':Nat->Prop} {w w':World} {m s o t:Nat} {M M':Sm} {occ:Value} {rows:List im}
theorem MF.lt(h:MF F w m s o t M occ rows){i:Nat}(hi:F i):i<w:=by
 obtain ⟨Fs,b,h1,h2,h3,-,rfl⟩:=h;rcases hi with rfl|rfl|hi
 ·exact h1.lt
 ·exact h3.lt
 ·exact h2.lt hi
theorem MF.same(h:MF F w m s o t M occ rows)(hk:∀i,F i->w'.heap[i]? =w.heap[i]?):MF F w' m s o t M occ rows:=by obtain ⟨Fs,b,h1,h2,h3,h4,rfl⟩:=h;exact ⟨Fs,b,h1.same (hk _ (.inl rfl)),h2.same λi hi=>hk i (.inr (.inr hi)),h3.same (hk _ (.inr (.inl rfl))),h4,rfl⟩
theorem MF.ext(h:MF F w m s o t M occ rows)(x:Ext w w'):MF F w' m s o t M occ rows:=h.same λ_ hi=>x.heap (h.lt hi)
theorem MF.res(h:MF F w m s o t M occ rows)(x:Ext w w'):kA F w m s o t M occ rows w':=⟨F,h.ext x,aM.aD x⟩
theorem kA.aD{w0:World}(x:Ext w w0)(h:kA F w0 m s o t M occ rows w'):kA F w m s o t M occ rows w':=by obtain ⟨F',h1,h2⟩:=h;exact ⟨F',h1,(aM.aD x).trans h2⟩
theorem MF.vb(h:MF F w m s o t M occ rows):∃Fs,SF Fs w s o t M occ/\Vc.ld w (af (some ⟨m,0,none⟩) 1)=some (.pointer (some ⟨s,0,none⟩))/\Vc.ld w (af (some ⟨m,0,none⟩) 0)=some (.pointer (some ⟨o,0,none⟩))/\(∀i,Fs i->F i)/\∀{w':World} {M':Sm} {occ':Value},lR Fs w s o t M' occ' w'->kA F w m s o t M' occ' rows w':=by
 obtain ⟨Fs,b,h1,h2,h3,h4,rfl⟩:=h;refine ⟨Fs,h2,h1.at 1 rfl,h1.at 0 rfl,λi hi=> .inr (.inr hi),?_⟩;rintro w' M' occ' ⟨F',h',ht⟩;have nm:¬Fs m:=h2.jG h1 mL.1.1 mL.1.2.1 mL.1.2.2.1 mL.1.2.2.2.1 mL.1.2.2.2.2.1 mL.1.2.2.2.2.2.1 mL.1.2.2.2.2.2.2;have nb:¬Fs b:=h2.jG h3 mL.2.1.1 mL.2.1.2.1 mL.2.1.2.2.1 mL.2.1.2.2.2.1 mL.2.1.2.2.2.2.1 mL.2.1.2.2.2.2.2.1 mL.2.1.2.2.2.2.2.2;refine ⟨_,⟨F',b,ht.mod.row h1 nm,h',ht.mod.row h3 nb,h4,rfl⟩,ht.mod.mono λi _ hi=> .inr (.inr hi),λi hi=> ?_⟩;rcases hi with hi|hi|hi
 ·exact .inl (.inl hi)
 ·exact .inl (.inr (.inl hi))
 ·exact (ht.sub i hi).imp (λq=> .inr (.inr q)) id
theorem MF.Ik(h:MF F w m s o t M occ rows):∃b,Row w m [o,s,.slice (some ⟨b,0,none⟩) 16 16] tk/\Row w b (rows.map jL).flatten Bb/\rows.length=16/\F m/\F b/\m≠b/\∀{w':World} {rows':List im},Mod (λi=>i=b) w w'->Row w' b (rows'.map jL).flatten Bb->rows'.length=16->kA F w m s o t M occ rows' w':=by obtain ⟨Fs,b,h1,h2,h3,h4,rfl⟩:=h;have hmb:m≠b:=h1.ne h3 mL.2.2;refine ⟨b,h1,h3,h4,.inl rfl,.inr (.inl rfl),hmb,?_⟩;intro w' rows' hm hr hn;have nb:¬Fs b:=h2.jG h3 mL.2.1.1 mL.2.1.2.1 mL.2.1.2.2.1 mL.2.1.2.2.2.1 mL.2.1.2.2.2.2.1 mL.2.1.2.2.2.2.2.1 mL.2.1.2.2.2.2.2.2;exact ⟨_,⟨Fs,b,hm.row h1 hmb,h2.same λi hi=>hm.same i (h2.lt hi) λq=>nb (q▸hi),hr,hn,rfl⟩,hm.mono λi _ hi=> .inr (.inl hi),λi hi=> .inl hi⟩
theorem MF.tl(h:MF F w m s o t M occ rows):Tl (.func (.func 83) #[t] #[]) (gy M.T.2) w:=by obtain ⟨Fs,h1,-⟩:=h.vb;exact h1.tl
theorem Xc(r:im):(jL r)[0]? =some (.bool r.1):=rfl
theorem mlB(r:im):∀j,j<(jo r.2.1).length->(jL r)[1+j]? =(jo r.2.1)[j]? :=λj hj=>by
 have hj:j<9:=hj
 have:j=0\/j=1\/j=2\/j=3\/j=4\/j=5\/j=6\/j=7\/j=8:=by omega
 rcases this with rfl|rfl|rfl|rfl|rfl|rfl|rfl|rfl|rfl<;>rfl
theorem A8(h:MF F w m s o t M occ rows)(b:ef):ah 107 #[m,BV b] w λe w'=>e=Value.bool (nR M b)/\Ext w w':=by
 apply xF.vc;intro w0 e0;have x0:Ext w w0.drew:=(aL e0).drew;have z0:w0.drew.heap.size=w.heap.size+1:=by show w0.heap.size=_;exact zA e0
 obtain ⟨Fs,h1,-,h2,-⟩:=(h.ext x0).vb;refine ⟨_,h2,(LX b.aI w0.drew).mono ?_⟩;rintro e w2 ⟨rfl,x2⟩;have z2:=x2.size;obtain ⟨Fs,h1,-,h2,-⟩:=(h.ext (x0.tr x2)).vb;obtain ⟨Fw,hW,-,-⟩:=h1.world;refine ⟨_,_,_,rfl,x2.heap ab,TY h2,(td hW (br b.aI) (xU _).1 (xU _).2).mono ?_⟩;rintro e w6 ⟨rfl,x6⟩;exact ⟨_,rfl,x6.heap ab,rfl,x0.tr (x2.tr x6)⟩
set_option maxHeartbeats 1000000 in
theorem LY{b:Nat}(hm:Row w m [o,s,.slice (some ⟨b,0,none⟩) 16 16] tk)(hr:Row w b (rows.map jL).flatten Bb)(hn:rows.length=16){n:Int}(hL:sC n (rows.map ai))(c:Ce):
  ah 67 #[m,dY c] w λe w'=>e=Value.bool (qi (rows.map ai) c)/\Ext w w':=by
 apply zG.vc;intro w0 e0;have x0:=aL e0;have z0:=zA e0;have r0:∃τ,Row w0 w (dA c) τ:=⟨_,by rw [e0];exact Row.new w [_,_,_] _⟩;obtain ⟨τ,r0⟩:=r0;refine ⟨λn x wr=>∃k:Nat,x=k/\k+n=16/\Ext w0 wr/\∀j,j<k->∀y,(rows.map ai)[j]? =some y->DP c y=false,⟨16,rfl,0,rfl,rfl,Ext.cE _,λj hj=>by omega⟩,?_⟩;rintro n1 us x w5 ⟨k,rfl,hk,x5,mF⟩;apply Br.mk<;>intro hq
 ·have hq:(k:Int)<16:=by simpa using hq
  obtain ⟨r,Ka⟩:=bI (l:=rows) (i:=k) ab;have hi:(rows.map jL)[k]? =some (jL r):=by rw [aU,Ka];rfl
  have hl:(rows.map ai)[k]? =some (ai r):=by rw [aU,Ka];rfl
  have xd:=x0.tr (x5.tr (Ext.dr w5));have ldm:∀{u:World},Ext w u->Vc.ld u (af (some ⟨m,0,none⟩) 2)=some (.slice (some ⟨b,0,none⟩) 16 16):=λxu=>(hm.ext xu).at 2 rfl
  have rk:∀{u:World},Ext w u->RdK u ⟨some ⟨b,0,none⟩,16,16⟩ 13 (rows.map jL):=λxu=>sU (hr.ext xu) hn
  have z5:=x5.size;have wk:=mz (j:=k);have next:DP c (ai r)=false->∀{u:World},Ext w0 u->∃n6,n6<n1/\aO [c.1,c.2.1,c.2.2]/\∃k':Nat,aj ((k:Int)+1)=k'/\k'+n6=16/\Ext w0 u/\∀j,j<k'->∀y,(rows.map ai)[j]? =some y->DP c y=false:=λhm {u} xu=>by
   refine ⟨n1-1,by omega,rfl,k+1,wk,by omega,xu,λj hj z hz=> ?_⟩;by_cases q:j<k
   ·exact mF j q z hz
   ·rw [show j=k from by omega,hl] at hz;rw [<-Option.some.inj hz];exact hm
  refine ⟨⟨some ⟨b,0,none⟩,16,16⟩,ldm xd,(rk xd).g9 (i:=(k:Int)) aF ab (by show (k:Int)<((16:Nat):Int);omega),fU rfl ⟨r.1,(rk xd).at hi (Xc r),Br.mk (λhb=> ?_) (λhb=>next (by unfold ai;rw [hb];rfl) (x5.tr (Ext.dr w5)))⟩⟩;have zc:ai r=some r.2:=by unfold ai;rw [if_pos hb]
  have okr:=hL r.2 (by rw [<-zc];exact bg hl);refine ⟨⟨some ⟨b,0,none⟩,16,16⟩,ldm xd,(rk xd).g9 (i:=(k:Int)) aF ab (by show (k:Int)<((16:Nat):Int);omega),fU rfl ⟨_,_,_,_,_,_,_,_,_,kT (rk xd) hi (mlB r),(zF r.2.1 okr.wdi w5.drew).mono ?_⟩⟩;rintro e fP ⟨rfl,cn⟩;have z19:=cn.size;have zd:=lG w5;have FK:=xd.tr cn;have bl:∀{u:World},Ext w u->ag u (af (af (some ⟨b,0,none⟩) ((k:Int).toNat*13)) 0) 0 [.bool r.1]:=λxu=>TY ((rk xu).at hi (Xc r))
  refine ⟨_,_,_,_,_,_,rfl,cn.heap ab,Lo.wv (r0.ext (x5.tr ((Ext.dr w5).tr cn))),TY (ldm FK),bl FK,TY (ldm FK),(QT c fP).mono ?_⟩;rintro e fi ⟨rfl,fy⟩;have z26:=fy.size;have GH:=FK.tr fy;refine ⟨_,_,_,_,_,_,rfl,fy.heap ab,TY (ldm GH),bl GH,TY (ldm GH),(Mr r.2.1.box (vg c) fi).mono ?_⟩;rintro e eM ⟨rfl,eF⟩;have JY:=GH.tr eF;have hme:DP c (ai r)=jB r.2.1.box (vg c):=by rw [zc];rfl
  refine ⟨_,rfl,eF.heap ab,TY (ldm JY),bl JY,TY (ldm JY),Br.mk (λhm=>⟨?_,JY⟩) (λhm=>next (by rw [hme];exact hm) (x5.tr ((Ext.dr w5).tr (cn.tr (fy.tr eF)))))⟩;have:qi (rows.map ai) c=true:=List.any_eq_true.2 ⟨_,bg hl,by rw [hme];exact hm⟩;rw [this]
 ·have hq:¬(k:Int)<16:=by simpa using hq
  refine ⟨?_,x0.tr x5⟩;have:qi (rows.map ai) c=false:=List.any_eq_false.2 λy hy=>by obtain ⟨j,hj⟩:=List.mem_iff_getElem?.1 hy;have:=(cG.1 hj).1;rw [aN] at this;rw [mF j ab y hj];decide
  rw [this]
end
theorem EA(v:Ce)(m:Int):within v m=(List.range 3).all λi=>decide (-m<=db v i) && decide (db v i<=m):=by
 have e0:db v ((0:Nat):Int)=v.1:=rfl;have e1:db v ((1:Nat):Int)=v.2.1:=rfl;have e2:db v ((2:Nat):Int)=v.2.2:=rfl;have:(List.range 3).all (λi=>decide (-m<=db v i) && decide (db v i<=m))=((decide (-m<=v.1) && decide (v.1<=m)) &&((decide (-m<=v.2.1) && decide (v.2.1<=m)) &&(decide (-m<=v.2.2) && decide (v.2.2<=m)))):=by rw [<-e0,<-e1,<-e2];simp [List.range_succ]
 rw [this];unfold within;rw [Bool.eq_iff_iff];simp only [fm,cQ];omega
theorem vm(v:Ce)(m:Int)(hm:0<=m/\m<=140737488355328)(w:World):ah 157 #[dY v,m] w λe w'=>e=Value.bool (within v m)/\Ext w w':=by
 apply Jk.vc;intro w0 e0;have x0:=aL e0;have z0:=zA e0;have hw:aj (0-m)= -m:=by rw [wI];omega
 refine ⟨λn x wr=>∃k:Nat,x=k/\k+n=3/\Ext w0 wr/\∀j,j<k-> -m<=db v (j:Nat)/\db v (j:Nat)<=m,⟨3,rfl,0,rfl,rfl,Ext.cE _,λj hj=>by omega⟩,?_⟩;rintro n us x w5 ⟨k,rfl,hk,x5,qA⟩;have z5:=x5.size;apply Br.mk<;>intro hq
 ·have hq:(k:Int)<3:=by simpa using hq
  refine (Qf v k w5).mono ?_;rintro e w7 ⟨rfl,x7⟩;have bad:¬(-m<=db v (k:Nat)/\db v (k:Nat)<=m)->within v m=false:=λh=>by rw [EA];refine List.all_eq_false.2 ⟨k,List.mem_range.2 ab,?_⟩;simp only [fm,cQ];exact h
  refine ⟨_,rfl,x7.heap ab,?_⟩;rw [hw];refine Br.mk (λh=> ?_) (λh=>Br.mk (λh2=> ?_) (λh2=> ?_))
  ·rw [bad (by
    have h:db v (k:Nat)< -m:=by simpa using h
    omega)]
   exact ⟨rfl,x0.tr (x5.tr x7)⟩
  ·rw [bad (by
    have h2:db v (k:Nat)>m:=by simpa using h2
    omega)]
   exact ⟨rfl,x0.tr (x5.tr x7)⟩
  ·have h:¬db v (k:Nat)< -m:=by simpa using h
   have h2:¬db v (k:Nat)>m:=by simpa using h2
   refine ⟨n-1,by omega,rfl,k+1,by rw [wI];omega,by omega,x5.tr x7,λj hj=> ?_⟩;by_cases q:j<k
   ·exact qA j q
   ·rw [show j=k from by omega];omega
 ·have hq:¬(k:Int)<3:=by simpa using hq
  have:within v m=true:=by
   rw [EA];refine List.all_eq_true.2 λj hj=> ?_
   have:=qA j (by have:=List.mem_range.1 hj;omega);simp only [fm,cQ];exact this
  rw [this];exact ⟨rfl,x0.tr x5⟩
theorem TA(b:ef)(w:World):ah 106 #[BV b] w λe w'=>e=Value.bool b.may/\Ext w w':=by
 apply UY.vc;intro w0 e0;have x0:=aL e0;have z0:=zA e0;refine (vm b.aI _ aF w0).mono ?_;rintro e w1 ⟨rfl,x1⟩;have z1:=x1.size;refine ⟨_,rfl,x1.heap ab,(vm b.speed _ aF w1).mono ?_⟩;rintro e w3 ⟨rfl,x3⟩;have AK:=x0.tr (x1.tr x3);refine ⟨_,rfl,x3.heap ab,?_⟩;unfold ef.may;generalize within b.aI 70368744177664=p;generalize within b.speed 262144=q;refine Br.mk (λh1=>Br.mk (λh2=>Br.mk (λh3=>Br.mk (λh4=>Br.mk (λh5=> ?_) (λh5=> ?_)) (λh4=> ?_)) (λh3=> ?_)) (λh2=> ?_)) (λh1=> ?_)
 ·have h3:b.wd>=2:=by simpa using h3
  have h4:b.wd<=131072:=by simpa using h4
  have h5:b.ht>=1:=by simpa using h5
  rw [h1,h2,decide_eq_true (show 2<=b.wd from h3),decide_eq_true h4,decide_eq_true (show 1<=b.ht from h5)];exact ⟨by simp,AK⟩
 ·have h5:¬b.ht>=1:=by simpa using h5
  rw [decide_eq_false (show ¬1<=b.ht from h5)];exact ⟨by simp,AK⟩
 ·have h4:¬b.wd<=131072:=by simpa using h4
  rw [decide_eq_false h4];exact ⟨by simp,AK⟩
 ·have h3:¬b.wd>=2:=by simpa using h3
  rw [decide_eq_false (show ¬2<=b.wd from h3)];exact ⟨by simp,AK⟩
 ·rw [h2];exact ⟨by simp,AK⟩
 ·rw [h1];exact ⟨by simp,AK⟩
section
variable {F F':Nat->Prop} {w w':World} {m s o t:Nat} {M M':Sm} {occ:Value} {rows:List im}
theorem kA.c5{k:Nat}{w0:World}(x:Ext w w0)(hk:w.heap.size<=k)(hk0:k<w0)(h0:∀i,F i->i<w.heap.size){M':Sm}{occ':Value}{r':List im}(r:kA F w0 m s o t M' occ' r' w'):w'.heap[k]? =w0.heap[k]? :=by obtain ⟨F',-,h2⟩:=r;exact h2.mod.same _ hk0 λq=>by have:=h0 _ q;omega
theorem vy(h:MF F w m s o t M occ rows){n:Int}(hL:sC n (rows.map ai))(c:Ce)(hc:eO c)(b:Int)(hk:qH M 800000):ah 60 #[m,dY c,b] w λe w'=>e=Value.int .i64 (eR M (rows.map ai) c b).1/\kA F w m s o t (eR M (rows.map ai) c b).2 occ rows w':=by
 apply zH.vc;intro w0 e0;have x0:=aL e0;have z0:=zA e0;have inner:∀{u:World},Ext w0 u->¬(aE b=true/\qi (rows.map ai) c=true)->∃p:Option Addr,Vc.ld u (af (some ⟨m,0,none⟩) 1)=some (.pointer p)/\
   ah 113 #[p,dY c,b] u λe w6=>∃x7:Int,e=x7/\w6.heap[w.heap.size]? =u.heap[w.heap.size]?/\Ending.returned x7=Value.int .i64 (eR M (rows.map ai) c b).1/\kA F w m s o t (eR M (rows.map ai) c b).2 occ rows w6:=by
  intro u xu hn;have hu:=h.ext (x0.tr xu);have zu:=xu.size;obtain ⟨Fs,hs,jq,-,eL,bw⟩:=hu.vb;refine ⟨_,jq,(wo hs c hc b hk).mono ?_⟩;rintro e w6 ⟨rfl,hr⟩;have hk6:w6.heap[w.heap.size]? =u.heap[w.heap.size]? :=by obtain ⟨F6,-,t6⟩:=hr;exact t6.mod.same _ ab λq=>by have:=h.lt (eL _ q);omega
  unfold eR;rw [if_neg hn];exact ⟨_,rfl,hk6,rfl,kA.aD (x0.tr xu) (bw hr)⟩
 refine (Ay b w0).mono ?_;rintro e w1 ⟨rfl,Ru⟩;subst Ru;refine ⟨_,rfl,rfl,Br.mk (λhb=> ?_) (λhb=>inner (Ext.dr _) λq=>by rw [hb] at q;cases q.1)⟩;obtain ⟨b',hm,hr,hn,-⟩:=(h.ext x0).Ik;refine (LY hm hr hn hL c).mono ?_;rintro e w3 ⟨rfl,x3⟩;have z3:=x3.size;refine ⟨_,rfl,x3.heap ab,Br.mk (λhq=> ?_) (λhq=> ?_)⟩
 ·unfold eR;rw [if_pos ⟨hb,hq⟩];exact ⟨rfl,h.res (x0.tr x3)⟩
 ·exact inner (x3.tr (Ext.dr _)) λq=>by rw [hq] at q;cases q.2
theorem lF{n:Int}{k:Nat}(e:n=k){r:im}(h:rows[k]? =some r):cc (rows.map ai) n=ai r:=by subst e;unfold cc;rw [if_pos ab,ej,aU,h];rfl
end
section
variable {F F':Nat->Prop} {w w':World} {m s o t:Nat} {M M':Sm} {occ:Value} {rows:List im}
theorem MM(hn:rows.length=16){n:Int}(h:¬(0<=n/\n<16)):cc (rows.map ai) n=none:=qv (by rw [aN];exact hn) h
set_option maxHeartbeats 4000000 in
theorem vz(h:MF F w m s o t M occ rows){n:Int}(hL:sC n (rows.map ai))(hn:n<=99970000000000)(i:Int)(cK:Ce):
  ah 63 #[m,i,dY cK] w λe w'=>e=Value.tuple #[Sa (bW M (rows.map ai) i cK).1,.int .i64 (bW M (rows.map ai) i cK).2]/\Ext w w':=by
 apply zI.vc;intro w0 e0 w1 e1;have x0:=aL e0;have z0:=zA e0;have r0:∃τ,Row w0 w (dA cK) τ:=⟨_,by rw [e0];exact Row.new w [_,_,_] _⟩;have x1:=aL e1;have z1:=zA e1;obtain ⟨τ,r0⟩:=r0;have r1:=r0.ext x1;have jT:=x0.tr x1;obtain ⟨b,hm,hr,yK,-⟩:=h.Ik;have ldm:∀{u:World},Ext w u->Vc.ld u (af (some ⟨m,0,none⟩) 2)=some (.slice (some ⟨b,0,none⟩) 16 16):=λxu=>(hm.ext xu).at 2 rfl
 have rk:∀{u:World},Ext w u->RdK u ⟨some ⟨b,0,none⟩,16,16⟩ 13 (rows.map jL):=λxu=>sU (hr.ext xu) yK
 have none6:cc (rows.map ai) i=none->∀w4:World,w4=w1.setRow w0 #[aa,aa,aa,aa,aa,aa]->Ending.returned (.tuple #[.agg #[aa,aa,aa,aa,aa,aa],(6:Int)])=Value.tuple #[Sa (bW M (rows.map ai) i cK).1,.int .i64 (bW M (rows.map ai) i cK).2]/\Ext w w4:=λhq w4 e4=>by refine ⟨?_,jT.ae e4 ab⟩;unfold bW;rw [hq];rfl
 refine Br.mk (λh1=> ?_) (λh1=>Br.mk (λh2=> ?_) (λh2=> ?_))
 ·have h1:i<0:=by simpa using h1
  exact none6 (MM yK ab)
 ·have h2:i>15:=by simpa using h2
  exact none6 (MM yK ab)
 have h1:¬i<0:=by simpa using h1
 have h2:¬i>15:=by simpa using h2
 have ei:(if 0>(if 15<i then 15 else i) then 0 else (if 15<i then 15 else i))=i:=by rw [if_neg (show ¬15<i from by omega),if_neg ab]
 rw [ei];obtain ⟨k,rfl⟩:∃k:Nat,i=k:=⟨i.toNat,by omega⟩;obtain ⟨r,Ka⟩:=bI (l:=rows) (i:=k) ab;have hi:(rows.map jL)[k]? =some (jL r):=by rw [aU,Ka];rfl
 have zc:=lF (rows:=rows) (n:=k) rfl Ka;have inb:∀{u:World},Ext w u->eo (some ⟨b,0,none⟩) (k:Int) 16:=λxu=>(rk xu).g9 (i:=(k:Int)) aF ab (by show (k:Int)<((16:Nat):Int);omega)
 refine ⟨⟨some ⟨b,0,none⟩,16,16⟩,ldm jT,inb jT,fU rfl ⟨r.1,(rk jT).at hi (Xc r),Br.mk (λhb=> ?_) (λhb=> ?_)⟩⟩
 ·refine none6 ?_;rw [zc];unfold ai;rw [if_neg (by simpa using hb)]
 have hb:r.1=true:=by simpa using hb
 have MZ:ai r=some r.2:=by unfold ai;rw [if_pos hb]
 rw [MZ] at zc;have oky:=hL r.2 (pR zc);have xd:=Ext.dr w1;have hd:=lG w1;have eyn:=yn oky hn;have hhb: -1000000000<=r.2.1.ht/\r.2.1.ht<=1000000000:=by have:=oky.2.2.1;omega
 have hh0:0<=r.2.1.ht:=oky.2.2.1.1;have pQ:bW M (rows.map ai) k cK=if (hZ (gy M.T.2) (ij r.2.1) cK 5).2=false then (QP,13) else if (hZ (gy M.T.2) (ij r.2.1) cK 5).1.2.1= -1 then (QP,11) else ((hZ (gy M.T.2) (ij r.2.1) cK 5).1,0):=by unfold bW;rw [zc]
 have castS:∀{u:World},Ext w1.drew u->ah 87 #[.func (.func 83) #[t] #[],dY (ij r.2.1),dY cK,(5:Int)] u λe w'=>e=Value.tuple #[Sa (hZ (gy M.T.2) (ij r.2.1) cK 5).1,.bool (hZ (gy M.T.2) (ij r.2.1) cK 5).2]/\Ext u w':=λ{u} xu=>
  H8 (h.ext (jT.tr (xd.tr xu))).tl rfl (ij r.2.1) cK 5 ⟨by omega,by omega,by omega⟩ (ML (by rw [X5];decide) eyn)
 generalize hZ (gy M.T.2) (ij r.2.1) cK 5=ck at pQ castS;obtain ⟨⟨⟨cx,cy,cz⟩,cb,cf,ct⟩,cq⟩:=ck;have fin:∀{u:World},Ext w1.drew u->Br (!cq)
   (∀fu:World,fu=u.setRow w0 #[aa,aa,aa,aa,aa,aa]->Ending.returned (.tuple #[.agg #[aa,aa,aa,aa,aa,aa],(13:Int)])=Value.tuple #[Sa (bW M (rows.map ai) k cK).1,.int .i64 (bW M (rows.map ai) k cK).2]/\Ext w fu)
   (Br (cb==(-1))
    (∀fu:World,fu=u.setRow w0 #[aa,aa,aa,aa,aa,aa]->Ending.returned (.tuple #[.agg #[aa,aa,aa,aa,aa,aa],(11:Int)])=Value.tuple #[Sa (bW M (rows.map ai) k cK).1,.int .i64 (bW M (rows.map ai) k cK).2]/\Ext w fu)
    (∀fu:World,fu=u.setRow w0 #[cx,cy,cz,cb,cf,ct]->Ending.returned (.tuple #[.agg #[cx,cy,cz,cb,cf,ct],(0:Int)])=Value.tuple #[Sa (bW M (rows.map ai) k cK).1,.int .i64 (bW M (rows.map ai) k cK).2]/\Ext w fu)):=by
  intro u xu;have xx:=jT.tr (xd.tr xu);rw [pQ];refine Br.mk (λhb=>λfu J9=>⟨?_,xx.ae J9 ab⟩) (λhb=>Br.mk (λjC=>λfu J9=>⟨?_,xx.ae J9 ab⟩) (λjC=>λfu J9=>⟨?_,xx.ae J9 ab⟩))
  ·have hb:cq=false:=by simpa using hb
   rw [if_pos hb];rfl
  ·have hb:cq=true:=by simpa using hb
   have jC:cb= -1:=by simpa using jC
   rw [if_neg (by simp [hb]),if_pos jC];rfl
  ·have hb:cq=true:=by simpa using hb
   have jC:¬cb= -1:=by simpa using jC
   rw [if_neg (by simp [hb]),if_neg jC]
 have wayL:∀{u:World},Ext w1.drew u->ag u (some ⟨w.heap.size,0,none⟩) 0 (dA cK):=λxu=>Lo.wv (r1.ext (xd.tr xu))
 have bdyL:∀{u:World},Ext w1.drew u->ag u (af (af (some ⟨b,0,none⟩) ((k:Int).toNat*13)) 1) 0 (jo r.2.1):=λxu=>kT (rk (jT.tr (xd.tr xu))) hi (mlB r)
 have sliL:∀{u:World},Ext w1.drew u->ag u (af (some ⟨m,0,none⟩) 2) 0 [.slice (some ⟨b,0,none⟩) 16 16]:=λxu=>TY (ldm (jT.tr (xd.tr xu)))
 have viewS:∀{u:World},Ext w1.drew u->Vc.ld u (af (some ⟨m,0,none⟩) 0)=some (.pointer (some ⟨o,0,none⟩))/\ah 27 #[o] u λe w'=>e=Value.func (.func 83) #[t] #[]/\w'=u:=λxu=>by obtain ⟨Fs,hs,-,jq,-⟩:=(h.ext (jT.tr (xd.tr xu))).vb;obtain ⟨Fw,hW,-,-⟩:=hs.world;exact ⟨jq,fl hW⟩
 refine ⟨_,(viewS (Ext.cE _)).1,⟨some ⟨b,0,none⟩,16,16⟩,ldm (jT.tr xd),inb (jT.tr xd),fU rfl ⟨_,_,_,_,_,_,_,_,_,bdyL (Ext.cE _),?_,λkx e67=> ?_⟩⟩
 ·refine (viewS (Ext.cE _)).2.mono ?_;rintro e dG ⟨rfl,abj⟩;subst abj;refine ⟨_,rfl,rfl,rfl,wayL (Ext.cE _),bdyL (Ext.cE _),sliL (Ext.cE _),?_,λmi e50=> ?_⟩
  ·refine (um r.2.1 hhb hh0 w1.drew).mono ?_;rintro e fx ⟨rfl,cW⟩;have z20:=cW.size;refine ⟨_,_,_,rfl,cW.heap ab,cW.heap ab,wayL cW,sliL cW,?_,λie WW=> ?_⟩
   ·refine (castS cW).mono ?_;rintro e fZ ⟨rfl,eE⟩;have z24:=eE.size;refine ⟨_,_,_,_,_,_,_,rfl,eE.heap ab,eE.heap ab,sliL (cW.tr eE),λlv Rj eM M5=> ?_⟩;exact fin ((cW.tr eE).tr ((aL Rj).ae M5 (aB _)))
   ·have fB:=aL WW;have z37:=zA WW;refine (castS (cW.tr fB)).mono ?_;rintro e lf ⟨rfl,gA⟩;have z38:=gA.size;refine ⟨_,_,_,_,_,_,_,rfl,gA.heap ab,gA.heap ab,gA.heap ab,sliL ((cW.tr fB).tr gA),λqC e46=> ?_⟩;exact fin (((cW.tr fB).tr gA).ae e46 ab)
  ·have tX:=aL e50;have z50:=zA e50;refine (um r.2.1 hhb hh0 mi).mono ?_;rintro e zf ⟨rfl,mH⟩;have z51:=mH.size;refine ⟨_,_,_,rfl,mH.heap ab,mH.heap ab,mH.heap ab,wayL (tX.tr mH),sliL (tX.tr mH),(castS (tX.tr mH)).mono ?_⟩;rintro e yQ ⟨rfl,kC⟩;have z55:=kC.size;refine ⟨_,_,_,_,_,_,_,rfl,kC.heap ab,kC.heap ab,kC.heap ab,sliL ((tX.tr mH).tr kC),λxe e63=> ?_⟩;exact fin (((tX.tr mH).tr kC).ae e63 ab)
 ·have mP:=aL e67;have z67:=zA e67;refine (viewS mP).2.mono ?_;rintro e sJ ⟨rfl,asQ⟩;subst asQ;refine ⟨_,rfl,rfl,rfl,rfl,wayL mP,bdyL mP,sliL mP,(um r.2.1 hhb hh0 sJ).mono ?_⟩;rintro e np ⟨rfl,nG⟩;have z70:=nG.size;refine ⟨_,_,_,rfl,nG.heap ab,nG.heap ab,nG.heap ab,wayL (mP.tr nG),sliL (mP.tr nG),(castS (mP.tr nG)).mono ?_⟩;rintro e lD ⟨rfl,uX⟩;have z74:=uX.size;refine ⟨_,_,_,_,_,_,_,rfl,uX.heap ab,uX.heap ab,uX.heap ab,sliL ((mP.tr nG).tr uX),λw82 e82=> ?_⟩;exact fin (((mP.tr nG).tr uX).ae e82 ab)
end
section
variable {F F':Nat->Prop} {w w':World} {m s o t:Nat} {M M':Sm} {occ:Value} {rows:List im}
theorem ajx(c:Ce){k:Nat}(hk:k<6):∃d:Ce,(pN c).getD k (0,0,0)=d/\∀{w:World} {g:Nat} {τ:TypeId},Row w g (B2 c) τ->ag w (af (some ⟨g,0,none⟩) ((k:Int).toNat*3)) 0 (dA d):=by
 refine ⟨_,rfl,λ{w g τ} hr=> ?_⟩;rw [bf,ep,ej];refine hr.bZ λj hj=> ?_
 have hj:j<3:=hj;have h1:j=0\/j=1\/j=2:=by omega
 have h2:k=0\/k=1\/k=2\/k=3\/k=4\/k=5:=by omega
 rcases h2 with rfl|rfl|rfl|rfl|rfl|rfl<;>rcases h1 with rfl|rfl|rfl<;>rfl
set_option maxHeartbeats 2000000 in
theorem Ko(h:MF F w m s o t M occ rows){n:Int}(hL:sC n (rows.map ai))(hn:n<=99970000000000)(i:Int)(cK:Ce)(b:Int)(hk:qH M 800000):
  ah 57 #[m,.int .i64 i,dY cK,b] w λe w'=>e=Value.int .i64 (nI M (rows.map ai) i cK b).1/\kA F w m s o t (nI M (rows.map ai) i cK b).2 occ rows w':=by
 apply xG.vc;intro w0 e0;have x0:=aL e0;have z0:=zA e0;refine (vz (h.ext x0) hL hn i cK).mono ?_;rintro e w1 ⟨rfl,x1⟩;have z1:=x1.size;refine ⟨_,_,_,_,_,_,_,rfl,x1.heap ab,λw9 e9 bO vw=> ?_⟩;have bh:Ext w1 bO:=(aL e9).ae vw (aB _);have QX:bO.heap.size=w1.heap.size+1:=by rw [zR vw,zA e9]
 have oy:=x0.tr (x1.tr bh);unfold nI;refine Br.mk (λh6=> ?_) (λh6=>(D3 b bO).mono ?_)
 ·rw [if_pos (by simpa using h6)];have h6:(bW M (rows.map ai) i cK).2=6:=by simpa using h6
  rw [h6];exact ⟨rfl,h.res oy⟩
 rw [if_neg (by simpa using h6)];rintro e aY ⟨rfl,Ro⟩;subst Ro;refine ⟨_,rfl,rfl,rfl,Br.mk (λhb=> ?_) (λhb=>Br.mk (λS7=> ?_) (λS7=>Br.mk (λJX=> ?_) (λJX=> ?_)))⟩
 ·rw [if_pos (by simpa using hb)];exact ⟨rfl,h.res oy⟩
 ·rw [if_neg (by simpa using hb),if_pos (by simpa using S7)];exact ⟨rfl,h.res oy⟩
 ·rw [if_neg (by simpa using hb),if_neg (by simpa using S7),if_pos (by simpa using JX)];exact ⟨rfl,h.res oy⟩
 rw [if_neg (by simpa using hb),if_neg (by simpa using S7),if_neg (by simpa using JX)];have JX:(bW M (rows.map ai) i cK).2=0:=by simpa using JX
 obtain ⟨Ki,SY⟩:=ql hL hn JX;obtain ⟨y,-,-,hcast,-⟩:=D4 JX;have hface:=(D5 (by rw [X5];decide) hcast).2.2.2.2;generalize (bW M (rows.map ai) i cK).1=ht at Ki SY hface ⊢;obtain ⟨c,bb,f,tt⟩:=ht;simp only at hface Ki SY;apply Br.mk<;>intro hf
 ·have hf:f<0:=by simpa using hf
  have ahR:(B3 (c,bb,f,tt)).2=false:=by unfold B3;rw [if_neg (by simp only;omega)]
  rw [if_pos ahR];exact ⟨rfl,h.res oy⟩
 have hf:¬f<0:=by simpa using hf
 have hf6:0<=f/\f<6:=by omega
 obtain ⟨k,rfl⟩:∃k:Nat,f=k:=⟨f.toNat,by omega⟩;obtain ⟨d,hd,jq⟩:=ajx c (k:=k) ab;have ahR:B3 (c,bb,((k:Nat):Int),tt)=(d,true):=by unfold B3;rw [if_pos hf6,<-hd];rfl
 rw [ahR] at SY ⊢;rw [if_neg bB];refine (PO c (Ki.wide aF) aY).mono ?_;rintro e bJ ⟨rfl,cm⟩;have z13:=cm.size;refine ⟨_,_,_,_,_,_,_,_,_,_,_,_,_,_,_,_,_,_,rfl,cm.heap ab,cm.heap ab,λlv Rj=> ?_⟩;have ig:=aL Rj;have z32:=zA Rj;have r32:∃cs τ,Row lv bJ cs τ/\cs.length=18/\aR cs 0 (B2 c)=B2 c:=⟨[_,_,_,_,_,_,_,_,_,_,_,_,_,_,_,_,_,_],_,by rw [Rj];exact Row.new bJ [_,_,_,_,_,_,_,_,_,_,_,_,_,_,_,_,_,_] _,rfl,rfl⟩;obtain ⟨cs,τ,r32,hcl,hpc⟩:=r32;obtain ⟨p1,p2⟩:=lO r32 (off:=0) (vs:=B2 c) (by rw [hcl];show 0+18<=18;decide) (D6 c);refine ⟨⟨rfl,p1⟩,?_,?_,λeM M5=> ?_⟩
 ·intro q;have q:some bJ.heap.size=some w.heap.size:=q;injection q with q;omega
 ·intro q;have q:some bJ.heap.size=some w1.heap.size:=q;injection q with q;omega
 obtain ⟨q1,q2⟩:=p2 eM M5;rw [hpc] at q1;have eF:Ext bJ eM:=q2.ext ig λi hi=>by omega
 have z33:=q2.size;have JY:=oy.tr (cm.tr eF);refine ⟨hf6.1,hf6.2,_,_,_,jq q1,(vy (h.ext JY) hL d (SY.wide aF) b hk).mono ?_⟩;rintro e ie ⟨rfl,r⟩;have hh:∀i,F i->i<w.heap.size:=λi=>h.lt
 exact ⟨_,rfl,kA.c5 JY ab ab hh r,kA.c5 JY ab ab hh r,rfl,kA.aD JY r⟩
set_option maxHeartbeats 1000000 in
theorem Oq(h:MF F w m s o t M occ rows){n:Int}(hL:sC n (rows.map ai))(hn:n<=99970000000000)(i:Int)(cK:Ce)(hk:qH M 800000):
  ah 58 #[m,.int .i64 i,dY cK] w λe w'=>e=Value.tuple #[.int .i64 (fG M (rows.map ai) i cK).1.1,.int .i64 (fG M (rows.map ai) i cK).1.2]/\kA F w m s o t (fG M (rows.map ai) i cK).2 occ rows w':=by
 apply zJ.vc;intro w0 e0;have x0:=aL e0;have z0:=zA e0;refine (vz (h.ext x0) hL hn i cK).mono ?_;rintro e w1 ⟨rfl,x1⟩;have z1:=x1.size;refine ⟨_,_,_,_,_,_,_,rfl,x1.heap ab,λw9 e9 bO vw=> ?_⟩;have bh:Ext w1 bO:=(aL e9).ae vw (aB _);have QX:bO.heap.size=w1.heap.size+1:=by rw [zR vw,zA e9]
 have oy:=x0.tr (x1.tr bh);unfold fG;apply Br.mk<;>intro h0
 ·rw [if_pos (by simpa using h0)];exact ⟨rfl,h.res oy⟩
 have JX:(bW M (rows.map ai) i cK).2=0:=by simpa using h0
 rw [if_neg (by simp [JX])];obtain ⟨Ki,-⟩:=ql hL hn JX;refine (vy (h.ext oy) hL (bW M (rows.map ai) i cK).1.1 (Ki.wide aF) 0 hk).mono ?_;rintro e aY ⟨rfl,r⟩;have hh:∀i,F i->i<w.heap.size:=λi=>h.lt
 refine ⟨_,rfl,kA.c5 oy ab ab hh r,kA.c5 oy ab ab hh r,Br.mk (λhq=> ?_) (λhq=> ?_)⟩
 ·rw [if_pos (by simpa using hq)];exact ⟨rfl,kA.aD oy r⟩
 ·rw [if_neg (by simpa using hq)];exact ⟨rfl,kA.aD oy r⟩
theorem TB(hn:rows.length=16){x:Int}(hx:(x= -1/\∀(i:Nat)(r:im),rows[i]? =some r->r.1=true)\/(∃i:Nat,x=i/\i<16/\(∃r:im,rows[i]? =some r/\r.1=false)/\∀(j:Nat)(r:im),j<i->rows[j]? =some r->r.1=true)):oX (rows.map ai)=x:=by
 rcases hx with ⟨rfl,qA⟩|⟨i,rfl,hi,⟨r,hr,hb⟩,gZ⟩
 ·refine iB λy hy=> ?_
  obtain ⟨r,hr,rfl⟩:=aZ.1 hy;obtain ⟨i,hi⟩:=List.mem_iff_getElem?.1 hr;unfold ai;rw [if_pos (qA i r hi)];rfl
 ·refine nv (x:=ai r) (by rw [aU,hr];rfl) (by unfold ai;rw [hb];rfl) λj hj y hy=> ?_
  rw [aU] at hy;obtain ⟨r',h1,rfl⟩:=Option.map_eq_some_iff.1 hy;unfold ai;rw [if_pos (gZ j r' hj h1)];rfl
theorem Ln{K:Nat}{v:LV}:∀{l:List (LV)} {k:Nat},(∀r ∈ l,r.length=K)->k<l.length->v.length=K->aR l.flatten (k*K) v=(l.set k v).flatten
 | [],k,_,hk,_=>absurd hk bB
 |a::l,0,hl,_,hv=>by
  have ha:=hl a bB
  have h0:=dj v (a++l.flatten) 0 (by rw [dm];omega)
  rw [kf,List.set_cons_zero,kf,Nat.zero_mul,h0,ep,hv,<-ha,List.drop_left]
  rfl
 |a::l,k+1,hl,hk,hv=>by
  have ha:=hl a bB
  rw [kf,List.set_cons_succ,kf,show (k+1)*K=a.length+k*K from by rw [ha,Nat.add_mul,Nat.one_mul,Nat.add_comm],kg,Ln (λr hr=>hl r (by simp [hr])) (by simpa using hk) hv]
theorem Xd(hn:rows.length=16){b:Nat}{w:World}(hr:Row w b (rows.map jL).flatten Bb){k:Nat}(hk:k<16)(r:im):(af (some ⟨b,0,none⟩) ((k:Int).toNat*13)).isSome=true/\Wr w (af (some ⟨b,0,none⟩) ((k:Int).toNat*13)) 13/\
  ∀w',w'=Vc.aH w (af (some ⟨b,0,none⟩) ((k:Int).toNat*13)) (jL r)->Row w' b ((rows.set k r).map jL).flatten Bb/\Mod (λi=>i=b) w w':=by
 have Ff:∀l:List im,(l.map jL).flatten.length=l.length*13:=λl=>by
  have:=bK (k:=13) (rows:=l.map jL) λr hr=>by obtain ⟨x,-,rfl⟩:=aZ.1 hr;rfl
  rw [this,aN]
 rw [ej];obtain ⟨p1,p2⟩:=lO hr (off:=k*13) (vs:=jL r) (by rw [Ff,hn];show _+13<=_;omega) (af7 r);refine ⟨rfl,p1,λw' e=> ?_⟩;obtain ⟨q1,q2⟩:=p2 w' e;refine ⟨?_,q2⟩;have:aR (rows.map jL).flatten (k*13) (jL r)=((rows.set k r).map jL).flatten:=by rw [List.map_set];exact Ln (λr hr=>by obtain ⟨x,-,rfl⟩:=aZ.1 hr;rfl) (by rw [aN];omega) rfl
 rw [<-this];exact q1
end
end Go.Proofs.YtkkkfkopcfdmaaaGreatDoor
