import Derived.Test.YtkkkfkopcfdmaaaGreatDoorJ
import Derived.Test.YtkkkfkopcfdmaaaGreatDoorH
set_option linter.all false
namespace Go.Proofs.YtkkkfkopcfdmaaaGreatDoor
open Go Go.Vc Go.RowKit Go.Proofs Go.dK Go.bf Go.Code Go.gw Go.fV Go.ku
set_option maxRecDepth 100000
def BO (h:Qg):Ce × Bool:=if 0<=h.2.2.1/\h.2.2.1<6 then ((pw h.1).getD h.2.2.1.toNat (0,0,0),true) else ((0,0,0),false)
theorem MC (h:Qg) (hc:eQ h.1) (w:World):ah 109 #[U6 h] w λe w'=>e=Value.tuple #[ea (BO h).1,.bool (BO h).2]/\Ext w w':=by
 obtain ⟨c,b,f,t⟩:=h;apply PF.vc;intro w0 e0 w1 e1;have x0:=aL e0;have z0:=zA e0;have r0:∃τ,Row w0 w [c.1,c.2.1,c.2.2,b,f,t] τ:=⟨_,by rw [e0];exact Row.new w [_,_,_,_,_,_] _⟩;have x1:=aL e1;have z1:=zA e1;have jC:=x0.tr x1;have hd:=lv w1;obtain ⟨τ,r0⟩:=r0;unfold BO;simp only;refine Br.mk (λh=>λw2 e2=> ?_) (λh=>Br.mk (λh2=>λw3 e3=> ?_) (λh2=>(iO c hc w1.drew).mono ?_))
 ·have h:f<0:=by simpa using h
  rw [if_neg aa];exact ⟨rfl,jC.af e2 aa⟩
 ·have h2:f>=6:=by simpa using h2
  rw [if_neg aa];exact ⟨rfl,jC.af e3 aa⟩
 ·have h:¬f<0:=by simpa using h
  have h2:¬f>=6:=by simpa using h2
  obtain ⟨k,rfl⟩:∃k:Nat,f=k:=⟨f.toNat,by omega⟩;rw [if_pos aa,eJ];rintro e w4 ⟨rfl,x4⟩;have z4:=x4.size;refine ⟨_,_,_,_,_,_,_,_,_,_,_,_,_,_,_,_,_,_,rfl,x4.heap aa,x4.heap aa,mC (r0.ext (x1.tr ((Ext.dr w1).tr x4))) rfl,⟨by omega,by omega⟩,((pw c).getD k (0,0,0)).1,((pw c).getD k (0,0,0)).2.1,((pw c).getD k (0,0,0)).2.2,?_,λeG yU=>⟨rfl,(jC.tr ((Ext.dr w1).tr x4)).af yU aa⟩⟩;have:k=0\/k=1\/k=2\/k=3\/k=4\/k=5:=by omega
  rcases this with rfl|rfl|rfl|rfl|rfl|rfl<;>rfl
def jP (b:ep):Ce:=jW b.aH (0,Int.tdiv (b.ht*4) 5,0)
theorem ED (b:ep) (hh: -1000000000<=b.ht/\b.ht<=1000000000) (w:World):ah 88 #[BG b] w λe w'=>e=(ea (jP b))/\Ext w w':=by
 apply Gb.vc;intro w0 e0 w1 e1;have x0:=aL e0;have z0:=zA e0;have x1:=aL e1;have z1:=zA e1;have e4:aj (Int.tdiv (aj (b.ht*4)) 5)=Int.tdiv (b.ht*4) 5:=by
  have h5: -4000000000<=Int.tdiv (b.ht*4) 5/\Int.tdiv (b.ht*4) 5<=4000000000:=by
   rcases Int.le_total 0 (b.ht*4) with h|h
   ·rw [pK h];omega
   ·have e:b.ht*4= -(-(b.ht*4)):=by omega
    rw [e,Int.neg_tdiv,pK aa];omega
  rw [aK (n:=b.ht*4) (by unfold bS;omega),wI]
 rw [e4];refine (iS b.aH (0,Int.tdiv (b.ht*4) 5,0) w1).mono ?_;rintro e w2 ⟨rfl,x2⟩;have z2:=x2.size;exact ⟨_,_,_,rfl,x2.heap aa,x2.heap aa,λw6 e6=>⟨rfl,(x0.tr (x1.tr x2)).af e6 aa⟩⟩
def uZ (c:Ce):Bx:=((px c.1,px c.2.1,px c.2.2),jW (px c.1,px c.2.1,px c.2.2) (65536,65536,65536))
theorem TE (c:Ce) (w:World):ah 121 #[ea c] w λe w'=>e=(qG (uZ c))/\Ext w w':=by
 apply X1.vc;intro w0 e0 w1 e1;have x0:=aL e0;have z0:=zA e0;have r0:∃τ,Row w0 w [c.1,c.2.1,c.2.2] τ:=⟨_,by rw [e0];exact Row.new w [_,_,_] _⟩;have x1:=aL e1;have z1:=zA e1;have hd:=lv w1;obtain ⟨τ,r0⟩:=r0;have r1:=r0.ext (x1.tr (Ext.dr w1));have jC:=x0.tr (x1.tr (Ext.dr w1));have last:∀v1 v2:World,v1=w1.drew.alloc (.cells #[ab,ab,ab] eC)->v2=v1.setRow w1.drew.heap.size #[(px c.1),(px c.2.1),(px c.2.2)]->
   ah 145 #[ea (px c.1,px c.2.1,px c.2.2),ea (65536,65536,65536)] v2.drew λe bD=>∃x y z:Int,e=Value.agg #[x,y,z]/\bD.heap[w.heap.size]? =v2.drew.heap[w.heap.size]?/\bD.heap[w0.heap.size]? =v2.drew.heap[w0.heap.size]?/\bD.heap[w1.drew.heap.size]? =v2.drew.heap[w1.drew.heap.size]?/\
    ag bD (some ⟨w1.drew.heap.size,0,none⟩) 0 [(px c.1),(px c.2.1),(px c.2.2)]/\∀bK:World,bK=bD.setRow w0 #[(px c.1),(px c.2.1),(px c.2.2),x,y,z]->
    Ending.returned (.agg #[(px c.1),(px c.2.1),(px c.2.2),x,y,z])=(qG (uZ c))/\Ext w bK:=by
  intro v1 v2 f1 f2;have y1:Ext w1.drew v2:=(aL f1).af f2 (aB _);have s2:v2.drew.heap.size=w1.heap.size+1:=by show v2.heap.size=_;rw [zR f2,zA f1];rfl
  have rv:Row v2 w1.drew.heap.size [(px c.1),(px c.2.1),(px c.2.2)] eC:=by rw [f2,f1];exact Row.set (Row.new w1.drew [_,_,_] _) [_,_,_]
  refine (iS (px c.1,px c.2.1,px c.2.2) (65536,65536,65536) v2.drew).mono ?_;rintro e bD ⟨rfl,bj⟩;exact ⟨_,_,_,rfl,bj.heap aa,bj.heap aa,bj.heap aa,Lo.wv (rv.ext ((Ext.dr v2).tr bj)),λbK uy=>⟨rfl,(jC.tr (y1.tr ((Ext.dr v2).tr bj))).af uy aa⟩⟩
 have of1:∀(n:Int) {u:World} {R:Ending->World->Prop},R (.returned (.int .i64 (px n))) u->ah 174 #[.int .i64 n] u R:=λn u R h=>(qP n u).mono (by rintro e w' ⟨rfl,rfl⟩;exact h)
 have l2:ag w1.drew (some ⟨w.heap.size,2,none⟩) 0 [c.2.2]:=mC r1 rfl;have l1:ag w1.drew (some ⟨w.heap.size,1,none⟩) 0 [c.2.1]:=mC r1 rfl;refine ⟨of1 _ ⟨_,rfl,rfl,rfl,l2,l1,of1 _ ⟨_,rfl,rfl,rfl,l2,of1 _ ⟨_,rfl,rfl,rfl,λw8 e8 w9 e9=>last _ _ e8 e9,λw8 e8 w9 e9=>last _ _ e8 e9⟩,λcL wN=> ?_⟩,λfj e31=> ?_⟩,λjI ZJ=> ?_⟩
 ·exact of1 _ ⟨_,rfl,rfl,rfl,rfl,λcP wB=>last _ _ wN wB⟩
 ·have xa:=aL e31;exact of1 _ ⟨_,rfl,rfl,rfl,rfl,mC (r1.ext xa) rfl,of1 _ ⟨_,rfl,rfl,rfl,rfl,λjl ZM=>last _ _ e31 ZM⟩⟩
 ·have xa:=aL ZJ;exact of1 _ ⟨_,rfl,rfl,rfl,rfl,mC (r1.ext xa) rfl,mC (r1.ext xa) rfl,of1 _ ⟨_,rfl,rfl,rfl,rfl,mC (r1.ext xa) rfl,of1 _ ⟨_,rfl,rfl,rfl,rfl,λkv e49=>last _ _ ZJ e49⟩⟩⟩
def Du (c:Ce) (x:Option ez):Bool:=match x with|some y=>jA y.1.box (uZ c)|none=>false
def pQ (L:List (Option ez)) (c:Ce):Bool:=L.any (Du c)
set_option maxHeartbeats 1000000 in
theorem Pf {w:World} {a:Option Nat} {x:Option ez} (ha:∀b,a=some b->∃y,x=some y/\Row w b (JY y) kT/\bS y.1.wd) (hn:a=none->x=none) {c:Ce} {g:Nat} {τ:TypeId} (hg:Row w g (fQ (uZ c)) τ):
  ah 123 #[pA a,g] w λe w'=>e=Value.bool (Du c x)/\Ext w w':=by
 cases a with
 |none=>
  rw [hn rfl];apply sG.vc;exact eI rfl ⟨rfl,Ext.dr w⟩
 |some b=>
  obtain ⟨y,rfl,hr,hw⟩:=ha b rfl;apply (tA.vc (a0:=⟨b,0,none⟩));refine ⟨_,_,_,_,_,_,_,_,_,(hr.ext (Ext.dr w)).bY (vs:=jo y.1) (o:=0) (λj hj=> ?_),_,_,_,_,_,_,Lo.wv (hg.ext (Ext.dr w)),(cO y.1 hw w.drew).mono ?_⟩
  ·have hj:j<9:=hj;have:j=0\/j=1\/j=2\/j=3\/j=4\/j=5\/j=6\/j=7\/j=8:=by omega
   rcases this with rfl|rfl|rfl|rfl|rfl|rfl|rfl|rfl|rfl<;>rfl
  rintro e dY ⟨rfl,cm⟩;refine ⟨_,_,_,_,_,_,rfl,Lo.wv (hg.ext ((Ext.dr w).tr cm)),(yn y.1.box (uZ c) dY).mono ?_⟩;rintro e cL ⟨rfl,dI⟩;exact ⟨_,rfl,rfl,(Ext.dr w).tr (cm.tr dI)⟩
def rL (m:Int) (L:List (Option ez)):Prop:=∀y,some y ∈ L->okB m y.1
theorem rL.up {m n:Int} {L:List (Option ez)} (h:rL m L) (hn:m<=n):rL n L:=λy hy=>(h y hy).up hn
section
variable {F F':Nat->Prop} {w w':World} {g s o t:Nat} {M M':Sm} {occ:Value} {L:List (Option ez)}
theorem EL.held {av:List (Option Nat)} (he:EL w av L) {m:Int} (hL:rL m L) {k:Nat} {a:Option Nat} (ha:av[k]? =some a):
  ∃x,L[k]? =some x/\(∀b,a=some b->∃y,x=some y/\Row w b (JY y) kT/\bS y.1.wd)/\(a=none->x=none):=by
 cases a with
 |none=>exact ⟨none,he.z k ha,λb hb=>(by cases hb),λ_=>rfl⟩
 |some b=>
  obtain ⟨y,hy,hr⟩:=he.s k b ha;exact ⟨some y,hy,λb' hb=>by cases hb;exact ⟨y,rfl,hr,(hL y (aZ hy)).wdi⟩,λq=>(by cases q)⟩
set_option maxHeartbeats 1000000 in
theorem KT {p:Value} {av:List (Option Nat)} {τ τ':TypeId} (hr:Row w g (p::av.map pA) τ) (he:EL w av L) {m:Int} (hL:rL m L) {c:Ce} {b:Nat} (hb:Row w b (fQ (uZ c)) τ'):
  ah 175 #[.slice (aJ (ae (some ⟨g,0,none⟩) 1) 0 16 1) (16-0) (16-0),.func (.func 123) #[] #[b]] w λe w'=>(∃n:Int,e=Value.int .i64 n/\decide (n>=0)=pQ L c)/\Ext w w':=by
 apply (sy.vc (a0:=⟨aJ (ae (some ⟨g,0,none⟩) 1) 0 16 1,16-0,16-0⟩));rw [eg];refine ⟨λn x wr=>∃k:Nat,x=k/\k+n=16/\Ext w wr/\∀j,j<k->∀y,L[j]? =some y->Du c y=false,⟨16,0,rfl,rfl,Ext.cQ _,λj hj=>by omega⟩,?_⟩;rintro n us x wr ⟨k,rfl,hk,xr,mV⟩;apply Br.mk<;>intro hq
 ·have hq:(k:Int)<((16-0:Nat):Int):=by simpa using hq
  obtain ⟨a,ha⟩:=bH (l:=av) (i:=k) (by have:=he.n;omega);obtain ⟨y,hy,h1,h2⟩:=he.held hL ha;refine ⟨⟨rfl,by omega,hq⟩,_,IF (hr.ext xr) ha,cU (by kernel_rfl) rfl ((Pf (a:=a) (x:=y) (λb' e=> ?_) h2 (hb.ext xr)).mono ?_)⟩
  ·obtain ⟨z,e1,e2,e3⟩:=h1 b' e;exact ⟨z,e1,e2.ext xr,e3⟩
  rintro e w7 ⟨rfl,x7⟩;refine ⟨_,rfl,Br.mk (λhm=>⟨⟨_,rfl,?_⟩,xr.tr x7⟩) (λhm=> ?_)⟩
  ·rw [decide_eq_true (by omega:(k:Int)>=0)];exact (List.any_eq_true.2 ⟨y,aZ hy,hm⟩).symm
  ·have wk:=mh (j:=k);refine ⟨n-1,by omega,k+1,wk,by omega,xr.tr x7,λj hj z hz=> ?_⟩;by_cases q:j<k
   ·exact mV j q z hz
   ·rw [show j=k from by omega,hy] at hz;rw [<-Option.some.inj hz];exact hm
 ·have hq:¬(k:Int)<((16-0:Nat):Int):=by simpa using hq
  refine ⟨⟨_,rfl,?_⟩,xr⟩;rw [decide_eq_false aE];refine (List.any_eq_false.2 λy hy=> ?_).symm;obtain ⟨j,hj⟩:=List.mem_iff_getElem?.1 hy;have:=(cR.1 hj).1;have:=he.m;rw [mV j aa y hj];decide
theorem zI {p:Value} {av:List (Option Nat)} {τ:TypeId} (hr:Row w g (p::av.map pA) τ) (he:EL w av L) {m:Int} (hL:rL m L) (c:Ce):
  ah 66 #[g,ea c] w λe w'=>e=Value.bool (pQ L c)/\Ext w w':=by
 apply vD.vc;intro w0 e0;have x0:=aL e0;have z0:=zA e0;refine (TE c w0).mono ?_;rintro e w1 ⟨rfl,x1⟩;have z1:=x1.size;refine ⟨_,_,_,_,_,_,rfl,x1.heap aa,λw8 e8 w9 e9=> ?_⟩;have x9:Ext w1 w9:=(aL e8).af e9 (aB _);have r9:∃τ',Row w9 w1 (fQ (uZ c)) τ':=⟨_,by rw [e9,e8];exact Row.set (Row.new w1 [_,_,_,_,_,_] _) [_,_,_,_,_,_]⟩;have z9:w9.heap.size=w1.heap.size+1:=by rw [zR e9,zA e8]
 obtain ⟨τ',r9⟩:=r9;have Na:=x0.tr (x1.tr x9);refine Calls.mono (pa.vc (a0:=⟨aJ (ae (some ⟨g,0,none⟩) 1) 0 16 1,16-0,16-0⟩) (R:=λe w'=>e=Value.bool (pQ L c)/\Ext w9 w') ?_) ?_
 ·refine (KT (hr.ext Na) (he.same λa ha=>Na.heap (he.lt ha)) hL r9).mono ?_;rintro e bD ⟨⟨n,rfl,hn⟩,bj⟩;exact ⟨n,rfl,by rw [hn],bj⟩
 ·rintro e bD ⟨rfl,bj⟩;exact ⟨_,rfl,bj.heap aa,rfl,Na.tr bj⟩
end
def KU (a b:Ce) (n:Nat):Prop:=(-(n:Int)<=a.1-b.1/\a.1-b.1<=n)/\(-(n:Int)<=a.2.1-b.2.1/\a.2.1-b.2.1<=n)/\-(n:Int)<=a.2.2-b.2.2/\a.2.2-b.2.2<=n
theorem afB (c:Ce) (i:Nat):KU (XC c i) c 1:=by unfold XC KU;split<;>(simp only;omega)
theorem XD {d c0:Ce} {r:Int}:∀{n:Nat} {s:S3} {h0 h:Hi},h ∈ goK d c0 r n s h0->ln c0 h.1 r=true/\(h.2.1=h0.2.1\/0<=h.2.1/\h.2.1<6)/\KU h.1 h0.1 n
 |0,s,h0,h,hm=>by cases hm
 |n+1,s,h0,h,hm=>by
  unfold goK at hm
  split at hm
  ·rename_i hw
   rcases cH.1 hm with rfl|hm
   ·exact ⟨hw,.inl rfl,by unfold KU;omega⟩
   ·cases hq:iY d s h0 with
    |none=>rw [hq] at hm;cases hm
    |some q=>
     rw [hq] at hm
     obtain ⟨h1,h2,h3⟩:=XD hm
     unfold iY at hq
     split at hq
     ·cases hq
     injection hq with hq
     refine ⟨h1,.inr ?_,?_⟩
     ·rcases h2 with h2|h2
      ·rw [h2,<-hq]
       have:=at3 s
       simp only
       split<;>omega
      ·exact h2
     ·have hn:KU q.2.1 h0.1 1:=by rw [<-hq];exact afB _ _
      unfold KU at hn h3 ⊢;omega
  ·cases hm
def Qz:Qg:=((0,0,0),0,0,0)
def cF (M:Sm) (L:List (Option ez)) (n:Int) (dS:Ce):Qg × Int:=
 match bV L n with
 |none=>(Qz,6)
 |some y=>if (hZ (ig M.T.2) (jP y.1) dS 5).2=false then (Qz,13) else if (hZ (ig M.T.2) (jP y.1) dS 5).1.2.1= -1 then (Qz,11) else ((hZ (ig M.T.2) (jP y.1) dS 5).1,0)
theorem EB {b:ep} {m:Int} (h:okB m b) (hm:m<=99970000000000):(-1600000000<=(bu (eO (jP b))).1/\(bu (eO (jP b))).1<=1600000000)/\(-1600000000<=(bu (eO (jP b))).2.1/\(bu (eO (jP b))).2.1<=1600000000)/\-1600000000<=(bu (eO (jP b))).2.2/\(bu (eO (jP b))).2.2<=1600000000:=by
 obtain ⟨⟨h1,h2,h3⟩,-,h5,-⟩:=h;have ht:0<=Int.tdiv (b.ht*4) 5/\Int.tdiv (b.ht*4) 5<=1000000:=by rw [pK aa];omega
 have e1:(bu (eO (jP b))).1=cW (dP (mP b.aH.1 0)):=rfl;have e2:(bu (eO (jP b))).2.1=cW (dP (mP b.aH.2.1 (Int.tdiv (b.ht*4) 5))):=rfl;have e3:(bu (eO (jP b))).2.2=cW (dP (mP b.aH.2.2 0)):=rfl;rw [e1,e2,e3];unfold cW mP dP;omega
theorem At {a b r:Int} (h:rn a b r=true) (ha: -4000000000<=a/\a<=4000000000) (hb: -4000000000<=b/\b<=4000000000):a-b<=r/\b-a<=r:=by unfold rn at h;simp only [fq,cS] at h;rw [wI,wI] at h;exact h
theorem EC {f d:Ce} {r:Int} (hr:lU r<=5):∀h ∈ k8 (eO f) (ko d) (lU r),(((bu (eO f)).1-h.1.1<=5/\h.1.1-(bu (eO f)).1<=5)/\((bu (eO f)).2.1-h.1.2.1<=5/\h.1.2.1-(bu (eO f)).2.1<=5)/\(bu (eO f)).2.2-h.1.2.2<=5/\h.1.2.2-(bu (eO f)).2.2<=5)/\(h.2.1= -1\/0<=h.2.1/\h.2.1<6):=by
 intro h hh;obtain ⟨h1,h2,h3⟩:=XD hh;replace h3:KU h.1 (bu (eO f)) _:=h3;have hc:=ui (eO f);have hn:((3*(lU r).toNat+2:Nat):Int)<=17:=by omega
 unfold KU at h3;unfold ln at h1;simp only [fq] at h1;have q1:=At h1.1 aa aa;have q2:=At h1.2.1 aa aa;have q3:=At h1.2.2 aa aa;exact ⟨⟨by omega,by omega,by omega⟩,h2⟩
theorem Lj {V:Ce->Int} {f d:Ce} {r:Int} (hr:lU r<=5) {h:Qg} (e:hZ V f d r=(h,true)):
  ((bu (eO f)).1-h.1.1<=5/\h.1.1-(bu (eO f)).1<=5)/\((bu (eO f)).2.1-h.1.2.1<=5/\h.1.2.1-(bu (eO f)).2.1<=5)/\((bu (eO f)).2.2-h.1.2.2<=5/\h.1.2.2-(bu (eO f)).2.2<=5)/\V h.1=h.2.1/\(h.2.2.1= -1\/0<=h.2.2.1/\h.2.2.1<6):=by
 unfold hZ at e;split at e
 ·rename_i x hx;obtain ⟨⟨h1,h2,h3⟩,h4⟩:=EC hr x (List.mem_of_find?_eq_some hx);injection e with e1 e2;subst e1;exact ⟨h1,h2,h3,rfl,h4⟩
 ·injection e with e1 e2
  cases e2
theorem MB {f d:Ce} {r:Int} (hr:lU r<=5) (hf:(-1600000000<=(bu (eO f)).1/\(bu (eO f)).1<=1600000000)/\(-1600000000<=(bu (eO f)).2.1/\(bu (eO f)).2.1<=1600000000)/\-1600000000<=(bu (eO f)).2.2/\(bu (eO f)).2.2<=1600000000):
  ∀h ∈ k8 (eO f) (ko d) (lU r),oM h.1:=by
 intro h hh;obtain ⟨h1,-⟩:=EC hr h hh;unfold oM bS;omega
theorem acb:lU 5=5:=by decide
section
variable {F F':Nat->Prop} {w w':World} {g s o t:Nat} {M M':Sm} {occ:Value} {L:List (Option ez)}
theorem EL.at {av:List (Option Nat)} (he:EL w av L) {k b:Nat} (ha:av[k]? =some (some b)):∃y,bV L k=some y/\some y ∈ L/\Row w b (JY y) kT:=by obtain ⟨y,hy,hr⟩:=he.s k b ha;refine ⟨y,?_,aZ hy,hr⟩;unfold bV;rw [if_pos aa,eJ,hy];rfl
theorem EL.at0 {av:List (Option Nat)} (he:EL w av L) {k:Nat} (ha:av[k]? =some none):bV L k=none:=by unfold bV;rw [if_pos aa,eJ,he.z k ha];rfl
theorem RR {b:Nat} {y:ez} (hr:Row w b (JY y) kT):ag w (ae (some ⟨b,0,none⟩) 0) 0 (jo y.1):=by
 rw [bh];refine hr.bY (o:=0) λj hj=> ?_
 have hj:j<9:=hj;have:j=0\/j=1\/j=2\/j=3\/j=4\/j=5\/j=6\/j=7\/j=8:=by omega
 rcases this with rfl|rfl|rfl|rfl|rfl|rfl|rfl|rfl|rfl<;>rfl
theorem ai7 {b:Nat} {y:ez} (hr:Row w b (JY y) kT):ag w (ae (some ⟨b,0,none⟩) 9) 0 [y.2.1,y.2.2.1,.bool y.2.2.2]:=by
 rw [bh];refine hr.bY (o:=9) λj hj=> ?_
 have hj:j<3:=hj;have:j=0\/j=1\/j=2:=by omega
 rcases this with rfl|rfl|rfl<;>rfl
set_option maxHeartbeats 2000000 in
theorem yX (h:EF F w g s o t M occ L) {m:Int} (hL:rL m L) (hm:m<=99970000000000) (n:Int) (dS:Ce):
  ah 32 #[g,n,ea dS] w λe w'=>e=Value.tuple #[U6 (cF M L n dS).1,.int .i64 (cF M L n dS).2]/\Ext w w':=by
 apply vO.vc;intro w0 e0 w1 e1;have x0:=aL e0;have z0:=zA e0;have r0:∃τ,Row w0 w (du dS) τ:=⟨_,by rw [e0];exact Row.new w [_,_,_] _⟩;have x1:=aL e1;have z1:=zA e1;obtain ⟨τ,r0⟩:=r0;have r1:=r0.ext x1;have jC:=x0.tr x1;have h1:=h.ext jC;obtain ⟨av,cN,iV,-,-,-⟩:=h1.row;refine (Cv cN iV.n n).mono ?_;rintro e w2 ⟨a,rfl,AA,hc⟩;subst AA;refine ⟨_,rfl,rfl,rfl,?_⟩;rcases hc with ⟨k,rfl,hk,ha⟩|⟨iW,rfl⟩
 case inr=>
  refine yes rfl λw4 e4=>⟨?_,jC.af e4 aa⟩
  unfold cF;rw [pZ iV.m iW];rfl
 cases a with
 |none=>
  refine yes rfl λw4 e4=>⟨?_,jC.af e4 aa⟩
  unfold cF;rw [iV.at0 ha];rfl
 |some b=>
  obtain ⟨y,hy,rF,Re⟩:=iV.at ha;have oky:=hL y rF;refine eI rfl (gr rfl (gr rfl ?_));have xd:=Ext.dr w2;have hd:=lv w2;have eyn:=EB oky hm;have hhb: -1000000000<=y.1.ht/\y.1.ht<=1000000000:=by have:=oky.2.2.1;omega
  have qn:cF M L k dS=if (hZ (ig M.T.2) (jP y.1) dS 5).2=false then (Qz,13) else if (hZ (ig M.T.2) (jP y.1) dS 5).1.2.1= -1 then (Qz,11) else ((hZ (ig M.T.2) (jP y.1) dS 5).1,0):=by unfold cF;rw [hy]
  have castS:∀{u:World},Ext w2.drew u->ah 87 #[.func (.func 83) #[t] #[],ea (jP y.1),ea dS,(5:Int)] u λe w'=>e=Value.tuple #[U6 (hZ (ig M.T.2) (jP y.1) dS 5).1,.bool (hZ (ig M.T.2) (jP y.1) dS 5).2]/\Ext u w':=λ{u} xu=>
   HV (h1.ext (xd.tr xu)).tl rfl (jP y.1) dS 5 ⟨by omega,by omega,by omega⟩ (MB (by rw [acb];decide) eyn)
  generalize hZ (ig M.T.2) (jP y.1) dS 5=ck at qn castS;obtain ⟨⟨⟨cx,cy,cz⟩,cb,cf,ct⟩,cq⟩:=ck;have fin:∀{u:World},Ext w2.drew u->Br (!cq)
    (∀eY:World,eY=u.setRow w0 #[ab,ab,ab,ab,ab,ab]->Ending.returned (.tuple #[.agg #[ab,ab,ab,ab,ab,ab],(13:Int)])=Value.tuple #[U6 (cF M L k dS).1,.int .i64 (cF M L k dS).2]/\Ext w eY)
    (Br (cb==(-1))
     (∀eY:World,eY=u.setRow w0 #[ab,ab,ab,ab,ab,ab]->Ending.returned (.tuple #[.agg #[ab,ab,ab,ab,ab,ab],(11:Int)])=Value.tuple #[U6 (cF M L k dS).1,.int .i64 (cF M L k dS).2]/\Ext w eY)
     (∀eY:World,eY=u.setRow w0 #[cx,cy,cz,cb,cf,ct]->Ending.returned (.tuple #[.agg #[cx,cy,cz,cb,cf,ct],(0:Int)])=Value.tuple #[U6 (cF M L k dS).1,.int .i64 (cF M L k dS).2]/\Ext w eY)):=by
   intro u xu;have xx:=jC.tr (xd.tr xu);rw [qn];refine Br.mk (λhb=>λeY J0=>⟨?_,xx.af J0 aa⟩) (λhb=>Br.mk (λjU=>λeY J0=>⟨?_,xx.af J0 aa⟩) (λjU=>λeY J0=>⟨?_,xx.af J0 aa⟩))
   ·have hb:cq=false:=by simpa using hb
    rw [if_pos hb];rfl
   ·have hb:cq=true:=by simpa using hb
    have jU:cb= -1:=by simpa using jU
    rw [if_neg (by simp [hb]),if_pos jU];rfl
   ·have hb:cq=true:=by simpa using hb
    have jU:¬cb= -1:=by simpa using jU
    rw [if_neg (by simp [hb]),if_neg jU]
  have wayL:∀{u:World},Ext w2.drew u->ag u (some ⟨w.heap.size,0,none⟩) 0 (du dS):=λxu=>Lo.wv (r1.ext (xd.tr xu))
  have bdyL:∀{u:World},Ext w2.drew u->ag u (ae (some ⟨b,0,none⟩) 0) 0 (jo y.1):=λxu=>RR (Re.ext (xd.tr xu))
  refine ⟨_,_,_,_,_,_,_,_,_,bdyL (Ext.cQ _),?_,?_⟩
  ·refine (kW (h1.ext xd)).mono ?_;rintro e bK ⟨rfl,ahY⟩;subst ahY;refine ⟨_,rfl,rfl,rfl,wayL (Ext.cQ _),bdyL (Ext.cQ _),?_,λm7 e46=> ?_⟩
   ·refine (ED y.1 hhb w2.drew).mono ?_;rintro e cB ⟨rfl,cp⟩;have z16:=cp.size;refine ⟨_,_,_,rfl,cp.heap aa,cp.heap aa,wayL cp,?_,λej MS=> ?_⟩
    ·refine (castS cp).mono ?_;rintro e fh ⟨rfl,cZ⟩;have z20:=cZ.size;refine ⟨_,_,_,_,_,_,_,rfl,cZ.heap aa,cZ.heap aa,λgn e28 dH MP=> ?_⟩;exact fin ((cp.tr cZ).tr ((aL e28).af MP (aB _)))
    ·have ey:=aL MS;have z33:=zA MS;refine (castS (cp.tr ey)).mono ?_;rintro e iL ⟨rfl,g8⟩;have z34:=g8.size;refine ⟨_,_,_,_,_,_,_,rfl,g8.heap aa,g8.heap aa,g8.heap aa,λjI ZJ=> ?_⟩;exact fin (((cp.tr ey).tr g8).af ZJ aa)
   ·have gM:=aL e46;have z46:=zA e46;refine (ED y.1 hhb m7).mono ?_;rintro e jQ ⟨rfl,rV⟩;have z47:=rV.size;refine ⟨_,_,_,rfl,rV.heap aa,rV.heap aa,rV.heap aa,wayL (gM.tr rV),(castS (gM.tr rV)).mono ?_⟩;rintro e wR ⟨rfl,lr⟩;have z51:=lr.size;refine ⟨_,_,_,_,_,_,_,rfl,lr.heap aa,lr.heap aa,lr.heap aa,λsQ WN=> ?_⟩;exact fin (((gM.tr rV).tr lr).af WN aa)
  ·intro uz e63;have sb:=aL e63;have z63:=zA e63;refine (kW (h1.ext (xd.tr sb))).mono ?_;rintro e oX ⟨rfl,asg⟩;subst asg;refine ⟨_,rfl,rfl,rfl,rfl,wayL sb,bdyL sb,(ED y.1 hhb oX).mono ?_⟩;rintro e my ⟨rfl,lh⟩;have z66:=lh.size;refine ⟨_,_,_,rfl,lh.heap aa,lh.heap aa,lh.heap aa,wayL (sb.tr lh),(castS (sb.tr lh)).mono ?_⟩;rintro e kx ⟨rfl,oC⟩;have z70:=oC.size;refine ⟨_,_,_,_,_,_,_,rfl,oC.heap aa,oC.heap aa,oC.heap aa,λlX e78=> ?_⟩;exact fin (((sb.tr lh).tr oC).af e78 aa)
end
theorem lI {w:World} {g:Nat} {cs vs:LV} {E:TypeId} (hr:Row w g cs E) {off:Nat} (hl:off+vs.length<=cs.length) (h1:One vs):
  Wr w (ae (some ⟨g,0,none⟩) off) vs.length/\∀w',w'=Vc.aG w (ae (some ⟨g,0,none⟩) off) vs->Row w' g (aR cs off vs) E/\Mod (λi=>i=g) w w':=by
 rw [bh,eB];refine ⟨hr.wr hl,λw' e=> ?_⟩;rw [hr.aG hl h1] at e;subst e;exact ⟨hr.set _,rfl,rfl,rfl,by rw [setRow_size];exact aB _,λi _ hn=>setRow_other _ _ _ _ hn⟩
section
variable {F F':Nat->Prop} {w w':World} {g s o t:Nat} {M M':Sm} {occ:Value} {L:List (Option ez)}
theorem EL.put {av:List (Option Nat)} (he:EL w av L) {k b:Nat} (ha:av[k]? =some (some b)) {y:ez} (hr:Row w' b (JY y) kT) (hs:∀a,some a ∈ av->a≠b->w'.heap[a]? =w.heap[a]?):EL w' av (L.set k (some y)):=by
 have hk:k<16:=by rw [<-he.n];exact (cR.1 ha).1
 refine ⟨he.n,by rw [ir];exact he.m,λi a hi=> ?_,λi hi=> ?_,he.d⟩
 ·by_cases q:i=k
  ·subst q;rw [ha] at hi
   cases hi
   exact ⟨y,oF (by rw [he.m];exact hk),hr⟩
  ·obtain ⟨x,h1,h2⟩:=he.s i a hi;refine ⟨x,by rw [List.getElem?_set_ne (Ne.symm q)];exact h1,h2.same (hs a (aZ hi) λe=> ?_)⟩;subst e;exact q (he.d i k a hi ha)
 ·have q:i≠k:=λe=>by subst e;rw [ha] at hi;cases hi
  rw [List.getElem?_set_ne (Ne.symm q)];exact he.z i hi
theorem jg.aD {w0:World} (x:Ext w w0) (h:jg F w0 g s o t M occ L w'):jg F w g s o t M occ L w':=by obtain ⟨F',h1,h2⟩:=h;exact ⟨F',h1,(aN.aD x).trans h2⟩
def pD (L:List (Option ez)) (n:Int) (i:Int × Int × Bool):Int × List (Option ez):=match bV L n with|none=>(6,L)|some y=>(0,L.set n.toNat (some (y.1,i)))
theorem S7 (h:EF F w g s o t M occ L) (n:Int) (i:Int × Int × Bool):ah 54 #[g,n,.agg #[i.1,i.2.1,.bool i.2.2]] w λe w'=>e=Value.int .i64 (pD L n i).1/\jg F w g s o t M occ (pD L n i).2 w':=by
 apply vQ.vc;intro w0 e0;have x0:=aL e0;have z0:=zA e0;have h0:=h.ext x0;obtain ⟨av,cN,iV,hFg,hFa,bo⟩:=h0.row;refine (Cv cN iV.n n).mono ?_;rintro e w1 ⟨a,rfl,Rg,hc⟩;subst Rg;unfold pD;refine ⟨_,rfl,rfl,?_⟩;rcases hc with ⟨k,rfl,hk,ha⟩|⟨iW,rfl⟩
 case inr=>
  rw [pZ iV.m iW];exact yes rfl ⟨rfl,jg.aD x0 (h0.res (Ext.cQ _))⟩
 cases a with
 |none=>
  rw [iV.at0 ha];exact yes rfl ⟨rfl,jg.aD x0 (h0.res (Ext.cQ _))⟩
 |some b=>
  obtain ⟨y,hy,rF,Re⟩:=iV.at ha;have hb:=h.lt (i:=b);rw [hy];have wA:One [i.1,i.2.1,.bool i.2.2]:=by intro u hu;simp at hu;rcases hu with rfl|rfl|rfl<;>rfl
  obtain ⟨p1,p2⟩:=lI Re (off:=9) (vs:=[.int .i64 i.1,.int .i64 i.2.1,.bool i.2.2]) (by show 9+3<=12;decide) wA;have hbw:b<w:=h.lt (hFa b (aZ ha));refine eI rfl (gr rfl (gr rfl ⟨⟨rfl,p1⟩,?_,λw3 e3=> ?_⟩))
  ·intro q;have q:some b=some w.heap.size:=q;have q:b=w.heap.size:=Option.some.inj q;omega
  obtain ⟨q1,q2⟩:=p2 w3 e3;have q1:Row w3 b (JY (y.1,i)) kT:=q1;have jb:b≠g:=λe=>cN.ne Re oh.2.2 e.symm
  refine ⟨rfl,jg.aD x0 (bo (q2.mono λj _ hj=> .inr (by rw [hj];exact aZ ha)) (cN.same (q2.same _ cN.lt λe=>jb e.symm)) ?_ λa ha=> .inl ha)⟩;show EL w3 av (L.set ((k:Nat):Int).toNat (some (y.1,i)));rw [eJ];exact iV.put ha q1 λa ha' hn=>q2.same _ (iV.lt ha') hn
def uW:ep:=⟨(0,0,0),(0,0,0),0,0,false⟩
def tP (L:List (Option ez)) (n:Int):ep × Bool:=match bV L n with|none=>(uW,false)|some y=>(y.1,true)
theorem Vx (h:EF F w g s o t M occ L) (n:Int):ah 29 #[g,n] w λe w'=>e=Value.tuple #[BG (tP L n).1,.bool (tP L n).2]/\Ext w w':=by
 apply vR.vc;intro w0 e0;have x0:=aL e0;have z0:=zA e0;have h0:=h.ext x0;obtain ⟨av,cN,iV,-,-,-⟩:=h0.row;refine (Cv cN iV.n n).mono ?_;rintro e w1 ⟨a,rfl,Rg,hc⟩;subst Rg;unfold tP;refine ⟨_,rfl,rfl,?_⟩;rcases hc with ⟨k,rfl,hk,ha⟩|⟨iW,rfl⟩
 case inr=>
  rw [pZ iV.m iW];exact yes rfl λw3 e3=>⟨rfl,x0.af e3 aa⟩
 cases a with
 |none=>
  rw [iV.at0 ha];exact yes rfl λw3 e3=>⟨rfl,x0.af e3 aa⟩
 |some b=>
  obtain ⟨y,hy,rF,Re⟩:=iV.at ha;rw [hy];exact eI rfl (gr rfl (gr rfl ⟨_,_,_,_,_,_,_,_,_,RR Re,λbF B7=>⟨rfl,x0.af B7 aa⟩⟩))
def fP (M:Sm) (L:List (Option ez)) (c:Ce) (b:Int):Int × Sm:=if aI b=true/\pQ L c=true then (12,M) else ((kA M.T.2 c b).2,xR M c b)
theorem vo (h:EF F w g s o t M occ L) {m:Int} (hL:rL m L) (c:Ce) (hc:eQ c) (b:Int) (hk:qu M 800000):ah 59 #[g,ea c,b] w λe w'=>e=Value.int .i64 (fP M L c b).1/\jg F w g s o t (fP M L c b).2 occ L w':=by
 apply vP.vc;intro w0 e0;have x0:=aL e0;have z0:=zA e0;have inner:∀{u:World},Ext w0 u->¬(aI b=true/\pQ L c=true)->∃p:Option Addr,Vc.ld u (ae (some ⟨g,0,none⟩) 0)=some (.pointer p)/\
   ah 113 #[p,ea c,b] u λe w6=>∃x7:Int,e=x7/\w6.heap[w.heap.size]? =u.heap[w.heap.size]?/\Ending.returned x7=Value.int .i64 (fP M L c b).1/\jg F w g s o t (fP M L c b).2 occ L w6:=by
  intro u xu hn;have hu:=h.ext (x0.tr xu);have zu:=xu.size;obtain ⟨Fs,hs,jq,eM,bo⟩:=hu.sV;refine ⟨_,jq,(vZ hs c hc b hk).mono ?_⟩;rintro e w6 ⟨rfl,hr⟩;have hk6:w6.heap[w.heap.size]? =u.heap[w.heap.size]? :=by obtain ⟨F6,-,t6⟩:=hr;exact t6.mod.same _ aa λq=>by have:=h.lt (eM _ q);omega
  unfold fP;rw [if_neg hn];exact ⟨_,rfl,hk6,rfl,jg.aD (x0.tr xu) (bo hr)⟩
 refine (pR b w0).mono ?_;rintro e w1 ⟨rfl,Rg⟩;subst Rg;refine ⟨_,rfl,rfl,Br.mk (λhb=> ?_) (λhb=>inner (Ext.dr _) λq=>by rw [hb] at q;cases q.1)⟩;have h1:=h.ext x0;obtain ⟨av,cN,iV,-,-,-⟩:=h1.row;refine (zI cN iV hL c).mono ?_;rintro e w3 ⟨rfl,x3⟩;have z3:=x3.size;refine ⟨_,rfl,x3.heap aa,Br.mk (λhq=> ?_) (λhq=> ?_)⟩
 ·unfold fP;rw [if_pos ⟨hb,hq⟩];exact ⟨rfl,h.res (x0.tr x3)⟩
 ·exact inner (x3.tr (Ext.dr _)) λq=>by rw [hq] at q;cases q.2
end
def jB (c:Ce) (m:Int):Prop:=(-m<=c.1/\c.1<=m)/\(-m<=c.2.1/\c.2.1<=m)/\-m<=c.2.2/\c.2.2<=m
theorem jB.wide {c:Ce} {m:Int} (h:jB c m) (hm:m<=2000000000):eQ c:=by unfold jB at h;unfold eQ;omega
theorem Li {M:Sm} {L:List (Option ez)} {n:Int} {dS:Ce} (e:(cF M L n dS).2=0):∃y,bV L n=some y/\some y ∈ L/\hZ (ig M.T.2) (jP y.1) dS 5=((cF M L n dS).1,true)/\(cF M L n dS).1.2.1≠-1:=by
 unfold cF at e ⊢
 cases hq:bV L n with
 |none=>rw [hq] at e;simp only at e;omega
 |some y=>
  rw [hq] at e;simp only at e ⊢;have hm:some y ∈ L:=by
   unfold bV at hq;split at hq
   ·rcases Option.join_eq_some_iff.1 hq with hq;exact aZ hq
   ·cases hq
  refine ⟨y,rfl,hm,?_⟩;split at e
  ·simp only at e;omega
  split at e
  ·simp only at e;omega
  rename_i h1 h2;rw [if_neg h1,if_neg h2];exact ⟨Prod.ext rfl (by simpa using h1),h2⟩
theorem um {M:Sm} {L:List (Option ez)} {m:Int} (hL:rL m L) (hm:m<=99970000000000) {n:Int} {dS:Ce} (e:(cF M L n dS).2=0):jB (cF M L n dS).1.1 1600000005/\jB (BO (cF M L n dS).1).1 1600000006:=by
 obtain ⟨y,h1,h2,h3,h4⟩:=Li e;have hn:=Lj (by rw [acb];decide) h3;have he:=EB (hL y h2) hm;have hc:jB (cF M L n dS).1.1 1600000005:=by unfold jB;omega
 refine ⟨hc,?_⟩;generalize (cF M L n dS).1=h at hc;obtain ⟨c,b,f,tt⟩:=h;unfold BO;split
 ·rename_i hf;simp only at hf ⊢;obtain ⟨k,rfl⟩:∃k:Nat,f=k:=⟨f.toNat,by omega⟩;rw [eJ];unfold jB at hc;have:k=0\/k=1\/k=2\/k=3\/k=4\/k=5:=by omega
  rcases this with rfl|rfl|rfl|rfl|rfl|rfl
  ·show jB (c.1-1,c.2.1,c.2.2) _;unfold jB;simp only;simp only at hc;omega
  ·show jB (c.1+1,c.2.1,c.2.2) _;unfold jB;simp only;simp only at hc;omega
  ·show jB (c.1,c.2.1-1,c.2.2) _;unfold jB;simp only;simp only at hc;omega
  ·show jB (c.1,c.2.1+1,c.2.2) _;unfold jB;simp only;simp only at hc;omega
  ·show jB (c.1,c.2.1,c.2.2-1) _;unfold jB;simp only;simp only at hc;omega
  ·show jB (c.1,c.2.1,c.2.2+1) _;unfold jB;simp only;simp only at hc;omega
 ·unfold jB;simp only;omega
def qw (M:Sm) (L:List (Option ez)) (n:Int) (dS:Ce) (b:Int):Int × Sm:=
 if (cF M L n dS).2=6 then (6,M) else if cX b=false then (1,M) else if b=0 then (1,M) else if (cF M L n dS).2≠0 then ((cF M L n dS).2,M) else if (BO (cF M L n dS).1).2=false then (12,M) else fP M L (BO (cF M L n dS).1).1 b
def nA (M:Sm) (L:List (Option ez)) (n:Int) (dS:Ce):(Int × Int) × Sm:=
 if (cF M L n dS).2≠0 then ((0,(cF M L n dS).2),M) else if (fP M L (cF M L n dS).1.1 0).1≠0 then ((0,(fP M L (cF M L n dS).1.1 0).1),(fP M L (cF M L n dS).1.1 0).2) else (((cF M L n dS).1.2.1,0),(fP M L (cF M L n dS).1.1 0).2)
section
variable {F F':Nat->Prop} {w w':World} {g s o t:Nat} {M M':Sm} {occ:Value} {L:List (Option ez)}
theorem jg.c9 {k:Nat} (h:EF F w g s o t M occ L) {w0:World} (x:Ext w w0) (hk:w.heap.size<=k) (hk0:k<w0) (h0:∀i,F i->i<w.heap.size) {M':Sm} {occ':Value} {L':List (Option ez)} (r:jg F w0 g s o t M' occ' L' w'):w'.heap[k]? =w0.heap[k]? :=by obtain ⟨F',-,h2⟩:=r;exact h2.mod.same _ hk0 λq=>by have:=h0 _ q;omega
set_option maxHeartbeats 1000000 in
theorem Ki (h:EF F w g s o t M occ L) {m:Int} (hL:rL m L) (hm:m<=99970000000000) (n:Int) (dS:Ce) (b:Int) (hk:qu M 800000):
  ah 55 #[g,n,ea dS,b] w λe w'=>e=Value.int .i64 (qw M L n dS b).1/\jg F w g s o t (qw M L n dS b).2 occ L w':=by
 apply uJ.vc;intro w0 e0;have x0:=aL e0;have z0:=zA e0;refine (yX (h.ext x0) hL hm n dS).mono ?_;rintro e w1 ⟨rfl,x1⟩;have z1:=x1.size;refine ⟨_,_,_,_,_,_,_,rfl,x1.heap aa,λw9 e9 bD CH=> ?_⟩;have bj:Ext w1 bD:=(aL e9).af CH (aB _);have Sr:bD.heap.size=w1.heap.size+1:=by rw [zR CH,zA e9]
 have oe:=x0.tr (x1.tr bj);unfold qw;refine Br.mk (λh6=> ?_) (λh6=>(gl b bD).mono ?_)
 ·rw [if_pos (by simpa using h6)];have h6:(cF M L n dS).2=6:=by simpa using h6
  rw [h6];exact ⟨rfl,h.res oe⟩
 rw [if_neg (by simpa using h6)];rintro e aW ⟨rfl,bz⟩;have z11:=bz.size;have Wu:=oe.tr bz;refine ⟨_,rfl,bz.heap aa,bz.heap aa,Br.mk (λhb=> ?_) (λhb=>Br.mk (λSR=> ?_) (λSR=>Br.mk (λhn=> ?_) (λhn=> ?_)))⟩
 ·rw [if_pos (by simpa using hb)];exact ⟨rfl,h.res Wu⟩
 ·rw [if_neg (by simpa using hb),if_pos (by simpa using SR)];exact ⟨rfl,h.res Wu⟩
 ·rw [if_neg (by simpa using hb),if_neg (by simpa using SR),if_pos (by simpa using hn)];exact ⟨rfl,h.res Wu⟩
 rw [if_neg (by simpa using hb),if_neg (by simpa using SR),if_neg (by simpa using hn)];have JQ:(cF M L n dS).2=0:=by simpa using hn
 obtain ⟨Kc,QH⟩:=um hL hm JQ;refine (MC (cF M L n dS).1 (Kc.wide aE) aW).mono ?_;rintro e bF ⟨rfl,cc⟩;have z13:=cc.size;refine ⟨_,_,_,_,rfl,cc.heap aa,cc.heap aa,λdA VV fy e19=> ?_⟩;have cr:Ext bF fy:=(aL VV).af e19 (aB _);have z19:fy.heap.size=bF.heap.size+1:=by rw [zR e19,zA VV]
 have Fx:=Wu.tr (cc.tr cr);apply Br.mk<;>intro hq
 ·rw [if_pos (by simpa using hq)];exact ⟨rfl,h.res Fx⟩
 rw [if_neg (by simpa using hq)];refine (vo (h.ext Fx) hL (BO (cF M L n dS).1).1 (QH.wide aE) b hk).mono ?_;rintro e fh ⟨rfl,r⟩;have hh:∀i,F i->i<w.heap.size:=λi=>h.lt
 exact ⟨_,rfl,jg.c9 h Fx aa aa hh r,jg.c9 h Fx aa aa hh r,jg.c9 h Fx aa aa hh r,rfl,jg.aD Fx r⟩
set_option maxHeartbeats 1000000 in
theorem Kk (h:EF F w g s o t M occ L) {m:Int} (hL:rL m L) (hm:m<=99970000000000) (n:Int) (dS:Ce) (hk:qu M 800000):
  ah 33 #[g,n,ea dS] w λe w'=>e=Value.tuple #[.int .i64 (nA M L n dS).1.1,.int .i64 (nA M L n dS).1.2]/\jg F w g s o t (nA M L n dS).2 occ L w':=by
 apply uK.vc;intro w0 e0;have x0:=aL e0;have z0:=zA e0;refine (yX (h.ext x0) hL hm n dS).mono ?_;rintro e w1 ⟨rfl,x1⟩;have z1:=x1.size;refine ⟨_,_,_,_,_,_,_,rfl,x1.heap aa,λw9 e9 bD CH=> ?_⟩;have bj:Ext w1 bD:=(aL e9).af CH (aB _);have Sr:bD.heap.size=w1.heap.size+1:=by rw [zR CH,zA e9]
 have oe:=x0.tr (x1.tr bj);unfold nA;refine Br.mk (λh0=> ?_) (λh0=>yes (by simpa using h0) ?_)
 ·have JQ:(cF M L n dS).2=0:=by simpa using h0
  rw [if_neg (by simp [JQ])];obtain ⟨Kc,-⟩:=um hL hm JQ;refine (vo (h.ext oe) hL (cF M L n dS).1.1 (Kc.wide aE) 0 hk).mono ?_;rintro e aW ⟨rfl,r⟩;have hh:∀i,F i->i<w.heap.size:=λi=>h.lt
  refine ⟨_,rfl,jg.c9 h oe aa aa hh r,jg.c9 h oe aa aa hh r,Br.mk (λhq=> ?_) (λhq=> ?_)⟩
  ·rw [if_pos (by simpa using hq)];exact ⟨rfl,jg.aD oe r⟩
  ·rw [if_neg (by simpa using hq)];exact ⟨rfl,jg.aD oe r⟩
 ·rw [if_pos (by simpa using h0)];exact ⟨rfl,h.res oe⟩
end
def lM (M:Sm) (L:List (Option ez)) (i:Nat):Bool:=match bV L i with|some y=>nI M y.1|none=>false
def eU (M:Sm) (L:List (Option ez)):List Nat:=(List.range 16).filter (lM M L)
def ml (M:Sm) (L:List (Option ez)) (i:Nat):ep:=match bV L i with|some y=>tw (ig M.T.2) y.1 y.2|none=>uW
def pS (M:Sm) (L:List (Option ez)):List ep:=qT (ig M.T.2) ((eU M L).map (ml M L))
def vL (L:List (Option ez)) (i:Nat) (b:ep):List (Option ez):=match bV L i with|some y=>L.set i (some (b,y.2))|none=>L
def A7 (L:List (Option ez)) (l:List (Nat × ep)):List (Option ez):=l.foldl (λL x=>vL L x.1 x.2) L
def oS (M:Sm) (L:List (Option ez)):List (Option ez):=A7 L ((eU M L).zip (pS M L))
def sW (M:Sm) (L:List (Option ez)):Sm × List (Option ez):=(Lv (pQ (oS M L)) M,oS M L)
abbrev tLp:TypeId:=53
theorem ai6 (p:Option Addr):One [.pointer p]:=by intro u hu;simp at hu;subst hu;rfl
theorem pC {L:List (Option ez)} {i:Nat} {y:ez} (h:bV L i=some y):some y ∈ L:=by unfold bV at h;rw [if_pos aa,eJ] at h;exact aZ (Option.join_eq_some_iff.1 h)
theorem tu {M:Sm} {L:List (Option ez)} {i:Nat} (h:i ∈ eU M L):i<16/\∃y,bV L i=some y:=by
 unfold eU at h;obtain ⟨h1,h2⟩:=List.mem_filter.1 h;refine ⟨List.mem_range.1 h1,?_⟩;unfold lM at h2
 cases hq:bV L i with
 |none=>rw [hq] at h2;cases h2
 |some y=>exact ⟨y,rfl⟩
theorem ZA {L:List (Option ez)} {i j:Nat} {b:ep}:(bV (vL L i b) j).isSome=(bV L j).isSome:=by
 unfold vL
 cases hq:bV L i with
 |none=>rfl
 |some y=>
  simp only;unfold bV at hq ⊢;rw [if_pos aa,eJ] at hq ⊢;rw [if_pos aa];by_cases e:i=j
  ·subst e;have hq:=Option.join_eq_some_iff.1 hq;rw [oF (cR.1 hq).1,hq];rfl
  ·rw [List.getElem?_set_ne e]
theorem Hl {j:Nat}:∀(l:List (Nat × ep)) (L:List (Option ez)),(bV (A7 L l) j).isSome=(bV L j).isSome
 | [],L=>rfl
 |x::l,L=>(Hl l (vL L x.1 x.2)).trans ZA
theorem agj {L:List (Option ez)} {i:Nat} {b:ep} {m:Int} (h:rL m L) (hb:okB m b):rL m (vL L i b):=by
 unfold vL
 cases hq:bV L i with
 |none=>exact h
 |some y=>
  intro z hz;rcases kJ hz with hz|hz
  ·exact h z hz
  ·cases hz
   exact hb
theorem Cs {m:Int}:∀(l:List (Nat × ep)) {L:List (Option ez)},rL m L->(∀x ∈ l,okB m x.2)->rL m (A7 L l)
 | [],L,h,_=>h
 |x::l,L,h,hl=>Cs l (agj h (hl x bt)) λy hy=>hl y (by simp [hy])
theorem IN (M:Sm) (L:List (Option ez)):(eU M L).length<=16:=by have:=List.length_filter_le (lM M L) (List.range 16);rw [A2] at this;exact this
theorem DI {M:Sm} {L:List (Option ez)} {m:Int} (h:rL m L) (hm:m<=99970000000000):∀b ∈(eU M L).map (ml M L),okB (m+16777216) b:=by intro b hb;obtain ⟨i,hi,rfl⟩:=bg.1 hb;obtain ⟨-,y,hy⟩:=tu hi;unfold ml;rw [hy];exact acs (h y (pC hy)) hm
section
variable {F F':Nat->Prop} {w w':World} {g s o t:Nat} {M M':Sm} {occ:Value} {L:List (Option ez)}
theorem EL.aon {av:List (Option Nat)} (he:EL w av L) {k b:Nat} (ha:av[k]? =some (some b)) {y:ez} (hy:bV L k=some y) (x:ep) {w':World} (hr:Row w' b (JY (x,y.2)) kT) (hs:∀a,some a ∈ av->a≠b->w'.heap[a]? =w.heap[a]?):EL w' av (vL L k x):=by
 have e:vL L k x=L.set k (some (x,y.2)):=by unfold vL;rw [hy]
 rw [e];exact he.put ha hr hs
theorem EL.full {av:List (Option Nat)} (he:EL w av L) {k:Nat} {y:ez} (hk:k<16) (hy:bV L k=some y):∃b,av[k]? =some (some b)/\Row w b (JY y) kT:=by
 obtain ⟨a,ha⟩:=bH (l:=av) (i:=k) (by rw [he.n];exact hk)
 cases a with
 |none=>rw [he.at0 ha] at hy;cases hy
 |some b=>
  obtain ⟨z,h1,-,h3⟩:=he.at ha;rw [h1] at hy
  cases hy
  exact ⟨b,ha,h3⟩
theorem SF.oc {Fs:Nat->Prop} (h2:SF Fs w s o t M occ) {p:Value} {av:List (Option Nat)} (h1:Row w g (p::av.map pA) su) (h3:EL w av L) {m:Int} (hL:rL m L):Oc (.func (.func 66) #[g] #[]) (pQ L) Fs w:=by
 have ng:¬Fs g:=h2.jF h1 oh.1.1 oh.1.2.1 oh.1.2.2.1 oh.1.2.2.2.1 oh.1.2.2.2.2.1 oh.1.2.2.2.2.2.1 oh.1.2.2.2.2.2.2;have na:∀a,some a ∈ av->¬Fs a:=λa ha=>by obtain ⟨i,hi⟩:=oZ ha;obtain ⟨x,-,hr⟩:=h3.s i a hi;exact h2.jF hr oh.2.1.1 oh.2.1.2.1 oh.2.1.2.2.1 oh.2.1.2.2.2.1 oh.2.1.2.2.2.2.1 oh.2.1.2.2.2.2.2.1 oh.2.1.2.2.2.2.2.2
 refine ⟨λi=>i=g\/some i ∈ av,λi hi=> ?_,λw' hk c _=>cU (by kernel_rfl) rfl (zI (h1.same (hk _ (.inl rfl))) (h3.same λa ha=>hk a (.inr ha)) hL c)⟩;rcases hi with rfl|hi
 ·exact ⟨h1.lt,ng⟩
 ·exact ⟨h3.lt hi,na i hi⟩
end
section
variable {F F':Nat->Prop} {w w':World} {g s o t:Nat} {M M':Sm} {occ:Value} {L:List (Option ez)}
abbrev Lm (M:Sm) (L:List (Option ez)) (j:Nat):List (Option ez):=A7 L (((eU M L).zip (pS M L)).take j)
theorem T7 {j:Nat} {i:Nat} {b:ep} (hi:(eU M L)[j]? =some i) (hb:(pS M L)[j]? =some b):Lm M L (j+1)=vL (Lm M L j) i b:=by
 have e:((eU M L).zip (pS M L))[j]? =some (i,b):=by rw [List.getElem?_zip_eq_some];exact ⟨hi,hb⟩
 unfold Lm A7;rw [dE,e,List.foldl_append];rfl
theorem XW (h:(pS M L).length=(eU M L).length):Lm M L (eU M L).length=oS M L:=by unfold Lm oS;rw [fB (by rw [List.length_zip,h];omega)]
set_option maxHeartbeats 4000000 in
theorem Ta (h:EF F w g s o t M occ L) {m:Int} (hL:rL m L) (hm0:0<=m) (hm:m<=99900000000000) (hd:GU (sX M)) (hk:qu M 600000) (ahn:1<=M.da/\M.da<=64):
  ah 64 #[g] w λe w'=>e=Value.int .i64 (sX M).length/\jg F w g s o t (sW M L).1 (.func (.func 66) #[g] #[]) (sW M L).2 w'/\rL (m+3300000000) (sW M L).2:=by
 apply vM.vc;obtain ⟨av,cN,iV,hFg,hFa,bo⟩:=h.row;have jq:ag w (ae (some ⟨g,0,none⟩) 1) 0 (av.map pA):=by rw [bh];exact cN.bY λj hj=>by rw [show 0+1+j=j+1 from by omega,A3]
 obtain ⟨b0,b1,b2,b3,b4,b5,b6,b7,b8,b9,b10,WL,QL,E6,b14,Ss,hav⟩:=RQ iV.n;have eP:∀k:Nat,k<16->∃a:Option Nat,(([b0,b1,b2,b3,b4,b5,b6,b7,b8,b9,b10,WL,QL,E6,b14,Ss]:List (Option Nat)).map pA)[((k:Nat):Int).toNat*1]? =some (pA a)/\av[k]? =some a:=λk hk=>by obtain ⟨a,ha⟩:=bH (l:=av) (i:=k) (by rw [iV.n];exact hk);exact ⟨a,by rw [<-hav,eJ,Nat.mul_one,aS,ha];rfl,ha⟩
 rw [hav] at jq;have atk:∀i:Nat,i ∈ eU M L->∃b y,av[i]? =some (some b)/\bV L i=some y/\Row w b (JY y) kT:=λi hi=>by obtain ⟨h1,y,hy⟩:=tu hi;obtain ⟨b,h2,h3⟩:=iV.full h1 hy;exact ⟨b,y,h2,hy,h3⟩
 have hwl:=IN M L
 let ptr:Nat->LV:=λi=> [pA (av.getD i none)]
 have ptr_eq:∀{i:Nat} {a:Option Nat},av[i]? =some a->ptr i=[pA a]:=λ{i a} ha=>by show [pA (av.getD i none)]=_;rw [eA,ha];rfl
 refine ⟨_,_,_,_,_,_,_,_,_,_,_,_,_,_,_,_,jq,λn x sl wr=>∃k:Nat,x=k/\k+n=16/\aC w tLp 1 wr sl (((List.range k).filter (lM M L)).map ptr)/\Ext w wr,⟨16,0,rfl,rfl,aC.nil,Ext.cQ _⟩,?_⟩;rintro n us x sl wr ⟨k,rfl,hk',ho,xr⟩;have zr:=xr.size;apply Br.mk<;>intro hb
 ·have hb:(k:Int)<16:=by simpa using hb
  obtain ⟨a,ha,ha'⟩:=eP k aa;have wk:=mh (j:=k);have dG:sl.n<=16:=by have h1:=(ho.rd (show 0<1 by decide)).n;have h2:=List.length_filter_le (lM M L) (List.range k);rw [aM] at h1;rw [A2] at h2;omega
  have skip:lM M L k=false->∀{u:World},Ext wr u->∃Nh,Nh<n/\∃k':Nat,aj ((k:Int)+1)=k'/\k'+Nh=16/\aC w tLp 1 u ⟨sl.a,sl.n,sl.c⟩ (((List.range k').filter (lM M L)).map ptr)/\Ext w u:=λhq {u} xu=>by refine ⟨n-1,by omega,k+1,wk,by omega,?_,xr.tr xu⟩;rw [List.range_succ,mA,bZ,List.filter_cons_of_neg (by rw [hq];decide)];simpa using ho.ext xu
  refine ⟨⟨by omega,by omega⟩,_,ha,?_⟩
  cases a with
  |none=>
   refine eI rfl (skip ?_ (Ext.cQ _));unfold lM;rw [iV.at0 ha']
  |some b=>
   obtain ⟨y,hy,rF,Re⟩:=iV.at ha';refine yes rfl (gr rfl (gr rfl ⟨_,_,_,_,_,_,_,_,_,RR (Re.ext xr),(A4 (h.ext xr) y.1).mono ?_⟩));rintro e ej ⟨rfl,ey⟩;have z33:=ey.size;have hwake:lM M L k=nI M y.1:=by unfold lM;rw [hy]
   refine ⟨_,rfl,Br.mk (λhq=>λie e35=> ?_) (λhq=>skip (by rw [hwake];exact hq) ey)⟩;subst e35;obtain ⟨B8,hres8⟩:=(ho.ext ey).iN (bytes:=8) (news:=[pA (some b)]) (.cells #[pA (some b)] tLp) aa rfl (ai6 _) aa aa;refine ⟨B8,λKd gJ ap5=> ?_⟩;obtain ⟨f8,wQ,hn8,x8,ER,-⟩:=hres8 Kd gJ ap5;refine ⟨f8,n-1,by omega,k+1,wk,by omega,?_,(Below.trans (xr.tr ey) x8:Below w w gJ)⟩;rw [List.range_succ,mA,bZ,List.filter_cons_of_pos (by rw [hwake];exact hq)];show aC _ _ _ _ _ (_++ [ptr k]);rw [ptr_eq ha'];exact wQ
 have hb:¬(k:Int)<16:=by simpa using hb
 have uQ:k=16:=by omega
 subst uQ;replace ho:aC w tLp 1 wr sl ((eU M L).map ptr):=ho;have tU:sl.n=(eU M L).length:=by rw [(ho.rd (show 0<1 by decide)).n,aM]
 have slk:∀b,sl.aY=some b->w.heap.size<=b/\b<wr.heap.size:=λb hb=>ho.own.lt hb
 refine ⟨λn x s2 il=>∃j:Nat,x=j/\j+n=(eU M L).length/\aC wr yQ 9 il s2 ((((eU M L).take j).map (ml M L)).map jo)/\Ext wr il,⟨(eU M L).length,0,rfl,by omega,aC.nil,Ext.cQ _⟩,?_⟩;rintro n2 wM x s2 il ⟨j,rfl,hj,vm,pj⟩;have z43:=pj.size;apply Br.mk<;>intro hb
 ·have hb:(j:Int)<sl.n:=by simpa using hb
  have hjw:j<(eU M L).length:=by omega
  obtain ⟨i,hi⟩:=bH (l:=eU M L) (i:=j) hjw;obtain ⟨b,y,hab,hy,Re⟩:=atk i (aZ hi);have Fj:=(ho.ext pj).rd (show 0<1 by decide);have sO:((eU M L).map ptr)[j]? =some [pA (some b)]:=by rw [aS,hi];exact congrArg some (ptr_eq hab)
  have JS:Vc.ld il (ae sl.a ((j:Int).toNat*1))=some (pA (some b)):=by have:=Fj.at sO (j:=0) (v:=pA (some b)) rfl;rw [de] at this;exact this
  have xd:=Ext.dr il;have hbdL:∀{u:World},Ext il u->ag u (ae (some ⟨b,0,none⟩) 0) 0 (jo y.1):=λxu=>RR (Re.ext (xr.tr (pj.tr xu)))
  have hinL:∀{u:World},Ext il u->ag u (ae (some ⟨b,0,none⟩) 9) 0 [.int .i64 y.2.1,.int .i64 y.2.2.1,.bool y.2.2.2]:=λxu=>ai7 (Re.ext (xr.tr (pj.tr xu)))
  refine ⟨Fj.gR aE aa aa,_,JS,gr rfl (gr rfl ⟨_,_,_,_,_,_,_,_,_,hbdL xd,gr rfl (gr rfl ⟨_,_,_,hinL xd,(kW (h.ext (xr.tr (pj.tr xd)))).mono ?_⟩)⟩)⟩;rintro e jZ ⟨rfl,ap7⟩;subst ap7;have oky:=hL y (pC hy);refine ⟨_,rfl,hinL xd,hbdL xd,(DG (h.ext (xr.tr (pj.tr xd))).tl rfl y.1 oky.wdi oky.2.2.2 (oky.zE aa) aa y.2).mono ?_⟩;rintro e kC ⟨rfl,jc⟩;have z60:=jc.size;have zd:=lv il;refine ⟨_,_,_,_,_,_,_,_,_,rfl,λkx e70=> ?_⟩;subst e70;have dG:s2.n<=16:=by have h1:=(vm.rd (show 0<9 by decide)).n;rw [aM,aM,dC] at h1;omega
  obtain ⟨B8,hres8⟩:=(vm.ext (xd.tr jc)).iN (bytes:=72) (news:=jo (tw (ig M.T.2) y.1 y.2)) (.cells (jo (tw (ig M.T.2) y.1 y.2)).toArray yQ) aa rfl (vF _) aa aa;refine ⟨B8,λs71 Ke ap8=> ?_⟩;obtain ⟨f8,wQ,hn8,x8,ER,-⟩:=hres8 s71 Ke ap8;have wk:=mh (j:=j);refine ⟨f8,n2-1,by omega,j+1,wk,by omega,?_,(Below.trans (pj.tr (xd.tr jc)) x8:Below wr wr Ke)⟩;rw [dE,hi,bZ,bZ];have e1:ml M L i=tw (ig M.T.2) y.1 y.2:=by unfold ml;rw [hy]
  show aC _ _ _ _ _ (_++ [jo (ml M L i)]);rw [e1];exact wQ
 have hb:¬(j:Int)<sl.n:=by simpa using hb
 have hjw:j=(eU M L).length:=by omega
 subst hjw;rw [iB] at vm;have h43:=h.ext (xr.tr pj);refine (kW h43).mono ?_;rintro e FG ⟨rfl,ap9⟩;subst ap9;refine ⟨_,rfl,(DH h43.tl rfl vm (by rw [aM];exact hwl) (DI hL aa) aa aa).mono ?_⟩;rintro e pn ⟨E8,rfl,aaG,tX,bk,SS⟩;rw [aM] at SS;replace aaG:aC FG yQ 9 pn E8 ((pS M L).map jo):=aaG;replace SS:(pS M L).length=(eU M L).length:=SS;replace bk:∀b ∈ pS M L,okB (m+16777216+16*16*12582912) b:=bk;have z75:=tX.size;have s76k:∀b,E8.aY=some b->FG.heap.size<=b/\b<pn.heap.size:=λb hb=>aaG.own.lt hb
 have axe:E8.n=(eU M L).length:=by rw [(aaG.rd (show 0<9 by decide)).n,aM,SS]
 have aaH:=xr.tr (pj.tr tX);have avlt:∀a,some a ∈ av->a<w.heap.size:=λa ha=>iV.lt ha
 have jb:∀a,some a ∈ av->a≠g:=λa ha q=>by subst q;obtain ⟨i,hi⟩:=oZ ha;obtain ⟨x,-,hr⟩:=iV.s i a hi;exact cN.ne hr oh.2.2 rfl
 refine ⟨E8,rfl,λn x qq=>∃j:Nat,x=j/\j+n=(eU M L).length/\EL qq av (Lm M L j)/\Mod (λi=>some i ∈ av) pn qq,⟨(eU M L).length,0,rfl,by omega,(iV.same λa ha=>aaH.heap (iV.lt ha)),Mod.refl _ _⟩,?_⟩;rintro n3 us3 x qq ⟨j,rfl,hj,adJ,m81⟩;have z81:=m81.size;apply Br.mk<;>intro hb
 ·have hb:(j:Int)<E8.n:=by simpa using hb
  have hjw:j<(eU M L).length:=by omega
  obtain ⟨i,hi⟩:=bH (l:=eU M L) (i:=j) hjw;obtain ⟨x,hx⟩:=bH (l:=pS M L) (i:=j) aa;obtain ⟨b,y0,hab,hy0,-⟩:=atk i (aZ hi);have Fk:=(tu (aZ hi)).1;obtain ⟨y,hy⟩:∃y,bV (Lm M L j) i=some y:=by
   have:=Hl (j:=i) (((eU M L).zip (pS M L)).take j) L;rw [hy0] at this
   cases hq:bV (Lm M L j) i with
   |none=>rw [hq] at this;cases this
   |some y=>exact ⟨y,rfl⟩
  obtain ⟨b',akW,Re⟩:=adJ.full Fk hy;rw [hab] at akW
  cases akW
  have hrd76:=(m81.fm aaG λb hb hq=>by have:=s76k b hb;have:=avlt b hq;omega).rd (show 0<9 by decide);have hrx:((pS M L).map jo)[j]? =some (jo x):=by rw [aS,hx];rfl
  refine ⟨hrd76.gR aE aa aa,_,_,_,_,_,_,_,_,_,hrd76.bY hrx,λWJ e92 yT e93=> ?_⟩;have sJ:Ext qq yT:=(aL e92).af e93 (aB _);have z93:yT.heap.size=qq.heap.size+1:=by rw [zR e93,zA e92]
  have xd:=sJ.tr (Ext.dr yT);have Fj:=(((m81.fm ((ho.ext pj).ext tX) λb hb hq=>by have:=slk b hb;have:=avlt b hq;omega).ext sJ).ext (Ext.dr yT)).rd (show 0<1 by decide);have sO:((eU M L).map ptr)[j]? =some [pA (some b)]:=by rw [aS,hi];exact congrArg some (ptr_eq hab)
  have JS:Vc.ld yT.drew (ae sl.a ((j:Int).toNat*1))=some (pA (some b)):=by have:=Fj.at sO (j:=0) (v:=pA (some b)) rfl;rw [de] at this;exact this
  have axh:=avlt b (aZ hab);have hwz:=aaH.size;obtain ⟨p1,p2⟩:=lI (Re.ext xd) (off:=0) (vs:=jo x) (by show 0+9<=12;decide) (vF x);refine ⟨Fj.gR aE aa aa,_,JS,gr rfl (gr rfl ⟨⟨rfl,p1⟩,?_,λNz e95=> ?_⟩)⟩
  ·intro q;have q:some b=some qq.heap.size:=q;have q:b=qq.heap.size:=Option.some.inj q;omega
  obtain ⟨q1,q2⟩:=p2 Nz e95;have q1:Row Nz b (JY (x,y.2)) kT:=q1;have wk:=mh (j:=j);refine ⟨n3-1,by omega,j+1,wk,by omega,?_,m81.trans ((Mod.aD xd).trans (q2.mono λi _ hi=>by rw [hi];exact aZ hab))⟩;rw [T7 hi hx];refine adJ.aon hab hy x q1 λa ha hn=> ?_
  have:=avlt a ha;exact (q2.same a (by have:=xd.size;omega) hn).trans (xd.heap aa)
 have hb:¬(j:Int)<E8.n:=by simpa using hb
 have hjw:j=(eU M L).length:=by omega
 subst hjw;rw [XW SS] at adJ;have aqa:Mod (λi=>i=g\/some i ∈ av) w qq:=(Mod.aD aaH).trans (m81.mono λi _ hi=> .inr hi);obtain ⟨F81,h81,t81⟩:=bo aqa (cN.ext aaH|>.same (m81.same _ (by have:=aaH.size;have:=cN.lt;omega) λq=>jb g q rfl)) adJ λa ha=> .inl ha
 have hok2:rL (m+3300000000) (oS M L):=Cs _ (hL.up aa) λx hx=>(bk x.2 (List.of_mem_zip hx).2).up aa
 obtain ⟨Fs,hs,jq,eM,hresS⟩:=h81.sV;refine ⟨_,jq,(xJ hs (.func 66) #[g] #[]).mono ?_⟩;rintro e w97 ⟨rfl,hr,-⟩;refine ⟨rfl,?_⟩;obtain ⟨F97,h97,t97⟩:=hresS hr;obtain ⟨Fs2,yY,hld2,hsub2,hresS2⟩:=h97.sV;obtain ⟨av2,hrow2,hel2,-,-,-⟩:=h97.row;refine ⟨_,hld2,(Hm yY (yY.oc hrow2 hel2 hok2) hd hk ahn).mono ?_⟩;rintro e J9 ⟨rfl,py⟩;obtain ⟨F99,h99,t99⟩:=hresS2 py;exact ⟨_,rfl,rfl,⟨F99,h99,t81.trans (t97.trans t99)⟩,hok2⟩
end
structure Ap (B:Nat) (w0:World) (s0:Sl) (w:World) (s:Sl) (b:List Int):Prop where
 own:mi B w s b
 bel:Below B w0 w
 PN:∀j,s0.aY≠some j->j<w0.heap.size->w.heap[j]? =w0.heap[j]?
 aY:∀j,s.aY=some j->s0.aY=some j\/w0.heap.size<=j
 low:B<=w0
theorem Ap.refl {B:Nat} {w:World} {s:Sl} {b:List Int} (h:mi B w s b) (hB:B<=w):Ap B w s w s b:=⟨h,Below.refl _ _,λ_ _ _=>rfl,λ_ hj=> .inl hj,hB⟩
theorem Ap.ext {B:Nat} {w0 w u:World} {s0 s:Sl} {b:List Int} (h:Ap B w0 s0 w s b) (x:Ext w u):Ap B w0 s0 u s b:=
 ⟨h.own.ext x,Below.trans h.bel (Below.mono x (fY h.low h.bel.size)),λj hj hl=>(x.heap (j9 hl h.bel.size)).trans (h.PN j hj hl),h.aY,h.low⟩
theorem Ap.n {B:Nat} {w0 w:World} {s0 s:Sl} {b:List Int} (h:Ap B w0 s0 w s b):s.n=b.length:=by rw [(h.own.rd aE).n,aM]
theorem Ap.app {B:Nat} {w0 w:World} {s0 s:Sl} {b:List Int} (h:Ap B w0 s0 w s b) (news:List Int) (hl:b.length+news.length<=1000000):
  ba 1 1 w s news.length (news.map yv).flatten/\∀s' w',aV hX 1 w s news.length (news.map yv).flatten s' w'->Ap B w0 s0 w' s' (b++news)/\(∀j,s.aY≠some j->j<w.heap.size->w'.heap[j]? =w.heap[j]?)/\(s'.aY=s.aY\/s'.aY=some w.heap.size)/\w.heap.size<=w'.heap.size:=by
 have hn:=h.n;have hlm:(news.map yv).length=news.length:=aM ..;have hB:B<=w:=fY h.low h.bel.size;obtain ⟨hp,hr⟩:=h.own.FO (bytes:=1) (more:=news.map yv) hB (λr hr=>by obtain ⟨x,-,rfl⟩:=bg.1 hr;rfl) (λr hr=>by obtain ⟨x,-,rfl⟩:=bg.1 hr;exact te _ _) aa aa;rw [hlm] at hp hr;refine ⟨hp,λs' w' bo=> ?_⟩;obtain ⟨h1,h2,h3,h4,h5⟩:=hr s' w' bo;have hz:=h3.size;have hz0:=h.bel.size;refine ⟨⟨by show aC _ _ _ _ _ ((b++news).map yv);rw [bZ];exact h1,Below.trans h.bel h3,λj hj hl=> ?_,λj hj=> ?_,h.low⟩,h4,h5,h3.size⟩
 ·have:s.aY≠some j:=λe=>by
   rcases h.aY j e with q|q
   ·exact hj q
   ·omega
  exact (h4 j this aa).trans (h.PN j hj hl)
 ·rcases h5 with q|q
  ·exact h.aY j (by rw [<-q];exact hj)
  ·rw [q] at hj;injection hj with hj;exact .inr aa
theorem Ap.ne {B:Nat} {w0 w:World} {s0 s:Sl} {b:List Int} (h:Ap B w0 s0 w s b) {j:Nat} (hj:w.heap.size<=j):s.aY≠some j:=λe=>by have:=(h.own.own.lt e).2;omega
theorem Ap.iN {B:Nat} {w0 w v:World} {s0 s:Sl} {b:List Int} (h:Ap B w0 s0 w s b) (news:List Int) (hl:b.length+news.length<=1000000) {o:Obj} (e:v=w.alloc o):
  ba 1 1 v s news.length (news.map yv).flatten/\∀s' w',aV hX 1 v s news.length (news.map yv).flatten s' w'->Ap B w0 s0 w' s' (b++news)/\w'.heap[w.heap.size]? =v.heap[w.heap.size]?/\(∀j,s.aY≠some j->j<v.heap.size->w'.heap[j]? =v.heap[j]?)/\(s'.aY=s.aY\/s'.aY=some v.heap.size)/\v.heap.size<=w'.heap.size:=by
 obtain ⟨hp,hr⟩:=(h.ext (aL e)).app news hl;have z:=zA e;refine ⟨hp,λs' w' bo=> ?_⟩;obtain ⟨h1,h2,h3,h4⟩:=hr s' w' bo;exact ⟨h1,h2 _ (h.ne (aB _)) aa,h2,h3,h4⟩
theorem eK {s s':Sl} {n j:Nat} (hb:s'.aY=s.aY\/s'.aY=some n) (h1:s.aY≠some j) (h2:n≠j):s'.aY≠some j:=λe=>by
 rcases hb with q|q
 ·exact h1 (q.symm.trans e)
 ·rw [q] at e
  injection e with e
  exact h2 e
theorem Ap.off {B:Nat} {w0 w:World} {s0 s:Sl} {b:List Int} (h:Ap B w0 s0 w s b) {j:Nat} (hj:s0.aY≠some j) (hl:j<w0):s.aY≠some j:=λe=>by
 rcases h.aY j e with q|q
 ·exact hj q
 ·omega
theorem Ap.trans {B:Nat} {w0 w w':World} {s0 s s':Sl} {b b':List Int} (h:Ap B w0 s0 w s b) (k:Ap B w s w' s' b'):Ap B w0 s0 w' s' b':=
 ⟨k.own,Below.trans h.bel k.bel,λj hj hl=>(k.PN j (h.off hj hl) (j9 hl h.bel.size)).trans (h.PN j hj hl),λj hj=>(k.aY j hj).elim (λq=>h.aY j q) λq=> .inr (fY h.bel.size q),h.low⟩
theorem rdI {w v:World} {l:List Int} {o:TypeId} (e:v=w.alloc (.cells (l.map (Value.int .i64)).toArray o)):RdK v ⟨some ⟨w.heap.size,0,none⟩,l.length,l.length⟩ 1 (l.map iv):=by
 have hr:Row v w (l.map (Value.int .i64)) o:=by rw [e];exact Row.new w _ _
 have hf:∀l:List Int,(l.map iv).flatten=l.map (Value.int .i64):=λl=>by
  induction l with
  |nil=>rfl
  |cons a l ih=>rw [fT,ki,ih];rfl
 exact (aC.jf (B:=0) (k:=1) (Nat.zero_le _) hr (by rw [aM];omega) (aB _) (by rw [hf,fB (by rw [aM];omega)]) λr hr=>by obtain ⟨x,-,rfl⟩:=bg.1 hr;rfl).rd aE
def RX (n:Int):Nat->Int
 |0=>n / 1099511627776 % 256
 |1=>n / 4294967296 % 256
 |2=>n / 16777216 % 256
 |3=>n / 65536 % 256
 |4=>n / 256 % 256
 |_=>n % 256
def BS (n:Int):List Int:=(List.range 6).map (RX n)
def lQ (l:List Int):List Int:=(l.map BS).flatten
theorem tD (n:Int):(BS n).length=6:=rfl
theorem pX (l:List Int):(lQ l).length=6*l.length:=by
 unfold lQ
 induction l with
 |nil=>rfl
 |cons a l ih=>rw [fT,ki,dc,ih,tD,dv];omega
theorem Hx {l:List Int} {k:Nat} {n:Int} (h:l[k]? =some n):lQ (l.take (k+1))=lQ (l.take k)++BS n:=by unfold lQ;rw [dE,h,bZ,List.flatten_append];simp
theorem Yq (n:Int) (q:Nat):0<=RX n q/\RX n q<256:=by unfold RX;split<;>omega
theorem Hy {α:Type} (f:Nat->α) (q:Nat):(List.range (q+1)).map f=(List.range q).map f++ [f q]:=by rw [List.range_succ,bZ];rfl
theorem acC (n:Int) (q:Nat) (hq:q<6):eV (n.fdiv (2 ^(min (aj (8*(5-(q:Int)))).toNat 64)))=RX n q:=by
 rw [wrap_u8];have:q=0\/q=1\/q=2\/q=3\/q=4\/q=5:=by omega
 rcases this with rfl|rfl|rfl|rfl|rfl|rfl
 all_goals
  rw [rM _ aE]
 ·show n / 1099511627776 % 256=_;rfl
 ·show n / 4294967296 % 256=_;rfl
 ·show n / 16777216 % 256=_;rfl
 ·show n / 65536 % 256=_;rfl
 ·show n / 256 % 256=_;rfl
 ·show n / 1 % 256=_;rw [Int.ediv_one];rfl
set_option maxHeartbeats 1000000 in
theorem pY {B:Nat} {w:World} {s:Sl} {b:List Int} (h:mi B w s b) (hB:B<=w) {s1:Sl} {l:List Int} (hl:RdK w s1 1 (l.map iv)) (jb:l≠ []->∀j,s1.aY=some j->s.aY≠some j) (dG:b.length+6*l.length<=900000):
  ah 81 #[s,s1] w λe w'=>∃s':Sl,e=s'/\Ap B w s w' s' (b++lQ l):=by
 apply PO.vc;have Kc:s1.n=l.length:=by rw [hl.n,aM]
 refine ⟨λn x sl wr=>∃k:Nat,x=k/\k+n=l.length/\Ap B w s wr sl (b++lQ (l.take k)),⟨l.length,0,rfl,by omega,by rw [AR];show Ap B w s w s (b++ []);rw [ti];exact Ap.refl h hB⟩,?_⟩;rintro n us x sl wr ⟨k,rfl,hk,ha⟩;apply Br.mk<;>intro hq
 ·have hq:(k:Int)<s1.n:=by simpa using hq
  have N6:k<l.length:=by omega
  obtain ⟨y,hy⟩:=bH N6;have aqJ:l≠ []:=λe=>by rw [e] at N6;exact absurd N6 bt
  have ic:RdK wr s1 1 (l.map iv):=hl.aei λhrn j hj=>ha.PN j (jb aqJ j hj) (hl.PL aE hrn hj)
  have hyi:(l.map iv)[k]? =some (iv y):=by rw [aS,hy];rfl
  have jq:=ic.at hyi (j:=0) (v:=.int .i64 y) rfl;rw [de] at jq;have Rj:(lQ (l.take k)).length=6*k:=by rw [pX,dC];omega
  have wk:=mh (j:=k);refine ⟨ic.gR aE aa hq,y,jq,λn x jJ bF=>∃q:Nat,x=5-(q:Int)/\q+n=6/\Ap B w s bF jJ (b++lQ (l.take k)++(List.range q).map (RX y)),⟨6,0,rfl,rfl,by simpa using ha⟩,?_⟩;rintro n9 Wb x jJ bF ⟨q,rfl,hq6,hA⟩;apply Br.mk<;>intro hc
  ·have hc:(5-(q:Int))>=0:=by simpa using hc
   rw [acC y q aa];refine bA.2 ⟨Cm.2 (by rw [wI];omega),λdY oE=> ?_⟩;obtain ⟨hp,hr⟩:=hA.iN [RX y q] (by simp only [dc,aM,A2,Rj,dv,List.length_nil];omega) oE;refine ⟨hp,λWR cE h17=> ?_⟩;obtain ⟨h1,h2,-⟩:=hr WR cE h17;refine ⟨h2,n9-1,by omega,q+1,by rw [wI];omega,by omega,?_⟩;rw [Hy,<-gO];exact h1
  ·have hc:¬(5-(q:Int))>=0:=by simpa using hc
   have:q=6:=by omega
   subst this;refine ⟨n-1,by omega,k+1,wk,by omega,?_⟩;rw [Hx hy,<-gO];exact hA
 ·have hq:¬(k:Int)<s1.n:=by simpa using hq
  have:k=l.length:=by omega
  subst this;rw [iB] at ha;exact ⟨sl,rfl,ha⟩
def stB (b:Bool):Int:=if b then 1 else 0
abbrev j7 (b:ep):List Int:=[b.aH.1,b.aH.2.1,b.aH.2.2,b.speed.1,b.speed.2.1,b.speed.2.2,b.wd,b.ht]
def gj (i:Int) (b:ep):List Int:=i::(lQ (j7 b)++ [stB b.gZ])
def A1 (L:List (Option ez)) (i:Int):List Int:=match bV L i with|some y=>gj i y.1|none=> []
def ft (L:List (Option ez)) (l:List Int):List Int:=(l.map (A1 L)).flatten
def ia (x:gw.It):List Int:=lQ [x.1,x.2.1,x.2.2.1,x.2.2.2]
def uv (l:List gw.It):List Int:=[((min l.length 2000:Nat):Int) / 256 % 256,((min l.length 2000:Nat):Int) % 256]++((l.take 2000).map ia).flatten
def dD (now:Int) (n:Nat):List Int:=BS now++ [(n:Int) % 256]
def me (M:Sm) (L:List (Option ez)):List Int:=dD M.now (cn L).length++ft L (cn L)++uv M.q.l
theorem sU (L:List (Option ez)):(cn L).length<=16:=by unfold cn;rw [aM];have:=List.length_filter_le (λi:Nat=>(bV L (i:Nat)).isSome) (List.range 16);rw [A2] at this;exact this
theorem Ms {L:List (Option ez)} {x:Int} (h:x ∈ cn L):∃i:Nat,x=i/\i<16/\∃y,bV L i=some y:=by unfold cn at h;obtain ⟨i,hi,rfl⟩:=bg.1 h;obtain ⟨h1,h2⟩:=List.mem_filter.1 hi;exact ⟨i,rfl,List.mem_range.1 h1,nv.1 h2⟩
theorem Ev (i:Int) (b:ep):(gj i b).length=50:=by unfold gj;rw [dv,dc,pX];rfl
theorem wg (L:List (Option ez)):∀l:List Int,(ft L l).length<=50*l.length
 | []=>aB _
 |x::l=>by
  have:=wg L l
  unfold ft at this ⊢
  rw [fT,ki,dc,dv]
  have:(A1 L x).length<=50:=by
   unfold A1;split
   ·rw [Ev];exact aB _
   ·exact Nat.zero_le _
  omega
theorem Bi (x:gw.It):(ia x).length=24:=by unfold ia;rw [pX];rfl
theorem uw {α:Type} (f:α->List Int) {l:List α} {k:Nat} {x:α} (h:l[k]? =some x):((l.take (k+1)).map f).flatten=((l.take k).map f).flatten++f x:=by rw [dE,h,bZ,List.flatten_append];simp
theorem Jr:∀l:List gw.It,(l.map ia).flatten.length=24*l.length
 | []=>rfl
 |x::l=>by rw [fT,ki,dc,Bi,Jr l,dv];omega
theorem age {B E k:Nat} {w:World} {s:Sl} {xs:LV} (h:Vc.Own B E k w s xs):s.n<=s.c:=by
 cases h with
 |nil=>exact aB _
 |row g n c cs hg hr hc hn=>exact hn
theorem Mt {w:World} {b:Nat} {y:ez} (hr:Row w b (JY y) kT) (j:Nat) {v:Value} (h:(JY y)[j]? =some v):ag w (ae (some ⟨b,0,none⟩) j) 0 [v]:=by rw [bh,eB];exact mC hr h
theorem yp {w:World} {b:Nat} {y:ez} (hr:Row w b (JY y) kT) (j:Nat) {v:Value} (h:(JY y)[j]? =some v):Vc.ld w (ae (some ⟨b,0,none⟩) j)=some v:=hr.at j h
section
variable {F F':Nat->Prop} {w w':World} {g s o t:Nat} {M M':Sm} {occ:Value} {L:List (Option ez)}
theorem uk (h:SF F w s o t M occ):ah 68 #[s] w λe w'=>e=(M.now)/\w'=w:=by obtain ⟨g,sd,h1,-⟩:=h.row;apply KX.vc;exact ⟨_,h1.at 3 rfl,rfl,rfl⟩
set_option maxHeartbeats 4000000 in
theorem Bj (h:EF F w g s o t M occ L):ah 26 #[g] w λe w'=>∃sl:Sl,e=Value.slice sl.a sl.n sl.c/\mi w w' sl (me M L)/\Ext w w':=by
 apply tO.vc;refine (HB h).mono ?_;rintro e w1 ⟨s1,rfl,ho1,x1⟩;have z1:=x1.size;have h1:=h.ext x1;have Kc:s1.n=(cn L).length:=by rw [(ho1.rd aE).n,aM]
 have hll:=sU L;obtain ⟨Fs,hs,jq,eM,-⟩:=h1.sV;refine ⟨s1,rfl,_,jq,(uk hs).mono ?_⟩;rintro e w3 ⟨rfl,N7⟩;subst N7;refine ⟨_,rfl,λw5 e5=> ?_⟩;have x5:=aL e5;have z5:=zA e5;have hr5:=rdI (l:=[M.now]) e5;refine (pY (B:=w3.heap.size) (s:=⟨none,0,0⟩) (b:=[]) aC.nil x5.size hr5 (λ_ j _ q=>(by cases q)) bt).mono ?_;rintro e w6 ⟨s7,rfl,a6⟩;have e6:([]:List Int)++lQ [M.now]=BS M.now:=by show BS M.now++ []=_;rw [ti]
 rw [e6] at a6;refine ⟨s7,rfl,λw8 e8=> ?_⟩;have ew:eV ((s1.n:Nat):Int)=((cn L).length:Int) % 256:=by rw [wrap_u8,Kc]
 rw [ew] at e8 ⊢;obtain ⟨B8,hr8⟩:=a6.iN [((cn L).length:Int) % 256] (by rw [tD];simp) e8;have z8:=zA e8;refine ⟨B8,λs9 bD r10=> ?_⟩;obtain ⟨a10,k10,-,b10,Sr⟩:=hr8 s9 bD r10;replace a10:Ap w3 w5 ⟨none,0,0⟩ bD s9 (dD M.now (cn L).length):=a10;have z6:=a6.bel.size;have ahM:Ext w3 bD:=x5.trans (Below.mono a10.bel (aB _));have n96:s9.aY≠some w6.heap.size:=eK b10 (a6.ne (aB _)) aa;have ht7:(dD M.now (cn L).length).length=7:=rfl;have A0:Ap w3 bD s9 bD s9 (dD M.now (cn L).length):=Ap.refl a10.own aa;refine ⟨k10,λn x sl wr=>∃k:Nat,x=k/\k+n=(cn L).length/\Ap w3 bD s9 wr sl (dD M.now (cn L).length++ft L ((cn L).take k)),⟨(cn L).length,rfl,0,rfl,by omega,by rw [AR];show Ap _ _ _ _ _ (_++ []);rw [ti];exact A0⟩,?_⟩;rintro n us x lg cB ⟨k,rfl,hk,Rm⟩;have ahO:Ext w3 cB:=ahM.trans (Below.mono Rm.bel (aB _));have z16:=Rm.bel.size;have kF:(dD M.now (cn L).length++ft L ((cn L).take k)).length<=1000:=by have:=wg L ((cn L).take k);rw [dC] at this;rw [dc,ht7];omega
 apply Br.mk<;>intro hq
 ·have hq:(k:Int)<s1.n:=by simpa using hq
  obtain ⟨v,hv⟩:=bH (l:=cn L) (i:=k) aa;obtain ⟨i,rfl,Fk,y,hy⟩:=Ms (aZ hv);have ic:=(ho1.ext ahO).rd (show 0<1 by decide);have hvi:((cn L).map λi=> [Value.int .i64 i])[k]? =some [.int .i64 (i:Int)]:=by rw [aS,hv];rfl
  have aaZ:=ic.at hvi (j:=0) (v:=.int .i64 i) rfl;rw [de] at aaZ;obtain ⟨av,cN,iV,-,-,-⟩:=h1.row;obtain ⟨b,hab,Re⟩:=iV.full Fk hy;have rowU:∀{u:World} {c:Sl} {bs:List Int},Ap w3 bD s9 u c bs->Row u b (JY y) kT:=λ{u c bs} ha=>Re.ext (ahM.trans (Below.mono ha.bel (aB _)))
  have arL:=rowU Rm;have xd:=Ext.dr cB;have rbd:=arL.ext xd;have zd:=lv cB;have ad:=Rm.ext xd;have wk:=mh (j:=k);have ei:eV ((i:Nat):Int)=(i:Int):=by rw [wrap_u8];omega
  refine ⟨ic.gR aE aa hq,_,aaZ,by omega,by omega,_,IF (cN.ext ahO) hab,?_⟩;refine ⟨λc u=>Ap w3 bD s9 u c (dD M.now (cn L).length++ft L ((cn L).take k)++((i:Int)::lQ (j7 y.1))),?_,?_⟩
  ·refine gr rfl (gr rfl (gr rfl (gr rfl ⟨_,yp rbd 0 rfl,gr rfl (gr rfl (gr rfl (gr rfl ⟨_,yp rbd 1 rfl,gr rfl (gr rfl (gr rfl (gr rfl ⟨_,yp rbd 2 rfl,gr rfl (gr rfl (gr rfl (gr rfl ⟨_,yp rbd 3 rfl,gr rfl (gr rfl (gr rfl (gr rfl ⟨_,yp rbd 4 rfl,gr rfl (gr rfl (gr rfl (gr rfl ⟨_,yp rbd 5 rfl,gr rfl (gr rfl (gr rfl ⟨_,yp rbd 6 rfl,gr rfl (gr rfl (gr rfl ⟨_,yp rbd 7 rfl,?_⟩))⟩))⟩)))⟩)))⟩)))⟩)))⟩)))⟩)));rw [ei];have fin:∀{u u':World} {c c':Sl},Ap w3 bD s9 u c (dD M.now (cn L).length++ft L ((cn L).take k)++ [(i:Int)])->Ap w3 u c u' c' (dD M.now (cn L).length++ft L ((cn L).take k)++ [(i:Int)]++lQ (j7 y.1))->Ap w3 bD s9 u' c' (dD M.now (cn L).length++ft L ((cn L).take k)++((i:Int)::lQ (j7 y.1))):=λh1 h2=>by have:=h1.trans h2;rw [gO,gO] at this;rw [gO];exact this
   have hlen1:((dD M.now (cn L).length++ft L ((cn L).take k))++ [(i:Int)]).length+6*(j7 y.1).length<=900000:=by rw [dc];show _+1+6*8<=_;omega
   have Wp:lg.aY≠some w6.heap.size:=Rm.off n96 aa;refine ⟨λdH MP=>⟨?_,λie e35=> ?_⟩,λik QJ jm e41=> ?_⟩
   ·obtain ⟨hp,hr⟩:=ad.iN [(i:Int)] (by rw [dv,List.length_nil];omega) MP;have z29:=zA MP;refine ⟨hp,λsS fj r31=> ?_⟩;obtain ⟨a31,k31,m31,WI,z31⟩:=hr sS fj r31;have Nk:=rowU a31;refine ⟨m31 _ Wp aa,k31,Mt Nk 7 rfl,Mt Nk 6 rfl,Mt Nk 5 rfl,Mt Nk 4 rfl,Mt Nk 3 rfl,Mt Nk 2 rfl,Mt Nk 1 rfl,Mt Nk 0 rfl,λj6 Q7=> ?_⟩;have a32:=a31.ext (aL Q7);have z32:=zA Q7;have hrd32:=rdI (l:=j7 y.1) Q7;have nd:sS.aY≠some cB.drew.heap.size:=eK WI (Rm.ne (aB _)) aa;refine (pY a32.own (by have:=a32.bel.size;omega) hrd32 (λ_ j hj q=> ?_) hlen1).mono ?_
    ·have hj:j=fj.heap.size:=(Option.some.inj hj).symm;subst hj;exact a31.ne (aB _) q
    rintro e ej ⟨s34,rfl,a33⟩;exact ⟨s34,rfl,a33.PN _ (a31.off n96 aa) aa,a33.PN _ nd aa,rfl,fin a32 a33⟩
   ·have fI:=aL MP;have z29:=zA MP;obtain ⟨hp,hr⟩:=(ad.ext fI).iN [(i:Int)] (by rw [dv,List.length_nil];omega) e35;have z35:=zA e35;have hrd35:=rdI (l:=j7 y.1) e35;refine ⟨hp,λKd gJ r37=> ?_⟩;obtain ⟨a37,k37,m37,b37,z37⟩:=hr Kd gJ r37;have nd:lg.aY≠some cB.drew.heap.size:=Rm.ne (aB _);have WO:Kd.aY≠some dH.heap.size:=eK b37 (Rm.ne aa) aa;refine ⟨m37 _ Wp aa,m37 _ nd aa,k37,(pY a37.own (by have:=a37.bel.size;omega) (hrd35.same λj hj=> ?_) (λ_ j hj q=> ?_) hlen1).mono ?_⟩
    ·have hj:j=dH.heap.size:=(Option.some.inj hj).symm;subst hj;exact k37
    ·have hj:j=dH.heap.size:=(Option.some.inj hj).symm;subst hj;exact WO q
    rintro e mX ⟨Sv,rfl,a38⟩;exact ⟨Sv,rfl,a38.PN _ (a37.off n96 aa) aa,a38.PN _ (eK b37 nd aa) aa,rfl,fin a37 a38⟩
   ·have lW:=aL QJ;have z40:=zA QJ;have hrd40:=rdI (l:=j7 y.1) QJ;obtain ⟨hp,hr⟩:=(ad.ext lW).iN [(i:Int)] (by rw [dv,List.length_nil];omega) e41;have z41:=zA e41;have kq:=aL e41;refine ⟨hp,λs42 il r43=> ?_⟩;obtain ⟨a43,k43,m43,MU,z43⟩:=hr s42 il r43;have nd:lg.aY≠some cB.drew.heap.size:=Rm.ne (aB _);have n40:lg.aY≠some ik.heap.size:=Rm.ne aa;refine ⟨m43 _ Wp aa,m43 _ nd aa,k43,(pY a43.own (by have:=a43.bel.size;omega) ((hrd40.ext kq).same λj hj=> ?_) (λ_ j hj q=> ?_) hlen1).mono ?_⟩
    ·have hj:j=cB.drew.heap.size:=(Option.some.inj hj).symm;subst hj;exact m43 _ nd aa
    ·have hj:j=cB.drew.heap.size:=(Option.some.inj hj).symm;subst hj;exact eK MU nd aa q
    rintro e jV ⟨s45,rfl,a44⟩;exact ⟨s45,rfl,a44.PN _ (a43.off n96 aa) aa,a44.PN _ (eK MU n40 aa) aa,rfl,fin a43 a44⟩
  ·intro alP vl fG Nl;have arQ:=rowU Nl;have z48:=Nl.bel.size;have arR:(dD M.now (cn L).length++ft L ((cn L).take k)++((i:Int)::lQ (j7 y.1))).length<=2000:=by rw [dc,dv,pX];show _+(6*8+1)<=_;omega
   have endS:∀(st:Int),st=stB y.1.gZ->∀{v:World} {c:Sl},Ap w3 bD s9 v c (dD M.now (cn L).length++ft L ((cn L).take k)++((i:Int)::lQ (j7 y.1))++ [st])->Ap w3 bD s9 v c (dD M.now (cn L).length++ft L ((cn L).take (k+1))):=λst gC {v c} h=>by
    have e:ft L ((cn L).take (k+1))=ft L ((cn L).take k)++((i:Int)::(lQ (j7 y.1)++ [st])):=by unfold ft;rw [uw (A1 L) hv];unfold A1 gj;rw [hy,gC]
    rw [e,<-gO];rw [gO] at h;exact h
   refine gr rfl (gr rfl (gr rfl ⟨_,yp arQ 8 rfl,Br.mk (λhb=>λkM e50=> ?_) (λhb=>λSU e53=> ?_)⟩))
   ·obtain ⟨hp,hr⟩:=Nl.iN [1] (by rw [dv,List.length_nil];omega) e50;have z50:=zA e50;refine ⟨hp,λs51 Ny r52=> ?_⟩;obtain ⟨a52,k52,m52,b52,z52⟩:=hr s51 Ny r52;exact ⟨m52 _ (Nl.off n96 aa) aa,k52,n-1,by omega,rfl,k+1,wk,by omega,endS 1 (by rw [hb];rfl) a52⟩
   ·obtain ⟨hp,hr⟩:=Nl.iN [0] (by rw [dv,List.length_nil];omega) e53;have z53:=zA e53;refine ⟨hp,λCD yH r55=> ?_⟩;obtain ⟨a55,k55,m55,b55,z55⟩:=hr CD yH r55;exact ⟨m55 _ (Nl.off n96 aa) aa,k55,n-1,by omega,rfl,k+1,wk,by omega,endS 0 (by rw [hb];rfl) a55⟩
 ·have hq:¬(k:Int)<s1.n:=by simpa using hq
  have hk':k=(cn L).length:=by omega
  subst hk';rw [iB] at Rm kF;obtain ⟨ay0,alQ,hld16,-,-⟩:=(h1.ext ahO).sV;refine ⟨_,hld16,(u9 alQ).mono ?_⟩;rintro e l8 ⟨mc,rfl,Ro,l6⟩;have z57:=l6.size;obtain ⟨gq,mq,qs,-,qe,-⟩:=alQ.queue;have hql:M.q.l.length<=4096:=by have:=qe.len;have:=qe.room;omega
  have ad1:mc.n=M.q.l.length:=by rw [(Ro.rd (show 0<4 by decide)).n,aM]
  have arT:=(Ro.rd (show 0<4 by decide));have MQ:mc.n<=mc.c:=age Ro.own;have Wp:lg.aY≠some w6.heap.size:=Rm.off n96 aa;have ahP:(if 2000<((mc.n:Nat):Int) then 2000 else ((mc.n:Nat):Int))=((min M.q.l.length 2000:Nat):Int):=by rw [ad1];split<;>omega
  refine ⟨mc,rfl,l6.heap aa,?_⟩;rw [ahP];refine ⟨by omega,by omega,λsQ WN=> ?_⟩;rw [eg];have a57:=Rm.ext l6;have eb1:eV (((((((min M.q.l.length 2000:Nat):Int):Int).toNat-0:Nat):Int)).fdiv (2 ^(min (8:Int).toNat 64)))=((min M.q.l.length 2000:Nat):Int) / 256 % 256:=by rw [wrap_u8,rM _ aE];rfl
  have eb2:eV ((((((min M.q.l.length 2000:Nat):Int):Int).toNat-0:Nat):Int))=((min M.q.l.length 2000:Nat):Int) % 256:=by rw [wrap_u8];rfl
  rw [eb1,eb2] at WN ⊢;obtain ⟨hp,hr⟩:=a57.iN [((min M.q.l.length 2000:Nat):Int) / 256 % 256,((min M.q.l.length 2000:Nat):Int) % 256] (by rw [dv,dv,List.length_nil];omega) WN;have z59:=zA WN;refine ⟨hp,λRp mY r61=> ?_⟩;obtain ⟨a61,k61,m61,b61,z61⟩:=hr Rp mY r61;have lf:=aL WN;have arW:Rp.aY≠some w6.heap.size:=eK b61 Wp aa;have alR:Rp.aY≠some l8.heap.size:=eK b61 (a57.ne (aB _)) aa;have ahR:∀j,mc.aY=some j->cB.heap.size<=j/\j<l8.heap.size:=λj hj=>Ro.own.lt hj
  have alS:∀j,mc.aY=some j->Rp.aY≠some j:=λj hj=>by obtain ⟨q1,q2⟩:=ahR j hj;exact eK b61 (Rm.ne q1) aa
  have hrd61:RdK mY mc 4 (M.q.l.map fE):=arT.same λj hj=>by obtain ⟨q1,q2⟩:=ahR j hj;exact (m61 j (Rm.ne q1) aa).trans (lf.heap q2)
  let W:=M.q.l.take 2000
  have hW:W.length=min M.q.l.length 2000:=by rw [dC,Nat.min_comm]
  have A61:Ap w3 mY Rp mY Rp (dD M.now (cn L).length++ft L (cn L)++ [((min M.q.l.length 2000:Nat):Int) / 256 % 256,((min M.q.l.length 2000:Nat):Int) % 256]):=Ap.refl a61.own (by have:=a61.bel.size;omega);have ahx:((((min M.q.l.length 2000:Nat):Int)).toNat-0:Nat)=W.length:=by rw [hW];omega
  rw [ahx];refine ⟨m61 _ Wp aa,k61,λn x sl wr=>∃k:Nat,x=k/\k+n=W.length/\Ap w3 mY Rp wr sl (dD M.now (cn L).length++ft L (cn L)++ [((min M.q.l.length 2000:Nat):Int) / 256 % 256,((min M.q.l.length 2000:Nat):Int) % 256]++((W.take k).map ia).flatten),⟨W.length,rfl,rfl,0,rfl,by omega,by rw [AR];show Ap _ _ _ _ _ (_++ []);rw [ti];exact A61⟩,?_⟩;rintro n2 wM x s66 jY ⟨k,rfl,hk,a67⟩;have z67:=a67.bel.size;apply Br.mk<;>intro hq
  ·have hq:(k:Int)<W.length:=by simpa using hq
   have hkW:k<W.length:=by omega
   obtain ⟨it,WM⟩:=bH hkW;have ad2:M.q.l[k]? =some it:=by have h2:W[k]? =M.q.l[k]? :=List.getElem?_take_of_lt aa;rw [<-h2];exact WM
   have cN:(M.q.l.map fE)[k]? =some (fE it):=by rw [aS,ad2];rfl
   have hrd67:RdK jY mc 4 (M.q.l.map fE):=hrd61.same λj hj=>a67.PN j (alS j hj) (by have:=ahR j hj;omega)
   have mW:ee mc.a (k:Int) W.length:=by obtain ⟨q1,q2,q3⟩:=hrd67.gR (i:=(k:Int)) aE aa aa;exact ⟨q1,q2,hq⟩
   refine ⟨mW,_,_,_,_,hrd67.bY cN,λFG e73 jK e74 pn Wg=> ?_⟩;have pB:Ext jY jK:=(aL e73).af e74 (aB _);have z74:jK.heap.size=jY.heap.size+1:=by rw [zR e74,zA e73]
   have tX:=aL Wg;have z75:=zA Wg;have hrd75:=rdI (l:=[it.1,it.2.1,it.2.2.1,it.2.2.2]) Wg;have a75:=a67.ext (pB.tr tX);have ay3:(dD M.now (cn L).length++ft L (cn L)++ [((min M.q.l.length 2000:Nat):Int) / 256 % 256,((min M.q.l.length 2000:Nat):Int) % 256]++((W.take k).map ia).flatten).length<=100000:=by rw [dc,dc,Jr,dC];show _+2+_<=_;omega
   refine (pY a75.own (by have:=a75.bel.size;omega) hrd75 (λ_ j hj q=> ?_) (by show _+6*4<=_;omega)).mono ?_
   ·have hj:j=jK.heap.size:=(Option.some.inj hj).symm;subst hj;exact a67.ne aa q
   rintro e iq ⟨s77,rfl,a76⟩;refine ⟨s77,rfl,a76.PN _ (a67.off arW aa) aa,a76.PN _ (a67.off alR aa) aa,a76.PN _ (a67.ne (aB _)) aa,n2-1,by omega,rfl,rfl,k+1,by rw [wI];omega,by omega,?_⟩;rw [uw ia WM,<-gO];exact a75.trans a76
  ·have hq:¬(k:Int)<W.length:=by simpa using hq
   have hk':k=W.length:=by omega
   subst hk';rw [iB] at a67;refine ⟨s66,rfl,?_,?_⟩
   ·have e:me M L=dD M.now (cn L).length++ft L (cn L)++ [((min M.q.l.length 2000:Nat):Int) / 256 % 256,((min M.q.l.length 2000:Nat):Int) % 256]++(W.map ia).flatten:=by unfold me uv;rw [<-gO]
    rw [e];exact aC.low a67.own z1
   ·have b3:Below w3 w3 jY:=Below.trans ahM (Below.trans a61.bel a67.bel);exact x1.tr b3
end
def uq:Nat->Int
 |0=>1099511627776
 |1=>4294967296
 |2=>16777216
 |3=>65536
 |4=>256
 |5=>1
 |_=>0
theorem ac1 (q:Nat) (hq:q<6):aj (Int.tdiv (uq q) 256)=uq (q+1):=by
 have:q=0\/q=1\/q=2\/q=3\/q=4\/q=5:=by omega
 rcases this with rfl|rfl|rfl|rfl|rfl|rfl<;>decide
theorem agm {n:Int} (h0:0<=n) (h1:n<=4611686018427387904) (q:Nat) (hq:q<6):eV (Int.tmod (aj (Int.tdiv n (uq q))) 256)=RX n q:=by
 have hu:0<uq q:=by
  have:q=0\/q=1\/q=2\/q=3\/q=4\/q=5:=by omega
  rcases this with rfl|rfl|rfl|rfl|rfl|rfl<;>decide
 have hd:0<=n / uq q/\n / uq q<=n:=⟨Int.ediv_nonneg h0 (Int.le_of_lt hu),Int.ediv_le_self _ h0⟩;rw [pK h0,wI,Int.tmod_eq_emod_of_nonneg hd.1,wrap_u8,Int.emod_emod_of_dvd _ (Int.dvd_refl 256)];have:q=0\/q=1\/q=2\/q=3\/q=4\/q=5:=by omega
 rcases this with rfl|rfl|rfl|rfl|rfl|rfl
 ·rfl
 ·rfl
 ·rfl
 ·rfl
 ·rfl
 ·show n / 1 % 256=n % 256;rw [Int.ediv_one]
theorem ZC (n:Int) (q:Nat) (hq:q<6):RX (n+281474976710656) q=RX n q:=by
 have:q=0\/q=1\/q=2\/q=3\/q=4\/q=5:=by omega
 rcases this with rfl|rfl|rfl|rfl|rfl|rfl
 ·show (n+281474976710656) / 1099511627776 % 256=n / 1099511627776 % 256;omega
 ·show (n+281474976710656) / 4294967296 % 256=n / 4294967296 % 256;omega
 ·show (n+281474976710656) / 16777216 % 256=n / 16777216 % 256;omega
 ·show (n+281474976710656) / 65536 % 256=n / 65536 % 256;omega
 ·show (n+281474976710656) / 256 % 256=n / 256 % 256;omega
 ·show (n+281474976710656) % 256=n % 256;omega
abbrev CI (n:Int):Prop:= -281474976710656<=n/\n<=4611686018427387904
theorem Bo (n:Int) (hn:CI n) (w:World):ah 89 #[n] w λe w'=>∃s:Sl,e=s/\mi w w' s (BS n)/\Ext w w':=by
 apply Jy.vc;have body:∀(n':Int),0<=n'->n'<=4611686018427387904->(∀q,q<6->RX n' q=RX n q)->∃I0:Nat->Int->Sl->Int->World->Prop,
   (∃n1,I0 n1 (0) ⟨none,0,0⟩ (1099511627776) w)/\
   ∀(n1:Nat) (wM:Nat->Value) (x3:Int) (s4:Sl) (x5:Int) (w6:World),I0 n1 x3 s4 x5 w6->
   Br (decide ((x3:Int)<6))
   (aP (JX x5) (∀w8:World,w8=w6.alloc (.cells #[.int .u8 (eV (Int.tmod (aj (Int.tdiv n' x5)) 256))] hX)->
   ba 1 1 w8 ⟨s4.a,s4.n,s4.c⟩ 1 [.int .u8 (eV (Int.tmod (aj (Int.tdiv n' x5)) 256))]/\∀(s9:Sl) (bD:World),aV hX 1 w8 ⟨s4.a,s4.n,s4.c⟩ 1 [.int .u8 (eV (Int.tmod (aj (Int.tdiv n' x5)) 256))] s9 bD->bD.heap[w6.heap.size]? =w8.heap[w6.heap.size]?/\
   ∃n7,n7<n1/\I0 n7 ((aj (x3+1))) ⟨s9.a,s9.n,s9.c⟩ ((aj (Int.tdiv x5 256))) bD))
   (∃s:Sl,Ending.returned s4=s/\mi w w6 s (BS n)/\Ext w w6):=by
  intro n' h0 h1 hq;refine ⟨λm x sl u wr=>∃q:Nat,x=q/\q+m=6/\u=uq q/\Ap w w ⟨none,0,0⟩ wr sl ((List.range q).map (RX n)),⟨6,0,rfl,rfl,rfl,Ap.refl aC.nil (aB _)⟩,?_⟩;rintro m us x s4 x5 w6 ⟨q,rfl,hm,rfl,ha⟩;apply Br.mk<;>intro hc
  ·have hc:(q:Int)<6:=by simpa using hc
   have hq6:q<6:=by omega
   rw [agm h0 h1 q hq6,hq q hq6];refine bA.2 ⟨qx.2 ?_,λw8 e8=> ?_⟩
   ·have:q=0\/q=1\/q=2\/q=3\/q=4\/q=5:=by omega
    rcases this with rfl|rfl|rfl|rfl|rfl|rfl<;>decide
   obtain ⟨hp,hr⟩:=ha.iN [RX n q] (by simp only [aM,A2,dv,List.length_nil];omega) e8;refine ⟨hp,λs9 bD r10=> ?_⟩;obtain ⟨h1,h2,-⟩:=hr s9 bD r10;refine ⟨h2,m-1,by omega,q+1,by rw [wI];omega,by omega,ac1 q hq6,?_⟩;rw [Hy];exact h1
  ·have hc:¬(q:Int)<6:=by simpa using hc
   have:q=6:=by omega
   subst this;exact ⟨s4,rfl,ha.own,ha.bel⟩
 refine Br.mk (λh=> ?_) (λh=>body n (by simp at h;omega) hn.2 λ_ _=>rfl);have h:n<0:=by simpa using h
 have e:aj (n+281474976710656)=n+281474976710656:=wI;rw [e];exact body _ aa aa λq hq=>ZC n q hq
theorem yx {w:World} {s1:Sl} {l:List Int} (hl:RdK w s1 1 (l.map iv)) (hn:∀x ∈ l,CI x) (dG:l.length<=10000):ah 90 #[s1] w λe w'=>∃s:Sl,e=s/\mi w w' s (lQ l)/\Ext w w':=by
 apply Gn.vc;have Kc:s1.n=l.length:=by rw [hl.n,aM]
 refine ⟨λn x sl wr=>∃k:Nat,x=k/\k+n=l.length/\Ap w w ⟨none,0,0⟩ wr sl (lQ (l.take k)),⟨l.length,0,rfl,by omega,Ap.refl aC.nil (aB _)⟩,?_⟩;rintro n us x sl wr ⟨k,rfl,hk,ha⟩;apply Br.mk<;>intro hq
 ·have hq:(k:Int)<s1.n:=by simpa using hq
  obtain ⟨y,hy⟩:=bH (l:=l) (i:=k) aa;have ic:RdK wr s1 1 (l.map iv):=hl.ext ha.bel;have hyi:(l.map iv)[k]? =some (iv y):=by rw [aS,hy];rfl
  have jq:=ic.at hyi (j:=0) (v:=.int .i64 y) rfl;rw [de] at jq;refine ⟨ic.gR aE aa hq,y,jq,(Bo y (hn y (aZ hy)) wr).mono ?_⟩;rintro e w8 ⟨s9,rfl,ho9,x8⟩;have hn9:s9.n=(BS y).length:=by rw [(ho9.rd aE).n,aM]
  obtain ⟨hp,hr⟩:=(ha.ext x8).app (BS y) (by rw [pX,dC,tD];omega);refine ⟨s9,rfl,_,(ho9.rd aE).flat aE,by rw [hn9];exact hp,λAz cM r12=> ?_⟩;rw [hn9] at r12;obtain ⟨h1,-⟩:=hr Az cM r12;refine ⟨n-1,by omega,k+1,by rw [wI];omega,by omega,?_⟩;rw [Hx hy];exact h1
 ·have hq:¬(k:Int)<s1.n:=by simpa using hq
  have:k=l.length:=by omega
  subst this;rw [iB] at ha;exact ⟨sl,rfl,ha.own,ha.bel⟩
abbrev Xr:=Int × ep
abbrev XK (x:Xr):LV:=.int .i64 x.1::jo x.2
def DB (now:Int) (xs:List Xr) (ws:List gw.It):List Int:=dD now xs.length++(xs.map λx=>gj x.1 x.2).flatten++uv ws
theorem iP {w:World} {s:Sl} {k:Nat} {rows:List (LV)} (h:RdK w s k rows) {i:Nat} {r:LV} (hi:rows[i]? =some r) {off:Nat} {vs:LV} (hv:∀j,j<vs.length->r[off+j]? =vs[j]?):ag w (ae (ae s.a (i*k)) off) 0 vs:=
 lR λj hj=>by have e:=hv j hj;have hs:vs[j]? =some vs[j]:=c8 hj;rw [hs] at e ⊢;have:=h.at hi (j:=off+j) e;rw [de,eB];exact this
theorem ajr:∀l:List Xr,(l.map λx=>gj x.1 x.2).flatten.length=50*l.length
 | []=>rfl
 |x::l=>by rw [fT,ki,dc,Ev,ajr l,dv];omega
set_option maxHeartbeats 4000000 in
theorem CP {now:Int} {sx sw:Sl} {xs:List Xr} {ws:List gw.It} {w:World} (hx:RdK w sx 10 (xs.map XK)) (hw:RdK w sw 4 (ws.map fE)) (adQ:CI now) (hxn:xs.length<=16) (hwn:ws.length<=4096)
  (hxb:∀x ∈ xs,(0<=x.1/\x.1<16)/\∀n ∈ j7 x.2,CI n) (FI:∀x ∈ ws,∀n ∈ [x.1,x.2.1,x.2.2.1,x.2.2.2],CI n):
  ah 34 #[.agg #[now,sx,sw]] w λe w'=>∃sl:Sl,e=Value.slice sl.a sl.n sl.c/\mi w w' sl (DB now xs ws)/\Ext w w':=by
 apply (ME.vc (aq:=sx) (au:=sw));have hnx:sx.n=xs.length:=by rw [hx.n,aM]
 have hnw:sw.n=ws.length:=by rw [hw.n,aM]
 intro w0 e0;have x0:=aL e0;have z0:=zA e0;have r0:∃τ,Row w0 w [now,sx,sw] τ:=⟨_,by rw [e0];exact Row.new w [_,_,_] _⟩;obtain ⟨τ,r0⟩:=r0;refine (Bo now adQ w0).mono ?_;rintro e w1 ⟨s2,rfl,vm,x1⟩;have z1:=x1.size;refine ⟨s2,rfl,x1.heap aa,λw3 e3=> ?_⟩;have ew:eV ((sx.n:Nat):Int)=(xs.length:Int) % 256:=by rw [wrap_u8,hnx]
 rw [ew] at e3 ⊢;have a1:Ap w0 w1 s2 w1 s2 (BS now):=Ap.refl vm x1.size;obtain ⟨hp3,hr3⟩:=a1.iN [(xs.length:Int) % 256] (by rw [tD];simp) e3;have z3:=zA e3;have n2w:s2.aY≠some w.heap.size:=λq=>by have:=(vm.own.lt q).1;omega
 refine ⟨hp3,λs4 w5 r5=> ?_⟩;obtain ⟨a5,k5,m5,b5,z5⟩:=hr3 s4 w5 r5;replace a5:Ap w0 w1 s2 w5 s4 (dD now xs.length):=a5;have Nc:Ext w0 w5:=x1.trans a5.bel;have n4w:s4.aY≠some w.heap.size:=eK b5 n2w aa;have n41:s4.aY≠some w1.heap.size:=eK b5 (a1.ne (aB _)) aa;have ht7:(dD now xs.length).length=7:=rfl;have A5:Ap w0 w5 s4 w5 s4 (dD now xs.length):=Ap.refl a5.own aa;refine ⟨m5 _ n2w aa,k5,?_⟩;refine ⟨λn x sl wr=>∃k:Nat,x=k/\k+n=xs.length/\Ap w0 w5 s4 wr sl (dD now xs.length++((xs.take k).map λx=>gj x.1 x.2).flatten),⟨xs.length,rfl,rfl,0,rfl,by omega,by rw [AR];show Ap _ _ _ _ _ (_++ []);rw [ti];exact A5⟩,?_⟩;rintro n us x wT aW ⟨k,rfl,hk,a11⟩;have z11:=a11.bel.size;have Wu:Ext w0 aW:=Nc.trans a11.bel;have kF:(dD now xs.length++((xs.take k).map λx=>gj x.1 x.2).flatten).length<=1000:=by rw [dc,ajr,dC,ht7];omega
 have n10w:=a11.off n4w aa;have ad6:=a11.off n41 aa;apply Br.mk<;>intro hq
 ·have hq:(k:Int)<sx.n:=by simpa using hq
  obtain ⟨v,hv⟩:=bH (l:=xs) (i:=k) aa;obtain ⟨⟨hv0,azR⟩,hvb⟩:=hxb v (aZ hv);have hvr:(xs.map XK)[k]? =some (XK v):=by rw [aS,hv];rfl
  have hrd11:=hx.ext (x0.tr Wu);have eM:∀j,j<(jo v.2).length->(XK v)[1+j]? =(jo v.2)[j]? :=λj _=>by rw [Nat.add_comm,A3]
  have mW:=hrd11.gR (i:=(k:Int)) aE aa hq;refine ⟨mW,bA.2 ⟨g9.2 (by rw [fL];exact mW.1),_,_,_,_,_,_,_,_,_,iP hrd11 hvr eM,λcL wN dT H5=> ?_⟩⟩;have dz:Ext aW dT:=(aL wN).af H5 (aB _);have z23:dT.heap.size=aW.heap.size+1:=by rw [zR H5,zA wN]
  have hrd23:=hrd11.ext dz;have hin2:=hrd23.gR (i:=(k:Int)) aE aa hq;refine ⟨hin2,bA.2 ⟨g9.2 (by rw [fL];exact hin2.1),_,hrd23.at hvr (j:=0) (v:=.int .i64 v.1) rfl,λcP wB=> ?_⟩⟩;have ei:eV v.1=v.1:=by rw [wrap_u8];omega
  rw [ei] at wB ⊢;obtain ⟨hp,hr⟩:=(a11.ext dz).iN [v.1] (by rw [dv,List.length_nil];omega) wB;have z25:=zA wB;refine ⟨hp,λN5 eo r27=> ?_⟩;obtain ⟨a27,k27,m27,Ax,z27⟩:=hr N5 eo r27;have aff:wT.aY≠some aW.heap.size:=a11.ne (aB _);have amr:wT.aY≠some dT.heap.size:=a11.ne aa;refine ⟨m27 _ n10w aa,m27 _ ad6 aa,m27 _ aff aa,k27,λgn e28=> ?_⟩;have gy:=aL e28;have z28:=zA e28;have hrd28:=rdI (l:=j7 v.2) e28;refine (yx hrd28 hvb (by show 8<=10000;decide)).mono ?_;rintro e dH ⟨sS,rfl,ams,fI⟩;have z29:=fI.size;have ahT:sS.n=(lQ (j7 v.2)).length:=by rw [(ams.rd aE).n,aM]
  have Rj:(lQ (j7 v.2)).length=48:=by rw [pX];rfl
  obtain ⟨hp,hr⟩:=(a27.ext (gy.tr fI)).app (lQ (j7 v.2)) (by rw [dc,Rj,dv,List.length_nil];omega);refine ⟨sS,rfl,fI.heap aa,fI.heap aa,fI.heap aa,fI.heap aa,_,(ams.rd aE).flat aE,by rw [ahT];exact hp,λoB ej r33=> ?_⟩;rw [ahT] at r33;obtain ⟨a33,m33,b33,z33⟩:=hr oB ej r33;have n26w:N5.aY≠some w.heap.size:=eK Ax n10w aa;have ah5:N5.aY≠some w1.heap.size:=eK Ax ad6 aa;have aa8:N5.aY≠some aW.heap.size:=eK Ax aff aa;have aa9:N5.aY≠some dT.heap.size:=eK Ax amr aa;have azV:(dD now xs.length++((xs.take k).map λx=>gj x.1 x.2).flatten++ [v.1]++lQ (j7 v.2)).length<=2000:=by rw [dc,Rj,dc,dv,List.length_nil];omega
  have wk:=mh (j:=k);have endS:∀(st:Int),st=stB v.2.gZ->∀{v':World} {c:Sl},Ap w0 w5 s4 v' c (dD now xs.length++((xs.take k).map λx=>gj x.1 x.2).flatten++ [v.1]++lQ (j7 v.2)++ [st])->Ap w0 w5 s4 v' c (dD now xs.length++((xs.take (k+1)).map λx=>gj x.1 x.2).flatten):=λst gC {v' c} h=>by rw [uw (λx:Xr=>gj x.1 x.2) hv];unfold gj;rw [gC] at h;simp only [gO,List.cons_append,Xp] at h ⊢;exact h
  have q1:eV 1=1:=by decide
  have q0:eV 0=0:=by decide
  refine ⟨m33 _ n26w aa,m33 _ ah5 aa,m33 _ aa8 aa,m33 _ aa9 aa,Br.mk (λhb=> ?_) (λhb=> ?_)⟩
  ·rw [q1];intro iL e34;obtain ⟨hp,hr⟩:=a33.iN [1] (by rw [dv,List.length_nil];omega) e34;have z34:=zA e34;refine ⟨hp,λs35 jl r36=> ?_⟩;obtain ⟨a36,k36,m36,ZO,z36⟩:=hr s35 jl r36;exact ⟨m36 _ (eK b33 n26w aa) aa,m36 _ (eK b33 ah5 aa) aa,m36 _ (eK b33 aa8 aa) aa,m36 _ (eK b33 aa9 aa) aa,k36,n-1,by omega,rfl,rfl,k+1,wk,by omega,endS 1 (by rw [hb];rfl) a36⟩
  ·rw [q0];intro gJ WG;obtain ⟨hp,hr⟩:=a33.iN [0] (by rw [dv,List.length_nil];omega) WG;have z37:=zA WG;refine ⟨hp,λs38 jD r39=> ?_⟩;obtain ⟨a39,k39,m39,b39,z39⟩:=hr s38 jD r39;exact ⟨m39 _ (eK b33 n26w aa) aa,m39 _ (eK b33 ah5 aa) aa,m39 _ (eK b33 aa8 aa) aa,m39 _ (eK b33 aa9 aa) aa,k39,n-1,by omega,rfl,rfl,k+1,wk,by omega,endS 0 (by rw [hb];rfl) a39⟩
 ·have hq:¬(k:Int)<sx.n:=by simpa using hq
  have hk':k=xs.length:=by omega
  subst hk';rw [iB] at a11 kF;have ahP:(if 2000<((sw.n:Nat):Int) then 2000 else ((sw.n:Nat):Int))=((min ws.length 2000:Nat):Int):=by rw [hnw];split<;>omega
  rw [ahP];have eb1:eV (aj (Int.tdiv ((min ws.length 2000:Nat):Int) 256))=((min ws.length 2000:Nat):Int) / 256 % 256:=by rw [pK aa,wI,wrap_u8]
  have eb2:eV (Int.tmod ((min ws.length 2000:Nat):Int) 256)=((min ws.length 2000:Nat):Int) % 256:=by rw [Int.tmod_eq_emod_of_nonneg aa,wrap_u8];omega
  rw [eb1,eb2];intro ik QJ;obtain ⟨hp,hr⟩:=a11.iN [((min ws.length 2000:Nat):Int) / 256 % 256,((min ws.length 2000:Nat):Int) % 256] (by rw [dv,dv,List.length_nil];omega) QJ;have z40:=zA QJ;refine ⟨hp,λJ2 jI r42=> ?_⟩;obtain ⟨a42,k42,m42,b42,z42⟩:=hr J2 jI r42;have n41w:=eK b42 n10w aa;have as1:=eK b42 ad6 aa;have amt:=eK b42 (a11.ne (aB _)) aa
  let W:=ws.take 2000
  have hW:W.length=min ws.length 2000:=by rw [dC,Nat.min_comm]
  have A42:Ap w0 jI J2 jI J2 (dD now xs.length++(xs.map λx=>gj x.1 x.2).flatten++ [((min ws.length 2000:Nat):Int) / 256 % 256,((min ws.length 2000:Nat):Int) % 256]):=Ap.refl a42.own (by have:=a42.bel.size;omega);have Np:Ext w0 jI:=Nc.trans a42.bel;rw [<-hW];rw [<-hW] at A42;refine ⟨m42 _ n10w aa,m42 _ ad6 aa,k42,λn x sl wr=>∃k:Nat,x=k/\k+n=W.length/\Ap w0 jI J2 wr sl (dD now xs.length++(xs.map λx=>gj x.1 x.2).flatten++ [((W.length:Nat):Int) / 256 % 256,((W.length:Nat):Int) % 256]++((W.take k).map ia).flatten),⟨W.length,rfl,rfl,rfl,0,rfl,by omega,by rw [AR];show Ap _ _ _ _ _ (_++ []);rw [ti];exact A42⟩,?_⟩;rintro n2 wM x vl fG ⟨k,rfl,hk,Nl⟩;have z48:=Nl.bel.size;have Gv:Ext w0 fG:=Np.trans Nl.bel;apply Br.mk<;>intro hq
  ·have hq:(k:Int)<W.length:=by simpa using hq
   have hkW:k<W.length:=by omega
   obtain ⟨it,WM⟩:=bH hkW;have ad2:ws[k]? =some it:=by have h2:W[k]? =ws[k]? :=List.getElem?_take_of_lt aa;rw [<-h2];exact WM
   have cN:(ws.map fE)[k]? =some (fE it):=by rw [aS,ad2];rfl
   have hrd48:=hw.ext (x0.tr Gv);have mW:=hrd48.gR (i:=(k:Int)) aE aa aa;refine ⟨mW,bA.2 ⟨g9.2 (by rw [fL];exact mW.1),_,_,_,iP hrd48 cN (off:=1) (vs:=[.int .i64 it.2.1,.int .i64 it.2.2.1,.int .i64 it.2.2.2]) (λj _=>by rw [Nat.add_comm,A3]),λSU e53 Bs e54=> ?_⟩⟩;have ou:Ext fG Bs.drew:=((aL e53).af e54 (aB _)).drew;have z54:Bs.drew.heap.size=fG.heap.size+1:=by show Bs.heap.size=_;rw [zR e54,zA e53]
   have hrd54:=hrd48.ext ou;have as3:Ext fG Bs:=(aL e53).af e54 (aB _);have hin2:=(hrd48.ext as3).gR (i:=(k:Int)) aE aa aa;refine ⟨hin2,bA.2 ⟨g9.2 (by rw [fL];exact hin2.1),_,hrd54.at cN (j:=0) (v:=.int .i64 it.1) rfl,λov e56=> ?_⟩⟩;have rZ:=aL e56;have z56:=zA e56;have hrd56:=rdI (l:=[it.1,it.2.1,it.2.2.1,it.2.2.2]) e56;refine (yx hrd56 (FI it (aZ ad2)) bt).mono ?_;rintro e l8 ⟨mc,rfl,Ro,l6⟩;have z57:=l6.size;have ad1:mc.n=(ia it).length:=by rw [(Ro.rd aE).n,aM];rfl
   have a57:=Nl.ext (ou.tr (rZ.tr l6));have arR:(dD now xs.length++(xs.map λx=>gj x.1 x.2).flatten++ [((W.length:Nat):Int) / 256 % 256,((W.length:Nat):Int) % 256]++((W.take k).map ia).flatten).length+24<=100000:=by have N6:(W.take k).length=k:=List.length_take_of_le aa;rw [dc,dc,Jr,N6];show _+2+_+24<=_;omega
   obtain ⟨hp,hr⟩:=a57.app (ia it) (by rw [Bi];omega);have par:∀{u:World},Ext w0 u->ag u (some ⟨w.heap.size,2,none⟩) 0 [sw]:=λxu=>mC (r0.ext xu) rfl
   refine ⟨mc,rfl,l6.heap aa,l6.heap aa,l6.heap aa,l6.heap aa,par (Gv.tr (ou.tr (rZ.tr l6))),_,(Ro.rd aE).flat aE,by rw [ad1];exact hp,λRp mY r61=> ?_⟩;rw [ad1] at r61;obtain ⟨a61,m61,b61,z61⟩:=hr Rp mY r61;refine ⟨m61 _ (Nl.off n41w aa) aa,m61 _ (Nl.off as1 aa) aa,m61 _ (Nl.off amt aa) aa,m61 _ (Nl.ne (aB _)) aa,par (Np.trans a61.bel),n2-1,by omega,rfl,rfl,rfl,k+1,by rw [wI];omega,by omega,?_⟩;rw [uw ia WM,<-gO];exact a61
  ·have hq:¬(k:Int)<W.length:=by simpa using hq
   have hk':k=W.length:=by omega
   subst hk';rw [iB] at Nl;refine ⟨vl,rfl,?_,x0.tr (Np.trans Nl.bel)⟩;have e:DB now xs ws=dD now xs.length++(xs.map λx=>gj x.1 x.2).flatten++ [((W.length:Nat):Int) / 256 % 256,((W.length:Nat):Int) % 256]++(W.map ia).flatten:=by unfold DB uv;rw [<-gO,hW]
   rw [e];exact aC.low Nl.own aa
theorem iJ (n:Int) (w:World):ah 141 #[n] w λe w'=>e=Value.int .i64 (dP n)/\w'=w:=by
 apply U8.vc;unfold dP;refine Br.mk (λh=> ?_) (λh=>Br.mk (λh2=> ?_) (λh2=> ?_))
 ·have h:n>140737488355328:=by simpa using h
  exact ⟨by rw [show min (max n (-140737488355328)) 140737488355328=140737488355328 from by omega],rfl⟩
 ·have h2:n< -140737488355328:=by simpa using h2
  exact ⟨by rw [show min (max n (-140737488355328)) 140737488355328= -140737488355328 from by omega],rfl⟩
 ·have h:¬n>140737488355328:=by simpa using h
  have h2:¬n< -140737488355328:=by simpa using h2
  exact ⟨by rw [show min (max n (-140737488355328)) 140737488355328=n from by omega],rfl⟩
theorem tM (n:Int) (w:World):ah 84 #[n] w λe w'=>e=Value.int .i64 (cW n)/\w'=w:=by apply Mh.vc;refine (iJ n w).mono ?_;rintro e w0 ⟨rfl,rfl⟩;refine ⟨_,rfl,(Dd (dP n) 65536 (by have:=jG n;unfold bS;omega) aE w0).mono ?_⟩;rintro e w2 ⟨rfl,rfl⟩;exact ⟨_,rfl,rfl,rfl⟩
theorem Y9 (v:Ce) (w:World):ah 30 #[ea v] w λe w'=>e=(ea (bu v))/\Ext w w':=by apply Za.vc;intro w0 e0 w1 e1;have x0:=aL e0;have z0:=zA e0;have r0:∃τ,Row w0 w (du v) τ:=⟨_,by rw [e0];exact Row.new w [_,_,_] _⟩;have x1:Ext w0 w1.drew:=(aL e1).drew;obtain ⟨τ,r0⟩:=r0;have r1:=r0.ext x1;refine (tM v.1 w1.drew).mono ?_;rintro e w2 ⟨rfl,hw⟩;subst hw;refine ⟨_,rfl,rfl,rfl,mC r1 rfl,mC r1 rfl,(tM v.2.1 _).mono ?_⟩;rintro e w2 ⟨rfl,hw⟩;subst hw;refine ⟨_,rfl,rfl,rfl,mC r1 rfl,(tM v.2.2 _).mono ?_⟩;rintro e w2 ⟨rfl,hw⟩;subst hw;exact ⟨_,rfl,rfl,rfl,λw8 e8=>⟨rfl,(x0.tr x1).af e8 aa⟩⟩
theorem uu (a b:Int) (w:World):ah 142 #[a,b] w λe w'=>e=Value.int .i64 (mP a b)/\w'=w:=by apply U9.vc;refine (iJ a w).mono ?_;rintro e w0 ⟨rfl,rfl⟩;refine ⟨_,rfl,(iJ b _).mono ?_⟩;rintro e w0 ⟨rfl,rfl⟩;have ha:=jG a;have hb:=jG b;refine ⟨_,rfl,?_⟩;rw [aK (n:=dP a+dP b) (by unfold bS;omega)];refine (iJ _ _).mono ?_;rintro e w0 ⟨rfl,rfl⟩;exact ⟨_,rfl,rfl,rfl⟩
theorem Va (a b:Int) (w:World):ah 181 #[a,b] w λe w'=>e=Value.int .i64 (pN a b)/\w'=w:=by apply Vb.vc;refine (iJ a w).mono ?_;rintro e w0 ⟨rfl,rfl⟩;refine ⟨_,rfl,(iJ b _).mono ?_⟩;rintro e w0 ⟨rfl,rfl⟩;have ha:=jG a;have hb:=jG b;refine ⟨_,rfl,?_⟩;rw [aK (n:=dP a-dP b) (by unfold bS;omega)];refine (iJ _ _).mono ?_;rintro e w0 ⟨rfl,rfl⟩;exact ⟨_,rfl,rfl,rfl⟩
theorem HN (a b:Ce) (w:World):ah 85 #[ea a,ea b] w λe w'=>e=(ea (jW a b))/\Ext w w':=by apply Vd.vc;intro w0 e0 w1 e1 w2 e2;have x0:=aL e0;have z0:=zA e0;have r0:∃τ,Row w0 w (du a) τ:=⟨_,by rw [e0];exact Row.new w [_,_,_] _⟩;have x1:=aL e1;have z1:=zA e1;have r1:∃τ,Row w1 w0 (du b) τ:=⟨_,by rw [e1];exact Row.new w0 [_,_,_] _⟩;have x2:Ext w1 w2.drew:=(aL e2).drew;obtain ⟨τ,r0⟩:=r0;obtain ⟨τ',r1⟩:=r1;have ra:=r0.ext (x1.tr x2);have rb:=r1.ext x2;refine (uu a.1 b.1 w2.drew).mono ?_;rintro e w3 ⟨rfl,hw⟩;subst hw;refine ⟨_,rfl,rfl,rfl,rfl,mC rb rfl,mC ra rfl,mC rb rfl,mC ra rfl,(uu a.2.1 b.2.1 _).mono ?_⟩;rintro e w3 ⟨rfl,hw⟩;subst hw;refine ⟨_,rfl,rfl,rfl,rfl,mC rb rfl,mC ra rfl,(uu a.2.2 b.2.2 _).mono ?_⟩;rintro e w3 ⟨rfl,hw⟩;subst hw;exact ⟨_,rfl,rfl,rfl,rfl,λw9 e9=>⟨rfl,(x0.tr (x1.tr x2)).af e9 aa⟩⟩
theorem PW (v:Ce) (i:Int) (w:World):ah 180 #[ea v,i] w λe w'=>e=Value.int .i64 (di v i)/\Ext w w':=by
 apply Qh.vc;intro w0 e0;have x0:=aL e0;unfold di;refine Br.mk (λh=> ?_) (λh=>Br.mk (λh2=> ?_) (λh2=>Br.mk (λh3=> ?_) (λh3=> ?_)))
 ·rw [if_pos (by simpa using h)];exact ⟨rfl,x0⟩
 ·rw [if_neg (by simpa using h),if_pos (by simpa using h2)];exact ⟨rfl,x0⟩
 ·rw [if_neg (by simpa using h),if_neg (by simpa using h2),if_pos (by simpa using h3)];exact ⟨rfl,x0⟩
 ·rw [if_neg (by simpa using h),if_neg (by simpa using h2),if_neg (by simpa using h3)];exact ⟨rfl,x0⟩
theorem Qi (a b:Bx):jA a b=(decide (a.1.1<b.2.1) && decide (a.1.2.1<b.2.2.1) && decide (a.1.2.2<b.2.2.2) && decide (b.1.1<a.2.1) && decide (b.1.2.1<a.2.2.1) && decide (b.1.2.2<a.2.2.2)):=by
 unfold jA ovK;have e0:∀v:Ce,di v 0=v.1:=λ_=>rfl
 have e1:∀v:Ce,di v 1=v.2.1:=λ_=>rfl
 have e2:∀v:Ce,di v 2=v.2.2:=λ_=>rfl
 simp only [e0,e1,e2]
 cases decide (a.1.1<b.2.1)<;>cases decide (a.1.2.1<b.2.2.1)<;>cases decide (a.1.2.2<b.2.2.2)<;>cases decide (b.1.1<a.2.1)<;>cases decide (b.1.2.1<a.2.2.1)<;>cases decide (b.1.2.2<a.2.2.2)<;>rfl
theorem Gj (a b:Bx) (w:World):ah 179 #[qG a,qG b] w λe w'=>e=Value.bool (jA a b)/\Ext w w':=by
 apply Gk.vc;intro w0 e0 w1 e1;have x1:Ext w w1:=(aL e0).bB e1;rw [Qi];apply Br.mk<;>intro h1<;>apply Br.mk<;>intro h2<;>first|(apply Br.mk<;>intro h3)|skip
 all_goals (repeat' (first|(apply Br.mk<;>intro h<;>rw [h])))
 all_goals (first|rw [h1]|skip)
 all_goals (first|rw [h2]|skip)
 all_goals (first|rw [h3]|skip)
 all_goals exact ⟨by simp,x1⟩
theorem ajm (n:Int):pN n 0=dP n:=by unfold pN dP;omega
set_option maxHeartbeats 2000000 in
theorem Mi (aH:Ce) (wd h:Int) (hw:bS wd) (w:World):ah 128 #[ea aH,wd,.int .i64 h] w λe w'=>e=(qG (vC aH wd h))/\Ext w w':=by
 apply Mj.vc;intro w0 e0 w1 e1;have x0:=aL e0;have z0:=zA e0;have r0:∃τ,Row w0 w (du aH) τ:=⟨_,by rw [e0];exact Row.new w [_,_,_] _⟩;have x1:Ext w0 w1.drew:=(aL e1).drew;obtain ⟨τ,r0⟩:=r0;have r1:=r0.ext x1;have jC:=x0.tr x1;rw [aeb hw,ai1 h];have e:qG (vC aH wd h)=.agg #[(pN aH.1 (max wd 0 / 2)),(dP aH.2.1),(pN aH.2.2 (max wd 0 / 2)),(mP aH.1 (max wd 0 / 2)),.int .i64 (mP aH.2.1 (max h 0)),(mP aH.2.2 (max wd 0 / 2))]:=by rw [<-ajm aH.2.1];rfl
 rw [e];have A:∀(a b:Int) {u:World} {R:Ending->World->Prop},R (.returned (.int .i64 (mP a b))) u->ah 142 #[.int .i64 a,.int .i64 b] u R:=λa b u R h=>(uu a b u).mono (by rintro e w' ⟨rfl,rfl⟩;exact h)
 have S:∀(a b:Int) {u:World} {R:Ending->World->Prop},R (.returned (.int .i64 (pN a b))) u->ah 181 #[.int .i64 a,.int .i64 b] u R:=λa b u R h=>(Va a b u).mono (by rintro e w' ⟨rfl,rfl⟩;exact h)
 have C:∀(a:Int) {u:World} {R:Ending->World->Prop},R (.returned (.int .i64 (dP a))) u->ah 141 #[.int .i64 a] u R:=λa u R h=>(iJ a u).mono (by rintro e w' ⟨rfl,rfl⟩;exact h)
 repeat' (first
  |refine A _ _ ?_
  |refine S _ _ ?_
  |refine C _ ?_
  |refine ⟨_,rfl,rfl,rfl,?_⟩
  |refine ⟨mC r1 rfl,?_⟩
  |exact λw' e'=>⟨rfl,jC.af e' aa⟩
  |refine ⟨?_,?_⟩)
theorem Ar (b:ep) (hh: -1000000000<=b.ht/\b.ht<=1000000000) (h0:0<=b.ht) (w:World):ah 31 #[BG b] w λe w'=>e=(ea (jP b))/\Ext w w':=by
 apply Ve.vc;intro w0 e0 w1 e1;have x0:=aL e0;have z0:=zA e0;have r0:∃τ,Row w0 w (jo b) τ:=⟨_,by rw [e0];exact Row.new w [_,_,_,_,_,_,_,_,_] _⟩;have x1:Ext w0 w1.drew:=(aL e1).drew;have z1:w1.drew.heap.size=w0.heap.size+1:=by show w1.heap.size=_;exact zA e1
 obtain ⟨τ,r0⟩:=r0;have r1:=r0.ext x1;have jC:=x0.tr x1;have e4:aj (b.ht*4)=b.ht*4:=wI;rw [e4];refine (Dd (b.ht*4) 5 (by unfold bS;omega) aE w1.drew).mono ?_;rintro e w2 ⟨rfl,hw⟩;subst hw;have e5:b.ht*4 / 5=Int.tdiv (b.ht*4) 5:=by rw [pK aa]
 rw [e5];refine ⟨_,rfl,rfl,rfl,mC r1 rfl,qL r1 rfl rfl rfl,(HN b.aH (0,Int.tdiv (b.ht*4) 5,0) _).mono ?_⟩;rintro e w4 ⟨rfl,x4⟩;have z4:=x4.size;exact ⟨_,_,_,rfl,x4.heap aa,x4.heap aa,mC (r1.ext x4) rfl,λw8 e8=>⟨rfl,(jC.tr x4).af e8 aa⟩⟩
theorem zi (b:ep) (hw:bS b.wd) (w:World):ah 70 #[BG b] w λe w'=>e=(qG b.box)/\Ext w w':=by apply Vf.vc;intro w0 e0 w1 e1;have x0:=aL e0;have z0:=zA e0;have x1:=aL e1;have z1:=zA e1;refine (Mi b.aH b.wd b.ht hw w1).mono ?_;rintro e w2 ⟨rfl,x2⟩;have z2:=x2.size;exact ⟨_,_,_,_,_,_,rfl,x2.heap aa,x2.heap aa,λw9 e9=>⟨rfl,(x0.tr (x1.tr x2)).af e9 aa⟩⟩
theorem Mk (a b:Bx) (w:World):ah 125 #[qG a,qG b] w λe w'=>e=Value.bool (jA a b)/\Ext w w':=by apply Ml.vc;intro w0 e0 w1 e1;have x0:=aL e0;have z0:=zA e0;have x1:=aL e1;have z1:=zA e1;refine (Gj a b w1).mono ?_;rintro e w2 ⟨rfl,x2⟩;have z2:=x2.size;exact ⟨_,rfl,x2.heap aa,x2.heap aa,rfl,x0.tr (x1.tr x2)⟩
def oH (c:Ce):Ce:=(3+cG c.1 10,6+cG c.2.1 14,3+cG c.2.2 10)
def Kg (c:Ce):Ce:=(196608+cG c.1 589825,589824+cG c.2.1 589825,196608+cG c.2.2 589825)
def FJ (n:Int):Int:=if n<0 then n else Zb n
theorem CM (c:Ce) (hc:oM c) (w:World):ah 28 #[ea c] w λe w'=>e=(ea (oH c))/\Ext w w':=by
 apply Qj.vc;intro w0 e0 w1 e1;have x0:=aL e0;have r0:∃τ,Row w0 w (du c) τ:=⟨_,by rw [e0];exact Row.new w [_,_,_] _⟩;have z0:=zA e0;have x1:Ext w0 w1.drew:=(aL e1).drew;obtain ⟨τ,r0⟩:=r0;have r1:=r0.ext x1;obtain ⟨h1,h2,h3⟩:=hc;have A:∀(a m:Int) {u:World} {R:Ending->World->Prop},bS a->0<m->bS m->R (.returned (.int .i64 (cG a m))) u->ah 10 #[.int .i64 a,.int .i64 m] u R:=λa m u R ha hm hi h=>(gz a m u ha hm hi).mono (by rintro e w' ⟨rfl,rfl⟩;exact h)
 have b1:=cJ c.1 10 aE;have b2:=cJ c.2.1 14 aE;have b3:=cJ c.2.2 10 aE;refine A _ _ h1 aE (by unfold bS;omega) ⟨_,rfl,rfl,rfl,mC r1 rfl,mC r1 rfl,A _ _ h2 aE (by unfold bS;omega) ⟨_,rfl,rfl,rfl,mC r1 rfl,A _ _ h3 aE (by unfold bS;omega) ⟨_,rfl,rfl,rfl,λw8 e8=>⟨?_,(x0.tr x1).af e8 aa⟩⟩⟩⟩;rw [aK (n:=3+cG c.1 10) (by unfold bS;omega),aK (n:=6+cG c.2.1 14) (by unfold bS;omega),aK (n:=3+cG c.2.2 10) (by unfold bS;omega)];rfl
theorem Oa (c:Ce) (hc:oM c) (w:World):ah 52 #[ea c] w λe w'=>e=(ea (Kg c))/\Ext w w':=by
 apply Qk.vc;intro w0 e0 w1 e1;have x0:=aL e0;have r0:∃τ,Row w0 w (du c) τ:=⟨_,by rw [e0];exact Row.new w [_,_,_] _⟩;have z0:=zA e0;have x1:Ext w0 w1.drew:=(aL e1).drew;obtain ⟨τ,r0⟩:=r0;have r1:=r0.ext x1;obtain ⟨h1,h2,h3⟩:=hc;have A:∀(a m:Int) {u:World} {R:Ending->World->Prop},bS a->0<m->bS m->R (.returned (.int .i64 (cG a m))) u->ah 10 #[.int .i64 a,.int .i64 m] u R:=λa m u R ha hm hi h=>(gz a m u ha hm hi).mono (by rintro e w' ⟨rfl,rfl⟩;exact h)
 have b1:=cJ c.1 589825 aE;have b2:=cJ c.2.1 589825 aE;have b3:=cJ c.2.2 589825 aE;refine A _ _ h1 aE (by unfold bS;omega) ⟨_,rfl,rfl,rfl,mC r1 rfl,mC r1 rfl,A _ _ h2 aE (by unfold bS;omega) ⟨_,rfl,rfl,rfl,mC r1 rfl,A _ _ h3 aE (by unfold bS;omega) ⟨_,rfl,rfl,rfl,λw8 e8=>⟨?_,(x0.tr x1).af e8 aa⟩⟩⟩⟩;rw [aK (n:=196608+cG c.1 589825) (by unfold bS;omega),aK (n:=589824+cG c.2.1 589825) (by unfold bS;omega),aK (n:=196608+cG c.2.2 589825) (by unfold bS;omega)];rfl
theorem oG (n:Int) (hn:bS n) (w:World):ah 56 #[n] w λe w'=>e=Value.int .i64 (FJ n)/\w'=w:=by
 apply Mn.vc;unfold FJ;apply Br.mk<;>intro h
 ·rw [if_pos (by simpa using h)];exact ⟨rfl,rfl⟩
 ·rw [if_neg (by simpa using h)];refine (B1 n w hn).mono ?_;rintro e w0 ⟨rfl,rfl⟩;exact ⟨_,rfl,rfl,rfl⟩
set_option maxHeartbeats 8000000
set_option linter.unusedVariables false
variable {R:Ending->World->Prop} {w:World} {a0 a1 a2 a3 a4 a5 a6 a7 a8 a9 aA aq au aT aU aX bN bI bJ EU ak ao aw bw bR bP eZ fa eL EV br bG bq yC yD wC wD yE yF yG EW EX EY EZ E0 E1 E2 E3 E4 E5:Int}
theorem xm.vc {a0:Addr} {eL:Bool} (h:
 ∀w0,w0=w.alloc (.cells #[ak,ao,aw,bw,bR,bP,eZ,fa,eL] 70)->
 ∃(p1:Option Addr),ld w0.drew (ae (some a0) 0)=some (.pointer p1)/\
 ah 30 #[.agg #[ak,ao,aw]] w0.drew (iM λx3 x4 x5 w2=>Kp w w0.drew w2/\
 ag w2 (ae (some a0) 0) 0 [.pointer p1]/\ah 100 #[p1,.agg #[x3,x4,x5]] w2 (Rb λb7 w6=>Kp w w2 w6/\
 R b7 w6))):ah 107 #[a0,.agg #[ak,ao,aw,bw,bR,bP,eZ,fa,eL]] w R:=
 cq bT Tryz.func107 h
theorem zk.vc {a0:Addr} (h:
 ∀w0,w0=w.alloc (.cells #[ak,ao,aw] 41)->
 ∃I1:Nat->Int->World->Prop,
 (∃n2,aO [ak,ao,aw]/\I1 n2 (0) w0)/\
 ∀(n2:Nat) (us3:Nat->Value) (x4:Int) (w5:World),I1 n2 x4 w5->
 Br (x4<16)
 (∃(s7:Sl),ld w5.drew (ae (some a0) 2)=some (.slice s7.a s7.n s7.c)/\
 ee s7.a x4 s7.n/\aP (dB (ae s7.a ((x4:Int).toNat*13))) (∃(b8:Bool),ld w5.drew (ae (ae s7.a ((x4:Int).toNat*13)) 0)=some (.bool b8)/\
 Br b8
 (∃(s9:Sl),ld w5.drew (ae (some a0) 2)=some (.slice s9.a s9.n s9.c)/\
 ee s9.a x4 s9.n/\aP (dB (ae s9.a ((x4:Int).toNat*13))) (∃(bj bz bU cc bW cm cp cT:Int) (b18:Bool),ag w5.drew (ae (ae s9.a ((x4:Int).toNat*13)) 1) 0 [bj,bz,bU,cc,bW,cm,cp,cT,b18]/\
 ah 70 #[.agg #[bj,bz,bU,cc,bW,cm,cp,cT,b18]] w5.drew (vy λcZ dm dI dz eH dQ fy=>Kp w w5.drew fy/\
 ag fy w 0 [ak,ao,aw]/\ag fy (ae (some a0) 2) 0 [s9]/\ag fy (ae (ae s7.a ((x4:Int).toNat*13)) 0) 0 [.bool b8]/\ag fy (ae (some a0) 2) 0 [s7]/\ah 126 #[.agg #[ak,ao,aw]] fy (vy λfw gy fI iK gI gQ eG=>Kp w fy eG/\
 ag eG (ae (some a0) 2) 0 [s9]/\ag eG (ae (ae s7.a ((x4:Int).toNat*13)) 0) 0 [.bool b8]/\ag eG (ae (some a0) 2) 0 [s7]/\ah 125 #[.agg #[cZ,dm,dI,dz,eH,dQ],.agg #[fw,gy,fI,iK,gI,gQ]] eG (Rb λJC ej=>Kp w eG ej/\
 ag ej (ae (some a0) 2) 0 [s9]/\ag ej (ae (ae s7.a ((x4:Int).toNat*13)) 0) 0 [.bool b8]/\ag ej (ae (some a0) 2) 0 [s7]/\Br JC
 (R true ej)
 (∃n6,n6<n2/\aO [ak,ao,aw]/\I1 n6 ((aj (x4+1))) ej))))))
 (∃n6,n6<n2/\aO [ak,ao,aw]/\I1 n6 ((aj (x4+1))) w5.drew)))
 (R false w5)):ah 67 #[a0,.agg #[ak,ao,aw]] w R:=
 cq ⟨[(2,⟨[(5,.int .i64)],[],[]⟩)],[],[]⟩ Tryz.func67 h
theorem zn.vc {a0:Addr} (h:
 ∀w0,w0=w.alloc (.cells #[ak,ao,aw] 41)->
 ah 114 #[a2] w0 (Rb λb2 w1=>Kp w w0 w1/\
 Br b2
 (ah 67 #[a0,.agg #[ak,ao,aw]] w1 (Rb λb4 w3=>Kp w w1 w3/\
 Br b4
 (R (12:Int) w3)
 (∃(p5:Option Addr),ld w3.drew (ae (some a0) 1)=some (.pointer p5)/\
 ah 113 #[p5,.agg #[ak,ao,aw],a2] w3.drew (Ri λx7 w6=>Kp w w3.drew w6/\
 R x7 w6))))
 (∃(p8:Option Addr),ld w1.drew (ae (some a0) 1)=some (.pointer p8)/\
 ah 113 #[p8,.agg #[ak,ao,aw],a2] w1.drew (Ri λbj w9=>Kp w w1.drew w9/\
 R bj w9)))):ah 60 #[a0,.agg #[ak,ao,aw],a2] w R:=
 cq bT Tryz.func60 h
theorem xk.vc {a0:Addr} (h:
 ∀w0,w0=w.alloc (.cells #[ak,ao,aw] 28)->
 ∀w1,w1=w0.alloc (.cells #[ab,ab,ab,ab,ab,ab,ab,ab,false] 75)->
 ∀w2,w2=w1.setRow w0 #[ak,ao,aw,ab,ab,ab,a2,a3,false]->
 ah 106 #[.agg #[ak,ao,aw,ab,ab,ab,a2,a3,false]] w2 (Rb λb4 w3=>K2 w w0 w2 w3 (
 Br (!b4)
 (R (Value.tuple #[(-1:Int),(1:Int)]) w3)
 (∃I5:Nat->Int->Int->World->Prop,
 (∃n6,aO [ak,ao,aw]/\aO [ak,ao,aw,ab,ab,ab,a2,a3,false]/\I5 n6 (15) ((-1)) w3)/\
 ∀(n6:Nat) (us7:Nat->Value) (x8 x9:Int) (bD:World),I5 n6 x8 x9 bD->
 Br (x8>=0)
 (∃(jJ:Sl),ld bD (ae (some a0) 2)=some (.slice jJ.a jJ.n jJ.c)/\
 ee jJ.a x8 jJ.n/\aP (dB (ae jJ.a ((x8:Int).toNat*13))) (∃(E6:Bool),ld bD (ae (ae jJ.a ((x8:Int).toNat*13)) 0)=some (.bool E6)/\
 Br (!E6)
 (∃rU,rU<n6/\aO [ak,ao,aw]/\aO [ak,ao,aw,ab,ab,ab,a2,a3,false]/\I5 rU ((aj (x8-1))) x8 bD)
 (∃rU,rU<n6/\aO [ak,ao,aw]/\aO [ak,ao,aw,ab,ab,ab,a2,a3,false]/\I5 rU ((aj (x8-1))) x9 bD)))
 (Br (x9<0)
 (R (Value.tuple #[(-1:Int),(8:Int)]) bD)
 (ah 107 #[a0,.agg #[ak,ao,aw,ab,ab,ab,a2,a3,false]] bD (Rb λSs bK=>K2 w w0 bD bK (
 Br (!Ss)
 (R (Value.tuple #[(-1:Int),(11:Int)]) bK)
 (∃(p16:Option Addr),ld bK.drew (ae (some a0) 0)=some (.pointer p16)/\
 ah 27 #[p16] bK.drew (Rv λv18 cE=>K2 w w0 bK.drew cE (
 ag cE (some ⟨w0,0,none⟩) 0 [ak,ao,aw,ab,ab,ab,a2,a3,false]/\ah 70 #[.agg #[ak,ao,aw,ab,ab,ab,a2,a3,false]] cE (vy λcZ dm dI dz eH dQ fy=>K2 w w0 cE fy (
 ah 46 #[v18,.agg #[cZ,dm,dI,dz,eH,dQ]] fy (Rb λAx eG=>K2 w w0 fy eG (
 Br Ax
 (R (Value.tuple #[(-1:Int),(12:Int)]) eG)
 (∃(p28:Option Addr),ld eG.drew (ae (some a0) 0)=some (.pointer p28)/\
 ah 27 #[p28] eG.drew (Rv λv30 dH=>K2 w w0 eG.drew dH (
 ag dH (some ⟨w0,0,none⟩) 0 [ak,ao,aw,ab,ab,ab,a2,a3,false]/\ah 70 #[.agg #[ak,ao,aw,ab,ab,ab,a2,a3,false]] dH (vy λgQ ey g8 jX m4 gu fj=>K2 w w0 dH fj (
 ah 49 #[v30,.agg #[gQ,ey,g8,jX,m4,gu]] fj (Rb λb39 mX=>K2 w w0 fj mX (
 ∀ik,ik=mX.setRow w0 #[ak,ao,aw,ab,ab,ab,a2,a3,b39]->
 ∃(J2:Sl),ld ik.drew (ae (some a0) 2)=some (.slice J2.a J2.n J2.c)/\
 ee J2.a x9 J2.n/\(((ae J2.a ((x9:Int).toNat*13))).isSome=true/\Wr ik.drew (ae J2.a ((x9:Int).toNat*13)) 13)/\bC (ae J2.a ((x9:Int).toNat*13))≠some w.heap.size/\bC (ae J2.a ((x9:Int).toNat*13))≠some w0.heap.size/\(∀jI,jI=aG ik.drew (ae J2.a ((x9:Int).toNat*13)) [.bool true,ak,ao,aw,ab,ab,ab,a2,a3,b39,ab,ab,false]->
 R (Value.tuple #[x9,ab]) jI))))))))))))))))))))))):ah 53 #[a0,.agg #[ak,ao,aw],a2,a3] w R:=
 cq ⟨[(6,⟨[(12,.int .i64),(11,.int .i64)],[],[]⟩)],[],[]⟩ Tryz.func53 h
theorem zo.vc {a0:Addr} (h:
 ∀w0,w0=w.alloc (.cells #[br,bG,bq] 28)->
 ∀w1,w1=w0.alloc (.cells #[ab,ab,ab,ab,ab,ab] 77)->
 Br (a1<0)
 (∀w2,w2=w1.setRow w0 #[ab,ab,ab,ab,ab,ab]->
 R (Value.tuple #[.agg #[ab,ab,ab,ab,ab,ab],(6:Int)]) w2)
 (Br (a1>15)
 (∀w3,w3=w1.setRow w0 #[ab,ab,ab,ab,ab,ab]->
 R (Value.tuple #[.agg #[ab,ab,ab,ab,ab,ab],(6:Int)]) w3)
 (∃(s4:Sl),ld w1 (ae (some a0) 2)=some (.slice s4.a s4.n s4.c)/\
 ee s4.a (if 0>(if 15<a1 then 15 else a1) then 0 else (if 15<a1 then 15 else a1)) s4.n/\aP (dB (ae s4.a (((if 0>(if 15<a1 then 15 else a1) then 0 else (if 15<a1 then 15 else a1)):Int).toNat*13))) (∃(b5:Bool),ld w1 (ae (ae s4.a (((if 0>(if 15<a1 then 15 else a1) then 0 else (if 15<a1 then 15 else a1)):Int).toNat*13)) 0)=some (.bool b5)/\
 Br (!b5)
 (∀w6,w6=w1.setRow w0 #[ab,ab,ab,ab,ab,ab]->
 R (Value.tuple #[.agg #[ab,ab,ab,ab,ab,ab],(6:Int)]) w6)
 (∃(p7:Option Addr),ld w1.drew (ae (some a0) 0)=some (.pointer p7)/\
 ∃(s8:Sl),ld w1.drew (ae (some a0) 2)=some (.slice s8.a s8.n s8.c)/\
 ee s8.a a1 s8.n/\aP (dB (ae s8.a ((a1:Int).toNat*13))) (∃(x9 bj bz bU cc bW cm cp:Int) (WH:Bool),ag w1.drew (ae (ae s8.a ((a1:Int).toNat*13)) 1) 0 [x9,bj,bz,bU,cc,bW,cm,cp,WH]/\
 (ah 27 #[p7] w1.drew (Rv λv19 dA=>K2 w w0 w1.drew dA (
 ag dA w 0 [br,bG,bq]/\ag dA (ae (ae s8.a ((a1:Int).toNat*13)) 1) 0 [x9,bj,bz,bU,cc,bW,cm,cp,WH]/\ag dA (ae (some a0) 2) 0 [s8]/\(ah 31 #[.agg #[x9,bj,bz,bU,cc,bW,cm,cp,WH]] dA (iM λdm dI dz fh=>K2 w w0 dA fh (
 ag fh w 0 [br,bG,bq]/\ag fh (ae (some a0) 2) 0 [s8]/\(ah 87 #[v19,.agg #[dm,dI,dz],.agg #[br,bG,bq],(5:Int)] fh (λe fH=>∃(dQ fk fw gy fI iK:Int) (WI:Bool),e=Value.tuple #[.agg #[dQ,fk,fw,gy,fI,iK],WI]/\K2 w w0 fh fH (
 ag fH (ae (some a0) 2) 0 [s8]/\∀j6,j6=fH.alloc (.cells #[ab,ab,ab,ab,ab,ab] 77)->
 ∀ej,ej=j6.setRow fH #[dQ,fk,fw,gy,fI,iK]->
 Br (!WI)
 (∀iL,iL=ej.setRow w0 #[ab,ab,ab,ab,ab,ab]->
 R (Value.tuple #[.agg #[ab,ab,ab,ab,ab,ab],(13:Int)]) iL)
 (Br (gy==(-1))
 (∀ie,ie=ej.setRow w0 #[ab,ab,ab,ab,ab,ab]->
 R (Value.tuple #[.agg #[ab,ab,ab,ab,ab,ab],(11:Int)]) ie)
 (∀jl,jl=ej.setRow w0 #[dQ,fk,fw,gy,fI,iK]->
 R (Value.tuple #[.agg #[dQ,fk,fw,gy,fI,iK],(0:Int)]) jl)))))/\(∀gJ,gJ=fh.alloc (.cells #[ab,ab,ab,ab,ab,ab] 77)->
 ah 87 #[v19,.agg #[dm,dI,dz],.agg #[br,bG,bq],(5:Int)] gJ (λe mX=>∃(mG lW kq lZ pj kD:Int) (HZ:Bool),e=Value.tuple #[.agg #[mG,lW,kq,lZ,pj,kD],HZ]/\K3 w w0 fh gJ mX (
 ag mX (ae (some a0) 2) 0 [s8]/\∀m7,m7=mX.setRow fh #[mG,lW,kq,lZ,pj,kD]->
 Br (!HZ)
 (∀jQ,jQ=m7.setRow w0 #[ab,ab,ab,ab,ab,ab]->
 R (Value.tuple #[.agg #[ab,ab,ab,ab,ab,ab],(13:Int)]) jQ)
 (Br (lZ==(-1))
 (∀fG,fG=m7.setRow w0 #[ab,ab,ab,ab,ab,ab]->
 R (Value.tuple #[.agg #[ab,ab,ab,ab,ab,ab],(11:Int)]) fG)
 (∀kv,kv=m7.setRow w0 #[mG,lW,kq,lZ,pj,kD]->
 R (Value.tuple #[.agg #[mG,lW,kq,lZ,pj,kD],(0:Int)]) kv))))))))/\(∀kM,kM=dA.alloc (.cells #[ab,ab,ab,ab,ab,ab] 77)->
 ah 31 #[.agg #[x9,bj,bz,bU,cc,bW,cm,cp,WH]] kM (iM λkE im ou wR=>K3 w w0 dA kM wR (
 ag wR w 0 [br,bG,bq]/\ag wR (ae (some a0) 2) 0 [s8]/\ah 87 #[v19,.agg #[kE,im,ou],.agg #[br,bG,bq],(5:Int)] wR (λe yH=>∃(rZ l6 tV lf jc oq:Int) (b62:Bool),e=Value.tuple #[.agg #[rZ,l6,tV,lf,jc,oq],b62]/\K3 w w0 dA wR yH (
 ag yH (ae (some a0) 2) 0 [s8]/\∀uz,uz=yH.setRow dA #[rZ,l6,tV,lf,jc,oq]->
 Br (!b62)
 (∀oX,oX=uz.setRow w0 #[ab,ab,ab,ab,ab,ab]->
 R (Value.tuple #[.agg #[ab,ab,ab,ab,ab,ab],(13:Int)]) oX)
 (Br (lf==(-1))
 (∀E7,E7=uz.setRow w0 #[ab,ab,ab,ab,ab,ab]->
 R (Value.tuple #[.agg #[ab,ab,ab,ab,ab,ab],(11:Int)]) E7)
 (∀my,my=uz.setRow w0 #[rZ,l6,tV,lf,jc,oq]->
 R (Value.tuple #[.agg #[rZ,l6,tV,lf,jc,oq],(0:Int)]) my))))))))))/\(∀jY,jY=w1.drew.alloc (.cells #[ab,ab,ab,ab,ab,ab] 77)->
 ah 27 #[p7] jY (Rv λv69 qo=>K2 w w0 jY qo (
 qo.heap[w1.drew.heap.size]? =jY.heap[w1.drew.heap.size]?/\
 ag qo w 0 [br,bG,bq]/\ag qo (ae (ae s8.a ((a1:Int).toNat*13)) 1) 0 [x9,bj,bz,bU,cc,bW,cm,cp,WH]/\ag qo (ae (some a0) 2) 0 [s8]/\ah 31 #[.agg #[x9,bj,bz,bU,cc,bW,cm,cp,WH]] qo (iM λm8 nc mH kx=>K2 w w0 qo kx (
 kx.heap[w1.drew.heap.size]? =qo.heap[w1.drew.heap.size]?/\
 ag kx w 0 [br,bG,bq]/\ag kx (ae (some a0) 2) 0 [s8]/\ah 87 #[v69,.agg #[m8,nc,mH],.agg #[br,bG,bq],(5:Int)] kx (λe jK=>∃(tX wE FC wS wF wG:Int) (b81:Bool),e=Value.tuple #[.agg #[tX,wE,FC,wS,wF,wG],b81]/\K2 w w0 kx jK (
 jK.heap[w1.drew.heap.size]? =kx.heap[w1.drew.heap.size]?/\
 ag jK (ae (some a0) 2) 0 [s8]/\∀w82,w82=jK.setRow w1.drew.heap.size #[tX,wE,FC,wS,wF,wG]->
 Br (!b81)
 (∀Nw,Nw=w82.setRow w0 #[ab,ab,ab,ab,ab,ab]->
 R (Value.tuple #[.agg #[ab,ab,ab,ab,ab,ab],(13:Int)]) Nw)
 (Br (wS==(-1))
 (∀Gw,Gw=w82.setRow w0 #[ab,ab,ab,ab,ab,ab]->
 R (Value.tuple #[.agg #[ab,ab,ab,ab,ab,ab],(11:Int)]) Gw)
 (∀JD,JD=w82.setRow w0 #[tX,wE,FC,wS,wF,wG]->
 R (Value.tuple #[.agg #[tX,wE,FC,wS,wF,wG],(0:Int)]) JD))))))))))))))):ah 63 #[a0,a1,.agg #[br,bG,bq]] w R:=
 cq bT Tryz.func63 h
theorem xp.vc {a0:Addr} (h:
 ∀w0,w0=w.alloc (.cells #[br,bG,bq] 28)->
 ah 63 #[a0,a1,.agg #[br,bG,bq]] w0 (λe w1=>∃(x2 x3 x4 x5 x6 x7 x8:Int),e=Value.tuple #[.agg #[x2,x3,x4,x5,x6,x7],x8]/\Kp w w0 w1/\
 ∀w9,w9=w1.alloc (.cells #[ab,ab,ab,ab,ab,ab] 77)->
 ∀bD,bD=w9.setRow w1 #[x2,x3,x4,x5,x6,x7]->
 Br (x8==6)
 (R x8 bD)
 (ah 111 #[a3] bD (Rb λQL aW=>K2 w w1 bD aW (
 Br (!QL)
 (R (1:Int) aW)
 (Br (a3==0)
 (R (1:Int) aW)
 (Br (x8 !=0)
 (R x8 aW)
 (Br (x6<0)
 (R (12:Int) aW)
 (ah 112 #[.agg #[x2,x3,x4]] aW (λe bF=>∃(bW cm cp cT cg cr cZ dm dI dz eH dQ fk fw gy fI iK gI:Int),e=Value.agg #[bW,cm,cp,cT,cg,cr,cZ,dm,dI,dz,eH,dQ,fk,fw,gy,fI,iK,gI]/\K2 w w1 aW bF (
 ∀j6,j6=bF.alloc (.cells #[ab,ab,ab,ab,ab,ab,ab,ab,ab,ab,ab,ab,ab,ab,ab,ab,ab,ab] 186)->
 Wt j6 ⟨bF,0,none⟩ 18/\Nb bF w/\Nb bF w1/\(∀ej,ej=aG j6 (some ⟨bF,0,none⟩) [bW,cm,cp,cT,cg,cr,cZ,dm,dI,dz,eH,dQ,fk,fw,gy,fI,iK,gI]->
 (0:Int)<=x6/\x6<((6:Nat):Int)/\∃(g8 jX m4:Int),ag ej (ae (some ⟨bF,0,none⟩) ((x6:Int).toNat*3)) 0 [g8,jX,m4]/\
 ah 60 #[a0,.agg #[g8,jX,m4],a3] ej (Ri λfX gJ=>K2 w w1 ej gJ (
 R fX gJ)))))))))))))):ah 57 #[a0,a1,.agg #[br,bG,bq],a3] w R:=
 cq bT Tryz.func57 h
theorem zp.vc {a0:Addr} (h:
 ∀w0,w0=w.alloc (.cells #[br,bG,bq] 28)->
 ah 63 #[a0,a1,.agg #[br,bG,bq]] w0 (λe w1=>∃(x2 x3 x4 x5 x6 x7 x8:Int),e=Value.tuple #[.agg #[x2,x3,x4,x5,x6,x7],x8]/\Kp w w0 w1/\
 ∀w9,w9=w1.alloc (.cells #[ab,ab,ab,ab,ab,ab] 77)->
 ∀bD,bD=w9.setRow w1 #[x2,x3,x4,x5,x6,x7]->
 Br (x8 !=0)
 (R (Value.tuple #[ab,x8]) bD)
 (ah 60 #[a0,.agg #[x2,x3,x4],(0:Int)] bD (Ri λbU aW=>K2 w w1 bD aW (
 Br (bU !=0)
 (R (Value.tuple #[ab,bU]) aW)
 (R (Value.tuple #[x5,ab]) aW)))))):ah 58 #[a0,a1,.agg #[br,bG,bq]] w R:=
 cq bT Tryz.func58 h
theorem vz.vc {c0:Addr} (h:
 ∀w0,w0=w.alloc (.cells #[aA,aq,au] 41)->
 ∃(p1:Option Addr),ld w0 (some c0)=some (.pointer p1)/\
 ah 67 #[p1,.agg #[aA,aq,au]] w0 (Rb λb3 w2=>Kp w w0 w2/\
 R b3 w2)):ah 120 #[.agg #[aA,aq,au],c0] w R:=
 cq bT Tryz.func120 h
theorem zw.vc {a0:Addr} (h:
 ∀w0,w0=w.alloc (.cells #[a0] 23)->
 ∃I1:Nat->Int->Sl->World->Prop,
 (∃n2,aO [.pointer (some a0)]/\I1 n2 (0) ⟨none,0,0⟩ w0)/\
 ∀(n2:Nat) (us3:Nat->Value) (x4:Int) (s5:Sl) (w6:World),I1 n2 x4 s5 w6->
 Br (x4<16)
 (∃(s8:Sl),ld w6.drew (ae (some a0) 2)=some (.slice s8.a s8.n s8.c)/\
 ee s8.a x4 s8.n/\aP (dB (ae s8.a ((x4:Int).toNat*13))) (∃(b9:Bool),ld w6.drew (ae (ae s8.a ((x4:Int).toNat*13)) 0)=some (.bool b9)/\
 Br b9
 (∃(wT:Sl),ld w6.drew (ae (some a0) 2)=some (.slice wT.a wT.n wT.c)/\
 ee wT.a x4 wT.n/\aP (dB (ae wT.a ((x4:Int).toNat*13))) (∃(bz bU cc bW cm cp cT cg:Int) (Nx:Bool),ag w6.drew (ae (ae wT.a ((x4:Int).toNat*13)) 1) 0 [bz,bU,cc,bW,cm,cp,cT,cg,Nx]/\
 ah 107 #[a0,.agg #[bz,bU,cc,bW,cm,cp,cT,cg,Nx]] w6.drew (Rb λJ3 fh=>Kp w w6.drew fh/\
 ag fh (ae (some a0) 2) 0 [wT]/\ag fh w 0 [.pointer (some a0)]/\ag fh (ae (ae s8.a ((x4:Int).toNat*13)) 0) 0 [.bool b9]/\ag fh (ae (some a0) 2) 0 [s8]/\ag fh w 0 [.pointer (some a0)]/\Br J3
 (∀cL,cL=fh.alloc (.cells #[x4] 3)->
 ba 8 1 cL s5 1 [x4]/\∀(MT:Sl) (fH:World),aV 3 1 cL s5 1 [x4] MT fH->K2 w fh cL fH (
 ∃n7,n7<n2/\aO [.pointer (some a0)]/\I1 n7 ((aj (x4+1))) MT fH))
 (∃n7,n7<n2/\aO [.pointer (some a0)]/\I1 n7 ((aj (x4+1))) s5 fh))))
 (∃n7,n7<n2/\aO [.pointer (some a0)]/\I1 n7 ((aj (x4+1))) s5 w6.drew)))
 (∃I25:Nat->Int->Sl->World->Prop,
 (∃n26,aO [.pointer (some a0)]/\I25 n26 (0) ⟨none,0,0⟩ w6)/\
 ∀(n26:Nat) (awJ:Nat->Value) (gy:Int) (s29:Sl) (eY:World),I25 n26 gy s29 eY->
 Br (decide (gy<((s5.n:Nat):Int)))
 (∃(oB:Sl),ld eY.drew (ae (some a0) 2)=some (.slice oB.a oB.n oB.c)/\
 ee s5.a gy s5.n/\∃(ey:Int),ld eY.drew (ae s5.a ((gy:Int).toNat*1))=some (.int .i64 ey)/\
 ee oB.a ey oB.n/\∃(JC:Bool) (jX m4 gu fX mG lW kq lZ:Int) (MU:Bool) (kD pk:Int) (b46:Bool),ag eY.drew (ae oB.a ((ey:Int).toNat*13)) 0 [.bool JC,jX,m4,gu,fX,mG,lW,kq,lZ,MU,kD,pk,b46]/\
 ∀jQ,jQ=eY.drew.alloc (.cells #[false,ab,ab,ab,ab,ab,ab,ab,ab,false,ab,ab,false] 117)->
 ∀fG,fG=jQ.setRow eY.drew.heap.size #[JC,jX,m4,gu,fX,mG,lW,kq,lZ,MU,kD,pk,b46]->
 ∃(p49:Option Addr),ld fG.drew (ae (some a0) 0)=some (.pointer p49)/\
 ah 27 #[p49] fG.drew (Rv λv51 kM=>Kp w fG.drew kM/\kM.heap[eY.drew.heap.size]? =fG.drew.heap[eY.drew.heap.size]?/\
 ag kM (some ⟨eY.drew.heap.size,10,none⟩) 0 [kD,pk,b46]/\ag kM w 0 [.pointer (some a0)]/\ag kM (some ⟨eY.drew.heap.size,1,none⟩) 0 [jX,m4,gu,fX,mG,lW,kq,lZ,MU]/\ah 116 #[.agg #[jX,m4,gu,fX,mG,lW,kq,lZ,MU],v51,.agg #[kD,pk,b46]] kM (λe Ny=>∃(im ou ky rZ l6 tV lf jc:Int) (b61:Bool),e=Value.agg #[im,ou,ky,rZ,l6,tV,lf,jc,b61]/\Kp w kM Ny/\Ny.heap[eY.drew.heap.size]? =kM.heap[eY.drew.heap.size]?/\
 ag Ny w 0 [.pointer (some a0)]/\∀gL,gL=Ny.alloc (.cells #[im,ou,ky,rZ,l6,tV,lf,jc,b61] 70)->
 ba 72 9 gL s29 1 [im,ou,ky,rZ,l6,tV,lf,jc,b61]/\∀(s63:Sl) (oX:World),aV 70 9 gL s29 1 [im,ou,ky,rZ,l6,tV,lf,jc,b61] s63 oX->Kp w gL oX/\oX.heap[eY.drew.heap.size]? =gL.heap[eY.drew.heap.size]?/\Kp Ny gL oX/\
 ag oX w 0 [.pointer (some a0)]/\∃Su,Su<n26/\aO [.pointer (some a0)]/\I25 Su ((aj (gy+1))) s63 oX)))
 (∃(p65:Option Addr),ld eY (ae (some a0) 0)=some (.pointer p65)/\
 ah 27 #[p65] eY (Rv λv67 my=>Kp w eY my/\
 ah 117 #[v67,s29] my (Rs λs69 qo=>Kp w my qo/\
 ∃I70:Nat->Int->World->Prop,
 (∃n71,aO [.pointer (some a0)]/\I70 n71 (0) qo)/\
 ∀(n71:Nat) (apf:Nat->Value) (mH:Int) (jK:World),I70 n71 mH jK->
 Br (decide (mH<((s5.n:Nat):Int)))
 (Br (decide (mH<((s69.n:Nat):Int)))
 (∃(E8:Sl),ld jK.drew (ae (some a0) 2)=some (.slice E8.a E8.n E8.c)/\
 ee s5.a mH s5.n/\∃(FC:Int),ld jK.drew (ae s5.a ((mH:Int).toNat*1))=some (.int .i64 FC)/\
 ee s69.a mH s69.n/\∃(wS wF wG uA sH uT yI Ay:Int) (b86:Bool),ag jK.drew (ae s69.a ((mH:Int).toNat*9)) 0 [wS,wF,wG,uA,sH,uT,yI,Ay,b86]/\
 ee E8.a FC E8.n/\aP (dB (ae E8.a ((FC:Int).toNat*13))) ((((ae (ae E8.a ((FC:Int).toNat*13)) 1)).isSome=true/\Wr jK.drew (ae (ae E8.a ((FC:Int).toNat*13)) 1) 9)/\bC (ae (ae E8.a ((FC:Int).toNat*13)) 1)≠some w.heap.size/\(∀sI,sI=aG jK.drew (ae (ae E8.a ((FC:Int).toNat*13)) 1) [wS,wF,wG,uA,sH,uT,yI,Ay,b86]->
 ∃n75,n75<n71/\aO [.pointer (some a0)]/\I70 n75 ((aj (mH+1))) sI)))
 (∃(p88:Option Addr),ld jK (ae (some a0) 1)=some (.pointer p88)/\
 ah 118 #[p88,.func (.func 120) #[] #[w]] jK (λe kN=>e=sY/\
 ∃(p90:Option Addr),ld kN (some ⟨w,0,none⟩)=some (.pointer p90)/\
 aP (dB p90) (aP (dB p90) (∃(p91:Option Addr),ld kN (ae p90 1)=some (.pointer p91)/\
 ah 119 #[p91] kN (λe WJ=>∃(sJ:Int),e=sJ/\
 R sJ WJ))))))
 (∃(p94:Option Addr),ld jK (ae (some a0) 1)=some (.pointer p94)/\
 ah 118 #[p94,.func (.func 120) #[] #[w]] jK (λe Nz=>e=sY/\
 ∃(p96:Option Addr),ld Nz (some ⟨w,0,none⟩)=some (.pointer p96)/\
 aP (dB p96) (aP (dB p96) (∃(p97:Option Addr),ld Nz (ae p96 1)=some (.pointer p97)/\
 ah 119 #[p97] Nz (λe VW=>∃(H0:Int),e=H0/\
 R H0 VW)))))))))):ah 65 #[a0] w R:=
 cq ⟨[(15,⟨[(9,.int .i64)],[],[]⟩),(9,⟨[(6,.int .i64),(4,.slice)],[],[]⟩),(4,⟨[(5,.int .i64),(3,.slice)],[],[]⟩)],[],[]⟩ Tryz.func65 h
theorem vA.vc {a0:Addr} (h:
 ∀w0,w0=w.alloc (.cells #[ab,.slice none 0 0,.slice none 0 0] 86)->
 ∃(p1:Option Addr),ld w0 (ae (some a0) 1)=some (.pointer p1)/\
 ah 68 #[p1] w0 (Ri λx3 w2=>Kp w w0 w2/\
 ∀w4,w4=w2.alloc (.cells #[ab,.slice none 0 0,.slice none 0 0] 86)->
 ∀w5,w5=w4.setRow w2 #[x3,.slice none 0 0,.slice none 0 0]->
 ∃I6:Nat->Int->Int->Sl->Sl->World->Prop,
 (∃n7,aO [ab,.slice none 0 0,.slice none 0 0]/\I6 n7 (0) x3 ⟨none,0,0⟩ ⟨none,0,0⟩ w5)/\
 ∀(n7:Nat) (us8:Nat->Value) (x9 bj:Int) (Az jJ:Sl) (bF:World),I6 n7 x9 bj Az jJ bF->
 Br (x9<16)
 (∃(lg:Sl),ld bF (ae (some a0) 2)=some (.slice lg.a lg.n lg.c)/\
 ee lg.a x9 lg.n/\aP (dB (ae lg.a ((x9:Int).toNat*13))) (∃(b16:Bool),ld bF (ae (ae lg.a ((x9:Int).toNat*13)) 0)=some (.bool b16)/\
 Br b16
 (∃(E9:Sl),ld bF.drew (ae (some a0) 2)=some (.slice E9.a E9.n E9.c)/\
 ee E9.a x9 E9.n/\aP (dB (ae E9.a ((x9:Int).toNat*13))) (∃(cg cr cZ dm dI dz eH dQ:Int) (Fa:Bool),ag bF.drew (ae (ae E9.a ((x9:Int).toNat*13)) 1) 0 [cg,cr,cZ,dm,dI,dz,eH,dQ,Fa]/\
 ∀eo,eo=bF.drew.alloc (.cells #[x9,cg,cr,cZ,dm,dI,dz,eH,dQ,Fa] 164)->
 ba 80 10 eo Az 1 [x9,cg,cr,cZ,dm,dI,dz,eH,dQ,Fa]/\∀(NI:Sl) (dH:World),aV 164 10 eo Az 1 [x9,cg,cr,cZ,dm,dI,dz,eH,dQ,Fa] NI dH->K2 w w2 eo dH (
 dH.heap[bF.drew.heap.size]? =eo.heap[bF.drew.heap.size]?/\
 ag dH (ae (some a0) 2) 0 [E9]/\∀eY,eY=dH.setRow w2 #[bj,NI,jJ]->
 ∃FD,FD<n7/\aO [ab,.slice none 0 0,.slice none 0 0]/\I6 FD ((aj (x9+1))) bj NI jJ eY)))
 (∃FD,FD<n7/\aO [ab,.slice none 0 0,.slice none 0 0]/\I6 FD ((aj (x9+1))) bj Az jJ bF)))
 (∃(p31:Option Addr),ld bF (ae (some a0) 1)=some (.pointer p31)/\
 ah 82 #[p31] bF (Rs λJ5 j6=>K2 w w2 bF j6 (
 ∃I34:Nat->Int->Int->Sl->Sl->World->Prop,
 (∃J6,aO [ab,.slice none 0 0,.slice none 0 0]/\I34 J6 (0) bj Az jJ j6)/\
 ∀(J6:Nat) (awM:Nat->Value) (gu fX:Int) (Sv s40:Sl) (jm:World),I34 J6 gu fX Sv s40 jm->
 Br (decide (gu<((J5.n:Nat):Int)))
 (ee J5.a gu J5.n/\aP (dB (ae J5.a ((gu:Int).toNat*4))) (∃(pj:Int),ld jm.drew (ae (ae J5.a ((gu:Int).toNat*4)) 0)=some (.int .i64 pj)/\
 ee J5.a gu J5.n/\aP (dB (ae J5.a ((gu:Int).toNat*4))) (∃(kD pk gM:Int),ag jm.drew (ae (ae J5.a ((gu:Int).toNat*4)) 1) 0 [kD,pk,gM]/\
 ∀jQ,jQ=jm.drew.alloc (.cells #[pj,kD,pk,gM] 166)->
 ba 32 4 jQ s40 1 [pj,kD,pk,gM]/\∀(QM:Sl) (kv:World),aV 166 4 jQ s40 1 [pj,kD,pk,gM] QM kv->K2 w w2 jQ kv (
 kv.heap[jm.drew.heap.size]? =jQ.heap[jm.drew.heap.size]?/\
 ∀kM,kM=kv.setRow w2 #[fX,Sv,QM]->
 ∃n42,n42<J6/\aO [ab,.slice none 0 0,.slice none 0 0]/\I34 n42 ((aj (gu+1))) fX Sv QM kM))))
 (∀wR,wR=jm.setRow w #[fX,Sv,s40]->
 R (Value.agg #[fX,Sv,s40]) wR)))))):ah 62 #[a0] w R:=
 cq ⟨[(9,⟨[(6,.int .i64)],[(1,[.int .i64,.slice,.slice])],[]⟩),(3,⟨[(4,.int .i64)],[(1,[.int .i64,.slice,.slice])],[]⟩)],[],[]⟩ Tryz.func62 h
def tQ (n:Int):Int:=min (max n (-2147483648)) 2147483648
theorem QC (n:Int):(if 2147483648<(if (-2147483648)>n then (-2147483648) else n) then 2147483648 else (if (-2147483648)>n then (-2147483648) else n))=tQ n:=by
 unfold tQ
 repeat' split
 all_goals omega
theorem EI {n:Int} (h: -2147483648<=n/\n<=2147483648):tQ n=n:=by unfold tQ;omega
theorem EJ (c:Ce) (w:World):ah 160 #[ea c] w λe w'=>e=(ea (tQ c.1,tQ c.2.1,tQ c.2.2))/\Ext w w':=by apply VA.vc;intro w0 e0 w1 e1 w2 e2;rw [QC,QC,QC] at*;have x0:=aL e0;have z0:=zA e0;have x1:=aL e1;exact ⟨rfl,(x0.tr x1).af e2 aa⟩
theorem MG {c:Ce} (h:(-2147483648<=c.1/\c.1<=2147483648)/\(-2147483648<=c.2.1/\c.2.1<=2147483648)/\-2147483648<=c.2.2/\c.2.2<=2147483648) (w:World):ah 160 #[ea c] w λe w'=>e=(ea c)/\Ext w w':=by have:=EJ c w;rw [EI h.1,EI h.2.1,EI h.2.2] at this;exact this
theorem QD (c:Ce) (w:World):ah 126 #[ea c] w λe w'=>e=(qG (uZ c))/\Ext w w':=by
 apply VB.vc;intro w0 e0 w1 e1;have x0:=aL e0;have z0:=zA e0;have x1:=aL e1;have z1:=zA e1;refine (EJ c w1).mono ?_;rintro e w2 ⟨rfl,x2⟩;have z2:=x2.size;refine ⟨_,_,_,rfl,x2.heap aa,x2.heap aa,λw6 e6 w7 e7 w8 e8 w9 e9=> ?_⟩;have x7:Ext w2 w7:=(aL e6).af e7 (aB _);have z7:w7.heap.size=w2.heap.size+1:=by rw [zR e7,zA e6]
 have hb:∀n,-2147483648<=tQ n/\tQ n<=2147483648:=λn=>by unfold tQ;omega
 have hof:∀n,aj (tQ n*65536)=px n:=λn=>by have:=hb n;rw [wI];rfl
 have x9:Ext w7 w9.drew:=((aL e8).af e9 (aB _)).drew;have z9:w9.drew.heap.size=w7.heap.size+1:=by show w9.heap.size=_;rw [zR e9,zA e8]
 rw [hof,hof,hof] at e9 ⊢;have r9:∃τ,Row w9.drew w7 (du (px c.1,px c.2.1,px c.2.2)) τ:=⟨_,by rw [e9,e8];exact (Row.set (Row.new w7 [_,_,_] _) [_,_,_]).ext (Ext.dr _)⟩;obtain ⟨τ,r9⟩:=r9;refine (HN (px c.1,px c.2.1,px c.2.2) (65536,65536,65536) w9.drew).mono ?_;rintro e bD ⟨rfl,bj⟩;have Sr:=bj.size;exact ⟨_,_,_,rfl,bj.heap aa,bj.heap aa,bj.heap aa,bj.heap aa,Lo.wv (r9.ext bj),λbK uy=>⟨rfl,(x0.tr (x1.tr (x2.tr (x7.tr (x9.tr bj))))).af uy aa⟩⟩
def EK (m:Int):Prop:= -2000000000<=m/\m<=2000000000
def Gp (c:Ce) (k:Nat):LV:=((List.range 6).map λj=>if j<k then du ((pw c).getD j (0,0,0)) else du (0,0,0)).flatten
set_option maxHeartbeats 4000000 in
theorem Pz (c:Ce) (hc:eQ c) (w:World):ah 112 #[ea c] w λe w'=>e=Value.agg (BN c).toArray/\Ext w w':=by
 apply QA.vc;intro w0 e0 w1 e1 w2 e2;have x0:=aL e0;have z0:=zA e0;have x1:=aL e1;have z1:=zA e1;have r1:∃τ,Row w1 w0 (Gp c 0) τ:=⟨_,by rw [e1];exact Row.new w0 (Gp c 0) _⟩;have x2:=aL e2;have z2:=zA e2;have r2:∃τ,Row w2 w1 (Gp c 0) τ:=⟨_,by rw [e2];exact Row.new w1 (Gp c 0) _⟩;obtain ⟨τ,r1⟩:=r1;obtain ⟨τ',r2⟩:=r2;have hw:=hc;unfold eQ at hw;refine ⟨λn x wr=>∃k:Nat,x=k/\k+n=6/\Row wr w1 (Gp c k) τ'/\Row wr w0 (Gp c 0) τ/\Ext w wr/\w2.heap.size<=wr,⟨6,rfl,0,rfl,rfl,r2,r1.ext x2,x0.tr (x1.tr x2),aB _⟩,?_⟩;rintro n us x w7 ⟨k,rfl,hk,rk,rz,x7,z7⟩;apply Br.mk<;>intro hq
 ·have hq:(k:Int)<6:=by simpa using hq
  refine (MG (c:=c) aa w7).mono ?_;rintro e w9 ⟨rfl,x9⟩;have z9:=x9.size;refine ⟨_,_,_,rfl,x9.heap aa,λbF B7 bK uy=> ?_⟩;have bW:Ext w9 bK:=(aL B7).af uy (aB _);have WE:bK.heap.size=w9.heap.size+1:=by rw [zR uy,zA B7]
  have last:∀{u:World} (d:Ce),d=(pw c).getD k (0,0,0)->((-2147483648<=d.1/\d.1<=2147483648)/\(-2147483648<=d.2.1/\d.2.1<=2147483648)/\-2147483648<=d.2.2/\d.2.2<=2147483648)->Ext w9 u->w9.heap.size+1=u.heap.size->
    ah 160 #[ea d] u λe v=>∃a b f:Int,e=Value.agg #[a,b,f]/\v.heap[w.heap.size]? =u.heap[w.heap.size]?/\v.heap[w9.heap.size]? =u.heap[w9.heap.size]?/\
     (0:Int)<=(k:Int)/\(k:Int)<((6:Nat):Int)/\(true=true/\Wr v (ae (some ⟨w1.heap.size,0,none⟩) ((k:Int).toNat*3)) 3)/\bC (ae (some ⟨w1.heap.size,0,none⟩) ((k:Int).toNat*3))≠some w.heap.size/\bC (ae (some ⟨w1.heap.size,0,none⟩) ((k:Int).toNat*3))≠some w9.heap.size/\
     ∀eo:World,eo=Vc.aG v (ae (some ⟨w1.heap.size,0,none⟩) ((k:Int).toNat*3)) [a,b,f]->∃n8,n8<n/\aO [c.1,c.2.1,c.2.2]/\
      ∃k':Nat,aj ((k:Int)+1)=k'/\k'+n8=6/\Row eo w1 (Gp c k') τ'/\Row eo w0 (Gp c 0) τ/\Ext w eo/\w2.heap.size<=eo:=by
   intro u d hd hdb xu zu;refine (MG hdb u).mono ?_;rintro e v ⟨rfl,xv⟩;have zv:=xv.size;have rv:=rk.ext (x9.tr (xu.tr xv));rw [eJ];obtain ⟨p1,p2⟩:=lI rv (off:=k*3) (vs:=du d) (by
    have:k=0\/k=1\/k=2\/k=3\/k=4\/k=5:=by omega
    rcases this with rfl|rfl|rfl|rfl|rfl|rfl<;>(show _+3<=18;decide)) (As d)
   have hpb:bC (ae (some ⟨w1.heap.size,0,none⟩) (k*3))=some w1.heap.size:=by rw [bh];rfl
   refine ⟨_,_,_,rfl,xv.heap aa,xv.heap aa,by omega,by omega,⟨rfl,p1⟩,by rw [hpb];intro q;injection q with q;omega,by rw [hpb];intro q;injection q with q;omega,λeo e27=> ?_⟩;obtain ⟨q1,q2⟩:=p2 eo e27;have zq:=q2.size;refine ⟨n-1,by omega,rfl,k+1,by rw [wI];omega,by omega,?_,(rz.ext (x9.tr (xu.tr xv))).same (q2.same _ aa aa),q2.ext (x7.tr (x9.tr (xu.tr xv))) (λi hi=>by omega),by omega⟩;have:aR (Gp c k) (k*3) (du d)=Gp c (k+1):=by
    rw [hd];have:k=0\/k=1\/k=2\/k=3\/k=4\/k=5:=by omega
    rcases this with rfl|rfl|rfl|rfl|rfl|rfl<;>rfl
   rw [<-this];exact q1
  have m1:∀m:Int,EK m->aj (m+(-1))=m-1:=λm hm=>by rw [aK (by unfold EK at hm;unfold bS;omega)];omega
  have p1:∀m:Int,EK m->aj (m+1)=m+1:=λm hm=>by rw [aK (by unfold EK at hm;unfold bS;omega)]
  have hx:EK c.1:=hc.1;have hy:EK c.2.1:=hc.2.1;have hz:EK c.2.2:=hc.2.2;have by0:aj (aj (2*Int.tmod 0 2)-1)= -1:=by decide
  have by1:aj (aj (2*Int.tmod 1 2)-1)=1:=by decide
  have hk6:k=0\/k=1\/k=2\/k=3\/k=4\/k=5:=by omega
  rcases hk6 with rfl|rfl|rfl|rfl|rfl|rfl
  ·refine yes aE λdY oE=>eI aE (eI aE ?_)
   have hb:aj (c.1+aj (aj (2*Int.tmod ((0:Nat):Int) 2)-1))=c.1-1:=by rw [show aj (aj (2*Int.tmod ((0:Nat):Int) 2)-1)= -1 from by decide];exact m1 _ hx
   rw [hb] at oE ⊢;exact last (c.1-1,c.2.1,c.2.2) rfl (by simp only;omega) (bW.af oE (aB _)) (by rw [zR oE];omega)
  ·refine yes aE λdY oE=>eI aE (eI aE ?_)
   have hb:aj (c.1+aj (aj (2*Int.tmod ((1:Nat):Int) 2)-1))=c.1+1:=by rw [show aj (aj (2*Int.tmod ((1:Nat):Int) 2)-1)=1 from by decide];exact p1 _ hx
   rw [hb] at oE ⊢;exact last (c.1+1,c.2.1,c.2.2) rfl (by simp only;omega) (bW.af oE (aB _)) (by rw [zR oE];omega)
  ·refine eI aE (yes aE λdY oE=>eI aE ?_);have hb:aj (c.2.1+aj (aj (2*Int.tmod ((2:Nat):Int) 2)-1))=c.2.1-1:=by rw [show aj (aj (2*Int.tmod ((2:Nat):Int) 2)-1)= -1 from by decide];exact m1 _ hy
   rw [hb] at oE ⊢;exact last (c.1,c.2.1-1,c.2.2) rfl (by simp only;omega) (bW.af oE (aB _)) (by rw [zR oE];omega)
  ·refine eI aE (yes aE λdY oE=>eI aE ?_);have hb:aj (c.2.1+aj (aj (2*Int.tmod ((3:Nat):Int) 2)-1))=c.2.1+1:=by rw [show aj (aj (2*Int.tmod ((3:Nat):Int) 2)-1)=1 from by decide];exact p1 _ hy
   rw [hb] at oE ⊢;exact last (c.1,c.2.1+1,c.2.2) rfl (by simp only;omega) (bW.af oE (aB _)) (by rw [zR oE];omega)
  ·refine eI aE (eI aE (yes aE λdY oE=> ?_));have hb:aj (c.2.2+aj (aj (2*Int.tmod ((4:Nat):Int) 2)-1))=c.2.2-1:=by rw [show aj (aj (2*Int.tmod ((4:Nat):Int) 2)-1)= -1 from by decide];exact m1 _ hz
   rw [hb] at oE ⊢;exact last (c.1,c.2.1,c.2.2-1) rfl (by simp only;omega) (bW.af oE (aB _)) (by rw [zR oE];omega)
  ·refine eI aE (eI aE (yes aE λdY oE=> ?_));have hb:aj (c.2.2+aj (aj (2*Int.tmod ((5:Nat):Int) 2)-1))=c.2.2+1:=by rw [show aj (aj (2*Int.tmod ((5:Nat):Int) 2)-1)=1 from by decide];exact p1 _ hz
   rw [hb] at oE ⊢;exact last (c.1,c.2.1,c.2.2+1) rfl (by simp only;omega) (bW.af oE (aB _)) (by rw [zR oE];omega)
 ·have hq:¬(k:Int)<6:=by simpa using hq
  have:k=6:=by omega
  subst this;have rk:Row w7 w1 (BN c) τ':=rk;have wA:One (BN c):=DF c;obtain ⟨p1,p2⟩:=lI rz (off:=0) (vs:=BN c) (by show 0+18<=18;decide) wA;refine ⟨_,_,_,_,_,_,_,_,_,_,_,_,_,_,_,_,_,_,Lo.wv rk,⟨rfl,p1⟩,?_,λr6 e80=> ?_⟩
  ·intro q;have q:some w0.heap.size=some w.heap.size:=q;injection q with q;omega
  obtain ⟨q1,q2⟩:=p2 r6 e80;have q1:Row r6 w0 (BN c) τ:=q1;exact ⟨_,_,_,_,_,_,_,_,_,_,_,_,_,_,_,_,_,_,Lo.wv q1,rfl,q2.ext x7 λi hi=>by omega⟩
abbrev jd:=Bool × ez
abbrev jr (r:jd):LV:=[.bool r.1,.int .i64 r.2.1.aH.1,.int .i64 r.2.1.aH.2.1,.int .i64 r.2.1.aH.2.2,.int .i64 r.2.1.speed.1,.int .i64 r.2.1.speed.2.1,.int .i64 r.2.1.speed.2.2,.int .i64 r.2.1.wd,.int .i64 r.2.1.ht,.bool r.2.1.gZ,.int .i64 r.2.2.1,.int .i64 r.2.2.2.1,.bool r.2.2.2.2]
def ai (r:jd):Option ez:=if r.1 then some r.2 else none
def MF (F:Nat->Prop) (w:World) (m s o t:Nat) (M:Sm) (occ:Value) (rows:List jd):Prop:=
 ∃(Fs:Nat->Prop) (b:Nat),Row w m [o,s,.slice (some ⟨b,0,none⟩) 16 16] tn/\SF Fs w s o t M occ/\Row w b (rows.map jr).flatten AS/\rows.length=16/\F=λi=>i=m\/i=b\/Fs i
abbrev kB (F:Nat->Prop) (w:World) (m s o t:Nat) (M:Sm) (occ:Value) (rows:List jd) (w':World):Prop:=∃F',MF F' w' m s o t M occ rows/\aN F F' w w'
theorem JZ {w:World} {p:Option Addr} {v:Value} (h:Vc.ld w p=some v):ag w p 0 [v]:=lR λj hj=>by
 have:j=0:=by simpa using hj
 subst this;have e:ae p (0+0)=p:=by
  cases p with
  |none=>rfl
  |some a=>obtain ⟨b,o,k⟩:=a;cases k<;>simp [ae,Addr.add]
 rw [e];exact h
theorem mB:(C3 tn/\tn≠qB/\tn≠kg/\tn≠zy/\tn≠Q.gE/\tn≠Q.cC/\tn≠pr)/\(C3 AS/\AS≠qB/\AS≠kg/\AS≠zy/\AS≠Q.gE/\AS≠Q.cC/\AS≠pr)/\tn≠AS:=by decide
theorem afE (r:jd):One (jr r):=by intro u hu;simp at hu;rcases hu with rfl|rfl|rfl|rfl|rfl|rfl|rfl|rfl|rfl|rfl|rfl|rfl|rfl<;>rfl
theorem qv {w:World} {b:Nat} {rows:List jd} (hr:Row w b (rows.map jr).flatten AS) (hn:rows.length=16):RdK w ⟨some ⟨b,0,none⟩,16,16⟩ 13 (rows.map jr):=by
 have hl:(rows.map jr).flatten.length=16*13:=by
  have:=bM (k:=13) (rows:=rows.map jr) λr hr=>by obtain ⟨x,-,rfl⟩:=bg.1 hr;rfl
  rw [this,aM,hn]
 exact (aC.jf (B:=0) (k:=13) (n:=16) (c:=16) (Nat.zero_le _) hr aa (aB _) (by rw [fB aa]) λr hr=>by obtain ⟨x,-,rfl⟩:=bg.1 hr;rfl).rd aE
section
variable {F F':Nat->Prop} {w w':World} {m s o t:Nat} {M M':Sm} {occ:Value} {rows:List jd}
theorem MF.lt (h:MF F w m s o t M occ rows) {i:Nat} (hi:F i):i<w:=by
 obtain ⟨Fs,b,h1,h2,h3,-,rfl⟩:=h;rcases hi with rfl|rfl|hi
 ·exact h1.lt
 ·exact h3.lt
 ·exact h2.lt hi
theorem MF.same (h:MF F w m s o t M occ rows) (hk:∀i,F i->w'.heap[i]? =w.heap[i]?):MF F w' m s o t M occ rows:=by obtain ⟨Fs,b,h1,h2,h3,h4,rfl⟩:=h;exact ⟨Fs,b,h1.same (hk _ (.inl rfl)),h2.same λi hi=>hk i (.inr (.inr hi)),h3.same (hk _ (.inr (.inl rfl))),h4,rfl⟩
theorem MF.ext (h:MF F w m s o t M occ rows) (x:Ext w w'):MF F w' m s o t M occ rows:=h.same λ_ hi=>x.heap (h.lt hi)
theorem MF.res (h:MF F w m s o t M occ rows) (x:Ext w w'):kB F w m s o t M occ rows w':=⟨F,h.ext x,aN.aD x⟩
theorem kB.aD {w0:World} (x:Ext w w0) (h:kB F w0 m s o t M occ rows w'):kB F w m s o t M occ rows w':=by obtain ⟨F',h1,h2⟩:=h;exact ⟨F',h1,(aN.aD x).trans h2⟩
theorem MF.sV (h:MF F w m s o t M occ rows):∃Fs,SF Fs w s o t M occ/\Vc.ld w (ae (some ⟨m,0,none⟩) 1)=some (.pointer (some ⟨s,0,none⟩))/\Vc.ld w (ae (some ⟨m,0,none⟩) 0)=some (.pointer (some ⟨o,0,none⟩))/\(∀i,Fs i->F i)/\∀{w':World} {M':Sm} {occ':Value},lL Fs w s o t M' occ' w'->kB F w m s o t M' occ' rows w':=by
 obtain ⟨Fs,b,h1,h2,h3,h4,rfl⟩:=h;refine ⟨Fs,h2,h1.at 1 rfl,h1.at 0 rfl,λi hi=> .inr (.inr hi),?_⟩;rintro w' M' occ' ⟨F',h',ht⟩;have nm:¬Fs m:=h2.jF h1 mB.1.1 mB.1.2.1 mB.1.2.2.1 mB.1.2.2.2.1 mB.1.2.2.2.2.1 mB.1.2.2.2.2.2.1 mB.1.2.2.2.2.2.2;have nb:¬Fs b:=h2.jF h3 mB.2.1.1 mB.2.1.2.1 mB.2.1.2.2.1 mB.2.1.2.2.2.1 mB.2.1.2.2.2.2.1 mB.2.1.2.2.2.2.2.1 mB.2.1.2.2.2.2.2.2;refine ⟨_,⟨F',b,ht.mod.row h1 nm,h',ht.mod.row h3 nb,h4,rfl⟩,ht.mod.mono λi _ hi=> .inr (.inr hi),λi hi=> ?_⟩;rcases hi with hi|hi|hi
 ·exact .inl (.inl hi)
 ·exact .inl (.inr (.inl hi))
 ·exact (ht.sub i hi).imp (λq=> .inr (.inr q)) id
theorem MF.CL (h:MF F w m s o t M occ rows):∃b,Row w m [o,s,.slice (some ⟨b,0,none⟩) 16 16] tn/\Row w b (rows.map jr).flatten AS/\rows.length=16/\F m/\F b/\m≠b/\∀{w':World} {rows':List jd},Mod (λi=>i=b) w w'->Row w' b (rows'.map jr).flatten AS->rows'.length=16->kB F w m s o t M occ rows' w':=by obtain ⟨Fs,b,h1,h2,h3,h4,rfl⟩:=h;have hmb:m≠b:=h1.ne h3 mB.2.2;refine ⟨b,h1,h3,h4,.inl rfl,.inr (.inl rfl),hmb,?_⟩;intro w' rows' hm hr hn;have nb:¬Fs b:=h2.jF h3 mB.2.1.1 mB.2.1.2.1 mB.2.1.2.2.1 mB.2.1.2.2.2.1 mB.2.1.2.2.2.2.1 mB.2.1.2.2.2.2.2.1 mB.2.1.2.2.2.2.2.2;exact ⟨_,⟨Fs,b,hm.row h1 hmb,h2.same λi hi=>hm.same i (h2.lt hi) λq=>nb (q▸hi),hr,hn,rfl⟩,hm.mono λi _ hi=> .inr (.inl hi),λi hi=> .inl hi⟩
theorem MF.tl (h:MF F w m s o t M occ rows):Tl (.func (.func 83) #[t] #[]) (ig M.T.2) w:=by obtain ⟨Fs,h1,-⟩:=h.sV;exact h1.tl
theorem Wv (r:jd):(jr r)[0]? =some (.bool r.1):=rfl
theorem mlB (r:jd):∀j,j<(jo r.2.1).length->(jr r)[1+j]? =(jo r.2.1)[j]? :=λj hj=>by
 have hj:j<9:=hj
 have:j=0\/j=1\/j=2\/j=3\/j=4\/j=5\/j=6\/j=7\/j=8:=by omega
 rcases this with rfl|rfl|rfl|rfl|rfl|rfl|rfl|rfl|rfl<;>rfl
theorem AP (h:MF F w m s o t M occ rows) (b:ep):ah 107 #[m,BG b] w λe w'=>e=Value.bool (nI M b)/\Ext w w':=by
 apply xm.vc;intro w0 e0;have x0:Ext w w0.drew:=(aL e0).drew;have z0:w0.drew.heap.size=w.heap.size+1:=by show w0.heap.size=_;exact zA e0
 obtain ⟨Fs,h1,-,h2,-⟩:=(h.ext x0).sV;refine ⟨_,h2,(Y9 b.aH w0.drew).mono ?_⟩;rintro e w2 ⟨rfl,x2⟩;have z2:=x2.size;obtain ⟨Fs,h1,-,h2,-⟩:=(h.ext (x0.tr x2)).sV;obtain ⟨Fw,hW,-,-⟩:=h1.world;refine ⟨_,_,_,rfl,x2.heap aa,JZ h2,(td hW (bu b.aH) (xI _).1 (xI _).2).mono ?_⟩;rintro e w6 ⟨rfl,x6⟩;exact ⟨_,rfl,x6.heap aa,rfl,x0.tr (x2.tr x6)⟩
set_option maxHeartbeats 1000000 in
theorem Ec {b:Nat} (hm:Row w m [o,s,.slice (some ⟨b,0,none⟩) 16 16] tn) (hr:Row w b (rows.map jr).flatten AS) (hn:rows.length=16) {n:Int} (hL:rL n (rows.map ai)) (c:Ce):
  ah 67 #[m,ea c] w λe w'=>e=Value.bool (pQ (rows.map ai) c)/\Ext w w':=by
 apply zk.vc;intro w0 e0;have x0:=aL e0;have z0:=zA e0;have r0:∃τ,Row w0 w (du c) τ:=⟨_,by rw [e0];exact Row.new w [_,_,_] _⟩;obtain ⟨τ,r0⟩:=r0;refine ⟨λn x wr=>∃k:Nat,x=k/\k+n=16/\Ext w0 wr/\∀j,j<k->∀y,(rows.map ai)[j]? =some y->Du c y=false,⟨16,rfl,0,rfl,rfl,Ext.cQ _,λj hj=>by omega⟩,?_⟩;rintro n1 us x w5 ⟨k,rfl,hk,x5,mV⟩;apply Br.mk<;>intro hq
 ·have hq:(k:Int)<16:=by simpa using hq
  obtain ⟨r,J1⟩:=bH (l:=rows) (i:=k) aa;have hi:(rows.map jr)[k]? =some (jr r):=by rw [aS,J1];rfl
  have hl:(rows.map ai)[k]? =some (ai r):=by rw [aS,J1];rfl
  have xd:=x0.tr (x5.tr (Ext.dr w5));have ldm:∀{u:World},Ext w u->Vc.ld u (ae (some ⟨m,0,none⟩) 2)=some (.slice (some ⟨b,0,none⟩) 16 16):=λxu=>(hm.ext xu).at 2 rfl
  have rk:∀{u:World},Ext w u->RdK u ⟨some ⟨b,0,none⟩,16,16⟩ 13 (rows.map jr):=λxu=>qv (hr.ext xu) hn
  have z5:=x5.size;have wk:=mh (j:=k);have next:Du c (ai r)=false->∀{u:World},Ext w0 u->∃n6,n6<n1/\aO [c.1,c.2.1,c.2.2]/\∃k':Nat,aj ((k:Int)+1)=k'/\k'+n6=16/\Ext w0 u/\∀j,j<k'->∀y,(rows.map ai)[j]? =some y->Du c y=false:=λhm {u} xu=>by
   refine ⟨n1-1,by omega,rfl,k+1,wk,by omega,xu,λj hj z hz=> ?_⟩;by_cases q:j<k
   ·exact mV j q z hz
   ·rw [show j=k from by omega,hl] at hz;rw [<-Option.some.inj hz];exact hm
  refine ⟨⟨some ⟨b,0,none⟩,16,16⟩,ldm xd,(rk xd).gR (i:=(k:Int)) aE aa (by show (k:Int)<((16:Nat):Int);omega),gr rfl ⟨r.1,(rk xd).at hi (Wv r),Br.mk (λhb=> ?_) (λhb=>next (by unfold ai;rw [hb];rfl) (x5.tr (Ext.dr w5)))⟩⟩;have uP:ai r=some r.2:=by unfold ai;rw [if_pos hb]
  have okr:=hL r.2 (by rw [<-uP];exact aZ hl);refine ⟨⟨some ⟨b,0,none⟩,16,16⟩,ldm xd,(rk xd).gR (i:=(k:Int)) aE aa (by show (k:Int)<((16:Nat):Int);omega),gr rfl ⟨_,_,_,_,_,_,_,_,_,iP (rk xd) hi (mlB r),(zi r.2.1 okr.wdi w5.drew).mono ?_⟩⟩;rintro e fy ⟨rfl,cr⟩;have z19:=cr.size;have zd:=lv w5;have Fx:=xd.tr cr;have bl:∀{u:World},Ext w u->ag u (ae (ae (some ⟨b,0,none⟩) ((k:Int).toNat*13)) 0) 0 [.bool r.1]:=λxu=>JZ ((rk xu).at hi (Wv r))
  refine ⟨_,_,_,_,_,_,rfl,cr.heap aa,Lo.wv (r0.ext (x5.tr ((Ext.dr w5).tr cr))),JZ (ldm Fx),bl Fx,JZ (ldm Fx),(QD c fy).mono ?_⟩;rintro e eG ⟨rfl,fk⟩;have z26:=fk.size;have Gt:=Fx.tr fk;refine ⟨_,_,_,_,_,_,rfl,fk.heap aa,JZ (ldm Gt),bl Gt,JZ (ldm Gt),(Mk r.2.1.box (uZ c) eG).mono ?_⟩;rintro e ej ⟨rfl,ey⟩;have JR:=Gt.tr ey;have hme:Du c (ai r)=jA r.2.1.box (uZ c):=by rw [uP];rfl
  refine ⟨_,rfl,ey.heap aa,JZ (ldm JR),bl JR,JZ (ldm JR),Br.mk (λhm=>⟨?_,JR⟩) (λhm=>next (by rw [hme];exact hm) (x5.tr ((Ext.dr w5).tr (cr.tr (fk.tr ey)))))⟩;have:pQ (rows.map ai) c=true:=List.any_eq_true.2 ⟨_,aZ hl,by rw [hme];exact hm⟩;rw [this]
 ·have hq:¬(k:Int)<16:=by simpa using hq
  refine ⟨?_,x0.tr x5⟩;have:pQ (rows.map ai) c=false:=List.any_eq_false.2 λy hy=>by obtain ⟨j,hj⟩:=List.mem_iff_getElem?.1 hy;have:=(cR.1 hj).1;rw [aM] at this;rw [mV j aa y hj];decide
  rw [this]
end
theorem Eb (v:Ce) (m:Int):within v m=(List.range 3).all λi=>decide (-m<=di v i) && decide (di v i<=m):=by
 have e0:di v ((0:Nat):Int)=v.1:=rfl;have e1:di v ((1:Nat):Int)=v.2.1:=rfl;have e2:di v ((2:Nat):Int)=v.2.2:=rfl;have:(List.range 3).all (λi=>decide (-m<=di v i) && decide (di v i<=m))=((decide (-m<=v.1) && decide (v.1<=m)) &&((decide (-m<=v.2.1) && decide (v.2.1<=m)) &&(decide (-m<=v.2.2) && decide (v.2.2<=m)))):=by rw [<-e0,<-e1,<-e2];simp [List.range_succ]
 rw [this];unfold within;rw [Bool.eq_iff_iff];simp only [fq,cS];omega
theorem vf (v:Ce) (m:Int) (hm:0<=m/\m<=140737488355328) (w:World):ah 157 #[ea v,m] w λe w'=>e=Value.bool (within v m)/\Ext w w':=by
 apply I9.vc;intro w0 e0;have x0:=aL e0;have z0:=zA e0;have hw:aj (0-m)= -m:=by rw [wI];omega
 refine ⟨λn x wr=>∃k:Nat,x=k/\k+n=3/\Ext w0 wr/\∀j,j<k-> -m<=di v (j:Nat)/\di v (j:Nat)<=m,⟨3,rfl,0,rfl,rfl,Ext.cQ _,λj hj=>by omega⟩,?_⟩;rintro n us x w5 ⟨k,rfl,hk,x5,qg⟩;have z5:=x5.size;apply Br.mk<;>intro hq
 ·have hq:(k:Int)<3:=by simpa using hq
  refine (PW v k w5).mono ?_;rintro e w7 ⟨rfl,x7⟩;have bad:¬(-m<=di v (k:Nat)/\di v (k:Nat)<=m)->within v m=false:=λh=>by rw [Eb];refine List.all_eq_false.2 ⟨k,List.mem_range.2 aa,?_⟩;simp only [fq,cS];exact h
  refine ⟨_,rfl,x7.heap aa,?_⟩;rw [hw];refine Br.mk (λh=> ?_) (λh=>Br.mk (λh2=> ?_) (λh2=> ?_))
  ·rw [bad (by
    have h:di v (k:Nat)< -m:=by simpa using h
    omega)]
   exact ⟨rfl,x0.tr (x5.tr x7)⟩
  ·rw [bad (by
    have h2:di v (k:Nat)>m:=by simpa using h2
    omega)]
   exact ⟨rfl,x0.tr (x5.tr x7)⟩
  ·have h:¬di v (k:Nat)< -m:=by simpa using h
   have h2:¬di v (k:Nat)>m:=by simpa using h2
   refine ⟨n-1,by omega,rfl,k+1,by rw [wI];omega,by omega,x5.tr x7,λj hj=> ?_⟩;by_cases q:j<k
   ·exact qg j q
   ·rw [show j=k from by omega];omega
 ·have hq:¬(k:Int)<3:=by simpa using hq
  have:within v m=true:=by
   rw [Eb];refine List.all_eq_true.2 λj hj=> ?_
   have:=qg j (by have:=List.mem_range.1 hj;omega);simp only [fq,cS];exact this
  rw [this];exact ⟨rfl,x0.tr x5⟩
theorem Tm (b:ep) (w:World):ah 106 #[BG b] w λe w'=>e=Value.bool b.may/\Ext w w':=by
 apply UG.vc;intro w0 e0;have x0:=aL e0;have z0:=zA e0;refine (vf b.aH _ aE w0).mono ?_;rintro e w1 ⟨rfl,x1⟩;have z1:=x1.size;refine ⟨_,rfl,x1.heap aa,(vf b.speed _ aE w1).mono ?_⟩;rintro e w3 ⟨rfl,x3⟩;have Av:=x0.tr (x1.tr x3);refine ⟨_,rfl,x3.heap aa,?_⟩;unfold ep.may;generalize within b.aH 70368744177664=p;generalize within b.speed 262144=q;refine Br.mk (λh1=>Br.mk (λh2=>Br.mk (λh3=>Br.mk (λh4=>Br.mk (λh5=> ?_) (λh5=> ?_)) (λh4=> ?_)) (λh3=> ?_)) (λh2=> ?_)) (λh1=> ?_)
 ·have h3:b.wd>=2:=by simpa using h3
  have h4:b.wd<=131072:=by simpa using h4
  have h5:b.ht>=1:=by simpa using h5
  rw [h1,h2,decide_eq_true (show 2<=b.wd from h3),decide_eq_true h4,decide_eq_true (show 1<=b.ht from h5)];exact ⟨by simp,Av⟩
 ·have h5:¬b.ht>=1:=by simpa using h5
  rw [decide_eq_false (show ¬1<=b.ht from h5)];exact ⟨by simp,Av⟩
 ·have h4:¬b.wd<=131072:=by simpa using h4
  rw [decide_eq_false h4];exact ⟨by simp,Av⟩
 ·have h3:¬b.wd>=2:=by simpa using h3
  rw [decide_eq_false (show ¬2<=b.wd from h3)];exact ⟨by simp,Av⟩
 ·rw [h2];exact ⟨by simp,Av⟩
 ·rw [h1];exact ⟨by simp,Av⟩
section
variable {F F':Nat->Prop} {w w':World} {m s o t:Nat} {M M':Sm} {occ:Value} {rows:List jd}
theorem kB.c9 {k:Nat} {w0:World} (x:Ext w w0) (hk:w.heap.size<=k) (hk0:k<w0) (h0:∀i,F i->i<w.heap.size) {M':Sm} {occ':Value} {r':List jd} (r:kB F w0 m s o t M' occ' r' w'):w'.heap[k]? =w0.heap[k]? :=by obtain ⟨F',-,h2⟩:=r;exact h2.mod.same _ hk0 λq=>by have:=h0 _ q;omega
theorem vp (h:MF F w m s o t M occ rows) {n:Int} (hL:rL n (rows.map ai)) (c:Ce) (hc:eQ c) (b:Int) (hk:qu M 800000):ah 60 #[m,ea c,b] w λe w'=>e=Value.int .i64 (fP M (rows.map ai) c b).1/\kB F w m s o t (fP M (rows.map ai) c b).2 occ rows w':=by
 apply zn.vc;intro w0 e0;have x0:=aL e0;have z0:=zA e0;have inner:∀{u:World},Ext w0 u->¬(aI b=true/\pQ (rows.map ai) c=true)->∃p:Option Addr,Vc.ld u (ae (some ⟨m,0,none⟩) 1)=some (.pointer p)/\
   ah 113 #[p,ea c,b] u λe w6=>∃x7:Int,e=x7/\w6.heap[w.heap.size]? =u.heap[w.heap.size]?/\Ending.returned x7=Value.int .i64 (fP M (rows.map ai) c b).1/\kB F w m s o t (fP M (rows.map ai) c b).2 occ rows w6:=by
  intro u xu hn;have hu:=h.ext (x0.tr xu);have zu:=xu.size;obtain ⟨Fs,hs,jq,-,eM,bo⟩:=hu.sV;refine ⟨_,jq,(vZ hs c hc b hk).mono ?_⟩;rintro e w6 ⟨rfl,hr⟩;have hk6:w6.heap[w.heap.size]? =u.heap[w.heap.size]? :=by obtain ⟨F6,-,t6⟩:=hr;exact t6.mod.same _ aa λq=>by have:=h.lt (eM _ q);omega
  unfold fP;rw [if_neg hn];exact ⟨_,rfl,hk6,rfl,kB.aD (x0.tr xu) (bo hr)⟩
 refine (Ak b w0).mono ?_;rintro e w1 ⟨rfl,Rg⟩;subst Rg;refine ⟨_,rfl,rfl,Br.mk (λhb=> ?_) (λhb=>inner (Ext.dr _) λq=>by rw [hb] at q;cases q.1)⟩;obtain ⟨b',hm,hr,hn,-⟩:=(h.ext x0).CL;refine (Ec hm hr hn hL c).mono ?_;rintro e w3 ⟨rfl,x3⟩;have z3:=x3.size;refine ⟨_,rfl,x3.heap aa,Br.mk (λhq=> ?_) (λhq=> ?_)⟩
 ·unfold fP;rw [if_pos ⟨hb,hq⟩];exact ⟨rfl,h.res (x0.tr x3)⟩
 ·exact inner (x3.tr (Ext.dr _)) λq=>by rw [hq] at q;cases q.2
theorem j8 {n:Int} {k:Nat} (e:n=k) {r:jd} (h:rows[k]? =some r):bV (rows.map ai) n=ai r:=by subst e;unfold bV;rw [if_pos aa,eJ,aS,h];rfl
end
section
variable {F F':Nat->Prop} {w w':World} {m s o t:Nat} {M M':Sm} {occ:Value} {rows:List jd}
theorem Qy (h:MF F w m s o t M occ rows) {n:Int} (hL:rL n (rows.map ai)) (c:Ce):ah 67 #[m,ea c] w λe w'=>e=Value.bool (pQ (rows.map ai) c)/\Ext w w':=by obtain ⟨b,hm,hr,hn,-⟩:=h.CL;exact Ec hm hr hn hL c
theorem yu (hn:rows.length=16) {n:Int} (h:¬(0<=n/\n<16)):bV (rows.map ai) n=none:=pZ (by rw [aM];exact hn) h
set_option maxHeartbeats 4000000 in
theorem vq (h:MF F w m s o t M occ rows) {n:Int} (hL:rL n (rows.map ai)) (hn:n<=99970000000000) (i:Int) (dS:Ce):
  ah 63 #[m,i,ea dS] w λe w'=>e=Value.tuple #[U6 (cF M (rows.map ai) i dS).1,.int .i64 (cF M (rows.map ai) i dS).2]/\Ext w w':=by
 apply zo.vc;intro w0 e0 w1 e1;have x0:=aL e0;have z0:=zA e0;have r0:∃τ,Row w0 w (du dS) τ:=⟨_,by rw [e0];exact Row.new w [_,_,_] _⟩;have x1:=aL e1;have z1:=zA e1;obtain ⟨τ,r0⟩:=r0;have r1:=r0.ext x1;have jC:=x0.tr x1;obtain ⟨b,hm,hr,vk,-⟩:=h.CL;have ldm:∀{u:World},Ext w u->Vc.ld u (ae (some ⟨m,0,none⟩) 2)=some (.slice (some ⟨b,0,none⟩) 16 16):=λxu=>(hm.ext xu).at 2 rfl
 have rk:∀{u:World},Ext w u->RdK u ⟨some ⟨b,0,none⟩,16,16⟩ 13 (rows.map jr):=λxu=>qv (hr.ext xu) vk
 have none6:bV (rows.map ai) i=none->∀w4:World,w4=w1.setRow w0 #[ab,ab,ab,ab,ab,ab]->Ending.returned (.tuple #[.agg #[ab,ab,ab,ab,ab,ab],(6:Int)])=Value.tuple #[U6 (cF M (rows.map ai) i dS).1,.int .i64 (cF M (rows.map ai) i dS).2]/\Ext w w4:=λhq w4 e4=>by refine ⟨?_,jC.af e4 aa⟩;unfold cF;rw [hq];rfl
 refine Br.mk (λh1=> ?_) (λh1=>Br.mk (λh2=> ?_) (λh2=> ?_))
 ·have h1:i<0:=by simpa using h1
  exact none6 (yu vk aa)
 ·have h2:i>15:=by simpa using h2
  exact none6 (yu vk aa)
 have h1:¬i<0:=by simpa using h1
 have h2:¬i>15:=by simpa using h2
 have ei:(if 0>(if 15<i then 15 else i) then 0 else (if 15<i then 15 else i))=i:=by rw [if_neg (show ¬15<i from by omega),if_neg aa]
 rw [ei];obtain ⟨k,rfl⟩:∃k:Nat,i=k:=⟨i.toNat,by omega⟩;obtain ⟨r,J1⟩:=bH (l:=rows) (i:=k) aa;have hi:(rows.map jr)[k]? =some (jr r):=by rw [aS,J1];rfl
 have uP:=j8 (rows:=rows) (n:=k) rfl J1;have inb:∀{u:World},Ext w u->ee (some ⟨b,0,none⟩) (k:Int) 16:=λxu=>(rk xu).gR (i:=(k:Int)) aE aa (by show (k:Int)<((16:Nat):Int);omega)
 refine ⟨⟨some ⟨b,0,none⟩,16,16⟩,ldm jC,inb jC,gr rfl ⟨r.1,(rk jC).at hi (Wv r),Br.mk (λhb=> ?_) (λhb=> ?_)⟩⟩
 ·refine none6 ?_;rw [uP];unfold ai;rw [if_neg (by simpa using hb)]
 have hb:r.1=true:=by simpa using hb
 have EP:ai r=some r.2:=by unfold ai;rw [if_pos hb]
 rw [EP] at uP;have oky:=hL r.2 (pC uP);have xd:=Ext.dr w1;have hd:=lv w1;have eyn:=EB oky hn;have hhb: -1000000000<=r.2.1.ht/\r.2.1.ht<=1000000000:=by have:=oky.2.2.1;omega
 have hh0:0<=r.2.1.ht:=oky.2.2.1.1;have qn:cF M (rows.map ai) k dS=if (hZ (ig M.T.2) (jP r.2.1) dS 5).2=false then (Qz,13) else if (hZ (ig M.T.2) (jP r.2.1) dS 5).1.2.1= -1 then (Qz,11) else ((hZ (ig M.T.2) (jP r.2.1) dS 5).1,0):=by unfold cF;rw [uP]
 have castS:∀{u:World},Ext w1.drew u->ah 87 #[.func (.func 83) #[t] #[],ea (jP r.2.1),ea dS,(5:Int)] u λe w'=>e=Value.tuple #[U6 (hZ (ig M.T.2) (jP r.2.1) dS 5).1,.bool (hZ (ig M.T.2) (jP r.2.1) dS 5).2]/\Ext u w':=λ{u} xu=>
  HV (h.ext (jC.tr (xd.tr xu))).tl rfl (jP r.2.1) dS 5 ⟨by omega,by omega,by omega⟩ (MB (by rw [acb];decide) eyn)
 generalize hZ (ig M.T.2) (jP r.2.1) dS 5=ck at qn castS;obtain ⟨⟨⟨cx,cy,cz⟩,cb,cf,ct⟩,cq⟩:=ck;have fin:∀{u:World},Ext w1.drew u->Br (!cq)
   (∀eY:World,eY=u.setRow w0 #[ab,ab,ab,ab,ab,ab]->Ending.returned (.tuple #[.agg #[ab,ab,ab,ab,ab,ab],(13:Int)])=Value.tuple #[U6 (cF M (rows.map ai) k dS).1,.int .i64 (cF M (rows.map ai) k dS).2]/\Ext w eY)
   (Br (cb==(-1))
    (∀eY:World,eY=u.setRow w0 #[ab,ab,ab,ab,ab,ab]->Ending.returned (.tuple #[.agg #[ab,ab,ab,ab,ab,ab],(11:Int)])=Value.tuple #[U6 (cF M (rows.map ai) k dS).1,.int .i64 (cF M (rows.map ai) k dS).2]/\Ext w eY)
    (∀eY:World,eY=u.setRow w0 #[cx,cy,cz,cb,cf,ct]->Ending.returned (.tuple #[.agg #[cx,cy,cz,cb,cf,ct],(0:Int)])=Value.tuple #[U6 (cF M (rows.map ai) k dS).1,.int .i64 (cF M (rows.map ai) k dS).2]/\Ext w eY)):=by
  intro u xu;have xx:=jC.tr (xd.tr xu);rw [qn];refine Br.mk (λhb=>λeY J0=>⟨?_,xx.af J0 aa⟩) (λhb=>Br.mk (λjU=>λeY J0=>⟨?_,xx.af J0 aa⟩) (λjU=>λeY J0=>⟨?_,xx.af J0 aa⟩))
  ·have hb:cq=false:=by simpa using hb
   rw [if_pos hb];rfl
  ·have hb:cq=true:=by simpa using hb
   have jU:cb= -1:=by simpa using jU
   rw [if_neg (by simp [hb]),if_pos jU];rfl
  ·have hb:cq=true:=by simpa using hb
   have jU:¬cb= -1:=by simpa using jU
   rw [if_neg (by simp [hb]),if_neg jU]
 have wayL:∀{u:World},Ext w1.drew u->ag u (some ⟨w.heap.size,0,none⟩) 0 (du dS):=λxu=>Lo.wv (r1.ext (xd.tr xu))
 have bdyL:∀{u:World},Ext w1.drew u->ag u (ae (ae (some ⟨b,0,none⟩) ((k:Int).toNat*13)) 1) 0 (jo r.2.1):=λxu=>iP (rk (jC.tr (xd.tr xu))) hi (mlB r)
 have sliL:∀{u:World},Ext w1.drew u->ag u (ae (some ⟨m,0,none⟩) 2) 0 [.slice (some ⟨b,0,none⟩) 16 16]:=λxu=>JZ (ldm (jC.tr (xd.tr xu)))
 have viewS:∀{u:World},Ext w1.drew u->Vc.ld u (ae (some ⟨m,0,none⟩) 0)=some (.pointer (some ⟨o,0,none⟩))/\ah 27 #[o] u λe w'=>e=Value.func (.func 83) #[t] #[]/\w'=u:=λxu=>by obtain ⟨Fs,hs,-,jq,-⟩:=(h.ext (jC.tr (xd.tr xu))).sV;obtain ⟨Fw,hW,-,-⟩:=hs.world;exact ⟨jq,fo hW⟩
 refine ⟨_,(viewS (Ext.cQ _)).1,⟨some ⟨b,0,none⟩,16,16⟩,ldm (jC.tr xd),inb (jC.tr xd),gr rfl ⟨_,_,_,_,_,_,_,_,_,bdyL (Ext.cQ _),?_,λjY e67=> ?_⟩⟩
 ·refine (viewS (Ext.cQ _)).2.mono ?_;rintro e dA ⟨rfl,aa2⟩;subst aa2;refine ⟨_,rfl,rfl,rfl,wayL (Ext.cQ _),bdyL (Ext.cQ _),sliL (Ext.cQ _),?_,λkM e50=> ?_⟩
  ·refine (Ar r.2.1 hhb hh0 w1.drew).mono ?_;rintro e fh ⟨rfl,cZ⟩;have z20:=cZ.size;refine ⟨_,_,_,rfl,cZ.heap aa,cZ.heap aa,wayL cZ,sliL cZ,?_,λgJ WG=> ?_⟩
   ·refine (castS cZ).mono ?_;rintro e fH ⟨rfl,eH⟩;have z24:=eH.size;refine ⟨_,_,_,_,_,_,_,rfl,eH.heap aa,eH.heap aa,sliL (cZ.tr eH),λj6 Q7 ej MS=> ?_⟩;exact fin ((cZ.tr eH).tr ((aL Q7).af MS (aB _)))
   ·have gu:=aL WG;have z37:=zA WG;refine (castS (cZ.tr gu)).mono ?_;rintro e mX ⟨rfl,fX⟩;have z38:=fX.size;refine ⟨_,_,_,_,_,_,_,rfl,fX.heap aa,fX.heap aa,fX.heap aa,sliL ((cZ.tr gu).tr fX),λm7 e46=> ?_⟩;exact fin (((cZ.tr gu).tr fX).af e46 aa)
  ·have sa:=aL e50;have z50:=zA e50;refine (Ar r.2.1 hhb hh0 kM).mono ?_;rintro e wR ⟨rfl,lr⟩;have z51:=lr.size;refine ⟨_,_,_,rfl,lr.heap aa,lr.heap aa,lr.heap aa,wayL (sa.tr lr),sliL (sa.tr lr),(castS (sa.tr lr)).mono ?_⟩;rintro e yH ⟨rfl,ky⟩;have z55:=ky.size;refine ⟨_,_,_,_,_,_,_,rfl,ky.heap aa,ky.heap aa,ky.heap aa,sliL ((sa.tr lr).tr ky),λuz e63=> ?_⟩;exact fin (((sa.tr lr).tr ky).af e63 aa)
 ·have od:=aL e67;have z67:=zA e67;refine (viewS od).2.mono ?_;rintro e qo ⟨rfl,asi⟩;subst asi;refine ⟨_,rfl,rfl,rfl,rfl,wayL od,bdyL od,sliL od,(Ar r.2.1 hhb hh0 qo).mono ?_⟩;rintro e kx ⟨rfl,oC⟩;have z70:=oC.size;refine ⟨_,_,_,rfl,oC.heap aa,oC.heap aa,oC.heap aa,wayL (od.tr oC),sliL (od.tr oC),(castS (od.tr oC)).mono ?_⟩;rintro e jK ⟨rfl,pB⟩;have z74:=pB.size;refine ⟨_,_,_,_,_,_,_,rfl,pB.heap aa,pB.heap aa,pB.heap aa,sliL ((od.tr oC).tr pB),λw82 e82=> ?_⟩;exact fin (((od.tr oC).tr pB).af e82 aa)
end
section
variable {F F':Nat->Prop} {w w':World} {m s o t:Nat} {M M':Sm} {occ:Value} {rows:List jd}
theorem ai4 (c:Ce) {k:Nat} (hk:k<6):∃d:Ce,(pw c).getD k (0,0,0)=d/\∀{w:World} {g:Nat} {τ:TypeId},Row w g (BN c) τ->ag w (ae (some ⟨g,0,none⟩) ((k:Int).toNat*3)) 0 (du d):=by
 refine ⟨_,rfl,λ{w g τ} hr=> ?_⟩;rw [bh,eB,eJ];refine hr.bY λj hj=> ?_
 have hj:j<3:=hj;have h1:j=0\/j=1\/j=2:=by omega
 have h2:k=0\/k=1\/k=2\/k=3\/k=4\/k=5:=by omega
 rcases h2 with rfl|rfl|rfl|rfl|rfl|rfl<;>rcases h1 with rfl|rfl|rfl<;>rfl
set_option maxHeartbeats 2000000 in
theorem Kj (h:MF F w m s o t M occ rows) {n:Int} (hL:rL n (rows.map ai)) (hn:n<=99970000000000) (i:Int) (dS:Ce) (b:Int) (hk:qu M 800000):
  ah 57 #[m,.int .i64 i,ea dS,b] w λe w'=>e=Value.int .i64 (qw M (rows.map ai) i dS b).1/\kB F w m s o t (qw M (rows.map ai) i dS b).2 occ rows w':=by
 apply xp.vc;intro w0 e0;have x0:=aL e0;have z0:=zA e0;refine (vq (h.ext x0) hL hn i dS).mono ?_;rintro e w1 ⟨rfl,x1⟩;have z1:=x1.size;refine ⟨_,_,_,_,_,_,_,rfl,x1.heap aa,λw9 e9 bD CH=> ?_⟩;have bj:Ext w1 bD:=(aL e9).af CH (aB _);have Sr:bD.heap.size=w1.heap.size+1:=by rw [zR CH,zA e9]
 have oe:=x0.tr (x1.tr bj);unfold qw;refine Br.mk (λh6=> ?_) (λh6=>(DE b bD).mono ?_)
 ·rw [if_pos (by simpa using h6)];have h6:(cF M (rows.map ai) i dS).2=6:=by simpa using h6
  rw [h6];exact ⟨rfl,h.res oe⟩
 rw [if_neg (by simpa using h6)];rintro e aW ⟨rfl,Ra⟩;subst Ra;refine ⟨_,rfl,rfl,rfl,Br.mk (λhb=> ?_) (λhb=>Br.mk (λSR=> ?_) (λSR=>Br.mk (λJQ=> ?_) (λJQ=> ?_)))⟩
 ·rw [if_pos (by simpa using hb)];exact ⟨rfl,h.res oe⟩
 ·rw [if_neg (by simpa using hb),if_pos (by simpa using SR)];exact ⟨rfl,h.res oe⟩
 ·rw [if_neg (by simpa using hb),if_neg (by simpa using SR),if_pos (by simpa using JQ)];exact ⟨rfl,h.res oe⟩
 rw [if_neg (by simpa using hb),if_neg (by simpa using SR),if_neg (by simpa using JQ)];have JQ:(cF M (rows.map ai) i dS).2=0:=by simpa using JQ
 obtain ⟨Kc,QH⟩:=um hL hn JQ;obtain ⟨y,-,-,hcast,-⟩:=Li JQ;have hface:=(Lj (by rw [acb];decide) hcast).2.2.2.2;generalize (cF M (rows.map ai) i dS).1=ht at Kc QH hface ⊢;obtain ⟨c,bb,f,tt⟩:=ht;simp only at hface Kc QH;apply Br.mk<;>intro hf
 ·have hf:f<0:=by simpa using hf
  have ahm:(BO (c,bb,f,tt)).2=false:=by unfold BO;rw [if_neg (by simp only;omega)]
  rw [if_pos ahm];exact ⟨rfl,h.res oe⟩
 have hf:¬f<0:=by simpa using hf
 have hf6:0<=f/\f<6:=by omega
 obtain ⟨k,rfl⟩:∃k:Nat,f=k:=⟨f.toNat,by omega⟩;obtain ⟨d,hd,jq⟩:=ai4 c (k:=k) aa;have ahm:BO (c,bb,((k:Nat):Int),tt)=(d,true):=by unfold BO;rw [if_pos hf6,<-hd];rfl
 rw [ahm] at QH ⊢;rw [if_neg bt];refine (Pz c (Kc.wide aE) aW).mono ?_;rintro e bF ⟨rfl,cc⟩;have z13:=cc.size;refine ⟨_,_,_,_,_,_,_,_,_,_,_,_,_,_,_,_,_,_,rfl,cc.heap aa,cc.heap aa,λj6 Q7=> ?_⟩;have gQ:=aL Q7;have z32:=zA Q7;have r32:∃cs τ,Row j6 bF cs τ/\cs.length=18/\aR cs 0 (BN c)=BN c:=⟨[_,_,_,_,_,_,_,_,_,_,_,_,_,_,_,_,_,_],_,by rw [Q7];exact Row.new bF [_,_,_,_,_,_,_,_,_,_,_,_,_,_,_,_,_,_] _,rfl,rfl⟩;obtain ⟨cs,τ,r32,hcl,hpc⟩:=r32;obtain ⟨p1,p2⟩:=lI r32 (off:=0) (vs:=BN c) (by rw [hcl];show 0+18<=18;decide) (DF c);refine ⟨⟨rfl,p1⟩,?_,?_,λej MS=> ?_⟩
 ·intro q;have q:some bF.heap.size=some w.heap.size:=q;injection q with q;omega
 ·intro q;have q:some bF.heap.size=some w1.heap.size:=q;injection q with q;omega
 obtain ⟨q1,q2⟩:=p2 ej MS;rw [hpc] at q1;have ey:Ext bF ej:=q2.ext gQ λi hi=>by omega
 have z33:=q2.size;have JR:=oe.tr (cc.tr ey);refine ⟨hf6.1,hf6.2,_,_,_,jq q1,(vp (h.ext JR) hL d (QH.wide aE) b hk).mono ?_⟩;rintro e gJ ⟨rfl,r⟩;have hh:∀i,F i->i<w.heap.size:=λi=>h.lt
 exact ⟨_,rfl,kB.c9 JR aa aa hh r,kB.c9 JR aa aa hh r,rfl,kB.aD JR r⟩
set_option maxHeartbeats 1000000 in
theorem Ob (h:MF F w m s o t M occ rows) {n:Int} (hL:rL n (rows.map ai)) (hn:n<=99970000000000) (i:Int) (dS:Ce) (hk:qu M 800000):
  ah 58 #[m,.int .i64 i,ea dS] w λe w'=>e=Value.tuple #[.int .i64 (nA M (rows.map ai) i dS).1.1,.int .i64 (nA M (rows.map ai) i dS).1.2]/\kB F w m s o t (nA M (rows.map ai) i dS).2 occ rows w':=by
 apply zp.vc;intro w0 e0;have x0:=aL e0;have z0:=zA e0;refine (vq (h.ext x0) hL hn i dS).mono ?_;rintro e w1 ⟨rfl,x1⟩;have z1:=x1.size;refine ⟨_,_,_,_,_,_,_,rfl,x1.heap aa,λw9 e9 bD CH=> ?_⟩;have bj:Ext w1 bD:=(aL e9).af CH (aB _);have Sr:bD.heap.size=w1.heap.size+1:=by rw [zR CH,zA e9]
 have oe:=x0.tr (x1.tr bj);unfold nA;apply Br.mk<;>intro h0
 ·rw [if_pos (by simpa using h0)];exact ⟨rfl,h.res oe⟩
 have JQ:(cF M (rows.map ai) i dS).2=0:=by simpa using h0
 rw [if_neg (by simp [JQ])];obtain ⟨Kc,-⟩:=um hL hn JQ;refine (vp (h.ext oe) hL (cF M (rows.map ai) i dS).1.1 (Kc.wide aE) 0 hk).mono ?_;rintro e aW ⟨rfl,r⟩;have hh:∀i,F i->i<w.heap.size:=λi=>h.lt
 refine ⟨_,rfl,kB.c9 oe aa aa hh r,kB.c9 oe aa aa hh r,Br.mk (λhq=> ?_) (λhq=> ?_)⟩
 ·rw [if_pos (by simpa using hq)];exact ⟨rfl,kB.aD oe r⟩
 ·rw [if_neg (by simpa using hq)];exact ⟨rfl,kB.aD oe r⟩
theorem Tn (hn:rows.length=16) {x:Int} (hx:(x= -1/\∀(i:Nat) (r:jd),rows[i]? =some r->r.1=true)\/(∃i:Nat,x=i/\i<16/\(∃r:jd,rows[i]? =some r/\r.1=false)/\∀(j:Nat) (r:jd),j<i->rows[j]? =some r->r.1=true)):oQ (rows.map ai)=x:=by
 rcases hx with ⟨rfl,qg⟩|⟨i,rfl,hi,⟨r,hr,hb⟩,gW⟩
 ·refine jS λy hy=> ?_
  obtain ⟨r,hr,rfl⟩:=bg.1 hy;obtain ⟨i,hi⟩:=List.mem_iff_getElem?.1 hr;unfold ai;rw [if_pos (qg i r hi)];rfl
 ·refine pL (x:=ai r) (by rw [aS,hr];rfl) (by unfold ai;rw [hb];rfl) λj hj y hy=> ?_
  rw [aS] at hy;obtain ⟨r',h1,rfl⟩:=Option.map_eq_some_iff.1 hy;unfold ai;rw [if_pos (gW j r' hj h1)];rfl
theorem Lk {K:Nat} {v:LV}:∀{l:List (LV)} {k:Nat},(∀r ∈ l,r.length=K)->k<l.length->v.length=K->aR l.flatten (k*K) v=(l.set k v).flatten
 | [],k,_,hk,_=>absurd hk bt
 |a::l,0,hl,_,hv=>by
  have ha:=hl a bt
  have h0:=dn v (a++l.flatten) 0 (by rw [dc];omega)
  rw [ki,List.set_cons_zero,ki,Nat.zero_mul,h0,eB,hv,<-ha,List.drop_left]
  rfl
 |a::l,k+1,hl,hk,hv=>by
  have ha:=hl a bt
  rw [ki,List.set_cons_succ,ki,show (k+1)*K=a.length+k*K from by rw [ha,Nat.add_mul,Nat.one_mul,Nat.add_comm],kj,Lk (λr hr=>hl r (by simp [hr])) (by simpa using hk) hv]
theorem WZ (hn:rows.length=16) {b:Nat} {w:World} (hr:Row w b (rows.map jr).flatten AS) {k:Nat} (hk:k<16) (r:jd):(ae (some ⟨b,0,none⟩) ((k:Int).toNat*13)).isSome=true/\Wr w (ae (some ⟨b,0,none⟩) ((k:Int).toNat*13)) 13/\
  ∀w',w'=Vc.aG w (ae (some ⟨b,0,none⟩) ((k:Int).toNat*13)) (jr r)->Row w' b ((rows.set k r).map jr).flatten AS/\Mod (λi=>i=b) w w':=by
 have ET:∀l:List jd,(l.map jr).flatten.length=l.length*13:=λl=>by
  have:=bM (k:=13) (rows:=l.map jr) λr hr=>by obtain ⟨x,-,rfl⟩:=bg.1 hr;rfl
  rw [this,aM]
 rw [eJ];obtain ⟨p1,p2⟩:=lI hr (off:=k*13) (vs:=jr r) (by rw [ET,hn];show _+13<=_;omega) (afE r);refine ⟨rfl,p1,λw' e=> ?_⟩;obtain ⟨q1,q2⟩:=p2 w' e;refine ⟨?_,q2⟩;have:aR (rows.map jr).flatten (k*13) (jr r)=((rows.set k r).map jr).flatten:=by rw [List.map_set];exact Lk (λr hr=>by obtain ⟨x,-,rfl⟩:=bg.1 hr;rfl) (by rw [aM];omega) rfl
 rw [<-this];exact q1
end
end Go.Proofs.YtkkkfkopcfdmaaaGreatDoor
