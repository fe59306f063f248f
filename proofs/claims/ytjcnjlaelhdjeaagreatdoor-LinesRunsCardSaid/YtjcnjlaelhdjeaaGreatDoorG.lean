import Derived.Test.YtjcnjlaelhdjeaaGreatDoorF
import Derived.Test.YtjcnjlaelhdjeaaGreatDoorE
import Derived.Test.YtjcnjlaelhdjeaaGreatDoorD
set_option linter.all false
namespace Go.Proofs.YtjcnjlaelhdjeaaGreatDoor
open Go Go.Vc Go.RowKit Go.Proofs Go.cC Go.aO Go.Code
set_option maxRecDepth 100000
set_option maxHeartbeats 8000000
def yes{b:Bool}{A B:Prop}(hb:b=true)(h:A):Br b A B:=by subst hb;exact h
def BK{b:Bool}{A B:Prop}(hb:b=false)(h:B):Br b A B:=by subst hb;exact h
def It.pin(y:It)(n:Int):It:={y with pins:=y.pins+n}
def zo(l:List En)(p:Po):List En × Int:=
 if 0<=bL (λe:En=>e.1==p) l then (l.modify (bL (λe:En=>e.1==p) l).toNat λe=>(e.1,e.2.1,e.2.2.1,e.2.2.2+1),0) else (l,6)
def k7(l:List En)(p:Po):List En × Int:=
 if 0<=bL (λe:En=>e.1==p) l then
  (if (l[(bL (λe:En=>e.1==p) l).toNat]?.map (·.2.2.2))=some 0 then (l,1) else (l.modify (bL (λe:En=>e.1==p) l).toNat λe=>(e.1,e.2.1,e.2.2.1,e.2.2.2-1),0)) else (l,6)
def acG{w:World}{t st d:Nat}{r:Dm}{sl:Sl}{D:Dk}{aj limit:Int}{its:List It}(h:TO w t st d r sl D aj limit its)(hp:∀y ∈ its,-1000000000<=y.pins/\y.pins<=1000000000)(p:Po):
  ae 91 #[t,pv p] w λe w'=>e=Value.int .i64 (zo (eE its) p).2/\qp w t st d r sl aj limit its (D,(zo (eE its) p).1) w':=by
 apply D5.vc;intro w0 e0;have z0:=fE e0;have x0:=aV e0;have h0:=h.ext x0;refine (find_spec h0 p).bj λw1 x1=> ?_
 have z1:=x1.size;have lE:=x0.tr x1;have h1:=h.ext lE;refine ⟨_,rfl,x1.heap aa,?_⟩;rcases di (λi:It=>i.p==p) its with ⟨hf,-⟩|⟨k,y,hk,-,hf,-⟩
 ·have hE:zo (eE its) p=(eE its,6):=by unfold zo;rw [nh,hf,if_neg aw]
  rw [hf,hE];exact Br.mk (λ_=>⟨rfl,r,sl,its,h1,rfl,aI.aq lE⟩) (λh=>by simp at h)
 ·have hE:zo (eE its) p=((eE its).modify k λe=>(e.1,e.2.1,e.2.2.1,e.2.2.2+1),0):=by unfold zo;rw [nh,hf,if_pos aa];rfl
  rw [hf,hE];refine Br.mk (λh=>by simp at h;omega) (λ_=> ?_);have Jg:=aQ hk;have hy:=h1.it y Jg;obtain ⟨a1,a2⟩:=h1.at hk;have hpy:=hp y Jg;have hwp:=aK (n:=y.pins+1) inO;obtain ⟨p1,p2⟩:=hy.r.fF (j:=2) (v:=.int .i64 (y.pins+1)) bo rfl;refine ⟨sl,h1.rt.at 3 rfl,a1,_,a2,sy (sy ⟨y.pins,hy.r.at 2 rfl,sy (sy ⟨⟨by rw [aF];rfl,p1⟩,?_,λw6 e6=> ?_⟩)⟩)⟩
  ·intro e;rw [cB] at e;have:y.x=w.heap.size:=by simpa [bN] using e
   have:=(h.it y Jg).r.lt;omega
  ·rw [hwp] at e6;obtain ⟨q1,q2⟩:=p2 w6 e6;have hy':tX w6 (y.pin 1):=⟨q1,hy.k.aW q2 (λe=>hy.k.row.ne hy.r aw e) λb hb=>by obtain ⟨cs',hr'⟩:=aU hy.k.own aw hb;exact hr'.ne hy.r aw⟩;refine ⟨rfl,r,sl,its.set k (y.pin 1),h1.put hk rfl rfl q2 hy',W3 hk rfl,⟨?_,λj hj=> .inl (FQ (y':=y.pin 1) hk rfl rfl rfl j hj)⟩⟩;exact (Mod.aq lE).trans (q2.mono λj _ hj=> .inr (.inr (.inr (.inr (.inr ⟨y,Jg,.inl hj⟩)))))
def Ud{w:World}{t st d:Nat}{r:Dm}{sl:Sl}{D:Dk}{aj limit:Int}{its:List It}(h:TO w t st d r sl D aj limit its)(hp:∀y ∈ its,-1000000000<=y.pins/\y.pins<=1000000000)(p:Po):
  ae 92 #[t,pv p] w λe w'=>e=Value.int .i64 (k7 (eE its) p).2/\qp w t st d r sl aj limit its (D,(k7 (eE its) p).1) w':=by
 apply Ax.vc;intro w0 e0;have z0:=fE e0;have x0:=aV e0;have h0:=h.ext x0;refine (find_spec h0 p).bj λw1 x1=> ?_
 have z1:=x1.size;have lE:=x0.tr x1;have h1:=h.ext lE;refine ⟨_,rfl,x1.heap aa,?_⟩;rcases di (λi:It=>i.p==p) its with ⟨hf,-⟩|⟨k,y,hk,-,hf,-⟩
 ·have hE:k7 (eE its) p=(eE its,6):=by unfold k7;rw [nh,hf,if_neg aw]
  rw [hf,hE];exact Br.mk (λ_=>⟨rfl,r,sl,its,h1,rfl,aI.aq lE⟩) (λh=>by simp at h)
 ·have Oh:(eE its)[k]?.map (·.2.2.2)=some y.pins:=by rw [aZ,hk];rfl
  have hE:k7 (eE its) p=if y.pins=0 then (eE its,1) else ((eE its).modify k λe=>(e.1,e.2.1,e.2.2.1,e.2.2.2-1),0):=by unfold k7;rw [nh,hf,if_pos aa,gZ,Oh];simp
  rw [hf,hE];refine Br.mk (λh=>by simp at h;omega) (λ_=> ?_);have Jg:=aQ hk;have hy:=h1.it y Jg;obtain ⟨a1,a2⟩:=h1.at hk;have hpy:=hp y Jg;refine ⟨sl,h1.rt.at 3 rfl,a1,_,a2,sy (sy ⟨y.pins,hy.r.at 2 rfl,Br.mk (λhb=> ?_) (λhb=> ?_)⟩)⟩
  ·have hz:=fC hb;rw [if_pos hz];exact ⟨rfl,r,sl,its,h1,rfl,aI.aq lE⟩
  ·have hz:=fC hb;have hwp:=aK (n:=y.pins-1) inO;rw [if_neg hz];obtain ⟨p1,p2⟩:=hy.r.fF (j:=2) (v:=.int .i64 (y.pins-1)) bo rfl;refine ⟨sl,h1.rt.at 3 rfl,a1,_,a2,sy (sy ⟨y.pins,hy.r.at 2 rfl,sy (sy ⟨⟨by rw [aF];rfl,p1⟩,?_,λw6 e6=> ?_⟩)⟩)⟩
   ·intro e;rw [cB] at e;have:y.x=w.heap.size:=by simpa [bN] using e
    have:=(h.it y Jg).r.lt;omega
   ·rw [hwp] at e6;obtain ⟨q1,q2⟩:=p2 w6 e6;have hy':tX w6 (y.pin (-1)):=⟨q1,hy.k.aW q2 (λe=>hy.k.row.ne hy.r aw e) λb hb=>by obtain ⟨cs',hr'⟩:=aU hy.k.own aw hb;exact hr'.ne hy.r aw⟩;refine ⟨rfl,r,sl,its.set k (y.pin (-1)),h1.put hk rfl rfl q2 hy',W3 hk rfl,⟨?_,λj hj=> .inl (FQ (y':=y.pin (-1)) hk rfl rfl rfl j hj)⟩⟩;exact (Mod.aq lE).trans (q2.mono λj _ hj=> .inr (.inr (.inr (.inr (.inr ⟨y,Jg,.inl hj⟩)))))
def oh(D:Dk)(l:List En)(p:Po):Tb × Int:=
 if 0<=bL (λe:En=>e.1==p) l then
  (if 0<(l[(bL (λe:En=>e.1==p) l).toNat]?.map (·.2.2.2)).getD 0 then ((D,l),10) else goE D l (bL (λe:En=>e.1==p) l).toNat) else ((D,l),6)
def QT{w:World}{t st d:Nat}{r:Dm}{sl:Sl}{D:Dk}{aj limit:Int}{its:List It}(h:TO w t st d r sl D aj limit its)(hW:D.l.length<=1000000)(p:Po):
  ae 89 #[t,pv p] w λe w'=>e=Value.int .i64 (oh D (eE its) p).2/\qp w t st d r sl aj limit its (oh D (eE its) p).1 w':=by
 apply xI.vc;intro w0 e0;have z0:=fE e0;have x0:=aV e0;have h0:=h.ext x0;refine (find_spec h0 p).bj λw1 x1=> ?_
 have z1:=x1.size;have lE:=x0.tr x1;have h1:=h.ext lE;have bx:¬au t st d r sl its w:=λhf=>by have:=h.lt hf;omega
 refine ⟨_,rfl,x1.heap aa,?_⟩;rcases di (λi:It=>i.p==p) its with ⟨hf,-⟩|⟨k,y,hk,hyp,hf,-⟩
 ·have hE:oh D (eE its) p=((D,eE its),6):=by unfold oh;rw [nh,hf,if_neg aw]
  rw [hf,hE];exact Br.mk (λ_=>⟨rfl,r,sl,its,h1,rfl,aI.aq lE⟩) (λh=>by simp at h)
 ·have Oh:(eE its)[k]?.map (·.2.2.2)=some y.pins:=by rw [aZ,hk];rfl
  have hE:oh D (eE its) p=if 0<y.pins then ((D,eE its),10) else goE D (eE its) k:=by unfold oh;rw [nh,hf,if_pos aa,gZ,Oh];rfl
  rw [hf,hE];refine Br.mk (λh=>by simp at h;omega) (λ_=> ?_);have Jg:=aQ hk;have hy:=h1.it y Jg;have hkl:=(cP.1 hk).1;obtain ⟨a1,a2⟩:=h1.at hk;refine ⟨sl,h1.rt.at 3 rfl,a1,_,a2,sy (sy ⟨y.pins,hy.r.at 2 rfl,Br.mk (λhb=> ?_) (λhb=> ?_)⟩)⟩
  ·have hz:=fC hb;rw [if_pos hz];exact ⟨rfl,r,sl,its,h1,rfl,aI.aq lE⟩
  ·have hz:=fC hb;rw [if_neg hz,adB (Mw hk)];refine ⟨sl,h1.rt.at 3 rfl,a1,_,a2,(vE h1 hW hk).mono ?_⟩;rintro e w8 ⟨rfl,r',y',h8,hob8,t8⟩;have z8:=t8.mod.size;refine ⟨_,rfl,t8.mod.same _ aa bx,Br.mk (λhz=> ?_) (λhz=> ?_)⟩
   ·have hz:=fC hz;have hk':(its.set k y')[k]? =some y':=uH hkl;refine (Gu h8 hk').mono ?_;rintro e w9 ⟨rfl,sl',h9,m9,b9⟩;rw [List.eraseIdx_set_eq] at h9;have bx8:¬slF t sl w:=λq=>bx (zV _ q)
    refine ⟨_,rfl,m9.same _ aa bx8,?_⟩;rw [if_pos hz];refine ⟨by rw [hz],r',sl',_,h9,vD _ _,(aI.aq lE).trans (t8.trans (QC m9 b9 λz hz=> ?_))⟩;rw [<-List.eraseIdx_set_eq (l:=its) (i:=k) (a:=y')] at hz;exact (Gv ..).subset hz
   ·have hz:=fC hz;rw [if_neg hz];exact ⟨rfl,r',sl,_,h8,EW hob8,(aI.aq lE).trans t8⟩
def TG(D:Dk)(l:List En)(p:Po):Tb × Int:=
 if 0<=bL (λe:En=>e.1==p) l then
  match l[(bL (λe:En=>e.1==p) l).toNat]? with
  |some e=>(((cE D e).1,l.set (bL (λe:En=>e.1==p) l).toNat (cE D e).2.1),(cE D e).2.2)
  |none=>((D,l),0)
 else ((D,l),6)
def Va{w:World}{t st d:Nat}{r:Dm}{sl:Sl}{D:Dk}{aj limit:Int}{its:List It}(h:TO w t st d r sl D aj limit its)(hW:D.l.length<=1000000)(p:Po):
  ae 90 #[t,pv p] w λe w'=>e=Value.int .i64 (TG D (eE its) p).2/\qp w t st d r sl aj limit its (TG D (eE its) p).1 w':=by
 apply Ay.vc;intro w0 e0;have z0:=fE e0;have x0:=aV e0;refine (find_spec (h.ext x0) p).bj λw1 x1=> ?_
 have z1:=x1.size;have lE:=x0.tr x1;have h1:=h.ext lE;have bx:¬au t st d r sl its w:=λhf=>by have:=h.lt hf;omega
 refine ⟨_,rfl,x1.heap aa,?_⟩;rcases di (λi:It=>i.p==p) its with ⟨hf,-⟩|⟨k,y,hk,hyp,hf,-⟩
 ·have hE:TG D (eE its) p=((D,eE its),6):=by unfold TG;rw [nh,hf,if_neg aw]
  rw [hf,hE];exact Br.mk (λ_=>⟨rfl,r,sl,its,h1,rfl,aI.aq lE⟩) (λh=>by simp at h)
 ·have hE:TG D (eE its) p=(((cE D y.ob).1,(eE its).set k (cE D y.ob).2.1),(cE D y.ob).2.2):=by unfold TG;rw [nh,hf,if_pos aa,gZ,Mw hk]
  rw [hf,hE];refine Br.mk (λh=>by simp at h;omega) (λ_=> ?_);obtain ⟨a1,a2⟩:=h1.at hk;refine ⟨sl,h1.rt.at 3 rfl,a1,_,a2,(vE h1 hW hk).mono ?_⟩;rintro e w8 ⟨rfl,r',y',h8,hob8,t8⟩;have z8:=t8.mod.size;exact ⟨_,rfl,t8.mod.same _ aa bx,rfl,r',sl,_,h8,EW hob8,(aI.aq lE).trans t8⟩
def Vb(D:Dk)(pre:List En):List En->Int->Tb × Int × Int
 | [],n=>((D,pre),n,0)
 |e::t,n=>if (cE D e).2.2=0 then Vb (cE D e).1 (pre++ [(cE D e).2.1]) t (if e.2.2.1=true then n+1 else n) else (((cE D e).1,pre++(cE D e).2.1::t),n,(cE D e).2.2)
def hZ(D:Dk)(l:List En):Tb × Int × Int:=Vb D [] l 0
def ami{D:Dk}{l pre:List En}{n:Int}{k:Nat}{e:En}(h:l[k]? =some e):Vb D pre (l.drop k) n=if (cE D e).2.2=0 then Vb (cE D e).1 (pre++ [(cE D e).2.1]) (l.drop (k+1)) (if e.2.2.1=true then n+1 else n) else (((cE D e).1,pre++(cE D e).2.1::l.drop (k+1)),n,(cE D e).2.2):=by have hk:=cP.1 h;rw [wN hk.1,hk.2];rfl
def IT{w:World}{t st d:Nat}{r:Dm}{sl:Sl}{D:Dk}{aj limit:Int}{its:List It}(h:TO w t st d r sl D aj limit its)(hW:D.l.length<=900000):
  ae 120 #[t] w λe w'=>e=Value.tuple #[.int .i64 (hZ D (eE its)).2.1,.int .i64 (hZ D (eE its)).2.2]/\qp w t st d r sl aj limit its (hZ D (eE its)).1 w':=by
 apply vd.vc;have hn:=h.n;have db:=h.len;have agr:=h.WY;refine ⟨sl,h.rt.at 3 rfl,λn i c wr=>∃(k:Nat)(D':Dk)(r':Dm)(its':List It),i=k/\k+n=its.length/\0<=c/\c<=k/\D'.l.length<=D.l.length+k/\TO wr t st d r' sl D' aj limit its'/\its'.length=its.length/\its'.drop k=its.drop k/\Vb D' ((eE its').take k) ((eE its').drop k) c=hZ D (eE its)/\aI (au t st d r sl its) (au t st d r' sl its') w wr,
  ⟨its.length,0,D,r,its,rfl,aa,jN 0,jN 0,aa,h,rfl,rfl,rfl,aI.refl _ _⟩,?_⟩
 rintro n us i c wr ⟨k,D',r',its',rfl,hk,c0,ck,hl,hT,hln,hdr,TA,ht⟩;have aGk:(eE its').length=its'.length:=by rw [aJ]
 apply Br.mk<;>intro hc
 ·replace hc:=lT hc;obtain ⟨y,hy⟩:=bZ (l:=its') (i:=k) aa;have hyr:=hT.it y (aQ hy);obtain ⟨a1,a2⟩:=hT.at hy;have hkl:k<its'.length:=by omega
  have hn':=hT.n;have wk:=nJ (j:=k);have wc:aC (c+1)=c+1:=wI;rw [ami (Mw hy)] at TA;have mP:=zX D' y.ob;refine ⟨a1,_,a2,sy (sy ⟨_,hyr.r.at 1 rfl,(vE hT aa hy).mono ?_⟩)⟩;rintro e bc ⟨rfl,r2,y',h10,Oh,t10⟩;have oJ:eE (its'.set k y')=(eE its').set k (cE D' y.ob).2.1:=EW Oh;have hln2:(its'.set k y').length=its'.length:=lU;have xc:(eE (its'.set k y')).take (k+1)=(eE its').take k++ [(cE D' y.ob).2.1]:=by rw [oJ,dq,uH aa,List.take_set_of_le (ak _)];rfl
  have hdk:(eE (its'.set k y')).drop (k+1)=(eE its').drop (k+1):=by rw [oJ,List.drop_set_of_lt aa]
  refine ⟨_,rfl,Br.mk (λhb=> ?_) (λhb=> ?_)⟩
  ·have hz:=fC hb;rw [if_neg hz] at TA;rw [<-TA];refine ⟨rfl,r2,sl,_,h10,?_,ht.trans t10⟩;rw [oJ];show _=(eE its').take k++(cE D' y.ob).2.1::(eE its').drop (k+1);rw [List.set_eq_take_append_cons_drop,if_pos aa]
  ·have hz:=fC hb;rw [if_pos hz] at TA;have hdd:(its'.set k y').drop (k+1)=its.drop (k+1):=by rw [List.drop_set_of_lt aa];have:=congrArg (List.drop 1) hdr;rwa [List.drop_drop,List.drop_drop] at this
   apply Br.mk<;>intro hd
   ·have hd':y.ob.2.2.1=true:=hd;rw [if_pos hd'] at TA;exact ⟨n-1,aa,k+1,_,r2,_,wk,aa,by rw [wc];omega,by rw [wc];omega,aa,h10,by rw [hln2,hln],hdd,by rw [wc,xc,hdk];exact TA,ht.trans t10⟩
   ·have hd':¬y.ob.2.2.1=true:=by show ¬y.ph=true;rw [hd];decide
    rw [if_neg hd'] at TA;exact ⟨n-1,aa,k+1,_,r2,_,wk,aa,c0,aa,aa,h10,by rw [hln2,hln],hdd,by rw [xc,hdk];exact TA,ht.trans t10⟩
 ·replace hc:=l6 hc;rw [wD aa,dI aa] at TA;rw [<-TA];exact ⟨rfl,r',sl,its',hT,rfl,ht⟩
def Vd{w:World}{t st d:Nat}{r:Dm}{sl:Sl}{D:Dk}{aj limit:Int}{its:List It}(h:TO w t st d r sl D aj limit its)(hW:D.l.length<=1000000)(hL:eA D.l<=1099511627776)(aW:Int):
  ae 183 #[t,aW] w λe w'=>e=Value.int .i64 (cA D aW).2/\qp w t st d r sl aj limit its ((cA D aW).1,[]) w':=by
 apply Az.vc;obtain ⟨p1,p2⟩:=h.rt.fF (j:=3) (v:=.slice none 0 0) bo rfl;refine ⟨⟨rfl,p1⟩,λw0 e0=> ?_⟩;obtain ⟨q1,q2⟩:=p2 w0 e0;have Fc:SO w0 st d r D:=h.so.aW q2 (λhr hτ=>by rcases hτ with rfl|rfl|rfl|rfl<;>exact hr.ne h.rt aw) (λhm e=>h.rt.fN hm e.symm);refine ⟨_,q1.at 0 rfl,sy (sy (sy ⟨_,Fc.ptr,(QU Fc.dk aa hL aW).mono ?_⟩))⟩;rintro e w3 ⟨rfl,r',h3,m3,f3⟩;have offd:∀{j:Nat} {cs:LV} {τ:TypeId},Row w0 j cs τ->τ≠tq->¬(j=d\/j=r.r):=λhr ht e=>by
  rcases e with e|e
  ·exact hr.ne Fc.dk.rd ht e
  ·exact hr.fN Fc.dk.rm e
 refine ⟨_,rfl,rfl,r',⟨none,0,0⟩,[],⟨m3.row q1 (offd q1 aw),⟨m3.row Fc.rs (offd Fc.rs aw),h3⟩,ar.nil,(λy hy=>by cases hy),bo,bo,h.WY,by simp;have:=h.WY;omega⟩,rfl,?_,?_⟩
 ·refine (q2.mono λi _ hi=> .inl hi).trans (m3.mono λi _ hi=> ?_);rcases hi with e|e
  ·exact .inr (.inr (.inl e))
  ·exact .inr (.inr (.inr (.inl (.inl e))))
 ·have z0:=q2.size;rintro i (e|e|e|e|e|⟨y,hy,-⟩)
  ·exact .inl (.inl e)
  ·exact .inl (.inr (.inl e))
  ·exact .inl (.inr (.inr (.inl e)))
  ·rcases f3 i (.inr e) with q|q
   ·rcases q with q|q
    ·exact .inl (.inr (.inr (.inl q)))
    ·exact .inl (.inr (.inr (.inr (.inl q))))
   ·exact .inr aa
  ·cases e
  ·cases hy
def ZM{w:World}{t st d:Nat}{r:Dm}{sl:Sl}{D:Dk}{aj limit:Int}{its:List It}(h:TO w t st d r sl D aj limit its)(hW:D.l.length<=1000000)(s:Sl)(b:List Int)(hs:ji w s b)(hb:mK b)(hn:b.length<=1099511627776):
  ae 182 #[t,s] w λe w'=>e=Value.int .i64 (tQ D 0 b).2/\qp w t st d r sl aj limit its ((tQ D 0 b).1,eE its) w':=by
 apply (BZ.vc (a1:=s));refine ⟨_,h.rt.at 0 rfl,(CW h.so hW 0 s b hs hb hn).mono ?_⟩;rintro e w1 ⟨rfl,r',h1,m1,f1,-⟩;exact ⟨_,rfl,rfl,r',sl,its,h.store m1 h1,rfl,m1.mono λi _ hi=>L9 i hi,FR f1⟩
def ZN{w:World}{t st d:Nat}{r:Dm}{sl:Sl}{D:Dk}{aj limit:Int}{its:List It}(h:TO w t st d r sl D aj limit its)(hW:D.l.length<=1000000):
  ae 184 #[t] w λe w'=>∃s:Sl,e=Value.tuple #[s,.bool (qd D 0).2.2]/\ji w' s (qd D 0).1/\mK (qd D 0).1/\(qd D 0).1.length<=1048576/\s.n<=s.c/\(∀g,s.aX=some g->w.heap.size<=g)/\Ext w w':=by
 apply B0.vc;refine ⟨_,h.rt.at 0 rfl,(C7 h.so aa 0).mono ?_⟩;rintro e w1 ⟨s,rfl,hs,hb,hl,hc,hf,x1⟩;exact ⟨s,_,_,rfl,s,rfl,hs,hb,hl,hc,hf,x1⟩
def Ve{w:World}{t st d:Nat}{r:Dm}{sl:Sl}{D:Dk}{aj limit:Int}{its:List It}(h:TO w t st d r sl D aj limit its){n:Int}(hn:cT n):
  ae 122 #[d,n] w λe w'=>e=pH/\qp w t st d r sl aj limit its (ov D n,eE its) w':=by
 refine (Vf h.so.dk hn).mono ?_;rintro e w1 ⟨rfl,h1,m1⟩;have m1':Mod (λi=>i=d\/r.ls.aX=some i) w w1:=m1.mono λi _ hi=> .inl hi
 exact ⟨rfl,r,sl,its,h.store m1' ⟨m1'.row h.so.rs h.so.off,h1⟩,rfl,m1'.mono λi _ hi=>L9 i hi,λi hi=> .inl hi⟩
def ZO{w:World}{t st d:Nat}{r:Dm}{sl:Sl}{D:Dk}{aj limit:Int}{its:List It}(h:TO w t st d r sl D aj limit its):
  ae 42 #[t] w λe w'=>∃s':Sl,e=s'/\ar w tPo 2 w' s' ((eE its).map λe=> [.int .i64 e.1.1,.int .i64 e.1.2])/\Ext w w':=by
 apply BL.vc;have hn:=h.n;have db:=h.len;have agr:=h.WY;refine ⟨sl,h.rt.at 3 rfl,λn i so wr=>∃k:Nat,i=k/\k+n=its.length/\Ext w wr/\ar w tPo 2 wr so (((eE its).take k).map λe=> [.int .i64 e.1.1,.int .i64 e.1.2]),⟨its.length,0,rfl,aa,Ext.bU _,ar.nil⟩,?_⟩;rintro n us i so wr ⟨k,rfl,hk,xr,ho⟩;have TV:=nJ (j:=k);have hol:(eE its).length=its.length:=by rw [aJ]
 apply Br.mk<;>intro hc
 ·replace hc:=lT hc;obtain ⟨y,hy⟩:=bZ (l:=its) (i:=k) aa;have hr:=h.ext xr;obtain ⟨a1,a2⟩:=hr.at hy;have hyr:=hr.it y (aQ hy);refine ⟨a1,_,a2,sy (sy ⟨_,hyr.r.at 0 rfl,sy (sy ⟨_,_,hyr.k.pos,(xA y.p wr).bj λbO cw=> ?_⟩)⟩)⟩;refine ⟨_,_,rfl,λdj pJ=> ?_⟩;have dm:=aV pJ;have z12:=cw.size;have zr:=xr.size;have z15:=fE pJ;have S4:=(ho.ext cw).ext dm;have hso:=(ho.rd (show 0<2 by decide)).n;rw [aJ,cK] at hso;obtain ⟨hp,bq⟩:=S4.append (bytes:=16) (news:=[.int .i64 y.p.1,.int .i64 y.p.2]) aa rfl (BA _ _ _ _) aa aa;refine ⟨hp,λs16 cM agz=> ?_⟩;obtain ⟨azd,aGl,xb,TP,-⟩:=bq s16 cM agz;refine ⟨TP _ (λe=>by have:=(ho.own.lt e).2;omega) aa,n-1,aa,k+1,TV,aa,(xr.tr (cw.tr dm)).trans xb,?_⟩;have:(eE its).take (k+1)=(eE its).take k++ [y.ob]:=by rw [dq,aZ,hy];rfl
  rw [this,bS];exact azd
 ·replace hc:=l6 hc;rw [dI aa] at ho;exact ⟨so,rfl,ho,xr⟩
def pw{w:World}{p:Option Addr}{v:Value}(h:ld w p=some v):ah w p 0 [v]:=by show ld w (ab p 0)=_;rw [fG];exact h
def TO.aii{w w':World}{t st d:Nat}{r:Dm}{sl:Sl}{D:Dk}{aj limit:Int}{its:List It}(h:TO w t st d r sl D aj limit its){i:Nat}{y y':It}(hi:its[i]? =some y)(hx:y'.x=y.x)(hg:y'.g=y.g)(hm:Mod (λj=>j=y.x\/j=y.g) w w')(hy:tX w' y'):TO w' t st d r sl D aj limit (its.set i y'):=by
 have OL:=(cP.1 hi).1;have hr:=(h.it y (aQ hi)).r;have hrg:=(h.it y (aQ hi)).k.row;have off:∀{j:Nat} {cs:LV} {τ:TypeId},Row w j cs τ->τ≠cl->τ≠xR->¬(j=y.x\/j=y.g):=λhr' ht hc e=>by
  rcases e with e|e
  ·exact hr'.ne hr ht e
  ·exact hr'.ne hrg hc e
 have hpx:DE (its.set i y')=DE its:=by
  unfold DE;rw [pW,hx];apply jK;intro j;rw [iX];split
  ·rename_i e;subst e;rw [if_pos (by rw [aJ];exact OL),aZ,hi];rfl
  ·rfl
 have hmx:(its.set i y').map (·.x)=its.map (·.x):=by
  rw [pW,hx];apply jK;intro j;rw [iX];split
  ·rename_i e;subst e;rw [if_pos (by rw [aJ];exact OL),aZ,hi];rfl
  ·rfl
 have hmg:(its.set i y').map (·.g)=its.map (·.g):=by
  rw [pW,hg];apply jK;intro j;rw [iX];split
  ·rename_i e;subst e;rw [if_pos (by rw [aJ];exact OL),aZ,hi];rfl
  ·rfl
 refine ⟨hm.row h.rt (off h.rt aw aw),h.so.aW hm (λhr' hτ=>by rcases hτ with rfl|rfl|rfl|rfl<;>exact off hr' aw aw) (λhmp e=>by
   rcases e with e|e
   ·exact hr.fN hmp e.symm
   ·exact hrg.fN hmp e.symm),?_,λz hz=> ?_,by rw [hmx];exact h.dx,by rw [hmg];exact h.dg,h.WY,by rw [lU];exact h.len⟩
 ·rw [hpx];exact hm.dX h.ol λb hb=>by obtain ⟨cs',hr'⟩:=aU h.ol aw hb;exact off hr' aw aw
 ·obtain ⟨j,hj⟩:=yU hz;rw [iX] at hj;split at hj
  ·cases hj;exact hy
  ·rename_i fA;have hzj:=h.it z (aQ hj);have hjl:=(cP.1 hj).1;refine hzj.aW hm ?_ ?_ (λb hb=> ?_)
   ·rintro (e|e)
    ·have h1:(its.map (·.x))[i]? =some y.x:=by rw [aZ,hi];rfl
     have h2:(its.map (·.x))[j]? =some z.x:=by rw [aZ,hj];rfl
     rw [e,<-h1] at h2;exact fA ((List.getElem?_inj (by rw [aJ];exact hjl) h.dx).1 h2).symm
    ·exact hzj.r.ne hrg aw e
   ·rintro (e|e)
    ·exact hzj.k.row.ne hr aw e
    ·have h1:(its.map (·.g))[i]? =some y.g:=by rw [aZ,hi];rfl
     have h2:(its.map (·.g))[j]? =some z.g:=by rw [aZ,hj];rfl
     rw [e,<-h1] at h2;exact fA ((List.getElem?_inj (by rw [aJ];exact hjl) h.dg).1 h2).symm
   ·obtain ⟨cs',hr'⟩:=aU hzj.k.own aw hb;exact off hr' aw aw
def ZP{t st d:Nat}{r:Dm}{sl:Sl}{its:List It}{i n:Nat}{y y':It}(hi:its[i]? =some y)(hx:y'.x=y.x)(hg:y'.g=y.g)(hs:∀b,y'.s.aX=some b->y.s.aX=some b\/n<=b):∀j,au t st d r sl (its.set i y') j->au t st d r sl its j\/n<=j:=by
 rintro j (e|e|e|e|e|⟨z,hz,e⟩)
 ·exact .inl (.inl e)
 ·exact .inl (.inr (.inl e))
 ·exact .inl (.inr (.inr (.inl e)))
 ·exact .inl (.inr (.inr (.inr (.inl e))))
 ·exact .inl (.inr (.inr (.inr (.inr (.inl e)))))
 ·have hy:∀i,(i=y.x\/i=y.g\/y.s.aX=some i)->au t st d r sl its i:=λi e=> .inr (.inr (.inr (.inr (.inr ⟨y,aQ hi,e⟩))))
  rcases qk hz with hz|hz
  ·exact .inl (.inr (.inr (.inr (.inr (.inr ⟨z,hz,e⟩)))))
  ·subst hz;rw [hx,hg] at e;rcases e with e|e|e
   ·exact .inl (hy j (.inl e))
   ·exact .inl (hy j (.inr (.inl e)))
   ·rcases hs j e with e|e
    ·exact .inl (hy j (.inr (.inr e)))
    ·exact .inr e
instance (c:Ce):Decidable (PD c):=by unfold PD;exact inferInstance
def jm(l:List En)(c:Ce):Int:=
 if bL (λe:En=>e.1==pos c) l<0 then -1 else if c.2.1<0 then 1 else ((l[(bL (λe:En=>e.1==pos c) l).toNat]?).map λe=>ZQ e.1 e.2.1 c).getD 0
def jv(l:List En)(c:Ce)(b:Int):List En × Int:=
 if bL (λe:En=>e.1==pos c) l<0 then (l,11) else if ¬PD c then (l,5) else if cR b=false then (l,1) else
  (l.eraseIdx (bL (λe:En=>e.1==pos c) l).toNat++((l[(bL (λe:En=>e.1==pos c) l).toNat]?).map λe=>(e.1,(ue e.1 e.2.1 c b).1,e.2.2.1||(ZQ e.1 e.2.1 c !=b),e.2.2.2)).toList,0)
def ad1{w:World}{t st d:Nat}{r:Dm}{sl:Sl}{D:Dk}{aj limit:Int}{its:List It}(h:TO w t st d r sl D aj limit its)(c:Ce)(hc:qT c):
  eU 113 #[t,gg c] w (Value.int .i64 (jm (eE its) c)):=by
 apply Gp.vc;intro w0 e0;have z0:=fE e0;have x0:=aV e0;refine (qb c hc w0).bj λw1 x1=> ?_
 have lE:=x0.tr x1;have z1:=x1.size;refine ⟨_,_,rfl,x1.heap aa,(find_spec (h.ext lE) (pos c)).bj λw4 x4=> ?_⟩;have z4:=x4.size;have E9:=lE.tr x4;have hfm:bL (λe:En=>e.1==pos c) (eE its)=bL (λi:It=>i.p==pos c) its:=mf It.ob _ its;refine ⟨_,rfl,x4.heap aa,?_⟩;rcases di (λi:It=>i.p==pos c) its with ⟨hf,-⟩|⟨k,y,hk,hyp,hf,-⟩
 ·rw [hf];refine Br.mk (λ_=>⟨?_,E9⟩) (λh=>by simp at h);unfold jm;rw [hfm,hf,if_pos aw]
 ·rw [hf];refine Br.mk (λh=>by simp at h;omega) (λ_=>Br.mk (λhb=> ?_) (λhb=> ?_))
  ·replace hb:=lT hb;refine ⟨?_,E9⟩;unfold jm;rw [hfm,hf,if_neg aa,if_pos hb]
  ·replace hb:=l6 hb;have hd:=(h.ext E9).ext (Ext.dr w4);obtain ⟨a1,a2⟩:=hd.at hk;have hyr:=hd.it y (aQ hk);refine ⟨sl,hd.rt.at 3 rfl,a1,_,a2,sy (sy ⟨_,hyr.r.at 0 rfl,(EY hyr.k c hc).bj λw9 x9=> ?_⟩)⟩;have h9:=hd.ext x9;obtain ⟨-,b2⟩:=h9.at hk;refine ⟨_,_,rfl,x9.heap (show w.heap.size<w4 by omega),pw b2,pw (h9.rt.at 3 rfl),?_,E9.tr ((Ext.dr _).tr x9)⟩;unfold jm;rw [hfm,hf,if_neg aa,if_neg hb,gZ,aZ,hk];rfl
def aij{p:Po}{C:List Int}{c:Ce}{b:Int}(hp:p=pos c)(hy:PD c)(hb:cR b=true):(ue p C c b).2=0:=by unfold ue;rw [if_neg (by rw [(EZ p c).2 ⟨hy,hp.symm⟩];decide),if_neg (by rw [hb];decide)]
def ZR{w:World}{t st d:Nat}{r:Dm}{sl:Sl}{D:Dk}{aj limit:Int}{its:List It}(h:TO w t st d r sl D aj limit its)(c:Ce)(hc:qT c)(b:Int):
  ae 307 #[t,gg c,.int .i64 b] w λe w'=>e=Value.int .i64 (jv (eE its) c b).2/\qp w t st d r sl aj limit its (D,(jv (eE its) c b).1) w':=by
 apply DW.vc;intro w0 e0;have z0:=fE e0;have x0:=aV e0;refine (qb c hc w0).bj λw1 x1=> ?_
 have lE:=x0.tr x1;have z1:=x1.size;refine ⟨_,_,rfl,x1.heap aa,(find_spec (h.ext lE) (pos c)).bj λw4 x4=> ?_⟩;have z4:=x4.size;have E9:=lE.tr x4;have hfm:bL (λe:En=>e.1==pos c) (eE its)=bL (λi:It=>i.p==pos c) its:=mf It.ob _ its;refine ⟨_,rfl,x4.heap aa,(CV c w4).mono ?_⟩;rintro e w6 ⟨⟨ix,iy,rfl,hiy⟩,x6⟩;have z6:=x6.size;have x06:=E9.tr x6;have h6:=h.ext x06;refine ⟨_,_,rfl,x6.heap aa,?_⟩;have same:∀{w'},Ext w w'->qp w t st d r sl aj limit its (D,eE its) w':=λx=>⟨r,sl,its,h.ext x,rfl,aI.aq x⟩
 rcases di (λi:It=>i.p==pos c) its with ⟨hf,-⟩|⟨k,y,hk,hyp,hf,-⟩
 ·rw [hf];refine Br.mk (λ_=> ?_) (λh=>by simp at h);have e:jv (eE its) c b=(eE its,11):=by unfold jv;rw [hfm,hf,if_pos aw]
  rw [e];exact ⟨rfl,same x06⟩
 ·rw [hf];have hyc:y.p=pos c:=by simpa using hyp
  refine Br.mk (λh=>by simp at h;omega) (λ_=> ?_);rcases hiy with ⟨rfl,hY,-⟩|⟨rfl,hY,-⟩
  ·refine BK rfl ((ig b w6).bj λw9 x9=> ?_);have z9:=x9.size;have To:=x06.tr x9;refine ⟨_,rfl,x9.heap aa,Br.mk (λhb=> ?_) (λhb=> ?_)⟩
   ·have hb':cR b=false:=by simpa using hb
    have e:jv (eE its) c b=(eE its,1):=by unfold jv;rw [hfm,hf,if_neg aa,if_neg (by simpa using hY),if_pos hb']
    rw [e];exact ⟨rfl,same To⟩
   ·have hb':cR b=true:=by simpa using hb
    have he:jv (eE its) c b=((eE its).eraseIdx k++ [(y.p,(ue y.p y.C c b).1,y.ph||(ZQ y.p y.C c !=b),y.pins)],0):=by unfold jv;rw [hfm,hf,if_neg aa,if_neg (by simpa using hY),if_neg (by rw [hb'];decide),gZ,aZ,hk];rfl
    have h0:=aij (C:=y.C) hyc hY hb';rw [he];have h9:=h.ext To;refine (Gw h9 hk).mono ?_;rintro e bB ⟨rfl,aze,h11,t11⟩;have azf:=(aI.aq To).trans t11;have z11:=t11.mod.size;have bx:∀{F:Nat->Prop},(∀i,F i->au t st d r sl its i)->¬F w:=λhF hf=>by have:=h.lt (hF _ hf);omega
    have hi':(its.eraseIdx k++ [y])[(its.eraseIdx k).length]? =some y:=by rw [pY (ak _),Nat.sub_self];rfl
    have hd:=h11.ext (Ext.dr bB);have hyd:=hd.it y (aQ hi');have hxw:y.x<w:=(h.it y (aQ hk)).r.lt;have hgw:y.g<w:=(h.it y (aQ hk)).k.row.lt;refine ⟨_,rfl,t11.mod.same _ aa (bx λi hi=>hi),sy (sy ⟨_,hyd.r.at 0 rfl,(EY hyd.k c hc).bj λcu cY=> ?_⟩)⟩;have agA:Ext bB cu:=(Ext.dr _).tr cY;have z14:=agA.size;have h14:=h11.ext agA;have A7:=h14.it y (aQ hi');have pt:∀v:Bool,_:=λv=>A7.r.fF (j:=1) (v:=.bool v) bo rfl
    refine ⟨_,_,rfl,cY.heap (show w.heap.size<bB by omega),sy (sy ⟨_,A7.r.at 1 rfl,Br.mk (λhb=>sy (sy ⟨⟨rfl,(pt true).1⟩,λe=> ?_,λdN Od=>sy (sy ?_)⟩)) (λhb=>sy (sy ⟨⟨rfl,(pt true).1⟩,λe=> ?_,λdN Od=>sy (sy ?_)⟩))⟩)⟩
    case refine_1|refine_3=>
     rw [cB] at e;have:y.x=w.heap.size:=by simpa [bN] using e
     omega
    all_goals
     obtain ⟨q1,q2⟩:=(pt _).2 dN Od
     have z18:=q2.size
     have asZ:IN dN y.g y.s y.p y.C:=A7.k.aW q2 (λe=>A7.k.row.ne A7.r aw e) (λb hb=>by obtain ⟨cs',hr'⟩:=aU A7.k.own aw hb;exact hr'.ne A7.r aw)
     refine ⟨_,(q1.ext (Ext.dr _)).at 0 rfl,(ad2 (asZ.ext (Ext.dr dN)) c hc b).mono ?_⟩;rintro e fw ⟨rfl,s',azg,m20,b20⟩;have q1d:=q1.ext (Ext.dr dN);refine ⟨_,rfl,m20.same _ (show w.heap.size<dN by omega) (λe=>by omega),congrArg _ (congrArg _ h0),?_⟩;have hm:Mod (λj=>j=y.x\/j=y.g) cu fw:=((q2.mono λi _ hi=> .inl hi).trans (Mod.aq (Ext.dr _))).trans (m20.mono λi _ hi=> .inr hi);have azh:tX fw ⟨y.x,y.g,s',y.p,(ue y.p y.C c b).1,y.ph||(ZQ y.p y.C c !=b),y.pins⟩:=by refine ⟨?_,azg⟩;have:=m20.row q1d (λe=>q1d.ne (asZ.ext (Ext.dr dN)).row aw e);rw [hb];exact this
     have h20:=h14.aii hi' (y':=⟨y.x,y.g,s',y.p,(ue y.p y.C c b).1,y.ph||(ZQ y.p y.C c !=b),y.pins⟩) rfl rfl hm azh;refine ⟨r,aze,_,h20,?_,azf.trans ⟨(Mod.aq agA).trans (hm.mono λi _ hi=> ?_),λj hj=> ?_⟩⟩
     ·unfold eE;rw [List.set_append_right _ _ (ak _),Nat.sub_self,bS];have:=vD its k;unfold eE at this;rw [this];rfl
     ·exact .inr (.inr (.inr (.inr (.inr ⟨y,aQ hi',hi.elim .inl λe=> .inr (.inl e)⟩))))
     ·exact ZP (y':=⟨y.x,y.g,s',y.p,(ue y.p y.C c b).1,y.ph||(ZQ y.p y.C c !=b),y.pins⟩) hi' rfl rfl (λb hb=>(b20 b hb).imp id λe=>c8 (c8 z14 z18) e) j hj
  ·have e:jv (eE its) c b=(eE its,5):=by unfold jv;rw [hfm,hf,if_neg aa,if_pos hY]
   refine yes rfl ?_;rw [e];exact ⟨rfl,same x06⟩
def TF(F:Nat->Prop)(w:World)(t:Nat)(aj limit:Int)(T:Tb):Prop:=
 ∃st d r sl its,TO w t st d r sl T.1 aj limit its/\eE its=T.2/\F=au t st d r sl its
def TF.lt{F:Nat->Prop}{w:World}{t:Nat}{aj limit:Int}{T:Tb}(h:TF F w t aj limit T){i:Nat}(hi:F i):i<w:=by obtain ⟨st,d,r,sl,its,h1,h2,rfl⟩:=h;exact h1.lt hi
def TF.same{F:Nat->Prop}{w w':World}{t:Nat}{aj limit:Int}{T:Tb}(h:TF F w t aj limit T)(hs:∀i,F i->w'.heap[i]? =w.heap[i]?):TF F w' t aj limit T:=by obtain ⟨st,d,r,sl,its,h1,h2,rfl⟩:=h;exact ⟨st,d,r,sl,its,h1.same hs,h2,rfl⟩
def TF.ext{F:Nat->Prop}{w w':World}{t:Nat}{aj limit:Int}{T:Tb}(h:TF F w t aj limit T)(x:Ext w w'):TF F w' t aj limit T:=h.same λ_ hi=>x.heap (h.lt hi)
def TF.aW{F G:Nat->Prop}{w w':World}{t:Nat}{aj limit:Int}{T:Tb}(h:TF F w t aj limit T)(hm:Mod G w w')(hn:∀i,F i->¬G i):TF F w' t aj limit T:=h.same λi hi=>hm.same i (h.lt hi) (hn i hi)
abbrev O5(τ:TypeId):Prop:=τ≠BY/\τ≠BX/\τ≠tq/\τ≠tPI/\τ≠cl/\τ≠xR/\τ≠il/\τ≠tW/\τ≠jL
def TF.dT{F:Nat->Prop}{w:World}{t:Nat}{aj limit:Int}{T:Tb}(h:TF F w t aj limit T){j:Nat}{cs:LV}{τ:TypeId}(hr:Row w j cs τ)(hτ:O5 τ):¬F j:=by obtain ⟨st,d,r,sl,its,h1,h2,rfl⟩:=h;exact h1.dT hr hτ
def TF.len{F:Nat->Prop}{w:World}{t:Nat}{aj limit:Int}{T:Tb}(h:TF F w t aj limit T):(T.2.length:Int)<=limit/\1<=limit/\limit<=16:=by obtain ⟨st,d,r,sl,its,h1,e,rfl⟩:=h;have:=h1.len;have:=h1.WY;rw [<-e];unfold eE;rw [aJ];omega
def TF.ok{F:Nat->Prop}{w:World}{t:Nat}{aj limit:Int}{T:Tb}(h:TF F w t aj limit T):nT T.1:=by obtain ⟨st,d,r,sl,its,h1,e,rfl⟩:=h;exact h1.so.dk.ok
abbrev Fz(F:Nat->Prop)(w:World)(t:Nat)(aj limit:Int)(T:Tb)(w':World):Prop:=∃F',TF F' w' t aj limit T/\aI F F' w w'
def wG{w w':World}{t st d:Nat}{r:Dm}{sl:Sl}{aj limit:Int}{its:List It}{T:Tb}(hl:qp w t st d r sl aj limit its T w'):Fz (au t st d r sl its) w t aj limit T w':=by obtain ⟨r',sl',its',h',ho,ht⟩:=hl;exact ⟨_,⟨st,d,r',sl',its',h',ho,rfl⟩,ht⟩
def T7(aj limit room:Int)(w:World):ae 176 #[aj,limit,room] w λe w'=>∃t F,e=Value.pointer (aB t)/\TF F w' t aj (min (max limit 1) 16) (T6 room,[])/\Ext w w'/\∀i,F i->w.heap.size<=i:=by refine (aa4 aj limit room w).mono ?_;rintro e w' ⟨t,st,d,r,rfl,h,x,hf⟩;exact ⟨t,_,rfl,⟨st,d,r,_,[],h,rfl,rfl⟩,x,hf⟩
section
variable {F:Nat->Prop} {w:World} {t:Nat} {aj limit:Int} {T:Tb}
def Q1(h:TF F w t aj limit T)(hW:T.1.l.length<=1000000)(p:Po):
  ae 88 #[t,pv p] w λe w'=>e=Value.int .i64 (Bh aj limit T.1 T.2 p).2/\Fz F w t aj limit (Bh aj limit T.1 T.2 p).1 w':=by
 obtain ⟨st,d,r,sl,its,h1,e,rfl⟩:=h;rw [<-e];refine (Zp h1 hW p).bj λw' hl=> ?_
 exact ⟨rfl,wG hl⟩
def Iu(h:TF F w t aj limit T)(hW:T.1.l.length<=1000000)(p:Po):
  ae 89 #[t,pv p] w λe w'=>e=Value.int .i64 (oh T.1 T.2 p).2/\Fz F w t aj limit (oh T.1 T.2 p).1 w':=by
 obtain ⟨st,d,r,sl,its,h1,e,rfl⟩:=h;rw [<-e];refine (QT h1 hW p).bj λw' hl=> ?_
 exact ⟨rfl,wG hl⟩
def N8(h:TF F w t aj limit T)(hW:T.1.l.length<=1000000)(p:Po):
  ae 90 #[t,pv p] w λe w'=>e=Value.int .i64 (TG T.1 T.2 p).2/\Fz F w t aj limit (TG T.1 T.2 p).1 w':=by
 obtain ⟨st,d,r,sl,its,h1,e,rfl⟩:=h;rw [<-e];refine (Va h1 hW p).bj λw' hl=> ?_
 exact ⟨rfl,wG hl⟩
def DB(h:TF F w t aj limit T)(hW:T.1.l.length<=900000):
  ae 120 #[t] w λe w'=>e=Value.tuple #[.int .i64 (hZ T.1 T.2).2.1,.int .i64 (hZ T.1 T.2).2.2]/\Fz F w t aj limit (hZ T.1 T.2).1 w':=by
 obtain ⟨st,d,r,sl,its,h1,e,rfl⟩:=h;rw [<-e];refine (IT h1 hW).bj λw' hl=> ?_
 exact ⟨rfl,wG hl⟩
def Ny(h:TF F w t aj limit T)(hW:T.1.l.length<=1000000)(hL:eA T.1.l<=1099511627776)(aW:Int):
  ae 183 #[t,aW] w λe w'=>e=Value.int .i64 (cA T.1 aW).2/\Fz F w t aj limit ((cA T.1 aW).1,[]) w':=by
 obtain ⟨st,d,r,sl,its,h1,e,rfl⟩:=h;refine (Vd h1 hW hL aW).bj λw' hl=> ?_
 exact ⟨rfl,wG hl⟩
def Pk(h:TF F w t aj limit T)(hW:T.1.l.length<=1000000)(s:Sl)(b:List Int)(hs:ji w s b)(hb:mK b)(hn:b.length<=1099511627776):
  ae 182 #[t,s] w λe w'=>e=Value.int .i64 (tQ T.1 0 b).2/\Fz F w t aj limit ((tQ T.1 0 b).1,T.2) w':=by
 obtain ⟨st,d,r,sl,its,h1,e,rfl⟩:=h;rw [<-e];refine (ZM h1 hW s b hs hb hn).bj λw' hl=> ?_
 exact ⟨rfl,wG hl⟩
def R0(h:TF F w t aj limit T)(hW:T.1.l.length<=1000000):
  ae 184 #[t] w λe w'=>∃s:Sl,e=Value.tuple #[s,.bool (qd T.1 0).2.2]/\ji w' s (qd T.1 0).1/\mK (qd T.1 0).1/\(qd T.1 0).1.length<=1048576/\s.n<=s.c/\(∀g,s.aX=some g->w.heap.size<=g)/\Ext w w':=by
 obtain ⟨st,d,r,sl,its,h1,e,rfl⟩:=h;exact ZN h1 hW
def Bt(h:TF F w t aj limit T)(c:Ce)(hc:qT c):
  eU 113 #[t,gg c] w (Value.int .i64 (jm T.2 c)):=by
 obtain ⟨st,d,r,sl,its,h1,e,rfl⟩:=h;rw [<-e];exact ad1 h1 c hc
def T8(h:TF F w t aj limit T)(c:Ce)(hc:qT c)(b:Int):
  ae 307 #[t,gg c,b] w λe w'=>e=Value.int .i64 (jv T.2 c b).2/\Fz F w t aj limit (T.1,(jv T.2 c b).1) w':=by
 obtain ⟨st,d,r,sl,its,h1,e,rfl⟩:=h;rw [<-e];refine (ZR h1 c hc b).bj λw' hl=> ?_
 exact ⟨rfl,wG hl⟩
def amP(h:TF F w t aj limit T):∃st d,ld w (ab (aB t) 0)=some (.pointer (aB st))/\ld w (ab (ab (aB st) 0) 0)=some (.pointer (aB d))/\
  ∀n,cT n->ae 122 #[.pointer (aB d),.int .i64 n] w λe w'=>e=pH/\Fz F w t aj limit (ov T.1 n,T.2) w':=by
 obtain ⟨st,d,r,sl,its,h1,e,rfl⟩:=h;rw [<-e];refine ⟨st,d,h1.rt.at 0 rfl,h1.so.ptr,λn hn=>(Ve h1 hn).bj λw' hl=> ?_⟩;exact ⟨rfl,wG hl⟩
end
open Tryz
variable {R:eWp} {w:World} {a0 a1 a2 aM aL aR aG aH aS eX:Int}
def ada.vc(h:
 Aw w #[aM,aL,aR] 23 λw0=>
 Aw w0 #[ai,ai,ai] 23 λw1=>
 ae 281 #[aM] w1.drew (Ri λx3 w2=>K2 w w0 w1.drew w2 (
 ah w2 (jS w 2) 0 [aR]/\ah w2 (jS w 1) 0 [aL]/\ae 281 #[aL] w2 (Ri λx5 w4=>K2 w w0 w2 w4 (
 ah w4 (jS w 2) 0 [aR]/\ae 281 #[aR] w4 (Ri λx7 w6=>K2 w w0 w4 w6 (
 Sw w6 w0 #[x3,x5,x7] λw8=>
 R (tZ #[x3,x5,x7]) w8))))))):ae 280 #[.agg #[aM,aL,aR]] w R:=
 cq bD func280 h
def adb.vc(h:(λA=>
 R (Value.int .i64 (if 2147483648<A then 2147483648 else A)) w) (if (-2147483648)>a0 then (-2147483648) else a0)):ae 281 #[a0] w R:=
 cq bD func281 h
def YY.vc(h:(λA=>
 Aw w #[aM,aL,aR] 23 λw0=>
 Aw w0 #[ai,ai,ai,ai,ai,ai,ai,ai,ai,ai,ai,ai,ai,ai,ai,ai,ai,ai] 266 λw1=>
 ae 279 #[A,ai,ai,w] w1 (zJ λx3 x4 x5 w2=>ae 279 #[(1:Int),ai,ai,w] w2 (zJ λx7 x8 x9 w6=>ae 279 #[ai,A,ai,w] w6 (zJ λbR cw cN bc=>ae 279 #[ai,(1:Int),ai,w] bc (zJ λdm dz dS cu=>ae 279 #[ai,ai,A,w] cu (zJ λdR fk fj dN=>ae 279 #[ai,ai,(1:Int),w] dN (zJ λim jR gM dt=>(Pt dt ⟨w0,0,none⟩ 18 [x3,x4,x5,x7,x8,x9,bR,cw,cN,dm,dz,dS,dR,fk,fj,im,jR,gM] λlQ=>
 ∃(jH rI kK tM oU mR gO j0 pG pP mQ nI rD rK lO yP vS rE:Int),ah lQ (aB w0) 0 [jH,rI,kK,tM,oU,mR,gO,j0,pG,pP,mQ,nI,rD,rK,lO,yP,vS,rE]/\
 R (tZ #[jH,rI,kK,tM,oU,mR,gO,j0,pG,pP,mQ,nI,rD,rK,lO,yP,vS,rE]) lQ)))))))) (-1:Int)):ae 221 #[.agg #[aM,aL,aR]] w R:=
 cq bD func221 h
def P6.vc{c0:Addr}(h:(λA=>
 Aw w #[ai,ai,ai] 23 λw0=>
 jV w0.drew (ab A 0) λx1=>
 jV w0.drew (ab A 1) λx2=>
 jV w0.drew (ab A 2) λx3=>
 ae 281 #[x1] w0.drew (Ri λx5 w4=>Kp w w0.drew w4/\
 ah w4 (ab A 2) 0 [x3]/\ah w4 (ab A 1) 0 [x2]/\ae 281 #[x2] w4 (Ri λx7 w6=>Kp w w4 w6/\
 ah w6 (ab A 2) 0 [x3]/\ae 281 #[x3] w6 (Ri λx9 w8=>Kp w w6 w8/\
 ae 280 #[.agg #[(aC (x5+a0)),(aC (x7+a1)),(aC (x9+a2))]] w8 (mh λbR cw cN bc=>Kp w w8 bc/\
 Sw bc w #[bR,cw,cN] λcu=>
 R (tZ #[bR,cw,cN]) cu))))) (some c0)):ae 279 #[a0,a1,a2,c0] w R:=
 cq bD func279 h
def UI.vc(h:
 ae 222 #[a0] w (CP λb1 w0=>Br b1
 (R (2:Int) w0)
 (ae 262 #[a0] w0 (CP λb3 w2=>Br b3
 (R (5:Int) w2)
 (R (0:Int) w2))))):ae 309 #[a0] w R:=
 cq bD func309 h
def UJ.vc{a0:Value}(h:(λA B=>
 Aw w A 23 λw0=>
 ae 221 #[.agg A] w0 (P7 λx2 x3 x4 x5 x6 x7 x8 x9 bM bR cw cN cY dm dz dS de dR w1=>Kp w w0 w1/\
 ((0:Int)<=3/\(3:Int)<((6:Nat):Int))/\∃(fk fj gI:Int),(([x2,x3,x4,x5,x6,x7,x8,x9,bM,bR,cw,cN,cY,dm,dz,dS,de,dR]:LV).drop ((3:Int).toNat*3)).take 3=[.int .i64 fk,.int .i64 fj,.int .i64 gI]/\
 bu Tryz.prog a0 [.agg #[fk,fj,gI]] w1 (Ri λjR je=>Kp w w1 je/\
 ae 262 #[jR] je (Rb λV9 dL=>Kp w je dL/\
 Br V9
 (R (eV #[(1:Int),true]) dL)
 (ae 330 #[.agg A] dL (Rs λs28 gN=>Kp w dL gN/\
 qH (λI29 n30=>aP B/\I29 n30 (0) (7) gN) λI29 n30 arM mR gO ky=>
 Br (decide (mR<((s28.n:Nat):Int)))
 (gJ s28.a mR s28.n/\ia ky (ab s28.a ((mR:Int).toNat*3)) λpP mQ nI=>
 Aw ky #[ai,ai,ai] 23 λlN=>
 Sw lN ky #[pP,mQ,nI] λnV=>
 bu Tryz.prog a0 [.agg #[pP,mQ,nI]] nV (Ri λyP kN=>K2 w ky nV kN (
 ae 278 #[yP] kN (Ri λrE iS=>K2 w ky kN iS (
 Br (rE>=0)
 (∃n35,n35<n30/\aP B/\I29 n35 ((aC (mR+1))) ((if rE<gO then rE else gO)) iS)
 (∃n35,n35<n30/\aP B/\I29 n35 ((aC (mR+1))) gO iS))))))
 (Br (gO==7)
 (R (eV #[ai,false]) ky)
 (R (eV #[(aC (gO+1)),true]) ky)))))))) #[aG,aH,aS] [aG,aH,aS]):ae 328 #[a0,.agg #[aG,aH,aS]] w R:=
 cq (anJ 5 19 6) func328 h
def Yw.vc{a0:Value}(h:(λA=>
 Aw w A 23 λw0=>
 bu Tryz.prog a0 [.agg A] w0 (Ri λx2 w1=>Kp w w0 w1/\
 ae 222 #[x2] w1 (Rb λb4 w3=>Kp w w1 w3/\
 Br b4
 (ae 276 #[a0,.agg A] w3 (Rs λs6 w5=>Kp w w3 w5/\
 R s6 w5))
 (ae 262 #[x2] w3 (Rb λb8 w7=>Kp w w3 w7/\
 Br b8
 (ae 278 #[x2] w7.drew (Ri λbM w9=>Kp w w7.drew w9/\
 ah w9 w 0 [aG,aH,aS]/\ae 277 #[a0,.agg A,bM] w9 (Rs λnC bB=>Kp w w9 bB/\
 R nC bB)))
 (R (Value.slice none 0 0) w7)))))) #[aG,aH,aS]):ae 220 #[a0,.agg #[aG,aH,aS]] w R:=
 cq bD func220 h
def UK.vc{a0:Value}(h:(λA B=>
 Aw w B 23 λw0=>
 ae 221 #[.agg B] w0 (P7 λx2 x3 x4 x5 x6 x7 x8 x9 bM bR cw cN cY dm dz dS de dR w1=>Kp w w0 w1/\
 Aw w1 #[ai,ai,ai,ai,ai,ai,ai,ai,ai,ai,ai,ai,ai,ai,ai,ai,ai,ai] 266 λfw=>
 Wt fw ⟨w1,0,none⟩ 18/\Nb w1 w/\(Pw fw (aB w1) [x2,x3,x4,x5,x6,x7,x8,x9,bM,bR,cw,cN,cY,dm,dz,dS,de,dR] λcX=>
 Aw cX.drew B 23 λdt=>
 ∃l23:LV,Rd dt (aE (aB w1) (0) (6) 3) l23/\aY 24 3 dt ⟨(aB cX.drew.heap.size),1,1⟩ (6-0) l23/\∀(yQ:Sl)(dL:World),aT 23 3 dt ⟨(aB cX.drew.heap.size),1,1⟩ (6-0) l23 yQ dL->Kp w dt dL/\oC cX dt dL/\
 po (λYc n27=>aP A/\aP A/\Yc n27 (0) ⟨none,0,0⟩ dL) λYc n27 arN kK ED ik=>
 Br (decide (kK<((yQ.n:Nat):Int)))
 (gJ yQ.a kK yQ.n/\ia ik (ab yQ.a ((kK:Int).toNat*3)) λgO j0 pG=>
 Aw ik #[ai,ai,ai] 23 λox=>
 Sw ox ik #[gO,j0,pG] λjJ=>
 bu Tryz.prog a0 [.agg #[gO,j0,pG]] jJ (Ri λrD tN=>Kp w jJ tN/\oC cX jJ tN/\Kp ik jJ tN/\
 ae 309 #[rD] tN (Ri λlO nV=>Kp w tN nV/\oC cX tN nV/\Kp ik tN nV/\
 Br (lO>0)
 (Aw nV #[gO,j0,pG] 23 λpF=>
 aY 24 3 pF ED 1 [gO,j0,pG]/\∀(s43:Sl)(kh:World),aT 23 3 pF ED 1 [gO,j0,pG] s43 kh->Kp w pF kh/\oC cX pF kh/\K2 ik nV pF kh (
 ∃n32,n32<n27/\aP A/\aP A/\Yc n32 ((aC (kK+1))) s43 kh))
 (∃n32,n32<n27/\aP A/\aP A/\Yc n32 ((aC (kK+1))) ED nV))))
 (R ED ik)))) [aG,aH,aS] #[aG,aH,aS]):ae 308 #[a0,.agg #[aG,aH,aS]] w R:=
 cq (anS 4 16 5) func308 h
def P8.vc(h:(λA B=>
 Aw w #[aM,aL,aR] 23 λw0=>
 ae 221 #[.agg #[aM,aL,aR]] w0 (P7 λx2 x3 x4 x5 x6 x7 x8 x9 bM bR cw cN cY dm dz dS de dR w1=>(λAa=>Kp w w0 w1/\
 Aw w1 #[ai,ai,ai,ai,ai,ai,ai,ai,ai,ai,ai,ai,ai,ai,ai,ai,ai,ai] 266 λfw=>
 Wt fw ⟨w1,0,none⟩ 18/\Nb w1 w/\(Pw fw (aB w1) [x2,x3,x4,x5,x6,x7,x8,x9,bM,bR,cw,cN,cY,dm,dz,dS,de,dR] λcX=>
 (0:Int)<=2/\2<=((6:Nat):Int)/\(0:Int)<=2/\(2:Int)<=2/\(0:Int)<=4/\4<=((6:Nat):Int)/\∃l22:LV,Rd cX.drew (aE (aB w1) ((4:Int).toNat) (6) 3) l22/\aY 24 3 cX.drew ⟨Aa,A,A⟩ B l22/\∀(s23:Sl)(iH:World),aT 23 3 cX.drew ⟨Aa,A,A⟩ B l22 s23 iH->Kp w cX.drew iH/\
 R s23 iH)) (aE (aB w1) (0) ((2:Int).toNat) 3))) ((2:Int).toNat-0) (6-(4:Int).toNat)):ae 330 #[.agg #[aM,aL,aR]] w R:=
 cq bD func330 h
def YZ.vc{a0:Value}(h:
 Aw w #[aG,aH,aS] 23 λw0=>
 ae 221 #[.agg #[aG,aH,aS]] w0 (P7 λx2 x3 x4 x5 x6 x7 x8 x9 bM bR cw cN cY dm dz dS de dR w1=>Kp w w0 w1/\
 ((0:Int)<=2/\(2:Int)<((6:Nat):Int))/\∃(fk fj gI:Int),(([x2,x3,x4,x5,x6,x7,x8,x9,bM,bR,cw,cN,cY,dm,dz,dS,de,dR]:LV).drop ((2:Int).toNat*3)).take 3=[.int .i64 fk,.int .i64 fj,.int .i64 gI]/\
 Aw w1 #[ai,ai,ai] 23 λje=>
 Sw je w1 #[fk,fj,gI] λiH=>
 bu Tryz.prog a0 [.agg #[fk,fj,gI]] iH (Ri λnY dL=>K2 w w1 iH dL (
 ae 253 #[nY] dL (Rb λYa gN=>K2 w w1 dL gN (
 Br (!Ya)
 (R (Value.slice none 0 0) gN)
 (Aw gN #[aG,aH,aS,nY,fk,fj,gI,(3:Int)] 269 λgz=>
 R (Value.slice (aB gN) 2 2) gz))))))):ae 276 #[a0,.agg #[aG,aH,aS]] w R:=
 cq bD func276 h
def ahV.vc{a0:Addr}(h:(λA=>
 ae 174 #[(4096:Int)] w (tR λp1 w0=>Aw w0 #[p1,a0,.int .i64 (if 64<A then 64 else A),(0:Int),.func (.func 175) #[] #[],.slice none 0 0] 129 λw2=>
 R (Value.pointer (aB w0)) w2)) (if 1>a1 then 1 else a1)):ae 114 #[a0,a1] w R:=
 cq bD func114 h
def IE.vc{a0:Addr}(h:
 fu w (ab (some a0) 1) λp0=>
 R p0 w):ae 39 #[a0] w R:=
 cq bD func39 h
def DQ.vc{a0:Addr}(h:
 fu w (ab (some a0) 0) λp0=>
 ae 75 #[p0] w (rZ λs2 w1=>R s2 w1)):ae 46 #[a0] w R:=
 cq bD func46 h
def Ge.vc{a0:Addr}{f1:Fn}{p1 q1:Array Value}(h:
 ((Pv w (ab (some a0) 4) 1 [.func f1 p1 q1] λw0=>
 R pH w0))):ae 83 #[a0,.func f1 p1 q1] w R:=
 cq bD func83 h
def P9.vc{a0:Addr}(h:
 jV w (ab (some a0) 3) λx0=>
 R x0 w):ae 45 #[a0] w R:=
 cq bD func45 h
def Mn.vc{a0:Addr}(h:(λA=>
 Aw w A 23 λw0=>
 fu w0.drew (ab (some a0) 1) λp1=>
 ae 250 #[p1,.agg A,a2] w0.drew (Ri λx3 w2=>Kp w w0.drew w2/\
 Br (x3==0)
 (ae 251 #[a0,.agg A] w2 (Rt λw4=>Kp w w2 w4/\
 R x3 w4))
 (R x3 w2))) #[aG,aH,aS]):ae 188 #[a0,.agg #[aG,aH,aS],a2] w R:=
 cq bD func188 h
def Mo.vc{a0:Addr}(h:(λA=>
 Aw w #[aG,aH,aS] 23 λw0=>
 fu w0 (ab A 1) λp1=>
 ae 58 #[p1] w0 (Rv λv3 w2=>Kp w w0 w2/\
 ae 308 #[v3,.agg #[aG,aH,aS]] w2 (Rs λs5 w4=>Kp w w2 w4/\
 uo (λI6 n7=>aP [aG,aH,aS]/\I6 n7 (0) w4) λI6 n7 us8 x9 bc=>
 Br (decide (x9<((s5.n:Nat):Int)))
 (gJ s5.a x9 s5.n/\ia bc (ab s5.a ((x9:Int).toNat*3)) λcw cN cY=>
 Aw bc #[ai,ai,ai] 23 λdj=>
 Sw dj bc #[cw,cN,cY] λcp=>
 fu cp.drew (ab A 0) λp17=>
 jV cp.drew (ab A 3) λde=>
 bu Tryz.prog v3 [.agg #[cw,cN,cY]] cp.drew (Ri λfk eQ=>K2 w bc cp.drew eQ (
 ah eQ (ab A 3) 0 [de]/\ah eQ bc 0 [cw,cN,cY]/\ah eQ (ab A 0) 0 [.pointer p17]/\ae 309 #[fk] eQ (Ri λgI cX=>K2 w bc eQ cX (
 ah cX (ab A 3) 0 [de]/\ah cX bc 0 [cw,cN,cY]/\ah cX (ab A 0) 0 [.pointer p17]/\ae 219 #[p17,.agg #[cw,cN,cY],(aC (de+gI))] cX (Rb λb24 je=>K2 w bc cX je (
 ah je (ab A 3) 0 [de]/\∃n11,n11<n7/\aP [aG,aH,aS]/\I6 n11 ((aC (x9+1))) je)))))))
 (R pH bc)))) (some a0)):ae 251 #[a0,.agg #[aG,aH,aS]] w R:=
 cq (Oy 3 16) func251 h
def Gf.vc{a0:Addr}(h:
 Aw w #[aG,aH,aS,eX] 269 λw0=>
 fu w0.drew (ab (some a0) 1) λp1=>
 ae 58 #[p1] w0.drew (Rv λv3 w2=>Kp w w0.drew w2/\
 ah w2 (jS w 3) 0 [eX]/\ah w2 w 0 [aG,aH,aS]/\bu Tryz.prog v3 [.agg #[aG,aH,aS]] w2 (Ri λx5 w4=>Kp w w2 w4/\
 ah w4 (jS w 3) 0 [eX]/\Br (x5 !=eX)
 (ae 188 #[a0,.agg #[aG,aH,aS],eX] w4 (Ri λx7 w6=>Kp w w4 w6/\
 R pH w6))
 (R pH w4)))):ae 223 #[a0,.agg #[aG,aH,aS,eX]] w R:=
 cq bD func223 h
def Gg.vc{a0:Addr}(h:(λA B C D E=>
 Aw w D 23 λw0=>
 fu w0.drew (ab E 1) λp1=>
 ae 137 #[p1,.agg D] w0.drew (Rb λb3 w2=>Kp w w0.drew w2/\
 Br (!b3)
 (fu w2.drew (ab E 0) λp4=>
 jV w2.drew (ab E 3) λx5=>
 ae 219 #[p4,.agg D,(aC (x5+1))] w2.drew (Rb λb7 w6=>Kp w w2.drew w6/\
 ah w6 (ab E 3) 0 [x5]/\R pH w6))
 (fu w2 (ab E 1) λp8=>
 ae 58 #[p8] w2 (Rv λv10 w9=>Kp w w2 w9/\
 ae 220 #[v10,.agg D] w9 (Rs λnC bB=>(λAa=>Kp w w9 bB/\
 ae 221 #[.agg D] bB (λe bw=>∃(cY dm dz dS de dR fk fj gI im jR gM nY jH rI kK tM oU:Int),e=Value.agg #[cY,dm,dz,dS,de,dR,fk,fj,gI,im,jR,gM,nY,jH,rI,kK,tM,oU]/\Kp w bB bw/\
 ((0:Int)<=2/\(2:Int)<((6:Nat):Int))/\∃(mR gO j0:Int),(([cY,dm,dz,dS,de,dR,fk,fj,gI,im,jR,gM,nY,jH,rI,kK,tM,oU]:LV).drop ((2:Int).toNat*3)).take 3=[.int .i64 mR,.int .i64 gO,.int .i64 j0]/\
 Aw bw #[ai,ai,ai] 23 λiI=>
 Sw iI bw #[mR,gO,j0] λox=>
 bu Tryz.prog v10 [.agg D] ox.drew (Ri λnI jJ=>K2 w bw ox.drew jJ (
 ae 222 #[nI] jJ (Rb λb40 lN=>K2 w bw jJ lN (
 Br b40
 (Br (decide ((Aa:Int)>0))
 (∃(v41:Value),ld lN (ab E 4)=some (v41)/\
 bu Tryz.prog v41 [.agg #[mR,gO,j0]] lN (Rb λb43 pF=>K2 w bw lN pF (
 Br b43
 (Aw pF #[aG,aH,aS,ai] 269 λkh=>
 lX kh.drew A λs45=>
 Aw kh.drew #[mR,gO,j0] 23 λIg=>
 aY 24 3 Ig s45 1 [mR,gO,j0]/\∀(Tp:Sl)(lP:World),aT 23 3 Ig s45 1 [mR,gO,j0] Tp lP->K3 w bw pF Ig lP (
 oC kh Ig lP/\
 (true=true/\Wr lP A 1)/\bN A≠some w.heap.size/\bN A≠some bw.heap.size/\bN A≠some pF.heap.size/\bN A≠some kh.drew.heap.size/\(Pw lP A [Tp] λnH=>
 uo (λI50 n51=>aP B/\aP [mR,gO,j0]/\aP [aG,aH,aS,ai]/\aP [mR,gO,j0]/\I50 n51 (0) nH) λI50 n51 axT nZ w54=>
 Br (decide (nZ<((1:Nat):Int)))
 (gJ (aB pF) nZ 1/\tz w54 (ab (aB pF) ((nZ:Int).toNat*4)) λOP Jk KP Ie=>
 Aw w54 C 269 λnX=>
 Sw nX w54 #[OP,Jk,KP,Ie] λvv=>
 ae 223 #[a0,.agg #[OP,Jk,KP,Ie]] vv (Rt λkz=>K3 w bw pF vv kz (
 oC kh vv kz/\Kp w54 vv kz/\
 ∃n55,n55<n51/\aP B/\aP [mR,gO,j0]/\aP [aG,aH,aS,ai]/\aP [mR,gO,j0]/\I50 n55 ((aC (nZ+1))) kz)))
 (R pH w54))))
 (uo (λI63 n64=>aP B/\aP [mR,gO,j0]/\I63 n64 (0) pF) λI63 n64 aw2 rO pS=>
 Br (decide (rO<Aa))
 (gJ nC.a rO nC.n/\tz pS (ab nC.a ((rO:Int).toNat*4)) λA9 Es Ba Dw=>
 Aw pS C 269 λJl=>
 Sw Jl pS #[A9,Es,Ba,Dw] λEx=>
 ae 223 #[a0,.agg #[A9,Es,Ba,Dw]] Ex (Rt λur=>K3 w bw pS Ex ur (
 ∃n68,n68<n64/\aP B/\aP [mR,gO,j0]/\I63 n68 ((aC (rO+1))) ur)))
 (R pH pS)))))
 (uo (λI76 n77=>aP B/\aP [mR,gO,j0]/\I76 n77 (0) lN) λI76 n77 axY x79 Jh=>
 Br (decide (x79<Aa))
 (gJ nC.a x79 nC.n/\tz Jh (ab nC.a ((x79:Int).toNat*4)) λEt OR TR x85=>
 Aw Jh C 269 λw86=>
 Sw w86 Jh #[Et,OR,TR,x85] λIh=>
 ae 223 #[a0,.agg #[Et,OR,TR,x85]] Ih (Rt λTT=>K3 w bw Jh Ih TT (
 ∃n81,n81<n77/\aP B/\aP [mR,gO,j0]/\I76 n81 ((aC (x79+1))) TT)))
 (R pH Jh)))
 (uo (λI89 n90=>aP B/\aP [mR,gO,j0]/\I89 n90 (0) lN) λI89 n90 ax1 Ta KZ=>
 Br (decide (Ta<Aa))
 (gJ nC.a Ta nC.n/\tz KZ (ab nC.a ((Ta:Int).toNat*4)) λWb Wc KW x98=>
 Aw KZ C 269 λIc=>
 Sw Ic KZ #[Wb,Wc,KW,x98] λtg=>
 ae 223 #[a0,.agg #[Wb,Wc,KW,x98]] tg (Rt λJj=>K3 w bw KZ tg Jj (
 ∃n94,n94<n90/\aP B/\aP [mR,gO,j0]/\I89 n94 ((aC (Ta+1))) Jj)))
 (R pH KZ)))))))) ((nC.n:Nat):Int)))))) (ab (some a0) 5) [aG,aH,aS] #[ai,ai,ai,ai] #[aG,aH,aS] (some a0)):ae 151 #[a0,.agg #[aG,aH,aS]] w R:=
 cq ⟨[(10,⟨[(70,.int .i64)],[],[]⟩),(10,⟨[(70,.int .i64)],[],[]⟩),(10,⟨[(70,.int .i64)],[],[]⟩),(10,⟨[(70,.int .i64)],[],[]⟩)],[],[]⟩ func151 h
def Mp.vc{a0:Addr}(h:(λA=>
 jV w A λx0=>
 (Pv w A 1 [.int .i64 (if 1099511627776<(aC (x0+1)) then 1099511627776 else (aC (x0+1)))] λw1=>
 fu w1.drew (ab (some a0) 0) λp2=>
 jV w1.drew A λx3=>
 jV w1.drew (ab (some a0) 2) λx4=>
 ae 150 #[p2,x3,x4] w1.drew (rZ λs6 w5=>uo (λI7 n8=>I7 n8 (0) w5) λI7 n8 us9 bM bB=>
 Br (decide (bM<((s6.n:Nat):Int)))
 (gJ s6.a bM s6.n/\ia bB (ab s6.a ((bM:Int).toNat*3)) λcN cY dm=>
 Aw bB #[ai,ai,ai] 23 λcp=>
 Sw cp bB #[cN,cY,dm] λcM=>
 ae 151 #[a0,.agg #[cN,cY,dm]] cM (Rt λdN=>Kp bB cM dN/\
 ∃n12,n12<n8/\I7 n12 ((aC (bM+1))) dN))
 (R (Value.int .i64 ((s6.n:Nat):Int)) bB)))) (ab (some a0) 3)):ae 85 #[a0] w R:=
 cq (Oy 4 30) func85 h
open Go.fL
def fo(c:Ce):Prop:=(-2000000000<=c.1/\c.1<=2000000000)/\(-2000000000<=c.2.1/\c.2.1<=2000000000)/\-2000000000<=c.2.2/\c.2.2<=2000000000
def Ck(c:Ce):Prop:=(-1000000000<=c.1/\c.1<=1000000000)/\(-1000000000<=c.2.1/\c.2.1<=1000000000)/\-1000000000<=c.2.2/\c.2.2<=1000000000
def fo.ok{c:Ce}(h:fo c):qT c:=by unfold fo at h;unfold qT cT;omega
def Ck.wide{c:Ce}(h:Ck c):fo c:=by unfold Ck at h;unfold fo;omega
def FO{c:Ce}(h:fo c){n:Ce}(hn:n ∈ sk c):qT n:=by unfold fo at h;unfold sk fH Dl at hn;simp only [cj,iY,or_false] at hn;rcases hn with rfl|rfl|rfl|rfl|rfl|rfl<;>(unfold qT cT;simp only;omega)
def aiS{c:Ce}(h:Ck c){n:Ce}(hn:n ∈ sk c):fo n:=by unfold Ck at h;unfold sk fH Dl at hn;simp only [cj,iY,or_false] at hn;rcases hn with rfl|rfl|rfl|rfl|rfl|rfl<;>(unfold fo;simp only;omega)
def rC(n:Int)(h: -2147483648<=n/\n<=2147483648)(w:World):kT 281 #[n] w n:=by apply adb.vc;have e1:(if (-2147483648)>n then (-2147483648) else n)=n:=if_neg aa;rw [e1,if_neg aa];exact ⟨rfl,rfl⟩
def QE(c:Ce)(h:(-2147483648<=c.1/\c.1<=2147483648)/\(-2147483648<=c.2.1/\c.2.1<=2147483648)/\-2147483648<=c.2.2/\c.2.2<=2147483648)(w:World):eU 280 #[gg c] w ((gg c)):=by
 apply ada.vc;intro w0 e0 w1 e1;have x1:Ext w w1:=(aV e0).ba e1;have z0:=fE e0;have r0:Row w1 w [c.1,c.2.1,c.2.2] si:=(by rw [e0];exact Row.new w [_,_,_] _:Row w0 w _ _).ext (aV e1);have xd:=Ext.dr w1;have r1:=r0.ext xd;refine (rC c.1 h.1 w1.drew).gK ?_;refine ⟨_,rfl,rfl,rfl,r1.bK (o:=2) (λj hj=>by
  match j,hj with
  |0,_=>rfl),r1.bK (o:=1) (λj hj=>by
  match j,hj with
  |0,_=>rfl),(rC c.2.1 h.2.1 w1.drew).gK ?_⟩
 refine ⟨_,rfl,rfl,rfl,r1.bK (o:=2) (λj hj=>by
  match j,hj with
  |0,_=>rfl),(rC c.2.2 h.2.2 w1.drew).gK ?_⟩
 exact ⟨_,rfl,rfl,rfl,λw8 e8=>⟨rfl,(x1.tr xd).af e8 aa⟩⟩
def mE(a b d:Int)(c c':Ce)(he:c'=(c.1+a,c.2.1+b,c.2.2+d))(hc:fo c)(ha:(-1<=a/\a<=1)/\(-1<=b/\b<=1)/\-1<=d/\d<=1){g:Nat}{w:World}(hr:Row w g [c.1,c.2.1,c.2.2] si):
  eU 279 #[a,b,d,g] w ((gg c')):=by
 subst he;apply P6.vc;obtain ⟨⟨h1,h2⟩,⟨h3,h4⟩,h5,h6⟩:=id hc;intro w0 e0;have x0:=aV e0;have z0:=fE e0;have xd:=x0.tr (Ext.dr w0);have zd:=oa w0;have r1:=hr.ext xd;have q1:aC (c.1+a)=c.1+a:=wI;have q2:aC (c.2.1+b)=c.2.1+b:=wI;have q3:aC (c.2.2+d)=c.2.2+d:=wI;refine ⟨c.1,r1.at 0 rfl,c.2.1,r1.at 1 rfl,c.2.2,r1.at 2 rfl,(rC c.1 aa w0.drew).gK ?_⟩;refine ⟨_,rfl,rfl,pw (r1.at 2 rfl),pw (r1.at 1 rfl),(rC c.2.1 aa w0.drew).gK ?_⟩;refine ⟨_,rfl,rfl,pw (r1.at 2 rfl),(rC c.2.2 aa w0.drew).gK ?_⟩;refine ⟨_,rfl,rfl,?_⟩;rw [q1,q2,q3];refine (QE (c.1+a,c.2.1+b,c.2.2+d) (by simp only;omega) w0.drew).bj λbc bM=> ?_
 exact ⟨_,_,_,rfl,bM.heap aa,λcu yw=>⟨rfl,(xd.tr bM).af yw (ak _)⟩⟩
abbrev eZ(c:Ce):LV:=[.int .i64 c.1,.int .i64 c.2.1,.int .i64 c.2.2]
def HH(c:Ce):One (eZ c):=by intro v hv;simp at hv;rcases hv with rfl|rfl|rfl<;>rfl
abbrev TJ(c:Ce):LV:=[.int .i64 (c.1-1),.int .i64 c.2.1,.int .i64 c.2.2,.int .i64 (c.1+1),.int .i64 c.2.1,.int .i64 c.2.2,.int .i64 c.1,.int .i64 (c.2.1-1),.int .i64 c.2.2,.int .i64 c.1,.int .i64 (c.2.1+1),.int .i64 c.2.2,.int .i64 c.1,.int .i64 c.2.1,.int .i64 (c.2.2-1),.int .i64 c.1,.int .i64 c.2.1,.int .i64 (c.2.2+1)]
def VS(c:Ce):One (TJ c):=by intro v hv;simp only [TJ,cj,iY,or_false] at hv;rcases hv with rfl|rfl|rfl|rfl|rfl|rfl|rfl|rfl|rfl|rfl|rfl|rfl|rfl|rfl|rfl|rfl|rfl|rfl<;>rfl
def ae2(c:Ce):TJ c=((sk c).map eZ).flatten:=rfl
def dE{cs vs:LV}(h:vs.length=cs.length):putCells cs 0 vs=vs:=by rw [ed _ _ _ aa];simp [<-h]
def KF{a b c a' b' c':Int}(h1:a=a')(h2:b=b')(h3:c=c'):((a,b,c):Ce)=(a',b',c'):=by rw [h1,h2,h3]
def jA(c:Ce)(hc:fo c)(w:World):eU 221 #[gg c] w (Value.agg (TJ c).toArray):=by
 apply YY.vc;intro w0 e0 w1 e1;have x1:Ext w w1:=(aV e0).ba e1;have z0:=fE e0;have r0:Row w1 w [c.1,c.2.1,c.2.2] si:=(by rw [e0];exact Row.new w [_,_,_] _:Row w0 w _ _).ext (aV e1);have rb:Row w1 w0 [ai,ai,ai,ai,ai,ai,ai,ai,ai,ai,ai,ai,ai,ai,ai,ai,ai,ai] 266:=Row.nw e1;refine (mE (-1) 0 0 c (c.1-1,c.2.1,c.2.2) (KF aa aa aa) hc aw r0).bj λw2 x2=> ?_
 refine ⟨_,_,_,rfl,(mE 1 0 0 c (c.1+1,c.2.1,c.2.2) (KF aa aa aa) hc aw (r0.ext x2)).bj λw6 x6=> ?_⟩;have y6:=x2.tr x6;refine ⟨_,_,_,rfl,(mE 0 (-1) 0 c (c.1,c.2.1-1,c.2.2) (KF aa aa aa) hc aw (r0.ext y6)).bj λbc bM=> ?_⟩;have y10:=y6.tr bM;refine ⟨_,_,_,rfl,(mE 0 1 0 c (c.1,c.2.1+1,c.2.2) (KF aa aa aa) hc aw (r0.ext y10)).bj λcu cY=> ?_⟩;have y14:=y10.tr cY;refine ⟨_,_,_,rfl,(mE 0 0 (-1) c (c.1,c.2.1,c.2.2-1) (KF aa aa aa) hc aw (r0.ext y14)).bj λdN de=> ?_⟩;have y18:=y14.tr de;refine ⟨_,_,_,rfl,(mE 0 0 1 c (c.1,c.2.1,c.2.2+1) (KF aa aa aa) hc aw (r0.ext y18)).bj λdt gI=> ?_⟩;have y22:=y18.tr gI;have r22:=rb.ext y22;refine ⟨_,_,_,rfl,⟨rfl,r22.wr bo⟩,λlQ Tx=> ?_⟩;have Tx:lQ=bC dt (aB w0.heap.size) (TJ c):=Tx;rw [r22.bC (vs:=TJ c) bo (VS c),dE bo] at Tx;have hr':Row lQ w0 (TJ c) 266:=r22.st Tx;exact ⟨_,_,_,_,_,_,_,_,_,_,_,_,_,_,_,_,_,_,hr'.bK (λj hj=>by rw [eK]),rfl,(x1.tr y22).af Tx aa⟩
def xz(b:Int)(w:World):kT 222 #[b] w (Value.bool (b==3)):=by apply Ql.vc;exact ⟨rfl,rfl⟩
def pg(b:Int)(w:World):kT 262 #[b] w (Value.bool (sj b)):=by
 apply Zc.vc;unfold sj;refine Br.mk (λh=>⟨?_,rfl⟩) (λh=>⟨?_,rfl⟩)
 ·have h1:=fC h;rw [decide_eq_true h1,oZ]
 ·have h1:=fC h;rw [decide_eq_false h1,C5]
def Dp(b:Int)(w:World):kT 253 #[b] w (Value.bool (mO b)):=by
 apply Ms.vc;unfold mO;refine Br.mk (λh=>⟨?_,rfl⟩) (λh=>(pg b w).mono ?_)
 ·have h1:=fC h;rw [decide_eq_true h1,Bool.true_or]
 ·rintro e w' ⟨rfl,rfl⟩;have h1:=fC h;rw [decide_eq_false h1,Bool.false_or];exact ⟨_,rfl,rfl,rfl⟩
def GN(b:Int)(w:World):kT 309 #[b] w (Value.int .i64 (jX b)):=by
 apply UI.vc
 refine (xz b w).mono ?_
 rintro e w0 ⟨rfl,rfl⟩
 unfold jX
 refine ⟨_,rfl,Br.mk (λh=> ?_) (λh=>(pg b w0).mono ?_)⟩
 ·rw [if_pos (by simpa using h)];exact ⟨rfl,rfl⟩
 ·rintro e w2 ⟨rfl,rfl⟩
  rw [if_neg (by simpa using h)]
  refine ⟨_,rfl,Br.mk (λh=> ?_) (λh=> ?_)⟩
  ·rw [if_pos h];exact ⟨rfl,rfl⟩
  ·rw [if_neg (by rw [h];decide)];exact ⟨rfl,rfl⟩
def Vk(aj:Int)(p:Po):xL aj p []=made aj p:=rfl
def lI{p:Option Addr}{K:Prop}(hp:p.isSome=true)(h:K):aN (eI p) K:=bT.2 ⟨rR.2 hp,h⟩
def aqI:O5 si/\O5 tPo:=by decide
def CN{F:Nat->Prop}{w:World}{t:Nat}{aj cap:Int}{T:Tb}(h:TF F w t aj cap T):ae 42 #[t] w λe w'=>∃s':Sl,e=s'/\ar w tPo 2 w' s' (T.2.map λe=> [.int .i64 e.1.1,.int .i64 e.1.2])/\Ext w w':=by obtain ⟨st,d,r,sl,its,g1,e,rfl⟩:=h;rw [<-e];exact ZO g1
abbrev Bq:TypeId:=132
abbrev mW:TypeId:=269
abbrev Cg:=Ce × Int
abbrev cgv(x:Cg):LV:=[.int .i64 x.1.1,.int .i64 x.1.2.1,.int .i64 x.1.2.2,.int .i64 x.2]
def WF(F:Nat->Prop)(w:World)(o t:Nat)(aj limit:Int)(T:Tb)(ch:List Cg):Prop:=
 ∃F1 sc,TF F1 w t aj limit T/\Row w o [t,.slice sc.a sc.n sc.c] Bq/\ar 0 mW 4 w sc (ch.map cgv)/\F=λi=>F1 i\/i=o\/sc.aX=some i
def WF.lt{F:Nat->Prop}{w:World}{o t:Nat}{aj limit:Int}{T:Tb}{ch:List Cg}(h:WF F w o t aj limit T ch){i:Nat}(hi:F i):i<w:=by
 obtain ⟨F1,sc,h1,h2,h3,rfl⟩:=h;rcases hi with hi|rfl|hi
 ·exact h1.lt hi
 ·exact h2.lt
 ·exact (h3.own.lt hi).2
def WF.same{F:Nat->Prop}{w w':World}{o t:Nat}{aj limit:Int}{T:Tb}{ch:List Cg}(h:WF F w o t aj limit T ch)(hs:∀i,F i->w'.heap[i]? =w.heap[i]?):WF F w' o t aj limit T ch:=by obtain ⟨F1,sc,h1,h2,h3,rfl⟩:=h;exact ⟨F1,sc,h1.same λi hi=>hs i (.inl hi),h2.same (hs o (.inr (.inl rfl))),ar.aW h3 λb hb=>hs b (.inr (.inr hb)),rfl⟩
def WF.ext{F:Nat->Prop}{w w':World}{o t:Nat}{aj limit:Int}{T:Tb}{ch:List Cg}(h:WF F w o t aj limit T ch)(x:Ext w w'):WF F w' o t aj limit T ch:=h.same λ_ hi=>x.heap (h.lt hi)
def WF.aW{F G:Nat->Prop}{w w':World}{o t:Nat}{aj limit:Int}{T:Tb}{ch:List Cg}(h:WF F w o t aj limit T ch)(hm:Mod G w w')(hn:∀i,F i->¬G i):WF F w' o t aj limit T ch:=h.same λi hi=>hm.same i (h.lt hi) (hn i hi)
def WF.dT{F:Nat->Prop}{w:World}{o t:Nat}{aj limit:Int}{T:Tb}{ch:List Cg}(h:WF F w o t aj limit T ch){j:Nat}{cs:LV}{τ:TypeId}(hr:Row w j cs τ)(hτ:O5 τ)(hw:τ≠Bq)(hc:τ≠mW):¬F j:=by
 obtain ⟨F1,sc,h1,h2,h3,rfl⟩:=h;rintro (hi|rfl|hi)
 ·exact h1.dT hr hτ hi
 ·exact hr.ne h2 hw rfl
 ·obtain ⟨cs',hr'⟩:=aU h3 aw hi;exact hr.ne hr' hc rfl
def WF.len{F:Nat->Prop}{w:World}{o t:Nat}{aj limit:Int}{T:Tb}{ch:List Cg}(h:WF F w o t aj limit T ch):(T.2.length:Int)<=limit/\1<=limit/\limit<=16:=by obtain ⟨F1,sc,h1,h2,h3,rfl⟩:=h;exact h1.len
abbrev O6(F:Nat->Prop)(w:World)(o t:Nat)(aj limit:Int)(T:Tb)(ch:List Cg)(w':World):Prop:=∃F',WF F' w' o t aj limit T ch/\aI F F' w w'
def WF.table{F:Nat->Prop}{w:World}{o t:Nat}{aj limit:Int}{T:Tb}{ch:List Cg}(h:WF F w o t aj limit T ch):∃F1,TF F1 w t aj limit T/\(∀i,F1 i->F i)/\∀{w':World} {T':Tb},Fz F1 w t aj limit T' w'->O6 F w o t aj limit T' ch w':=by
 obtain ⟨F1,sc,h1,h2,h3,rfl⟩:=h;refine ⟨F1,h1,λi hi=> .inl hi,?_⟩;rintro w' T' ⟨F',h',ht⟩;have n2:=h1.dT h2 aw;have n3:∀b,sc.aX=some b->¬F1 b:=λb hb=>by obtain ⟨cs',hr'⟩:=aU h3 aw hb;exact h1.dT hr' aw
 refine ⟨_,⟨F',sc,h',ht.mod.row h2 n2,ht.mod.dX h3 n3,rfl⟩,ht.mod.mono λi _ hi=> .inl hi,λi hi=> ?_⟩;rcases hi with hi|hi|hi
 ·exact (ht.sub i hi).imp .inl id
 ·exact .inl (.inr (.inl hi))
 ·exact .inl (.inr (.inr hi))
def Yn(aj limit room:Int)(w:World):ae 115 #[aj,limit,room] w λe w'=>∃o t F,e=Value.pointer (aB o)/\WF F w' o t aj (min (max limit 1) 16) (T6 room,[]) []/\Ext w w'/\∀i,F i->w.heap.size<=i:=by
 apply Yo.vc;refine (T7 aj limit room w).mono ?_;rintro e w0 ⟨t,F1,rfl,h0,x0,f0⟩;refine ⟨_,rfl,λw2 e2=>⟨w0.heap.size,t,_,rfl,⟨F1,⟨none,0,0⟩,h0.ext (aV e2),?_,ar.nil,rfl⟩,x0.ba e2,λi hi=> ?_⟩⟩
 ·rw [e2];exact Row.new w0 [_,_] _
 ·rcases hi with hi|hi|hi
  ·exact f0 i hi
  ·have:=x0.size;omega
  ·cases hi
def jl{F:Nat->Prop}{w:World}{o t:Nat}{aj limit:Int}{T:Tb}{ch:List Cg}(h:WF F w o t aj limit T ch):kT 40 #[o] w (Value.pointer (aB t)):=by obtain ⟨F1,sc,h1,h2,h3,rfl⟩:=h;apply yZ.vc;exact ⟨_,h2.at 0 rfl,rfl,rfl⟩
def o5{F:Nat->Prop}{w:World}{o t:Nat}{aj limit:Int}{T:Tb}{ch:List Cg}(h:WF F w o t aj limit T ch):kT 58 #[o] w (Value.func (.func 113) #[t] #[]):=by obtain ⟨F1,sc,h1,h2,h3,rfl⟩:=h;apply Bs.vc;exact ⟨_,h2.at 0 rfl,rfl,rfl⟩
def wsC(l:List En)(ch:List Cg)(c:Ce)(b:Int):List Cg:=if (jv l c b).2=0/\jm l c≠b then ch++ [(c,b)] else ch
def aqi(a b c d:Int):One [Value.int .i64 a,b,c,d]:=by intro v hv;simp at hv;rcases hv with rfl|rfl|rfl|rfl<;>rfl
def Yp{F:Nat->Prop}{w:World}{o t:Nat}{aj limit:Int}{T:Tb}{ch:List Cg}(h:WF F w o t aj limit T ch)(c:Ce)(hc:qT c)(b:Int)(hn:ch.length<=1000000000):
  ae 250 #[o,gg c,.int .i64 b] w λe w'=>e=Value.int .i64 (jv T.2 c b).2/\O6 F w o t aj limit (T.1,(jv T.2 c b).1) (wsC T.2 ch c b) w':=by
 have hF:=λ{i}=>h.lt (i:=i)
 have hh:=h;obtain ⟨F1,sc,h1,h2,h3,rfl⟩:=h;apply Dx.vc;intro w0 e0;have z0:=fE e0;have x0:Ext w w0.drew:=(aV e0).drew;have zd:=oa w0;refine ⟨_,(h2.ext x0).at 0 rfl,(Bt (h1.ext x0) c hc).bj λw2 x2=> ?_⟩;have z2:=x2.size;have yq:=(x0.tr x2).drew;have zd2:=oa w2;refine ⟨_,rfl,x2.heap aa,_,(h2.ext yq).at 0 rfl,(T8 (h1.ext yq) c hc b).bj λw5 hT=> ?_⟩;obtain ⟨F',hF',ht'⟩:=hT;have z5:=ht'.mod.size;have n2:=(h1.ext yq).dT (h2.ext yq) aw;have n3:∀b,sc.aX=some b->¬F1 b:=λb hb=>by obtain ⟨cs',hr'⟩:=aU (h3.ext yq) aw hb;exact (h1.ext yq).dT hr' aw
 have V3:=ht'.mod.row (h2.ext yq) n2;have h3':ar 0 mW 4 w5 sc (ch.map cgv):=ht'.mod.dX (h3.ext yq) n3;have nb:¬F1 w:=λhf=>by have:=hF (.inl hf);omega
 have tt:aI (λi=>F1 i\/i=o\/sc.aX=some i) (λi=>F' i\/i=o\/sc.aX=some i) w w5:=by
  refine (aI.aq yq).trans ⟨ht'.mod.mono λi _ hi=> .inl hi,λi hi=> ?_⟩;rcases hi with hi|hi|hi
  ·exact (ht'.sub i hi).imp .inl id
  ·exact .inl (.inr (.inl hi))
  ·exact .inl (.inr (.inr hi))
 refine ⟨_,rfl,ht'.mod.same _ aa nb,Br.mk (λhb=>Br.mk (λlK=> ?_) (λlK=> ?_)) (λhb=> ?_)⟩
 ·simp only [beq_iff_eq] at hb;simp only [bne_iff_ne] at lK;have ec:wsC T.2 ch c b=ch++ [(c,b)]:=by unfold wsC;rw [if_pos ⟨hb,lK⟩]
  rw [ec];have h2d:=V3.ext (Ext.dr w5);have tL:sc.n=ch.length:=by have:=(h3.rd (show 0<4 by decide)).n;rwa [aJ] at this
  refine ⟨sc,h2d.at 1 rfl,λw8 e8=> ?_⟩;subst e8;obtain ⟨hp,bq⟩:=(h3'.ext (Ext.dr w5)).kU (bytes:=32) (news:=cgv (c,b)) (.cells #[c.1,c.2.1,c.2.2,.int .i64 b] mW) (dU _) rfl (aqi _ _ _ _) aa aa;refine ⟨hp,λs9 bc hr=> ?_⟩;obtain ⟨f1,aq1,aEp,xb,awp,iN⟩:=bq s9 bc hr;have zd5:=oa w5;have hol:=h2.lt;have awq:∀b,sc.aX=some b->b<w.heap.size:=λb hb=>(h3.own.lt hb).2
  have m10:Mod (λj=>sc.aX=some j) w5 bc:=(Mod.aq (Ext.dr w5)).trans (Mod.xi xb awp);have no:¬sc.aX=some o:=λe=>by obtain ⟨cs',hr'⟩:=aU h3 aw e;exact hr'.ne h2 aw rfl
  have aq3:=m10.row V3 no;obtain ⟨p1,p2⟩:=aq3.fF (j:=1) (v:=.slice s9.a s9.n s9.c) bo rfl;have z10:=m10.size;have pb:∀j:Nat,o<j->bN (ab (aB o) 1)≠some j:=λj hj e=>by
   rw [cB] at e;have:o=j:=by simpa [bN] using e
   omega
  refine ⟨(m10.same w aa (λe=>by have:=awq _ e;omega)).trans ((Ext.al w5.drew _).heap (show w.heap.size<w5 by omega)).symm,f1,⟨rfl,p1⟩,pb _ aa,pb _ (show o<w5 by omega),λbB yr=>⟨rfl,?_⟩⟩;obtain ⟨q1,q2⟩:=p2 bB yr;have ho9:∀b,s9.aX=some b->b≠o:=λb hb=>by obtain ⟨cs',hr'⟩:=aU aq1 aw hb;exact hr'.ne aq3 aw
  have m11:Mod (λj=>j=o\/sc.aX=some j) w5 bB:=(m10.mono λi _ hi=> .inr hi).trans (q2.mono λi _ hi=> .inl hi);have awr:TF F' bB t aj limit (T.1,(jv T.2 c b).1):=hF'.aW m11 λi hi e=>by
   rcases e with e|e
   ·exact hF'.dT V3 aw (e▸hi)
   ·obtain ⟨cs',hr'⟩:=aU h3' aw e;exact hF'.dT hr' aw hi
  refine ⟨_,⟨F',s9,awr,q1,?_,rfl⟩,tt.trans ⟨m11.mono λi _ hi=> .inr hi,λi hi=> ?_⟩⟩
  ·rw [bS];exact q2.dX aq1 ho9
  ·rcases hi with hi|hi|hi
   ·exact .inl (.inl hi)
   ·exact .inl (.inr (.inl hi))
   ·rcases iN with e|e
    ·exact .inl (.inr (.inr (by rw [<-e];exact hi)))
    ·rw [e] at hi;cases hi;exact .inr (show w5.heap.size<=w5.heap.size+1 by omega)
 ·simp only [bne_eq_false_iff_eq] at lK;have ec:wsC T.2 ch c b=ch:=by unfold wsC;rw [if_neg λh=>h.2 lK]
  rw [ec];exact ⟨rfl,_,⟨F',sc,hF',V3,h3',rfl⟩,tt⟩
 ·simp only [beq_eq_false_iff_ne] at hb;have ec:wsC T.2 ch c b=ch:=by unfold wsC;rw [if_neg λh=>hb h.1]
  rw [ec];exact ⟨rfl,_,⟨F',sc,hF',V3,h3',rfl⟩,tt⟩
def aht(l:List En)(ch:List Cg)(c:Ce)(b:Int):(wsC l ch c b).length<=ch.length+1:=by
 unfold wsC;split
 ·simp
 ·omega
def vT(l:List En)(x z:Int):Nat->Int
 |0=> -1
 |y+1=>if jm l (x,((y:Nat):Int),z)= -1 then -2 else if jm l (x,((y:Nat):Int),z)=0 then vT l x z y else y
abbrev rQ(q:Po):LV:=[.int .i64 q.1,.int .i64 q.2]
def rW(p:Po):List Po:=[p,(p.1-1,p.2),(p.1+1,p.2),(p.1,p.2-1),(p.1,p.2+1)]
def Lj(p:Po)(hp:Yq p)(w:World):eU 196 #[pv p] w (Value.agg #[p.1,p.2,.int .i64 (p.1-1),p.2,.int .i64 (p.1+1),p.2,p.1,.int .i64 (p.2-1),p.1,.int .i64 (p.2+1)]):=by
 apply O7.vc;obtain ⟨⟨p1,p2⟩,p3,p4⟩:=hp;have q1:aC (p.1-1)=p.1-1:=wI;have q2:aC (p.1+1)=p.1+1:=wI;have q3:aC (p.2-1)=p.2-1:=wI;have q4:aC (p.2+1)=p.2+1:=wI;rw [q1,q2,q3,q4];intro w0 e0 w1 e1;have z0:=fE e0;have x1:Ext w w1:=(aV e0).ba e1;have hr:Row w1 w0 [ai,ai,ai,ai,ai,ai,ai,ai,ai,ai] 247:=Row.nw e1;refine ⟨⟨rfl,hr.wr bo⟩,λe=>by
  have:w0.heap.size=w.heap.size:=by simpa [bN] using e
  omega,λw2 e2=> ?_⟩
 have h1:One [Value.int .i64 p.1,p.2,.int .i64 (p.1-1),p.2,.int .i64 (p.1+1),p.2,p.1,.int .i64 (p.2-1),p.1,.int .i64 (p.2+1)]:=by intro v hv;simp only [cj,iY,or_false] at hv;rcases hv with rfl|rfl|rfl|rfl|rfl|rfl|rfl|rfl|rfl|rfl<;>rfl
 rw [hr.bC bo h1] at e2;have jY:Row w2 w0 [p.1,p.2,.int .i64 (p.1-1),p.2,.int .i64 (p.1+1),p.2,p.1,.int .i64 (p.2-1),p.1,.int .i64 (p.2+1)] 247:=hr.st e2;exact ⟨_,_,_,_,_,_,_,_,_,_,jY.bK (λj hj=>by rw [eK]),rfl,x1.af e2 aa⟩
def Io(s:Sl)(ps:List Po)(p:Po)(w:World)(hs:dB w s 2 (ps.map rQ))(hn:ps.length<=1000):
  ae 256 #[s,pv p] w λe w'=>(∃r:Int,e=r/\(0<=r ↔ p ∈ ps))/\Ext w w':=by
 apply Bu.vc;have tL:=hs.n;rw [aJ] at tL;intro w0 e0;have x0:=aV e0;refine ⟨λn x w'=>∃j:Nat,x=j/\j+n=ps.length/\Ext w w'/\p ∉ ps.take j,⟨ps.length,rfl,0,rfl,aa,x0,bo⟩,?_⟩;rintro n us x w5 ⟨j,rfl,hj,x5,hnp⟩;apply Br.mk<;>intro hb
 ·replace hb:=lT hb;obtain ⟨y,hy⟩:=bZ (l:=ps) (i:=j) aa;have gl:=hs.ext (x5.tr (Ext.dr _));refine ⟨hs.j2 (i:=(j:Int)) aw aa hb,y.1,y.2,gl.bK (i:=j) (r:=rQ y) (by rw [aZ,hy];rfl),Br.mk (λh1=> ?_) (λh1=> ?_)⟩
  ·simp only [gP,beq_iff_eq] at h1;have:p=y:=Prod.ext h1.1 h1.2;exact ⟨⟨_,rfl,λ_=>by rw [this];exact aQ hy,λ_=>by omega⟩,x5.tr (Ext.dr _)⟩
  ·have wk:=nJ (j:=j);refine ⟨n-1,aa,rfl,j+1,wk,aa,x5.tr (Ext.dr _),?_⟩;rw [dq,hy];intro hm;rcases dp.1 hm with hm|hm
   ·exact hnp hm
   ·simp only [Option.toList_some,gU] at hm;subst hm;simp at h1
 ·replace hb:=l6 hb;rw [dI aa] at hnp;exact ⟨⟨-1,rfl,λh=>by omega,λh=>absurd h hnp⟩,x5⟩
def Bv(s:Sl)(ps:List Po)(p:Po)(w:World)(hs:dB w s 2 (ps.map rQ))(hn:ps.length<=1000):
  eU 197 #[s,pv p] w (Value.bool (decide (p ∈ ps))):=by
 apply vU.vc;intro w0 e0;have z0:=fE e0;have x0:=aV e0;refine (Io s ps p w0 (hs.ext x0) hn).mono ?_;rintro e w1 ⟨⟨r,rfl,hr⟩,x1⟩;refine ⟨r,rfl,x1.heap aa,?_,x0.tr x1⟩;have:decide (r>=0)=decide (p ∈ ps):=by rw [decide_eq_decide];exact hr
 rw [this]
def ahu{c:Ce}(hc: -1000000000<=c.1/\c.1<=1000000000)(hz: -1000000000<=c.2.2/\c.2.2<=1000000000):Yq (pos c):=by unfold Yq pos;simp only;omega
def FA(l:List En)(c:Ce):Bool:=(rW (pos c)).all λq=>decide (q ∈ l.map (·.1))
def CM{F:Nat->Prop}{w:World}{o t:Nat}{aj limit:Int}{T:Tb}{ch:List Cg}(h:WF F w o t aj limit T ch)(c:Ce)(hc:qT c)(hp:Yq (pos c)):
  eU 137 #[o,gg c] w (Value.bool (FA T.2 c)):=by
 obtain ⟨F1,sc,hT,hR,hO,rfl⟩:=h;apply za.vc;have db:=hT.len;intro w1 e1;have z1:=fE e1;have x1:=aV e1;refine ⟨_,(hR.ext x1).at 0 rfl,(CN (hT.ext x1)).mono ?_⟩;rintro e w2 ⟨s',rfl,ho,x2⟩;have z2:=x2.size;have gl:dB w2 s' 2 ((T.2.map (·.1)).map rQ):=by rw [pa];exact ho.rd (show 0<2 by decide)
 refine ⟨s',rfl,x2.heap aa,(qb c hc w2).bj λw4 x4=> ?_⟩;have z4:=x4.size;refine ⟨_,_,rfl,x4.heap aa,(Lj (pos c) hp w4).bj λw7 x7=> ?_⟩;have z7:=x7.size;have dS:=x1.tr (x2.tr (x4.tr x7));unfold FA;generalize pos c=p at*;have Ob:(T.2.map (·.1)).length<=1000:=by rw [aJ];omega
 generalize T.2.map (·.1)=ps at*;refine ⟨_,_,_,_,_,_,_,_,_,_,rfl,x7.heap aa,λn x w'=>∃j:Nat,x=j/\j+n=5/\Ext w7 w'/\∀q ∈(rW p).take j,q ∈ ps,⟨5,rfl,0,rfl,rfl,Ext.bU _,bo⟩,?_⟩;rintro n us x dL ⟨j,rfl,hj,gM,CA⟩;have z25:=gM.size;apply Br.mk<;>intro hb
 ·replace hb:=lT hb;have hex:∃q:Po,(([p.1,p.2,.int .i64 (p.1-1),p.2,.int .i64 (p.1+1),p.2,p.1,.int .i64 (p.2-1),p.1,.int .i64 (p.2+1)]:LV).drop (((j:Nat):Int).toNat*2)).take 2=[.int .i64 q.1,.int .i64 q.2]/\(rW p)[j]? =some q:=by
   have:j=0\/j=1\/j=2\/j=3\/j=4:=by omega
   rcases this with rfl|rfl|rfl|rfl|rfl
   ·exact ⟨p,rfl,rfl⟩
   ·exact ⟨(p.1-1,p.2),rfl,rfl⟩
   ·exact ⟨(p.1+1,p.2),rfl,rfl⟩
   ·exact ⟨(p.1,p.2-1),rfl,rfl⟩
   ·exact ⟨(p.1,p.2+1),rfl,rfl⟩
  obtain ⟨q,hq1,hq2⟩:=hex;refine ⟨⟨aa,aa⟩,q.1,q.2,hq1,λgz S2 pN e30=> ?_⟩;have tM:Ext dL pN:=(aV S2).af e30 (ak _);have z30:pN.heap.size=dL.heap.size+1:=by rw [e30,setRow_size,S2];simp
  have xx:Ext w2 pN:=x4.tr (x7.tr (gM.tr tM));refine (Bv s' ps q pN (gl.ext xx) Ob).bj λik oU=> ?_
  have wk:=nJ (j:=j);refine ⟨_,rfl,oU.heap aa,oU.heap aa,Br.mk (λh1=> ?_) (λh1=> ?_)⟩
  ·refine ⟨?_,dS.tr ((gM.tr tM).tr oU)⟩;have hnq:q ∉ ps:=by simpa using h1
   have:((rW p).all λq=>decide (q ∈ ps))=false:=by rw [List.all_eq_false];exact ⟨q,aQ hq2,by simpa using hnq⟩
   rw [this]
  ·have hyq:q ∈ ps:=by simpa using h1
   refine ⟨n-1,aa,rfl,j+1,wk,aa,(gM.tr tM).tr oU,?_⟩;rw [dq,hq2];intro y hy;rcases dp.1 hy with hy|hy
   ·exact CA y hy
   ·simp only [Option.toList_some,gU] at hy;subst hy;exact hyq
 ·replace hb:=l6 hb;refine ⟨?_,dS.tr gM⟩;rw [dI (show (rW p).length<=j by unfold rW;simp;omega)] at CA;have:((rW p).all λq=>decide (q ∈ ps))=true:=by rw [O8];exact λq hq=>by simpa using CA q hq
  rw [this]
def WJ(l:List En)(x z:Int):∀n:Nat,-2<=vT l x z n/\vT l x z n<n
 |0=>by unfold vT;omega
 |n+1=>by
  have:=WJ l x z n
  unfold vT
  split
  ·omega
  ·split
   ·omega
   ·omega
def Tl(v:Value)(V:Ce->Int)(w:World):Prop:=∃D:Nat->Prop,(∀i,D i->i<w.heap.size)/\∀w',(∀i,D i->w'.heap[i]? =w.heap[i]?)->∀c,qT c->bu Tryz.prog v [gg c] w' λe w''=>e=Value.int .i64 (V c)/\Ext w' w''
def Tl.ext{v:Value}{V:Ce->Int}{w w':World}(h:Tl v V w)(x:Ext w w'):Tl v V w':=by obtain ⟨D,h1,h2⟩:=h;exact ⟨D,λi hi=>gA (h1 i hi) x.size,λw'' hk=>h2 w'' λi hi=>(hk i hi).trans (x.heap (h1 i hi))⟩
def Tl.at{v:Value}{V:Ce->Int}{w:World}(h:Tl v V w){c:Ce}(hc:qT c):bu Tryz.prog v [gg c] w λe w'=>e=Value.int .i64 (V c)/\Ext w w':=by obtain ⟨D,h1,h2⟩:=h;exact h2 w (λ_ _=>rfl) c hc
def ee{v:Value}{l:LV}{w:World}{R R':eWp}(h:bu Tryz.prog v l w R)(k:∀e w',R e w'->R' e w'):bu Tryz.prog v l w R':=bJ h k
abbrev mY(x:Go.fL.Cg):LV:=[.int .i64 x.1.1,.int .i64 x.1.2.1,.int .i64 x.1.2.2,.int .i64 x.2]
def ae6{E k n:Nat}{w w':World}{s s':Sl}{news:LV}(h:aT E k w s n news s' w')(hc:s.c<s.n+n):Ext w w':=by
 cases h with
 |fits hf=>omega
 |grows=>exact (Ext.dr w).tr (Ext.al _ _)
def U9{v:Value}{V:Ce->Int}{w:World}(hV:Tl v V w)(c:Ce)(hc:fo c):
  ae 308 #[v,gg c] w λe w'=>∃s:Sl,e=s/\ar w si 3 w' s ((sN V c).map eZ)/\Ext w w':=by
 apply UK.vc
 intro w0 e0
 have x0:=aV e0
 have z0:=fE e0
 refine (jA c hc w0).mono ?_
 rintro e w1 ⟨rfl,x1⟩
 have z1:=x1.size
 refine ⟨_,_,_,_,_,_,_,_,_,_,_,_,_,_,_,_,_,_,rfl,x1.heap aa,λfw wi=> ?_⟩
 have fk:=aV wi
 have z20:=fE wi
 have hr:Row fw w1 [ai,ai,ai,ai,ai,ai,ai,ai,ai,ai,ai,ai,ai,ai,ai,ai,ai,ai] 266:=Row.nw wi
 refine ⟨⟨rfl,hr.wr bo⟩,λe=>by
  have:w1.heap.size=w.heap.size:=by simpa [bN] using e
  omega,λcX vu dt Du=> ?_⟩
 have vu:cX=bC fw (aB w1.heap.size) (TJ c):=vu
 rw [hr.bC (vs:=TJ c) bo (VS c),dE bo] at vu
 have jY:Row cX w1 (TJ c) 266:=hr.st vu
 have fj:Ext w cX:=(x0.tr (x1.tr fk)).af vu aa
 have z21:=Fc vu
 have xd:=Ext.dr cX
 have zd:=oa cX
 have gI:=aV Du
 have z22:=fE Du
 have aAL:Row dt cX.drew.heap.size (eZ c) si:=Row.nw Du
 have aAM:=fj.tr (xd.tr gI)
 have aAN:=jY.ext (xd.tr gI)
 have ho:ar w si 3 dt ⟨aB cX.drew.heap.size,1,1⟩ [eZ c]:=ar.jU aa aAL bo (ak _) rfl bo
 have ha:=ho.FC (bytes:=24) (more:=(sk c).map eZ) aa (λr hr=>by obtain ⟨y,-,rfl⟩:=bf.1 hr;rfl) (λr hr=>by obtain ⟨y,-,rfl⟩:=bf.1 hr;exact HH y) (by simp [sk]) (by simp [sk])
 obtain ⟨hp,bq⟩:=ha
 refine ⟨((sk c).map eZ).flatten,?_,hp,λyQ dL ajI=> ?_⟩
 ·rw [dw]
  intro i u hu
  exact aAN.at i (by rw [ae2];exact hu)
 obtain ⟨abL,aH4,-,-,-⟩:=bq yQ dL ajI
 have gM:Ext dt dL:=ae6 ajI (show (1:Nat)<1+(6-0) by decide)
 have z25:=gM.size
 have atM:Ext w dL:=aAM.tr gM
 have abL:ar w si 3 dL yQ ((c::sk c).map eZ):=abL
 have gl:=abL.rd (show 0<3 by decide)
 have aH5:yQ.n=7:=gl.n
 refine ⟨gM.heap aa,gM.heap aa,λn x ED ik=>∃j:Nat,x=j/\j+n=7/\ar dL si 3 ik ED ((((c::sk c).take j).filter λn=>decide (0<jX (V n))).map eZ)/\Ext dL ik,⟨7,rfl,rfl,0,rfl,rfl,ar.nil,Ext.bU _⟩,?_⟩
 rintro n us x ED ik ⟨j,rfl,hj,agQ,oU⟩
 have z31:=oU.size
 apply Br.mk<;>intro hb
 ·replace hb:=lT hb
  obtain ⟨y,hy⟩:=bZ (l:=c::sk c) (i:=j) (by have:(c::sk c).length=7:=rfl;omega)
  have Jg:y ∈ c::sk c:=aQ hy
  have oky:qT y:=by
   rcases cj.1 Jg with rfl|h
   ·exact hc.ok
   ·exact FO hc h
  have hy':((c::sk c).map eZ)[j]? =some (eZ y):=by rw [aZ,hy];rfl
  have xc:(c::sk c).take (j+1)=(c::sk c).take j++ [y]:=by rw [dq,hy];rfl
  refine ⟨gl.j2 (i:=(j:Int)) aw aa hb,_,_,_,(gl.ext oU).bK hy',λox e36 jJ e37=> ?_⟩
  have mQ:Ext ik jJ:=(aV e36).af e37 (ak _)
  have z37:=xh e36 e37
  refine ee ((hV.ext (atM.tr (oU.tr mQ))).at oky) ?_
  rintro e tN ⟨rfl,nI⟩
  have z38:=nI.size
  refine ⟨_,rfl,nI.heap aa,nI.heap aa,nI.heap aa,(GN (V y) tN).mono ?_⟩
  rintro e nV ⟨rfl,rfl⟩
  have wk:=nJ (j:=j)
  refine ⟨_,rfl,rfl,rfl,rfl,?_⟩
  have atN:=agQ.ext (mQ.tr nI)
  apply Br.mk<;>intro hd
  ·intro pF e42
   subst e42
   have aH6:ED.n<=7:=by
    have h1:=(agQ.rd (show 0<3 by decide)).n
    have h2:=zw (λn=>decide (0<jX (V n))) ((c::sk c).take j)
    rw [aJ] at h1
    rw [cK] at h2
    omega
   obtain ⟨S9,hres8⟩:=atN.kU (bytes:=24) (news:=eZ y) (.cells #[y.1,y.2.1,y.2.2] si) aa rfl (HH y) aa aa
   refine ⟨S9,λs43 kh agR=> ?_⟩
   obtain ⟨f8,KT,hn8,x8,hk8,-⟩:=hres8 s43 kh agR
   have xa:=Ext.al nV (.cells #[y.1,y.2.1,y.2.2] si)
   have anb:∀b,ED.aX=some b->dL.heap.size<=b/\b<ik.heap.size:=λb hb=>agQ.own.lt hb
   have kp:∀j,(j<dL.heap.size\/ik.heap.size<=j)->j<nV.heap.size->kh.heap[j]? =(nV.alloc (.cells #[y.1,y.2.1,y.2.2] si)).heap[j]? :=λj hj hj2=>by
    rw [hk8 j (λhb=>by have:=anb j hb;omega) hj2,xa.heap hj2]
   refine ⟨kp _ (.inl aa) aa,kp _ (.inl aa) aa,kp _ (.inr aa) aa,f8,n-1,by omega,rfl,rfl,j+1,wk,by omega,?_,(Below.trans (oU.tr (mQ.tr nI)) x8:Below dL dL kh)⟩
   rw [xc,wC,bS,WW (by simpa using hd)]
   exact KT
  ·refine ⟨n-1,by omega,rfl,rfl,j+1,wk,by omega,?_,oU.tr (mQ.tr nI)⟩
   rw [xc,wC,bS,WX (by simpa using hd)]
   simpa using atN
 ·replace hb:=l6 hb
  have hj7:(c::sk c).take j=c::sk c:=dI (by have:(c::sk c).length=7:=rfl;omega)
  rw [hj7] at agQ
  exact ⟨ED,rfl,agQ.low aa,atM.tr oU⟩
def Up(c:Ce):((TJ c).drop ((2:Int).toNat*3)).take 3=eZ (fH c):=rfl
def Yx{v:Value}{V:Ce->Int}{w:World}(hV:Tl v V w)(c:Ce)(hc:fo c):
  ae 276 #[v,gg c] w λe w'=>∃s:Sl,e=s/\ar w mW 4 w' s ((Sn V c).map mY)/\Ext w w':=by
 apply YZ.vc;intro w0 e0;have x0:=aV e0;have z0:=fE e0;refine (jA c hc w0).mono ?_;rintro e w1 ⟨rfl,x1⟩;have z1:=x1.size;have okl:qT (fH c):=FO hc (by simp [sk]);refine ⟨_,_,_,_,_,_,_,_,_,_,_,_,_,_,_,_,_,_,rfl,x1.heap aa,by decide,_,_,_,Up c,λje e23 iH Jf=> ?_⟩;have jR:Ext w1 iH:=(aV e23).af Jf (ak _);have z24:=xh e23 Jf;have apl:=x0.tr (x1.tr jR);refine ee ((hV.ext apl).at okl) ?_;rintro e dL ⟨rfl,gM⟩;have z25:=gM.size;refine ⟨_,rfl,gM.heap aa,gM.heap aa,(Dp (V (fH c)) dL).mono ?_⟩;rintro e gN ⟨rfl,rfl⟩;unfold Sn;refine ⟨_,rfl,rfl,rfl,Br.mk (λh=> ?_) (λh=>λgz S2=> ?_)⟩
 ·rw [if_neg (by simpa using h)];exact ⟨⟨none,0,0⟩,rfl,ar.nil,apl.tr gM⟩
 ·rw [if_pos (by simpa using h)];have hr:Row gz gN (([(c,V (fH c)),(fH c,3)]:List Go.fL.Cg).map mY).flatten mW:=Row.nw S2;exact ⟨⟨aB gN.heap.size,2,2⟩,rfl,ar.jU aa hr (ak _) (ak _) rfl (by intro r hr;simp at hr;rcases hr with rfl|rfl<;>rfl),(apl.tr gM).ba S2⟩
section
variable {N F F':Nat->Prop} {w w' v v':World} {s1 s2 s3 s4:Sl} {T T':Tb} {ch ch':List Cg} {aj cap limit:Int} {o t a b m n k:Nat}
def Q0(h:WF F w o t aj limit T ch)(hW:T.1.l.length<=1000000)(p:Po):
  ae 88 #[t,pv p] w λe w'=>e=Value.int .i64 (Bh aj limit T.1 T.2 p).2/\O6 F w o t aj limit (Bh aj limit T.1 T.2 p).1 ch w':=by
 obtain ⟨F1,hT,-,bq⟩:=h.table;refine (Q1 hT hW p).bj λw' hr=> ?_
 exact ⟨rfl,bq hr⟩
def ZV(h:WF F w o t aj limit T ch)(c:Ce)(hc:qT c):
  eU 113 #[t,gg c] w (Value.int .i64 (jm T.2 c)):=by
 obtain ⟨F1,hT,-⟩:=h.table;exact Bt hT c hc
def WF.aqB{F:Nat->Prop}{w:World}{T:Tb}{ch:List Cg}{aj limit:Int}{o t:Nat}(h:WF F w o t aj limit T ch){w':World}(hk:∀i,F i->w'.heap[i]? =w.heap[i]?)(c:Ce)(hc:qT c):
  bu Tryz.prog (.func (.func 113) #[t] #[]) [gg c] w' λe w''=>e=Value.int .i64 (jm T.2 c)/\Ext w' w'':=
 bV (by kernel_rfl) rfl (ZV (h.same hk) c hc)
end
def Lo.wv{w:World}{g:Nat}{cs:LV}{τ:TypeId}(h:Row w g cs τ):ah w (aB g) 0 cs:=h.bK (λj hj=>by rw [eK])
open Go.fi
abbrev IJ:TypeId:=129
structure Sm where
 aj:Int
 cap:Int
 T:Tb
 ch:List Go.fL.Cg
 q:QS
 dC:Int
 now:Int
 nq:List Ce
abbrev smC(g o:Nat)(M:Sm)(occ:Value)(sd:Sl):LV:=[g,o,.int .i64 M.dC,.int .i64 M.now,occ,.slice sd.a sd.n sd.c]
def SF(F:Nat->Prop)(w:World)(s o t:Nat)(M:Sm)(occ:Value):Prop:=
 ∃g m qs Fw sd,Row w s (smC g o M occ sd) IJ/\Q.uf w g m qs M.q/\yF M.q/\WF Fw w o t M.aj M.cap M.T M.ch/\ar 0 si 3 w sd (M.nq.map eZ)/\(∀i,Q.gS g m qs i->¬Fw i)/\F=λi=>i=s\/Q.gS g m qs i\/Fw i\/sd.aX=some i
section
variable {F F':Nat->Prop} {w w':World} {s o t:Nat} {M M':Sm} {occ:Value}
def SF.lt(h:SF F w s o t M occ){i:Nat}(hi:F i):i<w:=by
 obtain ⟨g,m,qs,Fw,sd,h1,h2,-,h3,h4,-,rfl⟩:=h;rcases hi with rfl|hi|hi|hi
 ·exact h1.lt
 ·exact h2.lt i hi
 ·exact h3.lt hi
 ·exact (h4.own.lt hi).2
def SF.same(h:SF F w s o t M occ)(hk:∀i,F i->w'.heap[i]? =w.heap[i]?):SF F w' s o t M occ:=by obtain ⟨g,m,qs,Fw,sd,h1,h2,hq,h3,h4,h5,rfl⟩:=h;obtain ⟨kvs,m1,m2⟩:=h2.map;exact ⟨g,m,qs,Fw,sd,h1.same (hk _ (.inl rfl)),⟨h2.row.same (hk _ (.inr (.inl (.inl rfl)))),ar.aW h2.own λb hb=>hk b (.inr (.inl (.inr (.inr hb)))),kvs,m1.same (hk _ (.inr (.inl (.inr (.inl rfl))))),m2⟩,hq,h3.same λi hi=>hk i (.inr (.inr (.inl hi))),ar.aW h4 λb hb=>hk b (.inr (.inr (.inr hb))),h5,rfl⟩
def SF.ext(h:SF F w s o t M occ)(x:Ext w w'):SF F w' s o t M occ:=h.same λ_ hi=>x.heap (h.lt hi)
def SF.dT(h:SF F w s o t M occ){j:Nat}{cs:LV}{τ:TypeId}(hr:Row w j cs τ)(h1:O5 τ)(h2:τ≠Bq)(h3:τ≠mW)(h4:τ≠IJ)(h5:τ≠Q.nR)(h6:τ≠Q.cl)(hj:∀(g:Nat)(sd:Sl),Row w s (smC g o M occ sd) IJ->sd.aX≠some j):¬F j:=by
 obtain ⟨g,m,qs,Fw,sd,r1,r2,-,r3,r4,-,rfl⟩:=h;rintro (hi|hi|hi|hi)
 ·exact hr.ne r1 h4 hi
 ·exact r2.dT hr h5 h6 hi
 ·exact r3.dT hr h1 h2 h3 hi
 ·exact hj g sd r1 hi
def SF.qi(h:SF F w s o t M occ){j:Nat}{cs:LV}{τ:TypeId}(hr:Row w j cs τ)(h1:O5 τ)(h2:τ≠Bq)(h3:τ≠mW)(h4:τ≠IJ)(h5:τ≠Q.nR)(h6:τ≠Q.cl)(h7:τ≠si):¬F j:=by
 obtain ⟨g,m,qs,Fw,sd,r1,r2,-,r3,r4,-,rfl⟩:=h;rintro (hi|hi|hi|hi)
 ·exact hr.ne r1 h4 hi
 ·exact r2.dT hr h5 h6 hi
 ·exact r3.dT hr h1 h2 h3 hi
 ·obtain ⟨cs',hr'⟩:=aU r4 aw hi;exact hr.ne hr' h7 rfl
abbrev nm(F:Nat->Prop)(w:World)(s o t:Nat)(M:Sm)(occ:Value)(w':World):Prop:=∃F',SF F' w' s o t M occ/\aI F F' w w'
def SF.world(h:SF F w s o t M occ):∃Fw,WF Fw w o t M.aj M.cap M.T M.ch/\(∀i,Fw i->F i)/\∀{w':World} {T':Tb} {ch':List Go.fL.Cg},O6 Fw w o t M.aj M.cap T' ch' w'->nm F w s o t {M with T:=T',ch:=ch'} occ w':=by
 obtain ⟨g,m,qs,Fw,sd,h1,h2,hq,h3,h4,h5,rfl⟩:=h;refine ⟨Fw,h3,λi hi=> .inr (.inr (.inl hi)),?_⟩;rintro w' T' ch' ⟨F',h',ht⟩;have n1:=h3.dT h1 aw aw aw;have n2:∀i,Q.gS g m qs i->¬Fw i:=h5;have n4:∀b,sd.aX=some b->¬Fw b:=λb hb=>by obtain ⟨cs',hr'⟩:=aU h4 aw hb;exact h3.dT hr' aw aw aw
 refine ⟨_,⟨g,m,qs,F',sd,ht.mod.row h1 n1,h2.aW ht.mod n2,hq,h',ht.mod.dX h4 n4,?_,rfl⟩,ht.mod.mono λi _ hi=> .inr (.inr (.inl hi)),λi hi=> ?_⟩
 ·exact λi hi hf=>ht.apart (G:=Q.gS g m qs) (λi hi hg=>h5 i hg hi) (λi hi=>h2.lt i hi) i hf hi
 ·rcases hi with hi|hi|hi|hi
  ·exact .inl (.inl hi)
  ·exact .inl (.inr (.inl hi))
  ·exact (ht.sub i hi).imp (λh=> .inr (.inr (.inl h))) id
  ·exact .inl (.inr (.inr (.inr hi)))
def SF.queue(h:SF F w s o t M occ):∃g m qs,Q.uf w g m qs M.q/\yF M.q/\(∃sd,Row w s (smC g o M occ sd) IJ)/\(∀i,Q.gS g m qs i->F i)/\∀{w':World} {qs':Sl} {q':QS},Q.uf w' g m qs' q'->yF q'->aI (Q.gS g m qs) (Q.gS g m qs') w w'->nm F w s o t {M with q:=q'} occ w':=by
 obtain ⟨g,m,qs,Fw,sd,h1,h2,hq,h3,h4,h5,rfl⟩:=h;refine ⟨g,m,qs,h2,hq,⟨sd,h1⟩,λi hi=> .inr (.inl hi),?_⟩;rintro w' qs' q' h' hq' ht;have n1:=h2.dT h1 aw aw;have n3:∀i,Fw i->¬Q.gS g m qs i:=λi hi hf=>h5 i hf hi
 have n4:=h2.aei h4 aw aw aw;refine ⟨_,⟨g,m,qs',Fw,sd,ht.mod.row h1 n1,h',hq',h3.aW ht.mod n3,ht.mod.dX h4 n4,?_,rfl⟩,ht.mod.mono λi _ hi=> .inr (.inl hi),λi hi=> ?_⟩
 ·exact λi hi hf=>ht.apart (G:=Fw) (λi hi hg=>h5 i hi hg) (λi hi=>h3.lt hi) i hi hf
 ·rcases hi with hi|hi|hi|hi
  ·exact .inl (.inl hi)
  ·exact (ht.sub i hi).imp (λh=> .inr (.inl h)) id
  ·exact .inl (.inr (.inr (.inl hi)))
  ·exact .inl (.inr (.inr (.inr hi)))
def SF.row(h:SF F w s o t M occ):∃g sd,Row w s (smC g o M occ sd) IJ/\ar 0 si 3 w sd (M.nq.map eZ)/\F s/\(∀b,sd.aX=some b->F b)/\∀{w':World} {M':Sm} {occ':Value} {sd':Sl},M'.aj=M.aj->M'.cap=M.cap->M'.T=M.T->M'.ch=M.ch->M'.q=M.q->Mod (λi=>i=s\/sd.aX=some i) w w'->Row w' s (smC g o M' occ' sd') IJ->ar 0 si 3 w' sd' (M'.nq.map eZ)->(∀b,sd'.aX=some b->sd.aX=some b\/w.heap.size<=b)->nm F w s o t M' occ' w':=by
 obtain ⟨g,m,qs,Fw,sd,h1,h2,hq,h3,h4,h5,rfl⟩:=h;refine ⟨g,sd,h1,h4,.inl rfl,λb hb=> .inr (.inr (.inr hb)),?_⟩;rintro w' M' occ' sd' e1 e2 e3 e4 e5 hm hr hd dP;have q1:=h2.dT h1 aw aw;have q2:=h2.aei h4 aw aw aw;have r1:=h3.dT h1 aw aw aw;have r2:∀b,sd.aX=some b->¬Fw b:=λb hb=>by obtain ⟨cs',hr'⟩:=aU h4 aw hb;exact h3.dT hr' aw aw aw
 refine ⟨_,⟨g,m,qs,Fw,sd',hr,by rw [e5];exact h2.aW hm λi hi hf=>hf.elim (λe=>q1 (e▸hi)) (λe=>q2 _ e hi),by rw [e5];exact hq,by rw [e1,e2,e3,e4];exact h3.aW hm λi hi hf=>hf.elim (λe=>r1 (e▸hi)) (λe=>r2 _ e hi),hd,h5,rfl⟩,hm.mono λi _ hi=>hi.elim .inl (λe=> .inr (.inr (.inr e))),λi hi=> ?_⟩;rcases hi with hi|hi|hi|hi
 ·exact .inl (.inl hi)
 ·exact .inl (.inr (.inl hi))
 ·exact .inl (.inr (.inr (.inl hi)))
 ·exact (dP i hi).imp (λh=> .inr (.inr (.inr h))) id
end
def Av(M:Sm)(c:Ce)(b:Int):Sm:={M with T:=(M.T.1,(jv M.T.2 c b).1),ch:=wsC M.T.2 M.ch c b,q:=if (jv M.T.2 c b).2=0 then GM (jm (jv M.T.2 c b).1) M.now M.q c else M.q}
def fb(M:Sm)(x:Go.fL.Cg):Sm:=if jm M.T.2 x.1=x.2 then M else Av M x.1 x.2
def GR(O:Ce->Bool)(M:Sm)(c:Ce):Bool:=decide (jm M.T.2 c=3) &&(!(ja (jm M.T.2) c).isEmpty && O (fH c))
def wg(O:Ce->Bool)(M:Sm)(c:Ce):Sm:=
 if FA M.T.2 c=false then {M with q:=(lJ M.q c (M.now+1)).1}
 else if GR O M c=true then fb {M with nq:=M.nq++ [fH c]} (c,0)
 else (ja (jm M.T.2) c).foldl fb M
def qK(M:Sm):Int:=min (M.now+1) 1099511627776
def GU(M:Sm):Sm:={M with now:=qK M,q:=(MK M.q (qK M) M.dC).1}
def vX(M:Sm):List Ce:=(MK M.q (qK M) M.dC).2
def QR(O:Ce->Bool)(M:Sm):Sm:=(vX M).foldl (wg O) (GU M)
section
variable {F F':Nat->Prop} {w w':World} {s o t:Nat} {M M':Sm} {occ:Value}
def SF.tl(h:SF F w s o t M occ):Tl (.func (.func 113) #[t] #[]) (jm M.T.2) w:=by obtain ⟨Fw,hW,-,-⟩:=h.world;exact ⟨Fw,λi hi=>hW.lt hi,λw' hk c hc=>hW.aqB hk c hc⟩
def adW:yF ⟨4096,0,[]⟩:=⟨aw,aw,List.Pairwise.nil,List.nodup_nil⟩
def QP{Fw:Nat->Prop}{aj cap:Int}{T:Tb}{ch:List Go.fL.Cg}(h:WF Fw w o t aj cap T ch)(dC:Int):ae 114 #[o,dC] w λe w'=>∃s F,e=Value.pointer (aB s)/\SF F w' s o t ⟨aj,cap,T,ch,⟨4096,0,[]⟩,min (max dC 1) 64,0,[]⟩ (.func (.func 175) #[] #[])/\Ext w w'/\(∀i,F i->Fw i\/w.heap.size<=i):=by
 apply ahV.vc;refine (Q.Ar 4096 w).mono ?_;rintro e w0 ⟨g,m,rfl,hq,x0,hg,hm⟩;refine ⟨_,rfl,λw2 e2=> ?_⟩;have eb:(if 64<(if 1>dC then 1 else dC) then 64 else (if 1>dC then 1 else dC))=min (max dC 1) 64:=by split<;>split<;>omega
 rw [eb] at e2;have x2:=aV e2;have hr:Row w2 w0 (smC g o ⟨aj,cap,T,ch,⟨4096,0,[]⟩,min (max dC 1) 64,0,[]⟩ (.func (.func 175) #[] #[]) ⟨none,0,0⟩) IJ:=Row.nw e2;refine ⟨w0.heap.size,_,rfl,⟨g,m,⟨none,0,0⟩,Fw,⟨none,0,0⟩,hr,hq.ext x2,adW,h.ext (x0.tr x2),ar.nil,?_,rfl⟩,x0.tr x2,λi hi=> ?_⟩
 ·rintro i (hi|hi|hi) hf
  ·have:=h.lt hf;omega
  ·have:=h.lt hf;omega
  ·cases hi
 ·have:=x0.size;rcases hi with hi|(hi|hi|hi)|hi|hi
  ·exact .inr aa
  ·exact .inr aa
  ·exact .inr aa
  ·cases hi
  ·exact .inl hi
  ·cases hi
def eN(h:SF F w s o t M occ):kT 39 #[s] w (Value.pointer (aB o)):=by obtain ⟨g,sd,h1,-⟩:=h.row;apply IE.vc;exact ⟨_,h1.at 1 rfl,rfl,rfl⟩
def IS(h:SF F w s o t M occ):ae 46 #[s] w λe w'=>∃s':Sl,e=s'/\ar w Q.cl 4 w' s' (M.q.l.map fR)/\Ext w w':=by obtain ⟨g,m,qs,hq,hok,⟨sd,hr⟩,-⟩:=h.queue;apply DQ.vc;refine ⟨_,hr.at 0 rfl,(Q.adY hq hok).mono ?_⟩;rintro e w' ⟨s',rfl,ho,x⟩;exact ⟨s',rfl,s',rfl,ho,x⟩
def Mv(h:SF F w s o t M occ)(f:Fn)(a b:Array Value):ae 83 #[s,.func f a b] w λe w'=>e=pH/\nm F w s o t M (.func f a b) w'/\Mod (λi=>i=s) w w':=by
 obtain ⟨g,sd,hr,ho,-,-,bq⟩:=h.row;apply Ge.vc;obtain ⟨p1,p2⟩:=hr.fF (j:=4) (v:=.func f a b) (by simp [smC]) rfl;refine ⟨⟨rfl,p1⟩,λw0 e0=>⟨rfl,?_⟩⟩;obtain ⟨q1,q2⟩:=p2 w0 e0;have hso:∀b,sd.aX=some b->b≠s:=λb hb=>by obtain ⟨cs',hr'⟩:=aU ho aw hb;exact hr'.ne hr aw
 exact ⟨bq (M':=M) rfl rfl rfl rfl rfl (q2.mono λi _ hi=> .inl hi) q1 (q2.dX ho hso) (λb hb=> .inl hb),q2⟩
def QQ(b:Int):0<=jX b/\jX b<=5:=by
 unfold jX;split
 ·decide
 ·split<;>decide
def adZ{V:Ce->Int}{c:Ce}(hc:fo c):∀n ∈ sN V c,qT n:=λn hn=>by
 unfold sN at hn
 rcases cj.1 (j3.1 hn).1 with rfl|h
 ·exact hc.ok
 ·exact FO hc h
def Ke(V:Ce->Int)(c:Ce):(sN V c).length<=7:=zw _ _
abbrev GK(V:Ce->Int)(now:Int)(q:QS)(n:Ce):QS:=(lJ q n (now+jX (V n))).1
def xQ(V:Ce->Int)(now:Int):∀(l:List Ce)(q:QS),q.lost<=(l.foldl (GK V now) q).lost/\(l.foldl (GK V now) q).lost<=q.lost+l.length
 | [],q=>⟨jN _,bo⟩
 |n::l,q=>by
  have h1:=xQ V now l (GK V now q n)
  have h2:=BW q n (now+jX (V n))
  have h3:(GK V now q n).lost=(lJ q n (now+jX (V n))).1.lost:=rfl
  simp only [pq,cD]
  omega
def ZL(h:SF F w s o t M occ)(c:Ce)(hc:fo c)(hl:0<=M.q.lost/\M.q.lost<=900000000)(asT:0<=M.now/\M.now<=1099511627776):
  ae 251 #[s,gg c] w λe w'=>e=pH/\nm F w s o t {M with q:=GM (jm M.T.2) M.now M.q c} occ w':=by
 apply Mo.vc;intro w0 e0;have x0:=aV e0;have z0:=fE e0;have h0:=h.ext x0;obtain ⟨g,sd,hr,-,hFs,-⟩:=h0.row;obtain ⟨Fw,hW,-,-⟩:=h0.world;refine ⟨_,hr.at 1 rfl,(o5 hW).bj λw2 hw=> ?_⟩;subst hw;refine ⟨_,rfl,rfl,(U9 h0.tl c hc).mono ?_⟩;rintro e w4 ⟨s5,rfl,ho,x4⟩;have z4:=x4.size;have gl:=ho.rd (show 0<3 by decide);have hn5:=gl.n;have h4:=h0.ext x4;have hL:=Ke (jm M.T.2) c;have hok:=adZ (V:=jm M.T.2) hc;unfold GM;generalize hLe:sN (jm M.T.2) c=L at*;rw [aJ] at hn5;refine ⟨s5,rfl,x4.heap aa,λn x bc=>∃(j:Nat)(F':Nat->Prop),x=j/\j+n=L.length/\SF F' bc s o t {M with q:=(L.take j).foldl (GK (jm M.T.2) M.now) M.q} occ/\aI F F' w4 bc,⟨L.length,rfl,0,F,rfl,aa,h4,aI.refl _ _⟩,?_⟩;rintro n us x bc ⟨j,F',rfl,hj,hS,hT⟩;have z10:=hT.mod.size;have hF:∀i,F i->i<w.heap.size:=λi hi=>h.lt hi
 have hrd10:dB bc s5 3 (L.map eZ):=hT.mod.rdK aw gl λ_ b hb hf=>by have:=(ho.own.lt hb).1;have:=hF b hf;omega
 apply Br.mk<;>intro hb
 ·replace hb:=lT hb;obtain ⟨y,hy⟩:=bZ (l:=L) (i:=j) aa;have oky:=hok y (aQ hy);have hy':(L.map eZ)[j]? =some (eZ y):=by rw [aZ,hy];rfl
  have xc:L.take (j+1)=L.take j++ [y]:=by rw [dq,hy];rfl
  have hlost:=xQ (jm M.T.2) M.now (L.take j) M.q;have aGe:(L.take j).length<=7:=by rw [cK];omega
  generalize hqj:(L.take j).foldl (GK (jm M.T.2) M.now) M.q=qj at*;refine ⟨hrd10.j2 (i:=(j:Int)) aw aa hb,_,_,_,hrd10.bK hy',λdj pJ cp CE=> ?_⟩;have dz:Ext bc cp:=(aV pJ).af CE (ak _);have z16:=xh pJ CE;have ay2:Row cp bc (eZ y) si:=by rw [CE];exact Row.set (by rw [pJ];exact Row.new bc [_,_,_] _) _
  have xd:=dz.tr (Ext.dr cp);have zd:=oa cp;have asU:=hS.ext xd;obtain ⟨g',m,qs,hq,H3,⟨sd',hr'⟩,dP,bq⟩:=asU.queue;refine ⟨_,hr'.at 0 rfl,_,hr'.at 3 rfl,ee (asU.tl.at oky) ?_⟩;rintro e eQ ⟨rfl,dR⟩;have z19:=dR.size;have ajT:=hr'.ext dR;have asV:=(ay2.ext (Ext.dr cp)).ext dR;have hd:=QQ (jm M.T.2 y);have wr:aC (M.now+jX (jm M.T.2 y))=M.now+jX (jm M.T.2 y):=wI;refine ⟨_,rfl,dR.heap aa,dR.heap aa,pw (ajT.at 3 rfl),Lo.wv asV,pw (ajT.at 0 rfl),(GN (jm M.T.2 y) eQ).bj λcX hw=> ?_⟩;subst hw;refine ⟨_,rfl,rfl,rfl,pw (ajT.at 3 rfl),Lo.wv asV,pw (ajT.at 0 rfl),?_⟩;rw [wr];refine (Q.GO (hq.ext dR) H3 (by simp only at hlost ⊢;omega) y (M.now+jX (jm M.T.2 y))).mono ?_;rintro e je ⟨rfl,qs',hq',ht⟩;have wk:=nJ (j:=j);have ht':aI (Q.gS g' m qs) (Q.gS g' m qs') cp.drew je:=(aI.aq dR).trans ht;obtain ⟨F2,hS2,H4⟩:=bq hq' (H3.add y _) ht';have hsF:¬Q.gS g' m qs s:=(hq).dT hr' aw aw;have ay3:=ht'.mod.row hr' hsF;have nf:∀i,(w.heap.size<=i/\i<w4.heap.size\/bc.heap.size<=i)->i<cp.drew.heap.size->je.heap[i]? =cX.heap[i]? :=λi h1 h2=>(H4.mod.same i h2 (λhf=>by
   rcases h1 with ⟨h1,S1⟩|h1
   ·rcases hT.sub i hf with q|q
    ·have:=hF i q;omega
    ·omega
   ·have:=hS.lt hf;omega)).trans (dR.heap h2).symm
  refine ⟨_,rfl,nf _ (.inl aa) aa,nf _ (.inr aa) aa,pw (ay3.at 3 rfl),n-1,aa,rfl,j+1,F2,wk,aa,?_,(hT.trans (aI.aq xd)).trans H4⟩;rw [xc,nk,hqj];exact hS2
 ·replace hb:=l6 hb;rw [dI aa] at hS;exact ⟨rfl,F',hS,(aI.aq (x0.tr x4)).trans hT⟩
end
section
variable {F F':Nat->Prop} {w w':World} {s o t:Nat} {M M':Sm} {occ:Value}
def nm.trans{F1:Nat->Prop}{w1:World}(h:aI F F1 w w1)(k:nm F1 w1 s o t M occ w'):nm F w s o t M occ w':=by obtain ⟨F2,h2,t2⟩:=k;exact ⟨F2,h2,h.trans t2⟩
structure qJ(M:Sm)(n:Nat):Prop where
 l:0<=M.q.lost/\M.q.lost<=n
 c:M.ch.length<=n
 now:0<=M.now/\M.now<=1099511627776
 d:M.nq.length<=n
def qJ.mono{n m:Nat}(h:qJ M n)(hm:n<=m):qJ M m:=⟨⟨h.l.1,by have:=h.l.2;omega⟩,c8 h.c hm,h.now,c8 h.d hm⟩
def ael(l:List En)(ch:List Go.fL.Cg)(c:Ce)(b:Int):(wsC l ch c b).length<=ch.length+1:=aht l ch c b
def Vw(V:Ce->Int)(now:Int)(q:QS)(c:Ce):q.lost<=(GM V now q c).lost/\(GM V now q c).lost<=q.lost+7:=by have h1:=xQ V now (sN V c) q;have h2:=Ke V c;have h3:GM V now q c=(sN V c).foldl (GK V now) q:=rfl;rw [h3];omega
def qJ.edit{n:Nat}(h:qJ M n)(c:Ce)(b:Int):qJ (Av M c b) (n+7):=by
 have h1:=ael M.T.2 M.ch c b;have h2:=Vw (jm (jv M.T.2 c b).1) M.now M.q c;have h3:=h.l;have h4:=h.c;unfold Av;have h5:=h.d;refine ⟨?_,?_,h.now,by simp only;omega⟩
 ·simp only;split<;>omega
 ·simp only;omega
def qJ.change{n:Nat}(h:qJ M n)(x:Go.fL.Cg):qJ (fb M x) (n+7):=by
 unfold fb;split
 ·exact h.mono aa
 ·exact h.edit _ _
def Df(h:SF F w s o t M occ)(c:Ce)(b:Int)(Eo:qT c)(hc:(jv M.T.2 c b).2=0->fo c)(hk:qJ M 800000000):
  ae 188 #[s,gg c,b] w λe w'=>e=Value.int .i64 (jv M.T.2 c b).2/\nm F w s o t (Av M c b) occ w':=by
 apply Mn.vc;intro w0 e0;have x0:Ext w w0.drew:=(aV e0).tr (Ext.dr w0);have z0:w0.drew.heap.size=w.heap.size+1:=by show w0.heap.size=_;rw [e0];simp
 have zd:=oa w0;have h0:=h.ext x0;obtain ⟨g,sd,hr,-⟩:=h0.row;obtain ⟨Fw,hW,dP,bq⟩:=h0.world;have hlc:=hk.c;have hll:=hk.l;refine ⟨_,(hr.at 1 rfl),(Yp hW c Eo b aa).bj λw2 hw=> ?_⟩;obtain ⟨F2,h2,t2⟩:=bq hw;have hF:∀{i},w.heap.size<=i->i<w0.drew.heap.size->w2.heap[i]? =w0.drew.heap[i]? :=λh1 h3=>t2.mod.same _ h3 λhf=>by have:=h.lt hf;omega
 unfold Av;refine ⟨_,rfl,hF (ak _) aa,Br.mk (λhb=> ?_) (λhb=> ?_)⟩
 ·rw [if_pos (by simpa using hb)];refine (ZL h2 c (hc (by simpa using hb)) (by simp only;omega) hk.now).mono ?_;rintro e w4 ⟨rfl,F4,h4,t4⟩;have hz:=t2.mod.size;have hnf:¬F2 w:=λhf=>by
   rcases t2.sub _ hf with q|q
   ·have:=h.lt q;omega
   ·omega
  exact ⟨rfl,t4.mod.same _ aa hnf,rfl,F4,h4,(aI.aq x0).trans (t2.trans t4)⟩
 ·rw [if_neg (by simpa using hb)];exact ⟨rfl,F2,h2,(aI.aq x0).trans t2⟩
def Vx(h:SF F w s o t M occ)(c:Ce)(hc:fo c)(b:Int)(hk:qJ M 800000000):
  ae 188 #[s,gg c,b] w λe w'=>e=Value.int .i64 (jv M.T.2 c b).2/\nm F w s o t (Av M c b) occ w':=
 Df h c b hc.ok (λ_=>hc) hk
def qx(h:SF F w s o t M occ)(x:Go.fL.Cg)(hc:fo x.1)(hk:qJ M 800000000):
  ae 223 #[s,.agg (mY x).toArray] w λe w'=>e=pH/\nm F w s o t (fb M x) occ w':=by
 apply Gf.vc;intro w0 e0;have Oo:Row w0 w (mY x) mW:=Row.nw e0;have x0:Ext w w0.drew:=(aV e0).tr (Ext.dr w0);have z0:w0.drew.heap.size=w.heap.size+1:=by show w0.heap.size=_;rw [e0];simp
 have hb:=Oo.ext (Ext.dr w0);have h0:=h.ext x0;obtain ⟨g,sd,hr,-⟩:=h0.row;obtain ⟨Fw,hW,-,-⟩:=h0.world;refine ⟨_,(hr.at 1 rfl),(o5 hW).bj λw2 hw=> ?_⟩;subst hw;refine ⟨_,rfl,rfl,hb.bK (o:=3) (λj hj=>by
  match j,hj with
  |0,_=>rfl),hb.bK (o:=0) (λj hj=>by
  match j,hj with
  |0,_=>rfl
  |1,_=>rfl
  |2,_=>rfl),ee (h0.tl.at hc.ok) ?_⟩
 rintro e w4 ⟨rfl,x4⟩;have z4:=x4.size;have E9:=x0.tr x4;unfold fb;refine ⟨_,rfl,x4.heap aa,(hb.ext x4).bK (o:=3) (λj hj=>by
  match j,hj with
  |0,_=>rfl),Br.mk (λlK=> ?_) (λlK=> ?_)⟩
 ·rw [if_neg (by simpa using lK)];refine (Vx (h.ext E9) x.1 hc x.2 hk).mono ?_;rintro e w6 ⟨rfl,F6,h6,t6⟩;exact ⟨_,rfl,t6.mod.same _ aa (λhf=>by have:=h.lt hf;omega),rfl,F6,h6,(aI.aq E9).trans t6⟩
 ·rw [if_pos (by simpa using lK)];exact ⟨rfl,F,h.ext E9,aI.aq E9⟩
end
variable {R:eWp} {w:World} {a0 a2 aG aH aS:Int}
def PF.vc{a0:Value}(h:(λA B C=>
 Aw w B 23 λw0=>
 ae 328 #[a0,.agg B] w0 (W8 λx2 b3 w1=>Kp w w0 w1/\
 ∃J4:wPp,
 (Br C
 (Br (!b3)
 (Aw w1 #[aG,aH,aS,ai] 269 λw5=>
 R (Value.slice (aB w1) 1 1) w5)
 (Br C
 (Br (x2 !=a2)
 (ae 329 #[x2] w1.drew (Ri λx7 w6=>Kp w w1.drew w6/\
 ah w6 w 0 A/\Aw w6 #[aG,aH,aS,x7] 269 λw8=>
 R (Value.slice (aB w6) 1 1) w8))
 (aP A/\J4 w1))
 (aP A/\J4 w1)))
 (Br C
 (Br (x2 !=a2)
 (ae 329 #[x2] w1.drew (Ri λbM w9=>Kp w w1.drew w9/\
 ah w9 w 0 A/\Aw w9 #[aG,aH,aS,bM] 269 λbB=>
 R (Value.slice (aB w9) 1 1) bB))
 (aP A/\J4 w1))
 (aP A/\J4 w1)))/\
 ∀am6:Nat->Value,∀(bw:World),J4 bw->
 ae 221 #[.agg B] bw (P7 λdm dz dS de dR fk fj gI im jR gM nY jH rI kK tM oU mR cu=>Kp w bw cu/\
 ((0:Int)<=2/\(2:Int)<((6:Nat):Int))/\∃(gO j0 pG:Int),(([dm,dz,dS,de,dR,fk,fj,gI,im,jR,gM,nY,jH,rI,kK,tM,oU,mR]:LV).drop ((2:Int).toNat*3)).take 3=[.int .i64 gO,.int .i64 j0,.int .i64 pG]/\
 Aw cu #[ai,ai,ai] 23 λox=>
 Sw ox cu #[gO,j0,pG] λjJ=>
 ∃J38:wPp,
 (bu Tryz.prog a0 [.agg #[gO,j0,pG]] jJ (Ri λrK lN=>K2 w cu jJ lN (
 Br (rK==0)
 (ae 329 #[(1:Int)] lN.drew (Ri λyP kN=>K2 w cu lN.drew kN (
 ah kN (aB cu) 0 [gO,j0,pG]/\Aw kN #[gO,j0,pG,yP] 269 λiS=>
 R (Value.slice (aB kN) 1 1) iS)))
 (ae 262 #[rK] lN (Rb λb45 kh=>(λAa=>K2 w cu lN kh (
 Br b45
 Aa
 (Br (a2>=7)
 Aa
 (aP A/\aP [gO,j0,pG]/\J38 kh)))) (R (Value.slice none 0 0) kh))))))/\
 ∀atG:Nat->Value,∀(oK:World),J38 oK->
 ae 330 #[.agg B] oK (Rs λs49 lP=>K2 w cu oK lP (
 po (λI50 n51=>aP A/\aP [gO,j0,pG]/\I50 n51 (0) ⟨none,0,0⟩ lP) λI50 n51 axT nZ V6 yN=>
 Br (decide (nZ<((s49.n:Nat):Int)))
 (gJ s49.a nZ s49.n/\ia yN (ab s49.a ((nZ:Int).toNat*3)) λJk KP Ie=>
 Aw yN #[ai,ai,ai] 23 λnX=>
 Sw nX yN #[Jk,KP,Ie] λvv=>
 bu Tryz.prog a0 [.agg #[Jk,KP,Ie]] vv (Ri λBj kz=>K3 w cu yN vv kz (
 Br (Bj==0)
 (ae 329 #[(aC (a2+1))] kz.drew (Ri λA8 Js=>K3 w cu yN kz.drew Js (
 ah Js yN 0 [Jk,KP,Ie]/\Aw Js #[Jk,KP,Ie,A8] 269 λyy=>
 aY 32 4 yy V6 1 [Jk,KP,Ie,A8]/\∀(s67:Sl)(OO:World),aT 269 4 yy V6 1 [Jk,KP,Ie,A8] s67 OO->K4 w cu yN Js yy OO (
 ∃n56,n56<n51/\aP A/\aP [gO,j0,pG]/\I50 n56 ((aC (nZ+1))) s67 OO))))
 (∃n56,n56<n51/\aP A/\aP [gO,j0,pG]/\I50 n56 ((aC (nZ+1))) V6 kz))))
 (R V6 yN)))))) [aG,aH,aS] #[aG,aH,aS] (a2>0)):ae 277 #[a0,.agg #[aG,aH,aS],a2] w R:=
 cq ⟨[(14,⟨[(66,.int .i64),(11,.slice)],[],[]⟩)],[(12,⟨[],[],[]⟩),(6,⟨[],[],[]⟩)],[]⟩ func277 h
def ajb{E k m n c:Nat}{w w':World}{a:Option Addr}{s':Sl}{xs news:LV}{rows:List (LV)}(h:aT E k w ⟨a,m,c⟩ n news s' w')(hc:c<m+n)(hx:xs.length=m*k)(gl:Rd w a xs)(dh:xs++news=rows.flatten)(hw:∀r ∈ rows,r.length=k)(hl:news.length=n*k):ar w E k w' s' rows/\Ext w w':=by
 cases h with
 |fits hf=>simp only at hf;omega
 |grows hg fV rest cap e1 e2 e3 e4=>
  have ho:fV=xs:=by
   apply jK;intro i;rcases iW i xs.length with hi|hi
   ·have h1:=gl i xs[i] (cO hi);have hi':i<fV.length:=by simp only at e1;omega
    have h2:=e2 i fV[i] (cO hi');rw [h1] at h2;rw [cO hi,cO hi'];exact h2.symm
   ·rw [j4 hi,j4 (by simp only at e1;omega)]
  subst ho;have Em:=Row.new w.drew (fV++news++rest) E;refine ⟨ar.jU (ak _) Em (Nat.le_of_eq e4.symm) e3 ?_ hw,(Ext.dr w).tr (Ext.al _ _)⟩;rw [<-dh];have db:(fV++news).length=(m+n)*k:=by rw [bY,hx,hl,pZ]
  rw [AM (by simp only;omega),dI (by simp only;omega)]
def FP(b:Int)(w:World):kT 278 #[b] w (Value.int .i64 (iu b)):=by
 apply Qf.vc;refine (pg b w).gK ?_;unfold iu;refine ⟨_,rfl,Br.mk (λh=> ?_) (λh=> ?_)⟩
 ·have h:sj b=false:=by simpa using h
  rw [h,if_neg aw];exact ⟨rfl,rfl⟩
 ·have h:sj b=true:=by simpa using h
  rw [h,if_pos rfl];unfold sj at h;simp only [gP,cL] at h;rw [wI];exact ⟨rfl,rfl⟩
def PG{c:Ce}(h:fo c){n:Ce}(hn:n ∈ cW c):qT n/\n ∈ sk c:=by
 have:n ∈ sk c:=by
  unfold cW at hn;unfold sk;simp only [cj,iY,or_false] at hn ⊢;rcases hn with h|h|h|h
  ·exact .inl h
  ·exact .inr (.inl h)
  ·exact .inr (.inr (.inr (.inr (.inl h))))
  ·exact .inr (.inr (.inr (.inr (.inr h))))
 exact ⟨FO h this,this⟩
def X1{w:World}{g:Nat}{cs:LV}{τ:TypeId}(hr:Row w g cs τ)(o:Nat){xs:LV}(h:∀i,i<xs.length->cs[o+i]? =xs[i]?):Rd w (jS g o) xs:=λi v hv=>by
 rw [aF,hr.ld]
 have hi:=(cP.1 hv).1
 rw [h i hi];exact hv
def zq(c:Ce)(hc:fo c)(w:World):ae 330 #[gg c] w λe w'=>∃s:Sl,e=s/\ar w si 3 w' s ((cW c).map eZ)/\Ext w w':=by
 apply P8.vc;intro w0 e0;have x0:=aV e0;have z0:=fE e0;refine (jA c hc w0).bj λw1 x1=> ?_
 have z1:=x1.size;refine ⟨_,_,_,_,_,_,_,_,_,_,_,_,_,_,_,_,_,_,rfl,x1.heap aa,λfw wi=> ?_⟩;have fk:=aV wi;have hr:Row fw w1 [ai,ai,ai,ai,ai,ai,ai,ai,ai,ai,ai,ai,ai,ai,ai,ai,ai,ai] 266:=Row.nw wi;refine ⟨⟨rfl,hr.wr bo⟩,λe=>by
  have:w1.heap.size=w.heap.size:=by simpa [bN] using e
  omega,λcX vu=> ?_⟩
 have vu:cX=bC fw (aB w1.heap.size) (TJ c):=vu;rw [hr.bC (vs:=TJ c) bo (VS c),dE bo] at vu;have jY:Row cX w1 (TJ c) 266:=hr.st vu;have fj:Ext w cX:=(x0.tr (x1.tr fk)).af vu aa;have xd:=Ext.dr cX;have hr3:=jY.ext xd;have x21d:=fj.tr xd;have zz:w1.heap.size<cX.drew.heap.size:=hr3.lt;have db:(eZ ((c.1,c.2.1,c.2.2-1):Ce)++eZ (c.1,c.2.1,c.2.2+1)).length=6:=rfl;have h1:One (eZ ((c.1,c.2.1,c.2.2-1):Ce)++eZ (c.1,c.2.1,c.2.2+1)):=by
  intro v hv;rcases dp.1 hv with hv|hv
  ·exact HH _ v hv
  ·exact HH _ v hv
 have rd0:Rd cX.drew (aB w1.heap.size) (eZ ((c.1-1,c.2.1,c.2.2):Ce)++eZ (c.1+1,c.2.1,c.2.2)):=X1 hr3 0 (λi hi=>by
  have hi:i<6:=hi;have:i=0\/i=1\/i=2\/i=3\/i=4\/i=5:=by omega
  rcases this with rfl|rfl|rfl|rfl|rfl|rfl<;>rfl)
 refine ⟨aw,aw,aw,aw,aw,aw,eZ ((c.1,c.2.1,c.2.2-1):Ce)++eZ (c.1,c.2.1,c.2.2+1),X1 (o:=12) hr3 (λi hi=>by
  have hi:i<6:=hi;have:i=0\/i=1\/i=2\/i=3\/i=4\/i=5:=by omega
  rcases this with rfl|rfl|rfl|rfl|rfl|rfl<;>rfl),⟨λhf=>absurd hf (show ¬(2+2<=2) by decide),λ_=>⟨_,rfl,rd0⟩,λhg=>⟨growslice_fits hg (show (2+2)*24<=140737488355328 by decide),show ((2+2:Nat):Int)<=9223372036854775807 by decide⟩,rfl,h1⟩,λs23 iH bq=> ?_⟩
 obtain ⟨ho,jR⟩:=ajb (rows:=(cW c).map eZ) (xs:=eZ ((c.1-1,c.2.1,c.2.2):Ce)++eZ (c.1+1,c.2.1,c.2.2)) bq (show 2<2+2 by decide) rfl rd0 rfl (by intro r hr;obtain ⟨y,-,rfl⟩:=bf.1 hr;rfl) rfl;exact ⟨jR.heap aa,s23,rfl,ho.low aa,x21d.tr jR⟩
def FN(V:Ce->Int):∀(l:List Ce)(m:Int),0<=m/\m<=7->0<=l.foldl (λm n=>if 0<=iu (V n) then min m (iu (V n)) else m) m/\l.foldl (λm n=>if 0<=iu (V n) then min m (iu (V n)) else m) m<=7
 | [],m,h=>h
 |n::l,m,h=>by
  rw [pq]
  refine FN V l _ ?_
  split<;>omega
def abc(c:Ce):((TJ c).drop ((3:Int).toNat*3)).take 3=eZ (Dl c):=rfl
def Uo{v:Value}{V:Ce->Int}{w:World}(hV:Tl v V w)(c:Ce)(hc:fo c):
  eU 328 #[v,gg c] w (Value.tuple #[.int .i64 (ir V c).1,.bool (ir V c).2]):=by
 apply UJ.vc
 intro w0 e0
 have x0:=aV e0
 have z0:=fE e0
 refine (jA c hc w0).mono ?_
 rintro e w1 ⟨rfl,x1⟩
 have z1:=x1.size
 have oko:qT (Dl c):=FO hc (by simp [sk])
 refine ⟨_,_,_,_,_,_,_,_,_,_,_,_,_,_,_,_,_,_,rfl,x1.heap aa,by decide,_,_,_,abc c,ee ((hV.ext (x0.tr x1)).at oko) ?_⟩
 rintro e je ⟨rfl,im⟩
 have z23:=im.size
 have aug:=x0.tr (x1.tr im)
 refine ⟨_,rfl,im.heap aa,(pg (V (Dl c)) je).mono ?_⟩
 rintro e dL ⟨rfl,rfl⟩
 unfold ir
 refine ⟨_,rfl,rfl,Br.mk (λh=> ?_) (λh=>(zq c hc dL).mono ?_)⟩
 ·rw [if_pos h];exact ⟨rfl,aug⟩
 rintro e gN ⟨s28,rfl,ho,jH⟩
 have z27:=jH.size
 rw [if_neg (by rw [h];decide)]
 have gl:=ho.rd (show 0<3 by decide)
 have hn:s28.n=4:=gl.n
 refine ⟨s28,rfl,jH.heap aa,λn x m wr=>∃j:Nat,x=j/\j+n=4/\m=((cW c).take j).foldl (λm n=>if 0<=iu (V n) then min m (iu (V n)) else m) 7/\Ext gN wr,⟨4,rfl,0,rfl,rfl,rfl,Ext.bU _⟩,?_⟩
 rintro n us x m wr ⟨j,rfl,hj,rfl,xr⟩
 have zr:=xr.size
 have xr0:=aug.tr (jH.tr xr)
 apply Br.mk<;>intro hb
 ·replace hb:=lT hb
  obtain ⟨y,hy⟩:=bZ (l:=cW c) (i:=j) (by have:(cW c).length=4:=rfl;omega)
  have oky:=(PG hc (aQ hy)).1
  have hy':((cW c).map eZ)[j]? =some (eZ y):=by rw [aZ,hy];rfl
  have xc:(cW c).take (j+1)=(cW c).take j++ [y]:=by rw [dq,hy];rfl
  have wk:=nJ (j:=j)
  refine ⟨gl.j2 (i:=(j:Int)) aw aa hb,_,_,_,(gl.ext xr).bK hy',λlN e39 nV e40=> ?_⟩
  have rK:Ext wr nV:=(aV e39).af e40 (ak _)
  have z40:=xh e39 e40
  refine ee ((hV.ext (xr0.tr rK)).at oky) ?_
  rintro e kN ⟨rfl,lO⟩
  have z41:=lO.size
  refine ⟨_,rfl,lO.heap aa,lO.heap aa,(FP (V y) kN).mono ?_⟩
  rintro e iS ⟨rfl,rfl⟩
  refine ⟨_,rfl,rfl,rfl,Br.mk (λh2=> ?_) (λh2=> ?_)⟩
  ·have h2:=fC h2
   refine ⟨n-1,by omega,rfl,j+1,wk,by omega,?_,xr.tr (rK.tr lO)⟩
   rw [xc,nk,pq,List.foldl_nil,if_pos h2]
   split<;>omega
  ·have h2:=fC h2
   refine ⟨n-1,by omega,rfl,j+1,wk,by omega,?_,xr.tr (rK.tr lO)⟩
   rw [xc,nk,pq,List.foldl_nil,if_neg h2]
 ·replace hb:=l6 hb
  have ht:(cW c).take j=cW c:=dI (by have:(cW c).length=4:=rfl;omega)
  rw [ht]
  have hle:(cW c).foldl (λm n=>if 0<=iu (V n) then min m (iu (V n)) else m) 7=L8 V (cW c):=rfl
  have pE:=FN V (cW c) 7 aw
  rw [hle] at pE ⊢
  apply Br.mk<;>intro h2
  ·rw [if_pos (by simpa using h2)];exact ⟨rfl,xr0⟩
  ·rw [if_neg (by simpa using h2),wI];exact ⟨rfl,xr0⟩
def ahF(x:Go.fL.Cg):One (mY x):=by intro v hv;simp at hv;rcases hv with rfl|rfl|rfl|rfl<;>rfl
def L7{w:World}{g:Nat}{B:Nat}(x:Go.fL.Cg)(hr:Row w g (mY x) mW)(hB:B<=g):ar B mW 4 w ⟨aB g,1,1⟩ ([x].map mY):=ar.jU hB hr bo (ak _) rfl bo
def Un{v:Value}{V:Ce->Int}{w:World}(hV:Tl v V w)(c:Ce)(hc:fo c)(level:Int)(hl:0<=level/\level<=7):
  ae 277 #[v,gg c,level] w λe w'=>∃s:Sl,e=s/\ar w mW 4 w' s ((nN V c level).map mY)/\Ext w w':=by
 apply PF.vc;intro w0 e0;have x0:=aV e0;have z0:=fE e0;have r0:Row w0 w (eZ c) si:=Row.nw e0;refine (Uo (hV.ext x0) c hc).bj λw1 x1=> ?_
 have z1:=x1.size;have lE:=x0.tr x1;have awH:cT (ir V c).1:=by
  have:=FN V (cW c) 7 aw;have hle:(cW c).foldl (λm n=>if 0<=iu (V n) then min m (iu (V n)) else m) 7=L8 V (cW c):=rfl;rw [hle] at this;unfold ir cT;split
  ·simp
  ·split
   ·simp
   ·simp only;omega
 have caseA:0<level->(ir V c).2=false->nN V c level=[(c,0)]:=λh1 h2=>by unfold nN;rw [if_pos ⟨h1,h2⟩]
 have caseB:0<level->¬(ir V c).2=false->(ir V c).1≠level->nN V c level=[(c,kv (ir V c).1)]:=λh1 h2 h3=>by unfold nN;rw [if_neg (λq=>h2 q.2),if_pos ⟨h1,h3⟩]
 have armB:0<level->¬(ir V c).2=false->(ir V c).1≠level->ae 329 #[.int .i64 (ir V c).1] w1.drew (λe w6=>∃(x7:Int),e=x7/\w6.heap[w.heap.size]? =w1.drew.heap[w.heap.size]?/\
   ah w6 (aB w.heap.size) 0 [c.1,c.2.1,c.2.2]/\∀w8:World,w8=w6.alloc (.cells #[c.1,c.2.1,c.2.2,x7] mW)->
   (λe w'=>∃s:Sl,e=Ending.returned s/\ar w mW 4 w' s ((nN V c level).map mY)/\Ext w w') (.returned (.slice (aB w6.heap.size) 1 1)) w8):=by
  intro h1 h2 h3;refine (me (ir V c).1 w1.drew awH).gK ?_;refine ⟨_,rfl,rfl,Lo.wv (r0.ext (x1.tr (Ext.dr w1))),λw8 e8=> ?_⟩;have hr:Row w8 w1.drew.heap.size (mY (c,kv (ir V c).1)) mW:=Row.nw e8;have zd:=oa w1;refine ⟨⟨aB w1.drew.heap.size,1,1⟩,rfl,?_,(lE.tr (Ext.dr w1)).ba e8⟩;rw [caseB h1 h2 h3];exact L7 _ hr aa
 refine ⟨_,_,rfl,x1.heap aa,λwj=>wj=w1/\nN V c level=(if V (fH c)=0 then [(fH c,kv 1)] else if sj (V (fH c))=true\/7<=level then [] else ((cW c).filter λn=>decide (V n=0)).map λn=>(n,kv (level+1))),?_,?_⟩
 ·have fine:(¬0<level\/(¬(ir V c).2=false/\(ir V c).1=level))->nN V c level=(if V (fH c)=0 then [(fH c,kv 1)] else if sj (V (fH c))=true\/7<=level then [] else ((cW c).filter λn=>decide (V n=0)).map λn=>(n,kv (level+1))):=λh=>by unfold nN;rw [if_neg (λq=>h.elim (λh=>h q.1) λh=>h.1 q.2),if_neg (λq=>h.elim (λh=>h q.1) λh=>q.2 h.2)]
  refine Br.mk (λh1=>Br.mk (λh2=>λw5 e5=> ?_) (λh2=>Br.mk (λ_=>Br.mk (λh3=> ?_) (λh3=>⟨rfl,rfl,?_⟩)) (λh3=> ?_))) (λh1=>Br.mk (λh3=> ?_) (λh3=>⟨rfl,rfl,?_⟩))
  ·have h1:=fC h1;have hr:Row w5 w1 (mY (c,0)) mW:=Row.nw e5;refine ⟨⟨aB w1.heap.size,1,1⟩,rfl,?_,lE.ba e5⟩;rw [caseA h1 (by simpa using h2)];exact L7 _ hr aa
  ·exact armB (by simpa using h1) (by simpa using h2) (by simpa using h3)
  ·exact fine (.inr ⟨by simpa using h2,by simpa using h3⟩)
  ·rw [h1] at h3;cases h3
  ·rw [h1] at h3;cases h3
  ·exact fine (.inl (by simpa using h1))
 rintro us bw ⟨rfl,hW⟩;rw [hW];refine (jA c hc bw).bj λcu cY=> ?_
 have z14:=cY.size;have okl:qT (fH c):=FO hc (by simp [sk]);refine ⟨_,_,_,_,_,_,_,_,_,_,_,_,_,_,_,_,_,_,rfl,cY.heap aa,aw,_,_,_,Up c,λox e36 jJ e37=> ?_⟩;have mQ:Ext cu jJ:=(aV e36).af e37 (ak _);have z37:=xh e36 e37;have rl:Row jJ cu (eZ (fH c)) si:=by rw [e37];exact Row.set (by rw [e36];exact Row.new cu [_,_,_] _) _
 have A6:=lE.tr (cY.tr mQ);refine ⟨λwj=>Ext jJ wj/\¬V (fH c)=0/\¬(sj (V (fH c))=true\/7<=level),ee ((hV.ext A6).at okl) ?_,?_⟩
 ·rintro e lN ⟨rfl,rD⟩;have z39:=rD.size;refine ⟨_,rfl,rD.heap aa,rD.heap aa,Br.mk (λh=>(me 1 lN.drew inO).mono ?_) (λh=>(pg (V (fH c)) lN).mono ?_)⟩
  ·rintro e kN ⟨rfl,rfl⟩;have h:=fC h;refine ⟨_,rfl,rfl,rfl,Lo.wv (rl.ext (rD.tr (Ext.dr lN))),λiS X6=> ?_⟩;have hr:Row iS lN.drew.heap.size (mY (fH c,kv 1)) mW:=Row.nw X6;have zd:=oa lN;refine ⟨⟨aB lN.drew.heap.size,1,1⟩,rfl,?_,(A6.tr (rD.tr (Ext.dr lN))).ba X6⟩;rw [if_pos h];exact L7 _ hr aa
  ·rintro e kh ⟨rfl,rfl⟩;have h:=fC h;rw [if_neg h];refine ⟨_,rfl,rfl,rfl,Br.mk (λh2=> ?_) (λh2=>Br.mk (λh3=> ?_) (λh3=>⟨rfl,rfl,rD,h,?_⟩))⟩
   ·rw [if_pos (.inl h2)];exact ⟨⟨none,0,0⟩,rfl,ar.nil,A6.tr rD⟩
   ·rw [if_pos (.inr (by simpa using h3))];exact ⟨⟨none,0,0⟩,rfl,ar.nil,A6.tr rD⟩
   ·rintro (q|q)
    ·rw [q] at h2;cases h2
    ·simp at h3;omega
 rintro us oK ⟨Fa,h1,h2⟩;have z47:=Fa.size;rw [if_neg h1,if_neg h2];have awI:=A6.tr Fa;refine (zq c hc oK).mono ?_;rintro e lP ⟨s49,rfl,awJ,KQ⟩;have z48:=KQ.size;have awK:=awI.tr KQ;have gl:=awJ.rd (show 0<3 by decide);have aEI:s49.n=4:=gl.n;refine ⟨s49,rfl,KQ.heap aa,KQ.heap aa,λn x V6 wr=>∃j:Nat,x=j/\j+n=4/\ar lP mW 4 wr V6 (((((cW c).take j).filter λn=>decide (V n=0)).map λn=>((n,kv (level+1)):Go.fL.Cg)).map mY)/\Ext lP wr,⟨4,rfl,rfl,0,rfl,rfl,ar.nil,Ext.bU _⟩,?_⟩;rintro n us x V6 wr ⟨j,rfl,hj,ho,xr⟩;have zr:=xr.size;have xr0:=awK.tr xr;apply Br.mk<;>intro hb
 ·replace hb:=lT hb;obtain ⟨y,hy⟩:=bZ (l:=cW c) (i:=j) (by have:(cW c).length=4:=rfl;omega);have oky:=(PG hc (aQ hy)).1;have hy':((cW c).map eZ)[j]? =some (eZ y):=by rw [aZ,hy];rfl
  have xc:(cW c).take (j+1)=(cW c).take j++ [y]:=by rw [dq,hy];rfl
  have wk:=nJ (j:=j);refine ⟨gl.j2 (i:=(j:Int)) aw aa hb,_,_,_,(gl.ext xr).bK hy',λnX e60 vv e61=> ?_⟩;have KS:Ext wr vv:=(aV e60).af e61 (ak _);have z61:=xh e60 e61;have ry:Row vv wr (eZ y) si:=by rw [e61];exact Row.set (by rw [e60];exact Row.new wr [_,_,_] _) _
  refine ee ((hV.ext (xr0.tr KS)).at oky) ?_;rintro e kz ⟨rfl,rJ⟩;have z62:=rJ.size;refine ⟨_,rfl,rJ.heap aa,rJ.heap aa,rJ.heap aa,Br.mk (λh3=> ?_) (λh3=> ?_)⟩
  ·have wl:aC (level+1)=level+1:=wI;rw [wl];refine (me (level+1) kz.drew inO).gK ?_;have xd:=KS.tr (rJ.tr (Ext.dr kz));have zd:=oa kz;refine ⟨_,rfl,rfl,rfl,rfl,Lo.wv (ry.ext (rJ.tr (Ext.dr kz))),λyy e66=> ?_⟩;subst e66;have ho':=ho.ext xd;have aEJ:V6.n<=4:=by have h1:=(ho.rd (show 0<4 by decide)).n;have h2:=zw (λn=>decide (V n=0)) ((cW c).take j);rw [aJ,aJ] at h1;rw [cK] at h2;omega
   obtain ⟨S9,hres8⟩:=ho'.kU (bytes:=32) (news:=mY (y,kv (level+1))) (.cells #[y.1,y.2.1,y.2.2,(kv (level+1))] mW) aa rfl (ahF _) aa aa;refine ⟨S9,λs67 OO awN=> ?_⟩;obtain ⟨f8,KT,hn8,x8,hk8,-⟩:=hres8 s67 OO awN;have xa:=Ext.al kz.drew (.cells #[y.1,y.2.1,y.2.2,(kv (level+1))] mW);have anb:∀b,V6.aX=some b->lP.heap.size<=b/\b<wr.heap.size:=λb hb=>ho.own.lt hb
   have kp:∀j,(j<lP.heap.size\/wr.heap.size<=j)->j<kz.drew.heap.size->OO.heap[j]? =(kz.drew.alloc (.cells #[y.1,y.2.1,y.2.2,(kv (level+1))] mW)).heap[j]? :=λj hj hj2=>by rw [hk8 j (λhb=>by have:=anb j hb;omega) hj2,xa.heap hj2]
   refine ⟨kp _ (.inl aa) aa,kp _ (.inl aa) aa,kp _ (.inr aa) aa,f8,n-1,aa,rfl,rfl,j+1,wk,aa,?_,(Below.trans (xr.tr xd) x8:Below lP lP OO)⟩;rw [xc,wC,bS,bS,WW (by simpa using h3)];exact KT
  ·refine ⟨n-1,aa,rfl,rfl,j+1,wk,aa,?_,xr.tr (KS.tr rJ)⟩;rw [xc,wC,bS,bS,WX (by simpa using h3)];simpa using ho.ext (KS.tr rJ)
 ·replace hb:=l6 hb;have ht:(cW c).take j=cW c:=dI (by have:(cW c).length=4:=rfl;omega);rw [ht] at ho;exact ⟨V6,rfl,ho.low aa,xr0⟩
def acR{b:Int}(h:sj b=true):0<=iu b/\iu b<=7:=by unfold iu;rw [h,if_pos rfl];unfold sj at h;simp only [gP,cL] at h;omega
def Uq{v:Value}{V:Ce->Int}{w:World}(hV:Tl v V w)(c:Ce)(hc:fo c):
  ae 220 #[v,gg c] w λe w'=>∃s:Sl,e=s/\ar w mW 4 w' s ((ja V c).map mY)/\Ext w w':=by
 apply Yw.vc
 intro w0 e0
 have x0:=aV e0
 have z0:=fE e0
 have r0:Row w0 w (eZ c) si:=Row.nw e0
 refine ee ((hV.ext x0).at hc.ok) ?_
 rintro e w1 ⟨rfl,x1⟩
 have z1:=x1.size
 have lE:=x0.tr x1
 refine ⟨_,rfl,x1.heap aa,(xz (V c) w1).mono ?_⟩
 rintro e w3 ⟨rfl,rfl⟩
 unfold ja
 refine ⟨_,rfl,rfl,Br.mk (λh=> ?_) (λh=>(pg (V c) w3).mono ?_)⟩
 ·rw [if_pos (by simpa using h)]
  refine (Yx (hV.ext lE) c hc).mono ?_
  rintro e w5 ⟨s,rfl,ho,x5⟩
  exact ⟨s,rfl,x5.heap aa,s,rfl,ho.low aa,lE.tr x5⟩
 ·rintro e w7 ⟨rfl,rfl⟩
  rw [if_neg (by simpa using h)]
  refine ⟨_,rfl,rfl,Br.mk (λh2=>(FP (V c) w7.drew).mono ?_) (λh2=> ?_)⟩
  ·rintro e w9 ⟨rfl,rfl⟩
   rw [h2,if_pos rfl]
   have xd:=lE.tr (Ext.dr w7)
   have zd:=oa w7
   refine ⟨_,rfl,rfl,Lo.wv (r0.ext (x1.tr (Ext.dr w7))),(Un (hV.ext xd) c hc (iu (V c)) (acR h2)).mono ?_⟩
   rintro e bB ⟨s,rfl,ho,bR⟩
   exact ⟨s,rfl,bR.heap aa,s,rfl,ho.low aa,xd.tr bR⟩
  ·rw [h2,if_neg aw]
   exact ⟨⟨none,0,0⟩,rfl,ar.nil,lE⟩
def Oc(occ:Value)(O:Ce->Bool)(F:Nat->Prop)(w:World):Prop:=∃D:Nat->Prop,(∀i,D i->i<w.heap.size/\¬F i)/\∀w',(∀i,D i->w'.heap[i]? =w.heap[i]?)->∀c,qT c->bu Tryz.prog occ [gg c] w' λe w''=>e=Value.bool (O c)/\Ext w' w''
section
variable {F F':Nat->Prop} {w w':World} {s o t:Nat} {M M':Sm} {occ:Value} {O:Ce->Bool}
def Oc.ve(h:Oc occ O F w)(ht:aI F F' w w'):Oc occ O F' w':=by
 obtain ⟨D,h1,h2⟩:=h;refine ⟨D,λi hi=>⟨gA (h1 i hi).1 ht.mod.size,λhf=> ?_⟩,λw'' hk=>h2 w'' λi hi=>(hk i hi).trans (ht.mod.same i (h1 i hi).1 (h1 i hi).2)⟩;rcases ht.sub i hf with q|q
 ·exact (h1 i hi).2 q
 ·have:=(h1 i hi).1;omega
def Oc.ext(h:Oc occ O F w)(x:Ext w w'):Oc occ O F w':=h.ve (aI.aq x)
def Oc.at(h:Oc occ O F w){c:Ce}(hc:qT c):bu Tryz.prog occ [gg c] w λe w'=>e=Value.bool (O c)/\Ext w w':=by obtain ⟨D,h1,h2⟩:=h;exact h2 w (λ_ _=>rfl) c hc
def qJ.fold{n:Nat}:∀{M:Sm} (l:List Go.fL.Cg),qJ M n->qJ (l.foldl fb M) (n+7*l.length)
 |M,[],h=>h
 |M,x::l,h=>(qJ.fold l (h.change x)).mono (by simp only [cD];omega)
def Re(V:Ce->Int)(c:Ce):(ja V c).length<=4:=by
 unfold ja Sn nN;split
 ·split<;>simp
 ·split
  ·split
   ·simp
   ·split
    ·simp
    ·split
     ·simp
     ·split
      ·simp
      ·rw [aJ];exact zw _ _
  ·simp
def aa7(V:Ce->Int)(c:Ce):∀x ∈ ja V c,x.1=c\/x.1 ∈ sk c:=by
 have aka:fH c ∈ sk c:=by simp [sk]
 have hside:∀n ∈ cW c,n ∈ sk c:=λn hn=>by
  unfold cW at hn;unfold sk;simp only [cj,iY,or_false] at hn ⊢;rcases hn with h|h|h|h
  ·exact .inl h
  ·exact .inr (.inl h)
  ·exact .inr (.inr (.inr (.inr (.inl h))))
  ·exact .inr (.inr (.inr (.inr (.inr h))))
 intro x hx;unfold ja at hx;split at hx
 ·unfold Sn at hx;split at hx
  ·simp only [cj,iY,or_false] at hx;rcases hx with rfl|rfl
   ·exact .inl rfl
   ·exact .inr aka
  ·cases hx
 ·split at hx
  ·unfold nN at hx;split at hx
   ·simp only [cj,iY,or_false] at hx;rw [hx];exact .inl rfl
   ·split at hx
    ·simp only [cj,iY,or_false] at hx;rw [hx];exact .inl rfl
    ·split at hx
     ·simp only [cj,iY,or_false] at hx;rw [hx];exact .inr aka
     ·split at hx
      ·cases hx
      ·obtain ⟨n,hn,rfl⟩:=bf.1 hx;exact .inr (hside n (j3.1 hn).1)
  ·cases hx
def Rf(h:SF F w s o t M occ)(hO:Oc occ O F w)(c:Ce)(hc:Ck c)(hk:qJ M 700000000):
  ae 151 #[s,gg c] w λe w'=>e=pH/\nm F w s o t (wg O M c) occ w':=by
 apply Gg.vc;have hc':=id hc;unfold Ck at hc';intro w0 e0;have x0:Ext w w0.drew:=(aV e0).tr (Ext.dr w0);have z0:w0.drew.heap.size=w.heap.size+1:=by show w0.heap.size=_;rw [e0];simp
 have h0:=h.ext x0;obtain ⟨g,sd,hr,hdr,-,hsdF,bq⟩:=h0.row;obtain ⟨Fw,hW,-,-⟩:=h0.world;refine ⟨_,(hr.at 1 rfl),(CM hW c hc.wide.ok (ahu aa aa)).bj λw2 x2=> ?_⟩;have z2:=x2.size;have yq:=x0.tr x2;have aka:qT (fH c):=FO hc.wide (by simp [sk]);refine ⟨_,rfl,x2.heap aa,Br.mk (λhb=> ?_) (λhb=> ?_)⟩
 ·have xd:=x2.tr (Ext.dr w2);have zd:=oa w2;have asT:=hk.now;have wr:aC (M.now+1)=M.now+1:=wI;obtain ⟨g',m,qs,hq,H3,⟨sd',hr'⟩,dP,hresq⟩:=(h0.ext xd).queue;refine ⟨_,hr'.at 0 rfl,_,hr'.at 3 rfl,?_⟩;dsimp only;rw [wr];have hll:=hk.l;refine (Q.GO hq H3 aa c (M.now+1)).mono ?_;rintro e w6 ⟨rfl,qs',hq',ht⟩;obtain ⟨F2,hS2,H4⟩:=hresq hq' (H3.add c _) ht;have hsF:¬Q.gS g' m qs s:=hq.dT hr' aw aw;refine ⟨_,rfl,H4.mod.same _ aa (λhf=>by have:=h.lt hf;omega),pw ((ht.mod.row hr' hsF).at 3 rfl),rfl,?_⟩;unfold wg;rw [if_pos (by simpa using hb)];exact ⟨F2,hS2,(aI.aq (x0.tr xd)).trans H4⟩
 have aBh:¬FA M.T.2 c=false:=by simpa using hb
 have jY:=hr.ext x2;refine ⟨_,(jY.at 1 rfl),(o5 (hW.ext x2)).bj λw9 hw9=> ?_⟩;subst hw9;refine ⟨_,rfl,rfl,(Uq (h0.tl.ext x2) c hc.wide).mono ?_⟩;rintro e bB ⟨nC,rfl,ho,bR⟩;have z11:=bR.size;have gl:=ho.rd (show 0<4 by decide);have aBi:=gl.n;have hLlen:=Re (jm M.T.2) c;have hLw:∀x ∈ ja (jm M.T.2) c,fo x.1:=λx hx=>by
  rcases aa7 _ _ x hx with q|q
  ·rw [q];exact hc.wide
  ·exact aiS hc q
 have hU:wg O M c=if GR O M c=true then fb {M with nq:=M.nq++ [fH c]} (c,0) else (ja (jm M.T.2) c).foldl fb M:=by unfold wg;rw [if_neg aBh]
 have hH:GR O M c=(decide (jm M.T.2 c=3) &&(!(ja (jm M.T.2) c).isEmpty && O (fH c))):=rfl;generalize ja (jm M.T.2) c=L at*;rw [aJ] at aBi;refine ⟨nC,rfl,bR.heap aa,(jA c hc.wide bB).bj λbw cN=> ?_⟩;have z13:=cN.size;refine ⟨_,_,_,_,_,_,_,_,_,_,_,_,_,_,_,_,_,_,rfl,cN.heap aa,aw,_,_,_,Up c,λiI e35 ox e36=> ?_⟩;have pP:Ext bw ox:=(aV e35).af e36 (ak _);have z36:=xh e35 e36;have xd:=Ext.dr ox;have zd:=oa ox;have alC:=cN.tr (pP.tr xd);have aue:=yq.tr (bR.tr alC);refine ee ((h.ext aue).tl.at hc.wide.ok) ?_;rintro e jJ ⟨rfl,mQ⟩;have z37:=mQ.size;have A6:=aue.tr mQ;have TD:=alC.tr mQ;refine ⟨_,rfl,mQ.heap aa,mQ.heap aa,(xz (jm M.T.2 c) jJ).bj λlN ao2=> ?_⟩;subst ao2;have aBj:=jY.ext (bR.tr TD);refine ⟨_,rfl,rfl,rfl,Br.mk (λhf=>Br.mk (λhp=> ?_) (λhp=> ?_)) (λhf=> ?_)⟩
 ·refine ⟨_,aBj.at 4 rfl,ee ((hO.ext A6).at aka) ?_⟩;rintro e pF ⟨rfl,yP⟩;have z42:=yP.size;have akb:=A6.tr yP;have hpn:(!L.isEmpty)=true:=by
   have:0<L.length:=by simp only [cL,gt_iff_lt] at hp;omega
   cases L with
   |nil=>simp at this
   |cons=>rfl
  have hf3:decide (jm M.T.2 c=3)=true:=by simpa using hf
  refine ⟨_,rfl,yP.heap aa,yP.heap aa,Br.mk (λhh=> ?_) (λhh=> ?_)⟩
  ·have hHt:GR O M c=true:=by rw [hH,hf3,hpn,hh];rfl
   intro kh e44;have rE:=aV e44;have z44:=fE e44;have rch:Row kh pF (mY (c,0)) mW:=Row.nw e44;have aps:=Ext.dr kh;have aIB:=oa kh;have auf:=akb.tr (rE.tr aps);have aD3:=x2.tr ((bR.tr TD).tr (yP.tr (rE.tr aps)));obtain ⟨g2,sd2,agR,hdr44,hFs,hsdF2,hres44⟩:=(h.ext auf).row;refine ⟨sd2,agR.at 5 rfl,λIg e46=> ?_⟩;subst e46;have tL:sd2.n=M.nq.length:=by have:=(hdr44.rd (show 0<3 by decide)).n;rwa [aJ] at this
   have hkd:=hk.d;obtain ⟨S9,hres8⟩:=hdr44.kU (bytes:=24) (news:=eZ (fH c)) (.cells #[.int .i64 (fH c).1,.int .i64 (fH c).2.1,.int .i64 (fH c).2.2] si) (dU _) rfl (HH _) aa aa;refine ⟨S9,λTp lP aBl=> ?_⟩;obtain ⟨f8,KT,hn8,x8,hk8,iN⟩:=hres8 Tp lP aBl;have xa:=Ext.al kh.drew (.cells #[.int .i64 (fH c).1,.int .i64 (fH c).2.1,.int .i64 (fH c).2.2] si);have hsdlt:∀b,sd2.aX=some b->b<w.heap.size:=λb hb=>h.lt (hsdF2 b hb)
   have kp:∀j,w.heap.size<=j->j<kh.drew.heap.size->lP.heap[j]? =(kh.drew.alloc (.cells #[.int .i64 (fH c).1,.int .i64 (fH c).2.1,.int .i64 (fH c).2.2] si)).heap[j]? :=λj h1 h2=>by rw [hk8 j (λhb=>by have:=hsdlt j hb;omega) h2,xa.heap h2]
   have aIC:=h.lt hFs;have m48:Mod (λj=>sd2.aX=some j) kh.drew lP:=Mod.xi x8 hk8;have aBn:¬sd2.aX=some s:=λe=>by obtain ⟨cs',hr'⟩:=aU hdr44 aw e;exact hr'.ne agR aw rfl
   have alD:=m48.row agR aBn;obtain ⟨p1,p2⟩:=alD.fF (j:=5) (v:=.slice Tp.a Tp.n Tp.c) (by simp [smC]) rfl;have z48:=m48.size;have pb:∀j:Nat,s<j->bN (ab (some ⟨s,0,none⟩) 5)≠some j:=λj hj e=>by
    rw [cB] at e;have:s=j:=by simpa [bN] using e
    omega
   refine ⟨kp _ aa aa,kp _ aa aa,kp _ aa aa,f8,⟨rfl,p1⟩,pb _ aa,pb _ aa,pb _ aa,pb _ aa,λnH e49=> ?_⟩;obtain ⟨q1,q2⟩:=p2 nH e49;have ho9:∀b,Tp.aX=some b->b≠s:=λb hb=>by obtain ⟨cs',hr'⟩:=aU KT aw hb;exact hr'.ne alD aw
   have m49:Mod (λj=>j=s\/sd2.aX=some j) kh.drew nH:=(m48.mono λi _ hi=> .inr hi).trans (q2.mono λi _ hi=> .inl hi);obtain ⟨F3,hS3,hT3⟩:=hres44 (M':={M with nq:=M.nq++ [fH c]}) rfl rfl rfl rfl rfl m49 q1 (by rw [bS];exact q2.dX KT ho9) (λb hb=>by
    rcases iN with e|e
    ·exact .inl (by rw [<-e];exact hb)
    ·rw [e] at hb;cases hb;exact .inr (kW _))
   have z49:=q2.size;have aBp:Row nH kh.drew.heap.size (eZ (fH c)) si:=q2.row (Row.same (Row.new kh.drew [_,_,_] si) f8) aa;have hnl:¬F3 kh.drew.heap.size:=hS3.dT aBp aqI.1 aw aw aw aw aw (λg sd r1 hb=>by
    have e1:=(r1.at 5 rfl).symm.trans (q1.at 5 rfl);have e2:sd.a=Tp.a:=by injection e1 with e1;injection e1
    have e3:sd.aX=Tp.aX:=by unfold Sl.aX;rw [e2]
    rw [e3] at hb;rcases iN with e|e
    ·have:=hsdlt _ (by rw [<-e];exact hb);omega
    ·rw [e] at hb;simp at hb)
   have hch49:Row nH pF (mY (c,0)) mW:=m49.row (rch.ext aps) (λq=>by
    rcases q with q|q
    ·omega
    ·have:=hsdlt _ q;omega)
   have hF3:∀i,F3 i->i<w.heap.size\/kh.heap.size<=i:=λi hi=>(hT3.sub i hi).imp (λq=>h.lt q) id
   refine ⟨λn x wr=>(x=0/\n=1/\wr=nH)\/(x=1/\n=0/\nm F3 nH s o t (fb {M with nq:=M.nq++ [fH c]} (c,0)) occ wr),⟨1,rfl,rfl,rfl,rfl,.inl ⟨rfl,rfl,rfl⟩⟩,?_⟩;rintro n us x wr (⟨rfl,rfl,rfl⟩|⟨rfl,rfl,hS⟩)
   ·refine Br.mk (λ_=> ?_) (λq=>by simp at q);refine ⟨⟨rfl,aw,aw⟩,_,_,_,_,Lo.wv hch49,λnX e60 vv e61=> ?_⟩;have KS:Ext wr vv:=(aV e60).af e61 (ak _);have z61:=xh e60 e61;refine (qx (hS3.ext KS) (c,0) hc.wide ⟨by have:=hk.l;simp only;omega,by have:=hk.c;simp only;omega,hk.now,by have:=hk.d;simp only [bY,List.length_singleton];omega⟩).mono ?_;rintro e kz ⟨rfl,F4,hS4,hT4⟩;have nf:∀i,(w.heap.size<=i/\i<kh.heap.size\/wr.heap.size<=i)->i<vv.heap.size->kz.heap[i]? =vv.heap[i]? :=λi h1 h2=>hT4.mod.same i h2 λhf=>by
     rcases h1 with ⟨h1,S1⟩|h1
     ·rcases hF3 i hf with q|q<;>omega
     ·have:=hS3.lt hf;omega
    refine ⟨rfl,nf _ (.inl aa) aa,nf _ (.inl aa) aa,nf _ (.inl aa) aa,hT4.mod.same _ aa hnl,nf _ (.inr aa) aa,0,aa,rfl,rfl,rfl,rfl,.inr ⟨rfl,rfl,F4,hS4,(aI.aq KS).trans hT4⟩⟩
   ·refine Br.mk (λq=>by simp at q) (λ_=> ?_);rw [hU,if_pos hHt];exact ⟨rfl,nm.trans ((aI.aq auf).trans hT3) hS⟩
  ·have hHf:¬GR O M c=true:=by rw [hH,hh,Bool.and_false,Bool.and_false];decide
   refine ⟨λn x wr=>∃(j:Nat)(F':Nat->Prop),x=j/\j+n=L.length/\SF F' wr s o t ((L.take j).foldl fb M) occ/\aI F F' pF wr,⟨L.length,rfl,rfl,0,F,rfl,aa,h.ext akb,aI.refl _ _⟩,?_⟩;rintro n us x wr ⟨j,F',rfl,hj,hS,hT⟩;have zr:=hT.mod.size;have hzw42:=(akb).size;have H9:dB wr nC 4 (L.map mY):=hT.mod.rdK aw (gl.ext (TD.tr yP)) λ_ b hb hf=>by have:=(ho.own.lt hb).1;have:=h.lt hf;omega
   have nf:∀{w2:World} {F2:Nat->Prop} {w1:World},Ext wr w1->aI F' F2 w1 w2->∀i,(w.heap.size<=i/\i<pF.heap.size\/wr.heap.size<=i)->i<w1.heap.size->w2.heap[i]? =w1.heap[i]? :=λx1 t2 i h1 h2=>t2.mod.same i h2 λhf=>by
    rcases h1 with ⟨h1,S1⟩|h1
    ·rcases hT.sub i hf with q|q
     ·have:=h.lt q;omega
     ·omega
    ·have:=hS.lt hf;omega
   apply Br.mk<;>intro hb
   ·replace hb:=lT hb;obtain ⟨y,hy⟩:=bZ (l:=L) (i:=j) aa;have hy':(L.map mY)[j]? =some (mY y):=by rw [aZ,hy];rfl
    have xc:L.take (j+1)=L.take j++ [y]:=by rw [dq,hy];rfl
    have wk:=nJ (j:=j);refine ⟨H9.j2 (i:=(j:Int)) aw aa hb,_,_,_,_,H9.bK hy',λw86 e86 Ih e87=> ?_⟩;have xf:Ext wr Ih:=(aV e86).af e87 (ak _);have z87:=xh e86 e87;refine (qx (hS.ext xf) y (hLw y (aQ hy)) ((hk.fold (L.take j)).mono (by rw [cK];omega))).mono ?_;rintro e TT ⟨rfl,F2,hS2,H4⟩;refine ⟨rfl,nf xf H4 _ (.inl aa) aa,nf xf H4 _ (.inl aa) aa,nf xf H4 _ (.inr aa) aa,n-1,aa,rfl,rfl,j+1,F2,wk,aa,?_,(hT.trans (aI.aq xf)).trans H4⟩;rw [xc,nk];exact hS2
   ·replace hb:=l6 hb;rw [dI aa] at hS;rw [hU,if_neg hHf];exact ⟨rfl,F',hS,(aI.aq akb).trans hT⟩
 ·have hHf:¬GR O M c=true:=by
   have:L=[]:=by
    have:¬0<L.length:=by simp only [fm,gt_iff_lt] at hp;omega
    exact tj.1 aa
   rw [hH,this];simp
  refine ⟨λn x wr=>∃(j:Nat)(F':Nat->Prop),x=j/\j+n=L.length/\SF F' wr s o t ((L.take j).foldl fb M) occ/\aI F F' lN wr,⟨L.length,rfl,rfl,0,F,rfl,aa,h.ext A6,aI.refl _ _⟩,?_⟩;rintro n us x wr ⟨j,F',rfl,hj,hS,hT⟩;have zr:=hT.mod.size;have hzw39:=(A6).size;have H9:dB wr nC 4 (L.map mY):=hT.mod.rdK aw (gl.ext TD) λ_ b hb hf=>by have:=(ho.own.lt hb).1;have:=h.lt hf;omega
  have nf:∀{w2:World} {F2:Nat->Prop} {w1:World},Ext wr w1->aI F' F2 w1 w2->∀i,(w.heap.size<=i/\i<lN.heap.size\/wr.heap.size<=i)->i<w1.heap.size->w2.heap[i]? =w1.heap[i]? :=λx1 t2 i h1 h2=>t2.mod.same i h2 λhf=>by
   rcases h1 with ⟨h1,S1⟩|h1
   ·rcases hT.sub i hf with q|q
    ·have:=h.lt q;omega
    ·omega
   ·have:=hS.lt hf;omega
  apply Br.mk<;>intro hb
  ·replace hb:=lT hb;obtain ⟨y,hy⟩:=bZ (l:=L) (i:=j) aa;have hy':(L.map mY)[j]? =some (mY y):=by rw [aZ,hy];rfl
   have xc:L.take (j+1)=L.take j++ [y]:=by rw [dq,hy];rfl
   have wk:=nJ (j:=j);refine ⟨H9.j2 (i:=(j:Int)) aw aa hb,_,_,_,_,H9.bK hy',λw86 e86 Ih e87=> ?_⟩;have xf:Ext wr Ih:=(aV e86).af e87 (ak _);have z87:=xh e86 e87;refine (qx (hS.ext xf) y (hLw y (aQ hy)) ((hk.fold (L.take j)).mono (by rw [cK];omega))).mono ?_;rintro e TT ⟨rfl,F2,hS2,H4⟩;refine ⟨rfl,nf xf H4 _ (.inl aa) aa,nf xf H4 _ (.inl aa) aa,nf xf H4 _ (.inr aa) aa,n-1,aa,rfl,rfl,j+1,F2,wk,aa,?_,(hT.trans (aI.aq xf)).trans H4⟩;rw [xc,nk];exact hS2
  ·replace hb:=l6 hb;rw [dI aa] at hS;rw [hU,if_neg hHf];exact ⟨rfl,F',hS,(aI.aq A6).trans hT⟩
 ·have hHf:¬GR O M c=true:=by
   have:¬jm M.T.2 c=3:=by simpa using hf
   rw [hH,decide_eq_false this];simp
  refine ⟨λn x wr=>∃(j:Nat)(F':Nat->Prop),x=j/\j+n=L.length/\SF F' wr s o t ((L.take j).foldl fb M) occ/\aI F F' lN wr,⟨L.length,rfl,rfl,0,F,rfl,aa,h.ext A6,aI.refl _ _⟩,?_⟩;rintro n us x wr ⟨j,F',rfl,hj,hS,hT⟩;have zr:=hT.mod.size;have hzw39:=(A6).size;have H9:dB wr nC 4 (L.map mY):=hT.mod.rdK aw (gl.ext TD) λ_ b hb hf=>by have:=(ho.own.lt hb).1;have:=h.lt hf;omega
  have nf:∀{w2:World} {F2:Nat->Prop} {w1:World},Ext wr w1->aI F' F2 w1 w2->∀i,(w.heap.size<=i/\i<lN.heap.size\/wr.heap.size<=i)->i<w1.heap.size->w2.heap[i]? =w1.heap[i]? :=λx1 t2 i h1 h2=>t2.mod.same i h2 λhf=>by
   rcases h1 with ⟨h1,S1⟩|h1
   ·rcases hT.sub i hf with q|q
    ·have:=h.lt q;omega
    ·omega
   ·have:=hS.lt hf;omega
  apply Br.mk<;>intro hb
  ·replace hb:=lT hb;obtain ⟨y,hy⟩:=bZ (l:=L) (i:=j) aa;have hy':(L.map mY)[j]? =some (mY y):=by rw [aZ,hy];rfl
   have xc:L.take (j+1)=L.take j++ [y]:=by rw [dq,hy];rfl
   have wk:=nJ (j:=j);refine ⟨H9.j2 (i:=(j:Int)) aw aa hb,_,_,_,_,H9.bK hy',λw86 e86 Ih e87=> ?_⟩;have xf:Ext wr Ih:=(aV e86).af e87 (ak _);have z87:=xh e86 e87;refine (qx (hS.ext xf) y (hLw y (aQ hy)) ((hk.fold (L.take j)).mono (by rw [cK];omega))).mono ?_;rintro e TT ⟨rfl,F2,hS2,H4⟩;refine ⟨rfl,nf xf H4 _ (.inl aa) aa,nf xf H4 _ (.inl aa) aa,nf xf H4 _ (.inr aa) aa,n-1,aa,rfl,rfl,j+1,F2,wk,aa,?_,(hT.trans (aI.aq xf)).trans H4⟩;rw [xc,nk];exact hS2
  ·replace hb:=l6 hb;rw [dI aa] at hS;rw [hU,if_neg hHf];exact ⟨rfl,F',hS,(aI.aq A6).trans hT⟩
end
section
variable {F F':Nat->Prop} {w w':World} {s o t:Nat} {M M':Sm} {occ:Value} {O:Ce->Bool}
def Xl(l:List Ce):Prop:=∀y ∈ l,Ck y
def qJ.upd{n:Nat}(h:qJ M n)(O:Ce->Bool)(c:Ce):qJ (wg O M c) (n+40):=by
 have h1:=h.l;have h2:=BW M.q c (M.now+1);unfold wg;split
 ·exact ⟨by simp only;omega,by have:=h.c;simp only;omega,h.now,by have:=h.d;simp only;omega⟩
 ·split
  ·have:qJ {M with nq:=M.nq++ [fH c]} (n+1):=⟨by simp only;omega,by have:=h.c;simp only;omega,h.now,by have:=h.d;simp only [bY,List.length_singleton];omega⟩;exact (this.change _).mono aa
  ·have:=Re (jm M.T.2) c;exact (h.fold _).mono aa
def qJ.Z8{n:Nat}(O:Ce->Bool):∀{M:Sm} (l:List Ce),qJ M n->qJ (l.foldl (wg O) M) (n+40*l.length)
 |M,[],h=>h
 |M,x::l,h=>(qJ.Z8 O l (h.upd O x)).mono (by simp only [cD];omega)
def E0{q:QS}{now b:Int}(hb:1<=b/\b<=64):(MK q now b).2.length<=64:=by unfold MK iV;rw [aJ,cK];omega
def Zm(h:SF F w s o t M occ)(hO:Oc occ O F w)(hd:Xl (vX M))(hk:qJ M 600000000)(hb:1<=M.dC/\M.dC<=64):
  ae 85 #[s] w λe w'=>e=Value.int .i64 (vX M).length/\nm F w s o t (QR O M) occ w':=by
 obtain ⟨g,sd,hr,ho,-,-,bq⟩:=h.row;apply Mp.vc;have asT:=hk.now;have wr:aC (M.now+1)=M.now+1:=wI;have en:(if 1099511627776<M.now+1 then 1099511627776 else M.now+1)=qK M:=by unfold qK;split<;>omega
 obtain ⟨p1,p2⟩:=hr.fF (j:=3) (v:=.int .i64 (qK M)) (by simp [smC]) rfl;refine ⟨M.now,hr.at 3 rfl,⟨rfl,p1⟩,λw1 e1=> ?_⟩;rw [wr,en] at e1;obtain ⟨q1,q2⟩:=p2 w1 e1;have hso:∀b,sd.aX=some b->b≠s:=λb hb=>by obtain ⟨cs',hr'⟩:=aU ho aw hb;exact hr'.ne hr aw
 obtain ⟨F1,h1,t1⟩:=bq (M':={M with now:=qK M}) (occ':=occ) (sd':=sd) rfl rfl rfl rfl rfl (q2.mono λi _ hi=> .inl hi) q1 (q2.dX ho hso) (λb hb=> .inl hb);have xd:=Ext.dr w1;have t1d:=t1.trans (aI.aq xd);obtain ⟨g',m,qs,hq,H3,⟨sd',hr'⟩,dP,hresq⟩:=(h1.ext xd).queue;refine ⟨_,hr'.at 0 rfl,_,hr'.at 3 rfl,_,hr'.at 2 rfl,(Q.aed hq H3 (qK M) M.dC).mono ?_⟩;rintro e w5 ⟨s6,rfl,qs',lM,hq',ht⟩;obtain ⟨F5,h5,t5⟩:=hresq hq' (H3.due _ _) ht;have h5:SF F5 w5 s o t (GU M) occ:=h5;have T5:=t1d.trans t5;have hO5:=hO.ve T5;have gl:=lM.rd (show 0<3 by decide);have hdl:(vX M).length<=64:=E0 hb;have gl:dB w5 s6 3 ((vX M).map eZ):=gl;have lM:ar w1.drew.heap.size si 3 w5 s6 ((vX M).map eZ):=lM;have hk5:qJ (GU M) 600000000:=⟨hk.l,hk.c,by show 0<=qK M/\qK M<=_;unfold qK;omega,hk.d⟩;obtain ⟨g1,sd1,r1,-,-,f1,-⟩:=(h1.ext xd).row;have hsq:¬Q.gS g' m qs s:=hq.dT hr' aw aw;have r5:=ht.mod.row r1 hsq;have hsF:∀b,s6.aX=some b->¬F5 b:=λb hb=>by
  obtain ⟨cs6,hr6⟩:=aU lM aw hb;refine h5.dT hr6 aqI.1 aw aw aw aw aw (λg sd r2 lK=> ?_);have e1:=(r2.at 5 rfl).symm.trans (r5.at 5 rfl);have e2:sd.a=sd1.a:=by injection e1 with e1;injection e1
  have e3:sd.aX=sd1.aX:=by unfold Sl.aX;rw [e2]
  have q1:=h1.lt (f1 b (by rw [<-e3];exact lK));have q2:=(lM.own.lt hb).1;have q3:=oa w1;omega
 unfold QR;generalize vX M=L at*;generalize GU M=M0 at*;have hn6:=gl.n;rw [aJ] at hn6;refine ⟨s6,rfl,λn x wr=>∃(j:Nat)(F':Nat->Prop),x=j/\j+n=L.length/\SF F' wr s o t ((L.take j).foldl (wg O) M0) occ/\aI F5 F' w5 wr,⟨L.length,0,F5,rfl,aa,h5,aI.refl _ _⟩,?_⟩;rintro n us x X3 ⟨j,F',rfl,hj,hS,hT⟩;have zr:=hT.mod.size;have H9:dB X3 s6 3 (L.map eZ):=hT.mod.rdK aw gl λ_ b hb hf=>hsF b hb hf
 apply Br.mk<;>intro hb
 ·replace hb:=lT hb;obtain ⟨y,hy⟩:=bZ (l:=L) (i:=j) aa;have hy':(L.map eZ)[j]? =some (eZ y):=by rw [aZ,hy];rfl
  have xc:L.take (j+1)=L.take j++ [y]:=by rw [dq,hy];rfl
  have wk:=nJ (j:=j);have hsm:=hd y (aQ hy);refine ⟨H9.j2 (i:=(j:Int)) aw aa hb,_,_,_,H9.bK hy',λcp CE cM uq=> ?_⟩;have dS:Ext X3 cM:=(aV CE).af uq (ak _);have z17:=xh CE uq;refine (Rf (hS.ext dS) ((hO5.ve hT).ext dS) y hsm ((hk5.Z8 O (L.take j)).mono (by rw [cK];omega))).mono ?_;rintro e dN ⟨rfl,F2,hS2,H4⟩;refine ⟨rfl,H4.mod.same _ aa (λhf=>by have:=hS.lt hf;omega),n-1,aa,j+1,F2,wk,aa,?_,(hT.trans (aI.aq dS)).trans H4⟩;rw [xc,nk];exact hS2
 ·replace hb:=l6 hb;rw [dI aa] at hS;exact ⟨by rw [hn6],F',hS,T5.trans hT⟩
end
variable {R:eWp} {w:World} {a0 a1 a2 a3 aM aL aR cV cZ du iO iF gG aG aH aS eX jg jh V7 V8 Oi:Int}
def we.vc{a0:Addr}(h:(λ(A:Array Value)(B:LV) C D=>
 Aw w #[aG,aH,aS] 73 λw0=>(λAa=>
 Aw w0 #[ai,ai,ai,ai,ai,ai,ai,ai,false] 75 λw1=>
 Sw w1 w0 A λw2=>
 ae 193 #[.slice (aE D (0) (16) 1) (16-0) (16-0),pno] w2 (Ri λx4 w3=>(λAb=>Aa w2 w3 (
 ae 48 #[.agg A] w3 (Rb λb6 w5=>Aa w3 w5 (
 Br (!b6)
 (R (eV #[C,(1:Int)]) w5)
 (Br (x4<0)
 (R (eV #[C,(8:Int)]) w5)
 (ae 79 #[a0,.agg A] w5 (Rb λb8 w7=>Aa w5 w7 (
 Br (!b8)
 (R (eV #[C,(11:Int)]) w7)
 (ae 81 #[a0] w7.drew (Rv λv10 w9=>Aa w7.drew w9 (
 ah w9 (aB w0) 0 B/\ae 149 #[.agg A] w9 (CY λcw cN cY dm dz dS bB=>Aa w9 bB (
 ae 194 #[v10,.agg #[cw,cN,cY,dm,dz,dS]] bB (Rb λb19 dN=>Aa bB dN (
 Br b19
 (R (eV #[C,(12:Int)]) dN)
 (ae 81 #[a0] dN.drew (Rv λv21 fw=>Aa dN.drew fw (
 ah fw (aB w0) 0 B/\ae 149 #[.agg A] fw (CY λim jR gM nY jH rI dt=>Aa fw dt (
 ae 195 #[v21,.agg #[im,jR,gM,nY,jH,rI]] dt (Rb λb30 gz=>Aa dt gz (
 Sw gz w0 #[aG,aH,aS,ai,ai,ai,a2,a3,b30] λik=>
 Aw ik.drew #[aG,aH,aS,ai,ai,ai,a2,a3,b30,ai,ai,false] 103 λuu=>
 (0:Int)<=x4/\x4<((16:Nat):Int)/\(true=true/\Wr uu Ab 1)/\bN Ab≠some w.heap.size/\bN Ab≠some w0.heap.size/\bN Ab≠some ik.drew.heap.size/\(Pw uu Ab [.pointer (aB ik.drew.heap.size)] λjZ=>
 R (eV #[x4,ai]) jZ))))))))))))))))))))))) (ab D ((x4:Int).toNat*1)))) (K2 w w0)) #[aG,aH,aS,ai,ai,ai,a2,a3,false] [aG,aH,aS,ai,ai,ai,a2,a3,false] (-1:Int) (ab (some a0) 1)):ae 132 #[a0,.agg #[aG,aH,aS],a2,a3] w R:=
 cq bD func132 h
def xZ.vc{a0:Addr}(h:
 ∃(p0 p1 p2 p3 p4 p5 p6 p7 p8 p9 Jt Ik yE p13 Tw p15:Option Addr),ah w (ab (some a0) 1) 0 [.pointer p0,p1,p2,p3,p4,p5,p6,p7,p8,p9,Jt,Ik,yE,p13,Tw,p15]/\
 po (λI16 n17=>I16 n17 (0) ⟨none,0,0⟩ w) λI16 n17 ayP dR xg cX=>
 Br (dR<16)
 (((0:Int)<=dR/\dR<((16:Nat):Int))/\∃(Tu:Option Addr),([.pointer p0,p1,p2,p3,p4,p5,p6,p7,p8,p9,Jt,Ik,yE,p13,Tw,p15]:LV)[(dR:Int).toNat*1]? =some (.pointer Tu)/\
 Br (!(Tu).isNone)
 (Aw cX #[dR] 3 λiH=>
 aY 8 1 iH xg 1 [dR]/\∀(s25:Sl)(lQ:World),aT 3 1 iH xg 1 [dR] s25 lQ->Kp cX iH lQ/\
 ∃n22,n22<n17/\I16 n22 ((aC (dR+1))) s25 lQ)
 (∃n22,n22<n17/\I16 n22 ((aC (dR+1))) xg cX))
 (R xg cX)):ae 41 #[a0] w R:=
 cq (anS 3 10 3) func41 h
def xY.vc{a0:Addr}(h:
 ae 76 #[a0,a1] w (tR λp1 w0=>Br (p1).isNone
 (R (6:Int) w0)
 ((0:Int)<=a1/\a1<((16:Nat):Int)/\(Pv w0 (ab (ab (some a0) 1) ((a1:Int).toNat*1)) 1 [pno] λw2=>
 R (0:Int) w2)))):ae 124 #[a0,a1] w R:=
 cq bD func124 h
def Vq.vc(h:
 Aw w #[aM,aL,aR,cV] 109 λw0=>
 ae 115 #[aM,aL,aR] w0.drew (tR λp2 w1=>Kp w w0.drew w1/\
 ah w1 (jS w 3) 0 [cV]/\ae 114 #[p2,cV] w1 (tR λp4 w3=>Kp w w1 w3/\
 Aw w3 #[p4,pno,pno,pno,pno,pno,pno,pno,pno,pno,pno,pno,pno,pno,pno,pno,pno] 64 λw5=>
 R (Value.pointer (aB w3)) w5))):ae 60 #[.agg #[aM,aL,aR,cV]] w R:=
 cq bD func60 h
def As.vc{a0:Sl}(h:
 uo (λI0 n1=>I0 n1 (0) w) λI0 n1 wZ x3 w4=>
 Br (decide (x3<((a0.n:Nat):Int)))
 (gJ a0.a x3 a0.n/\fu w4 (ab a0.a ((x3:Int).toNat*1)) λp6=>
 aN (aqf none p6) (Br (aqg none p6)
 (R x3 w4)
 (∃n5,n5<n1/\I0 n5 ((aC (x3+1))) w4)))
 (R (Value.int .i64 (-1)) w4)):ae 193 #[a0,.pointer (none:Option Addr)] w R:=
 cq (Oy 2 8) func193 h
def adu.vc{gG:Bool}(h:
 Aw w #[aM,aL,aR,cV,cZ,du,iO,iF,gG] 75 λw0=>(λAa=>
 Br (iO>=2)
 (Br (iO<=131072)
 (Br (iF>=1)
 (Br (iF<=262144)
 (ae 77 #[.agg #[aM,aL,aR],(70368744177664:Int)] w0 (Rb λb2 w1=>Kp w w0 w1/\
 Br b2
 (ae 77 #[.agg #[cV,cZ,du],(262144:Int)] w1 (Rb λb4 w3=>Kp w w1 w3/\
 R b4 w3))
 (R false w1)))
 Aa)
 Aa)
 Aa)
 Aa) (R false w0)):ae 48 #[.agg #[aM,aL,aR,cV,cZ,du,iO,iF,gG]] w R:=
 cq bD func48 h
def vW.vc{a0:Addr}{Oi:Bool}(h:
 Aw w #[aG,aH,aS,eX,jg,jh,V7,V8,Oi] 75 λw0=>
 fu w0.drew (ab (some a0) 0) λp1=>
 ae 39 #[p1] w0.drew (tR λp3 w2=>Kp w w0.drew w2/\
 ah w2 w 0 [aG,aH,aS]/\ae 138 #[.agg #[aG,aH,aS]] w2 (mh λx5 x6 x7 w4=>Kp w w2 w4/\
 ae 137 #[p3,.agg #[x5,x6,x7]] w4 (Rb λb9 w8=>Kp w w4 w8/\
 R b9 w8)))):ae 79 #[a0,.agg #[aG,aH,aS,eX,jg,jh,V7,V8,Oi]] w R:=
 cq bD func79 h
def IF.vc{a0:Value}(h:(λA=>
 Aw w A 202 λw0=>
 ae 254 #[a0,.agg A,.func (.func 187) #[] #[]] w0 (Rb λb2 w1=>Kp w w0 w1/\
 R b2 w1)) #[aG,aH,aS,eX,jg,jh]):ae 194 #[a0,.agg #[aG,aH,aS,eX,jg,jh]] w R:=
 cq bD func194 h
def xJ.vc{a0:Addr}(h:
 fu w (ab (some a0) 0) λp0=>
 ae 39 #[p0] w (tR λp2 w1=>ae 58 #[p2] w1 (II λv4 w3=>R v4 w3))):ae 81 #[a0] w R:=
 cq bD func81 h
def IC.vc{gG:Bool}(h:
 Aw w #[aM,aL,aR,cV,cZ,du,iO,iF,gG] 75 λw0=>
 Aw w0 #[ai,ai,ai,ai,ai,ai] 202 λw1=>
 ae 217 #[.agg #[aM,aL,aR],iO,iF] w1 (CY λx3 x4 x5 x6 x7 x8 w2=>K2 w w0 w1 w2 (
 Sw w2 w0 #[x3,x4,x5,x6,x7,x8] λw9=>
 R (tZ #[x3,x4,x5,x6,x7,x8]) w9))):ae 149 #[.agg #[aM,aL,aR,cV,cZ,du,iO,iF,gG]] w R:=
 cq bD func149 h
def Mr.vc{a0:Value}(h:(λA=>
 Aw w A 202 λw0=>
 ae 255 #[.agg A] w0 (CY λx2 x3 x4 x5 x6 x7 w1=>Kp w w0 w1/\
 ae 194 #[a0,.agg #[x2,x3,x4,x5,x6,x7]] w1 (Rb λb9 w8=>Kp w w1 w8/\
 R b9 w8))) #[aG,aH,aS,eX,jg,jh]):ae 195 #[a0,.agg #[aG,aH,aS,eX,jg,jh]] w R:=
 cq bD func195 h
def Cn.vc{a0:Addr}(h:(λA=>
 Br (a1<0)
 A
 (Br (a1>=16)
 A
 ((0:Int)<=a1/\a1<((16:Nat):Int)/\fu w (ab (ab (some a0) 1) ((a1:Int).toNat*1)) λp0=>
 R p0 w))) (R (Value.pointer none) w)):ae 76 #[a0,a1] w R:=
 cq bD func76 h
def Qo.vc(h:(λA B=>
 Aw w #[aM,aL,aR] 73 λw0=>
 Br (decide (((if aR<A then aR else A):Int)>=(aC (0-a1))))
 (R (Ix (decide (((if aR>B then aR else B):Int)<=a1))) w0)
 (R false w0)) (if aL<aM then aL else aM) (if aL>aM then aL else aM)):ae 77 #[.agg #[aM,aL,aR],a1] w R:=
 cq bD func77 h
def ahP.vc(h:
 Aw w #[aM,aL,aR] 73 λw0=>
 Aw w0 #[ai,ai,ai] 23 λw1=>
 ae 198 #[aM] w1.drew (Ri λx3 w2=>K2 w w0 w1.drew w2 (
 ah w2 (jS w 2) 0 [aR]/\ah w2 (jS w 1) 0 [aL]/\ae 198 #[aL] w2 (Ri λx5 w4=>K2 w w0 w2 w4 (
 ah w4 (jS w 2) 0 [aR]/\ae 198 #[aR] w4 (Ri λx7 w6=>K2 w w0 w4 w6 (
 Sw w6 w0 #[x3,x5,x7] λw8=>
 R (tZ #[x3,x5,x7]) w8))))))):ae 138 #[.agg #[aM,aL,aR]] w R:=
 cq bD func138 h
def Y5.vc{a0:Value}{a2:Value}(h:(λA=>
 Aw w A 202 λw0=>
 ae 317 #[a0,.agg A,a2] w0 (al8 λx2 x3 x4 b5 w1=>Kp w w0 w1/\
 Aw w1 #[ai,ai,ai] 23 λw6=>
 Sw w6 w1 #[x2,x3,x4] λw7=>
 R b5 w7)) #[aG,aH,aS,eX,jg,jh]):ae 254 #[a0,.agg #[aG,aH,aS,eX,jg,jh],a2] w R:=
 cq bD func254 h
def YP.vc(h:(λA B C=>
 Aw w B 73 λw0=>
 Aw w0 #[ai,ai,ai,ai,ai,ai] 202 λw1=>(λAa=>
 Aw w1 #[ai,ai,ai] 73 λw2=>
 Sw w2 w1 #[A,ai,A] λw3=>
 (ae 207 #[.agg B,.agg #[A,ai,A]] w3.drew (mh λx5 x6 x7 w4=>Aa w3.drew w4 (
 ah w4 w 0 [aM,aL,aR]/\ae 206 #[.agg B,.agg #[A,.int .i64 C,A]] w4 (mh λx9 bM bR w8=>Aa w4 w8 (
 Sw w8 w0 #[x5,x6,x7,x9,bM,bR] λbO=>
 R (tZ #[x5,x6,x7,x9,bM,bR]) bO)))))/\(ae 207 #[.agg B,.agg #[A,ai,A]] w3.drew (mh λcY dm dz bw=>Aa w3.drew bw (
 ah bw w 0 [aM,aL,aR]/\ae 206 #[.agg B,.agg #[A,.int .i64 C,A]] bw (mh λde dR fk cM=>Aa bw cM (
 Sw cM w0 #[cY,dm,dz,de,dR,fk] λcX=>
 R (tZ #[cY,dm,dz,de,dR,fk]) cX)))))) (K3 w w0 w1)) (aC (Int.tdiv (if 0>a1 then 0 else a1) 2)) #[aM,aL,aR] (if 0>a2 then 0 else a2)):ae 217 #[.agg #[aM,aL,aR],a1,a2] w R:=
 cq bD func217 h
def PV.vc(h:
 Aw w #[aM,aL,aR,cV,cZ,du] 202 λw0=>
 Aw w0 #[ai,ai,ai,ai,ai,ai] 202 λw1=>
 ae 270 #[aL,(1:Int)] w1.drew (Ri λx3 w2=>K2 w w0 w1.drew w2 (
 ah w2 (jS w 3) 0 [cV,cZ,du]/\ah w2 w 0 [aM,aL,aR]/\ae 211 #[.agg #[aM,aL,aR],(1:Int),x3] w2 (mh λx5 x6 x7 w4=>K2 w w0 w2 w4 (
 ah w4 (jS w 3) 0 [cV,cZ,du]/\ae 211 #[.agg #[cV,cZ,du],(1:Int),aL] w4 (mh λx9 bM bR w8=>K2 w w0 w4 w8 (
 Sw w8 w0 #[x5,x6,x7,x9,bM,bR] λbO=>
 R (tZ #[x5,x6,x7,x9,bM,bR]) bO))))))):ae 255 #[.agg #[aM,aL,aR,cV,cZ,du]] w R:=
 cq bD func255 h
def aiV.vc(h:
 Aw w #[aM,aL,aR] 73 λw0=>
 Aw w0 #[aG,aH,aS] 73 λw1=>
 Aw w1 #[ai,ai,ai] 73 λw2=>
 ae 266 #[.agg #[aM,aL,aR],.func (.func 267) #[] #[.pointer (aB w0)]] w2 (mh λx4 x5 x6 w3=>K2 w w1 w2 w3 (
 Sw w3 w1 #[x4,x5,x6] λw7=>
 R (tZ #[x4,x5,x6]) w7))):ae 206 #[.agg #[aM,aL,aR],.agg #[aG,aH,aS]] w R:=
 cq bD func206 h
def Sp.vc(h:
 ae 257 #[a0] w (gk λx1 w0=>R (Value.int .i64 ((x1:Int).fdiv (2 ^(min (16:Int).toNat 64)))) w0)):ae 198 #[a0] w R:=
 cq bD func198 h
def UQ.vc{a0:Value}{a2:Value}(h:(λA B C D=>
 aN (kr a0) (
 Aw w #[a0] 95 λw0=>
 Aw w0 D 202 λw1=>
 aN (kr a2) (
 Aw w1 #[a2] 92 λw2=>
 Aw w2 B 23 λw3=>(λAa=>
 Aw w3 #[false] 4 λw4=>
 ae 357 #[.agg D] w4 (Rv λv6 w5=>K5 w w0 w1 w2 w3 w4 w5 (
 ∃(xs7:List (LV))(Rd8 F9:Nat->Prop)(EG:Nat->(Nat->Prop)->Int->Int->Int->Bool->wPp)(X11:Option Nat->(Nat->Prop)->Int->Int->Int->Bool->wPp),
 (∀x ∈ xs7,∃(cw cN cY:Int),x=[.agg #[.int .i64 cw,.int .i64 cN,.int .i64 cY]])/\
 (∀(n15:Nat)(F16:Nat->Prop)(dS de dR:Int)(b20:Bool)(cX dt:World),EG n15 F16 dS de dR b20 cX->Below w5 cX dt->(∀i,F16 i->dt.heap[i]? =cX.heap[i]?)->EG n15 F16 dS de dR b20 dt)/\
 (∀(n23:Option Nat)(F24:Nat->Prop)(gM nY jH:Int)(Ya:Bool)(gz pN:World),X11 n23 F24 gM nY jH Ya gz->Below w5 gz pN->(∀i,F24 i->pN.heap[i]? =gz.heap[i]?)->X11 n23 F24 gM nY jH Ya pN)/\
 (∀(n31:Nat)(F32:Nat->Prop)(gO j0 pG:Int)(b36:Bool)(jJ:World),EG n31 F32 gO j0 pG b36 jJ->∀i,F32 i->i<jJ.heap.size/\i≠w5.heap.size/\i≠w5.heap.size+1)/\
 (∀(n38:Option Nat)(F39:Nat->Prop)(rK lO yP:Int)(b43:Bool)(kh:World),X11 n38 F39 rK lO yP b43 kh->∀i,F39 i->i<kh.heap.size/\i≠w5.heap.size/\i≠w5.heap.size+1)/\
 (∀i,Rd8 i->i<w5.heap.size/\¬F9 i/\i≠w.heap.size/\i≠w0.heap.size/\i≠w1.heap.size/\i≠w2.heap.size/\i≠w3.heap.size/\True)/\
 (∀yI:World,PM w5 w5 yI->Iter Tryz.prog (v6) yI Rd8 xs7/\aP [a0]/\aP C/\aP [a2]/\EG 0 F9 (0) (0) (0) false yI)/\
 (∀(n46:Nat)(F47:Nat->Prop)(aIN:Nat->Value)(TS Fb yK:Int)(b52:Bool)(nZ CF vR:Int)(Bk:World),xs7[n46]? =some [.agg #[.int .i64 nZ,.int .i64 CF,.int .i64 vR]]->EG n46 F47 TS Fb yK b52 Bk->
 Aw Bk B 23 λCD=>
 Sw CD Bk #[nZ,CF,vR] λpR=>
 Below Bk Bk pR/\∀pI:World,Rec (w5.heap.size+1) pR pI->EG n46 F47 TS Fb yK b52 pI->
 bu Tryz.prog a0 [.agg #[nZ,CF,vR]] pI.drew (Ri λKS nX=>K6 w w0 w1 w2 w3 Bk pI.drew nX (
 ah nX (aB w1) 0 [a2]/\bu Tryz.prog a2 [KS] nX (Rb λb63 kz=>K6 w w0 w1 w2 w3 Bk nX kz (
 Br b63
 (Sw kz w2 #[nZ,CF,vR] λJs=>
 Sw Js w3 #[true] λOU=>
 true=true/\∃F66:Nat->Prop,(aP [a0]/\aP C/\aP [a2]/\X11 none F66 nZ CF vR true OU)/\Step (λi=>(F47 i\/i ∈ Aa)\/Bk.heap.size<=i) (λi=>F66 i\/i ∈ Aa) pI OU)
 (∃F67:Nat->Prop,(aP [a0]/\aP C/\aP [a2]/\EG (n46+1) F67 TS Fb yK b52 kz)/\Step (λi=>(F47 i\/i ∈ Aa)\/Bk.heap.size<=i) (λi=>F67 i\/i ∈ Aa) pI kz))))))/\
 (∀(F68:Nat->Prop)(aIP:Nat->Value)(Es Ba Dw:Int)(b73:Bool)(Ex:World),EG xs7.length F68 Es Ba Dw b73 Ex->Ex.heap[w5.heap.size]? =some A->
 Sw Ex w2 B λur=>
 Sw ur w3 #[false] λqM=>
 qM.heap[w5.heap.size]? =some A/\∀uk:World,Rec w5 qM uk->
 R (eV #[.agg B,false]) uk)/\
 (∀(F78:Nat->Prop)(ayT:Nat->Value)(Oj HX Et:Int)(b83:Bool)(w84:World),X11 none F78 Oj HX Et b83 w84->w84.heap[w5.heap.size]? =some A->
 w84.heap[w5.heap.size]? =some A/\∀w85:World,Rec w5 w84 w85->
 R (eV #[.agg #[Oj,HX,Et],b83]) w85)))) ([w.heap.size,w0.heap.size,w1.heap.size,w2.heap.size,w3.heap.size]:List Nat)))) (.deferred (some [])) #[ai,ai,ai] [aG,aH,aS,eX,jg,jh] #[aG,aH,aS,eX,jg,jh]):ae 317 #[a0,.agg #[aG,aH,aS,eX,jg,jh],a2] w R:=
 cq ⟨[],[],[(3,⟨[],[(3,[.int .i64,.int .i64,.int .i64]),(4,[.bool])],[]⟩,[.agg [.int .i64,.int .i64,.int .i64]])]⟩ func317 h
def aiW.vc(h:
 Aw w #[aM,aL,aR] 73 λw0=>
 Aw w0 #[aG,aH,aS] 73 λw1=>
 Aw w1 #[ai,ai,ai] 73 λw2=>
 ae 266 #[.agg #[aM,aL,aR],.func (.func 269) #[] #[.pointer (aB w0)]] w2 (mh λx4 x5 x6 w3=>K2 w w1 w2 w3 (
 Sw w3 w1 #[x4,x5,x6] λw7=>
 R (tZ #[x4,x5,x6]) w7))):ae 207 #[.agg #[aM,aL,aR],.agg #[aG,aH,aS]] w R:=
 cq bD func207 h
def afa.vc(h:
 Aw w #[aM,aL,aR] 73 λw0=>
 Aw w0 #[a1] 3 λw1=>
 Aw w1 #[a2] 3 λw2=>
 Aw w2 #[ai,ai,ai] 73 λw3=>
 ae 266 #[.agg #[aM,aL,aR],.func (.func 272) #[] #[.pointer (aB w0),.pointer (aB w1)]] w3 (mh λx5 x6 x7 w4=>K2 w w2 w3 w4 (
 Sw w4 w2 #[x5,x6,x7] λw8=>
 R (tZ #[x5,x6,x7]) w8))):ae 211 #[.agg #[aM,aL,aR],a1,a2] w R:=
 cq bD func211 h
def aaP.vc(h:
 ae 257 #[a0] w (λe w0=>∃(x1:Int),e=x1/\
 ae 257 #[a1] w0 (λe w2=>∃(x3:Int),e=x3/\
 ae 257 #[(aC (x1-x3))] w2 (λe w4=>∃(x5:Int),e=x5/\
 R x5 w4)))):ae 270 #[a0,a1] w R:=
 cq bD func270 h
def ae7.vc(h:(λA=>
 R ((aC ((if 2147483648<A then 2147483648 else A)*2 ^(min (16:Int).toNat 64)))) w) (if (-2147483648)>a0 then (-2147483648) else a0)):ae 213 #[a0] w R:=
 cq bD func213 h
def ub.vc{a0:Sl}{a1:Value}(h:
 uo (λI0 n1=>I0 n1 (0) w) λI0 n1 wZ x3 w4=>
 Br (decide (x3<((a0.n:Nat):Int)))
 (gJ a0.a x3 a0.n/\fu w4 (ab a0.a ((x3:Int).toNat*1)) λp6=>
 bu Tryz.prog a1 [.pointer p6] w4 (CP λb8 w7=>Br b8
 (R x3 w7)
 (∃n5,n5<n1/\I0 n5 ((aC (x3+1))) w7)))
 (R (Value.int .i64 (-1)) w4)):ae 214 #[a0,a1] w R:=
 cq (Oy 2 8) func214 h
def ae9.vc(h:
 Aw w #[aM,aL,aR] 73 λw0=>
 Br (a1<0)
 (R (0:Int) w0)
 (Br (a1>=3)
 (R (0:Int) w0)
 (ae 271 #[w] w0 (λe w1=>∃(p2 p3 p4:Option Addr),e=Value.agg #[p2,p3,p4]/\
 ((0:Int)<=a1/\a1<((3:Nat):Int))/\∃(p5:Option Addr),([.pointer p2,p3,p4]:LV)[(a1:Int).toNat*1]? =some (.pointer p5)/\
 aN (eI p5) (jV w1 p5 λx6=>
 R x6 w1))))):ae 210 #[.agg #[aM,aL,aR],a1] w R:=
 cq bD func210 h
def ae8.vc{a1:Value}(h:
 Aw w #[aM,aL,aR] 73 λw0=>
 Aw w0 #[ai,ai,ai] 73 λw1=>
 ae 271 #[w] w1 (λe w2=>∃(p3 p4 p5:Option Addr),e=Value.agg #[p3,p4,p5]/\Kp w0 w1 w2/\
 uo (λI6 n7=>aP [ai,ai,ai]/\I6 n7 (0) w2) λI6 n7 us8 x9 bc=>
 Br (x9<3)
 (((0:Int)<=x9/\x9<((3:Nat):Int))/\∃(yE:Option Addr),([.pointer p3,p4,p5]:LV)[(x9:Int).toNat*1]? =some (.pointer yE)/\
 aN (eI yE) (jV bc yE λcN=>
 bu Tryz.prog a1 [x9,cN] bc (Ri λdm cu=>Kp w0 bc cu/\
 aN (eI yE) (((yE).isSome=true/\Wr cu yE 1)/\Nq yE w0/\(Pw cu yE [dm] λcp=>
 ∃n11,n11<n7/\aP [ai,ai,ai]/\I6 n11 ((aC (x9+1))) cp)))))
 (ia bc w λdS de dR=>
 Sw bc w0 #[dS,de,dR] λfw=>
 R (tZ #[dS,de,dR]) fw))):ae 266 #[.agg #[aM,aL,aR],a1] w R:=
 cq (Oy 2 8) func266 h
def aaT.vc{c0:Addr}(h:
 ia w (some c0) λx0 x1 x2=>
 ae 210 #[.agg #[x0,x1,x2],a0] w (gk λx4 w3=>ae 268 #[a1,x4] w3 (gk λx6 w5=>R x6 w5))):ae 267 #[a0,a1,c0] w R:=
 cq bD func267 h
def aaO.vc(h:
 ae 257 #[a0] w (λe w0=>∃(x1:Int),e=x1/\
 ae 257 #[a1] w0 (λe w2=>∃(x3:Int),e=x3/\
 ae 257 #[(aC (x1+x3))] w2 (λe w4=>∃(x5:Int),e=x5/\
 R x5 w4)))):ae 268 #[a0,a1] w R:=
 cq bD func268 h
def aaM.vc(h:(λA=>
 R (Value.int .i64 (if 140737488355328<A then 140737488355328 else A)) w) (if (-140737488355328)>a0 then (-140737488355328) else a0)):ae 257 #[a0] w R:=
 cq bD func257 h
def UP.vc(h:
 Aw w #[aM,aL,aR,cV,cZ,du] 202 λw0=>
 R (Value.func (.func 377) #[] #[w]) w0):ae 357 #[.agg #[aM,aL,aR,cV,cZ,du]] w R:=
 cq bD func357 h
def aaV.vc{c0:Addr}(h:
 ia w (some c0) λx0 x1 x2=>
 ae 210 #[.agg #[x0,x1,x2],a0] w (gk λx4 w3=>ae 270 #[a1,x4] w3 (gk λx6 w5=>R x6 w5))):ae 269 #[a0,a1,c0] w R:=
 cq bD func269 h
def VX.vc{c0:Addr}{c1:Addr}(h:
 jV w (some c0) λx0=>
 Br (a0==x0)
 (jV w (some c1) λx1=>
 ae 257 #[x1] w (gk λx3 w2=>R x3 w2))
 (R a1 w)):ae 272 #[a0,a1,c0,c1] w R:=
 cq bD func272 h
def aaR.vc{a0:Addr}(h:(λA=>
 Aw w #[pno,pno,pno] 311 λw0=>
 (Pt w0.drew ⟨w,0,none⟩ 3 [.pointer (ab A 0),.pointer (ab A 1),.pointer (ab A 2)] λw1=>
 ∃(p2 p3 p4:Option Addr),ah w1 w 0 [.pointer p2,p3,p4]/\
 R (tZ #[p2,p3,p4]) w1)) (some a0)):ae 271 #[a0] w R:=
 cq bD func271 h
def VU.vc(h:
 ae 257 #[a0] w (gk λx1 w0=>R (Value.int .i64 (tP .i64 x1 65535)) w0)):ae 355 #[a0] w R:=
 cq bD func355 h
def N1.vc{a0:Value}{c0:Addr}(h:
 CZ w (some c0) λx0 x1 x2 x3 x4 x5=>
 ae 378 #[.agg #[x0,x1,x2,x3,x4,x5]] w (λe w6=>∃(x7 x8 x9 bM bR cw:Int)(KO:Bool),e=Value.tuple #[.agg #[x7,x8,x9],.agg #[bM,bR,cw],KO]/\
 Aw w6 #[ai,ai,ai] 23 λcu=>
 Aw cu #[ai,ai,ai] 23 λdj=>
 Sw dj w6 #[x7,x8,x9] λcp=>
 Sw cp cu #[bM,bR,cw] λcM=>
 uo (λI18 n19=>aP [x7,x8,x9]/\aP [bM,bR,cw]/\I18 n19 x8 cM) λI18 n19 arS fj dt=>
 Br KO
 (Br (fj<=bR)
 (uo (λI24 n25=>aP [x7,x8,x9]/\aP [bM,bR,cw]/\I24 n25 x9 dt) λI24 n25 aIR jH jI=>
 Br (jH<=cw)
 (uo (λI30 n31=>aP [x7,x8,x9]/\aP [bM,bR,cw]/\I30 n31 x7 jI) λI30 n31 awS gO ky=>
 Br (gO<=bM)
 (bu Tryz.prog a0 [.agg #[gO,fj,jH]] ky (Rb λb37 ox=>K2 w6 cu ky ox (
 Br (!b37)
 (R pH ox)
 (∃n35,n35<n31/\aP [x7,x8,x9]/\aP [bM,bR,cw]/\I30 n35 ((aC (gO+1))) ox))))
 (∃n29,n29<n25/\aP [x7,x8,x9]/\aP [bM,bR,cw]/\I24 n29 ((aC (jH+1))) ky))
 (∃n23,n23<n19/\aP [x7,x8,x9]/\aP [bM,bR,cw]/\I18 n23 ((aC (fj+1))) jI))
 (R pH dt))
 (R pH dt))):ae 377 #[a0,c0] w R:=
 cq ⟨[(8,⟨[(8,.int .i64)],[],[]⟩),(5,⟨[(7,.int .i64)],[],[]⟩),(2,⟨[(6,.int .i64)],[],[]⟩)],[],[]⟩ func377 h
def YR.vc(h:(λA B C D=>
 Aw w #[aM,aL,aR,cV,cZ,du] 202 λw0=>
 Aw w0 A 23 λw1=>
 Aw w1 A 23 λw2=>
 ae 138 #[.agg #[aM,aL,aR]] w2 (mh λx4 x5 x6 w3=>K3 w w0 w1 w2 w3 (
 Aw w3 A 23 λw7=>
 Sw w7 w3 #[x4,x5,x6] λw8=>
 ae 206 #[.agg #[cV,cZ,du],.agg #[D,D,D]] w8 (mh λbM bR cw w9=>K4 w w0 w1 w3 w8 w9 (
 ae 138 #[.agg #[bM,bR,cw]] w9 (mh λcY dm dz bw=>(λAa Ab=>K4 w w0 w1 w3 w9 bw (
 Aw bw A 23 λcM=>
 Sw cM bw #[cY,dm,dz] λdN=>
 uo (λI19 n20=>aP C/\aP B/\aP B/\aP [x4,x5,x6]/\aP Ab/\I19 n20 (0) dN) λI19 n20 azM gI je=>
 Br (gI<3)
 (ae 210 #[.agg #[aM,aL,aR],gI] je.drew (Ri λnY dL=>Aa je.drew dL (
 ah dL (jS w 3) 0 [cV,cZ,du]/\ae 210 #[.agg #[cV,cZ,du],gI] dL (Ri λrI gN=>Aa dL gN (
 Br (nY==rI)
 (ae 355 #[nY] gN (Ri λtM gz=>Aa gN gz (
 Br (tM==0)
 (Sw gz w0 A λik=>
 Sw ik w1 A λuu=>
 R (eV #[.agg A,.agg A,false]) uu)
 (∃n24,n24<n20/\aP C/\aP B/\aP B/\aP [x4,x5,x6]/\aP Ab/\I19 n24 ((aC (gI+1))) gz))))
 (∃n24,n24<n20/\aP C/\aP B/\aP B/\aP [x4,x5,x6]/\aP Ab/\I19 n24 ((aC (gI+1))) gN))))))
 (ae 390 #[aM,cV,x4,cY] je.drew (Ri λj0 jZ=>Aa je.drew jZ (
 ah jZ (jS bw 2) 0 [dz]/\ah jZ (jS w3 2) 0 [x6]/\ah jZ (jS w 5) 0 [du]/\ah jZ (jS w 2) 0 [aR]/\ah jZ (jS bw 1) 0 [dm]/\ah jZ (jS w3 1) 0 [x5]/\ah jZ (jS w 4) 0 [cZ]/\ah jZ (jS w 1) 0 [aL]/\ae 390 #[aL,cZ,x5,dm] jZ (Ri λpP iI=>Aa jZ iI (
 ah iI (jS bw 2) 0 [dz]/\ah iI (jS w3 2) 0 [x6]/\ah iI (jS w 5) 0 [du]/\ah iI (jS w 2) 0 [aR]/\ae 390 #[aR,du,x6,dz] iI (Ri λnI jJ=>Aa iI jJ (
 Sw jJ bw #[j0,dm,dz] λlN=>
 Sw lN bw #[j0,pP,dz] λnV=>
 Sw nV bw #[j0,pP,nI] λkN=>
 Sw kN.drew w0 #[x4,x5,x6] λpF=>
 ah pF (aB bw) 0 [j0,pP,nI]/\Sw pF w1 #[j0,pP,nI] λiS=>
 R (eV #[.agg #[x4,x5,x6],.agg #[j0,pP,nI],true]) iS))))))))) (K5 w w0 w1 w3 bw) [cY,dm,dz])))))) #[ai,ai,ai] [ai,ai,ai] [aM,aL,aR,cV,cZ,du] (-1:Int)):ae 378 #[.agg #[aM,aL,aR,cV,cZ,du]] w R:=
 cq (Oy 4 19) func378 h
def PU.vc(h:
 Br (a0==a1)
 (R a2 w)
 (R a3 w)):ae 390 #[a0,a1,a2,a3] w R:=
 cq bD func390 h
open Go.iZ
abbrev iz:TypeId:=73
abbrev xq(b:Bx):Value:=.agg #[b.1.1,b.1.2.1,b.1.2.2,b.2.1,b.2.2.1,b.2.2.2]
def awb(n:Int):(if 140737488355328<(if (-140737488355328)>n then (-140737488355328) else n) then 140737488355328 else (if (-140737488355328)>n then (-140737488355328) else n))=dG n:=by
 unfold dG
 repeat' split
 all_goals omega
def ic(n:Int)(w:World):kT 257 #[n] w (Value.int .i64 (dG n)):=by apply aaM.vc;exact ⟨by rw [awb],rfl⟩
def aaN(a b:Int)(w:World):kT 268 #[a,b] w (Value.int .i64 (dW a b)):=by apply aaO.vc;refine (ic a w).mono ?_;rintro e w1 ⟨rfl,rfl⟩;refine ⟨_,rfl,(ic b w1).mono ?_⟩;rintro e w2 ⟨rfl,rfl⟩;have h1:=sH a;have h2:=sH b;refine ⟨_,rfl,?_⟩;rw [wI];refine (ic _ w2).mono ?_;rintro e w3 ⟨rfl,rfl⟩;exact ⟨_,rfl,rfl,rfl⟩
def JT(a b:Int)(w:World):kT 270 #[a,b] w (Value.int .i64 (nj a b)):=by apply aaP.vc;refine (ic a w).mono ?_;rintro e w1 ⟨rfl,rfl⟩;refine ⟨_,rfl,(ic b w1).mono ?_⟩;rintro e w2 ⟨rfl,rfl⟩;have h1:=sH a;have h2:=sH b;refine ⟨_,rfl,?_⟩;rw [wI];refine (ic _ w2).mono ?_;rintro e w3 ⟨rfl,rfl⟩;exact ⟨_,rfl,rfl,rfl⟩
def p16:(2 ^(min (16:Int).toNat 64):Int)=65536:=by decide
def pn(n:Int)(w:World):kT 198 #[n] w (Value.int .i64 (cg n)):=by apply Sp.vc;refine (ic n w).gK ?_;rw [p16];exact ⟨_,rfl,by rw [tB _ aw];rfl,rfl⟩
def aaQ{x:Int}(h: -140737488355328<=x/\x<=140737488355328):tP .i64 x 65535=x % 65536:=by
 unfold tP;have e:(BitVec.ofInt IntKind.i64.bits x &&& BitVec.ofInt IntKind.i64.bits 65535).toNat=(x % 65536).toNat:=by
  show (BitVec.ofInt 64 x &&& BitVec.ofInt 64 65535).toNat=_;rw [zK];have h1:(BitVec.ofInt 64 65535).toNat=2 ^ 16-1:=by decide
  rw [h1,Nat.and_two_pow_sub_one_eq_mod,zc];omega
 rw [e,Int.toNat_of_nonneg aa];exact wI
def BG(n:Int)(w:World):kT 355 #[n] w (Value.int .i64 (uR n)):=by apply VU.vc;refine (ic n w).gK ?_;exact ⟨_,rfl,by rw [aaQ (sH n)];rfl,rfl⟩
def sJ(n:Int)(w:World):kT 213 #[n] w (Value.int .i64 (uS n)):=by
 apply ae7.vc;rw [p16];have e:(if 2147483648<(if (-2147483648)>n then (-2147483648) else n) then 2147483648 else (if (-2147483648)>n then (-2147483648) else n))=min (max n (-2147483648)) 2147483648:=by
  repeat' split
  all_goals omega
 rw [e,wI];exact ⟨rfl,rfl⟩
def amT(p q r:Option Addr):One [.pointer p,q,r]:=by intro v hv;simp at hv;rcases hv with rfl|rfl|rfl<;>rfl
def HJ(a:Addr)(w:World):eU 271 #[a] w (Value.agg #[.pointer (ab (some a) 0),.pointer (ab (some a) 1),.pointer (ab (some a) 2)]):=by
 apply aaR.vc;intro w0 e0;have x0:Ext w w0.drew:=(aV e0).drew;have hr:Row w0.drew w [pno,pno,pno] 311:=by rw [e0];exact (Row.new w [_,_,_] _).ext (Ext.dr _)
 refine ⟨⟨rfl,hr.wr bo⟩,λw1 e1=> ?_⟩;rw [hr.bC (vs:=[.pointer (ab (some a) 0),.pointer (ab (some a) 1),.pointer (ab (some a) 2)]) bo (amT _ _ _),dE bo] at e1;have hr1:Row w1 w [.pointer (ab (some a) 0),.pointer (ab (some a) 1),.pointer (ab (some a) 2)] 311:=hr.st e1;exact ⟨_,_,_,Lo.wv hr1,rfl,x0.af e1 (ak _)⟩
def VV(f:Int->Int->Int)(v:Ce)(k:Nat):LV:=[.int .i64 (if 0<k then f 0 v.1 else v.1),.int .i64 (if 1<k then f 1 v.2.1 else v.2.1),.int .i64 (if 2<k then f 2 v.2.2 else v.2.2)]
def vP(f:Int->Int->Int)(v:Ce)(fv:Value)(w:World)(hf:∀w',Ext w w'->∀i x:Int,0<=i->i<3->bu Tryz.prog fv [.int .i64 i,.int .i64 x] w' λe w''=>e=Value.int .i64 (f i x)/\Ext w' w''):
  eU 266 #[gg v,fv] w ((gg (Gh f v))):=by
 apply ae8.vc;intro w0 e0 w1 e1;have x0:=aV e0;have z0:=fE e0;have r0:Row w0 w (VV f v 0) iz:=Row.nw e0;have x1:=aV e1;have z1:=fE e1;refine (HJ ⟨w.heap.size,0,none⟩ w1).bj λw2 x2=> ?_
 have z2:=x2.size;refine ⟨_,_,_,rfl,x2.heap aa,λn x wr=>∃k:Nat,x=k/\k+n=3/\Row wr w (VV f v k) iz/\Ext w wr/\w2.heap.size<=wr,⟨3,rfl,0,rfl,rfl,r0.ext (x1.tr x2),x0.tr (x1.tr x2),ak _⟩,?_⟩;rintro n us x wr ⟨k,rfl,hk,hr,xr,zr⟩;have hl:∀k,(VV f v k).length=3:=λ_=>rfl
 have wk:=nJ (j:=k);apply Br.mk<;>intro hb
 ·replace hb:=lT hb;have HV:k=0\/k=1\/k=2:=by omega
  have step:∀(j:Nat)(y:Int),k=j->j<3->(VV f v j)[j]? =some (.int .i64 y)->putCells (VV f v j) j [(f j y)]=VV f v (j+1)->
    aN (eI (ab (aB w.heap.size) j)) (∃(cN:Int),ld wr (ab (aB w.heap.size) j)=some (.int .i64 cN)/\
     bu Tryz.prog fv [.int .i64 (k:Int),cN] wr (λe cu=>∃(dm:Int),e=dm/\cu.heap[w0.heap.size]? =wr.heap[w0.heap.size]?/\
     aN (eI (ab (aB w.heap.size) j)) (((ab (aB w.heap.size) j).isSome=true/\Wr cu (ab (aB w.heap.size) j) 1)/\bN (ab (aB w.heap.size) j)≠some w0.heap.size/\(∀cp:World,cp=bC cu (ab (aB w.heap.size) j) [dm]->
     ∃n11,n11<n/\aP [ai,ai,ai]/\∃k':Nat,aC ((k:Int)+1)=k'/\k'+n11=3/\Row cp w (VV f v k') iz/\Ext w cp/\w2.heap.size<=cp)))):=by
   intro j y hj h3 h1 h2;subst hj;refine lI rfl ⟨y,hr.at k h1,ee (hf wr xr k y aa aa) ?_⟩;rintro e cu ⟨rfl,cY⟩;have z14:=cY.size;have agx:=hr.ext cY;obtain ⟨p1,p2⟩:=agx.fF (j:=k) (v:=.int .i64 (f k y)) (by rw [hl];exact h3) rfl;refine ⟨_,rfl,cY.heap aa,lI rfl ⟨⟨rfl,p1⟩,?_,λcp CE=> ?_⟩⟩
   ·rw [cB];intro q;have q:w.heap.size=w0.heap.size:=by simpa [bN] using q
    omega
   obtain ⟨q1,q2⟩:=p2 cp CE;rw [h2] at q1;have z16:=q2.size;exact ⟨n-1,aa,rfl,k+1,wk,aa,q1,q2.ext (xr.tr cY) λi hi=>by omega,aa⟩
  refine ⟨⟨aa,aa⟩,?_⟩;rcases HV with h|h|h
  ·exact ⟨_,by rw [h];rfl,step 0 v.1 h aw rfl rfl⟩
  ·exact ⟨_,by rw [h];rfl,step 1 v.2.1 h aw rfl rfl⟩
  ·exact ⟨_,by rw [h];rfl,step 2 v.2.2 h aw rfl rfl⟩
 ·replace hb:=l6 hb;have HV:k=3:=by omega
  subst HV;exact ⟨_,_,_,Lo.wv hr,λfw wi=>⟨rfl,xr.af wi aa⟩⟩
def c9(v:Ce)(i:Int)(w:World):eU 210 #[gg v,i] w (Value.int .i64 (dK v i)):=by
 apply ae9.vc;intro w0 e0;have x0:=aV e0;have r0:Row w0 w (eZ v) iz:=Row.nw e0;refine Br.mk (λh=> ?_) (λh=>Br.mk (λh2=> ?_) (λh2=>(HJ ⟨w.heap.size,0,none⟩ w0).mono ?_))
 ·replace h:=lT h;exact ⟨by unfold dK;rw [if_neg aa,if_neg aa,if_neg aa],x0⟩
 ·simp only [cL,ge_iff_le] at h2;exact ⟨by unfold dK;rw [if_neg aa,if_neg aa,if_neg aa],x0⟩
 ·simp only [fm,ge_iff_le] at h h2;rintro e w1 ⟨rfl,x1⟩;have hr:=r0.ext x1;refine ⟨_,_,_,rfl,⟨aa,aa⟩,?_⟩;have h3:i=0\/i=1\/i=2:=by omega
  rcases h3 with rfl|rfl|rfl
  ·exact ⟨_,rfl,lI rfl ⟨_,hr.at 0 rfl,rfl,x0.tr x1⟩⟩
  ·exact ⟨_,rfl,lI rfl ⟨_,hr.at 1 rfl,rfl,x0.tr x1⟩⟩
  ·exact ⟨_,rfl,lI rfl ⟨_,hr.at 2 rfl,rfl,x0.tr x1⟩⟩
def aaS(b:Ce)(i n:Int){g:Nat}{w:World}(hr:Row w g (eZ b) iz):eU 267 #[i,n,g] w (Value.int .i64 (dW n (dK b i))):=by apply aaT.vc;refine ⟨_,_,_,Lo.wv hr,(c9 b i w).bj λw1 x1=> ?_⟩;refine ⟨_,rfl,(aaN n _ w1).gK ?_⟩;exact ⟨_,rfl,rfl,x1⟩
def aaU(b:Ce)(i n:Int){g:Nat}{w:World}(hr:Row w g (eZ b) iz):eU 269 #[i,n,g] w (Value.int .i64 (nj n (dK b i))):=by apply aaV.vc;refine ⟨_,_,_,Lo.wv hr,(c9 b i w).bj λw1 x1=> ?_⟩;refine ⟨_,rfl,(JT n _ w1).gK ?_⟩;exact ⟨_,rfl,rfl,x1⟩
def jD(a b:Ce)(w:World):eU 206 #[gg a,gg b] w ((gg (jf a b))):=by
 apply aiV.vc;intro w0 e0 w1 e1 w2 e2;have x0:=aV e0;have z0:=fE e0;have x1:=aV e1;have z1:=fE e1;have r1:Row w1 w0 (eZ b) iz:=Row.nw e1;have x2:=aV e2;have z2:=fE e2;have yq:=x0.tr (x1.tr x2);refine (vP (λi n=>dW n (dK b i)) a (.func (.func 267) #[] #[w0]) w2 λw' x' i x _ _=>bV (by kernel_rfl) rfl (aaS b i x ((r1.ext x2).ext x'))).bj λw3 x3=> ?_
 have z3:=x3.size;exact ⟨_,_,_,rfl,x3.heap aa,x3.heap aa,λw7 e7=>⟨rfl,(yq.tr x3).af e7 aa⟩⟩
def vG(a b:Ce)(w:World):eU 207 #[gg a,gg b] w ((gg (uP a b))):=by
 apply aiW.vc;intro w0 e0 w1 e1 w2 e2;have x0:=aV e0;have z0:=fE e0;have x1:=aV e1;have z1:=fE e1;have r1:Row w1 w0 (eZ b) iz:=Row.nw e1;have x2:=aV e2;have z2:=fE e2;have yq:=x0.tr (x1.tr x2);refine (vP (λi n=>nj n (dK b i)) a (.func (.func 269) #[] #[w0]) w2 λw' x' i x _ _=>bV (by kernel_rfl) rfl (aaU b i x ((r1.ext x2).ext x'))).bj λw3 x3=> ?_
 have z3:=x3.size;exact ⟨_,_,_,rfl,x3.heap aa,x3.heap aa,λw7 e7=>⟨rfl,(yq.tr x3).af e7 aa⟩⟩
def VW(ax m i n:Int){g h:Nat}{w:World}{τ:TypeId}(hr:Row w g [ax] τ)(hh:Row w h [m] τ):eU 272 #[i,n,g,h] w (Value.int .i64 (if i=ax then dG m else n)):=by
 apply VX.vc;refine ⟨ax,hr.at 0 rfl,Br.mk (λq=>⟨m,hh.at 0 rfl,(ic m w).mono ?_⟩) (λq=> ?_)⟩
 ·rintro e w1 ⟨rfl,rfl⟩;exact ⟨_,rfl,by rw [if_pos (by simpa using q)],Ext.bU _⟩
 ·exact ⟨by rw [if_neg (by simpa using q)],Ext.bU _⟩
def jo(v:Ce)(ax m:Int)(w:World):eU 211 #[gg v,ax,m] w ((gg (gd v ax m))):=by
 apply afa.vc;intro w0 e0 w1 e1 w2 e2 w3 e3;have x0:=aV e0;have z0:=fE e0;have x1:=aV e1;have z1:=fE e1;have r1:Row w1 w0 [ax] 3:=Row.nw e1;have x2:=aV e2;have z2:=fE e2;have r2:Row w2 w1 [m] 3:=Row.nw e2;have x3:=aV e3;have z3:=fE e3;have x03:=x0.tr (x1.tr (x2.tr x3));refine (vP (λi own=>if i=ax then dG m else own) v (.func (.func 272) #[] #[w0,w1]) w3 λw' x' i x _ _=>bV (by kernel_rfl) rfl (VW ax m i x ((r1.ext (x2.tr x3)).ext x') ((r2.ext x3).ext x'))).bj λw4 x4=> ?_
 have z4:=x4.size;exact ⟨_,_,_,rfl,x4.heap aa,x4.heap aa,λw8 e8=>⟨rfl,(x03.tr x4).af e8 aa⟩⟩
abbrev fX:TypeId:=202
abbrev pL(b:Bx):LV:=[.int .i64 b.1.1,.int .i64 b.1.2.1,.int .i64 b.1.2.2,.int .i64 b.2.1,.int .i64 b.2.2.1,.int .i64 b.2.2.2]
def xB{w:World}{g o:Nat}{cs:LV}{τ:TypeId}(hr:Row w g cs τ){v:Value}(h:cs[o]? =some v):ah w (jS g o) 0 [v]:=hr.bK (o:=o) (λj hj=>by
 match j,hj with
 |0,_=>exact h)
def ua{w:World}{g o:Nat}{cs:LV}{τ:TypeId}(hr:Row w g cs τ){x y z:Value}(h:cs[o]? =some x)(h1:cs[o+1]? =some y)(h2:cs[o+2]? =some z):ah w (jS g o) 0 [x,y,z]:=hr.bK (o:=o) (λj hj=>by
 match j,hj with
 |0,_=>exact h
 |1,_=>exact h1
 |2,_=>exact h2)
def aqp{a:Int}(h:cT a):aC (Int.tdiv (if 0>a then 0 else a) 2)=max a 0 / 2:=by
 have e:(if 0>a then 0 else a)=max a 0:=by split<;>omega
 unfold cT at h;rw [e,uO aa,wI]
def avG(a:Int):(if 0>a then 0 else a)=max a 0:=by split<;>omega
def UD(au:Ce)(wd h:Int)(hw:cT wd)(w:World):eU 217 #[gg au,wd,h] w ((xq (FY au wd h))):=by
 apply YP.vc;rw [aqp hw,avG h];intro w0 e0 w1 e1 w2 e2 w3 e3;have x0:=aV e0;have z0:=fE e0;have r0:Row w0 w (eZ au) iz:=Row.nw e0;have x1:=aV e1;have z1:=fE e1;have x3:Ext w1 w3:=(aV e2).af e3 (ak _);have z3:=xh e2 e3;have cN:=x1.tr (x3.tr (Ext.dr w3));have zd:=oa w3;constructor
 all_goals
  refine (vG au (max wd 0 / 2,0,max wd 0 / 2) w3.drew).bj λw4 x4=> ?_
  have z4:=x4.size
  refine ⟨_,_,_,rfl,x4.heap aa,x4.heap aa,x4.heap aa,Lo.wv (r0.ext (cN.tr x4)),(jD au (max wd 0 / 2,max h 0,max wd 0 / 2) w4).bj λw8 x8=> ?_⟩
  have z8:=x8.size
  exact ⟨_,_,_,rfl,x8.heap aa,x8.heap aa,x8.heap aa,λbO uv=>⟨rfl,(x0.tr (cN.tr (x4.tr x8))).af uv aa⟩⟩
structure eJ where
 au:Ce
 speed:Ce
 wd:Int
 ht:Int
 fM:Bool
abbrev pk(b:eJ):LV:=[.int .i64 b.au.1,.int .i64 b.au.2.1,.int .i64 b.au.2.2,.int .i64 b.speed.1,.int .i64 b.speed.2.1,.int .i64 b.speed.2.2,.int .i64 b.wd,.int .i64 b.ht,.bool b.fM]
abbrev IB(b:eJ):Value:=.agg #[b.au.1,b.au.2.1,b.au.2.2,b.speed.1,b.speed.2.1,b.speed.2.2,b.wd,b.ht,.bool b.fM]
abbrev DM:TypeId:=75
def eJ.box(b:eJ):Bx:=FY b.au b.wd b.ht
def kB(b:eJ)(hw:cT b.wd)(w:World):eU 149 #[IB b] w ((xq b.box)):=by
 apply IC.vc;intro w0 e0 w1 e1;have x1:Ext w w1:=(aV e0).ba e1;have z0:=fE e0;have z1:=fE e1;refine (UD b.au b.wd b.ht hw w1).bj λw2 x2=> ?_
 have z2:=x2.size;exact ⟨_,_,_,_,_,_,rfl,x2.heap aa,x2.heap aa,λw9 e9=>⟨rfl,(x1.tr x2).af e9 aa⟩⟩
def zG(v:Ce)(w:World):eU 138 #[gg v] w ((gg (bh v))):=by
 apply ahP.vc;intro w0 e0 w1 e1;have x0:=aV e0;have z0:=fE e0;have r0:Row w0 w (eZ v) iz:=Row.nw e0;have x1:Ext w0 w1.drew:=(aV e1).drew;have z1:w1.drew.heap.size=w0.heap.size+1:=by show w1.heap.size=_;rw [e1];simp
 have r1:=r0.ext x1;refine (pn v.1 w1.drew).gK ?_;refine ⟨_,rfl,rfl,rfl,xB r1 rfl,xB r1 rfl,(pn v.2.1 w1.drew).gK ?_⟩;refine ⟨_,rfl,rfl,rfl,xB r1 rfl,(pn v.2.2 w1.drew).gK ?_⟩;exact ⟨_,rfl,rfl,rfl,λw8 e8=>⟨by unfold bh;rfl,(x0.tr x1).af e8 aa⟩⟩
def BF(a b c d:Int)(w:World):kT 390 #[a,b,c,d] w (Value.int .i64 (if a=b then c else d)):=by apply PU.vc;exact Br.mk (λh=>⟨by rw [if_pos (by simpa using h)],rfl⟩) (λh=>⟨by rw [if_neg (by simpa using h)],rfl⟩)
def YQ(b:Bx)(w:World):ae 378 #[xq b] w λe w'=>∃lo hi:Ce,e=Value.tuple #[gg lo,gg hi,.bool (wK b)]/\(wK b=true->lo=bh b.1/\hi=ft b)/\Ext w w':=by
 apply YR.vc;intro w0 e0 w1 e1 w2 e2;have x0:=aV e0;have z0:=fE e0;have r0:Row w0 w (pL b) fX:=Row.nw e0;have x1:=aV e1;have z1:=fE e1;have x2:=aV e2;have z2:=fE e2;refine (zG b.1 w2).bj λw3 x3=> ?_
 have z3:=x3.size;refine ⟨_,_,_,rfl,x3.heap aa,x3.heap aa,x3.heap aa,λw7 e7 w8 e8=>(jD b.2 (-1,-1,-1) w8).mono ?_⟩;have x8:Ext w3 w8:=(aV e7).af e8 (ak _);have z8:=xh e7 e8;have r8:Row w8 w3 (eZ (bh b.1)) si:=by rw [e8];exact Row.set (by rw [e7];exact Row.new w3 [_,_,_] _) _
 rintro e w9 ⟨rfl,x9⟩;have z9:=x9.size;refine ⟨_,_,_,rfl,x9.heap aa,x9.heap aa,x9.heap aa,x9.heap aa,(zG (jf b.2 (-1,-1,-1)) w9).bj λbw cN=> ?_⟩;have z13:=cN.size;refine ⟨_,_,_,rfl,cN.heap aa,cN.heap aa,cN.heap aa,cN.heap aa,λcM uq dN Od=> ?_⟩;have de:Ext bw dN:=(aV uq).af Od (ak _);have z18:=xh uq Od;have r18:Row dN bw (eZ (zH b)) si:=by rw [Od];exact Row.set (by rw [uq];exact Row.new bw [_,_,_] _) _
 have aoh:=x9.tr (cN.tr de);have Wq:=x0.tr (x1.tr (x2.tr (x3.tr (x8.tr aoh))));have rb:=r0.ext (x1.tr (x2.tr (x3.tr (x8.tr aoh))));have rl:=r8.ext aoh;refine ⟨λn x wr=>∃k:Nat,x=k/\k+n=3/\Ext dN wr/\∀j:Nat,j<k->jb b j=false,⟨3,rfl,rfl,rfl,rfl,rfl,0,rfl,rfl,Ext.bU _,λj hj=>by omega⟩,?_⟩;rintro n us x wr ⟨k,rfl,hk,xr,ht⟩;have zr:=xr.size;have xd:=Ext.dr wr;have zd:=oa wr;have wk:=nJ (j:=k);refine Br.mk (λhb=>(c9 b.1 k wr.drew).mono ?_) (λhb=>(BF b.1.1 b.2.1 (bh b.1).1 (zH b).1 wr.drew).mono ?_)
 ·replace hb:=lT hb;rintro e dL ⟨rfl,gM⟩;have z25:=gM.size;have x25d:=xr.tr (xd.tr gM);refine ⟨_,rfl,gM.heap aa,gM.heap aa,gM.heap aa,gM.heap aa,gM.heap aa,ua (rb.ext x25d) rfl rfl rfl,(c9 b.2 k dL).bj λgN jH=> ?_⟩;have z27:=jH.size;have next:jb b k=false->∀j:Nat,j<k+1->jb b j=false:=λh j hj=>by
   by_cases q:j<k
   ·exact ht j q
   ·rw [show j=k from by omega];exact h
  refine ⟨_,rfl,jH.heap aa,jH.heap aa,jH.heap aa,jH.heap aa,jH.heap aa,Br.mk (λh1=>(BG _ gN).mono ?_) (λh1=> ?_)⟩
  ·rintro e gz ⟨rfl,rfl⟩;have h1:=fC h1;refine ⟨_,rfl,rfl,rfl,rfl,rfl,rfl,Br.mk (λh2=>λik e31 uu e32=> ?_) (λh2=> ?_)⟩
   ·have h2:=fC h2;have hth:jb b k=true:=by unfold jb;rw [h1,<-h1,h2];simp [h1]
    have hsp:wK b=false:=by
     have h3:(k:Int)=0\/(k:Int)=1\/(k:Int)=2:=by omega
     unfold wK;rcases h3 with q|q|q<;>(rw [q] at hth;rw [hth];simp)
    refine ⟨(0,0,0),(0,0,0),by rw [hsp],λq=>absurd (hsp.symm.trans q) aw,((Wq.tr (x25d.tr jH)).af e31 aa).af e32 aa⟩
   ·have h2:=fC h2;exact ⟨n-1,aa,rfl,rfl,rfl,rfl,rfl,k+1,wk,aa,x25d.tr jH,next (by unfold jb;simp [h2])⟩
  ·have h1:=fC h1;exact ⟨n-1,aa,rfl,rfl,rfl,rfl,rfl,k+1,wk,aa,x25d.tr jH,next (by unfold jb;simp [h1])⟩
 ·replace hb:=l6 hb;have hsp:wK b=true:=by unfold wK;rw [show jb b 0=false from ht 0 aa,show jb b 1=false from ht 1 aa,show jb b 2=false from ht 2 aa];rfl
  have rb':=rb.ext (xr.tr xd);have rl':=rl.ext (xr.tr xd);have rt':=r18.ext (xr.tr xd);rintro e jZ ⟨rfl,rfl⟩;refine ⟨_,rfl,rfl,rfl,rfl,rfl,rfl,xB rt' rfl,xB rl' rfl,xB rb' rfl,xB rb' rfl,xB rt' rfl,xB rl' rfl,xB rb' rfl,xB rb' rfl,(BF b.1.2.1 b.2.2.1 (bh b.1).2.1 (zH b).2.1 wr.drew).gK ?_⟩;refine ⟨_,rfl,rfl,rfl,rfl,rfl,rfl,xB rt' rfl,xB rl' rfl,xB rb' rfl,xB rb' rfl,(BF b.1.2.2 b.2.2.2 (bh b.1).2.2 (zH b).2.2 wr.drew).gK ?_⟩;refine ⟨_,rfl,rfl,rfl,rfl,rfl,rfl,λlN e39 nV e40 kN e41 pF e42=> ?_⟩;have r39:Row lN bw (eZ ((ft b).1,(zH b).2.1,(zH b).2.2)) si:=by rw [e39];exact Row.set rt' [_,_,_]
  have r40:Row nV bw (eZ ((ft b).1,(ft b).2.1,(zH b).2.2)) si:=r39.st e40;have r41:Row kN bw (eZ (ft b)) si:=r40.st e41;have r42:Row pF bw (eZ (ft b)) si:=(r41.ext (Ext.dr kN)).same (by rw [e42];exact setRow_other _ _ _ _ aa);have yP:Ext w pF:=(((((Wq.tr (xr.tr xd)).af e39 aa).af e40 aa).af e41 aa).drew).af e42 aa;exact ⟨Lo.wv r42,λiS X6=>⟨bh b.1,ft b,by rw [hsp];rfl,λ_=>⟨rfl,rfl⟩,yP.af X6 aa⟩⟩
def UE(b:Bx)(w:World):eU 255 #[xq b] w ((xq (nQ b))):=by
 apply PV.vc;intro w0 e0 w1 e1;have x0:=aV e0;have z0:=fE e0;have r0:Row w0 w (pL b) fX:=Row.nw e0;have x1:Ext w0 w1.drew:=(aV e1).drew;have z1:w1.drew.heap.size=w0.heap.size+1:=by show w1.heap.size=_;rw [e1];simp
 have r1:=r0.ext x1;refine (JT b.1.2.1 1 w1.drew).gK ?_;refine ⟨_,rfl,rfl,rfl,ua r1 rfl rfl rfl,ua r1 rfl rfl rfl,(jo b.1 1 (nj b.1.2.1 1) w1.drew).bj λw4 x4=> ?_⟩;have z4:=x4.size;refine ⟨_,_,_,rfl,x4.heap aa,x4.heap aa,ua (r1.ext x4) rfl rfl rfl,(jo b.2 1 b.1.2.1 w4).bj λw8 x8=> ?_⟩;have z8:=x8.size;exact ⟨_,_,_,rfl,x8.heap aa,x8.heap aa,λbO uv=>⟨rfl,(x0.tr (x1.tr (x4.tr x8))).af uv aa⟩⟩
end Go.Proofs.YtjcnjlaelhdjeaaGreatDoor
