import Derived.Test.YtalpkjfpmdpbiaaGreatDoorKS
set_option linter.all false
namespace Go.Proofs.YtalpkjfpmdpbiaaGreatDoor
open Go Go.Vc Go.RowKit Go.Proofs Go.dS Go.bh
structure It where
 x:Nat
 g:Nat
 s:Sl
 p:Po
 C:List Int
 mq:Bool
 pins:Int
structure qS(w:World)(i:It):Prop where
 r:Row w i.x [.pointer (bu i.g),.bool i.mq,i.pins] bT
 k:B7 w i.g i.s i.p i.C
def qS.ext{w w':World}{i:It}(h:qS w i)(x:Ext w w'):qS w' i:=⟨h.r.ext x,h.k.ext x⟩
def qS.bM{w w':World}{i:It}(h:qS w i){F:Nat->Prop}(hm:Mod F w w')(h1:¬F i.x)(h2:¬F i.g)(h3:∀b,i.s.bj=some b->¬F b):qS w' i:=⟨hm.row h.r h1,h.k.bM hm h2 h3⟩
abbrev xH(its:List It):List (LV):=its.map λi=> [.pointer (bu i.x)]
structure TO(w:World)(t st d:Nat)(r:Dm)(sl:Sl)(D:Dk)(ag limit:Int)(its:List It):Prop where
 rt:Row w t [st,ag,limit,sl] vO
 so:SO w st d r D
 ol:aj 0 Sc 1 w sl (xH its)
 it:∀i ∈ its,qS w i
 dx:(its.map (·.x)).Nodup
 dg:(its.map (·.g)).Nodup
 Rr:1<=limit/\limit<=16
 len:(its.length:Int)<=limit
def dM(m:Dm)(i:Nat):Prop:=i=m.r\/m.ls.bj=some i\/∃x ∈ m.E++m.W,x.2.1.bj=some i
def fj(t st d:Nat)(r:Dm)(sl:Sl)(its:List It)(i:Nat):Prop:=i=t\/i=st\/i=d\/dM r i\/sl.bj=some i\/∃y ∈ its,i=y.x\/i=y.g\/y.s.bj=some i
def TO.lt{w:World}{t st d:Nat}{r:Dm}{sl:Sl}{D:Dk}{ag limit:Int}{its:List It}(h:TO w t st d r sl D ag limit its){i:Nat}(hi:fj t st d r sl its i):i<w:=by
 rcases hi with rfl|e|e|e|e|⟨y,hy,e|e|e⟩
 ·exact h.rt.lt
 ·exact h.so.lt (.inl e)
 ·exact h.so.lt (.inr (.inl e))
 ·exact h.so.lt (.inr (.inr e))
 ·exact (h.ol.own.lt e).2
 ·exact e▸(h.it y hy).r.lt
 ·exact e▸(h.it y hy).k.row.lt
 ·exact ((h.it y hy).k.own.own.lt e).2
def TO.same{w w':World}{t st d:Nat}{r:Dm}{sl:Sl}{D:Dk}{ag limit:Int}{its:List It}(h:TO w t st d r sl D ag limit its)(hs:∀i,fj t st d r sl its i->w'.heap[i]? =w.heap[i]?):TO w' t st d r sl D ag limit its:=by
 refine ⟨h.rt.same (hs _ (.inl rfl)),h.so.same λi hi=>hs i ?_,aj.bM h.ol λb hb=>hs b (.inr (.inr (.inr (.inr (.inl hb))))),λy hy=> ?_,h.dx,h.dg,h.Rr,h.len⟩
 ·rcases hi with e|e|e
  ·exact .inr (.inl e)
  ·exact .inr (.inr (.inl e))
  ·exact .inr (.inr (.inr (.inl e)))
 ·have f:∀i,(i=y.x\/i=y.g\/y.s.bj=some i)->w'.heap[i]? =w.heap[i]? :=λi hi=>hs i (.inr (.inr (.inr (.inr (.inr ⟨y,hy,hi⟩)))))
  have hi:=h.it y hy;exact ⟨hi.r.same (f _ (.inl rfl)),hi.k.row.same (f _ (.inr (.inl rfl))),aj.bM hi.k.own λb hb=>f b (.inr (.inr hb)),hi.k.len,hi.k.may⟩
def TO.ext{w w':World}{t st d:Nat}{r:Dm}{sl:Sl}{D:Dk}{ag limit:Int}{its:List It}(h:TO w t st d r sl D ag limit its)(x:Ext w w'):TO w' t st d r sl D ag limit its:=h.same λi hi=>x.heap (h.lt hi)
def TO.kind{w:World}{t st d:Nat}{r:Dm}{sl:Sl}{D:Dk}{ag limit:Int}{its:List It}(h:TO w t st d r sl D ag limit its){i:Nat}(hi:fj t st d r sl its i):
  bN GI w (some i) (r.E.map mJ)\/∃cs τ,Row w i cs τ/\(τ=vO\/τ=vN\/τ=pH\/τ=Sc\/τ=bT\/τ=sk\/τ=fb\/τ=tW\/τ=fh):=by
 rcases hi with e|e|e|e|e|⟨y,hy,e|e|e⟩
 ·exact .inr ⟨_,_,e▸h.rt,.inl rfl⟩
 ·exact .inr ⟨_,_,e▸h.so.rs,.inr (.inl rfl)⟩
 ·exact .inr ⟨_,_,e▸h.so.dk.rd,.inr (.inr (.inl rfl))⟩
 ·rcases h.so.dk.kind (.inr e) with q|⟨cs,τ,q1,q2⟩
  ·exact .inl q
  ·refine .inr ⟨cs,τ,q1,?_⟩;rcases q2 with rfl|rfl|rfl
   ·exact .inr (.inr (.inl rfl))
   ·exact .inr (.inr (.inr (.inr (.inr (.inr (.inr (.inl rfl)))))))
   ·exact .inr (.inr (.inr (.inr (.inr (.inr (.inr (.inr rfl)))))))
 ·obtain ⟨cs,hr⟩:=aM h.ol aC e;exact .inr ⟨_,_,hr,.inr (.inr (.inr (.inl rfl)))⟩
 ·exact .inr ⟨_,_,e▸(h.it y hy).r,.inr (.inr (.inr (.inr (.inl rfl))))⟩
 ·exact .inr ⟨_,_,e▸(h.it y hy).k.row,.inr (.inr (.inr (.inr (.inr (.inl rfl)))))⟩
 ·obtain ⟨cs,hr⟩:=aM (h.it y hy).k.own aC e;exact .inr ⟨_,_,hr,.inr (.inr (.inr (.inr (.inr (.inr (.inl rfl))))))⟩
def TO.cF{w:World}{t st d:Nat}{r:Dm}{sl:Sl}{D:Dk}{ag limit:Int}{its:List It}(h:TO w t st d r sl D ag limit its){j:Nat}{cs:LV}{τ:TypeId}(hr:Row w j cs τ)(hτ:τ≠vO/\τ≠vN/\τ≠pH/\τ≠Sc/\τ≠bT/\τ≠sk/\τ≠fb/\τ≠tW/\τ≠fh):¬fj t st d r sl its j:=λhf=>by
 rcases h.kind hf with hm|⟨cs',τ',hr',ht⟩
 ·exact hr.ic hm rfl
 ·obtain ⟨h1,h2,h3,h4,h5,h6,h7,h8,h9⟩:=hτ
  rcases ht with rfl|rfl|rfl|rfl|rfl|rfl|rfl|rfl|rfl
  ·exact hr.ne hr' h1 rfl
  ·exact hr.ne hr' h2 rfl
  ·exact hr.ne hr' h3 rfl
  ·exact hr.ne hr' h4 rfl
  ·exact hr.ne hr' h5 rfl
  ·exact hr.ne hr' h6 rfl
  ·exact hr.ne hr' h7 rfl
  ·exact hr.ne hr' h8 rfl
  ·exact hr.ne hr' h9 rfl
def TO.n{w:World}{t st d:Nat}{r:Dm}{sl:Sl}{D:Dk}{ag limit:Int}{its:List It}(h:TO w t st d r sl D ag limit its):sl.n=its.length:=by have:=(h.ol.rd aC).n;rwa [aB] at this
def TO.at{w:World}{t st d:Nat}{r:Dm}{sl:Sl}{D:Dk}{ag limit:Int}{its:List It}(h:TO w t st d r sl D ag limit its){i:Nat}{y:It}(hi:its[i]? =some y):cA sl.a (i:Int) sl.n/\ld w (ae sl.a (((i:Nat):Int).toNat*1))=some (.pointer (bu y.x)):=by have fH:=(bH.1 hi).1;have fq:=h.ol.rd (show 0<1 by decide);refine ⟨RdK.fp fq aC aa (by rw [h.n];omega),?_⟩;have:=fq.rd i [.pointer (bu y.x)] (by rw [aV,hi];rfl) 0 _ rfl;exact this
def gy(room:Int):Dk:=⟨min (max room 0) 1048576,0,0,[],[]⟩
def PV(ag limit room:Int)(w:World):ah 67 #[ag,limit,room] w λe w'=>∃t st d r,e=Value.pointer (bu t)/\TO w' t st d r ⟨none,0,0⟩ (gy room) ag (min (max limit 1) 16) []/\Ext w w'/\∀i,fj t st d r ⟨none,0,0⟩ [] i->w.heap.size<=i:=by
 apply OD.vc;refine (PW room w).mono ?_;rintro e w0 ⟨st,d,m,rfl,hs,x0,hf⟩;refine ⟨_,rfl,λw2 e2=> ?_⟩;have x2:=bo e2;have z0:=x0.size;have hl:(if 16<(if 1>limit then 1 else limit) then 16 else (if 1>limit then 1 else limit))=min (max limit 1) 16:=by split<;>split<;>omega
 rw [hl] at e2;refine ⟨_,st,d,m,rfl,⟨by rw [e2];exact Row.new w0 [_,_,_,_] _,hs.ext x2,aj.nil,by simp,by simp,by simp,by omega,by simp;omega⟩,x0.tr x2,λi hi=> ?_⟩;rcases hi with rfl|e|e|e|e|⟨y,hy,-⟩
 ·exact z0
 ·exact hf i (.inl e)
 ·exact hf i (.inr (.inl e))
 ·exact hf i (.inr (.inr e))
 ·cases e
 ·cases hy
def pK{α:Type}(s:Sl)(l:List α)(ad:α->Nat)(fv:Value)(q:α->Bool)(w:World)(hs:RdK w s 1 (l.map λi=> [.pointer (some ⟨ad i,0,none⟩)]))(hb:l.length<=1000)
  (hf:∀i ∈ l,∀w',Ext w w'->dJ Tryz.prog fv [.pointer (some ⟨ad i,0,none⟩)] w' λe w''=>e=Value.bool (q i)/\Ext w' w''):
  ah 113 #[s,fv] w λe w'=>e=Value.int .i64 (bC q l)/\Ext w w':=by
 apply o5.vc;have hn:s.n=l.length:=by have:=hs.n;rwa [aB] at this
 refine ⟨λn i wr=>∃k:Nat,i=k/\k+n=l.length/\Ext w wr/\∀j,j<k->∀y,l[j]? =some y->q y=false,⟨l.length,0,rfl,by omega,Ext.bX _,λj hj=>by omega⟩,?_⟩;rintro n us i wr ⟨k,rfl,hk,xr,lk⟩;have BR:=kK (j:=k);apply Br.mk<;>intro hc
 ·replace hc:=fe hc;obtain ⟨y,hy⟩:=aZ (l:=l) (i:=k) aa;have hsr:=RdK.ext hs xr;have mA:=hsr.rd k [.pointer (some ⟨ad y,0,none⟩)] (by rw [aV,hy];rfl) 0 _ rfl;refine ⟨RdK.fp hsr aC aa aa,_,mA,sw (hf y (bf hy) wr xr) ?_⟩;rintro e w7 ⟨rfl,x7⟩;refine ⟨_,rfl,Br.mk (λh=> ?_) (λh=> ?_)⟩
  ·exact ⟨by rw [mZ hy h lk],xr.tr x7⟩
  ·refine ⟨n-1,by omega,k+1,BR,by omega,xr.tr x7,λj hj z hz=> ?_⟩;by_cases e:j=k
   ·subst e;rw [hy] at hz;cases hz;exact h
   ·exact lk j aa z hz
 ·replace hc:=eX hc;refine ⟨?_,xr⟩;rw [ja];intro y hy;obtain ⟨j,hj⟩:=mR hy;exact lk j (by have:=(bH.1 hj).1;omega) y hj
set_option maxRecDepth 100000 in
def find_spec{w:World}{t st d:Nat}{r:Dm}{sl:Sl}{D:Dk}{ag limit:Int}{its:List It}(h:TO w t st d r sl D ag limit its)(p:Po):
  ah 70 #[t,pv p] w λe w'=>e=Value.int .i64 (bC (λi=>i.p==p) its)/\Ext w w':=by
 apply vC.vc;intro w0 e0;have x0:=bo e0;have hb:Row w0 w [p.1,p.2] QH:=Row.nw e0;have h0:=h.ext x0;have ed:=h.len;have CA:=h.Rr;refine ⟨sl,h0.rt.at 3 rfl,(pK sl its (·.x) _ (λi=>i.p==p) w0 (h0.ol.rd aC) aa ?_).mono ?_⟩
 ·intro y hy w' x';refine iA (by kernel_rfl) (by rfl) ?_;apply rV.vc;have hy':=((h0.it y hy).ext x').ext (Ext.dr w');have hb':=(hb.ext x').ext (Ext.dr w');refine ⟨_,by rw [bZ,hy'.r.ld];rfl,yP (yP ⟨_,_,hy'.k.pos,_,_,hb'.aY (λj hj=>by rw [cP]),(rR y.p w'.drew).mono ?_⟩)⟩;rintro e w5 ⟨rfl,x5⟩;refine ⟨_,_,rfl,(hb'.ext x5).aY (λj hj=>by rw [cP]),?_,rfl,(Ext.dr w').tr x5⟩;rw [bZ];exact (hy'.ext x5).r.aY (λj hj=>by simp at hj;subst hj;rfl)
 ·rintro e w2 ⟨rfl,x2⟩;exact ⟨_,rfl,rfl,x0.tr x2⟩
end Go.Proofs.YtalpkjfpmdpbiaaGreatDoor
namespace Go.Proofs.YtalpkjfpmdpbiaaGreatDoor
open Go Go.Vc Go.RowKit Go.Proofs Go.dS Go.bh
def SO.kind{w:World}{st d:Nat}{m:Dm}{D:Dk}(h:SO w st d m D){i:Nat}(hi:sF st d m i):bN GI w (some i) (m.E.map mJ)\/∃cs τ,Row w i cs τ/\(τ=vN\/τ=pH\/τ=tW\/τ=fh):=by
 rcases hi with e|hi
 ·exact .inr ⟨_,_,e▸h.rs,.inl rfl⟩
 ·rcases h.dk.kind hi with q|⟨cs,τ,q1,q2⟩
  ·exact .inl q
  ·exact .inr ⟨cs,τ,q1,.inr q2⟩
def SO.bM{w w':World}{st d:Nat}{m:Dm}{D:Dk}(h:SO w st d m D){F:Nat->Prop}(hm:Mod F w w')(hr:∀{j:Nat} {cs:LV} {τ:TypeId},Row w j cs τ->(τ=vN\/τ=pH\/τ=tW\/τ=fh)->¬F j)(Xi:∀{j:Nat} {kvs:List (Value × Value)},bN GI w (some j) kvs->¬F j):SO w' st d m D:=
 h.same λi hi=>hm.same i (h.lt hi) (by
  rcases h.kind hi with q|⟨cs,τ,q1,q2⟩
  ·exact Xi q
  ·exact hr q1 q2)
abbrev Vn(t:Nat)(sl:Sl):Nat->Prop:=λj=>j=t\/sl.bj=some j
def TO.off{w:World}{t st d:Nat}{r:Dm}{sl:Sl}{D:Dk}{ag limit:Int}{its:List It}(h:TO w t st d r sl D ag limit its){j:Nat}{cs:LV}{τ:TypeId}(hr:Row w j cs τ)(h1:τ≠vO)(h2:τ≠Sc):¬Vn t sl j:=by
 rintro (e|e)
 ·exact hr.ne h.rt h1 e
 ·obtain ⟨cs',hr'⟩:=aM h.ol aC e;exact hr.ne hr' h2 rfl
def TO.item{w w':World}{t st d:Nat}{r:Dm}{sl:Sl}{D:Dk}{ag limit:Int}{its:List It}(h:TO w t st d r sl D ag limit its)(hm:Mod (Vn t sl) w w'){y:It}(hy:qS w y):qS w' y:=
 hy.bM hm (h.off hy.r aC aC) (h.off hy.k.row aC aC) (λb hb=>by obtain ⟨cs',hr'⟩:=aM hy.k.own aC hb;exact h.off hr' aC aC)
def TO.Lj{w w':World}{t st d:Nat}{r:Dm}{sl sl':Sl}{D:Dk}{ag limit:Int}{its its':List It}(h:TO w t st d r sl D ag limit its)(hm:Mod (Vn t sl) w w')
  (rt:Row w' t [st,ag,limit,sl'] vO)(ol:aj 0 Sc 1 w' sl' (xH its'))(hit:∀y ∈ its',y ∈ its\/qS w y)
  (dx:(its'.map (·.x)).Nodup)(dg:(its'.map (·.g)).Nodup)(len:(its'.length:Int)<=limit):TO w' t st d r sl' D ag limit its':=by
 refine ⟨rt,h.so.bM hm (λhr hτ=> ?_) (λXi=> ?_),ol,λy hy=>h.item hm ?_,dx,dg,h.Rr,len⟩
 ·rcases hτ with rfl|rfl|rfl|rfl<;>exact h.off hr aC aC
 ·rintro (e|e)
  ·exact h.rt.ic Xi e.symm
  ·obtain ⟨cs',hr'⟩:=aM h.ol aC e;exact hr'.ic Xi rfl
 ·rcases hit y hy with h1|h1
  ·exact h.it y h1
  ·exact h1
def Ab{w:World}{t st d:Nat}{r:Dm}{sl sl':Sl}{its its':List It}(hb:∀b,sl'.bj=some b->sl.bj=some b\/w.heap.size<=b)(hi:∀y ∈ its',y ∈ its\/(w.heap.size<=y.x/\w.heap.size<=y.g/\∀b,y.s.bj=some b->w.heap.size<=b)):
  ∀i,fj t st d r sl' its' i->fj t st d r sl its i\/w.heap.size<=i:=by
 rintro i (e|e|e|e|e|⟨y,hy,e⟩)
 ·exact .inl (.inl e)
 ·exact .inl (.inr (.inl e))
 ·exact .inl (.inr (.inr (.inl e)))
 ·exact .inl (.inr (.inr (.inr (.inl e))))
 ·rcases hb i e with h|h
  ·exact .inl (.inr (.inr (.inr (.inr (.inl h)))))
  ·exact .inr h
 ·rcases hi y hy with h|⟨h1,h2,h3⟩
  ·exact .inl (.inr (.inr (.inr (.inr (.inr ⟨y,h,e⟩)))))
  ·rcases e with e|e|e
   ·exact .inr aa
   ·exact .inr aa
   ·exact .inr (h3 i e)
def tQ{t st d:Nat}{r:Dm}{sl:Sl}{its:List It}:∀i,Vn t sl i->fj t st d r sl its i:=by
 rintro i (e|e)
 ·exact .inl e
 ·exact .inr (.inr (.inr (.inr (.inl e))))
def Yb(a:Addr):One [Value.pointer (some a)]:=by intro v hv;simp at hv;subst hv;rfl
def TO.push{w:World}{t st d:Nat}{r:Dm}{sl:Sl}{D:Dk}{ag limit:Int}{its:List It}(h:TO w t st d r sl D ag limit its)(y:It)(hy:qS w y)(hx:y.x ∉ its.map (·.x))(hg:y.g ∉ its.map (·.g))(hl:(its.length:Int)+1<=limit):
  aF 8 1 w sl 1 [.pointer (bu y.x)]/\∀(s4:Sl)(w5:World),aE Sc 1 w sl 1 [.pointer (bu y.x)] s4 w5->
   Mod (λj=>sl.bj=some j) w w5/\Wr w5 (ae (bu t) 3) 1/\∀w6,w6=bc w5 (ae (bu t) 3) [.slice s4.a s4.n s4.c]->
    TO w6 t st d r s4 D ag limit (its++ [y])/\Mod (Vn t sl) w w6/\∀b,s4.bj=some b->sl.bj=some b\/w.heap.size<=b:=by
 have hn:=h.n;have CA:=h.Rr;obtain ⟨hp,hr⟩:=h.ol.append (bytes:=8) (news:=[.pointer (bu y.x)]) (eC _) rfl (Yb _) aa aa;refine ⟨hp,λs4 w5 aR=> ?_⟩;obtain ⟨ho,hn4,uM,hk,hM⟩:=hr s4 w5 aR;have hm5:Mod (λj=>sl.bj=some j) w w5:=Mod.rK uM hk;have hnt:¬sl.bj=some t:=λe=>by obtain ⟨cs',hr'⟩:=aM h.ol aC e;exact hr'.ne h.rt aC rfl
 have rt5:=hm5.row h.rt hnt;obtain ⟨p1,p2⟩:=rt5.jR (j:=3) (v:=.slice s4.a s4.n s4.c) cx rfl;refine ⟨hm5,p1,λw6 e6=> ?_⟩;obtain ⟨q1,q2⟩:=p2 w6 e6;have hm6:Mod (Vn t sl) w w6:=(hm5.mono λi _ hi=> .inr hi).trans (q2.mono λi _ hi=> .inl hi);have h4t:∀b,s4.bj=some b->b≠t:=λb hb=>by obtain ⟨cs',hr'⟩:=aM ho aC hb;exact hr'.ne rt5 aC
 refine ⟨h.Lj hm6 q1 ?_ (λz hz=> ?_) ?_ ?_ (by simp;omega),hm6,λb hb=> ?_⟩
 ·have:=q2.gK ho h4t;show aj 0 Sc 1 w6 s4 ((its++ [y]).map _);rw [aT];exact this
 ·rcases cu.1 hz with hz|hz
  ·exact .inl hz
  ·simp at hz;subst hz;exact .inr hy
 ·rw [aT];refine lH.2 ⟨h.dx,by simp,?_⟩;intro a ha b hb e;simp at hb;subst hb;subst e;exact hx ha
 ·rw [aT];refine lH.2 ⟨h.dg,by simp,?_⟩;intro a ha b hb e;simp at hb;subst hb;subst e;exact hg ha
 ·rcases hM with e|e
  ·exact .inl (by rw [<-e];exact hb)
  ·rw [e] at hb;cases hb;exact .inr (ax _)
def Ac{w:World}{t st d:Nat}{r:Dm}{sl:Sl}{D:Dk}{ag limit:Int}{its:List It}(h:TO w t st d r sl D ag limit its){i:Nat}{y:It}(hi:its[i]? =some y):
  ah 108 #[t,.int .i64 (i:Nat)] w λe w'=>e=Value.pointer (bu y.x)/\∃sl',TO w' t st d r sl' D ag limit (its.eraseIdx i)/\Mod (Vn t sl) w w'/\∀b,sl'.bj=some b->sl.bj=some b\/w.heap.size<=b:=by
 apply xN.vc;have hn:=h.n;have CA:=h.Rr;have ed:=h.len;have wg:=(bH.1 hi).1;obtain ⟨a1,a2⟩:=h.at hi;have hd:=h.ext (Ext.dr w);have hle:=aj.le h.ol;have w1:=kK (j:=i);refine ⟨sl,h.rt.at 3 rfl,a1,_,a2,sl,hd.rt.at 3 rfl,by omega,by omega,by omega,by omega,sl,hd.rt.at 3 rfl,?_⟩;rw [w1];have jF:=hd.ol.cut aC (m:=i) (by rw [aB];omega);have hrest:=RdK.rest (hd.ol.rd aC) (l:=i+1) (m:=sl.c) (n':=sl.n-(i+1)) (c':=sl.c-(i+1)) (by rw [aB];omega) (by rw [aB];omega);have hml:((xH its).drop (i+1)).length=sl.n-(i+1):=by rw [iC,aB];omega
 have hwd:∀q ∈(xH its).drop (i+1),q.length=1/\One q:=λq hq=>by obtain ⟨z,_,rfl⟩:=aS.1 (oE hq);exact ⟨rfl,Yb _⟩
 obtain ⟨hp,aR⟩:=jF.kl (bytes:=8) (more:=(xH its).drop (i+1)) (eC _) (λq hq=>(hwd q hq).1) (λq hq=>(hwd q hq).2) (by rw [hml];show (i+_)*8<=_;omega) (by rw [hml];show i+_<=_;omega);rw [hml] at hp aR;refine ⟨by omega,by omega,((xH its).drop (i+1)).flatten,hrest.flat aC,hp,λs5 w6 hr=> ?_⟩;obtain ⟨ho,hn5,uM,hk,hM⟩:=aR s5 w6 hr;have Ft:(Sl.mk (aA sl.a 0 i 1) i i).bj=sl.bj:=by rw [eJ];rfl
 rw [Ft] at hk hM;have hm6:Mod (λj=>sl.bj=some j) w w6:=(Mod.aN (Ext.dr w)).trans (Mod.rK uM hk);have hnt:¬sl.bj=some t:=λe=>by obtain ⟨cs',hr'⟩:=aM h.ol aC e;exact hr'.ne h.rt aC rfl
 have rt6:=hm6.row h.rt hnt;obtain ⟨p1,p2⟩:=rt6.jR (j:=3) (v:=.slice s5.a s5.n s5.c) cx rfl;have mA:au w6 (ae (bu t) 3) 0 [sl]:=by show ld w6 (ae _ 0)=_;rw [ck];exact rt6.at 3 rfl
 refine ⟨mA,mA,⟨rfl,p1⟩,λw7 e7=>⟨rfl,s5,?_⟩⟩;obtain ⟨q1,q2⟩:=p2 w7 e7;have hm7:Mod (Vn t sl) w w7:=(hm6.mono λi _ hi=> .inr hi).trans (q2.mono λi _ hi=> .inl hi);have h5t:∀b,s5.bj=some b->b≠t:=λb hb=>by obtain ⟨cs',hr'⟩:=aM ho aC hb;exact hr'.ne rt6 aC
 have eI:List.Sublist (its.eraseIdx i) its:=oK ..;refine ⟨h.Lj hm7 q1 ?_ (λz hz=> .inl (eI.subset hz)) (h.dx.sublist (eI.map _)) (h.dg.sublist (eI.map _)) ?_,hm7,λb hb=> ?_⟩
 ·have:=q2.gK ho h5t;show aj 0 Sc 1 w7 s5 ((its.eraseIdx i).map _);rw [tC,aT,List.map_take,List.map_drop];exact this
 ·have:=eI.length_le;omega
 ·rcases hM with e|e
  ·exact .inl (by rw [<-e];exact hb)
  ·rw [e] at hb;cases hb;exact .inr (ax _)
def Di{α:Type}{f:α->Nat}{l:List α}{i:Nat}{y:α}(hd:(l.map f).Nodup)(hi:l[i]? =some y):f y ∉(l.eraseIdx i).map f:=by
 rw [tC,aT];have e:l=l.take i++y::l.drop (i+1):=by have:=jK i l;rw [kW (bH.1 hi).1] at this;rw [<-(bH.1 hi).2];exact this.symm
 rw [e,aT,dG] at hd;obtain ⟨h1,h2,h3⟩:=lH.1 hd;intro hm;rcases cu.1 hm with hm|hm
 ·exact h3 _ hm _ (.head _) rfl
 ·exact (lE.1 h2).1 hm
def Ad{w:World}{t st d:Nat}{r:Dm}{sl:Sl}{D:Dk}{ag limit:Int}{its:List It}(h:TO w t st d r sl D ag limit its){i:Nat}{y:It}(hi:its[i]? =some y):
  ah 71 #[t,.int .i64 (i:Nat)] w λe w'=>e=Value.pointer (bu y.x)/\∃sl',TO w' t st d r sl' D ag limit (its.eraseIdx i++ [y])/\aG (fj t st d r sl its) (fj t st d r sl' (its.eraseIdx i++ [y])) w w':=by
 apply tP.vc;have wg:=(bH.1 hi).1;have Uc:y ∈ its:=bf hi;have ed:=h.len;refine (Ac h hi).mono ?_;rintro e w0 ⟨rfl,sl0,h0,m0,b0⟩;have hy0:=h.item m0 (h.it y Uc);refine ⟨_,rfl,sl0,h0.rt.at 3 rfl,λw3 e3=> ?_⟩;have x3:=bo e3;have h3:=h0.ext x3;have eI:List.Sublist (its.eraseIdx i) its:=oK ..;have hel:(its.eraseIdx i).length=its.length-1:=by rw [List.length_eraseIdx,if_pos wg]
 obtain ⟨hp,hr⟩:=h3.push y (hy0.ext x3) (Di h.dx hi) (Di h.dg hi) aa;refine ⟨hp,λs4 w5 aR=> ?_⟩;obtain ⟨m5,p1,p2⟩:=hr s4 w5 aR;have ht0:=h0.rt.lt;have z3:=dt e3;refine ⟨m5.same _ aa λe=>by have:=(h0.ol.own.lt e).2;omega,⟨rfl,p1⟩,λe=> ?_,λw6 e6=>⟨rfl,s4,?_⟩⟩
 ·rw [dj] at e;have:t=w0.heap.size:=by simpa [cS] using e
  omega
 ·obtain ⟨q1,q2,q3⟩:=p2 w6 e6;have z0:=m0.size;refine ⟨q1,⟨?_,?_⟩⟩
  ·have a1:Mod (fj t st d r sl its) w w3:=(m0.mono λi _ hi=>tQ i hi).trans (Mod.aN x3);refine a1.tr q2 λj hj=> ?_
   rcases hj with e|e
   ·exact .inl (.inl e)
   ·rcases b0 j e with e|e
    ·exact .inl (.inr (.inr (.inr (.inr (.inl e)))))
    ·exact .inr e
  ·refine Ab (w:=w) (λb hb=> ?_) (λz hz=> .inl ?_)
   ·rcases q3 b hb with e|e
    ·exact b0 b e
    ·exact .inr aa
   ·rcases cu.1 hz with hz|hz
    ·exact eI.subset hz
    ·simp at hz;subst hz;exact Uc
end Go.Proofs.YtalpkjfpmdpbiaaGreatDoor
namespace Go.Proofs.YtalpkjfpmdpbiaaGreatDoor
open Go Go.Vc Go.RowKit Go.Proofs Go.dS Go.bh Go.Code
def TO.put{w w':World}{t st d:Nat}{r:Dm}{sl:Sl}{D:Dk}{ag limit:Int}{its:List It}(h:TO w t st d r sl D ag limit its){i:Nat}{y y':It}(hi:its[i]? =some y)(hx:y'.x=y.x)(hg:y'.g=y.g)(hm:Mod (λj=>j=y.x) w w')(hy:qS w' y'):TO w' t st d r sl D ag limit (its.set i y'):=by
 have wg:=(bH.1 hi).1;have hr:=(h.it y (bf hi)).r;have off:∀{j:Nat} {cs:LV} {τ:TypeId},Row w j cs τ->τ≠bT->¬j=y.x:=λhr' ht e=>hr'.ne hr ht e
 have hpx:xH (its.set i y')=xH its:=by
  unfold xH;rw [mP,hx];apply im;intro j;rw [il];split
  ·rename_i e;subst e;rw [if_pos (by rw [aB];exact wg),aV,hi];rfl
  ·rfl
 have hmx:(its.set i y').map (·.x)=its.map (·.x):=by
  rw [mP,hx];apply im;intro j;rw [il];split
  ·rename_i e;subst e;rw [if_pos (by rw [aB];exact wg),aV,hi];rfl
  ·rfl
 have hmg:(its.set i y').map (·.g)=its.map (·.g):=by
  rw [mP,hg];apply im;intro j;rw [il];split
  ·rename_i e;subst e;rw [if_pos (by rw [aB];exact wg),aV,hi];rfl
  ·rfl
 refine ⟨hm.row h.rt (off h.rt aC),h.so.bM hm (λhr' hτ=>by rcases hτ with rfl|rfl|rfl|rfl<;>exact off hr' aC) (λXi e=>hr.ic Xi e.symm),?_,λz hz=> ?_,by rw [hmx];exact h.dx,by rw [hmg];exact h.dg,h.Rr,by rw [MO];exact h.len⟩
 ·rw [hpx];exact hm.gK h.ol λb hb=>by obtain ⟨cs',hr'⟩:=aM h.ol aC hb;exact off hr' aC
 ·obtain ⟨j,hj⟩:=mR hz;rw [il] at hj;split at hj
  ·cases hj;exact hy
  ·rename_i dN;have Yz:=h.it z (bf hj);refine Yz.bM hm (λe=> ?_) (off Yz.k.row aC) (λb hb=> ?_)
   ·
    have h1:(its.map (·.x))[i]? =some y.x:=by rw [aV,hi];rfl
    have h2:(its.map (·.x))[j]? =some z.x:=by rw [aV,hj];rfl
    have NG:=(bH.1 hj).1;rw [e,<-h1] at h2;exact dN ((List.getElem?_inj (by rw [aB];exact NG) h.dx).1 h2).symm
   ·obtain ⟨cs',hr'⟩:=aM Yz.k.own aC hb;exact off hr' aC
def Ru{t st d:Nat}{r:Dm}{sl:Sl}{its:List It}{i:Nat}{y y':It}(hi:its[i]? =some y)(hx:y'.x=y.x)(hg:y'.g=y.g)(hs:y'.s=y.s):∀j,fj t st d r sl (its.set i y') j->fj t st d r sl its j:=by
 rintro j (e|e|e|e|e|⟨z,hz,e⟩)
 ·exact .inl e
 ·exact .inr (.inl e)
 ·exact .inr (.inr (.inl e))
 ·exact .inr (.inr (.inr (.inl e)))
 ·exact .inr (.inr (.inr (.inr (.inl e))))
 ·rcases C8 hz with hz|hz
  ·exact .inr (.inr (.inr (.inr (.inr ⟨z,hz,e⟩))))
  ·subst hz;rw [hx,hg,hs] at e;exact .inr (.inr (.inr (.inr (.inr ⟨y,bf hi,e⟩))))
abbrev En:=Po × List Int × Bool × Int
def It.ob(i:It):En:=(i.p,i.C,i.mq,i.pins)
abbrev gG(its:List It):List En:=its.map It.ob
def qE(its:List It)(i:Nat):gG (its.eraseIdx i)=(gG its).eraseIdx i:=by unfold gG;rw [tC,tC,aT,List.map_take,List.map_drop]
def GP(its:List It)(p:Po):bC (λe:En=>e.1==p) (gG its)=bC (λi:It=>i.p==p) its:=jV It.ob _ its
abbrev Tb:=Dk × List En
def dQ(D:Dk)(e:En):Dk × En × Int:=
 if e.2.2.1=true then ((oD D (jU e.1) (kD (cM e.2.1))).1,(e.1,e.2.1,decide ((oD D (jU e.1) (kD (cM e.2.1))).2≠0),e.2.2.2),(oD D (jU e.1) (kD (cM e.2.1))).2) else (D,e,0)
def Kw(D:Dk)(l:List En)(i:Nat):Tb × Int:=
 match l[i]? with
 |none=>((D,l),0)
 |some e=>if (dQ D e).2.2=0 then (((dQ D e).1,l.eraseIdx i),0) else (((dQ D e).1,l.set i (dQ D e).2.1),(dQ D e).2.2)
def cG(limit:Int)(D:Dk)(l:List En):Tb × Int:=
 if (l.length:Int)<limit then ((D,l),0) else if bC (λe:En=>e.2.2.2==0) l<0 then ((D,l),8) else Kw D l (bC (λe:En=>e.2.2.2==0) l).toNat
def TO.Rw{w:World}{t st d:Nat}{r:Dm}{sl:Sl}{D:Dk}{ag limit:Int}{its:List It}(h:TO w t st d r sl D ag limit its){j:Nat}{cs:LV}{τ:TypeId}(hr:Row w j cs τ)(h1:τ≠pH)(h2:τ≠tW):¬(j=d\/r.ls.bj=some j):=by
 rintro (e|e)
 ·exact hr.ne h.so.dk.rd h1 e
 ·obtain ⟨cs',hr'⟩:=aM h.so.dk.ol aC e;exact hr.ne hr' h2 rfl
def TO.store{w w':World}{t st d:Nat}{r r':Dm}{sl:Sl}{D D':Dk}{ag limit:Int}{its:List It}(h:TO w t st d r sl D ag limit its)(hm:Mod (λi=>i=d\/r.ls.bj=some i) w w')(hs:SO w' st d r' D'):TO w' t st d r' sl D' ag limit its:=by
 refine ⟨hm.row h.rt (h.Rw h.rt aC aC),hs,hm.gK h.ol λb hb=> ?_,λy hy=> ?_,h.dx,h.dg,h.Rr,h.len⟩
 ·obtain ⟨cs',hr'⟩:=aM h.ol aC hb;exact h.Rw hr' aC aC
 ·have hy':=h.it y hy;refine hy'.bM hm (h.Rw hy'.r aC aC) (h.Rw hy'.k.row aC aC) λb hb=> ?_
  obtain ⟨cs',hr'⟩:=aM hy'.k.own aC hb;exact h.Rw hr' aC aC
def Kx{n:Nat}{t st d:Nat}{r r':Dm}{sl:Sl}{its:List It}(hs:∀i,dF d r' i->dF d r i\/n<=i):∀i,fj t st d r' sl its i->fj t st d r sl its i\/n<=i:=by
 rintro i (e|e|e|e|e|e)
 ·exact .inl (.inl e)
 ·exact .inl (.inr (.inl e))
 ·exact .inl (.inr (.inr (.inl e)))
 ·rcases hs i (.inr e) with q|q
  ·rcases q with q|q
   ·exact .inl (.inr (.inr (.inl q)))
   ·exact .inl (.inr (.inr (.inr (.inl q))))
  ·exact .inr q
 ·exact .inl (.inr (.inr (.inr (.inr (.inl e)))))
 ·exact .inl (.inr (.inr (.inr (.inr (.inr e)))))
def Wc{t st d:Nat}{r:Dm}{sl:Sl}{its:List It}:∀i,(i=d\/r.ls.bj=some i)->fj t st d r sl its i:=by
 rintro i (e|e)
 ·exact .inr (.inr (.inl e))
 ·exact .inr (.inr (.inr (.inl (.inr (.inl e)))))
def MU{C:List Int}:lR (kD (cM C)):=ZM _
def ZP{C:List Int}(hl:C.length=8192):(kD (cM C)).length<=65536:=by have h1:=Ei (cM C);have h2:=j7 C;omega
set_option maxRecDepth 100000 in
def C9{w:World}{t st d:Nat}{r:Dm}{sl:Sl}{D:Dk}{ag limit:Int}{its:List It}(h:TO w t st d r sl D ag limit its)(hW:D.l.length<=1000000){i:Nat}{y:It}(hi:its[i]? =some y):
  ah 107 #[t,.pointer (some ⟨y.x,0,none⟩)] w λe w'=>e=Value.int .i64 (dQ D y.ob).2.2/\∃r' y',TO w' t st d r' sl (dQ D y.ob).1 ag limit (its.set i y')/\y'.ob=(dQ D y.ob).2.1/\aG (fj t st d r sl its) (fj t st d r' sl (its.set i y')) w w':=by
 apply vt.vc;have Uc:=bf hi;have hy:=h.it y Uc;have Mk:its.set i y=its:=by obtain ⟨hl,he⟩:=bH.1 hi;rw [<-he];exact List.set_getElem_self hl
 refine ⟨_,hy.r.at 1 rfl,Br.mk (λhb=> ?_) (λhb=> ?_)⟩
 ·have hd:y.mq=false:=by simpa using hb
  have e:dQ D y.ob=(D,y.ob,0):=by unfold dQ;rw [if_neg (by show ¬y.mq=true;rw [hd];decide)]
  rw [e];exact ⟨rfl,r,y,by rw [Mk];exact h,rfl,by rw [Mk];exact aG.refl _ _⟩
 ·have hd:y.mq=true:=by simpa using hb
  have e:dQ D y.ob=((oD D (jU y.p) (kD (cM y.C))).1,(y.p,y.C,decide ((oD D (jU y.p) (kD (cM y.C))).2≠0),y.pins),(oD D (jU y.p) (kD (cM y.C))).2):=by unfold dQ;rw [if_pos (by show y.mq=true;exact hd)];rfl
  rw [e];refine ⟨_,hy.r.at 0 rfl,yP (yP ⟨_,_,hy.k.pos,(rR y.p w).mono ?_⟩)⟩;rintro e w4 ⟨rfl,x4⟩;refine ⟨_,_,rfl,(MV y.p w4).mono ?_⟩;rintro e w7 ⟨rfl,x7⟩;have x07:=(x4.tr x7).tr (Ext.dr w7);have h7:=h.ext x07;have hy7:=h7.it y Uc;refine ⟨_,_,rfl,_,h7.rt.at 0 rfl,_,hy7.r.at 0 rfl,(Ky hy7.k).mono ?_⟩;rintro e bS ⟨gl,rfl,o13,bU⟩;have Bj:=x07.tr bU;have nE:=h.ext Bj;have hk:=hy.k;refine ⟨gl,rfl,tD (nE.rt.at 0 rfl),(GS nE.so hW (jU y.p) gl (kD (cM y.C)) (iP.rM o13) MU (fA (ZP hk.len) aC)).mono ?_⟩;rintro e bY ⟨rfl,r',aaG,m14,f14,-⟩;have YF:=nE.store m14 aaG;have uL:=YF.it y Uc;obtain ⟨p1,p2⟩:=uL.r.jR (j:=1) (v:=.bool ((oD D (jU y.p) (kD (cM y.C))).2 !=0)) cx rfl;refine ⟨_,rfl,⟨rfl,p1⟩,λcY yZ=> ?_⟩;obtain ⟨q1,q2⟩:=p2 cY yZ;have uI:((oD D (jU y.p) (kD (cM y.C))).2 !=0)=decide ((oD D (jU y.p) (kD (cM y.C))).2≠0):=by rw [Bool.eq_iff_iff];simp
  rw [uI] at q1;have hy':qS cY {y with mq:=decide ((oD D (jU y.p) (kD (cM y.C))).2≠0)}:=⟨q1,uL.k.bM q2 (λe=>uL.k.row.ne uL.r aC e) λb hb=>by obtain ⟨cs',hr'⟩:=aM uL.k.own aC hb;exact hr'.ne uL.r aC⟩;have VA:=Bj.size;have Vx:=m14.size;refine ⟨rfl,r',{y with mq:=decide ((oD D (jU y.p) (kD (cM y.C))).2≠0)},YF.put hi rfl rfl q2 hy',rfl,?_⟩;have t1:aG (fj t st d r sl its) (fj t st d r' sl its) bS bY:=⟨m14.mono λi _ hi=>Wc i hi,Kx f14⟩;have t2:aG (fj t st d r' sl its) (fj t st d r' sl (its.set i {y with mq:=decide ((oD D (jU y.p) (kD (cM y.C))).2≠0)})) bY cY:=⟨q2.mono λj _ hj=> .inr (.inr (.inr (.inr (.inr ⟨y,Uc,.inl hj⟩)))),λj hj=> .inl (Ru (y':={y with mq:=decide ((oD D (jU y.p) (kD (cM y.C))).2≠0)}) hi rfl rfl rfl j hj)⟩;exact (aG.aN Bj).trans (t1.trans t2)
end Go.Proofs.YtalpkjfpmdpbiaaGreatDoor
namespace Go.Proofs.YtalpkjfpmdpbiaaGreatDoor
open Go Go.Vc Go.RowKit Go.Proofs Go.dS Go.bh Go.Code
abbrev zZ(w:World)(t st d:Nat)(r:Dm)(sl:Sl)(ag limit:Int)(its:List It)(T:Tb)(w':World):Prop:=
 ∃r' sl' its',TO w' t st d r' sl' T.1 ag limit its'/\gG its'=T.2/\aG (fj t st d r sl its) (fj t st d r' sl' its') w w'
def Sb{its:List It}{i:Nat}{y:It}(h:its[i]? =some y):(gG its)[i]? =some y.ob:=by rw [aV,h];rfl
def M4{its:List It}{i:Nat}{y':It}{e:En}(h:y'.ob=e):gG (its.set i y')=(gG its).set i e:=by unfold gG;rw [mP,h]
def Aa{D:Dk}{l:List En}{i:Nat}{e:En}(h:l[i]? =some e):Kw D l i=if (dQ D e).2.2=0 then (((dQ D e).1,l.eraseIdx i),0) else (((dQ D e).1,l.set i (dQ D e).2.1),(dQ D e).2.2):=by unfold Kw;rw [h]
def Hp{w w':World}{t st d:Nat}{r:Dm}{sl sl':Sl}{its its':List It}(hm:Mod (Vn t sl) w w')(hb:∀b,sl'.bj=some b->sl.bj=some b\/w.heap.size<=b)(hs:∀y ∈ its',y ∈ its):aG (fj t st d r sl its) (fj t st d r sl' its') w w':=
 ⟨hm.mono λi _ hi=>tQ i hi,Ab hb λy hy=> .inl (hs y hy)⟩
set_option maxRecDepth 100000 in
def OG{w:World}{t st d:Nat}{r:Dm}{sl:Sl}{D:Dk}{ag limit:Int}{its:List It}(h:TO w t st d r sl D ag limit its)(hW:D.l.length<=1000000):
  ah 72 #[t] w λe w'=>e=Value.int .i64 (cG limit D (gG its)).2/\zZ w t st d r sl ag limit its (cG limit D (gG its)).1 w'/\((cG limit D (gG its)).2=0->((cG limit D (gG its)).1.2.length:Int)+1<=limit):=by
 apply vD.vc;have hd:=h.ext (Ext.dr w);have hn:=h.n;have yk:(gG its).length=its.length:=by rw [aB]
 have ed:=h.len;have CA:=h.Rr;refine ⟨sl,hd.rt.at 3 rfl,limit,hd.rt.at 2 rfl,Br.mk (λhb=> ?_) (λhb=> ?_)⟩
 ·replace hb:=fe hb;have e:cG limit D (gG its)=((D,gG its),0):=by unfold cG;rw [if_pos aa]
  rw [e];exact ⟨rfl,⟨r,sl,its,hd,rfl,aG.aN (Ext.dr w)⟩,λ_=>by simp only;omega⟩
 ·replace hb:=eX hb;refine ⟨sl,hd.rt.at 3 rfl,(pK sl its (·.x) _ (λi=>i.pins==0) w.drew (hd.ol.rd aC) aa ?_).mono ?_⟩
  ·intro y hy w' x';refine iA (by kernel_rfl) (by rfl) ?_;apply rW.vc;have hy':=(hd.it y hy).ext x';exact ⟨_,hy'.r.at 2 rfl,rfl,Ext.bX _⟩
  ·rintro e w3 ⟨rfl,x3⟩;have h3:=hd.ext x3;have Qg:bC (λe:En=>e.2.2.2==0) (gG its)=bC (λi:It=>i.pins==0) its:=jV It.ob _ its;have sN:Ext w w3:=(Ext.dr w).tr x3;refine ⟨_,rfl,Br.mk (λeF=> ?_) (λeF=> ?_)⟩
   ·replace eF:=fe eF;have e:cG limit D (gG its)=((D,gG its),8):=by unfold cG;rw [if_neg aa,if_pos aa]
    rw [e];exact ⟨rfl,⟨r,sl,its,h3,rfl,aG.aN sN⟩,λh=>by simp at h⟩
   ·replace eF:=eX eF;rcases cl (λi:It=>i.pins==0) its with ⟨h1,-⟩|⟨k,y,hk,-,hfk,-⟩
    ·omega
    ·have e:cG limit D (gG its)=Kw D (gG its) k:=by unfold cG;rw [if_neg aa,if_neg aa,Qg,hfk];rfl
     rw [hfk,e,Aa (Sb hk)];obtain ⟨a1,a2⟩:=h3.at hk;have rF:=(bH.1 hk).1;refine ⟨sl,h3.rt.at 3 rfl,a1,_,a2,(C9 h3 hW hk).mono ?_⟩;rintro e w7 ⟨rfl,r',y',h7,JW,t7⟩;refine ⟨_,rfl,Br.mk (λhz=> ?_) (λhz=> ?_)⟩
     ·have hz:=kX hz;have hk':(its.set k y')[k]? =some y':=Rl rF;refine (Ac h7 hk').mono ?_;rintro e w9 ⟨rfl,sl',h9,m9,b9⟩;rw [List.eraseIdx_set_eq] at h9;refine ⟨_,rfl,?_⟩;rw [if_pos hz];refine ⟨by rw [hz],⟨r',sl',_,h9,qE _ _,(aG.aN sN).trans (t7.trans (Hp m9 b9 λz hz=> ?_))⟩,λ_=> ?_⟩
      ·rw [<-List.eraseIdx_set_eq (l:=its) (i:=k) (a:=y')] at hz;exact (oK ..).subset hz
      ·simp only [List.length_eraseIdx];split<;>omega
     ·have hz:=kX hz;rw [if_neg hz];exact ⟨rfl,⟨r',sl,_,h7,M4 JW,(aG.aN sN).trans t7⟩,λq=>absurd q hz⟩
def Wm(D:Dk)(e:En):(dQ D e).1.l.length<=D.l.length+1:=by
 unfold dQ;split
 ·exact ZA _ _ _
 ·exact zA _
def adJ(D:Dk)(l:List En)(i:Nat):(Kw D l i).1.1.l.length<=D.l.length+1:=by
 unfold Kw;split
 ·exact zA _
 ·split<;>exact Wm _ _
def Wn(limit:Int)(D:Dk)(l:List En):(cG limit D l).1.1.l.length<=D.l.length+1:=by
 unfold cG;split
 ·exact zA _
 ·split
  ·exact zA _
  ·exact adJ _ _ _
def yQ{p:Po}(h:oI p):FZ p:=by unfold oI at h;unfold FZ;omega
def gT(ag:Int)(p:Po)(b:List Int):List Int:=if (cL ba b 8192).2=0 then aX (cL ba b 8192).1 else made ag p
def oL(ag limit:Int)(D:Dk)(l:List En)(p:Po):Tb × Int:=
 if ¬oI p then ((D,l),5)
 else if 0<=bC (λe:En=>e.1==p) l then ((D,l.eraseIdx (bC (λe:En=>e.1==p) l).toNat++l[(bC (λe:En=>e.1==p) l).toNat]?.toList),0)
 else if (cG limit D l).2≠0 then cG limit D l
 else (((cG limit D l).1.1,(cG limit D l).1.2++ [(p,gT ag p (qA (cG limit D l).1.1 (jU p)).1,false,0)]),0)
set_option maxRecDepth 100000 in
def eD{w v:World}{t st d:Nat}{r:Dm}{sl:Sl}{D:Dk}{ag limit:Int}{its:List It}(h:TO v t st d r sl D ag limit its)(hw:w.heap.size<v.heap.size)(hwf:¬fj t st d r sl its w)(QN:t<w)(hr:(its.length:Int)+1<=limit){g:Nat}{s:Sl}{p:Po}{C:List Int}(hk:B7 v g s p C)(hg:g ∉ its.map (·.g))(u:World)(hn:u.heap.size<=v.heap.size)(VC:u.heap.size<=g)(kf:∀b,s.bj=some b->u.heap.size<=b)
  {K:World->Prop}(hK:∀w',(∃s' y,TO w' t st d r s' D ag limit (its++ [y])/\y.ob=(p,C,false,0)/\(∀i,fj t st d r s' (its++ [y]) i->fj t st d r sl its i\/u.heap.size<=i)/\Mod (fj t st d r sl its) v w')->K w'):
  ∃(jk:Sl),ld v (ae (bu t) 3)=some (.slice jk.a jk.n jk.c)/\
   ∀ct:World,ct=v.alloc (.cells #[g,false,af] bT)->
   ∀gp:World,gp=ct.alloc (.cells #[v] Sc)->
   aF 8 1 gp ⟨jk.a,jk.n,jk.c⟩ 1 [v]/\∀(kO:Sl)(eh:World),aE Sc 1 gp ⟨jk.a,jk.n,jk.c⟩ 1 [v] kO eh->eh.heap[w.heap.size]? =gp.heap[w.heap.size]?/\eh.heap[ct.heap.size]? =gp.heap[ct.heap.size]?/\
    (true=true/\Wr eh (ae (bu t) 3) 1)/\cS (ae (bu t) 3)≠some w.heap.size/\cS (ae (bu t) 3)≠some ct.heap.size/\(∀hZ:World,hZ=bc eh (ae (bu t) 3) [.slice kO.a kO.n kO.c]->K hZ):=by
 refine ⟨sl,h.rt.at 3 rfl,λct Bq gp JY=> ?_⟩;have eK:=bo Bq;have dc:=bo JY;have z22:=dt Bq;have z23:gp.heap.size=v.heap.size+2:=by rw [JY];simp [z22]
 have hy:qS gp ⟨v.heap.size,g,s,p,C,false,0⟩:=⟨(by rw [Bq];exact Row.new v [_,_,_] _:Row ct v.heap.size [g,false,af] bT).ext dc,(hk.ext eK).ext dc⟩;have h23:=(h.ext eK).ext dc;have Xc:v.heap.size ∉ its.map (·.x):=λhm=>by obtain ⟨z,hz,e⟩:=aS.1 hm;have:=(h.it z hz).r.lt;omega
 obtain ⟨hp,aR⟩:=h23.push _ hy Xc hg hr;refine ⟨hp,λkO eh Qh=> ?_⟩;obtain ⟨m25,p1,p2⟩:=aR kO eh Qh;have pb:∀j:Nat,t<j->cS (ae (bu t) 3)≠some j:=λj hj e=>by
  rw [dj] at e;have:t=j:=by simpa [cS] using e
  omega
 have htl:=h.rt.lt;refine ⟨m25.same _ aa λe=>hwf (.inr (.inr (.inr (.inr (.inl e))))),m25.same _ aa λe=>by have:=(h.ol.own.lt e).2;omega,⟨rfl,p1⟩,pb _ QN,pb _ aa,λhZ Jo=>hK hZ ⟨kO,⟨v.heap.size,g,s,p,C,false,0⟩,?_,rfl,?_,?_⟩⟩
 ·exact (p2 hZ Jo).1
 ·obtain ⟨-,q2,q3⟩:=p2 hZ Jo;rintro i hi;exact Ab (w:=u) (sl:=sl) (its:=its) (λb hb=>(q3 b hb).imp id λe=>by omega) (λz hz=>by
   rcases cu.1 hz with hz|hz
   ·exact .inl hz
   ·simp at hz;subst hz;exact .inr ⟨hn,VC,kf⟩) i hi
 ·obtain ⟨-,q2,q3⟩:=p2 hZ Jo;exact (Mod.aN (eK.tr dc)).trans (q2.mono λi _ hi=>tQ i hi)
set_option maxRecDepth 100000 in
def OH{w:World}{t st d:Nat}{r:Dm}{sl:Sl}{D:Dk}{ag limit:Int}{its:List It}(h:TO w t st d r sl D ag limit its)(hW:D.l.length<=1000000)(p:Po):
  ah 38 #[t,pv p] w λe w'=>e=Value.int .i64 (oL ag limit D (gG its) p).2/\zZ w t st d r sl ag limit its (oL ag limit D (gG its) p).1 w':=by
 apply vB.vc;intro w0 e0;have z0:=dt e0;have x0:=bo e0;refine (MV p w0).mono ?_;rintro e w1 ⟨rfl,x1⟩;have z1:=x1.size;have oU:=x0.tr x1;refine ⟨_,_,rfl,x1.heap aa,?_⟩;by_cases cX:oI p
 ·rw [decide_eq_true cX];refine Br.mk (λh=>by cases h) (λ_=> ?_);have h1:=h.ext oU;refine (find_spec h1 p).mono ?_;rintro e w4 ⟨rfl,x4⟩;have z4:=x4.size;have JZ:=oU.tr x4;have h4:=h.ext JZ;have Qg:bC (λe:En=>e.1==p) (gG its)=bC (λi:It=>i.p==p) its:=jV It.ob _ its;have bx:¬fj t st d r sl its w:=λhf=>by have:=h.lt hf;omega
  refine ⟨_,rfl,x4.heap aa,?_⟩;rcases cl (λi:It=>i.p==p) its with ⟨hf,-⟩|⟨k,y,hk,-,hf,-⟩
  ·rw [hf];refine Br.mk (λh=>by simp at h) (λ_=> ?_);have hE:oL ag limit D (gG its) p=if (cG limit D (gG its)).2≠0 then cG limit D (gG its) else (((cG limit D (gG its)).1.1,(cG limit D (gG its)).1.2++ [(p,gT ag p (qA (cG limit D (gG its)).1.1 (jU p)).1,false,0)]),0):=by unfold oL;rw [if_neg (by simpa using cX),Qg,hf,if_neg aC]
   rw [hE];refine (OG h4 hW).mono ?_;rintro e w8 ⟨rfl,⟨r8,sl8,its8,h8,xt,t8⟩,hl8⟩;have hWl:((cG limit D (gG its)).1.1).l.length<=1000001:=by have:=Wn limit D (gG its);omega
   generalize cG limit D (gG its)=R at*;have z8:=t8.mod.size;have t08:aG (fj t st d r sl its) (fj t st d r8 sl8 its8) w w8:=(aG.aN JZ).trans t8;refine ⟨_,rfl,t8.mod.same _ aa bx,Br.mk (λhb=> ?_) (λhb=> ?_)⟩
   ·have dN:=kX hb;rw [if_pos dN];exact ⟨rfl,r8,sl8,its8,h8,xt,t08⟩
   ·have he:=kX hb;rw [if_neg (by rw [he];decide)];have hroom:=hl8 he;rw [<-xt,aB] at hroom;refine ⟨_,h8.rt.at 0 rfl,(Hq h8.so aa _).mono ?_⟩;rintro e cB ⟨eM,rfl,aa0,Xp,uM,hsc,-,bR⟩;have z11:=bR.size;have bx8:¬fj t st d r8 sl8 its8 w:=λhf=>by
     rcases t8.sub _ hf with q|q
     ·exact bx q
     ·have:=JZ.size;omega
    refine ⟨eM,_,_,rfl,bR.heap aa,?_⟩;refine (OI p eM (qA R.1.1 (jU p)).1 cB aa0 Xp hsc aa).mono ?_;rintro e cU ⟨aR,bw⟩;have z15:=bw.size;have QN:=h.rt.lt;have fin:∀{w' v:World} {C:List Int},Ext w8 v->(∃s' y,TO w' t st d r8 s' R.1.1 ag limit (its8++ [y])/\y.ob=(p,C,false,0)/\(∀i,fj t st d r8 s' (its8++ [y]) i->fj t st d r8 sl8 its8 i\/w8.heap.size<=i)/\Mod (fj t st d r8 sl8 its8) v w')->C=gT ag p (qA R.1.1 (jU p)).1->
      Ending.returned (0:Int)=(0:Int)/\zZ w t st d r sl ag limit its (R.1.1,R.1.2++ [(p,gT ag p (qA R.1.1 (jU p)).1,false,0)]) w':=by
     rintro w' v C xv ⟨s',y,hT,JW,eI,hm⟩ rfl;refine ⟨rfl,r8,s',_,hT,?_,t08.trans ⟨(Mod.aN xv).trans hm,eI⟩⟩;unfold gG;rw [aT];change gG its8++ [y.ob]=_;rw [xt,JW]
    rcases aR with ⟨hz,g,sg,rfl,hk,hg,-,Y1⟩|⟨hz,rfl⟩
    ·refine ⟨_,_,rfl,bw.heap aa,Br.mk (λq=>by simp at q) (λ_=> ?_)⟩;have Ug:=bR.tr bw;have Xq:=h8.ext Ug;have VC:g ∉ its8.map (·.g):=λhm=>by obtain ⟨z,hz,e⟩:=aS.1 hm;have:=(h8.it z hz).k.row.lt;omega
     refine eD (w:=w) Xq aa bx8 QN hroom hk VC w8 aa aa (λb hb=>by have:=Y1 b hb;omega) λw' hw'=>fin Ug hw' ?_
     unfold gT;rw [if_pos hz]
    ·refine ⟨_,_,rfl,bw.heap aa,Br.mk (λ_=> ?_) (λq=>by simp at q;exact absurd q hz)⟩;have Ug:=bR.tr bw.drew;have Xq:=h8.ext Ug;refine ⟨ag,Xq.rt.at 1 rfl,(KS ag p (yQ cX) cU.drew).mono ?_⟩;rintro e ft ⟨g,sg,rfl,hk,cK,hg,Ft⟩;have z19:=cK.size;have zd:=kQ cU;have h19:=Xq.ext cK;have VC:g ∉ its8.map (·.g):=λhm=>by obtain ⟨z,hz,e⟩:=aS.1 hm;have:=(Xq.it z hz).k.row.lt;omega
     refine ⟨_,rfl,cK.heap aa,eD (w:=w) h19 aa bx8 QN hroom hk VC w8 aa aa (λb hb=>by have:=Ft b hb;omega) λw' hw'=>fin (Ug.tr cK) hw' ?_⟩;unfold gT;rw [if_neg hz]
  ·rw [hf];refine Br.mk (λ_=> ?_) (λh=>by simp at h);have hE:oL ag limit D (gG its) p=((D,(gG its).eraseIdx k++ [y.ob]),0):=by unfold oL;rw [if_neg (by simpa using cX),Qg,hf,if_pos aa,jt,aV,hk];rfl
   rw [hE];refine (Ad h4 hk).mono ?_;rintro e w6 ⟨rfl,sl6,h6,t6⟩;have z6:=t6.mod.size;refine ⟨_,rfl,t6.mod.same _ aa bx,rfl,r,sl6,_,h6,?_,(aG.aN JZ).trans t6⟩;unfold gG;rw [aT];change gG _++_=_;rw [qE];rfl
 ·rw [decide_eq_false cX];refine Br.mk (λ_=> ?_) (λh=>by cases h);have hE:oL ag limit D (gG its) p=((D,gG its),5):=by unfold oL;rw [if_pos cX]
  rw [hE];exact ⟨rfl,r,sl,its,h.ext oU,rfl,aG.aN oU⟩
end Go.Proofs.YtalpkjfpmdpbiaaGreatDoor
namespace Go.Proofs.YtalpkjfpmdpbiaaGreatDoor
open Go Go.Vc Go.RowKit Go.Proofs Go.dS Go.bh Go.Code
def yes{b:Bool}{A B:Prop}(hb:b=true)(h:A):Br b A B:=by subst hb;exact h
def pd{b:Bool}{A B:Prop}(hb:b=false)(h:B):Br b A B:=by subst hb;exact h
def fO(D:Dk)(l:List En)(p:Po):Tb × Int:=
 if 0<=bC (λe:En=>e.1==p) l then
  (if 0<(l[(bC (λe:En=>e.1==p) l).toNat]?.map (·.2.2.2)).getD 0 then ((D,l),10) else Kw D l (bC (λe:En=>e.1==p) l).toNat) else ((D,l),6)
def HO{w:World}{t st d:Nat}{r:Dm}{sl:Sl}{D:Dk}{ag limit:Int}{its:List It}(h:TO w t st d r sl D ag limit its)(hW:D.l.length<=1000000)(p:Po):
  ah 65 #[t,pv p] w λe w'=>e=Value.int .i64 (fO D (gG its) p).2/\zZ w t st d r sl ag limit its (fO D (gG its) p).1 w':=by
 apply rY.vc;intro w0 e0;have z0:=dt e0;have x0:=bo e0;have h0:=h.ext x0;refine (find_spec h0 p).mono ?_;rintro e w1 ⟨rfl,x1⟩;have z1:=x1.size;have oU:=x0.tr x1;have h1:=h.ext oU;have bx:¬fj t st d r sl its w:=λhf=>by have:=h.lt hf;omega
 refine ⟨_,rfl,x1.heap aa,?_⟩;rcases cl (λi:It=>i.p==p) its with ⟨hf,-⟩|⟨k,y,hk,hyp,hf,-⟩
 ·have hE:fO D (gG its) p=((D,gG its),6):=by unfold fO;rw [GP,hf,if_neg aC]
  rw [hf,hE];exact Br.mk (λ_=>⟨rfl,r,sl,its,h1,rfl,aG.aN oU⟩) (λh=>by simp at h)
 ·have JW:(gG its)[k]?.map (·.2.2.2)=some y.pins:=by rw [aV,hk];rfl
  have hE:fO D (gG its) p=if 0<y.pins then ((D,gG its),10) else Kw D (gG its) k:=by unfold fO;rw [GP,hf,if_pos aa,jt,JW];rfl
  rw [hf,hE];refine Br.mk (λh=>by simp at h;omega) (λ_=> ?_);have Uc:=bf hk;have hy:=h1.it y Uc;have rF:=(bH.1 hk).1;obtain ⟨a1,a2⟩:=h1.at hk;refine ⟨sl,h1.rt.at 3 rfl,a1,_,a2,yP (yP ⟨y.pins,hy.r.at 2 rfl,Br.mk (λhb=> ?_) (λhb=> ?_)⟩)⟩
  ·have hz:=kX hb;rw [if_pos hz];exact ⟨rfl,r,sl,its,h1,rfl,aG.aN oU⟩
  ·have hz:=kX hb;rw [if_neg hz,Aa (Sb hk)];refine ⟨sl,h1.rt.at 3 rfl,a1,_,a2,(C9 h1 hW hk).mono ?_⟩;rintro e w8 ⟨rfl,r',y',h8,hob8,t8⟩;have z8:=t8.mod.size;refine ⟨_,rfl,t8.mod.same _ aa bx,Br.mk (λhz=> ?_) (λhz=> ?_)⟩
   ·have hz:=kX hz;have hk':(its.set k y')[k]? =some y':=Rl rF;refine (Ac h8 hk').mono ?_;rintro e w9 ⟨rfl,sl',h9,m9,b9⟩;rw [List.eraseIdx_set_eq] at h9;have bx8:¬Vn t sl w:=λq=>bx (tQ _ q)
    refine ⟨_,rfl,m9.same _ aa bx8,?_⟩;rw [if_pos hz];refine ⟨by rw [hz],r',sl',_,h9,qE _ _,(aG.aN oU).trans (t8.trans (Hp m9 b9 λz hz=> ?_))⟩;rw [<-List.eraseIdx_set_eq (l:=its) (i:=k) (a:=y')] at hz;exact (oK ..).subset hz
   ·have hz:=kX hz;rw [if_neg hz];exact ⟨rfl,r',sl,_,h8,M4 hob8,(aG.aN oU).trans t8⟩
def O6{w:World}{t st d:Nat}{r:Dm}{sl:Sl}{D:Dk}{ag limit:Int}{its:List It}(h:TO w t st d r sl D ag limit its):
  ah 135 #[t] w λe w'=>∃s':Sl,e=s'/\aj w QH 2 w' s' ((gG its).map λe=> [.int .i64 e.1.1,.int .i64 e.1.2])/\Ext w w':=by
 apply vy.vc;have hn:=h.n;have ed:=h.len;have CA:=h.Rr;refine ⟨sl,h.rt.at 3 rfl,λn i so wr=>∃k:Nat,i=k/\k+n=its.length/\Ext w wr/\aj w QH 2 wr so (((gG its).take k).map λe=> [.int .i64 e.1.1,.int .i64 e.1.2]),⟨its.length,0,rfl,by omega,Ext.bX _,aj.nil⟩,?_⟩;rintro n us i so wr ⟨k,rfl,hk,xr,ho⟩;have BR:=kK (j:=k);have yk:(gG its).length=its.length:=by rw [aB]
 apply Br.mk<;>intro hc
 ·replace hc:=fe hc;obtain ⟨y,hy⟩:=aZ (l:=its) (i:=k) aa;have hr:=h.ext xr;obtain ⟨a1,a2⟩:=hr.at hy;have Jq:=hr.it y (bf hy);refine ⟨a1,_,a2,yP (yP ⟨_,Jq.r.at 0 rfl,yP (yP ⟨_,_,Jq.k.pos,(rR y.p wr).mono ?_⟩)⟩)⟩;rintro e bS ⟨rfl,bU⟩;refine ⟨_,_,rfl,λcU Bo=> ?_⟩;have bw:=bo Bo;have VA:=bU.size;have zr:=xr.size;have z15:=dt Bo;have Jh:=(ho.ext bU).ext bw;have lA:=(ho.rd (show 0<2 by decide)).n;rw [aB,bF] at lA;obtain ⟨hp,aR⟩:=Jh.append (bytes:=16) (news:=[.int .i64 y.p.1,.int .i64 y.p.2]) aa rfl (nO _ _ _ _) aa aa;refine ⟨hp,λkH cE UB=> ?_⟩;obtain ⟨UC,ajG,xb,JV,-⟩:=aR kH cE UB;refine ⟨JV _ (λe=>by have:=(ho.own.lt e).2;omega) aa,n-1,by omega,k+1,BR,by omega,(xr.tr (bU.tr bw)).trans xb,?_⟩;have:(gG its).take (k+1)=(gG its).take k++ [y.ob]:=by rw [cm,aV,hy];rfl
  rw [this,aT];exact UC
 ·replace hc:=eX hc;rw [cZ aa] at ho;exact ⟨so,rfl,ho,xr⟩
def lG{w:World}{p:Option Addr}{v:Value}(h:ld w p=some v):au w p 0 [v]:=by show ld w (ae p 0)=_;rw [ck];exact h
def TO.ahv{w w':World}{t st d:Nat}{r:Dm}{sl:Sl}{D:Dk}{ag limit:Int}{its:List It}(h:TO w t st d r sl D ag limit its){i:Nat}{y y':It}(hi:its[i]? =some y)(hx:y'.x=y.x)(hg:y'.g=y.g)(hm:Mod (λj=>j=y.x\/j=y.g) w w')(hy:qS w' y'):TO w' t st d r sl D ag limit (its.set i y'):=by
 have wg:=(bH.1 hi).1;have hr:=(h.it y (bf hi)).r;have hrg:=(h.it y (bf hi)).k.row;have off:∀{j:Nat} {cs:LV} {τ:TypeId},Row w j cs τ->τ≠bT->τ≠sk->¬(j=y.x\/j=y.g):=λhr' ht hc e=>by
  rcases e with e|e
  ·exact hr'.ne hr ht e
  ·exact hr'.ne hrg hc e
 have hpx:xH (its.set i y')=xH its:=by
  unfold xH;rw [mP,hx];apply im;intro j;rw [il];split
  ·rename_i e;subst e;rw [if_pos (by rw [aB];exact wg),aV,hi];rfl
  ·rfl
 have hmx:(its.set i y').map (·.x)=its.map (·.x):=by
  rw [mP,hx];apply im;intro j;rw [il];split
  ·rename_i e;subst e;rw [if_pos (by rw [aB];exact wg),aV,hi];rfl
  ·rfl
 have hmg:(its.set i y').map (·.g)=its.map (·.g):=by
  rw [mP,hg];apply im;intro j;rw [il];split
  ·rename_i e;subst e;rw [if_pos (by rw [aB];exact wg),aV,hi];rfl
  ·rfl
 refine ⟨hm.row h.rt (off h.rt aC aC),h.so.bM hm (λhr' hτ=>by rcases hτ with rfl|rfl|rfl|rfl<;>exact off hr' aC aC) (λXi e=>by
   rcases e with e|e
   ·exact hr.ic Xi e.symm
   ·exact hrg.ic Xi e.symm),?_,λz hz=> ?_,by rw [hmx];exact h.dx,by rw [hmg];exact h.dg,h.Rr,by rw [MO];exact h.len⟩
 ·rw [hpx];exact hm.gK h.ol λb hb=>by obtain ⟨cs',hr'⟩:=aM h.ol aC hb;exact off hr' aC aC
 ·obtain ⟨j,hj⟩:=mR hz;rw [il] at hj;split at hj
  ·cases hj;exact hy
  ·rename_i dN;have Yz:=h.it z (bf hj);have NG:=(bH.1 hj).1;refine Yz.bM hm ?_ ?_ (λb hb=> ?_)
   ·rintro (e|e)
    ·have h1:(its.map (·.x))[i]? =some y.x:=by rw [aV,hi];rfl
     have h2:(its.map (·.x))[j]? =some z.x:=by rw [aV,hj];rfl
     rw [e,<-h1] at h2;exact dN ((List.getElem?_inj (by rw [aB];exact NG) h.dx).1 h2).symm
    ·exact Yz.r.ne hrg aC e
   ·rintro (e|e)
    ·exact Yz.k.row.ne hr aC e
    ·have h1:(its.map (·.g))[i]? =some y.g:=by rw [aV,hi];rfl
     have h2:(its.map (·.g))[j]? =some z.g:=by rw [aV,hj];rfl
     rw [e,<-h1] at h2;exact dN ((List.getElem?_inj (by rw [aB];exact NG) h.dg).1 h2).symm
   ·obtain ⟨cs',hr'⟩:=aM Yz.k.own aC hb;exact off hr' aC aC
def O7{t st d:Nat}{r:Dm}{sl:Sl}{its:List It}{i n:Nat}{y y':It}(hi:its[i]? =some y)(hx:y'.x=y.x)(hg:y'.g=y.g)(hs:∀b,y'.s.bj=some b->y.s.bj=some b\/n<=b):∀j,fj t st d r sl (its.set i y') j->fj t st d r sl its j\/n<=j:=by
 rintro j (e|e|e|e|e|⟨z,hz,e⟩)
 ·exact .inl (.inl e)
 ·exact .inl (.inr (.inl e))
 ·exact .inl (.inr (.inr (.inl e)))
 ·exact .inl (.inr (.inr (.inr (.inl e))))
 ·exact .inl (.inr (.inr (.inr (.inr (.inl e)))))
 ·have hy:∀i,(i=y.x\/i=y.g\/y.s.bj=some i)->fj t st d r sl its i:=λi e=> .inr (.inr (.inr (.inr (.inr ⟨y,bf hi,e⟩))))
  rcases C8 hz with hz|hz
  ·exact .inl (.inr (.inr (.inr (.inr (.inr ⟨z,hz,e⟩)))))
  ·subst hz;rw [hx,hg] at e;rcases e with e|e|e
   ·exact .inl (hy j (.inl e))
   ·exact .inl (hy j (.inr (.inl e)))
   ·rcases hs j e with e|e
    ·exact .inl (hy j (.inr (.inr e)))
    ·exact .inr e
instance (c:Ce):Decidable (k8 c):=by unfold k8;exact inferInstance
def eB(l:List En)(c:Ce):Int:=
 if bC (λe:En=>e.1==pos c) l<0 then -1 else if c.2.1<0 then 1 else ((l[(bC (λe:En=>e.1==pos c) l).toNat]?).map λe=>rZ e.1 e.2.1 c).getD 0
def cr(l:List En)(c:Ce)(b:Int):List En × Int:=
 if bC (λe:En=>e.1==pos c) l<0 then (l,11) else if ¬k8 c then (l,5) else if ba b=false then (l,1) else
  (l.eraseIdx (bC (λe:En=>e.1==pos c) l).toNat++((l[(bC (λe:En=>e.1==pos c) l).toNat]?).map λe=>(e.1,(fL e.1 e.2.1 c b).1,e.2.2.1||(rZ e.1 e.2.1 c !=b),e.2.2.2)).toList,0)
def Sv{w:World}{t st d:Nat}{r:Dm}{sl:Sl}{D:Dk}{ag limit:Int}{its:List It}(h:TO w t st d r sl D ag limit its)(c:Ce)(hc:lY c):
  ah 43 #[t,iG c] w λe w'=>e=Value.int .i64 (eB (gG its) c)/\Ext w w':=by
 apply zX.vc;intro w0 e0;have z0:=dt e0;have x0:=bo e0;refine (ml c hc w0).mono ?_;rintro e w1 ⟨rfl,x1⟩;have oU:=x0.tr x1;have z1:=x1.size;refine ⟨_,_,rfl,x1.heap aa,(find_spec (h.ext oU) (pos c)).mono ?_⟩;rintro e w4 ⟨rfl,x4⟩;have z4:=x4.size;have JZ:=oU.tr x4;have Qg:bC (λe:En=>e.1==pos c) (gG its)=bC (λi:It=>i.p==pos c) its:=jV It.ob _ its;refine ⟨_,rfl,x4.heap aa,?_⟩;rcases cl (λi:It=>i.p==pos c) its with ⟨hf,-⟩|⟨k,y,hk,hyp,hf,-⟩
 ·rw [hf];refine Br.mk (λ_=>⟨?_,JZ⟩) (λh=>by simp at h);unfold eB;rw [Qg,hf,if_pos aC]
 ·rw [hf];refine Br.mk (λh=>by simp at h;omega) (λ_=>Br.mk (λhb=> ?_) (λhb=> ?_))
  ·replace hb:=fe hb;refine ⟨?_,JZ⟩;unfold eB;rw [Qg,hf,if_neg aa,if_pos hb]
  ·replace hb:=eX hb;have hd:=(h.ext JZ).ext (Ext.dr w4);obtain ⟨a1,a2⟩:=hd.at hk;have Jq:=hd.it y (bf hk);refine ⟨sl,hd.rt.at 3 rfl,a1,_,a2,yP (yP ⟨_,Jq.r.at 0 rfl,(yS Jq.k c hc).mono ?_⟩)⟩;rintro e w9 ⟨rfl,x9⟩;have h9:=hd.ext x9;obtain ⟨-,b2⟩:=h9.at hk;refine ⟨_,_,rfl,x9.heap (show w.heap.size<w4 by omega),lG b2,lG (h9.rt.at 3 rfl),?_,JZ.tr ((Ext.dr _).tr x9)⟩;unfold eB;rw [Qg,hf,if_neg aa,if_neg hb,jt,aV,hk];rfl
def Ws{p:Po}{C:List Int}{c:Ce}{b:Int}(hp:p=pos c)(hy:k8 c)(hb:ba b=true):(fL p C c b).2=0:=by unfold fL;rw [if_neg (by rw [(eT p c).2 ⟨hy,hp.symm⟩];decide),if_neg (by rw [hb];decide)]
def O8{w:World}{t st d:Nat}{r:Dm}{sl:Sl}{D:Dk}{ag limit:Int}{its:List It}(h:TO w t st d r sl D ag limit its)(c:Ce)(hc:lY c)(b:Int):
  ah 59 #[t,iG c,.int .i64 b] w λe w'=>e=Value.int .i64 (cr (gG its) c b).2/\zZ w t st d r sl ag limit its (D,(cr (gG its) c b).1) w':=by
 apply xP.vc;intro w0 e0;have z0:=dt e0;have x0:=bo e0;refine (ml c hc w0).mono ?_;rintro e w1 ⟨rfl,x1⟩;have oU:=x0.tr x1;have z1:=x1.size;refine ⟨_,_,rfl,x1.heap aa,(find_spec (h.ext oU) (pos c)).mono ?_⟩;rintro e w4 ⟨rfl,x4⟩;have z4:=x4.size;have JZ:=oU.tr x4;have Qg:bC (λe:En=>e.1==pos c) (gG its)=bC (λi:It=>i.p==pos c) its:=jV It.ob _ its;refine ⟨_,rfl,x4.heap aa,(wP c w4).mono ?_⟩;rintro e w6 ⟨⟨ix,iy,rfl,hiy⟩,x6⟩;have z6:=x6.size;have vg:=JZ.tr x6;have h6:=h.ext vg;refine ⟨_,_,rfl,x6.heap aa,?_⟩;have same:∀{w'},Ext w w'->zZ w t st d r sl ag limit its (D,gG its) w':=λx=>⟨r,sl,its,h.ext x,rfl,aG.aN x⟩
 rcases cl (λi:It=>i.p==pos c) its with ⟨hf,-⟩|⟨k,y,hk,hyp,hf,-⟩
 ·rw [hf];refine Br.mk (λ_=> ?_) (λh=>by simp at h);have e:cr (gG its) c b=(gG its,11):=by unfold cr;rw [Qg,hf,if_pos aC]
  rw [e];exact ⟨rfl,same vg⟩
 ·rw [hf];have hyc:y.p=pos c:=by simpa using hyp
  refine Br.mk (λh=>by simp at h;omega) (λ_=> ?_);rcases hiy with ⟨rfl,hY,-⟩|⟨rfl,hY,-⟩
  ·refine pd rfl ((gX b w6).mono ?_);rintro e w9 ⟨rfl,x9⟩;have z9:=x9.size;have x09:=vg.tr x9;refine ⟨_,rfl,x9.heap aa,Br.mk (λhb=> ?_) (λhb=> ?_)⟩
   ·have hb':ba b=false:=by simpa using hb
    have e:cr (gG its) c b=(gG its,1):=by unfold cr;rw [Qg,hf,if_neg aa,if_neg (by simpa using hY),if_pos hb']
    rw [e];exact ⟨rfl,same x09⟩
   ·have hb':ba b=true:=by simpa using hb
    have he:cr (gG its) c b=((gG its).eraseIdx k++ [(y.p,(fL y.p y.C c b).1,y.mq||(rZ y.p y.C c !=b),y.pins)],0):=by unfold cr;rw [Qg,hf,if_neg aa,if_neg (by simpa using hY),if_neg (by rw [hb'];decide),jt,aV,hk];rfl
    have h0:=Ws (C:=y.C) hyc hY hb';rw [he];have h9:=h.ext x09;refine (Ad h9 hk).mono ?_;rintro e cB ⟨rfl,ajH,h11,t11⟩;have ajI:=(aG.aN x09).trans t11;have z11:=t11.mod.size;have bx:∀{F:Nat->Prop},(∀i,F i->fj t st d r sl its i)->¬F w:=λhF hf=>by have:=h.lt (hF _ hf);omega
    have hi':(its.eraseIdx k++ [y])[(its.eraseIdx k).length]? =some y:=by rw [mV (ax _),Nat.sub_self];rfl
    have hd:=h11.ext (Ext.dr cB);have hyd:=hd.it y (bf hi');have hxw:y.x<w:=(h.it y (bf hk)).r.lt;have hgw:y.g<w:=(h.it y (bf hk)).k.row.lt;refine ⟨_,rfl,t11.mod.same _ aa (bx λi hi=>hi),yP (yP ⟨_,hyd.r.at 0 rfl,(yS hyd.k c hc).mono ?_⟩)⟩;rintro e bY ⟨rfl,bW⟩;have UD:Ext cB bY:=(Ext.dr _).tr bW;have Vx:=UD.size;have YF:=h11.ext UD;have uL:=YF.it y (bf hi');have pt:∀v:Bool,_:=λv=>uL.r.jR (j:=1) (v:=.bool v) cx rfl
    refine ⟨_,_,rfl,bW.heap (show w.heap.size<cB by omega),yP (yP ⟨_,uL.r.at 1 rfl,Br.mk (λhb=>yP (yP ⟨⟨rfl,(pt true).1⟩,λe=> ?_,λdA JT=>yP (yP ?_)⟩)) (λhb=>yP (yP ⟨⟨rfl,(pt true).1⟩,λe=> ?_,λdA JT=>yP (yP ?_)⟩))⟩)⟩
    case refine_1|refine_3=>
     rw [dj] at e;have:y.x=w.heap.size:=by simpa [cS] using e
     omega
    all_goals
     obtain ⟨q1,q2⟩:=(pt _).2 dA JT
     have z18:=q2.size
     have XH:B7 dA y.g y.s y.p y.C:=uL.k.bM q2 (λe=>uL.k.row.ne uL.r aC e) (λb hb=>by obtain ⟨cs',hr'⟩:=aM uL.k.own aC hb;exact hr'.ne uL.r aC)
     refine ⟨_,(q1.ext (Ext.dr _)).at 0 rfl,(Sx (XH.ext (Ext.dr dA)) c hc b).mono ?_⟩;rintro e dY ⟨rfl,s',ajJ,m20,b20⟩;have q1d:=q1.ext (Ext.dr dA);refine ⟨_,rfl,m20.same _ (show w.heap.size<dA by omega) (λe=>by omega),congrArg _ (congrArg _ h0),?_⟩;have hm:Mod (λj=>j=y.x\/j=y.g) bY dY:=((q2.mono λi _ hi=> .inl hi).trans (Mod.aN (Ext.dr _))).trans (m20.mono λi _ hi=> .inr hi);have ajL:qS dY ⟨y.x,y.g,s',y.p,(fL y.p y.C c b).1,y.mq||(rZ y.p y.C c !=b),y.pins⟩:=by refine ⟨?_,ajJ⟩;have:=m20.row q1d (λe=>q1d.ne (XH.ext (Ext.dr dA)).row aC e);rw [hb];exact this
     have h20:=YF.ahv hi' (y':=⟨y.x,y.g,s',y.p,(fL y.p y.C c b).1,y.mq||(rZ y.p y.C c !=b),y.pins⟩) rfl rfl hm ajL;refine ⟨r,ajH,_,h20,?_,ajI.trans ⟨(Mod.aN UD).trans (hm.mono λi _ hi=> ?_),λj hj=> ?_⟩⟩
     ·unfold gG;rw [List.set_append_right _ _ (ax _),Nat.sub_self,aT];have:=qE its k;unfold gG at this;rw [this];rfl
     ·exact .inr (.inr (.inr (.inr (.inr ⟨y,bf hi',hi.elim .inl λe=> .inr (.inl e)⟩))))
     ·exact O7 (y':=⟨y.x,y.g,s',y.p,(fL y.p y.C c b).1,y.mq||(rZ y.p y.C c !=b),y.pins⟩) hi' rfl rfl (λb hb=>(b20 b hb).imp id λe=>fA (fA Vx z18) e) j hj
  ·have e:cr (gG its) c b=(gG its,5):=by unfold cr;rw [Qg,hf,if_neg aa,if_pos hY]
   refine yes rfl ?_;rw [e];exact ⟨rfl,same vg⟩
end Go.Proofs.YtalpkjfpmdpbiaaGreatDoor
namespace Go.Proofs.YtalpkjfpmdpbiaaGreatDoor
open Go Go.Vc Go.RowKit Go.Proofs Go.dS Go.bh Go.Code
def wS(l:List En):Prop:=∀e ∈ l,e.2.1.length=8192/\∀b ∈ e.2.1,ba b=true
def P2{c d:Ce}(hc:k8 c)(hd:k8 d)(hp:pos c=pos d)(hi:(idx c).toNat=(idx d).toNat):c=d:=by
 have h1:=nV hc;have h2:=nV hd;have hi':idx c=idx d:=by omega
 obtain ⟨a,b,e⟩:=c;obtain ⟨a',b',e'⟩:=d;unfold idx at hi';unfold pos at hp;simp only [Prod.mk.injEq] at hp ⊢;simp only at hi';omega
def oP(l:List En)(p:Po):Prop:=∃e ∈ l,e.1=p
def iS(l:List En):Prop:=(l.map (·.1)).Nodup
def Fm{l:List En}{c:Ce}(h:¬oP l (pos c)):eB l c= -1:=by
 unfold eB;rw [ja λy hy=> ?_,if_pos aC]
 cases hb:(y.1==pos c) with
 |false=>rfl
 |true=>exact absurd ⟨y,hy,by simpa using hb⟩ h
def Ba{l:List En}(hn:iS l){e:En}(he:e ∈ l):∃k:Nat,l[k]? =some e/\bC (λx:En=>x.1==e.1) l=k:=by
 obtain ⟨k,hk⟩:=mR he;refine ⟨k,hk,mZ hk cx λj hj y hy=> ?_⟩
 cases hb:(y.1==e.1) with
 |false=>rfl
 |true=>
  have h1:(l.map (·.1))[k]? =some e.1:=by rw [aV,hk];rfl
  have h2:(l.map (·.1))[j]? =some e.1:=by rw [aV,hy];simpa using hb
  have rF:=(bH.1 h1).1;have:=(List.getElem?_inj (show j<_ by omega) hn).1 (h2.trans h1.symm);omega
def qL{l:List En}(hn:iS l){e:En}(he:e ∈ l){c:Ce}(hp:e.1=pos c):eB l c=if c.2.1<0 then 1 else rZ e.1 e.2.1 c:=by obtain ⟨k,hk,hf⟩:=Ba hn he;unfold eB;rw [<-hp,hf,if_neg aa,jt,hk];rfl
def TY{p:Po}{C:List Int}(hl:C.length=8192){c:Ce}(hy:k8 c)(hp:p=pos c){b:Int}(hb:ba b=true)(c':Ce)(hp':p=pos c'):rZ p (fL p C c b).1 c'=if c'=c then b else rZ p C c':=by
 have e:(fL p C c b).1=C.set (idx c).toNat b:=by unfold fL;rw [if_neg (by rw [(eT p c).2 ⟨hy,hp.symm⟩];decide),if_neg (by rw [hb];decide)]
 rw [e];have hi:=nV hy;by_cases VW:c'=c
 ·subst VW;rw [if_pos rfl];have hk:pJ p c'=true:=(eT p c').2 ⟨hy,hp'.symm⟩;unfold rZ;rw [hk,if_pos rfl];unfold OF;rw [if_neg aa,dh,il,if_pos rfl,if_pos aa];rfl
 ·rw [if_neg VW];by_cases hy':k8 c'
  ·have hk:pJ p c'=true:=(eT p c').2 ⟨hy',hp'.symm⟩;have hi':=nV hy';have h0:¬idx c'<0:=by omega
   unfold rZ;rw [hk,if_pos rfl,if_pos rfl];unfold OF;rw [if_neg h0,if_neg h0,dh,dh,il,if_neg (λh=>VW (P2 hy hy' (hp.symm.trans hp') h).symm)]
  ·have hk:pJ p c'=false:=by
    cases h:pJ p c' with
    |false=>rfl
    |true=>exact absurd ((eT p c').1 h).1 hy'
   unfold rZ;rw [hk,if_neg aC,if_neg aC]
def HM{l:List En}(hn:iS l)(hg:wS l){c:Ce}(hh:oP l (pos c))(hy:k8 c){b:Int}(hb:ba b=true):
  (cr l c b).2=0/\iS (cr l c b).1/\(∀p,oP (cr l c b).1 p ↔ oP l p)/\∀c',eB (cr l c b).1 c'=if c'=c then b else eB l c':=by
 obtain ⟨e,he,hp⟩:=hh;obtain ⟨k,hk,hf⟩:=Ba hn he;have hs:cr l c b=(l.eraseIdx k++ [(e.1,(fL e.1 e.2.1 c b).1,e.2.2.1||(rZ e.1 e.2.1 c !=b),e.2.2.2)],0):=by unfold cr;rw [<-hp,hf,if_neg aa,if_neg (by simpa using hy),if_neg (by rw [hb];decide),jt,hk];rfl
 generalize hd:(e.2.2.1||(rZ e.1 e.2.1 c !=b))=d at hs;obtain ⟨A,B,FQ,hkA⟩:∃A B,l=A++e::B/\k=A.length:=by obtain ⟨rF,he⟩:=bH.1 hk;exact ⟨l.take k,l.drop (k+1),by rw [<-he,<-kW rF,jK],by rw [bF];omega⟩
 subst hkA;rw [FQ,List.eraseIdx_append_of_length_le (ax _),Nat.sub_self] at hs;have dt:cr l c b=(A++B++ [(e.1,(fL e.1 e.2.1 c b).1,d,e.2.2.2)],0):=by rw [FQ];exact hs
 rw [dt];have u7:∀x,x ∈ l ↔ x ∈ A++B\/x=e:=λx=>by
  rw [FQ];simp only [cu,bJ];constructor
  ·rintro (h|h|h)
   ·exact .inl (.inl h)
   ·exact .inr h
   ·exact .inl (.inr h)
  ·rintro ((h|h)|h)
   ·exact .inl h
   ·exact .inr (.inr h)
   ·exact .inr (.inl h)
 have hn':iS (A++B++ [(e.1,(fL e.1 e.2.1 c b).1,d,e.2.2.2)]):=by
  have Jl:iS (A++e::B):=by rw [<-FQ];exact hn
  unfold iS at Jl ⊢;rw [aT,dG] at Jl;obtain ⟨n1,n2,n3⟩:=lH.1 Jl;obtain ⟨n4,n5⟩:=lE.1 n2;rw [aT,aT];refine lH.2 ⟨lH.2 ⟨n1,n5,λa ha b hb=>n3 a ha b (.tail _ hb)⟩,by simp,λa ha b hb=> ?_⟩;simp only [dG,List.map_nil,fB] at hb;subst hb;rcases cu.1 ha with ha|ha
  ·exact n3 a ha _ (.head _)
  ·exact λh=>n4 (h▸ha)
 have Cv:∀x ∈ A++B,x.1≠e.1:=λx hx h=>by
  have Jl:iS (A++e::B):=by rw [<-FQ];exact hn
  unfold iS at Jl;rw [aT,dG] at Jl;obtain ⟨n1,n2,n3⟩:=lH.1 Jl;obtain ⟨n4,n5⟩:=lE.1 n2;rcases cu.1 hx with hx|hx
  ·exact n3 _ (aS.2 ⟨x,hx,rfl⟩) _ (.head _) h
  ·exact n4 (by rw [<-h];exact aS.2 ⟨x,hx,rfl⟩)
 refine ⟨rfl,hn',λp=>⟨?_,?_⟩,λc'=> ?_⟩
 ·rintro ⟨x,hx,NV⟩;rcases cu.1 hx with hx|hx
  ·exact ⟨x,(u7 x).2 (.inl hx),NV⟩
  ·simp only [fB] at hx;subst hx;exact ⟨e,he,NV⟩
 ·rintro ⟨x,hx,NV⟩;rcases (u7 x).1 hx with hx|hx
  ·exact ⟨x,Ay _ hx,NV⟩
  ·subst hx;exact ⟨_,HU _ (.head _),NV⟩
 ·show eB (A++B++ [(e.1,(fL e.1 e.2.1 c b).1,d,e.2.2.2)]) c'=_;by_cases hpc:e.1=pos c'
  ·rw [qL hn' (HU _ (.head _)) (e:=(e.1,(fL e.1 e.2.1 c b).1,d,e.2.2.2)) hpc,qL hn he hpc];show (if c'.2.1<0 then 1 else rZ e.1 (fL e.1 e.2.1 c b).1 c')=_;rw [TY (hg e he).1 hy hp hb c' hpc];by_cases VW:c'=c
   ·subst VW;rw [if_pos rfl,if_pos rfl,if_neg (by unfold k8 at hy;omega)]
   ·rw [if_neg VW,if_neg VW]
  ·have VW:c'≠c:=λh=>hpc (by rw [h];exact hp)
   rw [if_neg VW];by_cases hx:∃x ∈ A++B,x.1=pos c'
   ·obtain ⟨x,hx,NV⟩:=hx;rw [qL hn' (Ay _ hx) NV,qL hn ((u7 x).2 (.inl hx)) NV]
   ·rw [Fm,Fm]
    ·rintro ⟨x,hx2,NV⟩;rcases (u7 x).1 hx2 with h|h
     ·exact hx ⟨x,h,NV⟩
     ·subst h;exact hpc NV
    ·rintro ⟨x,hx2,NV⟩;rcases cu.1 hx2 with h|h
     ·exact hx ⟨x,h,NV⟩
     ·simp only [fB] at h;subst h;exact hpc NV
def W3{l:List En}{c:Ce}{b:Int}(h:¬(oP l (pos c)/\k8 c/\ba b=true)):(cr l c b).1=l/\(cr l c b).2≠0:=by
 unfold cr;rcases cl (λe:En=>e.1==pos c) l with ⟨hf,-⟩|⟨k,e,hk,hek,hf,-⟩
 ·rw [hf,if_pos aC];exact ⟨rfl,by simp⟩
 ·rw [hf,if_neg aa];have hh:oP l (pos c):=⟨e,bf hk,by simpa using hek⟩;by_cases hy:k8 c
  ·rw [if_neg (by simpa using hy)];have hb:ba b=false:=by
    cases hb:ba b with
    |false=>rfl
    |true=>exact absurd ⟨hh,hy,hb⟩ h
   rw [if_pos hb];exact ⟨rfl,by simp⟩
  ·rw [if_pos hy];exact ⟨rfl,by simp⟩
def TF(F:Nat->Prop)(w:World)(t:Nat)(ag limit:Int)(T:Tb):Prop:=
 ∃st d r sl its,TO w t st d r sl T.1 ag limit its/\gG its=T.2/\F=fj t st d r sl its
def TF.lt{F:Nat->Prop}{w:World}{t:Nat}{ag limit:Int}{T:Tb}(h:TF F w t ag limit T){i:Nat}(hi:F i):i<w:=by obtain ⟨st,d,r,sl,its,h1,h2,rfl⟩:=h;exact h1.lt hi
def TF.same{F:Nat->Prop}{w w':World}{t:Nat}{ag limit:Int}{T:Tb}(h:TF F w t ag limit T)(hs:∀i,F i->w'.heap[i]? =w.heap[i]?):TF F w' t ag limit T:=by obtain ⟨st,d,r,sl,its,h1,h2,rfl⟩:=h;exact ⟨st,d,r,sl,its,h1.same hs,h2,rfl⟩
def TF.ext{F:Nat->Prop}{w w':World}{t:Nat}{ag limit:Int}{T:Tb}(h:TF F w t ag limit T)(x:Ext w w'):TF F w' t ag limit T:=h.same λ_ hi=>x.heap (h.lt hi)
def TF.bM{F G:Nat->Prop}{w w':World}{t:Nat}{ag limit:Int}{T:Tb}(h:TF F w t ag limit T)(hm:Mod G w w')(hn:∀i,F i->¬G i):TF F w' t ag limit T:=h.same λi hi=>hm.same i (h.lt hi) (hn i hi)
abbrev oZ(τ:TypeId):Prop:=τ≠vO/\τ≠vN/\τ≠pH/\τ≠Sc/\τ≠bT/\τ≠sk/\τ≠fb/\τ≠tW/\τ≠fh
def TF.cF{F:Nat->Prop}{w:World}{t:Nat}{ag limit:Int}{T:Tb}(h:TF F w t ag limit T){j:Nat}{cs:LV}{τ:TypeId}(hr:Row w j cs τ)(hτ:oZ τ):¬F j:=by obtain ⟨st,d,r,sl,its,h1,h2,rfl⟩:=h;exact h1.cF hr hτ
def TF.len{F:Nat->Prop}{w:World}{t:Nat}{ag limit:Int}{T:Tb}(h:TF F w t ag limit T):(T.2.length:Int)<=limit/\1<=limit/\limit<=16:=by obtain ⟨st,d,r,sl,its,h1,e,rfl⟩:=h;have:=h1.len;have:=h1.Rr;rw [<-e];unfold gG;rw [aB];omega
def TF.ok{F:Nat->Prop}{w:World}{t:Nat}{ag limit:Int}{T:Tb}(h:TF F w t ag limit T):iu T.1:=by obtain ⟨st,d,r,sl,its,h1,e,rfl⟩:=h;exact h1.so.dk.ok
def TF.ahF{F:Nat->Prop}{w:World}{t:Nat}{ag limit:Int}{T:Tb}(h:TF F w t ag limit T):wS T.2:=by obtain ⟨st,d,r,sl,its,h1,e,rfl⟩:=h;rw [<-e];intro e he;obtain ⟨y,hy,rfl⟩:=aS.1 he;exact ⟨(h1.it y hy).k.len,(h1.it y hy).k.may⟩
abbrev Q7(F:Nat->Prop)(w:World)(t:Nat)(ag limit:Int)(T:Tb)(w':World):Prop:=∃F',TF F' w' t ag limit T/\aG F F' w w'
def TZ{w w':World}{t st d:Nat}{r:Dm}{sl:Sl}{ag limit:Int}{its:List It}{T:Tb}(hl:zZ w t st d r sl ag limit its T w'):Q7 (fj t st d r sl its) w t ag limit T w':=by obtain ⟨r',sl',its',h',ho,ht⟩:=hl;exact ⟨_,⟨st,d,r',sl',its',h',ho,rfl⟩,ht⟩
def Kg(ag limit room:Int)(w:World):ah 67 #[ag,limit,room] w λe w'=>∃t F,e=Value.pointer (bu t)/\TF F w' t ag (min (max limit 1) 16) (gy room,[])/\Ext w w'/\∀i,F i->w.heap.size<=i:=by refine (PV ag limit room w).mono ?_;rintro e w' ⟨t,st,d,r,rfl,h,x,hf⟩;exact ⟨t,_,rfl,⟨st,d,r,_,[],h,rfl,rfl⟩,x,hf⟩
section
variable {F:Nat->Prop} {w:World} {t:Nat} {ag limit:Int} {T:Tb}
def HS(h:TF F w t ag limit T)(hW:T.1.l.length<=1000000)(p:Po):
  ah 38 #[t,pv p] w λe w'=>e=Value.int .i64 (oL ag limit T.1 T.2 p).2/\Q7 F w t ag limit (oL ag limit T.1 T.2 p).1 w':=by
 obtain ⟨st,d,r,sl,its,h1,e,rfl⟩:=h;rw [<-e];refine (OH h1 hW p).mono ?_;rintro e w' ⟨rfl,hl⟩;exact ⟨rfl,TZ hl⟩
def Cf(h:TF F w t ag limit T)(hW:T.1.l.length<=1000000)(p:Po):
  ah 65 #[t,pv p] w λe w'=>e=Value.int .i64 (fO T.1 T.2 p).2/\Q7 F w t ag limit (fO T.1 T.2 p).1 w':=by
 obtain ⟨st,d,r,sl,its,h1,e,rfl⟩:=h;rw [<-e];refine (HO h1 hW p).mono ?_;rintro e w' ⟨rfl,hl⟩;exact ⟨rfl,TZ hl⟩
def C0(h:TF F w t ag limit T)(c:Ce)(hc:lY c):
  ah 43 #[t,iG c] w λe w'=>e=Value.int .i64 (eB T.2 c)/\Ext w w':=by
 obtain ⟨st,d,r,sl,its,h1,e,rfl⟩:=h;rw [<-e];exact Sv h1 c hc
def Kh(h:TF F w t ag limit T)(c:Ce)(hc:lY c)(b:Int):
  ah 59 #[t,iG c,b] w λe w'=>e=Value.int .i64 (cr T.2 c b).2/\Q7 F w t ag limit (T.1,(cr T.2 c b).1) w':=by
 obtain ⟨st,d,r,sl,its,h1,e,rfl⟩:=h;rw [<-e];refine (O8 h1 c hc b).mono ?_;rintro e w' ⟨rfl,hl⟩;exact ⟨rfl,TZ hl⟩
end
end Go.Proofs.YtalpkjfpmdpbiaaGreatDoor
