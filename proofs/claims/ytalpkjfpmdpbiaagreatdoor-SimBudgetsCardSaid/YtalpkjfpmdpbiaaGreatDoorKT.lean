import Derived.Test.YtalpkjfpmdpbiaaGreatDoorKS
set_option linter.all false
namespace Go.Proofs.YtalpkjfpmdpbiaaGreatDoor
open Go Go.Vc Go.RowKit Go.Proofs Go.dQ Go.bf
structure It where
 x:Nat
 g:Nat
 s:Sl
 p:Po
 C:List Int
 mn:Bool
 pins:Int
structure qB(w:World)(i:It):Prop where
 r:Row w i.x [.pointer (bu i.g),.bool i.mn,i.pins] bS
 k:BH w i.g i.s i.p i.C
def qB.ext{w w':World}{i:It}(h:qB w i)(x:Ext w w'):qB w' i:=⟨h.r.ext x,h.k.ext x⟩
def qB.bP{w w':World}{i:It}(h:qB w i){F:Nat->Prop}(hm:Mod F w w')(h1:¬F i.x)(h2:¬F i.g)(h3:∀b,i.s.bg=some b->¬F b):qB w' i:=⟨hm.row h.r h1,h.k.bP hm h2 h3⟩
abbrev xi(its:List It):List (LV):=its.map λi=> [.pointer (bu i.x)]
structure TO(w:World)(t st d:Nat)(r:Dm)(sl:Sl)(D:Dk)(ag limit:Int)(its:List It):Prop where
 rt:Row w t [st,ag,limit,sl] vi
 so:SO w st d r D
 ol:ak 0 Rk 1 w sl (xi its)
 it:∀i ∈ its,qB w i
 dx:(its.map (·.x)).Nodup
 dg:(its.map (·.g)).Nodup
 QR:1<=limit/\limit<=16
 len:(its.length:Int)<=limit
def dM(m:Dm)(i:Nat):Prop:=i=m.r\/m.ls.bg=some i\/∃x ∈ m.E++m.W,x.2.1.bg=some i
def fe(t st d:Nat)(r:Dm)(sl:Sl)(its:List It)(i:Nat):Prop:=i=t\/i=st\/i=d\/dM r i\/sl.bg=some i\/∃y ∈ its,i=y.x\/i=y.g\/y.s.bg=some i
def TO.lt{w:World}{t st d:Nat}{r:Dm}{sl:Sl}{D:Dk}{ag limit:Int}{its:List It}(h:TO w t st d r sl D ag limit its){i:Nat}(hi:fe t st d r sl its i):i<w:=by
 rcases hi with rfl|e|e|e|e|⟨y,hy,e|e|e⟩
 ·exact h.rt.lt
 ·exact h.so.lt (.inl e)
 ·exact h.so.lt (.inr (.inl e))
 ·exact h.so.lt (.inr (.inr e))
 ·exact (h.ol.own.lt e).2
 ·exact e▸(h.it y hy).r.lt
 ·exact e▸(h.it y hy).k.row.lt
 ·exact ((h.it y hy).k.own.own.lt e).2
def TO.same{w w':World}{t st d:Nat}{r:Dm}{sl:Sl}{D:Dk}{ag limit:Int}{its:List It}(h:TO w t st d r sl D ag limit its)(hs:∀i,fe t st d r sl its i->w'.heap[i]? =w.heap[i]?):TO w' t st d r sl D ag limit its:=by
 refine ⟨h.rt.same (hs _ (.inl rfl)),h.so.same λi hi=>hs i ?_,ak.bP h.ol λb hb=>hs b (.inr (.inr (.inr (.inr (.inl hb))))),λy hy=> ?_,h.dx,h.dg,h.QR,h.len⟩
 ·rcases hi with e|e|e
  ·exact .inr (.inl e)
  ·exact .inr (.inr (.inl e))
  ·exact .inr (.inr (.inr (.inl e)))
 ·have f:∀i,(i=y.x\/i=y.g\/y.s.bg=some i)->w'.heap[i]? =w.heap[i]? :=λi hi=>hs i (.inr (.inr (.inr (.inr (.inr ⟨y,hy,hi⟩)))))
  have hi:=h.it y hy;exact ⟨hi.r.same (f _ (.inl rfl)),hi.k.row.same (f _ (.inr (.inl rfl))),ak.bP hi.k.own λb hb=>f b (.inr (.inr hb)),hi.k.len,hi.k.may⟩
def TO.ext{w w':World}{t st d:Nat}{r:Dm}{sl:Sl}{D:Dk}{ag limit:Int}{its:List It}(h:TO w t st d r sl D ag limit its)(x:Ext w w'):TO w' t st d r sl D ag limit its:=h.same λi hi=>x.heap (h.lt hi)
def TO.kind{w:World}{t st d:Nat}{r:Dm}{sl:Sl}{D:Dk}{ag limit:Int}{its:List It}(h:TO w t st d r sl D ag limit its){i:Nat}(hi:fe t st d r sl its i):
  bK GI w (some i) (r.E.map mF)\/∃cs τ,Row w i cs τ/\(τ=vi\/τ=vh\/τ=pA\/τ=Rk\/τ=bS\/τ=rL\/τ=eW\/τ=tW\/τ=fb):=by
 rcases hi with e|e|e|e|e|⟨y,hy,e|e|e⟩
 ·exact .inr ⟨_,_,e▸h.rt,.inl rfl⟩
 ·exact .inr ⟨_,_,e▸h.so.rs,.inr (.inl rfl)⟩
 ·exact .inr ⟨_,_,e▸h.so.dk.rd,.inr (.inr (.inl rfl))⟩
 ·rcases h.so.dk.kind (.inr e) with q|⟨cs,τ,q1,q2⟩
  ·exact .inl q
  ·refine .inr ⟨cs,τ,q1,?_⟩;rcases q2 with rfl|rfl|rfl
   ·exact .inr (.inr (.inl rfl))
   ·exact .inr (.inr (.inr (.inr (.inr (.inr (.inr (.inl rfl)))))))
   ·exact .inr (.inr (.inr (.inr (.inr (.inr (.inr (.inr rfl)))))))
 ·obtain ⟨cs,hr⟩:=aN h.ol aE e;exact .inr ⟨_,_,hr,.inr (.inr (.inr (.inl rfl)))⟩
 ·exact .inr ⟨_,_,e▸(h.it y hy).r,.inr (.inr (.inr (.inr (.inl rfl))))⟩
 ·exact .inr ⟨_,_,e▸(h.it y hy).k.row,.inr (.inr (.inr (.inr (.inr (.inl rfl)))))⟩
 ·obtain ⟨cs,hr⟩:=aN (h.it y hy).k.own aE e;exact .inr ⟨_,_,hr,.inr (.inr (.inr (.inr (.inr (.inr (.inl rfl))))))⟩
def TO.cX{w:World}{t st d:Nat}{r:Dm}{sl:Sl}{D:Dk}{ag limit:Int}{its:List It}(h:TO w t st d r sl D ag limit its){j:Nat}{cs:LV}{τ:TypeId}(hr:Row w j cs τ)(hτ:τ≠vi/\τ≠vh/\τ≠pA/\τ≠Rk/\τ≠bS/\τ≠rL/\τ≠eW/\τ≠tW/\τ≠fb):¬fe t st d r sl its j:=λhf=>by
 rcases h.kind hf with hm|⟨cs',τ',hr',ht⟩
 ·exact hr.hZ hm rfl
 ·obtain ⟨h1,h2,h3,h4,h5,h6,h7,h8,h9⟩:=hτ
  rcases ht with rfl|rfl|rfl|rfl|rfl|rfl|rfl|rfl|rfl
  ·exact hr.ne hr' h1 rfl
  ·exact hr.ne hr' h2 rfl
  ·exact hr.ne hr' h3 rfl
  ·exact hr.ne hr' h4 rfl
  ·exact hr.ne hr' h5 rfl
  ·exact hr.ne hr' h6 rfl
  ·exact hr.ne hr' h7 rfl
  ·exact hr.ne hr' h8 rfl
  ·exact hr.ne hr' h9 rfl
def TO.n{w:World}{t st d:Nat}{r:Dm}{sl:Sl}{D:Dk}{ag limit:Int}{its:List It}(h:TO w t st d r sl D ag limit its):sl.n=its.length:=by have:=(h.ol.rd aE).n;rwa [aB] at this
def TO.at{w:World}{t st d:Nat}{r:Dm}{sl:Sl}{D:Dk}{ag limit:Int}{its:List It}(h:TO w t st d r sl D ag limit its){i:Nat}{y:It}(hi:its[i]? =some y):cB sl.a (i:Int) sl.n/\ld w (ae sl.a (((i:Nat):Int).toNat*1))=some (.pointer (bu y.x)):=by have ft:=(bF.1 hi).1;have eZ:=h.ol.rd (show 0<1 by decide);refine ⟨RdK.fN eZ aE aa (by rw [h.n];omega),?_⟩;have:=eZ.rd i [.pointer (bu y.x)] (by rw [aX,hi];rfl) 0 _ rfl;exact this
def jN(room:Int):Dk:=⟨min (max room 0) 1048576,0,0,[],[]⟩
def Pc(ag limit room:Int)(w:World):ah 67 #[ag,limit,room] w λe w'=>∃t st d r,e=Value.pointer (bu t)/\TO w' t st d r ⟨none,0,0⟩ (jN room) ag (min (max limit 1) 16) []/\Ext w w'/\∀i,fe t st d r ⟨none,0,0⟩ [] i->w.heap.size<=i:=by
 apply NT.vc;refine (Pd room w).mono ?_;rintro e w0 ⟨st,d,m,rfl,hs,x0,hf⟩;refine ⟨_,rfl,λw2 e2=> ?_⟩;have x2:=bq e2;have z0:=x0.size;have hl:(if 16<(if 1>limit then 1 else limit) then 16 else (if 1>limit then 1 else limit))=min (max limit 1) 16:=by split<;>split<;>omega
 rw [hl] at e2;refine ⟨_,st,d,m,rfl,⟨by rw [e2];exact Row.new w0 [_,_,_,_] _,hs.ext x2,ak.nil,by simp,by simp,by simp,by omega,by simp;omega⟩,x0.tr x2,λi hi=> ?_⟩;rcases hi with rfl|e|e|e|e|⟨y,hy,-⟩
 ·exact z0
 ·exact hf i (.inl e)
 ·exact hf i (.inr (.inl e))
 ·exact hf i (.inr (.inr e))
 ·cases e
 ·cases hy
def pD{α:Type}(s:Sl)(l:List α)(ad:α->Nat)(fv:Value)(q:α->Bool)(w:World)(hs:RdK w s 1 (l.map λi=> [.pointer (some ⟨ad i,0,none⟩)]))(hb:l.length<=1000)
  (hf:∀i ∈ l,∀w',Ext w w'->dH Tryz.prog fv [.pointer (some ⟨ad i,0,none⟩)] w' λe w''=>e=Value.bool (q i)/\Ext w' w''):
  ah 113 #[s,fv] w λe w'=>e=Value.int .i64 (bC q l)/\Ext w w':=by
 apply oT.vc;have hn:s.n=l.length:=by have:=hs.n;rwa [aB] at this
 refine ⟨λn i wr=>∃k:Nat,i=k/\k+n=l.length/\Ext w wr/\∀j,j<k->∀y,l[j]? =some y->q y=false,⟨l.length,0,rfl,by omega,Ext.ck _,λj hj=>by omega⟩,?_⟩;rintro n us i wr ⟨k,rfl,hk,xr,my⟩;have Bp:=lD (j:=k);apply Br.mk<;>intro hc
 ·replace hc:=fj hc;obtain ⟨y,hy⟩:=bh (l:=l) (i:=k) aa;have hsr:=RdK.ext hs xr;have mH:=hsr.rd k [.pointer (some ⟨ad y,0,none⟩)] (by rw [aX,hy];rfl) 0 _ rfl;refine ⟨RdK.fN hsr aE aa aa,_,mH,rN (hf y (bc hy) wr xr) ?_⟩;rintro e w7 ⟨rfl,x7⟩;refine ⟨_,rfl,Br.mk (λh=> ?_) (λh=> ?_)⟩
  ·exact ⟨by rw [mW hy h my],xr.tr x7⟩
  ·refine ⟨n-1,by omega,k+1,Bp,by omega,xr.tr x7,λj hj z hz=> ?_⟩;by_cases e:j=k
   ·subst e;rw [hy] at hz;cases hz;exact h
   ·exact my j aa z hz
 ·replace hc:=fh hc;refine ⟨?_,xr⟩;rw [iW];intro y hy;obtain ⟨j,hj⟩:=mO hy;exact my j (by have:=(bF.1 hj).1;omega) y hj
set_option maxRecDepth 100000 in
def find_spec{w:World}{t st d:Nat}{r:Dm}{sl:Sl}{D:Dk}{ag limit:Int}{its:List It}(h:TO w t st d r sl D ag limit its)(p:Po):
  ah 70 #[t,pv p] w λe w'=>e=Value.int .i64 (bC (λi=>i.p==p) its)/\Ext w w':=by
 apply uZ.vc;intro w0 e0;have x0:=bq e0;have hb:Row w0 w [p.1,p.2] Qc:=Row.nw e0;have h0:=h.ext x0;have dY:=h.len;have LF:=h.QR;refine ⟨sl,h0.rt.at 3 rfl,(pD sl its (·.x) _ (λi=>i.p==p) w0 (h0.ol.rd aE) aa ?_).mono ?_⟩
 ·intro y hy w' x';refine jt (by kernel_rfl) (by rfl) ?_;apply rC.vc;have hy':=((h0.it y hy).ext x').ext (Ext.dr w');have hb':=(hb.ext x').ext (Ext.dr w');refine ⟨_,by rw [bW,hy'.r.ld];rfl,yw (yw ⟨_,_,hy'.k.pos,_,_,hb'.bk (λj hj=>by rw [cO]),(rz y.p w'.drew).mono ?_⟩)⟩;rintro e w5 ⟨rfl,x5⟩;refine ⟨_,_,rfl,(hb'.ext x5).bk (λj hj=>by rw [cO]),?_,rfl,(Ext.dr w').tr x5⟩;rw [bW];exact (hy'.ext x5).r.bk (λj hj=>by simp at hj;subst hj;rfl)
 ·rintro e w2 ⟨rfl,x2⟩;exact ⟨_,rfl,rfl,x0.tr x2⟩
end Go.Proofs.YtalpkjfpmdpbiaaGreatDoor
namespace Go.Proofs.YtalpkjfpmdpbiaaGreatDoor
open Go Go.Vc Go.RowKit Go.Proofs Go.dQ Go.bf
def SO.kind{w:World}{st d:Nat}{m:Dm}{D:Dk}(h:SO w st d m D){i:Nat}(hi:sF st d m i):bK GI w (some i) (m.E.map mF)\/∃cs τ,Row w i cs τ/\(τ=vh\/τ=pA\/τ=tW\/τ=fb):=by
 rcases hi with e|hi
 ·exact .inr ⟨_,_,e▸h.rs,.inl rfl⟩
 ·rcases h.dk.kind hi with q|⟨cs,τ,q1,q2⟩
  ·exact .inl q
  ·exact .inr ⟨cs,τ,q1,.inr q2⟩
def SO.bP{w w':World}{st d:Nat}{m:Dm}{D:Dk}(h:SO w st d m D){F:Nat->Prop}(hm:Mod F w w')(hr:∀{j:Nat} {cs:LV} {τ:TypeId},Row w j cs τ->(τ=vh\/τ=pA\/τ=tW\/τ=fb)->¬F j)(WD:∀{j:Nat} {kvs:List (Value × Value)},bK GI w (some j) kvs->¬F j):SO w' st d m D:=
 h.same λi hi=>hm.same i (h.lt hi) (by
  rcases h.kind hi with q|⟨cs,τ,q1,q2⟩
  ·exact WD q
  ·exact hr q1 q2)
abbrev UJ(t:Nat)(sl:Sl):Nat->Prop:=λj=>j=t\/sl.bg=some j
def TO.off{w:World}{t st d:Nat}{r:Dm}{sl:Sl}{D:Dk}{ag limit:Int}{its:List It}(h:TO w t st d r sl D ag limit its){j:Nat}{cs:LV}{τ:TypeId}(hr:Row w j cs τ)(h1:τ≠vi)(h2:τ≠Rk):¬UJ t sl j:=by
 rintro (e|e)
 ·exact hr.ne h.rt h1 e
 ·obtain ⟨cs',hr'⟩:=aN h.ol aE e;exact hr.ne hr' h2 rfl
def TO.item{w w':World}{t st d:Nat}{r:Dm}{sl:Sl}{D:Dk}{ag limit:Int}{its:List It}(h:TO w t st d r sl D ag limit its)(hm:Mod (UJ t sl) w w'){y:It}(hy:qB w y):qB w' y:=
 hy.bP hm (h.off hy.r aE aE) (h.off hy.k.row aE aE) (λb hb=>by obtain ⟨cs',hr'⟩:=aN hy.k.own aE hb;exact h.off hr' aE aE)
def TO.KD{w w':World}{t st d:Nat}{r:Dm}{sl sl':Sl}{D:Dk}{ag limit:Int}{its its':List It}(h:TO w t st d r sl D ag limit its)(hm:Mod (UJ t sl) w w')
  (rt:Row w' t [st,ag,limit,sl'] vi)(ol:ak 0 Rk 1 w' sl' (xi its'))(hit:∀y ∈ its',y ∈ its\/qB w y)
  (dx:(its'.map (·.x)).Nodup)(dg:(its'.map (·.g)).Nodup)(len:(its'.length:Int)<=limit):TO w' t st d r sl' D ag limit its':=by
 refine ⟨rt,h.so.bP hm (λhr hτ=> ?_) (λWD=> ?_),ol,λy hy=>h.item hm ?_,dx,dg,h.QR,len⟩
 ·rcases hτ with rfl|rfl|rfl|rfl<;>exact h.off hr aE aE
 ·rintro (e|e)
  ·exact h.rt.hZ WD e.symm
  ·obtain ⟨cs',hr'⟩:=aN h.ol aE e;exact hr'.hZ WD rfl
 ·rcases hit y hy with h1|h1
  ·exact h.it y h1
  ·exact h1
def zH{w:World}{t st d:Nat}{r:Dm}{sl sl':Sl}{its its':List It}(hb:∀b,sl'.bg=some b->sl.bg=some b\/w.heap.size<=b)(hi:∀y ∈ its',y ∈ its\/(w.heap.size<=y.x/\w.heap.size<=y.g/\∀b,y.s.bg=some b->w.heap.size<=b)):
  ∀i,fe t st d r sl' its' i->fe t st d r sl its i\/w.heap.size<=i:=by
 rintro i (e|e|e|e|e|⟨y,hy,e⟩)
 ·exact .inl (.inl e)
 ·exact .inl (.inr (.inl e))
 ·exact .inl (.inr (.inr (.inl e)))
 ·exact .inl (.inr (.inr (.inr (.inl e))))
 ·rcases hb i e with h|h
  ·exact .inl (.inr (.inr (.inr (.inr (.inl h)))))
  ·exact .inr h
 ·rcases hi y hy with h|⟨h1,h2,h3⟩
  ·exact .inl (.inr (.inr (.inr (.inr (.inr ⟨y,h,e⟩)))))
  ·rcases e with e|e|e
   ·exact .inr aa
   ·exact .inr aa
   ·exact .inr (h3 i e)
def th{t st d:Nat}{r:Dm}{sl:Sl}{its:List It}:∀i,UJ t sl i->fe t st d r sl its i:=by
 rintro i (e|e)
 ·exact .inl e
 ·exact .inr (.inr (.inr (.inr (.inl e))))
def XC(a:Addr):One [Value.pointer (some a)]:=by intro v hv;simp at hv;subst hv;rfl
def TO.push{w:World}{t st d:Nat}{r:Dm}{sl:Sl}{D:Dk}{ag limit:Int}{its:List It}(h:TO w t st d r sl D ag limit its)(y:It)(hy:qB w y)(hx:y.x ∉ its.map (·.x))(hg:y.g ∉ its.map (·.g))(hl:(its.length:Int)+1<=limit):
  aF 8 1 w sl 1 [.pointer (bu y.x)]/\∀(s4:Sl)(w5:World),aD Rk 1 w sl 1 [.pointer (bu y.x)] s4 w5->
   Mod (λj=>sl.bg=some j) w w5/\Wr w5 (ae (bu t) 3) 1/\∀w6,w6=aZ w5 (ae (bu t) 3) [.slice s4.a s4.n s4.c]->
    TO w6 t st d r s4 D ag limit (its++ [y])/\Mod (UJ t sl) w w6/\∀b,s4.bg=some b->sl.bg=some b\/w.heap.size<=b:=by
 have hn:=h.n;have LF:=h.QR;obtain ⟨hp,hr⟩:=h.ol.append (bytes:=8) (news:=[.pointer (bu y.x)]) (fm _) rfl (XC _) aa aa;refine ⟨hp,λs4 w5 aS=> ?_⟩;obtain ⟨ho,hn4,vE,hk,gX⟩:=hr s4 w5 aS;have hm5:Mod (λj=>sl.bg=some j) w w5:=Mod.ri vE hk;have hnt:¬sl.bg=some t:=λe=>by obtain ⟨cs',hr'⟩:=aN h.ol aE e;exact hr'.ne h.rt aE rfl
 have rt5:=hm5.row h.rt hnt;obtain ⟨p1,p2⟩:=rt5.kE (j:=3) (v:=.slice s4.a s4.n s4.c) cy rfl;refine ⟨hm5,p1,λw6 e6=> ?_⟩;obtain ⟨q1,q2⟩:=p2 w6 e6;have hm6:Mod (UJ t sl) w w6:=(hm5.mono λi _ hi=> .inr hi).trans (q2.mono λi _ hi=> .inl hi);have h4t:∀b,s4.bg=some b->b≠t:=λb hb=>by obtain ⟨cs',hr'⟩:=aN ho aE hb;exact hr'.ne rt5 aE
 refine ⟨h.KD hm6 q1 ?_ (λz hz=> ?_) ?_ ?_ (by simp;omega),hm6,λb hb=> ?_⟩
 ·have:=q2.gQ ho h4t;show ak 0 Rk 1 w6 s4 ((its++ [y]).map _);rw [aT];exact this
 ·rcases ct.1 hz with hz|hz
  ·exact .inl hz
  ·simp at hz;subst hz;exact .inr hy
 ·rw [aT];refine mq.2 ⟨h.dx,by simp,?_⟩;intro a ha b hb e;simp at hb;subst hb;subst e;exact hx ha
 ·rw [aT];refine mq.2 ⟨h.dg,by simp,?_⟩;intro a ha b hb e;simp at hb;subst hb;subst e;exact hg ha
 ·rcases gX with e|e
  ·exact .inl (by rw [<-e];exact hb)
  ·rw [e] at hb;cases hb;exact .inr (ax _)
def zI{w:World}{t st d:Nat}{r:Dm}{sl:Sl}{D:Dk}{ag limit:Int}{its:List It}(h:TO w t st d r sl D ag limit its){i:Nat}{y:It}(hi:its[i]? =some y):
  ah 108 #[t,.int .i64 (i:Nat)] w λe w'=>e=Value.pointer (bu y.x)/\∃sl',TO w' t st d r sl' D ag limit (its.eraseIdx i)/\Mod (UJ t sl) w w'/\∀b,sl'.bg=some b->sl.bg=some b\/w.heap.size<=b:=by
 apply xp.vc;have hn:=h.n;have LF:=h.QR;have dY:=h.len;have vD:=(bF.1 hi).1;obtain ⟨a1,a2⟩:=h.at hi;have hd:=h.ext (Ext.dr w);have hle:=ak.le h.ol;have w1:=lD (j:=i);refine ⟨sl,h.rt.at 3 rfl,a1,_,a2,sl,hd.rt.at 3 rfl,by omega,by omega,by omega,by omega,sl,hd.rt.at 3 rfl,?_⟩;rw [w1];have jC:=hd.ol.cut aE (m:=i) (by rw [aB];omega);have hrest:=RdK.rest (hd.ol.rd aE) (l:=i+1) (m:=sl.c) (n':=sl.n-(i+1)) (c':=sl.c-(i+1)) (by rw [aB];omega) (by rw [aB];omega);have hml:((xi its).drop (i+1)).length=sl.n-(i+1):=by rw [iw,aB];omega
 have hwd:∀q ∈(xi its).drop (i+1),q.length=1/\One q:=λq hq=>by obtain ⟨z,_,rfl⟩:=aR.1 (ow hq);exact ⟨rfl,XC _⟩
 obtain ⟨hp,aS⟩:=jC.ke (bytes:=8) (more:=(xi its).drop (i+1)) (fm _) (λq hq=>(hwd q hq).1) (λq hq=>(hwd q hq).2) (by rw [hml];show (i+_)*8<=_;omega) (by rw [hml];show i+_<=_;omega);rw [hml] at hp aS;refine ⟨by omega,by omega,((xi its).drop (i+1)).flatten,hrest.flat aE,hp,λs5 w6 hr=> ?_⟩;obtain ⟨ho,hn5,vE,hk,gX⟩:=aS s5 w6 hr;have EX:(Sl.mk (aA sl.a 0 i 1) i i).bg=sl.bg:=by rw [eE];rfl
 rw [EX] at hk gX;have hm6:Mod (λj=>sl.bg=some j) w w6:=(Mod.aM (Ext.dr w)).trans (Mod.ri vE hk);have hnt:¬sl.bg=some t:=λe=>by obtain ⟨cs',hr'⟩:=aN h.ol aE e;exact hr'.ne h.rt aE rfl
 have rt6:=hm6.row h.rt hnt;obtain ⟨p1,p2⟩:=rt6.kE (j:=3) (v:=.slice s5.a s5.n s5.c) cy rfl;have mH:av w6 (ae (bu t) 3) 0 [sl]:=by show ld w6 (ae _ 0)=_;rw [bZ];exact rt6.at 3 rfl
 refine ⟨mH,mH,⟨rfl,p1⟩,λw7 e7=>⟨rfl,s5,?_⟩⟩;obtain ⟨q1,q2⟩:=p2 w7 e7;have hm7:Mod (UJ t sl) w w7:=(hm6.mono λi _ hi=> .inr hi).trans (q2.mono λi _ hi=> .inl hi);have h5t:∀b,s5.bg=some b->b≠t:=λb hb=>by obtain ⟨cs',hr'⟩:=aN ho aE hb;exact hr'.ne rt6 aE
 have eG:List.Sublist (its.eraseIdx i) its:=oC ..;refine ⟨h.KD hm7 q1 ?_ (λz hz=> .inl (eG.subset hz)) (h.dx.sublist (eG.map _)) (h.dg.sublist (eG.map _)) ?_,hm7,λb hb=> ?_⟩
 ·have:=q2.gQ ho h5t;show ak 0 Rk 1 w7 s5 ((its.eraseIdx i).map _);rw [sS,aT,List.map_take,List.map_drop];exact this
 ·have:=eG.length_le;omega
 ·rcases gX with e|e
  ·exact .inl (by rw [<-e];exact hb)
  ·rw [e] at hb;cases hb;exact .inr (ax _)
def CR{α:Type}{f:α->Nat}{l:List α}{i:Nat}{y:α}(hd:(l.map f).Nodup)(hi:l[i]? =some y):f y ∉(l.eraseIdx i).map f:=by
 rw [sS,aT];have e:l=l.take i++y::l.drop (i+1):=by have:=kf i l;rw [kT (bF.1 hi).1] at this;rw [<-(bF.1 hi).2];exact this.symm
 rw [e,aT,dE] at hd;obtain ⟨h1,h2,h3⟩:=mq.1 hd;intro hm;rcases ct.1 hm with hm|hm
 ·exact h3 _ hm _ (.head _) rfl
 ·exact (lF.1 h2).1 hm
def zJ{w:World}{t st d:Nat}{r:Dm}{sl:Sl}{D:Dk}{ag limit:Int}{its:List It}(h:TO w t st d r sl D ag limit its){i:Nat}{y:It}(hi:its[i]? =some y):
  ah 71 #[t,.int .i64 (i:Nat)] w λe w'=>e=Value.pointer (bu y.x)/\∃sl',TO w' t st d r sl' D ag limit (its.eraseIdx i++ [y])/\aG (fe t st d r sl its) (fe t st d r sl' (its.eraseIdx i++ [y])) w w':=by
 apply tg.vc;have vD:=(bF.1 hi).1;have TC:y ∈ its:=bc hi;have dY:=h.len;refine (zI h hi).mono ?_;rintro e w0 ⟨rfl,sl0,h0,m0,b0⟩;have hy0:=h.item m0 (h.it y TC);refine ⟨_,rfl,sl0,h0.rt.at 3 rfl,λw3 e3=> ?_⟩;have x3:=bq e3;have h3:=h0.ext x3;have eG:List.Sublist (its.eraseIdx i) its:=oC ..;have hel:(its.eraseIdx i).length=its.length-1:=by rw [List.length_eraseIdx,if_pos vD]
 obtain ⟨hp,hr⟩:=h3.push y (hy0.ext x3) (CR h.dx hi) (CR h.dg hi) aa;refine ⟨hp,λs4 w5 aS=> ?_⟩;obtain ⟨m5,p1,p2⟩:=hr s4 w5 aS;have ht0:=h0.rt.lt;have z3:=du e3;refine ⟨m5.same _ aa λe=>by have:=(h0.ol.own.lt e).2;omega,⟨rfl,p1⟩,λe=> ?_,λw6 e6=>⟨rfl,s4,?_⟩⟩
 ·rw [da] at e;have:t=w0.heap.size:=by simpa [cQ] using e
  omega
 ·obtain ⟨q1,q2,q3⟩:=p2 w6 e6;have z0:=m0.size;refine ⟨q1,⟨?_,?_⟩⟩
  ·have a1:Mod (fe t st d r sl its) w w3:=(m0.mono λi _ hi=>th i hi).trans (Mod.aM x3);refine a1.tr q2 λj hj=> ?_
   rcases hj with e|e
   ·exact .inl (.inl e)
   ·rcases b0 j e with e|e
    ·exact .inl (.inr (.inr (.inr (.inr (.inl e)))))
    ·exact .inr e
  ·refine zH (w:=w) (λb hb=> ?_) (λz hz=> .inl ?_)
   ·rcases q3 b hb with e|e
    ·exact b0 b e
    ·exact .inr aa
   ·rcases ct.1 hz with hz|hz
    ·exact eG.subset hz
    ·simp at hz;subst hz;exact TC
end Go.Proofs.YtalpkjfpmdpbiaaGreatDoor
namespace Go.Proofs.YtalpkjfpmdpbiaaGreatDoor
open Go Go.Vc Go.RowKit Go.Proofs Go.dQ Go.bf Go.Code
def TO.put{w w':World}{t st d:Nat}{r:Dm}{sl:Sl}{D:Dk}{ag limit:Int}{its:List It}(h:TO w t st d r sl D ag limit its){i:Nat}{y y':It}(hi:its[i]? =some y)(hx:y'.x=y.x)(hg:y'.g=y.g)(hm:Mod (λj=>j=y.x) w w')(hy:qB w' y'):TO w' t st d r sl D ag limit (its.set i y'):=by
 have vD:=(bF.1 hi).1;have hr:=(h.it y (bc hi)).r;have off:∀{j:Nat} {cs:LV} {τ:TypeId},Row w j cs τ->τ≠bS->¬j=y.x:=λhr' ht e=>hr'.ne hr ht e
 have hpx:xi (its.set i y')=xi its:=by
  unfold xi;rw [mM,hx];apply ik;intro j;rw [ij];split
  ·rename_i e;subst e;rw [if_pos (by rw [aB];exact vD),aX,hi];rfl
  ·rfl
 have hmx:(its.set i y').map (·.x)=its.map (·.x):=by
  rw [mM,hx];apply ik;intro j;rw [ij];split
  ·rename_i e;subst e;rw [if_pos (by rw [aB];exact vD),aX,hi];rfl
  ·rfl
 have hmg:(its.set i y').map (·.g)=its.map (·.g):=by
  rw [mM,hg];apply ik;intro j;rw [ij];split
  ·rename_i e;subst e;rw [if_pos (by rw [aB];exact vD),aX,hi];rfl
  ·rfl
 refine ⟨hm.row h.rt (off h.rt aE),h.so.bP hm (λhr' hτ=>by rcases hτ with rfl|rfl|rfl|rfl<;>exact off hr' aE) (λWD e=>hr.hZ WD e.symm),?_,λz hz=> ?_,by rw [hmx];exact h.dx,by rw [hmg];exact h.dg,h.QR,by rw [L6];exact h.len⟩
 ·rw [hpx];exact hm.gQ h.ol λb hb=>by obtain ⟨cs',hr'⟩:=aN h.ol aE hb;exact off hr' aE
 ·obtain ⟨j,hj⟩:=mO hz;rw [ij] at hj;split at hj
  ·cases hj;exact hy
  ·rename_i dI;have XX:=h.it z (bc hj);refine XX.bP hm (λe=> ?_) (off XX.k.row aE) (λb hb=> ?_)
   ·
    have h1:(its.map (·.x))[i]? =some y.x:=by rw [aX,hi];rfl
    have h2:(its.map (·.x))[j]? =some z.x:=by rw [aX,hj];rfl
    have Pw:=(bF.1 hj).1;rw [e,<-h1] at h2;exact dI ((List.getElem?_inj (by rw [aB];exact Pw) h.dx).1 h2).symm
   ·obtain ⟨cs',hr'⟩:=aN XX.k.own aE hb;exact off hr' aE
def QT{t st d:Nat}{r:Dm}{sl:Sl}{its:List It}{i:Nat}{y y':It}(hi:its[i]? =some y)(hx:y'.x=y.x)(hg:y'.g=y.g)(hs:y'.s=y.s):∀j,fe t st d r sl (its.set i y') j->fe t st d r sl its j:=by
 rintro j (e|e|e|e|e|⟨z,hz,e⟩)
 ·exact .inl e
 ·exact .inr (.inl e)
 ·exact .inr (.inr (.inl e))
 ·exact .inr (.inr (.inr (.inl e)))
 ·exact .inr (.inr (.inr (.inr (.inl e))))
 ·rcases CG hz with hz|hz
  ·exact .inr (.inr (.inr (.inr (.inr ⟨z,hz,e⟩))))
  ·subst hz;rw [hx,hg,hs] at e;exact .inr (.inr (.inr (.inr (.inr ⟨y,bc hi,e⟩))))
abbrev En:=Po × List Int × Bool × Int
def It.ob(i:It):En:=(i.p,i.C,i.mn,i.pins)
abbrev gr(its:List It):List En:=its.map It.ob
def qm(its:List It)(i:Nat):gr (its.eraseIdx i)=(gr its).eraseIdx i:=by unfold gr;rw [sS,sS,aT,List.map_take,List.map_drop]
def Gf(its:List It)(p:Po):bC (λe:En=>e.1==p) (gr its)=bC (λi:It=>i.p==p) its:=jR It.ob _ its
abbrev Tb:=Dk × List En
def dG(D:Dk)(e:En):Dk × En × Int:=
 if e.2.2.1=true then ((ov D (jQ e.1) (ku (cK e.2.1))).1,(e.1,e.2.1,decide ((ov D (jQ e.1) (ku (cK e.2.1))).2≠0),e.2.2.2),(ov D (jQ e.1) (ku (cK e.2.1))).2) else (D,e,0)
def JU(D:Dk)(l:List En)(i:Nat):Tb × Int:=
 match l[i]? with
 |none=>((D,l),0)
 |some e=>if (dG D e).2.2=0 then (((dG D e).1,l.eraseIdx i),0) else (((dG D e).1,l.set i (dG D e).2.1),(dG D e).2.2)
def cE(limit:Int)(D:Dk)(l:List En):Tb × Int:=
 if (l.length:Int)<limit then ((D,l),0) else if bC (λe:En=>e.2.2.2==0) l<0 then ((D,l),8) else JU D l (bC (λe:En=>e.2.2.2==0) l).toNat
def TO.QU{w:World}{t st d:Nat}{r:Dm}{sl:Sl}{D:Dk}{ag limit:Int}{its:List It}(h:TO w t st d r sl D ag limit its){j:Nat}{cs:LV}{τ:TypeId}(hr:Row w j cs τ)(h1:τ≠pA)(h2:τ≠tW):¬(j=d\/r.ls.bg=some j):=by
 rintro (e|e)
 ·exact hr.ne h.so.dk.rd h1 e
 ·obtain ⟨cs',hr'⟩:=aN h.so.dk.ol aE e;exact hr.ne hr' h2 rfl
def TO.store{w w':World}{t st d:Nat}{r r':Dm}{sl:Sl}{D D':Dk}{ag limit:Int}{its:List It}(h:TO w t st d r sl D ag limit its)(hm:Mod (λi=>i=d\/r.ls.bg=some i) w w')(hs:SO w' st d r' D'):TO w' t st d r' sl D' ag limit its:=by
 refine ⟨hm.row h.rt (h.QU h.rt aE aE),hs,hm.gQ h.ol λb hb=> ?_,λy hy=> ?_,h.dx,h.dg,h.QR,h.len⟩
 ·obtain ⟨cs',hr'⟩:=aN h.ol aE hb;exact h.QU hr' aE aE
 ·have hy':=h.it y hy;refine hy'.bP hm (h.QU hy'.r aE aE) (h.QU hy'.k.row aE aE) λb hb=> ?_
  obtain ⟨cs',hr'⟩:=aN hy'.k.own aE hb;exact h.QU hr' aE aE
def JV{n:Nat}{t st d:Nat}{r r':Dm}{sl:Sl}{its:List It}(hs:∀i,dF d r' i->dF d r i\/n<=i):∀i,fe t st d r' sl its i->fe t st d r sl its i\/n<=i:=by
 rintro i (e|e|e|e|e|e)
 ·exact .inl (.inl e)
 ·exact .inl (.inr (.inl e))
 ·exact .inl (.inr (.inr (.inl e)))
 ·rcases hs i (.inr e) with q|q
  ·rcases q with q|q
   ·exact .inl (.inr (.inr (.inl q)))
   ·exact .inl (.inr (.inr (.inr (.inl q))))
  ·exact .inr q
 ·exact .inl (.inr (.inr (.inr (.inr (.inl e)))))
 ·exact .inl (.inr (.inr (.inr (.inr (.inr e)))))
def Vx{t st d:Nat}{r:Dm}{sl:Sl}{its:List It}:∀i,(i=d\/r.ls.bg=some i)->fe t st d r sl its i:=by
 rintro i (e|e)
 ·exact .inr (.inr (.inl e))
 ·exact .inr (.inr (.inr (.inl (.inr (.inl e)))))
def Mc{C:List Int}:lR (ku (cK C)):=Y7 _
def Y8{C:List Int}(hl:C.length=8192):(ku (cK C)).length<=65536:=by have h1:=DQ (cK C);have h2:=j1 C;omega
set_option maxRecDepth 100000 in
def CH{w:World}{t st d:Nat}{r:Dm}{sl:Sl}{D:Dk}{ag limit:Int}{its:List It}(h:TO w t st d r sl D ag limit its)(hW:D.l.length<=1000000){i:Nat}{y:It}(hi:its[i]? =some y):
  ah 107 #[t,.pointer (some ⟨y.x,0,none⟩)] w λe w'=>e=Value.int .i64 (dG D y.ob).2.2/\∃r' y',TO w' t st d r' sl (dG D y.ob).1 ag limit (its.set i y')/\y'.ob=(dG D y.ob).2.1/\aG (fe t st d r sl its) (fe t st d r' sl (its.set i y')) w w':=by
 apply uR.vc;have TC:=bc hi;have hy:=h.it y TC;have LC:its.set i y=its:=by obtain ⟨hl,he⟩:=bF.1 hi;rw [<-he];exact List.set_getElem_self hl
 refine ⟨_,hy.r.at 1 rfl,Br.mk (λhb=> ?_) (λhb=> ?_)⟩
 ·have hd:y.mn=false:=by simpa using hb
  have e:dG D y.ob=(D,y.ob,0):=by unfold dG;rw [if_neg (by show ¬y.mn=true;rw [hd];decide)]
  rw [e];exact ⟨rfl,r,y,by rw [LC];exact h,rfl,by rw [LC];exact aG.refl _ _⟩
 ·have hd:y.mn=true:=by simpa using hb
  have e:dG D y.ob=((ov D (jQ y.p) (ku (cK y.C))).1,(y.p,y.C,decide ((ov D (jQ y.p) (ku (cK y.C))).2≠0),y.pins),(ov D (jQ y.p) (ku (cK y.C))).2):=by unfold dG;rw [if_pos (by show y.mn=true;exact hd)];rfl
  rw [e];refine ⟨_,hy.r.at 0 rfl,yw (yw ⟨_,_,hy.k.pos,(rz y.p w).mono ?_⟩)⟩;rintro e w4 ⟨rfl,x4⟩;refine ⟨_,_,rfl,(Md y.p w4).mono ?_⟩;rintro e w7 ⟨rfl,x7⟩;have x07:=(x4.tr x7).tr (Ext.dr w7);have h7:=h.ext x07;have hy7:=h7.it y TC;refine ⟨_,_,rfl,_,h7.rt.at 0 rfl,_,hy7.r.at 0 rfl,(JW hy7.k).mono ?_⟩;rintro e bR ⟨gf,rfl,o13,bT⟩;have AW:=x07.tr bT;have ny:=h.ext AW;have hk:=hy.k;refine ⟨gf,rfl,sT (ny.rt.at 0 rfl),(Gg ny.so hW (jQ y.p) gf (ku (cK y.C)) (iM.rk o13) Mc (fy (Y8 hk.len) aE)).mono ?_⟩;rintro e cm ⟨rfl,r',Z7,m14,f14,-⟩;have XY:=ny.store m14 Z7;have ui:=XY.it y TC;obtain ⟨p1,p2⟩:=ui.r.kE (j:=1) (v:=.bool ((ov D (jQ y.p) (ku (cK y.C))).2 !=0)) cy rfl;refine ⟨_,rfl,⟨rfl,p1⟩,λdy yH=> ?_⟩;obtain ⟨q1,q2⟩:=p2 dy yH;have uf:((ov D (jQ y.p) (ku (cK y.C))).2 !=0)=decide ((ov D (jQ y.p) (ku (cK y.C))).2≠0):=by rw [Bool.eq_iff_iff];simp
  rw [uf] at q1;have hy':qB dy {y with mn:=decide ((ov D (jQ y.p) (ku (cK y.C))).2≠0)}:=⟨q1,ui.k.bP q2 (λe=>ui.k.row.ne ui.r aE e) λb hb=>by obtain ⟨cs',hr'⟩:=aN ui.k.own aE hb;exact hr'.ne ui.r aE⟩;have UU:=AW.size;have Wx:=m14.size;refine ⟨rfl,r',{y with mn:=decide ((ov D (jQ y.p) (ku (cK y.C))).2≠0)},XY.put hi rfl rfl q2 hy',rfl,?_⟩;have t1:aG (fe t st d r sl its) (fe t st d r' sl its) bR cm:=⟨m14.mono λi _ hi=>Vx i hi,JV f14⟩;have t2:aG (fe t st d r' sl its) (fe t st d r' sl (its.set i {y with mn:=decide ((ov D (jQ y.p) (ku (cK y.C))).2≠0)})) cm dy:=⟨q2.mono λj _ hj=> .inr (.inr (.inr (.inr (.inr ⟨y,TC,.inl hj⟩)))),λj hj=> .inl (QT (y':={y with mn:=decide ((ov D (jQ y.p) (ku (cK y.C))).2≠0)}) hi rfl rfl rfl j hj)⟩;exact (aG.aM AW).trans (t1.trans t2)
end Go.Proofs.YtalpkjfpmdpbiaaGreatDoor
namespace Go.Proofs.YtalpkjfpmdpbiaaGreatDoor
open Go Go.Vc Go.RowKit Go.Proofs Go.dQ Go.bf Go.Code
abbrev zF(w:World)(t st d:Nat)(r:Dm)(sl:Sl)(ag limit:Int)(its:List It)(T:Tb)(w':World):Prop:=
 ∃r' sl' its',TO w' t st d r' sl' T.1 ag limit its'/\gr its'=T.2/\aG (fe t st d r sl its) (fe t st d r' sl' its') w w'
def Rj{its:List It}{i:Nat}{y:It}(h:its[i]? =some y):(gr its)[i]? =some y.ob:=by rw [aX,h];rfl
def Mk{its:List It}{i:Nat}{y':It}{e:En}(h:y'.ob=e):gr (its.set i y')=(gr its).set i e:=by unfold gr;rw [mM,h]
def zG{D:Dk}{l:List En}{i:Nat}{e:En}(h:l[i]? =some e):JU D l i=if (dG D e).2.2=0 then (((dG D e).1,l.eraseIdx i),0) else (((dG D e).1,l.set i (dG D e).2.1),(dG D e).2.2):=by unfold JU;rw [h]
def GO{w w':World}{t st d:Nat}{r:Dm}{sl sl':Sl}{its its':List It}(hm:Mod (UJ t sl) w w')(hb:∀b,sl'.bg=some b->sl.bg=some b\/w.heap.size<=b)(hs:∀y ∈ its',y ∈ its):aG (fe t st d r sl its) (fe t st d r sl' its') w w':=
 ⟨hm.mono λi _ hi=>th i hi,zH hb λy hy=> .inl (hs y hy)⟩
set_option maxRecDepth 100000 in
def NW{w:World}{t st d:Nat}{r:Dm}{sl:Sl}{D:Dk}{ag limit:Int}{its:List It}(h:TO w t st d r sl D ag limit its)(hW:D.l.length<=1000000):
  ah 72 #[t] w λe w'=>e=Value.int .i64 (cE limit D (gr its)).2/\zF w t st d r sl ag limit its (cE limit D (gr its)).1 w'/\((cE limit D (gr its)).2=0->((cE limit D (gr its)).1.2.length:Int)+1<=limit):=by
 apply u4.vc;have hd:=h.ext (Ext.dr w);have hn:=h.n;have xN:(gr its).length=its.length:=by rw [aB]
 have dY:=h.len;have LF:=h.QR;refine ⟨sl,hd.rt.at 3 rfl,limit,hd.rt.at 2 rfl,Br.mk (λhb=> ?_) (λhb=> ?_)⟩
 ·replace hb:=fj hb;have e:cE limit D (gr its)=((D,gr its),0):=by unfold cE;rw [if_pos aa]
  rw [e];exact ⟨rfl,⟨r,sl,its,hd,rfl,aG.aM (Ext.dr w)⟩,λ_=>by simp only;omega⟩
 ·replace hb:=fh hb;refine ⟨sl,hd.rt.at 3 rfl,(pD sl its (·.x) _ (λi=>i.pins==0) w.drew (hd.ol.rd aE) aa ?_).mono ?_⟩
  ·intro y hy w' x';refine jt (by kernel_rfl) (by rfl) ?_;apply rD.vc;have hy':=(hd.it y hy).ext x';exact ⟨_,hy'.r.at 2 rfl,rfl,Ext.ck _⟩
  ·rintro e w3 ⟨rfl,x3⟩;have h3:=hd.ext x3;have PB:bC (λe:En=>e.2.2.2==0) (gr its)=bC (λi:It=>i.pins==0) its:=jR It.ob _ its;have r6:Ext w w3:=(Ext.dr w).tr x3;refine ⟨_,rfl,Br.mk (λfi=> ?_) (λfi=> ?_)⟩
   ·replace fi:=fj fi;have e:cE limit D (gr its)=((D,gr its),8):=by unfold cE;rw [if_neg aa,if_pos aa]
    rw [e];exact ⟨rfl,⟨r,sl,its,h3,rfl,aG.aM r6⟩,λh=>by simp at h⟩
   ·replace fi:=fh fi;rcases cc (λi:It=>i.pins==0) its with ⟨h1,-⟩|⟨k,y,hk,-,hfk,-⟩
    ·omega
    ·have e:cE limit D (gr its)=JU D (gr its) k:=by unfold cE;rw [if_neg aa,if_neg aa,PB,hfk];rfl
     rw [hfk,e,zG (Rj hk)];obtain ⟨a1,a2⟩:=h3.at hk;have q9:=(bF.1 hk).1;refine ⟨sl,h3.rt.at 3 rfl,a1,_,a2,(CH h3 hW hk).mono ?_⟩;rintro e w7 ⟨rfl,r',y',h7,TD,t7⟩;refine ⟨_,rfl,Br.mk (λhz=> ?_) (λhz=> ?_)⟩
     ·have hz:=kB hz;have hk':(its.set k y')[k]? =some y':=QM q9;refine (zI h7 hk').mono ?_;rintro e w9 ⟨rfl,sl',h9,m9,b9⟩;rw [List.eraseIdx_set_eq] at h9;refine ⟨_,rfl,?_⟩;rw [if_pos hz];refine ⟨by rw [hz],⟨r',sl',_,h9,qm _ _,(aG.aM r6).trans (t7.trans (GO m9 b9 λz hz=> ?_))⟩,λ_=> ?_⟩
      ·rw [<-List.eraseIdx_set_eq (l:=its) (i:=k) (a:=y')] at hz;exact (oC ..).subset hz
      ·simp only [List.length_eraseIdx];split<;>omega
     ·have hz:=kB hz;rw [if_neg hz];exact ⟨rfl,⟨r',sl,_,h7,Mk TD,(aG.aM r6).trans t7⟩,λq=>absurd q hz⟩
def VF(D:Dk)(e:En):(dG D e).1.l.length<=D.l.length+1:=by
 unfold dG;split
 ·exact Y3 _ _ _
 ·exact y8 _
def acV(D:Dk)(l:List En)(i:Nat):(JU D l i).1.1.l.length<=D.l.length+1:=by
 unfold JU;split
 ·exact y8 _
 ·split<;>exact VF _ _
def VG(limit:Int)(D:Dk)(l:List En):(cE limit D l).1.1.l.length<=D.l.length+1:=by
 unfold cE;split
 ·exact y8 _
 ·split
  ·exact y8 _
  ·exact acV _ _ _
def yx{p:Po}(h:oA p):Fm p:=by unfold oA at h;unfold Fm;omega
def gH(ag:Int)(p:Po)(b:List Int):List Int:=if (cJ aY b 8192).2=0 then aW (cJ aY b 8192).1 else made ag p
def oD(ag limit:Int)(D:Dk)(l:List En)(p:Po):Tb × Int:=
 if ¬oA p then ((D,l),5)
 else if 0<=bC (λe:En=>e.1==p) l then ((D,l.eraseIdx (bC (λe:En=>e.1==p) l).toNat++l[(bC (λe:En=>e.1==p) l).toNat]?.toList),0)
 else if (cE limit D l).2≠0 then cE limit D l
 else (((cE limit D l).1.1,(cE limit D l).1.2++ [(p,gH ag p (qh (cE limit D l).1.1 (jQ p)).1,false,0)]),0)
set_option maxRecDepth 100000 in
def eA{w v:World}{t st d:Nat}{r:Dm}{sl:Sl}{D:Dk}{ag limit:Int}{its:List It}(h:TO v t st d r sl D ag limit its)(hw:w.heap.size<v.heap.size)(hwf:¬fe t st d r sl its w)(PC:t<w)(hr:(its.length:Int)+1<=limit){g:Nat}{s:Sl}{p:Po}{C:List Int}(hk:BH v g s p C)(hg:g ∉ its.map (·.g))(u:World)(hn:u.heap.size<=v.heap.size)(UX:u.heap.size<=g)(j6:∀b,s.bg=some b->u.heap.size<=b)
  {K:World->Prop}(hK:∀w',(∃s' y,TO w' t st d r s' D ag limit (its++ [y])/\y.ob=(p,C,false,0)/\(∀i,fe t st d r s' (its++ [y]) i->fe t st d r sl its i\/u.heap.size<=i)/\Mod (fe t st d r sl its) v w')->K w'):
  ∃(jk:Sl),ld v (ae (bu t) 3)=some (.slice jk.a jk.n jk.c)/\
   ∀cx:World,cx=v.alloc (.cells #[g,false,af] bS)->
   ∀gi:World,gi=cx.alloc (.cells #[v] Rk)->
   aF 8 1 gi ⟨jk.a,jk.n,jk.c⟩ 1 [v]/\∀(kL:Sl)(eg:World),aD Rk 1 gi ⟨jk.a,jk.n,jk.c⟩ 1 [v] kL eg->eg.heap[w.heap.size]? =gi.heap[w.heap.size]?/\eg.heap[cx.heap.size]? =gi.heap[cx.heap.size]?/\
    (true=true/\Wr eg (ae (bu t) 3) 1)/\cQ (ae (bu t) 3)≠some w.heap.size/\cQ (ae (bu t) 3)≠some cx.heap.size/\(∀g7:World,g7=aZ eg (ae (bu t) 3) [.slice kL.a kL.n kL.c]->K g7):=by
 refine ⟨sl,h.rt.at 3 rfl,λcx A3 gi Jk=> ?_⟩;have eY:=bq A3;have de:=bq Jk;have z22:=du A3;have z23:gi.heap.size=v.heap.size+2:=by rw [Jk];simp [z22]
 have hy:qB gi ⟨v.heap.size,g,s,p,C,false,0⟩:=⟨(by rw [A3];exact Row.new v [_,_,_] _:Row cx v.heap.size [g,false,af] bS).ext de,(hk.ext eY).ext de⟩;have h23:=(h.ext eY).ext de;have Ws:v.heap.size ∉ its.map (·.x):=λhm=>by obtain ⟨z,hz,e⟩:=aR.1 hm;have:=(h.it z hz).r.lt;omega
 obtain ⟨hp,aS⟩:=h23.push _ hy Ws hg hr;refine ⟨hp,λkL eg PD=> ?_⟩;obtain ⟨m25,p1,p2⟩:=aS kL eg PD;have pb:∀j:Nat,t<j->cQ (ae (bu t) 3)≠some j:=λj hj e=>by
  rw [da] at e;have:t=j:=by simpa [cQ] using e
  omega
 have htl:=h.rt.lt;refine ⟨m25.same _ aa λe=>hwf (.inr (.inr (.inr (.inr (.inl e))))),m25.same _ aa λe=>by have:=(h.ol.own.lt e).2;omega,⟨rfl,p1⟩,pb _ PC,pb _ aa,λg7 IL=>hK g7 ⟨kL,⟨v.heap.size,g,s,p,C,false,0⟩,?_,rfl,?_,?_⟩⟩
 ·exact (p2 g7 IL).1
 ·obtain ⟨-,q2,q3⟩:=p2 g7 IL;rintro i hi;exact zH (w:=u) (sl:=sl) (its:=its) (λb hb=>(q3 b hb).imp id λe=>by omega) (λz hz=>by
   rcases ct.1 hz with hz|hz
   ·exact .inl hz
   ·simp at hz;subst hz;exact .inr ⟨hn,UX,j6⟩) i hi
 ·obtain ⟨-,q2,q3⟩:=p2 g7 IL;exact (Mod.aM (eY.tr de)).trans (q2.mono λi _ hi=>th i hi)
set_option maxRecDepth 100000 in
def NX{w:World}{t st d:Nat}{r:Dm}{sl:Sl}{D:Dk}{ag limit:Int}{its:List It}(h:TO w t st d r sl D ag limit its)(hW:D.l.length<=1000000)(p:Po):
  ah 38 #[t,pv p] w λe w'=>e=Value.int .i64 (oD ag limit D (gr its) p).2/\zF w t st d r sl ag limit its (oD ag limit D (gr its) p).1 w':=by
 apply uY.vc;intro w0 e0;have z0:=du e0;have x0:=bq e0;refine (Md p w0).mono ?_;rintro e w1 ⟨rfl,x1⟩;have z1:=x1.size;have oN:=x0.tr x1;refine ⟨_,_,rfl,x1.heap aa,?_⟩;by_cases cV:oA p
 ·rw [decide_eq_true cV];refine Br.mk (λh=>by cases h) (λ_=> ?_);have h1:=h.ext oN;refine (find_spec h1 p).mono ?_;rintro e w4 ⟨rfl,x4⟩;have z4:=x4.size;have Jl:=oN.tr x4;have h4:=h.ext Jl;have PB:bC (λe:En=>e.1==p) (gr its)=bC (λi:It=>i.p==p) its:=jR It.ob _ its;have bx:¬fe t st d r sl its w:=λhf=>by have:=h.lt hf;omega
  refine ⟨_,rfl,x4.heap aa,?_⟩;rcases cc (λi:It=>i.p==p) its with ⟨hf,-⟩|⟨k,y,hk,-,hf,-⟩
  ·rw [hf];refine Br.mk (λh=>by simp at h) (λ_=> ?_);have hE:oD ag limit D (gr its) p=if (cE limit D (gr its)).2≠0 then cE limit D (gr its) else (((cE limit D (gr its)).1.1,(cE limit D (gr its)).1.2++ [(p,gH ag p (qh (cE limit D (gr its)).1.1 (jQ p)).1,false,0)]),0):=by unfold oD;rw [if_neg (by simpa using cV),PB,hf,if_neg aE]
   rw [hE];refine (NW h4 hW).mono ?_;rintro e w8 ⟨rfl,⟨r8,sl8,its8,h8,wO,t8⟩,hl8⟩;have hWl:((cE limit D (gr its)).1.1).l.length<=1000001:=by have:=VG limit D (gr its);omega
   generalize cE limit D (gr its)=R at*;have z8:=t8.mod.size;have t08:aG (fe t st d r sl its) (fe t st d r8 sl8 its8) w w8:=(aG.aM Jl).trans t8;refine ⟨_,rfl,t8.mod.same _ aa bx,Br.mk (λhb=> ?_) (λhb=> ?_)⟩
   ·have dI:=kB hb;rw [if_pos dI];exact ⟨rfl,r8,sl8,its8,h8,wO,t08⟩
   ·have he:=kB hb;rw [if_neg (by rw [he];decide)];have hroom:=hl8 he;rw [<-wO,aB] at hroom;refine ⟨_,h8.rt.at 0 rfl,(GP h8.so aa _).mono ?_⟩;rintro e cH ⟨eH,rfl,aar,WM,vE,hsc,-,bV⟩;have z11:=bV.size;have bx8:¬fe t st d r8 sl8 its8 w:=λhf=>by
     rcases t8.sub _ hf with q|q
     ·exact bx q
     ·have:=Jl.size;omega
    refine ⟨eH,_,_,rfl,bV.heap aa,?_⟩;refine (NY p eH (qh R.1.1 (jQ p)).1 cH aar WM hsc aa).mono ?_;rintro e cS ⟨aS,bA⟩;have z15:=bA.size;have PC:=h.rt.lt;have fin:∀{w' v:World} {C:List Int},Ext w8 v->(∃s' y,TO w' t st d r8 s' R.1.1 ag limit (its8++ [y])/\y.ob=(p,C,false,0)/\(∀i,fe t st d r8 s' (its8++ [y]) i->fe t st d r8 sl8 its8 i\/w8.heap.size<=i)/\Mod (fe t st d r8 sl8 its8) v w')->C=gH ag p (qh R.1.1 (jQ p)).1->
      Ending.returned (0:Int)=(0:Int)/\zF w t st d r sl ag limit its (R.1.1,R.1.2++ [(p,gH ag p (qh R.1.1 (jQ p)).1,false,0)]) w':=by
     rintro w' v C xv ⟨s',y,hT,TD,eG,hm⟩ rfl;refine ⟨rfl,r8,s',_,hT,?_,t08.trans ⟨(Mod.aM xv).trans hm,eG⟩⟩;unfold gr;rw [aT];change gr its8++ [y.ob]=_;rw [wO,TD]
    rcases aS with ⟨hz,g,sg,rfl,hk,hg,-,hgb⟩|⟨hz,rfl⟩
    ·refine ⟨_,_,rfl,bA.heap aa,Br.mk (λq=>by simp at q) (λ_=> ?_)⟩;have TI:=bV.tr bA;have WN:=h8.ext TI;have UX:g ∉ its8.map (·.g):=λhm=>by obtain ⟨z,hz,e⟩:=aR.1 hm;have:=(h8.it z hz).k.row.lt;omega
     refine eA (w:=w) WN aa bx8 PC hroom hk UX w8 aa aa (λb hb=>by have:=hgb b hb;omega) λw' hw'=>fin TI hw' ?_
     unfold gH;rw [if_pos hz]
    ·refine ⟨_,_,rfl,bA.heap aa,Br.mk (λ_=> ?_) (λq=>by simp at q;exact absurd q hz)⟩;have TI:=bV.tr bA.drew;have WN:=h8.ext TI;refine ⟨ag,WN.rt.at 1 rfl,(Kh ag p (yx cV) cS.drew).mono ?_⟩;rintro e fD ⟨g,sg,rfl,hk,cN,hg,EX⟩;have z19:=cN.size;have zd:=lW cS;have h19:=WN.ext cN;have UX:g ∉ its8.map (·.g):=λhm=>by obtain ⟨z,hz,e⟩:=aR.1 hm;have:=(WN.it z hz).k.row.lt;omega
     refine ⟨_,rfl,cN.heap aa,eA (w:=w) h19 aa bx8 PC hroom hk UX w8 aa aa (λb hb=>by have:=EX b hb;omega) λw' hw'=>fin (TI.tr cN) hw' ?_⟩;unfold gH;rw [if_neg hz]
  ·rw [hf];refine Br.mk (λ_=> ?_) (λh=>by simp at h);have hE:oD ag limit D (gr its) p=((D,(gr its).eraseIdx k++ [y.ob]),0):=by unfold oD;rw [if_neg (by simpa using cV),PB,hf,if_pos aa,ju,aX,hk];rfl
   rw [hE];refine (zJ h4 hk).mono ?_;rintro e w6 ⟨rfl,sl6,h6,t6⟩;have z6:=t6.mod.size;refine ⟨_,rfl,t6.mod.same _ aa bx,rfl,r,sl6,_,h6,?_,(aG.aM Jl).trans t6⟩;unfold gr;rw [aT];change gr _++_=_;rw [qm];rfl
 ·rw [decide_eq_false cV];refine Br.mk (λ_=> ?_) (λh=>by cases h);have hE:oD ag limit D (gr its) p=((D,gr its),5):=by unfold oD;rw [if_pos cV]
  rw [hE];exact ⟨rfl,r,sl,its,h.ext oN,rfl,aG.aM oN⟩
end Go.Proofs.YtalpkjfpmdpbiaaGreatDoor
namespace Go.Proofs.YtalpkjfpmdpbiaaGreatDoor
open Go Go.Vc Go.RowKit Go.Proofs Go.dQ Go.bf Go.Code
def yes{b:Bool}{A B:Prop}(hb:b=true)(h:A):Br b A B:=by subst hb;exact h
def Ej{b:Bool}{A B:Prop}(hb:b=false)(h:B):Br b A B:=by subst hb;exact h
def fI(D:Dk)(l:List En)(p:Po):Tb × Int:=
 if 0<=bC (λe:En=>e.1==p) l then
  (if 0<(l[(bC (λe:En=>e.1==p) l).toNat]?.map (·.2.2.2)).getD 0 then ((D,l),10) else JU D l (bC (λe:En=>e.1==p) l).toNat) else ((D,l),6)
def Hl{w:World}{t st d:Nat}{r:Dm}{sl:Sl}{D:Dk}{ag limit:Int}{its:List It}(h:TO w t st d r sl D ag limit its)(hW:D.l.length<=1000000)(p:Po):
  ah 65 #[t,pv p] w λe w'=>e=Value.int .i64 (fI D (gr its) p).2/\zF w t st d r sl ag limit its (fI D (gr its) p).1 w':=by
 apply rF.vc;intro w0 e0;have z0:=du e0;have x0:=bq e0;have h0:=h.ext x0;refine (find_spec h0 p).mono ?_;rintro e w1 ⟨rfl,x1⟩;have z1:=x1.size;have oN:=x0.tr x1;have h1:=h.ext oN;have bx:¬fe t st d r sl its w:=λhf=>by have:=h.lt hf;omega
 refine ⟨_,rfl,x1.heap aa,?_⟩;rcases cc (λi:It=>i.p==p) its with ⟨hf,-⟩|⟨k,y,hk,hyp,hf,-⟩
 ·have hE:fI D (gr its) p=((D,gr its),6):=by unfold fI;rw [Gf,hf,if_neg aE]
  rw [hf,hE];exact Br.mk (λ_=>⟨rfl,r,sl,its,h1,rfl,aG.aM oN⟩) (λh=>by simp at h)
 ·have TD:(gr its)[k]?.map (·.2.2.2)=some y.pins:=by rw [aX,hk];rfl
  have hE:fI D (gr its) p=if 0<y.pins then ((D,gr its),10) else JU D (gr its) k:=by unfold fI;rw [Gf,hf,if_pos aa,ju,TD];rfl
  rw [hf,hE];refine Br.mk (λh=>by simp at h;omega) (λ_=> ?_);have TC:=bc hk;have hy:=h1.it y TC;have q9:=(bF.1 hk).1;obtain ⟨a1,a2⟩:=h1.at hk;refine ⟨sl,h1.rt.at 3 rfl,a1,_,a2,yw (yw ⟨y.pins,hy.r.at 2 rfl,Br.mk (λhb=> ?_) (λhb=> ?_)⟩)⟩
  ·have hz:=kB hb;rw [if_pos hz];exact ⟨rfl,r,sl,its,h1,rfl,aG.aM oN⟩
  ·have hz:=kB hb;rw [if_neg hz,zG (Rj hk)];refine ⟨sl,h1.rt.at 3 rfl,a1,_,a2,(CH h1 hW hk).mono ?_⟩;rintro e w8 ⟨rfl,r',y',h8,hob8,t8⟩;have z8:=t8.mod.size;refine ⟨_,rfl,t8.mod.same _ aa bx,Br.mk (λhz=> ?_) (λhz=> ?_)⟩
   ·have hz:=kB hz;have hk':(its.set k y')[k]? =some y':=QM q9;refine (zI h8 hk').mono ?_;rintro e w9 ⟨rfl,sl',h9,m9,b9⟩;rw [List.eraseIdx_set_eq] at h9;have bx8:¬UJ t sl w:=λq=>bx (th _ q)
    refine ⟨_,rfl,m9.same _ aa bx8,?_⟩;rw [if_pos hz];refine ⟨by rw [hz],r',sl',_,h9,qm _ _,(aG.aM oN).trans (t8.trans (GO m9 b9 λz hz=> ?_))⟩;rw [<-List.eraseIdx_set_eq (l:=its) (i:=k) (a:=y')] at hz;exact (oC ..).subset hz
   ·have hz:=kB hz;rw [if_neg hz];exact ⟨rfl,r',sl,_,h8,Mk hob8,(aG.aM oN).trans t8⟩
def Oo{w:World}{t st d:Nat}{r:Dm}{sl:Sl}{D:Dk}{ag limit:Int}{its:List It}(h:TO w t st d r sl D ag limit its):
  ah 135 #[t] w λe w'=>∃s':Sl,e=s'/\ak w Qc 2 w' s' ((gr its).map λe=> [.int .i64 e.1.1,.int .i64 e.1.2])/\Ext w w':=by
 apply uW.vc;have hn:=h.n;have dY:=h.len;have LF:=h.QR;refine ⟨sl,h.rt.at 3 rfl,λn i so wr=>∃k:Nat,i=k/\k+n=its.length/\Ext w wr/\ak w Qc 2 wr so (((gr its).take k).map λe=> [.int .i64 e.1.1,.int .i64 e.1.2]),⟨its.length,0,rfl,by omega,Ext.ck _,ak.nil⟩,?_⟩;rintro n us i so wr ⟨k,rfl,hk,xr,ho⟩;have Bp:=lD (j:=k);have xN:(gr its).length=its.length:=by rw [aB]
 apply Br.mk<;>intro hc
 ·replace hc:=fj hc;obtain ⟨y,hy⟩:=bh (l:=its) (i:=k) aa;have hr:=h.ext xr;obtain ⟨a1,a2⟩:=hr.at hy;have IN:=hr.it y (bc hy);refine ⟨a1,_,a2,yw (yw ⟨_,IN.r.at 0 rfl,yw (yw ⟨_,_,IN.k.pos,(rz y.p wr).mono ?_⟩)⟩)⟩;rintro e bR ⟨rfl,bT⟩;refine ⟨_,_,rfl,λcS A1=> ?_⟩;have bA:=bq A1;have UU:=bT.size;have zr:=xr.size;have z15:=du A1;have Ps:=(ho.ext bT).ext bA;have mz:=(ho.rd (show 0<2 by decide)).n;rw [aB,bG] at mz;obtain ⟨hp,aS⟩:=Ps.append (bytes:=16) (news:=[.int .i64 y.p.1,.int .i64 y.p.2]) aa rfl (nI _ _ _ _) aa aa;refine ⟨hp,λkz cC Ub=> ?_⟩;obtain ⟨aaU,aiZ,xb,Ji,-⟩:=aS kz cC Ub;refine ⟨Ji _ (λe=>by have:=(ho.own.lt e).2;omega) aa,n-1,by omega,k+1,Bp,by omega,(xr.tr (bT.tr bA)).trans xb,?_⟩;have:(gr its).take (k+1)=(gr its).take k++ [y.ob]:=by rw [cu,aX,hy];rfl
  rw [this,aT];exact aaU
 ·replace hc:=fh hc;rw [dn aa] at ho;exact ⟨so,rfl,ho,xr⟩
def lH{w:World}{p:Option Addr}{v:Value}(h:ld w p=some v):av w p 0 [v]:=by show ld w (ae p 0)=_;rw [bZ];exact h
def TO.agV{w w':World}{t st d:Nat}{r:Dm}{sl:Sl}{D:Dk}{ag limit:Int}{its:List It}(h:TO w t st d r sl D ag limit its){i:Nat}{y y':It}(hi:its[i]? =some y)(hx:y'.x=y.x)(hg:y'.g=y.g)(hm:Mod (λj=>j=y.x\/j=y.g) w w')(hy:qB w' y'):TO w' t st d r sl D ag limit (its.set i y'):=by
 have vD:=(bF.1 hi).1;have hr:=(h.it y (bc hi)).r;have hrg:=(h.it y (bc hi)).k.row;have off:∀{j:Nat} {cs:LV} {τ:TypeId},Row w j cs τ->τ≠bS->τ≠rL->¬(j=y.x\/j=y.g):=λhr' ht hc e=>by
  rcases e with e|e
  ·exact hr'.ne hr ht e
  ·exact hr'.ne hrg hc e
 have hpx:xi (its.set i y')=xi its:=by
  unfold xi;rw [mM,hx];apply ik;intro j;rw [ij];split
  ·rename_i e;subst e;rw [if_pos (by rw [aB];exact vD),aX,hi];rfl
  ·rfl
 have hmx:(its.set i y').map (·.x)=its.map (·.x):=by
  rw [mM,hx];apply ik;intro j;rw [ij];split
  ·rename_i e;subst e;rw [if_pos (by rw [aB];exact vD),aX,hi];rfl
  ·rfl
 have hmg:(its.set i y').map (·.g)=its.map (·.g):=by
  rw [mM,hg];apply ik;intro j;rw [ij];split
  ·rename_i e;subst e;rw [if_pos (by rw [aB];exact vD),aX,hi];rfl
  ·rfl
 refine ⟨hm.row h.rt (off h.rt aE aE),h.so.bP hm (λhr' hτ=>by rcases hτ with rfl|rfl|rfl|rfl<;>exact off hr' aE aE) (λWD e=>by
   rcases e with e|e
   ·exact hr.hZ WD e.symm
   ·exact hrg.hZ WD e.symm),?_,λz hz=> ?_,by rw [hmx];exact h.dx,by rw [hmg];exact h.dg,h.QR,by rw [L6];exact h.len⟩
 ·rw [hpx];exact hm.gQ h.ol λb hb=>by obtain ⟨cs',hr'⟩:=aN h.ol aE hb;exact off hr' aE aE
 ·obtain ⟨j,hj⟩:=mO hz;rw [ij] at hj;split at hj
  ·cases hj;exact hy
  ·rename_i dI;have XX:=h.it z (bc hj);have Pw:=(bF.1 hj).1;refine XX.bP hm ?_ ?_ (λb hb=> ?_)
   ·rintro (e|e)
    ·have h1:(its.map (·.x))[i]? =some y.x:=by rw [aX,hi];rfl
     have h2:(its.map (·.x))[j]? =some z.x:=by rw [aX,hj];rfl
     rw [e,<-h1] at h2;exact dI ((List.getElem?_inj (by rw [aB];exact Pw) h.dx).1 h2).symm
    ·exact XX.r.ne hrg aE e
   ·rintro (e|e)
    ·exact XX.k.row.ne hr aE e
    ·have h1:(its.map (·.g))[i]? =some y.g:=by rw [aX,hi];rfl
     have h2:(its.map (·.g))[j]? =some z.g:=by rw [aX,hj];rfl
     rw [e,<-h1] at h2;exact dI ((List.getElem?_inj (by rw [aB];exact Pw) h.dg).1 h2).symm
   ·obtain ⟨cs',hr'⟩:=aN XX.k.own aE hb;exact off hr' aE aE
def Oq{t st d:Nat}{r:Dm}{sl:Sl}{its:List It}{i n:Nat}{y y':It}(hi:its[i]? =some y)(hx:y'.x=y.x)(hg:y'.g=y.g)(hs:∀b,y'.s.bg=some b->y.s.bg=some b\/n<=b):∀j,fe t st d r sl (its.set i y') j->fe t st d r sl its j\/n<=j:=by
 rintro j (e|e|e|e|e|⟨z,hz,e⟩)
 ·exact .inl (.inl e)
 ·exact .inl (.inr (.inl e))
 ·exact .inl (.inr (.inr (.inl e)))
 ·exact .inl (.inr (.inr (.inr (.inl e))))
 ·exact .inl (.inr (.inr (.inr (.inr (.inl e)))))
 ·have hy:∀i,(i=y.x\/i=y.g\/y.s.bg=some i)->fe t st d r sl its i:=λi e=> .inr (.inr (.inr (.inr (.inr ⟨y,bc hi,e⟩))))
  rcases CG hz with hz|hz
  ·exact .inl (.inr (.inr (.inr (.inr (.inr ⟨z,hz,e⟩)))))
  ·subst hz;rw [hx,hg] at e;rcases e with e|e|e
   ·exact .inl (hy j (.inl e))
   ·exact .inl (hy j (.inr (.inl e)))
   ·rcases hs j e with e|e
    ·exact .inl (hy j (.inr (.inr e)))
    ·exact .inr e
instance (c:Ce):Decidable (kX c):=by unfold kX;exact inferInstance
def ey(l:List En)(c:Ce):Int:=
 if bC (λe:En=>e.1==pos c) l<0 then -1 else if c.2.1<0 then 1 else ((l[(bC (λe:En=>e.1==pos c) l).toNat]?).map λe=>rG e.1 e.2.1 c).getD 0
def cj(l:List En)(c:Ce)(b:Int):List En × Int:=
 if bC (λe:En=>e.1==pos c) l<0 then (l,11) else if ¬kX c then (l,5) else if aY b=false then (l,1) else
  (l.eraseIdx (bC (λe:En=>e.1==pos c) l).toNat++((l[(bC (λe:En=>e.1==pos c) l).toNat]?).map λe=>(e.1,(fG e.1 e.2.1 c b).1,e.2.2.1||(rG e.1 e.2.1 c !=b),e.2.2.2)).toList,0)
def RX{w:World}{t st d:Nat}{r:Dm}{sl:Sl}{D:Dk}{ag limit:Int}{its:List It}(h:TO w t st d r sl D ag limit its)(c:Ce)(hc:mA c):
  ah 43 #[t,iS c] w λe w'=>e=Value.int .i64 (ey (gr its) c)/\Ext w w':=by
 apply zD.vc;intro w0 e0;have z0:=du e0;have x0:=bq e0;refine (mi c hc w0).mono ?_;rintro e w1 ⟨rfl,x1⟩;have oN:=x0.tr x1;have z1:=x1.size;refine ⟨_,_,rfl,x1.heap aa,(find_spec (h.ext oN) (pos c)).mono ?_⟩;rintro e w4 ⟨rfl,x4⟩;have z4:=x4.size;have Jl:=oN.tr x4;have PB:bC (λe:En=>e.1==pos c) (gr its)=bC (λi:It=>i.p==pos c) its:=jR It.ob _ its;refine ⟨_,rfl,x4.heap aa,?_⟩;rcases cc (λi:It=>i.p==pos c) its with ⟨hf,-⟩|⟨k,y,hk,hyp,hf,-⟩
 ·rw [hf];refine Br.mk (λ_=>⟨?_,Jl⟩) (λh=>by simp at h);unfold ey;rw [PB,hf,if_pos aE]
 ·rw [hf];refine Br.mk (λh=>by simp at h;omega) (λ_=>Br.mk (λhb=> ?_) (λhb=> ?_))
  ·replace hb:=fj hb;refine ⟨?_,Jl⟩;unfold ey;rw [PB,hf,if_neg aa,if_pos hb]
  ·replace hb:=fh hb;have hd:=(h.ext Jl).ext (Ext.dr w4);obtain ⟨a1,a2⟩:=hd.at hk;have IN:=hd.it y (bc hk);refine ⟨sl,hd.rt.at 3 rfl,a1,_,a2,yw (yw ⟨_,IN.r.at 0 rfl,(yz IN.k c hc).mono ?_⟩)⟩;rintro e w9 ⟨rfl,x9⟩;have h9:=hd.ext x9;obtain ⟨-,b2⟩:=h9.at hk;refine ⟨_,_,rfl,x9.heap (show w.heap.size<w4 by omega),lH b2,lH (h9.rt.at 3 rfl),?_,Jl.tr ((Ext.dr _).tr x9)⟩;unfold ey;rw [PB,hf,if_neg aa,if_neg hb,ju,aX,hk];rfl
def VL{p:Po}{C:List Int}{c:Ce}{b:Int}(hp:p=pos c)(hy:kX c)(hb:aY b=true):(fG p C c b).2=0:=by unfold fG;rw [if_neg (by rw [(eN p c).2 ⟨hy,hp.symm⟩];decide),if_neg (by rw [hb];decide)]
def Ot{w:World}{t st d:Nat}{r:Dm}{sl:Sl}{D:Dk}{ag limit:Int}{its:List It}(h:TO w t st d r sl D ag limit its)(c:Ce)(hc:mA c)(b:Int):
  ah 59 #[t,iS c,.int .i64 b] w λe w'=>e=Value.int .i64 (cj (gr its) c b).2/\zF w t st d r sl ag limit its (D,(cj (gr its) c b).1) w':=by
 apply xt.vc;intro w0 e0;have z0:=du e0;have x0:=bq e0;refine (mi c hc w0).mono ?_;rintro e w1 ⟨rfl,x1⟩;have oN:=x0.tr x1;have z1:=x1.size;refine ⟨_,_,rfl,x1.heap aa,(find_spec (h.ext oN) (pos c)).mono ?_⟩;rintro e w4 ⟨rfl,x4⟩;have z4:=x4.size;have Jl:=oN.tr x4;have PB:bC (λe:En=>e.1==pos c) (gr its)=bC (λi:It=>i.p==pos c) its:=jR It.ob _ its;refine ⟨_,rfl,x4.heap aa,(v8 c w4).mono ?_⟩;rintro e w6 ⟨⟨ix,iy,rfl,hiy⟩,x6⟩;have z6:=x6.size;have uF:=Jl.tr x6;have h6:=h.ext uF;refine ⟨_,_,rfl,x6.heap aa,?_⟩;have same:∀{w'},Ext w w'->zF w t st d r sl ag limit its (D,gr its) w':=λx=>⟨r,sl,its,h.ext x,rfl,aG.aM x⟩
 rcases cc (λi:It=>i.p==pos c) its with ⟨hf,-⟩|⟨k,y,hk,hyp,hf,-⟩
 ·rw [hf];refine Br.mk (λ_=> ?_) (λh=>by simp at h);have e:cj (gr its) c b=(gr its,11):=by unfold cj;rw [PB,hf,if_pos aE]
  rw [e];exact ⟨rfl,same uF⟩
 ·rw [hf];have hyc:y.p=pos c:=by simpa using hyp
  refine Br.mk (λh=>by simp at h;omega) (λ_=> ?_);rcases hiy with ⟨rfl,hY,-⟩|⟨rfl,hY,-⟩
  ·refine Ej rfl ((gK b w6).mono ?_);rintro e w9 ⟨rfl,x9⟩;have z9:=x9.size;have x09:=uF.tr x9;refine ⟨_,rfl,x9.heap aa,Br.mk (λhb=> ?_) (λhb=> ?_)⟩
   ·have hb':aY b=false:=by simpa using hb
    have e:cj (gr its) c b=(gr its,1):=by unfold cj;rw [PB,hf,if_neg aa,if_neg (by simpa using hY),if_pos hb']
    rw [e];exact ⟨rfl,same x09⟩
   ·have hb':aY b=true:=by simpa using hb
    have he:cj (gr its) c b=((gr its).eraseIdx k++ [(y.p,(fG y.p y.C c b).1,y.mn||(rG y.p y.C c !=b),y.pins)],0):=by unfold cj;rw [PB,hf,if_neg aa,if_neg (by simpa using hY),if_neg (by rw [hb'];decide),ju,aX,hk];rfl
    have h0:=VL (C:=y.C) hyc hY hb';rw [he];have h9:=h.ext x09;refine (zJ h9 hk).mono ?_;rintro e cH ⟨rfl,ai0,h11,t11⟩;have ai1:=(aG.aM x09).trans t11;have z11:=t11.mod.size;have bx:∀{F:Nat->Prop},(∀i,F i->fe t st d r sl its i)->¬F w:=λhF hf=>by have:=h.lt (hF _ hf);omega
    have hi':(its.eraseIdx k++ [y])[(its.eraseIdx k).length]? =some y:=by rw [mS (ax _),Nat.sub_self];rfl
    have hd:=h11.ext (Ext.dr cH);have hyd:=hd.it y (bc hi');have hxw:y.x<w:=(h.it y (bc hk)).r.lt;have hgw:y.g<w:=(h.it y (bc hk)).k.row.lt;refine ⟨_,rfl,t11.mod.same _ aa (bx λi hi=>hi),yw (yw ⟨_,hyd.r.at 0 rfl,(yz hyd.k c hc).mono ?_⟩)⟩;rintro e cm ⟨rfl,cl⟩;have Uc:Ext cH cm:=(Ext.dr _).tr cl;have Wx:=Uc.size;have XY:=h11.ext Uc;have ui:=XY.it y (bc hi');have pt:∀v:Bool,_:=λv=>ui.r.kE (j:=1) (v:=.bool v) cy rfl
    refine ⟨_,_,rfl,cl.heap (show w.heap.size<cH by omega),yw (yw ⟨_,ui.r.at 1 rfl,Br.mk (λhb=>yw (yw ⟨⟨rfl,(pt true).1⟩,λe=> ?_,λdJ Jg=>yw (yw ?_)⟩)) (λhb=>yw (yw ⟨⟨rfl,(pt true).1⟩,λe=> ?_,λdJ Jg=>yw (yw ?_)⟩))⟩)⟩
    case refine_1|refine_3=>
     rw [da] at e;have:y.x=w.heap.size:=by simpa [cQ] using e
     omega
    all_goals
     obtain ⟨q1,q2⟩:=(pt _).2 dJ Jg
     have z18:=q2.size
     have W7:BH dJ y.g y.s y.p y.C:=ui.k.bP q2 (λe=>ui.k.row.ne ui.r aE e) (λb hb=>by obtain ⟨cs',hr'⟩:=aN ui.k.own aE hb;exact hr'.ne ui.r aE)
     refine ⟨_,(q1.ext (Ext.dr _)).at 0 rfl,(RZ (W7.ext (Ext.dr dJ)) c hc b).mono ?_⟩;rintro e eC ⟨rfl,s',ai2,m20,b20⟩;have q1d:=q1.ext (Ext.dr dJ);refine ⟨_,rfl,m20.same _ (show w.heap.size<dJ by omega) (λe=>by omega),congrArg _ (congrArg _ h0),?_⟩;have hm:Mod (λj=>j=y.x\/j=y.g) cm eC:=((q2.mono λi _ hi=> .inl hi).trans (Mod.aM (Ext.dr _))).trans (m20.mono λi _ hi=> .inr hi);have ai4:qB eC ⟨y.x,y.g,s',y.p,(fG y.p y.C c b).1,y.mn||(rG y.p y.C c !=b),y.pins⟩:=by refine ⟨?_,ai2⟩;have:=m20.row q1d (λe=>q1d.ne (W7.ext (Ext.dr dJ)).row aE e);rw [hb];exact this
     have h20:=XY.agV hi' (y':=⟨y.x,y.g,s',y.p,(fG y.p y.C c b).1,y.mn||(rG y.p y.C c !=b),y.pins⟩) rfl rfl hm ai4;refine ⟨r,ai0,_,h20,?_,ai1.trans ⟨(Mod.aM Uc).trans (hm.mono λi _ hi=> ?_),λj hj=> ?_⟩⟩
     ·unfold gr;rw [List.set_append_right _ _ (ax _),Nat.sub_self,aT];have:=qm its k;unfold gr at this;rw [this];rfl
     ·exact .inr (.inr (.inr (.inr (.inr ⟨y,bc hi',hi.elim .inl λe=> .inr (.inl e)⟩))))
     ·exact Oq (y':=⟨y.x,y.g,s',y.p,(fG y.p y.C c b).1,y.mn||(rG y.p y.C c !=b),y.pins⟩) hi' rfl rfl (λb hb=>(b20 b hb).imp id λe=>fy (fy Wx z18) e) j hj
  ·have e:cj (gr its) c b=(gr its,5):=by unfold cj;rw [PB,hf,if_neg aa,if_pos hY]
   refine yes rfl ?_;rw [e];exact ⟨rfl,same uF⟩
end Go.Proofs.YtalpkjfpmdpbiaaGreatDoor
namespace Go.Proofs.YtalpkjfpmdpbiaaGreatDoor
open Go Go.Vc Go.RowKit Go.Proofs Go.dQ Go.bf Go.Code
def wg(l:List En):Prop:=∀e ∈ l,e.2.1.length=8192/\∀b ∈ e.2.1,aY b=true
def Ph{c d:Ce}(hc:kX c)(hd:kX d)(hp:pos c=pos d)(hi:(idx c).toNat=(idx d).toNat):c=d:=by
 have h1:=nP hc;have h2:=nP hd;have hi':idx c=idx d:=by omega
 obtain ⟨a,b,e⟩:=c;obtain ⟨a',b',e'⟩:=d;unfold idx at hi';unfold pos at hp;simp only [Prod.mk.injEq] at hp ⊢;simp only at hi';omega
def oH(l:List En)(p:Po):Prop:=∃e ∈ l,e.1=p
def je(l:List En):Prop:=(l.map (·.1)).Nodup
def EV{l:List En}{c:Ce}(h:¬oH l (pos c)):ey l c= -1:=by
 unfold ey;rw [iW λy hy=> ?_,if_pos aE]
 cases hb:(y.1==pos c) with
 |false=>rfl
 |true=>exact absurd ⟨y,hy,by simpa using hb⟩ h
def AO{l:List En}(hn:je l){e:En}(he:e ∈ l):∃k:Nat,l[k]? =some e/\bC (λx:En=>x.1==e.1) l=k:=by
 obtain ⟨k,hk⟩:=mO he;refine ⟨k,hk,mW hk cy λj hj y hy=> ?_⟩
 cases hb:(y.1==e.1) with
 |false=>rfl
 |true=>
  have h1:(l.map (·.1))[k]? =some e.1:=by rw [aX,hk];rfl
  have h2:(l.map (·.1))[j]? =some e.1:=by rw [aX,hy];simpa using hb
  have q9:=(bF.1 h1).1;have:=(List.getElem?_inj (show j<_ by omega) hn).1 (h2.trans h1.symm);omega
def qu{l:List En}(hn:je l){e:En}(he:e ∈ l){c:Ce}(hp:e.1=pos c):ey l c=if c.2.1<0 then 1 else rG e.1 e.2.1 c:=by obtain ⟨k,hk,hf⟩:=AO hn he;unfold ey;rw [<-hp,hf,if_neg aa,ju,hk];rfl
def Tt{p:Po}{C:List Int}(hl:C.length=8192){c:Ce}(hy:kX c)(hp:p=pos c){b:Int}(hb:aY b=true)(c':Ce)(hp':p=pos c'):rG p (fG p C c b).1 c'=if c'=c then b else rG p C c':=by
 have e:(fG p C c b).1=C.set (idx c).toNat b:=by unfold fG;rw [if_neg (by rw [(eN p c).2 ⟨hy,hp.symm⟩];decide),if_neg (by rw [hb];decide)]
 rw [e];have hi:=nP hy;by_cases Vj:c'=c
 ·subst Vj;rw [if_pos rfl];have hk:pC p c'=true:=(eN p c').2 ⟨hy,hp'.symm⟩;unfold rG;rw [hk,if_pos rfl];unfold NV;rw [if_neg aa,cZ,ij,if_pos rfl,if_pos aa];rfl
 ·rw [if_neg Vj];by_cases hy':kX c'
  ·have hk:pC p c'=true:=(eN p c').2 ⟨hy',hp'.symm⟩;have hi':=nP hy';have h0:¬idx c'<0:=by omega
   unfold rG;rw [hk,if_pos rfl,if_pos rfl];unfold NV;rw [if_neg h0,if_neg h0,cZ,cZ,ij,if_neg (λh=>Vj (Ph hy hy' (hp.symm.trans hp') h).symm)]
  ·have hk:pC p c'=false:=by
    cases h:pC p c' with
    |false=>rfl
    |true=>exact absurd ((eN p c').1 h).1 hy'
   unfold rG;rw [hk,if_neg aE,if_neg aE]
def Hj{l:List En}(hn:je l)(hg:wg l){c:Ce}(hh:oH l (pos c))(hy:kX c){b:Int}(hb:aY b=true):
  (cj l c b).2=0/\je (cj l c b).1/\(∀p,oH (cj l c b).1 p ↔ oH l p)/\∀c',ey (cj l c b).1 c'=if c'=c then b else ey l c':=by
 obtain ⟨e,he,hp⟩:=hh;obtain ⟨k,hk,hf⟩:=AO hn he;have hs:cj l c b=(l.eraseIdx k++ [(e.1,(fG e.1 e.2.1 c b).1,e.2.2.1||(rG e.1 e.2.1 c !=b),e.2.2.2)],0):=by unfold cj;rw [<-hp,hf,if_neg aa,if_neg (by simpa using hy),if_neg (by rw [hb];decide),ju,hk];rfl
 generalize hd:(e.2.2.1||(rG e.1 e.2.1 c !=b))=d at hs;obtain ⟨A,B,Fe,hkA⟩:∃A B,l=A++e::B/\k=A.length:=by obtain ⟨q9,he⟩:=bF.1 hk;exact ⟨l.take k,l.drop (k+1),by rw [<-he,<-kT q9,kf],by rw [bG];omega⟩
 subst hkA;rw [Fe,List.eraseIdx_append_of_length_le (ax _),Nat.sub_self] at hs;have du:cj l c b=(A++B++ [(e.1,(fG e.1 e.2.1 c b).1,d,e.2.2.2)],0):=by rw [Fe];exact hs
 rw [du];have uA:∀x,x ∈ l ↔ x ∈ A++B\/x=e:=λx=>by
  rw [Fe];simp only [ct,bI];constructor
  ·rintro (h|h|h)
   ·exact .inl (.inl h)
   ·exact .inr h
   ·exact .inl (.inr h)
  ·rintro ((h|h)|h)
   ·exact .inl h
   ·exact .inr (.inr h)
   ·exact .inr (.inl h)
 have hn':je (A++B++ [(e.1,(fG e.1 e.2.1 c b).1,d,e.2.2.2)]):=by
  have II:je (A++e::B):=by rw [<-Fe];exact hn
  unfold je at II ⊢;rw [aT,dE] at II;obtain ⟨n1,n2,n3⟩:=mq.1 II;obtain ⟨n4,n5⟩:=lF.1 n2;rw [aT,aT];refine mq.2 ⟨mq.2 ⟨n1,n5,λa ha b hb=>n3 a ha b (.tail _ hb)⟩,by simp,λa ha b hb=> ?_⟩;simp only [dE,List.map_nil,fH] at hb;subst hb;rcases ct.1 ha with ha|ha
  ·exact n3 a ha _ (.head _)
  ·exact λh=>n4 (h▸ha)
 have B1:∀x ∈ A++B,x.1≠e.1:=λx hx h=>by
  have II:je (A++e::B):=by rw [<-Fe];exact hn
  unfold je at II;rw [aT,dE] at II;obtain ⟨n1,n2,n3⟩:=mq.1 II;obtain ⟨n4,n5⟩:=lF.1 n2;rcases ct.1 hx with hx|hx
  ·exact n3 _ (aR.2 ⟨x,hx,rfl⟩) _ (.head _) h
  ·exact n4 (by rw [<-h];exact aR.2 ⟨x,hx,rfl⟩)
 refine ⟨rfl,hn',λp=>⟨?_,?_⟩,λc'=> ?_⟩
 ·rintro ⟨x,hx,M9⟩;rcases ct.1 hx with hx|hx
  ·exact ⟨x,(uA x).2 (.inl hx),M9⟩
  ·simp only [fH] at hx;subst hx;exact ⟨e,he,M9⟩
 ·rintro ⟨x,hx,M9⟩;rcases (uA x).1 hx with hx|hx
  ·exact ⟨x,Ab _ hx,M9⟩
  ·subst hx;exact ⟨_,Hr _ (.head _),M9⟩
 ·show ey (A++B++ [(e.1,(fG e.1 e.2.1 c b).1,d,e.2.2.2)]) c'=_;by_cases hpc:e.1=pos c'
  ·rw [qu hn' (Hr _ (.head _)) (e:=(e.1,(fG e.1 e.2.1 c b).1,d,e.2.2.2)) hpc,qu hn he hpc];show (if c'.2.1<0 then 1 else rG e.1 (fG e.1 e.2.1 c b).1 c')=_;rw [Tt (hg e he).1 hy hp hb c' hpc];by_cases Vj:c'=c
   ·subst Vj;rw [if_pos rfl,if_pos rfl,if_neg (by unfold kX at hy;omega)]
   ·rw [if_neg Vj,if_neg Vj]
  ·have Vj:c'≠c:=λh=>hpc (by rw [h];exact hp)
   rw [if_neg Vj];by_cases hx:∃x ∈ A++B,x.1=pos c'
   ·obtain ⟨x,hx,M9⟩:=hx;rw [qu hn' (Ab _ hx) M9,qu hn ((uA x).2 (.inl hx)) M9]
   ·rw [EV,EV]
    ·rintro ⟨x,hx2,M9⟩;rcases (uA x).1 hx2 with h|h
     ·exact hx ⟨x,h,M9⟩
     ·subst h;exact hpc M9
    ·rintro ⟨x,hx2,M9⟩;rcases ct.1 hx2 with h|h
     ·exact hx ⟨x,h,M9⟩
     ·simp only [fH] at h;subst h;exact hpc M9
def Wg{l:List En}{c:Ce}{b:Int}(h:¬(oH l (pos c)/\kX c/\aY b=true)):(cj l c b).1=l/\(cj l c b).2≠0:=by
 unfold cj;rcases cc (λe:En=>e.1==pos c) l with ⟨hf,-⟩|⟨k,e,hk,hek,hf,-⟩
 ·rw [hf,if_pos aE];exact ⟨rfl,by simp⟩
 ·rw [hf,if_neg aa];have hh:oH l (pos c):=⟨e,bc hk,by simpa using hek⟩;by_cases hy:kX c
  ·rw [if_neg (by simpa using hy)];have hb:aY b=false:=by
    cases hb:aY b with
    |false=>rfl
    |true=>exact absurd ⟨hh,hy,hb⟩ h
   rw [if_pos hb];exact ⟨rfl,by simp⟩
  ·rw [if_pos hy];exact ⟨rfl,by simp⟩
def TF(F:Nat->Prop)(w:World)(t:Nat)(ag limit:Int)(T:Tb):Prop:=
 ∃st d r sl its,TO w t st d r sl T.1 ag limit its/\gr its=T.2/\F=fe t st d r sl its
def TF.lt{F:Nat->Prop}{w:World}{t:Nat}{ag limit:Int}{T:Tb}(h:TF F w t ag limit T){i:Nat}(hi:F i):i<w:=by obtain ⟨st,d,r,sl,its,h1,h2,rfl⟩:=h;exact h1.lt hi
def TF.same{F:Nat->Prop}{w w':World}{t:Nat}{ag limit:Int}{T:Tb}(h:TF F w t ag limit T)(hs:∀i,F i->w'.heap[i]? =w.heap[i]?):TF F w' t ag limit T:=by obtain ⟨st,d,r,sl,its,h1,h2,rfl⟩:=h;exact ⟨st,d,r,sl,its,h1.same hs,h2,rfl⟩
def TF.ext{F:Nat->Prop}{w w':World}{t:Nat}{ag limit:Int}{T:Tb}(h:TF F w t ag limit T)(x:Ext w w'):TF F w' t ag limit T:=h.same λ_ hi=>x.heap (h.lt hi)
def TF.bP{F G:Nat->Prop}{w w':World}{t:Nat}{ag limit:Int}{T:Tb}(h:TF F w t ag limit T)(hm:Mod G w w')(hn:∀i,F i->¬G i):TF F w' t ag limit T:=h.same λi hi=>hm.same i (h.lt hi) (hn i hi)
abbrev uK(τ:TypeId):Prop:=τ≠vi/\τ≠vh/\τ≠pA/\τ≠Rk/\τ≠bS/\τ≠rL/\τ≠eW/\τ≠tW/\τ≠fb
def TF.cX{F:Nat->Prop}{w:World}{t:Nat}{ag limit:Int}{T:Tb}(h:TF F w t ag limit T){j:Nat}{cs:LV}{τ:TypeId}(hr:Row w j cs τ)(hτ:uK τ):¬F j:=by obtain ⟨st,d,r,sl,its,h1,h2,rfl⟩:=h;exact h1.cX hr hτ
def TF.len{F:Nat->Prop}{w:World}{t:Nat}{ag limit:Int}{T:Tb}(h:TF F w t ag limit T):(T.2.length:Int)<=limit/\1<=limit/\limit<=16:=by obtain ⟨st,d,r,sl,its,h1,e,rfl⟩:=h;have:=h1.len;have:=h1.QR;rw [<-e];unfold gr;rw [aB];omega
def TF.ok{F:Nat->Prop}{w:World}{t:Nat}{ag limit:Int}{T:Tb}(h:TF F w t ag limit T):iq T.1:=by obtain ⟨st,d,r,sl,its,h1,e,rfl⟩:=h;exact h1.so.dk.ok
def TF.ag3{F:Nat->Prop}{w:World}{t:Nat}{ag limit:Int}{T:Tb}(h:TF F w t ag limit T):wg T.2:=by obtain ⟨st,d,r,sl,its,h1,e,rfl⟩:=h;rw [<-e];intro e he;obtain ⟨y,hy,rfl⟩:=aR.1 he;exact ⟨(h1.it y hy).k.len,(h1.it y hy).k.may⟩
abbrev QC(F:Nat->Prop)(w:World)(t:Nat)(ag limit:Int)(T:Tb)(w':World):Prop:=∃F',TF F' w' t ag limit T/\aG F F' w w'
def Tu{w w':World}{t st d:Nat}{r:Dm}{sl:Sl}{ag limit:Int}{its:List It}{T:Tb}(hl:zF w t st d r sl ag limit its T w'):QC (fe t st d r sl its) w t ag limit T w':=by obtain ⟨r',sl',its',h',ho,ht⟩:=hl;exact ⟨_,⟨st,d,r',sl',its',h',ho,rfl⟩,ht⟩
def JE(ag limit room:Int)(w:World):ah 67 #[ag,limit,room] w λe w'=>∃t F,e=Value.pointer (bu t)/\TF F w' t ag (min (max limit 1) 16) (jN room,[])/\Ext w w'/\∀i,F i->w.heap.size<=i:=by refine (Pc ag limit room w).mono ?_;rintro e w' ⟨t,st,d,r,rfl,h,x,hf⟩;exact ⟨t,_,rfl,⟨st,d,r,_,[],h,rfl,rfl⟩,x,hf⟩
section
variable {F:Nat->Prop} {w:World} {t:Nat} {ag limit:Int} {T:Tb}
def Hp(h:TF F w t ag limit T)(hW:T.1.l.length<=1000000)(p:Po):
  ah 38 #[t,pv p] w λe w'=>e=Value.int .i64 (oD ag limit T.1 T.2 p).2/\QC F w t ag limit (oD ag limit T.1 T.2 p).1 w':=by
 obtain ⟨st,d,r,sl,its,h1,e,rfl⟩:=h;rw [<-e];refine (NX h1 hW p).mono ?_;rintro e w' ⟨rfl,hl⟩;exact ⟨rfl,Tu hl⟩
def BO(h:TF F w t ag limit T)(hW:T.1.l.length<=1000000)(p:Po):
  ah 65 #[t,pv p] w λe w'=>e=Value.int .i64 (fI T.1 T.2 p).2/\QC F w t ag limit (fI T.1 T.2 p).1 w':=by
 obtain ⟨st,d,r,sl,its,h1,e,rfl⟩:=h;rw [<-e];refine (Hl h1 hW p).mono ?_;rintro e w' ⟨rfl,hl⟩;exact ⟨rfl,Tu hl⟩
def Cy(h:TF F w t ag limit T)(c:Ce)(hc:mA c):
  ah 43 #[t,iS c] w λe w'=>e=Value.int .i64 (ey T.2 c)/\Ext w w':=by
 obtain ⟨st,d,r,sl,its,h1,e,rfl⟩:=h;rw [<-e];exact RX h1 c hc
def JF(h:TF F w t ag limit T)(c:Ce)(hc:mA c)(b:Int):
  ah 59 #[t,iS c,b] w λe w'=>e=Value.int .i64 (cj T.2 c b).2/\QC F w t ag limit (T.1,(cj T.2 c b).1) w':=by
 obtain ⟨st,d,r,sl,its,h1,e,rfl⟩:=h;rw [<-e];refine (Ot h1 c hc b).mono ?_;rintro e w' ⟨rfl,hl⟩;exact ⟨rfl,Tu hl⟩
end
end Go.Proofs.YtalpkjfpmdpbiaaGreatDoor
