import Derived.Test.YtkkkfkopcfdmaaaGreatDoorJ
import Derived.Test.YtkkkfkopcfdmaaaGreatDoorH
import Derived.Test.YtkkkfkopcfdmaaaGreatDoorC
import Derived.Test.YtkkkfkopcfdmaaaGreatDoorD
set_option linter.all false
namespace Go.Proofs.YtkkkfkopcfdmaaaGreatDoor
open Go Go.Vc Go.RowKit Go.Proofs Go.cg Go.aR Go.Code Go.ej Go.dR Go.gF
set_option maxRecDepth 100000
set_option maxHeartbeats 8000000
def vV(n:Int):Int:=min (max n (-2147483648)) 2147483648
def VG(n:Int):(if 2147483648<(if (-2147483648)>n then (-2147483648) else n) then 2147483648 else (if (-2147483648)>n then (-2147483648) else n))=vV n:=by
 unfold vV
 repeat' split
 all_goals omega
def IA{n:Int}(h: -2147483648<=n/\n<=2147483648):vV n=n:=by unfold vV;omega
def IB(c:Ce)(w:World):ae 160 #[eg c] w λe w'=>e=(eg (vV c.1,vV c.2.1,vV c.2.2))/\Ext w w':=by apply aaO.vc;intro w0 e0 w1 e1 w2 e2;rw [VG,VG,VG] at*;have x0:=aQ e0;have z0:=zA e0;have x1:=aQ e1;exact ⟨rfl,(x0.tr x1).ab e2 aa⟩
def R6{c:Ce}(h:(-2147483648<=c.1/\c.1<=2147483648)/\(-2147483648<=c.2.1/\c.2.1<=2147483648)/\-2147483648<=c.2.2/\c.2.2<=2147483648)(w:World):ae 160 #[eg c] w λe w'=>e=(eg c)/\Ext w w':=by have:=IB c w;rw [IA h.1,IA h.2.1,IA h.2.2] at this;exact this
def VH(c:Ce)(w:World):ae 126 #[eg c] w λe w'=>e=(td (ub c))/\Ext w w':=by
 apply aaP.vc;intro w0 e0 w1 e1;have x0:=aQ e0;have z0:=zA e0;have x1:=aQ e1;have z1:=zA e1;refine (IB c w1).mono ?_;rintro e w2 ⟨rfl,x2⟩;have z2:=x2.size;refine ⟨_,_,_,rfl,x2.heap aa,x2.heap aa,λw6 e6 w7 e7 w8 e8 w9 e9=> ?_⟩;have x7:Ext w2 w7:=(aQ e6).ab e7 (ak _);have z7:w7.heap.size=w2.heap.size+1:=by rw [zR e7,zA e6]
 have hb:∀n,-2147483648<=vV n/\vV n<=2147483648:=λn=>by unfold vV;omega
 have hof:∀n,aw (vV n*65536)=nO n:=λn=>by have:=hb n;rw [wI];rfl
 have x9:Ext w7 w9.drew:=((aQ e8).ab e9 (ak _)).drew;have z9:w9.drew.heap.size=w7.heap.size+1:=by show w9.heap.size=_;rw [zR e9,zA e8]
 rw [hof,hof,hof] at e9 ⊢;have r9:∃τ,Row w9.drew w7 (dZ (nO c.1,nO c.2.1,nO c.2.2)) τ:=⟨_,by rw [e9,e8];exact (Row.set (Row.new w7 [_,_,_] _) [_,_,_]).ext (Ext.dr _)⟩;obtain ⟨τ,r9⟩:=r9;refine (LA (nO c.1,nO c.2.1,nO c.2.2) (65536,65536,65536) w9.drew).mono ?_;rintro e bo ⟨rfl,bE⟩;have XB:=bE.size;exact ⟨_,_,_,rfl,bE.heap aa,bE.heap aa,bE.heap aa,bE.heap aa,Lo.wv (r9.ext bE),λbH uU=>⟨rfl,(x0.tr (x1.tr (x2.tr (x7.tr (x9.tr bE))))).ab uU aa⟩⟩
def IC(m:Int):Prop:= -2000000000<=m/\m<=2000000000
def JZ(c:Ce)(k:Nat):LV:=((List.range 6).map λj=>if j<k then dZ ((rG c).getD j (0,0,0)) else dZ (0,0,0)).flatten
def Uq(c:Ce)(hc:fm c)(w:World):ae 112 #[eg c] w λe w'=>e=Value.agg (ET c).toArray/\Ext w w':=by
 apply VF.vc;intro w0 e0 w1 e1 w2 e2;have x0:=aQ e0;have z0:=zA e0;have x1:=aQ e1;have z1:=zA e1;have r1:∃τ,Row w1 w0 (JZ c 0) τ:=⟨_,by rw [e1];exact Row.new w0 (JZ c 0) _⟩;have x2:=aQ e2;have z2:=zA e2;have r2:∃τ,Row w2 w1 (JZ c 0) τ:=⟨_,by rw [e2];exact Row.new w1 (JZ c 0) _⟩;obtain ⟨τ,r1⟩:=r1;obtain ⟨τ',r2⟩:=r2;have hw:=hc;unfold fm at hw;refine ⟨λn x wr=>∃k:Nat,x=k/\k+n=6/\Row wr w1 (JZ c k) τ'/\Row wr w0 (JZ c 0) τ/\Ext w wr/\w2.heap.size<=wr,⟨6,rfl,0,rfl,rfl,r2,r1.ext x2,x0.tr (x1.tr x2),ak _⟩,?_⟩;rintro n us x w7 ⟨k,rfl,hk,rk,rz,x7,z7⟩;apply Br.mk<;>intro hq
 ·have hq:=cS hq;refine (R6 (c:=c) aa w7).mono ?_;rintro e w9 ⟨rfl,x9⟩;have z9:=x9.size;refine ⟨_,_,_,rfl,x9.heap aa,λbP Fj bH uU=> ?_⟩;have cB:Ext w9 bH:=(aQ Fj).ab uU (ak _);have z14:bH.heap.size=w9.heap.size+1:=by rw [zR uU,zA Fj]
  have last:∀{u:World} (d:Ce),d=(rG c).getD k (0,0,0)->((-2147483648<=d.1/\d.1<=2147483648)/\(-2147483648<=d.2.1/\d.2.1<=2147483648)/\-2147483648<=d.2.2/\d.2.2<=2147483648)->Ext w9 u->w9.heap.size+1=u.heap.size->
    ae 160 #[eg d] u λe v=>∃a b f:Int,e=Value.agg #[a,b,f]/\v.heap[w.heap.size]? =u.heap[w.heap.size]?/\v.heap[w9.heap.size]? =u.heap[w9.heap.size]?/\
     (0:Int)<=(k:Int)/\(k:Int)<((6:Nat):Int)/\(true=true/\Wr v (af (aD w1.heap.size) ((k:Int).toNat*3)) 3)/\bk (af (aD w1.heap.size) ((k:Int).toNat*3))≠some w.heap.size/\bk (af (aD w1.heap.size) ((k:Int).toNat*3))≠some w9.heap.size/\
     ∀fy:World,fy=Vc.bF v (af (aD w1.heap.size) ((k:Int).toNat*3)) [a,b,f]->∃n8,n8<n/\aN [c.1,c.2.1,c.2.2]/\
      ∃k':Nat,aw ((k:Int)+1)=k'/\k'+n8=6/\Row fy w1 (JZ c k') τ'/\Row fy w0 (JZ c 0) τ/\Ext w fy/\w2.heap.size<=fy:=by
   intro u d hd hdb xu zu;refine (R6 hdb u).mono ?_;rintro e v ⟨rfl,xv⟩;have zv:=xv.size;have rv:=rk.ext (x9.tr (xu.tr xv));rw [dQ];obtain ⟨p1,p2⟩:=nM rv (off:=k*3) (vs:=dZ d) (by
    have:k=0\/k=1\/k=2\/k=3\/k=4\/k=5:=by omega
    rcases this with rfl|rfl|rfl|rfl|rfl|rfl<;>(show _+3<=18;decide)) (C6 d)
   have hpb:bk (af (aD w1.heap.size) (k*3))=some w1.heap.size:=by rw [aV];rfl
   refine ⟨_,_,_,rfl,xv.heap aa,xv.heap aa,aa,aa,⟨rfl,p1⟩,by rw [hpb];intro q;injection q with q;omega,by rw [hpb];intro q;injection q with q;omega,λfy e27=> ?_⟩;obtain ⟨q1,q2⟩:=p2 fy e27;have zq:=q2.size;refine ⟨n-1,aa,rfl,k+1,by rw [wI];omega,aa,?_,(rz.ext (x9.tr (xu.tr xv))).same (q2.same _ aa aa),q2.ext (x7.tr (x9.tr (xu.tr xv))) (λi hi=>by omega),aa⟩;have:aP (JZ c k) (k*3) (dZ d)=JZ c (k+1):=by
    rw [hd];have:k=0\/k=1\/k=2\/k=3\/k=4\/k=5:=by omega
    rcases this with rfl|rfl|rfl|rfl|rfl|rfl<;>rfl
   rw [<-this];exact q1
  have m1:∀m:Int,IC m->aw (m+(-1))=m-1:=λm hm=>by rw [aK (by unfold IC at hm;unfold dJ;omega)];omega
  have p1:∀m:Int,IC m->aw (m+1)=m+1:=λm hm=>by rw [aK (by unfold IC at hm;unfold dJ;omega)]
  have hx:IC c.1:=hc.1;have hy:IC c.2.1:=hc.2.1;have hz:IC c.2.2:=hc.2.2;have by0:aw (aw (2*Int.tmod 0 2)-1)= -1:=by decide
  have by1:aw (aw (2*Int.tmod 1 2)-1)=1:=by decide
  have hk6:k=0\/k=1\/k=2\/k=3\/k=4\/k=5:=by omega
  rcases hk6 with rfl|rfl|rfl|rfl|rfl|rfl
  ·refine yes aA λee qu=>gd aA (gd aA ?_)
   have hb:aw (c.1+aw (aw (2*Int.tmod ((0:Nat):Int) 2)-1))=c.1-1:=by rw [show aw (aw (2*Int.tmod ((0:Nat):Int) 2)-1)= -1 from by decide];exact m1 _ hx
   rw [hb] at qu ⊢;exact last (c.1-1,c.2.1,c.2.2) rfl (by simp only;omega) (cB.ab qu (ak _)) (by rw [zR qu];omega)
  ·refine yes aA λee qu=>gd aA (gd aA ?_)
   have hb:aw (c.1+aw (aw (2*Int.tmod ((1:Nat):Int) 2)-1))=c.1+1:=by rw [show aw (aw (2*Int.tmod ((1:Nat):Int) 2)-1)=1 from by decide];exact p1 _ hx
   rw [hb] at qu ⊢;exact last (c.1+1,c.2.1,c.2.2) rfl (by simp only;omega) (cB.ab qu (ak _)) (by rw [zR qu];omega)
  ·refine gd aA (yes aA λee qu=>gd aA ?_);have hb:aw (c.2.1+aw (aw (2*Int.tmod ((2:Nat):Int) 2)-1))=c.2.1-1:=by rw [show aw (aw (2*Int.tmod ((2:Nat):Int) 2)-1)= -1 from by decide];exact m1 _ hy
   rw [hb] at qu ⊢;exact last (c.1,c.2.1-1,c.2.2) rfl (by simp only;omega) (cB.ab qu (ak _)) (by rw [zR qu];omega)
  ·refine gd aA (yes aA λee qu=>gd aA ?_);have hb:aw (c.2.1+aw (aw (2*Int.tmod ((3:Nat):Int) 2)-1))=c.2.1+1:=by rw [show aw (aw (2*Int.tmod ((3:Nat):Int) 2)-1)=1 from by decide];exact p1 _ hy
   rw [hb] at qu ⊢;exact last (c.1,c.2.1+1,c.2.2) rfl (by simp only;omega) (cB.ab qu (ak _)) (by rw [zR qu];omega)
  ·refine gd aA (gd aA (yes aA λee qu=> ?_));have hb:aw (c.2.2+aw (aw (2*Int.tmod ((4:Nat):Int) 2)-1))=c.2.2-1:=by rw [show aw (aw (2*Int.tmod ((4:Nat):Int) 2)-1)= -1 from by decide];exact m1 _ hz
   rw [hb] at qu ⊢;exact last (c.1,c.2.1,c.2.2-1) rfl (by simp only;omega) (cB.ab qu (ak _)) (by rw [zR qu];omega)
  ·refine gd aA (gd aA (yes aA λee qu=> ?_));have hb:aw (c.2.2+aw (aw (2*Int.tmod ((5:Nat):Int) 2)-1))=c.2.2+1:=by rw [show aw (aw (2*Int.tmod ((5:Nat):Int) 2)-1)=1 from by decide];exact p1 _ hz
   rw [hb] at qu ⊢;exact last (c.1,c.2.1,c.2.2+1) rfl (by simp only;omega) (cB.ab qu (ak _)) (by rw [zR qu];omega)
 ·have hq:=cS hq;have:k=6:=by omega
  subst this;have rk:Row w7 w1 (ET c) τ':=rk;have xg:One (ET c):=Hk c;obtain ⟨p1,p2⟩:=nM rz (off:=0) (vs:=ET c) (by show 0+18<=18;decide) xg;refine ⟨_,_,_,_,_,_,_,_,_,_,_,_,_,_,_,_,_,_,Lo.wv rk,⟨rfl,p1⟩,?_,λxX e80=> ?_⟩
  ·intro q;have q:some w0.heap.size=some w.heap.size:=q;injection q with q;omega
  obtain ⟨q1,q2⟩:=p2 xX e80;have q1:Row xX w0 (ET c) τ:=q1;exact ⟨_,_,_,_,_,_,_,_,_,_,_,_,_,_,_,_,_,_,Lo.wv q1,rfl,q2.ext x7 λi hi=>by omega⟩
abbrev iz:=Bool × cM
abbrev lv(r:iz):LV:=[.bool r.1,.int .i64 r.2.1.aq.1,.int .i64 r.2.1.aq.2.1,.int .i64 r.2.1.aq.2.2,.int .i64 r.2.1.speed.1,.int .i64 r.2.1.speed.2.1,.int .i64 r.2.1.speed.2.2,.int .i64 r.2.1.wd,.int .i64 r.2.1.ht,.bool r.2.1.fG,.int .i64 r.2.2.1,.int .i64 r.2.2.2.1,.bool r.2.2.2.2]
def aj(r:iz):Option cM:=if r.1 then some r.2 else none
def MF(F:Nat->Prop)(w:World)(m s o t:Nat)(M:Sm)(occ:Value)(rows:List iz):Prop:=
 ∃(Fs:Nat->Prop)(b:Nat),Row w m [o,s,.slice (aD b) 16 16] vk/\SF Fs w s o t M occ/\Row w b (rows.map lv).flatten DD/\rows.length=16/\F=λi=>i=m\/i=b\/Fs i
abbrev mi(F:Nat->Prop)(w:World)(m s o t:Nat)(M:Sm)(occ:Value)(rows:List iz)(w':World):Prop:=∃F',MF F' w' m s o t M occ rows/\aJ F F' w w'
def lo1{w:World}{p:Option Addr}{v:Value}(h:Vc.ld w p=some v):ah w p 0 [v]:=nX λj hj=>by
 have:j=0:=by simpa using hj
 subst this;have e:af p (0+0)=p:=by
  cases p with
  |none=>rfl
  |some a=>obtain ⟨b,o,k⟩:=a;cases k<;>simp [af,Addr.add]
 rw [e];exact h
def oO:(Gq vk/\vk≠sW/\vk≠lI/\vk≠Ck/\vk≠Q.kL/\vk≠Q.cF/\vk≠rF)/\(Gq DD/\DD≠sW/\DD≠lI/\DD≠Ck/\DD≠Q.kL/\DD≠Q.cF/\DD≠rF)/\vk≠DD:=by decide
def ali(r:iz):One (lv r):=by intro u hu;simp at hu;rcases hu with rfl|rfl|rfl|rfl|rfl|rfl|rfl|rfl|rfl|rfl|rfl|rfl|rfl<;>rfl
def ye{w:World}{b:Nat}{rows:List iz}(hr:Row w b (rows.map lv).flatten DD)(hn:rows.length=16):RdK w ⟨aD b,16,16⟩ 13 (rows.map lv):=by
 have hl:(rows.map lv).flatten.length=16*13:=by
  have:=bA (k:=13) (rows:=rows.map lv) λr hr=>by obtain ⟨x,-,rfl⟩:=aU.1 hr;rfl
  rw [this,aL,hn]
 exact (ar.jA (B:=0) (k:=13) (n:=16) (c:=16) (gV _) hr aa (ak _) (by rw [fl aa]) λr hr=>by obtain ⟨x,-,rfl⟩:=aU.1 hr;rfl).rd aA
section
variable {F F':Nat->Prop} {w w':World} {m s o t:Nat} {M M':Sm} {occ:Value} {rows:List iz}
def MF.lt(h:MF F w m s o t M occ rows){i:Nat}(hi:F i):i<w:=by
 obtain ⟨Fs,b,h1,h2,h3,-,rfl⟩:=h;rcases hi with rfl|rfl|hi
 ·exact h1.lt
 ·exact h3.lt
 ·exact h2.lt hi
def MF.same(h:MF F w m s o t M occ rows)(hk:∀i,F i->w'.heap[i]? =w.heap[i]?):MF F w' m s o t M occ rows:=by obtain ⟨Fs,b,h1,h2,h3,h4,rfl⟩:=h;exact ⟨Fs,b,h1.same (hk _ (.inl rfl)),h2.same λi hi=>hk i (.inr (.inr hi)),h3.same (hk _ (.inr (.inl rfl))),h4,rfl⟩
def MF.ext(h:MF F w m s o t M occ rows)(x:Ext w w'):MF F w' m s o t M occ rows:=h.same λ_ hi=>x.heap (h.lt hi)
def MF.res(h:MF F w m s o t M occ rows)(x:Ext w w'):mi F w m s o t M occ rows w':=⟨F,h.ext x,aJ.aC x⟩
def mi.aC{w0:World}(x:Ext w w0)(h:mi F w0 m s o t M occ rows w'):mi F w m s o t M occ rows w':=by obtain ⟨F',h1,h2⟩:=h;exact ⟨F',h1,(aJ.aC x).trans h2⟩
def MF.xz(h:MF F w m s o t M occ rows):∃Fs,SF Fs w s o t M occ/\Vc.ld w (af (aD m) 1)=some (.pointer (aD s))/\Vc.ld w (af (aD m) 0)=some (.pointer (aD o))/\(∀i,Fs i->F i)/\∀{w':World} {M':Sm} {occ':Value},mC Fs w s o t M' occ' w'->mi F w m s o t M' occ' rows w':=by
 obtain ⟨Fs,b,h1,h2,h3,h4,rfl⟩:=h;refine ⟨Fs,h2,h1.at 1 rfl,h1.at 0 rfl,λi hi=> .inr (.inr hi),?_⟩;rintro w' M' occ' ⟨F',h',ht⟩;have nm:¬Fs m:=h2.jf h1 oO.1.1 oO.1.2.1 oO.1.2.2.1 oO.1.2.2.2.1 oO.1.2.2.2.2.1 oO.1.2.2.2.2.2.1 oO.1.2.2.2.2.2.2;have nb:¬Fs b:=h2.jf h3 oO.2.1.1 oO.2.1.2.1 oO.2.1.2.2.1 oO.2.1.2.2.2.1 oO.2.1.2.2.2.2.1 oO.2.1.2.2.2.2.2.1 oO.2.1.2.2.2.2.2.2;refine ⟨_,⟨F',b,ht.mod.row h1 nm,h',ht.mod.row h3 nb,h4,rfl⟩,ht.mod.mono λi _ hi=> .inr (.inr hi),λi hi=> ?_⟩;rcases hi with hi|hi|hi
 ·exact .inl (.inl hi)
 ·exact .inl (.inr (.inl hi))
 ·exact (ht.sub i hi).imp (λq=> .inr (.inr q)) id
def MF.Pk(h:MF F w m s o t M occ rows):∃b,Row w m [o,s,.slice (aD b) 16 16] vk/\Row w b (rows.map lv).flatten DD/\rows.length=16/\F m/\F b/\m≠b/\∀{w':World} {rows':List iz},Mod (λi=>i=b) w w'->Row w' b (rows'.map lv).flatten DD->rows'.length=16->mi F w m s o t M occ rows' w':=by obtain ⟨Fs,b,h1,h2,h3,h4,rfl⟩:=h;have hmb:m≠b:=h1.ne h3 oO.2.2;refine ⟨b,h1,h3,h4,.inl rfl,.inr (.inl rfl),hmb,?_⟩;intro w' rows' hm hr hn;have nb:¬Fs b:=h2.jf h3 oO.2.1.1 oO.2.1.2.1 oO.2.1.2.2.1 oO.2.1.2.2.2.1 oO.2.1.2.2.2.2.1 oO.2.1.2.2.2.2.2.1 oO.2.1.2.2.2.2.2.2;exact ⟨_,⟨Fs,b,hm.row h1 hmb,h2.same λi hi=>hm.same i (h2.lt hi) λq=>nb (q▸hi),hr,hn,rfl⟩,hm.mono λi _ hi=> .inr (.inl hi),λi hi=> .inl hi⟩
def MF.tl(h:MF F w m s o t M occ rows):Tl (.func (.func 83) #[t] #[]) (gz M.T.2) w:=by obtain ⟨Fs,h1,-⟩:=h.xz;exact h1.tl
def mlA(r:iz):(lv r)[0]? =some (.bool r.1):=rfl
def mlB(r:iz):∀j,j<(kc r.2.1).length->(lv r)[1+j]? =(kc r.2.1)[j]? :=λj hj=>by
 have hj:j<9:=hj
 have:j=0\/j=1\/j=2\/j=3\/j=4\/j=5\/j=6\/j=7\/j=8:=by omega
 rcases this with rfl|rfl|rfl|rfl|rfl|rfl|rfl|rfl|rfl<;>rfl
def Dy(h:MF F w m s o t M occ rows)(b:dw):ae 107 #[m,FJ b] w λe w'=>e=Value.bool (pP M b)/\Ext w w':=by
 apply Av.vc;intro w0 e0;have x0:Ext w w0.drew:=(aQ e0).drew;have z0:w0.drew.heap.size=w.heap.size+1:=by show w0.heap.size=_;exact zA e0
 obtain ⟨Fs,h1,-,h2,-⟩:=(h.ext x0).xz;refine ⟨_,h2,(aer b.aq w0.drew).mono ?_⟩;rintro e w2 ⟨rfl,x2⟩;have z2:=x2.size;obtain ⟨Fs,h1,-,h2,-⟩:=(h.ext (x0.tr x2)).xz;obtain ⟨Fw,hW,-,-⟩:=h1.world;refine ⟨_,_,_,rfl,x2.heap aa,lo1 h2,(vb hW (bj b.aq) (AO _).1 (AO _).2).mono ?_⟩;rintro e w6 ⟨rfl,x6⟩;exact ⟨_,rfl,x6.heap aa,rfl,x0.tr (x2.tr x6)⟩
def QV{b:Nat}(hm:Row w m [o,s,.slice (aD b) 16 16] vk)(hr:Row w b (rows.map lv).flatten DD)(hn:rows.length=16){n:Int}(hL:qB n (rows.map aj))(c:Ce):
  ae 67 #[m,eg c] w λe w'=>e=Value.bool (mE (rows.map aj) c)/\Ext w w':=by
 apply Cc.vc;intro w0 e0;have x0:=aQ e0;have z0:=zA e0;have r0:∃τ,Row w0 w (dZ c) τ:=⟨_,by rw [e0];exact Row.new w [_,_,_] _⟩;obtain ⟨τ,r0⟩:=r0;refine ⟨λn x wr=>∃k:Nat,x=k/\k+n=16/\Ext w0 wr/\∀j,j<k->∀y,(rows.map aj)[j]? =some y->G9 c y=false,⟨16,rfl,0,rfl,rfl,Ext.cG _,λj hj=>by omega⟩,?_⟩;rintro n1 us x w5 ⟨k,rfl,hk,x5,l8⟩;apply Br.mk<;>intro hq
 ·have hq:=cS hq;obtain ⟨r,VP⟩:=bq (l:=rows) (i:=k) aa;have hi:(rows.map lv)[k]? =some (lv r):=by rw [aS,VP];rfl
  have hl:(rows.map aj)[k]? =some (aj r):=by rw [aS,VP];rfl
  have xd:=x0.tr (x5.tr (Ext.dr w5));have ldm:∀{u:World},Ext w u->Vc.ld u (af (aD m) 2)=some (.slice (aD b) 16 16):=λxu=>(hm.ext xu).at 2 rfl
  have rk:∀{u:World},Ext w u->RdK u ⟨aD b,16,16⟩ 13 (rows.map lv):=λxu=>ye (hr.ext xu) hn
  have z5:=x5.size;have wk:=ov (j:=k);have next:G9 c (aj r)=false->∀{u:World},Ext w0 u->∃n6,n6<n1/\aN [c.1,c.2.1,c.2.2]/\∃k':Nat,aw ((k:Int)+1)=k'/\k'+n6=16/\Ext w0 u/\∀j,j<k'->∀y,(rows.map aj)[j]? =some y->G9 c y=false:=λhm {u} xu=>by
   refine ⟨n1-1,aa,rfl,k+1,wk,aa,xu,λj hj z hz=> ?_⟩;by_cases q:j<k
   ·exact l8 j q z hz
   ·rw [show j=k from by omega,hl] at hz;rw [<-Option.some.inj hz];exact hm
  refine ⟨⟨aD b,16,16⟩,ldm xd,(rk xd).jd (i:=(k:Int)) aA aa (by show (k:Int)<((16:Nat):Int);omega),iS rfl ⟨r.1,(rk xd).at hi (mlA r),Br.mk (λhb=> ?_) (λhb=>next (by unfold aj;rw [hb];rfl) (x5.tr (Ext.dr w5)))⟩⟩;have Jn:aj r=some r.2:=by unfold aj;rw [if_pos hb]
  have okr:=hL r.2 (by rw [<-Jn];exact aO hl);refine ⟨⟨aD b,16,16⟩,ldm xd,(rk xd).jd (i:=(k:Int)) aA aa (by show (k:Int)<((16:Nat):Int);omega),iS rfl ⟨_,_,_,_,_,_,_,_,_,sG (rk xd) hi (mlB r),(Ca r.2.1 okr.wdi w5.drew).mono ?_⟩⟩;rintro e fK ⟨rfl,db⟩;have z19:=db.size;have zd:=m7 w5;have I9:=xd.tr db;have bl:∀{u:World},Ext w u->ah u (af (af (aD b) ((k:Int).toNat*13)) 0) 0 [.bool r.1]:=λxu=>lo1 ((rk xu).at hi (mlA r))
  refine ⟨_,_,_,_,_,_,rfl,db.heap aa,Lo.wv (r0.ext (x5.tr ((Ext.dr w5).tr db))),lo1 (ldm I9),bl I9,lo1 (ldm I9),(VH c fK).mono ?_⟩;rintro e gx ⟨rfl,jN⟩;have z26:=jN.size;have J2:=I9.tr jN;refine ⟨_,_,_,_,_,_,rfl,jN.heap aa,lo1 (ldm J2),bl J2,lo1 (ldm J2),(RG r.2.1.box (ub c) gx).mono ?_⟩;rintro e fL ⟨rfl,fD⟩;have N4:=J2.tr fD;have hme:G9 c (aj r)=iW r.2.1.box (ub c):=by rw [Jn];rfl
  refine ⟨_,rfl,fD.heap aa,lo1 (ldm N4),bl N4,lo1 (ldm N4),Br.mk (λhm=>⟨?_,N4⟩) (λhm=>next (by rw [hme];exact hm) (x5.tr ((Ext.dr w5).tr (db.tr (jN.tr fD)))))⟩;have:mE (rows.map aj) c=true:=List.any_eq_true.2 ⟨_,aO hl,by rw [hme];exact hm⟩;rw [this]
 ·have hq:=cS hq;refine ⟨?_,x0.tr x5⟩;have:mE (rows.map aj) c=false:=List.any_eq_false.2 λy hy=>by obtain ⟨j,hj⟩:=KJ.1 hy;have:=(bZ.1 hj).1;rw [aL] at this;rw [l8 j aa y hj];decide
  rw [this]
end
def HU(v:Ce)(m:Int):within v m=(List.range 3).all λi=>decide (-m<=cN v i) && decide (cN v i<=m):=by
 have e0:cN v ((0:Nat):Int)=v.1:=rfl;have e1:cN v ((1:Nat):Int)=v.2.1:=rfl;have e2:cN v ((2:Nat):Int)=v.2.2:=rfl;have:(List.range 3).all (λi=>decide (-m<=cN v i) && decide (cN v i<=m))=((decide (-m<=v.1) && decide (v.1<=m)) &&((decide (-m<=v.2.1) && decide (v.2.1<=m)) &&(decide (-m<=v.2.2) && decide (v.2.2<=m)))):=by rw [<-e0,<-e1,<-e2];simp [DU]
 rw [this];unfold within;rw [Bool.eq_iff_iff];simp only [fk,cJ];omega
def xO(v:Ce)(m:Int)(hm:0<=m/\m<=140737488355328)(w:World):ae 157 #[eg v,m] w λe w'=>e=Value.bool (within v m)/\Ext w w':=by
 apply MY.vc;intro w0 e0;have x0:=aQ e0;have z0:=zA e0;have hw:aw (0-m)= -m:=by rw [wI];omega
 refine ⟨λn x wr=>∃k:Nat,x=k/\k+n=3/\Ext w0 wr/\∀j,j<k-> -m<=cN v (j:Nat)/\cN v (j:Nat)<=m,⟨3,rfl,0,rfl,rfl,Ext.cG _,λj hj=>by omega⟩,?_⟩;rintro n us x w5 ⟨k,rfl,hk,x5,m4⟩;have z5:=x5.size;apply Br.mk<;>intro hq
 ·have hq:=cS hq;refine (UR v k w5).mono ?_;rintro e w7 ⟨rfl,x7⟩;have bad:¬(-m<=cN v (k:Nat)/\cN v (k:Nat)<=m)->within v m=false:=λh=>by rw [HU];refine List.all_eq_false.2 ⟨k,nQ.2 aa,?_⟩;simp only [fk,cJ];exact h
  refine ⟨_,rfl,x7.heap aa,?_⟩;rw [hw];refine Br.mk (λh=> ?_) (λh=>Br.mk (λh2=> ?_) (λh2=> ?_))
  ·rw [bad (by
    have h:=cS h;omega)]
   exact ⟨rfl,x0.tr (x5.tr x7)⟩
  ·rw [bad (by
    have h2:=cS h2;omega)]
   exact ⟨rfl,x0.tr (x5.tr x7)⟩
  ·have h:=cS h;have h2:=cS h2;refine ⟨n-1,aa,rfl,k+1,by rw [wI];omega,aa,x5.tr x7,λj hj=> ?_⟩;by_cases q:j<k
   ·exact m4 j q
   ·rw [show j=k from by omega];omega
 ·have hq:=cS hq;have:within v m=true:=by
   rw [HU];refine Gt.2 λj hj=> ?_
   have:=m4 j (by have:=nQ.1 hj;omega);simp only [fk,cJ];exact this
  rw [this];exact ⟨rfl,x0.tr x5⟩
def X3(b:dw)(w:World):ae 106 #[FJ b] w λe w'=>e=Value.bool b.may/\Ext w w':=by
 apply ZF.vc;intro w0 e0;have x0:=aQ e0;have z0:=zA e0;refine (xO b.aq _ aA w0).mono ?_;rintro e w1 ⟨rfl,x1⟩;have z1:=x1.size;refine ⟨_,rfl,x1.heap aa,(xO b.speed _ aA w1).mono ?_⟩;rintro e w3 ⟨rfl,x3⟩;have Da:=x0.tr (x1.tr x3);refine ⟨_,rfl,x3.heap aa,?_⟩;unfold dw.may;generalize within b.aq 70368744177664=p;generalize within b.speed 262144=q;refine Br.mk (λh1=>Br.mk (λh2=>Br.mk (λh3=>Br.mk (λh4=>Br.mk (λh5=> ?_) (λh5=> ?_)) (λh4=> ?_)) (λh3=> ?_)) (λh2=> ?_)) (λh1=> ?_)
 ·have h3:=cS h3;have h4:=cS h4;have h5:=cS h5;rw [h1,h2,decide_eq_true (show 2<=b.wd from h3),decide_eq_true h4,decide_eq_true (show 1<=b.ht from h5)];exact ⟨bg,Da⟩
 ·have h5:=cS h5;rw [decide_eq_false (show ¬1<=b.ht from h5)];exact ⟨bg,Da⟩
 ·have h4:=cS h4;rw [decide_eq_false h4];exact ⟨bg,Da⟩
 ·have h3:=cS h3;rw [decide_eq_false (show ¬2<=b.wd from h3)];exact ⟨bg,Da⟩
 ·rw [h2];exact ⟨bg,Da⟩
 ·rw [h1];exact ⟨bg,Da⟩
section
variable {F F':Nat->Prop} {w w':World} {m s o t:Nat} {M M':Sm} {occ:Value} {rows:List iz}
def mi.aW{k:Nat}{w0:World}(x:Ext w w0)(hk:w.heap.size<=k)(Ts:k<w0)(h0:∀i,F i->i<w.heap.size){M':Sm}{occ':Value}{r':List iz}(r:mi F w0 m s o t M' occ' r' w'):w'.heap[k]? =w0.heap[k]? :=by obtain ⟨F',-,h2⟩:=r;exact h2.mod.same _ Ts λq=>by have:=h0 _ q;omega
def yw(h:MF F w m s o t M occ rows){n:Int}(hL:qB n (rows.map aj))(c:Ce)(hc:fm c)(b:Int)(hk:sO M 800000):ae 60 #[m,eg c,b] w λe w'=>e=Value.int .i64 (c8 M (rows.map aj) c b).1/\mi F w m s o t (c8 M (rows.map aj) c b).2 occ rows w':=by
 apply Cd.vc;intro w0 e0;have x0:=aQ e0;have z0:=zA e0;have inner:∀{u:World},Ext w0 u->¬(ao b=true/\mE (rows.map aj) c=true)->∃p:Option Addr,Vc.ld u (af (aD m) 1)=some (.pointer p)/\
   ae 113 #[p,eg c,b] u λe w6=>∃x7:Int,e=x7/\w6.heap[w.heap.size]? =u.heap[w.heap.size]?/\Ending.returned x7=Value.int .i64 (c8 M (rows.map aj) c b).1/\mi F w m s o t (c8 M (rows.map aj) c b).2 occ rows w6:=by
  intro u xu hn;have hu:=h.ext (x0.tr xu);have zu:=xu.size;obtain ⟨Fs,hs,ko,-,fa,bf⟩:=hu.xz;refine ⟨_,ko,(yN hs c hc b hk).mono ?_⟩;rintro e w6 ⟨rfl,hr⟩;have hk6:w6.heap[w.heap.size]? =u.heap[w.heap.size]? :=by obtain ⟨F6,-,t6⟩:=hr;exact t6.mod.same _ aa λq=>by have:=h.lt (fa _ q);omega
  unfold c8;rw [if_neg hn];exact ⟨_,rfl,hk6,rfl,mi.aC (x0.tr xu) (bf hr)⟩
 refine (CY b w0).mono ?_;rintro e w1 ⟨rfl,SZ⟩;subst SZ;refine ⟨_,rfl,rfl,Br.mk (λhb=> ?_) (λhb=>inner (Ext.dr _) λq=>by rw [hb] at q;cases q.1)⟩;obtain ⟨b',hm,hr,hn,-⟩:=(h.ext x0).Pk;refine (QV hm hr hn hL c).mono ?_;rintro e w3 ⟨rfl,x3⟩;have z3:=x3.size;refine ⟨_,rfl,x3.heap aa,Br.mk (λhq=> ?_) (λhq=> ?_)⟩
 ·unfold c8;rw [if_pos ⟨hb,hq⟩];exact ⟨rfl,h.res (x0.tr x3)⟩
 ·exact inner (x3.tr (Ext.dr _)) λq=>by rw [hq] at q;cases q.2
def pZ{n:Int}{k:Nat}(e:n=k){r:iz}(h:rows[k]? =some r):bC (rows.map aj) n=aj r:=by subst e;unfold bC;rw [if_pos aa,dQ,aS,h];rfl
end
section
variable {F F':Nat->Prop} {w w':World} {m s o t:Nat} {M M':Sm} {occ:Value} {rows:List iz}
def RZ(hn:rows.length=16){n:Int}(h:¬(0<=n/\n<16)):bC (rows.map aj) n=none:=wG (by rw [aL];exact hn) h
def yu(h:MF F w m s o t M occ rows){n:Int}(hL:qB n (rows.map aj))(hn:n<=99970000000000)(i:Int)(cV:Ce):
  ae 63 #[m,i,eg cV] w λe w'=>e=Value.tuple #[htV (cj M (rows.map aj) i cV).1,.int .i64 (cj M (rows.map aj) i cV).2]/\Ext w w':=by
 apply Cf.vc;intro w0 e0 w1 e1;have x0:=aQ e0;have z0:=zA e0;have r0:∃τ,Row w0 w (dZ cV) τ:=⟨_,by rw [e0];exact Row.new w [_,_,_] _⟩;have x1:=aQ e1;have z1:=zA e1;obtain ⟨τ,r0⟩:=r0;have r1:=r0.ext x1;have lg:=x0.tr x1;obtain ⟨b,hm,hr,Em,-⟩:=h.Pk;have ldm:∀{u:World},Ext w u->Vc.ld u (af (some ⟨m,0,none⟩) 2)=some (.slice (some ⟨b,0,none⟩) 16 16):=λxu=>(hm.ext xu).at 2 rfl
 have rk:∀{u:World},Ext w u->RdK u ⟨some ⟨b,0,none⟩,16,16⟩ 13 (rows.map lv):=λxu=>ye (hr.ext xu) Em
 have none6:bC (rows.map aj) i=none->∀w4:World,w4=w1.setRow w0 #[ai,ai,ai,ai,ai,ai]->Ending.returned (.tuple #[.agg #[ai,ai,ai,ai,ai,ai],(6:Int)])=Value.tuple #[htV (cj M (rows.map aj) i cV).1,.int .i64 (cj M (rows.map aj) i cV).2]/\Ext w w4:=λhq w4 e4=>by refine ⟨?_,lg.ab e4 aa⟩;unfold cj;rw [hq];rfl
 refine Br.mk (λh1=> ?_) (λh1=>Br.mk (λh2=> ?_) (λh2=> ?_))
 ·have h1:i<0:=by simpa using h1
  exact none6 (RZ Em aa)
 ·have h2:i>15:=by simpa using h2
  exact none6 (RZ Em aa)
 have h1:¬i<0:=by simpa using h1
 have h2:¬i>15:=by simpa using h2
 have ei:(if 0>(if 15<i then 15 else i) then 0 else (if 15<i then 15 else i))=i:=by rw [if_neg (show ¬15<i from by omega),if_neg aa]
 rw [ei];obtain ⟨k,rfl⟩:∃k:Nat,i=k:=⟨i.toNat,aa⟩;obtain ⟨r,VP⟩:=bq (l:=rows) (i:=k) aa;have hi:(rows.map lv)[k]? =some (lv r):=by rw [aS,VP];rfl
 have Jn:=pZ (rows:=rows) (n:=k) rfl VP;have inb:∀{u:World},Ext w u->eL (some ⟨b,0,none⟩) (k:Int) 16:=λxu=>(rk xu).jd (i:=(k:Int)) aA aa (by show (k:Int)<((16:Nat):Int);omega)
 refine ⟨⟨some ⟨b,0,none⟩,16,16⟩,ldm lg,inb lg,iS rfl ⟨r.1,(rk lg).at hi (mlA r),Br.mk (λhb=> ?_) (λhb=> ?_)⟩⟩
 ·refine none6 ?_;rw [Jn];unfold aj;rw [if_neg (by simpa using hb)]
 have hb:r.1=true:=by simpa using hb
 have hlr:aj r=some r.2:=by unfold aj;rw [if_pos hb]
 rw [hlr] at Jn;have oky:=hL r.2 (AQ Jn);have xd:=Ext.dr w1;have hd:=m7 w1;have eyn:=Ir oky hn;have hhb: -1000000000<=r.2.1.ht/\r.2.1.ht<=1000000000:=by have:=oky.2.2.1;omega
 have hh0:0<=r.2.1.ht:=oky.2.2.1.1;have sM:cj M (rows.map aj) k cV=if (ji (gz M.T.2) (kP r.2.1) cV 5).2=false then (VE,13) else if (ji (gz M.T.2) (kP r.2.1) cV 5).1.2.1= -1 then (VE,11) else ((ji (gz M.T.2) (kP r.2.1) cV 5).1,0):=by unfold cj;rw [Jn]
 have castS:∀{u:World},Ext w1.drew u->ae 87 #[.func (.func 83) #[t] #[],eg (kP r.2.1),eg cV,(5:Int)] u λe w'=>e=Value.tuple #[htV (ji (gz M.T.2) (kP r.2.1) cV 5).1,.bool (ji (gz M.T.2) (kP r.2.1) cV 5).2]/\Ext u w':=λ{u} xu=>
  LO (h.ext (lg.tr (xd.tr xu))).tl rfl (kP r.2.1) cV 5 ⟨aa,aa,aa⟩ (RY (by rw [ahm];decide) eyn)
 generalize ji (gz M.T.2) (kP r.2.1) cV 5=ck at sM castS;obtain ⟨⟨⟨cx,cy,cz⟩,cb,cf,ct⟩,cq⟩:=ck;have fin:∀{u:World},Ext w1.drew u->Br (!cq)
   (∀gR:World,gR=u.setRow w0 #[ai,ai,ai,ai,ai,ai]->Ending.returned (.tuple #[.agg #[ai,ai,ai,ai,ai,ai],(13:Int)])=Value.tuple #[htV (cj M (rows.map aj) k cV).1,.int .i64 (cj M (rows.map aj) k cV).2]/\Ext w gR)
   (Br (cb==(-1))
    (∀gR:World,gR=u.setRow w0 #[ai,ai,ai,ai,ai,ai]->Ending.returned (.tuple #[.agg #[ai,ai,ai,ai,ai,ai],(11:Int)])=Value.tuple #[htV (cj M (rows.map aj) k cV).1,.int .i64 (cj M (rows.map aj) k cV).2]/\Ext w gR)
    (∀gR:World,gR=u.setRow w0 #[cx,cy,cz,cb,cf,ct]->Ending.returned (.tuple #[.agg #[cx,cy,cz,cb,cf,ct],(0:Int)])=Value.tuple #[htV (cj M (rows.map aj) k cV).1,.int .i64 (cj M (rows.map aj) k cV).2]/\Ext w gR)):=by
  intro u xu;have xx:=lg.tr (xd.tr xu);rw [sM];refine Br.mk (λhb=>λgR XD=>⟨?_,xx.ab XD aa⟩) (λhb=>Br.mk (λj8=>λgR XD=>⟨?_,xx.ab XD aa⟩) (λj8=>λgR XD=>⟨?_,xx.ab XD aa⟩))
  ·have hb:cq=false:=by simpa using hb
   rw [if_pos hb];rfl
  ·have hb:cq=true:=by simpa using hb
   have j8:cb= -1:=by simpa using j8
   rw [if_neg (by simp [hb]),if_pos j8];rfl
  ·have hb:cq=true:=by simpa using hb
   have j8:¬cb= -1:=by simpa using j8
   rw [if_neg (by simp [hb]),if_neg j8]
 have wayL:∀{u:World},Ext w1.drew u->ah u (some ⟨w.heap.size,0,none⟩) 0 (dZ cV):=λxu=>Lo.wv (r1.ext (xd.tr xu))
 have bdyL:∀{u:World},Ext w1.drew u->ah u (af (af (some ⟨b,0,none⟩) ((k:Int).toNat*13)) 1) 0 (kc r.2.1):=λxu=>sG (rk (lg.tr (xd.tr xu))) hi (mlB r)
 have sliL:∀{u:World},Ext w1.drew u->ah u (af (some ⟨m,0,none⟩) 2) 0 [.slice (some ⟨b,0,none⟩) 16 16]:=λxu=>lo1 (ldm (lg.tr (xd.tr xu)))
 have viewS:∀{u:World},Ext w1.drew u->Vc.ld u (af (some ⟨m,0,none⟩) 0)=some (.pointer (some ⟨o,0,none⟩))/\ae 27 #[o] u λe w'=>e=Value.func (.func 83) #[t] #[]/\w'=u:=λxu=>by obtain ⟨Fs,hs,-,ko,-⟩:=(h.ext (lg.tr (xd.tr xu))).xz;obtain ⟨Fw,hW,-,-⟩:=hs.world;exact ⟨ko,iH hW⟩
 refine ⟨_,(viewS (Ext.cG _)).1,⟨some ⟨b,0,none⟩,16,16⟩,ldm (lg.tr xd),inb (lg.tr xd),iS rfl ⟨_,_,_,_,_,_,_,_,_,bdyL (Ext.cG _),?_,λoy e67=> ?_⟩⟩
 ·refine (viewS (Ext.cG _)).2.mono ?_;rintro e dI ⟨rfl,agc⟩;subst agc;refine ⟨_,rfl,rfl,rfl,wayL (Ext.cG _),bdyL (Ext.cG _),sliL (Ext.cG _),?_,λqo e50=> ?_⟩
  ·refine (C5 r.2.1 hhb hh0 w1.drew).mono ?_;rintro e fx ⟨rfl,dN⟩;have z20:=dN.size;refine ⟨_,_,_,rfl,dN.heap aa,dN.heap aa,wayL dN,sliL dN,?_,λiR Tg=> ?_⟩
   ·refine (castS dN).mono ?_;rintro e gC ⟨rfl,gW⟩;have z24:=gW.size;refine ⟨_,_,_,_,_,_,_,rfl,gW.heap aa,gW.heap aa,sliL (dN.tr gW),λqT VZ fL e33=> ?_⟩;exact fin ((dN.tr gW).tr ((aQ VZ).ab e33 (ak _)))
   ·have lh:=aQ Tg;have z37:=zA Tg;refine (castS (dN.tr lh)).mono ?_;rintro e oE ⟨rfl,km⟩;have z38:=km.size;refine ⟨_,_,_,_,_,_,_,rfl,km.heap aa,km.heap aa,km.heap aa,sliL ((dN.tr lh).tr km),λsI e46=> ?_⟩;exact fin (((dN.tr lh).tr km).ab e46 aa)
  ·have sS:=aQ e50;have z50:=zA e50;refine (C5 r.2.1 hhb hh0 qo).mono ?_;rintro e uL ⟨rfl,rA⟩;have z51:=rA.size;refine ⟨_,_,_,rfl,rA.heap aa,rA.heap aa,rA.heap aa,wayL (sS.tr rA),sliL (sS.tr rA),(castS (sS.tr rA)).mono ?_⟩;rintro e xm ⟨rfl,oG⟩;have z55:=oG.size;refine ⟨_,_,_,_,_,_,_,rfl,oG.heap aa,oG.heap aa,oG.heap aa,sliL ((sS.tr rA).tr oG),λKb e63=> ?_⟩;exact fin (((sS.tr rA).tr oG).ab e63 aa)
 ·have oT:=aQ e67;have z67:=zA e67;refine (viewS oT).2.mono ?_;rintro e uK ⟨rfl,aBi⟩;subst aBi;refine ⟨_,rfl,rfl,rfl,rfl,wayL oT,bdyL oT,sliL oT,(C5 r.2.1 hhb hh0 uK).mono ?_⟩;rintro e qD ⟨rfl,ur⟩;have z70:=ur.size;refine ⟨_,_,_,rfl,ur.heap aa,ur.heap aa,ur.heap aa,wayL (oT.tr ur),sliL (oT.tr ur),(castS (oT.tr ur)).mono ?_⟩;rintro e oq ⟨rfl,BY⟩;have z74:=BY.size;refine ⟨_,_,_,_,_,_,_,rfl,BY.heap aa,BY.heap aa,BY.heap aa,sliL ((oT.tr ur).tr BY),λw82 e82=> ?_⟩;exact fin (((oT.tr ur).tr BY).ab e82 aa)
end
section
variable {F F':Nat->Prop} {w w':World} {m s o t:Nat} {M M':Sm} {occ:Value} {rows:List iz}
def aqb(c:Ce){k:Nat}(hk:k<6):∃d:Ce,(rG c).getD k (0,0,0)=d/\∀{w:World} {g:Nat} {τ:TypeId},Row w g (ET c) τ->ah w (af (aD g) ((k:Int).toNat*3)) 0 (dZ d):=by
 refine ⟨_,rfl,λ{w g τ} hr=> ?_⟩;rw [aV,eC,dQ];refine hr.bI λj hj=> ?_
 have hj:j<3:=hj;have h1:j=0\/j=1\/j=2:=by omega
 have h2:k=0\/k=1\/k=2\/k=3\/k=4\/k=5:=by omega
 rcases h2 with rfl|rfl|rfl|rfl|rfl|rfl<;>rcases h1 with rfl|rfl|rfl<;>rfl
def P7(h:MF F w m s o t M occ rows){n:Int}(hL:qB n (rows.map aj))(hn:n<=99970000000000)(i:Int)(cV:Ce)(b:Int)(hk:sO M 800000):
  ae 57 #[m,.int .i64 i,eg cV,b] w λe w'=>e=Value.int .i64 (gg M (rows.map aj) i cV b).1/\mi F w m s o t (gg M (rows.map aj) i cV b).2 occ rows w':=by
 apply Ax.vc;intro w0 e0;have x0:=aQ e0;have z0:=zA e0;refine (yu (h.ext x0) hL hn i cV).mono ?_;rintro e w1 ⟨rfl,x1⟩;have z1:=x1.size;refine ⟨_,_,_,_,_,_,_,rfl,x1.heap aa,λw9 e9 bo wO=> ?_⟩;have bE:Ext w1 bo:=(aQ e9).ab wO (ak _);have XB:bo.heap.size=w1.heap.size+1:=by rw [zR wO,zA e9]
 have qt:=x0.tr (x1.tr bE);unfold gg;refine Br.mk (λh6=> ?_) (λh6=>(Hj b bo).mono ?_)
 ·rw [if_pos (by simpa using h6)];have h6:(cj M (rows.map aj) i cV).2=6:=by simpa using h6
  rw [h6];exact ⟨rfl,h.res qt⟩
 rw [if_neg (by simpa using h6)];rintro e bw ⟨rfl,V6⟩;subst V6;refine ⟨_,rfl,rfl,rfl,Br.mk (λhb=> ?_) (λhb=>Br.mk (λF7=> ?_) (λF7=>Br.mk (λJk=> ?_) (λJk=> ?_)))⟩
 ·rw [if_pos (by simpa using hb)];exact ⟨rfl,h.res qt⟩
 ·rw [if_neg (by simpa using hb),if_pos (by simpa using F7)];exact ⟨rfl,h.res qt⟩
 ·rw [if_neg (by simpa using hb),if_neg (by simpa using F7),if_pos (by simpa using Jk)];exact ⟨rfl,h.res qt⟩
 rw [if_neg (by simpa using hb),if_neg (by simpa using F7),if_neg (by simpa using Jk)];have Jk:(cj M (rows.map aj) i cV).2=0:=by simpa using Jk
 obtain ⟨Ov,VM⟩:=wA hL hn Jk;obtain ⟨y,-,-,hcast,-⟩:=P8 Jk;have hface:=(P9 (by rw [ahm];decide) hcast).2.2.2.2;generalize (cj M (rows.map aj) i cV).1=ht at Ov VM hface ⊢;obtain ⟨c,bb,f,tt⟩:=ht;simp only at hface Ov VM;apply Br.mk<;>intro hf
 ·have hf:f<0:=by simpa using hf
  have anH:(EU (c,bb,f,tt)).2=false:=by unfold EU;rw [if_neg (by simp only;omega)]
  rw [if_pos anH];exact ⟨rfl,h.res qt⟩
 have hf:¬f<0:=by simpa using hf
 have hf6:0<=f/\f<6:=by omega
 obtain ⟨k,rfl⟩:∃k:Nat,f=k:=⟨f.toNat,aa⟩;obtain ⟨d,hd,ko⟩:=aqb c (k:=k) aa;have anH:EU (c,bb,((k:Nat):Int),tt)=(d,true):=by unfold EU;rw [if_pos hf6,<-hd];rfl
 rw [anH] at VM ⊢;rw [if_neg bg];refine (Uq c (Ov.wide aA) bw).mono ?_;rintro e bP ⟨rfl,cR⟩;have z13:=cR.size;refine ⟨_,_,_,_,_,_,_,_,_,_,_,_,_,_,_,_,_,_,rfl,cR.heap aa,cR.heap aa,λqT VZ=> ?_⟩;have lr:=aQ VZ;have z32:=zA VZ;have r32:∃cs τ,Row qT bP cs τ/\cs.length=18/\aP cs 0 (ET c)=ET c:=⟨[_,_,_,_,_,_,_,_,_,_,_,_,_,_,_,_,_,_],_,by rw [VZ];exact Row.new bP [_,_,_,_,_,_,_,_,_,_,_,_,_,_,_,_,_,_] _,rfl,rfl⟩;obtain ⟨cs,τ,r32,Ta,hpc⟩:=r32;obtain ⟨p1,p2⟩:=nM r32 (off:=0) (vs:=ET c) (by rw [Ta];show 0+18<=18;decide) (Hk c);refine ⟨⟨rfl,p1⟩,?_,?_,λfL e33=> ?_⟩
 ·intro q;have q:some bP.heap.size=some w.heap.size:=q;injection q with q;omega
 ·intro q;have q:some bP.heap.size=some w1.heap.size:=q;injection q with q;omega
 obtain ⟨q1,q2⟩:=p2 fL e33;rw [hpc] at q1;have fD:Ext bP fL:=q2.ext lr λi hi=>by omega
 have z33:=q2.size;have N4:=qt.tr (cR.tr fD);refine ⟨hf6.1,hf6.2,_,_,_,ko q1,(yw (h.ext N4) hL d (VM.wide aA) b hk).mono ?_⟩;rintro e iR ⟨rfl,r⟩;have hh:∀i,F i->i<w.heap.size:=λi=>h.lt
 exact ⟨_,rfl,mi.aW N4 aa aa hh r,mi.aW N4 aa aa hh r,rfl,mi.aC N4 r⟩
def Ur(h:MF F w m s o t M occ rows){n:Int}(hL:qB n (rows.map aj))(hn:n<=99970000000000)(i:Int)(cV:Ce)(hk:sO M 800000):
  ae 58 #[m,.int .i64 i,eg cV] w λe w'=>e=Value.tuple #[.int .i64 (fu M (rows.map aj) i cV).1.1,.int .i64 (fu M (rows.map aj) i cV).1.2]/\mi F w m s o t (fu M (rows.map aj) i cV).2 occ rows w':=by
 apply Ci.vc;intro w0 e0;have x0:=aQ e0;have z0:=zA e0;refine (yu (h.ext x0) hL hn i cV).mono ?_;rintro e w1 ⟨rfl,x1⟩;have z1:=x1.size;refine ⟨_,_,_,_,_,_,_,rfl,x1.heap aa,λw9 e9 bo wO=> ?_⟩;have bE:Ext w1 bo:=(aQ e9).ab wO (ak _);have XB:bo.heap.size=w1.heap.size+1:=by rw [zR wO,zA e9]
 have qt:=x0.tr (x1.tr bE);unfold fu;apply Br.mk<;>intro h0
 ·rw [if_pos (by simpa using h0)];exact ⟨rfl,h.res qt⟩
 have Jk:=cS h0;rw [if_neg (by simp [Jk])];obtain ⟨Ov,-⟩:=wA hL hn Jk;refine (yw (h.ext qt) hL (cj M (rows.map aj) i cV).1.1 (Ov.wide aA) 0 hk).mono ?_;rintro e bw ⟨rfl,r⟩;have hh:∀i,F i->i<w.heap.size:=λi=>h.lt
 refine ⟨_,rfl,mi.aW qt aa aa hh r,mi.aW qt aa aa hh r,Br.mk (λhq=> ?_) (λhq=> ?_)⟩
 ·rw [if_pos (by simpa using hq)];exact ⟨rfl,mi.aC qt r⟩
 ·rw [if_neg (by simpa using hq)];exact ⟨rfl,mi.aC qt r⟩
def X4(hn:rows.length=16){x:Int}(hx:(x= -1/\∀(i:Nat)(r:iz),rows[i]? =some r->r.1=true)\/(∃i:Nat,x=i/\i<16/\(∃r:iz,rows[i]? =some r/\r.1=false)/\∀(j:Nat)(r:iz),j<i->rows[j]? =some r->r.1=true)):qN (rows.map aj)=x:=by
 rcases hx with ⟨rfl,m4⟩|⟨i,rfl,hi,⟨r,hr,hb⟩,iQ⟩
 ·refine jE λy hy=> ?_
  obtain ⟨r,hr,rfl⟩:=aU.1 hy;obtain ⟨i,hi⟩:=KJ.1 hr;unfold aj;rw [if_pos (m4 i r hi)];rfl
 ·refine pB (x:=aj r) (by rw [aS,hr];rfl) (by unfold aj;rw [hb];rfl) λj hj y hy=> ?_
  rw [aS] at hy;obtain ⟨r',h1,rfl⟩:=xE.1 hy;unfold aj;rw [if_pos (iQ j r' hj h1)];rfl
def Qa{K:Nat}{v:LV}:∀{l:List (LV)} {k:Nat},(∀r ∈ l,r.length=K)->k<l.length->v.length=K->aP l.flatten (k*K) v=(l.set k v).flatten
 | [],k,_,hk,_=>absurd hk bg
 |a::l,0,hl,_,hv=>by
  have ha:=hl a bg
  have h0:=de v (a++l.flatten) 0 (by rw [bQ];omega)
  rw [jC,List.set_cons_zero,jC,Nat.zero_mul,h0,eC,hv,<-ha,List.drop_left]
  rfl
 |a::l,k+1,hl,hk,hv=>by
  have ha:=hl a bg
  rw [jC,WT,jC,show (k+1)*K=a.length+k*K from by rw [ha,pL,Nat.one_mul,u9],lN,Qa (λr hr=>hl r (by simp [hr])) (by simpa using hk) hv]
def acB(hn:rows.length=16){b:Nat}{w:World}(hr:Row w b (rows.map lv).flatten DD){k:Nat}(hk:k<16)(r:iz):(af (aD b) ((k:Int).toNat*13)).isSome=true/\Wr w (af (aD b) ((k:Int).toNat*13)) 13/\
  ∀w',w'=Vc.bF w (af (aD b) ((k:Int).toNat*13)) (lv r)->Row w' b ((rows.set k r).map lv).flatten DD/\Mod (λi=>i=b) w w':=by
 have IH:∀l:List iz,(l.map lv).flatten.length=l.length*13:=λl=>by
  have:=bA (k:=13) (rows:=l.map lv) λr hr=>by obtain ⟨x,-,rfl⟩:=aU.1 hr;rfl
  rw [this,aL]
 rw [dQ];obtain ⟨p1,p2⟩:=nM hr (off:=k*13) (vs:=lv r) (by rw [IH,hn];show _+13<=_;omega) (ali r);refine ⟨rfl,p1,λw' e=> ?_⟩;obtain ⟨q1,q2⟩:=p2 w' e;refine ⟨?_,q2⟩;have:aP (rows.map lv).flatten (k*13) (lv r)=((rows.set k r).map lv).flatten:=by rw [jY];exact Qa (λr hr=>by obtain ⟨x,-,rfl⟩:=aU.1 hr;rfl) (by rw [aL];omega) rfl
 rw [<-this];exact q1
end
section
variable {F F':Nat->Prop} {w w':World} {m s o t:Nat} {M M':Sm} {occ:Value} {rows:List iz}
def sZ(M:Sm)(rows:List iz)(b:dw):List iz:=
 if (cQ M (rows.map aj) b).2.1=0 then rows.set (qN (rows.map aj)).toNat (true,({b with fG:=iI (gz M.T.2) (jB b.box) ao},(0,0,false))) else rows
def vf{b:dw}:(sZ M rows b).map aj=(cQ M (rows.map aj) b).2.2:=by
 unfold sZ;by_cases h1:b.may=false
 ·have e:cQ M (rows.map aj) b=(-1,1,rows.map aj):=by unfold cQ;rw [if_pos h1]
  rw [e,if_neg bg]
 by_cases h2:qN (rows.map aj)<0
 ·have e:cQ M (rows.map aj) b=(-1,8,rows.map aj):=by unfold cQ;rw [if_neg h1,if_pos h2]
  rw [e,if_neg bg]
 by_cases h3:pP M b=false
 ·have e:cQ M (rows.map aj) b=(-1,11,rows.map aj):=by unfold cQ;rw [if_neg h1,if_neg h2,if_pos h3]
  rw [e,if_neg bg]
 by_cases h4:iI (gz M.T.2) b.box ao=true
 ·have e:cQ M (rows.map aj) b=(-1,12,rows.map aj):=by unfold cQ;rw [if_neg h1,if_neg h2,if_neg h3,if_pos h4]
  rw [e,if_neg bg]
 have e:cQ M (rows.map aj) b=(qN (rows.map aj),0,(rows.map aj).set (qN (rows.map aj)).toNat (some ({b with fG:=iI (gz M.T.2) (jB b.box) ao},(0,0,false)))):=by unfold cQ;rw [if_neg h1,if_neg h2,if_neg h3,if_neg h4]
 rw [e,if_pos rfl,jY];rfl
def Pj(h:MF F w m s o t M occ rows)(aq:Ce)(wd ht:Int)(hw:dJ wd):ae 53 #[m,eg aq,wd,ht] w λe w'=>
  e=Value.tuple #[.int .i64 (cQ M (rows.map aj) (fH aq wd ht)).1,.int .i64 (cQ M (rows.map aj) (fH aq wd ht)).2.1]/\mi F w m s o t M occ (sZ M rows (fH aq wd ht)) w':=by
 apply zZ.vc;intro w0 e0 w1 e1 w2 e2;have x0:=aQ e0;have z0:=zA e0;have x2:Ext w0 w2:=(aQ e1).ab e2 (ak _);have z2:w2.heap.size=w0.heap.size+1:=by rw [zR e2,zA e1]
 have r2:∃τ,Row w2 w0 (kc (fH aq wd ht)) τ:=⟨_,by rw [e2,e1];exact Row.set (Row.new w0 [_,_,_,_,_,_,_,_,_] _) [_,_,_,_,_,_,_,_,_]⟩;obtain ⟨τ,r2⟩:=r2;have xh:=x0.tr x2;obtain ⟨b,hm,hr,hn,-,hFb,-,bf⟩:=h.Pk;have ldm:∀{u:World},Ext w u->Vc.ld u (af (some ⟨m,0,none⟩) 2)=some (.slice (some ⟨b,0,none⟩) 16 16):=λxu=>(hm.ext xu).at 2 rfl
 have rk:∀{u:World},Ext w u->RdK u ⟨some ⟨b,0,none⟩,16,16⟩ 13 (rows.map lv):=λxu=>ye (hr.ext xu) hn
 have inb:∀{u:World},Ext w u->∀k:Nat,k<16->eL (some ⟨b,0,none⟩) (k:Int) 16:=λxu k hk=>(rk xu).jd (i:=(k:Int)) aA aa (by show (k:Int)<((16:Nat):Int);omega)
 refine (X3 (fH aq wd ht) w2).mono ?_;rintro e w3 ⟨rfl,x3⟩;have z3:=x3.size;have Da:=xh.tr x3;have same:∀{n q:Int},cQ M (rows.map aj) (fH aq wd ht)=(n,q,rows.map aj)->q≠0->∀{u:World},Ext w u->Ending.returned (.tuple #[.int .i64 n,.int .i64 q])=Value.tuple #[.int .i64 (cQ M (rows.map aj) (fH aq wd ht)).1,.int .i64 (cQ M (rows.map aj) (fH aq wd ht)).2.1]/\mi F w m s o t M occ (sZ M rows (fH aq wd ht)) u:=λ{n q} he hq {u} xu=>by unfold sZ;rw [he];rw [if_neg hq];exact ⟨rfl,h.res xu⟩
 refine ⟨_,rfl,x3.heap aa,x3.heap aa,Br.mk (λq=> ?_) (λq=> ?_)⟩
 ·have q:(fH aq wd ht).may=false:=by simpa using q
  exact same (by unfold cQ;rw [if_pos q]) aA Da
 have q:¬(fH aq wd ht).may=false:=by simpa using q
 refine ⟨λn x y wr=>∃j:Nat,x=(j:Int)-1/\j=n/\j<=16/\wr=w3/\((y= -1/\∀(i:Nat)(r:iz),j<=i->rows[i]? =some r->r.1=true)\/(∃i:Nat,y=i/\j<=i/\i<16/\(∃r:iz,rows[i]? =some r/\r.1=false)/\∀(k:Nat)(r:iz),j<=k->k<i->rows[k]? =some r->r.1=true)),⟨16,rfl,rfl,16,rfl,rfl,ak _,rfl,.inl ⟨rfl,λi r hi hr=>by have:=(bZ.1 hr).1;omega⟩⟩,?_⟩;rintro n6 us x y bo ⟨j,rfl,rfl,aFj,rfl,hy⟩;apply Br.mk<;>intro hc
 ·have hc:(j:Int)-1>=0:=by simpa using hc
  obtain ⟨i,rfl⟩:∃i,j=i+1:=⟨j-1,aa⟩;have e1:((i+1:Nat):Int)-1=(i:Int):=by omega
  rw [e1];obtain ⟨r,xi⟩:=bq (l:=rows) (i:=i) aa;have hi:(rows.map lv)[i]? =some (lv r):=by rw [aS,xi];rfl
  have wk:aw ((i:Int)-1)=(i:Int)-1:=wI;refine ⟨⟨some ⟨b,0,none⟩,16,16⟩,ldm Da,inb Da i aa,iS rfl ⟨r.1,(rk Da).at hi (mlA r),Br.mk (λhb=> ?_) (λhb=> ?_)⟩⟩
  ·have hb:r.1=false:=by simpa using hb
   refine ⟨i,aa,rfl,rfl,i,wk,rfl,aa,rfl,.inr ⟨i,rfl,ak _,aa,⟨r,xi,hb⟩,λk r hk BW=>by omega⟩⟩
  ·have hb:r.1=true:=by simpa using hb
   refine ⟨i,aa,rfl,rfl,i,wk,rfl,aa,rfl,?_⟩;rcases hy with ⟨hy1,m4⟩|⟨i',hy1,h1,h2,h3,h4⟩
   ·refine .inl ⟨hy1,λk r' hk hr'=> ?_⟩;by_cases hki:k=i
    ·subst hki;rw [xi] at hr';rw [<-Option.some.inj hr'];exact hb
    ·exact m4 k r' aa hr'
   ·refine .inr ⟨i',hy1,aa,h2,h3,λk r' hk BW hr'=> ?_⟩;by_cases hki:k=i
    ·subst hki;rw [xi] at hr';rw [<-Option.some.inj hr'];exact hb
    ·exact h4 k r' aa BW hr'
 have hc:¬(j:Int)-1>=0:=by simpa using hc
 have hj0:j=0:=by omega
 subst hj0;have hfree:qN (rows.map aj)=y:=X4 hn (by
  rcases hy with ⟨h1,h2⟩|⟨i,h1,h2,h3,h4,h5⟩
  ·exact .inl ⟨h1,λi r hr=>h2 i r (Nat.zero_le _) hr⟩
  ·exact .inr ⟨i,h1,h3,h4,λk r hk hr=>h5 k r (Nat.zero_le _) hk hr⟩)
 apply Br.mk<;>intro q2
 ·have q2:y<0:=by simpa using q2
  exact same (by unfold cQ;rw [if_neg q,hfree,if_pos q2]) aA Da
 have q2:¬y<0:=by simpa using q2
 obtain ⟨k,hyk,xk⟩:∃k:Nat,y=k/\k<16:=by
  rcases hy with ⟨h1,-⟩|⟨i,h1,-,h3,-⟩
  ·omega
  ·exact ⟨i,h1,h3⟩
 subst hyk;refine (Dy (h.ext Da) (fH aq wd ht)).mono ?_;rintro e bH ⟨rfl,cB⟩;have z14:=cB.size;have aFm:=m7 bH;have aeZ:=Da.tr cB;refine ⟨_,rfl,cB.heap aa,cB.heap aa,Br.mk (λq3=> ?_) (λq3=> ?_)⟩
 ·have q3:pP M (fH aq wd ht)=false:=by simpa using q3
  exact same (by unfold cQ;rw [if_neg q,hfree,if_neg q2,if_pos q3]) aA aeZ
 have q3:¬pP M (fH aq wd ht)=false:=by simpa using q3
 have viewS:∀{u:World},Ext w u->Vc.ld u (af (some ⟨m,0,none⟩) 0)=some (.pointer (some ⟨o,0,none⟩))/\ae 27 #[o] u λe w'=>e=Value.func (.func 83) #[t] #[]/\w'=u:=λxu=>by obtain ⟨Fs,hs,-,ko,-⟩:=(h.ext xu).xz;obtain ⟨Fw,hW,-,-⟩:=hs.world;exact ⟨ko,iH hW⟩
 have parL:∀{u:World},Ext w2 u->ah u (some ⟨w0.heap.size,0,none⟩) 0 (kc (fH aq wd ht)):=λxu=>Lo.wv (r2.ext xu)
 refine ⟨_,(viewS aeZ.drew).1,(viewS aeZ.drew).2.mono ?_⟩;rintro e cL ⟨rfl,awO⟩;subst awO;refine ⟨_,rfl,rfl,rfl,parL ((x3.tr cB).drew),(Ca (fH aq wd ht) hw bH.drew).mono ?_⟩;rintro e fK ⟨rfl,db⟩;have z19:=db.size;refine ⟨_,_,_,_,_,_,rfl,db.heap aa,db.heap aa,?_⟩
 try refine ⟨parL (((x3.tr cB).drew).tr db),?_⟩
 refine (o5 (h.ext (aeZ.drew.tr db)).tl rfl (fH aq wd ht).box).mono ?_;rintro e gx ⟨rfl,jN⟩;have z26:=jN.size;have aFn:=m7 gx;have J2:=(aeZ.drew.tr db).tr jN;have aqW:=(((x3.tr cB).drew).tr db).tr jN;refine ⟨_,rfl,jN.heap aa,jN.heap aa,Br.mk (λq4=> ?_) (λq4=> ?_)⟩
 ·exact same (by unfold cQ;rw [if_neg q,hfree,if_neg q2,if_neg q3,if_pos q4]) aA J2
 refine ⟨_,(viewS J2.drew).1,(viewS J2.drew).2.mono ?_⟩;rintro e eG ⟨rfl,awQ⟩;subst awQ;refine ⟨_,rfl,rfl,rfl,parL aqW.drew,(Ca (fH aq wd ht) hw gx.drew).mono ?_⟩;rintro e gS ⟨rfl,lp⟩;have z31:=lp.size;refine ⟨_,_,_,_,_,_,rfl,lp.heap aa,lp.heap aa,?_⟩
 try refine ⟨parL (aqW.drew.tr lp),?_⟩
 refine (nL (h.ext (J2.drew.tr lp)).tl rfl (fH aq wd ht).box).mono ?_;rintro e oE ⟨rfl,km⟩;have z38:=km.size;have awR:=(J2.drew.tr lp).tr km;refine ⟨_,rfl,km.heap aa,km.heap aa,λkz VO=> ?_⟩;have pF:Ext w kz.drew:=(awR.ab VO aa).drew;have z40:kz.drew.heap.size=oE.heap.size:=by show kz.heap.size=_;exact zR VO
 have hspawn:cQ M (rows.map aj) (fH aq wd ht)=((k:Int),0,(rows.map aj).set k (some ({fH aq wd ht with fG:=iI (gz M.T.2) (jB (fH aq wd ht).box) ao},(0,0,false)))):=by unfold cQ;rw [if_neg q,hfree,if_neg q2,if_neg q3,if_neg (by rw [q4];decide)];rfl
 have hsr:sZ M rows (fH aq wd ht)=rows.set k (true,({fH aq wd ht with fG:=iI (gz M.T.2) (jB (fH aq wd ht).box) ao},(0,0,false))):=by unfold sZ;rw [hspawn,if_pos rfl,hfree];rfl
 rw [hspawn,hsr];obtain ⟨p0,p1,p2⟩:=acB hn (hr.ext pF) xk (true,({fH aq wd ht with fG:=iI (gz M.T.2) (jB (fH aq wd ht).box) ao},(0,0,false)));have hpb:bk (af (some ⟨b,0,none⟩) ((k:Int).toNat*13))=some b:=by rw [aV];rfl
 have hbw:=h.lt hFb;refine ⟨⟨some ⟨b,0,none⟩,16,16⟩,ldm pF,inb pF k xk,⟨p0,p1⟩,by rw [hpb];intro q;injection q with q;omega,by rw [hpb];intro q;injection q with q;omega,λlf XE=>⟨rfl,?_⟩⟩;obtain ⟨q1,q2⟩:=p2 lf XE;have awS:Mod (λi=>i=b) w lf:=(Mod.aC pF).trans q2;exact bf awS q1 (by rw [iE];exact hn)
end
def Fe(rows:List iz)(i:Nat)(b:dw):List iz:=match rows[i]? with|some r=>rows.set i (r.1,(b,r.2.2))|none=>rows
def LF(rows:List iz)(l:List (Nat × dw)):List iz:=l.foldl (λL x=>Fe L x.1 x.2) rows
def nq(M:Sm)(rows:List iz):List iz:=LF rows ((fg M (rows.map aj)).zip (sm M (rows.map aj)))
def aex{rows:List iz}{i:Nat}{b:dw}:(Fe rows i b).length=rows.length:=by
 unfold Fe;split
 ·rw [iE]
 ·rfl
def aam{rows:List iz}{i:Nat}{b:dw}:(Fe rows i b).map aj=vp (rows.map aj) i b:=by
 unfold Fe vp
 cases hq:rows[i]? with
 |none=>
  have:bC (rows.map aj) ((i:Nat):Int)=none:=by unfold bC;rw [if_pos aa,dQ,aS,hq];rfl
  rw [this]
 |some r=>
  rw [pZ (rows:=rows) (n:=(i:Nat)) rfl hq];obtain ⟨th,bd,vz⟩:=r
  cases th with
  |false=>
   show ((rows.set i (false,(b,vz))).map aj)=rows.map aj;rw [jY];have hi:=(bZ.1 hq).1;refine jt λj=> ?_
   by_cases e:i=j
   ·subst e;rw [oM (by rw [aL];exact hi),aS,hq];rfl
   ·rw [xK e]
  |true=>
   show ((rows.set i (true,(b,vz))).map aj)=(rows.map aj).set i (some (b,vz));rw [jY];rfl
def Ia:∀(l:List (Nat × dw))(rows:List iz),(LF rows l).map aj=AP (rows.map aj) l
 | [],rows=>rfl
 |x::l,rows=>by
  show (LF (Fe rows x.1 x.2) l).map aj=AP (vp (rows.map aj) x.1 x.2) l
  rw [Ia l,aam]
def LG:∀(l:List (Nat × dw))(rows:List iz),(LF rows l).length=rows.length
 | [],rows=>rfl
 |x::l,rows=>(LG l (Fe rows x.1 x.2)).trans aex
def lW(M:Sm)(rows:List iz):(nq M rows).map aj=kD M (rows.map aj):=Ia _ _
abbrev Ib(M:Sm)(rows:List iz)(j:Nat):List iz:=LF rows (((fg M (rows.map aj)).zip (sm M (rows.map aj))).take j)
def Vr{M:Sm}{rows:List iz}{j:Nat}{i:Nat}{b:dw}(hi:(fg M (rows.map aj))[j]? =some i)(hb:(sm M (rows.map aj))[j]? =some b):Ib M rows (j+1)=Fe (Ib M rows j) i b:=by
 have e:((fg M (rows.map aj)).zip (sm M (rows.map aj)))[j]? =some (i,b):=by rw [List.getElem?_zip_eq_some];exact ⟨hi,hb⟩
 unfold Ib LF;rw [dy,e,pW];rfl
def GH{K:Nat}{v r:LV}{off:Nat}:∀{l:List (LV)} {k:Nat} {r':LV},(∀r ∈ l,r.length=K)->l[k]? =some r->off+v.length<=K->aP r off v=r'->aP l.flatten (k*K+off) v=(l.set k r').flatten
 | [],k,_,_,hk,_,_=>absurd hk bg
 |a::l,0,r',hl,hk,hv,e=>by
  have ha:=hl a bg
  have hk:a=r:=by simpa using hk
  subst hk;subst e;rw [jC,List.set_cons_zero,jC,Nat.zero_mul,eC,de v (a++l.flatten) off (by rw [bQ];omega),de v a off aa,Eb aa,List.drop_append_of_le_length aa,fz,fz,fz]
 |a::l,k+1,r',hl,hk,hv,e=>by have ha:=hl a bg;rw [jC,WT,jC,show (k+1)*K+off=a.length+(k*K+off) from by rw [ha,pL,Nat.one_mul];omega,lN,GH (λr hr=>hl r (by simp [hr])) (by simpa using hk) hv e]
def ah1{rows:List iz}(hn:rows.length=16){b:Nat}{w:World}(hr:Row w b (rows.map lv).flatten DD){k:Nat}(hk:k<16)(x:dw):(af (af (aD b) ((k:Int).toNat*13)) 1).isSome=true/\Wr w (af (af (aD b) ((k:Int).toNat*13)) 1) 9/\bk (af (af (aD b) ((k:Int).toNat*13)) 1)=some b/\
  ∀w',w'=Vc.bF w (af (af (aD b) ((k:Int).toNat*13)) 1) (kc x)->Row w' b ((Fe rows k x).map lv).flatten DD/\Mod (λi=>i=b) w w':=by
 obtain ⟨r,VP⟩:=bq (l:=rows) (i:=k) aa;have IH:(rows.map lv).flatten.length=16*13:=by
  have:=bA (k:=13) (rows:=rows.map lv) λr hr=>by obtain ⟨x,-,rfl⟩:=aU.1 hr;rfl
  rw [this,aL,hn]
 rw [dn,dQ];obtain ⟨p1,p2⟩:=nM hr (off:=k*13+1) (vs:=kc x) (by rw [IH];show _+9<=_;omega) (CB x);refine ⟨rfl,p1,by rw [aV];rfl,λw' e=> ?_⟩;obtain ⟨q1,q2⟩:=p2 w' e;refine ⟨?_,q2⟩;have ph:Fe rows k x=rows.set k (r.1,(x,r.2.2)):=by unfold Fe;rw [VP]
 have c9:(rows.map lv)[k]? =some (lv r):=by rw [aS,VP];rfl
 have:aP (rows.map lv).flatten (k*13+1) (kc x)=((Fe rows k x).map lv).flatten:=by rw [ph,jY];exact GH (λr hr=>by obtain ⟨y,-,rfl⟩:=aU.1 hr;rfl) c9 (by show 1+9<=13;decide) rfl
 rw [<-this];exact q1
section
variable {F F':Nat->Prop} {w w':World} {m s o t:Nat} {M M':Sm} {occ:Value} {rows:List iz}
abbrev al7(g:Nat):Value:=.func (.func 120) #[] #[g]
def mOc{g:Nat}{τ:TypeId}(h:MF F w m s o t M occ rows){n:Int}(hL:qB n (rows.map aj))(hg:Row w g [m] τ)(hgF:¬F g):∃Fs,SF Fs w s o t M occ/\Oc (al7 g) (mE (rows.map aj)) Fs w/\Vc.ld w (af (aD m) 1)=some (.pointer (aD s))/\∀{w':World} {M':Sm} {occ':Value},mC Fs w s o t M' occ' w'->mi F w m s o t M' occ' rows w':=by
 obtain ⟨Fs,h1,h2,-,h3,h4⟩:=h.xz;obtain ⟨b,hm,hr,hn,-⟩:=h.Pk;have nm:¬Fs m:=h1.jf hm oO.1.1 oO.1.2.1 oO.1.2.2.1 oO.1.2.2.2.1 oO.1.2.2.2.2.1 oO.1.2.2.2.2.2.1 oO.1.2.2.2.2.2.2;have nb:¬Fs b:=h1.jf hr oO.2.1.1 oO.2.1.2.1 oO.2.1.2.2.1 oO.2.1.2.2.2.1 oO.2.1.2.2.2.2.1 oO.2.1.2.2.2.2.2.1 oO.2.1.2.2.2.2.2.2;refine ⟨Fs,h1,⟨λi=>i=m\/i=b\/i=g,λi hi=> ?_,λw' hk c _=>cH (by kernel_rfl) rfl ?_⟩,h2,h4⟩
 ·rcases hi with rfl|rfl|rfl
  ·exact ⟨hm.lt,nm⟩
  ·exact ⟨hr.lt,nb⟩
  ·exact ⟨hg.lt,λq=>hgF (h3 _ q)⟩
 ·have hm':=hm.same (hk _ (.inl rfl));have hr':=hr.same (hk _ (.inr (.inl rfl)));have hg':=hg.same (hk _ (.inr (.inr rfl)));apply (yk.vc (c0:=⟨g,0,none⟩));intro w0 e0;have x0:=aQ e0;have z0:=zA e0;have hl0:Vc.ld w0 (aD g)=some (.pointer (aD m)):=by rw [(hg'.ext x0).ld];rfl
  refine ⟨aD m,hl0,(QV (hm'.ext x0) (hr'.ext x0) hn hL c).mono ?_⟩;rintro e w2 ⟨rfl,x2⟩;exact ⟨_,rfl,x2.heap aa,rfl,x0.tr x2⟩
end
section
variable {F F':Nat->Prop} {w w':World} {m s o t:Nat} {M M':Sm} {occ:Value} {rows:List iz}
def U3(h:MF F w m s o t M occ rows){n:Int}(hL:qB n (rows.map aj))(Jk:0<=n)(hn:n<=99900000000000)(hd:KS (pc M))(hk:sO M 600000)(anK:1<=M.dD/\M.dD<=64):
  ae 65 #[m] w λe w'=>e=Value.int .i64 (pc M).length/\mi F w m s o t (jH M (rows.map aj)).1 (al7 w) (nq M rows) w':=by
 apply Cj.vc;intro w0 e0;have x0:=aQ e0;have z0:=zA e0;have r0:∃τ,Row w0 w [m] τ:=⟨_,by rw [e0];exact Row.new w [_] _⟩;obtain ⟨τ,r0⟩:=r0;have h0:=h.ext x0;have hwF:¬F w:=λq=>by have:=h.lt q;omega
 obtain ⟨b,hm,hr,Em,-,hFb,hmb,bf⟩:=h0.Pk;have hbw:=h.lt hFb;have hwl:=FL M (rows.map aj);have ldm:∀{u:World},Ext w0 u->Vc.ld u (af (aD m) 2)=some (.slice (aD b) 16 16):=λxu=>(hm.ext xu).at 2 rfl
 have rk:∀{u:World},Ext w0 u->RdK u ⟨aD b,16,16⟩ 13 (rows.map lv):=λxu=>ye (hr.ext xu) Em
 have inb:∀k:Nat,k<16->eL (aD b) (k:Int) 16:=λk hk=>(rk (Ext.cG _)).jd (i:=(k:Int)) aA aa (by show (k:Int)<((16:Nat):Int);omega)
 have parL:∀{u:World},Ext w0 u->ah u (aD w.heap.size) 0 [m]:=λxu=>Lo.wv (r0.ext xu)
 have atk:∀i:Nat,i ∈ fg M (rows.map aj)->∃r,rows[i]? =some r/\i<16/\bC (rows.map aj) ((i:Nat):Int)=some r.2:=λi hi=>by
  obtain ⟨h1,y,hy⟩:=vq hi;obtain ⟨r,xi⟩:=bq (l:=rows) (i:=i) aa;refine ⟨r,xi,h1,?_⟩;rw [pZ (rows:=rows) (n:=(i:Nat)) rfl xi] at hy ⊢;unfold aj at hy ⊢;split at hy
  ·rename_i hb;rw [if_pos hb]
  ·cases hy
 let num:Nat->LV:=λi=> [.int .i64 (i:Int)]
 refine ⟨λn x sl wr=>∃k:Nat,x=k/\k+n=16/\ar w0 3 1 wr sl (((List.range k).filter (mF M (rows.map aj))).map num)/\Ext w0 wr,⟨16,rfl,0,rfl,rfl,ar.nil,Ext.cG _⟩,?_⟩;rintro n1 us x sl wr ⟨k,rfl,hk',ho,xr⟩;have zr:=xr.size;apply Br.mk<;>intro hb
 ·have hb:(k:Int)<16:=by simpa using hb
  obtain ⟨r,VP⟩:=bq (l:=rows) (i:=k) aa;have hi:(rows.map lv)[k]? =some (lv r):=by rw [aS,VP];rfl
  have Jn:=pZ (rows:=rows) (n:=k) rfl VP;have wk:=ov (j:=k);have dp:sl.n<=16:=by have h1:=(ho.rd (show 0<1 by decide)).n;have h2:=Au (mF M (rows.map aj)) (List.range k);rw [aL] at h1;rw [DT] at h2;omega
  have skip:mF M (rows.map aj) k=false->∀{u:World},Ext wr u->∃n7,n7<n1/\aN [m]/\∃k':Nat,aw ((k:Int)+1)=k'/\k'+n7=16/\ar w0 3 1 u ⟨sl.a,sl.n,sl.c⟩ (((List.range k').filter (mF M (rows.map aj))).map num)/\Ext w0 u:=λhq {u} xu=>by refine ⟨n1-1,aa,rfl,k+1,wk,aa,?_,xr.tr xu⟩;rw [DU,tV,bJ,Px (by rw [hq];decide)];simpa using ho.ext xu
  have xd:=Ext.dr wr;have zd:=m7 wr;refine ⟨⟨aD b,16,16⟩,ldm (xr.tr xd),inb k aa,iS rfl ⟨r.1,(rk (xr.tr xd)).at hi (mlA r),Br.mk (λhb=> ?_) (λhb=>skip ?_ xd)⟩⟩
  ·have hlr:aj r=some r.2:=by unfold aj;rw [if_pos hb]
   rw [hlr] at Jn;have hwake:mF M (rows.map aj) k=pP M r.2.1:=by unfold mF;rw [Jn]
   refine ⟨⟨aD b,16,16⟩,ldm (xr.tr xd),inb k aa,iS rfl ⟨_,_,_,_,_,_,_,_,_,sG (rk (xr.tr xd)) hi (mlB r),(Dy (h0.ext (xr.tr xd)) r.2.1).mono ?_⟩⟩;rintro e fx ⟨rfl,dN⟩;have z20:=dN.size;have abJ:=(xr.tr xd).tr dN;refine ⟨_,rfl,dN.heap aa,lo1 (ldm abJ),parL abJ,lo1 ((rk abJ).at hi (mlA r)),lo1 (ldm abJ),parL abJ,Br.mk (λhq=>λdm zi=> ?_) (λhq=>skip (by rw [hwake];exact hq) (xd.tr dN))⟩;subst zi;obtain ⟨J7,hres8⟩:=(ho.ext (xd.tr dN)).j9 (bytes:=8) (news:=[.int .i64 (k:Int)]) (.cells #[.int .i64 (k:Int)] 3) aa rfl (vd _ _) aa aa;refine ⟨J7,λs23 gC aBl=> ?_⟩;obtain ⟨f8,FW,hn8,x8,LX,-⟩:=hres8 s23 gC aBl;have xa:Ext fx (fx.alloc (.cells #[.int .i64 (k:Int)] 3)):=(aQ rfl);have hparam:gC.heap[w.heap.size]? =(fx.alloc (.cells #[.int .i64 (k:Int)] 3)).heap[w.heap.size]? :=(x8.block _ aa).trans (xa.heap aa).symm;refine ⟨hparam,f8,n1-1,aa,rfl,k+1,wk,aa,?_,Below.trans abJ x8⟩;rw [DU,tV,bJ,Pu (by rw [hwake];exact hq)];exact FW
  ·have hb:r.1=false:=by simpa using hb
   have hlr:aj r=none:=by unfold aj;rw [if_neg (by rw [hb];decide)]
   rw [hlr] at Jn;unfold mF;rw [Jn]
 have hb:¬(k:Int)<16:=by simpa using hb
 have xk:k=16:=by omega
 subst xk;replace ho:ar w0 3 1 wr sl ((fg M (rows.map aj)).map num):=ho;have uT:sl.n=(fg M (rows.map aj)).length:=by rw [(ho.rd (show 0<1 by decide)).n,aL]
 have slk:∀b,sl.aZ=some b->w0.heap.size<=b/\b<wr.heap.size:=λb hb=>ho.own.lt hb
 have viewS:∀{u:World},Ext w0 u->Vc.ld u (af (aD m) 0)=some (.pointer (aD o))/\ae 27 #[o] u λe w'=>e=Value.func (.func 83) #[t] #[]/\w'=u:=λxu=>by obtain ⟨Fs,hs,-,ko,-⟩:=(h0.ext xu).xz;obtain ⟨Fw,hW,-,-⟩:=hs.world;exact ⟨ko,iH hW⟩
 refine ⟨λn x s2 gR=>∃j:Nat,x=j/\j+n=(fg M (rows.map aj)).length/\ar wr BV 9 gR s2 ((((fg M (rows.map aj)).take j).map (lT M (rows.map aj))).map kc)/\Ext wr gR,⟨(fg M (rows.map aj)).length,rfl,0,rfl,aa,ar.nil,Ext.cG _⟩,?_⟩;rintro n2 zF x s2 gR ⟨j,rfl,hj,Jl,nu⟩;have z30:=nu.size;apply Br.mk<;>intro hb
 ·have hb:(j:Int)<sl.n:=by simpa using hb
  obtain ⟨i,hi⟩:=bq (l:=fg M (rows.map aj)) (i:=j) aa;obtain ⟨r,xi,IV,Jn⟩:=atk i (aO hi);have xd:=Ext.dr gR;have zd:=m7 gR;have S4:=xr.tr (nu.tr xd);have IU:=(ho.ext (nu.tr xd)).rd (show 0<1 by decide);have hri2:((fg M (rows.map aj)).map num)[j]? =some [.int .i64 (i:Int)]:=by rw [aS,hi];rfl
  have N5:=IU.at hri2 (j:=0) (v:=.int .i64 (i:Int)) rfl;rw [dn] at N5;have hii:(rows.map lv)[i]? =some (lv r):=by rw [aS,xi];rfl
  refine ⟨⟨aD b,16,16⟩,ldm S4,IU.jd aA aa aa,_,N5,inb i IV,_,_,_,_,_,_,_,_,_,_,_,_,_,(rk S4).bI hii,λnA e47 iw e48=> ?_⟩;have Dd:Ext gR.drew iw.drew:=((aQ e47).ab e48 (ak _)).drew;have z48:iw.drew.heap.size=gR.drew.heap.size+1:=by show iw.heap.size=_;rw [zR e48,zA e47]
  have r48:∃τ,Row iw.drew gR.drew.heap.size (lv r) τ:=⟨_,by rw [e48,e47];exact (Row.set (Row.new gR.drew [_,_,_,_,_,_,_,_,_,_,_,_,_] _) (lv r)).ext (Ext.dr _)⟩;obtain ⟨τ',r48⟩:=r48;have J6:=S4.tr Dd;refine ⟨_,(viewS J6).1,(viewS J6).2.mono ?_⟩;rintro e qo ⟨rfl,aBn⟩;subst aBn;have oky:=hL r.2 (AQ Jn);have lin:ah iw.drew (fP gR.drew.heap.size 10) 0 [.int .i64 r.2.2.1,.int .i64 r.2.2.2.1,.bool r.2.2.2.2]:=ti r48 rfl rfl rfl;have lbd:ah iw.drew (fP gR.drew.heap.size 1) 0 (kc r.2.1):=r48.bI (o:=1) λj hj=>by have:=mlB r j hj;rw [<-this]
  refine ⟨_,rfl,rfl,rfl,lin,parL J6,lbd,(Hl (h0.ext J6).tl rfl r.2.1 oky.wdi oky.2.2.2 (oky.Co aa) aa r.2.2).mono ?_⟩;rintro e Ti ⟨rfl,rq⟩;have z52:=rq.size;have aBo:=J6.tr rq;refine ⟨_,_,_,_,_,_,_,_,_,rfl,rq.heap aa,rq.heap aa,parL aBo,λjX e62=> ?_⟩;have ox:=aQ e62;subst e62;have dp:s2.n<=16:=by have h1:=(Jl.rd (show 0<9 by decide)).n;rw [aL,aL,cY] at h1;omega
  have Eu:∀g,s2.aZ=some g->wr.heap.size<=g/\g<gR.heap.size:=λg hg=>Jl.own.lt hg
  obtain ⟨J7,hres8⟩:=(Jl.ext (xd.tr (Dd.tr rq))).j9 (bytes:=72) (news:=kc (su (gz M.T.2) r.2.1 r.2.2)) (.cells (kc (su (gz M.T.2) r.2.1 r.2.2)).toArray BV) aa rfl (CB _) aa aa;refine ⟨J7,λs63 uV aBp=> ?_⟩;obtain ⟨f8,FW,hn8,x8,LX,-⟩:=hres8 s63 uV aBp;have wk:=ov (j:=j);have aBq:Ext w0 uV:=xr.tr (Below.trans (nu.tr (xd.tr (Dd.tr rq))) x8);have k1:=(x8.block w aa).trans (ox.heap aa).symm;have k2:=(LX gR.drew.heap.size (λq=>by have:=Eu _ q;omega) aa).trans (ox.heap aa).symm;refine ⟨k1,k2,f8,parL aBq,n2-1,aa,rfl,j+1,wk,aa,?_,Below.trans (nu.tr (xd.tr (Dd.tr rq))) x8⟩;rw [dy,hi,bJ,bJ];have e1:lT M (rows.map aj) i=su (gz M.T.2) r.2.1 r.2.2:=by unfold lT;rw [Jn]
  show ar _ _ _ _ _ (_++ [kc (lT M (rows.map aj) i)]);rw [e1];exact FW
 have hb:¬(j:Int)<sl.n:=by simpa using hb
 have hjw:j=(fg M (rows.map aj)).length:=by omega
 subst hjw;rw [jg] at Jl;have S4:=xr.tr nu;refine ⟨_,(viewS S4).1,(viewS S4).2.mono ?_⟩;rintro e sQ ⟨rfl,aBr⟩;subst aBr;refine ⟨_,rfl,rfl,(Hm (h0.ext S4).tl rfl Jl (by rw [aL];exact hwl) (Hn hL aa) aa aa).mono ?_⟩;rintro e uK ⟨s69,rfl,agd,qp,bc,XJ⟩;rw [aL] at XJ;replace agd:ar sQ BV 9 uK s69 ((sm M (rows.map aj)).map kc):=agd;replace XJ:(sm M (rows.map aj)).length=(fg M (rows.map aj)).length:=XJ;replace bc:∀b ∈ sm M (rows.map aj),okB (n+16777216+16*16*12582912) b:=bc;have z68:=qp.size;have s69k:∀b,s69.aZ=some b->sQ.heap.size<=b/\b<uK.heap.size:=λb hb=>agd.own.lt hb
 have aBs:s69.n=(fg M (rows.map aj)).length:=by rw [(agd.rd (show 0<9 by decide)).n,aL,XJ]
 have age:=S4.tr qp;have hmw:=hm.lt;refine ⟨s69,rfl,qp.heap aa,λn x oq=>∃j:Nat,x=j/\j+n=(fg M (rows.map aj)).length/\Row oq b ((Ib M rows j).map lv).flatten DD/\Mod (λi=>i=b) uK oq,⟨(fg M (rows.map aj)).length,rfl,0,rfl,aa,hr.ext age,Mod.refl _ _⟩,?_⟩;rintro n3 us3 x oq ⟨j,rfl,hj,aoM,m74⟩;have z74:=m74.size;have zz:=age.size;have hlu:(Ib M rows j).length=16:=(LG _ _).trans Em;have wbox:oq.heap[w.heap.size]? =uK.heap[w.heap.size]? :=m74.same _ aa aa;have last:j=(fg M (rows.map aj)).length->∃p88:Option Addr,Vc.ld oq (af (aD m) 1)=some (.pointer p88)/\
   ae 118 #[p88,.func (.func 120) #[] #[w]] oq λe qw=>e=ya/\
    ∃p90:Option Addr,Vc.ld qw (aD w.heap.size)=some (.pointer p90)/\aT (fq p90) (aT (fq p90) (∃p91:Option Addr,Vc.ld qw (af p90 1)=some (.pointer p91)/\
     ae 119 #[p91] qw λe Kg=>∃Ep:Int,e=Ep/\Ending.returned Ep=Value.int .i64 (pc M).length/\mi F w m s o t (jH M (rows.map aj)).1 (al7 w) (nq M rows) Kg)):=by
  intro hjw;subst hjw;have hup:Ib M rows (fg M (rows.map aj)).length=nq M rows:=by unfold Ib nq;rw [fl (by rw [List.length_zip,XJ];omega)]
  rw [hup] at aoM hlu;obtain ⟨F74,h74,t74⟩:=bf ((Mod.aC age).trans m74) aoM hlu;have atZ:¬F74 w:=λq=>by
   rcases t74.sub _ q with q|q
   ·exact hwF q
   ·omega
  have hr74b:Row oq w [m] τ:=(r0.ext age).same wbox;obtain ⟨Fs,hs,ko,-,-,hresS⟩:=h74.xz;refine ⟨_,ko,(AR hs (.func 120) #[] #[w]).mono ?_⟩;rintro e qw ⟨rfl,aBu,-⟩;refine ⟨rfl,?_⟩;obtain ⟨F89,h89,t89⟩:=hresS aBu;have aBv:¬F89 w:=λq=>by
   rcases t89.sub _ q with q|q
   ·exact atZ q
   ·omega
  have hr89b:=t89.mod.row hr74b atZ;have aBw:qB (n+3300000000) ((nq M rows).map aj):=by rw [lW];exact FM _ (hL.up aa) λx hx=>(bc x.2 (List.of_mem_zip hx).2).up aa
  obtain ⟨Fs2,Eu,hO,hld2,hres2⟩:=mOc h89 aBw hr89b aBv;rw [lW] at hO;refine ⟨_,by rw [hr89b.ld];rfl,iS rfl (iS rfl ⟨_,hld2,(KU Eu hO hd hk anK).mono ?_⟩)⟩;rintro e Kg ⟨rfl,aBx⟩;obtain ⟨F92,h92,t92⟩:=hres2 aBx;exact ⟨_,rfl,rfl,F92,h92,(aJ.aC x0).trans (t74.trans (t89.trans t92))⟩
 apply Br.mk<;>intro hb
 ·have hb:(j:Int)<sl.n:=by simpa using hb
  refine yes (by rw [aBs,<-uT];simpa using hb) ?_;obtain ⟨i,hi⟩:=bq (l:=fg M (rows.map aj)) (i:=j) aa;obtain ⟨x,hx⟩:=bq (l:=sm M (rows.map aj)) (i:=j) aa;obtain ⟨r,xi,IV,Jn⟩:=atk i (aO hi);have xd:=Ext.dr oq;have zd:=m7 oq;have hrd69:=((m74.gU agd λg hg q=>by have:=s69k g hg;omega).ext xd).rd (show 0<9 by decide);have hrx:((sm M (rows.map aj)).map kc)[j]? =some (kc x):=by rw [aS,hx];rfl
  have IU:=((m74.gU ((ho.ext nu).ext qp) λg hg q=>by have:=slk g hg;omega).ext xd).rd (show 0<1 by decide);have hri2:((fg M (rows.map aj)).map num)[j]? =some [.int .i64 (i:Int)]:=by rw [aS,hi];rfl
  have N5:=IU.at hri2 (j:=0) (v:=.int .i64 (i:Int)) rfl;rw [dn] at N5;have aBy:=(((hm.ext age).same (m74.same _ aa hmb)).ext xd);obtain ⟨p0,p1,pb,p2⟩:=ah1 hlu (aoM.ext xd) IV x;refine ⟨⟨aD b,16,16⟩,aBy.at 2 rfl,IU.jd aA aa aa,_,N5,hrd69.jd aA aa aa,_,_,_,_,_,_,_,_,_,hrd69.bI hrx,inb i IV,iS rfl ⟨⟨p0,p1⟩,by rw [pb];intro q;injection q with q;omega,λEo e87=> ?_⟩⟩;obtain ⟨q1,q2⟩:=p2 Eo e87;have wk:=ov (j:=j);refine ⟨n3-1,aa,rfl,j+1,wk,aa,?_,m74.trans ((Mod.aC xd).trans q2)⟩;rw [Vr hi hx];exact q1
 ·have hb:¬(j:Int)<sl.n:=by simpa using hb
  exact last aa
end
open Tryz
variable {R:Ending->World->Prop} {w:World} {a0 a1 dq ef dj aoO aoP ajx ajy aoQ aoR aoS:Int}
def U0.vc{a0:Addr}{a1:Addr}{agf:Int}{XN:Int}{XO:Int}{XP:Int}{XQ:Int}{XR:Int}{XS:Bool}(h:(λA (B:Array Value) C (D:LV) (E:Array Value) G=>
 Aw w #[dq,ef,dj,aoO,aoP,ajx,ajy,aoQ,aoR,aoS,agf,XN,XO,XP,XQ,XR,XS] 45 λw0=>
 ae 10 #[ef,(4:Int)] w0 (Ri λx2 w1=>(λAa (Ab:Array Value) (Ac:Array Value)=>Kp w w0 w1/\
 ae 51 #[.agg #[aoO,aoP]] w1 (Ra2 λx4 x5 w3=>(λAd (Ae:Array Value)=>Kp w w1 w3/\
 Aw w3 #[ai,ai] 40 λw6=>
 Sw w6 w3 Ae λw7=>
 gZ w7 (af (some a0) 0) λp8=>
 ae 18 #[p8] w7 (AG λL4 w9=>Ad w7 w9 (
 ae 19 #[L4] w9 (AG λDn bw=>Ad w9 bw (
 gZ bw (af (some a1) 0) λSU=>
 ae 19 #[SU] bw (AG λOw bH=>Ad bw bH (
 Br (Dn).isNone
 (R false bH)
 (Br (Ow).isNone
 (R false bH)
 (Br (dq==0)
 (ae 20 #[Dn,.agg Ae] bH.drew (Ri λdH cD=>Ad bH.drew cD (
 ah cD (aD w3) 0 [x4,x5]/\ae 20 #[Ow,.agg Ae] cD (Ri λdb dI=>Ad cD dI (
 R (uD (dH==db)) dI)))))
 (Br (dq==1)
 (ae 21 #[Dn,.agg Ae] bH.drew (Ri λeO fx=>Ad bH.drew fx (
 ah fx (aD w3) 0 [x4,x5]/\ae 21 #[Ow,.agg Ae] fx (Ri λfC dm=>Ad fx dm (
 R (uD (eO==fC)) dm)))))
 (Br (dq==2)
 (ae 22 #[Dn] bH (Qm λeZ jN gC=>Ad bH gC (
 ae 22 #[Ow] gC (Qm λnv jk fy=>Ad gC fy (
 Br (eZ==nv)
 (R (uD (jN==jk)) fy)
 (R false fy))))))
 (Br (dq==3)
 (ae 52 #[.agg #[aoR,aoS,agf]] bH (jl λlp lr fD gR=>(λAf (Ag:Array Value)=>Ad bH gR (
 Aw gR #[ai,ai,ai] 28 λlq=>
 Sw lq gR Ag λgT=>
 ae 10 #[ajx,(60000:Int)] gT (Ri λlh kH=>Af gT kH (
 ae 10 #[ajy,(120000:Int)] kH (Ri λqv oE=>Af kH oE (
 ae 11 #[a0,.agg Ag,lh,qv] oE (Qm λom qU kz=>Af oE kz (
 ae 53 #[a1,.agg Ag,lh,qv] kz (Qm λpk uN jW=>Af kz jW (
 Br (om==pk)
 (R (uD (qU==uN)) jW)
 (R false jW))))))))))) (K3 w w3 gR) #[lp,lr,fD]))
 (Br (dq==4)
 (ae 54 #[a0,x2,.agg #[XQ,XR,XS]] bH (Ri λxl sI=>Ad bH sI (
 kB sI A λs48=>
 eL s48.a x2 s48.n/\aT (fq (af s48.a Aa)) (DJ sI (af (af s48.a Aa) 0) λb49=>
 Br b49
 (kB sI.drew A λs50=>(λAh=>
 eL s50.a x2 s50.n/\aT (fq (af s50.a Aa)) (((Ah).isSome=true/\Wr sI.drew Ah 3)/\bk Ah≠some w.heap.size/\bk Ah≠some w3.heap.size/\(Pw sI.drew Ah [XQ,XR,XS] λuL=>
 kB uL A λs52=>
 eL s52.a x2 s52.n/\aT (fq (af s52.a Aa)) (DJ uL (af (af s52.a Aa) 0) λb53=>
 Br ((xl==0)==b53)
 (Br (xl==0)
 (R true uL)
 (R (uD (xl==6)) uL))
 (R false uL))))) (af (af s50.a Aa) 10))
 (kB sI A λLW=>
 eL LW.a x2 LW.n/\aT (fq (af LW.a Aa)) (DJ sI (af (af LW.a Aa) 0) λb55=>
 Br ((xl==0)==b55)
 (Br (xl==0)
 (R true sI)
 (R (uD (xl==6)) sI))
 (R false sI)))))))
 (Br (dq==5)
 (ae 56 #[dj] bH.drew (Ri λrJ sJ=>Ad bH.drew sJ (
 ah sJ G 0 [dj]/\ah sJ C 0 D/\ah sJ C 0 D/\ae 55 #[a0,x2,.agg B,rJ] sJ (Ri λuo Er=>Ad sJ Er (
 ah Er G 0 [dj]/\ah Er C 0 D/\ae 56 #[dj] Er (Ri λzI oU=>Ad Er oU (
 ah oU C 0 D/\ae 57 #[a1,x2,.agg B,zI] oU (Ri λuQ jX=>Ad oU jX (
 R (uD (uo==uQ)) jX)))))))))
 (Br (dq==6)
 (ae 33 Ab bH (Qm λsR oI uV=>Ad bH uV (
 ae 58 Ac uV (Qm λqp wN oy=>Ad uV oy (
 Br (sR==qp)
 (R (uD (oI==wN)) oy)
 (R false oy))))))
 (Br (dq==7)
 (ae 28 #[.agg #[ajx,ajy,aoQ]] bH (jl λuM wM uW qD=>(λAi (Aj:LV) (Ak:Array Value) Al=>Ad bH qD (
 Aw qD #[ai,ai,ai] 41 λoq=>
 Sw oq qD Ak λrC=>
 ae 56 #[dj] rC.drew (Ri λx77 pH=>Ai rC.drew pH (
 ah pH G 0 [dj]/\ah pH Al 0 Aj/\ah pH Al 0 Aj/\ae 59 #[a0,.agg Ak,x77] pH (Ri λKc rD=>Ai pH rD (
 ah rD G 0 [dj]/\ah rD Al 0 Aj/\ae 56 #[dj] rD (Ri λzJ xX=>Ai rD xX (
 ah xX Al 0 Aj/\ae 60 #[a1,.agg Ak,zJ] xX (Ri λFl w82=>Ai xX w82 (
 R (uD (Kc==Fl)) w82)))))))))) (K3 w w3 qD) [uM,wM,uW] #[uM,wM,uW] (aD qD)))
 (Br (dq==8)
 (ae 13 #[a0,x2] bH (Ri λKf Jg=>Ad bH Jg (
 kB Jg A λs86=>
 eL s86.a x2 s86.n/\aT (fq (af s86.a Aa)) (DJ Jg (af (af s86.a Aa) 0) λb87=>
 kB Jg A λs88=>(λAm=>
 eL s88.a x2 s88.n/\((Am).isSome=true/\Wr Jg Am 13)/\bk Am≠some w.heap.size/\bk Am≠some w3.heap.size/\(Pw Jg Am [.bool false,ai,ai,ai,ai,ai,ai,ai,ai,false,ai,ai,false] λqw=>
 Br ((Kf==0)==b87)
 (Br (Kf==0)
 (R true qw)
 (R (uD (Kf==6)) qw))
 (R false qw))) (af s88.a Aa)))))
 (Br (dq==9)
 (ae 35 #[a0] bH (Ri λFZ qq=>Ad bH qq (
 ae 62 #[a1] qq (λe Kg=>∃(Ep:Int)(s94 s95:Sl),e=Value.agg #[Ep,s94,s95]/\Ad qq Kg (
 ae 34 #[.agg #[Ep,s94,s95]] Kg (Rs λs97 Es=>Ad Kg Es (
 ae 61 #[Ow,s97] Es (Ri λOl Tj=>Ad Es Tj (
 R (uD (FZ==Ol)) Tj)))))))))
 (Br (dq==10)
 (ae 32 Ab bH (Yd λoJ vY zB Kj zC Dg BL po=>Ad bH po (
 Aw po E 77 λNJ=>
 Sw NJ po #[oJ,vY,zB,Kj,zC,Dg] λrE=>
 ae 63 Ac rE (Yd λuP kT Kl Si aiS afC aiM IM=>K3 w w3 po rE IM (
 Aw IM E 77 λou=>
 Sw ou IM #[uP,kT,Kl,Si,aiS,afC] λDi=>(λBa=>
 Br (BL==aiM)
 (Br ((oJ==uP) &&((vY==kT) &&(zB==Kl)))
 (Br (Kj==Si)
 (Br (zC==aiS)
 (R (uD (Dg==afC)) Di)
 Ba)
 Ba)
 Ba)
 Ba) (R false Di))))))
 (ae 64 #[a0] bH (Ri λabo xt=>Ad bH xt (
 ae 65 #[a1] xt (Ri λN0 uR=>Ad xt uR (
 R (uD (abo==N0)) uR)))))))))))))))))))))))) (K2 w w3) #[x4,x5])) ((x2:Int).toNat*13) #[a0,x2,.agg B] #[a1,x2,.agg B])) (af (some a1) 2) #[XN,XO,XP] (fP w 11) [XN,XO,XP] #[ai,ai,ai,ai,ai,ai] (fP w 2)):ae 15 #[a0,a1,.agg #[dq,ef,dj,aoO,aoP,ajx,ajy,aoQ,aoR,aoS,agf,XN,XO,XP,XQ,XR,XS]] w R:=
 cq bG func15 h
def FQ{a b:List Int}(ha:mM a)(hb:mM b):mM (a++b):=λx hx=>(bX.1 hx).elim (ha x) (hb x)
def Xt(n:Int):mM (jb n):=λx hx=>by
 obtain ⟨q,-,rfl⟩:=aU.1 hx
 exact adK n q
def Ii{α:Type}{f:α->List Int}{l:List α}(h:∀x ∈ l,mM (f x)):mM (l.map f).flatten:=λx hx=>by
 obtain ⟨r,hr,hx⟩:=List.mem_flatten.1 hx
 obtain ⟨y,hy,rfl⟩:=aU.1 hr
 exact h y hy x hx
def RQ(l:List Int):mM (my l):=Ii λx _=>Xt x
def aia(n m:Int):mM [n % 256,m % 256]:=λx hx=>by
 simp at hx
 rcases hx with rfl|rfl<;>omega
def MO(M:Sm)(L:List (Option cM)):mM (cr M L):=by
 unfold cr dh dT gl;refine FQ (FQ (FQ (Xt _) λx hx=> ?_) (Ii λx hx=> ?_)) (FQ (aia _ _) (Ii λx _=>RQ _))
 ·simp at hx;omega
 ·obtain ⟨i,rfl,hi,y,hy⟩:=vv hx;unfold DX iN;rw [hy];intro z hz;rcases cp.1 hz with rfl|hz
  ·omega
  ·rcases bX.1 hz with hz|hz
   ·exact RQ _ z hz
   ·have:z=stB y.1.fG:=by simpa using hz
    rw [this];unfold stB;split<;>decide
def aib(M:Sm)(L:List (Option cM)):(cr M L).length<=50000:=by have h1:=tz L (bn L);have h2:=vu L;have h3:=Hu (M.q.l.take 2000);rw [cY] at h3;unfold cr dh gl;rw [bQ,bQ,bQ,bQ,h3,pX];simp only [bR,lV];omega
section
variable {F F':Nat->Prop} {w w':World} {g s o t m:Nat} {M M':Sm} {occ:Value} {L:List (Option cM)} {rows:List iz}
def uh{ch:List Cg}{T:Tb}{ag limit:Int}(h:WF F w o t ag limit T ch)(hW:T.1.l.length<=900000):
  ae 22 #[t] w λe w'=>e=Value.tuple #[.int .i64 (ie T.1 T.2).2.1,.int .i64 (ie T.1 T.2).2.2]/\Gr F w o t ag limit (ie T.1 T.2).1 ch w':=by
 obtain ⟨F1,hT,-,bf⟩:=h.table;refine (Fg hT hW).mono ?_;rintro e w' ⟨rfl,hr⟩;exact ⟨rfl,bf hr⟩
def RR{ch:List Cg}{T:Tb}{ag limit:Int}(h:WF F w o t ag limit T ch)(hW:T.1.l.length<=1000000)(sl:Sl)(b:List Int)(hs:iA w sl b)(hb:mM b)(hn:b.length<=1099511627776):
  ae 61 #[t,sl] w λe w'=>e=Value.int .i64 (lk T.1 0 b).2/\Gr F w o t ag limit ((lk T.1 0 b).1,T.2) ch w':=by
 obtain ⟨F1,hT,-,bf⟩:=h.table;refine (RT hT hW sl b hs hb hn).mono ?_;rintro e w' ⟨rfl,hr⟩;exact ⟨rfl,bf hr⟩
def EF.world(h:EF F w g s o t M occ L):∃Fw,WF Fw w o t M.ag M.cap M.T M.ch/\∀{w':World} {T':Tb} {ch':List Go.dR.Cg},Gr Fw w o t M.ag M.cap T' ch' w'->gJ F w g s o t {M with T:=T',ch:=ch'} occ L w':=by obtain ⟨Fs,hs,-,-,bf⟩:=h.xz;obtain ⟨Fw,hW,-,hresW⟩:=hs.world;exact ⟨Fw,hW,λhr=>bf (hresW hr)⟩
def MF.world(h:MF F w m s o t M occ rows):∃Fw,WF Fw w o t M.ag M.cap M.T M.ch/\∀{w':World} {T':Tb} {ch':List Go.dR.Cg},Gr Fw w o t M.ag M.cap T' ch' w'->mi F w m s o t {M with T:=T',ch:=ch'} occ rows w':=by obtain ⟨Fs,hs,-,-,-,bf⟩:=h.xz;obtain ⟨Fw,hW,-,hresW⟩:=hs.world;exact ⟨Fw,hW,λhr=>bf (hresW hr)⟩
abbrev adq(M:Sm)(L:List (Option cM)):Sm:={M with T:=((lk M.T.1 0 (cr M L)).1,M.T.2)}
def Ze(h:EF F w g s o t M occ L)(hW:M.T.1.l.length<=1000000):ae 35 #[g] w λe w'=>e=Value.int .i64 (lk M.T.1 0 (cr M L)).2/\gJ F w g s o t (adq M L) occ L w':=by apply yY.vc;have xd:=Ext.cG w;have hd:=h;obtain ⟨Fs,hs,ko,-,-⟩:=hd.xz;obtain ⟨Fw,hW0,-,-⟩:=hs.world;refine ⟨_,ko,(gL hs).mono ?_⟩;rintro e w1 ⟨rfl,SZ⟩;subst SZ;refine ⟨_,rfl,(kU hW0).mono ?_⟩;rintro e w2 ⟨rfl,Df⟩;subst Df;refine ⟨_,rfl,(vC hd).mono ?_⟩;rintro e w3 ⟨sl,rfl,ho,x3⟩;obtain ⟨Fw3,hW3,bf⟩:=(hd.ext x3).world;have hl:=aib M L;refine ⟨sl,rfl,(RR hW3 hW sl (cr M L) (ho.rd aA) (MO M L) aa).mono ?_⟩;rintro e w4 ⟨rfl,hr⟩;exact ⟨_,rfl,rfl,gJ.aC (xd.tr x3) (bf hr)⟩
end
structure Ja where
 kind:Int
 n:Int
 b:Int
 p:Po
 c:Ce
 aq:Ce
 cV:Ce
 vz:FE
abbrev dL(d:Ja):LV:=[.int .i64 d.kind,.int .i64 d.n,.int .i64 d.b,.int .i64 d.p.1,.int .i64 d.p.2,.int .i64 d.c.1,.int .i64 d.c.2.1,.int .i64 d.c.2.2,.int .i64 d.aq.1,.int .i64 d.aq.2.1,.int .i64 d.aq.2.2,.int .i64 d.cV.1,.int .i64 d.cV.2.1,.int .i64 d.cV.2.2,.int .i64 d.vz.1,.int .i64 d.vz.2.1,.bool d.vz.2.2]
abbrev dV(d:Ja):Value:=.agg (dL d).toArray
def dIn(d:Ja):Prop:=dJ d.kind/\dJ d.n/\dJ d.b/\(dJ d.p.1/\dJ d.p.2)/\rT d.c/\rT d.aq
def DZ(rows:List iz)(i:Int)(vz:FE):List iz:=match rows[i.toNat]? with|some r=>if r.1=true then rows.set i.toNat (r.1,(r.2.1,vz)) else rows|none=>rows
def A1(rows:List iz)(i:Int):List iz:=rows.set i.toNat (false,(Py,(0,0,false)))
abbrev ix(d:Ja):Int:=cu d.n 4
abbrev Qt(d:Ja):dw:=fH (Qu d.aq) (cu d.c.1 60000) (cu d.c.2.1 120000)
def jM(M:Sm)(rows:List iz)(d:Ja):Sm × List iz:=
 if d.kind=0 then ({M with T:=(yh M.ag M.cap M.T.1 M.T.2 (oB d.p)).1},rows)
 else if d.kind=1 then ({M with T:=(iF M.T.1 M.T.2 (oB d.p)).1},rows)
 else if d.kind=2 then ({M with T:=(ie M.T.1 M.T.2).1},rows)
 else if d.kind=3 then (M,sZ M rows (Qt d))
 else if d.kind=4 then (M,DZ rows (ix d) d.vz)
 else if d.kind=5 then ((gg M (rows.map aj) (ix d) d.cV (wX d.b)).2,rows)
 else if d.kind=6 then ((fu M (rows.map aj) (ix d) d.cV).2,rows)
 else if d.kind=7 then ((c8 M (rows.map aj) (xI d.c) (wX d.b)).2,rows)
 else if d.kind=8 then (M,A1 rows (ix d))
 else if d.kind=9 then (adq M (rows.map aj),rows)
 else if d.kind=10 then (M,rows)
 else ((jH M (rows.map aj)).1,nq M rows)
def Qv(b:dw):Prop:=(-1000000<=b.speed.1/\b.speed.1<=1000000)/\-1000000<=b.speed.2.2/\b.speed.2.2<=1000000
def okT(x:ej.It):Prop:=CU x.2/\0<=x.1/\x.1<=2000000000000
structure Jv(k:Nat)(M:Sm)(L:List (Option cM)):Prop where
 b:qB (1200000+3300000000*(k:Int)) L
 s:sO M (3000*k)
 d:M.T.1.l.length<=20*k
 t:∀e ∈ M.T.2,oN e.1
 q:∀x ∈ M.q.l,okT x
 x:∀y,some y ∈ L->Qv y.1
 u:1<=M.dD/\M.dD<=64
def Jv.mono{k n:Nat}{M:Sm}{L:List (Option cM)}(h:Jv k M L)(hk:k<=n):Jv n M L:=⟨h.b.up aa,h.s.mono aa,by have:=h.d;omega,h.t,h.q,h.x,h.u⟩
def Xn{D:Dk}{l:List En}{i:Nat}:(∀e ∈ l,oN e.1)->∀e ∈(Ey D l i).1.2,oN e.1:=by
 intro h;unfold Ey;split
 ·exact h
 ·rename_i e he;split
  ·exact λx hx=>h x ((xG ..).subset hx)
  ·intro x hx;rcases iV hx with hx|rfl
   ·exact h x hx
   ·have h1:(bu D e).2.1.1=e.1:=by unfold bu;split<;>rfl
    rw [h1];exact h e (aO he)
def aqC{D:Dk}{l:List En}{i:Nat}:(Ey D l i).1.2.length<=l.length:=by
 unfold Ey;split
 ·exact ak _
 ·split
  ·exact List.length_eraseIdx_le ..
  ·rw [iE];exact ak _
def LB{limit:Int}{D:Dk}{l:List En}(h:∀e ∈ l,oN e.1):∀e ∈(dC limit D l).1.2,oN e.1:=by
 unfold dC;split
 ·exact h
 ·split
  ·exact h
  ·exact Xn h
def aqj{ag limit:Int}{D:Dk}{l:List En}{p:Po}(h:∀e ∈ l,oN e.1):(∀e ∈(yh ag limit D l p).1.2,oN e.1)/\(yh ag limit D l p).1.1.l.length<=D.l.length+1:=by
 unfold yh;split
 ·exact ⟨h,by simp only;omega⟩
 split
 ·refine ⟨λe he=> ?_,by simp only;omega⟩;rcases bX.1 he with he|he
  ·exact h e ((xG ..).subset he)
  ·exact h e (aO (Option.mem_toList.1 he))
 split
 ·exact ⟨LB h,MN _ _ _⟩
 ·refine ⟨λe he=> ?_,MN _ _ _⟩;rename_i hp _ _;rcases bX.1 he with he|he
  ·exact LB h e he
  ·rw [fT.1 he];simpa using hp
def ahx{D:Dk}{l:List En}{p:Po}(h:∀e ∈ l,oN e.1):(∀e ∈(iF D l p).1.2,oN e.1)/\(iF D l p).1.1.l.length<=D.l.length+1/\(iF D l p).1.2.length<=l.length:=by
 unfold iF;split
 ·split
  ·exact ⟨h,by simp only;omega,ak _⟩
  ·exact ⟨Xn h,ajI _ _ _,aqC⟩
 ·exact ⟨h,by simp only;omega,ak _⟩
def adw:∀(l:List En) {D:Dk} {pre:List En} {n:Int},(∀e ∈ pre,oN e.1)->(∀e ∈ l,oN e.1)->(∀e ∈(BU D pre l n).1.2,oN e.1)/\(BU D pre l n).1.1.l.length<=D.l.length+l.length/\(BU D pre l n).1.2.length=pre.length+l.length
 | [],D,pre,n,hp,_=>⟨hp,by simp [BU],by simp [BU]⟩
 |e::l,D,pre,n,hp,hl=>by
  have h1:(bu D e).2.1.1=e.1:=by unfold bu;split<;>rfl
  have hl1:=MM D e;have he:=hl e bg;unfold BU;split
  ·obtain ⟨q1,q2,q3⟩:=adw l (D:=(bu D e).1) (pre:=pre++ [(bu D e).2.1]) (n:=if e.2.2.1=true then n+1 else n) (λx hx=>by
    rcases bX.1 hx with hx|hx
    ·exact hp x hx
    ·rw [fT.1 hx,h1];exact he) λx hx=>hl x (by simp [hx])
   rw [bQ,List.length_singleton] at q3;exact ⟨q1,by rw [bR];omega,by rw [bR];omega⟩
  ·refine ⟨λx hx=> ?_,by rw [bR];simp only;omega,bg⟩;simp only at hx;rcases bX.1 hx with hx|hx
   ·exact hp x hx
   ·rcases cp.1 hx with rfl|hx
    ·rw [h1];exact he
    ·exact hl x (by simp [hx])
def LC{l:List En}{c:Ce}{b:Int}(h:(fb l c b).2=0):FH c/\∃e ∈ l,e.1=pos c:=by
 unfold fb at h;split at h
 ·simp only at h;omega
 rename_i h1;split at h
 ·simp only at h;omega
 rename_i h2;refine ⟨by simpa using h2,?_⟩;rcases eM (λe:En=>e.1==pos c) l with ⟨e,-⟩|⟨k,x,hx,hq,-,-⟩
 ·rw [e] at h1;omega
 ·exact ⟨x,aO hx,by simpa using hq⟩
def Xo{l:List En}{c:Ce}{b:Int}(h:∀e ∈ l,oN e.1):∀e ∈(fb l c b).1,oN e.1:=by
 unfold fb;split
 ·exact h
 split
 ·exact h
 split
 ·exact h
 ·intro e he;rcases bX.1 he with he|he
  ·exact h e ((xG ..).subset he)
  ·obtain ⟨x,hx,rfl⟩:=xE.1 (Option.mem_toList.1 he);exact h x (aO hx)
def aeu{c:Ce}(h:oN (pos c))(hy:FH c):(-9000000<=c.1/\c.1<=9000000)/\(0<=c.2.1/\c.2.1<32)/\-9000000<=c.2.2/\c.2.2<=9000000:=by unfold oN pos at h;unfold FH at hy;simp only at h;omega
def Xp{q:QS}{c:Ce}{t:Int}{x:ej.It}(h:x ∈(mj q c t).1.l):x ∈ q.l\/x=(t,c):=by
 unfold mj at h;split at h
 ·split at h
  ·exact .inl h
  ·rcases (HN _ _ _).1 h with h|h
   ·exact .inr h
   ·exact .inl ((CS q.l c).subset h)
 ·split at h
  ·exact .inl h
  ·rcases (HN _ _ _).1 h with h|h
   ·exact .inr h
   ·exact .inl h
def Xq{V:Ce->Int}{now:Int}{c:Ce}:∀(l:List Ce) {q:QS} {x:ej.It},x ∈(l.foldl (λq n=>(mj q n (now+ki (V n))).1) q).l->x ∈ q.l\/(x.2 ∈ l/\now<=x.1/\x.1<=now+5)
 | [],q,x,h=> .inl h
 |n::l,q,x,h=>by
  rcases Xq (c:=c) l h with h|h
  ·rcases Xp h with h|h
   ·exact .inl h
   ·have:=QA (V n)
    exact .inr (by rw [h];exact ⟨bg,by simp only;omega,by simp only;omega⟩)
  ·exact .inr ⟨DI _ h.1,h.2⟩
def aal{V:Ce->Int}{c:Ce}(h:(-9000000<=c.1/\c.1<=9000000)/\(0<=c.2.1/\c.2.1<32)/\-9000000<=c.2.2/\c.2.2<=9000000):∀n ∈ tB V c,CU n:=by intro n hn;have hn:=(ju.1 hn).1;obtain ⟨x,y,z⟩:=c;simp only at h;unfold CU;simp only [rG,cp,lJ,or_false] at hn;rcases hn with rfl|rfl|rfl|rfl|rfl|rfl|rfl<;>(try simp only [fe,Ef])<;>omega
def Nr(M:Sm):Prop:=(∀e ∈ M.T.2,oN e.1)/\(∀x ∈ M.q.l,okT x)/\0<=M.now/\M.now<=1099511627776
def Nr.edit{M:Sm}(h:Nr M)(c:Ce)(b:Int):Nr (vA M c b):=by
 refine ⟨Xo h.1,λx hx=> ?_,h.2.2⟩;have hx:x ∈(if (fb M.T.2 c b).2=0 then HC (gz (fb M.T.2 c b).1) M.now M.q c else M.q).l:=hx;split at hx
 ·rename_i h0;obtain ⟨hy,e,he,hp⟩:=LC h0;have hc:=aeu (by rw [<-hp];exact h.1 e he) hy;rcases Xq (c:=c) _ hx with hx|⟨hx,h1,h2⟩
  ·exact h.2.1 x hx
  ·have:=h.2.2;exact ⟨aal hc _ hx,aa,aa⟩
 ·exact h.2.1 x hx
def Nr.change{M:Sm}(h:Nr M)(x:Go.dR.Cg):Nr (bT M x):=by
 unfold bT;split
 ·exact h
 ·exact h.edit _ _
def Nr.changes:∀(l:List Go.dR.Cg) {M:Sm},Nr M->Nr (l.foldl bT M)
 | [],M,h=>h
 |x::l,M,h=>Nr.changes l (h.change x)
def Nr.upd{M:Sm}(h:Nr M)(O:Ce->Bool){c:Ce}(hc:CU c):Nr (kh O M c):=by
 unfold kh;split
 ·refine ⟨h.1,λx hx=> ?_,h.2.2⟩;rcases Xp hx with hx|hx
  ·exact h.2.1 x hx
  ·have:=h.2.2;rw [hx];exact ⟨hc,by simp only;omega,by simp only;omega⟩
 split
 ·exact Nr.change (M:={M with jI:=M.jI++ [fe c]}) h (c,0)
 ·exact Nr.changes _ h
def Nr.Zc(O:Ce->Bool):∀(l:List Ce) {M:Sm},KS l->Nr M->Nr (l.foldl (kh O) M)
 | [],M,_,h=>h
 |c::l,M,hl,h=>Nr.Zc O l (λy hy=>hl y (by simp [hy])) (h.upd O (hl c bg))
def Nr.due{M:Sm}(h:Nr M):KS (pc M):=λy hy=>by
 have hy:y ∈(M.q.l.take (jc M.q.l (tA M) M.dD)).map (·.2):=hy
 obtain ⟨x,hx,rfl⟩:=aU.1 hy
 exact (h.2.1 x (mB hx)).1
def Nr.tick{M:Sm}(h:Nr M)(O:Ce->Bool):Nr (AZ O M):=Nr.Zc O _ h.due ⟨h.1,λx hx=>h.2.1 x (Ar (show x ∈ M.q.l.drop _ from hx)),by have:=h.2.2;show 0<=tA M/\tA M<=_;unfold tA;omega⟩
def vR:∀(l:List Go.dR.Cg)(M:Sm),(l.foldl bT M).dD=M.dD
 | [],M=>rfl
 |x::l,M=>(vR l (bT M x)).trans (by unfold bT;split<;>rfl)
def Vo(O:Ce->Bool)(M:Sm)(c:Ce):(kh O M c).dD=M.dD:=by
 unfold kh;split
 ·rfl
 split
 ·unfold bT;split<;>rfl
 ·exact vR _ _
def DY(O:Ce->Bool):∀(l:List Ce)(M:Sm),(l.foldl (kh O) M).dD=M.dD
 | [],M=>rfl
 |c::l,M=>(DY O l (kh O M c)).trans (Vo O M c)
def MS(O:Ce->Bool)(M:Sm):(AZ O M).dD=M.dD:=DY O _ _
def wB(O:Ce->Bool):∀(l:List Ce)(M:Sm),(l.foldl (kh O) M).T.1=M.T.1
 | [],M=>rfl
 |c::l,M=>(wB O l (kh O M c)).trans (by
  have ch:∀(M:Sm)(x:Go.dR.Cg),(bT M x).T.1=M.T.1:=λM x=>by unfold bT;split<;>rfl
  have chs:∀(l:List Go.dR.Cg)(M:Sm),(l.foldl bT M).T.1=M.T.1:=λl=>by
   induction l with
   |nil=>exact λM=>rfl
   |cons x l ih=>exact λM=>(ih _).trans (ch M x)
  unfold kh
  split
  ·rfl
  split
  ·exact ch _ _
  ·exact chs _ _)
def ahs{V:Ce->Int}{i k:Nat}{l:List dw}{m:Int}(h:∀b ∈ l,okB m b)(hm:m<=99970000000000):(∀b ∈ vx V i k l,okB (m+12582912) b)/\(vx V i k l).length=l.length:=by
 unfold vx;split
 ·rename_i a b ha hb;refine ⟨λx hx=> ?_,by rw [iE,iE]⟩;rcases iV hx with hx|rfl
  ·rcases iV hx with hx|rfl
   ·exact (h x hx).up aa
   ·exact vy (h a (aO ha)) hm
  ·exact vy (h b (aO hb)) hm
 ·exact ⟨λx hx=>(h x hx).up aa,rfl⟩
def UE{V:Ce->Int}{i:Nat}:∀(n k:Nat) {l:List dw} {m:Int},(∀b ∈ l,okB m b)->m+n*12582912<=99970000000000->(∀b ∈ EW V i k n l,okB (m+n*12582912) b)/\(EW V i k n l).length=l.length
 |0,k,l,m,h,hm=>⟨λx hx=>(h x hx).up aa,rfl⟩
 |n+1,k,l,m,h,hm=>by
  obtain ⟨q1,q2⟩:=ahs (V:=V) (i:=i) (k:=k) h aa
  obtain ⟨p1,p2⟩:=UE (V:=V) (i:=i) n (k+1) q1 aa
  exact ⟨λx hx=>(p1 x hx).up aa,p2.trans q2⟩
def ajK{V:Ce->Int}:∀(n i:Nat) {l:List dw} {m:Int},l.length<=16->(∀b ∈ l,okB m b)->m+n*(16*12582912)<=99970000000000->(∀b ∈ crB V i n l,okB (m+n*(16*12582912)) b)
 |0,i,l,m,hl,h,hm=>λx hx=>(h x hx).up aa
 |n+1,i,l,m,hl,h,hm=>by
  obtain ⟨q1,q2⟩:=UE (V:=V) (i:=i) (l.length-(i+1)) (i+1) h aa
  have p:=ajK (V:=V) n (i+1) (l:=EW V i (i+1) (l.length-(i+1)) l) (m:=m+16*12582912) (by rw [q2];exact hl) (λx hx=>(q1 x hx).up aa) aa
  exact λx hx=>(p x hx).up aa
def adt{V:Ce->Int}{l:List dw}{m:Int}(h:∀b ∈ l,okB m b)(hl:l.length<=16)(hm:m<=99960000000000):∀b ∈ re V l,okB (m+16*16*12582912) b:=λx hx=>(ajK l.length 0 hl h aa x hx).up aa
def Qs{M:Sm}{L:List (Option cM)}{m:Int}(h:qB m L)(hm0:0<=m)(hm:m<=99900000000000):qB (m+3300000000) (kD M L):=by
 refine FM _ (h.up aa) λx hx=> ?_
 have hx:=(List.of_mem_zip hx).2;have hb:=Hn (M:=M) h aa;exact (adt hb (by rw [aL];exact FL M L) aa x.2 hx).up aa
def yD{rows:List iz}(i:Int)(hi:0<=i)(vz:FE):(DZ rows i vz).map aj=(pY (rows.map aj) i vz).2:=by
 obtain ⟨k,rfl⟩:∃k:Nat,i=k:=⟨i.toNat,aa⟩;unfold DZ pY;rw [dQ]
 cases hq:rows[k]? with
 |none=>
  have:bC (rows.map aj) ((k:Nat):Int)=none:=by unfold bC;rw [if_pos aa,dQ,aS,hq];rfl
  rw [this]
 |some r=>
  rw [pZ (rows:=rows) (n:=(k:Nat)) rfl hq];obtain ⟨th,bd,inq⟩:=r
  cases th with
  |false=>rfl
  |true=>
   show ((rows.set k (true,(bd,vz))).map aj)=(rows.map aj).set k (some (bd,vz));rw [jY];rfl
def yE{rows:List iz}(i:Int)(hi:0<=i):(A1 rows i).map aj=(qb (rows.map aj) i).2:=by
 obtain ⟨k,rfl⟩:∃k:Nat,i=k:=⟨i.toNat,aa⟩;unfold A1 qb;rw [dQ,jY];have h0:aj (false,(Py,(0,0,false)))=none:=rfl;rw [h0];split
 ·rename_i h;unfold bC at h;rw [if_pos aa,dQ] at h;show (rows.map aj).set k none=rows.map aj;refine jt λj=> ?_
  by_cases e:k=j
  ·subst e;by_cases hk:k<(rows.map aj).length
   ·rw [oM hk,cX hk];rw [cX hk] at h;simp only [Option.join_some] at h;rw [Option.isNone_iff_eq_none.1 h]
   ·rw [jv (by rw [iE];omega),jv aa]
  ·rw [xK e]
 ·rfl
def aht{L:List (Option cM)}{m:Int}(h:qB m L)(i:Int):qB m (qb L i).2:=by
 unfold qb;split
 ·exact h
 ·intro y hy;rcases iV hy with hy|hy
  ·exact h y hy
  ·cases hy
def ahu{L:List (Option cM)}{m:Int}(h:qB m L)(i:Int)(vz:FE):qB m (pY L i vz).2:=by
 unfold pY
 cases hq:bC L i with
 |none=>exact h
 |some y=>
  intro z hz;rcases iV hz with hz|hz
  ·exact h z hz
  ·cases hz
   unfold bC at hq;split at hq
   ·exact h y (aO (Hw.1 hq))
   ·cases hq
def adu{M:Sm}{L:List (Option cM)}{m:Int}(h:qB m L){b:dw}(hb:okB m b):qB m (cQ M L b).2.2:=by
 unfold cQ;split
 ·exact h
 split
 ·exact h
 split
 ·exact h
 split
 ·exact h
 ·intro z hz;rcases iV hz with hz|hz
  ·exact h z hz
  ·cases hz
   exact hb
def ahv(d:Ja):okB 1200000 (Qt d):=by have h1:=cK d.aq.1 589825 aA;have h2:=cK d.aq.2.1 589825 aA;have h3:=cK d.aq.2.2 589825 aA;have h4:=cK d.c.1 60000 aA;have h5:=cK d.c.2.1 120000 aA;unfold okB Qt fH Qu eK;simp only;omega
abbrev EX(L:List (Option cM)):Prop:=∀y,some y ∈ L->Qv y.1
def alq(h:Ht){b:dw}(hb:Qv b):(-1000000<=(gN h b.speed).1/\(gN h b.speed).1<=1000000)/\-1000000<=(gN h b.speed).2.2/\(gN h b.speed).2.2<=1000000:=by
 have c0:cU 0=0:=by decide
 have e1:(gN h b.speed).1=if h.1=true then cU 0 else b.speed.1:=by
  unfold gN
  cases h.1<;>cases h.2.1<;>cases h.2.2<;>rfl
 have e2:(gN h b.speed).2.2=if h.2.2=true then cU 0 else b.speed.2.2:=by
  unfold gN
  cases h.1<;>cases h.2.1<;>cases h.2.2<;>rfl
 unfold Qv at hb;rw [e1,e2,c0];constructor<;>split<;>omega
def alr(V:Ce->Int)(b:dw)(i:FE):Qv (su V b i):=by
 have h1:Qv (qc b i):=by
  have h0:∀n,-1000000<=AI n/\AI n<=1000000:=λn=>by unfold AI;omega
  exact ⟨h0 _,h0 _⟩
 have h2:Qv (mG V (qc b i) i):=by
  unfold mG;split
  ·exact h1
  ·split<;>exact h1
 exact alq _ h2
def als{V:Ce->Int}{i k:Nat}{l:List dw}(h:∀b ∈ l,Qv b):∀b ∈ vx V i k l,Qv b:=by
 unfold vx;split
 ·rename_i a b ha hb;intro x hx;rcases iV hx with hx|rfl
  ·rcases iV hx with hx|rfl
   ·exact h x hx
   ·exact h a (aO ha)
  ·exact h b (aO hb)
 ·exact h
def ajL{V:Ce->Int}{i:Nat}:∀(n k:Nat) {l:List dw},(∀b ∈ l,Qv b)->∀b ∈ EW V i k n l,Qv b
 |0,k,l,h=>h
 |n+1,k,l,h=>ajL n (k+1) (als h)
def aqh{V:Ce->Int}:∀(n i:Nat) {l:List dw},(∀b ∈ l,Qv b)->∀b ∈ crB V i n l,Qv b
 |0,i,l,h=>h
 |n+1,i,l,h=>aqh n (i+1) (ajL _ _ h)
def aqi{L:List (Option cM)}{i:Nat}{b:dw}(h:EX L)(hb:Qv b):EX (vp L i b):=by
 unfold vp
 cases hq:bC L i with
 |none=>exact h
 |some y=>
  intro z hz;rcases iV hz with hz|hz
  ·exact h z hz
  ·cases hz
   exact hb
def adv:∀(l:List (Nat × dw)) {L:List (Option cM)},EX L->(∀x ∈ l,Qv x.2)->EX (AP L l)
 | [],L,h,_=>h
 |x::l,L,h,hl=>adv l (aqi h (hl x bg)) λy hy=>hl y (by simp [hy])
def alu{M:Sm}{L:List (Option cM)}(h:EX L):EX (kD M L):=by
 refine adv _ h λx hx=>aqh _ _ (λb hb=> ?_) x.2 (List.of_mem_zip hx).2
 obtain ⟨i,hi,rfl⟩:=aU.1 hb;obtain ⟨-,y,hy⟩:=vq hi;unfold lT;rw [hy];exact alr _ _ _
def alv{L:List (Option cM)}(h:EX L)(i:Int):EX (qb L i).2:=by
 unfold qb;split
 ·exact h
 ·intro y hy;rcases iV hy with hy|hy
  ·exact h y hy
  ·cases hy
def alw{L:List (Option cM)}(h:EX L)(i:Int)(vz:FE):EX (pY L i vz).2:=by
 unfold pY
 cases hq:bC L i with
 |none=>exact h
 |some y=>
  intro z hz;rcases iV hz with hz|hz
  ·exact h z hz
  ·cases hz
   unfold bC at hq;split at hq
   ·exact h y (aO (Hw.1 hq))
   ·cases hq
def ahw{M:Sm}{L:List (Option cM)}(h:EX L){b:dw}(hb:Qv b):EX (cQ M L b).2.2:=by
 unfold cQ;split
 ·exact h
 split
 ·exact h
 split
 ·exact h
 split
 ·exact h
 ·intro z hz;rcases iV hz with hz|hz
  ·exact h z hz
  ·cases hz
   exact hb
def Jv.edits{k:Nat}{M:Sm}{L:List (Option cM)}(h:Jv k M L)(c:Ce)(b:Int):Jv (k+1) (vA M c b) L:=by have hN:Nr (vA M c b):=Nr.edit ⟨h.t,h.q,h.s.now⟩ c b;exact ⟨h.b.up aa,(h.s.edit c b).mono aa,by have:=h.d;show M.T.1.l.length<=_;omega,hN.1,hN.2.1,h.x,h.u⟩
def Jv.WX{k:Nat}{M:Sm}{L L':List (Option cM)}(h:Jv k M L)(c:Ce)(b:Int):Jv (k+1) (c8 M L' c b).2 L:=by
 unfold c8;split
 ·exact h.mono (pO _)
 ·exact h.edits c b
def Jv.step{k:Nat}{M:Sm}{rows:List iz}(h:Jv k M (rows.map aj))(d:Ja)(hn:M.T.2.length<=16)(hk:k<=100):Jv (k+1) (jM M rows d).1 ((jM M rows d).2.map aj):=by
 have hd:=h.d;have fj:=h.s.mono (show 3000*k<=3000*(k+1) by omega);have Ks:=h.b.up (show 1200000+3300000000*(k:Int)<=1200000+3300000000*((k+1:Nat):Int) by omega);have hi:=cK d.n 4 aA;unfold jM;split
 ·obtain ⟨q1,q2⟩:=aqj (ag:=M.ag) (limit:=M.cap) (D:=M.T.1) (p:=oB d.p) h.t;exact ⟨Ks,⟨fj.l,fj.c,fj.now,fj.d⟩,by simp only;omega,q1,h.q,h.x,h.u⟩
 split
 ·obtain ⟨q1,q2,-⟩:=ahx (D:=M.T.1) (p:=oB d.p) h.t;exact ⟨Ks,⟨fj.l,fj.c,fj.now,fj.d⟩,by simp only;omega,q1,h.q,h.x,h.u⟩
 split
 ·obtain ⟨q1,q2,-⟩:=adw M.T.2 (D:=M.T.1) (pre:=[]) (n:=0) (λe he=>by cases he) h.t;exact ⟨Ks,⟨fj.l,fj.c,fj.now,fj.d⟩,by simp only [ie];omega,q1,h.q,h.x,h.u⟩
 split
 ·simp only;rw [vf];exact ⟨adu Ks ((ahv d).up aa),fj,aa,h.t,h.q,ahw h.x (by unfold Qv Qt fH;simp only;omega),h.u⟩
 split
 ·simp only;rw [yD _ hi.1];exact ⟨ahu Ks _ _,fj,aa,h.t,h.q,alw h.x _ _,h.u⟩
 split
 ·simp only;unfold gg;split
  ·exact h.mono (pO _)
  split
  ·exact h.mono (pO _)
  split
  ·exact h.mono (pO _)
  split
  ·exact h.mono (pO _)
  split
  ·exact h.mono (pO _)
  ·exact h.WX _ _
 split
 ·simp only;unfold fu;split
  ·exact h.mono (pO _)
  split
  ·exact h.WX _ _
  ·exact h.WX _ _
 split
 ·exact h.WX _ _
 split
 ·simp only;rw [yE _ hi.1];exact ⟨aht Ks _,fj,aa,h.t,h.q,alv h.x _,h.u⟩
 split
 ·have h9:=acx M.T.1 0 (cr M (rows.map aj));exact ⟨Ks,⟨fj.l,fj.c,fj.now,fj.d⟩,by simp only;omega,h.t,h.q,h.x,h.u⟩
 split
 ·exact h.mono (pO _)
 ·simp only;rw [lW];have hN:Nr (jH M (rows.map aj)).1:=Nr.tick (M:=M) ⟨h.t,h.q,h.s.now⟩ _;have hl:=WY (q:=M.q) (now:=tA M) h.u;have iC:sO (tw M) (3000*k):=⟨h.s.l,h.s.c,by have:=h.s.now;show 0<=tA M/\tA M<=_;unfold tA;omega,h.s.d⟩;have hS:sO (jH M (rows.map aj)).1 (3000*k+40*(pc M).length):=sO.Zc _ (pc M) iC;have N6:(pc M).length<=64:=hl;refine ⟨(Qs h.b aa aa).up aa,hS.mono aa,?_,hN.1,hN.2.1,alu h.x,?_⟩
  ·have:(jH M (rows.map aj)).1.T.1=M.T.1:=wB _ _ _;rw [this];omega
  ·have:(jH M (rows.map aj)).1.dD=M.dD:=MS _ _;rw [this];exact h.u
structure Ad where
 g:Nat
 s:Nat
 o:Nat
 t:Nat
 m:Nat
 s':Nat
 o':Nat
 t':Nat
def uS(K:Nat->Prop)(w0 w:World)(a:Ad)(Me:Sm)(Le:List (Option cM))(Mm:Sm)(rows:List iz):Prop:=
 ∃(F F':Nat->Prop)(occ occ':Value),EF F w a.g a.s a.o a.t Me occ Le/\MF F' w a.m a.s' a.o' a.t' Mm occ' rows/\(∀i,F i->¬F' i)/\(∀i,F i->w0.heap.size<=i)/\(∀i,F' i->w0.heap.size<=i)/\(∀j,K j->¬F j/\¬F' j/\j<w.heap.size)/\Ext w0 w
section
variable {K:Nat->Prop} {w0 w u w':World} {a:Ad} {Me Mm M:Sm} {Le:List (Option cM)} {rows:List iz}
def uS.e(h:uS K w0 w a Me Le Mm rows):∃F occ,EF F w a.g a.s a.o a.t Me occ Le/\∀{w':World} {M':Sm} {occ':Value} {L':List (Option cM)},gJ F w a.g a.s a.o a.t M' occ' L' w'->uS K w0 w' a M' L' Mm rows/\∀j,K j->w'.heap[j]? =w.heap[j]? :=by
 obtain ⟨F,F',occ,occ',h1,h2,h3,h4,h5,h6,h7⟩:=h;refine ⟨F,occ,h1,?_⟩;rintro w' M' oc L' ⟨G,g1,g2⟩;have hz:=g2.mod.size;obtain ⟨x,f⟩:=g2.fresh h7 h4;refine ⟨⟨G,F',oc,occ',g1,h2.same λi hi=>g2.mod.same i (h2.lt hi) λq=>h3 i q hi,g2.apart h3 λi hi=>h2.lt hi,f,h5,λj hj=> ?_,x⟩,λj hj=>g2.mod.same j (h6 j hj).2.2 (h6 j hj).1⟩;obtain ⟨k1,k2,k3⟩:=h6 j hj;refine ⟨λq=> ?_,k2,aa⟩;rcases g2.sub j q with q|q
 ·exact k1 q
 ·omega
def uS.m(h:uS K w0 w a Me Le Mm rows):∃F occ,MF F w a.m a.s' a.o' a.t' Mm occ rows/\∀{w':World} {M':Sm} {occ':Value} {rows':List iz},mi F w a.m a.s' a.o' a.t' M' occ' rows' w'->uS K w0 w' a Me Le M' rows'/\∀j,K j->w'.heap[j]? =w.heap[j]? :=by
 obtain ⟨F,F',occ,occ',h1,h2,h3,h4,h5,h6,h7⟩:=h;refine ⟨F',occ',h2,?_⟩;rintro w' M' oc rows' ⟨G,g1,g2⟩;have hz:=g2.mod.size;obtain ⟨x,f⟩:=g2.fresh h7 h5;refine ⟨⟨F,G,occ,oc,h1.same λi hi=>g2.mod.same i (h1.lt hi) λq=>h3 i hi q,g1,λi hi hg=>g2.apart (G:=F) (λi hi hf=>h3 i hf hi) (λi hi=>h1.lt hi) i hg hi,h4,f,λj hj=> ?_,x⟩,λj hj=>g2.mod.same j (h6 j hj).2.2 (h6 j hj).2.1⟩;obtain ⟨k1,k2,k3⟩:=h6 j hj;refine ⟨k1,λq=> ?_,aa⟩;rcases g2.sub j q with q|q
 ·exact k2 q
 ·omega
def uS.mK(h:uS K w0 w a Me Le Mm rows):∃F occ,MF F w a.m a.s' a.o' a.t' Mm occ rows/\(∀j,K j->¬F j)/\∀{w':World} {M':Sm} {occ':Value} {rows':List iz},mi F w a.m a.s' a.o' a.t' M' occ' rows' w'->uS K w0 w' a Me Le M' rows'/\∀j,K j->w'.heap[j]? =w.heap[j]? :=by
 obtain ⟨F,F',occ,occ',h1,h2,h3,h4,h5,h6,h7⟩:=h;refine ⟨F',occ',h2,λj hj=>(h6 j hj).2.1,?_⟩;rintro w' M' oc rows' ⟨G,g1,g2⟩;have hz:=g2.mod.size;obtain ⟨x,f⟩:=g2.fresh h7 h5;refine ⟨⟨F,G,occ,oc,h1.same λi hi=>g2.mod.same i (h1.lt hi) λq=>h3 i hi q,g1,λi hi hg=>g2.apart (G:=F) (λi hi hf=>h3 i hf hi) (λi hi=>h1.lt hi) i hg hi,h4,f,λj hj=> ?_,x⟩,λj hj=>g2.mod.same j (h6 j hj).2.2 (h6 j hj).2.1⟩;obtain ⟨k1,k2,k3⟩:=h6 j hj;refine ⟨k1,λq=> ?_,aa⟩;rcases g2.sub j q with q|q
 ·exact k2 q
 ·omega
def uS.ext(h:uS K w0 w a Me Le Mm rows)(x:Ext w u):uS (λj=>K j\/w.heap.size<=j/\j<u.heap.size) w0 u a Me Le Mm rows:=by
 obtain ⟨F,F',occ,occ',h1,h2,h3,h4,h5,h6,h7⟩:=h;have hz:=x.size;refine ⟨F,F',occ,occ',h1.ext x,h2.ext x,h3,h4,h5,λj hj=> ?_,h7.tr x⟩;rcases hj with hj|⟨j1,j2⟩
 ·obtain ⟨k1,k2,k3⟩:=h6 j hj;exact ⟨k1,k2,aa⟩
 ·exact ⟨λq=>by have:=h1.lt q;omega,λq=>by have:=h2.lt q;omega,j2⟩
def uS.mono{K':Nat->Prop}(h:uS K w0 w a Me Le Mm rows)(hs:∀j,K' j->K j):uS K' w0 w a Me Le Mm rows:=by obtain ⟨F,F',occ,occ',h1,h2,h3,h4,h5,h6,h7⟩:=h;exact ⟨F,F',occ,occ',h1,h2,h3,h4,h5,λj hj=>h6 j (hs j hj),h7⟩
def uS.same(h:uS K w0 w a Me Le Mm rows)(x:Ext w u):uS K w0 u a Me Le Mm rows/\∀j,K j->u.heap[j]? =w.heap[j]? :=⟨(h.ext x).mono λj hj=> .inl hj,λj hj=>by
 obtain ⟨F,F',occ,occ',h1,h2,h3,h4,h5,h6,h7⟩:=h
 exact x.heap (h6 j hj).2.2⟩
def uS.e0(h:uS K w0 w a Me Le Mm rows):Vc.ld w (af (aD a.g) 0)=some (.pointer (aD a.s))/\(ae 18 #[.pointer (aD a.s)] w λe w'=>e=Value.pointer (aD a.o)/\w'=w)/\
  (ae 19 #[.pointer (aD a.o)] w λe w'=>e=Value.pointer (aD a.t)/\w'=w):=by
 obtain ⟨F,occ,h1,-⟩:=h.e;obtain ⟨Fs,hs,ko,-⟩:=h1.xz;obtain ⟨Fw,hW,-⟩:=hs.world;exact ⟨ko,gL hs,kU hW⟩
def uS.m0(h:uS K w0 w a Me Le Mm rows):Vc.ld w (af (aD a.m) 0)=some (.pointer (some ⟨a.o',0,none⟩))/\
  (ae 19 #[.pointer (some ⟨a.o',0,none⟩)] w λe w'=>e=Value.pointer (some ⟨a.t',0,none⟩)/\w'=w):=by
 obtain ⟨F,occ,h1,-⟩:=h.m;obtain ⟨Fs,hs,-,ko,-⟩:=h1.xz;obtain ⟨Fw,hW,-⟩:=hs.world;exact ⟨ko,kU hW⟩
def uS.few(h:uS K w0 w a Me Le Mm rows):Me.T.2.length<=16:=by obtain ⟨F,occ,h1,-⟩:=h.e;obtain ⟨Fs,hs,-⟩:=h1.xz;obtain ⟨Fw,hW,-⟩:=hs.world;have:=hW.len;omega
def uS.Gy(h:uS K w0 w a Me Le Mm rows):rows.length=16:=by obtain ⟨F,occ,h1,-⟩:=h.m;obtain ⟨b,-,-,h2,-⟩:=h1.Pk;exact h2
end
def ap6{rows:List iz}(hn:rows.length=16){b:Nat}{w:World}(hr:Row w b (rows.map lv).flatten DD){k:Nat}(hk:k<16){r:iz}(VP:rows[k]? =some r)(i:FE):(af (af (aD b) ((k:Int).toNat*13)) 10).isSome=true/\Wr w (af (af (aD b) ((k:Int).toNat*13)) 10) 3/\bk (af (af (aD b) ((k:Int).toNat*13)) 10)=some b/\
  ∀w',w'=Vc.bF w (af (af (aD b) ((k:Int).toNat*13)) 10) [.int .i64 i.1,.int .i64 i.2.1,.bool i.2.2]->Row w' b ((rows.set k (r.1,(r.2.1,i))).map lv).flatten DD/\Mod (λi=>i=b) w w':=by
 have IH:(rows.map lv).flatten.length=16*13:=by
  have:=bA (k:=13) (rows:=rows.map lv) λr hr=>by obtain ⟨x,-,rfl⟩:=aU.1 hr;rfl
  rw [this,aL,hn]
 rw [dn,dQ];have xg:One [.int .i64 i.1,.int .i64 i.2.1,.bool i.2.2]:=by intro u hu;simp at hu;rcases hu with rfl|rfl|rfl<;>rfl
 obtain ⟨p1,p2⟩:=nM hr (off:=k*13+10) (vs:=[.int .i64 i.1,.int .i64 i.2.1,.bool i.2.2]) (by rw [IH];show _+3<=_;omega) xg;refine ⟨rfl,p1,by rw [aV];rfl,λw' e=> ?_⟩;obtain ⟨q1,q2⟩:=p2 w' e;refine ⟨?_,q2⟩;have c9:(rows.map lv)[k]? =some (lv r):=by rw [aS,VP];rfl
 have:aP (rows.map lv).flatten (k*13+10) [.int .i64 i.1,.int .i64 i.2.1,.bool i.2.2]=((rows.set k (r.1,(r.2.1,i))).map lv).flatten:=by rw [jY];exact GH (λr hr=>by obtain ⟨y,-,rfl⟩:=aU.1 hr;rfl) c9 (by show 10+3<=13;decide) rfl
 rw [<-this];exact q1
def ahD{b:List Int}(h:mM b):InY b:=h
variable {R:Ending->World->Prop} {w:World}
section
variable {F F':Nat->Prop} {w w':World} {g s o t:Nat} {M M':Sm} {occ:Value} {L:List (Option cM)}
def EF.dA(h:EF F w g s o t M occ L){j:Nat}{cs:LV}{τ:TypeId}(hr:Row w j cs τ)(h1:Gq τ)(h2:τ≠sW)(h3:τ≠lI)(h4:τ≠Ck)(h5:τ≠Q.kL)(h6:τ≠Q.cF)(h7:τ≠rF)(h8:τ≠rZ)(h9:τ≠jF):¬F j:=by
 obtain ⟨Fs,av,r1,r2,r3,rfl⟩:=h;rintro (hi|hi|hi)
 ·exact hr.ne r1 h8 hi
 ·exact r2.jf hr h1 h2 h3 h4 h5 h6 h7 hi
 ·obtain ⟨i,hi⟩:=pS hi;obtain ⟨x,-,hx⟩:=r3.s i j hi;exact hr.ne hx h9 rfl
end
abbrev av8:iz:=(false,(Py,(0,0,false)))
abbrev Ay:List iz:=List.replicate 16 av8
def GU:Ay.map aj=Ye:=rfl
def TN:bh zl 16=(Ay.map lv).flatten:=rfl
def ag5:(vk≠rZ/\vk≠jF)/\DD≠rZ/\DD≠jF:=by decide
def jv0(ag cap bud:Int):Jv 0 (TP ag cap bud) (Ay.map aj):=by
 have l8:∀y:cM,some y ∈ Ay.map aj->False:=λy hy=>by
  rw [GU] at hy;have:=List.eq_of_mem_replicate hy
  cases this
 refine ⟨λy hy=>(l8 y hy).elim,⟨⟨lL _,lL _⟩,ak _,⟨lL _,by show (0:Int)<=_;decide⟩,ak _⟩,ak _,λe he=> ?_,λx hx=>(by cases hx),λy hy=>(l8 y hy).elim,by show 1<=min (max bud 1) 64/\min (max bud 1) 64<=64;omega⟩;have he:e ∈ l9 ag 9:=he;unfold l9 at he;obtain ⟨p,hp,rfl⟩:=aU.1 he;have hp:p ∈ tY:=mB hp;obtain ⟨k,hk⟩:=KJ.1 hp;exact (FI hk).1
def TR(ag bud cap:Int)(hc:9<=cap)(w:World):ae 9 #[ag,bud,cap] w λe w'=>
  ∃a:Ad,e=Value.tuple #[.pointer (aD a.g),.pointer (aD a.m)]/\uS (λ_=>False) w w' a (TP ag cap bud) (Ay.map aj) (TP ag cap bud) Ay:=by
 refine (Mr ag bud cap hc w).mono ?_;rintro e w' ⟨g,s,o,t,F,m,b,s',o',t',F',rfl,hE,hS,rm,rb,hdj,fF,fF',zm,zb,x⟩;have nm:=hE.dA rm oO.1.1 oO.1.2.1 oO.1.2.2.1 oO.1.2.2.2.1 oO.1.2.2.2.2.1 oO.1.2.2.2.2.2.1 oO.1.2.2.2.2.2.2 ag5.1.1 ag5.1.2;have nb:=hE.dA rb oO.2.1.1 oO.2.1.2.1 oO.2.1.2.2.1 oO.2.1.2.2.2.1 oO.2.1.2.2.2.2.1 oO.2.1.2.2.2.2.2.1 oO.2.1.2.2.2.2.2.2 ag5.2.1 ag5.2.2;refine ⟨⟨g,s,o,t,m,s',o',t'⟩,rfl,F,_,_,_,hE,⟨F',b,rm,hS,by rw [<-TN];exact rb,rfl,rfl⟩,λi hi q=> ?_,fF,λi hi=> ?_,λj hj=>hj.elim,x⟩
 ·rcases q with rfl|rfl|q
  ·exact nm hi
  ·exact nb hi
  ·exact hdj i hi q
 ·rcases hi with rfl|rfl|hi
  ·exact zm
  ·exact zb
  ·exact fF' i hi
abbrev dKs:List Bool:=[true,true,true,true,true,true,true,true,true,true,true,true,true,true,true,true,false]
def ke{r:LV}(h:MixR dKs r)(i:Nat)(hi:dKs[i]? =some true):∃z,r[i]? =some (.int .i64 z)/\dJ z:=by obtain ⟨v,hv,z,rfl,hz⟩:=h.2 i true hi;exact ⟨z,hv,hz⟩
def ak7{r:LV}(h:r.length=17):∃a0 a1 a2 a3 a4 a5 a6 a7 a8 a9 b0 b1 b2 b3 b4 b5 b6,r=[a0,a1,a2,a3,a4,a5,a6,a7,a8,a9,b0,b1,b2,b3,b4,b5,b6]:=by
 match r,h with
 | [a0,a1,a2,a3,a4,a5,a6,a7,a8,a9,b0,b1,b2,b3,b4,b5,b6],_=>exact ⟨a0,a1,a2,a3,a4,a5,a6,a7,a8,a9,b0,b1,b2,b3,b4,b5,b6,rfl⟩
def ag3{r:LV}(h:MixR dKs r):∃d:Ja,r=dL d/\dIn d:=by
 obtain ⟨a0,a1,a2,a3,a4,a5,a6,a7,a8,a9,b0,b1,b2,b3,b4,b5,b6,rfl⟩:=ak7 h.1;obtain ⟨z0,h0,i0⟩:=ke h 0 rfl;obtain ⟨z1,h1,i1⟩:=ke h 1 rfl;obtain ⟨z2,h2,i2⟩:=ke h 2 rfl;obtain ⟨z3,h3,i3⟩:=ke h 3 rfl;obtain ⟨z4,h4,i4⟩:=ke h 4 rfl;obtain ⟨z5,h5,i5⟩:=ke h 5 rfl;obtain ⟨z6,h6,i6⟩:=ke h 6 rfl;obtain ⟨z7,h7,i7⟩:=ke h 7 rfl;obtain ⟨z8,h8,i8⟩:=ke h 8 rfl;obtain ⟨z9,h9,i9⟩:=ke h 9 rfl;obtain ⟨y0,g0,j0⟩:=ke h 10 rfl;obtain ⟨y1,g1,j1⟩:=ke h 11 rfl;obtain ⟨y2,g2,j2⟩:=ke h 12 rfl;obtain ⟨y3,g3,j3⟩:=ke h 13 rfl;obtain ⟨y4,g4,j4⟩:=ke h 14 rfl;obtain ⟨y5,g5,j5⟩:=ke h 15 rfl;obtain ⟨v,hv,c,rfl⟩:=h.2 16 false rfl
 cases h0;cases h1;cases h2;cases h3;cases h4;cases h5;cases h6;cases h7;cases h8;cases h9;cases g0;cases g1;cases g2;cases g3;cases g4;cases g5;cases hv
 exact ⟨⟨z0,z1,z2,(z3,z4),(z5,z6,z7),(z8,z9,y0),(y1,y2,y3),(y4,y5,c)⟩,rfl,i0,i1,i2,⟨i3,i4⟩,⟨i5,i6,i7⟩,i8,i9,j0⟩
def GS:∀{z:List (LV)},(∀r ∈ z,MixR dKs r)->∃ds:List Ja,z=ds.map dL/\∀d ∈ ds,dIn d
 | [],_=>⟨[],rfl,λd hd=>(by cases hd)⟩
 |r::z,h=>by
  obtain ⟨d,rfl,hd⟩:=ag3 (h r bg)
  obtain ⟨ds,rfl,hds⟩:=GS λr hr=>h r (DI _ hr)
  refine ⟨d::ds,rfl,λx hx=> ?_⟩
  rcases cp.1 hx with rfl|hx
  ·exact hd
  ·exact hds x hx
def RP(D:Dk)(e:En):(bu D e).2.1.1=e.1:=by unfold bu;split<;>rfl
def ama{D:Dk}{l:List En}{i:Nat}(h:jT l):jT (Ey D l i).1.2/\∀x ∈(Ey D l i).1.2,∃e ∈ l,e.1=x.1:=by
 unfold Ey;split
 ·exact ⟨h,λx hx=>⟨x,hx,rfl⟩⟩
 ·rename_i e he;split
  ·exact ⟨CV h i,λx hx=>⟨x,(xG ..).subset hx,rfl⟩⟩
  ·refine ⟨W8 h he (RP D e),λx hx=> ?_⟩;rcases iV hx with hx|rfl
   ·exact ⟨x,hx,rfl⟩
   ·exact ⟨e,aO he,(RP D e).symm⟩
def adQ{limit:Int}{D:Dk}{l:List En}(h:jT l):jT (dC limit D l).1.2/\∀x ∈(dC limit D l).1.2,∃e ∈ l,e.1=x.1:=by
 unfold dC;split
 ·exact ⟨h,λx hx=>⟨x,hx,rfl⟩⟩
 split
 ·exact ⟨h,λx hx=>⟨x,hx,rfl⟩⟩
 ·exact ama h
structure eY(ag:Int)(n:Nat)(T:Tb):Prop where
 s:Stf n T.1
 D9:jT T.2
 B3:fV T.2
 pl:∀e ∈ T.2,oN e.1
 cl:∀e ∈ T.2,e.2.2.1=false->e.2.1=kM ag e.1 (Go.cg.lu T.1 (lO e.1)).1
section
variable {ag limit:Int} {n:Nat} {T:Tb}
def eY.mono(h:eY ag n T){m:Nat}(hm:n<=m):eY ag m T:=⟨h.s.mono hm,h.D9,h.B3,h.pl,h.cl⟩
def eY.save(h:eY ag n T)(hn:n<1000000000){i:Nat}{e:En}(hi:T.2[i]? =some e):
  (bu T.1 e).2.1=(e.1,e.2.1,decide ((bu T.1 e).2.2≠0),e.2.2.2)/\eY ag (n+1) ((bu T.1 e).1,T.2.set i (bu T.1 e).2.1)/\∀p,Zy ag ((bu T.1 e).1,T.2.set i (bu T.1 e).2.1) p=Zy ag T p:=by
 have hm:=aO hi;have qi:=h.pl e hm;obtain ⟨g1,g2⟩:=h.B3 e hm;have hsave:(bu T.1 e).2.1=(e.1,e.2.1,decide ((bu T.1 e).2.2≠0),e.2.2.2)/\Stf (n+1) (bu T.1 e).1/\((bu T.1 e).2.2=0->e.2.1=kM ag e.1 (Go.cg.lu (bu T.1 e).1 (lO e.1)).1)/\∀id,id≠lO e.1->Go.cg.lu (bu T.1 e).1 id=Go.cg.lu T.1 id:=by
  by_cases hd:e.2.2.1=true
  ·have Td:=we qi;have hle:=GK g1 g2;obtain ⟨s1,s2,s3,-⟩:=h.s.save (id:=lO e.1) (body:=lP (gP e.2.1)) aa aa;have e1:bu T.1 e=((lk T.1 (lO e.1) (lP (gP e.2.1))).1,(e.1,e.2.1,decide ((lk T.1 (lO e.1) (lP (gP e.2.1))).2≠0),e.2.2.2),(lk T.1 (lO e.1) (lP (gP e.2.1))).2):=by unfold bu;rw [if_pos hd]
   rw [e1];refine ⟨rfl,s1,λq=> ?_,λid hZ=>GL (s2 id hZ)⟩;simp only at q ⊢;rw [s3 q];exact (Zz ag e.1 g1 g2).symm
  ·have e1:bu T.1 e=(T.1,e,0):=by unfold bu;rw [if_neg hd]
   have hd':e.2.2.1=false:=by simpa using hd
   rw [e1];refine ⟨?_,h.s.mono aa,λ_=>h.cl e hm hd',λ_ _=>rfl⟩;obtain ⟨a,b,c,d⟩:=e;simp only at hd';rw [hd'];rfl
 obtain ⟨s2,s3,s4,s5⟩:=hsave;rw [s2];generalize (bu T.1 e).1=D' at*;generalize (bu T.1 e).2.2=cd at*;generalize hdd:decide (cd≠0)=dd at*;have s4:dd=false->e.2.1=kM ag e.1 (Go.cg.lu D' (lO e.1)).1:=λq=>s4 (by rw [q] at hdd;simpa using hdd)
 have fw:=mem_set h.D9 hi (e':=(e.1,e.2.1,dd,e.2.2.2)) rfl;have hnd:=W8 h.D9 hi (e':=(e.1,e.2.1,dd,e.2.2.2)) rfl;refine ⟨rfl,⟨s3,hnd,λx hx=> ?_,λx hx=> ?_,λx hx hc=> ?_⟩,λp=> ?_⟩
 ·rcases (fw x).1 hx with rfl|⟨hx,-⟩
  ·exact ⟨g1,g2⟩
  ·exact h.B3 x hx
 ·rcases (fw x).1 hx with rfl|⟨hx,-⟩
  ·exact qi
  ·exact h.pl x hx
 ·rcases (fw x).1 hx with rfl|⟨hx,hZ⟩
  ·exact s4 hc
  ·rw [s5 _ (ajQ qi hZ)];exact h.cl x hx hc
 ·by_cases hp:lZ T.2 p
  ·obtain ⟨x,hx,rfl⟩:=hp;rw [gO h.D9 hx];by_cases q:x.1=e.1
   ·have:x=e:=by have a:=(vH h.D9).2 ⟨hx,q⟩;have b:=(vH h.D9).2 ⟨hm,rfl⟩;rw [a] at b;exact Option.some.inj b
    subst this;exact gO (T:=(D',T.2.set i (x.1,x.2.1,dd,x.2.2.2))) (e:=(x.1,x.2.1,dd,x.2.2.2)) hnd ((fw _).2 (.inl rfl))
   ·exact gO (T:=(D',T.2.set i (e.1,e.2.1,dd,e.2.2.2))) (e:=x) hnd ((fw x).2 (.inr ⟨hx,q⟩))
  ·have hp':¬lZ (T.2.set i (e.1,e.2.1,dd,e.2.2.2)) p:=by
    rintro ⟨x,hx,rfl⟩;rcases (fw x).1 hx with rfl|⟨hx,-⟩
    ·exact hp ⟨e,hm,rfl⟩
    ·exact hp ⟨x,hx,rfl⟩
   rw [kE hp,kE (T:=(D',T.2.set i (e.1,e.2.1,dd,e.2.2.2))) hp'];simp only;rw [s5 _ (ajQ qi λq=>hp ⟨e,hm,q.symm⟩)]
def eY.erase(h:eY ag n T){i:Nat}{e:En}(hi:T.2[i]? =some e)(hc:e.2.2.1=false):
  eY ag n (T.1,T.2.eraseIdx i)/\∀p,Zy ag (T.1,T.2.eraseIdx i) p=Zy ag T p:=by
 have hm:=aO hi;have fw:=mem_erase h.D9 hi;have hnd:=CV h.D9 i;refine ⟨⟨h.s,hnd,λx hx=>h.B3 x ((fw x).1 hx).1,λx hx=>h.pl x ((fw x).1 hx).1,λx hx=>h.cl x ((fw x).1 hx).1⟩,λp=> ?_⟩;by_cases hp:lZ (T.2.eraseIdx i) p
 ·obtain ⟨x,hx,rfl⟩:=hp;rw [gO (T:=(T.1,T.2.eraseIdx i)) hnd hx,gO h.D9 ((fw x).1 hx).1]
 ·rw [kE (T:=(T.1,T.2.eraseIdx i)) hp];by_cases q:e.1=p
  ·subst q;rw [gO h.D9 hm];exact (h.cl e hm hc).symm
  ·rw [kE];rintro ⟨x,hx,rfl⟩;exact hp ⟨x,(fw x).2 ⟨hx,λq2=>q q2.symm⟩,rfl⟩
def Sam(ag:Int)(n:Nat)(T T':Tb):Prop:=eY ag n T'/\∀p,oN p->Zy ag T' p=Zy ag T p
def eY.go(h:eY ag n T)(hn:n<1000000000)(i:Nat):Sam ag (n+1) T (Ey T.1 T.2 i).1:=by
 unfold Ey;split
 ·exact ⟨h.mono aa,λ_ _=>rfl⟩
 rename_i e hi;obtain ⟨s2,s3,s4⟩:=h.save hn hi;split
 ·rename_i hz;have FV:=(bZ.1 hi).1;obtain ⟨t1,t2⟩:=s3.erase (i:=i) (e:=(bu T.1 e).2.1) (oM FV) (by rw [s2,hz];rfl);simp only [List.eraseIdx_set_eq] at t1 t2;exact ⟨t1,λp _=>(t2 p).trans (s4 p)⟩
 ·exact ⟨s3,λp _=>s4 p⟩
def eY.room(h:eY ag n T)(hn:n<1000000000):Sam ag (n+1) T (dC limit T.1 T.2).1:=by
 unfold dC;split
 ·exact ⟨h.mono aa,λ_ _=>rfl⟩
 split
 ·exact ⟨h.mono aa,λ_ _=>rfl⟩
 ·exact h.go hn _
def eY.push(h:eY ag n T){p:Po}{C:List Int}(hq:oN p)(hh:¬lZ T.2 p)(hg:fV (T.2++ [(p,C,false,0)]))(hC:C=kM ag p (Go.cg.lu T.1 (lO p)).1):
  Sam ag n T (T.1,T.2++ [(p,C,false,0)]):=by
 have hnd:jT (T.2++ [(p,C,false,0)]):=QR h.D9 hh;have fw:∀x,x ∈ T.2++ [(p,C,false,0)] ↔ x ∈ T.2\/x=(p,C,false,0):=λx=>by simp
 refine ⟨⟨h.s,hnd,hg,λx hx=> ?_,λx hx hc=> ?_⟩,λq=> ?_⟩
 ·rcases (fw x).1 hx with hx|rfl
  ·exact h.pl x hx
  ·exact hq
 ·rcases (fw x).1 hx with hx|rfl
  ·exact h.cl x hx hc
  ·exact hC
 ·intro _;by_cases hp:lZ T.2 q
  ·obtain ⟨x,hx,rfl⟩:=hp;rw [gO h.D9 hx,gO (T:=(T.1,T.2++ [(p,C,false,0)])) hnd ((fw x).2 (.inl hx))]
  ·rw [kE hp];by_cases e:q=p
   ·subst e;rw [gO (T:=(T.1,T.2++ [(q,C,false,0)])) (e:=(q,C,false,0)) hnd ((fw _).2 (.inr rfl))];exact hC
   ·rw [kE (T:=(T.1,T.2++ [(p,C,false,0)]))];rintro ⟨x,hx,rfl⟩;rcases (fw x).1 hx with hx|rfl
    ·exact hp ⟨x,hx,rfl⟩
    ·exact e rfl
def eY.aqo(h:eY ag n T){i:Nat}{e:En}(hi:T.2[i]? =some e):Sam ag n T (T.1,T.2.eraseIdx i++ [e]):=by
 have hm:=aO hi;have fw:=mem_erase h.D9 hi;have m4:∀x,x ∈ T.2.eraseIdx i++ [e] ↔ x ∈ T.2:=λx=>by
  simp only [bX,fT];constructor
  ·rintro (q|rfl)
   ·exact ((fw x).1 q).1
   ·exact hm
  ·intro hx;by_cases q:x.1=e.1
   ·right;have a:=(vH h.D9).2 ⟨hx,q⟩;have b:=(vH h.D9).2 ⟨hm,rfl⟩;rw [a] at b;exact Option.some.inj b
   ·exact .inl ((fw x).2 ⟨hx,q⟩)
 have hnd:jT (T.2.eraseIdx i++ [e]):=QR (CV h.D9 i) λ⟨x,hx,q⟩=>((fw x).1 hx).2 q
 exact ⟨⟨h.s,hnd,λx hx=>h.B3 x ((m4 x).1 hx),λx hx=>h.pl x ((m4 x).1 hx),λx hx=>h.cl x ((m4 x).1 hx)⟩,λp _=>ahQ h.D9 hnd m4 p⟩
def eY.load(h:eY ag n T)(hn:n<1000000000)(p:Po)(hg:fV (yh ag limit T.1 T.2 p).1.2):Sam ag (n+1) T (yh ag limit T.1 T.2 p).1:=by
 unfold yh at hg ⊢;split
 ·exact ⟨h.mono aa,λ_ _=>rfl⟩
 rename_i oh;rw [if_neg oh] at hg;rcases eM (λe:En=>e.1==p) T.2 with ⟨hf,l8⟩|⟨k,e,hk,he,hf,-⟩
 ·have hh:¬lZ T.2 p:=by rintro ⟨x,hx,e⟩;have:=l8 x hx;simp [e] at this
  rw [hf,if_neg aA] at hg ⊢;have hr:=h.room (limit:=limit) hn;split
  ·exact hr
  rename_i hz;rw [if_neg hz] at hg;have hh':¬lZ (dC limit T.1 T.2).1.2 p:=by rintro ⟨x,hx,hxe⟩;obtain ⟨e,he,hq⟩:=(adQ (limit:=limit) (D:=T.1) h.D9).2 x hx;exact hh ⟨e,he,hq.trans hxe⟩
  obtain ⟨p1,p2⟩:=hr.1.push (by simpa using oh) hh' hg rfl;exact ⟨p1,λq hq=>(p2 q hq).trans (hr.2 q hq)⟩
 ·rw [hf,if_pos aa,dQ,hk];obtain ⟨t1,t2⟩:=h.aqo hk;exact ⟨t1.mono aa,t2⟩
def eY.Cb(h:eY ag n T)(hn:n<1000000000)(p:Po):Sam ag (n+1) T (iF T.1 T.2 p).1:=by
 unfold iF;split
 ·split
  ·exact ⟨h.mono aa,λ_ _=>rfl⟩
  ·exact h.go hn _
 ·exact ⟨h.mono aa,λ_ _=>rfl⟩
def eY.BU:∀(l:List En) {n:Nat} {D:Dk} {pre:List En} {k:Int},eY ag n (D,pre++l)->n+l.length<1000000000->Sam ag (n+l.length) (D,pre++l) (BU D pre l k).1
 | [],n,D,pre,k,h,hn=>by
   rw [mA] at h ⊢
   exact ⟨h,λ_ _=>rfl⟩
 |e::l,n,D,pre,k,h,hn=>by
  rw [bR] at hn
  have hi:(pre++e::l)[pre.length]? =some e:=by simp
  obtain ⟨s2,s3,s4⟩:=h.save aa (i:=pre.length) hi;have ph:(pre++e::l).set pre.length (bu D e).2.1=pre++(bu D e).2.1::l:=by simp
  simp only [ph] at s3 s4;unfold Go.Proofs.YtkkkfkopcfdmaaaGreatDoor.BU;split
  ·have hc:pre++(bu D e).2.1::l=(pre++ [(bu D e).2.1])++l:=by simp
   rw [hc] at s3 s4;obtain ⟨q1,q2⟩:=eY.BU l (k:=if e.2.2.1=true then k+1 else k) s3 aa;exact ⟨q1.mono (by rw [bR];omega),λp hp=>(q2 p hp).trans (s4 p)⟩
  ·exact ⟨s3.mono (by rw [bR];omega),λp _=>s4 p⟩
def eY.DF(h:eY ag n T)(hn:n+T.2.length<1000000000):Sam ag (n+T.2.length) T (ie T.1 T.2).1:=eY.BU (pre:=[]) T.2 h hn
def eY.aW(h:eY ag n T)(hn:n<1000000000)(body:List Int):Sam ag (n+1) T ((lk T.1 0 body).1,T.2):=by
 obtain ⟨s1,s2,-,-⟩:=h.s.save (id:=0) (body:=body) aa aa;have hl:∀{p:Po},oN p->Go.cg.lu (lk T.1 0 body).1 (lO p)=Go.cg.lu T.1 (lO p):=λ{p} hp=>GL (s2 _ (by have:=we hp;omega))
 refine ⟨⟨s1,h.D9,h.B3,h.pl,λe he hc=> ?_⟩,λp q=> ?_⟩
 ·simp only;rw [hl (h.pl e he)];exact h.cl e he hc
 ·by_cases hp:lZ T.2 p
  ·obtain ⟨x,hx,rfl⟩:=hp;rw [gO h.D9 hx];exact gO (T:=((lk T.1 0 body).1,T.2)) h.D9 hx
  ·rw [kE hp,kE (T:=((lk T.1 0 body).1,T.2)) hp];simp only;rw [hl q]
end
def cT(ag:Int)(T:Tb)(c:Ce):Int:=if c.2.1<0 then 1 else if oN (pos c) then HG (pos c) (Zy ag T (pos c)) c else 0
section
variable {ag:Int} {n:Nat} {T T':Tb}
def alO(h:Sam ag n T T')(c:Ce):cT ag T' c=cT ag T c:=by
 unfold cT;split
 ·rfl
 split
 ·rename_i hp;rw [h.2 _ hp]
 ·rfl
def Nt(h:eY ag n T){c:Ce}(hh:lZ T.2 (pos c)):gz T.2 c=cT ag T c:=by obtain ⟨e,he,hp⟩:=hh;have hi:=h.pl e he;rw [hp] at hi;rw [Bz h.D9 he hp];unfold cT;rw [if_pos hi,<-hp,gO h.D9 he]
def aqr(h:eY ag n T)(c:Ce):gz T.2 c= -1\/gz T.2 c=cT ag T c:=by
 by_cases hh:lZ T.2 (pos c)
 ·exact .inr (Nt h hh)
 ·exact .inl (Nu hh)
def VD{p:Po}{C:List Int}(hl:C.length=8192){c:Ce}(hp:p=pos c)(hy:FH c){b:Int}(h:HG p C c=b):(kO p C c b).1=C:=by
 unfold kO;split
 ·rfl
 ·split
  ·rfl
  ·have hi:=yK hy;have hk:LN p c=true:=(pd p c).2 ⟨hy,hp.symm⟩;unfold HG at h;rw [if_pos hk] at h;have:=ahO (c:=C) (i:=idx c) hi.1 (by rw [hl];omega);rw [h] at this;obtain ⟨h1,h2⟩:=bZ.1 this;simp only;rw [<-h2];exact List.set_getElem_self h1
def aaL{l:List En}{c:Ce}{b:Int}(h:(fb l c b).2≠0):(fb l c b).1=l:=by
 unfold fb at h ⊢;split
 ·rfl
 split
 ·rfl
 split
 ·rfl
 ·rename_i h1 h2 h3;rw [if_neg h1,if_neg h2,if_neg h3] at h;exact absurd rfl h
def aeK{l:List En}{c:Ce}{b:Int}(h:(fb l c b).2=0):cE b=true:=by
 unfold fb at h;split at h
 ·simp at h
 split at h
 ·simp at h
 split at h
 ·simp at h
 ·rename_i h3;simpa using h3
def eY.set(h:eY ag n T)(c:Ce)(b:Int):eY ag n (T.1,(fb T.2 c b).1)/\∀c',cT ag (T.1,(fb T.2 c b).1) c'=if (fb T.2 c b).2=0/\c'=c then b else cT ag T c':=by
 by_cases h0:(fb T.2 c b).2=0
 case neg=>
  rw [aaL h0];exact ⟨h,λc'=>by rw [if_neg λq=>h0 q.1]⟩
 obtain ⟨hy,e,he,hp⟩:=LC h0;have hb:=aeK h0;obtain ⟨-,k2,k3,k4⟩:=aeL h.D9 h.B3 ⟨e,he,hp⟩ hy hb;obtain ⟨k,hk,hf⟩:=yZ h.D9 he;have hs:fb T.2 c b=(T.2.eraseIdx k++ [(e.1,(kO e.1 e.2.1 c b).1,e.2.2.1||(HG e.1 e.2.1 c !=b),e.2.2.2)],0):=by unfold fb;rw [<-hp,hf,if_neg aa,if_neg (by simpa using hy),if_neg (by rw [hb];decide),dQ,hk];rfl
 obtain ⟨g1,g2⟩:=h.B3 e he;have Ta:(e.2.2.1||(HG e.1 e.2.1 c !=b))=false->e.2.2.1=false/\(kO e.1 e.2.1 c b).1=e.2.1:=λq=>by rw [Bool.or_eq_false_iff] at q;exact ⟨q.1,VD g1 hp hy (by simpa using q.2)⟩
 have fw:=mem_erase h.D9 hk;have zg:eY ag n (T.1,(fb T.2 c b).1):=⟨h.s,k2,ac3 h.B3 c b,Xo h.pl,λx hx hc=>by
  simp only at hx ⊢;rw [hs] at hx;rcases bX.1 hx with hx|hx
  ·exact h.cl x ((fw x).1 hx).1 hc
  ·rw [fT.1 hx] at hc ⊢;obtain ⟨q1,q2⟩:=Ta hc;simp only;rw [q2];exact h.cl e he q1⟩
 refine ⟨zg,λc'=> ?_⟩;by_cases hq:lZ T.2 (pos c')
 ·rw [<-Nt zg ((k3 _).2 hq),<-Nt h hq,k4];by_cases q:c'=c
  ·rw [if_pos q,if_pos ⟨h0,q⟩]
  ·rw [if_neg q,if_neg λx=>q x.2]
 ·rw [if_neg λx=>hq (by rw [x.2];exact ⟨e,he,hp⟩)];unfold cT;rw [kE hq,kE (T:=(T.1,(fb T.2 c b).1)) λx=>hq ((k3 _).1 x)]
end
def Chg(O:Ce->Bool)(V V':Ce->Int):Prop:=∀c,V' c=V c\/ao (V' c)=false\/O c=false
def Chg.cG{O:Ce->Bool}{V:Ce->Int}:Chg O V V:=λ_=> .inl rfl
def Chg.tr{O:Ce->Bool}{V V' V'':Ce->Int}(h:Chg O V V')(k:Chg O V' V''):Chg O V V'':=λc=>by
 rcases k c with q|q|q
 ·rw [q];exact h c
 ·exact .inr (.inl q)
 ·exact .inr (.inr q)
section
variable {ag:Int} {n:Nat} {O:Ce->Bool}
def Bhd(ag:Int)(n:Nat)(O:Ce->Bool)(M M':Sm):Prop:=eY ag n M'.T/\Chg O (cT ag M.T) (cT ag M'.T)
def QX{M:Sm}(h:eY ag n M.T)(c:Ce){b:Int}(hb:ao b=true->O c=false):Bhd ag n O M (vA M c b):=by
 obtain ⟨h1,h2⟩:=h.set c b;refine ⟨h1,λc'=> ?_⟩;have e:cT ag (vA M c b).T c'=_:=h2 c';rw [e];split
 ·rename_i q
  cases hs:ao b with
  |false=>exact .inr (.inl rfl)
  |true=>exact .inr (.inr (by rw [q.2];exact hb hs))
 ·exact .inl rfl
def Iq{M:Sm}(h:eY ag n M.T){x:Go.dR.Cg}(hb:ao x.2=true->O x.1=false):Bhd ag n O M (bT M x):=by
 unfold bT;split
 ·exact ⟨h,Chg.cG⟩
 ·exact QX h _ hb
def Ej:∀(l:List Go.dR.Cg) {M:Sm},eY ag n M.T->(∀x ∈ l,ao x.2=true->O x.1=false)->Bhd ag n O M (l.foldl bT M)
 | [],M,h,_=>⟨h,Chg.cG⟩
 |x::l,M,h,hl=>by
  obtain ⟨h1,h2⟩:=Iq h (hl x bg)
  obtain ⟨h3,h4⟩:=Ej l h1 λy hy=>hl y (by simp [hy])
  exact ⟨h3,h2.tr h4⟩
def RW{b:Int}(h:kG b=true):ao b=false:=by unfold kG sb at h;unfold ao;simp at h ⊢;omega
def vU(l:Int):ao (jD l)=false:=by unfold jD ao;simp;omega
def aid{M:Sm}{c:Ce}(hh:¬vD O M c=true):∀x ∈ Go.dR.ig (gz M.T.2) c,ao x.2=true->O x.1=false:=by
 intro x hx hs;by_cases h3:gz M.T.2 c=3
 ·have he:(Go.dR.ig (gz M.T.2) c).isEmpty=false:=by
   cases hn:Go.dR.ig (gz M.T.2) c with
   |nil=>rw [hn] at hx;cases hx
   |cons=>rfl
  have ho:O (fe c)=false:=by unfold vD at hh;rw [he,h3] at hh;simpa using hh
  unfold Go.dR.ig LJ at hx;rw [if_pos h3] at hx;split at hx
  ·rename_i hy;rcases cp.1 hx with rfl|hx
   ·rw [RW hy] at hs;cases hs
   ·rw [fT.1 hx];exact ho
  ·cases hx
 ·unfold Go.dR.ig at hx;rw [if_neg h3] at hx;have h0:ao 0=false:=by decide
  split at hx
  ·unfold mN at hx;split at hx
   ·rw [fT.1 hx,h0] at hs;cases hs
   split at hx
   ·rw [fT.1 hx,vU] at hs;cases hs
   split at hx
   ·rw [fT.1 hx,vU] at hs;cases hs
   split at hx
   ·cases hx
   ·obtain ⟨y,-,rfl⟩:=aU.1 hx;rw [vU] at hs;cases hs
  ·cases hx
def aie{M:Sm}(h:eY ag n M.T)(c:Ce):Bhd ag n O M (kh O M c):=by
 unfold kh;split
 ·exact ⟨h,Chg.cG⟩
 split
 ·exact Iq (M:={M with jI:=M.jI++ [fe c]}) h λq=>by
   have:ao 0=false:=by decide
   rw [this] at q;cases q
 ·rename_i hh;exact Ej _ h (aid hh)
def RX:∀(l:List Ce) {M:Sm},eY ag n M.T->Bhd ag n O M (l.foldl (kh O) M)
 | [],M,h=>⟨h,Chg.cG⟩
 |x::l,M,h=>by
  obtain ⟨h1,h2⟩:=aie (O:=O) h x
  obtain ⟨h3,h4⟩:=RX l h1
  exact ⟨h3,h2.tr h4⟩
def adT{M:Sm}(h:eY ag n M.T):Bhd ag n O M (AZ O M):=RX (pc M) (M:=tw M) h
end
def vI(b:dw):Prop:=(2<=b.wd/\b.wd<=131072)/\(1<=b.ht/\b.ht<=262144)/\(-262144<=b.speed.1/\b.speed.1<=262144)/\(-262144<=b.speed.2.1/\b.speed.2.1<=262144)/\-262144<=b.speed.2.2/\b.speed.2.2<=262144
def Ik(P:Ce->Prop)(b:dw):Prop:=∀c,xe b.box c->P c
def Il{aq:Ce}{wd ht:Int}(hf:eK aq 98000000000000)(hw:2<=wd/\wd<=131072)(hh:1<=ht/\ht<=262144):
  lQ aq wd ht=((aq.1-wd / 2,aq.2.1,aq.2.2-wd / 2),(aq.1+wd / 2,aq.2.1+ht,aq.2.2+wd / 2)):=by
 have Df:max wd 0 / 2=wd / 2:=by omega
 have hh2:max ht 0=ht:=by omega
 have e:lQ aq wd ht=((mw aq.1 (wd / 2),mw aq.2.1 0,mw aq.2.2 (wd / 2)),(fZ aq.1 (wd / 2),fZ aq.2.1 ht,fZ aq.2.2 (wd / 2))):=by unfold lQ;rw [Df,hh2];rfl
 unfold eK at hf;rw [e];unfold mw fZ cU;simp only [Prod.mk.injEq];omega
def FO{b:dw}(hf:eK b.aq 98000000000000)(hm:vI b):yS b.box/\bN b.box 99000000000000:=by have e:b.box=_:=Il hf hm.1 hm.2.1;rw [e];unfold vI at hm;unfold eK at hf;unfold yS bN;simp only;omega
def Xu{aq:Ce}{wd ht:Int}{v:Ce}{y:Bx}(hf:eK aq 97000000000000)(hw:2<=wd/\wd<=131072)(hh:1<=ht/\ht<=262144)(hv:(-16777216<=v.1/\v.1<=16777216)/\(-16777216<=v.2.1/\v.2.1<=16777216)/\-16777216<=v.2.2/\v.2.2<=16777216)
  (hy:y=Og (lQ aq wd ht) v):lQ (kf aq (ym y.1 (lQ aq wd ht).1)) wd ht=y:=by
 have hf':=hf;have e:=Il (aq:=aq) (hf.up aA) hw hh;unfold eK at hf;have e2:kf aq (ym y.1 (lQ aq wd ht).1)=(aq.1+v.1,aq.2.1+v.2.1,aq.2.2+v.2.2):=by rw [hy,e];show (fZ aq.1 (mw (aq.1-wd / 2+v.1) (aq.1-wd / 2)),fZ aq.2.1 (mw (aq.2.1+v.2.1) aq.2.1),fZ aq.2.2 (mw (aq.2.2-wd / 2+v.2.2) (aq.2.2-wd / 2)))=_;unfold mw fZ cU;simp only [Prod.mk.injEq];omega
 rw [e2,Il (by unfold eK;simp only;omega) hw hh,hy,e];unfold Og;simp only [Prod.mk.injEq];refine ⟨⟨?_,?_,?_⟩,?_,?_,?_⟩<;>(try simp only)<;>omega
section
variable {V:Ce->Int} {P:Ce->Prop}
def aaG{b:dw}(hf:eK b.aq 97000000000000)(hm:vI b)(hP:∀c,ao (V c)=false->P c)(h:Ik P b):Ik P (D5 V b)/\vI (D5 V b):=by
 obtain ⟨q1,q2⟩:=FO (hf.up aA) hm;obtain ⟨v,hv,hy,Jm⟩:=aas (V:=V) (p:=ao) (d:=kN b.aq b.speed) (up:=32768) q2 q1 hP h;refine ⟨?_,hm.1,hm.2.1,?_⟩
 ·have e:(D5 V b).box=(ik V ao b.box (kN b.aq b.speed) 32768).1:=Xu hf hm.1 hm.2.1 hv hy;unfold Ik;rw [e];exact Jm
 ·have c0:cU 0=0:=by decide
  have hs:=hm.2.2;show ((-262144<=(gN (ik V ao b.box (kN b.aq b.speed) 32768).2 b.speed).1/\(gN (ik V ao b.box (kN b.aq b.speed) 32768).2 b.speed).1<=262144)/\(-262144<=(gN (ik V ao b.box (kN b.aq b.speed) 32768).2 b.speed).2.1/\(gN (ik V ao b.box (kN b.aq b.speed) 32768).2 b.speed).2.1<=262144)/\-262144<=(gN (ik V ao b.box (kN b.aq b.speed) 32768).2 b.speed).2.2/\(gN (ik V ao b.box (kN b.aq b.speed) 32768).2 b.speed).2.2<=262144);generalize (ik V ao b.box (kN b.aq b.speed) 32768).2=t;generalize b.speed=s at hs;have e1:(gN t s).1=if t.1=true then cU 0 else s.1:=by unfold gN;cases t.1<;>cases t.2.1<;>cases t.2.2<;>rfl
  have e2:(gN t s).2.1=if t.2.1=true then cU 0 else s.2.1:=by unfold gN;cases t.1<;>cases t.2.1<;>cases t.2.2<;>rfl
  have e3:(gN t s).2.2=if t.2.2=true then cU 0 else s.2.2:=by unfold gN;cases t.1<;>cases t.2.1<;>cases t.2.2<;>rfl
  rw [e1,e2,e3,c0];refine ⟨?_,?_,?_⟩<;>split<;>omega
def Im{n jump less least:Int}{j:Bool}(hn: -262144<=n/\n<=262144)(hj:0<=jump/\jump<=262144)(hl:0<=less)(ht:0<=least/\least<=262144): -262144<=xL n jump less least j/\xL n jump less least j<=262144:=by unfold xL;split<;>omega
def aeI{b:dw}{i:FE}(h:vI b):vI (mG V (qc b i) i):=by
 have hw:∀n,-262144<=AI n/\AI n<=262144:=λn=>by unfold AI;omega
 obtain ⟨h1,h2,h3,h4,h5⟩:=h;unfold mG;split
 ·exact ⟨h1,h2,hw _,Im h4 aA aA aA,hw _⟩
 ·split
  ·exact ⟨h1,h2,hw _,Im h4 aA aA aA,hw _⟩
  ·exact ⟨h1,h2,hw _,Im h4 aA aA aA,hw _⟩
def aaH(b:dw)(i:FE):(mG V b i).aq=b.aq:=by
 unfold mG;split
 ·rfl
 ·split<;>rfl
def Vz{b:dw}{i:FE}(hf:eK b.aq 97000000000000)(hm:vI b)(hP:∀c,ao (V c)=false->P c)(h:Ik P b):Ik P (su V b i)/\vI (su V b i):=by refine aaG (V:=V) (b:=mG V (qc b i) i) (by rw [aaH];exact hf) (aeI hm) hP ?_;unfold Ik;rw [(C8 V (qc b i) i).1];exact h
def VA{b:dw}{d:Ce}(hf:eK b.aq 97000000000000)(hm:vI b)(hP:∀c,ao (V c)=false->P c)(h:Ik P b):Ik P (jJ V b d)/\vI (jJ V b d):=by obtain ⟨q1,q2⟩:=FO (hf.up aA) hm;obtain ⟨v,hv,hy,Jm⟩:=LH (V:=V) (p:=ao) (d:=kN b.aq d) q2 q1 hP h;refine ⟨?_,hm⟩;have e:(jJ V b d).box=(kV V ao b.box (kN b.aq d)).1:=Xu hf hm.1 hm.2.1 aa hy;unfold Ik;rw [e];exact Jm
def Qf(P:Ce->Prop)(m:Int)(b:dw):Prop:=okB m b/\vI b/\Ik P b
def Qf.up{b:dw}{m n:Int}(h:Qf P m b)(hn:m<=n):Qf P n b:=⟨h.1.up hn,h.2⟩
def Xv{b:dw}{d:Ce}{m:Int}(h:Qf P m b)(hm:m<=97000000000000)(hP:∀c,ao (V c)=false->P c):Qf P (m+12582912) (jJ V b d):=by obtain ⟨q1,q2⟩:=VA (V:=V) (d:=d) (h.1.1.up hm) h.2.1 hP h.2.2;exact ⟨vy h.1 aa,q2,q1⟩
def amb{i k:Nat}{l:List dw}{m:Int}(hP:∀c,ao (V c)=false->P c)(h:∀b ∈ l,Qf P m b)(hm:m<=97000000000000):∀b ∈ vx V i k l,Qf P (m+12582912) b:=by
 unfold vx;split
 ·rename_i a b ha hb;intro x hx;rcases iV hx with hx|rfl
  ·rcases iV hx with hx|rfl
   ·exact (h x hx).up aa
   ·exact Xv (h a (aO ha)) hm hP
  ·exact Xv (h b (aO hb)) hm hP
 ·exact λx hx=>(h x hx).up aa
def aj3{i:Nat}(hP:∀c,ao (V c)=false->P c):∀(n k:Nat) {l:List dw} {m:Int},(∀b ∈ l,Qf P m b)->m+n*12582912<=97000000000000->∀b ∈ EW V i k n l,Qf P (m+n*12582912) b
 |0,k,l,m,h,hm=>λx hx=>(h x hx).up aa
 |n+1,k,l,m,h,hm=>λx hx=>(aj3 (i:=i) hP n (k+1) (amb (i:=i) (k:=k) hP h aa) aa x hx).up aa
def aqF(hP:∀c,ao (V c)=false->P c):∀(n i:Nat) {l:List dw} {m:Int},l.length<=16->(∀b ∈ l,Qf P m b)->m+n*(16*12582912)<=97000000000000->(∀b ∈ crB V i n l,Qf P (m+n*(16*12582912)) b)
 |0,i,l,m,hl,h,hm=>λx hx=>(h x hx).up aa
 |n+1,i,l,m,hl,h,hm=>by
  have q1:=aj3 (i:=i) hP (l.length-(i+1)) (i+1) h aa
  have q2:=(UE (V:=V) (i:=i) (l.length-(i+1)) (i+1) (λb hb=>(h b hb).1) aa).2
  have p:=aqF hP n (i+1) (l:=EW V i (i+1) (l.length-(i+1)) l) (m:=m+16*12582912) (by rw [q2];exact hl) (λx hx=>(q1 x hx).up aa) aa
  exact λx hx=>(p x hx).up aa
def aic{l:List dw}{m:Int}(hP:∀c,ao (V c)=false->P c)(h:∀b ∈ l,Qf P m b)(hl:l.length<=16)(hm:m<=96000000000000):∀b ∈ re V l,Qf P (m+16*16*12582912) b:=λx hx=>(aqF hP l.length 0 hl h aa x hx).up aa
end
def alN(P:Ce->Prop)(L:List (Option cM)):Prop:=∀y,some y ∈ L->vI y.1/\Ik P y.1
def RU:∀(l:List (Nat × dw)) {L:List (Option cM)} {y:cM},some y ∈ AP L l->some y ∈ L\/∃x ∈ l,y.1=x.2
 | [],L,y,h=> .inl h
 |x::l,L,y,h=>by
  rcases RU l (L:=vp L x.1 x.2) h with h|⟨z,hz,e⟩
  ·unfold vp at h
   split at h
   ·rcases iV h with h|h
    ·exact .inl h
    ·cases h
     exact .inr ⟨x,bg,rfl⟩
   ·exact .inl h
  ·exact .inr ⟨z,by simp [hz],e⟩
def QY{L:List (Option cM)}{n:Int}{y:cM}(h:bC L n=some y):some y ∈ L:=by
 unfold bC at h;split at h
 ·exact aO (Hw.1 h)
 ·cases h
def QZ{P:Ce->Prop}{M:Sm}{L:List (Option cM)}{m:Int}(hP:∀c,ao (gz M.T.2 c)=false->P c)(hL:qB m L)(hm:m<=95000000000000)(h:alN P L):alN P (kD M L):=by
 intro y hy;rcases RU _ hy with hy|⟨x,hx,e⟩
 ·exact h y hy
 rw [e];have hx:=(List.of_mem_zip hx).2;have m4:∀b ∈(fg M L).map (lT M L),Qf P (m+16777216) b:=by
  intro b hb;obtain ⟨i,hi,rfl⟩:=aU.1 hb;have hw:=(ju.1 hi).2;unfold mF at hw;unfold lT
  cases hl:bC L (i:Int) with
  |none=>rw [hl] at hw;cases hw
  |some z=>
   have hz:=QY hl;obtain ⟨k1,k2⟩:=h z hz;have ho:=hL z hz;obtain ⟨s1,s2⟩:=Vz (V:=gz M.T.2) (i:=z.2) (ho.1.up aa) k1 hP k2;exact ⟨W2 ho aa,s2,s1⟩
 have:=aic (V:=gz M.T.2) hP m4 (by rw [aL];exact FL M L) aa x.2 hx;exact this.2
def aqq{b:dw}(h:b.may=true):vI b/\eK b.aq 70368744177664:=by unfold dw.may within at h;simp only [fk,cJ] at h;unfold vI eK;omega
def alM{b:dw}(h:vI b)(hf:eK b.aq 70368744177664):b.may=true:=by unfold vI at h;unfold eK at hf;unfold dw.may within;simp only [fk,cJ];omega
def ahR{L:List (Option cM)}{y:cM}{c:Ce}(hy:some y ∈ L)(hn:bN y.1.box 99000000000000)(hc:xe y.1.box c):mE L c=true:=by
 unfold mE;refine List.any_eq_true.2 ⟨some y,hy,?_⟩;show iW y.1.box (ub c)=true;generalize y.1.box=b at*;unfold bN at hn;unfold xe at hc;have e:ub c=((c.1*65536,c.2.1*65536,c.2.2*65536),(c.1*65536+65536,c.2.1*65536+65536,c.2.2*65536+65536)):=by show ((nO c.1,nO c.2.1,nO c.2.2),(fZ (nO c.1) 65536,fZ (nO c.2.1) 65536,fZ (nO c.2.2) 65536))=_;unfold fZ cU nO;simp only [Prod.mk.injEq];omega
 rw [e];unfold iW ovK;simp only [ax0,ax1,ax2,fk,cJ];omega
def oC(ag:Int)(T:Tb)(L:List (Option cM)):Prop:=alN (λc=>ao (cT ag T c)=false) L
def QW{ag:Int}{n:Nat}{T:Tb}(h:eY ag n T)(c:Ce)(hc:ao (gz T.2 c)=false):ao (cT ag T c)=false:=by
 rcases aqr h c with e|e
 ·rw [e] at hc;have:ao (-1)=true:=by decide
  rw [this] at hc
  cases hc
 ·rw [<-e];exact hc
def oC.chg{ag:Int}{T T':Tb}{L:List (Option cM)}{m:Int}(h:oC ag T L)(hL:qB m L)(hm:m<=95000000000000)(hc:Chg (mE L) (cT ag T) (cT ag T')):oC ag T' L:=by
 intro y hy;obtain ⟨h1,h2⟩:=h y hy;refine ⟨h1,λc oh=> ?_⟩;have hn:=(FO ((hL y hy).1.up aa) h1).2;rcases hc c with q|q|q
 ·show ao (cT ag T' c)=false;rw [q];exact h2 c oh
 ·exact q
 ·rw [ahR hy hn oh] at q
  cases q
def oC.Lg{ag:Int}{n:Nat}{T T':Tb}{L:List (Option cM)}(h:oC ag T L)(hs:Sam ag n T T'):oC ag T' L:=λy hy=>⟨(h y hy).1,λc hc=>by
 show ao (cT ag T' c)=false
 rw [alO hs]
 exact (h y hy).2 c hc⟩
section
variable {ag:Int} {n:Nat} {M:Sm} {L:List (Option cM)} {m:Int}
def Lft(ag:Int)(n:Nat)(M':Sm)(L':List (Option cM)):Prop:=eY ag n M'.T/\oC ag M'.T L'
def tE(h:eY ag n M.T)(hF:oC ag M.T L)(hL:qB m L)(hm:m<=95000000000000)(c:Ce)(b:Int):Lft ag n (c8 M L c b).2 L:=by
 unfold c8;split
 ·exact ⟨h,hF⟩
 ·rename_i hq;obtain ⟨h1,h2⟩:=QX (O:=mE L) h c (b:=b) λhb=>by
   cases hl:mE L c with
   |false=>rfl
   |true=>exact absurd ⟨hb,hl⟩ hq
  exact ⟨h1,hF.chg hL hm h2⟩
def US(h:eY ag n M.T)(hF:oC ag M.T L)(hL:qB m L)(hm:m<=95000000000000)(k:Int)(cV:Ce)(b:Int):Lft ag n (gg M L k cV b).2 L:=by
 unfold gg;split
 ·exact ⟨h,hF⟩
 split
 ·exact ⟨h,hF⟩
 split
 ·exact ⟨h,hF⟩
 split
 ·exact ⟨h,hF⟩
 split
 ·exact ⟨h,hF⟩
 ·exact tE h hF hL hm _ _
def UT(h:eY ag n M.T)(hF:oC ag M.T L)(hL:qB m L)(hm:m<=95000000000000)(k:Int)(cV:Ce):Lft ag n (fu M L k cV).2 L:=by
 unfold fu;split
 ·exact ⟨h,hF⟩
 split
 ·exact tE h hF hL hm _ _
 ·exact tE h hF hL hm _ _
def UU(h:eY ag n M.T)(hF:oC ag M.T L)(b:dw):oC ag M.T (cQ M L b).2.2:=by
 unfold cQ;split
 ·exact hF
 rename_i h1;split
 ·exact hF
 split
 ·exact hF
 split
 ·exact hF
 rename_i h4;intro y hy;simp only at hy;rcases iV hy with hy|hy
 ·exact hF y hy
 ·cases hy
  have hb:b.may=true:=by simpa using h1
  obtain ⟨q1,q2⟩:=aqq hb;obtain ⟨f1,f2⟩:=FO (q2.up aA) q1;refine ⟨q1,λc hc=>QW h c ?_⟩;have hc:xe b.box c:=hc;have h4:iI (gz M.T.2) b.box ao=false:=by simpa using h4
  exact any_false.1 h4 c ((Lm (f2.up aA) f1 c).2 hc)
def ZG(hF:oC ag M.T L)(k:Int)(i:Int × Int × Bool):oC ag M.T (pY L k i).2:=by
 unfold pY;split
 ·exact hF
 ·rename_i y hy;intro z hz;simp only at hz;rcases iV hz with hz|hz
  ·exact hF z hz
  ·cases hz
   exact hF y (QY hy)
def ZH(hF:oC ag M.T L)(k:Int):oC ag M.T (qb L k).2:=by
 unfold qb;split
 ·exact hF
 ·intro z hz;simp only at hz;rcases iV hz with hz|hz
  ·exact hF z hz
  ·cases hz
def ZI(h:eY ag n M.T)(hF:oC ag M.T L)(hL:qB m L)(hm0:0<=m)(hm:m<=94000000000000):Lft ag n (jH M L).1 (jH M L).2:=by have hb:=QZ (P:=λc=>ao (cT ag M.T c)=false) (λc hc=>QW h c hc) hL aa hF;have ho:=Qs (M:=M) hL hm0 aa;obtain ⟨h1,h2⟩:=adT (O:=mE (kD M L)) h;exact ⟨h1,oC.chg (T:=M.T) hb ho aa h2⟩
end
def Ea(M:Sm)(x:Go.dR.Cg):(bT M x).ag=M.ag:=by unfold bT;split<;>rfl
def Bf:∀(l:List Go.dR.Cg)(M:Sm),(l.foldl bT M).ag=M.ag
 | [],M=>rfl
 |x::l,M=>(Bf l (bT M x)).trans (Ea M x)
def adU(O:Ce->Bool)(M:Sm)(c:Ce):(kh O M c).ag=M.ag:=by
 unfold kh;split
 ·rfl
 split
 ·exact Ea _ _
 ·exact Bf _ _
def Ln(O:Ce->Bool):∀(l:List Ce)(M:Sm),(l.foldl (kh O) M).ag=M.ag
 | [],M=>rfl
 |c::l,M=>(Ln O l (kh O M c)).trans (adU O M c)
def ZJ(O:Ce->Bool)(M:Sm):(AZ O M).ag=M.ag:=Ln O (pc M) (tw M)
def yO(M:Sm)(L:List (Option cM))(c:Ce)(b:Int):(c8 M L c b).2.ag=M.ag:=by unfold c8;split<;>rfl
def ZK(M:Sm)(rows:List iz)(d:Ja):(jM M rows d).1.ag=M.ag:=by
 unfold jM;split
 ·rfl
 split
 ·rfl
 split
 ·rfl
 split
 ·rfl
 split
 ·rfl
 split
 ·show (gg M (rows.map aj) (ix d) d.cV (wX d.b)).2.ag=M.ag;unfold gg
  repeat' (first|rfl|exact yO _ _ _ _|split)
 split
 ·show (fu M (rows.map aj) (ix d) d.cV).2.ag=M.ag;unfold fu
  repeat' (first|rfl|exact yO _ _ _ _|split)
 split
 ·exact yO _ _ _ _
 split
 ·rfl
 split
 ·rfl
 split
 ·rfl
 ·exact ZJ _ _
def ZL{ag:Int}{n:Nat}{M:Sm}{rows:List iz}{m:Int}(hs:M.ag=ag)(h:eY ag n M.T)(hF:oC ag M.T (rows.map aj))(hL:qB m (rows.map aj))(hm0:0<=m)(hm:m<=94000000000000)(hn:n+M.T.2.length<100000000)(d:Ja)
  (hg:fV (jM M rows d).1.T.2):Lft ag (n+1+M.T.2.length) (jM M rows d).1 ((jM M rows d).2.map aj):=by
 have hix:0<=ix d:=by show 0<=cu d.n 4;exact (cK d.n 4 aA).1
 have up:∀{k:Nat} {M':Sm} {L':List (Option cM)},Lft ag k M' L'->k<=n+1+M.T.2.length->Lft ag (n+1+M.T.2.length) M' L':=λq hk=>⟨q.1.mono hk,q.2⟩
 unfold jM at hg ⊢;split
 ·rename_i h0;rw [if_pos h0] at hg;have q:=h.load (limit:=M.cap) aa (oB d.p) (by rw [<-hs];exact hg);rw [hs];exact ⟨q.1.mono aa,hF.Lg q⟩
 rename_i h0;rw [if_neg h0] at hg;split
 ·have q:=h.Cb aa (oB d.p);exact ⟨q.1.mono aa,hF.Lg q⟩
 split
 ·have q:=h.DF aa;exact ⟨q.1.mono aa,hF.Lg q⟩
 split
 ·refine ⟨h.mono aa,?_⟩;show oC ag M.T ((sZ M rows (Qt d)).map aj);rw [vf];exact UU h hF _
 split
 ·refine ⟨h.mono aa,?_⟩;show oC ag M.T ((DZ rows (ix d) d.vz).map aj);rw [yD _ hix];exact ZG hF _ _
 split
 ·exact up (US h hF hL aa _ _ _) aa
 split
 ·exact up (UT h hF hL aa _ _) aa
 split
 ·exact up (tE h hF hL aa _ _) aa
 split
 ·refine ⟨h.mono aa,?_⟩;show oC ag M.T ((A1 rows (ix d)).map aj);rw [yE _ hix];exact ZH hF _
 split
 ·have q:=h.aW aa (cr M (rows.map aj));exact ⟨q.1.mono aa,hF.Lg q⟩
 split
 ·exact ⟨h.mono aa,hF⟩
 ·have q:=ZI h hF hL hm0 aa;refine ⟨q.1.mono aa,?_⟩;show oC ag (jH M (rows.map aj)).1.T ((nq M rows).map aj);rw [lW];exact q.2
variable {R:Ending->World->Prop} {w:World}
end Go.Proofs.YtkkkfkopcfdmaaaGreatDoor
