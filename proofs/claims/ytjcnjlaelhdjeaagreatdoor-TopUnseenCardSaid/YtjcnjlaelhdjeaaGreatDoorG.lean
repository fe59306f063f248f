import Derived.Test.YtjcnjlaelhdjeaaGreatDoorF
import Derived.Test.YtjcnjlaelhdjeaaGreatDoorE
import Derived.Test.YtjcnjlaelhdjeaaGreatDoorD
set_option linter.all false
namespace Go.Proofs.YtjcnjlaelhdjeaaGreatDoor
open Go Go.Vc Go.RowKit Go.Proofs Go.bW Go.aN Go.Code
set_option maxRecDepth 100000
set_option maxHeartbeats 8000000
abbrev aro:TypeId:=276
structure SO(w:World)(st d:Nat)(m:Dm)(D:Dk):Prop where
 rs:Row w st [d] BZ
 dk:DO w d m D
def sF(st d:Nat)(m:Dm)(i:Nat):Prop:=i=st\/dF d m i
def SO.lt{w:World}{st d:Nat}{m:Dm}{D:Dk}(h:SO w st d m D){i:Nat}(hi:sF st d m i):i<w:=by
 rcases hi with rfl|hi
 ·exact h.rs.lt
 ·exact h.dk.lt hi
def SO.same{w w':World}{st d:Nat}{m:Dm}{D:Dk}(h:SO w st d m D)(hs:∀i,sF st d m i->w'.heap[i]? =w.heap[i]?):SO w' st d m D:=⟨h.rs.same (hs _ (.inl rfl)),h.dk.same λi hi=>hs i (.inr hi)⟩
def SO.ext{w w':World}{st d:Nat}{m:Dm}{D:Dk}(h:SO w st d m D)(x:Ext w w'):SO w' st d m D:=h.same λi hi=>x.heap (h.lt hi)
def SO.ptr{w:World}{st d:Nat}{m:Dm}{D:Dk}(h:SO w st d m D):ld w (ae (ae (aB st) 0) 0)=some (.pointer (aB d)):=by rw[aF,aF,h.rs.ld];rfl
def abu(room:Int)(w:World):ab 297 #[room] w λe w'=>∃d m,e=Value.pointer (aB d)/\DO w' d m ⟨min (max room 0) 1048576,0,0,[],[]⟩/\Ext w w'/\∀i,dF d m i->w.heap.size<=i:=by
 apply adK.vc;intro w0 e0 w1 e1;have z0:=fD e0;have x1:=aU e1;have hm:bG GI w0 (some w.heap.size) []:=by rw[e0];exact bG.new
 have er:(if 1048576<(if 0>room then 0 else room)then 1048576 else(if 0>room then 0 else room))=min (max room 0) 1048576:=by split<;>split<;>omega
 rw[er]at e1;refine⟨w0.heap.size,⟨w.heap.size,⟨none,0,0⟩,[],[]⟩,rfl,⟨by rw[e1];exact Row.new w0 [_,_,_,_,_] _,hm.same (x1.heap hm.lt),ar.nil,.refl _,rfl,(λx hx=>by cases hx),⟨List.nodup_nil,λk=>by simp[ee];omega,bo,bo,by simp only;omega⟩⟩,(aU e0).tr x1,λi hi=>?_⟩;rcases hi with q|q|q|⟨x,hx,-⟩
 ·omega
 ·rw[q];exact ak _
 ·cases q
 ·cases hx
def abt(room:Int)(w:World):ab 242 #[room] w λe w'=>∃st d m,e=Value.pointer (aB st)/\SO w' st d m ⟨min (max room 0) 1048576,0,0,[],[]⟩/\Ext w w'/\∀i,sF st d m i->w.heap.size<=i:=by
 apply Zr.vc;refine(abu room w).mono ?_;rintro e w0 ⟨d,m,rfl,hd,x0,hf⟩;refine⟨_,rfl,λw2 e2=>?_⟩;have x2:=aU e2;have z:=x0.size;refine⟨_,d,m,rfl,⟨by rw[e2];exact Row.new w0 [_] _,hd.ext x2⟩,x0.tr x2,λi hi=>?_⟩;rcases hi with q|q
 ·omega
 ·exact hf i q
def SW{w:World}{st d:Nat}{m:Dm}{D:Dk}(h:SO w st d m D)(hW:D.l.length<=1000000000){id:Int}(hid:0<=id/\id<=1099511627776):
  ab 231 #[st,id] w λe w'=>∃s:Sl,e=Value.agg #[vI (kL D id).1,vI (kL D id).2.1,.slice s.a s.n s.c]/\jd w' s (kL D id).2.2/\mJ (kL D id).2.2/\(kL D id).2.2.length<=1048576/\s.n<=s.c/\(∀g,s.aX=some g->w.heap.size<=g)/\Ext w w':=by
 apply Ef.vc;intro w0 e0 w1 e1 w2 e2;have z0:=fD e0;have z1:w1.heap.size=w.heap.size+2:=by rw[e1];simp[z0]
 have z2:w2.heap.size=w.heap.size+2:=by rw[e2,setRow_size,z1]
 have x2:Ext w w2:=((aU e0).aZ e1).af e2 aa;have k0:aC (2*id)=2*id:=wI;have k1:aC (2*id+1)=2*id+1:=wI;rw[k0,k1];obtain⟨best,hbest⟩:∃best:Nat->Rc,best=λk=>if k=0 then(2*id+1,0,[])else if k=1 then j2 (2*id+1,0,[]) (2*id) (pT (getD D (2*id)))else kL D id:=⟨_,rfl⟩
 have b0:best 0=(2*id+1,0,[]):=by rw[hbest];rfl
 have b1:best 1=j2 (best 0) (2*id) (pT (getD D (2*id))):=by rw[b0,hbest];rfl
 have b2:best 2=j2 (best 1) (2*id+1) (pT (getD D (2*id+1))):=by rw[b1,b0,hbest];rfl
 have b3:best 2=kL D id:=by rw[hbest];rfl
 refine⟨λn i sl v s wr=>∃k:Nat,i=k/\k+n=2/\sl=(best k).1/\v=(best k).2.1/\jd wr s (best k).2.2/\mJ (best k).2.2/\(best k).2.2.length<=1048576/\s.n<=s.c/\(∀g,s.aX=some g->w2.heap.size<=g)/\Ext w wr/\w2.heap.size<=wr,
  ⟨2,rfl,0,rfl,rfl,by rw[b0],by rw[b0],by rw[b0];exact nY.FC (ar.nil (B:=0)),by rw[b0];exact(λc hc=>by cases hc),by rw[b0];simp,ak _,(λg hg=>by cases hg),x2,ak _⟩,?_⟩
 rintro n4 us i sl v s br ⟨k,rfl,hk,rfl,rfl,hs,TT,lE,hsc,hsf,bL,z10⟩;apply Br.mk<;>intro hc
 ·replace hc:=lM hc;have TY:=nE (j:=k);obtain⟨slot,hslot,hnext⟩:∃slot,([vI (2*id),vI (2*id+1)]:LV)[((k:Nat):Int).toNat*1]? =some (vI slot)/\best (k+1)=j2 (best k) slot (pT (getD D slot)):=by
   rcases k with _|_|k
   ·exact⟨_,rfl,b1⟩
   ·exact⟨_,rfl,b2⟩
   ·omega
  have h10:=h.ext bL;refine⟨⟨aa,aa⟩,slot,hslot,_,h10.ptr,(ZW h10.dk hW slot).mono ?_⟩;rintro e cp ⟨t,tb,rfl,ot,WE,hle,cY⟩;have z14:=cY.size;refine⟨t,tb,rfl,cY.k,cY.k,(VO t (getD D slot) cp (nY.FC ot) WE (ar.le ot) aa).mono ?_⟩;rintro e cP ⟨u,rfl,hu,huc,hub,dO⟩;have z17:=dO.size;have ahc:=cY.tr dO;have hui:=am3 WE;have hul:=am4 (getD D slot);have aV:j2 (best k) slot (pT (getD D slot))=best k->∃n11,n11<n4/\aR [ai,ai,.slice none 0 0]/\∃k':Nat,aC ((k:Int)+1)=(k':Int)/\k'+n11=2/\(best k).1=(best k').1/\(best k).2.1=(best k').2.1/\jd cP s (best k').2.2/\mJ (best k').2.2/\(best k').2.2.length<=1048576/\s.n<=s.c/\(∀g,s.aX=some g->w2.heap.size<=g)/\Ext w cP/\w2.heap.size<=cP:=λq=>by rw[q]at hnext;exact⟨n4-1,aa,rfl,k+1,TY,aa,by rw[hnext],by rw[hnext],by rw[hnext];exact hs.ext ahc,by rw[hnext];exact TT,by rw[hnext];exact lE,hsc,hsf,bL.tr ahc,aa⟩
  refine⟨_,u,_,rfl,dO.k,dO.k,Br.mk (λhb=>Br.mk (λlk=>?_) (λlk=>?_)) (λhb=>?_)⟩
  ·have q1:=eK hb;have q2:=eK lk;have e:j2 (best k) slot (pT (getD D slot))=(slot,(pT (getD D slot)).1,(pT (getD D slot)).2.1):=by unfold j2;rw[if_pos ⟨q1,q2⟩]
   rw[e]at hnext;intro di vq;have fk:Ext w di:=(bL.tr ahc).af vq aa;have aBA:jd di u (pT (getD D slot)).2.1:=hu.same λg hg=>by rw[vq];exact setRow_other _ _ _ _ (by have:=hub g hg;omega)
   have z21:di.heap.size=cP.heap.size:=by rw[vq,setRow_size]
   exact⟨n4-1,aa,rfl,k+1,TY,aa,by rw[hnext],by rw[hnext],by rw[hnext];exact aBA,by rw[hnext];exact hui,by rw[hnext];simp only;omega,huc,(λg hg=>by have:=hub g hg;omega),fk,aa⟩
  ·have q2:=eK lk;exact aV (by unfold j2;rw[if_neg λq=>q2 q.2])
  ·have q1:=eK hb;exact aV (by unfold j2;rw[if_neg λq=>q1 q.1])
 ·replace hc:=lW hc;have Yj:k=2:=by omega
  subst Yj;rw[b3]at hs TT lE⊢;intro dh Dy;refine⟨s,rfl,hs.same λg hg=>?_,TT,lE,hsc,λg hg=>by have:=hsf g hg;omega,bL.af Dy (ak _)⟩;rw[Dy];exact setRow_other _ _ _ _ (by have:=hsf g hg;omega)
def KU(id:Int)(w:World):kh 230 #[id] w (Value.bool (IE id)):=by
 apply Zs.vc;unfold IE;apply Br.mk<;>intro h
 ·simp only[ge_iff_le,cC]at h;rw[decide_eq_true h];exact⟨rfl,rfl⟩
 ·simp only[ge_iff_le,fg]at h;rw[decide_eq_false h];exact⟨rfl,rfl⟩
def SX{id:Int}:IE id=true↔0<=id/\id<=1099511627776:=by unfold IE;simp
def Db{w:World}{st d:Nat}{m:Dm}{D:Dk}(h:SO w st d m D)(hW:D.l.length<=1000000000)(id:Int):
  ab 161 #[st,id] w λe w'=>∃s:Sl,e=Value.tuple #[s,vI (pU D id).2.1,.bool (pU D id).2.2]/\jd w' s (pU D id).1/\mJ (pU D id).1/\(pU D id).1.length<=1048576/\s.n<=s.c/\(∀g,s.aX=some g->w.heap.size<=g)/\Ext w w':=by
 apply BR.vc;refine(KU id w).eL ?_;refine⟨_,rfl,Br.mk (λhb=>?_) (λhb=>?_)⟩
 ·have q:¬IE id=true:=by simpa using hb
  have e:pU D id=([],0,false):=by unfold pU;rw[if_neg q]
  rw[e];exact⟨⟨none,0,0⟩,rfl,nY.FC (ar.nil (B:=0)),(λc hc=>by cases hc),bo,ak _,(λg hg=>by cases hg),Ext.bT _⟩
 ·have q:IE id=true:=by simpa using hb
  have e:pU D id=((kL D id).2.2,(kL D id).2.1,decide ((kL D id).2.1>0)):=by unfold pU;rw[if_pos q]
  rw[e];refine(SW h hW (SX.1 q)).mono ?_;rintro e w2 ⟨s,rfl,hs,TT,lE,hsc,hsf,x2⟩;refine⟨_,_,s,rfl,λw6 e6 w7 e7=>?_⟩;have x7:Ext w2 w7.drew:=((aU e6).af e7 (ak _)).drew;exact⟨s,rfl,hs.ext x7,TT,lE,hsc,hsf,x2.tr x7⟩
def Eo(w:World)(st d:Nat)(m:Dm)(D:Dk)(w':World):Prop:=∃m',SO w' st d m' D/\Mod (λi=>i=d\/m.ls.aX=some i) w w'/\(∀i,dF d m' i->dF d m i\/w.heap.size<=i)/\∀i,m'.ls.aX=some i->m.ls.aX=some i\/w.heap.size<=i
def SO.off{w:World}{st d:Nat}{m:Dm}{D:Dk}(h:SO w st d m D):¬(st=d\/m.ls.aX=some st):=by
 rintro(q|q)
 ·exact h.rs.ne h.dk.rd au q
 ·obtain⟨cs',jT⟩:=aT h.dk.ol au q;exact h.rs.ne jT au rfl
def SO.res{w w':World}{st d:Nat}{m:Dm}{D D':Dk}(h:SO w st d m D)(hr:amC w d m D' w'):Eo w st d m D' w':=by obtain⟨m',h1,h2,h3,h4⟩:=hr;exact⟨m',⟨h2.row h.rs h.off,h1⟩,h2,h3,h4⟩
def Eo.aq{w0 w w':World}{st d:Nat}{m:Dm}{D':Dk}(x:Ext w0 w)(hr:Eo w st d m D' w'):Eo w0 st d m D' w':=by obtain⟨m',h1,h2,h3,h4⟩:=hr;have z:=x.size;exact⟨m',h1,(Mod.aq x).trans h2,λi hi=>(h3 i hi).imp id λq=>by omega,λi hi=>(h4 i hi).imp id λq=>by omega⟩
def Eo.trans{w w1 w2:World}{st d:Nat}{m m1:Dm}{D1 D2:Dk}(h1:SO w1 st d m1 D1/\Mod (λi=>i=d\/m.ls.aX=some i) w w1/\(∀i,dF d m1 i->dF d m i\/w.heap.size<=i)/\∀i,m1.ls.aX=some i->m.ls.aX=some i\/w.heap.size<=i)(h2:Eo w1 st d m1 D2 w2):Eo w st d m D2 w2:=by
 obtain⟨a1,a2,a3,a4⟩:=h1;obtain⟨m2,b1,b2,b3,b4⟩:=h2;have z:=a2.size;refine⟨m2,b1,a2.tr b2 λi hi=>?_,λi hi=>?_,λi hi=>?_⟩
 ·rcases hi with q|q
  ·exact .inl (.inl q)
  ·exact(a4 i q).imp .inr id
 ·rcases b3 i hi with q|q
  ·exact a3 i q
  ·exact .inr aa
 ·rcases b4 i hi with q|q
  ·exact a4 i q
  ·exact .inr aa
def C0{w:World}{st d:Nat}{m:Dm}{D:Dk}(h:SO w st d m D)(hW:D.l.length<=1000000)(id:Int)(s:Sl)(b:List Int)(hs:jd w s b)(hb:mJ b)(hn:b.length<=1099511627776):
  ab 235 #[st,id,s] w λe w'=>e=vI (tJ D id b).2/\Eo w st d m (tJ D id b).1 w':=by
 apply(Co.vc (a2:=s));have same:∀{w':World},Ext w w'->Eo w st d m D w':=λx=>⟨m,h.ext x,Mod.aq x,λi hi=>.inl hi,λi hi=>.inl hi⟩
 refine(KU id w).eL ?_;refine⟨_,rfl,Br.mk (λYx=>?_) (λYx=>?_)⟩
 ·have q:¬IE id=true:=by simpa using Yx
  have e:tJ D id b=(D,1):=by unfold tJ;rw[if_neg q]
  rw[e];exact⟨rfl,same (Ext.bT _)⟩
 ·have q:IE id=true:=by simpa using Yx
  have hid:=SX.1 q;refine(SW h aa hid).mono ?_;rintro e w2 ⟨s5,rfl,-,-,-,-,-,x2⟩;refine⟨_,_,s5,rfl,λw6 e6 w7 e7=>?_⟩;have r7:Row w7 w2 [vI (kL D id).1,vI (kL D id).2.1,s5] aro:=by rw[e7];exact Row.set (by rw[e6];exact Row.new w2 [_,_,_] _) _
  have jl:Ext w2 w7:=(aU e6).af e7 (ak _);have x7:=x2.tr jl;have hv:=akv D id;have wv:aC ((kL D id).2.1+1)=(kL D id).2.1+1:=wI;rw[wv];have lE:=Pm D id;have hto:lA .i64 (kL D id).1 1=4*id+1-(kL D id).1:=by
   obtain⟨t1,t2⟩:=acU hid;rcases lE with q|q
   ·rw[q,t1];omega
   ·rw[q,t2];omega
  rw[hto];have hsv:tJ D id b=if(zf ((kL D id).2.1+1) b).2≠0 then(D,(zf ((kL D id).2.1+1) b).2)
   else if(kV D (4*id+1-(kL D id).1) (zf ((kL D id).2.1+1) b).1).2≠0 then kV D (4*id+1-(kL D id).1) (zf ((kL D id).2.1+1) b).1
   else nX (kV D (4*id+1-(kL D id).1) (zf ((kL D id).2.1+1) b).1).1:=by unfold tJ;rw[if_pos q]
  rw[hsv];refine(Se ((kL D id).2.1+1) s b w7 (hs.ext x7) hb hn).mono ?_;rintro e w8 ⟨s9,rfl,o9,x8⟩;have hwb:mJ (zf ((kL D id).2.1+1) b).1:=anf hb;have hwn:(zf ((kL D id).2.1+1) b).1.length<=1099511627776:=by
   unfold zf;split
   ·simp
   ·rename_i q3;rw[BC,rj];omega
  generalize zf ((kL D id).2.1+1) b=wr at*;generalize 4*id+1-(kL D id).1=slot at*;have z8:=x8.size;have z2:=jl.size;have hlt7:=r7.lt;refine⟨s9,_,rfl,x8.heap hlt7,Br.mk (λlk=>?_) (λlk=>?_)⟩
  ·have q2:wr.2≠0:=by simpa using lk
   rw[if_pos q2];exact⟨rfl,same (x7.tr x8)⟩
  ·have q2:wr.2=0:=by simpa using lk
   rw[if_neg (by rw[q2];simp)];have x8d:=(x7.tr x8).tr (Ext.dr w8);have h8:=h.ext x8d;have hdl:=h.dk.rd.lt;have z7:=x7.size;refine⟨_,h8.ptr,(Z7 h8.dk aa slot s9 wr.1 (RdK.ext (nY.FC o9) (Ext.dr w8)) hwb hwn λhg=>by have:=(o9.own.lt hg).1;omega).bf λbN aBB=>?_⟩;have auz:=h8.res aBB;have yG:∀{v:World},Mod (λi=>i=d\/m.ls.aX=some i) w8.drew v->v.heap[w2.heap.size]? =w8.drew.heap[w2.heap.size]? :=λhm=>hm.same _ (by show w2.heap.size<w8.heap.size;omega) (by
    have:=x2.size;rintro(q|q)
    ·omega
    ·have:=(h.dk.ol.own.lt q).2;omega)
   obtain⟨m1,g1,g2,g3,g4⟩:=auz;have r12:Row bN w2 [vI (kL D id).1,vI (kL D id).2.1,s5] aro:=((r7.ext x8).ext (Ext.dr w8)).same (yG g2);refine⟨_,rfl,yG g2,r12.bH (λj hj=>by simp at hj;subst hj;rfl),Br.mk (λhb3=>?_) (λhb3=>?_)⟩
   ·have q3:(kV D slot wr.1).2≠0:=by simpa using hb3
    rw[if_pos q3];exact⟨rfl,Eo.aq x8d ⟨m1,g1,g2,g3,g4⟩⟩
   ·have q3:(kV D slot wr.1).2=0:=by simpa using hb3
    rw[if_neg (by rw[q3];simp)];have S7:=acW D slot wr.1;refine⟨_,g1.ptr,(V2 g1.dk aa).bf λc9 auA=>?_⟩;have auB:=g1.res auA;have bq:=Eo.trans ⟨g1,g2,g3,g4⟩ auB;have z12:=g2.size;obtain⟨m2,f1,f2,f3,f4⟩:=auA;refine⟨_,rfl,f2.same _ r12.lt ?_,rfl,Eo.aq x8d bq⟩;rintro(q|q)
    ·have:=x2.size;omega
    ·obtain⟨cs',jT⟩:=aT g1.dk.ol au q;exact r12.ne jT au rfl
structure It where
 x:Nat
 g:Nat
 s:Sl
 p:Po
 C:List Int
 o5:Bool
 pins:Int
structure tM(w:World)(i:It):Prop where
 r:Row w i.x [.pointer (aB i.g),.bool i.o5,i.pins] cc
 k:Ja w i.g i.s i.p i.C
def tM.ext{w w':World}{i:It}(h:tM w i)(x:Ext w w'):tM w' i:=⟨h.r.ext x,h.k.ext x⟩
def tM.aV{w w':World}{i:It}(h:tM w i){F:Nat->Prop}(hm:Mod F w w')(h1:¬F i.x)(h2:¬F i.g)(h3:∀b,i.s.aX=some b->¬F b):tM w' i:=⟨hm.row h.r h1,h.k.aV hm h2 h3⟩
abbrev DI(its:List It):List (LV):=its.map λi=>[.pointer (aB i.x)]
structure TO(w:World)(t st d:Nat)(r:Dm)(sl:Sl)(D:Dk)(aj limit:Int)(its:List It):Prop where
 rt:Row w t [st,aj,limit,sl] B0
 so:SO w st d r D
 ol:ar 0 tPI 1 w sl (DI its)
 it:∀i∈its,tM w i
 dx:(its.map (·.x)).Nodup
 dg:(its.map (·.g)).Nodup
 W8:1<=limit/\limit<=16
 len:(its.length:Int)<=limit
def dM(m:Dm)(i:Nat):Prop:=i=m.r\/m.ls.aX=some i\/∃x∈m.E++m.W,x.2.1.aX=some i
def aw(t st d:Nat)(r:Dm)(sl:Sl)(its:List It)(i:Nat):Prop:=i=t\/i=st\/i=d\/dM r i\/sl.aX=some i\/∃y∈its,i=y.x\/i=y.g\/y.s.aX=some i
def TO.lt{w:World}{t st d:Nat}{r:Dm}{sl:Sl}{D:Dk}{aj limit:Int}{its:List It}(h:TO w t st d r sl D aj limit its){i:Nat}(hi:aw t st d r sl its i):i<w:=by
 rcases hi with rfl|e|e|e|e|⟨y,hy,e|e|e⟩
 ·exact h.rt.lt
 ·exact h.so.lt (.inl e)
 ·exact h.so.lt (.inr (.inl e))
 ·exact h.so.lt (.inr (.inr e))
 ·exact(h.ol.own.lt e).2
 ·exact e▸(h.it y hy).r.lt
 ·exact e▸(h.it y hy).k.row.lt
 ·exact((h.it y hy).k.own.own.lt e).2
def TO.same{w w':World}{t st d:Nat}{r:Dm}{sl:Sl}{D:Dk}{aj limit:Int}{its:List It}(h:TO w t st d r sl D aj limit its)(hs:∀i,aw t st d r sl its i->w'.heap[i]? =w.heap[i]?):TO w' t st d r sl D aj limit its:=by
 refine⟨h.rt.same (hs _ (.inl rfl)),h.so.same λi hi=>hs i ?_,ar.aV h.ol λb hb=>hs b (.inr (.inr (.inr (.inr (.inl hb))))),λy hy=>?_,h.dx,h.dg,h.W8,h.len⟩
 ·rcases hi with e|e|e
  ·exact .inr (.inl e)
  ·exact .inr (.inr (.inl e))
  ·exact .inr (.inr (.inr (.inl e)))
 ·have f:∀i,(i=y.x\/i=y.g\/y.s.aX=some i)->w'.heap[i]? =w.heap[i]? :=λi hi=>hs i (.inr (.inr (.inr (.inr (.inr ⟨y,hy,hi⟩)))))
  have hi:=h.it y hy;exact⟨hi.r.same (f _ (.inl rfl)),hi.k.row.same (f _ (.inr (.inl rfl))),ar.aV hi.k.own λb hb=>f b (.inr (.inr hb)),hi.k.len,hi.k.may⟩
def TO.ext{w w':World}{t st d:Nat}{r:Dm}{sl:Sl}{D:Dk}{aj limit:Int}{its:List It}(h:TO w t st d r sl D aj limit its)(x:Ext w w'):TO w' t st d r sl D aj limit its:=h.same λi hi=>x.heap (h.lt hi)
def TO.kind{w:World}{t st d:Nat}{r:Dm}{sl:Sl}{D:Dk}{aj limit:Int}{its:List It}(h:TO w t st d r sl D aj limit its){i:Nat}(hi:aw t st d r sl its i):
  bG GI w (some i) (r.E.map mw)\/∃cs τ,Row w i cs τ/\(τ=B0\/τ=BZ\/τ=tg\/τ=tPI\/τ=cc\/τ=xY\/τ=ic\/τ=tW\/τ=jG):=by
 rcases hi with e|e|e|e|e|⟨y,hy,e|e|e⟩
 ·exact .inr ⟨_,_,e▸h.rt,.inl rfl⟩
 ·exact .inr ⟨_,_,e▸h.so.rs,.inr (.inl rfl)⟩
 ·exact .inr ⟨_,_,e▸h.so.dk.rd,.inr (.inr (.inl rfl))⟩
 ·rcases h.so.dk.kind (.inr e)with q|⟨cs,τ,q1,q2⟩
  ·exact .inl q
  ·refine .inr ⟨cs,τ,q1,?_⟩;rcases q2 with rfl|rfl|rfl
   ·exact .inr (.inr (.inl rfl))
   ·exact .inr (.inr (.inr (.inr (.inr (.inr (.inr (.inl rfl)))))))
   ·exact .inr (.inr (.inr (.inr (.inr (.inr (.inr (.inr rfl)))))))
 ·obtain⟨cs,hr⟩:=aT h.ol au e;exact .inr ⟨_,_,hr,.inr (.inr (.inr (.inl rfl)))⟩
 ·exact .inr ⟨_,_,e▸(h.it y hy).r,.inr (.inr (.inr (.inr (.inl rfl))))⟩
 ·exact .inr ⟨_,_,e▸(h.it y hy).k.row,.inr (.inr (.inr (.inr (.inr (.inl rfl)))))⟩
 ·obtain⟨cs,hr⟩:=aT (h.it y hy).k.own au e;exact .inr ⟨_,_,hr,.inr (.inr (.inr (.inr (.inr (.inr (.inl rfl))))))⟩
def TO.dR{w:World}{t st d:Nat}{r:Dm}{sl:Sl}{D:Dk}{aj limit:Int}{its:List It}(h:TO w t st d r sl D aj limit its){j:Nat}{cs:LV}{τ:TypeId}(hr:Row w j cs τ)(hτ:τ≠B0/\τ≠BZ/\τ≠tg/\τ≠tPI/\τ≠cc/\τ≠xY/\τ≠ic/\τ≠tW/\τ≠jG):¬aw t st d r sl its j:=λhf=>by
 rcases h.kind hf with hm|⟨cs',τ',hr',ht⟩
 ·exact hr.fH hm rfl
 ·obtain⟨h1,h2,h3,h4,h5,h6,h7,h8,h9⟩:=hτ
  rcases ht with rfl|rfl|rfl|rfl|rfl|rfl|rfl|rfl|rfl
  ·exact hr.ne hr' h1 rfl
  ·exact hr.ne hr' h2 rfl
  ·exact hr.ne hr' h3 rfl
  ·exact hr.ne hr' h4 rfl
  ·exact hr.ne hr' h5 rfl
  ·exact hr.ne hr' h6 rfl
  ·exact hr.ne hr' h7 rfl
  ·exact hr.ne hr' h8 rfl
  ·exact hr.ne hr' h9 rfl
def TO.n{w:World}{t st d:Nat}{r:Dm}{sl:Sl}{D:Dk}{aj limit:Int}{its:List It}(h:TO w t st d r sl D aj limit its):sl.n=its.length:=by have:=(h.ol.rd au).n;rwa[aK]at this
def TO.at{w:World}{t st d:Nat}{r:Dm}{sl:Sl}{D:Dk}{aj limit:Int}{its:List It}(h:TO w t st d r sl D aj limit its){i:Nat}{y:It}(hi:its[i]? =some y):gD sl.a (i:Int) sl.n/\ld w (ae sl.a (((i:Nat):Int).toNat*1))=some (.pointer (aB y.x)):=by have fK:=(cG.1 hi).1;have gF:=h.ol.rd (show 0<1 by decide);refine⟨RdK.jX gF au aa (by rw[h.n];omega),?_⟩;have:=gF.rd i [.pointer (aB y.x)] (by rw[aW,hi];rfl) 0 _ rfl;exact this
def T9(room:Int):Dk:=⟨min (max room 0) 1048576,0,0,[],[]⟩
def abr(aj limit room:Int)(w:World):ab 176 #[aj,limit,room] w λe w'=>∃t st d r,e=Value.pointer (aB t)/\TO w' t st d r ⟨none,0,0⟩ (T9 room) aj (min (max limit 1) 16) []/\Ext w w'/\∀i,aw t st d r ⟨none,0,0⟩ [] i->w.heap.size<=i:=by
 apply ZB.vc;refine(abt room w).mono ?_;rintro e w0 ⟨st,d,m,rfl,hs,x0,hf⟩;refine⟨_,rfl,λw2 e2=>?_⟩;have x2:=aU e2;have z0:=x0.size;have hl:(if 16<(if 1>limit then 1 else limit)then 16 else(if 1>limit then 1 else limit))=min (max limit 1) 16:=by split<;>split<;>omega
 rw[hl]at e2;refine⟨_,st,d,m,rfl,⟨by rw[e2];exact Row.new w0 [_,_,_,_] _,hs.ext x2,ar.nil,bo,bo,bo,aa,by simp;omega⟩,x0.tr x2,λi hi=>?_⟩;rcases hi with rfl|e|e|e|e|⟨y,hy,-⟩
 ·exact z0
 ·exact hf i (.inl e)
 ·exact hf i (.inr (.inl e))
 ·exact hf i (.inr (.inr e))
 ·cases e
 ·cases hy
def uS{α:Type}(s:Sl)(l:List α)(ad:α->Nat)(fv:Value)(q:α->Bool)(w:World)(hs:RdK w s 1 (l.map λi=>[.pointer (some ⟨ad i,0,none⟩)]))(hb:l.length<=1000)
  (hf:∀i∈l,∀w',Ext w w'->bu Tryz.prog fv [.pointer (some ⟨ad i,0,none⟩)] w' λe w''=>e=Value.bool (q i)/\Ext w' w''):
  ed 227 #[s,fv] w (vI (bK q l)):=by
 apply tR.vc;have hn:s.n=l.length:=by have:=hs.n;rwa[aK]at this
 refine⟨λn i wr=>∃k:Nat,i=k/\k+n=l.length/\Ext w wr/\∀j,j<k->∀y,l[j]? =some y->q y=false,⟨l.length,0,rfl,aa,Ext.bT _,λj hj=>by omega⟩,?_⟩;rintro n us i wr ⟨k,rfl,hk,xr,lp⟩;have TY:=nE (j:=k);apply Br.mk<;>intro hc
 ·replace hc:=lM hc;obtain⟨y,hy⟩:=bX (l:=l) (i:=k) aa;have hsr:=RdK.ext hs xr;have pG:=hsr.rd k [.pointer (some ⟨ad y,0,none⟩)] (by rw[aW,hy];rfl) 0 _ rfl;refine⟨RdK.jX hsr au aa aa,_,pG,bJ (hf y (aQ hy) wr xr) ?_⟩;rintro e w7 ⟨rfl,x7⟩;refine⟨_,rfl,Br.mk (λh=>?_) (λh=>?_)⟩
  ·exact⟨by rw[vz hy h lp],xr.tr x7⟩
  ·refine⟨n-1,aa,k+1,TY,aa,xr.tr x7,λj hj z hz=>?_⟩;by_cases e:j=k
   ·subst e;rw[hy]at hz;cases hz;exact h
   ·exact lp j aa z hz
 ·replace hc:=lW hc;refine⟨?_,xr⟩;rw[mX];intro y hy;obtain⟨j,hj⟩:=yY hy;exact lp j (by have:=(cG.1 hj).1;omega) y hj
def find_spec{w:World}{t st d:Nat}{r:Dm}{sl:Sl}{D:Dk}{aj limit:Int}{its:List It}(h:TO w t st d r sl D aj limit its)(p:Po):
  ed 158 #[t,pv p] w (vI (bK (λi=>i.p==p) its)):=by
 apply BP.vc;intro w0 e0;have x0:=aU e0;have hb:Row w0 w [p.1,p.2] tPo:=Row.nw e0;have h0:=h.ext x0;have cX:=h.len;have agM:=h.W8;refine⟨sl,h0.rt.at 3 rfl,(uS sl its (·.x) _ (λi=>i.p==p) w0 (h0.ol.rd au) aa ?_).mono ?_⟩
 ·intro y hy w' x';refine bR (by kernel_rfl) (by rfl) ?_;apply xL.vc;have hy':=((h0.it y hy).ext x').ext (Ext.dr w');have hb':=(hb.ext x').ext (Ext.dr w');refine⟨_,by rw[aF,hy'.r.ld];rfl,sb (sb ⟨_,_,hy'.k.pos,_,_,hb'.bH (λj hj=>by rw[eF]),(xF y.p w'.drew).bf λw5 x5=>?_⟩)⟩;refine⟨_,_,rfl,(hb'.ext x5).bH (λj hj=>by rw[eF]),?_,rfl,(Ext.dr w').tr x5⟩;rw[aF];exact(hy'.ext x5).r.bH (λj hj=>by simp at hj;subst hj;rfl)
 ·rintro e w2 ⟨rfl,x2⟩;exact⟨_,rfl,rfl,x0.tr x2⟩
def SO.kind{w:World}{st d:Nat}{m:Dm}{D:Dk}(h:SO w st d m D){i:Nat}(hi:sF st d m i):bG GI w (some i) (m.E.map mw)\/∃cs τ,Row w i cs τ/\(τ=BZ\/τ=tg\/τ=tW\/τ=jG):=by
 rcases hi with e|hi
 ·exact .inr ⟨_,_,e▸h.rs,.inl rfl⟩
 ·rcases h.dk.kind hi with q|⟨cs,τ,q1,q2⟩
  ·exact .inl q
  ·exact .inr ⟨cs,τ,q1,.inr q2⟩
def SO.aV{w w':World}{st d:Nat}{m:Dm}{D:Dk}(h:SO w st d m D){F:Nat->Prop}(hm:Mod F w w')(hr:∀{j:Nat}{cs:LV}{τ:TypeId},Row w j cs τ->(τ=BZ\/τ=tg\/τ=tW\/τ=jG)->¬F j)(hmp:∀{j:Nat}{kvs:List (Value×Value)},bG GI w (some j) kvs->¬F j):SO w' st d m D:=
 h.same λi hi=>hm.same i (h.lt hi) (by
  rcases h.kind hi with q|⟨cs,τ,q1,q2⟩
  ·exact hmp q
  ·exact hr q1 q2)
abbrev slF(t:Nat)(sl:Sl):Nat->Prop:=λj=>j=t\/sl.aX=some j
def TO.off{w:World}{t st d:Nat}{r:Dm}{sl:Sl}{D:Dk}{aj limit:Int}{its:List It}(h:TO w t st d r sl D aj limit its){j:Nat}{cs:LV}{τ:TypeId}(hr:Row w j cs τ)(h1:τ≠B0)(h2:τ≠tPI):¬slF t sl j:=by
 rintro(e|e)
 ·exact hr.ne h.rt h1 e
 ·obtain⟨cs',hr'⟩:=aT h.ol au e;exact hr.ne hr' h2 rfl
def TO.item{w w':World}{t st d:Nat}{r:Dm}{sl:Sl}{D:Dk}{aj limit:Int}{its:List It}(h:TO w t st d r sl D aj limit its)(hm:Mod (slF t sl) w w'){y:It}(hy:tM w y):tM w' y:=
 hy.aV hm (h.off hy.r au au) (h.off hy.k.row au au) (λb hb=>by obtain⟨cs',hr'⟩:=aT hy.k.own au hb;exact h.off hr' au au)
def TO.aeg{w w':World}{t st d:Nat}{r:Dm}{sl sl':Sl}{D:Dk}{aj limit:Int}{its its':List It}(h:TO w t st d r sl D aj limit its)(hm:Mod (slF t sl) w w')
  (rt:Row w' t [st,aj,limit,sl'] B0)(ol:ar 0 tPI 1 w' sl' (DI its'))(hit:∀y∈its',y∈its\/tM w y)
  (dx:(its'.map (·.x)).Nodup)(dg:(its'.map (·.g)).Nodup)(len:(its'.length:Int)<=limit):TO w' t st d r sl' D aj limit its':=by
 refine⟨rt,h.so.aV hm (λhr hτ=>?_) (λhmp=>?_),ol,λy hy=>h.item hm ?_,dx,dg,h.W8,len⟩
 ·rcases hτ with rfl|rfl|rfl|rfl<;>exact h.off hr au au
 ·rintro(e|e)
  ·exact h.rt.fH hmp e.symm
  ·obtain⟨cs',hr'⟩:=aT h.ol au e;exact hr'.fH hmp rfl
 ·rcases hit y hy with h1|h1
  ·exact h.it y h1
  ·exact h1
def Gy{w:World}{t st d:Nat}{r:Dm}{sl sl':Sl}{its its':List It}(hb:∀b,sl'.aX=some b->sl.aX=some b\/w.heap.size<=b)(hi:∀y∈its',y∈its\/(w.heap.size<=y.x/\w.heap.size<=y.g/\∀b,y.s.aX=some b->w.heap.size<=b)):
  ∀i,aw t st d r sl' its' i->aw t st d r sl its i\/w.heap.size<=i:=by
 rintro i (e|e|e|e|e|⟨y,hy,e⟩)
 ·exact .inl (.inl e)
 ·exact .inl (.inr (.inl e))
 ·exact .inl (.inr (.inr (.inl e)))
 ·exact .inl (.inr (.inr (.inr (.inl e))))
 ·rcases hb i e with h|h
  ·exact .inl (.inr (.inr (.inr (.inr (.inl h)))))
  ·exact .inr h
 ·rcases hi y hy with h|⟨h1,h2,h3⟩
  ·exact .inl (.inr (.inr (.inr (.inr (.inr ⟨y,h,e⟩)))))
  ·rcases e with e|e|e
   ·exact .inr aa
   ·exact .inr aa
   ·exact .inr (h3 i e)
def zZ{t st d:Nat}{r:Dm}{sl:Sl}{its:List It}:∀i,slF t sl i->aw t st d r sl its i:=by
 rintro i (e|e)
 ·exact .inl e
 ·exact .inr (.inr (.inr (.inr (.inl e))))
def akL(a:Addr):One [Value.pointer (some a)]:=by intro v hv;simp at hv;subst hv;rfl
def TO.push{w:World}{t st d:Nat}{r:Dm}{sl:Sl}{D:Dk}{aj limit:Int}{its:List It}(h:TO w t st d r sl D aj limit its)(y:It)(hy:tM w y)(hx:y.x∉its.map (·.x))(hg:y.g∉its.map (·.g))(hl:(its.length:Int)+1<=limit):
  bj 8 1 w sl 1 [.pointer (aB y.x)]/\∀(s4:Sl)(w5:World),aY tPI 1 w sl 1 [.pointer (aB y.x)] s4 w5->
   Mod (λj=>sl.aX=some j) w w5/\Wr w5 (ae (aB t) 3) 1/\∀w6,w6=bB w5 (ae (aB t) 3) [.slice s4.a s4.n s4.c]->
    TO w6 t st d r s4 D aj limit (its++[y])/\Mod (slF t sl) w w6/\∀b,s4.aX=some b->sl.aX=some b\/w.heap.size<=b:=by
 have hn:=h.n;have agM:=h.W8;obtain⟨hp,hr⟩:=h.ol.append (bytes:=8) (news:=[.pointer (aB y.x)]) (eG _) rfl (akL _) aa aa;refine⟨hp,λs4 w5 bq=>?_⟩;obtain⟨ho,hn4,kQ,hk,iK⟩:=hr s4 w5 bq;have hm5:Mod (λj=>sl.aX=some j) w w5:=Mod.xq kQ hk;have hnt:¬sl.aX=some t:=λe=>by obtain⟨cs',hr'⟩:=aT h.ol au e;exact hr'.ne h.rt au rfl
 have rt5:=hm5.row h.rt hnt;obtain⟨p1,p2⟩:=rt5.ft (j:=3) (v:=.slice s4.a s4.n s4.c) bo rfl;refine⟨hm5,p1,λw6 e6=>?_⟩;obtain⟨q1,q2⟩:=p2 w6 e6;have hm6:Mod (slF t sl) w w6:=(hm5.mono λi _ hi=>.inr hi).trans (q2.mono λi _ hi=>.inl hi);have h4t:∀b,s4.aX=some b->b≠t:=λb hb=>by obtain⟨cs',hr'⟩:=aT ho au hb;exact hr'.ne rt5 au
 refine⟨h.aeg hm6 q1 ?_ (λz hz=>?_) ?_ ?_ smo,hm6,λb hb=>?_⟩
 ·have:=q2.gR ho h4t;show ar 0 tPI 1 w6 s4 ((its++[y]).map _);rw[cl];exact this
 ·rcases dp.1 hz with hz|hz
  ·exact .inl hz
  ·simp at hz;subst hz;exact .inr hy
 ·rw[cl];refine GW.2 ⟨h.dx,bo,?_⟩;intro a ha b hb e;simp at hb;subst hb;subst e;exact hx ha
 ·rw[cl];refine GW.2 ⟨h.dg,bo,?_⟩;intro a ha b hb e;simp at hb;subst hb;subst e;exact hg ha
 ·rcases iK with e|e
  ·exact .inl (by rw[<-e];exact hb)
  ·rw[e]at hb;cases hb;exact .inr (ak _)
def Gz{w:World}{t st d:Nat}{r:Dm}{sl:Sl}{D:Dk}{aj limit:Int}{its:List It}(h:TO w t st d r sl D aj limit its){i:Nat}{y:It}(hi:its[i]? =some y):
  ab 165 #[t,vI (i:Nat)] w λe w'=>e=Value.pointer (aB y.x)/\∃sl',TO w' t st d r sl' D aj limit (its.eraseIdx i)/\Mod (slF t sl) w w'/\∀b,sl'.aX=some b->sl.aX=some b\/w.heap.size<=b:=by
 apply DY.vc;have hn:=h.n;have agM:=h.W8;have cX:=h.len;have OW:=(cG.1 hi).1;obtain⟨a1,a2⟩:=h.at hi;have hd:=h.ext (Ext.dr w);have hle:=ar.le h.ol;have w1:=nE (j:=i);refine⟨sl,h.rt.at 3 rfl,a1,_,a2,sl,hd.rt.at 3 rfl,aa,aa,aa,aa,sl,hd.rt.at 3 rfl,?_⟩;rw[w1];have mF:=hd.ol.cut au (m:=i) (by rw[aK];omega);have hrest:=RdK.rest (hd.ol.rd au) (l:=i+1) (m:=sl.c) (n':=sl.n-(i+1)) (c':=sl.c-(i+1)) (by rw[aK];omega) (by rw[aK];omega);have hml:((DI its).drop (i+1)).length=sl.n-(i+1):=by rw[wU,aK];omega
 have hwd:∀q∈(DI its).drop (i+1),q.length=1/\One q:=λq hq=>by obtain⟨z,_,rfl⟩:=bc.1 (zo hq);exact⟨rfl,akL _⟩
 obtain⟨hp,bq⟩:=mF.FB (bytes:=8) (more:=(DI its).drop (i+1)) (eG _) (λq hq=>(hwd q hq).1) (λq hq=>(hwd q hq).2) (by rw[hml];show(i+_)*8<=_;omega) (by rw[hml];show i+_<=_;omega);rw[hml]at hp bq;refine⟨aa,aa,((DI its).drop (i+1)).flatten,hrest.flat au,hp,λs5 w6 hr=>?_⟩;obtain⟨ho,hn5,kQ,hk,iK⟩:=bq s5 w6 hr;have TT:(Sl.mk (aE sl.a 0 i 1) i i).aX=sl.aX:=by rw[dt];rfl
 rw[TT]at hk iK;have hm6:Mod (λj=>sl.aX=some j) w w6:=(Mod.aq (Ext.dr w)).trans (Mod.xq kQ hk);have hnt:¬sl.aX=some t:=λe=>by obtain⟨cs',hr'⟩:=aT h.ol au e;exact hr'.ne h.rt au rfl
 have rt6:=hm6.row h.rt hnt;obtain⟨p1,p2⟩:=rt6.ft (j:=3) (v:=.slice s5.a s5.n s5.c) bo rfl;have pG:ah w6 (ae (aB t) 3) 0 [sl]:=by show ld w6 (ae _ 0)=_;rw[fu];exact rt6.at 3 rfl
 refine⟨pG,pG,⟨rfl,p1⟩,λw7 e7=>⟨rfl,s5,?_⟩⟩;obtain⟨q1,q2⟩:=p2 w7 e7;have hm7:Mod (slF t sl) w w7:=(hm6.mono λi _ hi=>.inr hi).trans (q2.mono λi _ hi=>.inl hi);have h5t:∀b,s5.aX=some b->b≠t:=λb hb=>by obtain⟨cs',hr'⟩:=aT ho au hb;exact hr'.ne rt6 au
 have dP:List.Sublist (its.eraseIdx i) its:=GA ..;refine⟨h.aeg hm7 q1 ?_ (λz hz=>.inl (dP.subset hz)) (h.dx.sublist (dP.map _)) (h.dg.sublist (dP.map _)) ?_,hm7,λb hb=>?_⟩
 ·have:=q2.gR ho h5t;show ar 0 tPI 1 w7 s5 ((its.eraseIdx i).map _);rw[W9,cl,List.map_take,List.map_drop];exact this
 ·have:=dP.length_le;omega
 ·rcases iK with e|e
  ·exact .inl (by rw[<-e];exact hb)
  ·rw[e]at hb;cases hb;exact .inr (ak _)
def Ko{α:Type}{f:α->Nat}{l:List α}{i:Nat}{y:α}(hd:(l.map f).Nodup)(hi:l[i]? =some y):f y∉(l.eraseIdx i).map f:=by
 rw[W9,cl];have e:l=l.take i++y::l.drop (i+1):=by have:=td i l;rw[zV (cG.1 hi).1]at this;rw[<-(cG.1 hi).2];exact this.symm
 rw[e,cl,eH]at hd;obtain⟨h1,h2,h3⟩:=GW.1 hd;intro hm;rcases dp.1 hm with hm|hm
 ·exact h3 _ hm _ (.head _) rfl
 ·exact(uv.1 h2).1 hm
def GD{w:World}{t st d:Nat}{r:Dm}{sl:Sl}{D:Dk}{aj limit:Int}{its:List It}(h:TO w t st d r sl D aj limit its){i:Nat}{y:It}(hi:its[i]? =some y):
  ab 159 #[t,vI (i:Nat)] w λe w'=>e=Value.pointer (aB y.x)/\∃sl',TO w' t st d r sl' D aj limit (its.eraseIdx i++[y])/\aJ (aw t st d r sl its) (aw t st d r sl' (its.eraseIdx i++[y])) w w':=by
 apply zP.vc;have OW:=(cG.1 hi).1;have Jr:y∈its:=aQ hi;have cX:=h.len;refine(Gz h hi).mono ?_;rintro e w0 ⟨rfl,sl0,h0,m0,b0⟩;have hy0:=h.item m0 (h.it y Jr);refine⟨_,rfl,sl0,h0.rt.at 3 rfl,λw3 e3=>?_⟩;have x3:=aU e3;have h3:=h0.ext x3;have dP:List.Sublist (its.eraseIdx i) its:=GA ..;have jm:(its.eraseIdx i).length=its.length-1:=by rw[List.length_eraseIdx,if_pos OW]
 obtain⟨hp,hr⟩:=h3.push y (hy0.ext x3) (Ko h.dx hi) (Ko h.dg hi) aa;refine⟨hp,λs4 w5 bq=>?_⟩;obtain⟨m5,p1,p2⟩:=hr s4 w5 bq;have ht0:=h0.rt.lt;have z3:=fD e3;refine⟨m5.same _ aa λe=>by have:=(h0.ol.own.lt e).2;omega,⟨rfl,p1⟩,λe=>?_,λw6 e6=>⟨rfl,s4,?_⟩⟩
 ·rw[cB]at e;have:t=w0.heap.size:=by simpa[bM]using e
  omega
 ·obtain⟨q1,q2,q3⟩:=p2 w6 e6;have z0:=m0.size;refine⟨q1,⟨?_,?_⟩⟩
  ·have a1:Mod (aw t st d r sl its) w w3:=(m0.mono λi _ hi=>zZ i hi).trans (Mod.aq x3);refine a1.tr q2 λj hj=>?_
   rcases hj with e|e
   ·exact .inl (.inl e)
   ·rcases b0 j e with e|e
    ·exact .inl (.inr (.inr (.inr (.inr (.inl e)))))
    ·exact .inr e
  ·refine Gy (w:=w) (λb hb=>?_) (λz hz=>.inl ?_)
   ·rcases q3 b hb with e|e
    ·exact b0 b e
    ·exact .inr aa
   ·rcases dp.1 hz with hz|hz
    ·exact dP.subset hz
    ·simp at hz;subst hz;exact Jr
def TO.put{w w':World}{t st d:Nat}{r:Dm}{sl:Sl}{D:Dk}{aj limit:Int}{its:List It}(h:TO w t st d r sl D aj limit its){i:Nat}{y y':It}(hi:its[i]? =some y)(hx:y'.x=y.x)(hg:y'.g=y.g)(hm:Mod (λj=>j=y.x) w w')(hy:tM w' y'):TO w' t st d r sl D aj limit (its.set i y'):=by
 have OW:=(cG.1 hi).1;have hr:=(h.it y (aQ hi)).r;have off:∀{j:Nat}{cs:LV}{τ:TypeId},Row w j cs τ->τ≠cc->¬j=y.x:=λhr' ht e=>hr'.ne hr ht e
 have hpx:DI (its.set i y')=DI its:=by
  unfold DI;rw[pM,hx];apply jF;intro j;rw[iS];split
  ·rename_i e;subst e;rw[if_pos (by rw[aK];exact OW),aW,hi];rfl
  ·rfl
 have hmx:(its.set i y').map (·.x)=its.map (·.x):=by
  rw[pM,hx];apply jF;intro j;rw[iS];split
  ·rename_i e;subst e;rw[if_pos (by rw[aK];exact OW),aW,hi];rfl
  ·rfl
 have hmg:(its.set i y').map (·.g)=its.map (·.g):=by
  rw[pM,hg];apply jF;intro j;rw[iS];split
  ·rename_i e;subst e;rw[if_pos (by rw[aK];exact OW),aW,hi];rfl
  ·rfl
 refine⟨hm.row h.rt (off h.rt au),h.so.aV hm (λhr' hτ=>by rcases hτ with rfl|rfl|rfl|rfl<;>exact off hr' au) (λhmp e=>hr.fH hmp e.symm),?_,λz hz=>?_,by rw[hmx];exact h.dx,by rw[hmg];exact h.dg,h.W8,by rw[lO];exact h.len⟩
 ·rw[hpx];exact hm.gR h.ol λb hb=>by obtain⟨cs',hr'⟩:=aT h.ol au hb;exact off hr' au
 ·obtain⟨j,hj⟩:=yY hz;rw[iS]at hj;split at hj
  ·cases hj;exact hy
  ·rename_i gl;have hzj:=h.it z (aQ hj);refine hzj.aV hm (λe=>?_) (off hzj.k.row au) (λb hb=>?_)
   ·
    have h1:(its.map (·.x))[i]? =some y.x:=by rw[aW,hi];rfl
    have h2:(its.map (·.x))[j]? =some z.x:=by rw[aW,hj];rfl
    have hjl:=(cG.1 hj).1;rw[e,<-h1]at h2;exact gl ((List.getElem?_inj (by rw[aK];exact hjl) h.dx).1 h2).symm
   ·obtain⟨cs',hr'⟩:=aT hzj.k.own au hb;exact off hr' au
def FU{t st d:Nat}{r:Dm}{sl:Sl}{its:List It}{i:Nat}{y y':It}(hi:its[i]? =some y)(hx:y'.x=y.x)(hg:y'.g=y.g)(hs:y'.s=y.s):∀j,aw t st d r sl (its.set i y') j->aw t st d r sl its j:=by
 rintro j (e|e|e|e|e|⟨z,hz,e⟩)
 ·exact .inl e
 ·exact .inr (.inl e)
 ·exact .inr (.inr (.inl e))
 ·exact .inr (.inr (.inr (.inl e)))
 ·exact .inr (.inr (.inr (.inr (.inl e))))
 ·rcases pY hz with hz|hz
  ·exact .inr (.inr (.inr (.inr (.inr ⟨z,hz,e⟩))))
  ·subst hz;rw[hx,hg,hs]at e;exact .inr (.inr (.inr (.inr (.inr ⟨y,aQ hi,e⟩))))
abbrev En:=Po×List Int×Bool×Int
def It.ob(i:It):En:=(i.p,i.C,i.o5,i.pins)
abbrev eA(its:List It):List En:=its.map It.ob
def vA(its:List It)(i:Nat):eA (its.eraseIdx i)=(eA its).eraseIdx i:=by unfold eA;rw[W9,W9,cl,List.map_take,List.map_drop]
def mY(its:List It)(p:Po):bK (λe:En=>e.1==p) (eA its)=bK (λi:It=>i.p==p) its:=me It.ob _ its
def Xa{its:List It}{i:Nat}{y y':It}(hi:its[i]? =some y){f:En->En}(hf:y'.ob=f y.ob):eA (its.set i y')=(eA its).modify i f:=by
 unfold eA;rw[pM];apply jF;intro j;rw[iS,CR,aK];have OW:=(cG.1 hi).1;split
 ·rename_i e;subst e;rw[aW,hi];simp[hf]
 ·rename_i e;rw[aW]
  cases its[j]? with
  |none=>rfl
  |some z=>simp[e]
abbrev Tb:=Dk×List En
def cD(D:Dk)(e:En):Dk×En×Int:=
 if e.2.2.1=true then((tJ D (Bk e.1) (r6 (iC e.2.1))).1,(e.1,e.2.1,decide ((tJ D (Bk e.1) (r6 (iC e.2.1))).2≠0),e.2.2.2),(tJ D (Bk e.1) (r6 (iC e.2.1))).2)else(D,e,0)
def goE(D:Dk)(l:List En)(i:Nat):Tb×Int:=
 match l[i]? with
 |none=>((D,l),0)
 |some e=>if(cD D e).2.2=0 then(((cD D e).1,l.eraseIdx i),0)else(((cD D e).1,l.set i (cD D e).2.1),(cD D e).2.2)
def fU(limit:Int)(D:Dk)(l:List En):Tb×Int:=
 if(l.length:Int)<limit then((D,l),0)else if bK (λe:En=>e.2.2.2==0) l<0 then((D,l),8)else goE D l (bK (λe:En=>e.2.2.2==0) l).toNat
def TO.adk{w:World}{t st d:Nat}{r:Dm}{sl:Sl}{D:Dk}{aj limit:Int}{its:List It}(h:TO w t st d r sl D aj limit its){j:Nat}{cs:LV}{τ:TypeId}(hr:Row w j cs τ)(h1:τ≠tg)(h2:τ≠tW):¬(j=d\/r.ls.aX=some j):=by
 rintro(e|e)
 ·exact hr.ne h.so.dk.rd h1 e
 ·obtain⟨cs',hr'⟩:=aT h.so.dk.ol au e;exact hr.ne hr' h2 rfl
def TO.store{w w':World}{t st d:Nat}{r r':Dm}{sl:Sl}{D D':Dk}{aj limit:Int}{its:List It}(h:TO w t st d r sl D aj limit its)(hm:Mod (λi=>i=d\/r.ls.aX=some i) w w')(hs:SO w' st d r' D'):TO w' t st d r' sl D' aj limit its:=by
 refine⟨hm.row h.rt (h.adk h.rt au au),hs,hm.gR h.ol λb hb=>?_,λy hy=>?_,h.dx,h.dg,h.W8,h.len⟩
 ·obtain⟨cs',hr'⟩:=aT h.ol au hb;exact h.adk hr' au au
 ·have hy':=h.it y hy;refine hy'.aV hm (h.adk hy'.r au au) (h.adk hy'.k.row au au) λb hb=>?_
  obtain⟨cs',hr'⟩:=aT hy'.k.own au hb;exact h.adk hr' au au
def FV{n:Nat}{t st d:Nat}{r r':Dm}{sl:Sl}{its:List It}(hs:∀i,dF d r' i->dF d r i\/n<=i):∀i,aw t st d r' sl its i->aw t st d r sl its i\/n<=i:=by
 rintro i (e|e|e|e|e|e)
 ·exact .inl (.inl e)
 ·exact .inl (.inr (.inl e))
 ·exact .inl (.inr (.inr (.inl e)))
 ·rcases hs i (.inr e)with q|q
  ·rcases q with q|q
   ·exact .inl (.inr (.inr (.inl q)))
   ·exact .inl (.inr (.inr (.inr (.inl q))))
  ·exact .inr q
 ·exact .inl (.inr (.inr (.inr (.inr (.inl e)))))
 ·exact .inl (.inr (.inr (.inr (.inr (.inr e)))))
def Mh{t st d:Nat}{r:Dm}{sl:Sl}{its:List It}:∀i,(i=d\/r.ls.aX=some i)->aw t st d r sl its i:=by
 rintro i (e|e)
 ·exact .inr (.inr (.inl e))
 ·exact .inr (.inr (.inr (.inl (.inr (.inl e)))))
def ahY{C:List Int}:mJ (r6 (iC C)):=amh _
def ami{C:List Int}(hl:C.length=8192):(r6 (iC C)).length<=65536:=by have h1:=Xb (iC C);have h2:=sa C;omega
def vB{w:World}{t st d:Nat}{r:Dm}{sl:Sl}{D:Dk}{aj limit:Int}{its:List It}(h:TO w t st d r sl D aj limit its)(hW:D.l.length<=1000000){i:Nat}{y:It}(hi:its[i]? =some y):
  ab 164 #[t,.pointer (some ⟨y.x,0,none⟩)] w λe w'=>e=vI (cD D y.ob).2.2/\∃r' y',TO w' t st d r' sl (cD D y.ob).1 aj limit (its.set i y')/\y'.ob=(cD D y.ob).2.1/\aJ (aw t st d r sl its) (aw t st d r' sl (its.set i y')) w w':=by
 apply BE.vc;have Jr:=aQ hi;have hy:=h.it y Jr;have oD:its.set i y=its:=by obtain⟨hl,he⟩:=cG.1 hi;rw[<-he];exact List.set_getElem_self hl
 refine⟨_,hy.r.at 1 rfl,Br.mk (λhb=>?_) (λhb=>?_)⟩
 ·have hd:y.o5=false:=by simpa using hb
  have e:cD D y.ob=(D,y.ob,0):=by unfold cD;rw[if_neg (by show ¬y.o5=true;rw[hd];decide)]
  rw[e];exact⟨rfl,r,y,by rw[oD];exact h,rfl,by rw[oD];exact aJ.refl _ _⟩
 ·have hd:y.o5=true:=by simpa using hb
  have e:cD D y.ob=((tJ D (Bk y.p) (r6 (iC y.C))).1,(y.p,y.C,decide ((tJ D (Bk y.p) (r6 (iC y.C))).2≠0),y.pins),(tJ D (Bk y.p) (r6 (iC y.C))).2):=by unfold cD;rw[if_pos (by show y.o5=true;exact hd)];rfl
  rw[e];refine⟨_,hy.r.at 0 rfl,sb (sb ⟨_,_,hy.k.pos,(xF y.p w).bf λw4 x4=>?_⟩)⟩;refine⟨_,_,rfl,(Xc y.p w4).bf λw7 x7=>?_⟩;have x07:=(x4.tr x7).tr (Ext.dr w7);have h7:=h.ext x07;have hy7:=h7.it y Jr;refine⟨_,_,rfl,_,h7.rt.at 0 rfl,_,hy7.r.at 0 rfl,(Uq hy7.k).mono ?_⟩;rintro e bN ⟨kP,rfl,o13,cr⟩;have H7:=x07.tr cr;have wy:=h.ext H7;have hk:=hy.k;refine⟨kP,rfl,FW (wy.rt.at 0 rfl),(C0 wy.so hW (Bk y.p) kP (r6 (iC y.C)) (nY.FC o13) ahY (cV (ami hk.len) au)).mono ?_⟩;rintro e cp ⟨rfl,r',anz,m14,f14,-⟩;have h14:=wy.store m14 anz;have Bc:=h14.it y Jr;obtain⟨p1,p2⟩:=Bc.r.ft (j:=1) (v:=.bool ((tJ D (Bk y.p) (r6 (iC y.C))).2 !=0)) bo rfl;refine⟨_,rfl,⟨rfl,p1⟩,λbZ CH=>?_⟩;obtain⟨q1,q2⟩:=p2 bZ CH;have yQ:((tJ D (Bk y.p) (r6 (iC y.C))).2 !=0)=decide ((tJ D (Bk y.p) (r6 (iC y.C))).2≠0):=by rw[Bool.eq_iff_iff];simp
  rw[yQ]at q1;have hy':tM bZ {y with o5:=decide ((tJ D (Bk y.p) (r6 (iC y.C))).2≠0)}:=⟨q1,Bc.k.aV q2 (λe=>Bc.k.row.ne Bc.r au e) λb hb=>by obtain⟨cs',hr'⟩:=aT Bc.k.own au hb;exact hr'.ne Bc.r au⟩;have z12:=H7.size;have z14:=m14.size;refine⟨rfl,r',{y with o5:=decide ((tJ D (Bk y.p) (r6 (iC y.C))).2≠0)},h14.put hi rfl rfl q2 hy',rfl,?_⟩;have t1:aJ (aw t st d r sl its) (aw t st d r' sl its) bN cp:=⟨m14.mono λi _ hi=>Mh i hi,FV f14⟩;have t2:aJ (aw t st d r' sl its) (aw t st d r' sl (its.set i {y with o5:=decide ((tJ D (Bk y.p) (r6 (iC y.C))).2≠0)})) cp bZ:=⟨q2.mono λj _ hj=>.inr (.inr (.inr (.inr (.inr ⟨y,Jr,.inl hj⟩)))),λj hj=>.inl (FU (y':={y with o5:=decide ((tJ D (Bk y.p) (r6 (iC y.C))).2≠0)}) hi rfl rfl rfl j hj)⟩;exact(aJ.aq H7).trans (t1.trans t2)
abbrev qe(w:World)(t st d:Nat)(r:Dm)(sl:Sl)(aj limit:Int)(its:List It)(T:Tb)(w':World):Prop:=
 ∃r' sl' its',TO w' t st d r' sl' T.1 aj limit its'/\eA its'=T.2/\aJ (aw t st d r sl its) (aw t st d r' sl' its') w w'
def M6{its:List It}{i:Nat}{y:It}(h:its[i]? =some y):(eA its)[i]? =some y.ob:=by rw[aW,h];rfl
def EV{its:List It}{i:Nat}{y':It}{e:En}(h:y'.ob=e):eA (its.set i y')=(eA its).set i e:=by unfold eA;rw[pM,h]
def adY{D:Dk}{l:List En}{i:Nat}{e:En}(h:l[i]? =some e):goE D l i=if(cD D e).2.2=0 then(((cD D e).1,l.eraseIdx i),0)else(((cD D e).1,l.set i (cD D e).2.1),(cD D e).2.2):=by unfold goE;rw[h]
def QF{w w':World}{t st d:Nat}{r:Dm}{sl sl':Sl}{its its':List It}(hm:Mod (slF t sl) w w')(hb:∀b,sl'.aX=some b->sl.aX=some b\/w.heap.size<=b)(hs:∀y∈its',y∈its):aJ (aw t st d r sl its) (aw t st d r sl' its') w w':=
 ⟨hm.mono λi _ hi=>zZ i hi,Gy hb λy hy=>.inl (hs y hy)⟩
def ZG{w:World}{t st d:Nat}{r:Dm}{sl:Sl}{D:Dk}{aj limit:Int}{its:List It}(h:TO w t st d r sl D aj limit its)(hW:D.l.length<=1000000):
  ab 160 #[t] w λe w'=>e=vI (fU limit D (eA its)).2/\qe w t st d r sl aj limit its (fU limit D (eA its)).1 w'/\((fU limit D (eA its)).2=0->((fU limit D (eA its)).1.2.length:Int)+1<=limit):=by
 apply BQ.vc;have hd:=h.ext (Ext.dr w);have hn:=h.n;have hol:(eA its).length=its.length:=by rw[aK]
 have cX:=h.len;have agM:=h.W8;refine⟨sl,hd.rt.at 3 rfl,limit,hd.rt.at 2 rfl,Br.mk (λhb=>?_) (λhb=>?_)⟩
 ·replace hb:=lM hb;have e:fU limit D (eA its)=((D,eA its),0):=by unfold fU;rw[if_pos aa]
  rw[e];exact⟨rfl,⟨r,sl,its,hd,rfl,aJ.aq (Ext.dr w)⟩,λ_=>by simp only;omega⟩
 ·replace hb:=lW hb;refine⟨sl,hd.rt.at 3 rfl,(uS sl its (·.x) _ (λi=>i.pins==0) w.drew (hd.ol.rd au) aa ?_).mono ?_⟩
  ·intro y hy w' x';refine bR (by kernel_rfl) (by rfl) ?_;apply xM.vc;have hy':=(hd.it y hy).ext x';exact⟨_,hy'.r.at 2 rfl,rfl,Ext.bT _⟩
  ·rintro e w3 ⟨rfl,x3⟩;have h3:=hd.ext x3;have hfm:bK (λe:En=>e.2.2.2==0) (eA its)=bK (λi:It=>i.pins==0) its:=me It.ob _ its;have OL:Ext w w3:=(Ext.dr w).tr x3;refine⟨_,rfl,Br.mk (λlk=>?_) (λlk=>?_)⟩
   ·replace lk:=lM lk;have e:fU limit D (eA its)=((D,eA its),8):=by unfold fU;rw[if_neg aa,if_pos aa]
    rw[e];exact⟨rfl,⟨r,sl,its,h3,rfl,aJ.aq OL⟩,λh=>by simp at h⟩
   ·replace lk:=lW lk;rcases dm (λi:It=>i.pins==0) its with⟨h1,-⟩|⟨k,y,hk,-,hfk,-⟩
    ·omega
    ·have e:fU limit D (eA its)=goE D (eA its) k:=by unfold fU;rw[if_neg aa,if_neg aa,hfm,hfk];rfl
     rw[hfk,e,adY (M6 hk)];obtain⟨a1,a2⟩:=h3.at hk;have Yv:=(cG.1 hk).1;refine⟨sl,h3.rt.at 3 rfl,a1,_,a2,(vB h3 hW hk).mono ?_⟩;rintro e w7 ⟨rfl,r',y',h7,Ow,t7⟩;refine⟨_,rfl,Br.mk (λhz=>?_) (λhz=>?_)⟩
     ·have hz:=eK hz;have hk':(its.set k y')[k]? =some y':=uA Yv;refine(Gz h7 hk').mono ?_;rintro e w9 ⟨rfl,sl',h9,m9,b9⟩;rw[List.eraseIdx_set_eq]at h9;refine⟨_,rfl,?_⟩;rw[if_pos hz];refine⟨by rw[hz],⟨r',sl',_,h9,vA _ _,(aJ.aq OL).trans (t7.trans (QF m9 b9 λz hz=>?_))⟩,λ_=>?_⟩
      ·rw[<-List.eraseIdx_set_eq (l:=its) (i:=k) (a:=y')]at hz;exact(GA ..).subset hz
      ·simp only[List.length_eraseIdx];split<;>omega
     ·have hz:=eK hz;rw[if_neg hz];exact⟨rfl,⟨r',sl,_,h7,EV Ow,(aJ.aq OL).trans t7⟩,λq=>absurd q hz⟩
def Am(D:Dk)(e:En):(cD D e).1.l.length<=D.l.length+1:=by
 unfold cD;split
 ·exact acX _ _ _
 ·exact lN _
def aqW(D:Dk)(l:List En)(i:Nat):(goE D l i).1.1.l.length<=D.l.length+1:=by
 unfold goE;split
 ·exact lN _
 ·split<;>exact Am _ _
def aij(limit:Int)(D:Dk)(l:List En):(fU limit D l).1.1.l.length<=D.l.length+1:=by
 unfold fU;split
 ·exact lN _
 ·split
  ·exact lN _
  ·exact aqW _ _ _
def aik{p:Po}(h:EP p):YP p:=by unfold EP at h;unfold YP;omega
def xQ(aj:Int)(p:Po)(b:List Int):List Int:=if(j6 cN b 8192).2=0 then cm (j6 cN b 8192).1 else made aj p
def yO(aj limit:Int)(D:Dk)(l:List En)(p:Po):Tb×Int:=
 if ¬EP p then((D,l),5)
 else if 0<=bK (λe:En=>e.1==p) l then((D,l.eraseIdx (bK (λe:En=>e.1==p) l).toNat++l[(bK (λe:En=>e.1==p) l).toNat]?.toList),0)
 else if(fU limit D l).2≠0 then fU limit D l
 else(((fU limit D l).1.1,(fU limit D l).1.2++[(p,xQ aj p (pU (fU limit D l).1.1 (Bk p)).1,false,0)]),0)
def gW{w v:World}{t st d:Nat}{r:Dm}{sl:Sl}{D:Dk}{aj limit:Int}{its:List It}(h:TO v t st d r sl D aj limit its)(hw:w.heap.size<v.heap.size)(hwf:¬aw t st d r sl its w)(htw:t<w)(hr:(its.length:Int)+1<=limit){g:Nat}{s:Sl}{p:Po}{C:List Int}(hk:Ja v g s p C)(hg:g∉its.map (·.g))(u:World)(hn:u.heap.size<=v.heap.size)(hgn:u.heap.size<=g)(tE:∀b,s.aX=some b->u.heap.size<=b)
  {K:wPp}(hK:∀w',(∃s' y,TO w' t st d r s' D aj limit (its++[y])/\y.ob=(p,C,false,0)/\(∀i,aw t st d r s' (its++[y]) i->aw t st d r sl its i\/u.heap.size<=i)/\Mod (aw t st d r sl its) v w')->K w'):
  ∃(Tx:Sl),ld v (ae (aB t) 3)=some (.slice Tx.a Tx.n Tx.c)/\
   ∀dh:World,dh=v.alloc (.cells #[g,false,ai] cc)->
   ∀jE:World,jE=dh.alloc (.cells #[v] tPI)->
   bj 8 1 jE ⟨Tx.a,Tx.n,Tx.c⟩ 1 [v]/\∀(yU:Sl)(dL:World),aY tPI 1 jE ⟨Tx.a,Tx.n,Tx.c⟩ 1 [v] yU dL->dL.heap[w.heap.size]? =jE.heap[w.heap.size]?/\dL.heap[dh.heap.size]? =jE.heap[dh.heap.size]?/\
    (true=true/\Wr dL (ae (aB t) 3) 1)/\bM (ae (aB t) 3)≠some w.heap.size/\bM (ae (aB t) 3)≠some dh.heap.size/\(∀kN:World,kN=bB dL (ae (aB t) 3) [.slice yU.a yU.n yU.c]->K kN):=by
 refine⟨sl,h.rt.at 3 rfl,λdh Dy jE e23=>?_⟩;have fX:=aU Dy;have iB:=aU e23;have z22:=fD Dy;have z23:jE.heap.size=v.heap.size+2:=by rw[e23];simp[z22]
 have hy:tM jE ⟨v.heap.size,g,s,p,C,false,0⟩:=⟨(by rw[Dy];exact Row.new v [_,_,_] _:Row dh v.heap.size [g,false,ai] cc).ext iB,(hk.ext fX).ext iB⟩;have h23:=(h.ext fX).ext iB;have hxn:v.heap.size∉its.map (·.x):=λhm=>by obtain⟨z,hz,e⟩:=bc.1 hm;have:=(h.it z hz).r.lt;omega
 obtain⟨hp,bq⟩:=h23.push _ hy hxn hg hr;refine⟨hp,λyU dL aj0=>?_⟩;obtain⟨m25,p1,p2⟩:=bq yU dL aj0;have pb:∀j:Nat,t<j->bM (ae (aB t) 3)≠some j:=λj hj e=>by
  rw[cB]at e;have:t=j:=by simpa[bM]using e
  omega
 have htl:=h.rt.lt;refine⟨m25.same _ aa λe=>hwf (.inr (.inr (.inr (.inr (.inl e))))),m25.same _ aa λe=>by have:=(h.ol.own.lt e).2;omega,⟨rfl,p1⟩,pb _ htw,pb _ aa,λkN TB=>hK kN ⟨yU,⟨v.heap.size,g,s,p,C,false,0⟩,?_,rfl,?_,?_⟩⟩
 ·exact(p2 kN TB).1
 ·obtain⟨-,q2,q3⟩:=p2 kN TB;rintro i hi;exact Gy (w:=u) (sl:=sl) (its:=its) (λb hb=>(q3 b hb).imp id λe=>by omega) (λz hz=>by
   rcases dp.1 hz with hz|hz
   ·exact .inl hz
   ·simp at hz;subst hz;exact .inr ⟨hn,hgn,tE⟩) i hi
 ·obtain⟨-,q2,q3⟩:=p2 kN TB;exact(Mod.aq (fX.tr iB)).trans (q2.mono λi _ hi=>zZ i hi)
def ZH{w:World}{t st d:Nat}{r:Dm}{sl:Sl}{D:Dk}{aj limit:Int}{its:List It}(h:TO w t st d r sl D aj limit its)(hW:D.l.length<=1000000)(p:Po):
  ab 88 #[t,pv p] w λe w'=>e=vI (yO aj limit D (eA its) p).2/\qe w t st d r sl aj limit its (yO aj limit D (eA its) p).1 w':=by
 apply BO.vc;intro w0 e0;have z0:=fD e0;have x0:=aU e0;refine(Xc p w0).bf λw1 x1=>?_
 have z1:=x1.size;have lq:=x0.tr x1;refine⟨_,_,rfl,x1.k,?_⟩;by_cases px:EP p
 ·rw[decide_eq_true px];refine Br.mk (λh=>by cases h) (λ_=>?_);have h1:=h.ext lq;refine(find_spec h1 p).bf λw4 x4=>?_
  have z4:=x4.size;have E9:=lq.tr x4;have h4:=h.ext E9;have hfm:bK (λe:En=>e.1==p) (eA its)=bK (λi:It=>i.p==p) its:=me It.ob _ its;have bx:¬aw t st d r sl its w:=λhf=>by have:=h.lt hf;omega
  refine⟨_,rfl,x4.k,?_⟩;rcases dm (λi:It=>i.p==p) its with⟨hf,-⟩|⟨k,y,hk,-,hf,-⟩
  ·rw[hf];refine Br.mk (λh=>by simp at h) (λ_=>?_);have hE:yO aj limit D (eA its) p=if(fU limit D (eA its)).2≠0 then fU limit D (eA its)else(((fU limit D (eA its)).1.1,(fU limit D (eA its)).1.2++[(p,xQ aj p (pU (fU limit D (eA its)).1.1 (Bk p)).1,false,0)]),0):=by unfold yO;rw[if_neg (by simpa using px),hfm,hf,if_neg au]
   rw[hE];refine(ZG h4 hW).mono ?_;rintro e w8 ⟨rfl,⟨r8,sl8,its8,h8,KZ,t8⟩,hl8⟩;have hWl:((fU limit D (eA its)).1.1).l.length<=1000001:=by have:=aij limit D (eA its);omega
   generalize fU limit D (eA its)=R at*;have z8:=t8.mod.size;have t08:aJ (aw t st d r sl its) (aw t st d r8 sl8 its8) w w8:=(aJ.aq E9).trans t8;refine⟨_,rfl,t8.mod.same _ aa bx,Br.mk (λhb=>?_) (λhb=>?_)⟩
   ·have gl:=eK hb;rw[if_pos gl];exact⟨rfl,r8,sl8,its8,h8,KZ,t08⟩
   ·have he:=eK hb;rw[if_neg (by rw[he];decide)];have hroom:=hl8 he;rw[<-KZ,aK]at hroom;refine⟨_,h8.rt.at 0 rfl,(Db h8.so aa _).mono ?_⟩;rintro e bE ⟨qo,rfl,agO,WE,kQ,hsc,-,bS⟩;have z11:=bS.size;have bx8:¬aw t st d r8 sl8 its8 w:=λhf=>by
     rcases t8.sub _ hf with q|q
     ·exact bx q
     ·have:=E9.size;omega
    refine⟨qo,_,_,rfl,bS.k,?_⟩;refine(ZI p qo (pU R.1.1 (Bk p)).1 bE agO WE hsc aa).mono ?_;rintro e c9 ⟨bq,dn⟩;have z15:=dn.size;have htw:=h.rt.lt;have fin:∀{w' v:World}{C:List Int},Ext w8 v->(∃s' y,TO w' t st d r8 s' R.1.1 aj limit (its8++[y])/\y.ob=(p,C,false,0)/\(∀i,aw t st d r8 s' (its8++[y]) i->aw t st d r8 sl8 its8 i\/w8.heap.size<=i)/\Mod (aw t st d r8 sl8 its8) v w')->C=xQ aj p (pU R.1.1 (Bk p)).1->
      Ending.returned (0:Int)=(0:Int)/\qe w t st d r sl aj limit its (R.1.1,R.1.2++[(p,xQ aj p (pU R.1.1 (Bk p)).1,false,0)]) w':=by
     rintro w' v C xv ⟨s',y,hT,Ow,dP,hm⟩ rfl;refine⟨rfl,r8,s',_,hT,?_,t08.trans ⟨(Mod.aq xv).trans hm,dP⟩⟩;unfold eA;rw[cl];change eA its8++[y.ob]=_;rw[KZ,Ow]
    rcases bq with⟨hz,g,sg,rfl,hk,hg,-,hgb⟩|⟨hz,rfl⟩
    ·refine⟨_,_,rfl,dn.k,Br.mk (λq=>by simp at q) (λ_=>?_)⟩;have agP:=bS.tr dn;have h15:=h8.ext agP;have hgn:g∉its8.map (·.g):=λhm=>by obtain⟨z,hz,e⟩:=bc.1 hm;have:=(h8.it z hz).k.row.lt;omega
     refine gW (w:=w) h15 aa bx8 htw hroom hk hgn w8 aa aa (λb hb=>by have:=hgb b hb;omega) λw' hw'=>fin agP hw' ?_
     unfold xQ;rw[if_pos hz]
    ·refine⟨_,_,rfl,dn.k,Br.mk (λ_=>?_) (λq=>by simp at q;exact absurd q hz)⟩;have agP:=bS.tr dn.drew;have h15:=h8.ext agP;refine⟨aj,h15.rt.at 1 rfl,(U0 aj p (aik px) c9.drew).mono ?_⟩;rintro e fm ⟨g,sg,rfl,hk,dQ,hg,TT⟩;have z19:=dQ.size;have zd:=nV c9;have h19:=h15.ext dQ;have hgn:g∉its8.map (·.g):=λhm=>by obtain⟨z,hz,e⟩:=bc.1 hm;have:=(h15.it z hz).k.row.lt;omega
     refine⟨_,rfl,dQ.k,gW (w:=w) h19 aa bx8 htw hroom hk hgn w8 aa aa (λb hb=>by have:=TT b hb;omega) λw' hw'=>fin (agP.tr dQ) hw' ?_⟩;unfold xQ;rw[if_neg hz]
  ·rw[hf];refine Br.mk (λ_=>?_) (λh=>by simp at h);have hE:yO aj limit D (eA its) p=((D,(eA its).eraseIdx k++[y.ob]),0):=by unfold yO;rw[if_neg (by simpa using px),hfm,hf,if_pos aa,iI,aW,hk];rfl
   rw[hE];refine(GD h4 hk).mono ?_;rintro e w6 ⟨rfl,sl6,h6,t6⟩;have z6:=t6.mod.size;refine⟨_,rfl,t6.mod.same _ aa bx,rfl,r,sl6,_,h6,?_,(aJ.aq E9).trans t6⟩;unfold eA;rw[cl];change eA _++_=_;rw[vA];rfl
 ·rw[decide_eq_false px];refine Br.mk (λ_=>?_) (λh=>by cases h);have hE:yO aj limit D (eA its) p=((D,eA its),5):=by unfold yO;rw[if_pos px]
  rw[hE];exact⟨rfl,r,sl,its,h.ext lq,rfl,aJ.aq lq⟩
def yes{b:Bool}{A B:Prop}(hb:b=true)(h:A):Br b A B:=by subst hb;exact h
def uN{b:Bool}{A B:Prop}(hb:b=false)(h:B):Br b A B:=by subst hb;exact h
def It.pin(y:It)(n:Int):It:={y with pins:=y.pins+n}
def zq(l:List En)(p:Po):List En×Int:=
 if 0<=bK (λe:En=>e.1==p) l then(l.modify (bK (λe:En=>e.1==p) l).toNat λe=>(e.1,e.2.1,e.2.2.1,e.2.2.2+1),0)else(l,6)
def kY(l:List En)(p:Po):List En×Int:=
 if 0<=bK (λe:En=>e.1==p) l then
  (if(l[(bK (λe:En=>e.1==p) l).toNat]?.map (·.2.2.2))=some 0 then(l,1)else(l.modify (bK (λe:En=>e.1==p) l).toNat λe=>(e.1,e.2.1,e.2.2.1,e.2.2.2-1),0))else(l,6)
def ac7{w:World}{t st d:Nat}{r:Dm}{sl:Sl}{D:Dk}{aj limit:Int}{its:List It}(h:TO w t st d r sl D aj limit its)(hp:∀y∈its,-1000000000<=y.pins/\y.pins<=1000000000)(p:Po):
  ab 91 #[t,pv p] w λe w'=>e=vI (zq (eA its) p).2/\qe w t st d r sl aj limit its (D,(zq (eA its) p).1) w':=by
 apply D8.vc;intro w0 e0;have z0:=fD e0;have x0:=aU e0;have h0:=h.ext x0;refine(find_spec h0 p).bf λw1 x1=>?_
 have z1:=x1.size;have lq:=x0.tr x1;have h1:=h.ext lq;refine⟨_,rfl,x1.k,?_⟩;rcases dm (λi:It=>i.p==p) its with⟨hf,-⟩|⟨k,y,hk,-,hf,-⟩
 ·have hE:zq (eA its) p=(eA its,6):=by unfold zq;rw[mY,hf,if_neg au]
  rw[hf,hE];exact Br.mk (λ_=>⟨rfl,r,sl,its,h1,rfl,aJ.aq lq⟩) (λh=>by simp at h)
 ·have hE:zq (eA its) p=((eA its).modify k λe=>(e.1,e.2.1,e.2.2.1,e.2.2.2+1),0):=by unfold zq;rw[mY,hf,if_pos aa];rfl
  rw[hf,hE];refine Br.mk (λh=>by simp at h;omega) (λ_=>?_);have Jr:=aQ hk;have hy:=h1.it y Jr;obtain⟨a1,a2⟩:=h1.at hk;have hpy:=hp y Jr;have hwp:=aL (n:=y.pins+1) inO;obtain⟨p1,p2⟩:=hy.r.ft (j:=2) (v:=vI (y.pins+1)) bo rfl;refine⟨sl,h1.rt.at 3 rfl,a1,_,a2,sb (sb ⟨y.pins,hy.r.at 2 rfl,sb (sb ⟨⟨by rw[aF];rfl,p1⟩,?_,λw6 e6=>?_⟩)⟩)⟩
  ·intro e;rw[cB]at e;have:y.x=w.heap.size:=by simpa[bM]using e
   have:=(h.it y Jr).r.lt;omega
  ·rw[hwp]at e6;obtain⟨q1,q2⟩:=p2 w6 e6;have hy':tM w6 (y.pin 1):=⟨q1,hy.k.aV q2 (λe=>hy.k.row.ne hy.r au e) λb hb=>by obtain⟨cs',hr'⟩:=aT hy.k.own au hb;exact hr'.ne hy.r au⟩;refine⟨rfl,r,sl,its.set k (y.pin 1),h1.put hk rfl rfl q2 hy',Xa hk rfl,⟨?_,λj hj=>.inl (FU (y':=y.pin 1) hk rfl rfl rfl j hj)⟩⟩;exact(Mod.aq lq).trans (q2.mono λj _ hj=>.inr (.inr (.inr (.inr (.inr ⟨y,Jr,.inl hj⟩)))))
def Ue{w:World}{t st d:Nat}{r:Dm}{sl:Sl}{D:Dk}{aj limit:Int}{its:List It}(h:TO w t st d r sl D aj limit its)(hp:∀y∈its,-1000000000<=y.pins/\y.pins<=1000000000)(p:Po):
  ab 92 #[t,pv p] w λe w'=>e=vI (kY (eA its) p).2/\qe w t st d r sl aj limit its (D,(kY (eA its) p).1) w':=by
 apply Az.vc;intro w0 e0;have z0:=fD e0;have x0:=aU e0;have h0:=h.ext x0;refine(find_spec h0 p).bf λw1 x1=>?_
 have z1:=x1.size;have lq:=x0.tr x1;have h1:=h.ext lq;refine⟨_,rfl,x1.k,?_⟩;rcases dm (λi:It=>i.p==p) its with⟨hf,-⟩|⟨k,y,hk,-,hf,-⟩
 ·have hE:kY (eA its) p=(eA its,6):=by unfold kY;rw[mY,hf,if_neg au]
  rw[hf,hE];exact Br.mk (λ_=>⟨rfl,r,sl,its,h1,rfl,aJ.aq lq⟩) (λh=>by simp at h)
 ·have Ow:(eA its)[k]?.map (·.2.2.2)=some y.pins:=by rw[aW,hk];rfl
  have hE:kY (eA its) p=if y.pins=0 then(eA its,1)else((eA its).modify k λe=>(e.1,e.2.1,e.2.2.1,e.2.2.2-1),0):=by unfold kY;rw[mY,hf,if_pos aa,iI,Ow];simp
  rw[hf,hE];refine Br.mk (λh=>by simp at h;omega) (λ_=>?_);have Jr:=aQ hk;have hy:=h1.it y Jr;obtain⟨a1,a2⟩:=h1.at hk;have hpy:=hp y Jr;refine⟨sl,h1.rt.at 3 rfl,a1,_,a2,sb (sb ⟨y.pins,hy.r.at 2 rfl,Br.mk (λhb=>?_) (λhb=>?_)⟩)⟩
  ·have hz:=eK hb;rw[if_pos hz];exact⟨rfl,r,sl,its,h1,rfl,aJ.aq lq⟩
  ·have hz:=eK hb;have hwp:=aL (n:=y.pins-1) inO;rw[if_neg hz];obtain⟨p1,p2⟩:=hy.r.ft (j:=2) (v:=vI (y.pins-1)) bo rfl;refine⟨sl,h1.rt.at 3 rfl,a1,_,a2,sb (sb ⟨y.pins,hy.r.at 2 rfl,sb (sb ⟨⟨by rw[aF];rfl,p1⟩,?_,λw6 e6=>?_⟩)⟩)⟩
   ·intro e;rw[cB]at e;have:y.x=w.heap.size:=by simpa[bM]using e
    have:=(h.it y Jr).r.lt;omega
   ·rw[hwp]at e6;obtain⟨q1,q2⟩:=p2 w6 e6;have hy':tM w6 (y.pin (-1)):=⟨q1,hy.k.aV q2 (λe=>hy.k.row.ne hy.r au e) λb hb=>by obtain⟨cs',hr'⟩:=aT hy.k.own au hb;exact hr'.ne hy.r au⟩;refine⟨rfl,r,sl,its.set k (y.pin (-1)),h1.put hk rfl rfl q2 hy',Xa hk rfl,⟨?_,λj hj=>.inl (FU (y':=y.pin (-1)) hk rfl rfl rfl j hj)⟩⟩;exact(Mod.aq lq).trans (q2.mono λj _ hj=>.inr (.inr (.inr (.inr (.inr ⟨y,Jr,.inl hj⟩)))))
def oa(D:Dk)(l:List En)(p:Po):Tb×Int:=
 if 0<=bK (λe:En=>e.1==p) l then
  (if 0<(l[(bK (λe:En=>e.1==p) l).toNat]?.map (·.2.2.2)).getD 0 then((D,l),10)else goE D l (bK (λe:En=>e.1==p) l).toNat)else((D,l),6)
def QU{w:World}{t st d:Nat}{r:Dm}{sl:Sl}{D:Dk}{aj limit:Int}{its:List It}(h:TO w t st d r sl D aj limit its)(hW:D.l.length<=1000000)(p:Po):
  ab 89 #[t,pv p] w λe w'=>e=vI (oa D (eA its) p).2/\qe w t st d r sl aj limit its (oa D (eA its) p).1 w':=by
 apply xN.vc;intro w0 e0;have z0:=fD e0;have x0:=aU e0;have h0:=h.ext x0;refine(find_spec h0 p).bf λw1 x1=>?_
 have z1:=x1.size;have lq:=x0.tr x1;have h1:=h.ext lq;have bx:¬aw t st d r sl its w:=λhf=>by have:=h.lt hf;omega
 refine⟨_,rfl,x1.k,?_⟩;rcases dm (λi:It=>i.p==p) its with⟨hf,-⟩|⟨k,y,hk,hyp,hf,-⟩
 ·have hE:oa D (eA its) p=((D,eA its),6):=by unfold oa;rw[mY,hf,if_neg au]
  rw[hf,hE];exact Br.mk (λ_=>⟨rfl,r,sl,its,h1,rfl,aJ.aq lq⟩) (λh=>by simp at h)
 ·have Ow:(eA its)[k]?.map (·.2.2.2)=some y.pins:=by rw[aW,hk];rfl
  have hE:oa D (eA its) p=if 0<y.pins then((D,eA its),10)else goE D (eA its) k:=by unfold oa;rw[mY,hf,if_pos aa,iI,Ow];rfl
  rw[hf,hE];refine Br.mk (λh=>by simp at h;omega) (λ_=>?_);have Jr:=aQ hk;have hy:=h1.it y Jr;have Yv:=(cG.1 hk).1;obtain⟨a1,a2⟩:=h1.at hk;refine⟨sl,h1.rt.at 3 rfl,a1,_,a2,sb (sb ⟨y.pins,hy.r.at 2 rfl,Br.mk (λhb=>?_) (λhb=>?_)⟩)⟩
  ·have hz:=eK hb;rw[if_pos hz];exact⟨rfl,r,sl,its,h1,rfl,aJ.aq lq⟩
  ·have hz:=eK hb;rw[if_neg hz,adY (M6 hk)];refine⟨sl,h1.rt.at 3 rfl,a1,_,a2,(vB h1 hW hk).mono ?_⟩;rintro e w8 ⟨rfl,r',y',h8,hob8,t8⟩;have z8:=t8.mod.size;refine⟨_,rfl,t8.mod.same _ aa bx,Br.mk (λhz=>?_) (λhz=>?_)⟩
   ·have hz:=eK hz;have hk':(its.set k y')[k]? =some y':=uA Yv;refine(Gz h8 hk').mono ?_;rintro e w9 ⟨rfl,sl',h9,m9,b9⟩;rw[List.eraseIdx_set_eq]at h9;have bx8:¬slF t sl w:=λq=>bx (zZ _ q)
    refine⟨_,rfl,m9.same _ aa bx8,?_⟩;rw[if_pos hz];refine⟨by rw[hz],r',sl',_,h9,vA _ _,(aJ.aq lq).trans (t8.trans (QF m9 b9 λz hz=>?_))⟩;rw[<-List.eraseIdx_set_eq (l:=its) (i:=k) (a:=y')]at hz;exact(GA ..).subset hz
   ·have hz:=eK hz;rw[if_neg hz];exact⟨rfl,r',sl,_,h8,EV hob8,(aJ.aq lq).trans t8⟩
def TK(D:Dk)(l:List En)(p:Po):Tb×Int:=
 if 0<=bK (λe:En=>e.1==p) l then
  match l[(bK (λe:En=>e.1==p) l).toNat]? with
  |some e=>(((cD D e).1,l.set (bK (λe:En=>e.1==p) l).toNat (cD D e).2.1),(cD D e).2.2)
  |none=>((D,l),0)
 else((D,l),6)
def U8{w:World}{t st d:Nat}{r:Dm}{sl:Sl}{D:Dk}{aj limit:Int}{its:List It}(h:TO w t st d r sl D aj limit its)(hW:D.l.length<=1000000)(p:Po):
  ab 90 #[t,pv p] w λe w'=>e=vI (TK D (eA its) p).2/\qe w t st d r sl aj limit its (TK D (eA its) p).1 w':=by
 apply AA.vc;intro w0 e0;have z0:=fD e0;have x0:=aU e0;refine(find_spec (h.ext x0) p).bf λw1 x1=>?_
 have z1:=x1.size;have lq:=x0.tr x1;have h1:=h.ext lq;have bx:¬aw t st d r sl its w:=λhf=>by have:=h.lt hf;omega
 refine⟨_,rfl,x1.k,?_⟩;rcases dm (λi:It=>i.p==p) its with⟨hf,-⟩|⟨k,y,hk,hyp,hf,-⟩
 ·have hE:TK D (eA its) p=((D,eA its),6):=by unfold TK;rw[mY,hf,if_neg au]
  rw[hf,hE];exact Br.mk (λ_=>⟨rfl,r,sl,its,h1,rfl,aJ.aq lq⟩) (λh=>by simp at h)
 ·have hE:TK D (eA its) p=(((cD D y.ob).1,(eA its).set k (cD D y.ob).2.1),(cD D y.ob).2.2):=by unfold TK;rw[mY,hf,if_pos aa,iI,M6 hk]
  rw[hf,hE];refine Br.mk (λh=>by simp at h;omega) (λ_=>?_);obtain⟨a1,a2⟩:=h1.at hk;refine⟨sl,h1.rt.at 3 rfl,a1,_,a2,(vB h1 hW hk).mono ?_⟩;rintro e w8 ⟨rfl,r',y',h8,hob8,t8⟩;have z8:=t8.mod.size;exact⟨_,rfl,t8.mod.same _ aa bx,rfl,r',sl,_,h8,EV hob8,(aJ.aq lq).trans t8⟩
def U9(D:Dk)(pre:List En):List En->Int->Tb×Int×Int
 | [],n=>((D,pre),n,0)
 |e::t,n=>if(cD D e).2.2=0 then U9 (cD D e).1 (pre++[(cD D e).2.1]) t (if e.2.2.1=true then n+1 else n)else(((cD D e).1,pre++(cD D e).2.1::t),n,(cD D e).2.2)
def gT(D:Dk)(l:List En):Tb×Int×Int:=U9 D [] l 0
def amB{D:Dk}{l pre:List En}{n:Int}{k:Nat}{e:En}(h:l[k]? =some e):U9 D pre (l.drop k) n=if(cD D e).2.2=0 then U9 (cD D e).1 (pre++[(cD D e).2.1]) (l.drop (k+1)) (if e.2.2.1=true then n+1 else n)else(((cD D e).1,pre++(cD D e).2.1::l.drop (k+1)),n,(cD D e).2.2):=by have hk:=cG.1 h;rw[zV hk.1,hk.2];rfl
def Jc{w:World}{t st d:Nat}{r:Dm}{sl:Sl}{D:Dk}{aj limit:Int}{its:List It}(h:TO w t st d r sl D aj limit its)(hW:D.l.length<=900000):
  ab 120 #[t] w λe w'=>e=Value.tuple #[vI (gT D (eA its)).2.1,vI (gT D (eA its)).2.2]/\qe w t st d r sl aj limit its (gT D (eA its)).1 w':=by
 apply uY.vc;have hn:=h.n;have cX:=h.len;have agM:=h.W8;refine⟨sl,h.rt.at 3 rfl,λn i c wr=>∃(k:Nat)(D':Dk)(r':Dm)(its':List It),i=k/\k+n=its.length/\0<=c/\c<=k/\D'.l.length<=D.l.length+k/\TO wr t st d r' sl D' aj limit its'/\its'.length=its.length/\its'.drop k=its.drop k/\U9 D' ((eA its').take k) ((eA its').drop k) c=gT D (eA its)/\aJ (aw t st d r sl its) (aw t st d r' sl its') w wr,
  ⟨its.length,0,D,r,its,rfl,aa,jI 0,jI 0,aa,h,rfl,rfl,rfl,aJ.refl _ _⟩,?_⟩
 rintro n us i c wr ⟨k,D',r',its',rfl,hk,c0,ck,hl,hT,hln,hdr,TD,ht⟩;have aGX:(eA its').length=its'.length:=by rw[aK]
 apply Br.mk<;>intro hc
 ·replace hc:=lM hc;obtain⟨y,hy⟩:=bX (l:=its') (i:=k) aa;have hyr:=hT.it y (aQ hy);obtain⟨a1,a2⟩:=hT.at hy;have Yv:k<its'.length:=by omega
  have hn':=hT.n;have wk:=nE (j:=k);have wc:aC (c+1)=c+1:=wI;rw[amB (M6 hy)]at TD;have lE:=Am D' y.ob;refine⟨a1,_,a2,sb (sb ⟨_,hyr.r.at 1 rfl,(vB hT aa hy).mono ?_⟩)⟩;rintro e br ⟨rfl,r2,y',h10,Ow,t10⟩;have oD:eA (its'.set k y')=(eA its').set k (cD D' y.ob).2.1:=EV Ow;have hln2:(its'.set k y').length=its'.length:=lO;have xk:(eA (its'.set k y')).take (k+1)=(eA its').take k++[(cD D' y.ob).2.1]:=by rw[oD,dq,uA aa,List.take_set_of_le (ak _)];rfl
  have hdk:(eA (its'.set k y')).drop (k+1)=(eA its').drop (k+1):=by rw[oD,List.drop_set_of_lt aa]
  refine⟨_,rfl,Br.mk (λhb=>?_) (λhb=>?_)⟩
  ·have hz:=eK hb;rw[if_neg hz]at TD;rw[<-TD];refine⟨rfl,r2,sl,_,h10,?_,ht.trans t10⟩;rw[oD];show _=(eA its').take k++(cD D' y.ob).2.1::(eA its').drop (k+1);rw[List.set_eq_take_append_cons_drop,if_pos aa]
  ·have hz:=eK hb;rw[if_pos hz]at TD;have hdd:(its'.set k y').drop (k+1)=its.drop (k+1):=by rw[List.drop_set_of_lt aa];have:=congrArg (List.drop 1) hdr;rwa[List.drop_drop,List.drop_drop]at this
   apply Br.mk<;>intro hd
   ·have hd':y.ob.2.2.1=true:=hd;rw[if_pos hd']at TD;exact⟨n-1,aa,k+1,_,r2,_,wk,aa,by rw[wc];omega,by rw[wc];omega,aa,h10,by rw[hln2,hln],hdd,by rw[wc,xk,hdk];exact TD,ht.trans t10⟩
   ·have hd':¬y.ob.2.2.1=true:=by show ¬y.o5=true;rw[hd];decide
    rw[if_neg hd']at TD;exact⟨n-1,aa,k+1,_,r2,_,wk,aa,c0,aa,aa,h10,by rw[hln2,hln],hdd,by rw[xk,hdk];exact TD,ht.trans t10⟩
 ·replace hc:=lW hc;rw[wH aa,dN aa]at TD;rw[<-TD];exact⟨rfl,r',sl,its',hT,rfl,ht⟩
def ZZ{w:World}{t st d:Nat}{r:Dm}{sl:Sl}{D:Dk}{aj limit:Int}{its:List It}(h:TO w t st d r sl D aj limit its)(hW:D.l.length<=1000000)(s:Sl)(b:List Int)(hs:jd w s b)(hb:mJ b)(hn:b.length<=1099511627776):
  ab 182 #[t,s] w λe w'=>e=vI (tJ D 0 b).2/\qe w t st d r sl aj limit its ((tJ D 0 b).1,eA its) w':=by
 apply(B1.vc (a1:=s));refine⟨_,h.rt.at 0 rfl,(C0 h.so hW 0 s b hs hb hn).mono ?_⟩;rintro e w1 ⟨rfl,r',h1,m1,f1,-⟩;exact⟨_,rfl,rfl,r',sl,its,h.store m1 h1,rfl,m1.mono λi _ hi=>Mh i hi,FV f1⟩
def Z1{w:World}{t st d:Nat}{r:Dm}{sl:Sl}{D:Dk}{aj limit:Int}{its:List It}(h:TO w t st d r sl D aj limit its):
  ab 42 #[t] w λe w'=>∃s':Sl,e=s'/\ar w tPo 2 w' s' ((eA its).map λe=>[vI e.1.1,vI e.1.2])/\Ext w w':=by
 apply BM.vc;have hn:=h.n;have cX:=h.len;have agM:=h.W8;refine⟨sl,h.rt.at 3 rfl,λn i so wr=>∃k:Nat,i=k/\k+n=its.length/\Ext w wr/\ar w tPo 2 wr so (((eA its).take k).map λe=>[vI e.1.1,vI e.1.2]),⟨its.length,0,rfl,aa,Ext.bT _,ar.nil⟩,?_⟩;rintro n us i so wr ⟨k,rfl,hk,xr,ho⟩;have TY:=nE (j:=k);have hol:(eA its).length=its.length:=by rw[aK]
 apply Br.mk<;>intro hc
 ·replace hc:=lM hc;obtain⟨y,hy⟩:=bX (l:=its) (i:=k) aa;have hr:=h.ext xr;obtain⟨a1,a2⟩:=hr.at hy;have hyr:=hr.it y (aQ hy);refine⟨a1,_,a2,sb (sb ⟨_,hyr.r.at 0 rfl,sb (sb ⟨_,_,hyr.k.pos,(xF y.p wr).bf λbN cr=>?_⟩)⟩)⟩;refine⟨_,_,rfl,λc9 pC=>?_⟩;have dn:=aU pC;have z12:=cr.size;have zr:=xr.size;have z15:=fD pC;have abG:=(ho.ext cr).ext dn;have hso:=(ho.rd (show 0<2 by decide)).n;rw[aK,cS]at hso;obtain⟨hp,bq⟩:=abG.append (bytes:=16) (news:=[vI y.p.1,vI y.p.2]) aa rfl (BB _ _ _ _) aa aa;refine⟨hp,λs16 cP agS=>?_⟩;obtain⟨azz,aGY,xb,TU,-⟩:=bq s16 cP agS;refine⟨TU _ (λe=>by have:=(ho.own.lt e).2;omega) aa,n-1,aa,k+1,TY,aa,(xr.tr (cr.tr dn)).trans xb,?_⟩;have:(eA its).take (k+1)=(eA its).take k++[y.ob]:=by rw[dq,aW,hy];rfl
  rw[this,cl];exact azz
 ·replace hc:=lW hc;rw[dN aa]at ho;exact⟨so,rfl,ho,xr⟩
def ph{w:World}{p:Option Addr}{v:Value}(h:ld w p=some v):ah w p 0 [v]:=by show ld w (ae p 0)=_;rw[fu];exact h
def TO.aix{w w':World}{t st d:Nat}{r:Dm}{sl:Sl}{D:Dk}{aj limit:Int}{its:List It}(h:TO w t st d r sl D aj limit its){i:Nat}{y y':It}(hi:its[i]? =some y)(hx:y'.x=y.x)(hg:y'.g=y.g)(hm:Mod (λj=>j=y.x\/j=y.g) w w')(hy:tM w' y'):TO w' t st d r sl D aj limit (its.set i y'):=by
 have OW:=(cG.1 hi).1;have hr:=(h.it y (aQ hi)).r;have hrg:=(h.it y (aQ hi)).k.row;have off:∀{j:Nat}{cs:LV}{τ:TypeId},Row w j cs τ->τ≠cc->τ≠xY->¬(j=y.x\/j=y.g):=λhr' ht hc e=>by
  rcases e with e|e
  ·exact hr'.ne hr ht e
  ·exact hr'.ne hrg hc e
 have hpx:DI (its.set i y')=DI its:=by
  unfold DI;rw[pM,hx];apply jF;intro j;rw[iS];split
  ·rename_i e;subst e;rw[if_pos (by rw[aK];exact OW),aW,hi];rfl
  ·rfl
 have hmx:(its.set i y').map (·.x)=its.map (·.x):=by
  rw[pM,hx];apply jF;intro j;rw[iS];split
  ·rename_i e;subst e;rw[if_pos (by rw[aK];exact OW),aW,hi];rfl
  ·rfl
 have hmg:(its.set i y').map (·.g)=its.map (·.g):=by
  rw[pM,hg];apply jF;intro j;rw[iS];split
  ·rename_i e;subst e;rw[if_pos (by rw[aK];exact OW),aW,hi];rfl
  ·rfl
 refine⟨hm.row h.rt (off h.rt au au),h.so.aV hm (λhr' hτ=>by rcases hτ with rfl|rfl|rfl|rfl<;>exact off hr' au au) (λhmp e=>by
   rcases e with e|e
   ·exact hr.fH hmp e.symm
   ·exact hrg.fH hmp e.symm),?_,λz hz=>?_,by rw[hmx];exact h.dx,by rw[hmg];exact h.dg,h.W8,by rw[lO];exact h.len⟩
 ·rw[hpx];exact hm.gR h.ol λb hb=>by obtain⟨cs',hr'⟩:=aT h.ol au hb;exact off hr' au au
 ·obtain⟨j,hj⟩:=yY hz;rw[iS]at hj;split at hj
  ·cases hj;exact hy
  ·rename_i gl;have hzj:=h.it z (aQ hj);have hjl:=(cG.1 hj).1;refine hzj.aV hm ?_ ?_ (λb hb=>?_)
   ·rintro(e|e)
    ·have h1:(its.map (·.x))[i]? =some y.x:=by rw[aW,hi];rfl
     have h2:(its.map (·.x))[j]? =some z.x:=by rw[aW,hj];rfl
     rw[e,<-h1]at h2;exact gl ((List.getElem?_inj (by rw[aK];exact hjl) h.dx).1 h2).symm
    ·exact hzj.r.ne hrg au e
   ·rintro(e|e)
    ·exact hzj.k.row.ne hr au e
    ·have h1:(its.map (·.g))[i]? =some y.g:=by rw[aW,hi];rfl
     have h2:(its.map (·.g))[j]? =some z.g:=by rw[aW,hj];rfl
     rw[e,<-h1]at h2;exact gl ((List.getElem?_inj (by rw[aK];exact hjl) h.dg).1 h2).symm
   ·obtain⟨cs',hr'⟩:=aT hzj.k.own au hb;exact off hr' au au
def Z2{t st d:Nat}{r:Dm}{sl:Sl}{its:List It}{i n:Nat}{y y':It}(hi:its[i]? =some y)(hx:y'.x=y.x)(hg:y'.g=y.g)(hs:∀b,y'.s.aX=some b->y.s.aX=some b\/n<=b):∀j,aw t st d r sl (its.set i y') j->aw t st d r sl its j\/n<=j:=by
 rintro j (e|e|e|e|e|⟨z,hz,e⟩)
 ·exact .inl (.inl e)
 ·exact .inl (.inr (.inl e))
 ·exact .inl (.inr (.inr (.inl e)))
 ·exact .inl (.inr (.inr (.inr (.inl e))))
 ·exact .inl (.inr (.inr (.inr (.inr (.inl e)))))
 ·have hy:∀i,(i=y.x\/i=y.g\/y.s.aX=some i)->aw t st d r sl its i:=λi e=>.inr (.inr (.inr (.inr (.inr ⟨y,aQ hi,e⟩))))
  rcases pY hz with hz|hz
  ·exact .inl (.inr (.inr (.inr (.inr (.inr ⟨z,hz,e⟩)))))
  ·subst hz;rw[hx,hg]at e;rcases e with e|e|e
   ·exact .inl (hy j (.inl e))
   ·exact .inl (hy j (.inr (.inl e)))
   ·rcases hs j e with e|e
    ·exact .inl (hy j (.inr (.inr e)))
    ·exact .inr e
instance (c:Ce):Decidable (PL c):=by unfold PL;exact inferInstance
def jc(l:List En)(c:Ce):Int:=
 if bK (λe:En=>e.1==pos c) l<0 then -1 else if c.2.1<0 then 1 else((l[(bK (λe:En=>e.1==pos c) l).toNat]?).map λe=>Z3 e.1 e.2.1 c).getD 0
def jo(l:List En)(c:Ce)(b:Int):List En×Int:=
 if bK (λe:En=>e.1==pos c) l<0 then(l,11)else if ¬PL c then(l,5)else if cN b=false then(l,1)else
  (l.eraseIdx (bK (λe:En=>e.1==pos c) l).toNat++((l[(bK (λe:En=>e.1==pos c) l).toNat]?).map λe=>(e.1,(tV e.1 e.2.1 c b).1,e.2.2.1||(Z3 e.1 e.2.1 c !=b),e.2.2.2)).toList,0)
def aeh{w:World}{t st d:Nat}{r:Dm}{sl:Sl}{D:Dk}{aj limit:Int}{its:List It}(h:TO w t st d r sl D aj limit its)(c:Ce)(hc:pQ c):
  ed 113 #[t,fQ c] w (vI (jc (eA its) c)):=by
 apply Gs.vc;intro w0 e0;have z0:=fD e0;have x0:=aU e0;refine(pS c hc w0).bf λw1 x1=>?_
 have lq:=x0.tr x1;have z1:=x1.size;refine⟨_,_,rfl,x1.k,(find_spec (h.ext lq) (pos c)).bf λw4 x4=>?_⟩;have z4:=x4.size;have E9:=lq.tr x4;have hfm:bK (λe:En=>e.1==pos c) (eA its)=bK (λi:It=>i.p==pos c) its:=me It.ob _ its;refine⟨_,rfl,x4.k,?_⟩;rcases dm (λi:It=>i.p==pos c) its with⟨hf,-⟩|⟨k,y,hk,hyp,hf,-⟩
 ·rw[hf];refine Br.mk (λ_=>⟨?_,E9⟩) (λh=>by simp at h);unfold jc;rw[hfm,hf,if_pos au]
 ·rw[hf];refine Br.mk (λh=>by simp at h;omega) (λ_=>Br.mk (λhb=>?_) (λhb=>?_))
  ·replace hb:=lM hb;refine⟨?_,E9⟩;unfold jc;rw[hfm,hf,if_neg aa,if_pos hb]
  ·replace hb:=lW hb;have hd:=(h.ext E9).ext (Ext.dr w4);obtain⟨a1,a2⟩:=hd.at hk;have hyr:=hd.it y (aQ hk);refine⟨sl,hd.rt.at 3 rfl,a1,_,a2,sb (sb ⟨_,hyr.r.at 0 rfl,(EW hyr.k c hc).bf λw9 x9=>?_⟩)⟩;have h9:=hd.ext x9;obtain⟨-,b2⟩:=h9.at hk;refine⟨_,_,rfl,x9.heap (show w.heap.size<w4 by omega),ph b2,ph (h9.rt.at 3 rfl),?_,E9.tr ((Ext.dr _).tr x9)⟩;unfold jc;rw[hfm,hf,if_neg aa,if_neg hb,iI,aW,hk];rfl
def aiy{p:Po}{C:List Int}{c:Ce}{b:Int}(hp:p=pos c)(hy:PL c)(hb:cN b=true):(tV p C c b).2=0:=by unfold tV;rw[if_neg (by rw[(EX p c).2 ⟨hy,hp.symm⟩];decide),if_neg (by rw[hb];decide)]
def Z4{w:World}{t st d:Nat}{r:Dm}{sl:Sl}{D:Dk}{aj limit:Int}{its:List It}(h:TO w t st d r sl D aj limit its)(c:Ce)(hc:pQ c)(b:Int):
  ab 307 #[t,fQ c,vI b] w λe w'=>e=vI (jo (eA its) c b).2/\qe w t st d r sl aj limit its (D,(jo (eA its) c b).1) w':=by
 apply D3.vc;intro w0 e0;have z0:=fD e0;have x0:=aU e0;refine(pS c hc w0).bf λw1 x1=>?_
 have lq:=x0.tr x1;have z1:=x1.size;refine⟨_,_,rfl,x1.k,(find_spec (h.ext lq) (pos c)).bf λw4 x4=>?_⟩;have z4:=x4.size;have E9:=lq.tr x4;have hfm:bK (λe:En=>e.1==pos c) (eA its)=bK (λi:It=>i.p==pos c) its:=me It.ob _ its;refine⟨_,rfl,x4.k,(CZ c w4).mono ?_⟩;rintro e w6 ⟨⟨ix,iy,rfl,hiy⟩,x6⟩;have z6:=x6.size;have x06:=E9.tr x6;have h6:=h.ext x06;refine⟨_,_,rfl,x6.k,?_⟩;have same:∀{w'},Ext w w'->qe w t st d r sl aj limit its (D,eA its) w':=λx=>⟨r,sl,its,h.ext x,rfl,aJ.aq x⟩
 rcases dm (λi:It=>i.p==pos c) its with⟨hf,-⟩|⟨k,y,hk,hyp,hf,-⟩
 ·rw[hf];refine Br.mk (λ_=>?_) (λh=>by simp at h);have e:jo (eA its) c b=(eA its,11):=by unfold jo;rw[hfm,hf,if_pos au]
  rw[e];exact⟨rfl,same x06⟩
 ·rw[hf];have hyc:y.p=pos c:=by simpa using hyp
  refine Br.mk (λh=>by simp at h;omega) (λ_=>?_);rcases hiy with⟨rfl,hY,-⟩|⟨rfl,hY,-⟩
  ·refine uN rfl ((gZ b w6).bf λw9 x9=>?_);have z9:=x9.size;have Ts:=x06.tr x9;refine⟨_,rfl,x9.k,Br.mk (λhb=>?_) (λhb=>?_)⟩
   ·have hb':cN b=false:=by simpa using hb
    have e:jo (eA its) c b=(eA its,1):=by unfold jo;rw[hfm,hf,if_neg aa,if_neg (by simpa using hY),if_pos hb']
    rw[e];exact⟨rfl,same Ts⟩
   ·have hb':cN b=true:=by simpa using hb
    have he:jo (eA its) c b=((eA its).eraseIdx k++[(y.p,(tV y.p y.C c b).1,y.o5||(Z3 y.p y.C c !=b),y.pins)],0):=by unfold jo;rw[hfm,hf,if_neg aa,if_neg (by simpa using hY),if_neg (by rw[hb'];decide),iI,aW,hk];rfl
    have h0:=aiy (C:=y.C) hyc hY hb';rw[he];have h9:=h.ext Ts;refine(GD h9 hk).mono ?_;rintro e bE ⟨rfl,azA,h11,t11⟩;have azB:=(aJ.aq Ts).trans t11;have z11:=t11.mod.size;have bx:∀{F:Nat->Prop},(∀i,F i->aw t st d r sl its i)->¬F w:=λhF hf=>by have:=h.lt (hF _ hf);omega
    have hi':(its.eraseIdx k++[y])[(its.eraseIdx k).length]? =some y:=by rw[pO (ak _),Nat.sub_self];rfl
    have hd:=h11.ext (Ext.dr bE);have hyd:=hd.it y (aQ hi');have hxw:y.x<w:=(h.it y (aQ hk)).r.lt;have hgw:y.g<w:=(h.it y (aQ hk)).k.row.lt;refine⟨_,rfl,t11.mod.same _ aa (bx λi hi=>hi),sb (sb ⟨_,hyd.r.at 0 rfl,(EW hyd.k c hc).bf λcp cY=>?_⟩)⟩;have agT:Ext bE cp:=(Ext.dr _).tr cY;have z14:=agT.size;have h14:=h11.ext agT;have Bc:=h14.it y (aQ hi');have pt:∀v:Bool,_:=λv=>Bc.r.ft (j:=1) (v:=.bool v) bo rfl
    refine⟨_,_,rfl,cY.heap (show w.heap.size<bE by omega),sb (sb ⟨_,Bc.r.at 1 rfl,Br.mk (λhb=>sb (sb ⟨⟨rfl,(pt true).1⟩,λe=>?_,λdA Ot=>sb (sb ?_)⟩)) (λhb=>sb (sb ⟨⟨rfl,(pt true).1⟩,λe=>?_,λdA Ot=>sb (sb ?_)⟩))⟩)⟩
    case refine_1|refine_3=>
     rw[cB]at e;have:y.x=w.heap.size:=by simpa[bM]using e
     omega
    all_goals
     obtain⟨q1,q2⟩:=(pt _).2 dA Ot
     have z18:=q2.size
     have atp:Ja dA y.g y.s y.p y.C:=Bc.k.aV q2 (λe=>Bc.k.row.ne Bc.r au e) (λb hb=>by obtain⟨cs',hr'⟩:=aT Bc.k.own au hb;exact hr'.ne Bc.r au)
     refine⟨_,(q1.ext (Ext.dr _)).at 0 rfl,(aei (atp.ext (Ext.dr dA)) c hc b).mono ?_⟩;rintro e eQ ⟨rfl,s',azC,m20,b20⟩;have q1d:=q1.ext (Ext.dr dA);refine⟨_,rfl,m20.same _ (show w.heap.size<dA by omega) (λe=>by omega),congrArg _ (congrArg _ h0),?_⟩;have hm:Mod (λj=>j=y.x\/j=y.g) cp eQ:=((q2.mono λi _ hi=>.inl hi).trans (Mod.aq (Ext.dr _))).trans (m20.mono λi _ hi=>.inr hi);have azD:tM eQ ⟨y.x,y.g,s',y.p,(tV y.p y.C c b).1,y.o5||(Z3 y.p y.C c !=b),y.pins⟩:=by refine⟨?_,azC⟩;have:=m20.row q1d (λe=>q1d.ne (atp.ext (Ext.dr dA)).row au e);rw[hb];exact this
     have h20:=h14.aix hi' (y':=⟨y.x,y.g,s',y.p,(tV y.p y.C c b).1,y.o5||(Z3 y.p y.C c !=b),y.pins⟩) rfl rfl hm azD;refine⟨r,azA,_,h20,?_,azB.trans ⟨(Mod.aq agT).trans (hm.mono λi _ hi=>?_),λj hj=>?_⟩⟩
     ·unfold eA;rw[List.set_append_right _ _ (ak _),Nat.sub_self,cl];have:=vA its k;unfold eA at this;rw[this];rfl
     ·exact .inr (.inr (.inr (.inr (.inr ⟨y,aQ hi',hi.elim .inl λe=>.inr (.inl e)⟩))))
     ·exact Z2 (y':=⟨y.x,y.g,s',y.p,(tV y.p y.C c b).1,y.o5||(Z3 y.p y.C c !=b),y.pins⟩) hi' rfl rfl (λb hb=>(b20 b hb).imp id λe=>cV (cV z14 z18) e) j hj
  ·have e:jo (eA its) c b=(eA its,5):=by unfold jo;rw[hfm,hf,if_neg aa,if_pos hY]
   refine yes rfl ?_;rw[e];exact⟨rfl,same x06⟩
def o0(l:List En):Prop:=∀e∈l,e.2.1.length=8192/\∀b∈e.2.1,cN b=true
def abH{c d:Ce}(hc:PL c)(hd:PL d)(hp:pos c=pos d)(hi:(idx c).toNat=(idx d).toNat):c=d:=by
 have h1:=aep hc;have h2:=aep hd;have hi':idx c=idx d:=by omega
 obtain⟨a,b,e⟩:=c;obtain⟨a',b',e'⟩:=d;unfold idx at hi';unfold pos at hp;simp only[Prod.mk.injEq]at hp⊢;simp only at hi';omega
def eR(l:List En)(p:Po):Prop:=∃e∈l,e.1=p
def eW(l:List En):Prop:=(l.map (·.1)).Nodup
def HX{l:List En}{c:Ce}(h:¬eR l (pos c)):jc l c= -1:=by
 unfold jc;rw[mX λy hy=>?_,if_pos au]
 cases hb:(y.1==pos c)with
 |false=>rfl
 |true=>exact absurd ⟨y,hy,by simpa using hb⟩ h
def xi{l:List En}(hn:eW l){e:En}(he:e∈l):∃k:Nat,l[k]? =some e/\bK (λx:En=>x.1==e.1) l=k:=by
 obtain⟨k,hk⟩:=yY he;refine⟨k,hk,vz hk bo λj hj y hy=>?_⟩
 cases hb:(y.1==e.1)with
 |false=>rfl
 |true=>
  have h1:(l.map (·.1))[k]? =some e.1:=by rw[aW,hk];rfl
  have h2:(l.map (·.1))[j]? =some e.1:=by rw[aW,hy];simpa using hb
  have hkl:=(List.getElem?_eq_some_iff.1 h1).1;have:=(List.getElem?_inj (show j<_ by omega) hn).1 (h2.trans h1.symm);omega
def AX{l:List En}(hn:eW l){e:En}(he:e∈l){c:Ce}(hp:e.1=pos c):jc l c=if c.2.1<0 then 1 else Z3 e.1 e.2.1 c:=by obtain⟨k,hk,hf⟩:=xi hn he;unfold jc;rw[<-hp,hf,if_neg aa,iI,hk];rfl
def aco{p:Po}{C:List Int}(hl:C.length=8192){c:Ce}(hy:PL c)(hp:p=pos c){b:Int}(hb:cN b=true)(c':Ce)(hp':p=pos c'):Z3 p (tV p C c b).1 c'=if c'=c then b else Z3 p C c':=by
 have e:(tV p C c b).1=C.set (idx c).toNat b:=by unfold tV;rw[if_neg (by rw[(EX p c).2 ⟨hy,hp.symm⟩];decide),if_neg (by rw[hb];decide)]
 rw[e];have hi:=aep hy;by_cases hcc:c'=c
 ·subst hcc;rw[if_pos rfl];have hk:Q8 p c'=true:=(EX p c').2 ⟨hy,hp'.symm⟩;unfold Z3;rw[hk,if_pos rfl];unfold atC;rw[if_neg aa,dG,iS,if_pos rfl,if_pos aa];rfl
 ·rw[if_neg hcc];by_cases hy':PL c'
  ·have hk:Q8 p c'=true:=(EX p c').2 ⟨hy',hp'.symm⟩;have hi':=aep hy';have h0:¬idx c'<0:=by omega
   unfold Z3;rw[hk,if_pos rfl,if_pos rfl];unfold atC;rw[if_neg h0,if_neg h0,dG,dG,iS,if_neg (λh=>hcc (abH hy hy' (hp.symm.trans hp') h).symm)]
  ·have hk:Q8 p c'=false:=by
    cases h:Q8 p c' with
    |false=>rfl
    |true=>exact absurd ((EX p c').1 h).1 hy'
   unfold Z3;rw[hk,if_neg au,if_neg au]
def P9{l:List En}(hn:eW l)(hg:o0 l){c:Ce}(hh:eR l (pos c))(hy:PL c){b:Int}(hb:cN b=true):
  (jo l c b).2=0/\eW (jo l c b).1/\(∀p,eR (jo l c b).1 p↔eR l p)/\∀c',jc (jo l c b).1 c'=if c'=c then b else jc l c':=by
 obtain⟨e,he,hp⟩:=hh;obtain⟨k,hk,hf⟩:=xi hn he;have hs:jo l c b=(l.eraseIdx k++[(e.1,(tV e.1 e.2.1 c b).1,e.2.2.1||(Z3 e.1 e.2.1 c !=b),e.2.2.2)],0):=by unfold jo;rw[<-hp,hf,if_neg aa,if_neg (by simpa using hy),if_neg (by rw[hb];decide),iI,hk];rfl
 generalize hd:(e.2.2.1||(Z3 e.1 e.2.1 c !=b))=d at hs;obtain⟨A,B,hl2,hkA⟩:∃A B,l=A++e::B/\k=A.length:=by obtain⟨hkl,he⟩:=List.getElem?_eq_some_iff.1 hk;exact⟨l.take k,l.drop (k+1),by rw[<-he,<-zV hkl,td],by rw[cS];omega⟩
 subst hkA;rw[hl2,List.eraseIdx_append_of_length_le (ak _),Nat.sub_self]at hs;have hs1:jo l c b=(A++B++[(e.1,(tV e.1 e.2.1 c b).1,d,e.2.2.2)],0):=by rw[hl2];exact hs
 rw[hs1];have aeV:∀x,x∈l↔x∈A++B\/x=e:=λx=>by
  rw[hl2];simp only[dp,cu];constructor
  ·rintro(h|h|h)
   ·exact .inl (.inl h)
   ·exact .inr h
   ·exact .inl (.inr h)
  ·rintro((h|h)|h)
   ·exact .inl h
   ·exact .inr (.inr h)
   ·exact .inr (.inl h)
 have hn':eW (A++B++[(e.1,(tV e.1 e.2.1 c b).1,d,e.2.2.2)]):=by
  have hnl:eW (A++e::B):=by rw[<-hl2];exact hn
  unfold eW at hnl⊢;rw[cl,eH]at hnl;obtain⟨n1,n2,n3⟩:=List.nodup_append.1 hnl;obtain⟨n4,n5⟩:=List.nodup_cons.1 n2;rw[cl,cl];refine List.nodup_append.2 ⟨List.nodup_append.2 ⟨n1,n5,λa ha b hb=>n3 a ha b (.tail _ hb)⟩,by simp,λa ha b hb=>?_⟩;simp only[eH,List.map_nil,ig]at hb;subst hb;rcases List.mem_append.1 ha with ha|ha
  ·exact n3 a ha _ (.head _)
  ·exactλh=>n4 (h▸ha)
 have ala:∀x∈A++B,x.1≠e.1:=λx hx h=>by
  have hnl:eW (A++e::B):=by rw[<-hl2];exact hn
  unfold eW at hnl;rw[cl,eH]at hnl;obtain⟨n1,n2,n3⟩:=List.nodup_append.1 hnl;obtain⟨n4,n5⟩:=List.nodup_cons.1 n2;rcases List.mem_append.1 hx with hx|hx
  ·exact n3 _ (List.mem_map.2 ⟨x,hx,rfl⟩) _ (.head _) h
  ·exact n4 (by rw[<-h];exact List.mem_map.2 ⟨x,hx,rfl⟩)
 refine⟨rfl,hn',λp=>⟨?_,?_⟩,λc'=>?_⟩
 ·rintro⟨x,hx,Yw⟩;rcases List.mem_append.1 hx with hx|hx
  ·exact⟨x,(aeV x).2 (.inl hx),Yw⟩
  ·simp only[ig]at hx;subst hx;exact⟨e,he,Yw⟩
 ·rintro⟨x,hx,Yw⟩;rcases(aeV x).1 hx with hx|hx
  ·exact⟨x,Ha _ hx,Yw⟩
  ·subst hx;exact⟨_,Dc _ (.head _),Yw⟩
 ·show jc (A++B++[(e.1,(tV e.1 e.2.1 c b).1,d,e.2.2.2)]) c'=_;by_cases hpc:e.1=pos c'
  ·rw[AX hn' (Dc _ (.head _)) (e:=(e.1,(tV e.1 e.2.1 c b).1,d,e.2.2.2)) hpc,AX hn he hpc];show(if c'.2.1<0 then 1 else Z3 e.1 (tV e.1 e.2.1 c b).1 c')=_;rw[aco (hg e he).1 hy hp hb c' hpc];by_cases hcc:c'=c
   ·subst hcc;rw[if_pos rfl,if_pos rfl,if_neg (by unfold PL at hy;omega)]
   ·rw[if_neg hcc,if_neg hcc]
  ·have hcc:c'≠c:=λh=>hpc (by rw[h];exact hp)
   rw[if_neg hcc];by_cases hx:∃x∈A++B,x.1=pos c'
   ·obtain⟨x,hx,Yw⟩:=hx;rw[AX hn' (Ha _ hx) Yw,AX hn ((aeV x).2 (.inl hx)) Yw]
   ·rw[HX,HX]
    ·rintro⟨x,hx2,Yw⟩;rcases(aeV x).1 hx2 with h|h
     ·exact hx ⟨x,h,Yw⟩
     ·subst h;exact hpc Yw
    ·rintro⟨x,hx2,Yw⟩;rcases List.mem_append.1 hx2 with h|h
     ·exact hx ⟨x,h,Yw⟩
     ·simp only[ig]at h;subst h;exact hpc Yw
def zi{l:List En}{c:Ce}{b:Int}(h:¬(eR l (pos c)/\PL c/\cN b=true)):(jo l c b).1=l/\(jo l c b).2≠0:=by
 unfold jo;rcases dm (λe:En=>e.1==pos c) l with⟨hf,-⟩|⟨k,e,hk,hek,hf,-⟩
 ·rw[hf,if_pos au];exact⟨rfl,by simp⟩
 ·rw[hf,if_neg aa];have hh:eR l (pos c):=⟨e,aQ hk,by simpa using hek⟩;by_cases hy:PL c
  ·rw[if_neg (by simpa using hy)];have hb:cN b=false:=by
    cases hb:cN b with
    |false=>rfl
    |true=>exact absurd ⟨hh,hy,hb⟩ h
   rw[if_pos hb];exact⟨rfl,by simp⟩
  ·rw[if_pos hy];exact⟨rfl,by simp⟩
def TF(F:Nat->Prop)(w:World)(t:Nat)(aj limit:Int)(T:Tb):Prop:=
 ∃st d r sl its,TO w t st d r sl T.1 aj limit its/\eA its=T.2/\F=aw t st d r sl its
def TF.lt{F:Nat->Prop}{w:World}{t:Nat}{aj limit:Int}{T:Tb}(h:TF F w t aj limit T){i:Nat}(hi:F i):i<w:=by obtain⟨st,d,r,sl,its,h1,h2,rfl⟩:=h;exact h1.lt hi
def TF.same{F:Nat->Prop}{w w':World}{t:Nat}{aj limit:Int}{T:Tb}(h:TF F w t aj limit T)(hs:∀i,F i->w'.heap[i]? =w.heap[i]?):TF F w' t aj limit T:=by obtain⟨st,d,r,sl,its,h1,h2,rfl⟩:=h;exact⟨st,d,r,sl,its,h1.same hs,h2,rfl⟩
def TF.ext{F:Nat->Prop}{w w':World}{t:Nat}{aj limit:Int}{T:Tb}(h:TF F w t aj limit T)(x:Ext w w'):TF F w' t aj limit T:=h.same λ_ hi=>x.heap (h.lt hi)
def TF.aV{F G:Nat->Prop}{w w':World}{t:Nat}{aj limit:Int}{T:Tb}(h:TF F w t aj limit T)(hm:Mod G w w')(hn:∀i,F i->¬G i):TF F w' t aj limit T:=h.same λi hi=>hm.same i (h.lt hi) (hn i hi)
abbrev Pe(τ:TypeId):Prop:=τ≠B0/\τ≠BZ/\τ≠tg/\τ≠tPI/\τ≠cc/\τ≠xY/\τ≠ic/\τ≠tW/\τ≠jG
def TF.dR{F:Nat->Prop}{w:World}{t:Nat}{aj limit:Int}{T:Tb}(h:TF F w t aj limit T){j:Nat}{cs:LV}{τ:TypeId}(hr:Row w j cs τ)(hτ:Pe τ):¬F j:=by obtain⟨st,d,r,sl,its,h1,h2,rfl⟩:=h;exact h1.dR hr hτ
def TF.len{F:Nat->Prop}{w:World}{t:Nat}{aj limit:Int}{T:Tb}(h:TF F w t aj limit T):(T.2.length:Int)<=limit/\1<=limit/\limit<=16:=by obtain⟨st,d,r,sl,its,h1,e,rfl⟩:=h;have:=h1.len;have:=h1.W8;rw[<-e];unfold eA;rw[aK];omega
def TF.afc{F:Nat->Prop}{w:World}{t:Nat}{aj limit:Int}{T:Tb}(h:TF F w t aj limit T):o0 T.2:=by obtain⟨stY7,d,r,sl,its,h1,e,rfl⟩:=h;rw[<-e];intro e he;obtain⟨y,hy,rfl⟩:=List.mem_map.1 he;exact⟨(h1.it y hy).k.len,(h1.it y hy).k.may⟩
abbrev Fy(F:Nat->Prop)(w:World)(t:Nat)(aj limit:Int)(T:Tb)(w':World):Prop:=∃F',TF F' w' t aj limit T/\aJ F F' w w'
def wK{w w':World}{t st d:Nat}{r:Dm}{sl:Sl}{aj limit:Int}{its:List It}{T:Tb}(hl:qe w t st d r sl aj limit its T w'):Fy (aw t st d r sl its) w t aj limit T w':=by obtain⟨r',sl',its',h',ho,ht⟩:=hl;exact⟨_,⟨st,d,r',sl',its',h',ho,rfl⟩,ht⟩
def Ua(aj limit room:Int)(w:World):ab 176 #[aj,limit,room] w λe w'=>∃t F,e=Value.pointer (aB t)/\TF F w' t aj (min (max limit 1) 16) (T9 room,[])/\Ext w w'/\∀i,F i->w.heap.size<=i:=by refine(abr aj limit room w).mono ?_;rintro e w' ⟨t,st,d,r,rfl,h,x,hf⟩;exact⟨t,_,rfl,⟨st,d,r,_,[],h,rfl,rfl⟩,x,hf⟩
section
variable{F:Nat->Prop}{w:World}{t:Nat}{aj limit:Int}{T:Tb}
def Q2(h:TF F w t aj limit T)(hW:T.1.l.length<=1000000)(p:Po):
  ab 88 #[t,pv p] w λe w'=>e=vI (yO aj limit T.1 T.2 p).2/\Fy F w t aj limit (yO aj limit T.1 T.2 p).1 w':=by
 obtain⟨st,d,r,sl,its,h1,e,rfl⟩:=h;rw[<-e];refine(ZH h1 hW p).bf λw' hl=>?_
 exact⟨rfl,wK hl⟩
def IJ(h:TF F w t aj limit T)(hW:T.1.l.length<=1000000)(p:Po):
  ab 89 #[t,pv p] w λe w'=>e=vI (oa T.1 T.2 p).2/\Fy F w t aj limit (oa T.1 T.2 p).1 w':=by
 obtain⟨st,d,r,sl,its,h1,e,rfl⟩:=h;rw[<-e];refine(QU h1 hW p).bf λw' hl=>?_
 exact⟨rfl,wK hl⟩
def On(h:TF F w t aj limit T)(hW:T.1.l.length<=1000000)(p:Po):
  ab 90 #[t,pv p] w λe w'=>e=vI (TK T.1 T.2 p).2/\Fy F w t aj limit (TK T.1 T.2 p).1 w':=by
 obtain⟨st,d,r,sl,its,h1,e,rfl⟩:=h;rw[<-e];refine(U8 h1 hW p).bf λw' hl=>?_
 exact⟨rfl,wK hl⟩
def DF(h:TF F w t aj limit T)(hW:T.1.l.length<=900000):
  ab 120 #[t] w λe w'=>e=Value.tuple #[vI (gT T.1 T.2).2.1,vI (gT T.1 T.2).2.2]/\Fy F w t aj limit (gT T.1 T.2).1 w':=by
 obtain⟨st,d,r,sl,its,h1,e,rfl⟩:=h;rw[<-e];refine(Jc h1 hW).bf λw' hl=>?_
 exact⟨rfl,wK hl⟩
def Pu(h:TF F w t aj limit T)(hW:T.1.l.length<=1000000)(s:Sl)(b:List Int)(hs:jd w s b)(hb:mJ b)(hn:b.length<=1099511627776):
  ab 182 #[t,s] w λe w'=>e=vI (tJ T.1 0 b).2/\Fy F w t aj limit ((tJ T.1 0 b).1,T.2) w':=by
 obtain⟨st,d,r,sl,its,h1,e,rfl⟩:=h;rw[<-e];refine(ZZ h1 hW s b hs hb hn).bf λw' hl=>?_
 exact⟨rfl,wK hl⟩
def Bw(h:TF F w t aj limit T)(c:Ce)(hc:pQ c):
  ed 113 #[t,fQ c] w (vI (jc T.2 c)):=by
 obtain⟨st,d,r,sl,its,h1,e,rfl⟩:=h;rw[<-e];exact aeh h1 c hc
def Ub(h:TF F w t aj limit T)(c:Ce)(hc:pQ c)(b:Int):
  ab 307 #[t,fQ c,b] w λe w'=>e=vI (jo T.2 c b).2/\Fy F w t aj limit (T.1,(jo T.2 c b).1) w':=by
 obtain⟨st,d,r,sl,its,h1,e,rfl⟩:=h;rw[<-e];refine(Z4 h1 c hc b).bf λw' hl=>?_
 exact⟨rfl,wK hl⟩
end
open Go.ej
def fh(c:Ce):Prop:=(-2000000000<=c.1/\c.1<=2000000000)/\(-2000000000<=c.2.1/\c.2.1<=2000000000)/\-2000000000<=c.2.2/\c.2.2<=2000000000
def Cn(c:Ce):Prop:=(-1000000000<=c.1/\c.1<=1000000000)/\(-1000000000<=c.2.1/\c.2.1<=1000000000)/\-1000000000<=c.2.2/\c.2.2<=1000000000
def fh.ok{c:Ce}(h:fh c):pQ c:=by unfold fh at h;unfold pQ cH;omega
def Cn.wide{c:Ce}(h:Cn c):fh c:=by unfold Cn at h;unfold fh;omega
def FR{c:Ce}(h:fh c){n:Ce}(hn:n∈rZ c):pQ n:=by unfold fh at h;unfold rZ fy Ds at hn;simp only[cu,iT,or_false]at hn;rcases hn with rfl|rfl|rfl|rfl|rfl|rfl<;>(unfold pQ cH;simp only;omega)
def ai9{c:Ce}(h:Cn c){n:Ce}(hn:n∈rZ c):fh n:=by unfold Cn at h;unfold rZ fy Ds at hn;simp only[cu,iT,or_false]at hn;rcases hn with rfl|rfl|rfl|rfl|rfl|rfl<;>(unfold fh;simp only;omega)
def rk(n:Int)(h: -2147483648<=n/\n<=2147483648)(w:World):kh 281 #[n] w n:=by apply adC.vc;have e1:(if(-2147483648)>n then(-2147483648)else n)=n:=if_neg aa;rw[e1,if_neg aa];exact⟨rfl,rfl⟩
def QH(c:Ce)(h:(-2147483648<=c.1/\c.1<=2147483648)/\(-2147483648<=c.2.1/\c.2.1<=2147483648)/\-2147483648<=c.2.2/\c.2.2<=2147483648)(w:World):ed 280 #[fQ c] w ((fQ c)):=by
 apply adB.vc;intro w0 e0 w1 e1;have x1:Ext w w1:=(aU e0).aZ e1;have z0:=fD e0;have r0:Row w1 w [c.1,c.2.1,c.2.2] rV:=(by rw[e0];exact Row.new w [_,_,_] _:Row w0 w _ _).ext (aU e1);have xd:=Ext.dr w1;have r1:=r0.ext xd;refine(rk c.1 h.1 w1.drew).eL ?_;refine⟨_,rfl,rfl,rfl,r1.bH (o:=2) (λj hj=>by
  match j,hj with
  |0,_=>rfl),r1.bH (o:=1) (λj hj=>by
  match j,hj with
  |0,_=>rfl),(rk c.2.1 h.2.1 w1.drew).eL ?_⟩
 refine⟨_,rfl,rfl,rfl,r1.bH (o:=2) (λj hj=>by
  match j,hj with
  |0,_=>rfl),(rk c.2.2 h.2.2 w1.drew).eL ?_⟩
 exact⟨_,rfl,rfl,rfl,λw8 e8=>⟨rfl,(x1.tr xd).af e8 aa⟩⟩
def mD(a b d:Int)(c c':Ce)(he:c'=(c.1+a,c.2.1+b,c.2.2+d))(hc:fh c)(ha:(-1<=a/\a<=1)/\(-1<=b/\b<=1)/\-1<=d/\d<=1){g:Nat}{w:World}(hr:Row w g [c.1,c.2.1,c.2.2] rV):
  ed 279 #[a,b,d,g] w ((fQ c')):=by
 subst he;apply Qc.vc;obtain⟨⟨h1,h2⟩,⟨h3,h4⟩,h5,h6⟩:=id hc;intro w0 e0;have x0:=aU e0;have z0:=fD e0;have xd:=x0.tr (Ext.dr w0);have zd:=nV w0;have r1:=hr.ext xd;have q1:aC (c.1+a)=c.1+a:=wI;have q2:aC (c.2.1+b)=c.2.1+b:=wI;have q3:aC (c.2.2+d)=c.2.2+d:=wI;refine⟨c.1,r1.at 0 rfl,c.2.1,r1.at 1 rfl,c.2.2,r1.at 2 rfl,(rk c.1 aa w0.drew).eL ?_⟩;refine⟨_,rfl,rfl,ph (r1.at 2 rfl),ph (r1.at 1 rfl),(rk c.2.1 aa w0.drew).eL ?_⟩;refine⟨_,rfl,rfl,ph (r1.at 2 rfl),(rk c.2.2 aa w0.drew).eL ?_⟩;refine⟨_,rfl,rfl,?_⟩;rw[q1,q2,q3];refine(QH (c.1+a,c.2.1+b,c.2.2+d) (by simp only;omega) w0.drew).bf λbr bL=>?_
 exact⟨_,_,_,rfl,bL.k,λcp yF=>⟨rfl,(xd.tr bL).af yF (ak _)⟩⟩
abbrev eV(c:Ce):LV:=[vI c.1,vI c.2.1,vI c.2.2]
def HM(c:Ce):One (eV c):=by intro v hv;simp at hv;rcases hv with rfl|rfl|rfl<;>rfl
abbrev TN(c:Ce):LV:=[vI (c.1-1),vI c.2.1,vI c.2.2,vI (c.1+1),vI c.2.1,vI c.2.2,vI c.1,vI (c.2.1-1),vI c.2.2,vI c.1,vI (c.2.1+1),vI c.2.2,vI c.1,vI c.2.1,vI (c.2.2-1),vI c.1,vI c.2.1,vI (c.2.2+1)]
def VU(c:Ce):One (TN c):=by intro v hv;simp only[TN,cu,iT,or_false]at hv;rcases hv with rfl|rfl|rfl|rfl|rfl|rfl|rfl|rfl|rfl|rfl|rfl|rfl|rfl|rfl|rfl|rfl|rfl|rfl<;>rfl
def afk(c:Ce):TN c=((rZ c).map eV).flatten:=rfl
def dC{cs vs:LV}(h:vs.length=cs.length):putCells cs 0 vs=vs:=by rw[dX _ _ _ aa];simp[<-h]
def KN{a b c a' b' c':Int}(h1:a=a')(h2:b=b')(h3:c=c'):((a,b,c):Ce)=(a',b',c'):=by rw[h1,h2,h3]
def jt(c:Ce)(hc:fh c)(w:World):ed 221 #[fQ c] w (Value.agg (TN c).toArray):=by
 apply Zi.vc;intro w0 e0 w1 e1;have x1:Ext w w1:=(aU e0).aZ e1;have z0:=fD e0;have r0:Row w1 w [c.1,c.2.1,c.2.2] rV:=(by rw[e0];exact Row.new w [_,_,_] _:Row w0 w _ _).ext (aU e1);have rb:Row w1 w0 [ai,ai,ai,ai,ai,ai,ai,ai,ai,ai,ai,ai,ai,ai,ai,ai,ai,ai] 266:=Row.nw e1;refine(mD (-1) 0 0 c (c.1-1,c.2.1,c.2.2) (KN aa aa aa) hc au r0).bf λw2 x2=>?_
 refine⟨_,_,_,rfl,(mD 1 0 0 c (c.1+1,c.2.1,c.2.2) (KN aa aa aa) hc au (r0.ext x2)).bf λw6 x6=>?_⟩;have y6:=x2.tr x6;refine⟨_,_,_,rfl,(mD 0 (-1) 0 c (c.1,c.2.1-1,c.2.2) (KN aa aa aa) hc au (r0.ext y6)).bf λbr bL=>?_⟩;have y10:=y6.tr bL;refine⟨_,_,_,rfl,(mD 0 1 0 c (c.1,c.2.1+1,c.2.2) (KN aa aa aa) hc au (r0.ext y10)).bf λcp cY=>?_⟩;have y14:=y10.tr cY;refine⟨_,_,_,rfl,(mD 0 0 (-1) c (c.1,c.2.1,c.2.2-1) (KN aa aa aa) hc au (r0.ext y14)).bf λdA dc=>?_⟩;have y18:=y14.tr dc;refine⟨_,_,_,rfl,(mD 0 0 1 c (c.1,c.2.1,c.2.2+1) (KN aa aa aa) hc au (r0.ext y18)).bf λdh fX=>?_⟩;have y22:=y18.tr fX;have r22:=rb.ext y22;refine⟨_,_,_,rfl,⟨rfl,r22.wr bo⟩,λkN TB=>?_⟩;have TB:kN=bB dh (aB w0.heap.size) (TN c):=TB;rw[r22.bB (vs:=TN c) bo (VU c),dC bo]at TB;have hr':Row kN w0 (TN c) 266:=r22.st TB;exact⟨_,_,_,_,_,_,_,_,_,_,_,_,_,_,_,_,_,_,hr'.bH (λj hj=>by rw[eF]),rfl,(x1.tr y22).af TB aa⟩
def xE(b:Int)(w:World):kh 222 #[b] w (Value.bool (b==3)):=by apply Qs.vc;exact⟨rfl,rfl⟩
def oZ(b:Int)(w:World):kh 262 #[b] w (Value.bool (rW b)):=by
 apply Zv.vc;unfold rW;refine Br.mk (λh=>⟨?_,rfl⟩) (λh=>⟨?_,rfl⟩)
 ·have h1:=eK h;rw[decide_eq_true h1,oU]
 ·have h1:=eK h;rw[decide_eq_false h1,C9]
def Du(b:Int)(w:World):kh 253 #[b] w (Value.bool (mN b)):=by
 apply ML.vc;unfold mN;refine Br.mk (λh=>⟨?_,rfl⟩) (λh=>(oZ b w).mono ?_)
 ·have h1:=eK h;rw[decide_eq_true h1,Bool.true_or]
 ·rintro e w' ⟨rfl,rfl⟩;have h1:=eK h;rw[decide_eq_false h1,Bool.false_or];exact⟨_,rfl,rfl,rfl⟩
def GU(b:Int)(w:World):kh 309 #[b] w (Value.int .i64 (jS b)):=by
 apply UI.vc
 refine(xE b w).mono ?_
 rintro e w0 ⟨rfl,rfl⟩
 unfold jS
 refine⟨_,rfl,Br.mk (λh=>?_) (λh=>(oZ b w0).mono ?_)⟩
 ·rw[if_pos (by simpa using h)];exact⟨rfl,rfl⟩
 ·rintro e w2 ⟨rfl,rfl⟩
  rw[if_neg (by simpa using h)]
  refine⟨_,rfl,Br.mk (λh=>?_) (λh=>?_)⟩
  ·rw[if_pos h];exact⟨rfl,rfl⟩
  ·rw[if_neg (by rw[h];decide)];exact⟨rfl,rfl⟩
def Vi(aj:Int)(p:Po):xQ aj p []=made aj p:=rfl
def V0{l:List En}{i:Nat}{e:En}(hd:eW l)(hi:l[i]? =some e):e.1∉(l.eraseIdx i).map (·.1):=by
 rw[W9,cl];have e1:l=l.take i++e::l.drop (i+1):=by have:=td i l;rw[zV (List.getElem?_eq_some_iff.1 hi).1]at this;rw[<-(List.getElem?_eq_some_iff.1 hi).2];exact this.symm
 unfold eW at hd;rw[e1,cl,eH]at hd;obtain⟨h1,h2,h3⟩:=List.nodup_append.1 hd;intro hm;rcases List.mem_append.1 hm with hm|hm
 ·exact h3 _ hm _ (.head _) rfl
 ·exact(List.nodup_cons.1 h2).1 hm
def mem_erase{l:List En}(hn:eW l){i:Nat}{e:En}(hi:l[i]? =some e)(x:En):x∈l.eraseIdx i↔x∈l/\x.1≠e.1:=by
 have hno:e.1∉(l.eraseIdx i).map (·.1):=V0 hn hi;have hil:=List.getElem?_eq_some_iff.1 hi;have e1:l=l.take i++e::l.drop (i+1):=by have:=td i l;rw[zV hil.1,hil.2]at this;exact this.symm
 have e2:x∈l↔x∈l.eraseIdx i\/x=e:=by
  rw[W9];conv=>lhs;rw[e1]
  simp only[dp,cu];constructor
  ·rintro(h|h|h)
   ·exact .inl (.inl h)
   ·exact .inr h
   ·exact .inl (.inr h)
  ·rintro((h|h)|h)
   ·exact .inl h
   ·exact .inr (.inr h)
   ·exact .inr (.inl h)
 constructor
 ·intro hx;exact⟨e2.2 (.inl hx),λq=>hno (List.mem_map.2 ⟨x,hx,q⟩)⟩
 ·rintro⟨hx,hne⟩;rcases e2.1 hx with h|h
  ·exact h
  ·exact absurd (by rw[h]) hne
def Hd{l:List En}(hn:eW l)(i:Nat):eW (l.eraseIdx i):=hn.sublist ((GA ..).map _)
def C4{l:List En}(hn:eW l){e:En}(h:¬eR l e.1):eW (l++[e]):=by unfold eW;rw[cl];refine List.nodup_append.2 ⟨hn,by simp,?_⟩;intro a ha b hb q;simp at hb;obtain⟨x,hx,rfl⟩:=List.mem_map.1 ha;exact h ⟨x,hx,q.trans hb⟩
def lC{p:Option Addr}{K:Prop}(hp:p.isSome=true)(h:K):aO (eE p) K:=bO.2 ⟨rJ.2 hp,h⟩
def aq8:Pe rV/\Pe tPo:=by decide
def uu{F:Nat->Prop}{w:World}{t:Nat}{aj cap:Int}{T:Tb}(h:TF F w t aj cap T):ab 42 #[t] w λe w'=>∃s':Sl,e=s'/\ar w tPo 2 w' s' (T.2.map λe=>[vI e.1.1,vI e.1.2])/\Ext w w':=by obtain⟨st,d,r,sl,its,g1,e,rfl⟩:=h;rw[<-e];exact Z1 g1
abbrev Bu:TypeId:=132
abbrev mU:TypeId:=269
abbrev Cg:=Ce×Int
abbrev cgv(x:Cg):LV:=[vI x.1.1,vI x.1.2.1,vI x.1.2.2,vI x.2]
def WF(F:Nat->Prop)(w:World)(o t:Nat)(aj limit:Int)(T:Tb)(ch:List Cg):Prop:=
 ∃F1 sc,TF F1 w t aj limit T/\Row w o [t,.slice sc.a sc.n sc.c] Bu/\ar 0 mU 4 w sc (ch.map cgv)/\F=λi=>F1 i\/i=o\/sc.aX=some i
def WF.lt{F:Nat->Prop}{w:World}{o t:Nat}{aj limit:Int}{T:Tb}{ch:List Cg}(h:WF F w o t aj limit T ch){i:Nat}(hi:F i):i<w:=by
 obtain⟨F1,sc,h1,h2,h3,rfl⟩:=h;rcases hi with hi|rfl|hi
 ·exact h1.lt hi
 ·exact h2.lt
 ·exact(h3.own.lt hi).2
def WF.same{F:Nat->Prop}{w w':World}{o t:Nat}{aj limit:Int}{T:Tb}{ch:List Cg}(h:WF F w o t aj limit T ch)(hs:∀i,F i->w'.heap[i]? =w.heap[i]?):WF F w' o t aj limit T ch:=by obtain⟨F1,sc,h1,h2,h3,rfl⟩:=h;exact⟨F1,sc,h1.same λi hi=>hs i (.inl hi),h2.same (hs o (.inr (.inl rfl))),ar.aV h3 λb hb=>hs b (.inr (.inr hb)),rfl⟩
def WF.ext{F:Nat->Prop}{w w':World}{o t:Nat}{aj limit:Int}{T:Tb}{ch:List Cg}(h:WF F w o t aj limit T ch)(x:Ext w w'):WF F w' o t aj limit T ch:=h.same λ_ hi=>x.heap (h.lt hi)
def WF.aV{F G:Nat->Prop}{w w':World}{o t:Nat}{aj limit:Int}{T:Tb}{ch:List Cg}(h:WF F w o t aj limit T ch)(hm:Mod G w w')(hn:∀i,F i->¬G i):WF F w' o t aj limit T ch:=h.same λi hi=>hm.same i (h.lt hi) (hn i hi)
def WF.dR{F:Nat->Prop}{w:World}{o t:Nat}{aj limit:Int}{T:Tb}{ch:List Cg}(h:WF F w o t aj limit T ch){j:Nat}{cs:LV}{τ:TypeId}(hr:Row w j cs τ)(hτ:Pe τ)(hw:τ≠Bu)(hc:τ≠mU):¬F j:=by
 obtain⟨F1,sc,h1,h2,h3,rfl⟩:=h;rintro(hi|rfl|hi)
 ·exact h1.dR hr hτ hi
 ·exact hr.ne h2 hw rfl
 ·obtain⟨cs',hr'⟩:=aT h3 au hi;exact hr.ne hr' hc rfl
def WF.len{F:Nat->Prop}{w:World}{o t:Nat}{aj limit:Int}{T:Tb}{ch:List Cg}(h:WF F w o t aj limit T ch):(T.2.length:Int)<=limit/\1<=limit/\limit<=16:=by obtain⟨F1,sc,h1,h2,h3,rfl⟩:=h;exact h1.len
def WF.afc{F:Nat->Prop}{w:World}{o t:Nat}{aj limit:Int}{T:Tb}{ch:List Cg}(h:WF F w o t aj limit T ch):o0 T.2:=by obtain⟨F1,sc,h1,h2,h3,rfl⟩:=h;exact h1.afc
abbrev Pf(F:Nat->Prop)(w:World)(o t:Nat)(aj limit:Int)(T:Tb)(ch:List Cg)(w':World):Prop:=∃F',WF F' w' o t aj limit T ch/\aJ F F' w w'
def WF.table{F:Nat->Prop}{w:World}{o t:Nat}{aj limit:Int}{T:Tb}{ch:List Cg}(h:WF F w o t aj limit T ch):∃F1,TF F1 w t aj limit T/\(∀i,F1 i->F i)/\∀{w':World}{T':Tb},Fy F1 w t aj limit T' w'->Pf F w o t aj limit T' ch w':=by
 obtain⟨F1,sc,h1,h2,h3,rfl⟩:=h;refine⟨F1,h1,λi hi=>.inl hi,?_⟩;rintro w' T' ⟨F',h',ht⟩;have n2:=h1.dR h2 au;have n3:∀b,sc.aX=some b->¬F1 b:=λb hb=>by obtain⟨cs',hr'⟩:=aT h3 au hb;exact h1.dR hr' au
 refine⟨_,⟨F',sc,h',ht.mod.row h2 n2,ht.mod.gR h3 n3,rfl⟩,ht.mod.mono λi _ hi=>.inl hi,λi hi=>?_⟩;rcases hi with hi|hi|hi
 ·exact(ht.sub i hi).imp .inl id
 ·exact .inl (.inr (.inl hi))
 ·exact .inl (.inr (.inr hi))
def YL(aj limit room:Int)(w:World):ab 115 #[aj,limit,room] w λe w'=>∃o t F,e=Value.pointer (aB o)/\WF F w' o t aj (min (max limit 1) 16) (T9 room,[]) []/\Ext w w'/\∀i,F i->w.heap.size<=i:=by
 apply YN.vc;refine(Ua aj limit room w).mono ?_;rintro e w0 ⟨t,F1,rfl,h0,x0,f0⟩;refine⟨_,rfl,λw2 e2=>⟨w0.heap.size,t,_,rfl,⟨F1,⟨none,0,0⟩,h0.ext (aU e2),?_,ar.nil,rfl⟩,x0.aZ e2,λi hi=>?_⟩⟩
 ·rw[e2];exact Row.new w0 [_,_] _
 ·rcases hi with hi|hi|hi
  ·exact f0 i hi
  ·have:=x0.size;omega
  ·cases hi
def gx{F:Nat->Prop}{w:World}{o t:Nat}{aj limit:Int}{T:Tb}{ch:List Cg}(h:WF F w o t aj limit T ch):kh 40 #[o] w (Value.pointer (aB t)):=by obtain⟨F1,sc,h1,h2,h3,rfl⟩:=h;apply zc.vc;exact⟨_,h2.at 0 rfl,rfl,rfl⟩
def lZ{F:Nat->Prop}{w:World}{o t:Nat}{aj limit:Int}{T:Tb}{ch:List Cg}(h:WF F w o t aj limit T ch):kh 58 #[o] w (Value.func (.func 113) #[t] #[]):=by obtain⟨F1,sc,h1,h2,h3,rfl⟩:=h;apply Bv.vc;exact⟨_,h2.at 0 rfl,rfl,rfl⟩
def wsC(l:List En)(ch:List Cg)(c:Ce)(b:Int):List Cg:=if(jo l c b).2=0/\jc l c≠b then ch++[(c,b)]else ch
def aqI(a b c d:Int):One [vI a,b,c,d]:=by intro v hv;simp at hv;rcases hv with rfl|rfl|rfl|rfl<;>rfl
def YO{F:Nat->Prop}{w:World}{o t:Nat}{aj limit:Int}{T:Tb}{ch:List Cg}(h:WF F w o t aj limit T ch)(c:Ce)(hc:pQ c)(b:Int)(hn:ch.length<=1000000000):
  ab 250 #[o,fQ c,vI b] w λe w'=>e=vI (jo T.2 c b).2/\Pf F w o t aj limit (T.1,(jo T.2 c b).1) (wsC T.2 ch c b) w':=by
 have hF:=λ{i}=>h.lt (i:=i)
 have hh:=h;obtain⟨F1,sc,h1,h2,h3,rfl⟩:=h;apply DC.vc;intro w0 e0;have z0:=fD e0;have x0:Ext w w0.drew:=(aU e0).drew;have zd:=nV w0;refine⟨_,(h2.ext x0).at 0 rfl,(Bw (h1.ext x0) c hc).bf λw2 x2=>?_⟩;have z2:=x2.size;have yz:=(x0.tr x2).drew;have zd2:=nV w2;refine⟨_,rfl,x2.k,_,(h2.ext yz).at 0 rfl,(Ub (h1.ext yz) c hc b).bf λw5 hT=>?_⟩;obtain⟨F',hF',ht'⟩:=hT;have z5:=ht'.mod.size;have n2:=(h1.ext yz).dR (h2.ext yz) au;have n3:∀b,sc.aX=some b->¬F1 b:=λb hb=>by obtain⟨cs',hr'⟩:=aT (h3.ext yz) au hb;exact(h1.ext yz).dR hr' au
 have V9:=ht'.mod.row (h2.ext yz) n2;have h3':ar 0 mU 4 w5 sc (ch.map cgv):=ht'.mod.gR (h3.ext yz) n3;have nb:¬F1 w:=λhf=>by have:=hF (.inl hf);omega
 have tt:aJ (λi=>F1 i\/i=o\/sc.aX=some i) (λi=>F' i\/i=o\/sc.aX=some i) w w5:=by
  refine(aJ.aq yz).trans ⟨ht'.mod.mono λi _ hi=>.inl hi,λi hi=>?_⟩;rcases hi with hi|hi|hi
  ·exact(ht'.sub i hi).imp .inl id
  ·exact .inl (.inr (.inl hi))
  ·exact .inl (.inr (.inr hi))
 refine⟨_,rfl,ht'.mod.same _ aa nb,Br.mk (λhb=>Br.mk (λlk=>?_) (λlk=>?_)) (λhb=>?_)⟩
 ·simp only[beq_iff_eq]at hb;simp only[bne_iff_ne]at lk;have ec:wsC T.2 ch c b=ch++[(c,b)]:=by unfold wsC;rw[if_pos ⟨hb,lk⟩]
  rw[ec];have h2d:=V9.ext (Ext.dr w5);have tE:sc.n=ch.length:=by have:=(h3.rd (show 0<4 by decide)).n;rwa[aK]at this
  refine⟨sc,h2d.at 1 rfl,λw8 e8=>?_⟩;subst e8;obtain⟨hp,bq⟩:=(h3'.ext (Ext.dr w5)).l6 (bytes:=32) (news:=cgv (c,b)) (.cells #[c.1,c.2.1,c.2.2,vI b] mU) (eG _) rfl (aqI _ _ _ _) aa aa;refine⟨hp,λs9 br hr=>?_⟩;obtain⟨f1,arv,aE3,xb,awQ,iK⟩:=bq s9 br hr;have zd5:=nV w5;have hol:=h2.lt;have awR:∀b,sc.aX=some b->b<w.heap.size:=λb hb=>(h3.own.lt hb).2
  have m10:Mod (λj=>sc.aX=some j) w5 br:=(Mod.aq (Ext.dr w5)).trans (Mod.xq xb awQ);have no:¬sc.aX=some o:=λe=>by obtain⟨cs',hr'⟩:=aT h3 au e;exact hr'.ne h2 au rfl
  have arw:=m10.row V9 no;obtain⟨p1,p2⟩:=arw.ft (j:=1) (v:=.slice s9.a s9.n s9.c) bo rfl;have z10:=m10.size;have pb:∀j:Nat,o<j->bM (ae (aB o) 1)≠some j:=λj hj e=>by
   rw[cB]at e;have:o=j:=by simpa[bM]using e
   omega
  refine⟨(m10.same w aa (λe=>by have:=awR _ e;omega)).trans ((Ext.al w5.drew _).heap (show w.heap.size<w5 by omega)).symm,f1,⟨rfl,p1⟩,pb _ aa,pb _ (show o<w5 by omega),λbE A8=>⟨rfl,?_⟩⟩;obtain⟨q1,q2⟩:=p2 bE A8;have ho9:∀b,s9.aX=some b->b≠o:=λb hb=>by obtain⟨cs',hr'⟩:=aT arv au hb;exact hr'.ne arw au
  have m11:Mod (λj=>j=o\/sc.aX=some j) w5 bE:=(m10.mono λi _ hi=>.inr hi).trans (q2.mono λi _ hi=>.inl hi);have awS:TF F' bE t aj limit (T.1,(jo T.2 c b).1):=hF'.aV m11 λi hi e=>by
   rcases e with e|e
   ·exact hF'.dR V9 au (e▸hi)
   ·obtain⟨cs',hr'⟩:=aT h3' au e;exact hF'.dR hr' au hi
  refine⟨_,⟨F',s9,awS,q1,?_,rfl⟩,tt.trans ⟨m11.mono λi _ hi=>.inr hi,λi hi=>?_⟩⟩
  ·rw[cl];exact q2.gR arv ho9
  ·rcases hi with hi|hi|hi
   ·exact .inl (.inl hi)
   ·exact .inl (.inr (.inl hi))
   ·rcases iK with e|e
    ·exact .inl (.inr (.inr (by rw[<-e];exact hi)))
    ·rw[e]at hi;cases hi;exact .inr (show w5.heap.size<=w5.heap.size+1 by omega)
 ·simp only[bne_eq_false_iff_eq]at lk;have ec:wsC T.2 ch c b=ch:=by unfold wsC;rw[if_neg λh=>h.2 lk]
  rw[ec];exact⟨rfl,_,⟨F',sc,hF',V9,h3',rfl⟩,tt⟩
 ·simp only[beq_eq_false_iff_ne]at hb;have ec:wsC T.2 ch c b=ch:=by unfold wsC;rw[if_neg λh=>hb h.1]
  rw[ec];exact⟨rfl,_,⟨F',sc,hF',V9,h3',rfl⟩,tt⟩
def ahL(l:List En)(ch:List Cg)(c:Ce)(b:Int):(wsC l ch c b).length<=ch.length+1:=by
 unfold wsC;split
 ·simp
 ·omega
def vV(l:List En)(x z:Int):Nat->Int
 |0=> -1
 |y+1=>if jc l (x,((y:Nat):Int),z)= -1 then -2 else if jc l (x,((y:Nat):Int),z)=0 then vV l x z y else y
abbrev rQ(q:Po):LV:=[vI q.1,vI q.2]
def rO(p:Po):List Po:=[p,(p.1-1,p.2),(p.1+1,p.2),(p.1,p.2-1),(p.1,p.2+1)]
def Lq(p:Po)(hp:YP p)(w:World):ed 196 #[pv p] w (Value.agg #[p.1,p.2,vI (p.1-1),p.2,vI (p.1+1),p.2,p.1,vI (p.2-1),p.1,vI (p.2+1)]):=by
 apply Pg.vc;obtain⟨⟨p1,p2⟩,p3,p4⟩:=hp;have q1:aC (p.1-1)=p.1-1:=wI;have q2:aC (p.1+1)=p.1+1:=wI;have q3:aC (p.2-1)=p.2-1:=wI;have q4:aC (p.2+1)=p.2+1:=wI;rw[q1,q2,q3,q4];intro w0 e0 w1 e1;have z0:=fD e0;have x1:Ext w w1:=(aU e0).aZ e1;have hr:Row w1 w0 [ai,ai,ai,ai,ai,ai,ai,ai,ai,ai] 247:=Row.nw e1;refine⟨⟨rfl,hr.wr bo⟩,λe=>by
  have:w0.heap.size=w.heap.size:=by simpa[bM]using e
  omega,λw2 e2=>?_⟩
 have h1:One [vI p.1,p.2,vI (p.1-1),p.2,vI (p.1+1),p.2,p.1,vI (p.2-1),p.1,vI (p.2+1)]:=by intro v hv;simp only[cu,iT,or_false]at hv;rcases hv with rfl|rfl|rfl|rfl|rfl|rfl|rfl|rfl|rfl|rfl<;>rfl
 rw[hr.bB bo h1]at e2;have jT:Row w2 w0 [p.1,p.2,vI (p.1-1),p.2,vI (p.1+1),p.2,p.1,vI (p.2-1),p.1,vI (p.2+1)] 247:=hr.st e2;exact⟨_,_,_,_,_,_,_,_,_,_,jT.bH (λj hj=>by rw[eF]),rfl,x1.af e2 aa⟩
def ID(s:Sl)(ps:List Po)(p:Po)(w:World)(hs:RdK w s 2 (ps.map rQ))(hn:ps.length<=1000):
  ab 256 #[s,pv p] w λe w'=>(∃r:Int,e=r/\(0<=r↔p∈ps))/\Ext w w':=by
 apply By.vc;have tE:=hs.n;rw[aK]at tE;intro w0 e0;have x0:=aU e0;refine⟨λn x w'=>∃j:Nat,x=j/\j+n=ps.length/\Ext w w'/\p∉ps.take j,⟨ps.length,rfl,0,rfl,aa,x0,bo⟩,?_⟩;rintro n us x w5 ⟨j,rfl,hj,x5,hnp⟩;apply Br.mk<;>intro hb
 ·replace hb:=lM hb;obtain⟨y,hy⟩:=bX (l:=ps) (i:=j) aa;have gF:=hs.ext (x5.tr (Ext.dr _));refine⟨hs.jX (i:=(j:Int)) au aa hb,y.1,y.2,gF.bH (i:=j) (r:=rQ y) (by rw[aW,hy];rfl),Br.mk (λh1=>?_) (λh1=>?_)⟩
  ·simp only[fF,beq_iff_eq]at h1;have:p=y:=Prod.ext h1.1 h1.2;exact⟨⟨_,rfl,λ_=>by rw[this];exact aQ hy,λ_=>by omega⟩,x5.tr (Ext.dr _)⟩
  ·have wk:=nE (j:=j);refine⟨n-1,aa,rfl,j+1,wk,aa,x5.tr (Ext.dr _),?_⟩;rw[dq,hy];intro hm;rcases dp.1 hm with hm|hm
   ·exact hnp hm
   ·simp only[Option.toList_some,ig]at hm;subst hm;simp at h1
 ·replace hb:=lW hb;rw[dN aa]at hnp;exact⟨⟨-1,rfl,λh=>by omega,λh=>absurd h hnp⟩,x5⟩
def Bz(s:Sl)(ps:List Po)(p:Po)(w:World)(hs:RdK w s 2 (ps.map rQ))(hn:ps.length<=1000):
  ed 197 #[s,pv p] w (Value.bool (decide (p∈ps))):=by
 apply vW.vc;intro w0 e0;have z0:=fD e0;have x0:=aU e0;refine(ID s ps p w0 (hs.ext x0) hn).mono ?_;rintro e w1 ⟨⟨r,rfl,hr⟩,x1⟩;refine⟨r,rfl,x1.k,?_,x0.tr x1⟩;have:decide (r>=0)=decide (p∈ps):=by rw[decide_eq_decide];exact hr
 rw[this]
def ahM{c:Ce}(hc: -1000000000<=c.1/\c.1<=1000000000)(hz: -1000000000<=c.2.2/\c.2.2<=1000000000):YP (pos c):=by unfold YP pos;simp only;omega
def Fz(l:List En)(c:Ce):Bool:=(rO (pos c)).all λq=>decide (q∈l.map (·.1))
def CT{F:Nat->Prop}{w:World}{o t:Nat}{aj limit:Int}{T:Tb}{ch:List Cg}(h:WF F w o t aj limit T ch)(c:Ce)(hc:pQ c)(hp:YP (pos c)):
  ed 137 #[o,fQ c] w (Value.bool (Fz T.2 c)):=by
 obtain⟨F1,sc,hT,hR,hO,rfl⟩:=h;apply ze.vc;have cX:=hT.len;intro w1 e1;have z1:=fD e1;have x1:=aU e1;refine⟨_,(hR.ext x1).at 0 rfl,(uu (hT.ext x1)).mono ?_⟩;rintro e w2 ⟨s',rfl,ho,x2⟩;have z2:=x2.size;have gF:RdK w2 s' 2 ((T.2.map (·.1)).map rQ):=by rw[pR];exact ho.rd (show 0<2 by decide)
 refine⟨s',rfl,x2.k,(pS c hc w2).bf λw4 x4=>?_⟩;have z4:=x4.size;refine⟨_,_,rfl,x4.k,(Lq (pos c) hp w4).bf λw7 x7=>?_⟩;have z7:=x7.size;have dO:=x1.tr (x2.tr (x4.tr x7));unfold Fz;generalize pos c=p at*;have S7:(T.2.map (·.1)).length<=1000:=by rw[aK];omega
 generalize T.2.map (·.1)=ps at*;refine⟨_,_,_,_,_,_,_,_,_,_,rfl,x7.k,λn x w'=>∃j:Nat,x=j/\j+n=5/\Ext w7 w'/\∀q∈(rO p).take j,q∈ps,⟨5,rfl,0,rfl,rfl,Ext.bT _,bo⟩,?_⟩;rintro n us x dL ⟨j,rfl,hj,gG,wo⟩;have z25:=gG.size;apply Br.mk<;>intro hb
 ·replace hb:=lM hb;have hex:∃q:Po,(([p.1,p.2,vI (p.1-1),p.2,vI (p.1+1),p.2,p.1,vI (p.2-1),p.1,vI (p.2+1)]:LV).drop (((j:Nat):Int).toNat*2)).take 2=[vI q.1,vI q.2]/\(rO p)[j]? =some q:=by
   have:j=0\/j=1\/j=2\/j=3\/j=4:=by omega
   rcases this with rfl|rfl|rfl|rfl|rfl
   ·exact⟨p,rfl,rfl⟩
   ·exact⟨(p.1-1,p.2),rfl,rfl⟩
   ·exact⟨(p.1+1,p.2),rfl,rfl⟩
   ·exact⟨(p.1,p.2-1),rfl,rfl⟩
   ·exact⟨(p.1,p.2+1),rfl,rfl⟩
  obtain⟨q,hq1,hq2⟩:=hex;refine⟨⟨aa,aa⟩,q.1,q.2,hq1,λgI S8 pw e30=>?_⟩;have tF:Ext dL pw:=(aU S8).af e30 (ak _);have z30:pw.heap.size=dL.heap.size+1:=by rw[e30,setRow_size,S8];simp
  have xx:Ext w2 pw:=x4.tr (x7.tr (gG.tr tF));refine(Bz s' ps q pw (gF.ext xx) S7).bf λia oO=>?_
  have wk:=nE (j:=j);refine⟨_,rfl,oO.k,oO.k,Br.mk (λh1=>?_) (λh1=>?_)⟩
  ·refine⟨?_,dO.tr ((gG.tr tF).tr oO)⟩;have hnq:q∉ps:=by simpa using h1
   have:((rO p).all λq=>decide (q∈ps))=false:=by rw[List.all_eq_false];exact⟨q,aQ hq2,by simpa using hnq⟩
   rw[this]
  ·have hyq:q∈ps:=by simpa using h1
   refine⟨n-1,aa,rfl,j+1,wk,aa,(gG.tr tF).tr oO,?_⟩;rw[dq,hq2];intro y hy;rcases dp.1 hy with hy|hy
   ·exact wo y hy
   ·simp only[Option.toList_some,ig]at hy;subst hy;exact hyq
 ·replace hb:=lW hb;refine⟨?_,dO.tr gG⟩;rw[dN (show(rO p).length<=j by unfold rO;simp;omega)]at wo;have:((rO p).all λq=>decide (q∈ps))=true:=by rw[JK];exactλq hq=>by simpa using wo q hq
  rw[this]
def WU(l:List En)(x z:Int):∀n:Nat,-2<=vV l x z n/\vV l x z n<n
 |0=>by unfold vV;omega
 |n+1=>by
  have:=WU l x z n
  unfold vV
  split
  ·omega
  ·split
   ·omega
   ·omega
def Tl(v:Value)(V:Ce->Int)(w:World):Prop:=∃D:Nat->Prop,(∀i,D i->i<w.heap.size)/\∀w',(∀i,D i->w'.heap[i]? =w.heap[i]?)->∀c,pQ c->bu Tryz.prog v [fQ c] w' λe w''=>e=vI (V c)/\Ext w' w''
def Tl.ext{v:Value}{V:Ce->Int}{w w':World}(h:Tl v V w)(x:Ext w w'):Tl v V w':=by obtain⟨D,h1,h2⟩:=h;exact⟨D,λi hi=>gK (h1 i hi) x.size,λw'' hk=>h2 w'' λi hi=>(hk i hi).trans (x.heap (h1 i hi))⟩
def Tl.at{v:Value}{V:Ce->Int}{w:World}(h:Tl v V w){c:Ce}(hc:pQ c):bu Tryz.prog v [fQ c] w λe w'=>e=vI (V c)/\Ext w w':=by obtain⟨D,h1,h2⟩:=h;exact h2 w (λ_ _=>rfl) c hc
def dY{v:Value}{l:LV}{w:World}{R R':eWp}(h:bu Tryz.prog v l w R)(k:∀e w',R e w'->R' e w'):bu Tryz.prog v l w R':=bJ h k
abbrev mW(x:Go.ej.Cg):LV:=[vI x.1.1,vI x.1.2.1,vI x.1.2.2,vI x.2]
def afo{E k n:Nat}{w w':World}{s s':Sl}{news:LV}(h:aY E k w s n news s' w')(hc:s.c<s.n+n):Ext w w':=by
 cases h with
 |fits hf=>omega
 |grows=>exact(Ext.dr w).tr (Ext.al _ _)
def U7{v:Value}{V:Ce->Int}{w:World}(hV:Tl v V w)(c:Ce)(hc:fh c):
  ab 308 #[v,fQ c] w λe w'=>∃s:Sl,e=s/\ar w rV 3 w' s ((sG V c).map eV)/\Ext w w':=by
 apply UK.vc
 intro w0 e0
 have x0:=aU e0
 have z0:=fD e0
 refine(jt c hc w0).mono ?_
 rintro e w1 ⟨rfl,x1⟩
 have z1:=x1.size
 refine⟨_,_,_,_,_,_,_,_,_,_,_,_,_,_,_,_,_,_,rfl,x1.heap aa,λeQ wx=>?_⟩
 have fe:=aU wx
 have z20:=fD wx
 have hr:Row eQ w1 [ai,ai,ai,ai,ai,ai,ai,ai,ai,ai,ai,ai,ai,ai,ai,ai,ai,ai] 266:=Row.nw wx
 refine⟨⟨rfl,hr.wr bo⟩,λe=>by
  have:w1.heap.size=w.heap.size:=by simpa[bM]using e
  omega,λdi vq dh Dy=>?_⟩
 have vq:di=bB eQ (aB w1.heap.size) (TN c):=vq
 rw[hr.bB (vs:=TN c) bo (VU c),dC bo]at vq
 have jT:Row di w1 (TN c) 266:=hr.st vq
 have fk:Ext w di:=(x0.tr (x1.tr fe)).af vq aa
 have z21:=Fb vq
 have xd:=Ext.dr di
 have zd:=nV di
 have fX:=aU Dy
 have z22:=fD Dy
 have aA8:Row dh di.drew.heap.size (eV c) rV:=Row.nw Dy
 have aA9:=fk.tr (xd.tr fX)
 have aBa:=jT.ext (xd.tr fX)
 have ho:ar w rV 3 dh ⟨aB di.drew.heap.size,1,1⟩ [eV c]:=ar.jO aa aA8 bo (ak _) rfl bo
 have ha:=ho.FB (bytes:=24) (more:=(rZ c).map eV) aa (λr hr=>by obtain⟨y,-,rfl⟩:=bc.1 hr;rfl) (λr hr=>by obtain⟨y,-,rfl⟩:=bc.1 hr;exact HM y) (by simp[rZ]) (by simp[rZ])
 obtain⟨hp,bq⟩:=ha
 refine⟨((rZ c).map eV).flatten,?_,hp,λyU dL aj0=>?_⟩
 ·rw[dt]
  intro i u hu
  exact aBa.at i (by rw[afk];exact hu)
 obtain⟨TH,aBb,-,-,-⟩:=bq yU dL aj0
 have gG:Ext dh dL:=afo aj0 (show(1:Nat)<1+(6-0)by decide)
 have z25:=gG.size
 have auh:Ext w dL:=aA9.tr gG
 have TH:ar w rV 3 dL yU ((c::rZ c).map eV):=TH
 have gF:=TH.rd (show 0<3 by decide)
 have aII:yU.n=7:=gF.n
 refine⟨gG.heap aa,gG.heap aa,λn x EE ia=>∃j:Nat,x=j/\j+n=7/\ar dL rV 3 ia EE ((((c::rZ c).take j).filter λn=>decide (0<jS (V n))).map eV)/\Ext dL ia,⟨7,rfl,rfl,0,rfl,rfl,ar.nil,Ext.bT _⟩,?_⟩
 rintro n us x EE ia ⟨j,rfl,hj,ag9,oO⟩
 have z31:=oO.size
 apply Br.mk<;>intro hb
 ·replace hb:=lM hb
  obtain⟨y,hy⟩:=bX (l:=c::rZ c) (i:=j) (by have:(c::rZ c).length=7:=rfl;omega)
  have Jr:y∈c::rZ c:=aQ hy
  have oky:pQ y:=by
   rcases cu.1 Jr with rfl|h
   ·exact hc.ok
   ·exact FR hc h
  have hy':((c::rZ c).map eV)[j]? =some (eV y):=by rw[aW,hy];rfl
  have xk:(c::rZ c).take (j+1)=(c::rZ c).take j++[y]:=by rw[dq,hy];rfl
  refine⟨gF.jX (i:=(j:Int)) au aa hb,_,_,_,(gF.ext oO).bH hy',λmG e36 jD e37=>?_⟩
  have mO:Ext ia jD:=(aU e36).af e37 (ak _)
  have z37:=yL e36 e37
  refine dY ((hV.ext (auh.tr (oO.tr mO))).at oky) ?_
  rintro e tH ⟨rfl,nC⟩
  have z38:=nC.size
  refine⟨_,rfl,nC.heap aa,nC.heap aa,nC.heap aa,(GU (V y) tH).mono ?_⟩
  rintro e nT ⟨rfl,rfl⟩
  have wk:=nE (j:=j)
  refine⟨_,rfl,rfl,rfl,rfl,?_⟩
  have aui:=ag9.ext (mO.tr nC)
  apply Br.mk<;>intro hd
  ·intro nS e42
   subst e42
   have aIJ:EE.n<=7:=by
    have h1:=(ag9.rd (show 0<3 by decide)).n
    have h2:=zy (λn=>decide (0<jS (V n))) ((c::rZ c).take j)
    rw[aK]at h1
    rw[cS]at h2
    omega
   obtain⟨Te,hres8⟩:=aui.l6 (bytes:=24) (news:=eV y) (.cells #[y.1,y.2.1,y.2.2] rV) aa rfl (HM y) aa aa
   refine⟨Te,λs43 kf aha=>?_⟩
   obtain⟨f8,KZ,hn8,x8,hk8,-⟩:=hres8 s43 kf aha
   have xa:=Ext.al nT (.cells #[y.1,y.2.1,y.2.2] rV)
   have anA:∀b,EE.aX=some b->dL.heap.size<=b/\b<ia.heap.size:=λb hb=>ag9.own.lt hb
   have kp:∀j,(j<dL.heap.size\/ia.heap.size<=j)->j<nT.heap.size->kf.heap[j]? =(nT.alloc (.cells #[y.1,y.2.1,y.2.2] rV)).heap[j]? :=λj hj hj2=>by
    rw[hk8 j (λhb=>by have:=anA j hb;omega) hj2,xa.heap hj2]
   refine⟨kp _ (.inl aa) aa,kp _ (.inl aa) aa,kp _ (.inr aa) aa,f8,n-1,by omega,rfl,rfl,j+1,wk,by omega,?_,(Below.trans (oO.tr (mO.tr nC)) x8:Below dL dL kf)⟩
   rw[xk,wG,cl,W6 (by simpa using hd)]
   exact KZ
  ·refine⟨n-1,by omega,rfl,rfl,j+1,wk,by omega,?_,oO.tr (mO.tr nC)⟩
   rw[xk,wG,cl,W7 (by simpa using hd)]
   simpa using aui
 ·replace hb:=lW hb
  have hj7:(c::rZ c).take j=c::rZ c:=dN (by have:(c::rZ c).length=7:=rfl;omega)
  rw[hj7]at ag9
  exact⟨EE,rfl,ag9.low aa,auh.tr oO⟩
def Uo(c:Ce):((TN c).drop ((2:Int).toNat*3)).take 3=eV (fy c):=rfl
def Y2{v:Value}{V:Ce->Int}{w:World}(hV:Tl v V w)(c:Ce)(hc:fh c):
  ab 276 #[v,fQ c] w λe w'=>∃s:Sl,e=s/\ar w mU 4 w' s ((Sq V c).map mW)/\Ext w w':=by
 apply Zj.vc;intro w0 e0;have x0:=aU e0;have z0:=fD e0;refine(jt c hc w0).mono ?_;rintro e w1 ⟨rfl,x1⟩;have z1:=x1.size;have okl:pQ (fy c):=FR hc (by simp[rZ]);refine⟨_,_,_,_,_,_,_,_,_,_,_,_,_,_,_,_,_,_,rfl,x1.heap aa,by decide,_,_,_,Uo c,λjE e23 ie Jq=>?_⟩;have jn:Ext w1 ie:=(aU e23).af Jq (ak _);have z24:=yL e23 Jq;have apJ:=x0.tr (x1.tr jn);refine dY ((hV.ext apJ).at okl) ?_;rintro e dL ⟨rfl,gG⟩;have z25:=gG.size;refine⟨_,rfl,gG.heap aa,gG.heap aa,(Du (V (fy c)) dL).mono ?_⟩;rintro e gO ⟨rfl,rfl⟩;unfold Sq;refine⟨_,rfl,rfl,rfl,Br.mk (λh=>?_) (λh=>λgI S8=>?_)⟩
 ·rw[if_neg (by simpa using h)];exact⟨⟨none,0,0⟩,rfl,ar.nil,apJ.tr gG⟩
 ·rw[if_pos (by simpa using h)];have hr:Row gI gO (([(c,V (fy c)),(fy c,3)]:List Go.ej.Cg).map mW).flatten mU:=Row.nw S8;exact⟨⟨aB gO.heap.size,2,2⟩,rfl,ar.jO aa hr (ak _) (ak _) rfl (by intro r hr;simp at hr;rcases hr with rfl|rfl<;>rfl),(apJ.tr gG).aZ S8⟩
section
variable{N F F':Nat->Prop}{w w' v v':World}{s1 s2 s3 s4:Sl}{T T':Tb}{ch ch':List Cg}{aj cap limit:Int}{o t a b m n k:Nat}
def Q1(h:WF F w o t aj limit T ch)(hW:T.1.l.length<=1000000)(p:Po):
  ab 88 #[t,pv p] w λe w'=>e=vI (yO aj limit T.1 T.2 p).2/\Pf F w o t aj limit (yO aj limit T.1 T.2 p).1 ch w':=by
 obtain⟨F1,hT,-,bq⟩:=h.table;refine(Q2 hT hW p).bf λw' hr=>?_
 exact⟨rfl,bq hr⟩
def Z8(h:WF F w o t aj limit T ch)(c:Ce)(hc:pQ c):
  ed 113 #[t,fQ c] w (vI (jc T.2 c)):=by
 obtain⟨F1,hT,-⟩:=h.table;exact Bw hT c hc
def WF.aq0{F:Nat->Prop}{w:World}{T:Tb}{ch:List Cg}{aj limit:Int}{o t:Nat}(h:WF F w o t aj limit T ch){w':World}(hk:∀i,F i->w'.heap[i]? =w.heap[i]?)(c:Ce)(hc:pQ c):
  bu Tryz.prog (.func (.func 113) #[t] #[]) [fQ c] w' λe w''=>e=vI (jc T.2 c)/\Ext w' w'':=
 bR (by kernel_rfl) rfl (Z8 (h.same hk) c hc)
end
def Lo.wv{w:World}{g:Nat}{cs:LV}{τ:TypeId}(h:Row w g cs τ):ah w (aB g) 0 cs:=h.bH (λj hj=>by rw[eF])
open Go.dS
abbrev IW:TypeId:=129
structure Sm where
 aj:Int
 cap:Int
 T:Tb
 ch:List Go.ej.Cg
 q:QS
 dz:Int
 now:Int
 nk:List Ce
abbrev smC(g o:Nat)(M:Sm)(occ:Value)(sd:Sl):LV:=[g,o,vI M.dz,vI M.now,occ,.slice sd.a sd.n sd.c]
def SF(F:Nat->Prop)(w:World)(s o t:Nat)(M:Sm)(occ:Value):Prop:=
 ∃g m qs Fw sd,Row w s (smC g o M occ sd) IW/\Q.tX w g m qs M.q/\yN M.q/\WF Fw w o t M.aj M.cap M.T M.ch/\ar 0 rV 3 w sd (M.nk.map eV)/\(∀i,Q.gN g m qs i->¬Fw i)/\F=λi=>i=s\/Q.gN g m qs i\/Fw i\/sd.aX=some i
section
variable{F F':Nat->Prop}{w w':World}{s o t:Nat}{M M':Sm}{occ:Value}
def SF.lt(h:SF F w s o t M occ){i:Nat}(hi:F i):i<w:=by
 obtain⟨g,m,qs,Fw,sd,h1,h2,-,h3,h4,-,rfl⟩:=h;rcases hi with rfl|hi|hi|hi
 ·exact h1.lt
 ·exact h2.lt i hi
 ·exact h3.lt hi
 ·exact(h4.own.lt hi).2
def SF.same(h:SF F w s o t M occ)(hk:∀i,F i->w'.heap[i]? =w.heap[i]?):SF F w' s o t M occ:=by obtain⟨g,m,qs,Fw,sd,h1,h2,hq,h3,h4,h5,rfl⟩:=h;obtain⟨kvs,m1,m2⟩:=h2.map;exact⟨g,m,qs,Fw,sd,h1.same (hk _ (.inl rfl)),⟨h2.row.same (hk _ (.inr (.inl (.inl rfl)))),ar.aV h2.own λb hb=>hk b (.inr (.inl (.inr (.inr hb)))),kvs,m1.same (hk _ (.inr (.inl (.inr (.inl rfl))))),m2⟩,hq,h3.same λi hi=>hk i (.inr (.inr (.inl hi))),ar.aV h4 λb hb=>hk b (.inr (.inr (.inr hb))),h5,rfl⟩
def SF.ext(h:SF F w s o t M occ)(x:Ext w w'):SF F w' s o t M occ:=h.same λ_ hi=>x.heap (h.lt hi)
def SF.dR(h:SF F w s o t M occ){j:Nat}{cs:LV}{τ:TypeId}(hr:Row w j cs τ)(h1:Pe τ)(h2:τ≠Bu)(h3:τ≠mU)(h4:τ≠IW)(h5:τ≠Q.nM)(h6:τ≠Q.cc)(hj:∀(g:Nat)(sd:Sl),Row w s (smC g o M occ sd) IW->sd.aX≠some j):¬F j:=by
 obtain⟨g,m,qs,Fw,sd,r1,r2,-,r3,r4,-,rfl⟩:=h;rintro(hi|hi|hi|hi)
 ·exact hr.ne r1 h4 hi
 ·exact r2.dR hr h5 h6 hi
 ·exact r3.dR hr h1 h2 h3 hi
 ·exact hj g sd r1 hi
def SF.pX(h:SF F w s o t M occ){j:Nat}{cs:LV}{τ:TypeId}(hr:Row w j cs τ)(h1:Pe τ)(h2:τ≠Bu)(h3:τ≠mU)(h4:τ≠IW)(h5:τ≠Q.nM)(h6:τ≠Q.cc)(h7:τ≠rV):¬F j:=by
 obtain⟨g,m,qs,Fw,sd,r1,r2,-,r3,r4,-,rfl⟩:=h;rintro(hi|hi|hi|hi)
 ·exact hr.ne r1 h4 hi
 ·exact r2.dR hr h5 h6 hi
 ·exact r3.dR hr h1 h2 h3 hi
 ·obtain⟨cs',hr'⟩:=aT r4 au hi;exact hr.ne hr' h7 rfl
abbrev ni(F:Nat->Prop)(w:World)(s o t:Nat)(M:Sm)(occ:Value)(w':World):Prop:=∃F',SF F' w' s o t M occ/\aJ F F' w w'
def SF.world(h:SF F w s o t M occ):∃Fw,WF Fw w o t M.aj M.cap M.T M.ch/\(∀i,Fw i->F i)/\∀{w':World}{T':Tb}{ch':List Go.ej.Cg},Pf Fw w o t M.aj M.cap T' ch' w'->ni F w s o t {M with T:=T',ch:=ch'} occ w':=by
 obtain⟨g,m,qs,Fw,sd,h1,h2,hq,h3,h4,h5,rfl⟩:=h;refine⟨Fw,h3,λi hi=>.inr (.inr (.inl hi)),?_⟩;rintro w' T' ch' ⟨F',h',ht⟩;have n1:=h3.dR h1 au au au;have n2:∀i,Q.gN g m qs i->¬Fw i:=h5;have n4:∀b,sd.aX=some b->¬Fw b:=λb hb=>by obtain⟨cs',hr'⟩:=aT h4 au hb;exact h3.dR hr' au au au
 refine⟨_,⟨g,m,qs,F',sd,ht.mod.row h1 n1,h2.aV ht.mod n2,hq,h',ht.mod.gR h4 n4,?_,rfl⟩,ht.mod.mono λi _ hi=>.inr (.inr (.inl hi)),λi hi=>?_⟩
 ·exactλi hi hf=>ht.apart (G:=Q.gN g m qs) (λi hi hg=>h5 i hg hi) (λi hi=>h2.lt i hi) i hf hi
 ·rcases hi with hi|hi|hi|hi
  ·exact .inl (.inl hi)
  ·exact .inl (.inr (.inl hi))
  ·exact(ht.sub i hi).imp (λh=>.inr (.inr (.inl h))) id
  ·exact .inl (.inr (.inr (.inr hi)))
def SF.queue(h:SF F w s o t M occ):∃g m qs,Q.tX w g m qs M.q/\yN M.q/\(∃sd,Row w s (smC g o M occ sd) IW)/\(∀i,Q.gN g m qs i->F i)/\∀{w':World}{qs':Sl}{q':QS},Q.tX w' g m qs' q'->yN q'->aJ (Q.gN g m qs) (Q.gN g m qs') w w'->ni F w s o t {M with q:=q'} occ w':=by
 obtain⟨g,m,qs,Fw,sd,h1,h2,hq,h3,h4,h5,rfl⟩:=h;refine⟨g,m,qs,h2,hq,⟨sd,h1⟩,λi hi=>.inr (.inl hi),?_⟩;rintro w' qs' q' h' hq' ht;have n1:=h2.dR h1 au au;have n3:∀i,Fw i->¬Q.gN g m qs i:=λi hi hf=>h5 i hf hi
 have n4:=h2.aez h4 au au au;refine⟨_,⟨g,m,qs',Fw,sd,ht.mod.row h1 n1,h',hq',h3.aV ht.mod n3,ht.mod.gR h4 n4,?_,rfl⟩,ht.mod.mono λi _ hi=>.inr (.inl hi),λi hi=>?_⟩
 ·exactλi hi hf=>ht.apart (G:=Fw) (λi hi hg=>h5 i hi hg) (λi hi=>h3.lt hi) i hi hf
 ·rcases hi with hi|hi|hi|hi
  ·exact .inl (.inl hi)
  ·exact(ht.sub i hi).imp (λh=>.inr (.inl h)) id
  ·exact .inl (.inr (.inr (.inl hi)))
  ·exact .inl (.inr (.inr (.inr hi)))
def SF.row(h:SF F w s o t M occ):∃g sd,Row w s (smC g o M occ sd) IW/\ar 0 rV 3 w sd (M.nk.map eV)/\F s/\(∀b,sd.aX=some b->F b)/\∀{w':World}{M':Sm}{occ':Value}{sd':Sl},M'.aj=M.aj->M'.cap=M.cap->M'.T=M.T->M'.ch=M.ch->M'.q=M.q->Mod (λi=>i=s\/sd.aX=some i) w w'->Row w' s (smC g o M' occ' sd') IW->ar 0 rV 3 w' sd' (M'.nk.map eV)->(∀b,sd'.aX=some b->sd.aX=some b\/w.heap.size<=b)->ni F w s o t M' occ' w':=by
 obtain⟨g,m,qs,Fw,sd,h1,h2,hq,h3,h4,h5,rfl⟩:=h;refine⟨g,sd,h1,h4,.inl rfl,λb hb=>.inr (.inr (.inr hb)),?_⟩;rintro w' M' occ' sd' e1 e2 e3 e4 e5 hm hr hd dP;have q1:=h2.dR h1 au au;have q2:=h2.aez h4 au au au;have r1:=h3.dR h1 au au au;have r2:∀b,sd.aX=some b->¬Fw b:=λb hb=>by obtain⟨cs',hr'⟩:=aT h4 au hb;exact h3.dR hr' au au au
 refine⟨_,⟨g,m,qs,Fw,sd',hr,by rw[e5];exact h2.aV hm λi hi hf=>hf.elim (λe=>q1 (e▸hi)) (λe=>q2 _ e hi),by rw[e5];exact hq,by rw[e1,e2,e3,e4];exact h3.aV hm λi hi hf=>hf.elim (λe=>r1 (e▸hi)) (λe=>r2 _ e hi),hd,h5,rfl⟩,hm.mono λi _ hi=>hi.elim .inl (λe=>.inr (.inr (.inr e))),λi hi=>?_⟩;rcases hi with hi|hi|hi|hi
 ·exact .inl (.inl hi)
 ·exact .inl (.inr (.inl hi))
 ·exact .inl (.inr (.inr (.inl hi)))
 ·exact(dP i hi).imp (λh=>.inr (.inr (.inr h))) id
end
def Qy{l:List En}(hg:o0 l)(c:Ce)(b:Int):o0 (jo l c b).1:=by
 unfold jo;split
 ·exact hg
 ·split
  ·exact hg
  ·split
   ·exact hg
   ·intro e he;rcases List.mem_append.1 he with he|he
    ·exact hg e ((GA ..).subset he)
    ·simp only[Option.mem_toList,wM]at he;obtain⟨y,hy,rfl⟩:=he;exact ajv (hg y (aQ hy)).1 (hg y (aQ hy)).2 c b
def Ay(M:Sm)(c:Ce)(b:Int):Sm:={M with T:=(M.T.1,(jo M.T.2 c b).1),ch:=wsC M.T.2 M.ch c b,q:=if(jo M.T.2 c b).2=0 then GR (jc (jo M.T.2 c b).1) M.now M.q c else M.q}
def eY(M:Sm)(x:Go.ej.Cg):Sm:=if jc M.T.2 x.1=x.2 then M else Ay M x.1 x.2
def GX(O:Ce->Bool)(M:Sm)(c:Ce):Bool:=decide (jc M.T.2 c=3)&&(!(iU (jc M.T.2) c).isEmpty&&O (fy c))
def wi(O:Ce->Bool)(M:Sm)(c:Ce):Sm:=
 if Fz M.T.2 c=false then {M with q:=(lD M.q c (M.now+1)).1}
 else if GX O M c=true then eY {M with nk:=M.nk++ [fy c]} (c,0)
 else (iU (jc M.T.2) c).foldl eY M
def qC(M:Sm):Int:=min (M.now+1) 1099511627776
def GY(M:Sm):Sm:={M with now:=qC M,q:=(Na M.q (qC M) M.dz).1}
def uO(M:Sm):List Ce:=(Na M.q (qC M) M.dz).2
def QT(O:Ce->Bool)(M:Sm):Sm:=(uO M).foldl (wi O) (GY M)
section
variable{F F':Nat->Prop}{w w':World}{s o t:Nat}{M M':Sm}{occ:Value}
def SF.tl(h:SF F w s o t M occ):Tl (.func (.func 113) #[t] #[]) (jc M.T.2) w:=by obtain⟨Fw,hW,-,-⟩:=h.world;exact⟨Fw,λi hi=>hW.lt hi,λw' hk c hc=>hW.aq0 hk c hc⟩
def aec:yN ⟨4096,0,[]⟩:=⟨au,au,List.Pairwise.nil,List.nodup_nil⟩
def QQ{Fw:Nat->Prop}{aj cap:Int}{T:Tb}{ch:List Go.ej.Cg}(h:WF Fw w o t aj cap T ch)(dz:Int):ab 114 #[o,dz] w λe w'=>∃s F,e=Value.pointer (aB s)/\SF F w' s o t ⟨aj,cap,T,ch,⟨4096,0,[]⟩,min (max dz 1) 64,0,[]⟩ (.func (.func 175) #[] #[])/\Ext w w'/\(∀i,F i->Fw i\/w.heap.size<=i):=by
 apply aib.vc;refine(Q.Au 4096 w).mono ?_;rintro e w0 ⟨g,m,rfl,hq,x0,hg,hm⟩;refine⟨_,rfl,λw2 e2=>?_⟩;have eb:(if 64<(if 1>dz then 1 else dz)then 64 else(if 1>dz then 1 else dz))=min (max dz 1) 64:=by split<;>split<;>omega
 rw[eb]at e2;have x2:=aU e2;have hr:Row w2 w0 (smC g o ⟨aj,cap,T,ch,⟨4096,0,[]⟩,min (max dz 1) 64,0,[]⟩ (.func (.func 175) #[] #[]) ⟨none,0,0⟩) IW:=Row.nw e2;refine⟨w0.heap.size,_,rfl,⟨g,m,⟨none,0,0⟩,Fw,⟨none,0,0⟩,hr,hq.ext x2,aec,h.ext (x0.tr x2),ar.nil,?_,rfl⟩,x0.tr x2,λi hi=>?_⟩
 ·rintro i (hi|hi|hi) hf
  ·have:=h.lt hf;omega
  ·have:=h.lt hf;omega
  ·cases hi
 ·have:=x0.size;rcases hi with hi|(hi|hi|hi)|hi|hi
  ·exact .inr aa
  ·exact .inr aa
  ·exact .inr aa
  ·cases hi
  ·exact .inl hi
  ·cases hi
def cZ(h:SF F w s o t M occ):kh 39 #[s] w (Value.pointer (aB o)):=by obtain⟨g,sd,h1,-⟩:=h.row;apply IS.vc;exact⟨_,h1.at 1 rfl,rfl,rfl⟩
def wT(h:SF F w s o t M occ):ab 46 #[s] w λe w'=>∃s':Sl,e=s'/\ar w Q.cc 4 w' s' (M.q.l.map fM)/\Ext w w':=by obtain⟨g,m,qs,hq,hok,⟨sd,hr⟩,-⟩:=h.queue;apply DV.vc;refine⟨_,hr.at 0 rfl,(Q.aee hq hok).mono ?_⟩;rintro e w' ⟨s',rfl,ho,x⟩;exact⟨s',rfl,s',rfl,ho,x⟩
def M5(h:SF F w s o t M occ)(f:Fn)(a b:Array Value):ab 83 #[s,.func f a b] w λe w'=>e=pz/\ni F w s o t M (.func f a b) w'/\Mod (λi=>i=s) w w':=by
 obtain⟨g,sd,hr,ho,-,-,bq⟩:=h.row;apply Gi.vc;obtain⟨p1,p2⟩:=hr.ft (j:=4) (v:=.func f a b) (by simp[smC]) rfl;refine⟨⟨rfl,p1⟩,λw0 e0=>⟨rfl,?_⟩⟩;obtain⟨q1,q2⟩:=p2 w0 e0;have hso:∀b,sd.aX=some b->b≠s:=λb hb=>by obtain⟨cs',hr'⟩:=aT ho au hb;exact hr'.ne hr au
 exact⟨bq (M':=M) rfl rfl rfl rfl rfl (q2.mono λi _ hi=>.inl hi) q1 (q2.gR ho hso) (λb hb=>.inl hb),q2⟩
def QR(b:Int):0<=jS b/\jS b<=5:=by
 unfold jS;split
 ·decide
 ·split<;>decide
def aef{V:Ce->Int}{c:Ce}(hc:fh c):∀n∈sG V c,pQ n:=λn hn=>by
 unfold sG at hn
 rcases cu.1 (jY.1 hn).1 with rfl|h
 ·exact hc.ok
 ·exact FR hc h
def Kn(V:Ce->Int)(c:Ce):(sG V c).length<=7:=zy _ _
abbrev GP(V:Ce->Int)(now:Int)(q:QS)(n:Ce):QS:=(lD q n (now+jS (V n))).1
def xX(V:Ce->Int)(now:Int):∀(l:List Ce)(q:QS),q.lost<=(l.foldl (GP V now) q).lost/\(l.foldl (GP V now) q).lost<=q.lost+l.length
 | [],q=>⟨jI _,bo⟩
 |n::l,q=>by
  have h1:=xX V now l (GP V now q n)
  have h2:=BY q n (now+jS (V n))
  have h3:(GP V now q n).lost=(lD q n (now+jS (V n))).1.lost:=rfl
  simp only[qY,cL]
  omega
def ZY(h:SF F w s o t M occ)(c:Ce)(hc:fh c)(hl:0<=M.q.lost/\M.q.lost<=900000000)(ape:0<=M.now/\M.now<=1099511627776):
  ab 251 #[s,fQ c] w λe w'=>e=pz/\ni F w s o t {M with q:=GR (jc M.T.2) M.now M.q c} occ w':=by
 apply Mw.vc;intro w0 e0;have x0:=aU e0;have z0:=fD e0;have h0:=h.ext x0;obtain⟨g,sd,hr,-,hFs,-⟩:=h0.row;obtain⟨Fw,hW,-,-⟩:=h0.world;refine⟨_,hr.at 1 rfl,(lZ hW).bf λw2 hw=>?_⟩;subst hw;refine⟨_,rfl,rfl,(U7 h0.tl c hc).mono ?_⟩;rintro e w4 ⟨s5,rfl,ho,x4⟩;have z4:=x4.size;have gF:=ho.rd (show 0<3 by decide);have hn5:=gF.n;have h4:=h0.ext x4;have hL:=Kn (jc M.T.2) c;have hok:=aef (V:=jc M.T.2) hc;unfold GR;generalize hLe:sG (jc M.T.2) c=L at*;rw[aK]at hn5;refine⟨s5,rfl,x4.k,λn x br=>∃(j:Nat)(F':Nat->Prop),x=j/\j+n=L.length/\SF F' br s o t {M with q:=(L.take j).foldl (GP (jc M.T.2) M.now) M.q} occ/\aJ F F' w4 br,⟨L.length,rfl,0,F,rfl,aa,h4,aJ.refl _ _⟩,?_⟩;rintro n us x br ⟨j,F',rfl,hj,hS,hT⟩;have z10:=hT.mod.size;have hF:∀i,F i->i<w.heap.size:=λi hi=>h.lt hi
 have hrd10:RdK br s5 3 (L.map eV):=hT.mod.rdK au gF λ_ b hb hf=>by have:=(ho.own.lt hb).1;have:=hF b hf;omega
 apply Br.mk<;>intro hb
 ·replace hb:=lM hb;obtain⟨y,hy⟩:=bX (l:=L) (i:=j) aa;have oky:=hok y (aQ hy);have hy':(L.map eV)[j]? =some (eV y):=by rw[aW,hy];rfl
  have xk:L.take (j+1)=L.take j++[y]:=by rw[dq,hy];rfl
  have hlost:=xX (jc M.T.2) M.now (L.take j) M.q;have aGR:(L.take j).length<=7:=by rw[cS];omega
  generalize hqj:(L.take j).foldl (GP (jc M.T.2) M.now) M.q=qj at*;refine⟨hrd10.jX (i:=(j:Int)) au aa hb,_,_,_,hrd10.bH hy',λc9 pC bZ CH=>?_⟩;have dw:Ext br bZ:=(aU pC).af CH (ak _);have z16:=yL pC CH;have azo:Row bZ br (eV y) rV:=by rw[CH];exact Row.set (by rw[pC];exact Row.new br [_,_,_] _) _
  have xd:=dw.tr (Ext.dr bZ);have zd:=nV bZ;have atj:=hS.ext xd;obtain⟨g',m,qs,hq,Ih,⟨sd',hr'⟩,dP,bq⟩:=atj.queue;refine⟨_,hr'.at 0 rfl,_,hr'.at 3 rfl,dY (atj.tl.at oky) ?_⟩;rintro e fm ⟨rfl,dQ⟩;have z19:=dQ.size;have aka:=hr'.ext dQ;have atl:=(azo.ext (Ext.dr bZ)).ext dQ;have hd:=QR (jc M.T.2 y);have wr:aC (M.now+jS (jc M.T.2 y))=M.now+jS (jc M.T.2 y):=wI;refine⟨_,rfl,dQ.k,dQ.k,ph (aka.at 3 rfl),Lo.wv atl,ph (aka.at 0 rfl),(GU (jc M.T.2 y) fm).bf λdi hw=>?_⟩;subst hw;refine⟨_,rfl,rfl,rfl,ph (aka.at 3 rfl),Lo.wv atl,ph (aka.at 0 rfl),?_⟩;rw[wr];refine(Q.GV (hq.ext dQ) Ih (by simp only at hlost⊢;omega) y (M.now+jS (jc M.T.2 y))).mono ?_;rintro e jE ⟨rfl,qs',hq',ht⟩;have wk:=nE (j:=j);have ht':aJ (Q.gN g' m qs) (Q.gN g' m qs') bZ.drew jE:=(aJ.aq dQ).trans ht;obtain⟨F2,hS2,Ii⟩:=bq hq' (Ih.add y _) ht';have hsF:¬Q.gN g' m qs s:=(hq).dR hr' au au;have azp:=ht'.mod.row hr' hsF;have nf:∀i,(w.heap.size<=i/\i<w4.heap.size\/br.heap.size<=i)->i<bZ.drew.heap.size->jE.heap[i]? =di.heap[i]? :=λi h1 h2=>(Ii.mod.same i h2 (λhf=>by
   rcases h1 with⟨h1,S6⟩|h1
   ·rcases hT.sub i hf with q|q
    ·have:=hF i q;omega
    ·omega
   ·have:=hS.lt hf;omega)).trans (dQ.heap h2).symm
  refine⟨_,rfl,nf _ (.inl aa) aa,nf _ (.inr aa) aa,ph (azp.at 3 rfl),n-1,aa,rfl,j+1,F2,wk,aa,?_,(hT.trans (aJ.aq xd)).trans Ii⟩;rw[xk,og,hqj];exact hS2
 ·replace hb:=lW hb;rw[dN aa]at hS;exact⟨rfl,F',hS,(aJ.aq (x0.tr x4)).trans hT⟩
end
section
variable{F F':Nat->Prop}{w w':World}{s o t:Nat}{M M':Sm}{occ:Value}
def ni.trans{F1:Nat->Prop}{w1:World}(h:aJ F F1 w w1)(k:ni F1 w1 s o t M occ w'):ni F w s o t M occ w':=by obtain⟨F2,h2,t2⟩:=k;exact⟨F2,h2,h.trans t2⟩
structure qB(M:Sm)(n:Nat):Prop where
 l:0<=M.q.lost/\M.q.lost<=n
 c:M.ch.length<=n
 now:0<=M.now/\M.now<=1099511627776
 d:M.nk.length<=n
def qB.mono{n m:Nat}(h:qB M n)(hm:n<=m):qB M m:=⟨⟨h.l.1,by have:=h.l.2;omega⟩,cV h.c hm,h.now,cV h.d hm⟩
def aeC(l:List En)(ch:List Go.ej.Cg)(c:Ce)(b:Int):(wsC l ch c b).length<=ch.length+1:=ahL l ch c b
def Vx(V:Ce->Int)(now:Int)(q:QS)(c:Ce):q.lost<=(GR V now q c).lost/\(GR V now q c).lost<=q.lost+7:=by have h1:=xX V now (sG V c) q;have h2:=Kn V c;have h3:GR V now q c=(sG V c).foldl (GP V now) q:=rfl;rw[h3];omega
def qB.edit{n:Nat}(h:qB M n)(c:Ce)(b:Int):qB (Ay M c b) (n+7):=by
 have h1:=aeC M.T.2 M.ch c b;have h2:=Vx (jc (jo M.T.2 c b).1) M.now M.q c;have h3:=h.l;have h4:=h.c;unfold Ay;have h5:=h.d;refine⟨?_,?_,h.now,by simp only;omega⟩
 ·simp only;split<;>omega
 ·simp only;omega
def qB.change{n:Nat}(h:qB M n)(x:Go.ej.Cg):qB (eY M x) (n+7):=by
 unfold eY;split
 ·exact h.mono aa
 ·exact h.edit _ _
def Dl(h:SF F w s o t M occ)(c:Ce)(b:Int)(Er:pQ c)(hc:(jo M.T.2 c b).2=0->fh c)(hk:qB M 800000000):
  ab 188 #[s,fQ c,b] w λe w'=>e=vI (jo M.T.2 c b).2/\ni F w s o t (Ay M c b) occ w':=by
 apply Mv.vc;intro w0 e0;have x0:Ext w w0.drew:=(aU e0).tr (Ext.dr w0);have z0:w0.drew.heap.size=w.heap.size+1:=by show w0.heap.size=_;rw[e0];simp
 have zd:=nV w0;have h0:=h.ext x0;obtain⟨g,sd,hr,-⟩:=h0.row;obtain⟨Fw,hW,dP,bq⟩:=h0.world;have hlc:=hk.c;have hll:=hk.l;refine⟨_,(hr.at 1 rfl),(YO hW c Er b aa).bf λw2 hw=>?_⟩;obtain⟨F2,h2,t2⟩:=bq hw;have hF:∀{i},w.heap.size<=i->i<w0.drew.heap.size->w2.heap[i]? =w0.drew.heap[i]? :=λh1 h3=>t2.mod.same _ h3 λhf=>by have:=h.lt hf;omega
 unfold Ay;refine⟨_,rfl,hF (ak _) aa,Br.mk (λhb=>?_) (λhb=>?_)⟩
 ·rw[if_pos (by simpa using hb)];refine(ZY h2 c (hc (by simpa using hb)) (by simp only;omega) hk.now).mono ?_;rintro e w4 ⟨rfl,F4,h4,t4⟩;have hz:=t2.mod.size;have hnf:¬F2 w:=λhf=>by
   rcases t2.sub _ hf with q|q
   ·have:=h.lt q;omega
   ·omega
  exact⟨rfl,t4.mod.same _ aa hnf,rfl,F4,h4,(aJ.aq x0).trans (t2.trans t4)⟩
 ·rw[if_neg (by simpa using hb)];exact⟨rfl,F2,h2,(aJ.aq x0).trans t2⟩
def Vy(h:SF F w s o t M occ)(c:Ce)(hc:fh c)(b:Int)(hk:qB M 800000000):
  ab 188 #[s,fQ c,b] w λe w'=>e=vI (jo M.T.2 c b).2/\ni F w s o t (Ay M c b) occ w':=
 Dl h c b hc.ok (λ_=>hc) hk
def qm(h:SF F w s o t M occ)(x:Go.ej.Cg)(hc:fh x.1)(hk:qB M 800000000):
  ab 223 #[s,.agg (mW x).toArray] w λe w'=>e=pz/\ni F w s o t (eY M x) occ w':=by
 apply Gj.vc;intro w0 e0;have OM:Row w0 w (mW x) mU:=Row.nw e0;have x0:Ext w w0.drew:=(aU e0).tr (Ext.dr w0);have z0:w0.drew.heap.size=w.heap.size+1:=by show w0.heap.size=_;rw[e0];simp
 have hb:=OM.ext (Ext.dr w0);have h0:=h.ext x0;obtain⟨g,sd,hr,-⟩:=h0.row;obtain⟨Fw,hW,-,-⟩:=h0.world;refine⟨_,(hr.at 1 rfl),(lZ hW).bf λw2 hw=>?_⟩;subst hw;refine⟨_,rfl,rfl,hb.bH (o:=3) (λj hj=>by
  match j,hj with
  |0,_=>rfl),hb.bH (o:=0) (λj hj=>by
  match j,hj with
  |0,_=>rfl
  |1,_=>rfl
  |2,_=>rfl),dY (h0.tl.at hc.ok) ?_⟩
 rintro e w4 ⟨rfl,x4⟩;have z4:=x4.size;have E9:=x0.tr x4;unfold eY;refine⟨_,rfl,x4.k,(hb.ext x4).bH (o:=3) (λj hj=>by
  match j,hj with
  |0,_=>rfl),Br.mk (λlk=>?_) (λlk=>?_)⟩
 ·rw[if_neg (by simpa using lk)];refine(Vy (h.ext E9) x.1 hc x.2 hk).mono ?_;rintro e w6 ⟨rfl,F6,h6,t6⟩;exact⟨_,rfl,t6.mod.same _ aa (λhf=>by have:=h.lt hf;omega),rfl,F6,h6,(aJ.aq E9).trans t6⟩
 ·rw[if_pos (by simpa using lk)];exact⟨rfl,F,h.ext E9,aJ.aq E9⟩
end
open Tryz
variable{R:eWp}{w:World}{a0 a2 aG aH aS:Int}
def PM.vc{a0:Value}(h:(λA B C=>
 Aw w B 23 λw0=>
 ab 328 #[a0,.agg B] w0 (Xf λx2 b3 w1=>Kp w w0 w1/\
 ∃J4:wPp,
 (Br C
 (Br (!b3)
 (Aw w1 #[aG,aH,aS,ai] 269 λw5=>
 R (Value.slice (aB w1) 1 1) w5)
 (Br C
 (Br (x2 !=a2)
 (ab 329 #[x2] w1.drew (Ri λx7 w6=>Kp w w1.drew w6/\
 ah w6 w 0 A/\Aw w6 #[aG,aH,aS,x7] 269 λw8=>
 R (Value.slice (aB w6) 1 1) w8))
 (aR A/\J4 w1))
 (aR A/\J4 w1)))
 (Br C
 (Br (x2 !=a2)
 (ab 329 #[x2] w1.drew (Ri λbL w9=>Kp w w1.drew w9/\
 ah w9 w 0 A/\Aw w9 #[aG,aH,aS,bL] 269 λbE=>
 R (Value.slice (aB w9) 1 1) bE))
 (aR A/\J4 w1))
 (aR A/\J4 w1)))/\
 ∀anr:Nat->Value,∀(bw:World),J4 bw->
 ab 221 #[.agg B] bw (Qd λdn dw dO dc dQ fe fk fX iB jn gG nU jl rC kz tF oO mP cp=>Kp w bw cp/\
 ((0:Int)<=2/\(2:Int)<((6:Nat):Int))/\∃(gA jW py:Int),(([dn,dw,dO,dc,dQ,fe,fk,fX,iB,jn,gG,nU,jl,rC,kz,tF,oO,mP]:LV).drop ((2:Int).toNat*3)).take 3=[vI gA,vI jW,vI py]/\
 Aw cp #[ai,ai,ai] 23 λmG=>
 Sw mG cp #[gA,jW,py] λjD=>
 ∃J38:wPp,
 (bu Tryz.prog a0 [.agg #[gA,jW,py]] jD (Ri λrE lG=>K2 w cp jD lG (
 Br (rE==0)
 (ab 329 #[(1:Int)] lG.drew (Ri λyT kO=>K2 w cp lG.drew kO (
 ah kO (aB cp) 0 [gA,jW,py]/\Aw kO #[gA,jW,py,yT] 269 λiO=>
 R (Value.slice (aB kO) 1 1) iO)))
 (ab 262 #[rE] lG (Rb λb45 kf=>(λAa=>K2 w cp lG kf (
 Br b45
 Aa
 (Br (a2>=7)
 Aa
 (aR A/\aR [gA,jW,py]/\J38 kf)))) (R (Value.slice none 0 0) kf))))))/\
 ∀aub:Nat->Value,∀(oE:World),J38 oE->
 ab 330 #[.agg B] oE (Rs λs49 lI=>K2 w cp oE lI (
 pf (λI50 n51=>aR A/\aR [gA,jW,py]/\I50 n51 (0) ⟨none,0,0⟩ lI) λI50 n51 ayl lU We yS=>
 Br (decide (lU<((s49.n:Nat):Int)))
 (gD s49.a lU s49.n/\gU yS (ae s49.a ((lU:Int).toNat*3)) λH8 Fa Iv=>
 Aw yS #[ai,ai,ai] 23 λlV=>
 Sw lV yS #[H8,Fa,Iv] λvr=>
 bu Tryz.prog a0 [.agg #[H8,Fa,Iv]] vr (Ri λBo jU=>K3 w cp yS vr jU (
 Br (Bo==0)
 (ab 329 #[(aC (a2+1))] jU.drew (Ri λBe H4=>K3 w cp yS jU.drew H4 (
 ah H4 yS 0 [H8,Fa,Iv]/\Aw H4 #[H8,Fa,Iv,Be] 269 λvR=>
 bj 32 4 vR We 1 [H8,Fa,Iv,Be]/\∀(s67:Sl)(E8:World),aY 269 4 vR We 1 [H8,Fa,Iv,Be] s67 E8->K4 w cp yS H4 vR E8 (
 ∃n56,n56<n51/\aR A/\aR [gA,jW,py]/\I50 n56 ((aC (lU+1))) s67 E8))))
 (∃n56,n56<n51/\aR A/\aR [gA,jW,py]/\I50 n56 ((aC (lU+1))) We jU))))
 (R We yS)))))) [aG,aH,aS] #[aG,aH,aS] (a2>0)):ab 277 #[a0,.agg #[aG,aH,aS],a2] w R:=
 cq ⟨[(14,⟨[(66,.int .i64),(11,.slice)],[],[]⟩)],[(12,⟨[],[],[]⟩),(6,⟨[],[],[]⟩)],[]⟩ func277 h
def ajt{E k m n c:Nat}{w w':World}{a:Option Addr}{s':Sl}{xs news:LV}{rows:List (LV)}(h:aY E k w ⟨a,m,c⟩ n news s' w')(hc:c<m+n)(hx:xs.length=m*k)(gF:Rd w a xs)(de:xs++news=rows.flatten)(hw:∀r∈rows,r.length=k)(hl:news.length=n*k):ar w E k w' s' rows/\Ext w w':=by
 cases h with
 |fits hf=>simp only at hf;omega
 |grows hg fP rest cap e1 e2 e3 e4=>
  have ho:fP=xs:=by
   apply jF;intro i;rcases iR i xs.length with hi|hi
   ·have h1:=gF i xs[i] (cK hi);have hi':i<fP.length:=by simp only at e1;omega
    have h2:=e2 i fP[i] (cK hi');rw[h1]at h2;rw[cK hi,cK hi'];exact h2.symm
   ·rw[jZ hi,jZ (by simp only at e1;omega)]
  subst ho;have Ep:=Row.new w.drew (fP++news++rest) E;refine⟨ar.jO (ak _) Ep (Nat.le_of_eq e4.symm) e3 ?_ hw,(Ext.dr w).tr (Ext.al _ _)⟩;rw[<-de];have cX:(fP++news).length=(m+n)*k:=by rw[cj,hx,hl,pP]
  rw[AO (by simp only;omega),dN (by simp only;omega)]
def FT(b:Int)(w:World):kh 278 #[b] w (vI (il b)):=by
 apply Qk.vc;refine(oZ b w).eL ?_;unfold il;refine⟨_,rfl,Br.mk (λh=>?_) (λh=>?_)⟩
 ·have h:rW b=false:=by simpa using h
  rw[h,if_neg au];exact⟨rfl,rfl⟩
 ·have h:rW b=true:=by simpa using h
  rw[h,if_pos rfl];unfold rW at h;simp only[fF,cC]at h;rw[wI];exact⟨rfl,rfl⟩
def PN{c:Ce}(h:fh c){n:Ce}(hn:n∈cU c):pQ n/\n∈rZ c:=by
 have:n∈rZ c:=by
  unfold cU at hn;unfold rZ;simp only[cu,iT,or_false]at hn⊢;rcases hn with h|h|h|h
  ·exact .inl h
  ·exact .inr (.inl h)
  ·exact .inr (.inr (.inr (.inr (.inl h))))
  ·exact .inr (.inr (.inr (.inr (.inr h))))
 exact⟨FR h this,this⟩
def Yh{w:World}{g:Nat}{cs:LV}{τ:TypeId}(hr:Row w g cs τ)(o:Nat){xs:LV}(h:∀i,i<xs.length->cs[o+i]? =xs[i]?):Rd w (jM g o) xs:=λi v hv=>by
 rw[aF,hr.ld]
 have hi:=(cG.1 hv).1
 rw[h i hi];exact hv
def zw(c:Ce)(hc:fh c)(w:World):ab 330 #[fQ c] w λe w'=>∃s:Sl,e=s/\ar w rV 3 w' s ((cU c).map eV)/\Ext w w':=by
 apply Qe.vc;intro w0 e0;have x0:=aU e0;have z0:=fD e0;refine(jt c hc w0).bf λw1 x1=>?_
 have z1:=x1.size;refine⟨_,_,_,_,_,_,_,_,_,_,_,_,_,_,_,_,_,_,rfl,x1.k,λeQ wx=>?_⟩;have fe:=aU wx;have hr:Row eQ w1 [ai,ai,ai,ai,ai,ai,ai,ai,ai,ai,ai,ai,ai,ai,ai,ai,ai,ai] 266:=Row.nw wx;refine⟨⟨rfl,hr.wr bo⟩,λe=>by
  have:w1.heap.size=w.heap.size:=by simpa[bM]using e
  omega,λdi vq=>?_⟩
 have vq:di=bB eQ (aB w1.heap.size) (TN c):=vq;rw[hr.bB (vs:=TN c) bo (VU c),dC bo]at vq;have jT:Row di w1 (TN c) 266:=hr.st vq;have fk:Ext w di:=(x0.tr (x1.tr fe)).af vq aa;have xd:=Ext.dr di;have hr3:=jT.ext xd;have x21d:=fk.tr xd;have zz:w1.heap.size<di.drew.heap.size:=hr3.lt;have cX:(eV ((c.1,c.2.1,c.2.2-1):Ce)++eV (c.1,c.2.1,c.2.2+1)).length=6:=rfl;have h1:One (eV ((c.1,c.2.1,c.2.2-1):Ce)++eV (c.1,c.2.1,c.2.2+1)):=by
  intro v hv;rcases dp.1 hv with hv|hv
  ·exact HM _ v hv
  ·exact HM _ v hv
 have rd0:Rd di.drew (aB w1.heap.size) (eV ((c.1-1,c.2.1,c.2.2):Ce)++eV (c.1+1,c.2.1,c.2.2)):=Yh hr3 0 (λi hi=>by
  have hi:i<6:=hi;have:i=0\/i=1\/i=2\/i=3\/i=4\/i=5:=by omega
  rcases this with rfl|rfl|rfl|rfl|rfl|rfl<;>rfl)
 refine⟨au,au,au,au,au,au,eV ((c.1,c.2.1,c.2.2-1):Ce)++eV (c.1,c.2.1,c.2.2+1),Yh (o:=12) hr3 (λi hi=>by
  have hi:i<6:=hi;have:i=0\/i=1\/i=2\/i=3\/i=4\/i=5:=by omega
  rcases this with rfl|rfl|rfl|rfl|rfl|rfl<;>rfl),⟨λhf=>absurd hf (show ¬(2+2<=2)by decide),λ_=>⟨_,rfl,rd0⟩,λhg=>⟨growslice_fits hg (show(2+2)*24<=140737488355328 by decide),show((2+2:Nat):Int)<=9223372036854775807 by decide⟩,rfl,h1⟩,λYk ie bq=>?_⟩
 obtain⟨ho,jn⟩:=ajt (rows:=(cU c).map eV) (xs:=eV ((c.1-1,c.2.1,c.2.2):Ce)++eV (c.1+1,c.2.1,c.2.2)) bq (show 2<2+2 by decide) rfl rd0 rfl (by intro r hr;obtain⟨y,-,rfl⟩:=bc.1 hr;rfl) rfl;exact⟨jn.k,Yk,rfl,ho.low aa,x21d.tr jn⟩
def FQ(V:Ce->Int):∀(l:List Ce)(m:Int),0<=m/\m<=7->0<=l.foldl (λm n=>if 0<=il (V n)then min m (il (V n))else m) m/\l.foldl (λm n=>if 0<=il (V n)then min m (il (V n))else m) m<=7
 | [],m,h=>h
 |n::l,m,h=>by
  rw[qY]
  refine FQ V l _ ?_
  split<;>omega
def abC(c:Ce):((TN c).drop ((3:Int).toNat*3)).take 3=eV (Ds c):=rfl
def Un{v:Value}{V:Ce->Int}{w:World}(hV:Tl v V w)(c:Ce)(hc:fh c):
  ed 328 #[v,fQ c] w (Value.tuple #[.int .i64 (ik V c).1,.bool (ik V c).2]):=by
 apply UJ.vc
 intro w0 e0
 have x0:=aU e0
 have z0:=fD e0
 refine(jt c hc w0).mono ?_
 rintro e w1 ⟨rfl,x1⟩
 have z1:=x1.size
 have oko:pQ (Ds c):=FR hc (by simp[rZ])
 refine⟨_,_,_,_,_,_,_,_,_,_,_,_,_,_,_,_,_,_,rfl,x1.heap aa,by decide,_,_,_,abC c,dY ((hV.ext (x0.tr x1)).at oko) ?_⟩
 rintro e jE ⟨rfl,iB⟩
 have z23:=iB.size
 have auL:=x0.tr (x1.tr iB)
 refine⟨_,rfl,iB.heap aa,(oZ (V (Ds c)) jE).mono ?_⟩
 rintro e dL ⟨rfl,rfl⟩
 unfold ik
 refine⟨_,rfl,rfl,Br.mk (λh=>?_) (λh=>(zw c hc dL).mono ?_)⟩
 ·rw[if_pos h];exact⟨rfl,auL⟩
 rintro e gO ⟨s28,rfl,ho,jl⟩
 have z27:=jl.size
 rw[if_neg (by rw[h];decide)]
 have gF:=ho.rd (show 0<3 by decide)
 have hn:s28.n=4:=gF.n
 refine⟨s28,rfl,jl.heap aa,λn x m wr=>∃j:Nat,x=j/\j+n=4/\m=((cU c).take j).foldl (λm n=>if 0<=il (V n)then min m (il (V n))else m) 7/\Ext gO wr,⟨4,rfl,0,rfl,rfl,rfl,Ext.bT _⟩,?_⟩
 rintro n us x m wr ⟨j,rfl,hj,rfl,xr⟩
 have zr:=xr.size
 have xr0:=auL.tr (jl.tr xr)
 apply Br.mk<;>intro hb
 ·replace hb:=lM hb
  obtain⟨y,hy⟩:=bX (l:=cU c) (i:=j) (by have:(cU c).length=4:=rfl;omega)
  have oky:=(PN hc (aQ hy)).1
  have hy':((cU c).map eV)[j]? =some (eV y):=by rw[aW,hy];rfl
  have xk:(cU c).take (j+1)=(cU c).take j++[y]:=by rw[dq,hy];rfl
  have wk:=nE (j:=j)
  refine⟨gF.jX (i:=(j:Int)) au aa hb,_,_,_,(gF.ext xr).bH hy',λlG e39 nT e40=>?_⟩
  have rE:Ext wr nT:=(aU e39).af e40 (ak _)
  have z40:=yL e39 e40
  refine dY ((hV.ext (xr0.tr rE)).at oky) ?_
  rintro e kO ⟨rfl,kA⟩
  have z41:=kA.size
  refine⟨_,rfl,kA.heap aa,kA.heap aa,(FT (V y) kO).mono ?_⟩
  rintro e iO ⟨rfl,rfl⟩
  refine⟨_,rfl,rfl,rfl,Br.mk (λh2=>?_) (λh2=>?_)⟩
  ·have h2:=eK h2
   refine⟨n-1,by omega,rfl,j+1,wk,by omega,?_,xr.tr (rE.tr kA)⟩
   rw[xk,og,qY,List.foldl_nil,if_pos h2]
   split<;>omega
  ·have h2:=eK h2
   refine⟨n-1,by omega,rfl,j+1,wk,by omega,?_,xr.tr (rE.tr kA)⟩
   rw[xk,og,qY,List.foldl_nil,if_neg h2]
 ·replace hb:=lW hb
  have ht:(cU c).take j=cU c:=dN (by have:(cU c).length=4:=rfl;omega)
  rw[ht]
  have hle:(cU c).foldl (λm n=>if 0<=il (V n)then min m (il (V n))else m) 7=Mg V (cU c):=rfl
  have px:=FQ V (cU c) 7 au
  rw[hle]at px⊢
  apply Br.mk<;>intro h2
  ·rw[if_pos (by simpa using h2)];exact⟨rfl,xr0⟩
  ·rw[if_neg (by simpa using h2),wI];exact⟨rfl,xr0⟩
def ahV(x:Go.ej.Cg):One (mW x):=by intro v hv;simp at hv;rcases hv with rfl|rfl|rfl|rfl<;>rfl
def Mf{w:World}{g:Nat}{B:Nat}(x:Go.ej.Cg)(hr:Row w g (mW x) mU)(hB:B<=g):ar B mU 4 w ⟨aB g,1,1⟩ ([x].map mW):=ar.jO hB hr bo (ak _) rfl bo
def Um{v:Value}{V:Ce->Int}{w:World}(hV:Tl v V w)(c:Ce)(hc:fh c)(level:Int)(hl:0<=level/\level<=7):
  ab 277 #[v,fQ c,level] w λe w'=>∃s:Sl,e=s/\ar w mU 4 w' s ((nJ V c level).map mW)/\Ext w w':=by
 apply PM.vc;intro w0 e0;have x0:=aU e0;have z0:=fD e0;have r0:Row w0 w (eV c) rV:=Row.nw e0;refine(Un (hV.ext x0) c hc).bf λw1 x1=>?_
 have z1:=x1.size;have lq:=x0.tr x1;have axa:cH (ik V c).1:=by
  have:=FQ V (cU c) 7 au;have hle:(cU c).foldl (λm n=>if 0<=il (V n)then min m (il (V n))else m) 7=Mg V (cU c):=rfl;rw[hle]at this;unfold ik cH;split
  ·simp
  ·split
   ·simp
   ·simp only;omega
 have caseA:0<level->(ik V c).2=false->nJ V c level=[(c,0)]:=λh1 h2=>by unfold nJ;rw[if_pos ⟨h1,h2⟩]
 have caseB:0<level->¬(ik V c).2=false->(ik V c).1≠level->nJ V c level=[(c,kv (ik V c).1)]:=λh1 h2 h3=>by unfold nJ;rw[if_neg (λq=>h2 q.2),if_pos ⟨h1,h3⟩]
 have armB:0<level->¬(ik V c).2=false->(ik V c).1≠level->ab 329 #[vI (ik V c).1] w1.drew (λe w6=>∃(x7:Int),e=x7/\w6.heap[w.heap.size]? =w1.drew.heap[w.heap.size]?/\
   ah w6 (aB w.heap.size) 0 [c.1,c.2.1,c.2.2]/\∀w8:World,w8=w6.alloc (.cells #[c.1,c.2.1,c.2.2,x7] mU)->
   (λe w'=>∃s:Sl,e=Ending.returned s/\ar w mU 4 w' s ((nJ V c level).map mW)/\Ext w w') (.returned (.slice (aB w6.heap.size) 1 1)) w8):=by
  intro h1 h2 h3;refine(mc (ik V c).1 w1.drew axa).eL ?_;refine⟨_,rfl,rfl,Lo.wv (r0.ext (x1.tr (Ext.dr w1))),λw8 e8=>?_⟩;have hr:Row w8 w1.drew.heap.size (mW (c,kv (ik V c).1)) mU:=Row.nw e8;have zd:=nV w1;refine⟨⟨aB w1.drew.heap.size,1,1⟩,rfl,?_,(lq.tr (Ext.dr w1)).aZ e8⟩;rw[caseB h1 h2 h3];exact Mf _ hr aa
 refine⟨_,_,rfl,x1.k,λwj=>wj=w1/\nJ V c level=(if V (fy c)=0 then [(fy c,kv 1)]else if rW (V (fy c))=true\/7<=level then []else((cU c).filter λn=>decide (V n=0)).map λn=>(n,kv (level+1))),?_,?_⟩
 ·have fine:(¬0<level\/(¬(ik V c).2=false/\(ik V c).1=level))->nJ V c level=(if V (fy c)=0 then [(fy c,kv 1)]else if rW (V (fy c))=true\/7<=level then []else((cU c).filter λn=>decide (V n=0)).map λn=>(n,kv (level+1))):=λh=>by unfold nJ;rw[if_neg (λq=>h.elim (λh=>h q.1) λh=>h.1 q.2),if_neg (λq=>h.elim (λh=>h q.1) λh=>q.2 h.2)]
  refine Br.mk (λh1=>Br.mk (λh2=>λw5 e5=>?_) (λh2=>Br.mk (λ_=>Br.mk (λh3=>?_) (λh3=>⟨rfl,rfl,?_⟩)) (λh3=>?_))) (λh1=>Br.mk (λh3=>?_) (λh3=>⟨rfl,rfl,?_⟩))
  ·have h1:=eK h1;have hr:Row w5 w1 (mW (c,0)) mU:=Row.nw e5;refine⟨⟨aB w1.heap.size,1,1⟩,rfl,?_,lq.aZ e5⟩;rw[caseA h1 (by simpa using h2)];exact Mf _ hr aa
  ·exact armB (by simpa using h1) (by simpa using h2) (by simpa using h3)
  ·exact fine (.inr ⟨by simpa using h2,by simpa using h3⟩)
  ·rw[h1]at h3;cases h3
  ·rw[h1]at h3;cases h3
  ·exact fine (.inl (by simpa using h1))
 rintro us bw ⟨rfl,hW⟩;rw[hW];refine(jt c hc bw).bf λcp cY=>?_
 have z14:=cY.size;have okl:pQ (fy c):=FR hc (by simp[rZ]);refine⟨_,_,_,_,_,_,_,_,_,_,_,_,_,_,_,_,_,_,rfl,cY.k,au,_,_,_,Uo c,λmG e36 jD e37=>?_⟩;have mO:Ext cp jD:=(aU e36).af e37 (ak _);have z37:=yL e36 e37;have rl:Row jD cp (eV (fy c)) rV:=by rw[e37];exact Row.set (by rw[e36];exact Row.new cp [_,_,_] _) _
 have Bb:=lq.tr (cY.tr mO);refine⟨λwj=>Ext jD wj/\¬V (fy c)=0/\¬(rW (V (fy c))=true\/7<=level),dY ((hV.ext Bb).at okl) ?_,?_⟩
 ·rintro e lG ⟨rfl,rq⟩;have z39:=rq.size;refine⟨_,rfl,rq.k,rq.k,Br.mk (λh=>(mc 1 lG.drew inO).mono ?_) (λh=>(oZ (V (fy c)) lG).mono ?_)⟩
  ·rintro e kO ⟨rfl,rfl⟩;have h:=eK h;refine⟨_,rfl,rfl,rfl,Lo.wv (rl.ext (rq.tr (Ext.dr lG))),λiO Yn=>?_⟩;have hr:Row iO lG.drew.heap.size (mW (fy c,kv 1)) mU:=Row.nw Yn;have zd:=nV lG;refine⟨⟨aB lG.drew.heap.size,1,1⟩,rfl,?_,(Bb.tr (rq.tr (Ext.dr lG))).aZ Yn⟩;rw[if_pos h];exact Mf _ hr aa
  ·rintro e kf ⟨rfl,rfl⟩;have h:=eK h;rw[if_neg h];refine⟨_,rfl,rfl,rfl,Br.mk (λh2=>?_) (λh2=>Br.mk (λh3=>?_) (λh3=>⟨rfl,rfl,rq,h,?_⟩))⟩
   ·rw[if_pos (.inl h2)];exact⟨⟨none,0,0⟩,rfl,ar.nil,Bb.tr rq⟩
   ·rw[if_pos (.inr (by simpa using h3))];exact⟨⟨none,0,0⟩,rfl,ar.nil,Bb.tr rq⟩
   ·rintro(q|q)
    ·rw[q]at h2;cases h2
    ·simp at h3;omega
 rintro us oE ⟨A9,h1,h2⟩;have z47:=A9.size;rw[if_neg h1,if_neg h2];have axb:=Bb.tr A9;refine(zw c hc oE).mono ?_;rintro e lI ⟨s49,rfl,axc,Es⟩;have z48:=Es.size;have axe:=axb.tr Es;have gF:=axc.rd (show 0<3 by decide);have aFp:s49.n=4:=gF.n;refine⟨s49,rfl,Es.k,Es.k,λn x We wr=>∃j:Nat,x=j/\j+n=4/\ar lI mU 4 wr We (((((cU c).take j).filter λn=>decide (V n=0)).map λn=>((n,kv (level+1)):Go.ej.Cg)).map mW)/\Ext lI wr,⟨4,rfl,rfl,0,rfl,rfl,ar.nil,Ext.bT _⟩,?_⟩;rintro n us x We wr ⟨j,rfl,hj,ho,xr⟩;have zr:=xr.size;have xr0:=axe.tr xr;apply Br.mk<;>intro hb
 ·replace hb:=lM hb;obtain⟨y,hy⟩:=bX (l:=cU c) (i:=j) (by have:(cU c).length=4:=rfl;omega);have oky:=(PN hc (aQ hy)).1;have hy':((cU c).map eV)[j]? =some (eV y):=by rw[aW,hy];rfl
  have xk:(cU c).take (j+1)=(cU c).take j++[y]:=by rw[dq,hy];rfl
  have wk:=nE (j:=j);refine⟨gF.jX (i:=(j:Int)) au aa hb,_,_,_,(gF.ext xr).bH hy',λlV e60 vr e61=>?_⟩;have KY:Ext wr vr:=(aU e60).af e61 (ak _);have z61:=yL e60 e61;have ry:Row vr wr (eV y) rV:=by rw[e61];exact Row.set (by rw[e60];exact Row.new wr [_,_,_] _) _
  refine dY ((hV.ext (xr0.tr KY)).at oky) ?_;rintro e jU ⟨rfl,rD⟩;have z62:=rD.size;refine⟨_,rfl,rD.k,rD.k,rD.k,Br.mk (λh3=>?_) (λh3=>?_)⟩
  ·have wl:aC (level+1)=level+1:=wI;rw[wl];refine(mc (level+1) jU.drew inO).eL ?_;have xd:=KY.tr (rD.tr (Ext.dr jU));have zd:=nV jU;refine⟨_,rfl,rfl,rfl,rfl,Lo.wv (ry.ext (rD.tr (Ext.dr jU))),λvR e66=>?_⟩;subst e66;have ho':=ho.ext xd;have aFq:We.n<=4:=by have h1:=(ho.rd (show 0<4 by decide)).n;have h2:=zy (λn=>decide (V n=0)) ((cU c).take j);rw[aK,aK]at h1;rw[cS]at h2;omega
   obtain⟨Te,hres8⟩:=ho'.l6 (bytes:=32) (news:=mW (y,kv (level+1))) (.cells #[y.1,y.2.1,y.2.2,(kv (level+1))] mU) aa rfl (ahV _) aa aa;refine⟨Te,λs67 E8 axh=>?_⟩;obtain⟨f8,KZ,hn8,x8,hk8,-⟩:=hres8 s67 E8 axh;have xa:=Ext.al jU.drew (.cells #[y.1,y.2.1,y.2.2,(kv (level+1))] mU);have anA:∀b,We.aX=some b->lI.heap.size<=b/\b<wr.heap.size:=λb hb=>ho.own.lt hb
   have kp:∀j,(j<lI.heap.size\/wr.heap.size<=j)->j<jU.drew.heap.size->E8.heap[j]? =(jU.drew.alloc (.cells #[y.1,y.2.1,y.2.2,(kv (level+1))] mU)).heap[j]? :=λj hj hj2=>by rw[hk8 j (λhb=>by have:=anA j hb;omega) hj2,xa.heap hj2]
   refine⟨kp _ (.inl aa) aa,kp _ (.inl aa) aa,kp _ (.inr aa) aa,f8,n-1,aa,rfl,rfl,j+1,wk,aa,?_,(Below.trans (xr.tr xd) x8:Below lI lI E8)⟩;rw[xk,wG,cl,cl,W6 (by simpa using h3)];exact KZ
  ·refine⟨n-1,aa,rfl,rfl,j+1,wk,aa,?_,xr.tr (KY.tr rD)⟩;rw[xk,wG,cl,cl,W7 (by simpa using h3)];simpa using ho.ext (KY.tr rD)
 ·replace hb:=lW hb;have ht:(cU c).take j=cU c:=dN (by have:(cU c).length=4:=rfl;omega);rw[ht]at ho;exact⟨We,rfl,ho.low aa,xr0⟩
def adj{b:Int}(h:rW b=true):0<=il b/\il b<=7:=by unfold il;rw[h,if_pos rfl];unfold rW at h;simp only[fF,cC]at h;omega
def Up{v:Value}{V:Ce->Int}{w:World}(hV:Tl v V w)(c:Ce)(hc:fh c):
  ab 220 #[v,fQ c] w λe w'=>∃s:Sl,e=s/\ar w mU 4 w' s ((iU V c).map mW)/\Ext w w':=by
 apply Y1.vc
 intro w0 e0
 have x0:=aU e0
 have z0:=fD e0
 have r0:Row w0 w (eV c) rV:=Row.nw e0
 refine dY ((hV.ext x0).at hc.ok) ?_
 rintro e w1 ⟨rfl,x1⟩
 have z1:=x1.size
 have lq:=x0.tr x1
 refine⟨_,rfl,x1.heap aa,(xE (V c) w1).mono ?_⟩
 rintro e w3 ⟨rfl,rfl⟩
 unfold iU
 refine⟨_,rfl,rfl,Br.mk (λh=>?_) (λh=>(oZ (V c) w3).mono ?_)⟩
 ·rw[if_pos (by simpa using h)]
  refine(Y2 (hV.ext lq) c hc).mono ?_
  rintro e w5 ⟨s,rfl,ho,x5⟩
  exact⟨s,rfl,x5.heap aa,s,rfl,ho.low aa,lq.tr x5⟩
 ·rintro e w7 ⟨rfl,rfl⟩
  rw[if_neg (by simpa using h)]
  refine⟨_,rfl,rfl,Br.mk (λh2=>(FT (V c) w7.drew).mono ?_) (λh2=>?_)⟩
  ·rintro e w9 ⟨rfl,rfl⟩
   rw[h2,if_pos rfl]
   have xd:=lq.tr (Ext.dr w7)
   have zd:=nV w7
   refine⟨_,rfl,rfl,Lo.wv (r0.ext (x1.tr (Ext.dr w7))),(Um (hV.ext xd) c hc (il (V c)) (adj h2)).mono ?_⟩
   rintro e bE ⟨s,rfl,ho,bS⟩
   exact⟨s,rfl,bS.heap aa,s,rfl,ho.low aa,xd.tr bS⟩
  ·rw[h2,if_neg au]
   exact⟨⟨none,0,0⟩,rfl,ar.nil,lq⟩
def Oc(occ:Value)(O:Ce->Bool)(F:Nat->Prop)(w:World):Prop:=∃D:Nat->Prop,(∀i,D i->i<w.heap.size/\¬F i)/\∀w',(∀i,D i->w'.heap[i]? =w.heap[i]?)->∀c,pQ c->bu Tryz.prog occ [fQ c] w' λe w''=>e=Value.bool (O c)/\Ext w' w''
section
variable{F F':Nat->Prop}{w w':World}{s o t:Nat}{M M':Sm}{occ:Value}{O:Ce->Bool}
def Oc.uZ(h:Oc occ O F w)(ht:aJ F F' w w'):Oc occ O F' w':=by
 obtain⟨D,h1,h2⟩:=h;refine⟨D,λi hi=>⟨gK (h1 i hi).1 ht.mod.size,λhf=>?_⟩,λw'' hk=>h2 w'' λi hi=>(hk i hi).trans (ht.mod.same i (h1 i hi).1 (h1 i hi).2)⟩;rcases ht.sub i hf with q|q
 ·exact(h1 i hi).2 q
 ·have:=(h1 i hi).1;omega
def Oc.ext(h:Oc occ O F w)(x:Ext w w'):Oc occ O F w':=h.uZ (aJ.aq x)
def Oc.at(h:Oc occ O F w){c:Ce}(hc:pQ c):bu Tryz.prog occ [fQ c] w λe w'=>e=Value.bool (O c)/\Ext w w':=by obtain⟨D,h1,h2⟩:=h;exact h2 w (λ_ _=>rfl) c hc
def qB.fold{n:Nat}:∀{M:Sm}(l:List Go.ej.Cg),qB M n->qB (l.foldl eY M) (n+7*l.length)
 |M,[],h=>h
 |M,x::l,h=>(qB.fold l (h.change x)).mono (by simp only[cL];omega)
def Rg(V:Ce->Int)(c:Ce):(iU V c).length<=4:=by
 unfold iU Sq nJ;split
 ·split<;>simp
 ·split
  ·split
   ·simp
   ·split
    ·simp
    ·split
     ·simp
     ·split
      ·simp
      ·rw[aK];exact zy _ _
  ·simp
def abv(V:Ce->Int)(c:Ce):∀x∈iU V c,x.1=c\/x.1∈rZ c:=by
 have akq:fy c∈rZ c:=by simp[rZ]
 have hside:∀n∈cU c,n∈rZ c:=λn hn=>by
  unfold cU at hn;unfold rZ;simp only[cu,iT,or_false]at hn⊢;rcases hn with h|h|h|h
  ·exact .inl h
  ·exact .inr (.inl h)
  ·exact .inr (.inr (.inr (.inr (.inl h))))
  ·exact .inr (.inr (.inr (.inr (.inr h))))
 intro x hx;unfold iU at hx;split at hx
 ·unfold Sq at hx;split at hx
  ·simp only[cu,iT,or_false]at hx;rcases hx with rfl|rfl
   ·exact .inl rfl
   ·exact .inr akq
  ·cases hx
 ·split at hx
  ·unfold nJ at hx;split at hx
   ·simp only[cu,iT,or_false]at hx;rw[hx];exact .inl rfl
   ·split at hx
    ·simp only[cu,iT,or_false]at hx;rw[hx];exact .inl rfl
    ·split at hx
     ·simp only[cu,iT,or_false]at hx;rw[hx];exact .inr akq
     ·split at hx
      ·cases hx
      ·obtain⟨n,hn,rfl⟩:=bc.1 hx;exact .inr (hside n (jY.1 hn).1)
  ·cases hx
def Rh(h:SF F w s o t M occ)(hO:Oc occ O F w)(c:Ce)(hc:Cn c)(hk:qB M 700000000):
  ab 151 #[s,fQ c] w λe w'=>e=pz/\ni F w s o t (wi O M c) occ w':=by
 apply Gk.vc;have hc':=id hc;unfold Cn at hc';intro w0 e0;have x0:Ext w w0.drew:=(aU e0).tr (Ext.dr w0);have z0:w0.drew.heap.size=w.heap.size+1:=by show w0.heap.size=_;rw [e0];simp
 have h0:=h.ext x0;obtain ⟨g,sd,hr,hdr,-,hsdF,bq⟩:=h0.row;obtain ⟨Fw,hW,-,-⟩:=h0.world;refine ⟨_,(hr.at 1 rfl),(CT hW c hc.wide.ok (ahM aa aa)).bf λw2 x2=> ?_⟩;have z2:=x2.size;have yz:=x0.tr x2;have akq:pQ (fy c):=FR hc.wide (by simp [rZ]);refine ⟨_,rfl,x2.k,Br.mk (λhb=> ?_) (λhb=> ?_)⟩
 ·have xd:=x2.tr (Ext.dr w2);have zd:=nV w2;have ape:=hk.now;have wr:aC (M.now+1)=M.now+1:=wI;obtain ⟨g',m,qs,hq,Ih,⟨sd',hr'⟩,dP,hresq⟩:=(h0.ext xd).queue;refine ⟨_,hr'.at 0 rfl,_,hr'.at 3 rfl,?_⟩;dsimp only;rw [wr];have hll:=hk.l;refine (Q.GV hq Ih aa c (M.now+1)).mono ?_;rintro e w6 ⟨rfl,qs',hq',ht⟩;obtain ⟨F2,hS2,Ii⟩:=hresq hq' (Ih.add c _) ht;have hsF:¬Q.gN g' m qs s:=hq.dR hr' au au;refine ⟨_,rfl,Ii.mod.same _ aa (λhf=>by have:=h.lt hf;omega),ph ((ht.mod.row hr' hsF).at 3 rfl),rfl,?_⟩;unfold wi;rw [if_pos (by simpa using hb)];exact ⟨F2,hS2,(aJ.aq (x0.tr xd)).trans Ii⟩
 have aBG:¬Fz M.T.2 c=false:=by simpa using hb
 have jT:=hr.ext x2;refine ⟨_,(jT.at 1 rfl),(lZ (hW.ext x2)).bf λw9 hw9=> ?_⟩;subst hw9;refine ⟨_,rfl,rfl,(Up (h0.tl.ext x2) c hc.wide).mono ?_⟩;rintro e bE ⟨qo,rfl,ho,bS⟩;have z11:=bS.size;have gF:=ho.rd (show 0<4 by decide);have aBH:=gF.n;have hLlen:=Rg (jc M.T.2) c;have hLw:∀x ∈ iU (jc M.T.2) c,fh x.1:=λx hx=>by
  rcases abv _ _ x hx with q|q
  ·rw [q];exact hc.wide
  ·exact ai9 hc q
 have hU:wi O M c=if GX O M c=true then eY {M with nk:=M.nk++ [fy c]} (c,0) else (iU (jc M.T.2) c).foldl eY M:=by unfold wi;rw [if_neg aBG]
 have hH:GX O M c=(decide (jc M.T.2 c=3) &&(!(iU (jc M.T.2) c).isEmpty && O (fy c))):=rfl;generalize iU (jc M.T.2) c=L at*;rw [aK] at aBH;refine ⟨qo,rfl,bS.k,(jt c hc.wide bE).bf λbw cJ=> ?_⟩;have z13:=cJ.size;refine ⟨_,_,_,_,_,_,_,_,_,_,_,_,_,_,_,_,_,_,rfl,cJ.k,au,_,_,_,Uo c,λiD e35 mG e36=> ?_⟩;have oP:Ext bw mG:=(aU e35).af e36 (ak _);have z36:=yL e35 e36;have xd:=Ext.dr mG;have zd:=nV mG;have alU:=cJ.tr (oP.tr xd);have auG:=yz.tr (bS.tr alU);refine dY ((h.ext auG).tl.at hc.wide.ok) ?_;rintro e jD ⟨rfl,mO⟩;have z37:=mO.size;have Bb:=auG.tr mO;have TI:=alU.tr mO;refine ⟨_,rfl,mO.k,mO.k,(xE (jc M.T.2 c) jD).bf λlG apq=> ?_⟩;subst apq;have aBI:=jT.ext (bS.tr TI);refine ⟨_,rfl,rfl,rfl,Br.mk (λhf=>Br.mk (λhp=> ?_) (λhp=> ?_)) (λhf=> ?_)⟩
 ·refine ⟨_,aBI.at 4 rfl,dY ((hO.ext Bb).at akq) ?_⟩;rintro e nS ⟨rfl,yT⟩;have z42:=yT.size;have akr:=Bb.tr yT;have hpn:(!L.isEmpty)=true:=by
   have:0<L.length:=by simp only [cC,gt_iff_lt] at hp;omega
   cases L with
   |nil=>simp at this
   |cons=>rfl
  have hf3:decide (jc M.T.2 c=3)=true:=by simpa using hf
  refine ⟨_,rfl,yT.k,yT.k,Br.mk (λhh=> ?_) (λhh=> ?_)⟩
  ·have hHt:GX O M c=true:=by rw [hH,hf3,hpn,hh];rfl
   intro kf e44;have qE:=aU e44;have z44:=fD e44;have rch:Row kf nS (mW (c,0)) mU:=Row.nw e44;have apQ:=Ext.dr kf;have aJe:=nV kf;have auH:=akr.tr (qE.tr apQ);have aED:=x2.tr ((bS.tr TI).tr (yT.tr (qE.tr apQ)));obtain ⟨g2,sd2,aha,hdr44,hFs,hsdF2,hres44⟩:=(h.ext auH).row;refine ⟨sd2,aha.at 5 rfl,λIw e46=> ?_⟩;subst e46;have tE:sd2.n=M.nk.length:=by have:=(hdr44.rd (show 0<3 by decide)).n;rwa [aK] at this
   have hkd:=hk.d;obtain ⟨Te,hres8⟩:=hdr44.l6 (bytes:=24) (news:=eV (fy c)) (.cells #[vI (fy c).1,vI (fy c).2.1,vI (fy c).2.2] rV) (eG _) rfl (HM _) aa aa;refine ⟨Te,λTt lI aBK=> ?_⟩;obtain ⟨f8,KZ,hn8,x8,hk8,iK⟩:=hres8 Tt lI aBK;have xa:=Ext.al kf.drew (.cells #[vI (fy c).1,vI (fy c).2.1,vI (fy c).2.2] rV);have hsdlt:∀b,sd2.aX=some b->b<w.heap.size:=λb hb=>h.lt (hsdF2 b hb)
   have kp:∀j,w.heap.size<=j->j<kf.drew.heap.size->lI.heap[j]? =(kf.drew.alloc (.cells #[vI (fy c).1,vI (fy c).2.1,vI (fy c).2.2] rV)).heap[j]? :=λj h1 h2=>by rw [hk8 j (λhb=>by have:=hsdlt j hb;omega) h2,xa.heap h2]
   have aJf:=h.lt hFs;have m48:Mod (λj=>sd2.aX=some j) kf.drew lI:=Mod.xq x8 hk8;have aBM:¬sd2.aX=some s:=λe=>by obtain ⟨cs',hr'⟩:=aT hdr44 au e;exact hr'.ne aha au rfl
   have alV:=m48.row aha aBM;obtain ⟨p1,p2⟩:=alV.ft (j:=5) (v:=.slice Tt.a Tt.n Tt.c) (by simp [smC]) rfl;have z48:=m48.size;have pb:∀j:Nat,s<j->bM (ae (some ⟨s,0,none⟩) 5)≠some j:=λj hj e=>by
    rw [cB] at e;have:s=j:=by simpa [bM] using e
    omega
   refine ⟨kp _ aa aa,kp _ aa aa,kp _ aa aa,f8,⟨rfl,p1⟩,pb _ aa,pb _ aa,pb _ aa,pb _ aa,λnB e49=> ?_⟩;obtain ⟨q1,q2⟩:=p2 nB e49;have ho9:∀b,Tt.aX=some b->b≠s:=λb hb=>by obtain ⟨cs',hr'⟩:=aT KZ au hb;exact hr'.ne alV au
   have m49:Mod (λj=>j=s\/sd2.aX=some j) kf.drew nB:=(m48.mono λi _ hi=> .inr hi).trans (q2.mono λi _ hi=> .inl hi);obtain ⟨F3,hS3,hT3⟩:=hres44 (M':={M with nk:=M.nk++ [fy c]}) rfl rfl rfl rfl rfl m49 q1 (by rw [cl];exact q2.gR KZ ho9) (λb hb=>by
    rcases iK with e|e
    ·exact .inl (by rw [<-e];exact hb)
    ·rw [e] at hb;cases hb;exact .inr (lN _))
   have z49:=q2.size;have aBO:Row nB kf.drew.heap.size (eV (fy c)) rV:=q2.row (Row.same (Row.new kf.drew [_,_,_] rV) f8) aa;have hnl:¬F3 kf.drew.heap.size:=hS3.dR aBO aq8.1 au au au au au (λg sd r1 hb=>by
    have e1:=(r1.at 5 rfl).symm.trans (q1.at 5 rfl);have e2:sd.a=Tt.a:=by injection e1 with e1;injection e1
    have e3:sd.aX=Tt.aX:=by unfold Sl.aX;rw [e2]
    rw [e3] at hb;rcases iK with e|e
    ·have:=hsdlt _ (by rw [<-e];exact hb);omega
    ·rw [e] at hb;simp at hb)
   have hch49:Row nB nS (mW (c,0)) mU:=m49.row (rch.ext apQ) (λq=>by
    rcases q with q|q
    ·omega
    ·have:=hsdlt _ q;omega)
   have hF3:∀i,F3 i->i<w.heap.size\/kf.heap.size<=i:=λi hi=>(hT3.sub i hi).imp (λq=>h.lt q) id
   refine ⟨λn x wr=>(x=0/\n=1/\wr=nB)\/(x=1/\n=0/\ni F3 nB s o t (eY {M with nk:=M.nk++ [fy c]} (c,0)) occ wr),⟨1,rfl,rfl,rfl,rfl,.inl ⟨rfl,rfl,rfl⟩⟩,?_⟩;rintro n us x wr (⟨rfl,rfl,rfl⟩|⟨rfl,rfl,hS⟩)
   ·refine Br.mk (λ_=> ?_) (λq=>by simp at q);refine ⟨⟨rfl,au,au⟩,_,_,_,_,Lo.wv hch49,λlV e60 vr e61=> ?_⟩;have KY:Ext wr vr:=(aU e60).af e61 (ak _);have z61:=yL e60 e61;refine (qm (hS3.ext KY) (c,0) hc.wide ⟨by have:=hk.l;simp only;omega,by have:=hk.c;simp only;omega,hk.now,by have:=hk.d;simp only [cj,List.length_singleton];omega⟩).mono ?_;rintro e jU ⟨rfl,F4,hS4,hT4⟩;have nf:∀i,(w.heap.size<=i/\i<kf.heap.size\/wr.heap.size<=i)->i<vr.heap.size->jU.heap[i]? =vr.heap[i]? :=λi h1 h2=>hT4.mod.same i h2 λhf=>by
     rcases h1 with ⟨h1,S6⟩|h1
     ·rcases hF3 i hf with q|q<;>omega
     ·have:=hS3.lt hf;omega
    refine ⟨rfl,nf _ (.inl aa) aa,nf _ (.inl aa) aa,nf _ (.inl aa) aa,hT4.mod.same _ aa hnl,nf _ (.inr aa) aa,0,aa,rfl,rfl,rfl,rfl,.inr ⟨rfl,rfl,F4,hS4,(aJ.aq KY).trans hT4⟩⟩
   ·refine Br.mk (λq=>by simp at q) (λ_=> ?_);rw [hU,if_pos hHt];exact ⟨rfl,ni.trans ((aJ.aq auH).trans hT3) hS⟩
  ·have hHf:¬GX O M c=true:=by rw [hH,hh,Bool.and_false,Bool.and_false];decide
   refine ⟨λn x wr=>∃(j:Nat)(F':Nat->Prop),x=j/\j+n=L.length/\SF F' wr s o t ((L.take j).foldl eY M) occ/\aJ F F' nS wr,⟨L.length,rfl,rfl,0,F,rfl,aa,h.ext akr,aJ.refl _ _⟩,?_⟩;rintro n us x wr ⟨j,F',rfl,hj,hS,hT⟩;have zr:=hT.mod.size;have hzw42:=(akr).size;have Iq:RdK wr qo 4 (L.map mW):=hT.mod.rdK au (gF.ext (TI.tr yT)) λ_ b hb hf=>by have:=(ho.own.lt hb).1;have:=h.lt hf;omega
   have nf:∀{w2:World} {F2:Nat->Prop} {w1:World},Ext wr w1->aJ F' F2 w1 w2->∀i,(w.heap.size<=i/\i<nS.heap.size\/wr.heap.size<=i)->i<w1.heap.size->w2.heap[i]? =w1.heap[i]? :=λx1 t2 i h1 h2=>t2.mod.same i h2 λhf=>by
    rcases h1 with ⟨h1,S6⟩|h1
    ·rcases hT.sub i hf with q|q
     ·have:=h.lt q;omega
     ·omega
    ·have:=hS.lt hf;omega
   apply Br.mk<;>intro hb
   ·replace hb:=lM hb;obtain ⟨y,hy⟩:=bX (l:=L) (i:=j) aa;have hy':(L.map mW)[j]? =some (mW y):=by rw [aW,hy];rfl
    have xk:L.take (j+1)=L.take j++ [y]:=by rw [dq,hy];rfl
    have wk:=nE (j:=j);refine ⟨Iq.jX (i:=(j:Int)) au aa hb,_,_,_,_,Iq.bH hy',λw86 e86 Ix e87=> ?_⟩;have xl:Ext wr Ix:=(aU e86).af e87 (ak _);have z87:=yL e86 e87;refine (qm (hS.ext xl) y (hLw y (aQ hy)) ((hk.fold (L.take j)).mono (by rw [cS];omega))).mono ?_;rintro e TW ⟨rfl,F2,hS2,Ii⟩;refine ⟨rfl,nf xl Ii _ (.inl aa) aa,nf xl Ii _ (.inl aa) aa,nf xl Ii _ (.inr aa) aa,n-1,aa,rfl,rfl,j+1,F2,wk,aa,?_,(hT.trans (aJ.aq xl)).trans Ii⟩;rw [xk,og];exact hS2
   ·replace hb:=lW hb;rw [dN aa] at hS;rw [hU,if_neg hHf];exact ⟨rfl,F',hS,(aJ.aq akr).trans hT⟩
 ·have hHf:¬GX O M c=true:=by
   have:L=[]:=by
    have:¬0<L.length:=by simp only [fg,gt_iff_lt] at hp;omega
    exact ur.1 aa
   rw [hH,this];simp
  refine ⟨λn x wr=>∃(j:Nat)(F':Nat->Prop),x=j/\j+n=L.length/\SF F' wr s o t ((L.take j).foldl eY M) occ/\aJ F F' lG wr,⟨L.length,rfl,rfl,0,F,rfl,aa,h.ext Bb,aJ.refl _ _⟩,?_⟩;rintro n us x wr ⟨j,F',rfl,hj,hS,hT⟩;have zr:=hT.mod.size;have hzw39:=(Bb).size;have Iq:RdK wr qo 4 (L.map mW):=hT.mod.rdK au (gF.ext TI) λ_ b hb hf=>by have:=(ho.own.lt hb).1;have:=h.lt hf;omega
  have nf:∀{w2:World} {F2:Nat->Prop} {w1:World},Ext wr w1->aJ F' F2 w1 w2->∀i,(w.heap.size<=i/\i<lG.heap.size\/wr.heap.size<=i)->i<w1.heap.size->w2.heap[i]? =w1.heap[i]? :=λx1 t2 i h1 h2=>t2.mod.same i h2 λhf=>by
   rcases h1 with ⟨h1,S6⟩|h1
   ·rcases hT.sub i hf with q|q
    ·have:=h.lt q;omega
    ·omega
   ·have:=hS.lt hf;omega
  apply Br.mk<;>intro hb
  ·replace hb:=lM hb;obtain ⟨y,hy⟩:=bX (l:=L) (i:=j) aa;have hy':(L.map mW)[j]? =some (mW y):=by rw [aW,hy];rfl
   have xk:L.take (j+1)=L.take j++ [y]:=by rw [dq,hy];rfl
   have wk:=nE (j:=j);refine ⟨Iq.jX (i:=(j:Int)) au aa hb,_,_,_,_,Iq.bH hy',λw86 e86 Ix e87=> ?_⟩;have xl:Ext wr Ix:=(aU e86).af e87 (ak _);have z87:=yL e86 e87;refine (qm (hS.ext xl) y (hLw y (aQ hy)) ((hk.fold (L.take j)).mono (by rw [cS];omega))).mono ?_;rintro e TW ⟨rfl,F2,hS2,Ii⟩;refine ⟨rfl,nf xl Ii _ (.inl aa) aa,nf xl Ii _ (.inl aa) aa,nf xl Ii _ (.inr aa) aa,n-1,aa,rfl,rfl,j+1,F2,wk,aa,?_,(hT.trans (aJ.aq xl)).trans Ii⟩;rw [xk,og];exact hS2
  ·replace hb:=lW hb;rw [dN aa] at hS;rw [hU,if_neg hHf];exact ⟨rfl,F',hS,(aJ.aq Bb).trans hT⟩
 ·have hHf:¬GX O M c=true:=by
   have:¬jc M.T.2 c=3:=by simpa using hf
   rw [hH,decide_eq_false this];simp
  refine ⟨λn x wr=>∃(j:Nat)(F':Nat->Prop),x=j/\j+n=L.length/\SF F' wr s o t ((L.take j).foldl eY M) occ/\aJ F F' lG wr,⟨L.length,rfl,rfl,0,F,rfl,aa,h.ext Bb,aJ.refl _ _⟩,?_⟩;rintro n us x wr ⟨j,F',rfl,hj,hS,hT⟩;have zr:=hT.mod.size;have hzw39:=(Bb).size;have Iq:RdK wr qo 4 (L.map mW):=hT.mod.rdK au (gF.ext TI) λ_ b hb hf=>by have:=(ho.own.lt hb).1;have:=h.lt hf;omega
  have nf:∀{w2:World} {F2:Nat->Prop} {w1:World},Ext wr w1->aJ F' F2 w1 w2->∀i,(w.heap.size<=i/\i<lG.heap.size\/wr.heap.size<=i)->i<w1.heap.size->w2.heap[i]? =w1.heap[i]? :=λx1 t2 i h1 h2=>t2.mod.same i h2 λhf=>by
   rcases h1 with ⟨h1,S6⟩|h1
   ·rcases hT.sub i hf with q|q
    ·have:=h.lt q;omega
    ·omega
   ·have:=hS.lt hf;omega
  apply Br.mk<;>intro hb
  ·replace hb:=lM hb;obtain ⟨y,hy⟩:=bX (l:=L) (i:=j) aa;have hy':(L.map mW)[j]? =some (mW y):=by rw [aW,hy];rfl
   have xk:L.take (j+1)=L.take j++ [y]:=by rw [dq,hy];rfl
   have wk:=nE (j:=j);refine ⟨Iq.jX (i:=(j:Int)) au aa hb,_,_,_,_,Iq.bH hy',λw86 e86 Ix e87=> ?_⟩;have xl:Ext wr Ix:=(aU e86).af e87 (ak _);have z87:=yL e86 e87;refine (qm (hS.ext xl) y (hLw y (aQ hy)) ((hk.fold (L.take j)).mono (by rw [cS];omega))).mono ?_;rintro e TW ⟨rfl,F2,hS2,Ii⟩;refine ⟨rfl,nf xl Ii _ (.inl aa) aa,nf xl Ii _ (.inl aa) aa,nf xl Ii _ (.inr aa) aa,n-1,aa,rfl,rfl,j+1,F2,wk,aa,?_,(hT.trans (aJ.aq xl)).trans Ii⟩;rw [xk,og];exact hS2
  ·replace hb:=lW hb;rw [dN aa] at hS;rw [hU,if_neg hHf];exact ⟨rfl,F',hS,(aJ.aq Bb).trans hT⟩
end
end Go.Proofs.YtjcnjlaelhdjeaaGreatDoor
