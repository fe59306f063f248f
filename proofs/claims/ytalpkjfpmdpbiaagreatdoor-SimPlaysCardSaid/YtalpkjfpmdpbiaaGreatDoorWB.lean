import Derived.Test.YtalpkjfpmdpbiaaGreatDoorWA
set_option linter.all false
namespace Go.Proofs.YtalpkjfpmdpbiaaGreatDoor
open Go Go.Vc Go.RowKit Go.Proofs Go.dS Go.bh Go.Code
structure RG(P:Nat->Prop)(w:World)(s:Sl)(ch:List Cg):Prop where
 r:RdK w s 4 (ch.map FY)
 p:ch≠ []->∀g,s.bj=some g->P g
section
variable {P P':Nat->Prop} {w w' v v':World} {s s1 s2 s3 s4:Sl} {T:Tb} {ch:List Cg} {ag cap:Int}
def RG.ext(h:RG P w s ch)(x:Ext w w'):RG P w' s ch:=⟨h.r.ext x,h.p⟩
def RG.same(h:RG P w s ch)(hk:∀i,P i->i<w.heap.size->w'.heap[i]? =w.heap[i]?/\P' i):RG P' w' s ch:=by
 have hb:ch.map FY≠ []->ch≠ []:=λq e=>q (by rw [e];rfl)
 have hb':ch≠ []->ch.map FY≠ []:=λq e=>q (by simpa using e)
 exact ⟨RdK.AB h.r λdN g hg=>(hk g (h.p (hb dN) g hg) (RdK.jX h.r aC dN hg)).1,λdN g hg=>(hk g (h.p dN g hg) (RdK.jX h.r aC (hb' dN) hg)).2⟩
def RG.nil:RG P w ⟨none,0,0⟩ []:=⟨⟨rfl,(λr hr=>by cases hr),λi r hi=>by simp at hi⟩,λh=>absurd rfl h⟩
def RG.n(h:RG P w s ch):s.n=ch.length:=by have:=h.r.n;rwa [aB] at this
def RG.own{B:Nat}(h:aj B eH 4 w s (ch.map FY))(hP:∀i,B<=i->P i):RG P w s ch:=⟨h.rd aC,λ_ g hg=>hP g (h.own.lt hg).1⟩
def RG.nT(h:RG P w s ch)(x:Ext w v)(b:Nat):RG (Bx P w b) v s ch:=h.same λ_ hp hi=>⟨x.heap hi,hp,.inl hi⟩
def RG.box{a b g:Nat}{c:Array Value}(h:RG (Bx P a b) v s ch)(e:v'=v.setRow g c)(hg:a<=g/\g<b):RG (Bx P a b) v' s ch:=h.same λi hp _=>⟨by rw [e,setRow_other _ _ _ _ (by have:=hp.2;omega)],hp⟩
def RG.out{a b:Nat}(h:RG (Bx P a b) v s ch):RG P v s ch:=h.same λ_ hp _=>⟨rfl,hp.1⟩
abbrev wvR(ag cap:Int)(d:Dk)(s1 s2 s3 s4:Sl):Value:=.agg #[ag,cap,d.room,d.c9,d.wait,s1,s2,s3,s4]
abbrev wvL(ag cap:Int)(d:Dk)(s1 s2 s3 s4:Sl):LV:=[.int .i64 ag,.int .i64 cap,.int .i64 d.room,.int .i64 d.c9,.int .i64 d.wait,.slice s1.a s1.n s1.c,.slice s2.a s2.n s2.c,.slice s3.a s3.n s3.c,.slice s4.a s4.n s4.c]
def xi(ag limit room:Int)(w:World):ah 36 #[ag,limit,room] w λe w'=>∃s1 s2 s3:Sl,e=(wvR ag (min (max limit 1) 16) (gy room) s1 s2 s3 ⟨none,0,0⟩)/\RT P w' (gy room,[]) s1 s2 s3/\Ext w w':=by apply PI.vc;intro w0 e0;have x0:=bo e0;have z0:=dt e0;refine (HA (P:=Bx P w.heap.size w0) ag limit room w0).mono ?_;rintro e w1 ⟨s1,s2,s3,rfl,h1,x1⟩;refine ⟨_,_,_,_,_,s1,s2,s3,rfl,x1.heap aa,λbL wA=>⟨s1,s2,s3,rfl,(h1.box wA ⟨by omega,by omega⟩).out,(x0.tr x1).ab wA (ax _)⟩⟩
def AS(w:World)(g:Nat)(cs:Array Value):Mod (λi=>i=g) w (w.setRow g cs):=⟨rfl,rfl,rfl,by simp,λi _ hn=>setRow_other _ _ _ _ hn⟩
def E4(p:Po)(hp:FZ p)(w:World):ah 197 #[pv p] w λe w'=>e=Value.agg #[p.1,p.2,.int .i64 (p.1-1),p.2,.int .i64 (p.1+1),p.2,p.1,.int .i64 (p.2-1),p.1,.int .i64 (p.2+1)]/\Ext w w':=by
 apply E5.vc;obtain ⟨⟨p1,p2⟩,p3,p4⟩:=hp;have q1:ai (p.1-1)=p.1-1:=wI;have q2:ai (p.1+1)=p.1+1:=wI;have q3:ai (p.2-1)=p.2-1:=wI;have q4:ai (p.2+1)=p.2+1:=wI;intro w0 e0 w1 e1 w2 e2;have z0:=dt e0;have z1:w1.heap.size=w.heap.size+2:=by rw [e1];simp [z0]
 have x2:Ext w w2:=((bo e0).ay e1).ay e2;have hz:Row w2 w0 [af,af,af,af,af,af,af,af,af,af] 202:=(by rw [e1];exact Row.new w0 [_,_,_,_,_,_,_,_,_,_] _:Row w1 _ _ _).ext (bo e2);have hr:Row w2 w1 [af,af,af,af,af,af,af,af,af,af] 202:=Row.nw e2;have nb:∀{i j:Nat},cS (ae (ae (bu w1.heap.size) i) j)≠some w.heap.size:=λe=>by
  rw [dj,dj] at e;have:w1.heap.size=w.heap.size:=by simpa [cS] using e
  omega
 have one10:∀a b c d e f g h i j:Int,One [Value.int .i64 a,b,c,d,.int .i64 e,f,g,h,.int .i64 i,.int .i64 j]:=by intro a b c d e f g h i j v hv;simp only [bJ,fY,or_false] at hv;rcases hv with rfl|rfl|rfl|rfl|rfl|rfl|rfl|rfl|rfl|rfl<;>rfl
 refine ⟨⟨rfl,hr.wr cx⟩,λe=>by
  have:w1.heap.size=w.heap.size:=by simpa [cS] using e
  omega,λw3 e3=> ?_⟩
 rw [hr.bc cx (one10 _ _ _ _ _ _ _ _ _ _)] at e3;have hr3:Row w3 w1 [p.1,p.2,p.1,p.2,p.1,p.2,p.1,p.2,p.1,p.2] 202:=hr.st e3;have m3:Mod (λi=>i=w1.heap.size) w2 w3:=by rw [e3];exact AS _ _ _
 obtain ⟨c1,c2⟩:=hr3.jR (j:=2) (v:=.int .i64 (p.1-1)) cx rfl;refine ⟨by decide,by decide,p.1,hr3.at 2 rfl,by decide,by decide,⟨rfl,c1⟩,nb,λw5 e5=> ?_⟩;rw [q1] at e5;obtain ⟨Y7,m5⟩:=c2 w5 e5;obtain ⟨c3,c4⟩:=Y7.jR (j:=4) (v:=.int .i64 (p.1+1)) (by simp [aW]) rfl;refine ⟨by decide,by decide,p.1,Y7.at 4 rfl,by decide,by decide,⟨rfl,c3⟩,nb,λw7 e7=> ?_⟩;rw [q2] at e7;obtain ⟨hr7,m7⟩:=c4 w7 e7;obtain ⟨c5,c6⟩:=hr7.jR (j:=7) (v:=.int .i64 (p.2-1)) (by simp [aW]) rfl;refine ⟨by decide,by decide,p.2,hr7.at 7 rfl,by decide,by decide,⟨rfl,c5⟩,nb,λw9 e9=> ?_⟩;rw [q3] at e9;obtain ⟨VR,m9⟩:=c6 w9 e9;obtain ⟨c7,c8⟩:=VR.jR (j:=9) (v:=.int .i64 (p.2+1)) (by simp [aW]) rfl;refine ⟨by decide,by decide,p.2,VR.at 9 rfl,by decide,by decide,⟨rfl,c7⟩,nb,λcB yl=> ?_⟩;rw [q4] at yl;obtain ⟨XJ,m11⟩:=c8 cB yl;have mm:=(((m3.trans m5).trans m7).trans m9).trans m11;have hr':Row cB w1 [p.1,p.2,.int .i64 (p.1-1),p.2,.int .i64 (p.1+1),p.2,p.1,.int .i64 (p.2-1),p.1,.int .i64 (p.2+1)] 202:=XJ;have hz':=mm.row hz aa;refine ⟨_,_,_,_,_,_,_,_,_,_,hr'.aY (λj hj=>by rw [cP]),⟨rfl,hz'.wr cx⟩,λe=>by
  have:w0.heap.size=w.heap.size:=by simpa [cS] using e
  omega,λct Bq=> ?_⟩
 rw [hz'.bc cx (one10 _ _ _ _ _ _ _ _ _ _)] at Bq;have QQ:Row ct w0 [p.1,p.2,.int .i64 (p.1-1),p.2,.int .i64 (p.1+1),p.2,p.1,.int .i64 (p.2-1),p.1,.int .i64 (p.2+1)] 202:=by rw [Bq];exact hz'.set _
 exact ⟨_,_,_,_,_,_,_,_,_,_,QQ.aY (λj hj=>by rw [cP]),rfl,(mm.ext x2 λi hi=>by omega).ab Bq aa⟩
def PJ{l:List En}{q:Po}:decide (bC (λe:En=>e.1==q) l<0)= !decide (q ∈ l.map (·.1)):=by
 rcases cl (λe:En=>e.1==q) l with ⟨hf,lk⟩|⟨k,e,hk,he,hf,-⟩
 ·have:q ∉ l.map (·.1):=λh=>by obtain ⟨x,hx,rfl⟩:=aS.1 h;have:=lk x hx;simp at this
  rw [hf];simp only [this];rfl
 ·have:q ∈ l.map (·.1):=aS.2 ⟨e,bf hk,by simpa using he⟩;have h0:¬((k:Int)<0):=by omega
  rw [hf];simp only [this,h0];rfl
def HY(h:RT P w T s1 s2 s3)(hl:T.2.length<=1000000)(c:Ce)(hc:lY c)(hp:FZ (pos c)):
  ah 153 #[wvR ag cap T.1 s1 s2 s3 s4,iG c] w λe w'=>e=Value.bool (lD T.2 c)/\Ext w w':=by
 apply (ID.vc (aK:=s1) (aL:=s2) (aH:=s3) (bO:=s4));intro w0 e0 w1 e1;have x1:Ext w w1:=(bo e0).ay e1;have z0:=dt e0;have z1:w1.heap.size=w.heap.size+2:=by rw [e1];simp [z0]
 refine (k9 c hc w1).mono ?_;rintro e w2 ⟨rfl,x2⟩;have z2:=x2.size;refine ⟨_,_,rfl,x2.heap aa,x2.heap aa,(E4 (pos c) hp w2).mono ?_⟩;rintro e w5 ⟨rfl,x5⟩;have z5:=x5.size;have bw:=x1.tr (x2.tr x5);unfold lD;generalize pos c=p at*;refine ⟨_,_,_,_,_,_,_,_,_,_,rfl,x5.heap aa,x5.heap aa,λcY yZ=> ?_⟩;have z16:=dt yZ;have cQ:=bo yZ;have hr:Row cY w5 [af,af,af,af,af,af,af,af,af,af] 202:=Row.nw yZ;refine ⟨⟨rfl,hr.wr cx⟩,λe=>by
  have:w5.heap.size=w.heap.size:=by simpa [cS] using e
  omega,λe=>by
  have:w5.heap.size=w0.heap.size:=by simpa [cS] using e
  omega,λcE qk=> ?_⟩
 have h1:One [Value.int .i64 p.1,p.2,.int .i64 (p.1-1),p.2,.int .i64 (p.1+1),p.2,p.1,.int .i64 (p.2-1),p.1,.int .i64 (p.2+1)]:=by intro v hv;simp only [bJ,fY,or_false] at hv;rcases hv with rfl|rfl|rfl|rfl|rfl|rfl|rfl|rfl|rfl|rfl<;>rfl
 rw [hr.bc cx h1] at qk;have mM:Row cE w5 [p.1,p.2,.int .i64 (p.1-1),p.2,.int .i64 (p.1+1),p.2,p.1,.int .i64 (p.2-1),p.1,.int .i64 (p.2+1)] 202:=hr.st qk;have cR:Ext w cE:=(bw.tr cQ).ab qk aa;refine ⟨λn x w'=>∃j:Nat,x=j/\j+n=5/\Ext cE w'/\∀q ∈(g8 p).take j,q ∈ T.2.map (·.1),⟨5,rfl,rfl,0,rfl,rfl,Ext.bX _,by simp⟩,?_⟩;rintro n us x ct ⟨j,rfl,hj,eK,jG⟩;apply Br.mk<;>intro hb
 ·replace hb:=fe hb;have hex:∃q:Po,([p.1,p.2,.int .i64 (p.1-1),p.2,.int .i64 (p.1+1),p.2,p.1,.int .i64 (p.2-1),p.1,.int .i64 (p.2+1)]:LV)[j*2]? =some (.int .i64 q.1)/\([p.1,p.2,.int .i64 (p.1-1),p.2,.int .i64 (p.1+1),p.2,p.1,.int .i64 (p.2-1),p.1,.int .i64 (p.2+1)]:LV)[j*2+1]? =some (.int .i64 q.2)/\(g8 p)[j]? =some q:=by
   have:j=0\/j=1\/j=2\/j=3\/j=4:=by omega
   rcases this with rfl|rfl|rfl|rfl|rfl
   ·exact ⟨p,rfl,rfl,rfl⟩
   ·exact ⟨(p.1-1,p.2),rfl,rfl,rfl⟩
   ·exact ⟨(p.1+1,p.2),rfl,rfl,rfl⟩
   ·exact ⟨(p.1,p.2-1),rfl,rfl,rfl⟩
   ·exact ⟨(p.1,p.2+1),rfl,rfl,rfl⟩
  obtain ⟨q,hq1,hq3,hq2⟩:=hex;have xd:=Ext.dr ct;have zd:=kQ ct;have z22:=eK.size;have z17:=cR.size;have fq:=mM.ext (eK.tr xd);have fH:=mM.lt;have hLL:au ct.drew (ae (some ⟨w5.heap.size,0,none⟩) (((j:Nat):Int).toNat*2)) 0 [.int .i64 q.1,.int .i64 q.2]:=by
   refine ga λi u hu=> ?_
   rw [eo,cP]
   match i,hu with
   |0,hu=>exact fq.at _ (by rw [<-hu];exact hq1)
   |1,hu=>exact fq.at _ (by rw [<-hu];exact hq3)
  refine ⟨by omega,by omega,q.1,q.2,hLL,(fQ (ag:=ag) (cap:=cap) (h.ext (cR.tr (eK.tr xd))) hl q).mono ?_⟩;rintro e hZ ⟨rfl,dZ⟩;have wk:=kK (j:=j);refine ⟨_,rfl,dZ.heap aa,dZ.heap aa,?_⟩;rw [PJ];apply Br.mk<;>intro h1
  ·refine ⟨?_,cR.tr (eK.tr (xd.tr dZ))⟩;have hnq:q ∉ T.2.map (·.1):=by simpa using h1
   have:((g8 p).all λq=>decide (q ∈ T.2.map (·.1)))=false:=by rw [List.all_eq_false];exact ⟨q,bf hq2,by simpa using hnq⟩
   rw [this]
  ·have hyq:q ∈ T.2.map (·.1):=by simpa using h1
   refine ⟨n-1,by omega,rfl,rfl,j+1,wk,by omega,eK.tr (xd.tr dZ),?_⟩;rw [cm,hq2];intro y hy;rcases cu.1 hy with hy|hy
   ·exact jG y hy
   ·simp only [Option.toList_some,fB] at hy;subst hy;exact hyq
 ·replace hb:=eX hb;refine ⟨?_,cR.tr eK⟩;rw [cZ (show (g8 p).length<=j by unfold g8;simp;omega)] at jG;have:((g8 p).all λq=>decide (q ∈ T.2.map (·.1)))=true:=by rw [zw];exact λq hq=>by simpa using jG q hq
  rw [this]
end
end Go.Proofs.YtalpkjfpmdpbiaaGreatDoor
namespace Go.Proofs.YtalpkjfpmdpbiaaGreatDoor
open Go Go.Vc Go.RowKit Go.Proofs Go.dS Go.bh Go.Code
def Ha{l:List En}(hg:wS l)(c:Ce)(b:Int):wS (cr l c b).1:=by
 unfold cr;split
 ·exact hg
 ·split
  ·exact hg
  ·split
   ·exact hg
   ·intro e he;rcases cu.1 he with he|he
    ·exact hg e ((oK ..).subset he)
    ·simp only [Option.mem_toList,Da] at he;obtain ⟨y,hy,rfl⟩:=he;exact M3 (hg y (bf hy)).1 (hg y (bf hy)).2 c b
def Wj(l:List En)(c:Ce)(b:Int):(cr l c b).1.length<=l.length:=by
 unfold cr;split
 ·exact ax _
 ·split
  ·exact ax _
  ·split
   ·exact ax _
   ·generalize (bC (λe:En=>e.1==pos c) l).toNat=k;rw [eP,List.length_eraseIdx]
    cases hk:l[k]? with
    |none=>have:=List.getElem?_eq_none_iff.1 hk;rw [if_neg aa];simp
    |some e=>have:=(bH.1 hk).1;rw [if_pos this];simp;omega
def Et{T:Tb}(h:qH T)(c:Ce)(b:Int):qH (T.1,(cr T.2 c b).1):=⟨h.d,h.f,Ha h.g c b,fA (Wj ..) h.l⟩
abbrev X6(P:Nat->Prop)(w:World)(ag cap:Int)(T:Tb)(ch:List Cg)(n:Int)(e:Ending)(w':World):Prop:=
 ∃Jm FA Jn YX:Sl,e=Value.tuple #[wvR ag cap T.1 Jm FA Jn YX,n]/\RT P w' T Jm FA Jn/\RG P w' YX ch/\Ext w w'
section
variable {P P':Nat->Prop} {w w' v v':World} {s s1 s2 s3 s4:Sl} {T:Tb} {ch:List Cg} {ag cap:Int}
set_option maxRecDepth 100000 in
def Hb(h:RT P w T s1 s2 s3)(hg:RG P w s4 ch)(hP:Fw P w)(ho:qH T)(hn:ch.length<=1000000)(c:Ce)(hc:lY c)(b:Int):
  ah 54 #[wvR ag cap T.1 s1 s2 s3 s4,iG c,b] w (X6 P w ag cap (T.1,(cr T.2 c b).1) (xE T.2 ch c b) (cr T.2 c b).2):=by
 apply (Ol.vc (aK:=s1) (aL:=s2) (aH:=s3) (bO:=s4));intro w0 e0 w1 e1 w2 e2;have x2:Ext w w2:=((bo e0).ay e1).ay e2;have z0:=dt e0;have z1:w1.heap.size=w.heap.size+2:=by rw [e1];simp [z0]
 have z2:w2.heap.size=w.heap.size+3:=by rw [e2];simp [z1]
 have ph:=h.nT x2 w2;have hG2:=hg.nT x2 w2;have QL:=hP.bx x2 (ax _);refine (rU (ag:=ag) (cap:=cap) ph ho c hc).mono ?_;rintro e w3 ⟨rfl,x3⟩;have z3:=x3.size;refine ⟨_,rfl,x3.heap aa,x3.heap aa,x3.heap aa,(Hc (ag:=ag) (cap:=cap) (ph.ext x3) (QL.ext x3) ho c hc b).mono ?_⟩;rintro e w5 ⟨t1,t2,t3,rfl,h5,x5⟩;have z5:=x5.size;refine ⟨_,_,_,_,_,t1,t2,t3,_,rfl,x5.heap aa,x5.heap aa,x5.heap aa,λcU Bo cY yZ cE qk=> ?_⟩;have cQ:Ext w5 cY:=(bo Bo).ab yZ (ax _);have z16:=jE Bo yZ;have z17:=mC qk;have h17:=(h5.ext cQ).box qk ⟨by omega,by omega⟩;have g17:=(hG2.ext (x3.tr (x5.tr cQ))).box qk ⟨by omega,by omega⟩;have cR:Ext w cE:=(x2.tr (x3.tr (x5.tr cQ))).ab qk (ax _);have stay:xE T.2 ch c b=ch->∀{v:World} {cs:Array Value},v=cE.setRow w1 cs->X6 P w ag cap (T.1,(cr T.2 c b).1) (xE T.2 ch c b) (cr T.2 c b).2 (.returned (.tuple #[wvR ag cap T.1 t1 t2 t3 s4,.int .i64 (cr T.2 c b).2])) v:=by intro ec v cs ev;rw [ec];exact ⟨t1,t2,t3,s4,rfl,(h17.box ev ⟨by omega,by omega⟩).out,(g17.box ev ⟨by omega,by omega⟩).out,cR.ab ev aa⟩
 refine Br.mk (λq=>Br.mk (λq2=> ?_) (λq2=>λhZ Jo=> ?_)) (λq=>λjf yF=> ?_)
 ·simp only [beq_iff_eq] at q;simp only [bne_iff_ne] at q2;have ec:xE T.2 ch c b=ch++ [(c,b)]:=by unfold xE;rw [if_pos ⟨q,q2⟩]
  rw [ec];have hn4:=g17.n;have h0:aj cE eH 4 cE ⟨none,0,0⟩ []:=aj.nil;have ha:=h0.kl (bytes:=32) (more:=ch.map FY) (ax _) (λr hr=>by obtain ⟨y,-,rfl⟩:=aS.1 hr;rfl) (λr hr=>by obtain ⟨y,-,rfl⟩:=aS.1 hr;exact Q8 _ _ _ _) (by simp only [aB];omega) (by simp only [aB];omega);rw [aB,<-hn4] at ha;obtain ⟨hp,aR⟩:=ha;refine ⟨(ch.map FY).flatten,RdK.flat g17.r aC,hp,λpg dY aaF=> ?_⟩;obtain ⟨Xd,api,du,-,-⟩:=aR pg dY aaF;have du:Ext cE dY:=du;have z20:=du.size;have aiC:pg.n=ch.length:=by have:=(aj.rd Xd aC).n;simpa using this
  refine ⟨du.heap aa,du.heap aa,du.heap aa,du.heap aa,λef uP=> ?_⟩;subst uP;obtain ⟨Ml,hres8⟩:=Xd.kJ (bytes:=32) (news:=FY (c,b)) (.cells #[c.1,c.2.1,c.2.2,b] eH) z20 rfl (Q8 _ _ _ _) aa aa;refine ⟨Ml,λwo gp aaS=> ?_⟩;obtain ⟨f8,xt,hn8,x8,-,-⟩:=hres8 wo gp aaS;have xa:=Ext.al dY (.cells #[c.1,c.2.1,c.2.2,b] eH);have aaT:Ext cE gp:=Below.trans du (Below.mono x8 (ax _));have x8w:Ext w gp:=cR.tr aaT;have kp:∀j,j<cE.heap.size->gp.heap[j]? =(dY.alloc (.cells #[c.1,c.2.1,c.2.2,b] eH)).heap[j]? :=λj hj=>by rw [x8.block j hj,xa.heap aa]
  have z23:=aaT.size;refine ⟨kp _ aa,kp _ aa,kp _ aa,kp _ aa,f8,λfy QM eh Xk=> ?_⟩;have da:=(x8w.ab QM (ax _)).ab Xk aa;have uQ:aj cE eH 4 eh wo ((ch++ [(c,b)]).map FY):=by
   refine aj.bM (rows:=(ch++ [(c,b)]).map FY) (by rw [aT];simpa using xt) λj hj=> ?_
   have hjB:=(xt.own.lt hj).1;rw [Xk,setRow_other _ _ _ _ aa,QM,setRow_other _ _ _ _ aa]
  exact ⟨t1,t2,t3,wo,rfl,(((h17.ext aaT).box QM ⟨by omega,by omega⟩).box Xk ⟨by omega,by omega⟩).out,RG.own uQ λi hi=>hP i aa,da⟩
 ·simp only [bne_eq_false_iff_eq] at q2;exact stay (by unfold xE;rw [if_neg λh=>h.2 q2]) Jo
 ·simp only [beq_eq_false_iff_ne] at q;exact stay (by unfold xE;rw [if_neg λh=>q h.1]) yF
end
end Go.Proofs.YtalpkjfpmdpbiaaGreatDoor
