import Derived.Test.YtalpkjfpmdpbiaaGreatDoorWA
set_option linter.all false
namespace Go.Proofs.YtalpkjfpmdpbiaaGreatDoor
open Go Go.Vc Go.RowKit Go.Proofs Go.dQ Go.bf Go.Code
structure RG(P:Nat->Prop)(w:World)(s:Sl)(ch:List Cg):Prop where
 r:RdK w s 4 (ch.map Qb)
 p:ch≠ []->∀g,s.bg=some g->P g
section
variable {P P':Nat->Prop} {w w' v v':World} {s s1 s2 s3 s4:Sl} {T:Tb} {ch:List Cg} {ag cap:Int}
def RG.ext(h:RG P w s ch)(x:Ext w w'):RG P w' s ch:=⟨h.r.ext x,h.p⟩
def RG.same(h:RG P w s ch)(hk:∀i,P i->i<w.heap.size->w'.heap[i]? =w.heap[i]?/\P' i):RG P' w' s ch:=by
 have hb:ch.map Qb≠ []->ch≠ []:=λq e=>q (by rw [e];rfl)
 have hb':ch≠ []->ch.map Qb≠ []:=λq e=>q (by simpa using e)
 exact ⟨RdK.Ae h.r λdI g hg=>(hk g (h.p (hb dI) g hg) (RdK.jT h.r aE dI hg)).1,λdI g hg=>(hk g (h.p dI g hg) (RdK.jT h.r aE (hb' dI) hg)).2⟩
def RG.nil:RG P w ⟨none,0,0⟩ []:=⟨⟨rfl,(λr hr=>by cases hr),λi r hi=>by simp at hi⟩,λh=>absurd rfl h⟩
def RG.n(h:RG P w s ch):s.n=ch.length:=by have:=h.r.n;rwa [aB] at this
def RG.own{B:Nat}(h:ak B eT 4 w s (ch.map Qb))(hP:∀i,B<=i->P i):RG P w s ch:=⟨h.rd aE,λ_ g hg=>hP g (h.own.lt hg).1⟩
def RG.nN(h:RG P w s ch)(x:Ext w v)(b:Nat):RG (Bx P w b) v s ch:=h.same λ_ hp hi=>⟨x.heap hi,hp,.inl hi⟩
def RG.box{a b g:Nat}{c:Array Value}(h:RG (Bx P a b) v s ch)(e:v'=v.setRow g c)(hg:a<=g/\g<b):RG (Bx P a b) v' s ch:=h.same λi hp _=>⟨by rw [e,setRow_other _ _ _ _ (by have:=hp.2;omega)],hp⟩
def RG.out{a b:Nat}(h:RG (Bx P a b) v s ch):RG P v s ch:=h.same λ_ hp _=>⟨rfl,hp.1⟩
abbrev wvR(ag cap:Int)(d:Dk)(s1 s2 s3 s4:Sl):Value:=.agg #[ag,cap,d.room,d.dt,d.wait,s1,s2,s3,s4]
abbrev wvL(ag cap:Int)(d:Dk)(s1 s2 s3 s4:Sl):LV:=[.int .i64 ag,.int .i64 cap,.int .i64 d.room,.int .i64 d.dt,.int .i64 d.wait,.slice s1.a s1.n s1.c,.slice s2.a s2.n s2.c,.slice s3.a s3.n s3.c,.slice s4.a s4.n s4.c]
def Hw(ag limit room:Int)(w:World):ah 36 #[ag,limit,room] w λe w'=>∃s1 s2 s3:Sl,e=(wvR ag (min (max limit 1) 16) (jN room) s1 s2 s3 ⟨none,0,0⟩)/\RT P w' (jN room,[]) s1 s2 s3/\Ext w w':=by apply O1.vc;intro w0 e0;have x0:=bq e0;have z0:=du e0;refine (G4 (P:=Bx P w.heap.size w0) ag limit room w0).mono ?_;rintro e w1 ⟨s1,s2,s3,rfl,h1,x1⟩;refine ⟨_,_,_,_,_,s1,s2,s3,rfl,x1.heap aa,λbL A4=>⟨s1,s2,s3,rfl,(h1.box A4 ⟨by omega,by omega⟩).out,(x0.tr x1).ab A4 (ax _)⟩⟩
def Au(w:World)(g:Nat)(cs:Array Value):Mod (λi=>i=g) w (w.setRow g cs):=⟨rfl,rfl,rfl,by simp,λi _ hn=>setRow_other _ _ _ _ hn⟩
def EF(p:Po)(hp:Fm p)(w:World):ah 197 #[pv p] w λe w'=>e=Value.agg #[p.1,p.2,.int .i64 (p.1-1),p.2,.int .i64 (p.1+1),p.2,p.1,.int .i64 (p.2-1),p.1,.int .i64 (p.2+1)]/\Ext w w':=by
 apply EG.vc;obtain ⟨⟨p1,p2⟩,p3,p4⟩:=hp;have q1:ai (p.1-1)=p.1-1:=wI;have q2:ai (p.1+1)=p.1+1:=wI;have q3:ai (p.2-1)=p.2-1:=wI;have q4:ai (p.2+1)=p.2+1:=wI;intro w0 e0 w1 e1 w2 e2;have z0:=du e0;have z1:w1.heap.size=w.heap.size+2:=by rw [e1];simp [z0]
 have x2:Ext w w2:=((bq e0).ay e1).ay e2;have hz:Row w2 w0 [af,af,af,af,af,af,af,af,af,af] 202:=(by rw [e1];exact Row.new w0 [_,_,_,_,_,_,_,_,_,_] _:Row w1 _ _ _).ext (bq e2);have hr:Row w2 w1 [af,af,af,af,af,af,af,af,af,af] 202:=Row.nw e2;have nb:∀{i j:Nat},cQ (ae (ae (bu w1.heap.size) i) j)≠some w.heap.size:=λe=>by
  rw [da,da] at e;have:w1.heap.size=w.heap.size:=by simpa [cQ] using e
  omega
 have one10:∀a b c d e f g h i j:Int,One [Value.int .i64 a,b,c,d,.int .i64 e,f,g,h,.int .i64 i,.int .i64 j]:=by intro a b c d e f g h i j v hv;simp only [bI,fS,or_false] at hv;rcases hv with rfl|rfl|rfl|rfl|rfl|rfl|rfl|rfl|rfl|rfl<;>rfl
 refine ⟨⟨rfl,hr.wr cy⟩,λe=>by
  have:w1.heap.size=w.heap.size:=by simpa [cQ] using e
  omega,λw3 e3=> ?_⟩
 rw [hr.aZ cy (one10 _ _ _ _ _ _ _ _ _ _)] at e3;have hr3:Row w3 w1 [p.1,p.2,p.1,p.2,p.1,p.2,p.1,p.2,p.1,p.2] 202:=hr.st e3;have m3:Mod (λi=>i=w1.heap.size) w2 w3:=by rw [e3];exact Au _ _ _
 obtain ⟨c1,c2⟩:=hr3.kE (j:=2) (v:=.int .i64 (p.1-1)) cy rfl;refine ⟨by decide,by decide,p.1,hr3.at 2 rfl,by decide,by decide,⟨rfl,c1⟩,nb,λw5 e5=> ?_⟩;rw [q1] at e5;obtain ⟨Yk,m5⟩:=c2 w5 e5;obtain ⟨c3,c4⟩:=Yk.kE (j:=4) (v:=.int .i64 (p.1+1)) (by simp [aV]) rfl;refine ⟨by decide,by decide,p.1,Yk.at 4 rfl,by decide,by decide,⟨rfl,c3⟩,nb,λw7 e7=> ?_⟩;rw [q2] at e7;obtain ⟨hr7,m7⟩:=c4 w7 e7;obtain ⟨c5,c6⟩:=hr7.kE (j:=7) (v:=.int .i64 (p.2-1)) (by simp [aV]) rfl;refine ⟨by decide,by decide,p.2,hr7.at 7 rfl,by decide,by decide,⟨rfl,c5⟩,nb,λw9 e9=> ?_⟩;rw [q3] at e9;obtain ⟨Vf,m9⟩:=c6 w9 e9;obtain ⟨c7,c8⟩:=Vf.kE (j:=9) (v:=.int .i64 (p.2+1)) (by simp [aV]) rfl;refine ⟨by decide,by decide,p.2,Vf.at 9 rfl,by decide,by decide,⟨rfl,c7⟩,nb,λcH B2=> ?_⟩;rw [q4] at B2;obtain ⟨W9,m11⟩:=c8 cH B2;have mm:=(((m3.trans m5).trans m7).trans m9).trans m11;have hr':Row cH w1 [p.1,p.2,.int .i64 (p.1-1),p.2,.int .i64 (p.1+1),p.2,p.1,.int .i64 (p.2-1),p.1,.int .i64 (p.2+1)] 202:=W9;have hz':=mm.row hz aa;refine ⟨_,_,_,_,_,_,_,_,_,_,hr'.bk (λj hj=>by rw [cO]),⟨rfl,hz'.wr cy⟩,λe=>by
  have:w0.heap.size=w.heap.size:=by simpa [cQ] using e
  omega,λcx A3=> ?_⟩
 rw [hz'.aZ cy (one10 _ _ _ _ _ _ _ _ _ _)] at A3;have Ve:Row cx w0 [p.1,p.2,.int .i64 (p.1-1),p.2,.int .i64 (p.1+1),p.2,p.1,.int .i64 (p.2-1),p.1,.int .i64 (p.2+1)] 202:=by rw [A3];exact hz'.set _
 exact ⟨_,_,_,_,_,_,_,_,_,_,Ve.bk (λj hj=>by rw [cO]),rfl,(mm.ext x2 λi hi=>by omega).ab A3 aa⟩
def O2{l:List En}{q:Po}:decide (bC (λe:En=>e.1==q) l<0)= !decide (q ∈ l.map (·.1)):=by
 rcases cc (λe:En=>e.1==q) l with ⟨hf,my⟩|⟨k,e,hk,he,hf,-⟩
 ·have:q ∉ l.map (·.1):=λh=>by obtain ⟨x,hx,rfl⟩:=aR.1 h;have:=my x hx;simp at this
  rw [hf];simp only [this];rfl
 ·have:q ∈ l.map (·.1):=aR.2 ⟨e,bc hk,by simpa using he⟩;have h0:¬((k:Int)<0):=by omega
  rw [hf];simp only [this,h0];rfl
def Hz(h:RT P w T s1 s2 s3)(hl:T.2.length<=1000000)(c:Ce)(hc:mA c)(hp:Fm (pos c)):
  ah 153 #[wvR ag cap T.1 s1 s2 s3 s4,iS c] w λe w'=>e=Value.bool (lE T.2 c)/\Ext w w':=by
 apply (H8.vc (aK:=s1) (aL:=s2) (aH:=s3) (bM:=s4));intro w0 e0 w1 e1;have x1:Ext w w1:=(bq e0).ay e1;have z0:=du e0;have z1:w1.heap.size=w.heap.size+2:=by rw [e1];simp [z0]
 refine (kY c hc w1).mono ?_;rintro e w2 ⟨rfl,x2⟩;have z2:=x2.size;refine ⟨_,_,rfl,x2.heap aa,x2.heap aa,(EF (pos c) hp w2).mono ?_⟩;rintro e w5 ⟨rfl,x5⟩;have z5:=x5.size;have bA:=x1.tr (x2.tr x5);unfold lE;generalize pos c=p at*;refine ⟨_,_,_,_,_,_,_,_,_,_,rfl,x5.heap aa,x5.heap aa,λdy yH=> ?_⟩;have z16:=du yH;have cY:=bq yH;have hr:Row dy w5 [af,af,af,af,af,af,af,af,af,af] 202:=Row.nw yH;refine ⟨⟨rfl,hr.wr cy⟩,λe=>by
  have:w5.heap.size=w.heap.size:=by simpa [cQ] using e
  omega,λe=>by
  have:w5.heap.size=w0.heap.size:=by simpa [cQ] using e
  omega,λcC pX=> ?_⟩
 have h1:One [Value.int .i64 p.1,p.2,.int .i64 (p.1-1),p.2,.int .i64 (p.1+1),p.2,p.1,.int .i64 (p.2-1),p.1,.int .i64 (p.2+1)]:=by intro v hv;simp only [bI,fS,or_false] at hv;rcases hv with rfl|rfl|rfl|rfl|rfl|rfl|rfl|rfl|rfl|rfl<;>rfl
 rw [hr.aZ cy h1] at pX;have mK:Row cC w5 [p.1,p.2,.int .i64 (p.1-1),p.2,.int .i64 (p.1+1),p.2,p.1,.int .i64 (p.2-1),p.1,.int .i64 (p.2+1)] 202:=hr.st pX;have cP:Ext w cC:=(bA.tr cY).ab pX aa;refine ⟨λn x w'=>∃j:Nat,x=j/\j+n=5/\Ext cC w'/\∀q ∈(gR p).take j,q ∈ T.2.map (·.1),⟨5,rfl,rfl,0,rfl,rfl,Ext.ck _,by simp⟩,?_⟩;rintro n us x cx ⟨j,rfl,hj,eY,jD⟩;apply Br.mk<;>intro hb
 ·replace hb:=fj hb;have hex:∃q:Po,([p.1,p.2,.int .i64 (p.1-1),p.2,.int .i64 (p.1+1),p.2,p.1,.int .i64 (p.2-1),p.1,.int .i64 (p.2+1)]:LV)[j*2]? =some (.int .i64 q.1)/\([p.1,p.2,.int .i64 (p.1-1),p.2,.int .i64 (p.1+1),p.2,p.1,.int .i64 (p.2-1),p.1,.int .i64 (p.2+1)]:LV)[j*2+1]? =some (.int .i64 q.2)/\(gR p)[j]? =some q:=by
   have:j=0\/j=1\/j=2\/j=3\/j=4:=by omega
   rcases this with rfl|rfl|rfl|rfl|rfl
   ·exact ⟨p,rfl,rfl,rfl⟩
   ·exact ⟨(p.1-1,p.2),rfl,rfl,rfl⟩
   ·exact ⟨(p.1+1,p.2),rfl,rfl,rfl⟩
   ·exact ⟨(p.1,p.2-1),rfl,rfl,rfl⟩
   ·exact ⟨(p.1,p.2+1),rfl,rfl,rfl⟩
  obtain ⟨q,hq1,hq3,hq2⟩:=hex;have xd:=Ext.dr cx;have zd:=lW cx;have z22:=eY.size;have z17:=cP.size;have eZ:=mK.ext (eY.tr xd);have ft:=mK.lt;have hLL:av cx.drew (ae (some ⟨w5.heap.size,0,none⟩) (((j:Nat):Int).toNat*2)) 0 [.int .i64 q.1,.int .i64 q.2]:=by
   refine gC λi u hu=> ?_
   rw [eF,cO]
   match i,hu with
   |0,hu=>exact eZ.at _ (by rw [<-hu];exact hq1)
   |1,hu=>exact eZ.at _ (by rw [<-hu];exact hq3)
  refine ⟨by omega,by omega,q.1,q.2,hLL,(fK (ag:=ag) (cap:=cap) (h.ext (cP.tr (eY.tr xd))) hl q).mono ?_⟩;rintro e g7 ⟨rfl,dV⟩;have wk:=lD (j:=j);refine ⟨_,rfl,dV.heap aa,dV.heap aa,?_⟩;rw [O2];apply Br.mk<;>intro h1
  ·refine ⟨?_,cP.tr (eY.tr (xd.tr dV))⟩;have hnq:q ∉ T.2.map (·.1):=by simpa using h1
   have:((gR p).all λq=>decide (q ∈ T.2.map (·.1)))=false:=by rw [List.all_eq_false];exact ⟨q,bc hq2,by simpa using hnq⟩
   rw [this]
  ·have hyq:q ∈ T.2.map (·.1):=by simpa using h1
   refine ⟨n-1,by omega,rfl,rfl,j+1,wk,by omega,eY.tr (xd.tr dV),?_⟩;rw [cu,hq2];intro y hy;rcases ct.1 hy with hy|hy
   ·exact jD y hy
   ·simp only [Option.toList_some,fH] at hy;subst hy;exact hyq
 ·replace hb:=fh hb;refine ⟨?_,cP.tr eY⟩;rw [dn (show (gR p).length<=j by unfold gR;simp;omega)] at jD;have:((gR p).all λq=>decide (q ∈ T.2.map (·.1)))=true:=by rw [yZ];exact λq hq=>by simpa using jD q hq
  rw [this]
end
end Go.Proofs.YtalpkjfpmdpbiaaGreatDoor
namespace Go.Proofs.YtalpkjfpmdpbiaaGreatDoor
open Go Go.Vc Go.RowKit Go.Proofs Go.dQ Go.bf Go.Code
def Gt{l:List En}(hg:wg l)(c:Ce)(b:Int):wg (cj l c b).1:=by
 unfold cj;split
 ·exact hg
 ·split
  ·exact hg
  ·split
   ·exact hg
   ·intro e he;rcases ct.1 he with he|he
    ·exact hg e ((oC ..).subset he)
    ·simp only [Option.mem_toList,CI] at he;obtain ⟨y,hy,rfl⟩:=he;exact Mj (hg y (bc hy)).1 (hg y (bc hy)).2 c b
def VC(l:List En)(c:Ce)(b:Int):(cj l c b).1.length<=l.length:=by
 unfold cj;split
 ·exact ax _
 ·split
  ·exact ax _
  ·split
   ·exact ax _
   ·generalize (bC (λe:En=>e.1==pos c) l).toNat=k;rw [eK,List.length_eraseIdx]
    cases hk:l[k]? with
    |none=>have:=List.getElem?_eq_none_iff.1 hk;rw [if_neg aa];simp
    |some e=>have:=(bF.1 hk).1;rw [if_pos this];simp;omega
def DZ{T:Tb}(h:qS T)(c:Ce)(b:Int):qS (T.1,(cj T.2 c b).1):=⟨h.d,h.f,Gt h.g c b,fy (VC ..) h.l⟩
abbrev Xy(P:Nat->Prop)(w:World)(ag cap:Int)(T:Tb)(ch:List Cg)(n:Int)(e:Ending)(w':World):Prop:=
 ∃IJ E1 IK X5:Sl,e=Value.tuple #[wvR ag cap T.1 IJ E1 IK X5,n]/\RT P w' T IJ E1 IK/\RG P w' X5 ch/\Ext w w'
section
variable {P P':Nat->Prop} {w w' v v':World} {s s1 s2 s3 s4:Sl} {T:Tb} {ch:List Cg} {ag cap:Int}
set_option maxRecDepth 100000 in
def Gu(h:RT P w T s1 s2 s3)(hg:RG P w s4 ch)(hP:Fw P w)(ho:qS T)(hn:ch.length<=1000000)(c:Ce)(hc:mA c)(b:Int):
  ah 54 #[wvR ag cap T.1 s1 s2 s3 s4,iS c,b] w (Xy P w ag cap (T.1,(cj T.2 c b).1) (xe T.2 ch c b) (cj T.2 c b).2):=by
 apply (ND.vc (aK:=s1) (aL:=s2) (aH:=s3) (bM:=s4));intro w0 e0 w1 e1 w2 e2;have x2:Ext w w2:=((bq e0).ay e1).ay e2;have z0:=du e0;have z1:w1.heap.size=w.heap.size+2:=by rw [e1];simp [z0]
 have z2:w2.heap.size=w.heap.size+3:=by rw [e2];simp [z1]
 have qH:=h.nN x2 w2;have hG2:=hg.nN x2 w2;have Qi:=hP.bx x2 (ax _);refine (zC (ag:=ag) (cap:=cap) qH ho c hc).mono ?_;rintro e w3 ⟨rfl,x3⟩;have z3:=x3.size;refine ⟨_,rfl,x3.heap aa,x3.heap aa,x3.heap aa,(Gv (ag:=ag) (cap:=cap) (qH.ext x3) (Qi.ext x3) ho c hc b).mono ?_⟩;rintro e w5 ⟨t1,t2,t3,rfl,h5,x5⟩;have z5:=x5.size;refine ⟨_,_,_,_,_,t1,t2,t3,_,rfl,x5.heap aa,x5.heap aa,x5.heap aa,λcS A1 dy yH cC pX=> ?_⟩;have cY:Ext w5 dy:=(bq A1).ab yH (ax _);have z16:=kC A1 yH;have z17:=mL pX;have h17:=(h5.ext cY).box pX ⟨by omega,by omega⟩;have g17:=(hG2.ext (x3.tr (x5.tr cY))).box pX ⟨by omega,by omega⟩;have cP:Ext w cC:=(x2.tr (x3.tr (x5.tr cY))).ab pX (ax _);have stay:xe T.2 ch c b=ch->∀{v:World} {cs:Array Value},v=cC.setRow w1 cs->Xy P w ag cap (T.1,(cj T.2 c b).1) (xe T.2 ch c b) (cj T.2 c b).2 (.returned (.tuple #[wvR ag cap T.1 t1 t2 t3 s4,.int .i64 (cj T.2 c b).2])) v:=by intro ec v cs ev;rw [ec];exact ⟨t1,t2,t3,s4,rfl,(h17.box ev ⟨by omega,by omega⟩).out,(g17.box ev ⟨by omega,by omega⟩).out,cP.ab ev aa⟩
 refine Br.mk (λq=>Br.mk (λq2=> ?_) (λq2=>λg7 IL=> ?_)) (λq=>λjb yf=> ?_)
 ·simp only [beq_iff_eq] at q;simp only [bne_iff_ne] at q2;have ec:xe T.2 ch c b=ch++ [(c,b)]:=by unfold xe;rw [if_pos ⟨q,q2⟩]
  rw [ec];have hn4:=g17.n;have h0:ak cC eT 4 cC ⟨none,0,0⟩ []:=ak.nil;have ha:=h0.ke (bytes:=32) (more:=ch.map Qb) (ax _) (λr hr=>by obtain ⟨y,-,rfl⟩:=aR.1 hr;rfl) (λr hr=>by obtain ⟨y,-,rfl⟩:=aR.1 hr;exact QD _ _ _ _) (by simp only [aB];omega) (by simp only [aB];omega);rw [aB,<-hn4] at ha;obtain ⟨hp,aS⟩:=ha;refine ⟨(ch.map Qb).flatten,RdK.flat g17.r aE,hp,λoW eC Z6=> ?_⟩;obtain ⟨Wu,aoB,dK,-,-⟩:=aS oW eC Z6;have dK:Ext cC eC:=dK;have z20:=dK.size;have ahY:oW.n=ch.length:=by have:=(ak.rd Wu aE).n;simpa using this
  refine ⟨dK.heap aa,dK.heap aa,dK.heap aa,dK.heap aa,λea uq=> ?_⟩;subst uq;obtain ⟨Pv,hres8⟩:=Wu.kD (bytes:=32) (news:=Qb (c,b)) (.cells #[c.1,c.2.1,c.2.2,b] eT) z20 rfl (QD _ _ _ _) aa aa;refine ⟨Pv,λvG gi aaj=> ?_⟩;obtain ⟨f8,wO,hn8,x8,-,-⟩:=hres8 vG gi aaj;have xa:=Ext.al eC (.cells #[c.1,c.2.1,c.2.2,b] eT);have aak:Ext cC gi:=Below.trans dK (Below.mono x8 (ax _));have x8w:Ext w gi:=cP.tr aak;have kp:∀j,j<cC.heap.size->gi.heap[j]? =(eC.alloc (.cells #[c.1,c.2.1,c.2.2,b] eT)).heap[j]? :=λj hj=>by rw [x8.block j hj,xa.heap aa]
  have z23:=aak.size;refine ⟨kp _ aa,kp _ aa,kp _ aa,kp _ aa,f8,λfu Qj eg WG=> ?_⟩;have cW:=(x8w.ab Qj (ax _)).ab WG aa;have ur:ak cC eT 4 eg vG ((ch++ [(c,b)]).map Qb):=by
   refine ak.bP (rows:=(ch++ [(c,b)]).map Qb) (by rw [aT];simpa using wO) λj hj=> ?_
   have hjB:=(wO.own.lt hj).1;rw [WG,setRow_other _ _ _ _ aa,Qj,setRow_other _ _ _ _ aa]
  exact ⟨t1,t2,t3,vG,rfl,(((h17.ext aak).box Qj ⟨by omega,by omega⟩).box WG ⟨by omega,by omega⟩).out,RG.own ur λi hi=>hP i aa,cW⟩
 ·simp only [bne_eq_false_iff_eq] at q2;exact stay (by unfold xe;rw [if_neg λh=>h.2 q2]) IL
 ·simp only [beq_eq_false_iff_ne] at q;exact stay (by unfold xe;rw [if_neg λh=>q h.1]) yf
end
end Go.Proofs.YtalpkjfpmdpbiaaGreatDoor
