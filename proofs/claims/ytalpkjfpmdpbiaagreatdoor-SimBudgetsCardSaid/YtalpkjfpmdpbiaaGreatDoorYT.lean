import Derived.Test.YtalpkjfpmdpbiaaGreatDoorYR
import Derived.Test.YtalpkjfpmdpbiaaGreatDoorP
import Derived.Test.YtalpkjfpmdpbiaaGreatDoorZG
import Derived.Test.YtalpkjfpmdpbiaaGreatDoorRL
import Derived.Test.YtalpkjfpmdpbiaaGreatDoorYI
set_option linter.all false
namespace Go.Proofs.YtalpkjfpmdpbiaaGreatDoor
open Go Go.Vc Go.RowKit Go.Proofs Go.dQ Go.bf Go.Code Go.ks Go.jd
set_option maxRecDepth 100000
section
variable {F F':Nat->Prop} {w w':World} {s o t:Nat} {M M':Sm} {occ:Value}
def Pa(h:SF F w s o t M occ):ah 29 #[s] w λe w'=>e=(M.now)/\w'=w:=by obtain ⟨g,sd,h1,-⟩:=h.row;apply Gq.vc;exact ⟨_,h1.at 3 rfl,rfl,rfl⟩
end
def Z4(y:Go.ks.It):One (cM y):=by intro v hv;simp at hv;rcases hv with rfl|rfl|rfl|rfl<;>rfl
def Ls{w:World}{a:Sl}{x:List Go.ks.It}(ha:RdK w a 4 (x.map cM))(hl:x.length<=5000):
  ah 31 #[a] w λe w'=>∃s:Sl,e=Value.slice s.a s.n s.c/\ak w Q.tX 4 w' s (x.map cM)/\Ext w w':=by
 apply (Ir.vc (a0:=a));have n1:=ha.n;rw [aB] at n1;refine ⟨λn i s wr=>∃j:Nat,i=j/\j+n=x.length/\ak w Q.tX 4 wr s ((x.take j).map cM)/\Ext w wr,⟨x.length,0,rfl,by omega,ak.nil,Ext.ck _⟩,?_⟩;rintro n us i s wr ⟨j,rfl,hj,ho,xr⟩;have zr:=xr.size;apply Br.mk<;>intro hb
 ·replace hb:=fj hb;obtain ⟨y,hy⟩:=bh (l:=x) (i:=j) aa;have hy':(x.map cM)[j]? =some (cM y):=by rw [aX,hy];rfl
  have kJ:x.take (j+1)=x.take j++ [y]:=by rw [cu,hy];rfl
  have wk:=lD (j:=j);have eZ:=ha.ext (xr.tr (Ext.dr wr));have cV:=ha.fN (i:=(j:Int)) aE aa hb;have mz:(ae a.a ((((j:Nat):Int)).toNat*4)).isSome=true:=by obtain ⟨p,hp⟩:=kO.1 cV.1;rw [hp];rfl
  refine ⟨cV,Bj mz ⟨y.1,eZ.at hy' (j:=0) rfl,cV,Bj mz ⟨y.2.1,y.2.2.1,y.2.2.2,gC λi u hu=> ?_,λcH B2=> ?_⟩⟩⟩
  ·rw [cO,eF]
   match i,hu with
   |0,hu=>exact eZ.at hy' (j:=1) hu
   |1,hu=>exact eZ.at hy' (j:=2) hu
   |2,hu=>exact eZ.at hy' (j:=3) hu
  subst B2;have zd:=lW wr;have hns:s.n=j:=by have h1:=(ho.rd (show 0<4 by decide)).n;rw [aB,bG] at h1;omega
  obtain ⟨Pv,hres8⟩:=(ho.ext (Ext.dr wr)).kD (bytes:=32) (news:=cM y) (.cells #[y.1,y.2.1,y.2.2.1,y.2.2.2] Q.tX) aa rfl (Z4 y) aa aa;refine ⟨Pv,λeH cA alz=> ?_⟩;obtain ⟨f8,wO,hn8,x8,UT,-⟩:=hres8 eH cA alz;refine ⟨f8,n-1,by omega,j+1,wk,by omega,?_,(Below.trans (xr.tr (Ext.dr wr)) x8:Below w w cA)⟩;rw [kJ,aT];exact wO
 ·replace hb:=fh hb;rw [dn aa] at ho;exact ⟨s,rfl,ho,xr⟩
def Io(n:Int)(hn:inI n)(w:World):ah 25 #[n] w λe w'=>∃b:Int,e=b/\Ext w w':=by
 apply Iq.vc;refine (iV n 8 aE aE w).mono ?_;rintro e w0 ⟨rfl,rfl⟩;have hb:0<=n % 8/\n % 8<8:=by omega
 refine ⟨_,rfl,Br.mk (λh=>(xL n w0 hn).mono ?_) (λh w4 e4=> ?_)⟩
 ·rintro e w2 ⟨rfl,hw⟩;exact ⟨_,rfl,_,rfl,by rw [hw];exact Ext.ck _⟩
 ·have h:=kB h;have hr:Row w4 w0 [(3:Int),(3:Int),(8:Int),(8:Int),(1:Int),af,(4:Int)] 3:=Row.nw e4;have hx:∃v:Int,([(3:Int),(3:Int),(8:Int),(8:Int),(1:Int),af,(4:Int)]:LV)[(n % 8).toNat*1]? =some (.int .i64 v):=by
   have:(n % 8).toNat=0\/(n % 8).toNat=1\/(n % 8).toNat=2\/(n % 8).toNat=3\/(n % 8).toNat=4\/(n % 8).toNat=5\/(n % 8).toNat=6:=by omega
   rcases this with q|q|q|q|q|q|q<;>(rw [q];exact ⟨_,rfl⟩)
  obtain ⟨v,hv⟩:=hx;exact ⟨⟨rfl,by omega,by omega⟩,v,hr.at _ hv,v,rfl,(bq e4)⟩
end Go.Proofs.YtalpkjfpmdpbiaaGreatDoor
namespace Go.Proofs.YtalpkjfpmdpbiaaGreatDoor
open Go Go.Vc Go.RowKit Go.Proofs Go.dQ Go.bf Go.Code Go.ks Go.jd
set_option maxRecDepth 100000
def V5:uK Q.tX/\Q.tX≠pj/\Q.tX≠eT/\Q.tX≠tw/\Q.tX≠Q.jw/\Q.tX≠Q.bS/\Q.tX≠iE/\Q.tX≠bU:=by decide
section
variable {N F F':Nat->Prop} {w v w':World} {s o t:Nat} {M M' M0:Sm} {occ:Value} {oc:List Ce} {s1 s2 s3 s4 sq so sd r1 r2 r3 r4 rq ro rd:Sl} {bud:Int} {m n:Nat} {a b:Nat}
structure Bt(N F:Nat->Prop)(w:World)(s o t:Nat)(M:Sm)(occ:Value)(oc:List Ce)(s1 s2 s3 s4 sq so sd:Sl):Prop where
 s:SF F w s o t M occ
 o:Oc occ (oM oc) (λi=>F i\/¬N i) w
 r:RM (Nf N F) w M oc s1 s2 s3 s4 sq so sd
 n:Fw N w
 l:oc.length<=1000
 c:M.cap=5
def RM.KD(hF:SF F v s o t M0 occ)(hR:RM (Bx (Nf N F) a b) v M' oc s1 s2 s3 s4 sq so sd)(ht:aG F F' v w'):RM (Bx (Nf N F') a b) w' M' oc s1 s2 s3 s4 sq so sd:=
 hR.same (λi hp hi=>⟨ht.mod.same i hi hp.1.1,⟨λq=>(ht.sub i q).elim hp.1.1 aa,hp.1.2⟩,hp.2⟩) λg cs hr=>ht.mod.same g hr.lt (hF.yA hr V5.1 V5.2.1 V5.2.2.1 V5.2.2.2.1 V5.2.2.2.2.1 V5.2.2.2.2.2.1 V5.2.2.2.2.2.2.1)
def aG.beside(h:aG F F' w w')(G:Nat->Prop):aG (λi=>F i\/G i) (λi=>F' i\/G i) w w':=⟨h.mod.mono λi _ hi=> .inl hi,λi hi=>hi.elim (λq=>(h.sub i q).imp .inl id) λq=> .inl (.inr q)⟩
def ZW(N F:Nat->Prop)(w:World)(s o t:Nat)(M:Sm)(occ:Value)(oc:List Ce)(bud:Int)(m n:Nat)(M':Sm)(e:Ending)(w':World):Prop:=
 ∃(F':Nat->Prop)(s1 s2 s3 s4 sq so sd:Sl),e=Value.tuple #[.agg (xM M' s1 s2 s3 s4 sq so sd).toArray,true]/\Bt N F' w' s o t M' occ oc s1 s2 s3 s4 sq so sd/\aG F F' w w'/\o5 bud m M' n
def Da{B g:Nat}{c:Array Value}{g8:World}{cs:LV}(su:Bt N F w s o t M occ oc r1 r2 r3 r4 rq ro rd)(x:Ext w v)(hR:RM (Bx (Nf N F) w.heap.size B) v M' oc s1 s2 s3 s4 sq so sd)(hB:w.heap.size<=g/\g<B)(hBv:B<=v.heap.size)(hr:kS F v s o t M' occ w')(hg:Row v g cs bU)(hs:o5 bud m M' n)(hc:M'.cap=5)(e:g8=w'.setRow g c):
  ZW N F w s o t M occ oc bud m n M' (.returned (.tuple #[.agg (xM M' s1 s2 s3 s4 sq so sd).toArray,true])) g8:=by
 obtain ⟨F',h',ht⟩:=hr;have hF:=su.s;have h1:aG F F' w w':=(aG.aM x).trans ht;have UX:∀i,F' i->i≠g:=λi hf q=>by
  rcases ht.sub i hf with q2|q2
  ·have:=hF.lt q2;omega
  ·omega
 have hgF:¬F g:=λq=>by have:=hF.lt q;omega
 have hg':Row w' g cs bU:=hg.same (ht.mod.same g hg.lt hgF);have h3:aG F F' w g8:=⟨⟨by rw [e];exact h1.mod.os,by rw [e];exact h1.mod.tape,by rw [e];exact h1.mod.output,by rw [e];simpa using h1.mod.size,λi hi hn=>by rw [e,setRow_other _ _ _ _ aa];exact h1.mod.same i hi hn⟩,h1.sub⟩;exact ⟨F',s1,s2,s3,s4,sq,so,sd,rfl,⟨h'.same λi hi=>by rw [e,setRow_other _ _ _ _ (UX i hi)],su.o.ib (aG.beside h3 _),((RM.KD (hF.ext x) hR ht).box e hB hg' aE).out,λi hi=>su.n i (by have:=h3.mod.size;omega),su.l,hc⟩,h3,hs⟩
end
def ZX{ag limit:Int}{D:Dk}{l:List En}{p:Po}(h:vA l)(hp:p ∈ gl):vA (oD ag limit D l p).1.2:=by
 have hroom:vA (cE limit D l).1.2:=λe he=>by obtain ⟨x,hx,hq⟩:=Ih he;exact hq▸h x hx
 unfold oD;split
 ·exact h
 ·split
  ·intro e he;rcases ct.1 he with q|q
   ·exact h e ((oC ..).subset q)
   ·rw [Option.mem_toList] at q;exact h e (bc q)
  ·split
   ·exact hroom
   ·intro e he;rcases ct.1 he with q|q
    ·exact hroom e q
    ·rw [fH.1 q];exact hp
def Tc{D:Dk}{l:List En}{p:Po}(h:vA l):vA (fI D l p).1.2:=by
 unfold fI;split
 ·split
  ·exact h
  ·intro e he;obtain ⟨x,hx,hq⟩:=S5 he;exact hq▸h x hx
 ·exact h
def ZY:((0,1):Po) ∈ gl:=by decide
section
variable {bud:Int} {m n:Nat} {M:Sm}
def o5.table{T':Tb}(h:o5 bud m M n)(hi:Iv (m+1) 0 T')(ho:qS T')(hs:vA T'.2):o5 bud (m+1) {M with T:=T'} n:=⟨⟨hi,ho,hs,h.l.q⟩,⟨h.k.l,h.k.c,h.k.now,h.k.d⟩,h.b⟩
def o5.up(h:o5 bud m M n):o5 bud (m+1) M n:=⟨⟨h.l.iv.mono aa (ax _),h.l.ok,h.l.s,h.l.q⟩,h.k,h.b⟩
end
def BY(n:Int)(hn:inI n)(w:World):ah 25 #[n] w λe w'=>∃b:Int,e=b/\Ext w w':=Io n hn w
set_option maxHeartbeats 1000000 in
def wJ{N F:Nat->Prop}{w:World}{s o t:Nat}{M:Sm}{occ:Value}{oc:List Ce}{s1 s2 s3 s4 sq so sd:Sl}{bud:Int}{m n:Nat}(su:Bt N F w s o t M occ oc s1 s2 s3 s4 sq so sd)(hs:o5 bud m M n)(hm:m<=1000)(hn:n<=500000)(hb:1<=bud/\bud<=64)
  (k0 bb nn c1 c2 c3:Int)(hd:∀x ∈ [k0,bb,nn,c1,c2,c3],inI x):
  ah 32 #[s,.agg (xM M s1 s2 s3 s4 sq so sd).toArray,.agg #[k0,bb,nn,c1,c2,c3]] w λe w'=>∃M',ZW N F w s o t M occ oc bud (m+1) (n+17920) M' e w':=by
 apply (KF.vc (jg:=s1) (jh:=s2) (ji:=s3) (gq:=s4) (gM:=sq) (gN:=so) (gO:=sd));have hF:=su.s;have hO:=su.o.mono (F':=F) λi hi=> .inl hi
 have WO:=su.l;have ue:=su.c;have hl:=hs.l;have hsk:=hs.k;have ot:bU≠Q.tX:=by decide
 have ik0:=hd k0 cy;have ibb:=hd bb cy;have inn:=hd nn cy;have okc:mA (c1,c2,c3):=⟨hd c1 cy,hd c2 cy,hd c3 cy⟩;intro w0 e0 w1 e1 w2 e2;have x2:Ext w w2:=((bq e0).ay e1).ay e2;have z0:=du e0;have z1:w1.heap.size=w.heap.size+2:=by rw [e1];simp [z0]
 have z2:w2.heap.size=w.heap.size+3:=by rw [e2];simp [z1]
 have Jm:Row w2 w (xM M s1 s2 s3 s4 sq so sd) bU:=((by rw [e0];exact Row.new w [_,_,_,_,_,_,_,_,_,_,_,_,_,_,_,_] _:Row w0 w (xM M s1 s2 s3 s4 sq so sd) bU).ext (bq e1)).ext (bq e2);have IM:∃cs,Row w2 w1 cs bU:=⟨_,by rw [e2];exact Row.new w1 [_,_,_,_,_,_,_,_,_,_,_,_,_,_,_,_] _⟩;obtain ⟨cb,IM⟩:=IM;have h2:=su.r.nN x2 w2;have Qi:Fw (Bx (Nf N F) w.heap.size w2) w2:=λi hi=>⟨⟨λq=>by have:=hF.lt q;omega,su.n i aa⟩,.inr hi⟩
 have fws:∀{v:World},w2.heap.size<=v.heap.size->Fw (Bx (Nf N F) w.heap.size w2) v:=λhv i hi=>Qi i aa
 have nF:∀{i:Nat},w.heap.size<=i->¬F i:=λhi q=>by have:=hF.lt q;omega
 refine ⟨λ_ wj=>wj=w2,?_,?_⟩
 ·exact Br.mk (λ_=>⟨rfl,rfl,rfl,rfl⟩) (λ_=>Br.mk (λ_=>⟨rfl,rfl,rfl,rfl⟩) (λ_=>Br.mk (λ_=>⟨rfl,rfl,rfl,rfl⟩) (λ_=>⟨rfl,rfl,rfl,rfl⟩)))
 rintro U3 b5 w6 rfl;have edit:∀{v:World} (c:Ce) (b:Int),dB c->Ext w6 v->ah 26 #[.agg (xM M s1 s2 s3 s4 sq so sd).toArray,iS c,b] v λe cS=>∃t1 t2 t3 t4 t5:Sl,e=Value.tuple #[.agg (xM (gm M c b) t1 t2 t3 t4 t5 so sd).toArray,.int .i64 (cj M.T.2 c b).2]/\Ext v cS/\RM (Bx (Nf N F) w.heap.size w6) cS (gm M c b) oc t1 t2 t3 t4 t5 so sd:=λ{v} c b hc xv=>by refine ((h2.ext xv).edit (fws xv.size) hl.ok (hsk.mono aa) c hc b).mono ?_;rintro e cS ⟨t1,t2,t3,t4,t5,rfl,hr,x⟩;exact ⟨t1,t2,t3,t4,t5,rfl,x,hr⟩
 refine Br.mk (λ_=> ?_) (λ_=>Br.mk (λ_=> ?_) (λ_=>Br.mk (λ_=> ?_) (λ_=>Br.mk (λ_=> ?_) (λ_=> ?_))))
 ·refine (Im (c1,c2,c3) w6).mono ?_;rintro e w7 ⟨rfl,x7⟩;have zz7:=x7.size;refine ⟨_,_,_,rfl,x7.heap aa,x7.heap aa,x7.heap aa,λcH B2 bR Bv=> ?_⟩;have bT:Ext w7 bR:=(bq B2).ab Bv (ax _);have UU:=kC B2 Bv;refine (BY bb ibb bR).mono ?_;rintro e cA ⟨b,rfl,cD⟩;have aqy:=cD.size;have W8:=x7.tr (bT.tr cD);have hmi:=MI (c1,c2,c3);have Xd:dB (AE (c1,c2,c3)):=by unfold dB;omega
  generalize AE (c1,c2,c3)=c at*;refine ⟨b,rfl,cD.heap aa,cD.heap aa,cD.heap aa,cD.heap aa,(edit c b Xd W8).mono ?_⟩;rintro e cS ⟨t1,t2,t3,t4,t5,rfl,bA,hR⟩;have akn:=bA.size;refine ⟨_,_,_,_,_,t1,t2,t3,t4,_,_,t5,_,_,so,sd,_,rfl,bA.heap aa,bA.heap aa,bA.heap aa,bA.heap aa,λlz vS ly Ck=> ?_⟩;have fX:Ext cS ly.drew:=((bq vS).ab Ck (ax _)).tr (Ext.dr ly);have z34:=kC vS Ck;have zd:=lW ly;have r34:Row ly.drew cS (xM (gm M c b) t1 t2 t3 t4 t5 so sd) bU:=(by rw [Ck];exact Row.set (by rw [vS];exact Row.new cS [_,_,_,_,_,_,_,_,_,_,_,_,_,_,_,_] _) _:Row ly cS _ bU).ext (Ext.dr ly);have y34:=W8.tr (bA.tr fX);have xw:=x2.tr y34;refine (lJ (hF.ext xw) c Xd b (hsk.mono aa)).mono ?_;rintro e wP ⟨rfl,hr⟩;obtain ⟨F2,uw,t35⟩:=id hr;refine ⟨_,rfl,t35.mod.same _ aa (nF aa),t35.mod.same _ aa (nF aa),t35.mod.same _ aa (nF aa),t35.mod.same _ aa (nF aa),t35.mod.same _ aa (nF aa),Lo.wv (r34.same (t35.mod.same _ r34.lt (nF aa))),λjj Pu=> ?_⟩;rw [show ((cj M.T.2 c b).2==(cj M.T.2 c b).2)=true by simp];exact ⟨_,Da su xw (hR.ext fX) ⟨by omega,by omega⟩ aa hr (IM.ext y34) ((hs.edit c b).up.mono aa) ue Pu⟩
 ·refine (Li (c1,c2,c3) okc w6).mono ?_;rintro e qx ⟨rfl,ja⟩;have aqA:=ja.size;refine ⟨_,_,_,rfl,ja.heap aa,ja.heap aa,ja.heap aa,λnp U0 pY Wy=> ?_⟩;have ky:Ext qx pY:=(bq U0).ab Wy (ax _);have z43:=kC U0 Wy;have y43:=ja.tr ky;have Xd:dB (MJ (c1,c2,c3)):=by have q1:=gW c1 80 aE;have q2:=gW c2 34 aE;have q3:=gW c3 80 aE;unfold dB MJ;simp only;omega
  generalize MJ (c1,c2,c3)=c at*;refine (edit c bb Xd y43).mono ?_;rintro e cS ⟨t1,t2,t3,t4,t5,rfl,bA,hR⟩;have akn:=bA.size;refine ⟨_,_,_,_,_,t1,t2,t3,t4,_,_,t5,_,_,so,sd,_,rfl,bA.heap aa,bA.heap aa,bA.heap aa,bA.heap aa,λlz vS ly Ck=> ?_⟩;have fX:Ext cS ly.drew:=((bq vS).ab Ck (ax _)).tr (Ext.dr ly);have z34:=kC vS Ck;have zd:=lW ly;have r34:Row ly.drew cS (xM (gm M c bb) t1 t2 t3 t4 t5 so sd) bU:=(by rw [Ck];exact Row.set (by rw [vS];exact Row.new cS [_,_,_,_,_,_,_,_,_,_,_,_,_,_,_,_] _) _:Row ly cS _ bU).ext (Ext.dr ly);have y34:=y43.tr (bA.tr fX);have xw:=x2.tr y34;refine (lJ (hF.ext xw) c Xd bb (hsk.mono aa)).mono ?_;rintro e wP ⟨rfl,hr⟩;obtain ⟨F2,uw,t35⟩:=id hr;refine ⟨_,rfl,t35.mod.same _ aa (nF aa),t35.mod.same _ aa (nF aa),t35.mod.same _ aa (nF aa),t35.mod.same _ aa (nF aa),t35.mod.same _ aa (nF aa),Lo.wv (r34.same (t35.mod.same _ r34.lt (nF aa))),λjj Pu=> ?_⟩;rw [show ((cj M.T.2 c bb).2==(cj M.T.2 c bb).2)=true by simp];exact ⟨_,Da su xw (hR.ext fX) ⟨by omega,by omega⟩ aa hr (IM.ext y34) ((hs.edit c bb).up.mono aa) ue Pu⟩
 ·have had:=gW nn 8 aE;refine (iZ nn 8 w6 inn aE (by unfold inI;omega)).mono ?_;rintro e um ⟨rfl,hw⟩;subst hw;obtain ⟨k,hk⟩:=Int.eq_ofNat_of_zero_le had.1;rw [hk];have UT:k<8:=by omega
  refine ⟨_,rfl,rfl,rfl,rfl,(GV hb k aa h2 Qi hs aa WO).mono ?_⟩;rintro e lA ⟨v,rfl,t1,t2,t3,t4,t5,t6,t7,rfl,hR,qG⟩;have ako:=qG.size;refine ⟨_,_,_,_,_,t1,t2,t3,t4,_,_,t5,_,_,t6,t7,_,rfl,qG.heap aa,qG.heap aa,qG.heap aa,λpZ uG yI e88=> ?_⟩;have x88:Ext lA yI.drew:=((bq uG).ab e88 (ax _)).tr (Ext.dr yI);have z88:=kC uG e88;have zd:=lW yI;have r88:Row yI.drew lA (xM (runM (oM oc) k M).1 t1 t2 t3 t4 t5 t6 t7) bU:=(by rw [e88];exact Row.set (by rw [uG];exact Row.new lA [_,_,_,_,_,_,_,_,_,_,_,_,_,_,_,_] _) _:Row yI lA _ bU).ext (Ext.dr yI);have y88:=qG.tr x88;have xw:=x2.tr y88;refine (O6 hb k aa (hF.ext xw) (hO.ext xw) hs aa).mono ?_;rintro e FG ⟨rfl,hr⟩;obtain ⟨F2,uw,t89⟩:=id hr;refine ⟨_,rfl,t89.mod.same _ aa (nF aa),t89.mod.same _ aa (nF aa),t89.mod.same _ aa (nF aa),t89.mod.same _ aa (nF aa),Lo.wv (r88.same (t89.mod.same _ r88.lt (nF aa))),λTK W6=> ?_⟩;rw [show ((((runM (oM oc) k M).2:Nat):Int)==((runM (oM oc) k M).2:Nat))=true by simp];have hc5:(runM (oM oc) k M).1.cap=5:=(Ip _ _ _).trans ue;exact ⟨_,Da su xw (hR.ext x88) ⟨by omega,by omega⟩ aa hr (IM.ext y88) ((o5.run hb (oM oc) k hs).up.mono aa) hc5 W6⟩
 ·refine (Hc (hF.ext x2)).mono ?_;rintro e wU ⟨rfl,hw⟩;subst hw;refine ⟨_,rfl,rfl,rfl,rfl,Ej rfl ?_⟩;obtain ⟨Fw0,hW,-,-⟩:=(hF.ext x2).world;refine (vX hW).mono ?_;rintro e W5 ⟨rfl,hw⟩;subst hw;have hlen5:mD M.T.1<=500000:=by have:=hl.iv.m;omega
  have hTl:M.T.1.l.length<=1000000:=by have:=hl.iv.m;unfold mD at this;omega
  have i5:inI M.cap:=by rw [ue];unfold inI;decide
  refine ⟨_,rfl,rfl,rfl,rfl,Ej rfl (Br.mk (λ_=> ?_) (λ_=> ?_))⟩
  ·refine (zM (ag:=M.ag) (cap:=M.cap) h2.s.t Qi hl.ok (0,1)).mono ?_;rintro e M3 ⟨t1,t2,t3,rfl,abp,uo⟩;have akp:=uo.size;have hi':Iv (m+1) 0 (fI M.T.1 M.T.2 (0,1)).1:=V3 (D:=M.T.1) (l:=M.T.2) hl.iv (0,1);have hsu:vA (fI M.T.1 M.T.2 (0,1)).1.2:=Tc hl.s;refine ⟨_,_,_,_,_,t1,t2,t3,_,rfl,uo.heap aa,uo.heap aa,uo.heap aa,λaaS Ur yq Us fY qL=> ?_⟩;have ie:Ext M3 yq:=(bq Ur).ab Us (ax _);have akr:=kC Ur Us;have Fk:=uo.tr ie;have abq:RM (Bx (Nf N F) w.heap.size W5) M3 {M with T:=(fI M.T.1 M.T.2 (0,1)).1} oc t1 t2 t3 s4 sq so sd:=⟨⟨abp,h2.s.g.ext uo,h2.s.qo.ext uo,h2.s.ok⟩,h2.o.ext uo,h2.d.ext uo⟩;have Ut:=(abq.ext ie).box qL ⟨by omega,by omega⟩ (Jm.ext Fk) ot;have vL:Ext w fY.drew:=((x2.tr Fk).ab qL (ax _)).tr (Ext.dr fY);have aeW:=mL qL;have zd:=lW fY;have Uu:Row fY.drew w (xM {M with T:=(fI M.T.1 M.T.2 (0,1)).1} t1 t2 t3 s4 sq so sd) bU:=(by rw [qL];exact Row.set (Jm.ext Fk) _:Row fY w _ bU).ext (Ext.dr fY);have Uv:Row fY.drew w1 cb bU:=((IM.ext Fk).same (by rw [qL,setRow_other _ _ _ _ aa])).ext (Ext.dr fY);obtain ⟨Fw1,Xl,eG,aS⟩:=(hF.ext vL).world;refine (BN Xl hTl (0,1)).mono ?_;rintro e LJ ⟨rfl,hrw⟩;have hr:=aS (ch':=M.ch) hrw;obtain ⟨F2,uw,Bg⟩:=id hr;have gp:qS (fI M.T.1 M.T.2 (0,1)).1:=by obtain ⟨Fx,hWx,-,-⟩:=uw.world;exact WF.okt hWx hi' aa
   refine ⟨_,rfl,Bg.mod.same _ aa (nF aa),Bg.mod.same _ aa (nF aa),Bg.mod.same _ aa (nF aa),Bg.mod.same _ aa (nF aa),Lo.wv (Uu.same (Bg.mod.same _ Uu.lt (nF aa))),λPJ abr=> ?_⟩;rw [show ((fI M.T.1 M.T.2 (0,1)).2==(fI M.T.1 M.T.2 (0,1)).2)=true by simp];exact ⟨_,Da su vL (Ut.ext (Ext.dr fY)) ⟨by omega,by omega⟩ aa hr Uv ((hs.table hi' gp hsu).mono aa) ue abr⟩
  ·refine (EP (ag:=M.ag) (cap:=M.cap) h2.s.t Qi hl.ok hlen5 i5 (0,1)).mono ?_;rintro e M3 ⟨t1,t2,t3,rfl,abp,uo⟩;have akp:=uo.size;have hi':Iv (m+1) 0 (oD M.ag M.cap M.T.1 M.T.2 (0,1)).1:=ada (D:=M.T.1) (l:=M.T.2) hl.iv M.ag M.cap (0,1);have hsu:vA (oD M.ag M.cap M.T.1 M.T.2 (0,1)).1.2:=ZX hl.s ZY;refine ⟨_,_,_,_,_,t1,t2,t3,_,rfl,uo.heap aa,uo.heap aa,uo.heap aa,λaaS Ur yq Us fY qL=> ?_⟩;have ie:Ext M3 yq:=(bq Ur).ab Us (ax _);have akr:=kC Ur Us;have Fk:=uo.tr ie;have abq:RM (Bx (Nf N F) w.heap.size W5) M3 {M with T:=(oD M.ag M.cap M.T.1 M.T.2 (0,1)).1} oc t1 t2 t3 s4 sq so sd:=⟨⟨abp,h2.s.g.ext uo,h2.s.qo.ext uo,h2.s.ok⟩,h2.o.ext uo,h2.d.ext uo⟩;have Ut:=(abq.ext ie).box qL ⟨by omega,by omega⟩ (Jm.ext Fk) ot;have vL:Ext w fY.drew:=((x2.tr Fk).ab qL (ax _)).tr (Ext.dr fY);have aeW:=mL qL;have zd:=lW fY;have Uu:Row fY.drew w (xM {M with T:=(oD M.ag M.cap M.T.1 M.T.2 (0,1)).1} t1 t2 t3 s4 sq so sd) bU:=(by rw [qL];exact Row.set (Jm.ext Fk) _:Row fY w _ bU).ext (Ext.dr fY);have Uv:Row fY.drew w1 cb bU:=((IM.ext Fk).same (by rw [qL,setRow_other _ _ _ _ aa])).ext (Ext.dr fY);obtain ⟨Fw1,Xl,eG,aS⟩:=(hF.ext vL).world;refine (wE Xl hTl (0,1)).mono ?_;rintro e LJ ⟨rfl,hrw⟩;have hr:=aS (ch':=M.ch) hrw;obtain ⟨F2,uw,Bg⟩:=id hr;have gp:qS (oD M.ag M.cap M.T.1 M.T.2 (0,1)).1:=by obtain ⟨Fx,hWx,-,-⟩:=uw.world;exact WF.okt hWx hi' aa
   refine ⟨_,rfl,Bg.mod.same _ aa (nF aa),Bg.mod.same _ aa (nF aa),Bg.mod.same _ aa (nF aa),Bg.mod.same _ aa (nF aa),Lo.wv (Uu.same (Bg.mod.same _ Uu.lt (nF aa))),λPJ abr=> ?_⟩;rw [show ((oD M.ag M.cap M.T.1 M.T.2 (0,1)).2==(oD M.ag M.cap M.T.1 M.T.2 (0,1)).2)=true by simp];exact ⟨_,Da su vL (Ut.ext (Ext.dr fY)) ⟨by omega,by omega⟩ aa hr Uv ((hs.table hi' gp hsu).mono aa) ue abr⟩
 ·have lh:=hs.tj aa hb;refine (ti h2 Qi hl.ok lh.1 lh.2.1 lh.2.2 WO).mono ?_;rintro e lA ⟨v,rfl,t1,t2,t3,t4,t5,t6,t7,rfl,hR,qG⟩;have ako:=qG.size;refine ⟨_,_,_,_,_,t1,t2,t3,t4,_,_,t5,_,_,t6,t7,_,rfl,qG.heap aa,qG.heap aa,qG.heap aa,λpZ uG yI e88=> ?_⟩;have x88:Ext lA yI.drew:=((bq uG).ab e88 (ax _)).tr (Ext.dr yI);have z88:=kC uG e88;have zd:=lW yI;have r88:Row yI.drew lA (xM (fo (oM oc) M) t1 t2 t3 t4 t5 t6 t7) bU:=(by rw [e88];exact Row.set (by rw [uG];exact Row.new lA [_,_,_,_,_,_,_,_,_,_,_,_,_,_,_,_] _) _:Row yI lA _ bU).ext (Ext.dr yI);have y88:=qG.tr x88;have xw:=x2.tr y88;refine (lu (hF.ext xw) (hO.ext xw) lh.1 lh.2.1 lh.2.2).mono ?_;rintro e FG ⟨rfl,hr⟩;obtain ⟨F2,uw,t89⟩:=id hr;refine ⟨_,rfl,t89.mod.same _ aa (nF aa),t89.mod.same _ aa (nF aa),t89.mod.same _ aa (nF aa),t89.mod.same _ aa (nF aa),Lo.wv (r88.same (t89.mod.same _ r88.lt (nF aa))),λTK W6=> ?_⟩;rw [show ((((k7 M).length:Nat):Int)==((k7 M).length:Nat))=true by simp];exact ⟨_,Da su xw (hR.ext x88) ⟨by omega,by omega⟩ aa hr (IM.ext y88) ((hs.tick hb (oM oc)).up.mono aa) ((AG _ _ _).trans ue) W6⟩
end Go.Proofs.YtalpkjfpmdpbiaaGreatDoor
namespace Go.Proofs.YtalpkjfpmdpbiaaGreatDoor
open Go Go.Vc Go.RowKit Go.Proofs Go.dQ Go.bf Go.Code Go.ks Go.jd
set_option maxRecDepth 100000
def ZZ:uK bU/\bU≠pj/\bU≠eT/\bU≠tw/\bU≠Q.jw/\bU≠Q.bS/\bU≠iE:=by decide
section
variable {N F F':Nat->Prop} {w v w':World} {s o t:Nat} {M M':Sm} {occ:Value} {oc:List Ce} {s1 s2 s3 s4 sq so sd r1 r2 r3 r4 rq ro rd:Sl} {bud:Int} {m n:Nat}
def Bt.ext(h:Bt N F w s o t M occ oc s1 s2 s3 s4 sq so sd)(x:Ext w w'):Bt N F w' s o t M occ oc s1 s2 s3 s4 sq so sd:=⟨h.s.ext x,h.o.ext x,h.r.ext x,λi hi=>h.n i (fy x.size hi),h.l,h.c⟩
def Bt.box(h:Bt N F w s o t M occ oc s1 s2 s3 s4 sq so sd){g:Nat}(hN:¬N g)(hF:¬F g){cs:LV}(jx:Row w g cs bU){c:Array Value}(e:w'=w.setRow g c):Bt N F w' s o t M occ oc s1 s2 s3 s4 sq so sd:=by
 have hm:Mod (λi=>i=g) w w':=by rw [e];exact Au w g c
 refine ⟨h.s.same λi hi=>hm.same i (h.s.lt hi) λq=>hF (q▸hi),h.o.ib ⟨hm.mono λi _ hi=> .inr (hi▸hN),λi hi=> .inl hi⟩,h.r.same (λi hp hi=>⟨hm.same i hi λq=>hN (q▸hp.2),hp⟩) λg' cs' hr=>hm.same g' hr.lt λq=>hr.ne jx V5.2.2.2.2.2.2.2 q,λi hi=>h.n i (by rw [e] at hi;simpa using hi),h.l,h.c⟩
def Bt.boxed(su:Bt N F w s o t M occ oc r1 r2 r3 r4 rq ro rd)(x:Ext w v){g:Nat}(hg:w.heap.size<=g/\g<v.heap.size){cs:LV}(jx:Row v g cs bU){e:Ending}(h:ZW (λi=>N i/\i≠g) F v s o t M occ oc bud m n M' e w'):
  ∃(F':Nat->Prop)(s1 s2 s3 s4 sq so sd:Sl),e=Value.tuple #[.agg (xM M' s1 s2 s3 s4 sq so sd).toArray,true]/\o5 bud m M' n/\Row w' g cs bU/\v.heap.size<=w'.heap.size/\aG F F' v w'/\∀(w'':World)(c:Array Value),w''=w'.setRow g c->Bt N F' w'' s o t M' occ oc s1 s2 s3 s4 sq so sd/\aG F F' w w'':=by
 obtain ⟨F',s1,s2,s3,s4,sq,so,sd,rfl,hB,ht,hs⟩:=h;have hF:=su.s;have hgF:¬F g:=λq=>by have:=hF.lt q;omega
 have UX:∀i,F' i->i≠g:=λi hf q=>by
  rcases ht.sub i hf with q2|q2
  ·exact hgF (q▸q2)
  ·omega
 have Yy:Row w' g cs bU:=jx.same (ht.mod.same g jx.lt hgF);refine ⟨F',s1,s2,s3,s4,sq,so,sd,rfl,hs,Yy,ht.mod.size,ht,λw'' c e=> ?_⟩;have h1:aG F F' w w':=(aG.aM x).trans ht;have h3:aG F F' w w'':=⟨⟨by rw [e];exact h1.mod.os,by rw [e];exact h1.mod.tape,by rw [e];exact h1.mod.output,by rw [e];simpa using h1.mod.size,λi hi hn=>by rw [e,setRow_other _ _ _ _ aa];exact h1.mod.same i hi hn⟩,h1.sub⟩;exact ⟨⟨hB.s.same λi hi=>by rw [e,setRow_other _ _ _ _ (UX i hi)],su.o.ib (aG.beside h3 _),hB.r.same (λi hp hi=>⟨by rw [e,setRow_other _ _ _ _ hp.2.2],hp.1,hp.2.1⟩) λg' cs' hr=>by rw [e,setRow_other _ _ _ _ (hr.ne Yy V5.2.2.2.2.2.2.2)],λi hi=>su.n i (by have:=h3.mod.size;omega),hB.l,hB.c⟩,h3⟩
def Bt.aside(su:Bt N F w s o t M occ oc s1 s2 s3 s4 sq so sd)(x:Ext w v){g:Nat}(hg:w.heap.size<=g/\g<v.heap.size):Bt (λi=>N i/\i≠g) F v s o t M occ oc s1 s2 s3 s4 sq so sd:=by
 refine ⟨su.s.ext x,?_,su.r.same (λi hp hi=>⟨x.heap hi,hp.1,hp.2,by omega⟩) λg cs hr=>x.heap hr.lt,λi hi=>⟨su.n i (fy x.size hi),by omega⟩,su.l,su.c⟩;obtain ⟨D,h1,h2⟩:=su.o;refine ⟨D,λi hi=>⟨kN (h1 i hi).1 x.size,λq=> ?_⟩,λw'' hk=>h2 w'' λi hi=>(hk i hi).trans (x.heap (h1 i hi).1)⟩;obtain ⟨d1,d2⟩:=h1 i hi;rcases q with q|q
 ·exact d2 (.inl q)
 ·exact q ⟨Classical.byContradiction λq=>d2 (.inr q),by omega⟩
end
def FB(N F:Nat->Prop)(w:World)(s o t:Nat)(occ:Value)(oc:List Ce)(M:Sm)(a1 a2 a3 a4 a5:Int)(b1 b2 b3 b4:Sl)(c1 c2:Int)(c3:Sl)(c4 c5:Int)(c6 c7:Sl):Prop:=
 (a1=M.ag/\a2=M.cap/\a3=M.T.1.room/\a4=M.T.1.dt/\a5=M.T.1.wait/\c1=M.q.room/\c2=M.q.lost/\c4=M.aO/\c5=M.now)/\Bt N F w s o t M occ oc b1 b2 b3 b4 c3 c6 c7
def FB.of{N F:Nat->Prop}{w:World}{s o t:Nat}{occ:Value}{oc:List Ce}{M:Sm}{s1 s2 s3 s4 sq so sd:Sl}(h:Bt N F w s o t M occ oc s1 s2 s3 s4 sq so sd):FB N F w s o t occ oc M M.ag M.cap M.T.1.room M.T.1.dt M.T.1.wait s1 s2 s3 s4 M.q.room M.q.lost sq M.aO M.now so sd:=⟨⟨rfl,rfl,rfl,rfl,rfl,rfl,rfl,rfl,rfl⟩,h⟩
def iv5(ag:Int):Iv 0 0 (jN 0,l5 ag 5):=by refine ⟨ax _,λe he=> ?_,Ei ag⟩;obtain ⟨p,-,Vb⟩:=aR.1 he;generalize made ag p=m at*;subst Vb;exact ⟨oF _,oF _⟩
def ag6(ag:Int):vA (l5 ag 5):=by intro e he;obtain ⟨p,hp,Vb⟩:=aR.1 he;generalize made ag p=m at*;subst Vb;exact hp
def sw5{F:Nat->Prop}{w:World}{s o t:Nat}{occ:Value}{ag aO:Int}(h:SF F w s o t (M5 ag aO) occ):o5 (min (max aO 1) 64) 0 (M5 ag aO) 0:=by obtain ⟨Fw0,hW,-,-⟩:=h.world;exact ⟨⟨iv5 ag,WF.okt hW (iv5 ag) aa,ag6 ag,⟨rfl,λx hx=>by cases hx⟩⟩,ZV ag aO,rfl⟩
def pW:∀(l:List Go.jd.Cg)(M:Sm),(l.foldl bw M).now=M.now
 | [],M=>rfl
 |x::l,M=>(pW l (bw M x)).trans (by unfold bw;split<;>rfl)
def Wq(O:Ce->Bool)(M:Sm)(c:Ce):(fU O M c).now=M.now:=by
 unfold fU;split
 ·rfl
 ·split
  ·exact pW [_] {M with dR:=M.dR++ [bz c]}
  ·exact pW _ M
def IE(O:Ce->Bool):∀(l:List Ce)(M:Sm),(l.foldl (fU O) M).now=M.now
 | [],M=>rfl
 |x::l,M=>(IE O l (fU O M x)).trans (Wq O M x)
def To(O:Ce->Bool)(M:Sm):(fo O M).now=gh M:=IE O _ (iO M)
def Qe(l:List Go.ks.It)(now:Int):Nat:=(l.takeWhile λy=>decide (y.1<=now)).length
def Tn(l:List Go.ks.It)(now:Int):Qe l now<=l.length:=List.IsPrefix.length_le (List.takeWhile_prefix _)
def Z0(M:Sm)(h:1<=M.aO/\M.aO<=64):((k7 M).length:Int)=min (Qe M.q.l (gh M):Int) M.aO:=by unfold k7 rK;simp only;rw [aB,bG];have h1:=Tn M.q.l (gh M);have h2:fC M.q.l (gh M) M.aO=min (Qe M.q.l (gh M)) M.aO.toNat:=rfl;rw [h2];omega
end Go.Proofs.YtalpkjfpmdpbiaaGreatDoor
