import Derived.Test.YtalpkjfpmdpbiaaGreatDoorYT
set_option linter.all false
namespace Go.Proofs.YtalpkjfpmdpbiaaGreatDoor
open Go Go.Vc Go.RowKit Go.Proofs Go.dS Go.bh Go.Code Go.km Go.iQ
set_option maxRecDepth 100000
def RM.Yt{N F F':Nat->Prop}{v w':World}{s o t:Nat}{M0 M':Sm}{occ:Value}{oc:List Ce}{s1 s2 s3 s4 sq so sd:Sl}(hF:SF F v s o t M0 occ)(hR:RM (Nf N F) v M' oc s1 s2 s3 s4 sq so sd)(ht:aG F F' v w'):RM (Nf N F') w' M' oc s1 s2 s3 s4 sq so sd:=
 hR.same (λi hp hi=>⟨ht.mod.same i hi hp.1,λq=>(ht.sub i q).elim hp.1 aa,hp.2⟩) λg cs hr=>ht.mod.same g hr.lt (hF.oe hr JR.1 JR.2.1 JR.2.2.1 JR.2.2.2.1 JR.2.2.2.2.1 JR.2.2.2.2.2.1 JR.2.2.2.2.2.2.1)
def Jd{w:World}{a b:Sl}{l:List Ce}(ha:RdK w a 3 (l.map dn))(hb:RdK w b 3 (l.map dn))(hl:l.length<=1000000):ah 21 #[a,b] w λe w'=>e=true/\Ext w w':=by
 apply (yg.vc (a0:=a) (a1:=b));have n1:=ha.n;have n2:=hb.n;rw [aB] at n1 n2;refine pd (by rw [n1,n2];simp) ?_;refine ⟨λn x wr=>∃j:Nat,x=j/\j+n=l.length/\Ext w wr,⟨l.length,0,rfl,by omega,Ext.bX _⟩,?_⟩;rintro n us x wr ⟨j,rfl,hj,xr⟩;refine Br.mk (λeF=> ?_) (λ_=>⟨rfl,xr⟩);replace eF:=fe eF;obtain ⟨y,hy⟩:=aZ (l:=l) (i:=j) aa;have hy':(l.map dn)[j]? =some (dn y):=by rw [aV,hy];rfl
 have wk:=kK (j:=j);have xd:=xr.tr (Ext.dr wr);refine ⟨ha.fp (i:=(j:Int)) aC aa eF,_,_,_,(ha.ext xd).aY hy',hb.fp (i:=(j:Int)) aC aa aa,_,_,_,(hb.ext xd).aY hy',pd cx ⟨n-1,by omega,j+1,wk,by omega,xd⟩⟩
def EK(ag aO:Int)(q:Sl)(zq:List Ce)(a:Sl)(z:List (List Int))(w:World)(hq:RdK w q 3 (zq.map dn))(hz:RdK w a 6 (z.map λr=>r.map λn=> .int .i64 n))(hr:∀r ∈ z,r.length=6/\∀n ∈ r,inI n):
  ah 8 #[ag,aO,.slice q.a q.n q.c,a] w λe w'=>e=true/\Ext w w':=by
 apply (A9.vc (a2:=q) (a3:=a));have hn:=hz.n;rw [aB] at hn;have af7:=ahH aO;have ot:bG≠Q.tX:=by decide
 refine (Je ag aO q zq w hq).mono ?_;rintro e w0 ⟨s,o,t,F0,occ,r1,r2,r3,so0,rfl,hS0,hO0,hRT0,hso0,x0,f0⟩;have zz0:=x0.size;refine ⟨_,_,_,_,_,_,r1,r2,r3,⟨none,0,0⟩,_,_,⟨none,0,0⟩,_,_,so0,⟨none,0,0⟩,rfl,λdA JT ft uR=>pd rfl ?_⟩;have cK:Ext w0 ft:=(bo JT).ab uR (ax _);have z19:=jE JT uR;have af8:Row ft w0 (xM (M5 ag aO) r1 r2 r3 ⟨none,0,0⟩ ⟨none,0,0⟩ so0 ⟨none,0,0⟩) bG:=by rw [uR];exact Row.set (by rw [JT];exact Row.new w0 [_,_,_,_,_,_,_,_,_,_,_,_,_,_,_,_] _) _
 have Qi:(T6 zq).length<=1000:=by rw [aB,bF];omega
 have sW:Bt (λi=>i≠w0.heap.size) F0 ft s o t (M5 ag aO) occ (T6 zq) r1 r2 r3 ⟨none,0,0⟩ ⟨none,0,0⟩ so0 ⟨none,0,0⟩:=by
  refine ⟨hS0.ext cK,?_,⟨⟨hRT0.same λi hp hi=>⟨cK.heap hi,hp,by omega⟩,RG.nil,aj.nil,Ya⟩,hso0.same λi hp hi=>⟨cK.heap hi,hp,by omega⟩,LC.nil⟩,λi hi=>by omega,Qi,rfl⟩;obtain ⟨D,h1,h2⟩:=hO0;refine ⟨D,λi hi=>⟨kR (h1 i hi).1 cK.size,λq=> ?_⟩,λw'' hk=>h2 w'' λi hi=>(hk i hi).trans (cK.heap (h1 i hi).1)⟩;obtain ⟨d1,d2⟩:=h1 i hi;rcases q with q|q
  ·exact d2 (.inl q)
  ·exact q aa
 have Qk:=sw5 (hS0.ext cK);have fr0:∀i,F0 i->w.heap.size<=i:=f0;have al5:=x0.tr cK;refine ⟨λa1 a2 a3 a4 a5 b1 b2 b3 b4 c1 c2 c3 c4 c5 c6 c7 wj=>∃(A:Sm)(j:Nat)(F':Nat->Prop),FB (λi=>i≠w0.heap.size) F' wj s o t occ (T6 zq) A a1 a2 a3 a4 a5 b1 b2 b3 b4 c1 c2 c3 c4 c5 c6 c7/\qI (min (max aO 1) 64) j A 450000/\Ext w wj/\(∀i,F' i->w.heap.size<=i)/\w0.heap.size<wj/\(∀i,F' i->i≠w0.heap.size)/\Row wj w0 [.int .i64 a1,.int .i64 a2,.int .i64 a3,.int .i64 a4,.int .i64 a5,.slice b1.a b1.n b1.c,.slice b2.a b2.n b2.c,.slice b3.a b3.n b3.c,.slice b4.a b4.n b4.c,.int .i64 c1,.int .i64 c2,.slice c3.a c3.n c3.c,.int .i64 c4,.int .i64 c5,.slice c6.a c6.n c6.c,.slice c7.a c7.n c7.c] bG,?_,?_⟩
 ·refine ⟨λn k a1 a2 a3 a4 a5 b1 b2 b3 b4 c1 c2 c3 c4 c5 c6 c7 wj=>∃(j:Nat)(A:Sm)(F':Nat->Prop),k=j/\j+n=25/\FB (λi=>i≠w0.heap.size) F' wj s o t occ (T6 zq) A a1 a2 a3 a4 a5 b1 b2 b3 b4 c1 c2 c3 c4 c5 c6 c7/\qI (min (max aO 1) 64) j A (17920*j)/\Ext w wj/\(∀i,F' i->w.heap.size<=i)/\w0.heap.size<wj/\(∀i,F' i->i≠w0.heap.size)/\Row wj w0 [.int .i64 a1,.int .i64 a2,.int .i64 a3,.int .i64 a4,.int .i64 a5,.slice b1.a b1.n b1.c,.slice b2.a b2.n b2.c,.slice b3.a b3.n b3.c,.slice b4.a b4.n b4.c,.int .i64 c1,.int .i64 c2,.slice c3.a c3.n c3.c,.int .i64 c4,.int .i64 c5,.slice c6.a c6.n c6.c,.slice c7.a c7.n c7.c] bG,⟨25,0,_,F0,rfl,rfl,FB.of sW,Qk,al5,fr0,by omega,λi hi q=>by have:=sW.s.oe af8 odS.1 odS.2.1 odS.2.2.1 odS.2.2.2.1 odS.2.2.2.2.1 odS.2.2.2.2.2.1 odS.2.2.2.2.2.2;exact this (q▸hi),af8⟩,?_⟩;rintro n us k a1 a2 a3 a4 a5 b1 b2 b3 b4 c1 c2 c3 c4 c5 c6 c7 kE ⟨j,A,F',rfl,hj,⟨⟨rfl,rfl,rfl,rfl,rfl,rfl,rfl,rfl,rfl⟩,hB⟩,hs,jC,fr,af9,nb,rb⟩;refine Br.mk (λhb=>Br.mk (λeF=> ?_) (λeF=>⟨A,j,F',FB.of hB,hs.mono aa,jC,fr,af9,nb,rb⟩)) (λhb=>⟨A,j,F',FB.of hB,hs.mono aa,jC,fr,af9,nb,rb⟩);simp only [bA] at hb eF;obtain ⟨y,hy⟩:=aZ (l:=z) (i:=j) aa;obtain ⟨hy6,hyi⟩:=hr y (bf hy);obtain ⟨k0,bb,nn,c1',c2',c3',rfl⟩:∃k0 bb nn c1 c2 c3,y=[k0,bb,nn,c1,c2,c3]:=by
   match y,hy6 with
   | [k0,bb,nn,c1,c2,c3],_=>exact ⟨_,_,_,_,_,_,rfl⟩
  have hm:(z.map λr=>r.map λn=>Value.int .i64 n)[j]? =some [.int .i64 k0,.int .i64 bb,.int .i64 nn,.int .i64 c1',.int .i64 c2',.int .i64 c3']:=by rw [aV,hy];rfl
  have wk:=kK (j:=j);have xd:=Ext.dr kE;have zd:=kQ kE;have rbd:=rb.ext xd;refine ⟨λp b wj=>b=true/\∃(g:Nat)(A':Sm)(F2:Nat->Prop)(t1 t2 t3 t4 t5 t6 t7:Sl),p=bu g/\Row wj g (xM A' t1 t2 t3 t4 t5 t6 t7) bG/\Bt (λi=>i≠w0.heap.size) F2 wj s o t A' occ (T6 zq) t1 t2 t3 t4 t5 t6 t7/\qI (min (max aO 1) 64) (j+1) A' (17920*j+17920)/\aG F' F2 kE wj,
   ⟨(hz.ext (jC.tr xd)).fp (i:=(j:Int)) aC aa hb,_,_,_,_,_,_,(hz.ext (jC.tr xd)).aY hm,?_,λwB e70=> ?_⟩,?_⟩
  ·refine (xm (hB.ext xd) hs aa aa af7 k0 bb nn c1' c2' c3' hyi).mono ?_;rintro e xD ⟨M',F2,t1,t2,t3,t4,t5,t6,t7,rfl,hB2,MG,jE⟩;have ar2:=MG.mod.size;refine ⟨_,_,_,_,_,t1,t2,t3,t4,_,_,t5,_,_,t6,t7,_,rfl,MG.mod.same _ aa (λhf=>nb _ hf rfl),λJU VX jz e69=> ?_⟩;have mO:Ext xD jz:=(bo VX).ab e69 (ax _);exact ⟨rfl,rfl,xD.heap.size,M',F2,t1,t2,t3,t4,t5,t6,t7,rfl,by rw [e69];exact Row.set (by rw [VX];exact Row.new xD [_,_,_,_,_,_,_,_,_,_,_,_,_,_,_,_] _) _,hB2.ext mO,jE,((aG.aN xd).trans MG).trans (aG.aN mO)⟩
  ·have jD:Ext kE wB:=xd.ay e70;have z70:wB.heap.size=kE.heap.size+1:=by rw [e70];simp [zd]
   have r70:∃cs,Row wB kE.drew.heap.size cs bG:=⟨_,by rw [e70];exact Row.new kE.drew [_,_,_,_,_,_,_,_,_,_,_,_,_,_,_,_] _⟩;obtain ⟨c70,r70⟩:=r70;have Y1:kE.heap.size<=kE.drew.heap.size/\kE.drew.heap.size<wB:=⟨by omega,by omega⟩;refine (xm (hB.aside jD Y1) hs aa aa af7 k0 bb nn c1' c2' c3' hyi).mono ?_;rintro e w71 ⟨M',hdo⟩;obtain ⟨F2,t1,t2,t3,t4,t5,t6,t7,rfl,jE,r71,ar5,ht,aaH⟩:=hB.boxed jD Y1 r70 hdo;refine ⟨_,_,_,_,_,t1,t2,t3,t4,_,_,t5,_,_,t6,t7,_,rfl,ht.mod.same _ aa (λhf=>nb _ hf rfl),ht.mod.same _ aa (λhf=>by have:=hB.s.lt hf;omega),λGi e89=> ?_⟩;obtain ⟨q1,q2⟩:=aaH Gi _ e89;exact ⟨rfl,rfl,kE.drew.heap.size,M',F2,t1,t2,t3,t4,t5,t6,t7,rfl,by rw [e89];exact Row.set r71 _,q1,jE,q2⟩
  ·rintro abg p b Qd ⟨rfl,g,A',F2,t1,t2,t3,t4,t5,t6,t7,rfl,hg,hB2,jE,MG⟩;have ar6:=MG.mod.size;obtain ⟨NP,fr2⟩:=MG.fresh jC fr;have agb:=rb.same (MG.mod.same _ rb.lt (λhf=>nb _ hf rfl));have nb2:∀i,F2 i->i≠w0.heap.size:=λi hi q=>by
    rcases MG.sub i hi with h|h
    ·exact nb i h q
    ·omega
   refine ⟨_,_,_,_,_,t1,t2,t3,t4,_,_,t5,_,_,t6,t7,Lo.wv hg,λfo q7=>pd rfl ?_⟩;have afv:=mC q7;have hB3:=hB2.box (λq=>q rfl) (λq=>nb2 _ q rfl) agb q7;have qY:=NP.ab q7 aa;have JN:Row fo w0 (xM A' t1 t2 t3 t4 t5 t6 t7) bG:=by rw [q7];exact Row.set agb _
   have xd3:=Ext.dr fo;have zd3:=kQ fo;have hz3:=hz.ext (qY.tr xd3);have cX:=hz3.fp (i:=(j:Int)) aC aa hb;have lA:(ae a.a (((j:Nat):Int).toNat*6)).isSome=true:=by obtain ⟨p,hp⟩:=kS.1 cX.1;rw [hp];rfl
   refine ⟨cX,BM lA ⟨c1',c2',c3',ga λi u hu=> ?_,(IW (hB3.ext xd3) jE.l.ok (c1',c2',c3')).mono ?_⟩⟩
   ·rw [cP,eo]
    match i,hu with
    |0,hu=>exact hz3.at hm (j:=3) hu
    |1,hu=>exact hz3.at hm (j:=4) hu
    |2,hu=>exact hz3.at hm (j:=5) hu
   rintro e sV ⟨rfl,qn⟩;have agc:=qn.size;have xd4:=xd3.tr qn;exact ⟨_,rfl,qn.heap aa,pd rfl ⟨n-1,by omega,j+1,A',F2,wk,by omega,FB.of (hB3.ext xd4),by rw [show 17920*(j+1)=17920*j+17920 by omega];exact jE,qY.tr xd4,fr2,by omega,nb2,JN.ext xd4⟩⟩
 rintro aop a1 a2 a3 a4 a5 b1 b2 b3 b4 c1 c2 c3 c4 c5 c6 c7 QD ⟨A,m0,F',⟨⟨rfl,rfl,rfl,rfl,rfl,rfl,rfl,rfl,rfl⟩,hB⟩,hs,qq,fr,aoq,nb,rb⟩;have hS:=hB.s;refine (pN hS).mono ?_;rintro e FW ⟨rfl,hw⟩;subst hw;have xd:=Ext.dr FW;have zd:=kQ FW;have hSd:=hS.ext xd;refine ⟨_,rfl,rfl,pd rfl ((IQ hSd).mono ?_)⟩;rintro e Vi ⟨sc,rfl,amb,F2,te,MG⟩;have aor:=MG.mod.size;have VV:=RM.Yt hSd (hB.r.ext xd) MG;obtain ⟨CI,fr2⟩:=MG.fresh (qq.tr xd) fr;have Zj:=(rb.ext xd).same (MG.mod.same _ aa (λhf=>nb _ hf rfl));have nb2:∀i,F2 i->i≠w0.heap.size:=λi hi q=>by
  rcases MG.sub i hi with h|h
  ·exact nb i h q
  ·omega
 have hch:=hs.k.c;refine ⟨sc,rfl,MG.mod.same _ aa (λhf=>nb _ hf rfl),Zj.at 8 rfl,(Fi (amb.rd aC) VV.s.g.r aa).mono ?_⟩;rintro e Vj ⟨rfl,FN⟩;have aos:=FN.size;have hS2x:=te.ext FN;refine ⟨_,rfl,FN.heap aa,Br.mk (λ_=>(xc hS2x).mono ?_) (λq=>by cases q)⟩;rintro e FP ⟨sdd,rfl,amc,⟨F3,hS3,ht3⟩,hm3⟩;have aot:=ht3.mod.size;have MD:=RM.Yt hS2x (VV.ext FN) ht3;have agd:=(Zj.ext FN).same (ht3.mod.same _ aa (λhf=>nb2 _ hf rfl));obtain ⟨Ms,fr3⟩:=ht3.fresh (CI.tr FN) fr2;have nb3:∀i,F3 i->i≠w0.heap.size:=λi hi q=>by
  rcases ht3.sub i hi with h|h
  ·exact nb2 i h q
  ·omega
 have hdr:=hs.k.d;refine ⟨sdd,rfl,ht3.mod.same _ aa (λhf=>nb2 _ hf rfl),agd.at 15 rfl,(Jd (amc.rd aC) MD.d.r (show A.dK.length<=1000000 by omega)).mono ?_⟩;rintro e u5 ⟨rfl,Qt⟩;have aou:=Qt.size;refine ⟨_,rfl,Qt.heap aa,Br.mk (λ_=>(xc (hS3.ext Qt)).mono ?_) (λq=>by cases q)⟩;rintro e JM ⟨se,rfl,hoe,⟨F4,hS4,ht4⟩,hm4⟩;have aov:=ht4.mod.size;have dN:se.n=0:=(hoe.rd (show 0<3 by decide)).n;obtain ⟨Mt,fr4⟩:=ht4.fresh (Ms.tr Qt) fr3;refine ⟨se,rfl,ht4.mod.same _ aa (λhf=>nb3 _ hf rfl),Br.mk (λ_=>(Ff JM).mono ?_) (λq=>by rw [dN] at q;simp at q)⟩;rintro e Jz ⟨rfl,JL⟩;exact ⟨_,rfl,JL.heap aa,rfl,Mt.tr JL⟩
end Go.Proofs.YtalpkjfpmdpbiaaGreatDoor
