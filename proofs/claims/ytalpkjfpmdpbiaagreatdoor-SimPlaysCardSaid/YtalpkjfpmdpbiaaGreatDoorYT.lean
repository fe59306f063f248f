import Derived.Test.YtalpkjfpmdpbiaaGreatDoorGX
import Derived.Test.YtalpkjfpmdpbiaaGreatDoorYR
import Derived.Test.YtalpkjfpmdpbiaaGreatDoorP
import Derived.Test.YtalpkjfpmdpbiaaGreatDoorZG
import Derived.Test.YtalpkjfpmdpbiaaGreatDoorRL
import Derived.Test.YtalpkjfpmdpbiaaGreatDoorYI
set_option linter.all false
namespace Go.Proofs.YtalpkjfpmdpbiaaGreatDoor
open Go Go.Vc Go.RowKit Go.Proofs
set_option maxRecDepth 100000
set_option maxHeartbeats 8000000
set_option linter.unusedVariables false
variable {R:Ending->World->Prop} {w:World} {a0 a1 a2 a3 a4 a5 a6 a7 a8 a9 aq ar av aI aJ aK aL aH bO eE ao ak aw dB gn gB gC gD fM gE db dR dO ln lO nv ym yn yp yq yt yu yw yx yy yz yA yB yC yD:Int}
def A9.vc{a2:Sl}{a3:Sl}(h:
 ah 9 #[a0,a1,a2] w (λe w0=>∃(p1:Option Addr)(x2 x3 x4 x5 x6:Int)(s7 s8 s9 cO:Sl)(bR bU:Int)(gl:Sl)(bW bw:Int)(kH gF:Sl),e=Value.tuple #[p1,.agg #[x2,x3,x4,x5,x6,s7,s8,s9,cO,bR,bU,gl,bW,bw,kH,gF]]/\
 Aw w0 #[af,af,af,af,af,.slice none 0 0,.slice none 0 0,.slice none 0 0,.slice none 0 0,af,af,.slice none 0 0,af,af,.slice none 0 0,.slice none 0 0] 39 λdA=>
 Sw dA w0 #[x2,x3,x4,x5,x6,s7,s8,s9,cO,bR,bU,gl,bW,bw,kH,gF] λft=>
 Br (p1).isNone
 (R false ft)
 (∃J20:Int->Int->Int->Int->Int->Sl->Sl->Sl->Sl->Int->Int->Sl->Int->Int->Sl->Sl->World->Prop,
 (∃I21:Nat->Int->Int->Int->Int->Int->Int->Sl->Sl->Sl->Sl->Int->Int->Sl->Int->Int->Sl->Sl->World->Prop,
 (∃n22,I21 n22 (0) x2 x3 x4 x5 x6 s7 s8 s9 cO bR bU gl bW bw kH gF ft)/\
 ∀(n22:Nat)(arQ:Nat->Value)(de da dZ dp eS iO:Int)(g7 ib iW J2:Sl)(gf jy:Int)(pk:Sl)(gk je:Int)(sU QP:Sl)(kE:World),I21 n22 de da dZ dp eS iO g7 ib iW J2 gf jy pk gk je sU QP kE->
 Br (decide (de<((a3.n:Nat):Int)))
 (Br (de<25)
 (∃J43:Option Addr->Bool->World->Prop,
 (cA a3.a de a3.n/\∃(jI lp pj mc sH j4:Int),au kE.drew (ae a3.a ((de:Int).toNat*6)) 0 [jI,lp,pj,mc,sH,j4]/\
 (ah 32 #[p1,.agg #[da,dZ,dp,eS,iO,g7,ib,iW,J2,gf,jy,pk,gk,je,sU,QP],.agg #[jI,lp,pj,mc,sH,j4]] kE.drew (λe xD=>∃(VK uS uO uW yK:Int)(Y3 QO s58 Mr:Sl)(Bu pn:Int)(Qm:Sl)(lQ FK:Int)(Ul s66:Sl)(b67:Bool),e=Value.tuple #[.agg #[VK,uS,uO,uW,yK,Y3,QO,s58,Mr,Bu,pn,Qm,lQ,FK,Ul,s66],b67]/\Kp w0 kE.drew xD/\
 Aw xD #[af,af,af,af,af,.slice none 0 0,.slice none 0 0,.slice none 0 0,.slice none 0 0,af,af,.slice none 0 0,af,af,.slice none 0 0,.slice none 0 0] 39 λJU=>
 Sw JU xD #[VK,uS,uO,uW,yK,Y3,QO,s58,Mr,Bu,pn,Qm,lQ,FK,Ul,s66] λjz=>
 aP [da,dZ,dp,eS,iO,g7,ib,iW,J2,gf,jy,pk,gk,je,sU,QP]/\J43 (bu xD) b67 jz))/\(Aw kE.drew #[af,af,af,af,af,.slice none 0 0,.slice none 0 0,.slice none 0 0,.slice none 0 0,af,af,.slice none 0 0,af,af,.slice none 0 0,.slice none 0 0] 39 λwB=>
 ah 32 #[p1,.agg #[da,dZ,dp,eS,iO,g7,ib,iW,J2,gf,jy,pk,gk,je,sU,QP],.agg #[jI,lp,pj,mc,sH,j4]] wB (λe w71=>∃(qQ rH qm x75 rI:Int)(DT vf NR Bv:Sl)(x81 rE:Int)(s83:Sl)(NH NI:Int)(s86 s87:Sl)(b88:Bool),e=Value.tuple #[.agg #[qQ,rH,qm,x75,rI,DT,vf,NR,Bv,x81,rE,s83,NH,NI,s86,s87],b88]/\Kp w0 wB w71/\w71.heap[kE.drew.heap.size]? =wB.heap[kE.drew.heap.size]?/\
 Sw w71 kE.drew.heap.size #[qQ,rH,qm,x75,rI,DT,vf,NR,Bv,x81,rE,s83,NH,NI,s86,s87] λGi=>
 aP [da,dZ,dp,eS,iO,g7,ib,iW,J2,gf,jy,pk,gk,je,sU,QP]/\J43 (bu kE.drew.heap.size) b88 Gi)))/\
 ∀abg:Nat->Value,∀(p91:Option Addr)(b92:Bool)(Qd:World),J43 p91 b92 Qd->
 ∃(Jr Cy BT vd td:Int)(Gg uT CM FV:Sl)(mL sO:Int)(BA:Sl)(wE uU:Int)(CN Js:Sl),au Qd p91 0 [Jr,Cy,BT,vd,td,Gg,uT,CM,FV,mL,sO,BA,wE,uU,CN,Js]/\
 Sw Qd w0 #[Jr,Cy,BT,vd,td,Gg,uT,CM,FV,mL,sO,BA,wE,uU,CN,Js] λfo=>
 Br (!b92)
 (R false fo.drew)
 (cA a3.a de a3.n/\bk (eV (ae a3.a ((de:Int).toNat*6))) (∃(UZ qu U0:Int),au fo.drew (ae (ae a3.a ((de:Int).toNat*6)) 3) 0 [UZ,qu,U0]/\
 ah 33 #[p1,.agg #[Jr,Cy,BT,vd,td,Gg,uT,CM,FV,mL,sO,BA,wE,uU,CN,Js],.agg #[UZ,qu,U0]] fo.drew (Rb λalL sV=>Kp w0 fo.drew sV/\
 Br (!alL)
 (R false sV)
 (∃n42,n42<n22/\I21 n42 ((ai (de+1))) Jr Cy BT vd td Gg uT CM FV mL sO BA wE uU CN Js sV)))))
 (J20 da dZ dp eS iO g7 ib iW J2 gf jy pk gk je sU QP kE))
 (J20 da dZ dp eS iO g7 ib iW J2 gf jy pk gk je sU QP kE))/\
 ∀aoe:Nat->Value,∀(sR sS nz CB Mq:Int)(JA alM Uk Bw:Sl)(CG CH:Int)(BI:Sl)(Jt Ju:Int)(sT Qs:Sl)(QD:World),J20 sR sS nz CB Mq JA alM Uk Bw CG CH BI Jt Ju sT Qs QD->
 ah 10 #[p1] QD (λe FW=>∃(acz:Option Addr),e=acz/\Kp w0 QD FW/\
 Br (acz).isNone
 (R false FW)
 (ah 24 #[acz] FW.drew (Rs λqt Vi=>Kp w0 FW.drew Vi/\
 au Vi (lX w0 8) 0 [Bw]/\ah 34 #[qt,Bw] Vi (Rb λalN Vj=>Kp w0 Vi Vj/\
 Br alN
 (ah 20 #[p1] Vj (Rs λXB FP=>Kp w0 Vj FP/\
 au FP (lX w0 15) 0 [Qs]/\ah 21 #[XB,Qs] FP (Rb λalO u5=>Kp w0 FP u5/\
 Br alO
 (ah 20 #[p1] u5 (Rs λMu JM=>Kp w0 u5 JM/\
 Br ((((Mu.n:Nat):Int):Int)==0)
 (ah 13 #[] JM (Rb λalP Jz=>Kp w0 JM Jz/\
 R alP Jz))
 (R false JM)))
 (R false u5))))
 (R false Vj)))))))):ah 8 #[a0,a1,a2,a3] w R:=
 cq ⟨[(5,⟨[(11,.int .i64)],[(0,[.int .i64,.int .i64,.int .i64,.int .i64,.int .i64,.slice,.slice,.slice,.slice,.int .i64,.int .i64,.slice,.int .i64,.int .i64,.slice,.slice])],[]⟩)],[(8,⟨[(12,.ptr),(13,.bool)],[],[]⟩),(11,⟨[],[(0,[.int .i64,.int .i64,.int .i64,.int .i64,.int .i64,.slice,.slice,.slice,.slice,.int .i64,.int .i64,.slice,.int .i64,.int .i64,.slice,.slice])],[]⟩)],[]⟩ Tryz.func8 h
end Go.Proofs.YtalpkjfpmdpbiaaGreatDoor
namespace Go.Proofs.YtalpkjfpmdpbiaaGreatDoor
open Go Go.Vc Go.RowKit Go.Proofs Go.dS Go.bh Go.Code Go.km Go.iQ
set_option maxRecDepth 100000
section
variable {F F':Nat->Prop} {w w':World} {s o t:Nat} {M M':Sm} {occ:Value}
def PR(h:SF F w s o t M occ):ah 29 #[s] w λe w'=>e=(M.now)/\w'=w:=by obtain ⟨g,sd,h1,-⟩:=h.row;apply G6.vc;exact ⟨_,h1.at 3 rfl,rfl,rfl⟩
end
def A3{w:World}{a b:Sl}{x:List Go.km.It}(ha:RdK w a 4 (x.map cN))(hb:RdK w b 4 (x.map cN))(hl:x.length<=5000):
  ah 30 #[a,b] w λe w'=>e=true/\Ext w w':=by
 apply (yf.vc (a0:=a) (a1:=b));have n1:=ha.n;have n2:=hb.n;rw [aB] at n1 n2;refine Br.mk (λq=>by simp [n1,n2] at q) (λ_=>⟨λn x' w'=>∃j:Nat,x'=j/\j+n=x.length/\Ext w w',⟨x.length,0,rfl,by omega,Ext.bX _⟩,?_⟩);rintro n us x' w4 ⟨j,rfl,hj,x4⟩;refine Br.mk (λeF=> ?_) (λeF=>⟨rfl,x4⟩);replace eF:=fe eF;obtain ⟨y,hy⟩:=aZ (l:=x) (i:=j) aa;have xd:=x4.tr (Ext.dr _);have hy':(x.map cN)[j]? =some (cN y):=by rw [aV,hy];rfl
 refine ⟨ha.fp (i:=(j:Int)) aC aa eF,_,_,_,_,(ha.ext xd).aY hy',hb.fp (i:=(j:Int)) aC aa aa,_,_,_,_,(hb.ext xd).aY hy',Br.mk (λq=>by simp at q) (λ_=> ?_)⟩;have wk:=kK (j:=j);exact ⟨n-1,by omega,j+1,wk,by omega,xd⟩
def aaD(y:Go.km.It):One (cN y):=by intro v hv;simp at hv;rcases hv with rfl|rfl|rfl|rfl<;>rfl
def L6{w:World}{a:Sl}{x:List Go.km.It}(ha:RdK w a 4 (x.map cN))(hl:x.length<=5000):
  ah 31 #[a] w λe w'=>∃s:Sl,e=Value.slice s.a s.n s.c/\aj w Q.tX 4 w' s (x.map cN)/\Ext w w':=by
 apply (IV.vc (a0:=a));have n1:=ha.n;rw [aB] at n1;refine ⟨λn i s wr=>∃j:Nat,i=j/\j+n=x.length/\aj w Q.tX 4 wr s ((x.take j).map cN)/\Ext w wr,⟨x.length,0,rfl,by omega,aj.nil,Ext.bX _⟩,?_⟩;rintro n us i s wr ⟨j,rfl,hj,ho,xr⟩;have zr:=xr.size;apply Br.mk<;>intro hb
 ·replace hb:=fe hb;obtain ⟨y,hy⟩:=aZ (l:=x) (i:=j) aa;have hy':(x.map cN)[j]? =some (cN y):=by rw [aV,hy];rfl
  have j2:x.take (j+1)=x.take j++ [y]:=by rw [cm,hy];rfl
  have wk:=kK (j:=j);have fq:=ha.ext (xr.tr (Ext.dr wr));have cX:=ha.fp (i:=(j:Int)) aC aa hb;have lA:(ae a.a ((((j:Nat):Int)).toNat*4)).isSome=true:=by obtain ⟨p,hp⟩:=kS.1 cX.1;rw [hp];rfl
  refine ⟨cX,BM lA ⟨y.1,fq.at hy' (j:=0) rfl,cX,BM lA ⟨y.2.1,y.2.2.1,y.2.2.2,ga λi u hu=> ?_,λcB yl=> ?_⟩⟩⟩
  ·rw [cP,eo]
   match i,hu with
   |0,hu=>exact fq.at hy' (j:=1) hu
   |1,hu=>exact fq.at hy' (j:=2) hu
   |2,hu=>exact fq.at hy' (j:=3) hu
  subst yl;have zd:=kQ wr;have hns:s.n=j:=by have h1:=(ho.rd (show 0<4 by decide)).n;rw [aB,bF] at h1;omega
  obtain ⟨Ml,hres8⟩:=(ho.ext (Ext.dr wr)).kJ (bytes:=32) (news:=cN y) (.cells #[y.1,y.2.1,y.2.2.1,y.2.2.2] Q.tX) aa rfl (aaD y) aa aa;refine ⟨Ml,λeM cC amg=> ?_⟩;obtain ⟨f8,xt,hn8,x8,Vz,-⟩:=hres8 eM cC amg;refine ⟨f8,n-1,by omega,j+1,wk,by omega,?_,(Below.trans (xr.tr (Ext.dr wr)) x8:Below w w cC)⟩;rw [j2,aT];exact xt
 ·replace hb:=eX hb;rw [cZ aa] at ho;exact ⟨s,rfl,ho,xr⟩
def IS(n:Int)(hn:inI n)(w:World):ah 25 #[n] w λe w'=>∃b:Int,e=b/\Ext w w':=by
 apply IU.vc;refine (iZ n 8 aC aC w).mono ?_;rintro e w0 ⟨rfl,rfl⟩;have hb:0<=n % 8/\n % 8<8:=by omega
 refine ⟨_,rfl,Br.mk (λh=>(yj n w0 hn).mono ?_) (λh w4 e4=> ?_)⟩
 ·rintro e w2 ⟨rfl,hw⟩;exact ⟨_,rfl,_,rfl,by rw [hw];exact Ext.bX _⟩
 ·have h:=kX h;have hr:Row w4 w0 [(3:Int),(3:Int),(8:Int),(8:Int),(1:Int),af,(4:Int)] 3:=Row.nw e4;have hx:∃v:Int,([(3:Int),(3:Int),(8:Int),(8:Int),(1:Int),af,(4:Int)]:LV)[(n % 8).toNat*1]? =some (.int .i64 v):=by
   have:(n % 8).toNat=0\/(n % 8).toNat=1\/(n % 8).toNat=2\/(n % 8).toNat=3\/(n % 8).toNat=4\/(n % 8).toNat=5\/(n % 8).toNat=6:=by omega
   rcases this with q|q|q|q|q|q|q<;>(rw [q];exact ⟨_,rfl⟩)
  obtain ⟨v,hv⟩:=hx;exact ⟨⟨rfl,by omega,by omega⟩,v,hr.at _ hv,v,rfl,(bo e4)⟩
end Go.Proofs.YtalpkjfpmdpbiaaGreatDoor
namespace Go.Proofs.YtalpkjfpmdpbiaaGreatDoor
open Go Go.Vc Go.RowKit Go.Proofs Go.dS Go.bh Go.Code Go.km Go.iQ
set_option maxRecDepth 100000
def JR:oZ Q.tX/\Q.tX≠mE/\Q.tX≠eH/\Q.tX≠pc/\Q.tX≠Q.ig/\Q.tX≠Q.bT/\Q.tX≠gz/\Q.tX≠bG:=by decide
section
variable {N F F':Nat->Prop} {w v w':World} {s o t:Nat} {M M' M0:Sm} {occ:Value} {oc:List Ce} {s1 s2 s3 s4 sq so sd r1 r2 r3 r4 rq ro rd:Sl} {bud:Int} {m n:Nat} {a b:Nat}
structure Bt(N F:Nat->Prop)(w:World)(s o t:Nat)(M:Sm)(occ:Value)(oc:List Ce)(s1 s2 s3 s4 sq so sd:Sl):Prop where
 s:SF F w s o t M occ
 o:Oc occ (oM oc) (λi=>F i\/¬N i) w
 r:RM (Nf N F) w M oc s1 s2 s3 s4 sq so sd
 n:Fw N w
 l:oc.length<=1000
 c:M.cap=5
def RM.Lj(hF:SF F v s o t M0 occ)(hR:RM (Bx (Nf N F) a b) v M' oc s1 s2 s3 s4 sq so sd)(ht:aG F F' v w'):RM (Bx (Nf N F') a b) w' M' oc s1 s2 s3 s4 sq so sd:=
 hR.same (λi hp hi=>⟨ht.mod.same i hi hp.1.1,⟨λq=>(ht.sub i q).elim hp.1.1 aa,hp.1.2⟩,hp.2⟩) λg cs hr=>ht.mod.same g hr.lt (hF.oe hr JR.1 JR.2.1 JR.2.2.1 JR.2.2.2.1 JR.2.2.2.2.1 JR.2.2.2.2.2.1 JR.2.2.2.2.2.2.1)
def aG.beside(h:aG F F' w w')(G:Nat->Prop):aG (λi=>F i\/G i) (λi=>F' i\/G i) w w':=⟨h.mod.mono λi _ hi=> .inl hi,λi hi=>hi.elim (λq=>(h.sub i q).imp .inl id) λq=> .inl (.inr q)⟩
def aaw(N F:Nat->Prop)(w:World)(s o t:Nat)(M:Sm)(occ:Value)(oc:List Ce)(bud:Int)(m n:Nat)(M':Sm)(e:Ending)(w':World):Prop:=
 ∃(F':Nat->Prop)(s1 s2 s3 s4 sq so sd:Sl),e=Value.tuple #[.agg (xM M' s1 s2 s3 s4 sq so sd).toArray,true]/\Bt N F' w' s o t M' occ oc s1 s2 s3 s4 sq so sd/\aG F F' w w'/\qI bud m M' n
def DE{B g:Nat}{c:Array Value}{ia:World}{cs:LV}(sW:Bt N F w s o t M occ oc r1 r2 r3 r4 rq ro rd)(x:Ext w v)(hR:RM (Bx (Nf N F) w.heap.size B) v M' oc s1 s2 s3 s4 sq so sd)(hB:w.heap.size<=g/\g<B)(hBv:B<=v.heap.size)(hr:jM F v s o t M' occ w')(hg:Row v g cs bG)(hs:qI bud m M' n)(hc:M'.cap=5)(e:ia=w'.setRow g c):
  aaw N F w s o t M occ oc bud m n M' (.returned (.tuple #[.agg (xM M' s1 s2 s3 s4 sq so sd).toArray,true])) ia:=by
 obtain ⟨F',h',ht⟩:=hr;have hF:=sW.s;have h1:aG F F' w w':=(aG.aN x).trans ht;have VC:∀i,F' i->i≠g:=λi hf q=>by
  rcases ht.sub i hf with q2|q2
  ·have:=hF.lt q2;omega
  ·omega
 have hgF:¬F g:=λq=>by have:=hF.lt q;omega
 have hg':Row w' g cs bG:=hg.same (ht.mod.same g hg.lt hgF);have h3:aG F F' w ia:=⟨⟨by rw [e];exact h1.mod.os,by rw [e];exact h1.mod.tape,by rw [e];exact h1.mod.output,by rw [e];simpa using h1.mod.size,λi hi hn=>by rw [e,setRow_other _ _ _ _ aa];exact h1.mod.same i hi hn⟩,h1.sub⟩;exact ⟨F',s1,s2,s3,s4,sq,so,sd,rfl,⟨h'.same λi hi=>by rw [e,setRow_other _ _ _ _ (VC i hi)],sW.o.iT (aG.beside h3 _),((RM.Lj (hF.ext x) hR ht).box e hB hg' aC).out,λi hi=>sW.n i (by have:=h3.mod.size;omega),sW.l,hc⟩,h3,hs⟩
end
def aax{ag limit:Int}{D:Dk}{l:List En}{p:Po}(h:wc l)(hp:p ∈ fG):wc (oL ag limit D l p).1.2:=by
 have hroom:wc (cG limit D l).1.2:=λe he=>by obtain ⟨x,hx,hq⟩:=IK he;exact hq▸h x hx
 unfold oL;split
 ·exact h
 ·split
  ·intro e he;rcases cu.1 he with q|q
   ·exact h e ((oK ..).subset q)
   ·rw [Option.mem_toList] at q;exact h e (bf q)
  ·split
   ·exact hroom
   ·intro e he;rcases cu.1 he with q|q
    ·exact hroom e q
    ·rw [fB.1 q];exact hp
def TI{D:Dk}{l:List En}{p:Po}(h:wc l):wc (fO D l p).1.2:=by
 unfold fO;split
 ·split
  ·exact h
  ·intro e he;obtain ⟨x,hx,hq⟩:=TB he;exact hq▸h x hx
 ·exact h
def aay:((0,1):Po) ∈ fG:=by decide
section
variable {bud:Int} {m n:Nat} {M:Sm}
def qI.table{T':Tb}(h:qI bud m M n)(hi:Iv (m+1) 0 T')(ho:qH T')(hs:wc T'.2):qI bud (m+1) {M with T:=T'} n:=⟨⟨hi,ho,hs,h.l.q⟩,⟨h.k.l,h.k.c,h.k.now,h.k.d⟩,h.b⟩
def qI.up(h:qI bud m M n):qI bud (m+1) M n:=⟨⟨h.l.iv.mono aa (ax _),h.l.ok,h.l.s,h.l.q⟩,h.k,h.b⟩
end
def Cs(n:Int)(hn:inI n)(w:World):ah 25 #[n] w λe w'=>∃b:Int,e=b/\Ext w w':=IS n hn w
set_option maxHeartbeats 1000000 in
def xm{N F:Nat->Prop}{w:World}{s o t:Nat}{M:Sm}{occ:Value}{oc:List Ce}{s1 s2 s3 s4 sq so sd:Sl}{bud:Int}{m n:Nat}(sW:Bt N F w s o t M occ oc s1 s2 s3 s4 sq so sd)(hs:qI bud m M n)(hm:m<=1000)(hn:n<=500000)(hb:1<=bud/\bud<=64)
  (k0 bb nn c1 c2 c3:Int)(hd:∀x ∈ [k0,bb,nn,c1,c2,c3],inI x):
  ah 32 #[s,.agg (xM M s1 s2 s3 s4 sq so sd).toArray,.agg #[k0,bb,nn,c1,c2,c3]] w λe w'=>∃M',aaw N F w s o t M occ oc bud (m+1) (n+17920) M' e w':=by
 apply (Lm.vc (gB:=s1) (gC:=s2) (gD:=s3) (fM:=s4) (eW:=sq) (fI:=so) (fJ:=sd));have hF:=sW.s;have hO:=sW.o.mono (F':=F) λi hi=> .inl hi
 have Qi:=sW.l;have uH:=sW.c;have hl:=hs.l;have hsk:=hs.k;have ot:bG≠Q.tX:=by decide
 have ik0:=hd k0 cx;have ibb:=hd bb cx;have inn:=hd nn cx;have okc:lY (c1,c2,c3):=⟨hd c1 cx,hd c2 cx,hd c3 cx⟩;intro w0 e0 w1 e1 w2 e2;have x2:Ext w w2:=((bo e0).ay e1).ay e2;have z0:=dt e0;have z1:w1.heap.size=w.heap.size+2:=by rw [e1];simp [z0]
 have z2:w2.heap.size=w.heap.size+3:=by rw [e2];simp [z1]
 have J0:Row w2 w (xM M s1 s2 s3 s4 sq so sd) bG:=((by rw [e0];exact Row.new w [_,_,_,_,_,_,_,_,_,_,_,_,_,_,_,_] _:Row w0 w (xM M s1 s2 s3 s4 sq so sd) bG).ext (bo e1)).ext (bo e2);have Jp:∃cs,Row w2 w1 cs bG:=⟨_,by rw [e2];exact Row.new w1 [_,_,_,_,_,_,_,_,_,_,_,_,_,_,_,_] _⟩;obtain ⟨cb,Jp⟩:=Jp;have h2:=sW.r.nT x2 w2;have QL:Fw (Bx (Nf N F) w.heap.size w2) w2:=λi hi=>⟨⟨λq=>by have:=hF.lt q;omega,sW.n i aa⟩,.inr hi⟩
 have fws:∀{v:World},w2.heap.size<=v.heap.size->Fw (Bx (Nf N F) w.heap.size w2) v:=λhv i hi=>QL i aa
 have nF:∀{i:Nat},w.heap.size<=i->¬F i:=λhi q=>by have:=hF.lt q;omega
 refine ⟨λ_ wj=>wj=w2,?_,?_⟩
 ·exact Br.mk (λ_=>⟨rfl,rfl,rfl,rfl⟩) (λ_=>Br.mk (λ_=>⟨rfl,rfl,rfl,rfl⟩) (λ_=>Br.mk (λ_=>⟨rfl,rfl,rfl,rfl⟩) (λ_=>⟨rfl,rfl,rfl,rfl⟩)))
 rintro VH b5 w6 rfl;have edit:∀{v:World} (c:Ce) (b:Int),dH c->Ext w6 v->ah 26 #[.agg (xM M s1 s2 s3 s4 sq so sd).toArray,iG c,b] v λe cU=>∃t1 t2 t3 t4 t5:Sl,e=Value.tuple #[.agg (xM (gw M c b) t1 t2 t3 t4 t5 so sd).toArray,.int .i64 (cr M.T.2 c b).2]/\Ext v cU/\RM (Bx (Nf N F) w.heap.size w6) cU (gw M c b) oc t1 t2 t3 t4 t5 so sd:=λ{v} c b hc xv=>by refine ((h2.ext xv).edit (fws xv.size) hl.ok (hsk.mono aa) c hc b).mono ?_;rintro e cU ⟨t1,t2,t3,t4,t5,rfl,hr,x⟩;exact ⟨t1,t2,t3,t4,t5,rfl,x,hr⟩
 refine Br.mk (λ_=> ?_) (λ_=>Br.mk (λ_=> ?_) (λ_=>Br.mk (λ_=> ?_) (λ_=>Br.mk (λ_=> ?_) (λ_=> ?_))))
 ·refine (qg (c1,c2,c3) w6).mono ?_;rintro e w7 ⟨rfl,x7⟩;have zz7:=x7.size;refine ⟨_,_,_,rfl,x7.heap aa,x7.heap aa,x7.heap aa,λcB yl bS BW=> ?_⟩;have bU:Ext w7 bS:=(bo yl).ab BW (ax _);have VA:=jE yl BW;refine (Cs bb ibb bS).mono ?_;rintro e cC ⟨b,rfl,cz⟩;have aq4:=cz.size;have XI:=x7.tr (bU.tr cz);have hmi:=Fc (c1,c2,c3);have XO:dH (nr (c1,c2,c3)):=by unfold dH;omega
  generalize nr (c1,c2,c3)=c at*;refine ⟨b,rfl,cz.heap aa,cz.heap aa,cz.heap aa,cz.heap aa,(edit c b XO XI).mono ?_⟩;rintro e cU ⟨t1,t2,t3,t4,t5,rfl,bw,hR⟩;have ak0:=bw.size;refine ⟨_,_,_,_,_,t1,t2,t3,t4,_,_,t5,_,_,so,sd,_,rfl,bw.heap aa,bw.heap aa,bw.heap aa,bw.heap aa,λlz wF ly CL=> ?_⟩;have gf:Ext cU ly.drew:=((bo wF).ab CL (ax _)).tr (Ext.dr ly);have z34:=jE wF CL;have zd:=kQ ly;have r34:Row ly.drew cU (xM (gw M c b) t1 t2 t3 t4 t5 so sd) bG:=(by rw [CL];exact Row.set (by rw [wF];exact Row.new cU [_,_,_,_,_,_,_,_,_,_,_,_,_,_,_,_] _) _:Row ly cU _ bG).ext (Ext.dr ly);have y34:=XI.tr (bw.tr gf);have xw:=x2.tr y34;refine (lJ (hF.ext xw) c XO b (hsk.mono aa)).mono ?_;rintro e xu ⟨rfl,hr⟩;obtain ⟨F2,te,t35⟩:=id hr;refine ⟨_,rfl,t35.mod.same _ aa (nF aa),t35.mod.same _ aa (nF aa),t35.mod.same _ aa (nF aa),t35.mod.same _ aa (nF aa),t35.mod.same _ aa (nF aa),Lo.wv (r34.same (t35.mod.same _ r34.lt (nF aa))),λhX Qb=> ?_⟩;rw [show ((cr M.T.2 c b).2==(cr M.T.2 c b).2)=true by simp];exact ⟨_,DE sW xw (hR.ext gf) ⟨by omega,by omega⟩ aa hr (Jp.ext y34) ((hs.edit c b).up.mono aa) uH Qb⟩
 ·refine (L2 (c1,c2,c3) okc w6).mono ?_;rintro e qP ⟨rfl,je⟩;have aq7:=je.size;refine ⟨_,_,_,rfl,je.heap aa,je.heap aa,je.heap aa,λny VF ql Xg=> ?_⟩;have kG:Ext qP ql:=(bo VF).ab Xg (ax _);have z43:=jE VF Xg;have y43:=je.tr kG;have XO:dH (Nx (c1,c2,c3)):=by have q1:=jd c1 80 aC;have q2:=jd c2 34 aC;have q3:=jd c3 80 aC;unfold dH Nx;simp only;omega
  generalize Nx (c1,c2,c3)=c at*;refine (edit c bb XO y43).mono ?_;rintro e cU ⟨t1,t2,t3,t4,t5,rfl,bw,hR⟩;have ak0:=bw.size;refine ⟨_,_,_,_,_,t1,t2,t3,t4,_,_,t5,_,_,so,sd,_,rfl,bw.heap aa,bw.heap aa,bw.heap aa,bw.heap aa,λlz wF ly CL=> ?_⟩;have gf:Ext cU ly.drew:=((bo wF).ab CL (ax _)).tr (Ext.dr ly);have z34:=jE wF CL;have zd:=kQ ly;have r34:Row ly.drew cU (xM (gw M c bb) t1 t2 t3 t4 t5 so sd) bG:=(by rw [CL];exact Row.set (by rw [wF];exact Row.new cU [_,_,_,_,_,_,_,_,_,_,_,_,_,_,_,_] _) _:Row ly cU _ bG).ext (Ext.dr ly);have y34:=y43.tr (bw.tr gf);have xw:=x2.tr y34;refine (lJ (hF.ext xw) c XO bb (hsk.mono aa)).mono ?_;rintro e xu ⟨rfl,hr⟩;obtain ⟨F2,te,t35⟩:=id hr;refine ⟨_,rfl,t35.mod.same _ aa (nF aa),t35.mod.same _ aa (nF aa),t35.mod.same _ aa (nF aa),t35.mod.same _ aa (nF aa),t35.mod.same _ aa (nF aa),Lo.wv (r34.same (t35.mod.same _ r34.lt (nF aa))),λhX Qb=> ?_⟩;rw [show ((cr M.T.2 c bb).2==(cr M.T.2 c bb).2)=true by simp];exact ⟨_,DE sW xw (hR.ext gf) ⟨by omega,by omega⟩ aa hr (Jp.ext y34) ((hs.edit c bb).up.mono aa) uH Qb⟩
 ·have had:=jd nn 8 aC;refine (kz nn 8 w6 inn aC (by unfold inI;omega)).mono ?_;rintro e sJ ⟨rfl,hw⟩;subst hw;obtain ⟨k,hk⟩:=Int.eq_ofNat_of_zero_le had.1;rw [hk];have Vz:k<8:=by omega
  refine ⟨_,rfl,rfl,rfl,rfl,(Hu hb k aa h2 QL hs aa Qi).mono ?_⟩;rintro e jz ⟨v,rfl,t1,t2,t3,t4,t5,t6,t7,rfl,hR,mO⟩;have ak1:=mO.size;refine ⟨_,_,_,_,_,t1,t2,t3,t4,_,_,t5,_,_,t6,t7,_,rfl,mO.heap aa,mO.heap aa,mO.heap aa,λlV rJ y7 e88=> ?_⟩;have x88:Ext jz y7.drew:=((bo rJ).ab e88 (ax _)).tr (Ext.dr y7);have z88:=jE rJ e88;have zd:=kQ y7;have r88:Row y7.drew jz (xM (runM (oM oc) k M).1 t1 t2 t3 t4 t5 t6 t7) bG:=(by rw [e88];exact Row.set (by rw [rJ];exact Row.new jz [_,_,_,_,_,_,_,_,_,_,_,_,_,_,_,_] _) _:Row y7 jz _ bG).ext (Ext.dr y7);have y88:=mO.tr x88;have xw:=x2.tr y88;refine (PN hb k aa (hF.ext xw) (hO.ext xw) hs aa).mono ?_;rintro e Gi ⟨rfl,hr⟩;obtain ⟨F2,te,t89⟩:=id hr;refine ⟨_,rfl,t89.mod.same _ aa (nF aa),t89.mod.same _ aa (nF aa),t89.mod.same _ aa (nF aa),t89.mod.same _ aa (nF aa),Lo.wv (r88.same (t89.mod.same _ r88.lt (nF aa))),λUj XG=> ?_⟩;rw [show ((((runM (oM oc) k M).2:Nat):Int)==((runM (oM oc) k M).2:Nat))=true by simp];have hc5:(runM (oM oc) k M).1.cap=5:=(IT _ _ _).trans uH;exact ⟨_,DE sW xw (hR.ext x88) ⟨by omega,by omega⟩ aa hr (Jp.ext y88) ((qI.run hb (oM oc) k hs).up.mono aa) hc5 XG⟩
 ·refine (pN (hF.ext x2)).mono ?_;rintro e xB ⟨rfl,hw⟩;subst hw;refine ⟨_,rfl,rfl,rfl,rfl,pd rfl ?_⟩;obtain ⟨Fw0,hW,-,-⟩:=(hF.ext x2).world;refine (py hW).mono ?_;rintro e XF ⟨rfl,hw⟩;subst hw;have hlen5:mD M.T.1<=500000:=by have:=hl.iv.m;omega
  have hTl:M.T.1.l.length<=1000000:=by have:=hl.iv.m;unfold mD at this;omega
  have i5:inI M.cap:=by rw [uH];unfold inI;decide
  refine ⟨_,rfl,rfl,rfl,rfl,pd rfl (Br.mk (λ_=> ?_) (λ_=> ?_))⟩
  ·refine (Ah (ag:=M.ag) (cap:=M.cap) h2.s.t QL hl.ok (0,1)).mono ?_;rintro e NS ⟨t1,t2,t3,rfl,ab8,td⟩;have ak2:=td.size;have hi':Iv (m+1) 0 (fO M.T.1 M.T.2 (0,1)).1:=WO (D:=M.T.1) (l:=M.T.2) hl.iv (0,1);have hsu:wc (fO M.T.1 M.T.2 (0,1)).1.2:=TI hl.s;refine ⟨_,_,_,_,_,t1,t2,t3,_,rfl,td.heap aa,td.heap aa,td.heap aa,λabw U5 yM U6 fo q7=> ?_⟩;have ij:Ext NS yM:=(bo U5).ab U6 (ax _);have ak4:=jE U5 U6;have FU:=td.tr ij;have ab9:RM (Bx (Nf N F) w.heap.size XF) NS {M with T:=(fO M.T.1 M.T.2 (0,1)).1} oc t1 t2 t3 s4 sq so sd:=⟨⟨ab8,h2.s.g.ext td,h2.s.qo.ext td,h2.s.ok⟩,h2.o.ext td,h2.d.ext td⟩;have U7:=(ab9.ext ij).box q7 ⟨by omega,by omega⟩ (J0.ext FU) ot;have qY:Ext w fo.drew:=((x2.tr FU).ab q7 (ax _)).tr (Ext.dr fo);have afv:=mC q7;have zd:=kQ fo;have U8:Row fo.drew w (xM {M with T:=(fO M.T.1 M.T.2 (0,1)).1} t1 t2 t3 s4 sq so sd) bG:=(by rw [q7];exact Row.set (J0.ext FU) _:Row fo w _ bG).ext (Ext.dr fo);have JN:Row fo.drew w1 cb bG:=((Jp.ext FU).same (by rw [q7,setRow_other _ _ _ _ aa])).ext (Ext.dr fo);obtain ⟨Fw1,XW,eI,aR⟩:=(hF.ext qY).world;refine (Cd XW hTl (0,1)).mono ?_;rintro e Mp ⟨rfl,hrw⟩;have hr:=aR (ch':=M.ch) hrw;obtain ⟨F2,te,BJ⟩:=id hr;have gA:qH (fO M.T.1 M.T.2 (0,1)).1:=by obtain ⟨Fx,hWx,-,-⟩:=te.world;exact WF.Z7 hWx hi' aa
   refine ⟨_,rfl,BJ.mod.same _ aa (nF aa),BJ.mod.same _ aa (nF aa),BJ.mod.same _ aa (nF aa),BJ.mod.same _ aa (nF aa),Lo.wv (U8.same (BJ.mod.same _ U8.lt (nF aa))),λQo aca=> ?_⟩;rw [show ((fO M.T.1 M.T.2 (0,1)).2==(fO M.T.1 M.T.2 (0,1)).2)=true by simp];exact ⟨_,DE sW qY (U7.ext (Ext.dr fo)) ⟨by omega,by omega⟩ aa hr JN ((hs.table hi' gA hsu).mono aa) uH aca⟩
  ·refine (Fg (ag:=M.ag) (cap:=M.cap) h2.s.t QL hl.ok hlen5 i5 (0,1)).mono ?_;rintro e NS ⟨t1,t2,t3,rfl,ab8,td⟩;have ak2:=td.size;have hi':Iv (m+1) 0 (oL M.ag M.cap M.T.1 M.T.2 (0,1)).1:=adX (D:=M.T.1) (l:=M.T.2) hl.iv M.ag M.cap (0,1);have hsu:wc (oL M.ag M.cap M.T.1 M.T.2 (0,1)).1.2:=aax hl.s aay;refine ⟨_,_,_,_,_,t1,t2,t3,_,rfl,td.heap aa,td.heap aa,td.heap aa,λabw U5 yM U6 fo q7=> ?_⟩;have ij:Ext NS yM:=(bo U5).ab U6 (ax _);have ak4:=jE U5 U6;have FU:=td.tr ij;have ab9:RM (Bx (Nf N F) w.heap.size XF) NS {M with T:=(oL M.ag M.cap M.T.1 M.T.2 (0,1)).1} oc t1 t2 t3 s4 sq so sd:=⟨⟨ab8,h2.s.g.ext td,h2.s.qo.ext td,h2.s.ok⟩,h2.o.ext td,h2.d.ext td⟩;have U7:=(ab9.ext ij).box q7 ⟨by omega,by omega⟩ (J0.ext FU) ot;have qY:Ext w fo.drew:=((x2.tr FU).ab q7 (ax _)).tr (Ext.dr fo);have afv:=mC q7;have zd:=kQ fo;have U8:Row fo.drew w (xM {M with T:=(oL M.ag M.cap M.T.1 M.T.2 (0,1)).1} t1 t2 t3 s4 sq so sd) bG:=(by rw [q7];exact Row.set (J0.ext FU) _:Row fo w _ bG).ext (Ext.dr fo);have JN:Row fo.drew w1 cb bG:=((Jp.ext FU).same (by rw [q7,setRow_other _ _ _ _ aa])).ext (Ext.dr fo);obtain ⟨Fw1,XW,eI,aR⟩:=(hF.ext qY).world;refine (pS XW hTl (0,1)).mono ?_;rintro e Mp ⟨rfl,hrw⟩;have hr:=aR (ch':=M.ch) hrw;obtain ⟨F2,te,BJ⟩:=id hr;have gA:qH (oL M.ag M.cap M.T.1 M.T.2 (0,1)).1:=by obtain ⟨Fx,hWx,-,-⟩:=te.world;exact WF.Z7 hWx hi' aa
   refine ⟨_,rfl,BJ.mod.same _ aa (nF aa),BJ.mod.same _ aa (nF aa),BJ.mod.same _ aa (nF aa),BJ.mod.same _ aa (nF aa),Lo.wv (U8.same (BJ.mod.same _ U8.lt (nF aa))),λQo aca=> ?_⟩;rw [show ((oL M.ag M.cap M.T.1 M.T.2 (0,1)).2==(oL M.ag M.cap M.T.1 M.T.2 (0,1)).2)=true by simp];exact ⟨_,DE sW qY (U7.ext (Ext.dr fo)) ⟨by omega,by omega⟩ aa hr JN ((hs.table hi' gA hsu).mono aa) uH aca⟩
 ·have oC:=hs.Af aa hb;refine (tR h2 QL hl.ok oC.1 oC.2.1 oC.2.2 Qi).mono ?_;rintro e jz ⟨v,rfl,t1,t2,t3,t4,t5,t6,t7,rfl,hR,mO⟩;have ak1:=mO.size;refine ⟨_,_,_,_,_,t1,t2,t3,t4,_,_,t5,_,_,t6,t7,_,rfl,mO.heap aa,mO.heap aa,mO.heap aa,λlV rJ y7 e88=> ?_⟩;have x88:Ext jz y7.drew:=((bo rJ).ab e88 (ax _)).tr (Ext.dr y7);have z88:=jE rJ e88;have zd:=kQ y7;have r88:Row y7.drew jz (xM (fN (oM oc) M) t1 t2 t3 t4 t5 t6 t7) bG:=(by rw [e88];exact Row.set (by rw [rJ];exact Row.new jz [_,_,_,_,_,_,_,_,_,_,_,_,_,_,_,_] _) _:Row y7 jz _ bG).ext (Ext.dr y7);have y88:=mO.tr x88;have xw:=x2.tr y88;refine (nm (hF.ext xw) (hO.ext xw) oC.1 oC.2.1 oC.2.2).mono ?_;rintro e Gi ⟨rfl,hr⟩;obtain ⟨F2,te,t89⟩:=id hr;refine ⟨_,rfl,t89.mod.same _ aa (nF aa),t89.mod.same _ aa (nF aa),t89.mod.same _ aa (nF aa),t89.mod.same _ aa (nF aa),Lo.wv (r88.same (t89.mod.same _ r88.lt (nF aa))),λUj XG=> ?_⟩;rw [show ((((mH M).length:Nat):Int)==((mH M).length:Nat))=true by simp];exact ⟨_,DE sW xw (hR.ext x88) ⟨by omega,by omega⟩ aa hr (Jp.ext y88) ((hs.tick hb (oM oc)).up.mono aa) ((A1 _ _ _).trans uH) XG⟩
end Go.Proofs.YtalpkjfpmdpbiaaGreatDoor
namespace Go.Proofs.YtalpkjfpmdpbiaaGreatDoor
open Go Go.Vc Go.RowKit Go.Proofs Go.dS Go.bh Go.Code Go.km Go.iQ
set_option maxRecDepth 100000
def odS:oZ bG/\bG≠mE/\bG≠eH/\bG≠pc/\bG≠Q.ig/\bG≠Q.bT/\bG≠gz:=by decide
section
variable {N F F':Nat->Prop} {w v w':World} {s o t:Nat} {M M':Sm} {occ:Value} {oc:List Ce} {s1 s2 s3 s4 sq so sd r1 r2 r3 r4 rq ro rd:Sl} {bud:Int} {m n:Nat}
def Bt.ext(h:Bt N F w s o t M occ oc s1 s2 s3 s4 sq so sd)(x:Ext w w'):Bt N F w' s o t M occ oc s1 s2 s3 s4 sq so sd:=⟨h.s.ext x,h.o.ext x,h.r.ext x,λi hi=>h.n i (fA x.size hi),h.l,h.c⟩
def Bt.box(h:Bt N F w s o t M occ oc s1 s2 s3 s4 sq so sd){g:Nat}(hN:¬N g)(hF:¬F g){cs:LV}(jx:Row w g cs bG){c:Array Value}(e:w'=w.setRow g c):Bt N F w' s o t M occ oc s1 s2 s3 s4 sq so sd:=by
 have hm:Mod (λi=>i=g) w w':=by rw [e];exact AS w g c
 refine ⟨h.s.same λi hi=>hm.same i (h.s.lt hi) λq=>hF (q▸hi),h.o.iT ⟨hm.mono λi _ hi=> .inr (hi▸hN),λi hi=> .inl hi⟩,h.r.same (λi hp hi=>⟨hm.same i hi λq=>hN (q▸hp.2),hp⟩) λg' cs' hr=>hm.same g' hr.lt λq=>hr.ne jx JR.2.2.2.2.2.2.2 q,λi hi=>h.n i (by rw [e] at hi;simpa using hi),h.l,h.c⟩
def Bt.boxed(sW:Bt N F w s o t M occ oc r1 r2 r3 r4 rq ro rd)(x:Ext w v){g:Nat}(hg:w.heap.size<=g/\g<v.heap.size){cs:LV}(jx:Row v g cs bG){e:Ending}(h:aaw (λi=>N i/\i≠g) F v s o t M occ oc bud m n M' e w'):
  ∃(F':Nat->Prop)(s1 s2 s3 s4 sq so sd:Sl),e=Value.tuple #[.agg (xM M' s1 s2 s3 s4 sq so sd).toArray,true]/\qI bud m M' n/\Row w' g cs bG/\v.heap.size<=w'.heap.size/\aG F F' v w'/\∀(w'':World)(c:Array Value),w''=w'.setRow g c->Bt N F' w'' s o t M' occ oc s1 s2 s3 s4 sq so sd/\aG F F' w w'':=by
 obtain ⟨F',s1,s2,s3,s4,sq,so,sd,rfl,hB,ht,hs⟩:=h;have hF:=sW.s;have hgF:¬F g:=λq=>by have:=hF.lt q;omega
 have VC:∀i,F' i->i≠g:=λi hf q=>by
  rcases ht.sub i hf with q2|q2
  ·exact hgF (q▸q2)
  ·omega
 have Zm:Row w' g cs bG:=jx.same (ht.mod.same g jx.lt hgF);refine ⟨F',s1,s2,s3,s4,sq,so,sd,rfl,hs,Zm,ht.mod.size,ht,λw'' c e=> ?_⟩;have h1:aG F F' w w':=(aG.aN x).trans ht;have h3:aG F F' w w'':=⟨⟨by rw [e];exact h1.mod.os,by rw [e];exact h1.mod.tape,by rw [e];exact h1.mod.output,by rw [e];simpa using h1.mod.size,λi hi hn=>by rw [e,setRow_other _ _ _ _ aa];exact h1.mod.same i hi hn⟩,h1.sub⟩;exact ⟨⟨hB.s.same λi hi=>by rw [e,setRow_other _ _ _ _ (VC i hi)],sW.o.iT (aG.beside h3 _),hB.r.same (λi hp hi=>⟨by rw [e,setRow_other _ _ _ _ hp.2.2],hp.1,hp.2.1⟩) λg' cs' hr=>by rw [e,setRow_other _ _ _ _ (hr.ne Zm JR.2.2.2.2.2.2.2)],λi hi=>sW.n i (by have:=h3.mod.size;omega),hB.l,hB.c⟩,h3⟩
def Bt.aside(sW:Bt N F w s o t M occ oc s1 s2 s3 s4 sq so sd)(x:Ext w v){g:Nat}(hg:w.heap.size<=g/\g<v.heap.size):Bt (λi=>N i/\i≠g) F v s o t M occ oc s1 s2 s3 s4 sq so sd:=by
 refine ⟨sW.s.ext x,?_,sW.r.same (λi hp hi=>⟨x.heap hi,hp.1,hp.2,by omega⟩) λg cs hr=>x.heap hr.lt,λi hi=>⟨sW.n i (fA x.size hi),by omega⟩,sW.l,sW.c⟩;obtain ⟨D,h1,h2⟩:=sW.o;refine ⟨D,λi hi=>⟨kR (h1 i hi).1 x.size,λq=> ?_⟩,λw'' hk=>h2 w'' λi hi=>(hk i hi).trans (x.heap (h1 i hi).1)⟩;obtain ⟨d1,d2⟩:=h1 i hi;rcases q with q|q
 ·exact d2 (.inl q)
 ·exact q ⟨Classical.byContradiction λq=>d2 (.inr q),by omega⟩
end
def FB(N F:Nat->Prop)(w:World)(s o t:Nat)(occ:Value)(oc:List Ce)(M:Sm)(a1 a2 a3 a4 a5:Int)(b1 b2 b3 b4:Sl)(c1 c2:Int)(c3:Sl)(c4 c5:Int)(c6 c7:Sl):Prop:=
 (a1=M.ag/\a2=M.cap/\a3=M.T.1.room/\a4=M.T.1.c9/\a5=M.T.1.wait/\c1=M.q.room/\c2=M.q.lost/\c4=M.aO/\c5=M.now)/\Bt N F w s o t M occ oc b1 b2 b3 b4 c3 c6 c7
def FB.of{N F:Nat->Prop}{w:World}{s o t:Nat}{occ:Value}{oc:List Ce}{M:Sm}{s1 s2 s3 s4 sq so sd:Sl}(h:Bt N F w s o t M occ oc s1 s2 s3 s4 sq so sd):FB N F w s o t occ oc M M.ag M.cap M.T.1.room M.T.1.c9 M.T.1.wait s1 s2 s3 s4 M.q.room M.q.lost sq M.aO M.now so sd:=⟨⟨rfl,rfl,rfl,rfl,rfl,rfl,rfl,rfl,rfl⟩,h⟩
def iv5(ag:Int):Iv 0 0 (gy 0,l5 ag 5):=by refine ⟨ax _,λe he=> ?_,An ag⟩;obtain ⟨p,-,VP⟩:=aS.1 he;generalize made ag p=m at*;subst VP;exact ⟨mu _,mu _⟩
def ahI(ag:Int):wc (l5 ag 5):=by intro e he;obtain ⟨p,hp,VP⟩:=aS.1 he;generalize made ag p=m at*;subst VP;exact hp
def sw5{F:Nat->Prop}{w:World}{s o t:Nat}{occ:Value}{ag aO:Int}(h:SF F w s o t (M5 ag aO) occ):qI (min (max aO 1) 64) 0 (M5 ag aO) 0:=by obtain ⟨Fw0,hW,-,-⟩:=h.world;exact ⟨⟨iv5 ag,WF.Z7 hW (iv5 ag) aa,ahI ag,⟨rfl,λx hx=>by cases hx⟩⟩,aav ag aO,rfl⟩
end Go.Proofs.YtalpkjfpmdpbiaaGreatDoor
namespace Go.Proofs.YtalpkjfpmdpbiaaGreatDoor
open Go Go.Vc Go.RowKit Go.Proofs Go.dS Go.bh Go.Code Go.km Go.iQ
set_option maxRecDepth 100000
def Fo(c:Ce){g:Nat}{w:World}{τ:TypeId}{so:Sl}{oc:List Ce}(hr:Row w g [so] τ)(h:RdK w so 3 (oc.map dn))(hl:oc.length<=1000):ah 42 #[iG c,g] w λe w'=>e=Value.bool (decide (c ∈ oc))/\Ext w w':=by
 apply rh.vc;have hn:=h.n;rw [aB] at hn;intro w0 e0;have x0:=bo e0;refine ⟨λn x wr=>∃j:Nat,x=j/\j+n=oc.length/\c ∉ oc.take j/\Ext w0 wr,⟨oc.length,rfl,0,rfl,by omega,by simp,Ext.bX _⟩,?_⟩;rintro n us x wr ⟨j,rfl,hj,lk,xr⟩;have y:=x0.tr xr;have yd:=y.tr (Ext.dr wr);have h1:=(hr.ext y).at 0 rfl;have h2:=(hr.ext yd).at 0 rfl;rw [ck] at h1 h2;refine ⟨so,h1,Br.mk (λhb=>⟨so,h2,?_⟩) (λhb=> ?_)⟩
 ·replace hb:=fe hb;obtain ⟨d,hd⟩:=aZ (l:=oc) (i:=j) aa;have hd':(oc.map dn)[j]? =some (dn d):=by rw [aV,hd];rfl
  have j2:oc.take (j+1)=oc.take j++ [d]:=by rw [cm,hd];rfl
  have wk:=kK (j:=j);refine ⟨h.fp (i:=(j:Int)) aC aa hb,_,_,_,(h.ext yd).aY hd',Br.mk (λhq=> ?_) (λhq=> ?_)⟩
  ·simp only [gr,beq_iff_eq] at hq;have:d=c:=Prod.ext hq.1 (Prod.ext hq.2.1 hq.2.2);subst this;rw [decide_eq_true (bf hd)];exact ⟨rfl,yd⟩
  ·refine ⟨n-1,by omega,rfl,j+1,wk,by omega,?_,xr.tr (Ext.dr wr)⟩;rw [j2];intro q;rcases cu.1 q with q|q
   ·exact lk q
   ·rw [fB.1 q] at hq;simp at hq
 ·replace hb:=eX hb;rw [cZ aa] at lk;rw [decide_eq_false lk];exact ⟨rfl,y⟩
abbrev T6(cs:List Ce):List Ce:=(cs.take 4).map nr
def Je(ag aO:Int)(sl:Sl)(cs:List Ce)(w:World)(j1:RdK w sl 3 (cs.map dn)):ah 9 #[ag,aO,sl] w λe w'=>
  ∃(s o t:Nat)(F:Nat->Prop)(occ:Value)(s1 s2 s3 so:Sl),e=Value.tuple #[s,.agg (xM (M5 ag aO) s1 s2 s3 ⟨none,0,0⟩ ⟨none,0,0⟩ so ⟨none,0,0⟩).toArray]/\SF F w' s o t (M5 ag aO) occ/\Oc occ (oM (T6 cs)) (λi=>F i\/i<w.heap.size) w'/\RT (λi=>¬F i) w' (gy 0,l5 ag 5) s1 s2 s3/\LC (λi=>¬F i) w' so (T6 cs)/\Ext w w'/\∀i,F i->w.heap.size<=i:=by
 apply (xh.vc (a2:=sl));intro w0 e0;have x0:=bo e0;have z0:=dt e0;have ra0:∃cs,Row w0 w cs bG:=⟨_,by rw [e0];exact Row.new w [_,_,_,_,_,_,_,_,_,_,_,_,_,_,_,_] _⟩;obtain ⟨csa,ra0⟩:=ra0;refine (CZ ag 5 0 w0).mono ?_;rintro e w1 ⟨o,t,F0,rfl,VT,x1,fF0⟩;have CA:(min (max (5:Int) 1) 16)=5:=by decide
 rw [CA] at VT;have z1:=x1.size;refine ⟨_,rfl,x1.heap aa,(xi (P:=λi=>¬F0 i/\i≠w.heap.size) ag 5 0 w1).mono ?_⟩;rw [CA];rintro e w3 ⟨sa0,sb0,sc0,rfl,h3,x3⟩;have z3:=x3.size;refine ⟨_,_,_,_,_,sa0,sb0,sc0,⟨none,0,0⟩,rfl,x3.heap aa,λcC qX bY mB=> ?_⟩;have bW:Ext w3 bY:=(bo qX).ab mB (ax _);have Vx:=jE qX mB;have abJ:Row bY w3 (wvL ag 5 (gy 0) sa0 sb0 sc0 ⟨none,0,0⟩) Ck:=by rw [mB];exact Row.set (by rw [qX];exact Row.new w3 [_,_,_,_,_,_,_,_,_] _) _
 refine pd rfl ((py (VT.ext (x3.tr bW))).mono ?_);rintro e cY ⟨rfl,hw⟩;subst hw;refine ⟨_,rfl,rfl,rfl,pd rfl λft uR=> ?_⟩;have cK:=bo uR;have z19:=dt uR;have abK:Row ft cY Lz Yf:=Row.nw uR;have nz:=x3.tr (bW.tr cK);have abL:RT (Nf (λi=>i≠w3.heap.size/\i≠w.heap.size) F0) ft (gy 0,l5 ag 0) sa0 sb0 sc0:=h3.same λi hp hi=>⟨(bW.tr cK).heap hi,hp.1,by omega,hp.2⟩
 refine ⟨λn x sd cp ro fl wt sa sb sc sdd wr=>∃(k:Nat)(F:Nat->Prop),x=k/\k+n=5/\sd=ag/\cp=5/\ro=(gy 0).room/\fl=(gy 0).c9/\wt=(gy 0).wait/\sdd=⟨none,0,0⟩/\WF F wr o t ag 5 (gy 0,l5 ag k) []/\RT (Nf (λi=>i≠w3.heap.size/\i≠w.heap.size) F) wr (gy 0,l5 ag k) sa sb sc/\Ext w wr/\(∀i,F i->w.heap.size<=i)/\Row wr w csa bG/\(∃cs,Row wr w3 cs Ck)/\Row wr cY Lz Yf,⟨5,rfl,rfl,0,F0,rfl,rfl,rfl,rfl,rfl,rfl,rfl,rfl,VT.ext nz,abL,x0.tr (x1.tr nz),λi hi=>by have:=fF0 i hi;omega,ra0.ext (x1.tr nz),⟨_,abJ.ext cK⟩,abK⟩,?_⟩;rintro n us x sd cp ro fl wt sa sb sc sdd wr ⟨k,F,rfl,Fq,rfl,rfl,rfl,rfl,rfl,rfl,hT,hR,xw,fF,Mv,⟨csr,NM⟩,UJ⟩;have l1:=Mv.lt;have l2:=NM.lt;have l3:=UJ.lt;have i33:oZ bG/\oZ Ck/\oZ Yf:=by decide
 apply Br.mk<;>intro hb
 ·replace hb:=fe hb;have hk:k<5:=by omega
  obtain ⟨p,hp⟩:=aZ (l:=fG) (i:=k) (by have:fG.length=5:=rfl;omega);have mA:=Yg sd hp;have hl5:=Ly sd (k:=k) aa;have wk:=kK (j:=k);refine ⟨⟨rfl,by omega,hb⟩,p.1,p.2,ui UJ hp,(pS hT (eC _) p).mono ?_⟩;rintro e hX ⟨rfl,hr⟩;rw [mA] at hr;obtain ⟨F',h',ht⟩:=hr;have kp:∀{j:Nat} {cs:LV} {τ:TypeId},Row wr j cs τ->oZ τ->τ≠mE->τ≠eH->hX.heap[j]? =wr.heap[j]? :=λhr q1 q2 q3=>ht.mod.same _ hr.lt (hT.cF hr q1 q2 q3)
  have ka:=kp Mv i33.1 aC aC;have kr:=kp NM i33.2.1 aC aC;have kp5:=kp UJ i33.2.2 aC aC;have UK:=Mv.same ka;have UL:=NM.same kr;have Mw:=UJ.same kp5;have z37:=ht.mod.size;have UM:RT (Nf (λi=>i≠w3.heap.size/\i≠w.heap.size) F') hX (gy 0,l5 sd k) sa sb sc:=hR.same λi hp hi=>⟨ht.mod.same i hi hp.1,λq=>(ht.sub i q).elim hp.1 aa,hp.2⟩
  obtain ⟨UN,UO⟩:=ht.fresh xw fF;have xd:=Ext.dr hX;have zd:=kQ hX;have ho:qH (gy 0,l5 sd k):=hT.Z7 (m:=0) (n:=0) ⟨eC _,(λe he=>by
   obtain ⟨x,hx,rfl⟩:=aS.1 he;exact ⟨mu _,mu _⟩),(by
   have h5:=An sd;unfold iS at h5 ⊢;have e5:(l5 sd 5).map (·.1)=(l5 sd k).map (·.1)++((fG.drop k).map λp:Po=>((p,made sd p,false,(0:Int)):En)).map (·.1):=by rw [<-aT,l5,l5,<-aT,jK];rfl
   rw [e5] at h5;exact (lH.1 h5).1)⟩ aa
  have hin5:inI 5:=by unfold inI;omega
  refine ⟨_,rfl,ka,kr,kp5,⟨rfl,by omega,hb⟩,p.1,p.2,ui (Mw.ext xd) hp,?_,λwh Ui=> ?_⟩
  ·refine (kc (ag:=sd) (cap:=5) (UM.ext xd) ((h'.fw (N:=λi=>i≠w3.heap.size/\i≠w.heap.size) (λi hi=>⟨by omega,by omega⟩)).ext xd) ho (eC _) hin5 p (by simp only;omega) (AA sd hp)).mono ?_;rintro e kE ⟨ta,tb,tc,rfl,h41,jC⟩;rw [mA] at h41 ⊢;have z41:=jC.size;refine ⟨_,_,_,_,_,ta,tb,tc,_,rfl,jC.heap aa,jC.heap aa,jC.heap aa,λw51 e51 Gh e52 Xs Bs=> ?_⟩;have uS:Ext kE Gh:=(bo e51).ab e52 (ax _);have xx:=xd.tr (jC.tr uS);have UP:=UL.ext xx;have h52:=h'.ext xx;have UQ:¬F' w3:=h52.cF UP i33.2.1 aC aC;have n1:w.heap.size≠w3:=by omega
   have n3:cY.heap.size≠w3:=by omega
   exact ⟨n-1,by omega,rfl,rfl,k+1,F',wk,by omega,rfl,rfl,rfl,rfl,rfl,rfl,h52.same λi hi=>by rw [Bs,setRow_other _ _ _ _ (λq=>UQ (by rw [<-q];exact hi))],(h41.ext uS).same λi hp _=>⟨by rw [Bs,setRow_other _ _ _ _ hp.2.1],hp⟩,(UN.tr xx).ab Bs aa,UO,(UK.ext xx).same (by rw [Bs,setRow_other _ _ _ _ n1]),⟨_,by rw [Bs];exact Row.set UP _⟩,(Mw.ext xx).same (by rw [Bs,setRow_other _ _ _ _ n3])⟩
  ·have uW:Ext hX wh:=xd.ay Ui;have z54:=dt Ui;refine (kc (ag:=sd) (cap:=5) (P:=Nf (λi=>i≠w3.heap.size/\i≠w.heap.size/\i≠hX.drew.heap.size) F') (UM.same λi hp hi=>⟨uW.heap hi,hp.1,hp.2.1,hp.2.2,by omega⟩) (λi hi=>⟨λq=>by have:=h'.lt q;omega,by omega,by omega,by omega⟩) ho (eC _) hin5 p (by simp only;omega) (AA sd hp)).mono ?_;rintro e za ⟨ta,tb,tc,rfl,h55,yK⟩;rw [mA] at h55 ⊢;have z55:=yK.size;refine ⟨_,_,_,_,_,ta,tb,tc,_,rfl,yK.heap aa,yK.heap aa,yK.heap aa,yK.heap aa,λFE XM sI Fu=> ?_⟩;have xx:=uW.tr yK;have rG:Ext hX FE:=xx.ab XM aa;have h65:RT (Nf (λi=>i≠w3.heap.size/\i≠w.heap.size) F') FE (gy 0,l5 sd (k+1)) ta tb tc:=h55.same λi hp _=>⟨by rw [XM,setRow_other _ _ _ _ hp.2.2.2],hp.1,hp.2.1,hp.2.2.1⟩
   have UR:=UL.ext rG;have US:=h'.ext rG;have UQ:¬F' w3:=US.cF UR i33.2.1 aC aC;have n1:w.heap.size≠w3:=by omega
   have n3:cY.heap.size≠w3:=by omega
   exact ⟨n-1,by omega,rfl,rfl,k+1,F',wk,by omega,rfl,rfl,rfl,rfl,rfl,rfl,US.same λi hi=>by rw [Fu,setRow_other _ _ _ _ (λq=>UQ (by rw [<-q];exact hi))],h65.same λi hp _=>⟨by rw [Fu,setRow_other _ _ _ _ hp.2.1],hp⟩,(UN.tr rG).ab Fu aa,UO,(UK.ext rG).same (by rw [Fu,setRow_other _ _ _ _ n1]),⟨_,by rw [Fu];exact Row.set UR _⟩,(Mw.ext rG).same (by rw [Fu,setRow_other _ _ _ _ n3])⟩
 replace hb:=eX hb;have hk5:k=5:=by omega
 subst hk5;refine (wZ hT aO).mono ?_;rintro e sJ ⟨s,Fs,rfl,hS,qO,fFs⟩;have z67:=qO.size;refine ⟨_,rfl,qO.heap aa,qO.heap aa,qO.heap aa,(rp sd 5 (gy 0) sa sb sc ⟨none,0,0⟩ aO sJ).mono ?_⟩;rintro e jz ⟨rfl,mO⟩;have z69:=mO.size;refine ⟨_,_,_,_,_,sa,sb,sc,⟨none,0,0⟩,_,_,⟨none,0,0⟩,_,_,⟨none,0,0⟩,⟨none,0,0⟩,rfl,mO.heap aa,mO.heap aa,mO.heap aa,λy3 zc lV rJ=> ?_⟩;have wC:Ext jz lV:=(bo zc).ab rJ (ax _);have z87:=jE zc rJ;have rxx:Row lV jz (xM (M5 sd aO) sa sb sc ⟨none,0,0⟩ ⟨none,0,0⟩ ⟨none,0,0⟩ ⟨none,0,0⟩) bG:=by rw [rJ];exact Row.set (by rw [zc];exact Row.new jz [_,_,_,_,_,_,_,_,_,_,_,_,_,_,_,_] _) _
 have hn:=j1.n;rw [aB] at hn;have hsx:=j1.ext (xw.tr (qO.tr (mO.tr wC)));refine ⟨λa b c d e f g h i j k l m n o' p w'=>sd=a/\5=b/\(gy 0).room=c/\(gy 0).c9=d/\(gy 0).wait=e/\sa=f/\sb=g/\sc=h/\(⟨none,0,0⟩:Sl)=i/\4096=j/\0=k/\(⟨none,0,0⟩:Sl)=l/\min (max aO 1) 64=m/\0=n/\(⟨none,0,0⟩:Sl)=p/\aj lV gz 3 w' o' ((T6 cs).map dn)/\Ext jz w'/\lV.heap.size<=w'.heap.size/\Row w' jz (xM (M5 sd aO) sa sb sc ⟨none,0,0⟩ ⟨none,0,0⟩ o' ⟨none,0,0⟩) bG,
  ⟨λq x a b c d e f g h i j k l m n o' p w'=>∃jj:Nat,x=jj/\jj+q=4/\jj<=cs.length/\sd=a/\5=b/\(gy 0).room=c/\(gy 0).c9=d/\(gy 0).wait=e/\sa=f/\sb=g/\sc=h/\(⟨none,0,0⟩:Sl)=i/\4096=j/\0=k/\(⟨none,0,0⟩:Sl)=l/\min (max aO 1) 64=m/\0=n/\(⟨none,0,0⟩:Sl)=p/\aj lV gz 3 w' o' (((cs.take jj).map nr).map dn)/\Ext jz w'/\lV.heap.size<=w'.heap.size/\Row w' jz (xM (M5 sd aO) sa sb sc ⟨none,0,0⟩ ⟨none,0,0⟩ o' ⟨none,0,0⟩) bG,⟨4,rfl,rfl,rfl,0,rfl,rfl,eC _,rfl,rfl,rfl,rfl,rfl,rfl,rfl,rfl,rfl,rfl,rfl,rfl,rfl,rfl,rfl,aj.nil,wC,ax _,rxx⟩,?_⟩,?_⟩
 ·rintro q us x a b c d e f g h i j k l m n o' p w' ⟨jj,rfl,hjq,NG,rfl,rfl,rfl,rfl,rfl,rfl,rfl,rfl,rfl,rfl,rfl,rfl,rfl,rfl,rfl,ho,xj,zzj,rx⟩;refine Br.mk (λBm=>Br.mk (λeF=> ?_) (λeF=> ?_)) (λBm=> ?_)
  ·simp only [bA] at Bm eF;obtain ⟨y,hy⟩:=aZ (l:=cs) (i:=jj) aa;have hy':(cs.map dn)[jj]? =some (dn y):=by rw [aV,hy];rfl
   have j2:(cs.take (jj+1)).map nr=(cs.take jj).map nr++ [nr y]:=by rw [cm,hy];simp
   have wk:=kK (j:=jj);have xd:=Ext.dr w';have zd:w'.drew.heap.size=w'.heap.size:=rfl;have hsj:=(j1.ext (xw.tr (qO.tr (mO.tr xj)))).ext xd;have lk:o'.n=jj:=by have:=(ho.rd (show 0<3 by decide)).n;rw [aB,aB,bF] at this;omega
   refine ⟨hsj.fp (i:=(jj:Int)) aC aa aa,_,_,_,hsj.aY hy',(qg y w'.drew).mono ?_⟩;rintro e sV ⟨rfl,qn⟩;have agc:=qn.size;have acD:=xd.tr qn;have Zk:=rx.ext acD;refine ⟨_,_,_,rfl,qn.heap aa,qn.heap aa,qn.heap aa,qn.heap aa,Zk.at 14 rfl,λuV age=> ?_⟩;have sS:=bo age;have asa:=dt age;obtain ⟨Ml,hres8⟩:=((ho.ext acD).ext sS).append (bytes:=24) (news:=dn (nr y)) aa rfl (EM _) aa aa;refine ⟨Ml,λJy ME agf=> ?_⟩;obtain ⟨f1,f2,f3,f4,-⟩:=hres8 Jy ME agf;have aow:=f3.size;refine ⟨f3.block _ aa,f3.block _ aa,f3.block _ aa,f3.block _ aa,f4 _ (λuM=>by have:=(ho.own.lt uM).2;omega) aa,λQC X1=> ?_⟩;have asb:=mC X1;have CB:Ext jz ME:=Below.trans (xj.tr (acD.tr sS)) (Below.mono f3 aa);have agh:Row ME jz (xM (M5 sd aO) sa sb sc ⟨none,0,0⟩ ⟨none,0,0⟩ o' ⟨none,0,0⟩) bG:=(Zk.ext sS).same (f3.block _ aa);refine ⟨q-1,by omega,rfl,rfl,rfl,jj+1,wk,by omega,by omega,rfl,rfl,rfl,rfl,rfl,rfl,rfl,rfl,rfl,rfl,rfl,rfl,rfl,rfl,rfl,?_,CB.ab X1 (ax _),by omega,by rw [X1];exact Row.set agh _⟩;rw [j2,aT];exact aj.bM f1 λg hg=>by have:=(f1.own.lt hg).1;rw [X1,setRow_other _ _ _ _ aa]
  ·replace eF:=eX eF;have:jj=4:=by omega
   subst this;exact ⟨rfl,rfl,rfl,rfl,rfl,rfl,rfl,rfl,rfl,rfl,rfl,rfl,rfl,rfl,rfl,rfl,rfl,rfl,ho,xj,zzj,rx⟩
  ·replace Bm:=eX Bm;have h4:cs.take jj=cs.take 4:=by rw [cZ aa,cZ aa]
   rw [h4] at ho;exact ⟨rfl,rfl,rfl,rfl,rfl,rfl,rfl,rfl,rfl,rfl,rfl,rfl,rfl,rfl,rfl,rfl,rfl,rfl,ho,xj,zzj,rx⟩
 rintro us a b c d e f g h i j k l m n' o' p w' ⟨rfl,rfl,rfl,rfl,rfl,rfl,rfl,rfl,rfl,rfl,rfl,rfl,rfl,rfl,rfl,ho,xj,zzj,rx⟩;have xx:=qO.tr (mO.tr xj);have Qi:(T6 cs).length<=1000:=by rw [aB,bF];omega
 refine yes rfl λFP Mx BC My=> ?_
 have uZ:Ext w' BC:=(bo Mx).ab My (ax _);have ajW:BC.heap.size=w'.heap.size+1:=by rw [My,Mx];simp
 have u4:∃τ,Row BC w'.heap.size [.slice o'.a o'.n o'.c] τ/\oZ τ/\τ≠mE/\τ≠eH/\τ≠pc/\τ≠Q.ig/\τ≠Q.bT/\τ≠gz:=⟨37,by rw [My];exact Row.set (by rw [Mx];exact Row.new w' [_] _) _,by decide⟩;obtain ⟨τb,u4,ob⟩:=u4;have kC:=xx.tr uZ;have JH:=hS.ext (mO.tr (xj.tr uZ));refine (ub JH (.func 42) #[] #[.pointer (bu w'.heap.size)]).mono ?_;rintro e u5 ⟨rfl,⟨F2,te,ph⟩,mN⟩;obtain ⟨gS,sdS,hrS,-,hsF,-,-⟩:=JH.row;have hra141:=(Mv.ext kC);have hrr141:=(NM.ext kC);have hrp141:=(UJ.ext kC);have hrx141:=rx.ext uZ;have asc:wr.heap.size<=s\/F s:=(fFs s hsF).symm;have Qk:=hS.lt hsF;have od:bG≠pc/\Ck≠pc/\Yf≠pc/\bG≠Q.ig/\bG≠Q.bT/\bG≠gz:=by decide
 have ajX:=mN.size;refine ⟨rfl,mN.same _ hra141.lt (hra141.ne hrS od.1),mN.same _ hrr141.lt (hrr141.ne hrS od.2.1),mN.same _ hrp141.lt (hrp141.ne hrS od.2.2.1),mN.same _ hrx141.lt (hrx141.ne hrS od.1),λBz qv=> ?_⟩;have u6:=Ext.dr u5;have ae2:=kQ u5;have hra142:=(mN.row hra141 (hra141.ne hrS od.1)).ext u6;have JI:=(mN.row u4 (u4.ne hrS ob.2.2.2.1)).ext u6;have BD:=te.ext u6;have UQ:¬F2 w:=BD.oe hra142 i33.1 aC aC od.1 od.2.2.2.1 od.2.2.2.2.1 od.2.2.2.2.2;have hnb:¬F2 w'.heap.size:=BD.oe JI ob.1 ob.2.1 ob.2.2.1 ob.2.2.2.1 ob.2.2.2.2.1 ob.2.2.2.2.2.1 ob.2.2.2.2.2.2;have UT:SF F2 Bz s o t (M5 sd aO) (.func (.func 42) #[] #[.pointer (bu w'.heap.size)]):=BD.same λi hi=>by rw [qv,setRow_other _ _ _ _ (λq=>UQ (by rw [<-q];exact hi))]
 have nbw:w'.heap.size≠w:=by have:=xx.size;omega
 have JK:Row Bz w'.heap.size [.slice o'.a o'.n o'.c] τb:=JI.same (by rw [qv,setRow_other _ _ _ _ nbw]);have ajY:=mC qv;have hF2:∀i,F2 i->w.heap.size<=i:=λi hi=>by
  rcases ph.sub i hi with q|q
  ·rcases fFs i q with q|q
   ·exact fF i q
   ·omega
  ·have:=kC.size;omega
 have hFr:∀i,¬F i->i<wr.heap.size->¬F2 i:=λi hn hi q=>by
  have hx:=kC.size;rcases ph.sub i q with q|q
  ·exact (fFs i q).elim hn aa
  ·omega
 have JW:∀b,o'.bj=some b->lV.heap.size<=b/\b<w'.heap.size:=λb hb=>ho.own.lt hb
 have hsF':∀i,jz.heap.size<=i->i<BC.heap.size->¬F2 i:=λi h1 h2 q=>by
  rcases ph.sub i q with q|q
  ·have:=hS.lt q;omega
  ·omega
 have asd:=z87;have Zl:aj lV gz 3 Bz o' ((T6 cs).map dn):=by
  refine aj.bM (ho.ext uZ) λg hg=> ?_
  have Y1:=JW g hg;have h1:=mN.same g aa (λq=>by have:=hS.lt hsF;omega);rw [qv,setRow_other _ _ _ _ (by have:=xx.size;have:=xw.size;omega)];exact h1
 refine ⟨s,o,t,F2,_,sa,sb,sc,o',rfl,UT,⟨λi=>i=w'.heap.size\/o'.bj=some i,λi hi=> ?_,λw2 hk c hc=> ?_⟩,hR.same λi hp hi=>⟨?_,hFr i hp.1 hi⟩,⟨Zl.rd aC,λ_ g hg=>hsF' g (by have:=JW g hg;omega) (by have:=JW g hg;omega)⟩,?_,hF2⟩
 ·have h0:w.heap.size<=lV:=by have:=xw.size;omega
  rcases hi with rfl|hi
  ·exact ⟨JK.lt,λq=>q.elim hnb aa⟩
  ·have Y1:=JW i hi;exact ⟨by omega,λq=>q.elim (hsF' i aa aa) aa⟩
 ·exact iA (by kernel_rfl) rfl (Fo c (JK.same (hk _ (.inl rfl))) ((aj.bM Zl (λg hg=>hk g (.inr hg)):aj lV gz 3 w2 o' ((T6 cs).map dn)).rd aC) Qi)
 ·rw [qv,setRow_other _ _ _ _ hp.2.2];have hx:=kC.size;have hix:i≠s:=λq=>by
   rcases fFs s hsF with q2|q2
   ·exact hp.1 (q▸q2)
   ·omega
  exact (mN.same i aa hix).trans (kC.heap hi)
 ·have abO:w.heap.size<=s:=by
   rcases fFs s hsF with q2|q2
   ·exact fF s q2
   ·omega
  exact ((mN.ext (xw.tr kC) λi hi=>hi▸abO).tr u6).ab qv (ax _)
end Go.Proofs.YtalpkjfpmdpbiaaGreatDoor
namespace Go.Proofs.YtalpkjfpmdpbiaaGreatDoor
open Go Go.Vc Go.RowKit Go.Proofs Go.dS Go.bh Go.Code Go.km Go.iQ
set_option maxRecDepth 100000
section
variable {N F:Nat->Prop} {w w':World} {s o t:Nat} {M:Sm} {occ:Value} {oc:List Ce} {s1 s2 s3 s4 sq so sd:Sl}
def Bt.que(hB:Bt N F w s o t M occ oc s1 s2 s3 s4 sq so sd):M.q.l.length<=5000:=by have:=hB.r.s.ok.len;have:=hB.r.s.ok.room;omega
def IW(hB:Bt N F w s o t M occ oc s1 s2 s3 s4 sq so sd)(ho:qH M.T)(c:Ce):
  ah 33 #[s,.agg (xM M s1 s2 s3 s4 sq so sd).toArray,iG c] w λe w'=>e=true/\Ext w w':=by
 apply (Ln.vc (gB:=s1) (gC:=s2) (gD:=s3) (fM:=s4) (eW:=sq) (fI:=so) (fJ:=sd));have hS:=hB.s;have hR:=hB.r;have hq:=hB.que;intro w0 e0 w1 e1;have x1:Ext w w1:=(bo e0).ay e1;have z0:=dt e0;have z1:w1.heap.size=w.heap.size+2:=by rw [e1];simp [z0]
 have ra:Row w1 w (xM M s1 s2 s3 s4 sq so sd) bG:=(by rw [e0];exact Row.new w [_,_,_,_,_,_,_,_,_,_,_,_,_,_,_,_] _:Row w0 w (xM M s1 s2 s3 s4 sq so sd) bG).ext (bo e1);refine (pN (hS.ext x1)).mono ?_;rintro e w2 ⟨rfl,hw⟩;subst hw;obtain ⟨Fw0,hW,-,-⟩:=(hS.ext x1).world;refine ⟨_,rfl,rfl,rfl,pd rfl ((nM hW).mono ?_)⟩;rintro e w4 ⟨rfl,hw⟩;subst hw;refine ⟨_,rfl,rfl,rfl,?_⟩;rw [S3,H5,QV];refine pd rfl ((qg c w4).mono ?_);rintro e w6 ⟨rfl,x6⟩;have zz6:=x6.size;refine ⟨_,_,_,rfl,x6.heap aa,x6.heap aa,λbL wA cB yl=> ?_⟩;have bR:Ext w6 cB.drew:=((bo wA).ab yl (ax _)).tr (Ext.dr cB);have z11:=jE wA yl;have zd:=kQ cB;have rc:Row cB.drew w6 (dn (nr c)) gz:=(by rw [yl];exact Row.set (by rw [wA];exact Row.new w6 [_,_,_] _) _:Row cB w6 _ gz).ext (Ext.dr cB);have y11:=x1.tr (x6.tr bR);have afy:=ra.ext (x6.tr bR);have hmi:=Fc c;have okm:lY (nr c):=by unfold lY inI;omega
 generalize nr c=m at*;refine (PR (hS.ext y11)).mono ?_;rintro e bS ⟨rfl,hw⟩;subst hw;refine ⟨_,rfl,rfl,rfl,rfl,afy.at 13 rfl,Br.mk (λ_=> ?_) (λq=>by simp at q)⟩;refine (B9 (hS.ext y11)).mono ?_;rintro e bY ⟨ji,rfl,Jh,bW⟩;have aj9:=bW.size;have acp:=afy.ext bW;refine ⟨ji,rfl,bW.heap aa,bW.heap aa,bW.heap aa,acp.at 11 rfl,acp.at 13 rfl,(L6 (Jh.rd aC) hq).mono ?_⟩;rintro e cY ⟨gF,rfl,UC,cQ⟩;have arj:=cQ.size;have Vb:=acp.ext cQ;have y16:=y11.tr (bW.tr cQ);refine ⟨gF,rfl,cQ.heap aa,cQ.heap aa,cQ.heap aa,Vb.at 11 rfl,Vb.at 13 rfl,(A3 (UC.rd aC) ((hR.ext y16).s.qo.rd aC) hq).mono ?_⟩;rintro e dA ⟨rfl,cf⟩;have ark:=cf.size;have afz:=Vb.ext cf;have y18:=y16.tr cf;refine ⟨_,rfl,cf.heap aa,cf.heap aa,cf.heap aa,afz.at 13 rfl,Br.mk (λ_=>dI ((hS.ext y18).tl.at (c:=m) okm) ?_) (λq=>by cases q)⟩;rintro e dY ⟨rfl,du⟩;have arl:=du.size;have acq:=afz.ext du;have y20:=y18.tr du;refine ⟨_,rfl,du.heap aa,du.heap aa,du.heap aa,Lo.wv (rc.ext (bW.tr (cQ.tr (cf.tr du)))),?_,acq.at 13 rfl,(rU (ag:=M.ag) (cap:=M.cap) (hR.ext y20).s.t ho m okm).mono ?_⟩
 ·exact acq.aY (o:=0) (λj hj=>by
   match j,hj with
   |0,_=>rfl
   |1,_=>rfl
   |2,_=>rfl
   |3,_=>rfl
   |4,_=>rfl
   |5,_=>rfl
   |6,_=>rfl
   |7,_=>rfl)
 rintro e ct ⟨rfl,eK⟩;have aiZ:=eK.size;refine ⟨_,rfl,eK.heap aa,eK.heap aa,eK.heap aa,(acq.ext eK).at 13 rfl,?_,y20.tr eK⟩;rw [show (eB M.T.2 m==eB M.T.2 m)=true by simp]
end
def Fi{w:World}{a b:Sl}{ch:List Go.iQ.Cg}(ha:RdK w a 4 (ch.map FY))(hb:RdK w b 4 (ch.map FY))(hl:ch.length<=1000000):ah 34 #[a,b] w λe w'=>e=true/\Ext w w':=by
 apply (Ll.vc (a0:=a) (a1:=b));have n1:=ha.n;have n2:=hb.n;rw [aB] at n1 n2;refine pd (by rw [n1,n2];simp) ?_;refine ⟨λn x wr=>∃j:Nat,x=j/\j+n=ch.length/\Ext w wr,⟨ch.length,0,rfl,by omega,Ext.bX _⟩,?_⟩;rintro n us x wr ⟨j,rfl,hj,xr⟩;refine Br.mk (λeF=> ?_) (λ_=>⟨rfl,xr⟩);replace eF:=fe eF;obtain ⟨y,hy⟩:=aZ (l:=ch) (i:=j) aa;have hy':(ch.map FY)[j]? =some (FY y):=by rw [aV,hy];rfl
 have wk:=kK (j:=j);have xd:=xr.tr (Ext.dr wr);refine ⟨ha.fp (i:=(j:Int)) aC aa eF,_,_,_,_,(ha.ext xd).aY hy',hb.fp (i:=(j:Int)) aC aa aa,_,_,_,_,(hb.ext xd).aY hy',pd cx ⟨n-1,by omega,j+1,wk,by omega,xd⟩⟩
end Go.Proofs.YtalpkjfpmdpbiaaGreatDoor
