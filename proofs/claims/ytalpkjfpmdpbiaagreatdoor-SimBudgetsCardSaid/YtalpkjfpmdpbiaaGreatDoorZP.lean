import Derived.Test.YtalpkjfpmdpbiaaGreatDoorGX
import Derived.Test.YtalpkjfpmdpbiaaGreatDoorYT
set_option linter.all false
namespace Go.Proofs.YtalpkjfpmdpbiaaGreatDoor
open Go Go.Vc Go.RowKit Go.Proofs
set_option maxRecDepth 100000
set_option maxHeartbeats 8000000
set_option linter.unusedVariables false
variable {R:Ending->World->Prop} {w:World} {a0 a1 a2 a3 a4 a5 a6 a7 a8 a9 aq ar au aI aJ aK aL aH bM eB ao aj aw dO ic jg jh ji gq gY dj dZ dU lg lO nm xO xP xQ xR xS xU xV xW xX xY xZ ya yb yc:Int}
def vC.vc{a2:Sl}(h:
 ah 9 #[a0,a1,.slice none 0 0] w (λe w0=>∃(p1:Option Addr)(x2 x3 x4 x5 x6:Int)(s7 s8 s9 cL:Sl)(bV bT:Int)(gf:Sl)(cl bA:Int)(kz gZ:Sl),e=Value.tuple #[p1,.agg #[x2,x3,x4,x5,x6,s7,s8,s9,cL,bV,bT,gf,cl,bA,kz,gZ]]/\
 Aw w0 #[af,af,af,af,af,.slice none 0 0,.slice none 0 0,.slice none 0 0,.slice none 0 0,af,af,.slice none 0 0,af,af,.slice none 0 0,.slice none 0 0] 39 λdJ=>
 Sw dJ w0 #[x2,x3,x4,x5,x6,s7,s8,s9,cL,bV,bT,gf,cl,bA,kz,gZ] λfD=>
 Br (p1).isNone
 (R false fD)
 (∃J20:Int->Int->Int->Int->Int->Sl->Sl->Sl->Sl->Int->Int->Sl->Int->Int->Sl->Sl->World->Prop,
 (∃I21:Nat->Int->Int->Int->Int->Int->Int->Sl->Sl->Sl->Sl->Int->Int->Sl->Int->Int->Sl->Sl->World->Prop,
 (∃n22,I21 n22 (0) x2 x3 x4 x5 x6 s7 s8 s9 cL bV bT gf cl bA kz gZ fD)/\
 ∀(n22:Nat)(arx:Nat->Value)(di cW dV dc eM iL:Int)(gP g9 iR Js:Sl)(fX jy:Int)(o4:Sl)(gd ja:Int)(si Qm:Sl)(j7:World),I21 n22 di cW dV dc eM iL gP g9 iR Js fX jy o4 gd ja si Qm j7->
 Br (decide (di<((a2.n:Nat):Int)))
 (Br (di<15)
 (∃J43:Option Addr->Bool->World->Prop,
 (cB a2.a di a2.n/\∃(jF lj oY ma rW jY:Int),av j7.drew (ae a2.a ((di:Int).toNat*6)) 0 [jF,lj,oY,ma,rW,jY]/\
 (ah 32 #[p1,.agg #[cW,dV,dc,eM,iL,gP,g9,iR,Js,fX,jy,o4,gd,ja,si,Qm],.agg #[jF,lj,oY,ma,rW,jY]] j7.drew (λe xc=>∃(U6 wS uk wW FE:Int)(Yd Ql s58 LO:Sl)(A6 pa:Int)(PH:Sl)(lQ E8:Int)(TL s66:Sl)(b67:Bool),e=Value.tuple #[.agg #[U6,wS,uk,wW,FE,Yd,Ql,s58,LO,A6,pa,PH,lQ,E8,TL,s66],b67]/\Kp w0 j7.drew xc/\
 Aw xc #[af,af,af,af,af,.slice none 0 0,.slice none 0 0,.slice none 0 0,.slice none 0 0,af,af,.slice none 0 0,af,af,.slice none 0 0,.slice none 0 0] 39 λJh=>
 Sw Jh xc #[U6,wS,uk,wW,FE,Yd,Ql,s58,LO,A6,pa,PH,lQ,E8,TL,s66] λlA=>
 aP [cW,dV,dc,eM,iL,gP,g9,iR,Js,fX,jy,o4,gd,ja,si,Qm]/\J43 (bu xc) b67 lA))/\(Aw j7.drew #[af,af,af,af,af,.slice none 0 0,.slice none 0 0,.slice none 0 0,.slice none 0 0,af,af,.slice none 0 0,af,af,.slice none 0 0,.slice none 0 0] 39 λvI=>
 ah 32 #[p1,.agg #[cW,dV,dc,eM,iL,gP,g9,iR,Js,fX,jy,o4,gd,ja,si,Qm],.agg #[jF,lj,oY,ma,rW,jY]] vI (λe w71=>∃(qy re qc x75 rf:Int)(Ds uE M1 A7:Sl)(x81 q8:Int)(s83:Sl)(MR MS:Int)(s86 s87:Sl)(b88:Bool),e=Value.tuple #[.agg #[qy,re,qc,x75,rf,Ds,uE,M1,A7,x81,q8,s83,MR,MS,s86,s87],b88]/\Kp w0 vI w71/\w71.heap[j7.drew.heap.size]? =vI.heap[j7.drew.heap.size]?/\
 Sw w71 j7.drew.heap.size #[qy,re,qc,x75,rf,Ds,uE,M1,A7,x81,q8,s83,MR,MS,s86,s87] λFG=>
 aP [cW,dV,dc,eM,iL,gP,g9,iR,Js,fX,jy,o4,gd,ja,si,Qm]/\J43 (bu j7.drew.heap.size) b88 FG)))/\
 ∀aaD:Nat->Value,∀(p91:Option Addr)(b92:Bool)(Py:World),J43 p91 b92 Py->
 ∃(Jq Dq B5 vF uo:Int)(IP vJ Fg Ja:Sl)(nq uu:Int)(Cf:Sl)(ym vK:Int)(Fh LI:Sl),av Py p91 0 [Jq,Dq,B5,vF,uo,IP,vJ,Fg,Ja,nq,uu,Cf,ym,vK,Fh,LI]/\
 Sw Py w0 #[Jq,Dq,B5,vF,uo,IP,vJ,Fg,Ja,nq,uu,Cf,ym,vK,Fh,LI] λfY=>
 Br (!b92)
 (R false fY)
 (∃n42,n42<n22/\I21 n42 ((ai (di+1))) Jq Dq B5 vF uo IP vJ Fg Ja nq uu Cf ym vK Fh LI fY))
 (J20 cW dV dc eM iL gP g9 iR Js fX jy o4 gd ja si Qm j7))
 (J20 cW dV dc eM iL gP g9 iR Js fX jy o4 gd ja si Qm j7))/\
 ∀afh:Nat->Value,∀(mJ Fi vM lk qd:Int)(Cn P7 vQ mI:Sl)(yi B7:Int)(P8:Sl)(qK ln:Int)(B8 P9:Sl)(PL:World),J20 mJ Fi vM lk qd Cn P7 vQ mI yi B7 P8 qK ln B8 P9 PL->
 ∃abQ:Nat->Int->World->Prop,
 (∃Xs,aP [mJ,Fi,vM,lk,qd,Cn,P7,vQ,mI,yi,B7,P8,qK,ln,B8,P9]/\abQ Xs (0) PL)/\
 ∀(Xs:Nat)(anL:Nat->Value)(ou:Int)(LW:World),abQ Xs ou LW->
 ah 19 #[a3,(11:Int)] LW (Ri λCd LY=>Kp w0 LW LY/\
 Br (ou<Cd)
 (ah 23 #[p1] LY (Rs λsk PO=>Kp w0 LY PO/\
 ah 31 #[sk] PO (Rs λuy Cm=>Kp w0 PO Cm/\
 ah 15 #[p1] Cm (Ri λaaE Ba=>Kp w0 Cm Ba/\
 ∃Xt:Nat->Int->Int->World->Prop,
 (∃UE,aP [mJ,Fi,vM,lk,qd,Cn,P7,vQ,mI,yi,B7,P8,qK,ln,B8,P9]/\Xt UE (0) (0) Ba)/\
 ∀(UE:Nat)(anM:Nat->Value)(uz yn:Int)(IX:World),Xt UE uz yn IX->
 Br (decide (uz<((uy.n:Nat):Int)))
 (cB uy.a uz uy.n/\bn (eQ (ae uy.a ((uz:Int).toNat*4))) (∃(LM:Int),ld IX.drew (ae (ae uy.a ((uz:Int).toNat*4)) 0)=some (.int .i64 LM)/\
 ah 29 #[p1] IX.drew (Ri λals UC=>Kp w0 IX.drew UC/\
 av UC (ae (ae uy.a ((uz:Int).toNat*4)) 0) 0 [LM]/\Br (LM<=als)
 (∃UF,UF<UE/\aP [mJ,Fi,vM,lk,qd,Cn,P7,vQ,mI,yi,B7,P8,qK,ln,B8,P9]/\Xt UF ((ai (uz+1))) ((ai (yn+1))) UC)
 (∃UF,UF<UE/\aP [mJ,Fi,vM,lk,qd,Cn,P7,vQ,mI,yi,B7,P8,qK,ln,B8,P9]/\Xt UF ((ai (uz+1))) yn UC))))
 (Br (aaE !=(if (if 64<(if 1>a1 then 1 else a1) then 64 else (if 1>a1 then 1 else a1))<yn then (if 64<(if 1>a1 then 1 else a1) then 64 else (if 1>a1 then 1 else a1)) else yn))
 (R false IX)
 (∃afD,afD<Xs/\aP [mJ,Fi,vM,lk,qd,Cn,P7,vQ,mI,yi,B7,P8,qK,ln,B8,P9]/\abQ afD ((ai (ou+1))) IX))))))
 (ah 13 #[] LY (Rb λalu abJ=>Kp w0 LY abJ/\
 R alu abJ)))))):ah 7 #[a0,a1,a2,a3] w R:=
 cq ⟨[(5,⟨[(11,.int .i64)],[(0,[.int .i64,.int .i64,.int .i64,.int .i64,.int .i64,.slice,.slice,.slice,.slice,.int .i64,.int .i64,.slice,.int .i64,.int .i64,.slice,.slice])],[]⟩),(19,⟨[(19,.int .i64),(18,.int .i64)],[],[]⟩),(13,⟨[(15,.int .i64)],[],[]⟩)],[(8,⟨[(12,.ptr),(13,.bool)],[],[]⟩),(11,⟨[],[(0,[.int .i64,.int .i64,.int .i64,.int .i64,.int .i64,.slice,.slice,.slice,.slice,.int .i64,.int .i64,.slice,.int .i64,.int .i64,.slice,.slice])],[]⟩)],[]⟩ Tryz.func7 h
end Go.Proofs.YtalpkjfpmdpbiaaGreatDoor
namespace Go.Proofs.YtalpkjfpmdpbiaaGreatDoor
open Go Go.Vc Go.RowKit Go.Proofs Go.dQ Go.bf Go.Code Go.ks Go.jd
set_option maxRecDepth 100000
def AL(ag aO:Int)(a:Sl)(z:List (List Int))(ticks:Int)(w:World)(ht:inI ticks)(hz:RdK w a 6 (z.map λr=>r.map λn=> .int .i64 n))(hr:∀r ∈ z,r.length=6/\∀n ∈ r,inI n):
  ah 7 #[ag,aO,a,ticks] w λe w'=>e=true/\Ext w w':=by
 apply (vC.vc (a2:=a));have hn:=hz.n;rw [aB] at hn;have Xp:=ag5 aO;have em:(if 64<(if 1>aO then 1 else aO) then 64 else (if 1>aO then 1 else aO))=min (max aO 1) 64:=by split<;>split<;>omega
 have ot:bU≠Q.tX:=by decide
 refine (Ad ag aO ⟨none,0,0⟩ rfl w).mono ?_;rintro e w0 ⟨s,o,t,F0,occ,r1,r2,r3,rfl,hS0,hO0,hRT0,x0,f0⟩;have zz0:=x0.size;refine ⟨_,_,_,_,_,_,r1,r2,r3,⟨none,0,0⟩,_,_,⟨none,0,0⟩,_,_,⟨none,0,0⟩,⟨none,0,0⟩,rfl,λdJ Jg fD yh=>Ej rfl ?_⟩;have cN:Ext w0 fD:=(bq Jg).ab yh (ax _);have z19:=kC Jg yh;have aff:∃cs,Row fD w0 cs bU:=⟨_,by rw [yh];exact Row.set (by rw [Jg];exact Row.new w0 [_,_,_,_,_,_,_,_,_,_,_,_,_,_,_,_] _) _⟩;have su:Bt (λi=>i≠w0.heap.size) F0 fD s o t (M5 ag aO) occ [] r1 r2 r3 ⟨none,0,0⟩ ⟨none,0,0⟩ ⟨none,0,0⟩ ⟨none,0,0⟩:=by
  have eO:(oM [])=λ_:Ce=>false:=by funext y;simp
  refine ⟨hS0.ext cN,?_,⟨⟨hRT0.same λi hp hi=>⟨cN.heap hi,hp,by omega⟩,RG.nil,ak.nil,XB⟩,KP.nil,KP.nil⟩,λi hi=>by omega,by simp,rfl⟩;rw [eO];obtain ⟨D,h1,h2⟩:=hO0;refine ⟨D,λi hi=>⟨kN (h1 i hi).1 cN.size,λq=> ?_⟩,λw'' hk=>h2 w'' λi hi=>(hk i hi).trans (cN.heap (h1 i hi).1)⟩;obtain ⟨d1,d2⟩:=h1 i hi;rcases q with q|q
  ·exact d2 (.inl q)
  ·exact q aa
 have Qk:=sw5 (hS0.ext cN);have fr0:∀i,F0 i->w.heap.size<=i:=f0;have ak0:=x0.tr cN;refine ⟨λ_ _ _ _ _ _ _ _ _ _ _ _ _ _ _ _ wj=>∃(A:Sm)(m n:Nat)(F':Nat->Prop),SF F' wj s o t A occ/\Oc occ (oM []) F' wj/\o5 (min (max aO 1) 64) m A n/\n<=300000/\Ext w wj/\(∀i,F' i->w.heap.size<=i)/\(∀i,F' i->i≠w0.heap.size)/\w0.heap.size<wj,?_,?_⟩
 ·refine ⟨λn k a1 a2 a3 a4 a5 b1 b2 b3 b4 c1 c2 c3 c4 c5 c6 c7 wj=>∃(j:Nat)(A:Sm)(F':Nat->Prop),k=j/\j+n=15/\FB (λi=>i≠w0.heap.size) F' wj s o t occ [] A a1 a2 a3 a4 a5 b1 b2 b3 b4 c1 c2 c3 c4 c5 c6 c7/\o5 (min (max aO 1) 64) j A (17920*j)/\Ext w wj/\(∀i,F' i->w.heap.size<=i)/\w0.heap.size<wj/\(∀i,F' i->i≠w0.heap.size)/\∃cs,Row wj w0 cs bU,⟨15,0,_,F0,rfl,rfl,FB.of su,Qk,ak0,fr0,by omega,λi hi q=>by have:=su.s.yA (aff.choose_spec) ZZ.1 ZZ.2.1 ZZ.2.2.1 ZZ.2.2.2.1 ZZ.2.2.2.2.1 ZZ.2.2.2.2.2.1 ZZ.2.2.2.2.2.2;exact this (q▸hi),aff⟩,?_⟩;rintro n us k a1 a2 a3 a4 a5 b1 b2 b3 b4 c1 c2 c3 c4 c5 c6 c7 j7 ⟨j,A,F',rfl,hj,⟨⟨rfl,rfl,rfl,rfl,rfl,rfl,rfl,rfl,rfl⟩,hB⟩,hs,kK,fr,ak1,nb,⟨cb,rb⟩⟩;have out:∃(A:Sm)(m n:Nat)(F':Nat->Prop),SF F' j7 s o t A occ/\Oc occ (oM []) F' j7/\o5 (min (max aO 1) 64) m A n/\n<=300000/\Ext w j7/\(∀i,F' i->w.heap.size<=i)/\(∀i,F' i->i≠w0.heap.size)/\w0.heap.size<j7:=⟨A,j,17920*j,F',hB.s,hB.o.mono λi hi=> .inl hi,hs,by omega,kK,fr,nb,ak1⟩;refine Br.mk (λhb=>Br.mk (λfi=> ?_) (λfi=>out)) (λhb=>out);simp only [bB] at hb fi;obtain ⟨y,hy⟩:=bh (l:=z) (i:=j) aa;obtain ⟨hy6,hyi⟩:=hr y (bc hy);obtain ⟨k0,bb,nn,c1',c2',c3',rfl⟩:∃k0 bb nn c1 c2 c3,y=[k0,bb,nn,c1,c2,c3]:=by
   match y,hy6 with
   | [k0,bb,nn,c1,c2,c3],_=>exact ⟨_,_,_,_,_,_,rfl⟩
  have hm:(z.map λr=>r.map λn=>Value.int .i64 n)[j]? =some [.int .i64 k0,.int .i64 bb,.int .i64 nn,.int .i64 c1',.int .i64 c2',.int .i64 c3']:=by rw [aX,hy];rfl
  have wk:=lD (j:=j);have xd:=Ext.dr j7;have zd:=lW j7;have rbd:=rb.ext xd;refine ⟨λp b wj=>b=true/\∃(g:Nat)(A':Sm)(F2:Nat->Prop)(t1 t2 t3 t4 t5 t6 t7:Sl),p=bu g/\Row wj g (xM A' t1 t2 t3 t4 t5 t6 t7) bU/\Bt (λi=>i≠w0.heap.size) F2 wj s o t A' occ [] t1 t2 t3 t4 t5 t6 t7/\o5 (min (max aO 1) 64) (j+1) A' (17920*j+17920)/\aG F' F2 j7 wj,
   ⟨(hz.ext (kK.tr xd)).fN (i:=(j:Int)) aE aa hb,_,_,_,_,_,_,(hz.ext (kK.tr xd)).bk hm,?_,λvI e70=> ?_⟩,?_⟩
  ·refine (wJ (hB.ext xd) hs aa aa Xp k0 bb nn c1' c2' c3' hyi).mono ?_;rintro e xc ⟨M',F2,t1,t2,t3,t4,t5,t6,t7,rfl,hB2,LX,kC⟩;have aq8:=LX.mod.size;refine ⟨_,_,_,_,_,t1,t2,t3,t4,_,_,t5,_,_,t6,t7,_,rfl,LX.mod.same _ aa (λhf=>nb _ hf rfl),λJh Vk lA e69=> ?_⟩;have qG:Ext xc lA:=(bq Vk).ab e69 (ax _);exact ⟨rfl,rfl,xc.heap.size,M',F2,t1,t2,t3,t4,t5,t6,t7,rfl,by rw [e69];exact Row.set (by rw [Vk];exact Row.new xc [_,_,_,_,_,_,_,_,_,_,_,_,_,_,_,_] _) _,hB2.ext qG,kC,((aG.aM xd).trans LX).trans (aG.aM qG)⟩
  ·have jB:Ext j7 vI:=xd.ay e70;have z70:vI.heap.size=j7.heap.size+1:=by rw [e70];simp [zd]
   have r70:∃cs,Row vI j7.drew.heap.size cs bU:=⟨_,by rw [e70];exact Row.new j7.drew [_,_,_,_,_,_,_,_,_,_,_,_,_,_,_,_] _⟩;obtain ⟨c70,r70⟩:=r70;have hgb:j7.heap.size<=j7.drew.heap.size/\j7.drew.heap.size<vI:=⟨by omega,by omega⟩;refine (wJ (hB.aside jB hgb) hs aa aa Xp k0 bb nn c1' c2' c3' hyi).mono ?_;rintro e w71 ⟨M',hdo⟩;obtain ⟨F2,t1,t2,t3,t4,t5,t6,t7,rfl,kC,r71,arb,ht,Z8⟩:=hB.boxed jB hgb r70 hdo;refine ⟨_,_,_,_,_,t1,t2,t3,t4,_,_,t5,_,_,t6,t7,_,rfl,ht.mod.same _ aa (λhf=>nb _ hf rfl),ht.mod.same _ aa (λhf=>by have:=hB.s.lt hf;omega),λFG e89=> ?_⟩;obtain ⟨q1,q2⟩:=Z8 FG _ e89;exact ⟨rfl,rfl,j7.drew.heap.size,M',F2,t1,t2,t3,t4,t5,t6,t7,rfl,by rw [e89];exact Row.set r71 _,q1,kC,q2⟩
  ·rintro aaD p b Py ⟨rfl,g,A',F2,t1,t2,t3,t4,t5,t6,t7,rfl,hg,hB2,kC,LX⟩;have arc:=LX.mod.size;obtain ⟨MY,fr2⟩:=LX.fresh kK fr;have afg:=rb.same (LX.mod.same _ rb.lt (λhf=>nb _ hf rfl));have nb2:∀i,F2 i->i≠w0.heap.size:=λi hi q=>by
    rcases LX.sub i hi with h|h
    ·exact nb i h q
    ·omega
   refine ⟨_,_,_,_,_,t1,t2,t3,t4,_,_,t5,_,_,t6,t7,Lo.wv hg,λfY qL=>Ej rfl ?_⟩;have aeW:=mL qL;have hB3:=hB2.box (λq=>q rfl) (λq=>nb2 _ q rfl) afg qL;exact ⟨n-1,by omega,j+1,A',F2,wk,by omega,FB.of hB3,by rw [show 17920*(j+1)=17920*j+17920 by omega];exact kC,MY.ab qL aa,fr2,by omega,nb2,⟨_,by rw [qL];exact Row.set afg _⟩⟩
 rintro afh _ _ _ _ _ _ _ _ _ _ _ _ _ _ _ _ PL ⟨A0,m0,n0,F0',hS,hO,hs,hn0,PS,fr,nb,afi⟩;have had:=gW ticks 11 aE;refine ⟨λn k wj=>∃(j:Nat)(A:Sm)(F':Nat->Prop),k=j/\(j:Int)+n=fL ticks 11/\SF F' wj s o t A occ/\Oc occ (oM []) F' wj/\o5 (min (max aO 1) 64) m0 A (300000+2560*j)/\Ext w wj/\(∀i,F' i->w.heap.size<=i)/\(∀i,F' i->i≠w0.heap.size)/\w0.heap.size<wj,⟨(fL ticks 11).toNat,rfl,0,A0,F0',rfl,by omega,hS,hO,hs.mono aa,PS,fr,nb,afi⟩,?_⟩;rintro n us k LW ⟨j,A,F',rfl,hj,hS,hO,hs,oZ,fr,nb,Yt⟩;refine (iZ ticks 11 LW ht aE (by unfold inI;omega)).mono ?_;rintro e LY ⟨rfl,hw⟩;subst hw;refine ⟨_,rfl,rfl,Br.mk (λhb=> ?_) (λhb=> ?_)⟩
 ·replace hb:=fj hb;have lh:=hs.tj aa Xp;have hqk:A.q.l.length<=5000/\wC A.q:=by obtain ⟨g,m,qs,-,q,-⟩:=hS.queue;have:=q.len;have:=q.room;exact ⟨by omega,q⟩
  refine (BJ hS).mono ?_;rintro e PO ⟨sk,rfl,afj,abI⟩;have anq:=abI.size;refine ⟨sk,rfl,abI.heap Yt,(Ls (afj.rd aE) hqk.1).mono ?_⟩;rintro e Cm ⟨uy,rfl,Yu,PT⟩;have anr:=PT.size;have Xq:=abI.tr PT;refine ⟨uy,rfl,PT.heap aa,(lu (hS.ext Xq) (hO.ext Xq) lh.1 lh.2.1 lh.2.2).mono ?_⟩;rintro e Ba ⟨rfl,F2,uw,LX⟩;have ans:=LX.mod.size;have afk:=LX.mod.gQ Yu λb hb hf=>by have:=hS.lt hf;have:=(Yu.own.lt hb).1;omega
  have eZ:=afk.rd (show 0<4 by decide);have ant:uy.n=A.q.l.length:=by have:=eZ.n;rwa [aB] at this
  obtain ⟨A9,fr2⟩:=LX.fresh (oZ.tr Xq) fr;have nb2:∀i,F2 i->i≠w0.heap.size:=λi hi q=>by
   rcases LX.sub i hi with h|h
   ·exact nb i h q
   ·omega
  have PC:=Tn A.q.l (gh A);refine ⟨_,rfl,LX.mod.same _ aa (λhf=>nb _ hf rfl),λn k c wj=>∃i:Nat,k=i/\i+n=A.q.l.length/\c=((min i (Qe A.q.l (gh A)):Nat):Int)/\Ext Ba wj,⟨A.q.l.length,rfl,0,rfl,by omega,by simp,Ext.ck _⟩,?_⟩;rintro n2 oX k c wj ⟨i,rfl,hi,rfl,xj⟩;have zzj:=xj.size;apply Br.mk<;>intro fi
  ·replace fi:=fj fi;obtain ⟨y,hy⟩:=bh (l:=A.q.l) (i:=i) aa;have hy':(A.q.l.map cM)[i]? =some (cM y):=by rw [aX,hy];rfl
   have wk:=lD (j:=i);have xd:=xj.tr (Ext.dr wj);have cV:=eZ.fN (i:=(i:Int)) aE aa fi;have mz:(ae uy.a (((i:Nat):Int).toNat*4)).isSome=true:=by obtain ⟨p,hp⟩:=kO.1 cV.1;rw [hp];rfl
   have mH:=(eZ.ext xd).at hy' (j:=0) rfl;have hld2:av wj.drew (ae (ae uy.a (((i:Nat):Int).toNat*4)) 0) 0 [y.1]:=by show ld wj.drew (ae _ 0)=_;rw [bZ];exact mH
   refine ⟨cV,Bj mz ⟨y.1,mH,(Pa (uw.ext xd)).mono ?_⟩⟩;rintro e UC ⟨rfl,hw⟩;subst hw;rw [To];have hta:=gT hqk.2.sorted (gh A) hy;have hta:i<Qe A.q.l (gh A) ↔ y.1<=gh A:=hta;refine ⟨_,rfl,rfl,hld2,Br.mk (λh1=> ?_) (λh1=> ?_)⟩
   ·have h1:=kB h1;have ft:=hta.2 h1;have wc:ai (((min i (Qe A.q.l (gh A)):Nat):Int)+1)=((min (i+1) (Qe A.q.l (gh A)):Nat):Int):=by rw [wI];omega
    exact ⟨n2-1,by omega,rfl,i+1,wk,by omega,wc,xd⟩
   ·have h1:=kB h1;have ft:¬i<Qe A.q.l (gh A):=λq=>h1 (hta.1 q)
    exact ⟨n2-1,by omega,rfl,i+1,wk,by omega,by omega,xd⟩
  ·replace fi:=fh fi;have ak6:min i (Qe A.q.l (gh A))=Qe A.q.l (gh A):=by omega
   have afl:=Z0 A lh.2.2;rw [hs.b] at afl;rw [ak6,em];refine Ej ?_ ?_
   ·have:(if min (max aO 1) 64<((Qe A.q.l (gh A):Nat):Int) then min (max aO 1) 64 else ((Qe A.q.l (gh A):Nat):Int))=((k7 A).length:Int):=by rw [afl];split<;>omega
    rw [this];simp
   ·have wk:=lD (j:=j);exact ⟨n-1,by omega,rfl,j+1,fo (oM []) A,F2,wk,by omega,uw.ext xj,((hO.ext Xq).ib LX).ext xj,by rw [show 300000+2560*(j+1)=300000+2560*j+2560 by omega];exact hs.tick Xp (oM []),A9.tr xj,fr2,nb2,by omega⟩
 ·refine (EO LY).mono ?_;rintro e abJ ⟨rfl,afm⟩;exact ⟨_,rfl,afm.heap Yt,rfl,oZ.tr afm⟩
end Go.Proofs.YtalpkjfpmdpbiaaGreatDoor
