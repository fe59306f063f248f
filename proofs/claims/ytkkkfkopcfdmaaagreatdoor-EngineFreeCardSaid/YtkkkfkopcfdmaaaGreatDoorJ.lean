import Derived.Test.YtkkkfkopcfdmaaaGreatDoorI
import Derived.Test.YtkkkfkopcfdmaaaGreatDoorD
set_option linter.all false
namespace Go.Proofs.YtkkkfkopcfdmaaaGreatDoor
open Go Go.Vc Go.RowKit Go.Proofs Go.dm Go.aZ Go.Code Go.fZ Go.fh Go.iU
set_option maxRecDepth 100000
def rN{w w':World}{l:LV}{t:TypeId}(e:w'=w.alloc (.cells l.toArray t)):Row w' w l t:=by rw [e];exact Row.new _ _ _
def rS{w w':World}{g:Nat}{l cs:LV}{t:TypeId}(h:Row w g cs t)(e:w'=w.setRow g l.toArray):Row w' g l t:=h.st e
def CV(V:Ce->Int)(b:dE):dE:=
 let y:=gG V aC b.box (kv b.aE b.speed) 32768
 {b with aE:=jK b.aE (xt y.1.1 b.box.1),speed:=gl y.2 b.speed,iE:=g9 V (iZ y.1) aC}
def jf(V:Ce->Int)(b:dE)(d:Ce):dE:={b with aE:=jK b.aE (xt (kC V aC b.box (kv b.aE d)).1.1 b.box.1)}
set_option maxHeartbeats 4000000 in
def X1{v:Value}{V:Ce->Int}{w:World}(hV:Tl v V w)(hv:kU v=[])(b:dE)(hw:bT b.wd){m:Int}(Ko:bY b.box m)(hm:m<=99980000000000)(i:El):
  ah 168 #[Dp b,v,inV i] w λe w'=>e=(Dp (CV V b))/\Ext w w':=by
 have hgo:CV V b={b with aE:=jK b.aE (xt (gG V aC b.box (kv b.aE b.speed) 32768).1.1 b.box.1),speed:=gl (gG V aC b.box (kv b.aE b.speed) 32768).2 b.speed,iE:=g9 V (iZ (gG V aC b.box (kv b.aE b.speed) 32768).1) aC}:=rfl;apply FA.vc;intro w0 e0 w1 e1 w2 e2;have x0:=aT e0;have z0:=zA e0;have r0:Row w0 w (jQ b) AT:=Row.nw e0;have x1:=aT e1;have z1:=zA e1;have x2:=aT e2;have z2:=zA e2;refine (kD b hw w2).mono ?_;rintro e w3 ⟨rfl,x3⟩;have z3:=x3.size;refine ⟨_,_,_,_,_,_,rfl,x3.heap ab,x3.heap ab,x3.heap ab,λbN AY bc Da=> ?_⟩;have Y6:=zA AY;have z11:=zR Da;have bA:Ext w3 bc:=(aT AY).ag Da (aD _);have rwas:Row bc w3 (pK b.box) fQ:=by rw [Da];exact Row.set (by rw [AY];exact Row.new w3 [_,_,_,_,_,_] _) [_,_,_,_,_,_]
 have rb:=r0.ext (x1.tr (x2.tr (x3.tr bA)));have xw:=x0.tr (x1.tr (x2.tr (x3.tr bA)));have alF:=hV.ext xw;have rwas0:=rwas;refine ⟨λp q wj=>∃gB gH:Nat,p=aB gB/\q=aB gH/\Row wj gB (pK (gG V aC b.box (kv b.aE b.speed) 32768).1) fQ/\Row wj gH (hL (gG V aC b.box (kv b.aE b.speed) 32768).2) ko/\Ext bc wj/\bc.heap.size<=gB,?_,?_⟩
 ·have X:=Ext.dr bc;have rwas:=rwas.ext X;have zd:=mN bc;have hS:=λ(cur:World)(X:Ext bc cur)=>SR (w:=cur) (alF.ext X) hv b.box Ko hm (kv b.aE b.speed) 32768
  generalize gG V aC b.box (kv b.aE b.speed) 32768=y at*
  repeat' first
   |(refine (J1 b b.speed _).mono ?_;rintro e v ⟨rfl,xn⟩;have zn:=xn.size;refine ⟨_,_,_,rfl,?_⟩;(repeat (refine ⟨xn.heap ab,?_⟩));refine ⟨Lo.wv (rwas.ext xn),?_⟩;have X:=X.tr xn;have rwas:=rwas.ext xn;(try have rB:=rB.ext xn);(try have rH:=rH.ext xn);clear xn)
   |(refine (hS _ X).mono ?_;rintro e v ⟨rfl,xn⟩;have zn:=xn.size;refine ⟨_,_,_,_,_,_,_,_,_,rfl,?_⟩;(repeat (refine ⟨xn.heap ab,?_⟩));have X:=X.tr xn;have rwas:=rwas.ext xn;(try have rB:=rB.ext xn);(try have rH:=rH.ext xn);clear xn)
   |(intro v en;have rBn:Row v _ [aa,aa,aa,aa,aa,aa] fQ:=rN en;have xn:=(aT en);have zn:=zA en;have X:=X.tr xn;have rwas:=rwas.ext xn;(try have rB:=rB.ext xn);(try have rH:=rH.ext xn);have rB:=rBn;clear xn en)
   |(intro v en;have rHn:Row v _ (hL (false,false,false)) ko:=rN en;have xn:=(aT en);have zn:=zA en;have X:=X.tr xn;have rwas:=rwas.ext xn;(try have rB:=rB.ext xn);(try have rH:=rH.ext xn);have rH:=rHn;clear xn en)
   |(intro ws es;have zs:=zR es;have rB:Row ws _ (pK y.1) fQ:=rS rB es;have rH:=rH.so es;have X:=X.ag es ab;refine ⟨⟨rfl,rH.wr cj⟩,pJ ab,pJ ab,pJ ab,pJ ab,pJ ab,λwt et=> ?_⟩;rw [rH.aK (vs:=hL y.2) cj (MQ _),ed cj] at et;have zt:=zR et;have rB:=rB.so et;have rH:Row wt _ (hL y.2) ko:=rS rH et;exact ⟨rfl,rfl,rfl,rfl,_,_,rfl,rfl,rB,rH,X.ag et ab,by omega⟩)
   |refine And.intro ?_ ?_
 ·rintro us IF akS wj ⟨gB,gH,rfl,rfl,rB,rH,xj,hgB⟩;have zj:=xj.size;have xd:=Ext.dr wj;have zd:=mN wj;have lB:=rB.lt;have lH:=rH.lt;rw [hgo];generalize gG V aC b.box (kv b.aE b.speed) 32768=y at*;refine gT rfl ⟨_,_,_,sh (o:=0) (rB.ext xd) rfl rfl rfl,(vr y.1.1 b.box.1 wj.drew).mono ?_⟩;rintro e IH ⟨rfl,Ef⟩;have aCN:=Ef.size;have VO:=xj.tr (xd.tr Ef);refine ⟨_,_,_,rfl,Ef.heap ab,Ef.heap ab,Ef.heap ab,Ef.heap ab,sh (rb.ext VO) rfl rfl rfl,(jt b.aE (xt y.1.1 b.box.1) IH).mono ?_⟩;rintro e QA ⟨rfl,oB⟩;have avT:=oB.size;refine ⟨_,_,_,rfl,oB.heap ab,oB.heap ab,oB.heap ab,oB.heap ab,λyH ZI=> ?_⟩;have aCO:=zR ZI;have avU:Ext w yH:=(xw.tr (VO.tr oB)).ag ZI (aD _);have rH2:Row yH gH (hL y.2) ko:=(rH.ext (xd.tr (Ef.tr oB))).same (by rw [ZI];exact setRow_other _ _ _ _ ((rH.ext (xd.tr (Ef.tr oB))).ne ((rb.ext (VO.tr oB))) aG));have rB2:Row yH gB (pK y.1) fQ:=(rB.ext (xd.tr (Ef.tr oB))).same (by rw [ZI];exact setRow_other _ _ _ _ ab);have n1:gH≠w:=(rH.ext (xd.tr (Ef.tr oB))).ne ((rb.ext (VO.tr oB))) aG;refine ⟨_,_,_,Lo.wv rH2,(Xv y.2 b.speed yH).mono ?_⟩;rintro e akU ⟨rfl,IL⟩;have aCR:=IL.size;refine ⟨_,_,_,rfl,IL.heap ab,IL.heap ab,IL.heap ab,IL.heap ab,λZs alG=> ?_⟩;have aCS:=zR alG;have adU:Ext w Zs:=(avU.tr IL).ag alG (aD _);have rB3:Row Zs gB (pK y.1) fQ:=(rB2.ext IL).same (by rw [alG];exact setRow_other _ _ _ _ ab);refine ⟨_,_,_,_,_,_,Lo.wv rB3,(mT (hV.ext adU) hv y.1).mono ?_⟩;rintro e akW ⟨rfl,ZJ⟩;have aCU:=ZJ.size;refine ⟨_,rfl,ZJ.heap ab,ZJ.heap ab,ZJ.heap ab,ZJ.heap ab,λaog avV aoh avW=>⟨rfl,((adU.tr ZJ).ag avV (aD _)).ag avW ab⟩⟩
set_option maxHeartbeats 4000000 in
def F8{v:Value}{V:Ce->Int}{w:World}(hV:Tl v V w)(hv:kU v=[])(b:dE)(hw:bT b.wd){m:Int}(Ko:bY b.box m)(hm:m<=99990000000000)(d:Ce):
  ah 171 #[Dp b,v,eg d] w λe w'=>e=(Dp (jf V b d))/\Ext w w':=by
 have hgo:jf V b d={b with aE:=jK b.aE (xt (kC V aC b.box (kv b.aE d)).1.1 b.box.1)}:=rfl;apply Dn.vc;intro w0 e0 w1 e1 w2 e2;have x0:=aT e0;have z0:=zA e0;have r0:Row w0 w (jQ b) AT:=Row.nw e0;have x1:=aT e1;have z1:=zA e1;have x2:=aT e2;have z2:=zA e2;refine (kD b hw w2).mono ?_;rintro e w3 ⟨rfl,x3⟩;have z3:=x3.size;refine ⟨_,_,_,_,_,_,rfl,x3.heap ab,x3.heap ab,x3.heap ab,λbN AY bc Da=> ?_⟩;have Y6:=zA AY;have z11:=zR Da;have bA:Ext w3 bc:=(aT AY).ag Da (aD _);have rwas:Row bc w3 (pK b.box) fQ:=by rw [Da];exact Row.set (by rw [AY];exact Row.new w3 [_,_,_,_,_,_] _) [_,_,_,_,_,_]
 have rb:=r0.ext (x1.tr (x2.tr (x3.tr bA)));have xw:=x0.tr (x1.tr (x2.tr (x3.tr bA)));have alF:=hV.ext xw;refine ⟨λp wj=>∃gB gH:Nat,p=aB gB/\Row wj gB (pK (kC V aC b.box (kv b.aE d)).1) fQ/\Row wj gH (hL (kC V aC b.box (kv b.aE d)).2) ko/\Ext bc wj/\bc.heap.size<=gB,?_,?_⟩
 ·have X:=Ext.dr bc;have rwas:=rwas.ext X;have zd:=mN bc;have hS:=λ(cur:World)(X:Ext bc cur)=>Ff (w:=cur) (alF.ext X) hv b.box Ko hm (kv b.aE d)
  generalize kC V aC b.box (kv b.aE d)=y at*
  repeat' first
   |(refine (J1 b d _).mono ?_;rintro e v ⟨rfl,xn⟩;have zn:=xn.size;refine ⟨_,_,_,rfl,?_⟩;(repeat (refine ⟨xn.heap ab,?_⟩));refine ⟨Lo.wv (rwas.ext xn),?_⟩;have X:=X.tr xn;have rwas:=rwas.ext xn;(try have rB:=rB.ext xn);(try have rH:=rH.ext xn);clear xn)
   |(refine (hS _ X).mono ?_;rintro e v ⟨rfl,xn⟩;have zn:=xn.size;refine ⟨_,_,_,_,_,_,_,_,_,rfl,?_⟩;(repeat (refine ⟨xn.heap ab,?_⟩));have X:=X.tr xn;have rwas:=rwas.ext xn;(try have rB:=rB.ext xn);(try have rH:=rH.ext xn);clear xn)
   |(intro v en;have rBn:Row v _ [aa,aa,aa,aa,aa,aa] fQ:=rN en;have xn:=(aT en);have zn:=zA en;have X:=X.tr xn;have rwas:=rwas.ext xn;(try have rB:=rB.ext xn);(try have rH:=rH.ext xn);have rB:=rBn;clear xn en)
   |(intro v en;have rHn:Row v _ (hL (false,false,false)) ko:=rN en;have xn:=(aT en);have zn:=zA en;have X:=X.tr xn;have rwas:=rwas.ext xn;(try have rB:=rB.ext xn);(try have rH:=rH.ext xn);have rH:=rHn;clear xn en)
   |(intro ws es;have zs:=zR es;have rB:Row ws _ (pK y.1) fQ:=rS rB es;have rH:=rH.so es;have X:=X.ag es ab;refine ⟨⟨rfl,rH.wr cj⟩,pJ ab,pJ ab,pJ ab,pJ ab,pJ ab,λwt et=> ?_⟩;rw [rH.aK (vs:=hL y.2) cj (MQ _),ed cj] at et;have zt:=zR et;have rB:=rB.so et;have rH:Row wt _ (hL y.2) ko:=rS rH et;exact ⟨rfl,rfl,rfl,rfl,_,_,rfl,rB,rH,X.ag et ab,by omega⟩)
   |refine And.intro ?_ ?_
 ·rintro us IF wj ⟨gB,gH,rfl,rB,rH,xj,hgB⟩;have zj:=xj.size;have xd:=Ext.dr wj;have zd:=mN wj;rw [hgo];generalize kC V aC b.box (kv b.aE d)=y at*;refine gT rfl ⟨_,_,_,sh (o:=0) (rB.ext xd) rfl rfl rfl,(vr y.1.1 b.box.1 wj.drew).mono ?_⟩;rintro e Zt ⟨rfl,Ci⟩;have aCV:=Ci.size;have aiP:=xj.tr (xd.tr Ci);refine ⟨_,_,_,rfl,Ci.heap ab,Ci.heap ab,Ci.heap ab,Ci.heap ab,sh (rb.ext aiP) rfl rfl rfl,(jt b.aE (xt y.1.1 b.box.1) Zt).mono ?_⟩;rintro e akX ⟨rfl,IG⟩;have aCW:=IG.size;refine ⟨_,_,_,rfl,IG.heap ab,IG.heap ab,IG.heap ab,IG.heap ab,λaoi avX yH ZI=>⟨rfl,((xw.tr (aiP.tr IG)).ag avX (aD _)).ag ZI ab⟩⟩
def B2(V:Ce->Int)(b:dE)(i:El):(lP V b i).box=b.box/\(lP V b i).wd=b.wd:=by
 unfold lP;split
 ·exact ⟨rfl,rfl⟩
 ·split<;>exact ⟨rfl,rfl⟩
def upB(V:Ce->Int)(b:dE)(i:El):Nat->dE
 |0=>b
 |1=>pn b i
 |2=>lP V (pn b i) i
 |_=>CV V (lP V (pn b i) i)
def qZ(V:Ce->Int)(b:dE)(i:El):dE:=CV V (lP V (pn b i) i)
def FR{v:Value}{V:Ce->Int}{w:World}(hV:Tl v V w)(hv:kU v=[])(b:dE)(hw:bT b.wd)(hs: -1000000<=b.speed.2.1/\b.speed.2.1<=1000000){m:Int}(Ko:bY b.box m)(hm:m<=99980000000000)(i:El):
  ah 116 #[Dp b,v,inV i] w λe w'=>e=(Dp (qZ V b i))/\Ext w w':=by
 apply FB.vc;intro w0 e0 w1 e1 w2 e2;have x0:=aT e0;have z0:=zA e0;have x1:=aT e1;have z1:=zA e1;have x2:=aT e2;have z2:=zA e2;have AI:=x0.tr (x1.tr x2);refine ⟨λn x a0 a1 a2 a3 a4 a5 a6 a7 a8 wr=>∃k:Nat,x=k/\k+n=3/\upB V b i k=⟨(a0,a1,a2),(a3,a4,a5),a6,a7,a8⟩/\Ext w wr/\w2.heap.size<=wr,⟨3,rfl,rfl,0,rfl,rfl,rfl,AI,aD _⟩,?_⟩;rintro n us x a0 a1 a2 a3 a4 a5 a6 a7 a8 wr ⟨k,rfl,hk,hu,xr,zr⟩;apply Br.mk<;>intro hc
 ·have hc:=dn hc;have vD:k=0\/k=1\/k=2:=by omega
  have hVr:=hV.ext xr;obtain ⟨fv,h1,h2⟩:∃fv:Value,([.func (.func 166) #[] #[],.func (.func 167) #[] #[],.func (.func 168) #[] #[]]:LV)[((k:Nat):Int).toNat*1]? =some fv/\cL Tryz.prog fv [Dp (upB V b i k),v,inV i] wr λe w'=>e=(Dp (upB V b i (k+1)))/\Ext wr w':=by
   rcases vD with rfl|rfl|rfl
   ·exact ⟨_,rfl,c9 (by kernel_rfl) rfl (Th b v i wr)⟩
   ·exact ⟨_,rfl,c9 (by kernel_rfl) rfl (Ti hVr hv (pn b i) hw hs i)⟩
   ·refine ⟨_,rfl,c9 (by kernel_rfl) rfl (X1 hVr hv (lP V (pn b i) i) ?_ (m:=m) ?_ hm i)⟩
    ·rw [(B2 V (pn b i) i).2];exact hw
    ·rw [(B2 V (pn b i) i).1];exact Ko
  rw [hu] at h2;have wk:=nY (j:=k);refine ⟨⟨by omega,by omega⟩,fv,h1,dG h2 ?_⟩;rintro e gn ⟨rfl,cr⟩;have z19:=cr.size;refine ⟨_,_,_,_,_,_,_,_,_,rfl,cr.heap ab,cr.heap ab,cr.heap ab,λdX Qk=>⟨n-1,by omega,rfl,rfl,k+1,wk,by omega,rfl,(xr.tr cr).ag Qk ab,by rw [zR Qk];omega⟩⟩
 ·have hc:=dn hc;have vD:k=3:=by omega
  subst vD;intro eU HE;have hu:qZ V b i=_:=hu;exact ⟨by rw [hu],xr.ag HE ab⟩
def ovK(a b:Bx)(i:Int):Bool:=decide (bZ a.1 i<bZ b.2 i) && decide (bZ b.1 i<bZ a.2 i)
def iw(a b:Bx):Bool:=ovK a b 0 && ovK a b 1 && ovK a b 2
def Ip(a b:Bx)(i:Int){ga gb:Nat}{w:World}(ha:Row w ga (pK a) fQ)(hb:Row w gb (pK b) fQ):
  ah 177 #[i,ga,gb] w λe w'=>e=Value.bool (ovK a b i)/\Ext w w':=by
 apply HZ.vc;have xd:=Ext.dr w;refine ⟨_,_,_,sh (o:=0) (ha.ext xd) rfl rfl rfl,_,_,_,sh (o:=3) (hb.ext xd) rfl rfl rfl,(dt a.1 i w.drew).mono ?_⟩;rintro e w6 ⟨rfl,x6⟩;have y6:=xd.tr x6;refine ⟨_,rfl,sh (o:=3) (hb.ext y6) rfl rfl rfl,(dt b.2 i w6).mono ?_⟩;rintro e w8 ⟨rfl,x8⟩;have y8:=y6.tr x8;unfold ovK;refine ⟨_,rfl,Br.mk (λhc=>⟨_,_,_,sh (o:=0) (hb.ext y8) rfl rfl rfl,_,_,_,sh (o:=3) (ha.ext y8) rfl rfl rfl,(dt b.1 i w8).mono ?_⟩) (λhc=>⟨by rw [hc,CP],y8⟩)⟩;rintro e cP ⟨rfl,cp⟩;have y16:=y8.tr cp;refine ⟨_,rfl,sh (o:=3) (ha.ext y16) rfl rfl rfl,(dt a.2 i cP).mono ?_⟩;rintro e du ⟨rfl,cA⟩;exact ⟨_,rfl,by rw [hc,pW],y16.tr cA⟩
def acO(f:Int->Bool)(fv:Value)(w:World)(hf:∀w',Ext w w'->∀i:Int,cL Tryz.prog fv [i] w' λe w''=>e=Value.bool (f i)/\Ext w' w''):
  ah 176 #[fv] w λe w'=>e=Value.bool (f 0 && f 1 && f 2)/\Ext w w':=by
 apply afk.vc;refine ⟨λn x wr=>∃k:Nat,x=k/\k+n=3/\(∀j:Nat,j<k->f j=true)/\Ext w wr,⟨3,0,rfl,rfl,λj hj=>absurd hj ab,Ext.cu _⟩,?_⟩;rintro n us x wr ⟨k,rfl,hk,hj,xr⟩;apply Br.mk<;>intro hc
 ·have hc:(k:Int)<3:=by simpa using hc
  refine dG (hf wr xr k) ?_;rintro e w6 ⟨rfl,x6⟩;have wk:=nY (j:=k);refine ⟨_,rfl,Br.mk (λhq=>⟨?_,xr.tr x6⟩) (λhq=>⟨n-1,by omega,k+1,wk,by omega,λj hjk=> ?_,xr.tr x6⟩)⟩
  ·have hq:f k=false:=by simpa using hq
   have vD:k=0\/k=1\/k=2:=by omega
   have:(f 0 && f 1 && f 2)=false:=by
    rcases vD with rfl|rfl|rfl
    ·rw [show f 0=false from hq];rfl
    ·rw [show f 1=false from hq,Bool.and_false];rfl
    ·rw [show f 2=false from hq,Bool.and_false]
   rw [this]
  ·have hq:f k=true:=by simpa using hq
   by_cases he:j=k
   ·rw [he];exact hq
   ·exact hj j ab
 ·have hc:¬(k:Int)<3:=by simpa using hc
  refine ⟨?_,xr⟩;rw [show f 0=true from hj 0 ab,show f 1=true from hj 1 ab,show f 2=true from hj 2 ab];rfl
def Au(a b:Bx)(w:World):ah 124 #[qS a,qS b] w λe w'=>e=Value.bool (iw a b)/\Ext w w':=by
 apply M5.vc;intro w0 e0 w1 e1;have x0:=aT e0;have r0:Row w0 w (pK a) fQ:=Row.nw e0;have x1:=aT e1;have r1:Row w1 w0 (pK b) fQ:=Row.nw e1;have z0:=zA e0;have z1:=zA e1;refine (acO (ovK a b) (.func (.func 177) #[] #[w,w0]) w1 λw' x' i=>c9 (by kernel_rfl) rfl (Ip a b i (r0.ext (x1.tr x')) (r1.ext x'))).mono ?_;rintro e w2 ⟨rfl,x2⟩;have z2:=x2.size
 first
  |exact ⟨_,rfl,rfl,x0.tr (x1.tr x2)⟩
  |exact ⟨_,rfl,x2.heap ab,x2.heap ab,rfl,x0.tr (x1.tr x2)⟩
def PC(x y:Bx)(i:Int):Int:=ak ((if bZ y.2 i<bZ x.2 i then bZ y.2 i else bZ x.2 i)-(if bZ y.1 i>bZ x.1 i then bZ y.1 i else bZ x.1 i))
def yf(a b:Bx)(i:Int){ga gb:Nat}{w:World}(ha:Row w ga (pK a) fQ)(hb:Row w gb (pK b) fQ):
  ah 239 #[i,ga,gb] w λe w'=>e=Value.int .i64 (PC a b i)/\Ext w w':=by
 apply M6.vc;have xd:=Ext.dr w;refine ⟨_,_,_,sh (o:=3) (ha.ext xd) rfl rfl rfl,_,_,_,sh (o:=3) (hb.ext xd) rfl rfl rfl,_,_,_,sh (o:=0) (ha.ext xd) rfl rfl rfl,_,_,_,sh (o:=0) (hb.ext xd) rfl rfl rfl,(dt a.2 i w.drew).mono ?_⟩;rintro e w6 ⟨rfl,x6⟩;have y6:=xd.tr x6;refine ⟨_,rfl,sh (o:=0) (hb.ext y6) rfl rfl rfl,sh (o:=0) (ha.ext y6) rfl rfl rfl,sh (o:=3) (hb.ext y6) rfl rfl rfl,(dt b.2 i w6).mono ?_⟩;rintro e w8 ⟨rfl,x8⟩;have y8:=y6.tr x8;refine ⟨_,rfl,sh (o:=0) (hb.ext y8) rfl rfl rfl,sh (o:=0) (ha.ext y8) rfl rfl rfl,(dt a.1 i w8).mono ?_⟩;rintro e cP ⟨rfl,cp⟩;have y16:=y8.tr cp;refine ⟨_,rfl,sh (o:=0) (hb.ext y16) rfl rfl rfl,(dt b.1 i cP).mono ?_⟩;rintro e du ⟨rfl,cA⟩;exact ⟨_,rfl,rfl,y16.tr cA⟩
def X3(a b:dE):Int:=if PC a.box b.box 0>PC a.box b.box 2 then 2 else 0
def nP(a b:dE):Int:=if 4096<PC a.box b.box (X3 a b) then 4096 else PC a.box b.box (X3 a b)
def sP(a b:dE):Int:=if bZ a.aE (X3 a b)<=bZ b.aE (X3 a b) then ak (0-nP a b) else nP a b
def jD(a b:dE):Ce × Ce:=if iw a.box b.box=true then (gJ (0,0,0) (X3 a b) (sP a b),gJ (0,0,0) (X3 a b) (ak (0-sP a b))) else ((0,0,0),(0,0,0))
set_option maxHeartbeats 1000000 in
def Xe(a b:dE)(hwa:bT a.wd)(hwb:bT b.wd)(w:World):
  ah 170 #[Dp a,Dp b] w λe w'=>e=Value.tuple #[eg (jD a b).1,eg (jD a b).2]/\Ext w w':=by
 apply Wl.vc;intro w0 e0 w1 e1 w2 e2 w3 e3;have x0:=aT e0;have z0:=zA e0;have r0:Row w0 w (jQ a) AT:=Row.nw e0;have x1:=aT e1;have z1:=zA e1;have r1:Row w1 w0 (jQ b) AT:=Row.nw e1;have x2:=aT e2;have z2:=zA e2;have x3:=aT e3;have z3:=zA e3;have B5:=x0.tr (x1.tr (x2.tr x3));have ra:=r0.ext (x1.tr (x2.tr x3));have rb:=r1.ext (x2.tr x3);refine ⟨λp q wj=>∃gX gY:Nat,p=some ⟨gX,0,none⟩/\q=some ⟨gY,0,none⟩/\Row wj gX (pK a.box) fQ/\Row wj gY (pK b.box) fQ/\Ext w3 wj,?_,?_⟩
 ·have X:=Ext.dr w3;have zd:=mN w3;have hA:=λw=>kD a hwa w
  have hB:=λw=>kD b hwb w
  generalize a.box=A at hA ⊢;generalize b.box=B at hB ⊢
  repeat' first
   |(with_reducible refine (hA _).mono ?_;rintro e v ⟨rfl,xn⟩;have zn:=xn.size;refine ⟨_,_,_,_,_,_,rfl,?_⟩;(repeat (refine ⟨xn.heap ab,?_⟩));refine ⟨Lo.wv (r1.ext (x2.tr (x3.tr (X.tr xn)))),?_⟩;have X:=X.tr xn;(try have rX:=rX.ext xn);(try have rY:=rY.ext xn);clear xn)
   |(with_reducible refine (hB _).mono ?_;rintro e v ⟨rfl,xn⟩;have zn:=xn.size;refine ⟨_,_,_,_,_,_,rfl,?_⟩;(repeat (refine ⟨xn.heap ab,?_⟩));have X:=X.tr xn;(try have rX:=rX.ext xn);(try have rY:=rY.ext xn);clear xn)
   |(intro v en;have rn:Row v _ [aa,aa,aa,aa,aa,aa] fQ:=rN en;have xn:=(aT en);have zn:=zA en;have X:=X.tr xn;(try have rY:=rX.ext xn);have rX:=rn;clear xn en rn)
   |(intro ws es wt et;have zs:=zR es;have zt:=zR et;have q1:Row ws _ (pK A) fQ:=rS rX es;have q2:=rY.so es;have q3:Row wt _ (pK B) fQ:=rS q2 et;have q1:=q1.so et;exact ⟨rfl,rfl,rfl,rfl,_,_,rfl,rfl,q1,q3,(X.ag es ab).ag et ab⟩)
   |(intro ws es wt et;have zs:=zR es;have zt:=zR et;have q1:Row ws _ (pK A) fQ:=rS rY es;have q2:=rX.so es;have q3:Row wt _ (pK B) fQ:=rS q2 et;have q1:=q1.so et;exact ⟨rfl,rfl,rfl,rfl,_,_,rfl,rfl,q1,q3,(X.ag es ab).ag et ab⟩)
   |refine And.intro ?_ ?_
 ·rintro us p q wj ⟨gX,gY,rfl,rfl,rX,rY,xj⟩;have zj:=xj.size;refine ⟨_,_,_,_,_,_,Lo.wv rX,_,_,_,_,_,_,Lo.wv rY,(Au a.box b.box wj).mono ?_⟩;rintro e QF ⟨rfl,yG⟩;have aCY:=yG.size;have rX5:=rX.ext yG;have rY5:=rY.ext yG;have xw:=B5.tr (xj.tr yG);unfold jD;refine ⟨_,rfl,yG.heap ab,yG.heap ab,yG.heap ab,yG.heap ab,Br.mk (λhc aot av3 aou av4=>⟨?_,(xw.ag av3 ab).ag av4 ab⟩) (λhc=> ?_)⟩
  ·have hc:iw a.box b.box=false:=by simpa using hc
   rw [hc];rfl
  ·have hc:iw a.box b.box=true:=by simpa using hc
   rw [if_pos hc];refine ⟨λx wr=>x=X3 a b/\Ext QF wr,?_,?_⟩
   ·refine (yf a.box b.box 0 rX5 rY5).mono ?_;rintro e ag0 ⟨rfl,L7⟩;have aCZ:=L7.size;refine ⟨_,rfl,L7.heap ab,L7.heap ab,L7.heap ab,L7.heap ab,(yf a.box b.box 2 (rX5.ext L7) (rY5.ext L7)).mono ?_⟩;rintro e ag1 ⟨rfl,Um⟩;have aC0:=Um.size;unfold X3;refine ⟨_,rfl,Um.heap ab,Um.heap ab,Um.heap ab,Um.heap ab,Br.mk (λq=>⟨rfl,rfl,rfl,rfl,?_,L7.tr Um⟩) (λq=>⟨rfl,rfl,rfl,rfl,?_,L7.tr Um⟩)⟩
    ·rw [if_pos (by simpa using q)]
    ·rw [if_neg (by simpa using q)]
   ·rintro us x wr ⟨rfl,xr⟩;have zr:=xr.size;refine ⟨λx wr=>x=nP a b/\Ext QF wr,?_,?_⟩
    ·refine (yf a.box b.box (X3 a b) (rX5.ext xr) (rY5.ext xr)).mono ?_;rintro e Qy ⟨rfl,L0⟩;have aC1:=L0.size;exact ⟨_,rfl,L0.heap ab,L0.heap ab,L0.heap ab,L0.heap ab,rfl,rfl,rfl,rfl,rfl,xr.tr L0⟩
    ·rintro us x wr ⟨rfl,xr⟩;have zr:=xr.size;have xd:=Ext.dr wr;have zd:=mN wr;have yd:=xj.tr (yG.tr (xr.tr xd));refine ⟨λx wr=>x=sP a b/\Ext QF wr,?_,?_⟩
     ·refine (dt a.aE (X3 a b) wr.drew).mono ?_;rintro e Zw ⟨rfl,Ee⟩;have aC2:=Ee.size;refine ⟨_,rfl,Ee.heap ab,Ee.heap ab,Ee.heap ab,Ee.heap ab,sh (o:=0) (rb.ext (yd.tr Ee)) rfl rfl rfl,(dt b.aE (X3 a b) Zw).mono ?_⟩;rintro e QA ⟨rfl,oB⟩;have avT:=oB.size;unfold sP;refine ⟨_,rfl,oB.heap ab,oB.heap ab,oB.heap ab,oB.heap ab,Br.mk (λq=>⟨rfl,rfl,rfl,rfl,?_,xr.tr (xd.tr (Ee.tr oB))⟩) (λq=>⟨rfl,rfl,rfl,rfl,?_,xr.tr (xd.tr (Ee.tr oB))⟩)⟩
      ·rw [if_pos (by simpa using q)]
      ·rw [if_neg (by simpa using q)]
     ·rintro us x ws ⟨rfl,xs⟩;have zs:=xs.size;refine (jd (0,0,0) (X3 a b) (sP a b) ws).mono ?_;rintro e adT ⟨rfl,ZK⟩;have aC3:=ZK.size;refine ⟨_,_,_,rfl,ZK.heap ab,ZK.heap ab,ZK.heap ab,ZK.heap ab,(jd (0,0,0) (X3 a b) (ak (0-sP a b)) adT).mono ?_⟩;rintro e ak1 ⟨rfl,Hy⟩;have aC4:=Hy.size;exact ⟨_,_,_,rfl,Hy.heap ab,Hy.heap ab,Hy.heap ab,Hy.heap ab,λaoy av5 aoz av6=>⟨rfl,((xw.tr (xs.tr (ZK.tr Hy))).ag av5 ab).ag av6 ab⟩⟩
def okB(m:Int)(b:dE):Prop:=eJ b.aE m/\(0<=b.wd/\b.wd<=1000000)/\(0<=b.ht/\b.ht<=1000000)/\-1000000<=b.speed.2.1/\b.speed.2.1<=1000000
def okB.up{b:dE}{m n:Int}(h:okB m b)(hn:m<=n):okB n b:=⟨h.1.up hn,h.2⟩
def okB.wdi{b:dE}{m:Int}(h:okB m b):bT b.wd:=by unfold bT;have:=h.2.1;omega
def okB.Bm{b:dE}{m:Int}(h:okB m b)(hm:m<=99970000000000):bY b.box (m+1000000):=RM h.1 h.2.1 h.2.2.1 ab
def uG{V:Ce->Int}{b:dE}{d:Ce}{m:Int}(h:okB m b)(hm:m<=99970000000000):okB (m+12582912) (jf V b d):=by
 have hn:=h.Bm hm;have h1:=KP (V:=V) (p:=aC) (d:=kv b.aE d) hn ab;have h2:=MX (V:=V) (p:=aC) (d:=kv b.aE d) hn ab;have hm0:0<=m:=by have:=h.1;unfold eJ at this;omega
 exact ⟨MY h.1 (eJ.up hn.lo ab) h1.lo h2 ab ab ab,h.2⟩
def afH(h:Ht)(v:Ce)(hv: -1000000<=v.2.1/\v.2.1<=1000000): -1000000<=(gl h v).2.1/\(gl h v).2.1<=1000000:=by
 have e:(gl h v).2.1=if h.2.1=true then dz 0 else v.2.1:=by
  unfold gl
  cases h.1<;>cases h.2.1<;>cases h.2.2<;>rfl
 rw [e];have c0:dz 0=0:=by decide
 rw [c0];split<;>omega
def afI{V:Ce->Int}{b:dE}{m:Int}(h:okB m b)(hm:m<=99970000000000):okB (m+16777216) (CV V b):=by
 have hn:=h.Bm hm;have h1:=aaG (V:=V) (p:=aC) (d:=kv b.aE b.speed) (up:=32768) hn ab;have hm0:0<=m:=by have:=h.1;unfold eJ at this;omega
 exact ⟨MY h.1 (eJ.up hn.lo ab) h1.2.lo h1.1 ab ab ab,h.2.1,h.2.2.1,afH _ _ h.2.2.2⟩
def Lj{n jump less least:Int}{j:Bool}(hn: -1000000<=n/\n<=1000000)(hj: -1000000<=jump/\jump<=1000000)(hl:0<=less)(ht:0<=least/\least<=1000000): -1000000<=wN n jump less least j/\wN n jump less least j<=1000000:=by unfold wN;split<;>omega
def afJ{V:Ce->Int}{b:dE}{i:El}{m:Int}(h:okB m b):okB m (lP V b i):=by
 unfold lP;split
 ·exact ⟨h.1,h.2.1,h.2.2.1,Lj h.2.2.2 aG aG aG⟩
 ·split
  ·exact ⟨h.1,h.2.1,h.2.2.1,Lj h.2.2.2 aG aG aG⟩
  ·exact ⟨h.1,h.2.1,h.2.2.1,Lj h.2.2.2 aG aG aG⟩
def UY{V:Ce->Int}{b:dE}{i:El}{m:Int}(h:okB m b)(hm:m<=99970000000000):okB (m+16777216) (qZ V b i):=afI (afJ (b:=pn b i) h) hm
def uF(V:Ce->Int)(i k:Nat)(l:List dE):List dE:=
 match l[i]?,l[k]? with
 |some a,some b=>(l.set i (jf V a (jD a b).1)).set k (jf V b (jD a b).2)
 |_,_=>l
def Dz(V:Ce->Int)(i:Nat):Nat->Nat->List dE->List dE
 |_,0,l=>l
 |k,n+1,l=>Dz V i (k+1) n (uF V i k l)
def crB(V:Ce->Int):Nat->Nat->List dE->List dE
 |_,0,l=>l
 |i,n+1,l=>crB V (i+1) n (Dz V i (i+1) (l.length-(i+1)) l)
def qq(V:Ce->Int)(l:List dE):List dE:=crB V 0 l.length l
def xD(b:dE):One (jQ b):=by intro u hu;simp at hu;rcases hu with rfl|rfl|rfl|rfl|rfl|rfl|rfl|rfl|rfl<;>rfl
def abn(l:List dE):∀r ∈ l.map jQ,r.length=9:=by intro r hr;obtain ⟨b,-,rfl⟩:=aY.1 hr;rfl
def afK(l:List dE):∀r ∈ l.map jQ,One r:=by intro r hr;obtain ⟨b,-,rfl⟩:=aY.1 hr;exact xD b
def Oh{B:Nat}{w:World}{s:Sl}{l:List dE}(ho:aF B AT 9 w s (l.map jQ))(hl:l.length<=5000):
  ah 169 #[s] w λe w'=>∃s':Sl,e=s'/\aF w AT 9 w' s' (l.map jQ)/\Ext w w':=by
 apply zo.vc;have hn:s.n=l.length:=by rw [(ho.rd aG).n,aN]
 apply Br.mk<;>intro h
 ·rcases ho.form aG with ⟨hs,DS⟩|⟨g0,cs,ha,-⟩
  ·exact ⟨⟨none,0,0⟩,rfl,by rw [DS];exact aF.nil,Ext.cu _⟩
  ·rw [ha] at h;cases h
 ·intro w0 e0;have x0:=aT e0;have IQ:=eN e0;have hr0:Row w0 w [] AT:=by rw [e0];exact Row.new _ _ _
  have vb:aF w AT 9 w0 ⟨aB w.heap.size,0,0⟩ []:=aF.jG (aD _) hr0 cj (aD _) rfl cj;obtain ⟨hp,hr⟩:=vb.HU (bytes:=72) (more:=l.map jQ) x0.size (abn _) (afK _) (by simp;omega) (by simp;omega);rw [aN,<-hn] at hp hr;refine ⟨(l.map jQ).flatten,((ho.ext x0).rd aG).flat aG,hp,λs2 w3 bu=> ?_⟩;obtain ⟨h1,h2,h3,h4,h5⟩:=hr s2 w3 bu;refine ⟨qb bu (by rw [bK (abn _),aN,hn]) ab,s2,rfl,h1,x0.trans h3⟩
def abo{B:Nat}{w:World}{s:Sl}{l:List dE}(ho:aF B AT 9 w s (l.map jQ)){i:Nat}(hi:i<l.length)(x:dE):
  (ae s.a (i*9)).isSome=true/\Wr w (ae s.a (i*9)) 9/\∀w',w'=aK w (ae s.a (i*9)) (jQ x)->aF B AT 9 w' s ((l.set i x).map jQ)/\Below B w w'/\Mod (λb=>s.bj=some b) w w':=by
 obtain ⟨h1,h2,h3,h4,h5⟩:=ho.put (i:=i) (r:=jQ x) (by simpa using hi) aG rfl (xD x);refine ⟨h1,h2,λw' e=> ?_⟩;subst e;exact ⟨by rw [jV];exact h3,h4,h4.os,h4.tape,h4.output,h4.size,λj _ hn=>h5 j hn⟩
set_option maxHeartbeats 1000000 in
def FT{v : Value}{V : Ce → Int}{w : World}(hV : Tl v V w)(hv : kU v = []){B : Nat}{s : Sl}{l : List dE}(ho : aF B AT 9 w s (l.map jQ))(hl : l.length ≤ 16){m : Int}(bq : ∀ b ∈ l, okB m b)(hm0 : 0 ≤ m)(hm : m ≤ 99960000000000) :
  ah 117 #[v, s] w λe w' => ∃ s' : Sl, e = s' ∧ aF w AT 9 w' s' ((qq V l).map jQ) ∧ Ext w w' ∧ (∀ b ∈ qq V l, okB (m + 16 * 16 * 12582912) b) ∧ (qq V l).length = l.length := by
 apply RR.vc
 refine (Oh ho ab).mono ?_
 rintro e w0 ⟨s1, rfl, h1, x1⟩
 have Mq : s1.n = l.length := by rw [(h1.rd aG).n, aN]
 refine ⟨s1, rfl, λn x wr => ∃ (i : Nat) (cur : List dE), x = i ∧ i + n = l.length ∧ cur.length = l.length ∧ aF w AT 9 wr s1 (cur.map jQ) ∧ Ext w wr ∧ (∀ b ∈ cur, okB (m + 16 * i * 12582912) b) ∧ qq V l = crB V i n cur, ⟨l.length, 0, l, rfl, by omega, rfl, h1, x1, λb hb => (bq b hb).up ab, rfl⟩, ?_⟩
 rintro n us x w6 ⟨i, cur, rfl, lr, dD, hO, xr, hb, hcr⟩
 apply Br.mk <;> intro hc
 ·have hc : i < l.length := by
   have : (i : Int) < s1.n := by simpa using hc
   omega
  obtain ⟨n, rfl⟩ : ∃ n', n = n' + 1 := ⟨n - 1, by omega⟩
  have wk := nY (j := i)
  rw [wk]
  refine ⟨λn8 x cU => ∃ (k : Nat) (cur : List dE), x = k ∧ k + n8 = l.length ∧ i < k ∧ cur.length = l.length ∧ aF w AT 9 cU s1 (cur.map jQ) ∧ Ext w cU ∧ (∀ b ∈ cur, okB (m + (16 * i + k) * 12582912) b) ∧ qq V l = crB V (i + 1) n (Dz V i k n8 cur), ⟨n, i + 1, cur, rfl, by omega, by omega, dD, hO, xr, λb hb' => (hb b hb').up ab, ?_⟩, ?_⟩
  ·rw [hcr]
   show crB V (i + 1) n (Dz V i (i + 1) (cur.length - (i + 1)) cur) = _
   rw [show cur.length - (i + 1) = n from by omega]
  rintro n8 us x cU ⟨k, cur, rfl, Y3, hik, dD, hO, xr, hb, hcr⟩
  apply Br.mk <;> intro oK
  ·have oK : k < l.length := by
    have : (k : Int) < s1.n := by simpa using oK
    omega
   obtain ⟨n8, rfl⟩ : ∃ n', n8 = n' + 1 := ⟨n8 - 1, by omega⟩
   have ha : cur[i]? = some (cur[i]'ab) := dv ab
   have LR : cur[k]? = some (cur[k]'ab) := dv ab
   have oka := hb _ (List.getElem_mem (l := cur) (n := i) ab)
   have okb := hb _ (List.getElem_mem (l := cur) (n := k) ab)
   generalize cur[i]'ab = a at ha oka
   generalize cur[k]'ab = b at LR okb
   have hcr : qq V l = crB V (i + 1) n (Dz V i (k + 1) n8 ((cur.set i (jf V a (jD a b).1)).set k (jf V b (jD a b).2))) := by
    rw [hcr]
    show crB V (i + 1) n (Dz V i (k + 1) n8 (uF V i k cur)) = _
    rw [show uF V i k cur = (cur.set i (jf V a (jD a b).1)).set k (jf V b (jD a b).2) from by unfold uF; rw [ha, LR]]
   have hwa := oka.wdi
   have hwb := okb.wdi
   have jj := (hO.ext (Ext.dr cU)).rd aG
   have vR : (cur.map jQ)[i]? = some (jQ a) := by rw [aV, ha]; rfl
   have Mf : (cur.map jQ)[k]? = some (jQ b) := by rw [aV, LR]; rfl
   have ib : ∀ j : Nat, j < l.length → ez s1.a (j : Int) s1.n := λj hj => jj.iz aG ab ab
   have gy : cur.map jQ ≠ [] := λh => by rw [h] at vR; cases vR
   have iQ : ∀ g, s1.bj = some g → g < cU.heap.size := λg hg => jj.Su aG gy hg
   have hX0 : 16 * (i : Int) + k ≤ 256 := by omega
   refine ⟨λp q wj => ∃ gX gY : Nat, p = aB gX ∧ q = aB gY ∧ Row wj gX (dO (jD a b).1) ic ∧ Row wj gY (dO (jD a b).2) ic ∧ Ext cU wj ∧ cU.heap.size ≤ gY, ⟨ib i hc, _, _, _, _, _, _, _, _, _, jj.cg vR, ib k oK, _, _, _, _, _, _, _, _, _, jj.cg Mf, ?_⟩, ?_⟩
   ·have X := Ext.dr cU
    have zd := mN cU
    repeat' first
     | (refine (Xe a b hwa hwb _).mono ?_; rintro e v ⟨rfl, xn⟩; have zn := xn.size; refine ⟨_, _, _, _, _, _, rfl, ?_⟩; (repeat (refine ⟨xn.heap ab, ?_⟩)); have X := X.tr xn; (try have rX := rX.ext xn); (try have rY := rY.ext xn); clear xn)
     | (intro v en; have rn : Row v _ [aa, aa, aa] ic := rN en; have xn := (aT en); have zn := zA en; have X := X.tr xn; (try have rY := rX.ext xn); have rX := rn; clear xn en rn)
     | (intro ws es wt et; have zs := zR es; have zt := zR et; have q1 : Row ws _ (dO (jD a b).1) ic := rS rX es; have q2 := rY.so es; have q3 : Row wt _ (dO (jD a b).2) ic := rS q2 et; have q1 := q1.so et; exact ⟨_, _, rfl, rfl, q1, q3, (X.ag es ab).ag et ab, by omega⟩)
     | (intro ws es wt et; have zs := zR es; have zt := zR et; have q1 : Row ws _ (dO (jD a b).1) ic := rS rY es; have q2 := rX.so es; have q3 : Row wt _ (dO (jD a b).2) ic := rS q2 et; have q1 := q1.so et; exact ⟨_, _, rfl, rfl, q1, q3, (X.ag es ab).ag et ab, by omega⟩)
     | refine And.intro ?_ ?_
   ·rintro us p q wj ⟨gX, gY, rfl, rfl, rX, rY, xj, hgY⟩
    have xd := Ext.dr wj
    have hOj := hO.ext (xj.tr xd)
    refine ⟨λw' => aF w AT 9 w' s1 ((cur.set i (jf V a (jD a b).1)).map jQ) ∧ Row w' gY (dO (jD a b).2) ic ∧ Ext w w', ⟨ib i hc, _, _, _, _, _, _, _, _, _, (hOj.rd aG).cg vR, _, _, _, Lo.wv (rX.ext xd), (F8 (hV.ext (xr.tr (xj.tr xd))) hv a hwa (oka.Bm ab) ab (jD a b).1).mono ?_⟩, ?_⟩
    ·rintro e Hv ⟨rfl, rE⟩
     have hO7 := hOj.ext rE
     obtain ⟨q1, q2, q3⟩ := abo hO7 (i := i) ab (jf V a (jD a b).1)
     refine ⟨_, _, _, _, _, _, _, _, _, rfl, ib i hc, ⟨q1, q2⟩, λQo auJ => ?_⟩
     obtain ⟨p1, p2, p3⟩ := q3 Qo auJ
     have rY7 := rY.ext (xd.tr rE)
     exact ⟨p1, rY7.same (p3.same _ rY7.lt (λh => by have := iQ _ h; omega)), (xr.tr (xj.tr (xd.tr rE))).trans p2⟩
    ·rintro us tQ ⟨ao2, rY9, adO⟩
     have xd9 := Ext.dr tQ
     have hrd9 := (ao2.ext xd9).rd aG
     have hrk9 : ((cur.set i (jf V a (jD a b).1)).map jQ)[k]? = some (jQ b) := by rw [aV, zT ab, LR]; rfl
     refine ⟨ib k oK, _, _, _, _, _, _, _, _, _, hrd9.cg hrk9, _, _, _, Lo.wv (rY9.ext xd9), (F8 (hV.ext (adO.tr xd9)) hv b hwb (okb.Bm ab) ab (jD a b).2).mono ?_⟩
     rintro e QD ⟨rfl, ao4⟩
     obtain ⟨q1, q2, q3⟩ := abo ((ao2.ext xd9).ext ao4) (i := k) (by rw [jU]; omega) (jf V b (jD a b).2)
     refine ⟨_, _, _, _, _, _, _, _, _, rfl, ib k oK, ⟨q1, q2⟩, λqA auK => ?_⟩
     obtain ⟨p1, p2, p3⟩ := q3 qA auK
     refine ⟨n8, by omega, k + 1, _, ?_, by omega, by omega, by rw [jU, jU]; exact dD, p1, (adO.tr (xd9.tr ao4)).trans p2, λy hy => ?_, hcr⟩
     ·rw [wI]; omega
     ·rcases jZ hy with hy | rfl
      ·rcases jZ hy with hy | rfl
       ·exact (hb y hy).up ab
       ·exact (uG oka ab).up ab
      ·exact (uG okb ab).up ab
  ·have oK : ¬ k < l.length := λh => by
    have : ¬ (k : Int) < s1.n := by simpa using oK
    omega
   have : n8 = 0 := by omega
   subst this
   exact ⟨n, by omega, i + 1, cur, rfl, by omega, dD, hO, xr, λb hb' => (hb b hb').up ab, hcr⟩
 ·have hc : ¬ i < l.length := λh => by
   have : ¬ (i : Int) < s1.n := by simpa using hc
   omega
  have : n = 0 := by omega
  subst this
  have hcr : qq V l = cur := hcr
  refine ⟨s1, rfl, by rw [hcr]; exact hO, xr, λb hb' => ?_, by rw [hcr]; exact dD⟩
  rw [hcr] at hb'
  exact (hb b hb').up ab
set_option maxHeartbeats 8000000
set_option linter.unusedVariables false
variable {R:Ending->World->Prop} {w:World} {a0 a1 a2 a3 a4 a5 a6 a7 a8 a9 aw ao au aP aQ aR bM bH bI DV aq ar aA bz bR bQ fe fg eM DW bE bO bC yu yw vV vW yx yy yz DX DY DZ D3 D4 D5 D6 D7 D8 D9:Int}
def afy.vc(h:
 Aw w #[aw,ao,au] 28 λw0=>
 Aw w0 #[aa,aa,aa] 28 λw1=>
 ah 203 #[.agg #[aw,ao,au],.func (.func 256) #[] #[]] w1 (jo λx3 x4 x5 w2=>K2 w w0 w1 w2 (
 Sw w2 w0 #[x3,x4,x5] λw6=>
 R (Value.agg #[x3,x4,x5]) w6))):ah 195 #[.agg #[aw,ao,au]] w R:=
 cq bU Tryz.func195 h
def W2.vc(h:
 ah 214 #[a1] w (λe w0=>∃(x1:Int),e=x1/\
 R x1 w0)):ah 256 #[a0,a1] w R:=
 cq bU Tryz.func256 h
def afz.vc(h:
 Aw w #[aw,ao,au] 28 λw0=>
 Aw w0 #[aa,aa,aa] 28 λw1=>
 ah 257 #[aw] w1.drew (Ri λx3 w2=>K2 w w0 w1.drew w2 (
 af w2 (dU w 2) 0 [au]/\af w2 (dU w 1) 0 [ao]/\ah 257 #[ao] w2 (Ri λx5 w4=>K2 w w0 w2 w4 (
 af w4 (dU w 2) 0 [au]/\ah 257 #[au] w4 (Ri λx7 w6=>K2 w w0 w4 w6 (
 Sw w6 w0 #[x3,x5,x7] λw8=>
 R (Value.agg #[x3,x5,x7]) w8))))))):ah 196 #[.agg #[aw,ao,au]] w R:=
 cq bU Tryz.func196 h
def W3.vc(h:
 R (Value.int .i64 (if 1048576<(if (-1048576)>a0 then (-1048576) else a0) then 1048576 else (if (-1048576)>a0 then (-1048576) else a0))) w):ah 257 #[a0] w R:=
 cq bU Tryz.func257 h
def Si.vc(h:
 Aw w #[aw,ao] 267 λw0=>
 Aw w0 #[aq,ar] 267 λw1=>
 Br (ao==0)
 (R (Value.bool (decide (ao>0))) w1)
 (Br (ar==0)
 (R (Value.bool (decide (ao>0))) w1)
 (R (Value.bool (decide (((ak (aw*ar)):Int)<(ak (aq*ao))))) w1))):ah 200 #[.agg #[aw,ao],.agg #[aq,ar]] w R:=
 cq bU Tryz.func200 h
def W4.vc(h:
 Aw w #[aw,ao,au] 28 λw0=>
 Aw w0 #[aq,ar,aA] 28 λw1=>
 Aw w1 #[aa,aa,aa,aa,aa,aa] 268 λw2=>
 Aw w2 #[aa,aa,aa,aa,aa,aa] 268 λw3=>
 ∃I4:Nat->Int->World->Prop,
 (∃n5,aL [aw,ao,au]/\aL [aq,ar,aA]/\I4 n5 (0) w3)/\
 ∀(n5:Nat)(us6:Nat->Value)(x7:Int)(w8:World),I4 n5 x7 w8->
 Br (x7<3)
 (ah 178 #[.agg #[aw,ao,au],x7] w8.drew (Ri λbA bN=>K2 w w0 w8.drew bN (
 af bN (aB w0) 0 [aq,ar,aA]/\ah 178 #[.agg #[aq,ar,aA],x7] bN (Ri λcn cU=>K2 w w0 bN cU (
 ah 258 #[bA] cU (Ri λcD bJ=>K2 w w0 cU bJ (
 (0:Int)<=x7/\x7<((3:Nat):Int)/\(true=true/\Wr bJ (ae (aB w2) ((x7:Int).toNat*2)) 2)/\bt (ae (aB w2) ((x7:Int).toNat*2))≠some w.heap.size/\bt (ae (aB w2) ((x7:Int).toNat*2))≠some w0.heap.size/\(∀cP,cP=aK bJ (ae (aB w2) ((x7:Int).toNat*2)) [cD,(ak (0-cn))]->
 Br (cn>0)
 (ah 258 #[bA] cP (Ri λcA cJ=>K2 w w0 cP cJ (
 (0:Int)<=x7/\x7<((3:Nat):Int)/\(true=true/\Wr cJ (ae (aB w2) ((x7:Int).toNat*2)) 2)/\bt (ae (aB w2) ((x7:Int).toNat*2))≠some w.heap.size/\bt (ae (aB w2) ((x7:Int).toNat*2))≠some w0.heap.size/\(∀gn,gn=aK cJ (ae (aB w2) ((x7:Int).toNat*2)) [(ak (65536-cA)),cn]->
 ∃n9,n9<n5/\aL [aw,ao,au]/\aL [aq,ar,aA]/\I4 n9 ((ak (x7+1))) gn))))
 (∃n9,n9<n5/\aL [aw,ao,au]/\aL [aq,ar,aA]/\I4 n9 ((ak (x7+1))) cP)))))))))
 (∃(cW dh dJ dA eG dT:Int),af w8 (aB w2) 0 [cW,dh,dJ,dA,eG,dT]/\
 Wt w8 ⟨w1,0,none⟩ 6/\Nb w1 w/\Nb w1 w0/\(∀fb,fb=aK w8 (aB w1) [cW,dh,dJ,dA,eG,dT]->
 ∃(fD ik gr iM iB il:Int),af fb (aB w1) 0 [fD,ik,gr,iM,iB,il]/\
 R (Value.agg #[fD,ik,gr,iM,iB,il]) fb))):ah 198 #[.agg #[aw,ao,au],.agg #[aq,ar,aA]] w R:=
 cq ⟨[(3,⟨[(9,.int .i64)],[],[]⟩)],[],[]⟩ Tryz.func198 h
def Sj.vc(h:
 Aw w #[aw,ao,au] 41 λw0=>
 Aw w0 #[aq,ar,aA] 41 λw1=>
 Aw w1 #[a2] 3 λw2=>
 ah 259 #[aw,aq,.pointer (aB w1)] w2 (Rb λb4 w3=>K2 w w0 w2 w3 (
 Br b4
 (ah 259 #[ao,ar,.pointer (aB w1)] w3 (Rb λb6 w5=>K2 w w0 w3 w5 (
 Br b6
 (ah 259 #[au,aA,.pointer (aB w1)] w5 (Rb λb8 w7=>K2 w w0 w5 w7 (
 R b8 w7)))
 (R false w5))))
 (R false w3)))):ah 199 #[.agg #[aw,ao,au],.agg #[aq,ar,aA],a2] w R:=
 cq bU Tryz.func199 h
def Lg.vc{c0:Addr}(h:
 ∃(x0:Int),ld w (some c0)=some (.int .i64 x0)/\
 Br (decide (((ak (a0-a1)):Int)<=x0))
 (∃(x1:Int),ld w (some c0)=some (.int .i64 x1)/\
 R (Value.bool (decide (((ak (a1-a0)):Int)<=x1))) w)
 (R false w)):ah 259 #[a0,a1,c0] w R:=
 cq bU Tryz.func259 h
def W5.vc(h:
 ah 260 #[a0] w (λe w0=>∃(x1:Int)(b2:Bool),e=Value.tuple #[.int .u64 x1,b2]/\
 ah 260 #[a1] w0 (λe w3=>∃(x4:Int)(b5:Bool),e=Value.tuple #[.int .u64 x4,b5]/\
 Br (x4==0)
 (R (Value.tuple #[aa,(1:Int)]) w3)
 (aS (L8 x4) (aS (L8 x4) (ah 261 #[.int .u64 (di (Int.tdiv (di (x1*2 ^(min (16:Int).toNat 64))) x4)),.bool (((Int.tmod (di (x1*2 ^(min (16:Int).toNat 64))) x4):Int) !=0),.bool (!(b2==b5))] w3.drew (λe w6=>∃(x7:Int),e=x7/\
 R (Value.tuple #[x7,aa]) w6))))))):ah 201 #[a0,a1] w R:=
 cq bU Tryz.func201 h
def N8.vc{a0:Value}{c0:Addr}{c1:Addr}{c2:Addr}(h:
 ∃(x0 x1 x2:Int),af w (some c0) 0 [x0,x1,x2]/\
 ∃(x3 x4 x5:Int),af w (some c1) 0 [x3,x4,x5]/\
 ah 198 #[.agg #[x0,x1,x2],.agg #[x3,x4,x5]] w (λe w6=>∃(x7 x8 x9 bk bA bS:Int),e=Value.agg #[x7,x8,x9,bk,bA,bS]/\
 Aw w6 #[aa,aa,aa,aa,aa,aa] 268 λbG=>
 Wt bG ⟨w6,0,none⟩ 6/\(∀bJ,bJ=aK bG (aB w6) [x7,x8,x9,bk,bA,bS]->
 ∃(cD cp cZ:Int),af bJ (some c0) 0 [cD,cp,cZ]/\
 ah 101 #[.agg #[cD,cp,cZ]] bJ (λe du=>∃(cr cW dh:Int),e=Value.agg #[cr,cW,dh]/\
 Aw du #[aa,aa,aa,aa,aa,aa] 77 λey=>
 Sw ey du #[cr,cW,dh,aa,(-1:Int),aa] λeR=>
 Aw eR #[aa,aa,aa] 41 λgC=>
 Sw gC eR #[cr,cW,dh] λcV=>
 ∃I26:Nat->Int->Int->Int->Int->Int->Int->World->Prop,
 (∃n27,aL [cr,cW,dh]/\I26 n27 cr cW dh (0) ((-1)) (0) cV)/\
 ∀(n27:Nat)(at2:Nat->Value)(gr iM iB il eF im:Int)(ki:World),I26 n27 gr iM iB il eF im ki->
 ∃(gx:Int),ld ki (some c2)=some (.int .i64 gx)/\
 ah 199 #[.agg #[cr,cW,dh],.agg #[gr,iM,iB],gx] ki (Rb λb39 oL=>K2 du eR ki oL (
 Br b39
 (cL Tryz.prog a0 [.agg #[gr,iM,iB,il,eF,im]] oL (Rb λb41 jS=>K2 du eR oL jS (
 Br (!b41)
 (R ug jS)
 (∃I42:Nat->Int->Int->World->Prop,
 (∃n43,aL [gr,iM,iB,il,eF,im]/\aL [cr,cW,dh]/\I42 n43 (0) (0) jS)/\
 ∀(n43:Nat)(aBR:Nat->Value)(pH g8:Int)(mw:World),I42 n43 pH g8 mw->
 Br (pH<3)
 ((0:Int)<=pH/\pH<((3:Nat):Int)/\∃(HN vh:Int),af mw.drew (ae (aB w6) ((pH:Int).toNat*2)) 0 [HN,vh]/\
 (0:Int)<=g8/\g8<((3:Nat):Int)/\∃(nE mJ:Int),af mw.drew (ae (aB w6) ((g8:Int).toNat*2)) 0 [nE,mJ]/\
 ah 200 #[.agg #[HN,vh],.agg #[nE,mJ]] mw.drew (Rb λb54 Q8=>K2 du eR mw.drew Q8 (
 Br b54
 (∃n48,n48<n43/\aL [gr,iM,iB,il,eF,im]/\aL [cr,cW,dh]/\I42 n48 ((ak (pH+1))) pH Q8)
 (∃n48,n48<n43/\aL [gr,iM,iB,il,eF,im]/\aL [cr,cW,dh]/\I42 n48 ((ak (pH+1))) g8 Q8))))
 ((0:Int)<=g8/\g8<((3:Nat):Int)/\∃(mz:Int),ld mw (ae (ae (aB w6) ((g8:Int).toNat*2)) 1)=some (.int .i64 mz)/\
 Br (mz==0)
 (R ug mw)
 ((0:Int)<=g8/\g8<((3:Nat):Int)/\∃(tk:Int),ld mw.drew (ae (ae (aB w6) ((g8:Int).toNat*2)) 0)=some (.int .i64 tk)/\
 (0:Int)<=g8/\g8<((3:Nat):Int)/\∃(ox:Int),ld mw.drew (ae (ae (aB w6) ((g8:Int).toNat*2)) 1)=some (.int .i64 ox)/\
 ah 201 #[tk,ox] mw.drew (λe Cj=>∃(qG my:Int),e=Value.tuple #[qG,my]/\K2 du eR mw.drew Cj (
 (0:Int)<=g8/\g8<((3:Nat):Int)/\∃(vU:Int),ld Cj (ae (ae (aB w6) ((g8:Int).toNat*2)) 0)=some (.int .i64 vU)/\
 (0:Int)<=g8/\g8<((3:Nat):Int)/\(true=true/\Wr Cj (ae (ae (aB w6) ((g8:Int).toNat*2)) 0) 1)/\bt (ae (ae (aB w6) ((g8:Int).toNat*2)) 0)≠some du.heap.size/\bt (ae (ae (aB w6) ((g8:Int).toNat*2)) 0)≠some eR.heap.size/\(∀jk,jk=aK Cj (ae (ae (aB w6) ((g8:Int).toNat*2)) 0) [(ak (vU+65536))]->
 ∃(tY AR rJ:Int),af jk (some c1) 0 [tY,AR,rJ]/\
 ah 178 #[.agg #[tY,AR,rJ],g8] jk (Ri λpB rI=>K2 du eR jk rI (
 Br (pB>0)
 (ah 159 #[.agg #[gr,iM,iB]] rI (λe tM=>∃(qH pP oy oz nO wh vY yB HL Ea AL yC vF tN v5 B8 B9 Q5:Int),e=Value.agg #[qH,pP,oy,oz,nO,wh,vY,yB,HL,Ea,AL,yC,vF,tN,v5,B8,B9,Q5]/\K2 du eR rI tM (
 ((0:Int)<=(ak ((ak (2*g8))+1))/\((ak ((ak (2*g8))+1)):Int)<((6:Nat):Int))/\∃(ve x88 VE:Int),(([qH,pP,oy,oz,nO,wh,vY,yB,HL,Ea,AL,yC,vF,tN,v5,B8,B9,Q5]:LV).drop (((ak ((ak (2*g8))+1)):Int).toNat*3)).take 3=[.int .i64 ve,.int .i64 x88,.int .i64 VE]/\
 Sw tM du #[ve,x88,VE,aa,(ak ((ak ((ak (2*g8))+1))-1)),qG] λpD=>
 ∃n36,n36<n27/\aL [cr,cW,dh]/\I26 n36 ve x88 VE (0) ((ak ((ak ((ak (2*g8))+1))-1))) qG pD)))
 (ah 159 #[.agg #[gr,iM,iB]] rI (λe w91=>∃(Eb yD Zm EG EH EI Mp Kl sQ qB vf AO vg tO rD rE IJ tP:Int),e=Value.agg #[Eb,yD,Zm,EG,EH,EI,Mp,Kl,sQ,qB,vf,AO,vg,tO,rD,rE,IJ,tP]/\K2 du eR rI w91 (
 ((0:Int)<=(ak ((ak (2*g8))+0))/\((ak ((ak (2*g8))+0)):Int)<((6:Nat):Int))/\∃(lv rF jO:Int),(([Eb,yD,Zm,EG,EH,EI,Mp,Kl,sQ,qB,vf,AO,vg,tO,rD,rE,IJ,tP]:LV).drop (((ak ((ak (2*g8))+0)):Int).toNat*3)).take 3=[.int .i64 lv,.int .i64 rF,.int .i64 jO]/\
 Sw w91 du #[lv,rF,jO,aa,(ak ((ak ((ak (2*g8))+1))-0)),qG] λT9=>
 ∃n36,n36<n27/\aL [cr,cW,dh]/\I26 n36 lv rF jO (0) ((ak ((ak ((ak (2*g8))+1))-0))) qG T9))))))))))))))
 (R ug oL))))))):ah 197 #[a0,c0,c1,c2] w R:=
 cq ⟨[(7,⟨[(30,.int .i64),(8,.int .i64)],[],[]⟩),(3,⟨[],[(0,[.int .i64,.int .i64,.int .i64,.int .i64,.int .i64,.int .i64])],[]⟩)],[],[]⟩ Tryz.func197 h
def W6.vc(h:
 Aw w #[aw,ao,au] 28 λw0=>
 Aw w0 #[aq,ar,aA] 28 λw1=>
 Aw w1 #[a2] 3 λw2=>
 ah 195 #[.agg #[aw,ao,au]] w2.drew (jo λx4 x5 x6 w3=>K3 w w0 w1 w2.drew w3 (
 af w3 (aB w1) 0 [a2]/\af w3 (aB w0) 0 [aq,ar,aA]/\ah 196 #[.agg #[aq,ar,aA]] w3 (jo λx8 x9 bk w7=>K3 w w0 w1 w3 w7 (
 af w7 (aB w1) 0 [a2]/\Sw w7 w #[x4,x5,x6] λbc=>
 af bc (aB w1) 0 [a2]/\Sw bc w0 #[x8,x9,bk] λcU=>
 af cU (aB w1) 0 [a2]/\Sw cU w1 #[.int .i64 (if 64<(if 0>a2 then 0 else a2) then 64 else (if 0>a2 then 0 else a2))] λbG=>
 R (Value.func (.func 197) #[] #[w,.pointer (aB w0),.pointer (aB w1)]) bG))))):ah 143 #[.agg #[aw,ao,au],.agg #[aq,ar,aA],a2] w R:=
 cq bU Tryz.func143 h
def aa9.vc{a0:Value}(h:
 aS (kU a0) (
 Aw w #[a0] 65 λw0=>
 Aw w0 #[aq,ar,aA] 28 λw1=>
 Aw w1 #[bE,bO,bC] 28 λw2=>
 Aw w2 #[aa,aa,aa,aa,aa,aa] 77 λw3=>
 Aw w3 #[false] 4 λw4=>
 ah 143 #[.agg #[aq,ar,aA],.agg #[bE,bO,bC],a3] w4 (Rv λv6 w5=>K5 w w0 w1 w2 w3 w4 w5 (
 ∃(xs7:List (LV))(Rd8 F9:Nat->Prop)(Eg:Nat->(Nat->Prop)->Int->Int->Int->Int->Int->Int->Bool->World->Prop)(X11:Option Nat->(Nat->Prop)->Int->Int->Int->Int->Int->Int->Bool->World->Prop),
 (∀x ∈ xs7,∃(bS cn bW cD cp cZ:Int),x=[.agg #[.int .i64 bS,.int .i64 cn,.int .i64 bW,.int .i64 cD,.int .i64 cp,.int .i64 cZ]])/\
 (∀(n18:Nat)(F19:Nat->Prop)(cW dh dJ dA eG dT:Int)(Hm:Bool)(eB gQ:World),Eg n18 F19 cW dh dJ dA eG dT Hm eB->Below w5 eB gQ->(∀i,F19 i->gQ.heap[i]? =eB.heap[i]?)->Eg n18 F19 cW dh dJ dA eG dT Hm gQ)/\
 (∀(Z4:Option Nat)(F30:Nat->Prop)(iB il eF im jT lJ:Int)(b37:Bool)(oL kP:World),X11 Z4 F30 iB il eF im jT lJ b37 oL->Below w5 oL kP->(∀i,F30 i->kP.heap[i]? =oL.heap[i]?)->X11 Z4 F30 iB il eF im jT lJ b37 kP)/\
 (∀(n40:Nat)(F41:Nat->Prop)(ow qw lK pH g8 qF:Int)(b48:Bool)(mI:World),Eg n40 F41 ow qw lK pH g8 qF b48 mI->∀i,F41 i->i<mI.heap.size/\i≠w5.heap.size/\i≠w5.heap.size+1)/\
 (∀(n50:Option Nat)(F51:Nat->Prop)(mJ iT qx mz tk ox:Int)(Q3:Bool)(yO:World),X11 n50 F51 mJ iT qx mz tk ox Q3 yO->∀i,F51 i->i<yO.heap.size/\i≠w5.heap.size/\i≠w5.heap.size+1)/\
 (∀i,Rd8 i->i<w5.heap.size/\¬F9 i/\i≠w.heap.size/\i≠w0.heap.size/\i≠w1.heap.size/\i≠w2.heap.size/\i≠w3.heap.size/\True)/\
 (∀nN:World,M1 w5 w5 nN->Iter Tryz.prog (v6) nN Rd8 xs7/\aL [a0]/\aL [aq,ar,aA]/\aL [bE,bO,bC]/\Eg 0 F9 (0) (0) (0) (0) (0) (0) false nN)/\
 (∀(n61:Nat)(F62:Nat->Prop)(aBT:Nat->Value)(AR rJ nR pB oN qH:Int)(b70:Bool)(oy oz nO wh vY yB:Int)(vd:World),xs7[n61]? =some [.agg #[.int .i64 oy,.int .i64 oz,.int .i64 nO,.int .i64 wh,.int .i64 vY,.int .i64 yB]]->Eg n61 F62 AR rJ nR pB oN qH b70 vd->
 Aw vd #[aa,aa,aa,aa,aa,aa] 77 λZ1=>
 Sw Z1 vd #[oy,oz,nO,wh,vY,yB] λvG=>
 Below vd vd vG/\∀qm:World,Rec (w5.heap.size+1) vG qm->Eg n61 F62 AR rJ nR pB oN qH b70 qm->
 cL Tryz.prog a0 [.agg #[oy,oz,nO]] qm (Ri λtN we=>K6 w w0 w1 w2 w3 vd qm we (
 ah 144 #[tN] we (Rb λb84 w83=>K6 w w0 w1 w2 w3 vd we w83 (
 Br (!b84)
 (Sw w83 vd #[oy,oz,nO,tN,vY,yB] λw85=>
 Sw w85 w2 #[oy,oz,nO,tN,vY,yB] λw86=>
 Sw w86 w3 #[true] λCa=>
 true=true/\∃F88:Nat->Prop,(aL [a0]/\aL [aq,ar,aA]/\aL [bE,bO,bC]/\X11 none F88 oy oz nO tN vY yB true Ca)/\Step (λi=>(F62 i\/i ∈([w.heap.size,w0.heap.size,w1.heap.size,w2.heap.size,w3.heap.size]:List Nat))\/vd.heap.size<=i) (λi=>F88 i\/i ∈([w.heap.size,w0.heap.size,w1.heap.size,w2.heap.size,w3.heap.size]:List Nat)) qm Ca)
 (∃F89:Nat->Prop,(aL [a0]/\aL [aq,ar,aA]/\aL [bE,bO,bC]/\Eg (n61+1) F89 AR rJ nR pB oN qH b70 w83)/\Step (λi=>(F62 i\/i ∈([w.heap.size,w0.heap.size,w1.heap.size,w2.heap.size,w3.heap.size]:List Nat))\/vd.heap.size<=i) (λi=>F89 i\/i ∈([w.heap.size,w0.heap.size,w1.heap.size,w2.heap.size,w3.heap.size]:List Nat)) qm w83))))))/\
 (∀(F90:Nat->Prop)(at9:Nat->Value)(Eb yD Zm EG EH EI:Int)(b98:Bool)(Q6:World),Eg xs7.length F90 Eb yD Zm EG EH EI b98 Q6->Q6.heap[w5.heap.size]? =some (.deferred (some []))->
 Sw Q6 w2 #[aa,aa,aa,aa,aa,aa] λsO=>
 Sw sO w3 #[false] λIz=>
 Iz.heap[w5.heap.size]? =some (.deferred (some []))/\∀ali:World,Rec w5 Iz ali->
 R (Value.tuple #[.agg #[aa,aa,aa,aa,aa,aa],false]) ali)/\
 (∀(auA:Nat->Prop)(ayW:Nat->Value)(tO rD rE IJ tP lv:Int)(aoZ:Bool)(AQ:World),X11 none auA tO rD rE IJ tP lv aoZ AQ->AQ.heap[w5.heap.size]? =some (.deferred (some []))->
 AQ.heap[w5.heap.size]? =some (.deferred (some []))/\∀T9:World,Rec w5 AQ T9->
 R (Value.tuple #[.agg #[tO,rD,rE,IJ,tP,lv],aoZ]) T9))))):ah 87 #[a0,.agg #[aq,ar,aA],.agg #[bE,bO,bC],a3] w R:=
 cq ⟨[],[],[(3,⟨[],[(3,[.int .i64,.int .i64,.int .i64,.int .i64,.int .i64,.int .i64]),(4,[.bool])],[]⟩,[.agg [.int .i64,.int .i64,.int .i64,.int .i64,.int .i64,.int .i64]])]⟩ Tryz.func87 h
def Sk.vc(h:
 Aw w #[aw,ao,au,aP,aQ,aR] 77 λw0=>
 Aw w0 #[aa,aa,aa] 41 λw1=>
 Br (aQ<0)
 (Sw w1 w0 #[aa,aa,aa] λw2=>
 R (Value.tuple #[.agg #[aa,aa,aa],false]) w2)
 (Br (aQ>=6)
 (Sw w1 w0 #[aa,aa,aa] λw3=>
 R (Value.tuple #[.agg #[aa,aa,aa],false]) w3)
 (ah 159 #[.agg #[aw,ao,au]] w1.drew (λe w4=>∃(x5 x6 x7 x8 x9 bk bA bS cn bW cD cp cZ cA cr cW dh dJ:Int),e=Value.agg #[x5,x6,x7,x8,x9,bk,bA,bS,cn,bW,cD,cp,cZ,cA,cr,cW,dh,dJ]/\K2 w w0 w1.drew w4 (
 af w4 (dU w 4) 0 [aQ]/\((0:Int)<=aQ/\aQ<((6:Nat):Int))/\∃(dA eG dT:Int),(([x5,x6,x7,x8,x9,bk,bA,bS,cn,bW,cD,cp,cZ,cA,cr,cW,dh,dJ]:LV).drop ((aQ:Int).toNat*3)).take 3=[.int .i64 dA,.int .i64 eG,.int .i64 dT]/\
 Sw w4 w0 #[dA,eG,dT] λfb=>
 R (Value.tuple #[.agg #[dA,eG,dT],true]) fb))))):ah 109 #[.agg #[aw,ao,au,aP,aQ,aR]] w R:=
 cq bU Tryz.func109 h
def H8.vc{bI:Bool}(h:
 Aw w #[aw,ao,au,aP,aQ,aR,bM,bH,bI] 70 λw0=>
 Aw w0 #[aa,aa,aa] 28 λw1=>
 ah 145 #[.agg #[aw,ao,au],.agg #[aa,(ak (Int.tdiv (ak (bH*4)) 5)),aa]] w1 (jo λx3 x4 x5 w2=>K2 w w0 w1 w2 (
 Sw w2 w0 #[x3,x4,x5] λw6=>
 R (Value.agg #[x3,x4,x5]) w6))):ah 88 #[.agg #[aw,ao,au,aP,aQ,aR,bM,bH,bI]] w R:=
 cq bU Tryz.func88 h
def aba.vc(h:
 Aw w #[aw,ao,au] 41 λw0=>
 Aw w0 #[aa,aa,aa,aa,aa,aa] 107 λw1=>
 (ah 174 #[aw] w1.drew (Ri λx3 w2=>K2 w w0 w1.drew w2 (
 af w2 (dU w 2) 0 [au]/\af w2 (dU w 1) 0 [ao]/\(ah 174 #[ao] w2 (Ri λx5 w4=>K2 w w0 w2 w4 (
 af w4 (dU w 2) 0 [au]/\(ah 174 #[au] w4 (Ri λx7 w6=>K2 w w0 w4 w6 (
 (Aw w6 #[aa,aa,aa] 28 λw8=>
 Sw w8 w6 #[x3,x5,x7] λw9=>
 ah 145 #[.agg #[x3,x5,x7],.agg #[(65536:Int),(65536:Int),(65536:Int)]] w9.drew (jo λbA bS cn bN=>K3 w w0 w6 w9.drew bN (
 af bN (aB w6) 0 [x3,x5,x7]/\Sw bN w0 #[x3,x5,x7,bA,bS,cn] λbJ=>
 R (Value.agg #[x3,x5,x7,bA,bS,cn]) bJ)))/\(Aw w6 #[aa,aa,aa] 28 λeu=>
 Sw eu w6 #[x3,x5,x7] λcP=>
 ah 145 #[.agg #[x3,x5,x7],.agg #[(65536:Int),(65536:Int),(65536:Int)]] cP.drew (jo λcA cr cW cJ=>K3 w w0 w6 cP.drew cJ (
 af cJ (aB w6) 0 [x3,x5,x7]/\Sw cJ w0 #[x3,x5,x7,cA,cr,cW] λeU=>
 R (Value.agg #[x3,x5,x7,cA,cr,cW]) eU))))))/\(Aw w4 #[aa,aa,aa] 28 λey=>
 ah 174 #[au] ey (Ri λeG eR=>K3 w w0 w4 ey eR (
 Sw eR w4 #[x3,x5,eG] λcV=>
 ah 145 #[.agg #[x3,x5,eG],.agg #[(65536:Int),(65536:Int),(65536:Int)]] cV.drew (jo λfD ik gr fb=>K3 w w0 w4 cV.drew fb (
 af fb (aB w4) 0 [x3,x5,eG]/\Sw fb w0 #[x3,x5,eG,fD,ik,gr] λfw=>
 R (Value.agg #[x3,x5,eG,fD,ik,gr]) fw))))))))/\(Aw w2 #[aa,aa,aa] 28 λgA=>
 ah 174 #[ao] gA (Ri λeF lA=>K3 w w0 w2 gA lA (
 af lA (dU w 2) 0 [au]/\ah 174 #[au] lA (Ri λjT iq=>K3 w w0 w2 lA iq (
 Sw iq w2 #[x3,eF,jT] λjN=>
 ah 145 #[.agg #[x3,eF,jT],.agg #[(65536:Int),(65536:Int),(65536:Int)]] jN.drew (jo λgd kH lu iN=>K3 w w0 w2 jN.drew iN (
 af iN (aB w2) 0 [x3,eF,jT]/\Sw iN w0 #[x3,eF,jT,gd,kH,lu] λiR=>
 R (Value.agg #[x3,eF,jT,gd,kH,lu]) iR))))))))))/\(Aw w1.drew #[aa,aa,aa] 28 λkO=>
 ah 174 #[aw] kO (Ri λlK iH=>K2 w w0 kO iH (
 iH.heap[w1.drew.heap.size]? =kO.heap[w1.drew.heap.size]?/\
 af iH (dU w 2) 0 [au]/\af iH (dU w 1) 0 [ao]/\ah 174 #[ao] iH (Ri λg8 yP=>K2 w w0 iH yP (
 yP.heap[w1.drew.heap.size]? =iH.heap[w1.drew.heap.size]?/\
 af yP (dU w 2) 0 [au]/\ah 174 #[au] yP (Ri λyL mw=>K2 w w0 yP mw (
 mw.heap[w1.drew.heap.size]? =yP.heap[w1.drew.heap.size]?/\
 Sw mw w1.drew.heap.size #[lK,g8,yL] λmI=>
 ah 145 #[.agg #[lK,g8,yL],.agg #[(65536:Int),(65536:Int),(65536:Int)]] mI.drew (jo λnE mJ iT lR=>K2 w w0 mI.drew lR (
 lR.heap[w1.drew.heap.size]? =mI.drew.heap[w1.drew.heap.size]?/\
 af lR (aB w1.drew.heap.size) 0 [lK,g8,yL]/\Sw lR w0 #[lK,g8,yL,nE,mJ,iT] λHs=>
 R (Value.agg #[lK,g8,yL,nE,mJ,iT]) Hs)))))))))):ah 121 #[.agg #[aw,ao,au]] w R:=
 cq bU Tryz.func121 h
def uE.vc{a0:Addr}{c0:Addr}(h:
 ∃(x0 x1 x2 x3 x4 x5 x6 x7:Int)(b8:Bool),af w.drew (ae (some a0) 0) 0 [x0,x1,x2,x3,x4,x5,x6,x7,b8]/\
 ∃(x9 bk bA bS cn bW:Int),af w.drew (some c0) 0 [x9,bk,bA,bS,cn,bW]/\
 ah 48 #[.agg #[x0,x1,x2,x3,x4,x5,x6,x7,b8]] w.drew (λe eu=>∃(cp cZ cA cr cW dh:Int),e=Value.agg #[cp,cZ,cA,cr,cW,dh]/\
 af eu (some c0) 0 [x9,bk,bA,bS,cn,bW]/\ah 124 #[.agg #[cp,cZ,cA,cr,cW,dh],.agg #[x9,bk,bA,bS,cn,bW]] eu (λe ey=>∃(Cd:Bool),e=Cd/\
 R Cd ey))):ah 123 #[a0,c0] w R:=
 cq bU Tryz.func123 h
def qp.vc{a0:Sl}{a1:Value}(h:
 ah 175 #[a0,a1] w (λe w0=>∃(x1:Int),e=x1/\
 R (Value.bool (decide (x1>=0))) w0)):ah 122 #[a0,a1] w R:=
 cq bU Tryz.func122 h
def xA.vc{a0:Addr}(h:
 Aw w #[aq,ar,aA] 41 λw0=>
 ah 121 #[.agg #[aq,ar,aA]] w0 (wE λx2 x3 x4 x5 x6 x7 w1=>Kp w w0 w1/\
 Aw w1 #[aa,aa,aa,aa,aa,aa] 107 λw8=>
 Sw w8 w1 #[x2,x3,x4,x5,x6,x7] λw9=>
 ah 122 #[.slice (aJ (ae (some a0) 1) (0) (16) 1) (16-0) (16-0),.func (.func 123) #[] #[.pointer (aB w1)]] w9 (Rb λZ0 bN=>Kp w w9 bN/\
 R Z0 bN))):ah 66 #[a0,.agg #[aq,ar,aA]] w R:=
 cq bU Tryz.func66 h
def xK.vc{a0:Addr}(h:
 Aw w #[bE,bO,bC] 28 λw0=>
 Aw w0 #[aa,aa,aa,aa,aa,aa] 77 λw1=>
 ah 50 #[a0,a1] w1 (λe w2=>∃(p3:Option Addr),e=p3/\K2 w w0 w1 w2 (
 Br (p3).isNone
 (Sw w2 w0 #[aa,aa,aa,aa,aa,aa] λw4=>
 R (Value.tuple #[.agg #[aa,aa,aa,aa,aa,aa],(6:Int)]) w4)
 (aS (dK p3) (aS (dK p3) (∃(x5 x6 x7 x8 x9 bk bA bS:Int)(Hl:Bool),af w2.drew (ae p3 0) 0 [x5,x6,x7,x8,x9,bk,bA,bS,Hl]/\
 (ah 47 #[a0] w2.drew (Rv λv15 bJ=>K2 w w0 w2.drew bJ (
 af bJ w 0 [bE,bO,bC]/\af bJ (ae p3 0) 0 [x5,x6,x7,x8,x9,bk,bA,bS,Hl]/\(ah 88 #[.agg #[x5,x6,x7,x8,x9,bk,bA,bS,Hl]] bJ (jo λcZ cA cr cP=>K2 w w0 bJ cP (
 af cP w 0 [bE,bO,bC]/\(ah 87 #[v15,.agg #[cZ,cA,cr],.agg #[bE,bO,bC],(5:Int)] cP (λe ef=>∃(dh dJ dA eG dT fE:Int)(B7:Bool),e=Value.tuple #[.agg #[dh,dJ,dA,eG,dT,fE],B7]/\K2 w w0 cP ef (
 Aw ef #[aa,aa,aa,aa,aa,aa] 77 λgQ=>
 Sw gQ ef #[dh,dJ,dA,eG,dT,fE] λdX=>
 Br (!B7)
 (Sw dX w0 #[aa,aa,aa,aa,aa,aa] λfw=>
 R (Value.tuple #[.agg #[aa,aa,aa,aa,aa,aa],(13:Int)]) fw)
 (Br (eG==(-1))
 (Sw dX w0 #[aa,aa,aa,aa,aa,aa] λgA=>
 R (Value.tuple #[.agg #[aa,aa,aa,aa,aa,aa],(11:Int)]) gA)
 (Sw dX w0 #[dh,dJ,dA,eG,dT,fE] λlA=>
 R (Value.tuple #[.agg #[dh,dJ,dA,eG,dT,fE],(0:Int)]) lA)))))/\(Aw cP #[aa,aa,aa,aa,aa,aa] 77 λeP=>
 ah 87 #[v15,.agg #[cZ,cA,cr],.agg #[bE,bO,bC],(5:Int)] eP (λe iq=>∃(jT lJ gx gd kH lu:Int)(b41:Bool),e=Value.tuple #[.agg #[jT,lJ,gx,gd,kH,lu],b41]/\K3 w w0 cP eP iq (
 Sw iq cP #[jT,lJ,gx,gd,kH,lu] λkO=>
 Br (!b41)
 (Sw kO w0 #[aa,aa,aa,aa,aa,aa] λiH=>
 R (Value.tuple #[.agg #[aa,aa,aa,aa,aa,aa],(13:Int)]) iH)
 (Br (gd==(-1))
 (Sw kO w0 #[aa,aa,aa,aa,aa,aa] λkI=>
 R (Value.tuple #[.agg #[aa,aa,aa,aa,aa,aa],(11:Int)]) kI)
 (Sw kO w0 #[jT,lJ,gx,gd,kH,lu] λyP=>
 R (Value.tuple #[.agg #[jT,lJ,gx,gd,kH,lu],(0:Int)]) yP))))))))/\(Aw bJ #[aa,aa,aa,aa,aa,aa] 77 λoM=>
 ah 88 #[.agg #[x5,x6,x7,x8,x9,bk,bA,bS,Hl]] oM (jo λyL HN vh mw=>K3 w w0 bJ oM mw (
 af mw w 0 [bE,bO,bC]/\ah 87 #[v15,.agg #[yL,HN,vh],.agg #[bE,bO,bC],(5:Int)] mw (λe vX=>∃(mJ iT qx mz tk ox:Int)(Q3:Bool),e=Value.tuple #[.agg #[mJ,iT,qx,mz,tk,ox],Q3]/\K3 w w0 bJ mw vX (
 Sw vX bJ #[mJ,iT,qx,mz,tk,ox] λyO=>
 Br (!Q3)
 (Sw yO w0 #[aa,aa,aa,aa,aa,aa] λnN=>
 R (Value.tuple #[.agg #[aa,aa,aa,aa,aa,aa],(13:Int)]) nN)
 (Br (mz==(-1))
 (Sw yO w0 #[aa,aa,aa,aa,aa,aa] λpG=>
 R (Value.tuple #[.agg #[aa,aa,aa,aa,aa,aa],(11:Int)]) pG)
 (Sw yO w0 #[mJ,iT,qx,mz,tk,ox] λjk=>
 R (Value.tuple #[.agg #[mJ,iT,qx,mz,tk,ox],(0:Int)]) jk))))))))))/\(Aw w2.drew #[aa,aa,aa,aa,aa,aa] 77 λIw=>
 ah 47 #[a0] Iw (Rv λv65 tX=>K2 w w0 Iw tX (
 tX.heap[w2.drew.heap.size]? =Iw.heap[w2.drew.heap.size]?/\
 af tX w 0 [bE,bO,bC]/\af tX (ae p3 0) 0 [x5,x6,x7,x8,x9,bk,bA,bS,Hl]/\ah 88 #[.agg #[x5,x6,x7,x8,x9,bk,bA,bS,Hl]] tX (jo λpB oN qH rI=>K2 w w0 tX rI (
 rI.heap[w2.drew.heap.size]? =tX.heap[w2.drew.heap.size]?/\
 af rI w 0 [bE,bO,bC]/\ah 87 #[v65,.agg #[pB,oN,qH],.agg #[bE,bO,bC],(5:Int)] rI (λe oA=>∃(oy oz nO wh vY yB:Int)(b77:Bool),e=Value.tuple #[.agg #[oy,oz,nO,wh,vY,yB],b77]/\K2 w w0 rI oA (
 oA.heap[w2.drew.heap.size]? =rI.heap[w2.drew.heap.size]?/\
 Sw oA w2.drew.heap.size #[oy,oz,nO,wh,vY,yB] λqm=>
 Br (!b77)
 (Sw qm w0 #[aa,aa,aa,aa,aa,aa] λZ1=>
 R (Value.tuple #[.agg #[aa,aa,aa,aa,aa,aa],(13:Int)]) Z1)
 (Br (wh==(-1))
 (Sw qm w0 #[aa,aa,aa,aa,aa,aa] λvG=>
 R (Value.tuple #[.agg #[aa,aa,aa,aa,aa,aa],(11:Int)]) vG)
 (Sw qm w0 #[oy,oz,nO,wh,vY,yB] λwe=>
 R (Value.tuple #[.agg #[oy,oz,nO,wh,vY,yB],(0:Int)]) we))))))))))))))):ah 32 #[a0,a1,.agg #[bE,bO,bC]] w R:=
 cq bU Tryz.func32 h
def xL.vc{a0:Addr}(h:
 Aw w #[aq,ar,aA] 41 λw0=>
 ah 103 #[a2] w0 (Rb λb2 w1=>Kp w w0 w1/\
 Br b2
 (ah 66 #[a0,.agg #[aq,ar,aA]] w1 (Rb λb4 w3=>Kp w w1 w3/\
 Br b4
 (R (12:Int) w3)
 (∃(p5:Option Addr),ld w3.drew (ae (some a0) 0)=some (.pointer p5)/\
 ah 113 #[p5,.agg #[aq,ar,aA],a2] w3.drew (Ri λx7 w6=>Kp w w3.drew w6/\
 R x7 w6))))
 (∃(p8:Option Addr),ld w1.drew (ae (some a0) 0)=some (.pointer p8)/\
 ah 113 #[p8,.agg #[aq,ar,aA],a2] w1.drew (Ri λbk w9=>Kp w w1.drew w9/\
 R bk w9)))):ah 59 #[a0,.agg #[aq,ar,aA],a2] w R:=
 cq bU Tryz.func59 h
def vM.vc{a0:Addr}(h:
 Aw w #[bE,bO,bC] 28 λw0=>
 ah 32 #[a0,a1,.agg #[bE,bO,bC]] w0 (λe w1=>∃(x2 x3 x4 x5 x6 x7 x8:Int),e=Value.tuple #[.agg #[x2,x3,x4,x5,x6,x7],x8]/\Kp w w0 w1/\
 Aw w1 #[aa,aa,aa,aa,aa,aa] 77 λw9=>
 Sw w9 w1 #[x2,x3,x4,x5,x6,x7] λbN=>
 Br (x8==6)
 (R x8 bN)
 (ah 108 #[a3] bN (Rb λTV bc=>K2 w w1 bN bc (
 Br (!TV)
 (R (1:Int) bc)
 (Br (a3==0)
 (R (1:Int) bc)
 (Br (x8 !=0)
 (R x8 bc)
 (ah 109 #[.agg #[x2,x3,x4,x5,x6,x7]] bc (λe bG=>∃(bW cD cp:Int)(ZX:Bool),e=Value.tuple #[.agg #[bW,cD,cp],ZX]/\K2 w w1 bc bG (
 Aw bG #[aa,aa,aa] 41 λdu=>
 Sw du bG #[bW,cD,cp] λgn=>
 Br (!ZX)
 (R (12:Int) gn)
 (ah 59 #[a0,.agg #[bW,cD,cp],a3] gn (Ri λdh ef=>K3 w w1 bG gn ef (
 R dh ef))))))))))))):ah 55 #[a0,a1,.agg #[bE,bO,bC],a3] w R:=
 cq bU Tryz.func55 h
def vN.vc{a0:Addr}(h:
 Aw w #[bE,bO,bC] 28 λw0=>
 ah 32 #[a0,a1,.agg #[bE,bO,bC]] w0 (λe w1=>∃(x2 x3 x4 x5 x6 x7 x8:Int),e=Value.tuple #[.agg #[x2,x3,x4,x5,x6,x7],x8]/\Kp w w0 w1/\
 Aw w1 #[aa,aa,aa,aa,aa,aa] 77 λw9=>
 Sw w9 w1 #[x2,x3,x4,x5,x6,x7] λbN=>
 Br (x8==0)
 (ah 59 #[a0,.agg #[x2,x3,x4],(0:Int)] bN (Ri λbS bc=>K2 w w1 bN bc (
 Br (bS !=0)
 (R (Value.tuple #[aa,bS]) bc)
 (R (Value.tuple #[x5,aa]) bc))))
 (Br (x8 !=0)
 (R (Value.tuple #[aa,x8]) bN)
 (R (Value.tuple #[x5,aa]) bN)))):ah 33 #[a0,a1,.agg #[bE,bO,bC]] w R:=
 cq bU Tryz.func33 h
def xM.vc{a0:Addr}{bC:Bool}(h:
 Aw w #[bE,bO,bC] 109 λw0=>
 ah 50 #[a0,a1] w0 (λe w1=>∃(p2:Option Addr),e=p2/\Kp w w0 w1/\
 Br (p2).isNone
 (R (6:Int) w1)
 (aS (dK p2) (aS (dK p2) ((((ae p2 9)).isSome=true/\Wr w1 (ae p2 9) 3)/\bt (ae p2 9)≠some w.heap.size/\(∀w3,w3=aK w1 (ae p2 9) [bE,bO,bC]->
 R (0:Int) w3)))))):ah 54 #[a0,a1,.agg #[bE,bO,bC]] w R:=
 cq bU Tryz.func54 h
def xN.vc{a0:Addr}(h:
 Aw w #[aa,aa,aa,aa,aa,aa,aa,aa,false] 70 λw0=>
 ah 50 #[a0,a1] w0 (λe w1=>∃(p2:Option Addr),e=p2/\Kp w w0 w1/\
 Br (p2).isNone
 (Sw w1 w #[aa,aa,aa,aa,aa,aa,aa,aa,false] λw3=>
 R (Value.tuple #[.agg #[aa,aa,aa,aa,aa,aa,aa,aa,false],false]) w3)
 (aS (dK p2) (aS (dK p2) (∃(x4 x5 x6 x7 x8 x9 bk bA:Int)(TV:Bool),af w1 (ae p2 0) 0 [x4,x5,x6,x7,x8,x9,bk,bA,TV]/\
 Sw w1 w #[x4,x5,x6,x7,x8,x9,bk,bA,TV] λbG=>
 R (Value.tuple #[.agg #[x4,x5,x6,x7,x8,x9,bk,bA,TV],true]) bG))))):ah 29 #[a0,a1] w R:=
 cq bU Tryz.func29 h
def xJ.vc{a0:Addr}(h:
 ∃(p0 p1 p2 p3 p4 p5 p6 p7 p8 p9 Kn ZC pI QK p14 Uh:Option Addr),af w (ae (some a0) 1) 0 [.pointer p0,p1,p2,p3,p4,p5,p6,p7,p8,p9,Kn,ZC,pI,QK,p14,Uh]/\
 ∃I16:Nat->Int->Sl->World->Prop,
 (∃II,I16 II (0) ⟨none,0,0⟩ w)/\
 ∀(II:Nat)(auC:Nat->Value)(cr:Int)(vH:Sl)(eU:World),I16 II cr vH eU->
 Br (cr<16)
 (((0:Int)<=cr/\cr<((16:Nat):Int))/\∃(VG:Option Addr),([.pointer p0,p1,p2,p3,p4,p5,p6,p7,p8,p9,Kn,ZC,pI,QK,p14,Uh]:LV)[(cr:Int).toNat*1]? =some (.pointer VG)/\
 Br (!(VG).isNone)
 (aS (dK VG) (aS (dK VG) (∃(eG dT fE fD ik gr iM iB:Int)(Zk:Bool),af eU (ae VG 0) 0 [eG,dT,fE,fD,ik,gr,iM,iB,Zk]/\
 ah 45 #[a0,.agg #[eG,dT,fE,fD,ik,gr,iM,iB,Zk]] eU (λe eP=>∃(Ze:Bool),e=Ze/\
 Br Ze
 (Aw eP #[VG] 53 λki=>
 ba 8 1 ki vH 1 [.pointer VG]/\∀(s36:Sl)(iN:World),aX 53 1 ki vH 1 [.pointer VG] s36 iN->Kp eP ki iN/\
 ∃QL,QL<II/\I16 QL ((ak (cr+1))) s36 iN)
 (∃QL,QL<II/\I16 QL ((ak (cr+1))) vH eP)))))
 (∃QL,QL<II/\I16 QL ((ak (cr+1))) vH eU))
 (∃I38:Nat->Int->Sl->World->Prop,
 (∃n39,I38 n39 (0) ⟨none,0,0⟩ eU)/\
 ∀(n39:Nat)(aBW:Nat->Value)(kJ:Int)(s42:Sl)(iH:World),I38 n39 kJ s42 iH->
 Br (decide (kJ<((vH.n:Nat):Int)))
 (ez vH.a kJ vH.n/\∃(p45:Option Addr),ld iH (ae vH.a ((kJ:Int).toNat*1))=some (.pointer p45)/\
 aS (dK p45) (aS (dK p45) (∃(g8 qF yL HN vh nE mJ iT:Int)(b54:Bool),af iH.drew (ae p45 0) 0 [g8,qF,yL,HN,vh,nE,mJ,iT,b54]/\
 aS (dK p45) (aS (dK p45) (∃(mz tk:Int)(Zl:Bool),af iH.drew (ae p45 9) 0 [mz,tk,Zl]/\
 ah 47 #[a0] iH.drew (λe Cj=>∃(v59:Value),e=v59/\
 af Cj (ae p45 9) 0 [mz,tk,Zl]/\af Cj (ae p45 0) 0 [g8,qF,yL,HN,vh,nE,mJ,iT,b54]/\ah 116 #[.agg #[g8,qF,yL,HN,vh,nE,mJ,iT,b54],v59,.agg #[mz,tk,Zl]] Cj (λe nN=>∃(vU ov tY AR rJ nR pB oN:Int)(b69:Bool),e=Value.agg #[vU,ov,tY,AR,rJ,nR,pB,oN,b69]/\
 Aw nN #[vU,ov,tY,AR,rJ,nR,pB,oN,b69] 70 λoA=>
 ba 72 9 oA s42 1 [vU,ov,tY,AR,rJ,nR,pB,oN,b69]/\∀(s71:Sl)(w72:World),aX 70 9 oA s42 1 [vU,ov,tY,AR,rJ,nR,pB,oN,b69] s71 w72->Kp nN oA w72/\
 ∃n44,n44<n39/\I38 n44 ((ak (kJ+1))) s71 w72)))))))
 (ah 47 #[a0] iH (λe Qp=>∃(v74:Value),e=v74/\
 ah 117 #[v74,s42] Qp (λe sN=>∃(Iy:Sl),e=Iy/\
 ∃I77:Nat->Int->World->Prop,
 (∃n78,I77 n78 (0) sN)/\
 ∀(n78:Nat)(auF:Nat->Value)(yC:Int)(we:World),I77 n78 yC we->
 Br (decide (yC<((Iy.n:Nat):Int)))
 (ez Iy.a yC Iy.n/\∃(v5 B8 B9 Q5 ve x88 VE x90:Int)(b91:Bool),af we (ae Iy.a ((yC:Int).toNat*9)) 0 [v5,B8,B9,Q5,ve,x88,VE,x90,b91]/\
 Aw we #[aa,aa,aa,aa,aa,aa,aa,aa,false] 70 λw92=>
 Sw w92 we #[v5,B8,B9,Q5,ve,x88,VE,x90,b91] λIM=>
 ez vH.a yC vH.n/\∃(p94:Option Addr),ld IM.drew (ae vH.a ((yC:Int).toNat*1))=some (.pointer p94)/\
 aS (dK p94) (aS (dK p94) ((((ae p94 0)).isSome=true/\Wr IM.drew (ae p94 0) 9)/\bt (ae p94 0)≠some we.heap.size/\(∀w95,w95=aK IM.drew (ae p94 0) [v5,B8,B9,Q5,ve,x88,VE,x90,b91]->
 ∃n82,n82<n78/\I77 n82 ((ak (yC+1))) w95))))
 (∃(p96:Option Addr),ld we (ae (some a0) 0)=some (.pointer p96)/\
 ah 118 #[p96,.func (.func 66) #[a0] #[]] we (λe w97=>e=ug/\
 ∃(p98:Option Addr),ld w97 (ae (some a0) 0)=some (.pointer p98)/\
 ah 119 #[p98] w97 (λe Q6=>∃(sQ:Int),e=sQ/\
 R sQ Q6)))))))):ah 64 #[a0] w R:=
 cq ⟨[(15,⟨[(59,.int .i64)],[],[]⟩),(10,⟨[(35,.int .i64),(4,.slice)],[],[]⟩),(4,⟨[(15,.int .i64),(3,.slice)],[],[]⟩)],[],[]⟩ Tryz.func64 h
def eT(v:Ce):Ce:=Ni (λ_ n=>dz n) v
def X4(v:Ce)(w:World):ah 195 #[eg v] w λe w'=>e=(eg (eT v))/\Ext w w':=by
 apply afy.vc;intro w0 e0 w1 e1;have x0:=aT e0;have z0:=zA e0;have x1:=aT e1;have z1:=zA e1;refine (vC (λ_ n=>dz n) v (.func (.func 256) #[] #[]) w1 λw' x' i x _ _=>c9 (by kernel_rfl) rfl (W2.vc ((gK x w').mono ?_))).mono ?_
 ·rintro e w2 ⟨rfl,rfl⟩;exact ⟨_,rfl,rfl,Ext.cu _⟩
 rintro e w2 ⟨rfl,x2⟩;have z2:=x2.size;exact ⟨_,_,_,rfl,x2.heap ab,x2.heap ab,λw6 e6=>⟨rfl,(x0.tr (x1.tr x2)).ag e6 ab⟩⟩
def AA(n:Int):Int:=min (max n (-1048576)) 1048576
def aka(n:Int):(if 1048576<(if (-1048576)>n then (-1048576) else n) then 1048576 else (if (-1048576)>n then (-1048576) else n))=AA n:=by
 unfold AA
 repeat' split
 all_goals omega
def yp(n:Int)(w:World):ah 257 #[n] w λe w'=>e=Value.int .i64 (AA n)/\w'=w:=by apply W3.vc;exact ⟨by rw [aka],rfl⟩
def lp(v:Ce):Ce:=(AA v.1,AA v.2.1,AA v.2.2)
def X5(v:Ce)(w:World):ah 196 #[eg v] w λe w'=>e=(eg (lp v))/\Ext w w':=by apply afz.vc;intro w0 e0 w1 e1;have x0:=aT e0;have z0:=zA e0;have r0:Row w0 w (dO v) ic:=Row.nw e0;have x1:Ext w0 w1.drew:=(aT e1).drew;have r1:=r0.ext x1;refine (yp v.1 w1.drew).mono ?_;rintro e w2 ⟨rfl,rfl⟩;refine ⟨_,rfl,rfl,rfl,nJ r1 rfl,nJ r1 rfl,(yp v.2.1 w1.drew).mono ?_⟩;rintro e w4 ⟨rfl,rfl⟩;refine ⟨_,rfl,rfl,rfl,nJ r1 rfl,(yp v.2.2 w1.drew).mono ?_⟩;rintro e w6 ⟨rfl,rfl⟩;exact ⟨_,rfl,rfl,rfl,λw8 e8=>⟨rfl,(x0.tr x1).ag e8 ab⟩⟩
abbrev Sd:=Int × Int
def Px(a b:Sd):Bool:=if a.2=0\/b.2=0 then decide (0<a.2) else decide (ak (a.1*b.2)<ak (b.1*a.2))
def Py(a b:Sd)(w:World):ah 200 #[.agg #[a.1,a.2],.agg #[b.1,b.2]] w λe w'=>e=Value.bool (Px a b)/\Ext w w':=by
 apply Si.vc;intro w0 e0 w1 e1;have x1:Ext w w1:=(aT e0).bg e1;unfold Px;refine Br.mk (λh=>⟨?_,x1⟩) (λh=>Br.mk (λh2=>⟨?_,x1⟩) (λh2=>⟨?_,x1⟩))
 ·rw [if_pos (Or.inl (by simpa using h))]
 ·rw [if_pos (Or.inr (by simpa using h2))]
 ·rw [if_neg (by
   have h1:=dn h;have h3:=dn h2;rintro (h|h)
   ·exact h1 h
   ·exact h3 h)]
def sL(a b r:Int):Bool:=decide (ak (a-b)<=r) && decide (ak (b-a)<=r)
def yq(a b r:Int){g:Nat}{τ:TypeId}{w:World}(hr:Row w g [r] τ):ah 259 #[a,b,g] w λe w'=>e=Value.bool (sL a b r)/\w'=w:=by apply Lg.vc;unfold sL;refine ⟨r,hr.at 0 rfl,Br.mk (λh=>⟨r,hr.at 0 rfl,by rw [h,pW],rfl⟩) (λh=>⟨by rw [h,CP],rfl⟩)⟩
def mD(a b:Ce)(r:Int):Bool:=sL a.1 b.1 r &&(sL a.2.1 b.2.1 r && sL a.2.2 b.2.2 r)
def LD(a b:Ce)(r:Int)(w:World):ah 199 #[eg a,eg b,r] w λe w'=>e=Value.bool (mD a b r)/\Ext w w':=by apply Sj.vc;intro w0 e0 w1 e1 w2 e2;have x2:Ext w w2:=((aT e0).bg e1).bg e2;have r2:∃τ,Row w2 w1 [r] τ:=⟨_,by rw [e2];exact Row.new w1 [_] _⟩;obtain ⟨τ,r2⟩:=r2;unfold mD;refine (yq a.1 b.1 r r2).mono ?_;rintro e w3 ⟨rfl,rfl⟩;refine ⟨_,rfl,rfl,rfl,Br.mk (λh=>(yq a.2.1 b.2.1 r r2).mono ?_) (λh=>⟨by rw [h,CP],x2⟩)⟩;rintro e w5 ⟨rfl,rfl⟩;refine ⟨_,rfl,rfl,rfl,Br.mk (λh2=>(yq a.2.2 b.2.2 r r2).mono ?_) (λh2=>⟨by rw [h,h2];rfl,x2⟩)⟩;rintro e w7 ⟨rfl,rfl⟩;exact ⟨_,rfl,rfl,rfl,by rw [h,h2,pW,pW],x2⟩
def ab8(a b:Int)(ha:0<=a/\a<=1000000000)(hb:0<b/\b<=1048576)(w:World):ah 201 #[a,b] w λe w'=>e=Value.tuple #[.int .i64 (a*65536 / b),aa]/\Ext w w':=by
 apply W5.vc;refine (vu a w).mono ?_;rintro e w0 ⟨rfl,rfl⟩;have ca:dz a=a:=fO ab;have cb:dz b=b:=fO ab;rw [ca];refine ⟨_,_,rfl,(vu b w0).mono ?_⟩;rintro e w3 ⟨rfl,rfl⟩;rw [cb];have aw7:(2 ^(min (16:Int).toNat 64):Int)=65536:=by decide
 have ma:max a (-a)=a:=by omega
 have mb:max b (-b)=b:=by omega
 rw [ma,mb];have na:decide (a<0)=false:=by simpa using ha.1
 have nb:decide (b<0)=false:=by simpa using Int.le_of_lt hb.1
 refine ⟨_,_,rfl,Br.mk (λh=>absurd (by simpa using h:b=0) ab) (λh=> ?_)⟩;have L1:∀q ∈ L8 b,q:=λq hq=>by
  unfold L8 at hq;rw [if_neg ab] at hq
  cases hq
 rw [aw7,xC (n:=a*65536) ab,na,nb];have hd:Int.tdiv (a*65536) b=a*65536 / b:=qT ab;have h1:0<=a*65536 / b:=Int.ediv_nonneg ab ab;have h2:a*65536 / b<=a*65536:=Int.ediv_le_self _ ab;rw [hd,xC (n:=a*65536 / b) ab];refine bD.2 ⟨L1,bD.2 ⟨L1,(FK (a*65536 / b) ab _ _ w3.drew).mono ?_⟩⟩;rintro e w6 ⟨rfl,x6⟩;exact ⟨_,rfl,rfl,(Ext.dr _).tr x6⟩
def afM{w:World}{g:Nat}{cs:LV}{E:TypeId}(hr:Row w g cs E){j:Nat}{a b:Value}(hj:j+2<=cs.length)(ha:a.oneCell'=true)(hb:b.oneCell'=true):
  Wr w (ae (aB g) j) 2/\∀w',w'=Vc.aK w (ae (aB g) j) [a,b]->Row w' g ((cs.set j a).set (j+1) b) E/\Mod (λi=>i=g) w w':=by
 rw [bo,eD];have h1:One [a,b]:=by
  intro u hu;simp at hu;rcases hu with rfl|rfl
  ·exact ha
  ·exact hb
 refine ⟨hr.wr hj,λw' e=> ?_⟩;rw [hr.aK (by simpa using hj) h1] at e;subst e;exact ⟨hr.set _,rfl,rfl,rfl,by rw [setRow_size];exact aD _,λi _ hn=>setRow_other _ _ _ _ hn⟩
abbrev S3:=Sd × Sd × Sd
abbrev DI(s:S3):LV:=[.int .i64 s.1.1,.int .i64 s.1.2,.int .i64 s.2.1.1,.int .i64 s.2.1.2,.int .i64 s.2.2.1,.int .i64 s.2.2.2]
abbrev QU:TypeId:=268
def ab7(s:S3):One (DI s):=by intro v hv;simp at hv;rcases hv with rfl|rfl|rfl|rfl|rfl|rfl<;>rfl
def yK(f d:Ce)(i:Int):Sd:=if bZ d i>0 then (ak (65536-uA (bZ f i)),bZ d i) else (uA (bZ f i),ak (0-bZ d i))
def XX(f d:Ce):Nat->S3
 |0=>((0,0),(0,0),(0,0))
 |1=>(yK f d 0,(0,0),(0,0))
 |2=>(yK f d 0,yK f d 1,(0,0))
 |_=>(yK f d 0,yK f d 1,yK f d 2)
def Td(f d:Ce)(w:World):ah 198 #[eg f,eg d] w λe w'=>e=Value.agg (DI (XX f d 3)).toArray/\Ext w w':=by
 apply W4.vc;intro w0 e0 w1 e1 w2 e2 w3 e3;have x0:=aT e0;have z0:=zA e0;have x1:=aT e1;have z1:=zA e1;have r1:Row w1 w0 (dO d) ic:=Row.nw e1;have x2:=aT e2;have z2:=zA e2;have r2:Row w2 w1 (DI ((0,0),(0,0),(0,0))) QU:=Row.nw e2;have x3:=aT e3;have z3:=zA e3;have r3:Row w3 w2 (DI ((0,0),(0,0),(0,0))) QU:=Row.nw e3;have B5:=x0.tr (x1.tr (x2.tr x3));refine ⟨λn x wr=>∃k:Nat,x=k/\k+n=3/\Row wr w2 (DI (XX f d k)) QU/\Row wr w1 (DI ((0,0),(0,0),(0,0))) QU/\Row wr w0 (dO d) ic/\Ext w wr,⟨3,rfl,rfl,0,rfl,rfl,r3,r2.ext x3,r1.ext (x2.tr x3),B5⟩,?_⟩;rintro n us x w8 ⟨k,rfl,hk,rl,ro,rd,xr⟩;have zl:=rl.lt;apply Br.mk<;>intro hc
 ·have hc:=dn hc;have vD:k=0\/k=1\/k=2:=by omega
  have wk:=nY (j:=k);have xd:=Ext.dr w8;have zd:=mN w8;refine (dt f k w8.drew).mono ?_;rintro e bN ⟨rfl,bk⟩;have Y6:=bk.size;refine ⟨_,rfl,bk.heap ab,bk.heap ab,Lo.wv (rd.ext (xd.tr bk)),(dt d k bN).mono ?_⟩;rintro e cU ⟨rfl,bS⟩;have z12:=bS.size;have y12:=xd.tr (bk.tr bS);refine ⟨_,rfl,bS.heap ab,bS.heap ab,(Bp (bZ f k) cU).mono ?_⟩;rintro e bJ ⟨rfl,rfl⟩;obtain ⟨p1,p2⟩:=afM (rl.ext y12) (j:=(k:Int).toNat*2) (a:=.int .i64 (uA (bZ f k))) (b:=.int .i64 (ak (0-bZ d k))) (by show _<=6;omega) rfl rfl;refine ⟨_,rfl,rfl,rfl,by omega,by omega,⟨rfl,p1⟩,kM ab,kM ab,λcP HM=> ?_⟩;obtain ⟨q1,q2⟩:=p2 cP HM;have z16:=q2.size;have ap0:Ext w cP:=q2.ext (xr.tr y12) λi hi=>by omega
  have alU:=(ro.ext y12).same (q2.same _ (ro.ext y12).lt ab);have L4:=(rd.ext y12).same (q2.same _ (rd.ext y12).lt ab);refine Br.mk (λhq=>(Bp (bZ f k) cP).mono ?_) (λhq=>⟨n-1,by omega,rfl,rfl,k+1,wk,by omega,?_,alU,L4,ap0⟩)
  ·rintro e cJ ⟨rfl,rfl⟩;obtain ⟨p3,p4⟩:=afM q1 (j:=(k:Int).toNat*2) (a:=.int .i64 (ak (65536-uA (bZ f k)))) (b:=.int .i64 (bZ d k)) (by rw [jU,jU];show _<=6;omega) rfl rfl;refine ⟨_,rfl,rfl,rfl,by omega,by omega,⟨rfl,p3⟩,kM ab,kM ab,λgn e19=> ?_⟩;obtain ⟨q3,q4⟩:=p4 gn e19;have hq:=dn hq;have hs:yK f d k=(ak (65536-uA (bZ f k)),bZ d k):=by unfold yK;rw [if_pos hq]
   refine ⟨n-1,by omega,rfl,rfl,k+1,wk,by omega,?_,alU.same (q4.same _ alU.lt ab),L4.same (q4.same _ L4.lt ab),q4.ext ap0 λi hi=>by omega⟩;rcases vD with rfl|rfl|rfl
   ·have hs:yK f d 0=_:=hs;show Row gn _ (DI (yK f d 0,(0,0),(0,0))) QU;rw [hs];exact q3
   ·have hs:yK f d 1=_:=hs;show Row gn _ (DI (yK f d 0,yK f d 1,(0,0))) QU;rw [hs];exact q3
   ·have hs:yK f d 2=_:=hs;show Row gn _ (DI (yK f d 0,yK f d 1,yK f d 2)) QU;rw [hs];exact q3
  ·have hq:=dn hq;have hs:yK f d k=(uA (bZ f k),ak (0-bZ d k)):=by unfold yK;rw [if_neg hq]
   rcases vD with rfl|rfl|rfl
   ·have hs:yK f d 0=_:=hs;show Row cP _ (DI (yK f d 0,(0,0),(0,0))) QU;rw [hs];exact q1
   ·have hs:yK f d 1=_:=hs;show Row cP _ (DI (yK f d 0,yK f d 1,(0,0))) QU;rw [hs];exact q1
   ·have hs:yK f d 2=_:=hs;show Row cP _ (DI (yK f d 0,yK f d 1,yK f d 2)) QU;rw [hs];exact q1
 ·have hc:=dn hc;have vD:k=3:=by omega
  subst vD;refine ⟨_,_,_,_,_,_,Lo.wv rl,⟨rfl,ro.wr cj⟩,pJ ab,pJ ab,λfb yI=> ?_⟩;rw [ro.aK (vs:=DI (XX f d 3)) cj (ab7 (XX f d 3)),ed cj] at yI;have r26:Row fb w1 (DI (XX f d 3)) QU:=ro.st yI;exact ⟨_,_,_,_,_,_,Lo.wv r26,rfl,xr.ag yI ab⟩
def jM(s:S3):Nat->Sd
 |0=>s.1
 |1=>s.2.1
 |_=>s.2.2
def J0(s:S3)(i:Nat)(x:Sd):S3:=
 match i with
 |0=>(x,s.2.1,s.2.2)
 |1=>(s.1,x,s.2.2)
 |_=>(s.1,s.2.1,x)
def fR(s:S3):Nat->Nat
 |0=>0
 |k+1=>if Px (jM s k) (jM s (fR s k))=true then k else fR s k
def LB(s:S3):∀k:Nat,fR s k<k\/fR s k=0
 |0=> .inr rfl
 |k+1=>by
  unfold fR
  have:=LB s k
  split<;>omega
def at3(s:S3):fR s 3=0\/fR s 3=1\/fR s 3=2:=by have:=LB s 3;omega
abbrev Hi:=Ce × Int × Int
def nbN(c:Ce):Nat->Ce
 |0=>(c.1-1,c.2.1,c.2.2)
 |1=>(c.1+1,c.2.1,c.2.2)
 |2=>(c.1,c.2.1-1,c.2.2)
 |3=>(c.1,c.2.1+1,c.2.2)
 |4=>(c.1,c.2.1,c.2.2-1)
 |_=>(c.1,c.2.1,c.2.2+1)
def gF(d:Ce)(s:S3)(h:Hi):Option (S3 × Hi):=
 if (jM s (fR s 3)).2=0 then none
 else some (J0 s (fR s 3) ((jM s (fR s 3)).1+65536,(jM s (fR s 3)).2),(nbN h.1 (if bZ d (fR s 3)>0 then 2*fR s 3+1 else 2*fR s 3),(if bZ d (fR s 3)>0 then 2*(fR s 3:Int) else 2*(fR s 3:Int)+1),(jM s (fR s 3)).1*65536 /(jM s (fR s 3)).2))
def goK(d c0:Ce)(r:Int):Nat->S3->Hi->List Hi
 |0,_,_=> []
 |n+1,s,h=>if mD c0 h.1 r=true then h::(match gF d s h with|none=> []|some q=>goK d c0 r n q.1 q.2) else []
def Ao(x:Int):Int:=max x (-x)
def LC(k:Nat)(x:Sd)(d o:Int):Prop:=x.2=Ao d/\(0<=x.1/\x.1<=65536*(k+1))/\(0<d->0<=o)/\(d<=0->o<=0)
def Aq(d c0:Ce)(k:Nat)(s:S3)(c:Ce):Prop:=
 (LC k s.1 d.1 (c.1-c0.1)/\LC k s.2.1 d.2.1 (c.2.1-c0.2.1)/\LC k s.2.2 d.2.2 (c.2.2-c0.2.2))/\Ao (c.1-c0.1)+Ao (c.2.1-c0.2.1)+Ao (c.2.2-c0.2.2)=k
def ab4{d c0:Ce}{k:Nat}{s:S3}{h:Hi}(hr:Aq d c0 k s h.1){q:S3 × Hi}(hq:gF d s h=some q):Aq d c0 (k+1) q.1 q.2.1:=by
 obtain ⟨⟨⟨h1,h2,h3,h4⟩,⟨g1,g2,g3,g4⟩,⟨f1,f2,f3,f4⟩⟩,hs⟩:=hr;obtain ⟨⟨s1,s2⟩,⟨t1,t2⟩,⟨u1,u2⟩⟩:=s;obtain ⟨⟨cx,cy,cz⟩,face,time⟩:=h;unfold gF at hq;split at hq
 ·cases hq
 rename_i gy;injection hq with hq;subst hq;rcases at3 ((s1,s2),(t1,t2),(u1,u2)) with e|e|e
 ·rw [e] at gy ⊢;have a0:bZ d ((0:Nat):Int)=d.1:=rfl;rw [a0];simp only [jM,J0] at gy h1 h2 h3 h4 g1 g2 g3 g4 f1 f2 f3 f4 hs ⊢;unfold Aq LC Ao;unfold Ao at h1 g1 f1 hs;split
  ·show (_/\_)/\_;simp only [nbN];omega
  ·show (_/\_)/\_;simp only [nbN];omega
 ·rw [e] at gy ⊢;have a0:bZ d ((1:Nat):Int)=d.2.1:=rfl;rw [a0];simp only [jM,J0] at gy h1 h2 h3 h4 g1 g2 g3 g4 f1 f2 f3 f4 hs ⊢;unfold Aq LC Ao;unfold Ao at h1 g1 f1 hs;split
  ·simp only [nbN];omega
  ·simp only [nbN];omega
 ·rw [e] at gy ⊢;have a0:bZ d ((2:Nat):Int)=d.2.2:=rfl;rw [a0];simp only [jM,J0] at gy h1 h2 h3 h4 g1 g2 g3 g4 f1 f2 f3 f4 hs ⊢;unfold Aq LC Ao;unfold Ao at h1 g1 f1 hs;split
  ·simp only [nbN];omega
  ·simp only [nbN];omega
def XW{d c0 c:Ce}{k:Nat}{s:S3}{r:Int}(hr:Aq d c0 k s c)(h0:(-2000000000<=c0.1/\c0.1<=2000000000)/\(-2000000000<=c0.2.1/\c0.2.1<=2000000000)/\-2000000000<=c0.2.2/\c0.2.2<=2000000000)(hk:k<=1000)(hw:mD c0 c r=true):(k:Int)<=3*r:=by obtain ⟨-,hs⟩:=hr;unfold Ao at hs;unfold mD sL at hw;simp only [fy,cX] at hw;rw [wI,wI,wI,wI,wI,wI] at hw;omega
abbrev hiV(h:Hi):Value:=.agg #[h.1.1,h.1.2.1,h.1.2.2,aa,h.2.1,h.2.2]
def mi(f d:Ce)(r:Int):List Hi:=goK d (bw f) r (3*r.toNat+2) (XX f d 3) (bw f,-1,0)
abbrev trX(f d:Ce)(r:Int):List (LV):=(mi f d r).map λh=> [hiV h]
abbrev anf(g:Nat):Value:=.func (.func 197) #[] #[g,.pointer (some ⟨g+1,0,none⟩),.pointer (some ⟨g+2,0,none⟩)]
def tU{w:World}{g:Nat}{s:S3}{E:TypeId}(hr:Row w g (DI s) E){a:Nat}(ha:a=0\/a=1\/a=2):af w (ae (aB g) ((a:Int).toNat*2)) 0 [.int .i64 (jM s a).1,.int .i64 (jM s a).2]:=by
 rw [bo,eD];rcases ha with rfl|rfl|rfl
 all_goals
  refine hr.cg λj hj=> ?_
  match j,hj with
  |0,_=>rfl
  |1,_=>rfl
def ldA{w:World}{g:Nat}{s:S3}{E:TypeId}(hr:Row w g (DI s) E){a:Nat}(ha:a=0\/a=1\/a=2):Vc.ld w (ae (ae (aB g) ((a:Int).toNat*2)) 0)=some (.int .i64 (jM s a).1):=by rw [bo,bo,hr.ld];rcases ha with rfl|rfl|rfl<;>rfl
def ldB{w:World}{g:Nat}{s:S3}{E:TypeId}(hr:Row w g (DI s) E){a:Nat}(ha:a=0\/a=1\/a=2):Vc.ld w (ae (ae (aB g) ((a:Int).toNat*2)) 1)=some (.int .i64 (jM s a).2):=by rw [bo,bo,hr.ld];rcases ha with rfl|rfl|rfl<;>rfl
def asE{w:World}{g:Nat}{s:S3}{E:TypeId}(hr:Row w g (DI s) E){a:Nat}(ha:a=0\/a=1\/a=2)(x:Int):
  Wr w (ae (ae (aB g) ((a:Int).toNat*2)) 0) 1/\∀w',w'=Vc.aK w (ae (ae (aB g) ((a:Int).toNat*2)) 0) [x]->Row w' g (DI (J0 s a (x,(jM s a).2))) E/\Mod (λi=>i=g) w w':=by
 have e:ae (ae (aB g) ((a:Int).toNat*2)) 0=ae (aB g) ((a:Int).toNat*2):=by rw [bo,bo];rfl
 rw [e];obtain ⟨p1,p2⟩:=hr.jm (j:=(a:Int).toNat*2) (v:=.int .i64 x) (by show _<6;omega) rfl;refine ⟨p1,λw' e'=> ?_⟩;obtain ⟨q1,q2⟩:=p2 w' e';refine ⟨?_,q2⟩;rcases ha with rfl|rfl|rfl<;>exact q1
def qe{w w':World}{g:Nat}{c:Array Value}(e:w'=w.setRow g c):Mod (λi=>i=g) w w':=by subst e;exact ⟨rfl,rfl,rfl,by rw [setRow_size];exact aD _,λi _ hn=>setRow_other _ _ _ _ hn⟩
def Vi(c:Ce){j:Nat}(hj:j<6):((Dw c).drop ((j:Int).toNat*3)).take 3=dO (nbN c j):=by
 have:j=0\/j=1\/j=2\/j=3\/j=4\/j=5:=by omega
 rcases this with rfl|rfl|rfl|rfl|rfl|rfl<;>rfl
def axd(d:Ce):bZ d ((0:Nat):Int)=d.1/\bZ d ((1:Nat):Int)=d.2.1/\bZ d ((2:Nat):Int)=d.2.2:=⟨rfl,rfl,rfl⟩
def ab6{d c0 c:Ce}{k a:Nat}{s:S3}(hr:Aq d c0 k s c)(ha:a=0\/a=1\/a=2):LC k (jM s a) (bZ d a) (bZ c a-bZ c0 a):=by
 obtain ⟨⟨h1,h2,h3⟩,-⟩:=hr;rcases ha with rfl|rfl|rfl
 ·exact h1
 ·exact h2
 ·exact h3
def XY(f d:Ce)(hd:∀i:Nat,i<3-> -1048576<=bZ d i/\bZ d i<=1048576):Aq d (bw f) 0 (XX f d 3) (bw f):=by
 have h0:=hd 0 aG;have h1:=hd 1 aG;have h2:=hd 2 aG;obtain ⟨a0,a1,a2⟩:=axd d;rw [a0] at h0;rw [a1] at h1;rw [a2] at h2;have key:∀(i:Int)(q:Int),bZ d i=q-> -1048576<=q/\q<=1048576->LC 0 (yK f d i) q 0:=λi q hq hb=>by
  have hf:0<=uA (bZ f i)/\uA (bZ f i)<65536:=by unfold uA;omega
  unfold yK LC Ao;rw [hq];split
  ·rw [wI];simp only;omega
  ·rw [wI];simp only;omega
 refine ⟨⟨?_,?_,?_⟩,?_⟩
 ·rw [Int.sub_self];exact key 0 d.1 a0 h0
 ·rw [Int.sub_self];exact key 1 d.2.1 a1 h1
 ·rw [Int.sub_self];exact key 2 d.2.2 a2 h2
 ·rw [Int.sub_self,Int.sub_self,Int.sub_self];rfl
set_option maxHeartbeats 2000000 in
def Tc(f d:Ce)(r:Int)(hf:(-1900000000<=(bw f).1/\(bw f).1<=1900000000)/\(-1900000000<=(bw f).2.1/\(bw f).2.1<=1900000000)/\-1900000000<=(bw f).2.2/\(bw f).2.2<=1900000000)(hd:∀i:Nat,i<3-> -1048576<=bZ d i/\bZ d i<=1048576)(hr:0<=r/\r<=64)
  (g:Nat)(W0:World)(h0:Row W0 g (dO f) ic)(h1:Row W0 (g+1) (dO d) ic)(h2:Row W0 (g+2) [r] 3):
  Iter Tryz.prog (anf g) W0 (λi=>i=g\/i=g+1\/i=g+2) (trX f d r):=by
 refine ⟨⟨_,_,_,rfl,by kernel_rfl⟩,?_⟩;intro y B J Jx F0 W hB hsJ hsX yt hRd hround hJ0;refine c9 (by kernel_rfl) (by rfl) ?_;apply N8.vc;have q0:=h0.same (hRd g (.inl rfl)).2.2;have q1:=h1.same (hRd (g+1) (.inr (.inl rfl))).2.2;have q2:=h2.same (hRd (g+2) (.inr (.inr rfl))).2.2;refine ⟨_,_,_,Lo.wv q0,_,_,_,Lo.wv q1,(Td f d W).mono ?_⟩;rintro e w6 ⟨rfl,x6⟩;have z6:=x6.size;refine ⟨_,_,_,_,_,_,rfl,λbG DT=> ?_⟩;have z13:=zA DT;have r13:Row bG w6 (DI ((0,0),(0,0),(0,0))) QU:=Row.nw DT;refine ⟨⟨rfl,r13.wr cj⟩,λbJ vE=> ?_⟩;rw [r13.aK (vs:=DI (XX f d 3)) cj (ab7 (XX f d 3)),ed cj] at vE;have r14:Row bJ w6 (DI (XX f d 3)) QU:=r13.st vE;have Y9:=zR vE;have bW:Ext w6 bJ:=(aT DT).ag vE (aD _);refine ⟨_,_,_,Lo.wv (q0.ext (x6.tr bW)),(zy f bJ).mono ?_⟩;rintro e du ⟨rfl,cA⟩;have z18:=cA.size;refine ⟨_,_,_,rfl,λey HC eR VK gC Iu cV tV=> ?_⟩;have z22:=zA HC;have z23:=zR VK;have z24:=zA Iu;have z25:=zR tV;have dT:Ext du cV:=(((aT HC).ag VK (aD _)).bg Iu).ag tV ab;have xW:=x6.tr (bW.tr (cA.tr dT));obtain ⟨K,hK⟩:∃K:Nat->Prop,K=λi=>i=g\/i=g+1\/i=g+2\/i=w6.heap.size\/i=du.heap.size\/i=eR.heap.size:=⟨_,rfl⟩
 obtain ⟨P,hP⟩:∃P:Nat->S3->World->Prop,P=λk s wr=>(∃F,J k F wr/\∀i,K i->¬F i/\i<wr.heap.size)/\(Row wr g (dO f) ic/\Row wr (g+1) (dO d) ic/\Row wr (g+2) [r] 3)/\Row wr w6 (DI s) QU/\cV.heap.size<=wr:=⟨_,rfl⟩
 have ext:∀{k:Nat} {s:S3} {wr wr':World},P k s wr->Ext wr wr'->P k s wr':=λ{k s wr wr'} h x=>by rw [hP] at h ⊢;obtain ⟨⟨F,hJ,hk⟩,⟨a0,a1,a2⟩,a3,a4⟩:=h;exact ⟨⟨F,hsJ _ _ _ _ hJ (Below.mono x ab) λi hi=>x.heap (yt _ _ _ hJ i hi),λi hi=>⟨(hk i hi).1,kB (hk i hi).2 x.size⟩⟩,⟨a0.ext x,a1.ext x,a2.ext x⟩,a3.ext x,gD a4 x.size⟩
 have glt:g+2<W.heap.size:=q2.lt;have qv:∀{k:Nat} {s s':S3} {wr wr':World} {b:Nat},P k s wr->Mod (λi=>i=b) wr wr'->(b=w6.heap.size\/b=du.heap.size)->Row wr' w6 (DI s') QU->P k s' wr':=λ{k s s' wr wr' b} h hm hb dq=>by rw [hP] at h ⊢;obtain ⟨⟨F,hJ,hk⟩,⟨a0,a1,a2⟩,a3,a4⟩:=h;have hkb:¬F b:=(hk b (by rw [hK];rcases hb with rfl|rfl<;>simp)).1;refine ⟨⟨F,hsJ _ _ _ _ hJ (hm.below ab λi hi=>by rcases hb with rfl|rfl<;>omega) λi hi=>hm.same i (yt _ _ _ hJ i hi) λq=>hkb (by rw [<-q];exact hi),λi hi=>⟨(hk i hi).1,kB (hk i hi).2 hm.size⟩⟩,⟨a0.same (hm.same _ a0.lt ab),a1.same (hm.same _ a1.lt ab),a2.same (hm.same _ a2.lt ab)⟩,dq,gD a4 hm.size⟩
 have init:P 0 (XX f d 3) cV:=by
  rw [hP];refine ⟨⟨F0,hsJ _ _ _ _ hJ0 (Below.mono xW ab) λi hi=>xW.heap (yt _ _ _ hJ0 i hi),λi hi=> ?_⟩,⟨q0.ext xW,q1.ext xW,q2.ext xW⟩,r14.ext (cA.tr dT),aD _⟩;rw [hK] at hi;have hF:∀i,F0 i->i<W.heap.size:=λi hi=>yt _ _ _ hJ0 i hi
  rcases hi with hi|hi|hi|hi|hi|hi
  ·exact ⟨(hRd i (.inl hi)).1,by omega⟩
  ·exact ⟨(hRd i (.inr (.inl hi))).1,by omega⟩
  ·exact ⟨(hRd i (.inr (.inr hi))).1,by omega⟩
  ·exact ⟨λq=>by have:=hF i q;omega,by omega⟩
  ·exact ⟨λq=>by have:=hF i q;omega,by omega⟩
  ·exact ⟨λq=>by have:=hF i q;omega,by omega⟩
 have round:∀{k:Nat} {s:S3} {wr:World} {x:LV},(trX f d r)[k]? =some x->P k s wr->cL Tryz.prog y x wr λe w'=>((e=true/\P (k+1) s w')\/(e=false/\∃F',Jx () F' w'))/\w'.heap[du.heap.size]? =wr.heap[du.heap.size]?/\w'.heap[eR.heap.size]? =wr.heap[eR.heap.size]? :=λ{k s wr x} hx h=>by
  rw [hP] at h ⊢;obtain ⟨⟨F,hJ,hk⟩,⟨a0,a1,a2⟩,a3,a4⟩:=h;have kk:∀i,(i=g\/i=g+1\/i=g+2\/i=w6.heap.size\/i=du.heap.size\/i=eR.heap.size)->K i:=λi hi=>by rw [hK];exact hi
  refine dG (hround _ _ _ _ hx hJ) ?_;rintro e w' (⟨rfl,F2,Ul,g7⟩|⟨rfl,F2,Ul,g7⟩)
  ·have same:∀i,K i->w'.heap[i]? =wr.heap[i]? :=λi hi=>g7.same i (hk i hi).2 (hk i hi).1
   refine ⟨.inl ⟨rfl,⟨F2,Ul,λi hi=>⟨λhf=> ?_,kB (hk i hi).2 g7.size⟩⟩,⟨a0.same (same _ (kk _ cj)),a1.same (same _ (kk _ cj)),a2.same (same _ (kk _ cj))⟩,a3.same (same _ (kk _ cj)),gD a4 g7.size⟩,same _ (kk _ cj),same _ (kk _ cj)⟩;rcases g7.sub i hf with hf|hf
   ·exact (hk i hi).1 hf
   ·have:=(hk i hi).2;omega
  ·have same:∀i,K i->w'.heap[i]? =wr.heap[i]? :=λi hi=>g7.same i (hk i hi).2 (hk i hi).1
   exact ⟨.inr ⟨rfl,F2,Ul⟩,same _ (kk _ cj),same _ (kk _ cj)⟩
 have fin:∀{s:S3} {wr:World},P (trX f d r).length s wr->∃F',J (trX f d r).length F' wr:=λh=>by rw [hP] at h;obtain ⟨⟨F,hJ,-⟩,-⟩:=h;exact ⟨F,hJ⟩
 have rowL:∀{k:Nat} {s:S3} {wr:World},P k s wr->Row wr w6 (DI s) QU:=λh=>by rw [hP] at h;exact h.2.2.1
 have rowD:∀{k:Nat} {s:S3} {wr:World},P k s wr->Row wr (g+1) (dO d) ic:=λh=>by rw [hP] at h;exact h.2.1.2.1
 have rowR:∀{k:Nat} {s:S3} {wr:World},P k s wr->Row wr (g+2) [r] 3:=λh=>by rw [hP] at h;exact h.2.1.2.2
 have hz:∀{k:Nat} {s:S3} {wr:World},P k s wr->cV.heap.size<=wr:=λh=>by rw [hP] at h;exact h.2.2.2
 have hxs:trX f d r=(goK d (bw f) r (3*r.toNat+2) (XX f d 3) (bw f,-1,0)).map λh=> [hiV h]:=rfl
 generalize trX f d r=xs at*;have hbegin:=XY f d hd;generalize QY:bw f=c0 at*;refine ⟨λn a b c z fc tm wr=>∃(k:Nat)(s:S3),P k s wr/\k+n=3*r.toNat+2/\Aq d c0 k s (a,b,c)/\z=0/\∃pre:List (LV),pre.length=k/\xs=pre++(goK d c0 r n s ((a,b,c),fc,tm)).map λh=> [hiV h],⟨3*r.toNat+2,rfl,0,XX f d 3,init,by omega,hbegin,rfl,[],rfl,hxs⟩,?_⟩;rintro n us a b c z fc tm wr ⟨k,s,hp,Y3,hro,rfl,pre,hpl,hx⟩;have zr:=hz hp;refine ⟨_,(rowR hp).at 0 rfl,(LD c0 (a,b,c) r wr).mono ?_⟩;rintro e oL ⟨rfl,gd⟩;have DU:=ext hp gd;refine ⟨_,rfl,gd.heap ab,gd.heap ab,Br.mk (λhw=> ?_) (λhw=> ?_)⟩
 ·have vD:=XW hro ab ab hw;obtain ⟨n,rfl⟩:∃n',n=n'+1:=⟨n-1,by omega⟩;have hgo:goK d c0 r (n+1) s ((a,b,c),fc,tm)=((a,b,c),fc,tm)::(match gF d s ((a,b,c),fc,tm) with|none=> []|some q=>goK d c0 r n q.1 q.2):=by
   show (if mD c0 (a,b,c) r=true then _ else _)=_;rw [if_pos hw]
   all_goals (cases gF d s ((a,b,c),fc,tm)<;>rfl)
  rw [hgo] at hx;have hxk:xs[k]? =some [hiV ((a,b,c),fc,tm)]:=by rw [hx,sV ab,hpl,Nat.sub_self];rfl
  refine dG (round hxk DU) ?_;rintro e jS ⟨hcase,k1,k2⟩;rcases hcase with ⟨rfl,apE⟩|⟨rfl,hJx⟩
  ·refine ⟨true,rfl,k1,k2,Br.mk (λq=>by cases q) (λ_=> ?_)⟩;have z40:=hz apE;refine ⟨λm i at_ wr=>∃j:Nat,i=j/\j+m=3/\at_=fR s j/\P (k+1) s wr,⟨3,rfl,rfl,0,rfl,rfl,rfl,apE⟩,?_⟩;rintro m us i at_ TR ⟨j,rfl,hjm,rfl,ZE⟩;have z2:=hz ZE;have haj:fR s j<j\/fR s j=0:=LB s j;apply Br.mk<;>intro hc
   ·have hc:=dn hc;have hj3:j=0\/j=1\/j=2:=by omega
    have ha3:fR s j=0\/fR s j=1\/fR s j=2:=by omega
    have hpd:=ext ZE (Ext.dr TR);have zd:=mN TR;refine ⟨by omega,by omega,_,_,tU (rowL hpd) hj3,by omega,by omega,_,_,tU (rowL hpd) ha3,(Py (jM s j) (jM s (fR s j)) TR.drew).mono ?_⟩;rintro e Q8 ⟨rfl,iT⟩;have apF:=ext hpd iT;have wk:=nY (j:=j);refine ⟨_,rfl,iT.heap ab,iT.heap ab,Br.mk (λq=>⟨m-1,by omega,rfl,rfl,j+1,wk,by omega,?_,apF⟩) (λq=>⟨m-1,by omega,rfl,rfl,j+1,wk,by omega,?_,apF⟩)⟩
    ·show ((j:Nat):Int)=((if Px (jM s j) (jM s (fR s j))=true then j else fR s j:Nat):Int);rw [if_pos q]
    ·show ((fR s j:Nat):Int)=((if Px (jM s j) (jM s (fR s j))=true then j else fR s j:Nat):Int);rw [if_neg (by rw [q];decide)]
   ·have hc:=dn hc;have:j=3:=by omega
    subst this;have ha3:=at3 s;have hside:=ab6 hro ha3;have Eh:gF d s ((a,b,c),fc,tm)=if (jM s (fR s 3)).2=0 then none else some (J0 s (fR s 3) ((jM s (fR s 3)).1+65536,(jM s (fR s 3)).2),(nbN (a,b,c) (if bZ d (fR s 3)>0 then 2*fR s 3+1 else 2*fR s 3),(if bZ d (fR s 3)>0 then 2*(fR s 3:Int) else 2*(fR s 3:Int)+1),(jM s (fR s 3)).1*65536 /(jM s (fR s 3)).2)):=rfl;have ZH:=λq (h:gF d s ((a,b,c),fc,tm)=some q)=>ab4 hro h
    have hdd:=hd (fR s 3) ab;generalize fR s 3=A at*;refine ⟨by omega,by omega,_,ldB (rowL ZE) ha3,Br.mk (λq=> ?_) (λq=> ?_)⟩
    ·have q:=dn q;rw [Eh,if_pos q] at hx;have:xs.length=k+1:=by rw [hx];simp [hpl]
     rw [<-this] at ZE;exact ⟨⟨_,rfl⟩,.inl (fin ZE)⟩
    ·have q:=dn q;rw [if_neg q] at Eh;rw [Eh] at hx;have ZH:=ZH _ Eh;obtain ⟨s1,s2,s3,s4⟩:=hside;have s2':0<=(jM s A).1/\(jM s A).1<=20000000:=by omega
     have hsp:0<(jM s A).2/\(jM s A).2<=1048576:=by unfold Ao at s1;omega
     have hpd:=ext ZE (Ext.dr TR);have zd:=mN TR;refine ⟨by omega,by omega,_,ldA (rowL hpd) ha3,by omega,by omega,_,ldB (rowL hpd) ha3,(ab8 _ _ ab hsp TR.drew).mono ?_⟩;rintro e Cj ⟨rfl,yA⟩;have ahs:=ext hpd yA;have z58:=hz ahs;obtain ⟨p1,p2⟩:=asE (rowL ahs) ha3 (ak ((jM s A).1+65536));refine ⟨_,_,rfl,yA.heap ab,yA.heap ab,by omega,by omega,_,ldA (rowL ahs) ha3,by omega,by omega,⟨rfl,p1⟩,?_,?_,λjk e62=> ?_⟩
     ·rw [de];exact kM ab
     ·rw [de];exact kM ab
     obtain ⟨q1,q2⟩:=p2 jk e62;rw [aM (n:=(jM s A).1+65536) (by unfold bT;omega)] at q1;have alC:=qv ahs q2 (.inl rfl) q1;have z62:=hz alC;refine ⟨_,_,_,Lo.wv (rowD alC),(dt d A jk).mono ?_⟩;rintro e rI ⟨rfl,nR⟩;have alD:=ext alC nR;have z66:=hz alD;have hwide:eW (a,b,c):=by unfold mD sL at hw;obtain ⟨-,AS⟩:=hro;unfold Ao at AS;unfold eW;simp only at AS ⊢;omega
     have w1:ak (2*(A:Int))=2*(A:Int):=wI;have w2:ak (2*(A:Int)+1)=((2*A+1:Nat):Int):=by rw [wI];omega
     have w3:ak (2*(A:Int)+0)=((2*A:Nat):Int):=by rw [wI];omega
     have w4:ak (((2*A+1:Nat):Int)-1)=2*(A:Int):=by rw [wI];omega
     have w5:ak (((2*A+1:Nat):Int)-0)=2*(A:Int)+1:=by rw [wI];omega
     rw [w1,w2,w3,w4,w5];have hxx:∀y:List Hi,xs=pre++(((a,b,c),fc,tm)::y).map (λh=> [hiV h])->xs=(pre++ [[hiV ((a,b,c),fc,tm)]])++y.map λh=> [hiV h]:=λy h=>by rw [h];simp
     refine ⟨_,rfl,nR.heap ab,nR.heap ab,Br.mk (λhq=>(jn (a,b,c) hwide rI).mono ?_) (λhq=>(jn (a,b,c) hwide rI).mono ?_)⟩
     ·have hq:=dn hq;rw [if_pos hq,if_pos hq] at hx ZH;rintro e tM ⟨rfl,oN⟩;have L6:=ext alD oN;have z68:=hz L6;refine ⟨_,_,_,_,_,_,_,_,_,_,_,_,_,_,_,_,_,_,rfl,oN.heap ab,oN.heap ab,⟨by omega,by omega⟩,_,_,_,Vi (a,b,c) (j:=2*A+1) ab,λpD e90=> ?_⟩;have hm:=qe e90;refine ⟨n,by omega,rfl,k+1,_,qv L6 hm (.inr rfl) ((rowL L6).same (hm.same _ (rowL L6).lt ab)),by omega,ZH,rfl,pre++ [[hiV ((a,b,c),fc,tm)]],by simp [hpl],hxx _ hx⟩
     ·have hq:=dn hq;rw [if_neg hq,if_neg hq] at hx ZH;rintro e tM ⟨rfl,oN⟩;have L6:=ext alD oN;have z68:=hz L6;refine ⟨_,_,_,_,_,_,_,_,_,_,_,_,_,_,_,_,_,_,rfl,oN.heap ab,oN.heap ab,⟨by omega,by omega⟩,_,_,_,Vi (a,b,c) (j:=2*A) ab,λpD e90=> ?_⟩;have hm:=qe e90;refine ⟨n,by omega,rfl,k+1,_,qv L6 hm (.inr rfl) ((rowL L6).same (hm.same _ (rowL L6).lt ab)),by omega,ZH,rfl,pre++ [[hiV ((a,b,c),fc,tm)]],by simp [hpl],hxx _ hx⟩
  ·exact ⟨false,rfl,k1,k2,Br.mk (λ_=>⟨⟨_,rfl⟩,.inr hJx⟩) (λq=>by cases q)⟩
 ·have hgo:goK d c0 r n s ((a,b,c),fc,tm)=[]:=by
   cases n with
   |zero=>rfl
   |succ n=>
    show (if mD c0 (a,b,c) r=true then _ else _)=_;rw [if_neg (by rw [hw];decide)]
  rw [hgo] at hx;have:xs.length=k:=by rw [hx];simp [hpl]
  rw [<-this] at DU;exact ⟨⟨_,rfl⟩,.inl (fin DU)⟩
def Vm{α:Type}(p:α->Bool):∀(l:List α)(n:Nat)(x:α),l[n]? =some x->(∀y ∈ l.take n,p y=false)->p x=true->l.find? p=some x
 | [],n,x,h,_,_=>by simp at h
 |a::l,0,x,h,_,hp=>by
  have h:a=x:=by simpa using h
  subst h;rw [List.find?_cons_of_pos hp]
 |a::l,n+1,x,h,hn,hp=>by have ha:p a=false:=hn a cj;rw [List.find?_cons_of_neg (by rw [ha];decide)];exact Vm p l n x (by simpa using h) (λy hy=>hn y (by simp [hy])) hp
def nk(r:Int):Int:=min (max r 0) 64
def Tj(f d:Ce)(r:Int)(w:World):ah 143 #[eg f,eg d,r] w λe w'=>e=(anf w)/\Row w' w (dO (eT f)) ic/\Row w' (w.heap.size+1) (dO (lp d)) ic/\Row w' (w.heap.size+2) [(nk r)] 3/\Ext w w':=by
 apply W6.vc;intro w0 e0 w1 e1 w2 e2;have x0:=aT e0;have z0:=zA e0;have r0:Row w0 w (dO f) ic:=Row.nw e0;have x1:=aT e1;have z1:=zA e1;have r1:Row w1 w0 (dO d) ic:=Row.nw e1;have x2:=aT e2;have z2:=zA e2;have r2:Row w2 w1 [r] 3:=Row.nw e2;have xd:=Ext.dr w2;have zd:=mN w2;refine (X4 f w2.drew).mono ?_;rintro e w3 ⟨rfl,x3⟩;have z3:=x3.size;refine ⟨_,_,_,rfl,x3.heap ab,x3.heap ab,x3.heap ab,Lo.wv (r2.ext (xd.tr x3)),Lo.wv (r1.ext (x2.tr (xd.tr x3))),(X5 d w3).mono ?_⟩;rintro e w7 ⟨rfl,x7⟩;have z7:=x7.size;have y7:=xd.tr (x3.tr x7);have r27:=r2.ext y7;refine ⟨_,_,_,rfl,x7.heap ab,x7.heap ab,x7.heap ab,Lo.wv r27,λbc Da=> ?_⟩;have r0':Row bc w (dO (eT f)) ic:=by rw [Da];exact Row.set (r0.ext (x1.tr (x2.tr y7))) [_,_,_]
 have r1':Row bc w0 (dO d) ic:=(r1.ext (x2.tr y7)).same (by rw [Da];exact setRow_other _ _ _ _ ab);have r2':Row bc w1 [r] 3:=r27.same (by rw [Da];exact setRow_other _ _ _ _ ab);have bA:Ext w bc:=(x0.tr (x1.tr (x2.tr y7))).ag Da (aD _);refine ⟨Lo.wv r2',λcU Km=> ?_⟩;have s1:Row cU w0 (dO (lp d)) ic:=by rw [Km];exact Row.set r1' [_,_,_]
 have s0:=r0'.so Km;have s2:=r2'.so Km;have bS:Ext w cU:=bA.ag Km ab;refine ⟨Lo.wv s2,λbG DT=> ?_⟩;have er:(if 64<(if 0>r then 0 else r) then 64 else (if 0>r then 0 else r))=nk r:=by
  unfold nk
  repeat' split
  all_goals omega
 rw [er] at DT;have t2:Row bG w1 [(nk r)] 3:=s2.st DT;have t0:=s0.so DT;have t1:=s1.so DT;rw [z0] at t1;rw [z1,z0] at t2;exact ⟨by rw [z1,z0],t0,t1,t2,bS.ag DT ab⟩
abbrev Tk:=Ce × Int × Int × Int
abbrev X6(h:Tk):Value:=.agg #[h.1.1,h.1.2.1,h.1.2.2,h.2.1,h.2.2.1,h.2.2.2]
def iK(V:Ce->Int)(f d:Ce)(r:Int):Tk × Bool:=
 match (mi (eT f) (lp d) (nk r)).find? (λh=> !kg (V h.1)) with
 |some h=>((h.1,V h.1,h.2.1,h.2.2),true)
 |none=>(((0,0,0),0,0,0),false)
set_option maxHeartbeats 2000000 in
def Kg{v:Value}{V:Ce->Int}{w:World}(hV:Tl v V w)(hv:kU v=[])(f d:Ce)(r:Int)(hf:(-1900000000<=(bw (eT f)).1/\(bw (eT f)).1<=1900000000)/\(-1900000000<=(bw (eT f)).2.1/\(bw (eT f)).2.1<=1900000000)/\-1900000000<=(bw (eT f)).2.2/\(bw (eT f)).2.2<=1900000000)
  (bq:∀h ∈ mi (eT f) (lp d) (nk r),qC h.1):
  ah 87 #[v,eg f,eg d,r] w λe w'=>e=Value.tuple #[X6 (iK V f d r).1,.bool (iK V f d r).2]/\Ext w w':=by
 apply aa9.vc;rw [hv,qJ];intro w0 e0 w1 e1 w2 e2 w3 e3 w4 e4;have x0:=aT e0;have z0:=zA e0;have x1:=aT e1;have z1:=zA e1;have x2:=aT e2;have z2:=zA e2;have x3:=aT e3;have z3:=zA e3;have x4:=aT e4;have z4:=zA e4;have AW:=x0.tr (x1.tr (x2.tr (x3.tr x4)));refine (Tj f d r w4).mono ?_;rintro e w5 ⟨rfl,t0,t1,t2,x5⟩;have z5:=x5.size;have l5:=t2.lt;have QH:=AW.tr x5;have hdd:∀i:Nat,i<3-> -1048576<=bZ (lp d) i/\bZ (lp d) i<=1048576:=λi hi=>by
  have hc:∀n,-1048576<=AA n/\AA n<=1048576:=λn=>by unfold AA;omega
  have:i=0\/i=1\/i=2:=by omega
  rcases this with rfl|rfl|rfl<;>exact hc _
 have hrr:0<=nk r/\nk r<=64:=by unfold nk;omega
 have hcast:iK V f d r=match (mi (eT f) (lp d) (nk r)).find? (λh=> !kg (V h.1)) with
  |some h=>((h.1,V h.1,h.2.1,h.2.2),true)
  |none=>(((0,0,0),0,0,0),false):=rfl
 have last:∀{w6 w7:World},Mod (λi=>i=w2.heap.size\/i=w3.heap.size\/w5.heap.size<=i) w5 w6->Rec w5 w6 w7->Ext w w7:=λhm hr=>by
  have hx:=hm.ext QH λi hi=>by have:=QH.size;omega
  exact (Mod.sm hr).ext hx λi hi=>by have:=QH.size;omega
 refine ⟨_,rfl,x5.heap ab,x5.heap ab,x5.heap ab,x5.heap ab,x5.heap ab,trX (eT f) (lp d) (nk r),λi=>i=w4.heap.size\/i=w4.heap.size+1\/i=w4.heap.size+2,λ_=>False,
  λn F a b c q s t bb w'=>(∀i,¬F i)/\(∀h ∈(mi (eT f) (lp d) (nk r)).take n,(!kg (V h.1))=false)/\Mod (λi=>w5.heap.size<=i) w5 w',
  λo F a b c q s t bb w'=>(∀i,¬F i)/\iK V f d r=(((a,b,c),q,s,t),bb)/\Mod (λi=>i=w2.heap.size\/i=w3.heap.size\/w5.heap.size<=i) w5 w',?_,?_,?_,λn F a b c q s t bb w' h i hi=>(h.1 i hi).elim,λo F a b c q s t bb w' h i hi=>(h.1 i hi).elim,λi hi=> ?_,λyP yF=> ?_,?_,?_,?_⟩
 ·intro x hx;obtain ⟨c,-,rfl⟩:=aY.1 hx;exact ⟨_,_,_,_,_,_,rfl⟩
 ·rintro n F a b c q s t bb eU ey ⟨h1,h2,h3⟩ lL -;exact ⟨h1,h2,h3.tr ⟨lL.os,lL.tape,lL.output,lL.size,λi hi hn=>lL.block i (Js hn)⟩ λi hi=> .inl hi⟩
 ·rintro o F a b c q s t bb eU ey ⟨h1,h2,h3⟩ lL -;exact ⟨h1,h2,h3.tr ⟨lL.os,lL.tape,lL.output,lL.size,λi hi hn=>lL.block i (Js hn)⟩ λi hi=> .inl (.inr (.inr hi))⟩
 ·exact ⟨by omega,id,by omega,by omega,by omega,by omega,by omega,trivial⟩
 ·exact ⟨Tc _ _ _ hf hdd hrr _ yP (t0.same (yF.ext.block _ ab)) (t1.same (yF.ext.block _ ab)) (t2.same (yF.ext.block _ ab)),rfl,rfl,rfl,λi h=>h,λc hc=>by simp at hc,Mod.aH yF.ext⟩
 ·rintro n F us a0 b0 c0 q0 s0 t0' bb a b c q s t qy hx hI Cj e58 yO Z3;have qG:Ext qy yO:=(aT e58).ag Z3 (aD _);have z59:yO.heap.size=qy.heap.size+1:=by rw [zR Z3,zA e58]
  have z56:=hI.2.2.size;refine ⟨qG,λnQ gR adX=> ?_⟩;obtain ⟨hF,lq,hM⟩:=adX;have zr:=gR.size;obtain ⟨h,hh,hval⟩:∃h:Hi,(mi (eT f) (lp d) (nk r))[n]? =some h/\(a,b,c)=h.1/\q=0/\s=h.2.1/\t=h.2.2:=by
   rw [aV] at hx
   cases hg:(mi (eT f) (lp d) (nk r))[n]? with
   |none=>rw [hg] at hx;cases hx
   |some h=>
    rw [hg] at hx;simp at hx;obtain ⟨g1,g2,g3,g4,g5,g6⟩:=hx;exact ⟨h,rfl,by rw [<-g1,<-g2,<-g3],g4.symm,g5.symm,g6.symm⟩
  obtain ⟨hc,rfl,rfl,rfl⟩:=hval;have eV:=aU hh;have aly:qC (a,b,c):=by rw [hc];exact bq h eV
  have z57:=hM.size;have ht:(mi (eT f) (lp d) (nk r)).take (n+1)=(mi (eT f) (lp d) (nk r)).take n++ [h]:=by rw [dP,hh];rfl
  obtain ⟨D,hD1,hD2⟩:=hV;refine dG (hD2 nQ (λi hi=> ?_) (a,b,c) aly) ?_
  ·have:=hD1 i hi;have:=QH.size;exact (hM.same i ab ab).trans (QH.heap ab)
  rintro e nN ⟨rfl,my⟩;have z60:=my.size;refine ⟨_,rfl,my.heap ab,my.heap ab,my.heap ab,my.heap ab,my.heap ab,my.heap ab,(C6 (V (a,b,c)) nN).mono ?_⟩;rintro e jk ⟨rfl,awD⟩;subst awD;have QI:=hM.trans (Mod.aH my);refine ⟨_,rfl,rfl,rfl,rfl,rfl,rfl,rfl,Br.mk (λhq=>λtX Zz Ix ZA rI e66=> ?_) (λhq=> ?_)⟩
  ·have hq':(!kg (V h.1))=true:=by rw [<-hc];exact hq
   have hfd:=Vm (λh:Hi=> !kg (V h.1)) _ n h hh lq hq';have hcast:iK V f d r=((h.1,V h.1,h.2.1,h.2.2),true):=by rw [hcast,hfd]
   have m1:=qe Zz;have m2:=qe ZA;have m3:=qe e66;have s1:=m1.size;have s2:=m2.size;have m:Mod (λi=>i=w2.heap.size\/i=w3.heap.size\/i=qy.heap.size) jk rI:=((m1.mono λi _ h=> .inr (.inr h)).trans (m2.mono λi _ h=> .inl h)).trans (m3.mono λi _ h=> .inr (.inl h));refine ⟨rfl,λ_=>False,⟨rfl,rfl,rfl,λi h=>h,by rw [hcast,hc],(QI.mono λi _ h=> .inr (.inr h)).trans (m.mono λi _ h=> ?_)⟩,?_⟩
   ·rcases h with h|h|h
    ·exact .inl h
    ·exact .inr (.inl h)
    ·exact .inr (.inr ab)
   ·have hm:=(Mod.aH (F:=λi=>i=w2.heap.size\/i=w3.heap.size\/i=qy.heap.size) my).trans m;refine ⟨λi hi=> ?_,hm.size,λi hi hn=>hm.same i hi λq=>hn ?_⟩
    ·rcases hi with h|h
     ·exact h.elim
     ·exact .inl (.inl (.inr h))
    ·rcases q with rfl|rfl|rfl
     ·exact .inl (.inr cj)
     ·exact .inl (.inr cj)
     ·exact .inr (aD _)
  ·have hq':(!kg (V h.1))=false:=by rw [<-hc];exact hq
   refine ⟨λ_=>False,⟨rfl,rfl,rfl,λi h=>h,λx hx=> ?_,QI⟩,Step.late ⟨λi hi=> ?_,my.size,λi hi _=>my.block i hi⟩⟩
   ·rw [ht,c5] at hx;rcases hx with hx|hx
    ·exact lq x hx
    ·rw [gU.1 hx];exact hq'
   ·rcases hi with h|h
    ·exact h.elim
    ·exact .inl (.inr h)
 ·rintro F us a b c q s t bb Q6 ⟨hF,lq,hM⟩ hD sO aho Iz ap8;have z99:=hM.size;rw [show (trX (eT f) (lp d) (nk r)).length=(mi (eT f) (lp d) (nk r)).length from aN ..,ja] at lq;have hfd:(mi (eT f) (lp d) (nk r)).find? (λh=> !kg (V h.1))=none:=CR.2 λx hx=>by rw [lq x hx];decide
  have hcast:iK V f d r=(((0,0,0),0,0,0),false):=by rw [hcast,hfd]
  have m1:=qe aho;have m2:=qe ap8;have s1:=m1.size;have m:=(hM.mono (F':=λi=>i=w2.heap.size\/i=w3.heap.size\/w5.heap.size<=i) λi _ h=> .inr (.inr h)).trans ((m1.mono λi _ h=> .inl h).trans (m2.mono λi _ h=> .inr (.inl h)));refine ⟨?_,λali gR=> ?_⟩
  ·rw [<-hD,ap8,setRow_other _ _ _ _ ab,aho,setRow_other _ _ _ _ ab]
  ·rw [hcast];exact ⟨rfl,last m gR⟩
 ·rintro F us a b c q s t bb AQ ⟨hF,hcv,hM⟩ hD;refine ⟨hD,λT9 gR=> ?_⟩;rw [hcv];exact ⟨rfl,last hM gR⟩
variable {R:Ending->World->Prop} {w:World} {a0 a1 a2 a3 a4 a5 a6 a7 a8 a9 aw ao au aP aQ aR bM bH bI DV aq ar aA bz bR bQ fe fg eM DW bE bO bC yu yw vV vW yx yy yz DX DY DZ D3 D4 D5 D6 D7 D8 D9:Int}
def Sx.vc{a0:Sl}{a1:Sl}(h:
 ∃I0:Nat->Int->Sl->World->Prop,
 (∃n1,I0 n1 (0) a0 w)/\
 ∀(n1:Nat)(wg:Nat->Value)(x3:Int)(s4:Sl)(w5:World),I0 n1 x3 s4 w5->
 Br (decide (x3<((a1.n:Nat):Int)))
 (ez a1.a x3 a1.n/\∃(x7:Int),ld w5 (ae a1.a ((x3:Int).toNat*1))=some (.int .i64 x7)/\
 ∃I8:Nat->Int->Sl->World->Prop,
 (∃n9,I8 n9 (5) s4 w5)/\
 ∀(n9:Nat)(Zx:Nat->Value)(bA:Int)(kh:Sl)(bG:World),I8 n9 bA kh bG->
 Br (bA>=0)
 (aS (ngC (ak (8*bA))) (Aw bG #[.int .u8 (fi ((x7:Int).fdiv (2 ^(min ((ak (8*bA)):Int).toNat 64))))] 5 λeu=>
 ba 1 1 eu kh 1 [.int .u8 (fi ((x7:Int).fdiv (2 ^(min ((ak (8*bA)):Int).toNat 64))))]/\∀(Z5:Sl)(cJ:World),aX 5 1 eu kh 1 [.int .u8 (fi ((x7:Int).fdiv (2 ^(min ((ak (8*bA)):Int).toNat 64))))] Z5 cJ->Kp bG eu cJ/\
 ∃Cc,Cc<n9/\I8 Cc ((ak (bA-1))) Z5 cJ))
 (∃n6,n6<n1/\I0 n6 ((ak (x3+1))) kh bG))
 (R s4 w5)):ah 81 #[a0,a1] w R:=
 cq ⟨[(5,⟨[(7,.int .i64),(0,.slice)],[],[]⟩),(2,⟨[(10,.int .i64),(0,.slice)],[],[]⟩)],[],[]⟩ Tryz.func81 h
def uV.vc{a0:Addr}(h:
 ah 12 #[a0] w (λe w0=>∃(s1:Sl),e=s1/\
 ∃(p2:Option Addr),ld w0 (ae (some a0) 0)=some (.pointer p2)/\
 ah 68 #[p2] w0 (λe w3=>∃(x4:Int),e=x4/\
 Aw w3 #[x4] 3 λw5=>
 ah 81 #[.slice none 0 0,.slice (aB w3) 1 1] w5 (λe w6=>∃(s7:Sl),e=s7/\
 Aw w6 #[.int .u8 (fi ((s1.n:Nat):Int))] 5 λw8=>
 ba 1 1 w8 s7 1 [.int .u8 (fi ((s1.n:Nat):Int))]/\∀(s9:Sl)(bN:World),aX 5 1 w8 s7 1 [.int .u8 (fi ((s1.n:Nat):Int))] s9 bN->Kp w6 w8 bN/\
 ∃I11:Nat->Int->Sl->World->Prop,
 (∃HP,aL [.int .u8 (fi ((s1.n:Nat):Int))]/\I11 HP (0) s9 bN)/\
 ∀(HP:Nat)(awU:Nat->Value)(bW:Int)(mA:Sl)(cP:World),I11 HP bW mA cP->
 Br (decide (bW<((s1.n:Nat):Int)))
 (ez s1.a bW s1.n/\∃(cA:Int),ld cP (ae s1.a ((bW:Int).toNat*1))=some (.int .i64 cA)/\
 (0:Int)<=cA/\cA<((16:Nat):Int)/\∃(mL:Option Addr),ld cP (ae (ae (some a0) 1) ((cA:Int).toNat*1))=some (.pointer mL)/\
 ∃J20:Sl->World->Prop,
 (aS (dK mL) (aS (dK mL) (aS (dK (ae mL 0)) (aS (dK (ae (ae mL 0) 0)) (∃(dh:Int),ld cP.drew (ae (ae (ae mL 0) 0) 0)=some (.int .i64 dh)/\
 aS (dK mL) (aS (dK mL) (aS (dK (ae mL 0)) (aS (dK (ae (ae mL 0) 0)) (∃(dJ:Int),ld cP.drew (ae (ae (ae mL 0) 0) 1)=some (.int .i64 dJ)/\
 aS (dK mL) (aS (dK mL) (aS (dK (ae mL 0)) (aS (dK (ae (ae mL 0) 0)) (∃(dA:Int),ld cP.drew (ae (ae (ae mL 0) 0) 2)=some (.int .i64 dA)/\
 aS (dK mL) (aS (dK mL) (aS (dK (ae mL 0)) (aS (dK (ae (ae mL 0) 3)) (∃(eG:Int),ld cP.drew (ae (ae (ae mL 0) 3) 0)=some (.int .i64 eG)/\
 aS (dK mL) (aS (dK mL) (aS (dK (ae mL 0)) (aS (dK (ae (ae mL 0) 3)) (∃(dT:Int),ld cP.drew (ae (ae (ae mL 0) 3) 1)=some (.int .i64 dT)/\
 aS (dK mL) (aS (dK mL) (aS (dK (ae mL 0)) (aS (dK (ae (ae mL 0) 3)) (∃(fE:Int),ld cP.drew (ae (ae (ae mL 0) 3) 2)=some (.int .i64 fE)/\
 aS (dK mL) (aS (dK mL) (aS (dK (ae mL 0)) (∃(fD:Int),ld cP.drew (ae (ae mL 0) 6)=some (.int .i64 fD)/\
 aS (dK mL) (aS (dK mL) (aS (dK (ae mL 0)) (∃(ik:Int),ld cP.drew (ae (ae mL 0) 7)=some (.int .i64 ik)/\
 (Aw cP.drew #[.int .u8 (fi cA)] 5 λdX=>
 (ba 1 1 dX mA 1 [.int .u8 (fi cA)]/\∀(tZ:Sl)(gA:World),aX 5 1 dX mA 1 [.int .u8 (fi cA)] tZ gA->Kp w6 dX gA/\gA.heap[cP.drew.heap.size]? =dX.heap[cP.drew.heap.size]?/\
 af gA (ae (ae mL 0) 7) 0 [ik]/\af gA (ae (ae mL 0) 6) 0 [fD]/\af gA (ae (ae (ae mL 0) 3) 2) 0 [fE]/\af gA (ae (ae (ae mL 0) 3) 1) 0 [dT]/\af gA (ae (ae (ae mL 0) 3) 0) 0 [eG]/\af gA (ae (ae (ae mL 0) 0) 2) 0 [dA]/\af gA (ae (ae (ae mL 0) 0) 1) 0 [dJ]/\af gA (ae (ae (ae mL 0) 0) 0) 0 [dh]/\Aw gA #[dh,dJ,dA,eG,dT,fE,fD,ik] 3 λlA=>
 ah 81 #[tZ,.slice (aB gA) 8 8] lA (Rs λs34 eP=>Kp w6 lA eP/\eP.heap[cP.drew.heap.size]? =lA.heap[cP.drew.heap.size]?/\
 aL [.int .u8 (fi ((s1.n:Nat):Int))]/\J20 s34 eP))/\(Aw dX #[dh,dJ,dA,eG,dT,fE,fD,ik] 3 λki=>
 ba 1 1 ki mA 1 [.int .u8 (fi cA)]/\∀(s36:Sl)(iN:World),aX 5 1 ki mA 1 [.int .u8 (fi cA)] s36 iN->Kp w6 ki iN/\iN.heap[cP.drew.heap.size]? =ki.heap[cP.drew.heap.size]?/\Kp dX ki iN/\
 ah 81 #[s36,.slice (aB dX) 8 8] iN (Rs λVD oL=>Kp w6 iN oL/\oL.heap[cP.drew.heap.size]? =iN.heap[cP.drew.heap.size]?/\
 aL [.int .u8 (fi ((s1.n:Nat):Int))]/\J20 VD oL)))/\(Aw cP.drew #[dh,dJ,dA,eG,dT,fE,fD,ik] 3 λjS=>
 Aw jS #[.int .u8 (fi cA)] 5 λiR=>
 ba 1 1 iR mA 1 [.int .u8 (fi cA)]/\∀(s42:Sl)(iH:World),aX 5 1 iR mA 1 [.int .u8 (fi cA)] s42 iH->Kp w6 iR iH/\iH.heap[cP.drew.heap.size]? =iR.heap[cP.drew.heap.size]?/\Kp jS iR iH/\
 ah 81 #[s42,.slice (aB cP.drew.heap.size) 8 8] iH (Rs λs45 kI=>K2 w6 jS iH kI (
 aL [.int .u8 (fi ((s1.n:Nat):Int))]/\J20 s45 kI))))))))))))))))))))))))))))))))))/\
 ∀apQ:Nat->Value,∀(EJ:Sl)(gf:World),J20 EJ gf->
 aS (dK mL) (aS (dK mL) (aS (dK (ae mL 0)) (∃(b49:Bool),ld gf (ae (ae mL 0) 8)=some (.bool b49)/\
 Br b49
 (Aw gf #[.int .u8 1] 5 λlR=>
 ba 1 1 lR EJ 1 [.int .u8 1]/\∀(s51:Sl)(Q1:World),aX 5 1 lR EJ 1 [.int .u8 1] s51 Q1->K2 w6 gf lR Q1 (
 ∃II,II<HP/\aL [.int .u8 (fi ((s1.n:Nat):Int))]/\I11 II ((ak (bW+1))) s51 Q1))
 (Aw gf #[.int .u8 0] 5 λQ8=>
 ba 1 1 Q8 EJ 1 [.int .u8 0]/\∀(EE:Sl)(AK:World),aX 5 1 Q8 EJ 1 [.int .u8 0] EE AK->K2 w6 gf Q8 AK (
 ∃II,II<HP/\aL [.int .u8 (fi ((s1.n:Nat):Int))]/\I11 II ((ak (bW+1))) EE AK))))))
 (∃(p56:Option Addr),ld cP (ae (some a0) 0)=some (.pointer p56)/\
 ah 82 #[p56] cP (Rs λnu nQ=>Kp w6 cP nQ/\
 (0:Int)<=(if 2000<((nu.n:Nat):Int) then 2000 else ((nu.n:Nat):Int))/\(if 2000<((nu.n:Nat):Int) then 2000 else ((nu.n:Nat):Int))<=((nu.c:Nat):Int)/\Aw nQ #[.int .u8 (fi (((((((if 2000<((nu.n:Nat):Int) then 2000 else ((nu.n:Nat):Int)):Int).toNat-0):Nat):Int):Int).fdiv (2 ^(min (8:Int).toNat 64)))),.int .u8 (fi (((((if 2000<((nu.n:Nat):Int) then 2000 else ((nu.n:Nat):Int)):Int).toNat-0):Nat):Int))] 5 λyO=>
 ba 1 1 yO mA 2 [.int .u8 (fi (((((((if 2000<((nu.n:Nat):Int) then 2000 else ((nu.n:Nat):Int)):Int).toNat-0):Nat):Int):Int).fdiv (2 ^(min (8:Int).toNat 64)))),.int .u8 (fi (((((if 2000<((nu.n:Nat):Int) then 2000 else ((nu.n:Nat):Int)):Int).toNat-0):Nat):Int))]/\∀(Up:Sl)(pG:World),aX 5 1 yO mA 2 [.int .u8 (fi (((((((if 2000<((nu.n:Nat):Int) then 2000 else ((nu.n:Nat):Int)):Int).toNat-0):Nat):Int):Int).fdiv (2 ^(min (8:Int).toNat 64)))),.int .u8 (fi (((((if 2000<((nu.n:Nat):Int) then 2000 else ((nu.n:Nat):Int)):Int).toNat-0):Nat):Int))] Up pG->K2 w6 nQ yO pG (
 ∃I62:Nat->Int->Sl->World->Prop,
 (∃n63,aL [.int .u8 (fi ((s1.n:Nat):Int))]/\aL [.int .u8 (fi (((((((if 2000<((nu.n:Nat):Int) then 2000 else ((nu.n:Nat):Int)):Int).toNat-0):Nat):Int):Int).fdiv (2 ^(min (8:Int).toNat 64)))),.int .u8 (fi (((((if 2000<((nu.n:Nat):Int) then 2000 else ((nu.n:Nat):Int)):Int).toNat-0):Nat):Int))]/\I62 n63 (0) Up pG)/\
 ∀(n63:Nat)(atw:Nat->Value)(rJ:Int)(s66:Sl)(lC:World),I62 n63 rJ s66 lC->
 Br (decide (rJ<(((((if 2000<((nu.n:Nat):Int) then 2000 else ((nu.n:Nat):Int)):Int).toNat-0):Nat):Int)))
 (ez (aJ nu.a (0) (nu.c) 4) rJ (((if 2000<((nu.n:Nat):Int) then 2000 else ((nu.n:Nat):Int)):Int).toNat-0)/\∃(qH pP oy oz:Int),af lC (ae (aJ nu.a (0) (nu.c) 4) ((rJ:Int).toNat*4)) 0 [qH,pP,oy,oz]/\
 Aw lC #[aa,aa,aa,aa] 157 λQp=>
 Sw Qp lC #[qH,pP,oy,oz] λnt=>
 Aw nt #[qH,pP,oy,oz] 3 λsN=>
 ah 81 #[s66,.slice (aB nt) 4 4] sN (Rs λs77 kL=>K3 w6 nQ lC sN kL (
 ∃n68,n68<n63/\aL [.int .u8 (fi ((s1.n:Nat):Int))]/\aL [.int .u8 (fi (((((((if 2000<((nu.n:Nat):Int) then 2000 else ((nu.n:Nat):Int)):Int).toNat-0):Nat):Int):Int).fdiv (2 ^(min (8:Int).toNat 64)))),.int .u8 (fi (((((if 2000<((nu.n:Nat):Int) then 2000 else ((nu.n:Nat):Int)):Int).toNat-0):Nat):Int))]/\I62 n68 ((ak (rJ+1))) s77 kL)))
 (R s66 lC)))))))):ah 26 #[a0] w R:=
 cq ⟨[(16,⟨[(124,.int .i64),(4,.slice)],[],[]⟩),(4,⟨[(27,.int .i64),(4,.slice)],[],[]⟩)],[(8,⟨[(4,.slice)],[],[]⟩)],[]⟩ Tryz.func26 h
def yl.vc{a0:Addr}(h:
 ∃(p0:Option Addr),ld w (ae (some a0) 0)=some (.pointer p0)/\
 ah 18 #[p0] w (λe w1=>∃(p2:Option Addr),e=p2/\
 ah 19 #[p2] w1 (λe w3=>∃(p4:Option Addr),e=p4/\
 ah 26 #[a0] w3 (λe w5=>∃(s6:Sl),e=s6/\
 ah 61 #[p4,s6] w5 (λe w7=>∃(x8:Int),e=x8/\
 R x8 w7))))):ah 35 #[a0] w R:=
 cq bU Tryz.func35 h
def To.vc(h:
 Aw w #[aw,ao,au] 41 λw0=>
 Aw w0 #[aa,aa,aa] 41 λw1=>
 ah 10 #[aw,(10:Int)] w1.drew (Ri λx3 w2=>K2 w w0 w1.drew w2 (
 af w2 (dU w 2) 0 [au]/\af w2 (dU w 1) 0 [ao]/\ah 10 #[ao,(14:Int)] w2 (Ri λx5 w4=>K2 w w0 w2 w4 (
 af w4 (dU w 2) 0 [au]/\ah 10 #[au,(10:Int)] w4 (Ri λx7 w6=>K2 w w0 w4 w6 (
 Sw w6 w0 #[(ak (3+x3)),(ak (6+x5)),(ak (3+x7))] λw8=>
 R (Value.agg #[(ak (3+x3)),(ak (6+x5)),(ak (3+x7))]) w8))))))):ah 28 #[.agg #[aw,ao,au]] w R:=
 cq bU Tryz.func28 h
def X9.vc(h:
 Br (a0>140737488355328)
 (R (140737488355328:Int) w)
 (Br (a0<(-140737488355328))
 (R (Value.int .i64 (-140737488355328)) w)
 (R a0 w))):ah 141 #[a0] w R:=
 cq bU Tryz.func141 h
def PD.vc(h:
 ah 141 #[a0] w (λe w0=>∃(x1:Int),e=x1/\
 ah 86 #[x1,(65536:Int)] w0 (λe w2=>∃(x3:Int),e=x3/\
 R x3 w2))):ah 84 #[a0] w R:=
 cq bU Tryz.func84 h
def aci.vc(h:
 Aw w #[aw,ao,au] 28 λw0=>
 Aw w0 #[aa,aa,aa] 41 λw1=>
 ah 84 #[aw] w1.drew (Ri λx3 w2=>K2 w w0 w1.drew w2 (
 af w2 (dU w 2) 0 [au]/\af w2 (dU w 1) 0 [ao]/\ah 84 #[ao] w2 (Ri λx5 w4=>K2 w w0 w2 w4 (
 af w4 (dU w 2) 0 [au]/\ah 84 #[au] w4 (Ri λx7 w6=>K2 w w0 w4 w6 (
 Sw w6 w0 #[x3,x5,x7] λw8=>
 R (Value.agg #[x3,x5,x7]) w8))))))):ah 30 #[.agg #[aw,ao,au]] w R:=
 cq bU Tryz.func30 h
def Ya.vc(h:
 ah 141 #[a0] w (λe w0=>∃(x1:Int),e=x1/\
 ah 141 #[a1] w0 (λe w2=>∃(x3:Int),e=x3/\
 ah 141 #[(ak (x1+x3))] w2 (λe w4=>∃(x5:Int),e=x5/\
 R x5 w4)))):ah 142 #[a0,a1] w R:=
 cq bU Tryz.func142 h
def Yd.vc(h:
 Aw w #[aw,ao,au] 28 λw0=>
 Aw w0 #[aq,ar,aA] 28 λw1=>
 Aw w1 #[aa,aa,aa] 28 λw2=>
 ah 142 #[aw,aq] w2.drew (Ri λx4 w3=>K3 w w0 w1 w2.drew w3 (
 af w3 (dU w0 2) 0 [aA]/\af w3 (dU w 2) 0 [au]/\af w3 (dU w0 1) 0 [ar]/\af w3 (dU w 1) 0 [ao]/\ah 142 #[ao,ar] w3 (Ri λx6 w5=>K3 w w0 w1 w3 w5 (
 af w5 (dU w0 2) 0 [aA]/\af w5 (dU w 2) 0 [au]/\ah 142 #[au,aA] w5 (Ri λx8 w7=>K3 w w0 w1 w5 w7 (
 Sw w7 w1 #[x4,x6,x8] λw9=>
 R (Value.agg #[x4,x6,x8]) w9))))))):ah 85 #[.agg #[aw,ao,au],.agg #[aq,ar,aA]] w R:=
 cq bU Tryz.func85 h
def Yc.vc(h:
 ah 141 #[a0] w (λe w0=>∃(x1:Int),e=x1/\
 ah 141 #[a1] w0 (λe w2=>∃(x3:Int),e=x3/\
 ah 141 #[(ak (x1-x3))] w2 (λe w4=>∃(x5:Int),e=x5/\
 R x5 w4)))):ah 181 #[a0,a1] w R:=
 cq bU Tryz.func181 h
def Tm.vc(h:
 Aw w #[aw,ao,au] 28 λw0=>
 Br (a1==0)
 (R aw w0)
 (Br (a1==1)
 (R ao w0)
 (Br (a1==2)
 (R au w0)
 (R (0:Int) w0)))):ah 180 #[.agg #[aw,ao,au],a1] w R:=
 cq bU Tryz.func180 h
def Ij.vc(h:
 Aw w #[aw,ao,au,aP,aQ,aR] 107 λw0=>
 Aw w0 #[aq,ar,aA,bz,bR,bQ] 107 λw1=>
 Br (aw<bz)
 (Br (ao<bR)
 (Br (au<bQ)
 (Br (aq<aP)
 (Br (ar<aQ)
 (R (Value.bool (decide (aA<aR))) w1)
 (R false w1))
 (R false w1))
 (Br (aq<aP)
 (Br (ar<aQ)
 (R false w1)
 (R false w1))
 (R false w1)))
 (Br (au<bQ)
 (Br (aq<aP)
 (R false w1)
 (R false w1))
 (Br (aq<aP)
 (R false w1)
 (R false w1))))
 (Br (ao<bR)
 (Br (au<bQ)
 (R false w1)
 (R false w1))
 (Br (au<bQ)
 (R false w1)
 (R false w1)))):ah 179 #[.agg #[aw,ao,au,aP,aQ,aR],.agg #[aq,ar,aA,bz,bR,bQ]] w R:=
 cq bU Tryz.func179 h
def PF.vc(h:
 Aw w #[aw,ao,au] 28 λw0=>
 Aw w0 #[aa,aa,aa,aa,aa,aa] 107 λw1=>
 ah 181 #[aw,(ak (Int.tdiv (if 0>a1 then 0 else a1) 2))] w1.drew (Ri λx3 w2=>K2 w w0 w1.drew w2 (
 af w2 (dU w 2) 0 [au]/\af w2 (dU w 1) 0 [ao]/\af w2 w 0 [aw]/\af w2 (dU w 2) 0 [au]/\af w2 (dU w 1) 0 [ao]/\ah 141 #[ao] w2 (Ri λx5 w4=>K2 w w0 w2 w4 (
 af w4 (dU w 2) 0 [au]/\af w4 (dU w 1) 0 [ao]/\af w4 w 0 [aw]/\af w4 (dU w 2) 0 [au]/\ah 181 #[au,(ak (Int.tdiv (if 0>a1 then 0 else a1) 2))] w4 (Ri λx7 w6=>K2 w w0 w4 w6 (
 af w6 (dU w 2) 0 [au]/\af w6 (dU w 1) 0 [ao]/\af w6 w 0 [aw]/\(ah 142 #[aw,(ak (Int.tdiv (if 0>a1 then 0 else a1) 2))] w6 (Ri λx9 w8=>K2 w w0 w6 w8 (
 af w8 (dU w 2) 0 [au]/\af w8 (dU w 1) 0 [ao]/\ah 142 #[ao,.int .i64 (if 0>a2 then 0 else a2)] w8 (Ri λbA bN=>K2 w w0 w8 bN (
 af bN (dU w 2) 0 [au]/\ah 142 #[au,(ak (Int.tdiv (if 0>a1 then 0 else a1) 2))] bN (Ri λcn cU=>K2 w w0 bN cU (
 Sw cU w0 #[x3,x5,x7,x9,bA,cn] λbJ=>
 R (Value.agg #[x3,x5,x7,x9,bA,cn]) bJ)))))))/\(ah 142 #[aw,(ak (Int.tdiv (if 0>a1 then 0 else a1) 2))] w6 (Ri λcp eu=>K2 w w0 w6 eu (
 af eu (dU w 2) 0 [au]/\af eu (dU w 1) 0 [ao]/\(ah 142 #[ao,.int .i64 (if 0>a2 then 0 else a2)] eu (Ri λcA cJ=>K2 w w0 eu cJ (
 af cJ (dU w 2) 0 [au]/\ah 142 #[au,(ak (Int.tdiv (if 0>a1 then 0 else a1) 2))] cJ (Ri λcW gn=>K2 w w0 cJ gn (
 Sw gn w0 #[x3,x5,x7,cp,cA,cW] λeU=>
 R (Value.agg #[x3,x5,x7,cp,cA,cW]) eU)))))/\(ah 142 #[ao,.int .i64 (if 0>a2 then 0 else a2)] eu (Ri λdA ey=>K2 w w0 eu ey (
 af ey (dU w 2) 0 [au]/\(ah 142 #[au,(ak (Int.tdiv (if 0>a1 then 0 else a1) 2))] ey (Ri λdT gC=>K2 w w0 ey gC (
 Sw gC w0 #[x3,x5,x7,cp,dA,dT] λfb=>
 R (Value.agg #[x3,x5,x7,cp,dA,dT]) fb)))/\(ah 142 #[au,(ak (Int.tdiv (if 0>a1 then 0 else a1) 2))] ey (Ri λik eB=>K2 w w0 ey eB (
 (Sw eB w0 #[x3,x5,x7,cp,dA,ik] λdX=>
 R (Value.agg #[x3,x5,x7,cp,dA,ik]) dX)/\(Sw eB w0 #[x3,x5,x7,cp,dA,ik] λfw=>
 R (Value.agg #[x3,x5,x7,cp,dA,ik]) fw))))))))))))))))):ah 128 #[.agg #[aw,ao,au],a1,a2] w R:=
 cq bU Tryz.func128 h
def Ye.vc{bI:Bool}(h:
 Aw w #[aw,ao,au,aP,aQ,aR,bM,bH,bI] 75 λw0=>
 Aw w0 #[aa,aa,aa] 28 λw1=>
 ah 86 #[(ak (bH*4)),(5:Int)] w1.drew (Ri λx3 w2=>K2 w w0 w1.drew w2 (
 af w2 (dU w 7) 0 [bH]/\af w2 w 0 [aw,ao,au]/\ah 85 #[.agg #[aw,ao,au],.agg #[aa,x3,aa]] w2 (jo λx5 x6 x7 w4=>K2 w w0 w2 w4 (
 af w4 (dU w 7) 0 [bH]/\Sw w4 w0 #[x5,x6,x7] λw8=>
 R (Value.agg #[x5,x6,x7]) w8))))):ah 31 #[.agg #[aw,ao,au,aP,aQ,aR,bM,bH,bI]] w R:=
 cq bU Tryz.func31 h
def Yf.vc{bI:Bool}(h:
 Aw w #[aw,ao,au,aP,aQ,aR,bM,bH,bI] 75 λw0=>
 Aw w0 #[aa,aa,aa,aa,aa,aa] 107 λw1=>
 ah 128 #[.agg #[aw,ao,au],bM,bH] w1 (wE λx3 x4 x5 x6 x7 x8 w2=>K2 w w0 w1 w2 (
 Sw w2 w0 #[x3,x4,x5,x6,x7,x8] λw9=>
 R (Value.agg #[x3,x4,x5,x6,x7,x8]) w9))):ah 70 #[.agg #[aw,ao,au,aP,aQ,aR,bM,bH,bI]] w R:=
 cq bU Tryz.func70 h
def Ln.vc(h:
 Aw w #[aw,ao,au] 28 λw0=>
 ∃I1:Nat->Int->World->Prop,
 (∃n2,aL [aw,ao,au]/\I1 n2 (0) w0)/\
 ∀(n2:Nat)(us3:Nat->Value)(x4:Int)(w5:World),I1 n2 x4 w5->
 Br (x4<3)
 (ah 180 #[.agg #[aw,ao,au],x4] w5 (Ri λx8 w7=>Kp w w5 w7/\
 Br (decide (x8<(ak (0-a1))))
 (R false w7)
 (Br (x8>a1)
 (R false w7)
 (∃n6,n6<n2/\aL [aw,ao,au]/\I1 n6 ((ak (x4+1))) w7))))
 (R true w5)):ah 157 #[.agg #[aw,ao,au],a1] w R:=
 cq ⟨[(2,⟨[(5,.int .i64)],[],[]⟩)],[],[]⟩ Tryz.func157 h
def XB.vc{bI:Bool}(h:
 Aw w #[aw,ao,au,aP,aQ,aR,bM,bH,bI] 75 λw0=>
 ah 157 #[.agg #[aw,ao,au],(70368744177664:Int)] w0 (Rb λb2 w1=>Kp w w0 w1/\
 ah 157 #[.agg #[aP,aQ,aR],(262144:Int)] w1 (Rb λb4 w3=>Kp w w1 w3/\
 Br b2
 (Br b4
 (Br (bM>=2)
 (Br (bM<=131072)
 (Br (bH>=1)
 (R (Value.bool (decide (bH<=262144))) w3)
 (R false w3))
 (R false w3))
 (R false w3))
 (R false w3))
 (R false w3)))):ah 106 #[.agg #[aw,ao,au,aP,aQ,aR,bM,bH,bI]] w R:=
 cq bU Tryz.func106 h
def YN.vc(h:
 Aw w #[aw,ao,au] 41 λw0=>
 Aw w0 #[aa,aa,aa] 41 λw1=>
 Sw w1 w0 #[.int .i64 (if 2147483648<(if (-2147483648)>aw then (-2147483648) else aw) then 2147483648 else (if (-2147483648)>aw then (-2147483648) else aw)),.int .i64 (if 2147483648<(if (-2147483648)>ao then (-2147483648) else ao) then 2147483648 else (if (-2147483648)>ao then (-2147483648) else ao)),.int .i64 (if 2147483648<(if (-2147483648)>au then (-2147483648) else au) then 2147483648 else (if (-2147483648)>au then (-2147483648) else au))] λw2=>
 R (Value.agg #[.int .i64 (if 2147483648<(if (-2147483648)>aw then (-2147483648) else aw) then 2147483648 else (if (-2147483648)>aw then (-2147483648) else aw)),.int .i64 (if 2147483648<(if (-2147483648)>ao then (-2147483648) else ao) then 2147483648 else (if (-2147483648)>ao then (-2147483648) else ao)),.int .i64 (if 2147483648<(if (-2147483648)>au then (-2147483648) else au) then 2147483648 else (if (-2147483648)>au then (-2147483648) else au))]) w2):ah 160 #[.agg #[aw,ao,au]] w R:=
 cq bU Tryz.func160 h
def TK.vc(h:
 Aw w #[aw,ao,au] 41 λw0=>
 Aw w0 #[aa,aa,aa,aa,aa,aa,aa,aa,aa,aa,aa,aa,aa,aa,aa,aa,aa,aa] 186 λw1=>
 Aw w1 #[aa,aa,aa,aa,aa,aa,aa,aa,aa,aa,aa,aa,aa,aa,aa,aa,aa,aa] 186 λw2=>
 ∃I3:Nat->Int->World->Prop,
 (∃n4,aL [aw,ao,au]/\I3 n4 (0) w2)/\
 ∀(n4:Nat)(us5:Nat->Value)(x6:Int)(w7:World),I3 n4 x6 w7->
 Br (x6<6)
 (ah 160 #[.agg #[aw,ao,au]] w7 (jo λbk bA bS w9=>Kp w w7 w9/\
 Aw w9 #[aa,aa,aa] 41 λbG=>
 Sw bG w9 #[bk,bA,bS] λbJ=>
 Br (((ak (Int.tdiv x6 2)):Int)==0)
 (Sw bJ w9 #[(ak (bk+(ak ((ak (2*(Int.tmod x6 2)))-1)))),bA,bS] λeu=>
 Br (((ak (Int.tdiv x6 2)):Int)==1)
 (Sw eu w9 #[(ak (bk+(ak ((ak (2*(Int.tmod x6 2)))-1)))),(ak (bA+(ak ((ak (2*(Int.tmod x6 2)))-1)))),bS] λcP=>
 Br (((ak (Int.tdiv x6 2)):Int)==2)
 (Sw cP w9 #[(ak (bk+(ak ((ak (2*(Int.tmod x6 2)))-1)))),(ak (bA+(ak ((ak (2*(Int.tmod x6 2)))-1)))),(ak (bS+(ak ((ak (2*(Int.tmod x6 2)))-1))))] λcJ=>
 ah 160 #[.agg #[(ak (bk+(ak ((ak (2*(Int.tmod x6 2)))-1)))),(ak (bA+(ak ((ak (2*(Int.tmod x6 2)))-1)))),(ak (bS+(ak ((ak (2*(Int.tmod x6 2)))-1))))]] cJ (jo λcr cW dh du=>K2 w w9 cJ du (
 (0:Int)<=x6/\x6<((6:Nat):Int)/\(true=true/\Wr du (ae (aB w1) ((x6:Int).toNat*3)) 3)/\bt (ae (aB w1) ((x6:Int).toNat*3))≠some w.heap.size/\bt (ae (aB w1) ((x6:Int).toNat*3))≠some w9.heap.size/\(∀ey,ey=aK du (ae (aB w1) ((x6:Int).toNat*3)) [cr,cW,dh]->
 ∃n8,n8<n4/\aL [aw,ao,au]/\I3 n8 ((ak (x6+1))) ey))))
 (ah 160 #[.agg #[(ak (bk+(ak ((ak (2*(Int.tmod x6 2)))-1)))),(ak (bA+(ak ((ak (2*(Int.tmod x6 2)))-1)))),bS]] cP (jo λeG dT fE eR=>K2 w w9 cP eR (
 (0:Int)<=x6/\x6<((6:Nat):Int)/\(true=true/\Wr eR (ae (aB w1) ((x6:Int).toNat*3)) 3)/\bt (ae (aB w1) ((x6:Int).toNat*3))≠some w.heap.size/\bt (ae (aB w1) ((x6:Int).toNat*3))≠some w9.heap.size/\(∀eB,eB=aK eR (ae (aB w1) ((x6:Int).toNat*3)) [eG,dT,fE]->
 ∃n8,n8<n4/\aL [aw,ao,au]/\I3 n8 ((ak (x6+1))) eB)))))
 (Br (((ak (Int.tdiv x6 2)):Int)==2)
 (Sw eu w9 #[(ak (bk+(ak ((ak (2*(Int.tmod x6 2)))-1)))),bA,(ak (bS+(ak ((ak (2*(Int.tmod x6 2)))-1))))] λgQ=>
 ah 160 #[.agg #[(ak (bk+(ak ((ak (2*(Int.tmod x6 2)))-1)))),bA,(ak (bS+(ak ((ak (2*(Int.tmod x6 2)))-1))))]] gQ (jo λiM iB il dX=>K2 w w9 gQ dX (
 (0:Int)<=x6/\x6<((6:Nat):Int)/\(true=true/\Wr dX (ae (aB w1) ((x6:Int).toNat*3)) 3)/\bt (ae (aB w1) ((x6:Int).toNat*3))≠some w.heap.size/\bt (ae (aB w1) ((x6:Int).toNat*3))≠some w9.heap.size/\(∀eP,eP=aK dX (ae (aB w1) ((x6:Int).toNat*3)) [iM,iB,il]->
 ∃n8,n8<n4/\aL [aw,ao,au]/\I3 n8 ((ak (x6+1))) eP))))
 (ah 160 #[.agg #[(ak (bk+(ak ((ak (2*(Int.tmod x6 2)))-1)))),bA,bS]] eu (jo λjT lJ gx iq=>K2 w w9 eu iq (
 (0:Int)<=x6/\x6<((6:Nat):Int)/\(true=true/\Wr iq (ae (aB w1) ((x6:Int).toNat*3)) 3)/\bt (ae (aB w1) ((x6:Int).toNat*3))≠some w.heap.size/\bt (ae (aB w1) ((x6:Int).toNat*3))≠some w9.heap.size/\(∀oL,oL=aK iq (ae (aB w1) ((x6:Int).toNat*3)) [jT,lJ,gx]->
 ∃n8,n8<n4/\aL [aw,ao,au]/\I3 n8 ((ak (x6+1))) oL))))))
 (Br (((ak (Int.tdiv x6 2)):Int)==1)
 (Sw bJ w9 #[bk,(ak (bA+(ak ((ak (2*(Int.tmod x6 2)))-1)))),bS] λkP=>
 Br (((ak (Int.tdiv x6 2)):Int)==2)
 (Sw kP w9 #[bk,(ak (bA+(ak ((ak (2*(Int.tmod x6 2)))-1)))),(ak (bS+(ak ((ak (2*(Int.tmod x6 2)))-1))))] λjS=>
 ah 160 #[.agg #[bk,(ak (bA+(ak ((ak (2*(Int.tmod x6 2)))-1)))),(ak (bS+(ak ((ak (2*(Int.tmod x6 2)))-1))))]] jS (jo λow qw lK iR=>K2 w w9 jS iR (
 (0:Int)<=x6/\x6<((6:Nat):Int)/\(true=true/\Wr iR (ae (aB w1) ((x6:Int).toNat*3)) 3)/\bt (ae (aB w1) ((x6:Int).toNat*3))≠some w.heap.size/\bt (ae (aB w1) ((x6:Int).toNat*3))≠some w9.heap.size/\(∀yP,yP=aK iR (ae (aB w1) ((x6:Int).toNat*3)) [ow,qw,lK]->
 ∃n8,n8<n4/\aL [aw,ao,au]/\I3 n8 ((ak (x6+1))) yP))))
 (ah 160 #[.agg #[bk,(ak (bA+(ak ((ak (2*(Int.tmod x6 2)))-1)))),bS]] kP (jo λqF yL HN oM=>K2 w w9 kP oM (
 (0:Int)<=x6/\x6<((6:Nat):Int)/\(true=true/\Wr oM (ae (aB w1) ((x6:Int).toNat*3)) 3)/\bt (ae (aB w1) ((x6:Int).toNat*3))≠some w.heap.size/\bt (ae (aB w1) ((x6:Int).toNat*3))≠some w9.heap.size/\(∀lR,lR=aK oM (ae (aB w1) ((x6:Int).toNat*3)) [qF,yL,HN]->
 ∃n8,n8<n4/\aL [aw,ao,au]/\I3 n8 ((ak (x6+1))) lR)))))
 (Br (((ak (Int.tdiv x6 2)):Int)==2)
 (Sw bJ w9 #[bk,bA,(ak (bS+(ak ((ak (2*(Int.tmod x6 2)))-1))))] λvX=>
 ah 160 #[.agg #[bk,bA,(ak (bS+(ak ((ak (2*(Int.tmod x6 2)))-1))))]] vX (jo λiT qx mz Q1=>K2 w w9 vX Q1 (
 (0:Int)<=x6/\x6<((6:Nat):Int)/\(true=true/\Wr Q1 (ae (aB w1) ((x6:Int).toNat*3)) 3)/\bt (ae (aB w1) ((x6:Int).toNat*3))≠some w.heap.size/\bt (ae (aB w1) ((x6:Int).toNat*3))≠some w9.heap.size/\(∀qy,qy=aK Q1 (ae (aB w1) ((x6:Int).toNat*3)) [iT,qx,mz]->
 ∃n8,n8<n4/\aL [aw,ao,au]/\I3 n8 ((ak (x6+1))) qy))))
 (ah 160 #[.agg #[bk,bA,bS]] bJ (jo λyA qG my nQ=>K2 w w9 bJ nQ (
 (0:Int)<=x6/\x6<((6:Nat):Int)/\(true=true/\Wr nQ (ae (aB w1) ((x6:Int).toNat*3)) 3)/\bt (ae (aB w1) ((x6:Int).toNat*3))≠some w.heap.size/\bt (ae (aB w1) ((x6:Int).toNat*3))≠some w9.heap.size/\(∀pG,pG=aK nQ (ae (aB w1) ((x6:Int).toNat*3)) [yA,qG,my]->
 ∃n8,n8<n4/\aL [aw,ao,au]/\I3 n8 ((ak (x6+1))) pG))))))))
 (∃(ov tY AR rJ nR pB oN qH pP oy oz nO wh vY yB HL Ea AL:Int),af w7 (aB w1) 0 [ov,tY,AR,rJ,nR,pB,oN,qH,pP,oy,oz,nO,wh,vY,yB,HL,Ea,AL]/\
 Wt w7 ⟨w0,0,none⟩ 18/\Nb w0 w/\(∀vG,vG=aK w7 (aB w0) [ov,tY,AR,rJ,nR,pB,oN,qH,pP,oy,oz,nO,wh,vY,yB,HL,Ea,AL]->
 ∃(vF tN v5 B8 B9 Q5 ve x88 VE x90 Hu Eb yD Zm EG EH EI Mp:Int),af vG (aB w0) 0 [vF,tN,v5,B8,B9,Q5,ve,x88,VE,x90,Hu,Eb,yD,Zm,EG,EH,EI,Mp]/\
 R (Value.agg #[vF,tN,v5,B8,B9,Q5,ve,x88,VE,x90,Hu,Eb,yD,Zm,EG,EH,EI,Mp]) vG))):ah 112 #[.agg #[aw,ao,au]] w R:=
 cq ⟨[(3,⟨[(4,.int .i64)],[],[]⟩)],[],[]⟩ Tryz.func112 h
def YO.vc(h:
 Aw w #[aw,ao,au] 41 λw0=>
 Aw w0 #[aa,aa,aa,aa,aa,aa] 107 λw1=>
 ah 160 #[.agg #[aw,ao,au]] w1 (jo λx3 x4 x5 w2=>K2 w w0 w1 w2 (
 Aw w2 #[aa,aa,aa] 41 λw6=>
 Sw w6 w2 #[x3,x4,x5] λw7=>
 Aw w7 #[aa,aa,aa] 28 λw8=>
 Sw w8 w7 #[(ak (x3*65536)),(ak (x4*65536)),(ak (x5*65536))] λw9=>
 ah 85 #[.agg #[(ak (x3*65536)),(ak (x4*65536)),(ak (x5*65536))],.agg #[(65536:Int),(65536:Int),(65536:Int)]] w9.drew (jo λbA bS cn bN=>K4 w w0 w2 w7 w9.drew bN (
 af bN (aB w7) 0 [(ak (x3*65536)),(ak (x4*65536)),(ak (x5*65536))]/\Sw bN w0 #[(ak (x3*65536)),(ak (x4*65536)),(ak (x5*65536)),bA,bS,cn] λbJ=>
 R (Value.agg #[(ak (x3*65536)),(ak (x4*65536)),(ak (x5*65536)),bA,bS,cn]) bJ))))):ah 126 #[.agg #[aw,ao,au]] w R:=
 cq bU Tryz.func126 h
def TJ.vc(h:
 Aw w #[aw,ao,au,aP,aQ,aR] 107 λw0=>
 Aw w0 #[aa,aa,aa] 41 λw1=>
 Aw w1 #[aa,aa,aa] 41 λw2=>
 Aw w2 #[aa,aa,aa] 246 λw3=>
 Aw w3 #[aa,aa,aa] 246 λw4=>
 ∃I5:Nat->Int->World->Prop,
 (∃n6,aL [aw,ao,au,aP,aQ,aR]/\aL [aa,aa,aa]/\aL [aa,aa,aa]/\I5 n6 (0) w4)/\
 ∀(n6:Nat)(us7:Nat->Value)(x8:Int)(w9:World),I5 n6 x8 w9->
 Br (x8<3)
 (ah 180 #[.agg #[aw,ao,au],x8] w9 (Ri λbS bc=>K3 w w0 w1 w9 bc (
 ah 180 #[.agg #[aP,aQ,aR],x8] bc (Ri λbW bG=>K3 w w0 w1 bc bG (
 ah 84 #[bS] bG (Ri λcp eu=>K3 w w0 w1 bG eu (
 (0:Int)<=x8/\x8<((3:Nat):Int)/\(true=true/\Wr eu (ae (aB w2) ((x8:Int).toNat*1)) 1)/\bt (ae (aB w2) ((x8:Int).toNat*1))≠some w.heap.size/\bt (ae (aB w2) ((x8:Int).toNat*1))≠some w0.heap.size/\bt (ae (aB w2) ((x8:Int).toNat*1))≠some w1.heap.size/\(∀cJ,cJ=aK eu (ae (aB w2) ((x8:Int).toNat*1)) [cp]->
 ah 84 #[bW] cJ (Ri λcr du=>K3 w w0 w1 cJ du (
 (0:Int)<=x8/\x8<((3:Nat):Int)/\(true=true/\Wr du (ae (aB w3) ((x8:Int).toNat*1)) 1)/\bt (ae (aB w3) ((x8:Int).toNat*1))≠some w.heap.size/\bt (ae (aB w3) ((x8:Int).toNat*1))≠some w0.heap.size/\bt (ae (aB w3) ((x8:Int).toNat*1))≠some w1.heap.size/\(∀ef,ef=aK du (ae (aB w3) ((x8:Int).toNat*1)) [cr]->
 (0:Int)<=x8/\x8<((3:Nat):Int)/\∃(dh:Int),ld ef.drew (ae (aB w3) ((x8:Int).toNat*1))=some (.int .i64 dh)/\
 Br (((ak (dh*65536)):Int)==bW)
 ((0:Int)<=x8/\x8<((3:Nat):Int)/\∃(dJ:Int),ld ef.drew (ae (aB w3) ((x8:Int).toNat*1))=some (.int .i64 dJ)/\
 (0:Int)<=x8/\x8<((3:Nat):Int)/\∃(dA:Int),ld ef.drew (ae (aB w2) ((x8:Int).toNat*1))=some (.int .i64 dA)/\
 Br (dJ>dA)
 ((0:Int)<=x8/\x8<((3:Nat):Int)/\∃(eG:Int),ld ef.drew (ae (aB w3) ((x8:Int).toNat*1))=some (.int .i64 eG)/\
 (0:Int)<=x8/\x8<((3:Nat):Int)/\(true=true/\Wr ef.drew (ae (aB w3) ((x8:Int).toNat*1)) 1)/\bt (ae (aB w3) ((x8:Int).toNat*1))≠some w.heap.size/\bt (ae (aB w3) ((x8:Int).toNat*1))≠some w0.heap.size/\bt (ae (aB w3) ((x8:Int).toNat*1))≠some w1.heap.size/\(∀cV,cV=aK ef.drew (ae (aB w3) ((x8:Int).toNat*1)) [(ak (eG-1))]->
 Br (bS==bW)
 ((0:Int)<=x8/\x8<((3:Nat):Int)/\∃(fE:Int),ld cV (ae (aB w2) ((x8:Int).toNat*1))=some (.int .i64 fE)/\
 Br (((ak (fE*65536)):Int)==bS)
 (Sw cV w0 #[aa,aa,aa] λeB=>
 Sw eB w1 #[aa,aa,aa] λgQ=>
 R (Value.tuple #[.agg #[aa,aa,aa],.agg #[aa,aa,aa],false]) gQ)
 (∃EC,EC<n6/\aL [aw,ao,au,aP,aQ,aR]/\aL [aa,aa,aa]/\aL [aa,aa,aa]/\I5 EC ((ak (x8+1))) cV))
 (∃EC,EC<n6/\aL [aw,ao,au,aP,aQ,aR]/\aL [aa,aa,aa]/\aL [aa,aa,aa]/\I5 EC ((ak (x8+1))) cV)))
 (Br (bS==bW)
 ((0:Int)<=x8/\x8<((3:Nat):Int)/\∃(gr:Int),ld ef.drew (ae (aB w2) ((x8:Int).toNat*1))=some (.int .i64 gr)/\
 Br (((ak (gr*65536)):Int)==bS)
 (Sw ef.drew w0 #[aa,aa,aa] λfw=>
 Sw fw w1 #[aa,aa,aa] λgA=>
 R (Value.tuple #[.agg #[aa,aa,aa],.agg #[aa,aa,aa],false]) gA)
 (∃EC,EC<n6/\aL [aw,ao,au,aP,aQ,aR]/\aL [aa,aa,aa]/\aL [aa,aa,aa]/\I5 EC ((ak (x8+1))) ef.drew))
 (∃EC,EC<n6/\aL [aw,ao,au,aP,aQ,aR]/\aL [aa,aa,aa]/\aL [aa,aa,aa]/\I5 EC ((ak (x8+1))) ef.drew)))
 (Br (bS==bW)
 ((0:Int)<=x8/\x8<((3:Nat):Int)/\∃(il:Int),ld ef.drew (ae (aB w2) ((x8:Int).toNat*1))=some (.int .i64 il)/\
 Br (((ak (il*65536)):Int)==bS)
 (Sw ef.drew w0 #[aa,aa,aa] λeP=>
 Sw eP w1 #[aa,aa,aa] λiq=>
 R (Value.tuple #[.agg #[aa,aa,aa],.agg #[aa,aa,aa],false]) iq)
 (∃EC,EC<n6/\aL [aw,ao,au,aP,aQ,aR]/\aL [aa,aa,aa]/\aL [aa,aa,aa]/\I5 EC ((ak (x8+1))) ef.drew))
 (∃EC,EC<n6/\aL [aw,ao,au,aP,aQ,aR]/\aL [aa,aa,aa]/\aL [aa,aa,aa]/\I5 EC ((ak (x8+1))) ef.drew)))))))))))))
 ((0:Int)<=0/\(0:Int)<((3:Nat):Int)/\∃(jT:Int),ld w9.drew (ae (aB w2) ((0:Int).toNat*1))=some (.int .i64 jT)/\
 (0:Int)<=1/\(1:Int)<((3:Nat):Int)/\∃(lJ:Int),ld w9.drew (ae (aB w2) ((1:Int).toNat*1))=some (.int .i64 lJ)/\
 (0:Int)<=2/\(2:Int)<((3:Nat):Int)/\∃(gx:Int),ld w9.drew (ae (aB w2) ((2:Int).toNat*1))=some (.int .i64 gx)/\
 (0:Int)<=0/\(0:Int)<((3:Nat):Int)/\∃(gd:Int),ld w9.drew (ae (aB w3) ((0:Int).toNat*1))=some (.int .i64 gd)/\
 (0:Int)<=1/\(1:Int)<((3:Nat):Int)/\∃(kH:Int),ld w9.drew (ae (aB w3) ((1:Int).toNat*1))=some (.int .i64 kH)/\
 (0:Int)<=2/\(2:Int)<((3:Nat):Int)/\∃(lu:Int),ld w9.drew (ae (aB w3) ((2:Int).toNat*1))=some (.int .i64 lu)/\
 ((Sw w9.drew w0 #[jT,lJ,gx] λiR=>
 Sw iR w1 #[gd,kH,lu] λkO=>
 R (Value.tuple #[.agg #[jT,lJ,gx],.agg #[gd,kH,lu],true]) kO)/\(Sw w9.drew w0 #[jT,lJ,gx] λiH=>
 af iH (ae (aB w3) ((2:Int).toNat*1)) 0 [lu]/\af iH (ae (aB w3) ((1:Int).toNat*1)) 0 [kH]/\af iH (ae (aB w3) ((0:Int).toNat*1)) 0 [gd]/\Sw iH w1 #[gd,kH,lu] λkI=>
 R (Value.tuple #[.agg #[jT,lJ,gx],.agg #[gd,kH,lu],true]) kI))/\(Sw w9.drew w0 #[jT,lJ,gx] λyP=>
 Sw yP w1 #[gd,kH,lu] λoM=>
 R (Value.tuple #[.agg #[jT,lJ,gx],.agg #[gd,kH,lu],true]) oM))):ah 127 #[.agg #[aw,ao,au,aP,aQ,aR]] w R:=
 cq ⟨[(4,⟨[(7,.int .i64)],[],[]⟩)],[],[]⟩ Tryz.func127 h
def PH.vc(h:
 Aw w #[aw,ao,au,aP,aQ,aR] 107 λw0=>
 Aw w0 #[aq,ar,aA,bz,bR,bQ] 107 λw1=>
 ah 179 #[.agg #[aw,ao,au,aP,aQ,aR],.agg #[aq,ar,aA,bz,bR,bQ]] w1 (Rb λb3 w2=>K2 w w0 w1 w2 (
 R b3 w2))):ah 125 #[.agg #[aw,ao,au,aP,aQ,aR],.agg #[aq,ar,aA,bz,bR,bQ]] w R:=
 cq bU Tryz.func125 h
def Tp.vc(h:
 Aw w #[aw,ao,au] 28 λw0=>
 Aw w0 #[aa,aa,aa] 28 λw1=>
 ah 10 #[aw,(589825:Int)] w1.drew (Ri λx3 w2=>K2 w w0 w1.drew w2 (
 af w2 (dU w 2) 0 [au]/\af w2 (dU w 1) 0 [ao]/\ah 10 #[ao,(589825:Int)] w2 (Ri λx5 w4=>K2 w w0 w2 w4 (
 af w4 (dU w 2) 0 [au]/\ah 10 #[au,(589825:Int)] w4 (Ri λx7 w6=>K2 w w0 w4 w6 (
 Sw w6 w0 #[(ak (196608+x3)),(ak (589824+x5)),(ak (196608+x7))] λw8=>
 R (Value.agg #[(ak (196608+x3)),(ak (589824+x5)),(ak (196608+x7))]) w8))))))):ah 52 #[.agg #[aw,ao,au]] w R:=
 cq bU Tryz.func52 h
def PI.vc(h:
 Br (a0<0)
 (R a0 w)
 (ah 110 #[a0] w (λe w0=>∃(x1:Int),e=x1/\
 R x1 w0))):ah 56 #[a0] w R:=
 cq bU Tryz.func56 h
def PO.vc(h:
 Aw w #[aw,ao,au,aP,aQ,aR] 107 λw0=>
 ah 127 #[.agg #[aw,ao,au,aP,aQ,aR]] w0 (λe w1=>∃(x2 x3 x4 x5 x6 x7:Int)(b8:Bool),e=Value.tuple #[.agg #[x2,x3,x4],.agg #[x5,x6,x7],b8]/\Kp w w0 w1/\
 Aw w1 #[aa,aa,aa] 41 λw9=>
 Aw w9 #[aa,aa,aa] 41 λbN=>
 Sw bN w1 #[x2,x3,x4] λbc=>
 Sw bc w9 #[x5,x6,x7] λcU=>
 ∃I13:Nat->Int->Sl->World->Prop,
 (∃Cc,aL [aw,ao,au,aP,aQ,aR]/\aL [x2,x3,x4]/\aL [x5,x6,x7]/\I13 Cc x3 ⟨none,0,0⟩ cU)/\
 ∀(Cc:Nat)(aD2:Nat->Value)(cp:Int)(AX:Sl)(du:World),I13 Cc cp AX du->
 Br b8
 (Br (cp<=x6)
 (∃I20:Nat->Int->Sl->World->Prop,
 (∃Z6,aL [aw,ao,au,aP,aQ,aR]/\aL [x2,x3,x4]/\aL [x5,x6,x7]/\I20 Z6 x4 AX du)/\
 ∀(Z6:Nat)(aul:Nat->Value)(dA:Int)(tR:Sl)(cV:World),I20 Z6 dA tR cV->
 Br (dA<=x7)
 (∃I27:Nat->Int->Sl->World->Prop,
 (∃n28,aL [aw,ao,au,aP,aQ,aR]/\aL [x2,x3,x4]/\aL [x5,x6,x7]/\I27 n28 x2 tR cV)/\
 ∀(n28:Nat)(aD3:Nat->Value)(iM:Int)(s31:Sl)(lA:World),I27 n28 iM s31 lA->
 Br (iM<=x5)
 (Aw lA #[iM,cp,dA] 41 λiq=>
 ba 24 3 iq s31 1 [iM,cp,dA]/\∀(Mr:Sl)(jN:World),aX 41 3 iq s31 1 [iM,cp,dA] Mr jN->K4 w w1 w9 lA iq jN (
 ∃n33,n33<n28/\aL [aw,ao,au,aP,aQ,aR]/\aL [x2,x3,x4]/\aL [x5,x6,x7]/\I27 n33 ((ak (iM+1))) Mr jN))
 (∃n26,n26<Z6/\aL [aw,ao,au,aP,aQ,aR]/\aL [x2,x3,x4]/\aL [x5,x6,x7]/\I20 n26 ((ak (dA+1))) s31 lA))
 (∃Z7,Z7<Cc/\aL [aw,ao,au,aP,aQ,aR]/\aL [x2,x3,x4]/\aL [x5,x6,x7]/\I13 Z7 ((ak (cp+1))) tR cV))
 (R AX du))
 (R AX du))):ah 69 #[.agg #[aw,ao,au,aP,aQ,aR]] w R:=
 cq ⟨[(10,⟨[(9,.int .i64),(6,.slice)],[],[]⟩),(7,⟨[(8,.int .i64),(6,.slice)],[],[]⟩),(4,⟨[(7,.int .i64),(6,.slice)],[],[]⟩)],[],[]⟩ Tryz.func69 h
def PQ.vc{a0:Sl}(h:
 ∃I0:Nat->Int->World->Prop,
 (∃n1,I0 n1 (0) w)/\
 ∀(n1:Nat)(wg:Nat->Value)(x3:Int)(w4:World),I0 n1 x3 w4->
 Br (decide (x3<((a0.n:Nat):Int)))
 (ez a0.a x3 a0.n/\∃(x6:Int),ld w4 (ae a0.a ((x3:Int).toNat*1))=some (.int .i64 x6)/\
 Br (x6 !=(-1))
 (ez a0.a x3 a0.n/\∃(x7:Int),ld w4 (ae a0.a ((x3:Int).toNat*1))=some (.int .i64 x7)/\
 ah 114 #[x7] w4 (λe w8=>∃(b9:Bool),e=b9/\
 Br b9
 (R true w8)
 (∃n5,n5<n1/\I0 n5 ((ak (x3+1))) w8)))
 (∃n5,n5<n1/\I0 n5 ((ak (x3+1))) w4))
 (R false w4)):ah 71 #[a0] w R:=
 cq ⟨[(2,⟨[(3,.int .i64)],[],[]⟩)],[],[]⟩ Tryz.func71 h
def LP.vc(h:
 Br (a0<0)
 (∃I0:Nat->Int->Sl->Int->World->Prop,
 (∃n1,I0 n1 (0) ⟨none,0,0⟩ (1099511627776) w)/\
 ∀(n1:Nat)(wg:Nat->Value)(x3:Int)(s4:Sl)(x5:Int)(w6:World),I0 n1 x3 s4 x5 w6->
 Br (x3<6)
 (aS (L8 x5) (Aw w6 #[.int .u8 (fi (Int.tmod (ak (Int.tdiv (ak (a0+281474976710656)) x5)) 256))] 5 λw8=>
 ba 1 1 w8 s4 1 [.int .u8 (fi (Int.tmod (ak (Int.tdiv (ak (a0+281474976710656)) x5)) 256))]/\∀(s9:Sl)(bN:World),aX 5 1 w8 s4 1 [.int .u8 (fi (Int.tmod (ak (Int.tdiv (ak (a0+281474976710656)) x5)) 256))] s9 bN->Kp w6 w8 bN/\
 ∃n7,n7<n1/\I0 n7 ((ak (x3+1))) s9 ((ak (Int.tdiv x5 256))) bN))
 (R s4 w6))
 (∃I11:Nat->Int->Sl->Int->World->Prop,
 (∃HP,I11 HP (0) ⟨none,0,0⟩ (1099511627776) w)/\
 ∀(HP:Nat)(awU:Nat->Value)(bW:Int)(mA:Sl)(cp:Int)(cJ:World),I11 HP bW mA cp cJ->
 Br (bW<6)
 (aS (L8 cp) (Aw cJ #[.int .u8 (fi (Int.tmod (ak (Int.tdiv a0 cp)) 256))] 5 λgn=>
 ba 1 1 gn mA 1 [.int .u8 (fi (Int.tmod (ak (Int.tdiv a0 cp)) 256))]/\∀(vH:Sl)(eU:World),aX 5 1 gn mA 1 [.int .u8 (fi (Int.tmod (ak (Int.tdiv a0 cp)) 256))] vH eU->Kp cJ gn eU/\
 ∃n18,n18<HP/\I11 n18 ((ak (bW+1))) vH ((ak (Int.tdiv cp 256))) eU))
 (R mA cJ))):ah 89 #[a0] w R:=
 cq ⟨[(6,⟨[(5,.int .i64),(3,.slice),(4,.int .i64)],[],[]⟩),(6,⟨[(5,.int .i64),(3,.slice),(4,.int .i64)],[],[]⟩)],[],[]⟩ Tryz.func89 h
def Im.vc{a0:Sl}(h:
 ∃I0:Nat->Int->Sl->World->Prop,
 (∃n1,I0 n1 (0) ⟨none,0,0⟩ w)/\
 ∀(n1:Nat)(wg:Nat->Value)(x3:Int)(s4:Sl)(w5:World),I0 n1 x3 s4 w5->
 Br (decide (x3<((a0.n:Nat):Int)))
 (ez a0.a x3 a0.n/\∃(x7:Int),ld w5 (ae a0.a ((x3:Int).toNat*1))=some (.int .i64 x7)/\
 ah 89 #[x7] w5 (λe w8=>∃(s9:Sl),e=s9/\
 ∃l10:LV,Rd w8 s9.a l10/\ba 1 1 w8 s4 s9.n l10/\∀(Cb:Sl)(cU:World),aX 5 1 w8 s4 s9.n l10 Cb cU->
 ∃n6,n6<n1/\I0 n6 ((ak (x3+1))) Cb cU))
 (R s4 w5)):ah 90 #[a0] w R:=
 cq ⟨[(3,⟨[(4,.int .i64),(3,.slice)],[],[]⟩)],[],[]⟩ Tryz.func90 h
def P5.vc{ao:Sl}{au:Sl}(h:
 Aw w #[aw,ao,au] 86 λw0=>
 ah 89 #[aw] w0 (Rs λs2 w1=>Kp w w0 w1/\
 Aw w1 #[.int .u8 (fi ((ao.n:Nat):Int))] 5 λw3=>
 ba 1 1 w3 s2 1 [.int .u8 (fi ((ao.n:Nat):Int))]/\∀(s4:Sl)(w5:World),aX 5 1 w3 s2 1 [.int .u8 (fi ((ao.n:Nat):Int))] s4 w5->K2 w w1 w3 w5 (
 ∃I6:Nat->Int->Sl->World->Prop,
 (∃n7,aL [aw,ao,au]/\aL [.int .u8 (fi ((ao.n:Nat):Int))]/\I6 n7 (0) s4 w5)/\
 ∀(n7:Nat)(us8:Nat->Value)(x9:Int)(yN:Sl)(bc:World),I6 n7 x9 yN bc->
 Br (decide (x9<((ao.n:Nat):Int)))
 (ez ao.a x9 ao.n/\aS (dK (ae ao.a ((x9:Int).toNat*10))) (∃(cn bW cD cp cZ cA cr cW:Int)(Mh:Bool),af bc (ae (ae ao.a ((x9:Int).toNat*10)) 1) 0 [cn,bW,cD,cp,cZ,cA,cr,cW,Mh]/\
 Aw bc #[aa,aa,aa,aa,aa,aa,aa,aa,false] 75 λey=>
 Sw ey bc #[cn,bW,cD,cp,cZ,cA,cr,cW,Mh] λeR=>
 ez ao.a x9 ao.n/\aS (dK (ae ao.a ((x9:Int).toNat*10))) (∃(eG:Int),ld eR (ae (ae ao.a ((x9:Int).toNat*10)) 0)=some (.int .i64 eG)/\
 Aw eR #[.int .u8 (fi eG)] 5 λcV=>
 ba 1 1 cV yN 1 [.int .u8 (fi eG)]/\∀(Q7:Sl)(eB:World),aX 5 1 cV yN 1 [.int .u8 (fi eG)] Q7 eB->K4 w w1 bc eR cV eB (
 Aw eB #[cn,bW,cD,cp,cZ,cA,cr,cW] 3 λgQ=>
 ah 90 #[.slice (aB eB) 8 8] gQ (Rs λtZ dX=>K4 w w1 bc eR gQ dX (
 ∃l31:LV,Rd dX tZ.a l31/\ba 1 1 dX Q7 tZ.n l31/\∀(vZ:Sl)(eP:World),aX 5 1 dX Q7 tZ.n l31 vZ eP->K4 w w1 bc eR dX eP (
 Br Mh
 (Aw eP #[.int .u8 (fi 1)] 5 λiq=>
 ba 1 1 iq vZ 1 [.int .u8 (fi 1)]/\∀(Mr:Sl)(jN:World),aX 5 1 iq vZ 1 [.int .u8 (fi 1)] Mr jN->K5 w w1 bc eR eP iq jN (
 ∃HP,HP<n7/\aL [aw,ao,au]/\aL [.int .u8 (fi ((ao.n:Nat):Int))]/\I6 HP ((ak (x9+1))) Mr jN))
 (Aw eP #[.int .u8 (fi 0)] 5 λiN=>
 ba 1 1 iN vZ 1 [.int .u8 (fi 0)]/\∀(s38:Sl)(kP:World),aX 5 1 iN vZ 1 [.int .u8 (fi 0)] s38 kP->K5 w w1 bc eR eP iN kP (
 ∃HP,HP<n7/\aL [aw,ao,au]/\aL [.int .u8 (fi ((ao.n:Nat):Int))]/\I6 HP ((ak (x9+1))) s38 kP)))))))))
 (Aw bc #[.int .u8 (fi (ak (Int.tdiv (if 2000<((au.n:Nat):Int) then 2000 else ((au.n:Nat):Int)) 256))),.int .u8 (fi (Int.tmod (if 2000<((au.n:Nat):Int) then 2000 else ((au.n:Nat):Int)) 256))] 5 λjS=>
 ba 1 1 jS yN 2 [.int .u8 (fi (ak (Int.tdiv (if 2000<((au.n:Nat):Int) then 2000 else ((au.n:Nat):Int)) 256))),.int .u8 (fi (Int.tmod (if 2000<((au.n:Nat):Int) then 2000 else ((au.n:Nat):Int)) 256))]/\∀(Mg:Sl)(kO:World),aX 5 1 jS yN 2 [.int .u8 (fi (ak (Int.tdiv (if 2000<((au.n:Nat):Int) then 2000 else ((au.n:Nat):Int)) 256))),.int .u8 (fi (Int.tmod (if 2000<((au.n:Nat):Int) then 2000 else ((au.n:Nat):Int)) 256))] Mg kO->K3 w w1 bc jS kO (
 ∃I43:Nat->Int->Sl->World->Prop,
 (∃n44,aL [aw,ao,au]/\aL [.int .u8 (fi ((ao.n:Nat):Int))]/\aL [.int .u8 (fi (ak (Int.tdiv (if 2000<((au.n:Nat):Int) then 2000 else ((au.n:Nat):Int)) 256))),.int .u8 (fi (Int.tmod (if 2000<((au.n:Nat):Int) then 2000 else ((au.n:Nat):Int)) 256))]/\I43 n44 (0) Mg kO)/\
 ∀(n44:Nat)(aD4:Nat->Value)(g8:Int)(EJ:Sl)(gf:World),I43 n44 g8 EJ gf->
 Br (decide (g8<(if 2000<((au.n:Nat):Int) then 2000 else ((au.n:Nat):Int))))
 (ez au.a g8 au.n/\aS (dK (ae au.a ((g8:Int).toNat*4))) (∃(vh nE mJ:Int),af gf (ae (ae au.a ((g8:Int).toNat*4)) 1) 0 [vh,nE,mJ]/\
 Aw gf #[aa,aa,aa] 41 λQ8=>
 Sw Q8 gf #[vh,nE,mJ] λHs=>
 ez au.a g8 au.n/\aS (dK (ae au.a ((g8:Int).toNat*4))) (∃(mz:Int),ld Hs.drew (ae (ae au.a ((g8:Int).toNat*4)) 0)=some (.int .i64 mz)/\
 Aw Hs.drew #[mz,vh,nE,mJ] 3 λqy=>
 ah 90 #[.slice (aB Hs.drew.heap.size) 4 4] qy (Rs λnu nQ=>K4 w w1 bc gf qy nQ (
 af nQ (dU w 2) 0 [au]/\∃l59:LV,Rd nQ nu.a l59/\ba 1 1 nQ EJ nu.n l59/\∀(Up:Sl)(pG:World),aX 5 1 nQ EJ nu.n l59 Up pG->K4 w w1 bc gf nQ pG (
 af pG (dU w 2) 0 [au]/\∃n49,n49<n44/\aL [aw,ao,au]/\aL [.int .u8 (fi ((ao.n:Nat):Int))]/\aL [.int .u8 (fi (ak (Int.tdiv (if 2000<((au.n:Nat):Int) then 2000 else ((au.n:Nat):Int)) 256))),.int .u8 (fi (Int.tmod (if 2000<((au.n:Nat):Int) then 2000 else ((au.n:Nat):Int)) 256))]/\I43 n49 ((ak (g8+1))) Up pG))))))
 (R EJ gf)))))):ah 34 #[.agg #[aw,ao,au]] w R:=
 cq ⟨[(16,⟨[(8,.int .i64),(3,.slice)],[],[]⟩),(4,⟨[(4,.int .i64),(3,.slice)],[],[]⟩)],[],[]⟩ Tryz.func34 h
def tK.vc{c0:Addr}(h:
 Br (!((none:Option Addr)).isNone)
 (aS (dK (none:Option Addr)) (aS (dK (none:Option Addr)) (∃(x0 x1 x2 x3 x4 x5 x6 x7:Int)(b8:Bool),af w.drew (ae (none:Option Addr) 0) 0 [x0,x1,x2,x3,x4,x5,x6,x7,b8]/\
 ∃(x9 bk bA bS cn bW:Int),af w.drew (some c0) 0 [x9,bk,bA,bS,cn,bW]/\
 ah 48 #[.agg #[x0,x1,x2,x3,x4,x5,x6,x7,b8]] w.drew (λe eu=>∃(cp cZ cA cr cW dh:Int),e=Value.agg #[cp,cZ,cA,cr,cW,dh]/\
 af eu (some c0) 0 [x9,bk,bA,bS,cn,bW]/\ah 124 #[.agg #[cp,cZ,cA,cr,cW,dh],.agg #[x9,bk,bA,bS,cn,bW]] eu (λe ey=>∃(Cd:Bool),e=Cd/\
 R Cd ey)))))
 (R false w.drew)):ah 123 #[.pointer (none:Option Addr),c0] w R:=
 cq bU Tryz.func123 h
def Dx(h:Tk):Ce × Bool:=if 0<=h.2.2.1/\h.2.2.1<6 then ((sa h.1).getD h.2.2.1.toNat (0,0,0),true) else ((0,0,0),false)
def P3(h:Tk)(hc:eW h.1)(w:World):ah 109 #[X6 h] w λe w'=>e=Value.tuple #[eg (Dx h).1,.bool (Dx h).2]/\Ext w w':=by
 obtain ⟨c,b,f,t⟩:=h;apply Sk.vc;intro w0 e0 w1 e1;have x0:=aT e0;have z0:=zA e0;have r0:∃τ,Row w0 w [c.1,c.2.1,c.2.2,b,f,t] τ:=⟨_,by rw [e0];exact Row.new w [_,_,_,_,_,_] _⟩;have x1:=aT e1;have z1:=zA e1;have kG:=x0.tr x1;have hd:=mN w1;obtain ⟨τ,r0⟩:=r0;unfold Dx;simp only;refine Br.mk (λh=>λw2 e2=> ?_) (λh=>Br.mk (λh2=>λw3 e3=> ?_) (λh2=>(jn c hc w1.drew).mono ?_))
 ·have h:=dn h;rw [if_neg ab];exact ⟨rfl,kG.ag e2 ab⟩
 ·have h2:=dn h2;rw [if_neg ab];exact ⟨rfl,kG.ag e3 ab⟩
 ·have h:=dn h;have h2:=dn h2;obtain ⟨k,rfl⟩:∃k:Nat,f=k:=⟨f.toNat,by omega⟩;rw [if_pos ab,eC];rintro e w4 ⟨rfl,x4⟩;have z4:=x4.size;refine ⟨_,_,_,_,_,_,_,_,_,_,_,_,_,_,_,_,_,_,rfl,x4.heap ab,x4.heap ab,nJ (r0.ext (x1.tr ((Ext.dr w1).tr x4))) rfl,⟨by omega,by omega⟩,((sa c).getD k (0,0,0)).1,((sa c).getD k (0,0,0)).2.1,((sa c).getD k (0,0,0)).2.2,?_,λfb yI=>⟨rfl,(kG.tr ((Ext.dr w1).tr x4)).ag yI ab⟩⟩;have:k=0\/k=1\/k=2\/k=3\/k=4\/k=5:=by omega
  rcases this with rfl|rfl|rfl|rfl|rfl|rfl<;>rfl
def ky(b:dE):Ce:=jK b.aE (0,Int.tdiv (b.ht*4) 5,0)
def G4(b:dE)(hh: -1000000000<=b.ht/\b.ht<=1000000000)(w:World):ah 88 #[Dp b] w λe w'=>e=(eg (ky b))/\Ext w w':=by
 apply H8.vc;intro w0 e0 w1 e1;have x0:=aT e0;have z0:=zA e0;have x1:=aT e1;have z1:=zA e1;have e4:ak (Int.tdiv (ak (b.ht*4)) 5)=Int.tdiv (b.ht*4) 5:=by
  have h5: -4000000000<=Int.tdiv (b.ht*4) 5/\Int.tdiv (b.ht*4) 5<=4000000000:=by
   rcases Int.le_total 0 (b.ht*4) with h|h
   ·rw [qT h];omega
   ·have e:b.ht*4= -(-(b.ht*4)):=by omega
    rw [e,Int.neg_tdiv,qT ab];omega
  rw [aM (n:=b.ht*4) (by unfold bT;omega),wI]
 rw [e4];refine (jt b.aE (0,Int.tdiv (b.ht*4) 5,0) w1).mono ?_;rintro e w2 ⟨rfl,x2⟩;have z2:=x2.size;exact ⟨_,_,_,rfl,x2.heap ab,x2.heap ab,λw6 e6=>⟨rfl,(x0.tr (x1.tr x2)).ag e6 ab⟩⟩
def sY(c:Ce):Bx:=((nL c.1,nL c.2.1,nL c.2.2),jK (nL c.1,nL c.2.1,nL c.2.2) (65536,65536,65536))
def Ws(c:Ce)(w:World):ah 121 #[eg c] w λe w'=>e=(qS (sY c))/\Ext w w':=by
 apply aba.vc;intro w0 e0 w1 e1;have x0:=aT e0;have z0:=zA e0;have r0:∃τ,Row w0 w [c.1,c.2.1,c.2.2] τ:=⟨_,by rw [e0];exact Row.new w [_,_,_] _⟩;have x1:=aT e1;have z1:=zA e1;have hd:=mN w1;obtain ⟨τ,r0⟩:=r0;have r1:=r0.ext (x1.tr (Ext.dr w1));have kG:=x0.tr (x1.tr (Ext.dr w1));have last:∀v1 v2:World,v1=w1.drew.alloc (.cells #[aa,aa,aa] ic)->v2=v1.setRow w1.drew.heap.size #[(nL c.1),(nL c.2.1),(nL c.2.2)]->
   ah 145 #[eg (nL c.1,nL c.2.1,nL c.2.2),eg (65536,65536,65536)] v2.drew λe bN=>∃x y z:Int,e=Value.agg #[x,y,z]/\bN.heap[w.heap.size]? =v2.drew.heap[w.heap.size]?/\bN.heap[w0.heap.size]? =v2.drew.heap[w0.heap.size]?/\bN.heap[w1.drew.heap.size]? =v2.drew.heap[w1.drew.heap.size]?/\
    af bN (aB w1.drew.heap.size) 0 [(nL c.1),(nL c.2.1),(nL c.2.2)]/\∀bJ:World,bJ=bN.setRow w0 #[(nL c.1),(nL c.2.1),(nL c.2.2),x,y,z]->
    Ending.returned (.agg #[(nL c.1),(nL c.2.1),(nL c.2.2),x,y,z])=(qS (sY c))/\Ext w bJ:=by
  intro v1 v2 f1 f2;have y1:Ext w1.drew v2:=(aT f1).ag f2 (aD _);have s2:v2.drew.heap.size=w1.heap.size+1:=by show v2.heap.size=_;rw [zR f2,zA f1];rfl
  have rv:Row v2 w1.drew.heap.size [(nL c.1),(nL c.2.1),(nL c.2.2)] ic:=by rw [f2,f1];exact Row.set (Row.new w1.drew [_,_,_] _) [_,_,_]
  refine (jt (nL c.1,nL c.2.1,nL c.2.2) (65536,65536,65536) v2.drew).mono ?_;rintro e bN ⟨rfl,bk⟩;exact ⟨_,_,_,rfl,bk.heap ab,bk.heap ab,bk.heap ab,Lo.wv (rv.ext ((Ext.dr v2).tr bk)),λbJ vE=>⟨rfl,(kG.tr (y1.tr ((Ext.dr v2).tr bk))).ag vE ab⟩⟩
 have of1:∀(n:Int) {u:World} {R:Ending->World->Prop},R (.returned (.int .i64 (nL n))) u->ah 174 #[.int .i64 n] u R:=λn u R h=>(sk n u).mono (by rintro e w' ⟨rfl,rfl⟩;exact h)
 have l2:af w1.drew (dU w.heap.size 2) 0 [c.2.2]:=nJ r1 rfl;have l1:af w1.drew (dU w.heap.size 1) 0 [c.2.1]:=nJ r1 rfl;refine ⟨of1 _ ⟨_,rfl,rfl,rfl,l2,l1,of1 _ ⟨_,rfl,rfl,rfl,l2,of1 _ ⟨_,rfl,rfl,rfl,λw8 e8 w9 e9=>last _ _ e8 e9,λw8 e8 w9 e9=>last _ _ e8 e9⟩,λey HC=> ?_⟩,λgA e31=> ?_⟩,λkO Za=> ?_⟩
 ·exact of1 _ ⟨_,rfl,rfl,rfl,rfl,λcV tV=>last _ _ HC tV⟩
 ·have xa:=aT e31;exact of1 _ ⟨_,rfl,rfl,rfl,rfl,nJ (r1.ext xa) rfl,of1 _ ⟨_,rfl,rfl,rfl,rfl,λjN e36=>last _ _ e31 e36⟩⟩
 ·have xa:=aT Za;exact of1 _ ⟨_,rfl,rfl,rfl,rfl,nJ (r1.ext xa) rfl,nJ (r1.ext xa) rfl,of1 _ ⟨_,rfl,rfl,rfl,rfl,nJ (r1.ext xa) rfl,of1 _ ⟨_,rfl,rfl,rfl,rfl,λmI e49=>last _ _ Za e49⟩⟩⟩
def FE(c:Ce)(x:Option dQ):Bool:=match x with|some y=>iw y.1.box (sY c)|none=>false
def lN(L:List (Option dQ))(c:Ce):Bool:=L.any (FE c)
set_option maxHeartbeats 1000000 in
def RX{w:World}{a:Option Nat}{x:Option dQ}(ha:∀b,a=some b->∃y,x=some y/\Row w b (L9 y) lZ/\bT y.1.wd)(hn:a=none->x=none){c:Ce}{g:Nat}{τ:TypeId}(hg:Row w g (pK (sY c)) τ):
  ah 123 #[pA a,g] w λe w'=>e=Value.bool (FE c x)/\Ext w w':=by
 cases a with
 |none=>
  rw [hn rfl];apply tK.vc;exact fB rfl ⟨rfl,Ext.dr w⟩
 |some b=>
  obtain ⟨y,rfl,hr,hw⟩:=ha b rfl;apply (uE.vc (a0:=⟨b,0,none⟩));refine ⟨_,_,_,_,_,_,_,_,_,(hr.ext (Ext.dr w)).cg (vs:=jQ y.1) (o:=0) (λj hj=> ?_),_,_,_,_,_,_,Lo.wv (hg.ext (Ext.dr w)),(kD y.1 hw w.drew).mono ?_⟩
  ·have hj:j<9:=hj;have:j=0\/j=1\/j=2\/j=3\/j=4\/j=5\/j=6\/j=7\/j=8:=by omega
   rcases this with rfl|rfl|rfl|rfl|rfl|rfl|rfl|rfl|rfl<;>rfl
  rintro e eu ⟨rfl,cD⟩;refine ⟨_,_,_,_,_,_,rfl,Lo.wv (hg.ext ((Ext.dr w).tr cD)),(Au y.1.box (sY c) eu).mono ?_⟩;rintro e ey ⟨rfl,dJ⟩;exact ⟨_,rfl,rfl,(Ext.dr w).tr (cD.tr dJ)⟩
def pL(m:Int)(L:List (Option dQ)):Prop:=∀y,some y ∈ L->okB m y.1
def pL.up{m n:Int}{L:List (Option dQ)}(h:pL m L)(hn:m<=n):pL n L:=λy hy=>(h y hy).up hn
section
variable {F F':Nat->Prop} {w w':World} {g s o t:Nat} {M M':Sm} {occ:Value} {L:List (Option dQ)}
def EL.held{av:List (Option Nat)}(he:EL w av L){m:Int}(hL:pL m L){k:Nat}{a:Option Nat}(ha:av[k]? =some a):
  ∃x,L[k]? =some x/\(∀b,a=some b->∃y,x=some y/\Row w b (L9 y) lZ/\bT y.1.wd)/\(a=none->x=none):=by
 cases a with
 |none=>exact ⟨none,he.z k ha,λb hb=>(by cases hb),λ_=>rfl⟩
 |some b=>
  obtain ⟨y,hy,hr⟩:=he.s k b ha;exact ⟨some y,hy,λb' hb=>by cases hb;exact ⟨y,rfl,hr,(hL y (aU hy)).wdi⟩,λq=>(by cases q)⟩
set_option maxHeartbeats 1000000 in
def Nc{p:Value}{av:List (Option Nat)}{τ τ':TypeId}(hr:Row w g (p::av.map pA) τ)(he:EL w av L){m:Int}(hL:pL m L){c:Ce}{b:Nat}(hb:Row w b (pK (sY c)) τ'):
  ah 175 #[.slice (aJ (ae (some ⟨g,0,none⟩) 1) 0 16 1) (16-0) (16-0),.func (.func 123) #[] #[b]] w λe w'=>(∃n:Int,e=Value.int .i64 n/\decide (n>=0)=lN L c)/\Ext w w':=by
 apply (tE.vc (a0:=⟨aJ (ae (some ⟨g,0,none⟩) 1) 0 16 1,16-0,16-0⟩));rw [eo];refine ⟨λn x wr=>∃k:Nat,x=k/\k+n=16/\Ext w wr/\∀j,j<k->∀y,L[j]? =some y->FE c y=false,⟨16,0,rfl,rfl,Ext.cu _,λj hj=>by omega⟩,?_⟩;rintro n us x wr ⟨k,rfl,hk,xr,lq⟩;apply Br.mk<;>intro hq
 ·have hq:(k:Int)<((16-0:Nat):Int):=by simpa using hq
  obtain ⟨a,ha⟩:=bB (l:=av) (i:=k) (by have:=he.n;omega);obtain ⟨y,hy,h1,h2⟩:=he.held hL ha;refine ⟨⟨rfl,by omega,hq⟩,_,KW (hr.ext xr) ha,c9 (by kernel_rfl) rfl ((RX (a:=a) (x:=y) (λb' e=> ?_) h2 (hb.ext xr)).mono ?_)⟩
  ·obtain ⟨z,e1,e2,e3⟩:=h1 b' e;exact ⟨z,e1,e2.ext xr,e3⟩
  rintro e w7 ⟨rfl,x7⟩;refine ⟨_,rfl,Br.mk (λhm=>⟨⟨_,rfl,?_⟩,xr.tr x7⟩) (λhm=> ?_)⟩
  ·rw [decide_eq_true (by omega:(k:Int)>=0)];exact (List.any_eq_true.2 ⟨y,aU hy,hm⟩).symm
  ·have wk:=nY (j:=k);refine ⟨n-1,by omega,k+1,wk,by omega,xr.tr x7,λj hj z hz=> ?_⟩;by_cases q:j<k
   ·exact lq j q z hz
   ·rw [show j=k from by omega,hy] at hz;rw [<-Option.some.inj hz];exact hm
 ·have hq:¬(k:Int)<((16-0:Nat):Int):=by simpa using hq
  refine ⟨⟨_,rfl,?_⟩,xr⟩;rw [decide_eq_false aG];refine (List.any_eq_false.2 λy hy=> ?_).symm;obtain ⟨j,hj⟩:=List.mem_iff_getElem?.1 hy;have:=(cK.1 hj).1;have:=he.m;rw [lq j ab y hj];decide
def Jq{p:Value}{av:List (Option Nat)}{τ:TypeId}(hr:Row w g (p::av.map pA) τ)(he:EL w av L){m:Int}(hL:pL m L)(c:Ce):
  ah 66 #[g,eg c] w λe w'=>e=Value.bool (lN L c)/\Ext w w':=by
 apply xA.vc;intro w0 e0;have x0:=aT e0;have z0:=zA e0;refine (Ws c w0).mono ?_;rintro e w1 ⟨rfl,x1⟩;have z1:=x1.size;refine ⟨_,_,_,_,_,_,rfl,x1.heap ab,λw8 e8 w9 e9=> ?_⟩;have x9:Ext w1 w9:=(aT e8).ag e9 (aD _);have r9:∃τ',Row w9 w1 (pK (sY c)) τ':=⟨_,by rw [e9,e8];exact Row.set (Row.new w1 [_,_,_,_,_,_] _) [_,_,_,_,_,_]⟩;have z9:w9.heap.size=w1.heap.size+1:=by rw [zR e9,zA e8]
 obtain ⟨τ',r9⟩:=r9;have QG:=x0.tr (x1.tr x9);refine Calls.mono (qp.vc (a0:=⟨aJ (ae (aB g) 1) 0 16 1,16-0,16-0⟩) (R:=λe w'=>e=Value.bool (lN L c)/\Ext w9 w') ?_) ?_
 ·refine (Nc (hr.ext QG) (he.same λa ha=>QG.heap (he.lt ha)) hL r9).mono ?_;rintro e bN ⟨⟨n,rfl,hn⟩,bk⟩;exact ⟨n,rfl,by rw [hn],bk⟩
 ·rintro e bN ⟨rfl,bk⟩;exact ⟨_,rfl,bk.heap ab,rfl,QG.tr bk⟩
end
def Nd(a b:Ce)(n:Nat):Prop:=(-(n:Int)<=a.1-b.1/\a.1-b.1<=n)/\(-(n:Int)<=a.2.1-b.2.1/\a.2.1-b.2.1<=n)/\-(n:Int)<=a.2.2-b.2.2/\a.2.2-b.2.2<=n
def ajm(c:Ce)(i:Nat):Nd (nbN c i) c 1:=by unfold nbN Nd;split<;>(simp only;omega)
def aaO{d c0:Ce}{r:Int}:∀{n:Nat} {s:S3} {h0 h:Hi},h ∈ goK d c0 r n s h0->mD c0 h.1 r=true/\(h.2.1=h0.2.1\/0<=h.2.1/\h.2.1<6)/\Nd h.1 h0.1 n
 |0,s,h0,h,hm=>by cases hm
 |n+1,s,h0,h,hm=>by
  unfold goK at hm
  split at hm
  ·rename_i hw
   rcases cR.1 hm with rfl|hm
   ·exact ⟨hw,.inl rfl,by unfold Nd;omega⟩
   ·cases hq:gF d s h0 with
    |none=>rw [hq] at hm;cases hm
    |some q=>
     rw [hq] at hm
     obtain ⟨h1,h2,h3⟩:=aaO hm
     unfold gF at hq
     split at hq
     ·cases hq
     injection hq with hq
     refine ⟨h1,.inr ?_,?_⟩
     ·rcases h2 with h2|h2
      ·rw [h2,<-hq]
       have:=at3 s
       simp only
       split<;>omega
      ·exact h2
     ·have hn:Nd q.2.1 h0.1 1:=by rw [<-hq];exact ajm _ _
      unfold Nd at hn h3 ⊢;omega
  ·cases hm
def TI:Tk:=((0,0,0),0,0,0)
def cY(M:Sm)(L:List (Option dQ))(n:Int)(dW:Ce):Tk × Int:=
 match cC L n with
 |none=>(TI,6)
 |some y=>if (iK (fx M.T.2) (ky y.1) dW 5).2=false then (TI,13) else if (iK (fx M.T.2) (ky y.1) dW 5).1.2.1= -1 then (TI,11) else ((iK (fx M.T.2) (ky y.1) dW 5).1,0)
def G1{b:dE}{m:Int}(h:okB m b)(hm:m<=99970000000000):(-1600000000<=(bw (eT (ky b))).1/\(bw (eT (ky b))).1<=1600000000)/\(-1600000000<=(bw (eT (ky b))).2.1/\(bw (eT (ky b))).2.1<=1600000000)/\-1600000000<=(bw (eT (ky b))).2.2/\(bw (eT (ky b))).2.2<=1600000000:=by
 obtain ⟨⟨h1,h2,h3⟩,-,h5,-⟩:=h;have ht:0<=Int.tdiv (b.ht*4) 5/\Int.tdiv (b.ht*4) 5<=1000000:=by rw [qT ab];omega
 have e1:(bw (eT (ky b))).1=bV (dz (fI b.aE.1 0)):=rfl;have e2:(bw (eT (ky b))).2.1=bV (dz (fI b.aE.2.1 (Int.tdiv (b.ht*4) 5))):=rfl;have e3:(bw (eT (ky b))).2.2=bV (dz (fI b.aE.2.2 0)):=rfl;rw [e1,e2,e3];unfold bV fI dz;omega
def B3{a b r:Int}(h:sL a b r=true)(ha: -4000000000<=a/\a<=4000000000)(hb: -4000000000<=b/\b<=4000000000):a-b<=r/\b-a<=r:=by unfold sL at h;simp only [fy,cX] at h;rw [wI,wI] at h;exact h
def G3{f d:Ce}{r:Int}(hr:nk r<=5):∀h ∈ mi (eT f) (lp d) (nk r),(((bw (eT f)).1-h.1.1<=5/\h.1.1-(bw (eT f)).1<=5)/\((bw (eT f)).2.1-h.1.2.1<=5/\h.1.2.1-(bw (eT f)).2.1<=5)/\(bw (eT f)).2.2-h.1.2.2<=5/\h.1.2.2-(bw (eT f)).2.2<=5)/\(h.2.1= -1\/0<=h.2.1/\h.2.1<6):=by
 intro h hh;obtain ⟨h1,h2,h3⟩:=aaO hh;replace h3:Nd h.1 (bw (eT f)) _:=h3;have hc:=vt (eT f);have hn:((3*(nk r).toNat+2:Nat):Int)<=17:=by omega
 unfold Nd at h3;unfold mD at h1;simp only [fy] at h1;have q1:=B3 h1.1 ab ab;have q2:=B3 h1.2.1 ab ab;have q3:=B3 h1.2.2 ab ab;exact ⟨⟨by omega,by omega,by omega⟩,h2⟩
def NI{V:Ce->Int}{f d:Ce}{r:Int}(hr:nk r<=5){h:Tk}(e:iK V f d r=(h,true)):
  ((bw (eT f)).1-h.1.1<=5/\h.1.1-(bw (eT f)).1<=5)/\((bw (eT f)).2.1-h.1.2.1<=5/\h.1.2.1-(bw (eT f)).2.1<=5)/\((bw (eT f)).2.2-h.1.2.2<=5/\h.1.2.2-(bw (eT f)).2.2<=5)/\V h.1=h.2.1/\(h.2.2.1= -1\/0<=h.2.2.1/\h.2.2.1<6):=by
 unfold iK at e;split at e
 ·rename_i x hx;obtain ⟨⟨h1,h2,h3⟩,h4⟩:=G3 hr x (U0 hx);injection e with e1 e2;subst e1;exact ⟨h1,h2,h3,rfl,h4⟩
 ·injection e with e1 e2
  cases e2
def PZ{f d:Ce}{r:Int}(hr:nk r<=5)(hf:(-1600000000<=(bw (eT f)).1/\(bw (eT f)).1<=1600000000)/\(-1600000000<=(bw (eT f)).2.1/\(bw (eT f)).2.1<=1600000000)/\-1600000000<=(bw (eT f)).2.2/\(bw (eT f)).2.2<=1600000000):
  ∀h ∈ mi (eT f) (lp d) (nk r),qC h.1:=by
 intro h hh;obtain ⟨h1,-⟩:=G3 hr h hh;unfold qC bT;omega
def afw:nk 5=5:=by decide
section
variable {F F':Nat->Prop} {w w':World} {g s o t:Nat} {M M':Sm} {occ:Value} {L:List (Option dQ)}
def EL.at{av:List (Option Nat)}(he:EL w av L){k b:Nat}(ha:av[k]? =some (some b)):∃y,cC L k=some y/\some y ∈ L/\Row w b (L9 y) lZ:=by obtain ⟨y,hy,hr⟩:=he.s k b ha;refine ⟨y,?_,aU hy,hr⟩;unfold cC;rw [if_pos ab,eC,hy];rfl
def EL.at0{av:List (Option Nat)}(he:EL w av L){k:Nat}(ha:av[k]? =some none):cC L k=none:=by unfold cC;rw [if_pos ab,eC,he.z k ha];rfl
def US{b:Nat}{y:dQ}(hr:Row w b (L9 y) lZ):af w (ae (aB b) 0) 0 (jQ y.1):=by
 rw [bo];refine hr.cg (o:=0) λj hj=> ?_
 have hj:j<9:=hj;have:j=0\/j=1\/j=2\/j=3\/j=4\/j=5\/j=6\/j=7\/j=8:=by omega
 rcases this with rfl|rfl|rfl|rfl|rfl|rfl|rfl|rfl|rfl<;>rfl
def amX{b:Nat}{y:dQ}(hr:Row w b (L9 y) lZ):af w (ae (aB b) 9) 0 [y.2.1,y.2.2.1,.bool y.2.2.2]:=by
 rw [bo];refine hr.cg (o:=9) λj hj=> ?_
 have hj:j<3:=hj;have:j=0\/j=1\/j=2:=by omega
 rcases this with rfl|rfl|rfl<;>rfl
set_option maxHeartbeats 2000000 in
def A1(h:EF F w g s o t M occ L){m:Int}(hL:pL m L)(hm:m<=99970000000000)(n:Int)(dW:Ce):
  ah 32 #[g,n,eg dW] w λe w'=>e=Value.tuple #[X6 (cY M L n dW).1,.int .i64 (cY M L n dW).2]/\Ext w w':=by
 apply xK.vc;intro w0 e0 w1 e1;have x0:=aT e0;have z0:=zA e0;have r0:∃τ,Row w0 w (dO dW) τ:=⟨_,by rw [e0];exact Row.new w [_,_,_] _⟩;have x1:=aT e1;have z1:=zA e1;obtain ⟨τ,r0⟩:=r0;have r1:=r0.ext x1;have kG:=x0.tr x1;have h1:=h.ext kG;obtain ⟨av,dq,jP,-,-,-⟩:=h1.row;refine (Ev dq jP.n n).mono ?_;rintro e w2 ⟨a,rfl,AN,hc⟩;subst AN;refine ⟨_,rfl,rfl,rfl,?_⟩;rcases hc with ⟨k,rfl,hk,ha⟩|⟨wm,rfl⟩
 case inr=>
  refine yes rfl λw4 e4=>⟨?_,kG.ag e4 ab⟩
  unfold cY;rw [rf jP.m wm];rfl
 cases a with
 |none=>
  refine yes rfl λw4 e4=>⟨?_,kG.ag e4 ab⟩
  unfold cY;rw [jP.at0 ha];rfl
 |some b=>
  obtain ⟨y,hy,eV,Ug⟩:=jP.at ha;have oky:=hL y eV;refine fB rfl (gT rfl (gT rfl ?_));have xd:=Ext.dr w2;have hd:=mN w2;have eyn:=G1 oky hm;have hhb: -1000000000<=y.1.ht/\y.1.ht<=1000000000:=by have:=oky.2.2.1;omega
  have rG:cY M L k dW=if (iK (fx M.T.2) (ky y.1) dW 5).2=false then (TI,13) else if (iK (fx M.T.2) (ky y.1) dW 5).1.2.1= -1 then (TI,11) else ((iK (fx M.T.2) (ky y.1) dW 5).1,0):=by unfold cY;rw [hy]
  have castS:∀{u:World},Ext w2.drew u->ah 87 #[.func (.func 83) #[t] #[],eg (ky y.1),eg dW,(5:Int)] u λe w'=>e=Value.tuple #[X6 (iK (fx M.T.2) (ky y.1) dW 5).1,.bool (iK (fx M.T.2) (ky y.1) dW 5).2]/\Ext u w':=λ{u} xu=>
   Kg (h1.ext (xd.tr xu)).tl rfl (ky y.1) dW 5 ⟨by omega,by omega,by omega⟩ (PZ (by rw [afw];decide) eyn)
  generalize iK (fx M.T.2) (ky y.1) dW 5=ck at rG castS;obtain ⟨⟨⟨cx,cy,cz⟩,cb,cf,ct⟩,cq⟩:=ck;have fin:∀{u:World},Ext w2.drew u->Br (!cq)
    (∀fw:World,fw=u.setRow w0 #[aa,aa,aa,aa,aa,aa]->Ending.returned (.tuple #[.agg #[aa,aa,aa,aa,aa,aa],(13:Int)])=Value.tuple #[X6 (cY M L k dW).1,.int .i64 (cY M L k dW).2]/\Ext w fw)
    (Br (cb==(-1))
     (∀fw:World,fw=u.setRow w0 #[aa,aa,aa,aa,aa,aa]->Ending.returned (.tuple #[.agg #[aa,aa,aa,aa,aa,aa],(11:Int)])=Value.tuple #[X6 (cY M L k dW).1,.int .i64 (cY M L k dW).2]/\Ext w fw)
     (∀fw:World,fw=u.setRow w0 #[cx,cy,cz,cb,cf,ct]->Ending.returned (.tuple #[.agg #[cx,cy,cz,cb,cf,ct],(0:Int)])=Value.tuple #[X6 (cY M L k dW).1,.int .i64 (cY M L k dW).2]/\Ext w fw)):=by
   intro u xu;have xx:=kG.tr (xd.tr xu);rw [rG];refine Br.mk (λhb=>λfw Mc=>⟨?_,xx.ag Mc ab⟩) (λhb=>Br.mk (λj8=>λfw Mc=>⟨?_,xx.ag Mc ab⟩) (λj8=>λfw Mc=>⟨?_,xx.ag Mc ab⟩))
   ·have hb:cq=false:=by simpa using hb
    rw [if_pos hb];rfl
   ·have hb:cq=true:=by simpa using hb
    have j8:cb= -1:=by simpa using j8
    rw [if_neg (by simp [hb]),if_pos j8];rfl
   ·have hb:cq=true:=by simpa using hb
    have j8:¬cb= -1:=by simpa using j8
    rw [if_neg (by simp [hb]),if_neg j8]
  have wayL:∀{u:World},Ext w2.drew u->af u (some ⟨w.heap.size,0,none⟩) 0 (dO dW):=λxu=>Lo.wv (r1.ext (xd.tr xu))
  have bdyL:∀{u:World},Ext w2.drew u->af u (ae (some ⟨b,0,none⟩) 0) 0 (jQ y.1):=λxu=>US (Ug.ext (xd.tr xu))
  refine ⟨_,_,_,_,_,_,_,_,_,bdyL (Ext.cu _),?_,?_⟩
  ·refine (mc (h1.ext xd)).mono ?_;rintro e bJ ⟨rfl,alW⟩;subst alW;refine ⟨_,rfl,rfl,rfl,wayL (Ext.cu _),bdyL (Ext.cu _),?_,λoM e46=> ?_⟩
   ·refine (G4 y.1 hhb w2.drew).mono ?_;rintro e cP ⟨rfl,cp⟩;have z16:=cp.size;refine ⟨_,_,_,rfl,cp.heap ab,cp.heap ab,wayL cp,?_,λeP Zd=> ?_⟩
    ·refine (castS cp).mono ?_;rintro e ef ⟨rfl,cW⟩;have z20:=cW.size;refine ⟨_,_,_,_,_,_,_,rfl,cW.heap ab,cW.heap ab,λgQ e28 dX Qk=> ?_⟩;exact fin ((cp.tr cW).tr ((aT e28).ag Qk (aD _)))
    ·have eF:=aT Zd;have z33:=zA Zd;refine (castS (cp.tr eF)).mono ?_;rintro e iq ⟨rfl,im⟩;have z34:=im.size;refine ⟨_,_,_,_,_,_,_,rfl,im.heap ab,im.heap ab,im.heap ab,λkO Za=> ?_⟩;exact fin (((cp.tr eF).tr im).ag Za ab)
   ·have g8:=aT e46;have z46:=zA e46;refine (G4 y.1 hhb oM).mono ?_;rintro e mw ⟨rfl,qF⟩;have z47:=qF.size;refine ⟨_,_,_,rfl,qF.heap ab,qF.heap ab,qF.heap ab,wayL (g8.tr qF),(castS (g8.tr qF)).mono ?_⟩;rintro e vX ⟨rfl,nE⟩;have z51:=nE.size;refine ⟨_,_,_,_,_,_,_,rfl,nE.heap ab,nE.heap ab,nE.heap ab,λyO Z3=> ?_⟩;exact fin (((g8.tr qF).tr nE).ag Z3 ab)
  ·intro Iw e63;have tY:=aT e63;have z63:=zA e63;refine (mc (h1.ext (xd.tr tY))).mono ?_;rintro e tX ⟨rfl,awA⟩;subst awA;refine ⟨_,rfl,rfl,rfl,rfl,wayL tY,bdyL tY,(G4 y.1 hhb tX).mono ?_⟩;rintro e rI ⟨rfl,nR⟩;have z66:=nR.size;refine ⟨_,_,_,rfl,nR.heap ab,nR.heap ab,nR.heap ab,wayL (tY.tr nR),(castS (tY.tr nR)).mono ?_⟩;rintro e oA ⟨rfl,pP⟩;have z70:=pP.size;refine ⟨_,_,_,_,_,_,_,rfl,pP.heap ab,pP.heap ab,pP.heap ab,λqm e78=> ?_⟩;exact fin (((tY.tr nR).tr pP).ag e78 ab)
end
def mU{w:World}{g:Nat}{cs vs:LV}{E:TypeId}(hr:Row w g cs E){off:Nat}(hl:off+vs.length<=cs.length)(h1:One vs):
  Wr w (ae (aB g) off) vs.length/\∀w',w'=Vc.aK w (ae (aB g) off) vs->Row w' g (aW cs off vs) E/\Mod (λi=>i=g) w w':=by
 rw [bo,eD];refine ⟨hr.wr hl,λw' e=> ?_⟩;rw [hr.aK hl h1] at e;subst e;exact ⟨hr.set _,rfl,rfl,rfl,by rw [setRow_size];exact aD _,λi _ hn=>setRow_other _ _ _ _ hn⟩
section
variable {F F':Nat->Prop} {w w':World} {g s o t:Nat} {M M':Sm} {occ:Value} {L:List (Option dQ)}
def EL.put{av:List (Option Nat)}(he:EL w av L){k b:Nat}(ha:av[k]? =some (some b)){y:dQ}(hr:Row w' b (L9 y) lZ)(hs:∀a,some a ∈ av->a≠b->w'.heap[a]? =w.heap[a]?):EL w' av (L.set k (some y)):=by
 have hk:k<16:=by rw [<-he.n];exact (cK.1 ha).1
 refine ⟨he.n,by rw [jU];exact he.m,λi a hi=> ?_,λi hi=> ?_,he.d⟩
 ·by_cases q:i=k
  ·subst q;rw [ha] at hi
   cases hi
   exact ⟨y,oS (by rw [he.m];exact hk),hr⟩
  ·obtain ⟨x,h1,h2⟩:=he.s i a hi;refine ⟨x,by rw [zT (Ne.symm q)];exact h1,h2.same (hs a (aU hi) λe=> ?_)⟩;subst e;exact q (he.d i k a hi ha)
 ·have q:i≠k:=λe=>by subst e;rw [ha] at hi;cases hi
  rw [zT (Ne.symm q)];exact he.z i hi
def jH.aH{w0:World}(x:Ext w w0)(h:jH F w0 g s o t M occ L w'):jH F w g s o t M occ L w':=by obtain ⟨F',h1,h2⟩:=h;exact ⟨F',h1,(aO.aH x).trans h2⟩
def oR(L:List (Option dQ))(n:Int)(i:Int × Int × Bool):Int × List (Option dQ):=match cC L n with|none=>(6,L)|some y=>(0,L.set n.toNat (some (y.1,i)))
def VV(h:EF F w g s o t M occ L)(n:Int)(i:Int × Int × Bool):ah 54 #[g,n,.agg #[i.1,i.2.1,.bool i.2.2]] w λe w'=>e=Value.int .i64 (oR L n i).1/\jH F w g s o t M occ (oR L n i).2 w':=by
 apply xM.vc;intro w0 e0;have x0:=aT e0;have z0:=zA e0;have h0:=h.ext x0;obtain ⟨av,dq,jP,hFg,hFa,bu⟩:=h0.row;refine (Ev dq jP.n n).mono ?_;rintro e w1 ⟨a,rfl,Ui,hc⟩;subst Ui;unfold oR;refine ⟨_,rfl,rfl,?_⟩;rcases hc with ⟨k,rfl,hk,ha⟩|⟨wm,rfl⟩
 case inr=>
  rw [rf jP.m wm];exact yes rfl ⟨rfl,jH.aH x0 (h0.res (Ext.cu _))⟩
 cases a with
 |none=>
  rw [jP.at0 ha];exact yes rfl ⟨rfl,jH.aH x0 (h0.res (Ext.cu _))⟩
 |some b=>
  obtain ⟨y,hy,eV,Ug⟩:=jP.at ha;have hb:=h.lt (i:=b);rw [hy];have vS:One [i.1,i.2.1,.bool i.2.2]:=by intro u hu;simp at hu;rcases hu with rfl|rfl|rfl<;>rfl
  obtain ⟨p1,p2⟩:=mU Ug (off:=9) (vs:=[.int .i64 i.1,.int .i64 i.2.1,.bool i.2.2]) (by show 9+3<=12;decide) vS;have hbw:b<w:=h.lt (hFa b (aU ha));refine fB rfl (gT rfl (gT rfl ⟨⟨rfl,p1⟩,?_,λw3 e3=> ?_⟩))
  ·intro q;have q:some b=some w.heap.size:=q;have q:b=w.heap.size:=Option.some.inj q;omega
  obtain ⟨q1,q2⟩:=p2 w3 e3;have q1:Row w3 b (L9 (y.1,i)) lZ:=q1;have gy:b≠g:=λe=>dq.ne Ug pF.2.2 e.symm
  refine ⟨rfl,jH.aH x0 (bu (q2.mono λj _ hj=> .inr (by rw [hj];exact aU ha)) (dq.same (q2.same _ dq.lt λe=>gy e.symm)) ?_ λa ha=> .inl ha)⟩;show EL w3 av (L.set ((k:Nat):Int).toNat (some (y.1,i)));rw [eC];exact jP.put ha q1 λa ha' hn=>q2.same _ (jP.lt ha') hn
def EP:dE:=⟨(0,0,0),(0,0,0),0,0,false⟩
def O5(L:List (Option dQ))(n:Int):dE × Bool:=match cC L n with|none=>(EP,false)|some y=>(y.1,true)
def XC(h:EF F w g s o t M occ L)(n:Int):ah 29 #[g,n] w λe w'=>e=Value.tuple #[Dp (O5 L n).1,.bool (O5 L n).2]/\Ext w w':=by
 apply xN.vc;intro w0 e0;have x0:=aT e0;have z0:=zA e0;have h0:=h.ext x0;obtain ⟨av,dq,jP,-,-,-⟩:=h0.row;refine (Ev dq jP.n n).mono ?_;rintro e w1 ⟨a,rfl,Ui,hc⟩;subst Ui;unfold O5;refine ⟨_,rfl,rfl,?_⟩;rcases hc with ⟨k,rfl,hk,ha⟩|⟨wm,rfl⟩
 case inr=>
  rw [rf jP.m wm];exact yes rfl λw3 e3=>⟨rfl,x0.ag e3 ab⟩
 cases a with
 |none=>
  rw [jP.at0 ha];exact yes rfl λw3 e3=>⟨rfl,x0.ag e3 ab⟩
 |some b=>
  obtain ⟨y,hy,eV,Ug⟩:=jP.at ha;rw [hy];exact fB rfl (gT rfl (gT rfl ⟨_,_,_,_,_,_,_,_,_,US Ug,λbG DT=>⟨rfl,x0.ag DT ab⟩⟩))
def eZ(M:Sm)(L:List (Option dQ))(c:Ce)(b:Int):Int × Sm:=if aC b=true/\lN L c=true then (12,M) else ((fj M.T.2 c b).2,uH M c b)
def wZ(h:EF F w g s o t M occ L){m:Int}(hL:pL m L)(c:Ce)(hc:eW c)(b:Int)(hk:rK M 800000):ah 59 #[g,eg c,b] w λe w'=>e=Value.int .i64 (eZ M L c b).1/\jH F w g s o t (eZ M L c b).2 occ L w':=by
 apply xL.vc;intro w0 e0;have x0:=aT e0;have z0:=zA e0;have inner:∀{u:World},Ext w0 u->¬(aC b=true/\lN L c=true)->∃p:Option Addr,Vc.ld u (ae (aB g) 0)=some (.pointer p)/\
   ah 113 #[p,eg c,b] u λe w6=>∃x7:Int,e=x7/\w6.heap[w.heap.size]? =u.heap[w.heap.size]?/\Ending.returned x7=Value.int .i64 (eZ M L c b).1/\jH F w g s o t (eZ M L c b).2 occ L w6:=by
  intro u xu hn;have hu:=h.ext (x0.tr xu);have zu:=xu.size;obtain ⟨Fs,hs,jR,eQ,bu⟩:=hu.wu;refine ⟨_,jR,(ya hs c hc b hk).mono ?_⟩;rintro e w6 ⟨rfl,hr⟩;have hk6:w6.heap[w.heap.size]? =u.heap[w.heap.size]? :=by obtain ⟨F6,-,t6⟩:=hr;exact t6.mod.same _ ab λq=>by have:=h.lt (eQ _ q);omega
  unfold eZ;rw [if_neg hn];exact ⟨_,rfl,hk6,rfl,jH.aH (x0.tr xu) (bu hr)⟩
 refine (qX b w0).mono ?_;rintro e w1 ⟨rfl,Ui⟩;subst Ui;refine ⟨_,rfl,rfl,Br.mk (λhb=> ?_) (λhb=>inner (Ext.dr _) λq=>by rw [hb] at q;cases q.1)⟩;have h1:=h.ext x0;obtain ⟨av,dq,jP,-,-,-⟩:=h1.row;refine (Jq dq jP hL c).mono ?_;rintro e w3 ⟨rfl,x3⟩;have z3:=x3.size;refine ⟨_,rfl,x3.heap ab,Br.mk (λhq=> ?_) (λhq=> ?_)⟩
 ·unfold eZ;rw [if_pos ⟨hb,hq⟩];exact ⟨rfl,h.res (x0.tr x3)⟩
 ·exact inner (x3.tr (Ext.dr _)) λq=>by rw [hq] at q;cases q.2
end
def j7(c:Ce)(m:Int):Prop:=(-m<=c.1/\c.1<=m)/\(-m<=c.2.1/\c.2.1<=m)/\-m<=c.2.2/\c.2.2<=m
def j7.wide{c:Ce}{m:Int}(h:j7 c m)(hm:m<=2000000000):eW c:=by unfold j7 at h;unfold eW;omega
def Nz{M:Sm}{L:List (Option dQ)}{n:Int}{dW:Ce}(e:(cY M L n dW).2=0):∃y,cC L n=some y/\some y ∈ L/\iK (fx M.T.2) (ky y.1) dW 5=((cY M L n dW).1,true)/\(cY M L n dW).1.2.1≠-1:=by
 unfold cY at e ⊢
 cases hq:cC L n with
 |none=>rw [hq] at e;simp only at e;omega
 |some y=>
  rw [hq] at e;simp only at e ⊢;have hm:some y ∈ L:=by
   unfold cC at hq;split at hq
   ·rcases abh.1 hq with hq;exact aU hq
   ·cases hq
  refine ⟨y,rfl,hm,?_⟩;split at e
  ·simp only at e;omega
  split at e
  ·simp only at e;omega
  rename_i h1 h2;rw [if_neg h1,if_neg h2];exact ⟨Prod.ext rfl (by simpa using h1),h2⟩
def vv{M:Sm}{L:List (Option dQ)}{m:Int}(hL:pL m L)(hm:m<=99970000000000){n:Int}{dW:Ce}(e:(cY M L n dW).2=0):j7 (cY M L n dW).1.1 1600000005/\j7 (Dx (cY M L n dW).1).1 1600000006:=by
 obtain ⟨y,h1,h2,h3,h4⟩:=Nz e;have hn:=NI (by rw [afw];decide) h3;have he:=G1 (hL y h2) hm;have hc:j7 (cY M L n dW).1.1 1600000005:=by unfold j7;omega
 refine ⟨hc,?_⟩;generalize (cY M L n dW).1=h at hc;obtain ⟨c,b,f,tt⟩:=h;unfold Dx;split
 ·rename_i hf;simp only at hf ⊢;obtain ⟨k,rfl⟩:∃k:Nat,f=k:=⟨f.toNat,by omega⟩;rw [eC];unfold j7 at hc;have:k=0\/k=1\/k=2\/k=3\/k=4\/k=5:=by omega
  rcases this with rfl|rfl|rfl|rfl|rfl|rfl
  ·show j7 (c.1-1,c.2.1,c.2.2) _;unfold j7;simp only;simp only at hc;omega
  ·show j7 (c.1+1,c.2.1,c.2.2) _;unfold j7;simp only;simp only at hc;omega
  ·show j7 (c.1,c.2.1-1,c.2.2) _;unfold j7;simp only;simp only at hc;omega
  ·show j7 (c.1,c.2.1+1,c.2.2) _;unfold j7;simp only;simp only at hc;omega
  ·show j7 (c.1,c.2.1,c.2.2-1) _;unfold j7;simp only;simp only at hc;omega
  ·show j7 (c.1,c.2.1,c.2.2+1) _;unfold j7;simp only;simp only at hc;omega
 ·unfold j7;simp only;omega
def lS(M:Sm)(L:List (Option dQ))(n:Int)(dW:Ce)(b:Int):Int × Sm:=
 if (cY M L n dW).2=6 then (6,M) else if cO b=false then (1,M) else if b=0 then (1,M) else if (cY M L n dW).2≠0 then ((cY M L n dW).2,M) else if (Dx (cY M L n dW).1).2=false then (12,M) else eZ M L (Dx (cY M L n dW).1).1 b
def kl(M:Sm)(L:List (Option dQ))(n:Int)(dW:Ce):(Int × Int) × Sm:=
 if (cY M L n dW).2≠0 then ((0,(cY M L n dW).2),M) else if (eZ M L (cY M L n dW).1.1 0).1≠0 then ((0,(eZ M L (cY M L n dW).1.1 0).1),(eZ M L (cY M L n dW).1.1 0).2) else (((cY M L n dW).1.2.1,0),(eZ M L (cY M L n dW).1.1 0).2)
section
variable {F F':Nat->Prop} {w w':World} {g s o t:Nat} {M M':Sm} {occ:Value} {L:List (Option dQ)}
def jH.dc{k:Nat}(h:EF F w g s o t M occ L){w0:World}(x:Ext w w0)(hk:w.heap.size<=k)(ZV:k<w0)(h0:∀i,F i->i<w.heap.size){M':Sm}{occ':Value}{L':List (Option dQ)}(r:jH F w0 g s o t M' occ' L' w'):w'.heap[k]? =w0.heap[k]? :=by obtain ⟨F',-,h2⟩:=r;exact h2.mod.same _ ZV λq=>by have:=h0 _ q;omega
set_option maxHeartbeats 1000000 in
def Mu(h:EF F w g s o t M occ L){m:Int}(hL:pL m L)(hm:m<=99970000000000)(n:Int)(dW:Ce)(b:Int)(hk:rK M 800000):
  ah 55 #[g,n,eg dW,b] w λe w'=>e=Value.int .i64 (lS M L n dW b).1/\jH F w g s o t (lS M L n dW b).2 occ L w':=by
 apply vM.vc;intro w0 e0;have x0:=aT e0;have z0:=zA e0;refine (A1 (h.ext x0) hL hm n dW).mono ?_;rintro e w1 ⟨rfl,x1⟩;have z1:=x1.size;refine ⟨_,_,_,_,_,_,_,rfl,x1.heap ab,λw9 e9 bN AY=> ?_⟩;have bk:Ext w1 bN:=(aT e9).ag AY (aD _);have Y6:bN.heap.size=w1.heap.size+1:=by rw [zR AY,zA e9]
 have pE:=x0.tr (x1.tr bk);unfold lS;refine Br.mk (λh6=> ?_) (λh6=>(gO b bN).mono ?_)
 ·rw [if_pos (by simpa using h6)];have h6:=dn h6;rw [h6];exact ⟨rfl,h.res pE⟩
 rw [if_neg (by simpa using h6)];rintro e bc ⟨rfl,bA⟩;have z11:=bA.size;have ZO:=pE.tr bA;refine ⟨_,rfl,bA.heap ab,bA.heap ab,Br.mk (λhb=> ?_) (λhb=>Br.mk (λVH=> ?_) (λVH=>Br.mk (λhn=> ?_) (λhn=> ?_)))⟩
 ·rw [if_pos (by simpa using hb)];exact ⟨rfl,h.res ZO⟩
 ·rw [if_neg (by simpa using hb),if_pos (by simpa using VH)];exact ⟨rfl,h.res ZO⟩
 ·rw [if_neg (by simpa using hb),if_neg (by simpa using VH),if_pos (by simpa using hn)];exact ⟨rfl,h.res ZO⟩
 rw [if_neg (by simpa using hb),if_neg (by simpa using VH),if_neg (by simpa using hn)];have L1:=dn hn;obtain ⟨Mq,QZ⟩:=vv hL hm L1;refine (P3 (cY M L n dW).1 (Mq.wide aG) bc).mono ?_;rintro e bG ⟨rfl,cn⟩;have z13:=cn.size;refine ⟨_,_,_,_,rfl,cn.heap ab,cn.heap ab,λdu Zc gn e19=> ?_⟩;have cr:Ext bG gn:=(aT Zc).ag e19 (aD _);have z19:gn.heap.size=bG.heap.size+1:=by rw [zR e19,zA Zc]
 have HH:=ZO.tr (cn.tr cr);apply Br.mk<;>intro hq
 ·rw [if_pos (by simpa using hq)];exact ⟨rfl,h.res HH⟩
 rw [if_neg (by simpa using hq)];refine (wZ (h.ext HH) hL (Dx (cY M L n dW).1).1 (QZ.wide aG) b hk).mono ?_;rintro e ef ⟨rfl,r⟩;have hh:∀i,F i->i<w.heap.size:=λi=>h.lt
 exact ⟨_,rfl,jH.dc h HH ab ab hh r,jH.dc h HH ab ab hh r,jH.dc h HH ab ab hh r,rfl,jH.aH HH r⟩
set_option maxHeartbeats 1000000 in
def Mw(h:EF F w g s o t M occ L){m:Int}(hL:pL m L)(hm:m<=99970000000000)(n:Int)(dW:Ce)(hk:rK M 800000):
  ah 33 #[g,n,eg dW] w λe w'=>e=Value.tuple #[.int .i64 (kl M L n dW).1.1,.int .i64 (kl M L n dW).1.2]/\jH F w g s o t (kl M L n dW).2 occ L w':=by
 apply vN.vc;intro w0 e0;have x0:=aT e0;have z0:=zA e0;refine (A1 (h.ext x0) hL hm n dW).mono ?_;rintro e w1 ⟨rfl,x1⟩;have z1:=x1.size;refine ⟨_,_,_,_,_,_,_,rfl,x1.heap ab,λw9 e9 bN AY=> ?_⟩;have bk:Ext w1 bN:=(aT e9).ag AY (aD _);have Y6:bN.heap.size=w1.heap.size+1:=by rw [zR AY,zA e9]
 have pE:=x0.tr (x1.tr bk);unfold kl;refine Br.mk (λh0=> ?_) (λh0=>yes (by simpa using h0) ?_)
 ·have L1:=dn h0;rw [if_neg (by simp [L1])];obtain ⟨Mq,-⟩:=vv hL hm L1;refine (wZ (h.ext pE) hL (cY M L n dW).1.1 (Mq.wide aG) 0 hk).mono ?_;rintro e bc ⟨rfl,r⟩;have hh:∀i,F i->i<w.heap.size:=λi=>h.lt
  refine ⟨_,rfl,jH.dc h pE ab ab hh r,jH.dc h pE ab ab hh r,Br.mk (λhq=> ?_) (λhq=> ?_)⟩
  ·rw [if_pos (by simpa using hq)];exact ⟨rfl,jH.aH pE r⟩
  ·rw [if_neg (by simpa using hq)];exact ⟨rfl,jH.aH pE r⟩
 ·rw [if_pos (by simpa using h0)];exact ⟨rfl,h.res pE⟩
end
end Go.Proofs.YtkkkfkopcfdmaaaGreatDoor
