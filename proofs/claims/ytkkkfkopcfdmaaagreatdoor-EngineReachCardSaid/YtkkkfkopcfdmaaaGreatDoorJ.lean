import Derived.Test.YtkkkfkopcfdmaaaGreatDoorI
import Derived.Test.YtkkkfkopcfdmaaaGreatDoorD
set_option linter.all false
namespace Go.Proofs.YtkkkfkopcfdmaaaGreatDoor
open Go Go.Vc Go.RowKit Go.Proofs Go.dJ Go.bj Go.Code Go.gg Go.fR Go.jV
set_option maxRecDepth 100000
def LC(V:Ce->Int)(b:ef):ef:=
 let y:=lQ V aE b.box (qp b.aI b.speed) 32768
 {b with aI:=jU b.aI (zO y.1.1 b.box.1),speed:=lU y.2 b.speed,gV:=jO V (iz y.1) aE}
def kV(V:Ce->Int)(b:ef)(d:Ce):ef:={b with aI:=jU b.aI (zO (kG V aE b.box (qp b.aI d)).1.1 b.box.1)}
set_option maxHeartbeats 4000000 in
theorem Vj{v:Value}{V:Ce->Int}{w:World}(hV:Tl v V w)(hv:j9 v=[])(b:ef)(hw:inI b.wd){m:Int}(hnb:da b.box m)(hm:m<=99980000000000)(i:Ga):
  ah 168 #[BV b,v,inV i] w λe w'=>e=(BV (LC V b))/\Ext w w':=by
 have hgo:LC V b={b with aI:=jU b.aI (zO (lQ V aE b.box (qp b.aI b.speed) 32768).1.1 b.box.1),speed:=lU (lQ V aE b.box (qp b.aI b.speed) 32768).2 b.speed,gV:=jO V (iz (lQ V aE b.box (qp b.aI b.speed) 32768).1) aE}:=rfl;apply DK.vc;intro w0 e0 w1 e1 w2 e2;have x0:=aL e0;have z0:=zA e0;have r0:Row w0 w (jo b) y9:=Row.nw e0;have x1:=aL e1;have z1:=zA e1;have x2:=aL e2;have z2:=zA e2;refine (cP b hw w2).mono ?_;rintro e w3 ⟨rfl,x3⟩;have z3:=x3.size;refine ⟨_,_,_,_,_,_,rfl,x3.heap ab,x3.heap ab,x3.heap ab,λbO vw aY Cn=> ?_⟩;have QX:=zA vw;have z11:=zR Cn;have bC:Ext w3 aY:=(aL vw).ae Cn (aB _);have rwas:Row aY w3 (fV b.box) bF:=by rw [Cn];exact Row.set (by rw [vw];exact Row.new w3 [_,_,_,_,_,_] _) [_,_,_,_,_,_]
 have rb:=r0.ext (x1.tr (x2.tr (x3.tr bC)));have xw:=x0.tr (x1.tr (x2.tr (x3.tr bC)));have aie:=hV.ext xw;have rwas0:=rwas;refine ⟨λp q wj=>∃gB gH:Nat,p=some ⟨gB,0,none⟩/\q=some ⟨gH,0,none⟩/\Row wj gB (fV (lQ V aE b.box (qp b.aI b.speed) 32768).1) bF/\Row wj gH (hL (lQ V aE b.box (qp b.aI b.speed) 32768).2) dy/\Ext aY wj/\aY.heap.size<=gB,?_,?_⟩
 ·have X:=Ext.dr aY;have rwas:=rwas.ext X;have zd:=lG aY;have hS:=λ(cur:World)(X:Ext aY cur)=>Qa (w:=cur) (aie.ext X) hv b.box hnb hm (qp b.aI b.speed) 32768
  generalize lQ V aE b.box (qp b.aI b.speed) 32768=y at*;refine ⟨?_,?_,?_⟩
  ·refine (gU b b.speed aY.drew).mono ?_;rintro e v1 ⟨rfl,xn⟩;have z1:=xn.size;refine ⟨_,_,_,rfl,xn.heap ab,xn.heap ab,xn.heap ab,xn.heap ab,Lo.wv (rwas.ext xn),?_⟩;have X:=X.tr xn;have rwas:=rwas.ext xn;refine ⟨?_,?_,?_⟩
   ·refine (hS v1 X).mono ?_;rintro e v2 ⟨rfl,xn⟩;have z2:=xn.size;refine ⟨_,_,_,_,_,_,_,_,_,rfl,xn.heap ab,xn.heap ab,xn.heap ab,xn.heap ab,?_⟩;have X:=X.tr xn;have rwas:=rwas.ext xn;refine ⟨?_,?_⟩
    ·intro v3 en;have xn:=aL en;have z3:=zA en;have rBn:Row v3 v2 [aa,aa,aa,aa,aa,aa] bF:=Row.nw en;have X:=X.tr xn;have rwas:=rwas.ext xn;have rB:=rBn;intro v4 en;have xn:=aL en;have z4:=zA en;have rHn:Row v4 v3 (hL (false,false,false)) dy:=Row.nw en;have X:=X.tr xn;have rwas:=rwas.ext xn;have rB:=rB.ext xn;have rH:=rHn;intro oz dX;have zs:=zR dX;have rB:Row oz v2 (fV y.1) bF:=rB.st dX;have rH:=rH.so dX;have X:=X.ae dX ab;refine ⟨⟨rfl,rH.wr bB⟩,cT ab,cT ab,cT ab,cT ab,cT ab,λwt et=> ?_⟩;rw [rH.aH (vs:=hL y.2) bB (gm _),aQ bB] at et;have zt:=zR et;have rB:=rB.so et;have rH:Row wt v3 (hL y.2) dy:=rH.st et;exact ⟨rfl,rfl,rfl,rfl,_,_,rfl,rfl,rB,rH,X.ae et ab,by omega⟩
    ·intro v3 en;have xn:=aL en;have z3:=zA en;have rHn:Row v3 v2 (hL (false,false,false)) dy:=Row.nw en;have X:=X.tr xn;have rwas:=rwas.ext xn;have rH:=rHn;intro v4 en;have xn:=aL en;have z4:=zA en;have rBn:Row v4 v3 [aa,aa,aa,aa,aa,aa] bF:=Row.nw en;have X:=X.tr xn;have rwas:=rwas.ext xn;have rH:=rH.ext xn;have rB:=rBn;intro oz dX;have zs:=zR dX;have rB:Row oz v3 (fV y.1) bF:=rB.st dX;have rH:=rH.so dX;have X:=X.ae dX ab;refine ⟨⟨rfl,rH.wr bB⟩,cT ab,cT ab,cT ab,cT ab,cT ab,λwt et=> ?_⟩;rw [rH.aH (vs:=hL y.2) bB (gm _),aQ bB] at et;have zt:=zR et;have rB:=rB.so et;have rH:Row wt v2 (hL y.2) dy:=rH.st et;exact ⟨rfl,rfl,rfl,rfl,_,_,rfl,rfl,rB,rH,X.ae et ab,by omega⟩
   ·intro v2 en;have xn:=aL en;have z2:=zA en;have rBn:Row v2 v1 [aa,aa,aa,aa,aa,aa] bF:=Row.nw en;have X:=X.tr xn;have rwas:=rwas.ext xn;have rB:=rBn;refine ⟨?_,?_⟩
    ·refine (hS v2 X).mono ?_;rintro e v3 ⟨rfl,xn⟩;have z3:=xn.size;refine ⟨_,_,_,_,_,_,_,_,_,rfl,xn.heap ab,xn.heap ab,xn.heap ab,xn.heap ab,xn.heap ab,?_⟩;have X:=X.tr xn;have rwas:=rwas.ext xn;have rB:=rB.ext xn;intro v4 en;have xn:=aL en;have z4:=zA en;have rHn:Row v4 v3 (hL (false,false,false)) dy:=Row.nw en;have X:=X.tr xn;have rwas:=rwas.ext xn;have rB:=rB.ext xn;have rH:=rHn;intro oz dX;have zs:=zR dX;have rB:Row oz v1 (fV y.1) bF:=rB.st dX;have rH:=rH.so dX;have X:=X.ae dX ab;refine ⟨⟨rfl,rH.wr bB⟩,cT ab,cT ab,cT ab,cT ab,cT ab,λwt et=> ?_⟩;rw [rH.aH (vs:=hL y.2) bB (gm _),aQ bB] at et;have zt:=zR et;have rB:=rB.so et;have rH:Row wt v3 (hL y.2) dy:=rH.st et;exact ⟨rfl,rfl,rfl,rfl,_,_,rfl,rfl,rB,rH,X.ae et ab,by omega⟩
    ·intro v3 en;have xn:=aL en;have z3:=zA en;have rHn:Row v3 v2 (hL (false,false,false)) dy:=Row.nw en;have X:=X.tr xn;have rwas:=rwas.ext xn;have rB:=rB.ext xn;have rH:=rHn;refine (hS v3 X).mono ?_;rintro e v4 ⟨rfl,xn⟩;have z4:=xn.size;refine ⟨_,_,_,_,_,_,_,_,_,rfl,xn.heap ab,xn.heap ab,xn.heap ab,xn.heap ab,xn.heap ab,?_⟩;have X:=X.tr xn;have rwas:=rwas.ext xn;have rB:=rB.ext xn;have rH:=rH.ext xn;intro oz dX;have zs:=zR dX;have rB:Row oz v1 (fV y.1) bF:=rB.st dX;have rH:=rH.so dX;have X:=X.ae dX ab;refine ⟨⟨rfl,rH.wr bB⟩,cT ab,cT ab,cT ab,cT ab,cT ab,λwt et=> ?_⟩;rw [rH.aH (vs:=hL y.2) bB (gm _),aQ bB] at et;have zt:=zR et;have rB:=rB.so et;have rH:Row wt v2 (hL y.2) dy:=rH.st et;exact ⟨rfl,rfl,rfl,rfl,_,_,rfl,rfl,rB,rH,X.ae et ab,by omega⟩
   ·intro v2 en;have xn:=aL en;have z2:=zA en;have rHn:Row v2 v1 (hL (false,false,false)) dy:=Row.nw en;have X:=X.tr xn;have rwas:=rwas.ext xn;have rH:=rHn;refine ⟨?_,?_⟩
    ·refine (hS v2 X).mono ?_;rintro e v3 ⟨rfl,xn⟩;have z3:=xn.size;refine ⟨_,_,_,_,_,_,_,_,_,rfl,xn.heap ab,xn.heap ab,xn.heap ab,xn.heap ab,?_⟩;have X:=X.tr xn;have rwas:=rwas.ext xn;have rH:=rH.ext xn;intro v4 en;have xn:=aL en;have z4:=zA en;have rBn:Row v4 v3 [aa,aa,aa,aa,aa,aa] bF:=Row.nw en;have X:=X.tr xn;have rwas:=rwas.ext xn;have rH:=rH.ext xn;have rB:=rBn;intro oz dX;have zs:=zR dX;have rB:Row oz v3 (fV y.1) bF:=rB.st dX;have rH:=rH.so dX;have X:=X.ae dX ab;refine ⟨⟨rfl,rH.wr bB⟩,cT ab,cT ab,cT ab,cT ab,cT ab,λwt et=> ?_⟩;rw [rH.aH (vs:=hL y.2) bB (gm _),aQ bB] at et;have zt:=zR et;have rB:=rB.so et;have rH:Row wt v1 (hL y.2) dy:=rH.st et;exact ⟨rfl,rfl,rfl,rfl,_,_,rfl,rfl,rB,rH,X.ae et ab,by omega⟩
    ·intro v3 en;have xn:=aL en;have z3:=zA en;have rBn:Row v3 v2 [aa,aa,aa,aa,aa,aa] bF:=Row.nw en;have X:=X.tr xn;have rwas:=rwas.ext xn;have rH:=rH.ext xn;have rB:=rBn;refine (hS v3 X).mono ?_;rintro e v4 ⟨rfl,xn⟩;have z4:=xn.size;refine ⟨_,_,_,_,_,_,_,_,_,rfl,xn.heap ab,xn.heap ab,xn.heap ab,xn.heap ab,xn.heap ab,?_⟩;have X:=X.tr xn;have rwas:=rwas.ext xn;have rB:=rB.ext xn;have rH:=rH.ext xn;intro oz dX;have zs:=zR dX;have rB:Row oz v2 (fV y.1) bF:=rB.st dX;have rH:=rH.so dX;have X:=X.ae dX ab;refine ⟨⟨rfl,rH.wr bB⟩,cT ab,cT ab,cT ab,cT ab,cT ab,λwt et=> ?_⟩;rw [rH.aH (vs:=hL y.2) bB (gm _),aQ bB] at et;have zt:=zR et;have rB:=rB.so et;have rH:Row wt v1 (hL y.2) dy:=rH.st et;exact ⟨rfl,rfl,rfl,rfl,_,_,rfl,rfl,rB,rH,X.ae et ab,by omega⟩
  ·intro v1 en;have xn:=aL en;have z1:=zA en;have rBn:Row v1 aY.drew.heap.size [aa,aa,aa,aa,aa,aa] bF:=Row.nw en;have X:=X.tr xn;have rwas:=rwas.ext xn;have rB:=rBn;refine ⟨?_,?_⟩
   ·refine (gU b b.speed v1).mono ?_;rintro e v2 ⟨rfl,xn⟩;have z2:=xn.size;refine ⟨_,_,_,rfl,xn.heap ab,xn.heap ab,xn.heap ab,xn.heap ab,xn.heap ab,Lo.wv (rwas.ext xn),?_⟩;have X:=X.tr xn;have rwas:=rwas.ext xn;have rB:=rB.ext xn;refine ⟨?_,?_⟩
    ·refine (hS v2 X).mono ?_;rintro e v3 ⟨rfl,xn⟩;have z3:=xn.size;refine ⟨_,_,_,_,_,_,_,_,_,rfl,xn.heap ab,xn.heap ab,xn.heap ab,xn.heap ab,xn.heap ab,?_⟩;have X:=X.tr xn;have rwas:=rwas.ext xn;have rB:=rB.ext xn;intro v4 en;have xn:=aL en;have z4:=zA en;have rHn:Row v4 v3 (hL (false,false,false)) dy:=Row.nw en;have X:=X.tr xn;have rwas:=rwas.ext xn;have rB:=rB.ext xn;have rH:=rHn;intro oz dX;have zs:=zR dX;have rB:Row oz aY.drew.heap.size (fV y.1) bF:=rB.st dX;have rH:=rH.so dX;have X:=X.ae dX ab;refine ⟨⟨rfl,rH.wr bB⟩,cT ab,cT ab,cT ab,cT ab,cT ab,λwt et=> ?_⟩;rw [rH.aH (vs:=hL y.2) bB (gm _),aQ bB] at et;have zt:=zR et;have rB:=rB.so et;have rH:Row wt v3 (hL y.2) dy:=rH.st et;exact ⟨rfl,rfl,rfl,rfl,_,_,rfl,rfl,rB,rH,X.ae et ab,by omega⟩
    ·intro v3 en;have xn:=aL en;have z3:=zA en;have rHn:Row v3 v2 (hL (false,false,false)) dy:=Row.nw en;have X:=X.tr xn;have rwas:=rwas.ext xn;have rB:=rB.ext xn;have rH:=rHn;refine (hS v3 X).mono ?_;rintro e v4 ⟨rfl,xn⟩;have z4:=xn.size;refine ⟨_,_,_,_,_,_,_,_,_,rfl,xn.heap ab,xn.heap ab,xn.heap ab,xn.heap ab,xn.heap ab,?_⟩;have X:=X.tr xn;have rwas:=rwas.ext xn;have rB:=rB.ext xn;have rH:=rH.ext xn;intro oz dX;have zs:=zR dX;have rB:Row oz aY.drew.heap.size (fV y.1) bF:=rB.st dX;have rH:=rH.so dX;have X:=X.ae dX ab;refine ⟨⟨rfl,rH.wr bB⟩,cT ab,cT ab,cT ab,cT ab,cT ab,λwt et=> ?_⟩;rw [rH.aH (vs:=hL y.2) bB (gm _),aQ bB] at et;have zt:=zR et;have rB:=rB.so et;have rH:Row wt v2 (hL y.2) dy:=rH.st et;exact ⟨rfl,rfl,rfl,rfl,_,_,rfl,rfl,rB,rH,X.ae et ab,by omega⟩
   ·intro v2 en;have xn:=aL en;have z2:=zA en;have rHn:Row v2 v1 (hL (false,false,false)) dy:=Row.nw en;have X:=X.tr xn;have rwas:=rwas.ext xn;have rB:=rB.ext xn;have rH:=rHn;refine (gU b b.speed v2).mono ?_;rintro e v3 ⟨rfl,xn⟩;have z3:=xn.size;refine ⟨_,_,_,rfl,xn.heap ab,xn.heap ab,xn.heap ab,xn.heap ab,xn.heap ab,Lo.wv (rwas.ext xn),?_⟩;have X:=X.tr xn;have rwas:=rwas.ext xn;have rB:=rB.ext xn;have rH:=rH.ext xn;refine (hS v3 X).mono ?_;rintro e v4 ⟨rfl,xn⟩;have z4:=xn.size;refine ⟨_,_,_,_,_,_,_,_,_,rfl,xn.heap ab,xn.heap ab,xn.heap ab,xn.heap ab,xn.heap ab,?_⟩;have X:=X.tr xn;have rwas:=rwas.ext xn;have rB:=rB.ext xn;have rH:=rH.ext xn;intro oz dX;have zs:=zR dX;have rB:Row oz aY.drew.heap.size (fV y.1) bF:=rB.st dX;have rH:=rH.so dX;have X:=X.ae dX ab;refine ⟨⟨rfl,rH.wr bB⟩,cT ab,cT ab,cT ab,cT ab,cT ab,λwt et=> ?_⟩;rw [rH.aH (vs:=hL y.2) bB (gm _),aQ bB] at et;have zt:=zR et;have rB:=rB.so et;have rH:Row wt v1 (hL y.2) dy:=rH.st et;exact ⟨rfl,rfl,rfl,rfl,_,_,rfl,rfl,rB,rH,X.ae et ab,by omega⟩
  ·intro v1 en;have xn:=aL en;have z1:=zA en;have rHn:Row v1 aY.drew.heap.size (hL (false,false,false)) dy:=Row.nw en;have X:=X.tr xn;have rwas:=rwas.ext xn;have rH:=rHn;refine ⟨?_,?_⟩
   ·refine (gU b b.speed v1).mono ?_;rintro e v2 ⟨rfl,xn⟩;have z2:=xn.size;refine ⟨_,_,_,rfl,xn.heap ab,xn.heap ab,xn.heap ab,xn.heap ab,Lo.wv (rwas.ext xn),?_⟩;have X:=X.tr xn;have rwas:=rwas.ext xn;have rH:=rH.ext xn;refine ⟨?_,?_⟩
    ·refine (hS v2 X).mono ?_;rintro e v3 ⟨rfl,xn⟩;have z3:=xn.size;refine ⟨_,_,_,_,_,_,_,_,_,rfl,xn.heap ab,xn.heap ab,xn.heap ab,xn.heap ab,?_⟩;have X:=X.tr xn;have rwas:=rwas.ext xn;have rH:=rH.ext xn;intro v4 en;have xn:=aL en;have z4:=zA en;have rBn:Row v4 v3 [aa,aa,aa,aa,aa,aa] bF:=Row.nw en;have X:=X.tr xn;have rwas:=rwas.ext xn;have rH:=rH.ext xn;have rB:=rBn;intro oz dX;have zs:=zR dX;have rB:Row oz v3 (fV y.1) bF:=rB.st dX;have rH:=rH.so dX;have X:=X.ae dX ab;refine ⟨⟨rfl,rH.wr bB⟩,cT ab,cT ab,cT ab,cT ab,cT ab,λwt et=> ?_⟩;rw [rH.aH (vs:=hL y.2) bB (gm _),aQ bB] at et;have zt:=zR et;have rB:=rB.so et;have rH:Row wt aY.drew.heap.size (hL y.2) dy:=rH.st et;exact ⟨rfl,rfl,rfl,rfl,_,_,rfl,rfl,rB,rH,X.ae et ab,by omega⟩
    ·intro v3 en;have xn:=aL en;have z3:=zA en;have rBn:Row v3 v2 [aa,aa,aa,aa,aa,aa] bF:=Row.nw en;have X:=X.tr xn;have rwas:=rwas.ext xn;have rH:=rH.ext xn;have rB:=rBn;refine (hS v3 X).mono ?_;rintro e v4 ⟨rfl,xn⟩;have z4:=xn.size;refine ⟨_,_,_,_,_,_,_,_,_,rfl,xn.heap ab,xn.heap ab,xn.heap ab,xn.heap ab,xn.heap ab,?_⟩;have X:=X.tr xn;have rwas:=rwas.ext xn;have rB:=rB.ext xn;have rH:=rH.ext xn;intro oz dX;have zs:=zR dX;have rB:Row oz v2 (fV y.1) bF:=rB.st dX;have rH:=rH.so dX;have X:=X.ae dX ab;refine ⟨⟨rfl,rH.wr bB⟩,cT ab,cT ab,cT ab,cT ab,cT ab,λwt et=> ?_⟩;rw [rH.aH (vs:=hL y.2) bB (gm _),aQ bB] at et;have zt:=zR et;have rB:=rB.so et;have rH:Row wt aY.drew.heap.size (hL y.2) dy:=rH.st et;exact ⟨rfl,rfl,rfl,rfl,_,_,rfl,rfl,rB,rH,X.ae et ab,by omega⟩
   ·intro v2 en;have xn:=aL en;have z2:=zA en;have rBn:Row v2 v1 [aa,aa,aa,aa,aa,aa] bF:=Row.nw en;have X:=X.tr xn;have rwas:=rwas.ext xn;have rH:=rH.ext xn;have rB:=rBn;refine (gU b b.speed v2).mono ?_;rintro e v3 ⟨rfl,xn⟩;have z3:=xn.size;refine ⟨_,_,_,rfl,xn.heap ab,xn.heap ab,xn.heap ab,xn.heap ab,xn.heap ab,Lo.wv (rwas.ext xn),?_⟩;have X:=X.tr xn;have rwas:=rwas.ext xn;have rB:=rB.ext xn;have rH:=rH.ext xn;refine (hS v3 X).mono ?_;rintro e v4 ⟨rfl,xn⟩;have z4:=xn.size;refine ⟨_,_,_,_,_,_,_,_,_,rfl,xn.heap ab,xn.heap ab,xn.heap ab,xn.heap ab,xn.heap ab,?_⟩;have X:=X.tr xn;have rwas:=rwas.ext xn;have rB:=rB.ext xn;have rH:=rH.ext xn;intro oz dX;have zs:=zR dX;have rB:Row oz v1 (fV y.1) bF:=rB.st dX;have rH:=rH.so dX;have X:=X.ae dX ab;refine ⟨⟨rfl,rH.wr bB⟩,cT ab,cT ab,cT ab,cT ab,cT ab,λwt et=> ?_⟩;rw [rH.aH (vs:=hL y.2) bB (gm _),aQ bB] at et;have zt:=zR et;have rB:=rB.so et;have rH:Row wt aY.drew.heap.size (hL y.2) dy:=rH.st et;exact ⟨rfl,rfl,rfl,rfl,_,_,rfl,rfl,rB,rH,X.ae et ab,by omega⟩
 ·rintro us GS aht wj ⟨gB,gH,rfl,rfl,rB,rH,xj,hgB⟩;have zj:=xj.size;have xd:=Ext.dr wj;have zd:=lG wj;have lB:=rB.lt;have lH:=rH.lt;rw [hgo];generalize lQ V aE b.box (qp b.aI b.speed) 32768=y at*;refine fU rfl ⟨_,_,_,qe (o:=0) (rB.ext xd) rfl rfl rfl,(uh y.1.1 b.box.1 wj.drew).mono ?_⟩;rintro e GV ⟨rfl,CH⟩;have ay1:=CH.size;have Td:=xj.tr (xd.tr CH);refine ⟨_,_,_,rfl,CH.heap ab,CH.heap ab,CH.heap ab,CH.heap ab,qe (rb.ext Td) rfl rfl rfl,(iS b.aI (zO y.1.1 b.box.1) GV).mono ?_⟩;rintro e Nk ⟨rfl,nr⟩;have ar9:=nr.size;refine ⟨_,_,_,rfl,nr.heap ab,nr.heap ab,nr.heap ab,nr.heap ab,λwW WI=> ?_⟩;have ay2:=zR WI;have asa:Ext w wW:=(xw.tr (Td.tr nr)).ae WI (aB _);have rH2:Row wW gH (hL y.2) dy:=(rH.ext (xd.tr (CH.tr nr))).same (by rw [WI];exact setRow_other _ _ _ _ ((rH.ext (xd.tr (CH.tr nr))).ne ((rb.ext (Td.tr nr))) aF));have rB2:Row wW gB (fV y.1) bF:=(rB.ext (xd.tr (CH.tr nr))).same (by rw [WI];exact setRow_other _ _ _ _ ab);have n1:gH≠w:=(rH.ext (xd.tr (CH.tr nr))).ne ((rb.ext (Td.tr nr))) aF;refine ⟨_,_,_,Lo.wv rH2,(UR y.2 b.speed wW).mono ?_⟩;rintro e ahv ⟨rfl,GY⟩;have ay5:=GY.size;refine ⟨_,_,_,rfl,GY.heap ab,GY.heap ab,GY.heap ab,GY.heap ab,λWo aif=> ?_⟩;have ay6:=zR aif;have aaR:Ext w Wo:=(asa.tr GY).ae aif (aB _);have rB3:Row Wo gB (fV y.1) bF:=(rB2.ext GY).same (by rw [aif];exact setRow_other _ _ _ _ ab);refine ⟨_,_,_,_,_,_,Lo.wv rB3,(lM (hV.ext aaR) hv y.1).mono ?_⟩;rintro e ahx ⟨rfl,WJ⟩;have ay8:=WJ.size;refine ⟨_,rfl,WJ.heap ab,WJ.heap ab,WJ.heap ab,WJ.heap ab,λakF asb akG asc=>⟨rfl,((aaR.tr WJ).ae asb (aB _)).ae asc ab⟩⟩
set_option maxHeartbeats 4000000 in
theorem Eg{v:Value}{V:Ce->Int}{w:World}(hV:Tl v V w)(hv:j9 v=[])(b:ef)(hw:inI b.wd){m:Int}(hnb:da b.box m)(hm:m<=99990000000000)(d:Ce):
  ah 171 #[BV b,v,dY d] w λe w'=>e=(BV (kV V b d))/\Ext w w':=by
 have hgo:kV V b d={b with aI:=jU b.aI (zO (kG V aE b.box (qp b.aI d)).1.1 b.box.1)}:=rfl;apply BU.vc;intro w0 e0 w1 e1 w2 e2;have x0:=aL e0;have z0:=zA e0;have r0:Row w0 w (jo b) y9:=Row.nw e0;have x1:=aL e1;have z1:=zA e1;have x2:=aL e2;have z2:=zA e2;refine (cP b hw w2).mono ?_;rintro e w3 ⟨rfl,x3⟩;have z3:=x3.size;refine ⟨_,_,_,_,_,_,rfl,x3.heap ab,x3.heap ab,x3.heap ab,λbO vw aY Cn=> ?_⟩;have QX:=zA vw;have z11:=zR Cn;have bC:Ext w3 aY:=(aL vw).ae Cn (aB _);have rwas:Row aY w3 (fV b.box) bF:=by rw [Cn];exact Row.set (by rw [vw];exact Row.new w3 [_,_,_,_,_,_] _) [_,_,_,_,_,_]
 have rb:=r0.ext (x1.tr (x2.tr (x3.tr bC)));have xw:=x0.tr (x1.tr (x2.tr (x3.tr bC)));have aie:=hV.ext xw;refine ⟨λp wj=>∃gB gH:Nat,p=some ⟨gB,0,none⟩/\Row wj gB (fV (kG V aE b.box (qp b.aI d)).1) bF/\Row wj gH (hL (kG V aE b.box (qp b.aI d)).2) dy/\Ext aY wj/\aY.heap.size<=gB,?_,?_⟩
 ·have X:=Ext.dr aY;have rwas:=rwas.ext X;have zd:=lG aY;have hS:=λ(cur:World)(X:Ext aY cur)=>Dy (w:=cur) (aie.ext X) hv b.box hnb hm (qp b.aI d)
  generalize kG V aE b.box (qp b.aI d)=y at*;refine ⟨?_,?_,?_⟩
  ·refine (gU b d aY.drew).mono ?_;rintro e v1 ⟨rfl,xn⟩;have z1:=xn.size;refine ⟨_,_,_,rfl,xn.heap ab,xn.heap ab,xn.heap ab,xn.heap ab,Lo.wv (rwas.ext xn),?_⟩;have X:=X.tr xn;have rwas:=rwas.ext xn;refine ⟨?_,?_,?_⟩
   ·refine (hS v1 X).mono ?_;rintro e v2 ⟨rfl,xn⟩;have z2:=xn.size;refine ⟨_,_,_,_,_,_,_,_,_,rfl,xn.heap ab,xn.heap ab,xn.heap ab,xn.heap ab,?_⟩;have X:=X.tr xn;have rwas:=rwas.ext xn;refine ⟨?_,?_⟩
    ·intro v3 en;have xn:=aL en;have z3:=zA en;have rBn:Row v3 v2 [aa,aa,aa,aa,aa,aa] bF:=Row.nw en;have X:=X.tr xn;have rwas:=rwas.ext xn;have rB:=rBn;intro v4 en;have xn:=aL en;have z4:=zA en;have rHn:Row v4 v3 (hL (false,false,false)) dy:=Row.nw en;have X:=X.tr xn;have rwas:=rwas.ext xn;have rB:=rB.ext xn;have rH:=rHn;intro oz dX;have zs:=zR dX;have rB:Row oz v2 (fV y.1) bF:=rB.st dX;have rH:=rH.so dX;have X:=X.ae dX ab;refine ⟨⟨rfl,rH.wr bB⟩,cT ab,cT ab,cT ab,cT ab,cT ab,λwt et=> ?_⟩;rw [rH.aH (vs:=hL y.2) bB (gm _),aQ bB] at et;have zt:=zR et;have rB:=rB.so et;have rH:Row wt v3 (hL y.2) dy:=rH.st et;exact ⟨rfl,rfl,rfl,rfl,_,_,rfl,rB,rH,X.ae et ab,by omega⟩
    ·intro v3 en;have xn:=aL en;have z3:=zA en;have rHn:Row v3 v2 (hL (false,false,false)) dy:=Row.nw en;have X:=X.tr xn;have rwas:=rwas.ext xn;have rH:=rHn;intro v4 en;have xn:=aL en;have z4:=zA en;have rBn:Row v4 v3 [aa,aa,aa,aa,aa,aa] bF:=Row.nw en;have X:=X.tr xn;have rwas:=rwas.ext xn;have rH:=rH.ext xn;have rB:=rBn;intro oz dX;have zs:=zR dX;have rB:Row oz v3 (fV y.1) bF:=rB.st dX;have rH:=rH.so dX;have X:=X.ae dX ab;refine ⟨⟨rfl,rH.wr bB⟩,cT ab,cT ab,cT ab,cT ab,cT ab,λwt et=> ?_⟩;rw [rH.aH (vs:=hL y.2) bB (gm _),aQ bB] at et;have zt:=zR et;have rB:=rB.so et;have rH:Row wt v2 (hL y.2) dy:=rH.st et;exact ⟨rfl,rfl,rfl,rfl,_,_,rfl,rB,rH,X.ae et ab,by omega⟩
   ·intro v2 en;have xn:=aL en;have z2:=zA en;have rBn:Row v2 v1 [aa,aa,aa,aa,aa,aa] bF:=Row.nw en;have X:=X.tr xn;have rwas:=rwas.ext xn;have rB:=rBn;refine ⟨?_,?_⟩
    ·refine (hS v2 X).mono ?_;rintro e v3 ⟨rfl,xn⟩;have z3:=xn.size;refine ⟨_,_,_,_,_,_,_,_,_,rfl,xn.heap ab,xn.heap ab,xn.heap ab,xn.heap ab,xn.heap ab,?_⟩;have X:=X.tr xn;have rwas:=rwas.ext xn;have rB:=rB.ext xn;intro v4 en;have xn:=aL en;have z4:=zA en;have rHn:Row v4 v3 (hL (false,false,false)) dy:=Row.nw en;have X:=X.tr xn;have rwas:=rwas.ext xn;have rB:=rB.ext xn;have rH:=rHn;intro oz dX;have zs:=zR dX;have rB:Row oz v1 (fV y.1) bF:=rB.st dX;have rH:=rH.so dX;have X:=X.ae dX ab;refine ⟨⟨rfl,rH.wr bB⟩,cT ab,cT ab,cT ab,cT ab,cT ab,λwt et=> ?_⟩;rw [rH.aH (vs:=hL y.2) bB (gm _),aQ bB] at et;have zt:=zR et;have rB:=rB.so et;have rH:Row wt v3 (hL y.2) dy:=rH.st et;exact ⟨rfl,rfl,rfl,rfl,_,_,rfl,rB,rH,X.ae et ab,by omega⟩
    ·intro v3 en;have xn:=aL en;have z3:=zA en;have rHn:Row v3 v2 (hL (false,false,false)) dy:=Row.nw en;have X:=X.tr xn;have rwas:=rwas.ext xn;have rB:=rB.ext xn;have rH:=rHn;refine (hS v3 X).mono ?_;rintro e v4 ⟨rfl,xn⟩;have z4:=xn.size;refine ⟨_,_,_,_,_,_,_,_,_,rfl,xn.heap ab,xn.heap ab,xn.heap ab,xn.heap ab,xn.heap ab,?_⟩;have X:=X.tr xn;have rwas:=rwas.ext xn;have rB:=rB.ext xn;have rH:=rH.ext xn;intro oz dX;have zs:=zR dX;have rB:Row oz v1 (fV y.1) bF:=rB.st dX;have rH:=rH.so dX;have X:=X.ae dX ab;refine ⟨⟨rfl,rH.wr bB⟩,cT ab,cT ab,cT ab,cT ab,cT ab,λwt et=> ?_⟩;rw [rH.aH (vs:=hL y.2) bB (gm _),aQ bB] at et;have zt:=zR et;have rB:=rB.so et;have rH:Row wt v2 (hL y.2) dy:=rH.st et;exact ⟨rfl,rfl,rfl,rfl,_,_,rfl,rB,rH,X.ae et ab,by omega⟩
   ·intro v2 en;have xn:=aL en;have z2:=zA en;have rHn:Row v2 v1 (hL (false,false,false)) dy:=Row.nw en;have X:=X.tr xn;have rwas:=rwas.ext xn;have rH:=rHn;refine ⟨?_,?_⟩
    ·refine (hS v2 X).mono ?_;rintro e v3 ⟨rfl,xn⟩;have z3:=xn.size;refine ⟨_,_,_,_,_,_,_,_,_,rfl,xn.heap ab,xn.heap ab,xn.heap ab,xn.heap ab,?_⟩;have X:=X.tr xn;have rwas:=rwas.ext xn;have rH:=rH.ext xn;intro v4 en;have xn:=aL en;have z4:=zA en;have rBn:Row v4 v3 [aa,aa,aa,aa,aa,aa] bF:=Row.nw en;have X:=X.tr xn;have rwas:=rwas.ext xn;have rH:=rH.ext xn;have rB:=rBn;intro oz dX;have zs:=zR dX;have rB:Row oz v3 (fV y.1) bF:=rB.st dX;have rH:=rH.so dX;have X:=X.ae dX ab;refine ⟨⟨rfl,rH.wr bB⟩,cT ab,cT ab,cT ab,cT ab,cT ab,λwt et=> ?_⟩;rw [rH.aH (vs:=hL y.2) bB (gm _),aQ bB] at et;have zt:=zR et;have rB:=rB.so et;have rH:Row wt v1 (hL y.2) dy:=rH.st et;exact ⟨rfl,rfl,rfl,rfl,_,_,rfl,rB,rH,X.ae et ab,by omega⟩
    ·intro v3 en;have xn:=aL en;have z3:=zA en;have rBn:Row v3 v2 [aa,aa,aa,aa,aa,aa] bF:=Row.nw en;have X:=X.tr xn;have rwas:=rwas.ext xn;have rH:=rH.ext xn;have rB:=rBn;refine (hS v3 X).mono ?_;rintro e v4 ⟨rfl,xn⟩;have z4:=xn.size;refine ⟨_,_,_,_,_,_,_,_,_,rfl,xn.heap ab,xn.heap ab,xn.heap ab,xn.heap ab,xn.heap ab,?_⟩;have X:=X.tr xn;have rwas:=rwas.ext xn;have rB:=rB.ext xn;have rH:=rH.ext xn;intro oz dX;have zs:=zR dX;have rB:Row oz v2 (fV y.1) bF:=rB.st dX;have rH:=rH.so dX;have X:=X.ae dX ab;refine ⟨⟨rfl,rH.wr bB⟩,cT ab,cT ab,cT ab,cT ab,cT ab,λwt et=> ?_⟩;rw [rH.aH (vs:=hL y.2) bB (gm _),aQ bB] at et;have zt:=zR et;have rB:=rB.so et;have rH:Row wt v1 (hL y.2) dy:=rH.st et;exact ⟨rfl,rfl,rfl,rfl,_,_,rfl,rB,rH,X.ae et ab,by omega⟩
  ·intro v1 en;have xn:=aL en;have z1:=zA en;have rBn:Row v1 aY.drew.heap.size [aa,aa,aa,aa,aa,aa] bF:=Row.nw en;have X:=X.tr xn;have rwas:=rwas.ext xn;have rB:=rBn;refine ⟨?_,?_⟩
   ·refine (gU b d v1).mono ?_;rintro e v2 ⟨rfl,xn⟩;have z2:=xn.size;refine ⟨_,_,_,rfl,xn.heap ab,xn.heap ab,xn.heap ab,xn.heap ab,xn.heap ab,Lo.wv (rwas.ext xn),?_⟩;have X:=X.tr xn;have rwas:=rwas.ext xn;have rB:=rB.ext xn;refine ⟨?_,?_⟩
    ·refine (hS v2 X).mono ?_;rintro e v3 ⟨rfl,xn⟩;have z3:=xn.size;refine ⟨_,_,_,_,_,_,_,_,_,rfl,xn.heap ab,xn.heap ab,xn.heap ab,xn.heap ab,xn.heap ab,?_⟩;have X:=X.tr xn;have rwas:=rwas.ext xn;have rB:=rB.ext xn;intro v4 en;have xn:=aL en;have z4:=zA en;have rHn:Row v4 v3 (hL (false,false,false)) dy:=Row.nw en;have X:=X.tr xn;have rwas:=rwas.ext xn;have rB:=rB.ext xn;have rH:=rHn;intro oz dX;have zs:=zR dX;have rB:Row oz aY.drew.heap.size (fV y.1) bF:=rB.st dX;have rH:=rH.so dX;have X:=X.ae dX ab;refine ⟨⟨rfl,rH.wr bB⟩,cT ab,cT ab,cT ab,cT ab,cT ab,λwt et=> ?_⟩;rw [rH.aH (vs:=hL y.2) bB (gm _),aQ bB] at et;have zt:=zR et;have rB:=rB.so et;have rH:Row wt v3 (hL y.2) dy:=rH.st et;exact ⟨rfl,rfl,rfl,rfl,_,_,rfl,rB,rH,X.ae et ab,by omega⟩
    ·intro v3 en;have xn:=aL en;have z3:=zA en;have rHn:Row v3 v2 (hL (false,false,false)) dy:=Row.nw en;have X:=X.tr xn;have rwas:=rwas.ext xn;have rB:=rB.ext xn;have rH:=rHn;refine (hS v3 X).mono ?_;rintro e v4 ⟨rfl,xn⟩;have z4:=xn.size;refine ⟨_,_,_,_,_,_,_,_,_,rfl,xn.heap ab,xn.heap ab,xn.heap ab,xn.heap ab,xn.heap ab,?_⟩;have X:=X.tr xn;have rwas:=rwas.ext xn;have rB:=rB.ext xn;have rH:=rH.ext xn;intro oz dX;have zs:=zR dX;have rB:Row oz aY.drew.heap.size (fV y.1) bF:=rB.st dX;have rH:=rH.so dX;have X:=X.ae dX ab;refine ⟨⟨rfl,rH.wr bB⟩,cT ab,cT ab,cT ab,cT ab,cT ab,λwt et=> ?_⟩;rw [rH.aH (vs:=hL y.2) bB (gm _),aQ bB] at et;have zt:=zR et;have rB:=rB.so et;have rH:Row wt v2 (hL y.2) dy:=rH.st et;exact ⟨rfl,rfl,rfl,rfl,_,_,rfl,rB,rH,X.ae et ab,by omega⟩
   ·intro v2 en;have xn:=aL en;have z2:=zA en;have rHn:Row v2 v1 (hL (false,false,false)) dy:=Row.nw en;have X:=X.tr xn;have rwas:=rwas.ext xn;have rB:=rB.ext xn;have rH:=rHn;refine (gU b d v2).mono ?_;rintro e v3 ⟨rfl,xn⟩;have z3:=xn.size;refine ⟨_,_,_,rfl,xn.heap ab,xn.heap ab,xn.heap ab,xn.heap ab,xn.heap ab,Lo.wv (rwas.ext xn),?_⟩;have X:=X.tr xn;have rwas:=rwas.ext xn;have rB:=rB.ext xn;have rH:=rH.ext xn;refine (hS v3 X).mono ?_;rintro e v4 ⟨rfl,xn⟩;have z4:=xn.size;refine ⟨_,_,_,_,_,_,_,_,_,rfl,xn.heap ab,xn.heap ab,xn.heap ab,xn.heap ab,xn.heap ab,?_⟩;have X:=X.tr xn;have rwas:=rwas.ext xn;have rB:=rB.ext xn;have rH:=rH.ext xn;intro oz dX;have zs:=zR dX;have rB:Row oz aY.drew.heap.size (fV y.1) bF:=rB.st dX;have rH:=rH.so dX;have X:=X.ae dX ab;refine ⟨⟨rfl,rH.wr bB⟩,cT ab,cT ab,cT ab,cT ab,cT ab,λwt et=> ?_⟩;rw [rH.aH (vs:=hL y.2) bB (gm _),aQ bB] at et;have zt:=zR et;have rB:=rB.so et;have rH:Row wt v1 (hL y.2) dy:=rH.st et;exact ⟨rfl,rfl,rfl,rfl,_,_,rfl,rB,rH,X.ae et ab,by omega⟩
  ·intro v1 en;have xn:=aL en;have z1:=zA en;have rHn:Row v1 aY.drew.heap.size (hL (false,false,false)) dy:=Row.nw en;have X:=X.tr xn;have rwas:=rwas.ext xn;have rH:=rHn;refine ⟨?_,?_⟩
   ·refine (gU b d v1).mono ?_;rintro e v2 ⟨rfl,xn⟩;have z2:=xn.size;refine ⟨_,_,_,rfl,xn.heap ab,xn.heap ab,xn.heap ab,xn.heap ab,Lo.wv (rwas.ext xn),?_⟩;have X:=X.tr xn;have rwas:=rwas.ext xn;have rH:=rH.ext xn;refine ⟨?_,?_⟩
    ·refine (hS v2 X).mono ?_;rintro e v3 ⟨rfl,xn⟩;have z3:=xn.size;refine ⟨_,_,_,_,_,_,_,_,_,rfl,xn.heap ab,xn.heap ab,xn.heap ab,xn.heap ab,?_⟩;have X:=X.tr xn;have rwas:=rwas.ext xn;have rH:=rH.ext xn;intro v4 en;have xn:=aL en;have z4:=zA en;have rBn:Row v4 v3 [aa,aa,aa,aa,aa,aa] bF:=Row.nw en;have X:=X.tr xn;have rwas:=rwas.ext xn;have rH:=rH.ext xn;have rB:=rBn;intro oz dX;have zs:=zR dX;have rB:Row oz v3 (fV y.1) bF:=rB.st dX;have rH:=rH.so dX;have X:=X.ae dX ab;refine ⟨⟨rfl,rH.wr bB⟩,cT ab,cT ab,cT ab,cT ab,cT ab,λwt et=> ?_⟩;rw [rH.aH (vs:=hL y.2) bB (gm _),aQ bB] at et;have zt:=zR et;have rB:=rB.so et;have rH:Row wt aY.drew.heap.size (hL y.2) dy:=rH.st et;exact ⟨rfl,rfl,rfl,rfl,_,_,rfl,rB,rH,X.ae et ab,by omega⟩
    ·intro v3 en;have xn:=aL en;have z3:=zA en;have rBn:Row v3 v2 [aa,aa,aa,aa,aa,aa] bF:=Row.nw en;have X:=X.tr xn;have rwas:=rwas.ext xn;have rH:=rH.ext xn;have rB:=rBn;refine (hS v3 X).mono ?_;rintro e v4 ⟨rfl,xn⟩;have z4:=xn.size;refine ⟨_,_,_,_,_,_,_,_,_,rfl,xn.heap ab,xn.heap ab,xn.heap ab,xn.heap ab,xn.heap ab,?_⟩;have X:=X.tr xn;have rwas:=rwas.ext xn;have rB:=rB.ext xn;have rH:=rH.ext xn;intro oz dX;have zs:=zR dX;have rB:Row oz v2 (fV y.1) bF:=rB.st dX;have rH:=rH.so dX;have X:=X.ae dX ab;refine ⟨⟨rfl,rH.wr bB⟩,cT ab,cT ab,cT ab,cT ab,cT ab,λwt et=> ?_⟩;rw [rH.aH (vs:=hL y.2) bB (gm _),aQ bB] at et;have zt:=zR et;have rB:=rB.so et;have rH:Row wt aY.drew.heap.size (hL y.2) dy:=rH.st et;exact ⟨rfl,rfl,rfl,rfl,_,_,rfl,rB,rH,X.ae et ab,by omega⟩
   ·intro v2 en;have xn:=aL en;have z2:=zA en;have rBn:Row v2 v1 [aa,aa,aa,aa,aa,aa] bF:=Row.nw en;have X:=X.tr xn;have rwas:=rwas.ext xn;have rH:=rH.ext xn;have rB:=rBn;refine (gU b d v2).mono ?_;rintro e v3 ⟨rfl,xn⟩;have z3:=xn.size;refine ⟨_,_,_,rfl,xn.heap ab,xn.heap ab,xn.heap ab,xn.heap ab,xn.heap ab,Lo.wv (rwas.ext xn),?_⟩;have X:=X.tr xn;have rwas:=rwas.ext xn;have rB:=rB.ext xn;have rH:=rH.ext xn;refine (hS v3 X).mono ?_;rintro e v4 ⟨rfl,xn⟩;have z4:=xn.size;refine ⟨_,_,_,_,_,_,_,_,_,rfl,xn.heap ab,xn.heap ab,xn.heap ab,xn.heap ab,xn.heap ab,?_⟩;have X:=X.tr xn;have rwas:=rwas.ext xn;have rB:=rB.ext xn;have rH:=rH.ext xn;intro oz dX;have zs:=zR dX;have rB:Row oz v1 (fV y.1) bF:=rB.st dX;have rH:=rH.so dX;have X:=X.ae dX ab;refine ⟨⟨rfl,rH.wr bB⟩,cT ab,cT ab,cT ab,cT ab,cT ab,λwt et=> ?_⟩;rw [rH.aH (vs:=hL y.2) bB (gm _),aQ bB] at et;have zt:=zR et;have rB:=rB.so et;have rH:Row wt aY.drew.heap.size (hL y.2) dy:=rH.st et;exact ⟨rfl,rfl,rfl,rfl,_,_,rfl,rB,rH,X.ae et ab,by omega⟩
 ·rintro us GS wj ⟨gB,gH,rfl,rB,rH,xj,hgB⟩;have zj:=xj.size;have xd:=Ext.dr wj;have zd:=lG wj;rw [hgo];generalize kG V aE b.box (qp b.aI d)=y at*;refine fU rfl ⟨_,_,_,qe (o:=0) (rB.ext xd) rfl rfl rfl,(uh y.1.1 b.box.1 wj.drew).mono ?_⟩;rintro e Wp ⟨rfl,AV⟩;have ay9:=AV.size;have afA:=xj.tr (xd.tr AV);refine ⟨_,_,_,rfl,AV.heap ab,AV.heap ab,AV.heap ab,AV.heap ab,qe (rb.ext afA) rfl rfl rfl,(iS b.aI (zO y.1.1 b.box.1) Wp).mono ?_⟩;rintro e ahy ⟨rfl,GU⟩;have aza:=GU.size;refine ⟨_,_,_,rfl,GU.heap ab,GU.heap ab,GU.heap ab,GU.heap ab,λakH asd wW WI=>⟨rfl,((xw.tr (afA.tr GU)).ae asd (aB _)).ae WI ab⟩⟩
theorem Ib(V:Ce->Int)(b:ef)(i:Ga):(qn V b i).box=b.box/\(qn V b i).wd=b.wd:=by
 unfold qn;split
 ·exact ⟨rfl,rfl⟩
 ·split<;>exact ⟨rfl,rfl⟩
def upB(V:Ce->Int)(b:ef)(i:Ga):Nat->ef
 |0=>b
 |1=>rV b i
 |2=>qn V (rV b i) i
 |_=>LC V (qn V (rV b i) i)
def tu(V:Ce->Int)(b:ef)(i:Ga):ef:=LC V (qn V (rV b i) i)
theorem D7{v:Value}{V:Ce->Int}{w:World}(hV:Tl v V w)(hv:j9 v=[])(b:ef)(hw:inI b.wd)(hs: -1000000<=b.speed.2.1/\b.speed.2.1<=1000000){m:Int}(hnb:da b.box m)(hm:m<=99980000000000)(i:Ga):
  ah 116 #[BV b,v,inV i] w λe w'=>e=(BV (tu V b i))/\Ext w w':=by
 apply DL.vc;intro w0 e0 w1 e1 w2 e2;have x0:=aL e0;have z0:=zA e0;have x1:=aL e1;have z1:=zA e1;have x2:=aL e2;have z2:=zA e2;have yM:=x0.tr (x1.tr x2);refine ⟨λn x a0 a1 a2 a3 a4 a5 a6 a7 a8 wr=>∃k:Nat,x=k/\k+n=3/\upB V b i k=⟨(a0,a1,a2),(a3,a4,a5),a6,a7,a8⟩/\Ext w wr/\w2.heap.size<=wr,⟨3,rfl,rfl,0,rfl,rfl,rfl,yM,aB _⟩,?_⟩;rintro n us x a0 a1 a2 a3 a4 a5 a6 a7 a8 wr ⟨k,rfl,hk,hu,xr,zr⟩;apply Br.mk<;>intro hc
 ·have hc:(k:Int)<3:=by simpa using hc
  have za:k=0\/k=1\/k=2:=by omega
  have hVr:=hV.ext xr;obtain ⟨fv,h1,h2⟩:∃fv:Value,([.func (.func 166) #[] #[],.func (.func 167) #[] #[],.func (.func 168) #[] #[]]:LV)[((k:Nat):Int).toNat*1]? =some fv/\cr Tryz.prog fv [BV (upB V b i k),v,inV i] wr λe w'=>e=(BV (upB V b i (k+1)))/\Ext wr w':=by
   rcases za with rfl|rfl|rfl
   ·exact ⟨_,rfl,cS (by kernel_rfl) rfl (Qv b v i wr)⟩
   ·exact ⟨_,rfl,cS (by kernel_rfl) rfl (Qw hVr hv (rV b i) hw hs i)⟩
   ·refine ⟨_,rfl,cS (by kernel_rfl) rfl (Vj hVr hv (qn V (rV b i) i) ?_ (m:=m) ?_ hm i)⟩
    ·rw [(Ib V (rV b i) i).2];exact hw
    ·rw [(Ib V (rV b i) i).1];exact hnb
  rw [hu] at h2;have wk:=mz (j:=k);refine ⟨⟨by omega,by omega⟩,fv,h1,dp h2 ?_⟩;rintro e fP ⟨rfl,cn⟩;have z19:=cn.size;refine ⟨_,_,_,_,_,_,_,_,_,rfl,cn.heap ab,cn.heap ab,cn.heap ab,λdR M3=>⟨n-1,by omega,rfl,rfl,k+1,wk,by omega,rfl,(xr.tr cn).ae M3 ab,by rw [zR M3];omega⟩⟩
 ·have hc:¬(k:Int)<3:=by simpa using hc
  have za:k=3:=by omega
  subst za;intro eK yY;have hu:tu V b i=_:=hu;exact ⟨by rw [hu],xr.ae yY ab⟩
def ovK(a b:Bx)(i:Int):Bool:=decide (db a.1 i<db b.2 i) && decide (db b.1 i<db a.2 i)
def jB(a b:Bx):Bool:=ovK a b 0 && ovK a b 1 && ovK a b 2
theorem GB(a b:Bx)(i:Int){ga gb:Nat}{w:World}(ha:Row w ga (fV a) bF)(hb:Row w gb (fV b) bF):
  ah 177 #[i,ga,gb] w λe w'=>e=Value.bool (ovK a b i)/\Ext w w':=by
 apply Gd.vc;have xd:=Ext.dr w;refine ⟨_,_,_,qe (o:=0) (ha.ext xd) rfl rfl rfl,_,_,_,qe (o:=3) (hb.ext xd) rfl rfl rfl,(dc a.1 i w.drew).mono ?_⟩;rintro e w6 ⟨rfl,x6⟩;have y6:=xd.tr x6;refine ⟨_,rfl,qe (o:=3) (hb.ext y6) rfl rfl rfl,(dc b.2 i w6).mono ?_⟩;rintro e w8 ⟨rfl,x8⟩;have y8:=y6.tr x8;unfold ovK;refine ⟨_,rfl,Br.mk (λhc=>⟨_,_,_,qe (o:=0) (hb.ext y8) rfl rfl rfl,_,_,_,qe (o:=3) (ha.ext y8) rfl rfl rfl,(dc b.1 i w8).mono ?_⟩) (λhc=>⟨by rw [hc,Bool.false_and],y8⟩)⟩;rintro e cJ ⟨rfl,cD⟩;have y16:=y8.tr cD;refine ⟨_,rfl,qe (o:=3) (ha.ext y16) rfl rfl rfl,(dc a.2 i cJ).mono ?_⟩;rintro e dG ⟨rfl,cp⟩;exact ⟨_,rfl,by rw [hc,Bool.true_and],y16.tr cp⟩
theorem ZM(f:Int->Bool)(fv:Value)(w:World)(hf:∀w',Ext w w'->∀i:Int,cr Tryz.prog fv [i] w' λe w''=>e=Value.bool (f i)/\Ext w' w''):
  ah 176 #[fv] w λe w'=>e=Value.bool (f 0 && f 1 && f 2)/\Ext w w':=by
 apply acj.vc;refine ⟨λn x wr=>∃k:Nat,x=k/\k+n=3/\(∀j:Nat,j<k->f j=true)/\Ext w wr,⟨3,0,rfl,rfl,λj hj=>absurd hj ab,Ext.cE _⟩,?_⟩;rintro n us x wr ⟨k,rfl,hk,hj,xr⟩;apply Br.mk<;>intro hc
 ·have hc:(k:Int)<3:=by simpa using hc
  refine dp (hf wr xr k) ?_;rintro e w6 ⟨rfl,x6⟩;have wk:=mz (j:=k);refine ⟨_,rfl,Br.mk (λhq=>⟨?_,xr.tr x6⟩) (λhq=>⟨n-1,by omega,k+1,wk,by omega,λj Q0=> ?_,xr.tr x6⟩)⟩
  ·have hq:f k=false:=by simpa using hq
   have za:k=0\/k=1\/k=2:=by omega
   have:(f 0 && f 1 && f 2)=false:=by
    rcases za with rfl|rfl|rfl
    ·rw [show f 0=false from hq];rfl
    ·rw [show f 1=false from hq,Bool.and_false];rfl
    ·rw [show f 2=false from hq,Bool.and_false]
   rw [this]
  ·have hq:f k=true:=by simpa using hq
   by_cases he:j=k
   ·rw [he];exact hq
   ·exact hj j ab
 ·have hc:¬(k:Int)<3:=by simpa using hc
  refine ⟨?_,xr⟩;rw [show f 0=true from hj 0 ab,show f 1=true from hj 1 ab,show f 2=true from hj 2 ab];rfl
theorem yC(a b:Bx)(w:World):ah 124 #[qQ a,qQ b] w λe w'=>e=Value.bool (jB a b)/\Ext w w':=by
 apply KR.vc;intro w0 e0 w1 e1;have x0:=aL e0;have r0:Row w0 w (fV a) bF:=Row.nw e0;have x1:=aL e1;have r1:Row w1 w0 (fV b) bF:=Row.nw e1;have z0:=zA e0;have z1:=zA e1;refine (ZM (ovK a b) (.func (.func 177) #[] #[w,w0]) w1 λw' x' i=>cS (by kernel_rfl) rfl (GB a b i (r0.ext (x1.tr x')) (r1.ext x'))).mono ?_;rintro e w2 ⟨rfl,x2⟩;have z2:=x2.size
 first
  |exact ⟨_,rfl,rfl,x0.tr (x1.tr x2)⟩
  |exact ⟨_,rfl,x2.heap ab,x2.heap ab,rfl,x0.tr (x1.tr x2)⟩
def Mn(x y:Bx)(i:Int):Int:=aj ((if db y.2 i<db x.2 i then db y.2 i else db x.2 i)-(if db y.1 i>db x.1 i then db y.1 i else db x.1 i))
theorem wy(a b:Bx)(i:Int){ga gb:Nat}{w:World}(ha:Row w ga (fV a) bF)(hb:Row w gb (fV b) bF):
  ah 239 #[i,ga,gb] w λe w'=>e=Value.int .i64 (Mn a b i)/\Ext w w':=by
 apply KS.vc;have xd:=Ext.dr w;refine ⟨_,_,_,qe (o:=3) (ha.ext xd) rfl rfl rfl,_,_,_,qe (o:=3) (hb.ext xd) rfl rfl rfl,_,_,_,qe (o:=0) (ha.ext xd) rfl rfl rfl,_,_,_,qe (o:=0) (hb.ext xd) rfl rfl rfl,(dc a.2 i w.drew).mono ?_⟩;rintro e w6 ⟨rfl,x6⟩;have y6:=xd.tr x6;refine ⟨_,rfl,qe (o:=0) (hb.ext y6) rfl rfl rfl,qe (o:=0) (ha.ext y6) rfl rfl rfl,qe (o:=3) (hb.ext y6) rfl rfl rfl,(dc b.2 i w6).mono ?_⟩;rintro e w8 ⟨rfl,x8⟩;have y8:=y6.tr x8;refine ⟨_,rfl,qe (o:=0) (hb.ext y8) rfl rfl rfl,qe (o:=0) (ha.ext y8) rfl rfl rfl,(dc a.1 i w8).mono ?_⟩;rintro e cJ ⟨rfl,cD⟩;have y16:=y8.tr cD;refine ⟨_,rfl,qe (o:=0) (hb.ext y16) rfl rfl rfl,(dc b.1 i cJ).mono ?_⟩;rintro e dG ⟨rfl,cp⟩;exact ⟨_,rfl,rfl,y16.tr cp⟩
def Vl(a b:ef):Int:=if Mn a.box b.box 0>Mn a.box b.box 2 then 2 else 0
def nP(a b:ef):Int:=if 4096<Mn a.box b.box (Vl a b) then 4096 else Mn a.box b.box (Vl a b)
def sP(a b:ef):Int:=if db a.aI (Vl a b)<=db b.aI (Vl a b) then aj (0-nP a b) else nP a b
def fD(a b:ef):Ce × Ce:=if jB a.box b.box=true then (iE (0,0,0) (Vl a b) (sP a b),iE (0,0,0) (Vl a b) (aj (0-sP a b))) else ((0,0,0),(0,0,0))
theorem qq(a b:ef)(W8:inI a.wd)(FR:inI b.wd)(w:World):
  ah 170 #[BV a,BV b] w λe w'=>e=Value.tuple #[dY (fD a b).1,dY (fD a b).2]/\Ext w w':=by
 apply TL.vc;intro w0 e0 w1 e1 w2 e2 w3 e3;have x0:=aL e0;have z0:=zA e0;have r0:Row w0 w (jo a) y9:=Row.nw e0;have x1:=aL e1;have z1:=zA e1;have r1:Row w1 w0 (jo b) y9:=Row.nw e1;have x2:=aL e2;have z2:=zA e2;have x3:=aL e3;have z3:=zA e3;have AK:=x0.tr (x1.tr (x2.tr x3));have ra:=r0.ext (x1.tr (x2.tr x3));have rb:=r1.ext (x2.tr x3);refine ⟨λp q wj=>∃gX gY:Nat,p=some ⟨gX,0,none⟩/\q=some ⟨gY,0,none⟩/\Row wj gX (fV a.box) bF/\Row wj gY (fV b.box) bF/\Ext w3 wj,?_,?_⟩
 ·have X:=Ext.dr w3;have zd:=lG w3;refine ⟨?_,?_,?_⟩
  ·refine (cP a W8 w3.drew).mono ?_;rintro e v1 ⟨rfl,xn⟩;have z1:=xn.size;refine ⟨_,_,_,_,_,_,rfl,xn.heap ab,xn.heap ab,xn.heap ab,xn.heap ab,Lo.wv (r1.ext (x2.tr (x3.tr (X.tr xn)))),?_⟩;have X:=X.tr xn;refine ⟨?_,?_,?_⟩
   ·refine (cP b FR v1).mono ?_;rintro e v2 ⟨rfl,xn⟩;have z2:=xn.size;refine ⟨_,_,_,_,_,_,rfl,xn.heap ab,xn.heap ab,xn.heap ab,xn.heap ab,?_⟩;have X:=X.tr xn;refine ⟨?_,?_⟩
    ·intro v3 en;have xn:=aL en;have z3:=zA en;have rXn:Row v3 v2 [aa,aa,aa,aa,aa,aa] bF:=Row.nw en;have X:=X.tr xn;have rX:=rXn;intro v4 en;have xn:=aL en;have z4:=zA en;have rYn:Row v4 v3 [aa,aa,aa,aa,aa,aa] bF:=Row.nw en;have X:=X.tr xn;have rX:=rX.ext xn;have rY:=rYn;intro ws es wt et;have zs:=zR es;have zt:=zR et;have rX:Row ws v2 (fV a.box) bF:=rX.st es;have rY:=rY.so es;have rY:Row wt v3 (fV b.box) bF:=rY.st et;have rX:=rX.so et;exact ⟨rfl,rfl,rfl,rfl,_,_,rfl,rfl,rX,rY,(X.ae es ab).ae et ab⟩
    ·intro v3 en;have xn:=aL en;have z3:=zA en;have rYn:Row v3 v2 [aa,aa,aa,aa,aa,aa] bF:=Row.nw en;have X:=X.tr xn;have rY:=rYn;intro v4 en;have xn:=aL en;have z4:=zA en;have rXn:Row v4 v3 [aa,aa,aa,aa,aa,aa] bF:=Row.nw en;have X:=X.tr xn;have rY:=rY.ext xn;have rX:=rXn;intro ws es wt et;have zs:=zR es;have zt:=zR et;have rX:Row ws v3 (fV a.box) bF:=rX.st es;have rY:=rY.so es;have rY:Row wt v2 (fV b.box) bF:=rY.st et;have rX:=rX.so et;exact ⟨rfl,rfl,rfl,rfl,_,_,rfl,rfl,rX,rY,(X.ae es ab).ae et ab⟩
   ·intro v2 en;have xn:=aL en;have z2:=zA en;have rXn:Row v2 v1 [aa,aa,aa,aa,aa,aa] bF:=Row.nw en;have X:=X.tr xn;have rX:=rXn;refine ⟨?_,?_⟩
    ·refine (cP b FR v2).mono ?_;rintro e v3 ⟨rfl,xn⟩;have z3:=xn.size;refine ⟨_,_,_,_,_,_,rfl,xn.heap ab,xn.heap ab,xn.heap ab,xn.heap ab,xn.heap ab,?_⟩;have X:=X.tr xn;have rX:=rX.ext xn;intro v4 en;have xn:=aL en;have z4:=zA en;have rYn:Row v4 v3 [aa,aa,aa,aa,aa,aa] bF:=Row.nw en;have X:=X.tr xn;have rX:=rX.ext xn;have rY:=rYn;intro ws es wt et;have zs:=zR es;have zt:=zR et;have rX:Row ws v1 (fV a.box) bF:=rX.st es;have rY:=rY.so es;have rY:Row wt v3 (fV b.box) bF:=rY.st et;have rX:=rX.so et;exact ⟨rfl,rfl,rfl,rfl,_,_,rfl,rfl,rX,rY,(X.ae es ab).ae et ab⟩
    ·intro v3 en;have xn:=aL en;have z3:=zA en;have rYn:Row v3 v2 [aa,aa,aa,aa,aa,aa] bF:=Row.nw en;have X:=X.tr xn;have rX:=rX.ext xn;have rY:=rYn;refine (cP b FR v3).mono ?_;rintro e v4 ⟨rfl,xn⟩;have z4:=xn.size;refine ⟨_,_,_,_,_,_,rfl,xn.heap ab,xn.heap ab,xn.heap ab,xn.heap ab,xn.heap ab,xn.heap ab,?_⟩;have X:=X.tr xn;have rX:=rX.ext xn;have rY:=rY.ext xn;intro ws es wt et;have zs:=zR es;have zt:=zR et;have rX:Row ws v1 (fV a.box) bF:=rX.st es;have rY:=rY.so es;have rY:Row wt v2 (fV b.box) bF:=rY.st et;have rX:=rX.so et;exact ⟨rfl,rfl,rfl,rfl,_,_,rfl,rfl,rX,rY,(X.ae es ab).ae et ab⟩
   ·intro v2 en;have xn:=aL en;have z2:=zA en;have rYn:Row v2 v1 [aa,aa,aa,aa,aa,aa] bF:=Row.nw en;have X:=X.tr xn;have rY:=rYn;refine ⟨?_,?_⟩
    ·refine (cP b FR v2).mono ?_;rintro e v3 ⟨rfl,xn⟩;have z3:=xn.size;refine ⟨_,_,_,_,_,_,rfl,xn.heap ab,xn.heap ab,xn.heap ab,xn.heap ab,xn.heap ab,?_⟩;have X:=X.tr xn;have rY:=rY.ext xn;intro v4 en;have xn:=aL en;have z4:=zA en;have rXn:Row v4 v3 [aa,aa,aa,aa,aa,aa] bF:=Row.nw en;have X:=X.tr xn;have rY:=rY.ext xn;have rX:=rXn;intro ws es wt et;have zs:=zR es;have zt:=zR et;have rX:Row ws v3 (fV a.box) bF:=rX.st es;have rY:=rY.so es;have rY:Row wt v1 (fV b.box) bF:=rY.st et;have rX:=rX.so et;exact ⟨rfl,rfl,rfl,rfl,_,_,rfl,rfl,rX,rY,(X.ae es ab).ae et ab⟩
    ·intro v3 en;have xn:=aL en;have z3:=zA en;have rXn:Row v3 v2 [aa,aa,aa,aa,aa,aa] bF:=Row.nw en;have X:=X.tr xn;have rY:=rY.ext xn;have rX:=rXn;refine (cP b FR v3).mono ?_;rintro e v4 ⟨rfl,xn⟩;have z4:=xn.size;refine ⟨_,_,_,_,_,_,rfl,xn.heap ab,xn.heap ab,xn.heap ab,xn.heap ab,xn.heap ab,xn.heap ab,?_⟩;have X:=X.tr xn;have rX:=rX.ext xn;have rY:=rY.ext xn;intro ws es wt et;have zs:=zR es;have zt:=zR et;have rX:Row ws v2 (fV a.box) bF:=rX.st es;have rY:=rY.so es;have rY:Row wt v1 (fV b.box) bF:=rY.st et;have rX:=rX.so et;exact ⟨rfl,rfl,rfl,rfl,_,_,rfl,rfl,rX,rY,(X.ae es ab).ae et ab⟩
  ·intro v1 en;have xn:=aL en;have z1:=zA en;have rXn:Row v1 w3.drew.heap.size [aa,aa,aa,aa,aa,aa] bF:=Row.nw en;have X:=X.tr xn;have rX:=rXn;refine ⟨?_,?_⟩
   ·refine (cP a W8 v1).mono ?_;rintro e v2 ⟨rfl,xn⟩;have z2:=xn.size;refine ⟨_,_,_,_,_,_,rfl,xn.heap ab,xn.heap ab,xn.heap ab,xn.heap ab,xn.heap ab,Lo.wv (r1.ext (x2.tr (x3.tr (X.tr xn)))),?_⟩;have X:=X.tr xn;have rX:=rX.ext xn;refine ⟨?_,?_⟩
    ·refine (cP b FR v2).mono ?_;rintro e v3 ⟨rfl,xn⟩;have z3:=xn.size;refine ⟨_,_,_,_,_,_,rfl,xn.heap ab,xn.heap ab,xn.heap ab,xn.heap ab,xn.heap ab,?_⟩;have X:=X.tr xn;have rX:=rX.ext xn;intro v4 en;have xn:=aL en;have z4:=zA en;have rYn:Row v4 v3 [aa,aa,aa,aa,aa,aa] bF:=Row.nw en;have X:=X.tr xn;have rX:=rX.ext xn;have rY:=rYn;intro ws es wt et;have zs:=zR es;have zt:=zR et;have rX:Row ws w3.drew.heap.size (fV a.box) bF:=rX.st es;have rY:=rY.so es;have rY:Row wt v3 (fV b.box) bF:=rY.st et;have rX:=rX.so et;exact ⟨rfl,rfl,rfl,rfl,_,_,rfl,rfl,rX,rY,(X.ae es ab).ae et ab⟩
    ·intro v3 en;have xn:=aL en;have z3:=zA en;have rYn:Row v3 v2 [aa,aa,aa,aa,aa,aa] bF:=Row.nw en;have X:=X.tr xn;have rX:=rX.ext xn;have rY:=rYn;refine (cP b FR v3).mono ?_;rintro e v4 ⟨rfl,xn⟩;have z4:=xn.size;refine ⟨_,_,_,_,_,_,rfl,xn.heap ab,xn.heap ab,xn.heap ab,xn.heap ab,xn.heap ab,xn.heap ab,?_⟩;have X:=X.tr xn;have rX:=rX.ext xn;have rY:=rY.ext xn;intro ws es wt et;have zs:=zR es;have zt:=zR et;have rX:Row ws w3.drew.heap.size (fV a.box) bF:=rX.st es;have rY:=rY.so es;have rY:Row wt v2 (fV b.box) bF:=rY.st et;have rX:=rX.so et;exact ⟨rfl,rfl,rfl,rfl,_,_,rfl,rfl,rX,rY,(X.ae es ab).ae et ab⟩
   ·intro v2 en;have xn:=aL en;have z2:=zA en;have rYn:Row v2 v1 [aa,aa,aa,aa,aa,aa] bF:=Row.nw en;have X:=X.tr xn;have rX:=rX.ext xn;have rY:=rYn;refine (cP a W8 v2).mono ?_;rintro e v3 ⟨rfl,xn⟩;have z3:=xn.size;refine ⟨_,_,_,_,_,_,rfl,xn.heap ab,xn.heap ab,xn.heap ab,xn.heap ab,xn.heap ab,xn.heap ab,Lo.wv (r1.ext (x2.tr (x3.tr (X.tr xn)))),?_⟩;have X:=X.tr xn;have rX:=rX.ext xn;have rY:=rY.ext xn;refine (cP b FR v3).mono ?_;rintro e v4 ⟨rfl,xn⟩;have z4:=xn.size;refine ⟨_,_,_,_,_,_,rfl,xn.heap ab,xn.heap ab,xn.heap ab,xn.heap ab,xn.heap ab,xn.heap ab,?_⟩;have X:=X.tr xn;have rX:=rX.ext xn;have rY:=rY.ext xn;intro ws es wt et;have zs:=zR es;have zt:=zR et;have rX:Row ws w3.drew.heap.size (fV a.box) bF:=rX.st es;have rY:=rY.so es;have rY:Row wt v1 (fV b.box) bF:=rY.st et;have rX:=rX.so et;exact ⟨rfl,rfl,rfl,rfl,_,_,rfl,rfl,rX,rY,(X.ae es ab).ae et ab⟩
  ·intro v1 en;have xn:=aL en;have z1:=zA en;have rYn:Row v1 w3.drew.heap.size [aa,aa,aa,aa,aa,aa] bF:=Row.nw en;have X:=X.tr xn;have rY:=rYn;refine ⟨?_,?_⟩
   ·refine (cP a W8 v1).mono ?_;rintro e v2 ⟨rfl,xn⟩;have z2:=xn.size;refine ⟨_,_,_,_,_,_,rfl,xn.heap ab,xn.heap ab,xn.heap ab,xn.heap ab,xn.heap ab,Lo.wv (r1.ext (x2.tr (x3.tr (X.tr xn)))),?_⟩;have X:=X.tr xn;have rY:=rY.ext xn;refine ⟨?_,?_⟩
    ·refine (cP b FR v2).mono ?_;rintro e v3 ⟨rfl,xn⟩;have z3:=xn.size;refine ⟨_,_,_,_,_,_,rfl,xn.heap ab,xn.heap ab,xn.heap ab,xn.heap ab,xn.heap ab,?_⟩;have X:=X.tr xn;have rY:=rY.ext xn;intro v4 en;have xn:=aL en;have z4:=zA en;have rXn:Row v4 v3 [aa,aa,aa,aa,aa,aa] bF:=Row.nw en;have X:=X.tr xn;have rY:=rY.ext xn;have rX:=rXn;intro ws es wt et;have zs:=zR es;have zt:=zR et;have rX:Row ws v3 (fV a.box) bF:=rX.st es;have rY:=rY.so es;have rY:Row wt w3.drew.heap.size (fV b.box) bF:=rY.st et;have rX:=rX.so et;exact ⟨rfl,rfl,rfl,rfl,_,_,rfl,rfl,rX,rY,(X.ae es ab).ae et ab⟩
    ·intro v3 en;have xn:=aL en;have z3:=zA en;have rXn:Row v3 v2 [aa,aa,aa,aa,aa,aa] bF:=Row.nw en;have X:=X.tr xn;have rY:=rY.ext xn;have rX:=rXn;refine (cP b FR v3).mono ?_;rintro e v4 ⟨rfl,xn⟩;have z4:=xn.size;refine ⟨_,_,_,_,_,_,rfl,xn.heap ab,xn.heap ab,xn.heap ab,xn.heap ab,xn.heap ab,xn.heap ab,?_⟩;have X:=X.tr xn;have rX:=rX.ext xn;have rY:=rY.ext xn;intro ws es wt et;have zs:=zR es;have zt:=zR et;have rX:Row ws v2 (fV a.box) bF:=rX.st es;have rY:=rY.so es;have rY:Row wt w3.drew.heap.size (fV b.box) bF:=rY.st et;have rX:=rX.so et;exact ⟨rfl,rfl,rfl,rfl,_,_,rfl,rfl,rX,rY,(X.ae es ab).ae et ab⟩
   ·intro v2 en;have xn:=aL en;have z2:=zA en;have rXn:Row v2 v1 [aa,aa,aa,aa,aa,aa] bF:=Row.nw en;have X:=X.tr xn;have rY:=rY.ext xn;have rX:=rXn;refine (cP a W8 v2).mono ?_;rintro e v3 ⟨rfl,xn⟩;have z3:=xn.size;refine ⟨_,_,_,_,_,_,rfl,xn.heap ab,xn.heap ab,xn.heap ab,xn.heap ab,xn.heap ab,xn.heap ab,Lo.wv (r1.ext (x2.tr (x3.tr (X.tr xn)))),?_⟩;have X:=X.tr xn;have rX:=rX.ext xn;have rY:=rY.ext xn;refine (cP b FR v3).mono ?_;rintro e v4 ⟨rfl,xn⟩;have z4:=xn.size;refine ⟨_,_,_,_,_,_,rfl,xn.heap ab,xn.heap ab,xn.heap ab,xn.heap ab,xn.heap ab,xn.heap ab,?_⟩;have X:=X.tr xn;have rX:=rX.ext xn;have rY:=rY.ext xn;intro ws es wt et;have zs:=zR es;have zt:=zR et;have rX:Row ws v1 (fV a.box) bF:=rX.st es;have rY:=rY.so es;have rY:Row wt w3.drew.heap.size (fV b.box) bF:=rY.st et;have rX:=rX.so et;exact ⟨rfl,rfl,rfl,rfl,_,_,rfl,rfl,rX,rY,(X.ae es ab).ae et ab⟩
 ·rintro us p q wj ⟨gX,gY,rfl,rfl,rX,rY,xj⟩;have zj:=xj.size;refine ⟨_,_,_,_,_,_,Lo.wv rX,_,_,_,_,_,_,Lo.wv rY,(yC a.box b.box wj).mono ?_⟩;rintro e Ns ⟨rfl,wU⟩;have azc:=wU.size;have rX5:=rX.ext wU;have rY5:=rY.ext wU;have xw:=AK.tr (xj.tr wU);unfold fD;refine ⟨_,rfl,wU.heap ab,wU.heap ab,wU.heap ab,wU.heap ab,Br.mk (λhc akR asi akS asj=>⟨?_,(xw.ae asi ab).ae asj ab⟩) (λhc=> ?_)⟩
  ·have hc:jB a.box b.box=false:=by simpa using hc
   rw [hc];rfl
  ·have hc:jB a.box b.box=true:=by simpa using hc
   rw [if_pos hc];refine ⟨λx wr=>x=Vl a b/\Ext Ns wr,?_,?_⟩
   ·refine (wy a.box b.box 0 rX5 rY5).mono ?_;rintro e adY ⟨rfl,J5⟩;have azd:=J5.size;refine ⟨_,rfl,J5.heap ab,J5.heap ab,J5.heap ab,J5.heap ab,(wy a.box b.box 2 (rX5.ext J5) (rY5.ext J5)).mono ?_⟩;rintro e adZ ⟨rfl,Ry⟩;have aze:=Ry.size;unfold Vl;refine ⟨_,rfl,Ry.heap ab,Ry.heap ab,Ry.heap ab,Ry.heap ab,Br.mk (λq=>⟨rfl,rfl,rfl,rfl,?_,J5.tr Ry⟩) (λq=>⟨rfl,rfl,rfl,rfl,?_,J5.tr Ry⟩)⟩
    ·rw [if_pos (by simpa using q)]
    ·rw [if_neg (by simpa using q)]
   ·rintro us x wr ⟨rfl,xr⟩;have zr:=xr.size;refine ⟨λx wr=>x=nP a b/\Ext Ns wr,?_,?_⟩
    ·refine (wy a.box b.box (Vl a b) (rX5.ext xr) (rY5.ext xr)).mono ?_;rintro e Ni ⟨rfl,JV⟩;have azf:=JV.size;exact ⟨_,rfl,JV.heap ab,JV.heap ab,JV.heap ab,JV.heap ab,rfl,rfl,rfl,rfl,rfl,xr.tr JV⟩
    ·rintro us x wr ⟨rfl,xr⟩;have zr:=xr.size;have xd:=Ext.dr wr;have zd:=lG wr;have yd:=xj.tr (wU.tr (xr.tr xd));refine ⟨λx wr=>x=sP a b/\Ext Ns wr,?_,?_⟩
     ·refine (dc a.aI (Vl a b) wr.drew).mono ?_;rintro e Wu ⟨rfl,CG⟩;have azg:=CG.size;refine ⟨_,rfl,CG.heap ab,CG.heap ab,CG.heap ab,CG.heap ab,qe (o:=0) (rb.ext (yd.tr CG)) rfl rfl rfl,(dc b.aI (Vl a b) Wu).mono ?_⟩;rintro e Nk ⟨rfl,nr⟩;have ar9:=nr.size;unfold sP;refine ⟨_,rfl,nr.heap ab,nr.heap ab,nr.heap ab,nr.heap ab,Br.mk (λq=>⟨rfl,rfl,rfl,rfl,?_,xr.tr (xd.tr (CG.tr nr))⟩) (λq=>⟨rfl,rfl,rfl,rfl,?_,xr.tr (xd.tr (CG.tr nr))⟩)⟩
      ·rw [if_pos (by simpa using q)]
      ·rw [if_neg (by simpa using q)]
     ·rintro us x ws ⟨rfl,xs⟩;have zs:=xs.size;refine (iD (0,0,0) (Vl a b) (sP a b) ws).mono ?_;rintro e aaQ ⟨rfl,WK⟩;have azh:=WK.size;refine ⟨_,_,_,rfl,WK.heap ab,WK.heap ab,WK.heap ab,WK.heap ab,(iD (0,0,0) (Vl a b) (aj (0-sP a b)) aaQ).mono ?_⟩;rintro e ahC ⟨rfl,FA⟩;have azi:=FA.size;exact ⟨_,_,_,rfl,FA.heap ab,FA.heap ab,FA.heap ab,FA.heap ab,λakW asl akX asm=>⟨rfl,((xw.tr (xs.tr (WK.tr FA))).ae asl ab).ae asm ab⟩⟩
def okB(m:Int)(b:ef):Prop:=jw b.aI m/\(0<=b.wd/\b.wd<=1000000)/\(0<=b.ht/\b.ht<=1000000)/\-1000000<=b.speed.2.1/\b.speed.2.1<=1000000
theorem okB.up{b:ef}{m n:Int}(h:okB m b)(hn:m<=n):okB n b:=⟨h.1.up hn,h.2⟩
theorem okB.wdi{b:ef}{m:Int}(h:okB m b):inI b.wd:=by unfold inI;have:=h.2.1;omega
theorem okB.zP{b:ef}{m:Int}(h:okB m b)(hm:m<=99970000000000):da b.box (m+1000000):=Pm h.1 h.2.1 h.2.2.1 ab
theorem ye{V:Ce->Int}{b:ef}{d:Ce}{m:Int}(h:okB m b)(hm:m<=99970000000000):okB (m+12582912) (kV V b d):=by
 have hn:=h.zP hm;have h1:=IJ (V:=V) (p:=aE) (d:=qp b.aI d) hn ab;have h2:=KL (V:=V) (p:=aE) (d:=qp b.aI d) hn ab;have hm0:0<=m:=by have:=h.1;unfold jw at this;omega
 exact ⟨KM h.1 (jw.up hn.lo ab) h1.lo h2 ab ab ab,h.2⟩
theorem acJ(h:Ht)(v:Ce)(hv: -1000000<=v.2.1/\v.2.1<=1000000): -1000000<=(lU h v).2.1/\(lU h v).2.1<=1000000:=by
 have e:(lU h v).2.1=if h.2.1=true then dB 0 else v.2.1:=by
  unfold lU
  cases h.1<;>cases h.2.1<;>cases h.2.2<;>rfl
 rw [e];have c0:dB 0=0:=by decide
 rw [c0];split<;>omega
theorem acK{V:Ce->Int}{b:ef}{m:Int}(h:okB m b)(hm:m<=99970000000000):okB (m+16777216) (LC V b):=by
 have hn:=h.zP hm;have h1:=XI (V:=V) (p:=aE) (d:=qp b.aI b.speed) (up:=32768) hn ab;have hm0:0<=m:=by have:=h.1;unfold jw at this;omega
 exact ⟨KM h.1 (jw.up hn.lo ab) h1.2.lo h1.1 ab ab ab,h.2.1,h.2.2.1,acJ _ _ h.2.2.2⟩
theorem Jh{n jump less least:Int}{j:Bool}(hn: -1000000<=n/\n<=1000000)(hj: -1000000<=jump/\jump<=1000000)(hl:0<=less)(ht:0<=least/\least<=1000000): -1000000<=Ef n jump less least j/\Ef n jump less least j<=1000000:=by unfold Ef;split<;>omega
theorem acL{V:Ce->Int}{b:ef}{i:Ga}{m:Int}(h:okB m b):okB m (qn V b i):=by
 unfold qn;split
 ·exact ⟨h.1,h.2.1,h.2.2.1,Jh h.2.2.2 aF aF aF⟩
 ·split
  ·exact ⟨h.1,h.2.1,h.2.2.1,Jh h.2.2.2 aF aF aF⟩
  ·exact ⟨h.1,h.2.1,h.2.2.1,Jh h.2.2.2 aF aF aF⟩
theorem acM{V:Ce->Int}{b:ef}{i:Ga}{m:Int}(h:okB m b)(hm:m<=99970000000000):okB (m+16777216) (tu V b i):=acK (acL (b:=rV b i) h) hm
def yc(V:Ce->Int)(i k:Nat)(l:List ef):List ef:=
 match l[i]?,l[k]? with
 |some a,some b=>(l.set i (kV V a (fD a b).1)).set k (kV V b (fD a b).2)
 |_,_=>l
def Gn(V:Ce->Int)(i:Nat):Nat->Nat->List ef->List ef
 |_,0,l=>l
 |k,n+1,l=>Gn V i (k+1) n (yc V i k l)
def crB(V:Ce->Int):Nat->Nat->List ef->List ef
 |_,0,l=>l
 |i,n+1,l=>crB V (i+1) n (Gn V i (i+1) (l.length-(i+1)) l)
def q9(V:Ce->Int)(l:List ef):List ef:=crB V 0 l.length l
theorem vN(b:ef):One (jo b):=by intro u hu;simp at hu;rcases hu with rfl|rfl|rfl|rfl|rfl|rfl|rfl|rfl|rfl<;>rfl
theorem Yp(l:List ef):∀r ∈ l.map jo,r.length=9:=by intro r hr;obtain ⟨b,-,rfl⟩:=aZ.1 hr;rfl
theorem acN(l:List ef):∀r ∈ l.map jo,One r:=by intro r hr;obtain ⟨b,-,rfl⟩:=aZ.1 hr;exact vN b
theorem LD{B:Nat}{w:World}{s:Sl}{l:List ef}(ho:aC B y9 9 w s (l.map jo))(hl:l.length<=5000):
  ah 169 #[s] w λe w'=>∃s':Sl,e=s'/\aC w y9 9 w' s' (l.map jo)/\Ext w w':=by
 apply xK.vc;have hn:s.n=l.length:=by rw [(ho.rd aF).n,aN]
 apply Br.mk<;>intro h
 ·rcases ho.form aF with ⟨hs,Co⟩|⟨g0,cs,ha,-⟩
  ·exact ⟨⟨none,0,0⟩,rfl,by rw [Co];exact aC.nil,Ext.cE _⟩
  ·rw [ha] at h;cases h
 ·intro w0 e0;have x0:=aL e0;have Kq:=eG e0;have hr0:Row w0 w [] y9:=by rw [e0];exact Row.new _ _ _
  have qB:aC w y9 9 w0 ⟨some ⟨w.heap.size,0,none⟩,0,0⟩ []:=aC.jg (aB _) hr0 bB (aB _) rfl bB;obtain ⟨hp,hr⟩:=qB.FY (bytes:=72) (more:=l.map jo) x0.size (Yp _) (acN _) (by simp;omega) (by simp;omega);rw [aN,<-hn] at hp hr;refine ⟨(l.map jo).flatten,((ho.ext x0).rd aF).flat aF,hp,λs2 w3 bw=> ?_⟩;obtain ⟨h1,h2,h3,h4,h5⟩:=hr s2 w3 bw;refine ⟨oW bw (by rw [bK (Yp _),aN,hn]) ab,s2,rfl,h1,x0.trans h3⟩
theorem Yq{B:Nat}{w:World}{s:Sl}{l:List ef}(ho:aC B y9 9 w s (l.map jo)){i:Nat}(hi:i<l.length)(x:ef):
  (af s.a (i*9)).isSome=true/\Wr w (af s.a (i*9)) 9/\∀w',w'=aH w (af s.a (i*9)) (jo x)->aC B y9 9 w' s ((l.set i x).map jo)/\Below B w w'/\Mod (λb=>s.aX=some b) w w':=by
 obtain ⟨h1,h2,h3,h4,h5⟩:=ho.put (i:=i) (r:=jo x) (by simpa using hi) aF rfl (vN x);refine ⟨h1,h2,λw' e=> ?_⟩;subst e;exact ⟨by rw [List.map_set];exact h3,h4,h4.os,h4.tape,h4.output,h4.size,λj _ hn=>h5 j hn⟩
set_option maxHeartbeats 1000000 in
theorem D8{v : Value}{V : Ce → Int}{w : World}(hV : Tl v V w)(hv : j9 v = []){B : Nat}{s : Sl}{l : List ef}(ho : aC B y9 9 w s (l.map jo))(hl : l.length ≤ 16){m : Int}(bt : ∀ b ∈ l, okB m b)(hm0 : 0 ≤ m)(hm : m ≤ 99960000000000) :
  ah 117 #[v, s] w λe w' => ∃ s' : Sl, e = s' ∧ aC w y9 9 w' s' ((q9 V l).map jo) ∧ Ext w w' ∧ (∀ b ∈ q9 V l, okB (m + 16 * 16 * 12582912) b) ∧ (q9 V l).length = l.length := by
 apply Ps.vc
 refine (LD ho ab).mono ?_
 rintro e w0 ⟨s1, rfl, h1, x1⟩
 have Ki : s1.n = l.length := by rw [(h1.rd aF).n, aN]
 refine ⟨s1, rfl, λn x wr => ∃ (i : Nat) (cur : List ef), x = i ∧ i + n = l.length ∧ cur.length = l.length ∧ aC w y9 9 wr s1 (cur.map jo) ∧ Ext w wr ∧ (∀ b ∈ cur, okB (m + 16 * i * 12582912) b) ∧ q9 V l = crB V i n cur, ⟨l.length, 0, l, rfl, by omega, rfl, h1, x1, λb hb => (bt b hb).up ab, rfl⟩, ?_⟩
 rintro n us x w6 ⟨i, cur, rfl, oq, dI, hO, xr, hb, hcr⟩
 apply Br.mk <;> intro hc
 ·have hc : i < l.length := by
   have : (i : Int) < s1.n := by simpa using hc
   omega
  obtain ⟨n, rfl⟩ : ∃ n', n = n' + 1 := ⟨n - 1, by omega⟩
  have wk := mz (j := i)
  rw [wk]
  refine ⟨λn8 x cR => ∃ (k : Nat) (cur : List ef), x = k ∧ k + n8 = l.length ∧ i < k ∧ cur.length = l.length ∧ aC w y9 9 cR s1 (cur.map jo) ∧ Ext w cR ∧ (∀ b ∈ cur, okB (m + (16 * i + k) * 12582912) b) ∧ q9 V l = crB V (i + 1) n (Gn V i k n8 cur), ⟨n, i + 1, cur, rfl, by omega, by omega, dI, hO, xr, λb hb' => (hb b hb').up ab, ?_⟩, ?_⟩
  ·rw [hcr]
   show crB V (i + 1) n (Gn V i (i + 1) (cur.length - (i + 1)) cur) = _
   rw [show cur.length - (i + 1) = n from by omega]
  rintro n8 us x cR ⟨k, cur, rfl, V6, hik, dI, hO, xr, hb, hcr⟩
  apply Br.mk <;> intro nE
  ·have nE : k < l.length := by
    have : (k : Int) < s1.n := by simpa using nE
    omega
   obtain ⟨n8, rfl⟩ : ∃ n', n8 = n' + 1 := ⟨n8 - 1, by omega⟩
   have ha : cur[i]? = some (cur[i]'ab) := cZ ab
   have JO : cur[k]? = some (cur[k]'ab) := cZ ab
   have oka := hb _ (List.getElem_mem (l := cur) (n := i) ab)
   have okb := hb _ (List.getElem_mem (l := cur) (n := k) ab)
   generalize cur[i]'ab = a at ha oka
   generalize cur[k]'ab = b at JO okb
   have hcr : q9 V l = crB V (i + 1) n (Gn V i (k + 1) n8 ((cur.set i (kV V a (fD a b).1)).set k (kV V b (fD a b).2))) := by
    rw [hcr]
    show crB V (i + 1) n (Gn V i (k + 1) n8 (yc V i k cur)) = _
    rw [show yc V i k cur = (cur.set i (kV V a (fD a b).1)).set k (kV V b (fD a b).2) from by unfold yc; rw [ha, JO]]
   have W8 := oka.wdi
   have FR := okb.wdi
   have gS := (hO.ext (Ext.dr cR)).rd aF
   have uP : (cur.map jo)[i]? = some (jo a) := by rw [aU, ha]; rfl
   have Ka : (cur.map jo)[k]? = some (jo b) := by rw [aU, JO]; rfl
   have ib : ∀ j : Nat, j < l.length → eo s1.a (j : Int) s1.n := λj hj => gS.g9 aF ab ab
   have iM : cur.map jo ≠ [] := λh => by rw [h] at uP; cases uP
   have ik : ∀ g, s1.aX = some g → g < cR.heap.size := λg hg => gS.P3 aF iM hg
   have hX0 : 16 * (i : Int) + k ≤ 256 := by omega
   refine ⟨λp q wj => ∃ gX gY : Nat, p = some ⟨gX, 0, none⟩ ∧ q = some ⟨gY, 0, none⟩ ∧ Row wj gX (dA (fD a b).1) eu ∧ Row wj gY (dA (fD a b).2) eu ∧ Ext cR wj ∧ cR.heap.size ≤ gY, ⟨ib i hc, _, _, _, _, _, _, _, _, _, gS.bZ uP, ib k nE, _, _, _, _, _, _, _, _, _, gS.bZ Ka, ?_⟩, ?_⟩
   ·have X := Ext.dr cR
    have zd := lG cR
    refine ⟨?_, ?_, ?_⟩
    ·refine (qq a b W8 FR cR.drew).mono ?_
     rintro e v1 ⟨rfl, xn⟩
     have z1 := xn.size
     refine ⟨_, _, _, _, _, _, rfl, ?_⟩
     have X := X.tr xn
     refine ⟨?_, ?_⟩
     ·intro v2 en
      have xn := aL en
      have z2 := zA en
      have rXn : Row v2 v1 [aa, aa, aa] eu := Row.nw en
      have X := X.tr xn
      have rX := rXn
      intro v3 en
      have xn := aL en
      have z3 := zA en
      have rYn : Row v3 v2 [aa, aa, aa] eu := Row.nw en
      have X := X.tr xn
      have rX := rX.ext xn
      have rY := rYn
      intro ws es wt et
      have zs := zR es
      have zt := zR et
      have rX : Row ws v1 (dA (fD a b).1) eu := rX.st es
      have rY := rY.so es
      have rY : Row wt v2 (dA (fD a b).2) eu := rY.st et
      have rX := rX.so et
      exact ⟨_, _, rfl, rfl, rX, rY, (X.ae es ab).ae et ab, by omega⟩
     ·intro v2 en
      have xn := aL en
      have z2 := zA en
      have rYn : Row v2 v1 [aa, aa, aa] eu := Row.nw en
      have X := X.tr xn
      have rY := rYn
      intro v3 en
      have xn := aL en
      have z3 := zA en
      have rXn : Row v3 v2 [aa, aa, aa] eu := Row.nw en
      have X := X.tr xn
      have rY := rY.ext xn
      have rX := rXn
      intro ws es wt et
      have zs := zR es
      have zt := zR et
      have rX : Row ws v2 (dA (fD a b).1) eu := rX.st es
      have rY := rY.so es
      have rY : Row wt v1 (dA (fD a b).2) eu := rY.st et
      have rX := rX.so et
      exact ⟨_, _, rfl, rfl, rX, rY, (X.ae es ab).ae et ab, by omega⟩
    ·intro v1 en
     have xn := aL en
     have z1 := zA en
     have rXn : Row v1 cR.drew.heap.size [aa, aa, aa] eu := Row.nw en
     have X := X.tr xn
     have rX := rXn
     refine ⟨?_, ?_⟩
     ·refine (qq a b W8 FR v1).mono ?_
      rintro e v2 ⟨rfl, xn⟩
      have z2 := xn.size
      refine ⟨_, _, _, _, _, _, rfl, xn.heap ab, ?_⟩
      have X := X.tr xn
      have rX := rX.ext xn
      intro v3 en
      have xn := aL en
      have z3 := zA en
      have rYn : Row v3 v2 [aa, aa, aa] eu := Row.nw en
      have X := X.tr xn
      have rX := rX.ext xn
      have rY := rYn
      intro ws es wt et
      have zs := zR es
      have zt := zR et
      have rX : Row ws cR.drew.heap.size (dA (fD a b).1) eu := rX.st es
      have rY := rY.so es
      have rY : Row wt v2 (dA (fD a b).2) eu := rY.st et
      have rX := rX.so et
      exact ⟨_, _, rfl, rfl, rX, rY, (X.ae es ab).ae et ab, by omega⟩
     ·intro v2 en
      have xn := aL en
      have z2 := zA en
      have rYn : Row v2 v1 [aa, aa, aa] eu := Row.nw en
      have X := X.tr xn
      have rX := rX.ext xn
      have rY := rYn
      refine (qq a b W8 FR v2).mono ?_
      rintro e v3 ⟨rfl, xn⟩
      have z3 := xn.size
      refine ⟨_, _, _, _, _, _, rfl, xn.heap ab, xn.heap ab, ?_⟩
      have X := X.tr xn
      have rX := rX.ext xn
      have rY := rY.ext xn
      intro ws es wt et
      have zs := zR es
      have zt := zR et
      have rX : Row ws cR.drew.heap.size (dA (fD a b).1) eu := rX.st es
      have rY := rY.so es
      have rY : Row wt v1 (dA (fD a b).2) eu := rY.st et
      have rX := rX.so et
      exact ⟨_, _, rfl, rfl, rX, rY, (X.ae es ab).ae et ab, by omega⟩
    ·intro v1 en
     have xn := aL en
     have z1 := zA en
     have rYn : Row v1 cR.drew.heap.size [aa, aa, aa] eu := Row.nw en
     have X := X.tr xn
     have rY := rYn
     refine ⟨?_, ?_⟩
     ·refine (qq a b W8 FR v1).mono ?_
      rintro e v2 ⟨rfl, xn⟩
      have z2 := xn.size
      refine ⟨_, _, _, _, _, _, rfl, xn.heap ab, ?_⟩
      have X := X.tr xn
      have rY := rY.ext xn
      intro v3 en
      have xn := aL en
      have z3 := zA en
      have rXn : Row v3 v2 [aa, aa, aa] eu := Row.nw en
      have X := X.tr xn
      have rY := rY.ext xn
      have rX := rXn
      intro ws es wt et
      have zs := zR es
      have zt := zR et
      have rX : Row ws v2 (dA (fD a b).1) eu := rX.st es
      have rY := rY.so es
      have rY : Row wt cR.drew.heap.size (dA (fD a b).2) eu := rY.st et
      have rX := rX.so et
      exact ⟨_, _, rfl, rfl, rX, rY, (X.ae es ab).ae et ab, by omega⟩
     ·intro v2 en
      have xn := aL en
      have z2 := zA en
      have rXn : Row v2 v1 [aa, aa, aa] eu := Row.nw en
      have X := X.tr xn
      have rY := rY.ext xn
      have rX := rXn
      refine (qq a b W8 FR v2).mono ?_
      rintro e v3 ⟨rfl, xn⟩
      have z3 := xn.size
      refine ⟨_, _, _, _, _, _, rfl, xn.heap ab, xn.heap ab, ?_⟩
      have X := X.tr xn
      have rX := rX.ext xn
      have rY := rY.ext xn
      intro ws es wt et
      have zs := zR es
      have zt := zR et
      have rX : Row ws v1 (dA (fD a b).1) eu := rX.st es
      have rY := rY.so es
      have rY : Row wt cR.drew.heap.size (dA (fD a b).2) eu := rY.st et
      have rX := rX.so et
      exact ⟨_, _, rfl, rfl, rX, rY, (X.ae es ab).ae et ab, by omega⟩
   ·rintro us p q wj ⟨gX, gY, rfl, rfl, rX, rY, xj, hgY⟩
    have xd := Ext.dr wj
    have hOj := hO.ext (xj.tr xd)
    refine ⟨λw' => aC w y9 9 w' s1 ((cur.set i (kV V a (fD a b).1)).map jo) ∧ Row w' gY (dA (fD a b).2) eu ∧ Ext w w', ⟨ib i hc, _, _, _, _, _, _, _, _, _, (hOj.rd aF).bZ uP, _, _, _, Lo.wv (rX.ext xd), (Eg (hV.ext (xr.tr (xj.tr xd))) hv a W8 (oka.zP ab) ab (fD a b).1).mono ?_⟩, ?_⟩
    ·rintro e Fx ⟨rfl, ox⟩
     have hO7 := hOj.ext ox
     obtain ⟨q1, q2, q3⟩ := Yq hO7 (i := i) ab (kV V a (fD a b).1)
     refine ⟨_, _, _, _, _, _, _, _, _, rfl, ib i hc, ⟨q1, q2⟩, λAR aqX => ?_⟩
     obtain ⟨p1, p2, p3⟩ := q3 AR aqX
     have rY7 := rY.ext (xd.tr ox)
     exact ⟨p1, rY7.same (p3.same _ rY7.lt (λh => by have := ik _ h; omega)), (xr.tr (xj.tr (xd.tr ox))).trans p2⟩
    ·rintro us pJ ⟨alq, rY9, aaL⟩
     have xd9 := Ext.dr pJ
     have hrd9 := (alq.ext xd9).rd aF
     have hrk9 : ((cur.set i (kV V a (fD a b).1)).map jo)[k]? = some (jo b) := by rw [aU, List.getElem?_set_ne ab, JO]; rfl
     refine ⟨ib k nE, _, _, _, _, _, _, _, _, _, hrd9.bZ hrk9, _, _, _, Lo.wv (rY9.ext xd9), (Eg (hV.ext (aaL.tr xd9)) hv b FR (okb.zP ab) ab (fD a b).2).mono ?_⟩
     rintro e No ⟨rfl, als⟩
     obtain ⟨q1, q2, q3⟩ := Yq ((alq.ext xd9).ext als) (i := k) (by rw [iq]; omega) (kV V b (fD a b).2)
     refine ⟨_, _, _, _, _, _, _, _, _, rfl, ib k nE, ⟨q1, q2⟩, λpK aqY => ?_⟩
     obtain ⟨p1, p2, p3⟩ := q3 pK aqY
     refine ⟨n8, by omega, k + 1, _, ?_, by omega, by omega, by rw [iq, iq]; exact dI, p1, (aaL.tr (xd9.tr als)).trans p2, λy hy => ?_, hcr⟩
     ·rw [wI]; omega
     ·rcases kh hy with hy | rfl
      ·rcases kh hy with hy | rfl
       ·exact (hb y hy).up ab
       ·exact (ye oka ab).up ab
      ·exact (ye okb ab).up ab
  ·have nE : ¬ k < l.length := λh => by
    have : ¬ (k : Int) < s1.n := by simpa using nE
    omega
   have : n8 = 0 := by omega
   subst this
   exact ⟨n, by omega, i + 1, cur, rfl, by omega, dI, hO, xr, λb hb' => (hb b hb').up ab, hcr⟩
 ·have hc : ¬ i < l.length := λh => by
   have : ¬ (i : Int) < s1.n := by simpa using hc
   omega
  have : n = 0 := by omega
  subst this
  have hcr : q9 V l = cur := hcr
  refine ⟨s1, rfl, by rw [hcr]; exact hO, xr, λb hb' => ?_, by rw [hcr]; exact dI⟩
  rw [hcr] at hb'
  exact (hb b hb').up ab
set_option maxHeartbeats 8000000
set_option linter.unusedVariables false
variable {R:Ending->World->Prop} {w:World} {a0 a1 a2 a3 a4 a5 a6 a7 a8 a9 aA aq au aS aT aW bM bG bH Cr ak ao aw bz bT bR eW eX eD Cs bq bA bo wL wM uS uT wN wO wP Ct Cu Cv Cw Cx Cy Cz CA CB CC:Int}
theorem acz.vc(h:
 Aw w #[aA,aq,au] 28 λw0=>
 Aw w0 #[aa,aa,aa] 28 λw1=>
 ah 203 #[.agg #[aA,aq,au],.func (.func 256) #[] #[]] w1 (iC λx3 x4 x5 w2=>K2 w w0 w1 w2 (
 Sw w2 w0 #[x3,x4,x5] λw6=>
 R (Value.agg #[x3,x4,x5]) w6))):ah 195 #[.agg #[aA,aq,au]] w R:=
 cq bV Tryz.func195 h
theorem Up.vc(h:
 ah 214 #[a1] w (λe w0=>∃(x1:Int),e=x1/\
 R x1 w0)):ah 256 #[a0,a1] w R:=
 cq bV Tryz.func256 h
theorem acA.vc(h:
 Aw w #[aA,aq,au] 28 λw0=>
 Aw w0 #[aa,aa,aa] 28 λw1=>
 ah 257 #[aA] w1.drew (Ri λx3 w2=>K2 w w0 w1.drew w2 (
 ag w2 (some ⟨w,2,none⟩) 0 [au]/\ag w2 (some ⟨w,1,none⟩) 0 [aq]/\ah 257 #[aq] w2 (Ri λx5 w4=>K2 w w0 w2 w4 (
 ag w4 (some ⟨w,2,none⟩) 0 [au]/\ah 257 #[au] w4 (Ri λx7 w6=>K2 w w0 w4 w6 (
 Sw w6 w0 #[x3,x5,x7] λw8=>
 R (Value.agg #[x3,x5,x7]) w8))))))):ah 196 #[.agg #[aA,aq,au]] w R:=
 cq bV Tryz.func196 h
theorem Uq.vc(h:
 R (Value.int .i64 (if 1048576<(if (-1048576)>a0 then (-1048576) else a0) then 1048576 else (if (-1048576)>a0 then (-1048576) else a0))) w):ah 257 #[a0] w R:=
 cq bV Tryz.func257 h
theorem PT.vc(h:
 Aw w #[aA,aq] 267 λw0=>
 Aw w0 #[ak,ao] 267 λw1=>
 Br (aq==0)
 (R (Value.bool (decide (aq>0))) w1)
 (Br (ao==0)
 (R (Value.bool (decide (aq>0))) w1)
 (R (Value.bool (decide (((aj (aA*ao)):Int)<(aj (ak*aq))))) w1))):ah 200 #[.agg #[aA,aq],.agg #[ak,ao]] w R:=
 cq bV Tryz.func200 h
theorem Ur.vc(h:
 Aw w #[aA,aq,au] 28 λw0=>
 Aw w0 #[ak,ao,aw] 28 λw1=>
 Aw w1 #[aa,aa,aa,aa,aa,aa] 268 λw2=>
 Aw w2 #[aa,aa,aa,aa,aa,aa] 268 λw3=>
 ∃I4:Nat->Int->World->Prop,
 (∃n5,aO [aA,aq,au]/\aO [ak,ao,aw]/\I4 n5 (0) w3)/\
 ∀(n5:Nat)(us6:Nat->Value)(x7:Int)(w8:World),I4 n5 x7 w8->
 Br (x7<3)
 (ah 178 #[.agg #[aA,aq,au],x7] w8.drew (Ri λbC bO=>K2 w w0 w8.drew bO (
 ag bO (some ⟨w0,0,none⟩) 0 [ak,ao,aw]/\ah 178 #[.agg #[ak,ao,aw],x7] bO (Ri λcm cR=>K2 w w0 bO cR (
 ah 258 #[bC] cR (Ri λcA bP=>K2 w w0 cR bP (
 (0:Int)<=x7/\x7<((3:Nat):Int)/\(true=true/\Wr bP (af (some ⟨w2,0,none⟩) ((x7:Int).toNat*2)) 2)/\bD (af (some ⟨w2,0,none⟩) ((x7:Int).toNat*2))≠some w.heap.size/\bD (af (some ⟨w2,0,none⟩) ((x7:Int).toNat*2))≠some w0.heap.size/\(∀cJ,cJ=aH bP (af (some ⟨w2,0,none⟩) ((x7:Int).toNat*2)) [cA,(aj (0-cm))]->
 Br (cm>0)
 (ah 258 #[bC] cJ (Ri λcp cL=>K2 w w0 cJ cL (
 (0:Int)<=x7/\x7<((3:Nat):Int)/\(true=true/\Wr cL (af (some ⟨w2,0,none⟩) ((x7:Int).toNat*2)) 2)/\bD (af (some ⟨w2,0,none⟩) ((x7:Int).toNat*2))≠some w.heap.size/\bD (af (some ⟨w2,0,none⟩) ((x7:Int).toNat*2))≠some w0.heap.size/\(∀fP,fP=aH cL (af (some ⟨w2,0,none⟩) ((x7:Int).toNat*2)) [(aj (65536-cp)),cm]->
 ∃n9,n9<n5/\aO [aA,aq,au]/\aO [ak,ao,aw]/\I4 n9 ((aj (x7+1))) fP))))
 (∃n9,n9<n5/\aO [aA,aq,au]/\aO [ak,ao,aw]/\I4 n9 ((aj (x7+1))) cJ)))))))))
 (∃(cW dh dN dz eE dQ:Int),ag w8 (some ⟨w2,0,none⟩) 0 [cW,dh,dN,dz,eE,dQ]/\
 Wt w8 ⟨w1,0,none⟩ 6/\Nb w1 w/\Nb w1 w0/\(∀fi,fi=aH w8 (some ⟨w1,0,none⟩) [cW,dh,dN,dz,eE,dQ]->
 ∃(fE g7 gd jD ic ig:Int),ag fi (some ⟨w1,0,none⟩) 0 [fE,g7,gd,jD,ic,ig]/\
 R (Value.agg #[fE,g7,gd,jD,ic,ig]) fi))):ah 198 #[.agg #[aA,aq,au],.agg #[ak,ao,aw]] w R:=
 cq ⟨[(3,⟨[(9,.int .i64)],[],[]⟩)],[],[]⟩ Tryz.func198 h
theorem PU.vc(h:
 Aw w #[aA,aq,au] 41 λw0=>
 Aw w0 #[ak,ao,aw] 41 λw1=>
 Aw w1 #[a2] 3 λw2=>
 ah 259 #[aA,ak,.pointer (some ⟨w1,0,none⟩)] w2 (Rb λb4 w3=>K2 w w0 w2 w3 (
 Br b4
 (ah 259 #[aq,ao,.pointer (some ⟨w1,0,none⟩)] w3 (Rb λb6 w5=>K2 w w0 w3 w5 (
 Br b6
 (ah 259 #[au,aw,.pointer (some ⟨w1,0,none⟩)] w5 (Rb λb8 w7=>K2 w w0 w5 w7 (
 R b8 w7)))
 (R false w5))))
 (R false w3)))):ah 199 #[.agg #[aA,aq,au],.agg #[ak,ao,aw],a2] w R:=
 cq bV Tryz.func199 h
theorem Je.vc{c0:Addr}(h:
 ∃(x0:Int),ld w (some c0)=some (.int .i64 x0)/\
 Br (decide (((aj (a0-a1)):Int)<=x0))
 (∃(x1:Int),ld w (some c0)=some (.int .i64 x1)/\
 R (Value.bool (decide (((aj (a1-a0)):Int)<=x1))) w)
 (R false w)):ah 259 #[a0,a1,c0] w R:=
 cq bV Tryz.func259 h
theorem Us.vc(h:
 ah 260 #[a0] w (λe w0=>∃(x1:Int)(b2:Bool),e=Value.tuple #[.int .u64 x1,b2]/\
 ah 260 #[a1] w0 (λe w3=>∃(x4:Int)(b5:Bool),e=Value.tuple #[.int .u64 x4,b5]/\
 Br (x4==0)
 (R (Value.tuple #[aa,(1:Int)]) w3)
 (aP (J6 x4) (aP (J6 x4) (ah 261 #[.int .u64 (cX (Int.tdiv (cX (x1*2 ^(min (16:Int).toNat 64))) x4)),.bool (((Int.tmod (cX (x1*2 ^(min (16:Int).toNat 64))) x4):Int) !=0),.bool (!(b2==b5))] w3.drew (λe w6=>∃(x7:Int),e=x7/\
 R (Value.tuple #[x7,aa]) w6))))))):ah 201 #[a0,a1] w R:=
 cq bV Tryz.func201 h
theorem Lw.vc{a0:Value}{c0:Addr}{c1:Addr}{c2:Addr}(h:
 ∃(x0 x1 x2:Int),ag w (some c0) 0 [x0,x1,x2]/\
 ∃(x3 x4 x5:Int),ag w (some c1) 0 [x3,x4,x5]/\
 ah 198 #[.agg #[x0,x1,x2],.agg #[x3,x4,x5]] w (λe w6=>∃(x7 x8 x9 bh bC bN:Int),e=Value.agg #[x7,x8,x9,bh,bC,bN]/\
 Aw w6 #[aa,aa,aa,aa,aa,aa] 268 λbJ=>
 Wt bJ ⟨w6,0,none⟩ 6/\(∀bP,bP=aH bJ (some ⟨w6,0,none⟩) [x7,x8,x9,bh,bC,bN]->
 ∃(cA cD cY:Int),ag bP (some c0) 0 [cA,cD,cY]/\
 ah 101 #[.agg #[cA,cD,cY]] bP (λe dG=>∃(cn cW dh:Int),e=Value.agg #[cn,cW,dh]/\
 Aw dG #[aa,aa,aa,aa,aa,aa] 77 λdT=>
 Sw dT dG #[cn,cW,dh,aa,(-1:Int),aa] λeh=>
 Aw eh #[aa,aa,aa] 41 λfZ=>
 Sw fZ eh #[cn,cW,dh] λcU=>
 ∃I26:Nat->Int->Int->Int->Int->Int->Int->World->Prop,
 (∃n27,aO [cn,cW,dh]/\I26 n27 cn cW dh (0) ((-1)) (0) cU)/\
 ∀(n27:Nat)(aqi:Nat->Value)(gd jD ic ig eF g8:Int)(jK:World),I26 n27 gd jD ic ig eF g8 jK->
 ∃(fB:Int),ld jK (some c2)=some (.int .i64 fB)/\
 ah 199 #[.agg #[cn,cW,dh],.agg #[gd,jD,ic],fB] jK (Rb λb39 lf=>K2 dG eh jK lf (
 Br b39
 (cr Tryz.prog a0 [.agg #[gd,jD,ic,ig,eF,g8]] lf (Rb λb41 jr=>K2 dG eh lf jr (
 Br (!b41)
 (R sY jr)
 (∃I42:Nat->Int->Int->World->Prop,
 (∃n43,aO [gd,jD,ic,ig,eF,g8]/\aO [cn,cW,dh]/\I42 n43 (0) (0) jr)/\
 ∀(n43:Nat)(ax1:Nat->Value)(nq gC:Int)(lg:World),I42 n43 nq gC lg->
 Br (nq<3)
 ((0:Int)<=nq/\nq<((3:Nat):Int)/\∃(zi tX:Int),ag lg.drew (af (some ⟨w6,0,none⟩) ((nq:Int).toNat*2)) 0 [zi,tX]/\
 (0:Int)<=gC/\gC<((3:Nat):Int)/\∃(mH lC:Int),ag lg.drew (af (some ⟨w6,0,none⟩) ((gC:Int).toNat*2)) 0 [mH,lC]/\
 ah 200 #[.agg #[zi,tX],.agg #[mH,lC]] lg.drew (Rb λb54 Rq=>K2 dG eh lg.drew Rq (
 Br b54
 (∃n48,n48<n43/\aO [gd,jD,ic,ig,eF,g8]/\aO [cn,cW,dh]/\I42 n48 ((aj (nq+1))) nq Rq)
 (∃n48,n48<n43/\aO [gd,jD,ic,ig,eF,g8]/\aO [cn,cW,dh]/\I42 n48 ((aj (nq+1))) gC Rq))))
 ((0:Int)<=gC/\gC<((3:Nat):Int)/\∃(kC:Int),ld lg (af (af (some ⟨w6,0,none⟩) ((gC:Int).toNat*2)) 1)=some (.int .i64 kC)/\
 Br (kC==0)
 (R sY lg)
 ((0:Int)<=gC/\gC<((3:Nat):Int)/\∃(qF:Int),ld lg.drew (af (af (some ⟨w6,0,none⟩) ((gC:Int).toNat*2)) 0)=some (.int .i64 qF)/\
 (0:Int)<=gC/\gC<((3:Nat):Int)/\∃(mG:Int),ld lg.drew (af (af (some ⟨w6,0,none⟩) ((gC:Int).toNat*2)) 1)=some (.int .i64 mG)/\
 ah 201 #[qF,mG] lg.drew (λe kr=>∃(kJ iW:Int),e=Value.tuple #[kJ,iW]/\K2 dG eh lg.drew kr (
 (0:Int)<=gC/\gC<((3:Nat):Int)/\∃(ov:Int),ld kr (af (af (some ⟨w6,0,none⟩) ((gC:Int).toNat*2)) 0)=some (.int .i64 ov)/\
 (0:Int)<=gC/\gC<((3:Nat):Int)/\(true=true/\Wr kr (af (af (some ⟨w6,0,none⟩) ((gC:Int).toNat*2)) 0) 1)/\bD (af (af (some ⟨w6,0,none⟩) ((gC:Int).toNat*2)) 0)≠some dG.heap.size/\bD (af (af (some ⟨w6,0,none⟩) ((gC:Int).toNat*2)) 0)≠some eh.heap.size/\(∀il,il=aH kr (af (af (some ⟨w6,0,none⟩) ((gC:Int).toNat*2)) 0) [(aj (ov+65536))]->
 ∃(sR yV pj:Int),ag il (some c1) 0 [sR,yV,pj]/\
 ah 178 #[.agg #[sR,yV,pj],gC] il (Ri λmP oK=>K2 dG eh il oK (
 Br (mP>0)
 (ah 159 #[.agg #[gd,jD,ic]] oK (λe sJ=>∃(oM nG mj ml me uX uU wR FN zg vt uy sK qG sQ xg AN Oe:Int),e=Value.agg #[oM,nG,mj,ml,me,uX,uU,wR,FN,zg,vt,uy,sK,qG,sQ,xg,AN,Oe]/\K2 dG eh oK sJ (
 ((0:Int)<=(aj ((aj (2*gC))+1))/\((aj ((aj (2*gC))+1)):Int)<((6:Nat):Int))/\∃(rK x88 S2:Int),(([oM,nG,mj,ml,me,uX,uU,wR,FN,zg,vt,uy,sK,qG,sQ,xg,AN,Oe]:LV).drop (((aj ((aj (2*gC))+1)):Int).toNat*3)).take 3=[.int .i64 rK,.int .i64 x88,.int .i64 S2]/\
 Sw sJ dG #[rK,x88,S2,aa,(aj ((aj ((aj (2*gC))+1))-1)),kJ] λow=>
 ∃n36,n36<n27/\aO [cn,cW,dh]/\I26 n36 rK x88 S2 (0) ((aj ((aj ((aj (2*gC))+1))-1))) kJ ow)))
 (ah 159 #[.agg #[gd,jD,ic]] oK (λe Z2=>∃(zh uz vv pF pG C2 Kh Ie mJ pL tU yS tV sL oN ox GX pI:Int),e=Value.agg #[zh,uz,vv,pF,pG,C2,Kh,Ie,mJ,pL,tU,yS,tV,sL,oN,ox,GX,pI]/\K2 dG eh oK Z2 (
 ((0:Int)<=(aj ((aj (2*gC))+0))/\((aj ((aj (2*gC))+0)):Int)<((6:Nat):Int))/\∃(jE mf jm:Int),(([zh,uz,vv,pF,pG,C2,Kh,Ie,mJ,pL,tU,yS,tV,sL,oN,ox,GX,pI]:LV).drop (((aj ((aj (2*gC))+0)):Int).toNat*3)).take 3=[.int .i64 jE,.int .i64 mf,.int .i64 jm]/\
 Sw Z2 dG #[jE,mf,jm,aa,(aj ((aj ((aj (2*gC))+1))-0)),kJ] λAW=>
 ∃n36,n36<n27/\aO [cn,cW,dh]/\I26 n36 jE mf jm (0) ((aj ((aj ((aj (2*gC))+1))-0))) kJ AW))))))))))))))
 (R sY lf))))))):ah 197 #[a0,c0,c1,c2] w R:=
 cq ⟨[(7,⟨[(30,.int .i64),(8,.int .i64)],[],[]⟩),(3,⟨[],[(0,[.int .i64,.int .i64,.int .i64,.int .i64,.int .i64,.int .i64])],[]⟩)],[],[]⟩ Tryz.func197 h
theorem Ut.vc(h:
 Aw w #[aA,aq,au] 28 λw0=>
 Aw w0 #[ak,ao,aw] 28 λw1=>
 Aw w1 #[a2] 3 λw2=>
 ah 195 #[.agg #[aA,aq,au]] w2.drew (iC λx4 x5 x6 w3=>K3 w w0 w1 w2.drew w3 (
 ag w3 (some ⟨w1,0,none⟩) 0 [a2]/\ag w3 (some ⟨w0,0,none⟩) 0 [ak,ao,aw]/\ah 196 #[.agg #[ak,ao,aw]] w3 (iC λx8 x9 bh w7=>K3 w w0 w1 w3 w7 (
 ag w7 (some ⟨w1,0,none⟩) 0 [a2]/\Sw w7 w #[x4,x5,x6] λaY=>
 ag aY (some ⟨w1,0,none⟩) 0 [a2]/\Sw aY w0 #[x8,x9,bh] λcR=>
 ag cR (some ⟨w1,0,none⟩) 0 [a2]/\Sw cR w1 #[.int .i64 (if 64<(if 0>a2 then 0 else a2) then 64 else (if 0>a2 then 0 else a2))] λbJ=>
 R (Value.func (.func 197) #[] #[w,.pointer (some ⟨w0,0,none⟩),.pointer (some ⟨w1,0,none⟩)]) bJ))))):ah 143 #[.agg #[aA,aq,au],.agg #[ak,ao,aw],a2] w R:=
 cq bV Tryz.func143 h
theorem Yd.vc{a0:Value}(h:
 aP (j9 a0) (
 Aw w #[a0] 65 λw0=>
 Aw w0 #[ak,ao,aw] 28 λw1=>
 Aw w1 #[bq,bA,bo] 28 λw2=>
 Aw w2 #[aa,aa,aa,aa,aa,aa] 77 λw3=>
 Aw w3 #[false] 4 λw4=>
 ah 143 #[.agg #[ak,ao,aw],.agg #[bq,bA,bo],a3] w4 (Rv λv6 w5=>K5 w w0 w1 w2 w3 w4 w5 (
 ∃(xs7:List (LV))(Rd8 F9:Nat->Prop)(CI:Nat->(Nat->Prop)->Int->Int->Int->Int->Int->Int->Bool->World->Prop)(X11:Option Nat->(Nat->Prop)->Int->Int->Int->Int->Int->Int->Bool->World->Prop),
 (∀x ∈ xs7,∃(bN cm bX cA cD cY:Int),x=[.agg #[.int .i64 bN,.int .i64 cm,.int .i64 bX,.int .i64 cA,.int .i64 cD,.int .i64 cY]])/\
 (∀(n18:Nat)(F19:Nat->Prop)(cW dh dN dz eE dQ:Int)(Fj:Bool)(eH gN:World),CI n18 F19 cW dh dN dz eE dQ Fj eH->Below w5 eH gN->(∀i,F19 i->gN.heap[i]? =eH.heap[i]?)->CI n18 F19 cW dh dN dz eE dQ Fj gN)/\
 (∀(W6:Option Nat)(F30:Nat->Prop)(ic ig eF g8 kv nk:Int)(b37:Bool)(lf jX:World),X11 W6 F30 ic ig eF g8 kv nk b37 lf->Below w5 lf jX->(∀i,F30 i->jX.heap[i]? =lf.heap[i]?)->X11 W6 F30 ic ig eF g8 kv nk b37 jX)/\
 (∀(n40:Nat)(F41:Nat->Prop)(lh oE jY nq gC ph:Int)(b48:Bool)(lA:World),CI n40 F41 lh oE jY nq gC ph b48 lA->∀i,F41 i->i<lA.heap.size/\i≠w5.heap.size/\i≠w5.heap.size+1)/\
 (∀(n50:Option Nat)(F51:Nat->Prop)(lC iV pE kC qF mG:Int)(Ob:Bool)(xh:World),X11 n50 F51 lC iV pE kC qF mG Ob xh->∀i,F51 i->i<xh.heap.size/\i≠w5.heap.size/\i≠w5.heap.size+1)/\
 (∀i,Rd8 i->i<w5.heap.size/\¬F9 i/\i≠w.heap.size/\i≠w0.heap.size/\i≠w1.heap.size/\i≠w2.heap.size/\i≠w3.heap.size/\True)/\
 (∀mQ:World,KO w5 w5 mQ->Iter Tryz.prog (v6) mQ Rd8 xs7/\aO [a0]/\aO [ak,ao,aw]/\aO [bq,bA,bo]/\CI 0 F9 (0) (0) (0) (0) (0) (0) false mQ)/\
 (∀(n61:Nat)(F62:Nat->Prop)(ax3:Nat->Value)(yV pj mS mP mI oM:Int)(b70:Bool)(mj ml me uX uU wR:Int)(rJ:World),xs7[n61]? =some [.agg #[.int .i64 mj,.int .i64 ml,.int .i64 me,.int .i64 uX,.int .i64 uU,.int .i64 wR]]->CI n61 F62 yV pj mS mP mI oM b70 rJ->
 Aw rJ #[aa,aa,aa,aa,aa,aa] 77 λW4=>
 Sw W4 rJ #[mj,ml,me,uX,uU,wR] λuA=>
 Below rJ rJ uA/\∀pk:World,Rec (w5.heap.size+1) uA pk->CI n61 F62 yV pj mS mP mI oM b70 pk->
 cr Tryz.prog a0 [.agg #[mj,ml,me]] pk (Ri λqG uW=>K6 w w0 w1 w2 w3 rJ pk uW (
 ah 144 #[qG] uW (Rb λb84 w83=>K6 w w0 w1 w2 w3 rJ uW w83 (
 Br (!b84)
 (Sw w83 rJ #[mj,ml,me,qG,uU,wR] λWZ=>
 Sw WZ w2 #[mj,ml,me,qG,uU,wR] λw86=>
 Sw w86 w3 #[true] λAO=>
 true=true/\∃F88:Nat->Prop,(aO [a0]/\aO [ak,ao,aw]/\aO [bq,bA,bo]/\X11 none F88 mj ml me qG uU wR true AO)/\Step (λi=>(F62 i\/i ∈([w.heap.size,w0.heap.size,w1.heap.size,w2.heap.size,w3.heap.size]:List Nat))\/rJ.heap.size<=i) (λi=>F88 i\/i ∈([w.heap.size,w0.heap.size,w1.heap.size,w2.heap.size,w3.heap.size]:List Nat)) pk AO)
 (∃F89:Nat->Prop,(aO [a0]/\aO [ak,ao,aw]/\aO [bq,bA,bo]/\CI (n61+1) F89 yV pj mS mP mI oM b70 w83)/\Step (λi=>(F62 i\/i ∈([w.heap.size,w0.heap.size,w1.heap.size,w2.heap.size,w3.heap.size]:List Nat))\/rJ.heap.size<=i) (λi=>F89 i\/i ∈([w.heap.size,w0.heap.size,w1.heap.size,w2.heap.size,w3.heap.size]:List Nat)) pk w83))))))/\
 (∀(F90:Nat->Prop)(aqo:Nat->Value)(zh uz vv pF pG C2:Int)(b98:Bool)(Of:World),CI xs7.length F90 zh uz vv pF pG C2 b98 Of->Of.heap[w5.heap.size]? =some (.deferred (some []))->
 Sw Of w2 #[aa,aa,aa,aa,aa,aa] λrL=>
 Sw rL w3 #[false] λkE=>
 kE.heap[w5.heap.size]? =some (.deferred (some []))/\∀ahU:World,Rec w5 kE ahU->
 R (Value.tuple #[.agg #[aa,aa,aa,aa,aa,aa],false]) ahU)/\
 (∀(aqO:Nat->Prop)(ava:Nat->Value)(sL oN ox GX pI jE:Int)(aln:Bool)(yU:World),X11 none aqO sL oN ox GX pI jE aln yU->yU.heap[w5.heap.size]? =some (.deferred (some []))->
 yU.heap[w5.heap.size]? =some (.deferred (some []))/\∀AW:World,Rec w5 yU AW->
 R (Value.tuple #[.agg #[sL,oN,ox,GX,pI,jE],aln]) AW))))):ah 87 #[a0,.agg #[ak,ao,aw],.agg #[bq,bA,bo],a3] w R:=
 cq ⟨[],[],[(3,⟨[],[(3,[.int .i64,.int .i64,.int .i64,.int .i64,.int .i64,.int .i64]),(4,[.bool])],[]⟩,[.agg [.int .i64,.int .i64,.int .i64,.int .i64,.int .i64,.int .i64]])]⟩ Tryz.func87 h
theorem PV.vc(h:
 Aw w #[aA,aq,au,aS,aT,aW] 77 λw0=>
 Aw w0 #[aa,aa,aa] 41 λw1=>
 Br (aT<0)
 (Sw w1 w0 #[aa,aa,aa] λw2=>
 R (Value.tuple #[.agg #[aa,aa,aa],false]) w2)
 (Br (aT>=6)
 (Sw w1 w0 #[aa,aa,aa] λw3=>
 R (Value.tuple #[.agg #[aa,aa,aa],false]) w3)
 (ah 159 #[.agg #[aA,aq,au]] w1.drew (λe w4=>∃(x5 x6 x7 x8 x9 bh bC bN cm bX cA cD cY cp cn cW dh dN:Int),e=Value.agg #[x5,x6,x7,x8,x9,bh,bC,bN,cm,bX,cA,cD,cY,cp,cn,cW,dh,dN]/\K2 w w0 w1.drew w4 (
 ag w4 (some ⟨w,4,none⟩) 0 [aT]/\((0:Int)<=aT/\aT<((6:Nat):Int))/\∃(dz eE dQ:Int),(([x5,x6,x7,x8,x9,bh,bC,bN,cm,bX,cA,cD,cY,cp,cn,cW,dh,dN]:LV).drop ((aT:Int).toNat*3)).take 3=[.int .i64 dz,.int .i64 eE,.int .i64 dQ]/\
 Sw w4 w0 #[dz,eE,dQ] λfi=>
 R (Value.tuple #[.agg #[dz,eE,dQ],true]) fi))))):ah 109 #[.agg #[aA,aq,au,aS,aT,aW]] w R:=
 cq bV Tryz.func109 h
theorem Gm.vc{bH:Bool}(h:
 Aw w #[aA,aq,au,aS,aT,aW,bM,bG,bH] 70 λw0=>
 Aw w0 #[aa,aa,aa] 28 λw1=>
 ah 145 #[.agg #[aA,aq,au],.agg #[aa,(aj (Int.tdiv (aj (bG*4)) 5)),aa]] w1 (iC λx3 x4 x5 w2=>K2 w w0 w1 w2 (
 Sw w2 w0 #[x3,x4,x5] λw6=>
 R (Value.agg #[x3,x4,x5]) w6))):ah 88 #[.agg #[aA,aq,au,aS,aT,aW,bM,bG,bH]] w R:=
 cq bV Tryz.func88 h
theorem Ye.vc(h:
 Aw w #[aA,aq,au] 41 λw0=>
 Aw w0 #[aa,aa,aa,aa,aa,aa] 107 λw1=>
 (ah 174 #[aA] w1.drew (Ri λx3 w2=>K2 w w0 w1.drew w2 (
 ag w2 (some ⟨w,2,none⟩) 0 [au]/\ag w2 (some ⟨w,1,none⟩) 0 [aq]/\(ah 174 #[aq] w2 (Ri λx5 w4=>K2 w w0 w2 w4 (
 ag w4 (some ⟨w,2,none⟩) 0 [au]/\(ah 174 #[au] w4 (Ri λx7 w6=>K2 w w0 w4 w6 (
 (Aw w6 #[aa,aa,aa] 28 λw8=>
 Sw w8 w6 #[x3,x5,x7] λw9=>
 ah 145 #[.agg #[x3,x5,x7],.agg #[(65536:Int),(65536:Int),(65536:Int)]] w9.drew (iC λbC bN cm bO=>K3 w w0 w6 w9.drew bO (
 ag bO (some ⟨w6,0,none⟩) 0 [x3,x5,x7]/\Sw bO w0 #[x3,x5,x7,bC,bN,cm] λbP=>
 R (Value.agg #[x3,x5,x7,bC,bN,cm]) bP)))/\(Aw w6 #[aa,aa,aa] 28 λeA=>
 Sw eA w6 #[x3,x5,x7] λcJ=>
 ah 145 #[.agg #[x3,x5,x7],.agg #[(65536:Int),(65536:Int),(65536:Int)]] cJ.drew (iC λcp cn cW cL=>K3 w w0 w6 cJ.drew cL (
 ag cL (some ⟨w6,0,none⟩) 0 [x3,x5,x7]/\Sw cL w0 #[x3,x5,x7,cp,cn,cW] λeK=>
 R (Value.agg #[x3,x5,x7,cp,cn,cW]) eK))))))/\(Aw w4 #[aa,aa,aa] 28 λdT=>
 ah 174 #[au] dT (Ri λeE eh=>K3 w w0 w4 dT eh (
 Sw eh w4 #[x3,x5,eE] λcU=>
 ah 145 #[.agg #[x3,x5,eE],.agg #[(65536:Int),(65536:Int),(65536:Int)]] cU.drew (iC λfE g7 gd fi=>K3 w w0 w4 cU.drew fi (
 ag fi (some ⟨w4,0,none⟩) 0 [x3,x5,eE]/\Sw fi w0 #[x3,x5,eE,fE,g7,gd] λfu=>
 R (Value.agg #[x3,x5,eE,fE,g7,gd]) fu))))))))/\(Aw w2 #[aa,aa,aa] 28 λfJ=>
 ah 174 #[aq] fJ (Ri λeF lv=>K3 w w0 w2 fJ lv (
 ag lv (some ⟨w,2,none⟩) 0 [au]/\ah 174 #[au] lv (Ri λkv jc=>K3 w w0 w2 lv jc (
 Sw jc w2 #[x3,eF,kv] λjW=>
 ah 145 #[.agg #[x3,eF,kv],.agg #[(65536:Int),(65536:Int),(65536:Int)]] jW.drew (iC λgA ou mc ie=>K3 w w0 w2 jW.drew ie (
 ag ie (some ⟨w2,0,none⟩) 0 [x3,eF,kv]/\Sw ie w0 #[x3,eF,kv,gA,ou,mc] λgO=>
 R (Value.agg #[x3,eF,kv,gA,ou,mc]) gO))))))))))/\(Aw w1.drew #[aa,aa,aa] 28 λku=>
 ah 174 #[aA] ku (Ri λjY jd=>K2 w w0 ku jd (
 jd.heap[w1.drew.heap.size]? =ku.heap[w1.drew.heap.size]?/\
 ag jd (some ⟨w,2,none⟩) 0 [au]/\ag jd (some ⟨w,1,none⟩) 0 [aq]/\ah 174 #[aq] jd (Ri λgC AX=>K2 w w0 jd AX (
 AX.heap[w1.drew.heap.size]? =jd.heap[w1.drew.heap.size]?/\
 ag AX (some ⟨w,2,none⟩) 0 [au]/\ah 174 #[au] AX (Ri λsN lg=>K2 w w0 AX lg (
 lg.heap[w1.drew.heap.size]? =AX.heap[w1.drew.heap.size]?/\
 Sw lg w1.drew.heap.size #[jY,gC,sN] λlA=>
 ah 145 #[.agg #[jY,gC,sN],.agg #[(65536:Int),(65536:Int),(65536:Int)]] lA.drew (iC λmH lC iV mi=>K2 w w0 lA.drew mi (
 mi.heap[w1.drew.heap.size]? =lA.drew.heap[w1.drew.heap.size]?/\
 ag mi (some ⟨w1.drew.heap.size,0,none⟩) 0 [jY,gC,sN]/\Sw mi w0 #[jY,gC,sN,mH,lC,iV] λAS=>
 R (Value.agg #[jY,gC,sN,mH,lC,iV]) AS)))))))))):ah 121 #[.agg #[aA,aq,au]] w R:=
 cq bV Tryz.func121 h
theorem tz.vc{a0:Addr}{c0:Addr}(h:
 ∃(x0 x1 x2 x3 x4 x5 x6 x7:Int)(b8:Bool),ag w.drew (af (some a0) 0) 0 [x0,x1,x2,x3,x4,x5,x6,x7,b8]/\
 ∃(x9 bh bC bN cm bX:Int),ag w.drew (some c0) 0 [x9,bh,bC,bN,cm,bX]/\
 ah 48 #[.agg #[x0,x1,x2,x3,x4,x5,x6,x7,b8]] w.drew (λe eA=>∃(cD cY cp cn cW dh:Int),e=Value.agg #[cD,cY,cp,cn,cW,dh]/\
 ag eA (some c0) 0 [x9,bh,bC,bN,cm,bX]/\ah 124 #[.agg #[cD,cY,cp,cn,cW,dh],.agg #[x9,bh,bC,bN,cm,bX]] eA (λe dT=>∃(Ig:Bool),e=Ig/\
 R Ig dT))):ah 123 #[a0,c0] w R:=
 cq bV Tryz.func123 h
theorem pw.vc{a0:Sl}{a1:Value}(h:
 ah 175 #[a0,a1] w (λe w0=>∃(x1:Int),e=x1/\
 R (Value.bool (decide (x1>=0))) w0)):ah 122 #[a0,a1] w R:=
 cq bV Tryz.func122 h
theorem vL.vc{a0:Addr}(h:
 Aw w #[ak,ao,aw] 41 λw0=>
 ah 121 #[.agg #[ak,ao,aw]] w0 (vG λx2 x3 x4 x5 x6 x7 w1=>Kp w w0 w1/\
 Aw w1 #[aa,aa,aa,aa,aa,aa] 107 λw8=>
 Sw w8 w1 #[x2,x3,x4,x5,x6,x7] λw9=>
 ah 122 #[.slice (aJ (af (some a0) 1) (0) (16) 1) (16-0) (16-0),.func (.func 123) #[] #[.pointer (some ⟨w1,0,none⟩)]] w9 (Rb λW3 bO=>Kp w w9 bO/\
 R W3 bO))):ah 66 #[a0,.agg #[ak,ao,aw]] w R:=
 cq bV Tryz.func66 h
theorem vW.vc{a0:Addr}(h:
 Aw w #[bq,bA,bo] 28 λw0=>
 Aw w0 #[aa,aa,aa,aa,aa,aa] 77 λw1=>
 ah 50 #[a0,a1] w1 (λe w2=>∃(p3:Option Addr),e=p3/\K2 w w0 w1 w2 (
 Br (p3).isNone
 (Sw w2 w0 #[aa,aa,aa,aa,aa,aa] λw4=>
 R (Value.tuple #[.agg #[aa,aa,aa,aa,aa,aa],(6:Int)]) w4)
 (aP (dv p3) (aP (dv p3) (∃(x5 x6 x7 x8 x9 bh bC bN:Int)(Fg:Bool),ag w2.drew (af p3 0) 0 [x5,x6,x7,x8,x9,bh,bC,bN,Fg]/\
 (ah 47 #[a0] w2.drew (Rv λv15 bP=>K2 w w0 w2.drew bP (
 ag bP w 0 [bq,bA,bo]/\ag bP (af p3 0) 0 [x5,x6,x7,x8,x9,bh,bC,bN,Fg]/\(ah 88 #[.agg #[x5,x6,x7,x8,x9,bh,bC,bN,Fg]] bP (iC λcY cp cn cJ=>K2 w w0 bP cJ (
 ag cJ w 0 [bq,bA,bo]/\(ah 87 #[v15,.agg #[cY,cp,cn],.agg #[bq,bA,bo],(5:Int)] cJ (λe fx=>∃(dh dN dz eE dQ fy:Int)(AM:Bool),e=Value.tuple #[.agg #[dh,dN,dz,eE,dQ,fy],AM]/\K2 w w0 cJ fx (
 Aw fx #[aa,aa,aa,aa,aa,aa] 77 λgN=>
 Sw gN fx #[dh,dN,dz,eE,dQ,fy] λdR=>
 Br (!AM)
 (Sw dR w0 #[aa,aa,aa,aa,aa,aa] λfu=>
 R (Value.tuple #[.agg #[aa,aa,aa,aa,aa,aa],(13:Int)]) fu)
 (Br (eE==(-1))
 (Sw dR w0 #[aa,aa,aa,aa,aa,aa] λfJ=>
 R (Value.tuple #[.agg #[aa,aa,aa,aa,aa,aa],(11:Int)]) fJ)
 (Sw dR w0 #[dh,dN,dz,eE,dQ,fy] λlv=>
 R (Value.tuple #[.agg #[dh,dN,dz,eE,dQ,fy],(0:Int)]) lv)))))/\(Aw cJ #[aa,aa,aa,aa,aa,aa] 77 λeM=>
 ah 87 #[v15,.agg #[cY,cp,cn],.agg #[bq,bA,bo],(5:Int)] eM (λe jc=>∃(kv nk fB gA ou mc:Int)(b41:Bool),e=Value.tuple #[.agg #[kv,nk,fB,gA,ou,mc],b41]/\K3 w w0 cJ eM jc (
 Sw jc cJ #[kv,nk,fB,gA,ou,mc] λku=>
 Br (!b41)
 (Sw ku w0 #[aa,aa,aa,aa,aa,aa] λjd=>
 R (Value.tuple #[.agg #[aa,aa,aa,aa,aa,aa],(13:Int)]) jd)
 (Br (gA==(-1))
 (Sw ku w0 #[aa,aa,aa,aa,aa,aa] λko=>
 R (Value.tuple #[.agg #[aa,aa,aa,aa,aa,aa],(11:Int)]) ko)
 (Sw ku w0 #[kv,nk,fB,gA,ou,mc] λAX=>
 R (Value.tuple #[.agg #[kv,nk,fB,gA,ou,mc],(0:Int)]) AX))))))))/\(Aw bP #[aa,aa,aa,aa,aa,aa] 77 λqC=>
 ah 88 #[.agg #[x5,x6,x7,x8,x9,bh,bC,bN,Fg]] qC (iC λsN zi tX lg=>K3 w w0 bP qC lg (
 ag lg w 0 [bq,bA,bo]/\ah 87 #[v15,.agg #[sN,zi,tX],.agg #[bq,bA,bo],(5:Int)] lg (λe zf=>∃(lC iV pE kC qF mG:Int)(Ob:Bool),e=Value.tuple #[.agg #[lC,iV,pE,kC,qF,mG],Ob]/\K3 w w0 bP lg zf (
 Sw zf bP #[lC,iV,pE,kC,qF,mG] λxh=>
 Br (!Ob)
 (Sw xh w0 #[aa,aa,aa,aa,aa,aa] λmQ=>
 R (Value.tuple #[.agg #[aa,aa,aa,aa,aa,aa],(13:Int)]) mQ)
 (Br (kC==(-1))
 (Sw xh w0 #[aa,aa,aa,aa,aa,aa] λoD=>
 R (Value.tuple #[.agg #[aa,aa,aa,aa,aa,aa],(11:Int)]) oD)
 (Sw xh w0 #[lC,iV,pE,kC,qF,mG] λil=>
 R (Value.tuple #[.agg #[lC,iV,pE,kC,qF,mG],(0:Int)]) il))))))))))/\(Aw w2.drew #[aa,aa,aa,aa,aa,aa] 77 λxe=>
 ah 47 #[a0] xe (Rv λv65 sO=>K2 w w0 xe sO (
 sO.heap[w2.drew.heap.size]? =xe.heap[w2.drew.heap.size]?/\
 ag sO w 0 [bq,bA,bo]/\ag sO (af p3 0) 0 [x5,x6,x7,x8,x9,bh,bC,bN,Fg]/\ah 88 #[.agg #[x5,x6,x7,x8,x9,bh,bC,bN,Fg]] sO (iC λmP mI oM oK=>K2 w w0 sO oK (
 oK.heap[w2.drew.heap.size]? =sO.heap[w2.drew.heap.size]?/\
 ag oK w 0 [bq,bA,bo]/\ah 87 #[v65,.agg #[mP,mI,oM],.agg #[bq,bA,bo],(5:Int)] oK (λe np=>∃(mj ml me uX uU wR:Int)(b77:Bool),e=Value.tuple #[.agg #[mj,ml,me,uX,uU,wR],b77]/\K2 w w0 oK np (
 np.heap[w2.drew.heap.size]? =oK.heap[w2.drew.heap.size]?/\
 Sw np w2.drew.heap.size #[mj,ml,me,uX,uU,wR] λpk=>
 Br (!b77)
 (Sw pk w0 #[aa,aa,aa,aa,aa,aa] λW4=>
 R (Value.tuple #[.agg #[aa,aa,aa,aa,aa,aa],(13:Int)]) W4)
 (Br (uX==(-1))
 (Sw pk w0 #[aa,aa,aa,aa,aa,aa] λuA=>
 R (Value.tuple #[.agg #[aa,aa,aa,aa,aa,aa],(11:Int)]) uA)
 (Sw pk w0 #[mj,ml,me,uX,uU,wR] λuW=>
 R (Value.tuple #[.agg #[mj,ml,me,uX,uU,wR],(0:Int)]) uW))))))))))))))):ah 32 #[a0,a1,.agg #[bq,bA,bo]] w R:=
 cq bV Tryz.func32 h
theorem vX.vc{a0:Addr}(h:
 Aw w #[ak,ao,aw] 41 λw0=>
 ah 103 #[a2] w0 (Rb λb2 w1=>Kp w w0 w1/\
 Br b2
 (ah 66 #[a0,.agg #[ak,ao,aw]] w1 (Rb λb4 w3=>Kp w w1 w3/\
 Br b4
 (R (12:Int) w3)
 (∃(p5:Option Addr),ld w3.drew (af (some a0) 0)=some (.pointer p5)/\
 ah 113 #[p5,.agg #[ak,ao,aw],a2] w3.drew (Ri λx7 w6=>Kp w w3.drew w6/\
 R x7 w6))))
 (∃(p8:Option Addr),ld w1.drew (af (some a0) 0)=some (.pointer p8)/\
 ah 113 #[p8,.agg #[ak,ao,aw],a2] w1.drew (Ri λbh w9=>Kp w w1.drew w9/\
 R bh w9)))):ah 59 #[a0,.agg #[ak,ao,aw],a2] w R:=
 cq bV Tryz.func59 h
theorem uJ.vc{a0:Addr}(h:
 Aw w #[bq,bA,bo] 28 λw0=>
 ah 32 #[a0,a1,.agg #[bq,bA,bo]] w0 (λe w1=>∃(x2 x3 x4 x5 x6 x7 x8:Int),e=Value.tuple #[.agg #[x2,x3,x4,x5,x6,x7],x8]/\Kp w w0 w1/\
 Aw w1 #[aa,aa,aa,aa,aa,aa] 77 λw9=>
 Sw w9 w1 #[x2,x3,x4,x5,x6,x7] λbO=>
 Br (x8==6)
 (R x8 bO)
 (ah 108 #[a3] bO (Rb λQ1 aY=>K2 w w1 bO aY (
 Br (!Q1)
 (R (1:Int) aY)
 (Br (a3==0)
 (R (1:Int) aY)
 (Br (x8 !=0)
 (R x8 aY)
 (ah 109 #[.agg #[x2,x3,x4,x5,x6,x7]] aY (λe bJ=>∃(bX cA cD:Int)(WX:Bool),e=Value.tuple #[.agg #[bX,cA,cD],WX]/\K2 w w1 aY bJ (
 Aw bJ #[aa,aa,aa] 41 λdG=>
 Sw dG bJ #[bX,cA,cD] λfP=>
 Br (!WX)
 (R (12:Int) fP)
 (ah 59 #[a0,.agg #[bX,cA,cD],a3] fP (Ri λdh fx=>K3 w w1 bJ fP fx (
 R dh fx))))))))))))):ah 55 #[a0,a1,.agg #[bq,bA,bo],a3] w R:=
 cq bV Tryz.func55 h
theorem uK.vc{a0:Addr}(h:
 Aw w #[bq,bA,bo] 28 λw0=>
 ah 32 #[a0,a1,.agg #[bq,bA,bo]] w0 (λe w1=>∃(x2 x3 x4 x5 x6 x7 x8:Int),e=Value.tuple #[.agg #[x2,x3,x4,x5,x6,x7],x8]/\Kp w w0 w1/\
 Aw w1 #[aa,aa,aa,aa,aa,aa] 77 λw9=>
 Sw w9 w1 #[x2,x3,x4,x5,x6,x7] λbO=>
 Br (x8==0)
 (ah 59 #[a0,.agg #[x2,x3,x4],(0:Int)] bO (Ri λbN aY=>K2 w w1 bO aY (
 Br (bN !=0)
 (R (Value.tuple #[aa,bN]) aY)
 (R (Value.tuple #[x5,aa]) aY))))
 (Br (x8 !=0)
 (R (Value.tuple #[aa,x8]) bO)
 (R (Value.tuple #[x5,aa]) bO)))):ah 33 #[a0,a1,.agg #[bq,bA,bo]] w R:=
 cq bV Tryz.func33 h
theorem vY.vc{a0:Addr}{bo:Bool}(h:
 Aw w #[bq,bA,bo] 109 λw0=>
 ah 50 #[a0,a1] w0 (λe w1=>∃(p2:Option Addr),e=p2/\Kp w w0 w1/\
 Br (p2).isNone
 (R (6:Int) w1)
 (aP (dv p2) (aP (dv p2) ((((af p2 9)).isSome=true/\Wr w1 (af p2 9) 3)/\bD (af p2 9)≠some w.heap.size/\(∀w3,w3=aH w1 (af p2 9) [bq,bA,bo]->
 R (0:Int) w3)))))):ah 54 #[a0,a1,.agg #[bq,bA,bo]] w R:=
 cq bV Tryz.func54 h
theorem vZ.vc{a0:Addr}(h:
 Aw w #[aa,aa,aa,aa,aa,aa,aa,aa,false] 70 λw0=>
 ah 50 #[a0,a1] w0 (λe w1=>∃(p2:Option Addr),e=p2/\Kp w w0 w1/\
 Br (p2).isNone
 (Sw w1 w #[aa,aa,aa,aa,aa,aa,aa,aa,false] λw3=>
 R (Value.tuple #[.agg #[aa,aa,aa,aa,aa,aa,aa,aa,false],false]) w3)
 (aP (dv p2) (aP (dv p2) (∃(x4 x5 x6 x7 x8 x9 bh bC:Int)(Q1:Bool),ag w1 (af p2 0) 0 [x4,x5,x6,x7,x8,x9,bh,bC,Q1]/\
 Sw w1 w #[x4,x5,x6,x7,x8,x9,bh,bC,Q1] λbJ=>
 R (Value.tuple #[.agg #[x4,x5,x6,x7,x8,x9,bh,bC,Q1],true]) bJ))))):ah 29 #[a0,a1] w R:=
 cq bV Tryz.func29 h
theorem vU.vc{a0:Addr}(h:
 ∃(p0 p1 p2 p3 p4 p5 p6 p7 p8 p9 Ih WB oF Nx p14 Rr:Option Addr),ag w (af (some a0) 1) 0 [.pointer p0,p1,p2,p3,p4,p5,p6,p7,p8,p9,Ih,WB,oF,Nx,p14,Rr]/\
 ∃I16:Nat->Int->Sl->World->Prop,
 (∃GW,I16 GW (0) ⟨none,0,0⟩ w)/\
 ∀(GW:Nat)(aqQ:Nat->Value)(cn:Int)(uB:Sl)(eK:World),I16 GW cn uB eK->
 Br (cn<16)
 (((0:Int)<=cn/\cn<((16:Nat):Int))/\∃(S6:Option Addr),([.pointer p0,p1,p2,p3,p4,p5,p6,p7,p8,p9,Ih,WB,oF,Nx,p14,Rr]:LV)[(cn:Int).toNat*1]? =some (.pointer S6)/\
 Br (!(S6).isNone)
 (aP (dv S6) (aP (dv S6) (∃(eE dQ fy fE g7 gd jD ic:Int)(Wi:Bool),ag eK (af S6 0) 0 [eE,dQ,fy,fE,g7,gd,jD,ic,Wi]/\
 ah 45 #[a0,.agg #[eE,dQ,fy,fE,g7,gd,jD,ic,Wi]] eK (λe eM=>∃(b34:Bool),e=b34/\
 Br b34
 (Aw eM #[S6] 53 λjK=>
 ba 8 1 jK uB 1 [.pointer S6]/\∀(s36:Sl)(ie:World),aV 53 1 jK uB 1 [.pointer S6] s36 ie->Kp eM jK ie/\
 ∃Ny,Ny<GW/\I16 Ny ((aj (cn+1))) s36 ie)
 (∃Ny,Ny<GW/\I16 Ny ((aj (cn+1))) uB eM)))))
 (∃Ny,Ny<GW/\I16 Ny ((aj (cn+1))) uB eK))
 (∃I38:Nat->Int->Sl->World->Prop,
 (∃Oj,I38 Oj (0) ⟨none,0,0⟩ eK)/\
 ∀(Oj:Nat)(ax6:Nat->Value)(kI:Int)(s42:Sl)(jd:World),I38 Oj kI s42 jd->
 Br (decide (kI<((uB.n:Nat):Int)))
 (eo uB.a kI uB.n/\∃(p45:Option Addr),ld jd (af uB.a ((kI:Int).toNat*1))=some (.pointer p45)/\
 aP (dv p45) (aP (dv p45) (∃(gC ph sN zi tX mH lC iV:Int)(b54:Bool),ag jd.drew (af p45 0) 0 [gC,ph,sN,zi,tX,mH,lC,iV,b54]/\
 aP (dv p45) (aP (dv p45) (∃(kC qF:Int)(Wj:Bool),ag jd.drew (af p45 9) 0 [kC,qF,Wj]/\
 ah 47 #[a0] jd.drew (λe kr=>∃(v59:Value),e=v59/\
 ag kr (af p45 9) 0 [kC,qF,Wj]/\ag kr (af p45 0) 0 [gC,ph,sN,zi,tX,mH,lC,iV,b54]/\ah 116 #[.agg #[gC,ph,sN,zi,tX,mH,lC,iV,b54],v59,.agg #[kC,qF,Wj]] kr (λe mQ=>∃(ov nj sR yV pj mS mP mI:Int)(b69:Bool),e=Value.agg #[ov,nj,sR,yV,pj,mS,mP,mI,b69]/\
 Aw mQ #[ov,nj,sR,yV,pj,mS,mP,mI,b69] 70 λnp=>
 ba 72 9 np s42 1 [ov,nj,sR,yV,pj,mS,mP,mI,b69]/\∀(s71:Sl)(w72:World),aV 70 9 np s42 1 [ov,nj,sR,yV,pj,mS,mP,mI,b69] s71 w72->Kp mQ np w72/\
 ∃n44,n44<Oj/\I38 n44 ((aj (kI+1))) s71 w72)))))))
 (ah 47 #[a0] jd (λe M8=>∃(v74:Value),e=v74/\
 ah 117 #[v74,s42] M8 (λe qD=>∃(Fh:Sl),e=Fh/\
 ∃I77:Nat->Int->World->Prop,
 (∃n78,I77 n78 (0) qD)/\
 ∀(n78:Nat)(aqT:Nat->Value)(uy:Int)(uW:World),I77 n78 uy uW->
 Br (decide (uy<((Fh.n:Nat):Int)))
 (eo Fh.a uy Fh.n/\∃(sQ xg AN Oe rK x88 S2 S4:Int)(b91:Bool),ag uW (af Fh.a ((uy:Int).toNat*9)) 0 [sQ,xg,AN,Oe,rK,x88,S2,S4,b91]/\
 Aw uW #[aa,aa,aa,aa,aa,aa,aa,aa,false] 70 λZZ=>
 Sw ZZ uW #[sQ,xg,AN,Oe,rK,x88,S2,S4,b91] λGZ=>
 eo uB.a uy uB.n/\∃(p94:Option Addr),ld GZ.drew (af uB.a ((uy:Int).toNat*1))=some (.pointer p94)/\
 aP (dv p94) (aP (dv p94) ((((af p94 0)).isSome=true/\Wr GZ.drew (af p94 0) 9)/\bD (af p94 0)≠some uW.heap.size/\(∀Z0,Z0=aH GZ.drew (af p94 0) [sQ,xg,AN,Oe,rK,x88,S2,S4,b91]->
 ∃n82,n82<n78/\I77 n82 ((aj (uy+1))) Z0))))
 (∃(p96:Option Addr),ld uW (af (some a0) 0)=some (.pointer p96)/\
 ah 118 #[p96,.func (.func 66) #[a0] #[]] uW (λe w97=>e=sY/\
 ∃(p98:Option Addr),ld w97 (af (some a0) 0)=some (.pointer p98)/\
 ah 119 #[p98] w97 (λe Of=>∃(mJ:Int),e=mJ/\
 R mJ Of)))))))):ah 64 #[a0] w R:=
 cq ⟨[(15,⟨[(59,.int .i64)],[],[]⟩),(10,⟨[(35,.int .i64),(4,.slice)],[],[]⟩),(4,⟨[(15,.int .i64),(3,.slice)],[],[]⟩)],[],[]⟩ Tryz.func64 h
def eJ(v:Ce):Ce:=TW (λ_ n=>dB n) v
theorem Vm(v:Ce)(w:World):ah 195 #[dY v] w λe w'=>e=(dY (eJ v))/\Ext w w':=by
 apply acz.vc;intro w0 e0 w1 e1;have x0:=aL e0;have z0:=zA e0;have x1:=aL e1;have z1:=zA e1;refine (uw (λ_ n=>dB n) v (.func (.func 256) #[] #[]) w1 λw' x' i x _ _=>cS (by kernel_rfl) rfl (Up.vc ((gn x w').mono ?_))).mono ?_
 ·rintro e w2 ⟨rfl,rfl⟩;exact ⟨_,rfl,rfl,Ext.cE _⟩
 rintro e w2 ⟨rfl,x2⟩;have z2:=x2.size;exact ⟨_,_,_,rfl,x2.heap ab,x2.heap ab,λw6 e6=>⟨rfl,(x0.tr (x1.tr x2)).ae e6 ab⟩⟩
def yH(n:Int):Int:=min (max n (-1048576)) 1048576
theorem agN(n:Int):(if 1048576<(if (-1048576)>n then (-1048576) else n) then 1048576 else (if (-1048576)>n then (-1048576) else n))=yH n:=by
 unfold yH
 repeat' split
 all_goals omega
theorem wH(n:Int)(w:World):ah 257 #[n] w λe w'=>e=Value.int .i64 (yH n)/\w'=w:=by apply Uq.vc;exact ⟨by rw [agN],rfl⟩
def km(v:Ce):Ce:=(yH v.1,yH v.2.1,yH v.2.2)
theorem Vn(v:Ce)(w:World):ah 196 #[dY v] w λe w'=>e=(dY (km v))/\Ext w w':=by apply acA.vc;intro w0 e0 w1 e1;have x0:=aL e0;have z0:=zA e0;have r0:Row w0 w (dA v) eu:=Row.nw e0;have x1:Ext w0 w1.drew:=(aL e1).drew;have r1:=r0.ext x1;refine (wH v.1 w1.drew).mono ?_;rintro e w2 ⟨rfl,rfl⟩;refine ⟨_,rfl,rfl,rfl,kB r1 rfl,kB r1 rfl,(wH v.2.1 w1.drew).mono ?_⟩;rintro e w4 ⟨rfl,rfl⟩;refine ⟨_,rfl,rfl,rfl,kB r1 rfl,(wH v.2.2 w1.drew).mono ?_⟩;rintro e w6 ⟨rfl,rfl⟩;exact ⟨_,rfl,rfl,rfl,λw8 e8=>⟨rfl,(x0.tr x1).ae e8 ab⟩⟩
abbrev Sd:=Int × Int
def Mi(a b:Sd):Bool:=if a.2=0\/b.2=0 then decide (0<a.2) else decide (aj (a.1*b.2)<aj (b.1*a.2))
theorem Mj(a b:Sd)(w:World):ah 200 #[.agg #[a.1,a.2],.agg #[b.1,b.2]] w λe w'=>e=Value.bool (Mi a b)/\Ext w w':=by
 apply PT.vc;intro w0 e0 w1 e1;have x1:Ext w w1:=(aL e0).bn e1;unfold Mi;refine Br.mk (λh=>⟨?_,x1⟩) (λh=>Br.mk (λh2=>⟨?_,x1⟩) (λh2=>⟨?_,x1⟩))
 ·rw [if_pos (Or.inl (by simpa using h))]
 ·rw [if_pos (Or.inr (by simpa using h2))]
 ·rw [if_neg (by
   have h1:¬a.2=0:=by simpa using h
   have h3:¬b.2=0:=by simpa using h2
   rintro (h|h)
   ·exact h1 h
   ·exact h3 h)]
def rI(a b r:Int):Bool:=decide (aj (a-b)<=r) && decide (aj (b-a)<=r)
theorem wJ(a b r:Int){g:Nat}{τ:TypeId}{w:World}(hr:Row w g [r] τ):ah 259 #[a,b,g] w λe w'=>e=Value.bool (rI a b r)/\w'=w:=by apply Je.vc;unfold rI;refine ⟨r,hr.at 0 rfl,Br.mk (λh=>⟨r,hr.at 0 rfl,by rw [h,Bool.true_and],rfl⟩) (λh=>⟨by rw [h,Bool.false_and],rfl⟩)⟩
def lq(a b:Ce)(r:Int):Bool:=rI a.1 b.1 r &&(rI a.2.1 b.2.1 r && rI a.2.2 b.2.2 r)
theorem JB(a b:Ce)(r:Int)(w:World):ah 199 #[dY a,dY b,r] w λe w'=>e=Value.bool (lq a b r)/\Ext w w':=by apply PU.vc;intro w0 e0 w1 e1 w2 e2;have x2:Ext w w2:=((aL e0).bn e1).bn e2;have r2:∃τ,Row w2 w1 [r] τ:=⟨_,by rw [e2];exact Row.new w1 [_] _⟩;obtain ⟨τ,r2⟩:=r2;unfold lq;refine (wJ a.1 b.1 r r2).mono ?_;rintro e w3 ⟨rfl,rfl⟩;refine ⟨_,rfl,rfl,rfl,Br.mk (λh=>(wJ a.2.1 b.2.1 r r2).mono ?_) (λh=>⟨by rw [h,Bool.false_and],x2⟩)⟩;rintro e w5 ⟨rfl,rfl⟩;refine ⟨_,rfl,rfl,rfl,Br.mk (λh2=>(wJ a.2.2 b.2.2 r r2).mono ?_) (λh2=>⟨by rw [h,h2];rfl,x2⟩)⟩;rintro e w7 ⟨rfl,rfl⟩;exact ⟨_,rfl,rfl,rfl,by rw [h,h2,Bool.true_and,Bool.true_and],x2⟩
theorem Zf(a b:Int)(ha:0<=a/\a<=1000000000)(hb:0<b/\b<=1048576)(w:World):ah 201 #[a,b] w λe w'=>e=Value.tuple #[.int .i64 (a*65536 / b),aa]/\Ext w w':=by
 apply Us.vc;refine (uj a w).mono ?_;rintro e w0 ⟨rfl,rfl⟩;have ca:dB a=a:=qX ab;have cb:dB b=b:=qX ab;rw [ca];refine ⟨_,_,rfl,(uj b w0).mono ?_⟩;rintro e w3 ⟨rfl,rfl⟩;rw [cb];have atl:(2 ^(min (16:Int).toNat 64):Int)=65536:=by decide
 have ma:max a (-a)=a:=by omega
 have mb:max b (-b)=b:=by omega
 rw [ma,mb];have na:decide (a<0)=false:=by simpa using ha.1
 have nb:decide (b<0)=false:=by simpa using Int.le_of_lt hb.1
 refine ⟨_,_,rfl,Br.mk (λh=>absurd (by simpa using h:b=0) ab) (λh=> ?_)⟩;have JX:∀q ∈ J6 b,q:=λq hq=>by
  unfold J6 at hq;rw [if_neg ab] at hq
  cases hq
 rw [atl,vM (n:=a*65536) ab,na,nb];have hd:Int.tdiv (a*65536) b=a*65536 / b:=qb ab;have h1:0<=a*65536 / b:=Int.ediv_nonneg ab ab;have h2:a*65536 / b<=a*65536:=Int.ediv_le_self _ ab;rw [hd,vM (n:=a*65536 / b) ab];refine bE.2 ⟨JX,bE.2 ⟨JX,(DV (a*65536 / b) ab _ _ w3.drew).mono ?_⟩⟩;rintro e w6 ⟨rfl,x6⟩;exact ⟨_,rfl,rfl,(Ext.dr _).tr x6⟩
theorem acP{w:World}{g:Nat}{cs:LV}{E:TypeId}(hr:Row w g cs E){j:Nat}{a b:Value}(hj:j+2<=cs.length)(ha:a.oneCell'=true)(hb:b.oneCell'=true):
  Wr w (af (some ⟨g,0,none⟩) j) 2/\∀w',w'=Vc.aH w (af (some ⟨g,0,none⟩) j) [a,b]->Row w' g ((cs.set j a).set (j+1) b) E/\Mod (λi=>i=g) w w':=by
 rw [bf,ep];have h1:One [a,b]:=by
  intro u hu;simp at hu;rcases hu with rfl|rfl
  ·exact ha
  ·exact hb
 refine ⟨hr.wr hj,λw' e=> ?_⟩;rw [hr.aH (by simpa using hj) h1] at e;subst e;exact ⟨hr.set _,rfl,rfl,rfl,by rw [setRow_size];exact aB _,λi _ hn=>setRow_other _ _ _ _ hn⟩
abbrev S3:=Sd × Sd × Sd
abbrev Cd(s:S3):LV:=[.int .i64 s.1.1,.int .i64 s.1.2,.int .i64 s.2.1.1,.int .i64 s.2.1.2,.int .i64 s.2.2.1,.int .i64 s.2.2.2]
abbrev N5:TypeId:=268
theorem Ze(s:S3):One (Cd s):=by intro v hv;simp at hv;rcases hv with rfl|rfl|rfl|rfl|rfl|rfl<;>rfl
def wZ(f d:Ce)(i:Int):Sd:=if db d i>0 then (aj (65536-qh (db f i)),db d i) else (qh (db f i),aj (0-db d i))
def Vf(f d:Ce):Nat->S3
 |0=>((0,0),(0,0),(0,0))
 |1=>(wZ f d 0,(0,0),(0,0))
 |2=>(wZ f d 0,wZ f d 1,(0,0))
 |_=>(wZ f d 0,wZ f d 1,wZ f d 2)
theorem Qp(f d:Ce)(w:World):ah 198 #[dY f,dY d] w λe w'=>e=Value.agg (Cd (Vf f d 3)).toArray/\Ext w w':=by
 apply Ur.vc;intro w0 e0 w1 e1 w2 e2 w3 e3;have x0:=aL e0;have z0:=zA e0;have x1:=aL e1;have z1:=zA e1;have r1:Row w1 w0 (dA d) eu:=Row.nw e1;have x2:=aL e2;have z2:=zA e2;have r2:Row w2 w1 (Cd ((0,0),(0,0),(0,0))) N5:=Row.nw e2;have x3:=aL e3;have z3:=zA e3;have r3:Row w3 w2 (Cd ((0,0),(0,0),(0,0))) N5:=Row.nw e3;have AK:=x0.tr (x1.tr (x2.tr x3));refine ⟨λn x wr=>∃k:Nat,x=k/\k+n=3/\Row wr w2 (Cd (Vf f d k)) N5/\Row wr w1 (Cd ((0,0),(0,0),(0,0))) N5/\Row wr w0 (dA d) eu/\Ext w wr,⟨3,rfl,rfl,0,rfl,rfl,r3,r2.ext x3,r1.ext (x2.tr x3),AK⟩,?_⟩;rintro n us x w8 ⟨k,rfl,hk,rl,ro,rd,xr⟩;have zl:=rl.lt;apply Br.mk<;>intro hc
 ·have hc:(k:Int)<3:=by simpa using hc
  have za:k=0\/k=1\/k=2:=by omega
  have wk:=mz (j:=k);have xd:=Ext.dr w8;have zd:=lG w8;refine (dc f k w8.drew).mono ?_;rintro e bO ⟨rfl,bh⟩;have QX:=bh.size;refine ⟨_,rfl,bh.heap ab,bh.heap ab,Lo.wv (rd.ext (xd.tr bh)),(dc d k bO).mono ?_⟩;rintro e cR ⟨rfl,bN⟩;have z12:=bN.size;have y12:=xd.tr (bh.tr bN);refine ⟨_,rfl,bN.heap ab,bN.heap ab,(zS (db f k) cR).mono ?_⟩;rintro e bP ⟨rfl,rfl⟩;obtain ⟨p1,p2⟩:=acP (rl.ext y12) (j:=(k:Int).toNat*2) (a:=.int .i64 (qh (db f k))) (b:=.int .i64 (aj (0-db d k))) (by show _<=6;omega) rfl rfl;refine ⟨_,rfl,rfl,rfl,by omega,by omega,⟨rfl,p1⟩,po ab,po ab,λcJ FP=> ?_⟩;obtain ⟨q1,q2⟩:=p2 cJ FP;have z16:=q2.size;have amq:Ext w cJ:=q2.ext (xr.tr y12) λi hi=>by omega
  have aiu:=(ro.ext y12).same (q2.same _ (ro.ext y12).lt ab);have J1:=(rd.ext y12).same (q2.same _ (rd.ext y12).lt ab);refine Br.mk (λhq=>(zS (db f k) cJ).mono ?_) (λhq=>⟨n-1,by omega,rfl,rfl,k+1,wk,by omega,?_,aiu,J1,amq⟩)
  ·rintro e cL ⟨rfl,rfl⟩;obtain ⟨p3,p4⟩:=acP q1 (j:=(k:Int).toNat*2) (a:=.int .i64 (aj (65536-qh (db f k)))) (b:=.int .i64 (db d k)) (by rw [iq,iq];show _<=6;omega) rfl rfl;refine ⟨_,rfl,rfl,rfl,by omega,by omega,⟨rfl,p3⟩,po ab,po ab,λfP e19=> ?_⟩;obtain ⟨q3,q4⟩:=p4 fP e19;have hq:db d k>0:=by simpa using hq
   have hs:wZ f d k=(aj (65536-qh (db f k)),db d k):=by unfold wZ;rw [if_pos hq]
   refine ⟨n-1,by omega,rfl,rfl,k+1,wk,by omega,?_,aiu.same (q4.same _ aiu.lt ab),J1.same (q4.same _ J1.lt ab),q4.ext amq λi hi=>by omega⟩;rcases za with rfl|rfl|rfl
   ·have hs:wZ f d 0=_:=hs;show Row fP _ (Cd (wZ f d 0,(0,0),(0,0))) N5;rw [hs];exact q3
   ·have hs:wZ f d 1=_:=hs;show Row fP _ (Cd (wZ f d 0,wZ f d 1,(0,0))) N5;rw [hs];exact q3
   ·have hs:wZ f d 2=_:=hs;show Row fP _ (Cd (wZ f d 0,wZ f d 1,wZ f d 2)) N5;rw [hs];exact q3
  ·have hq:¬db d k>0:=by simpa using hq
   have hs:wZ f d k=(qh (db f k),aj (0-db d k)):=by unfold wZ;rw [if_neg hq]
   rcases za with rfl|rfl|rfl
   ·have hs:wZ f d 0=_:=hs;show Row cJ _ (Cd (wZ f d 0,(0,0),(0,0))) N5;rw [hs];exact q1
   ·have hs:wZ f d 1=_:=hs;show Row cJ _ (Cd (wZ f d 0,wZ f d 1,(0,0))) N5;rw [hs];exact q1
   ·have hs:wZ f d 2=_:=hs;show Row cJ _ (Cd (wZ f d 0,wZ f d 1,wZ f d 2)) N5;rw [hs];exact q1
 ·have hc:¬(k:Int)<3:=by simpa using hc
  have za:k=3:=by omega
  subst za;refine ⟨_,_,_,_,_,_,Lo.wv rl,⟨rfl,ro.wr bB⟩,cT ab,cT ab,λfi zk=> ?_⟩;rw [ro.aH (vs:=Cd (Vf f d 3)) bB (Ze (Vf f d 3)),aQ bB] at zk;have r26:Row fi w1 (Cd (Vf f d 3)) N5:=ro.st zk;exact ⟨_,_,_,_,_,_,Lo.wv r26,rfl,xr.ae zk ab⟩
def iK(s:S3):Nat->Sd
 |0=>s.1
 |1=>s.2.1
 |_=>s.2.2
def HW(s:S3)(i:Nat)(x:Sd):S3:=
 match i with
 |0=>(x,s.2.1,s.2.2)
 |1=>(s.1,x,s.2.2)
 |_=>(s.1,s.2.1,x)
def fA(s:S3):Nat->Nat
 |0=>0
 |k+1=>if Mi (iK s k) (iK s (fA s k))=true then k else fA s k
theorem Jz(s:S3):∀k:Nat,fA s k<k\/fA s k=0
 |0=> .inr rfl
 |k+1=>by
  unfold fA
  have:=Jz s k
  split<;>omega
theorem at3(s:S3):fA s 3=0\/fA s 3=1\/fA s 3=2:=by have:=Jz s 3;omega
abbrev Hi:=Ce × Int × Int
def XO(c:Ce):Nat->Ce
 |0=>(c.1-1,c.2.1,c.2.2)
 |1=>(c.1+1,c.2.1,c.2.2)
 |2=>(c.1,c.2.1-1,c.2.2)
 |3=>(c.1,c.2.1+1,c.2.2)
 |4=>(c.1,c.2.1,c.2.2-1)
 |_=>(c.1,c.2.1,c.2.2+1)
def iZ(d:Ce)(s:S3)(h:Hi):Option (S3 × Hi):=
 if (iK s (fA s 3)).2=0 then none
 else some (HW s (fA s 3) ((iK s (fA s 3)).1+65536,(iK s (fA s 3)).2),(XO h.1 (if db d (fA s 3)>0 then 2*fA s 3+1 else 2*fA s 3),(if db d (fA s 3)>0 then 2*(fA s 3:Int) else 2*(fA s 3:Int)+1),(iK s (fA s 3)).1*65536 /(iK s (fA s 3)).2))
def goK(d c0:Ce)(r:Int):Nat->S3->Hi->List Hi
 |0,_,_=> []
 |n+1,s,h=>if lq c0 h.1 r=true then h::(match iZ d s h with|none=> []|some q=>goK d c0 r n q.1 q.2) else []
def yx(x:Int):Int:=max x (-x)
def JA(k:Nat)(x:Sd)(d o:Int):Prop:=x.2=yx d/\(0<=x.1/\x.1<=65536*(k+1))/\(0<d->0<=o)/\(d<=0->o<=0)
def yy(d c0:Ce)(k:Nat)(s:S3)(c:Ce):Prop:=
 (JA k s.1 d.1 (c.1-c0.1)/\JA k s.2.1 d.2.1 (c.2.1-c0.2.1)/\JA k s.2.2 d.2.2 (c.2.2-c0.2.2))/\yx (c.1-c0.1)+yx (c.2.1-c0.2.1)+yx (c.2.2-c0.2.2)=k
theorem Zc{d c0:Ce}{k:Nat}{s:S3}{h:Hi}(hr:yy d c0 k s h.1){q:S3 × Hi}(hq:iZ d s h=some q):yy d c0 (k+1) q.1 q.2.1:=by
 obtain ⟨⟨⟨h1,h2,h3,h4⟩,⟨g1,g2,g3,g4⟩,⟨f1,f2,f3,f4⟩⟩,hs⟩:=hr;obtain ⟨⟨s1,s2⟩,⟨t1,t2⟩,⟨u1,u2⟩⟩:=s;obtain ⟨⟨cx,cy,cz⟩,face,time⟩:=h;unfold iZ at hq;split at hq
 ·cases hq
 rename_i iM;injection hq with hq;subst hq;rcases at3 ((s1,s2),(t1,t2),(u1,u2)) with e|e|e
 ·rw [e] at iM ⊢;have a0:db d ((0:Nat):Int)=d.1:=rfl;rw [a0];simp only [iK,HW] at iM h1 h2 h3 h4 g1 g2 g3 g4 f1 f2 f3 f4 hs ⊢;unfold yy JA yx;unfold yx at h1 g1 f1 hs;split
  ·show (_/\_)/\_;simp only [XO];omega
  ·show (_/\_)/\_;simp only [XO];omega
 ·rw [e] at iM ⊢;have a0:db d ((1:Nat):Int)=d.2.1:=rfl;rw [a0];simp only [iK,HW] at iM h1 h2 h3 h4 g1 g2 g3 g4 f1 f2 f3 f4 hs ⊢;unfold yy JA yx;unfold yx at h1 g1 f1 hs;split
  ·simp only [XO];omega
  ·simp only [XO];omega
 ·rw [e] at iM ⊢;have a0:db d ((2:Nat):Int)=d.2.2:=rfl;rw [a0];simp only [iK,HW] at iM h1 h2 h3 h4 g1 g2 g3 g4 f1 f2 f3 f4 hs ⊢;unfold yy JA yx;unfold yx at h1 g1 f1 hs;split
  ·simp only [XO];omega
  ·simp only [XO];omega
theorem Ve{d c0 c:Ce}{k:Nat}{s:S3}{r:Int}(hr:yy d c0 k s c)(h0:(-2000000000<=c0.1/\c0.1<=2000000000)/\(-2000000000<=c0.2.1/\c0.2.1<=2000000000)/\-2000000000<=c0.2.2/\c0.2.2<=2000000000)(hk:k<=1000)(hw:lq c0 c r=true):(k:Int)<=3*r:=by obtain ⟨-,hs⟩:=hr;unfold yx at hs;unfold lq rI at hw;simp only [fm,cQ] at hw;rw [wI,wI,wI,wI,wI,wI] at hw;omega
abbrev hiV(h:Hi):Value:=.agg #[h.1.1,h.1.2.1,h.1.2.2,aa,h.2.1,h.2.2]
def kZ(f d:Ce)(r:Int):List Hi:=goK d (br f) r (3*r.toNat+2) (Vf f d 3) (br f,-1,0)
abbrev trX(f d:Ce)(r:Int):List (LV):=(kZ f d r).map λh=> [hiV h]
abbrev ajN(g:Nat):Value:=.func (.func 197) #[] #[g,.pointer (some ⟨g+1,0,none⟩),.pointer (some ⟨g+2,0,none⟩)]
theorem Hf{w:World}{g:Nat}{s:S3}{E:TypeId}(hr:Row w g (Cd s) E){a:Nat}(ha:a=0\/a=1\/a=2):ag w (af (some ⟨g,0,none⟩) ((a:Int).toNat*2)) 0 [.int .i64 (iK s a).1,.int .i64 (iK s a).2]:=by
 rw [bf,ep];rcases ha with rfl|rfl|rfl
 all_goals
  refine hr.bZ λj hj=> ?_
  match j,hj with
  |0,_=>rfl
  |1,_=>rfl
theorem ldA{w:World}{g:Nat}{s:S3}{E:TypeId}(hr:Row w g (Cd s) E){a:Nat}(ha:a=0\/a=1\/a=2):Vc.ld w (af (af (some ⟨g,0,none⟩) ((a:Int).toNat*2)) 0)=some (.int .i64 (iK s a).1):=by rw [bf,bf,hr.ld];rcases ha with rfl|rfl|rfl<;>rfl
theorem ldB{w:World}{g:Nat}{s:S3}{E:TypeId}(hr:Row w g (Cd s) E){a:Nat}(ha:a=0\/a=1\/a=2):Vc.ld w (af (af (some ⟨g,0,none⟩) ((a:Int).toNat*2)) 1)=some (.int .i64 (iK s a).2):=by rw [bf,bf,hr.ld];rcases ha with rfl|rfl|rfl<;>rfl
theorem aoY{w:World}{g:Nat}{s:S3}{E:TypeId}(hr:Row w g (Cd s) E){a:Nat}(ha:a=0\/a=1\/a=2)(x:Int):
  Wr w (af (af (some ⟨g,0,none⟩) ((a:Int).toNat*2)) 0) 1/\∀w',w'=Vc.aH w (af (af (some ⟨g,0,none⟩) ((a:Int).toNat*2)) 0) [x]->Row w' g (Cd (HW s a (x,(iK s a).2))) E/\Mod (λi=>i=g) w w':=by
 have e:af (af (some ⟨g,0,none⟩) ((a:Int).toNat*2)) 0=af (some ⟨g,0,none⟩) ((a:Int).toNat*2):=by rw [bf,bf];rfl
 rw [e];obtain ⟨p1,p2⟩:=hr.je (j:=(a:Int).toNat*2) (v:=.int .i64 x) (by show _<6;omega) rfl;refine ⟨p1,λw' e'=> ?_⟩;obtain ⟨q1,q2⟩:=p2 w' e';refine ⟨?_,q2⟩;rcases ha with rfl|rfl|rfl<;>exact q1
theorem oZ{w w':World}{g:Nat}{c:Array Value}(e:w'=w.setRow g c):Mod (λi=>i=g) w w':=by subst e;exact ⟨rfl,rfl,rfl,by rw [setRow_size];exact aB _,λi _ hn=>setRow_other _ _ _ _ hn⟩
theorem Sk(c:Ce){j:Nat}(hj:j<6):((B2 c).drop ((j:Int).toNat*3)).take 3=dA (XO c j):=by
 have:j=0\/j=1\/j=2\/j=3\/j=4\/j=5:=by omega
 rcases this with rfl|rfl|rfl|rfl|rfl|rfl<;>rfl
theorem axd(d:Ce):db d ((0:Nat):Int)=d.1/\db d ((1:Nat):Int)=d.2.1/\db d ((2:Nat):Int)=d.2.2:=⟨rfl,rfl,rfl⟩
theorem Zd{d c0 c:Ce}{k a:Nat}{s:S3}(hr:yy d c0 k s c)(ha:a=0\/a=1\/a=2):JA k (iK s a) (db d a) (db c a-db c0 a):=by
 obtain ⟨⟨h1,h2,h3⟩,-⟩:=hr;rcases ha with rfl|rfl|rfl
 ·exact h1
 ·exact h2
 ·exact h3
theorem Vg(f d:Ce)(hd:∀i:Nat,i<3-> -1048576<=db d i/\db d i<=1048576):yy d (br f) 0 (Vf f d 3) (br f):=by
 have h0:=hd 0 aF;have h1:=hd 1 aF;have h2:=hd 2 aF;obtain ⟨a0,a1,a2⟩:=axd d;rw [a0] at h0;rw [a1] at h1;rw [a2] at h2;have key:∀(i:Int)(q:Int),db d i=q-> -1048576<=q/\q<=1048576->JA 0 (wZ f d i) q 0:=λi q hq hb=>by
  have hf:0<=qh (db f i)/\qh (db f i)<65536:=by unfold qh;omega
  unfold wZ JA yx;rw [hq];split
  ·rw [wI];simp only;omega
  ·rw [wI];simp only;omega
 refine ⟨⟨?_,?_,?_⟩,?_⟩
 ·rw [Int.sub_self];exact key 0 d.1 a0 h0
 ·rw [Int.sub_self];exact key 1 d.2.1 a1 h1
 ·rw [Int.sub_self];exact key 2 d.2.2 a2 h2
 ·rw [Int.sub_self,Int.sub_self,Int.sub_self];rfl
set_option maxHeartbeats 2000000 in
theorem Qo(f d:Ce)(r:Int)(hf:(-1900000000<=(br f).1/\(br f).1<=1900000000)/\(-1900000000<=(br f).2.1/\(br f).2.1<=1900000000)/\-1900000000<=(br f).2.2/\(br f).2.2<=1900000000)(hd:∀i:Nat,i<3-> -1048576<=db d i/\db d i<=1048576)(hr:0<=r/\r<=64)
  (g:Nat)(W0:World)(h0:Row W0 g (dA f) eu)(h1:Row W0 (g+1) (dA d) eu)(h2:Row W0 (g+2) [r] 3):
  Iter Tryz.prog (ajN g) W0 (λi=>i=g\/i=g+1\/i=g+2) (trX f d r):=by
 refine ⟨⟨_,_,_,rfl,by kernel_rfl⟩,?_⟩;intro y B J Jx F0 W hB hsJ hsX yO hRd hround hJ0;refine cS (by kernel_rfl) (by rfl) ?_;apply Lw.vc;have q0:=h0.same (hRd g (.inl rfl)).2.2;have q1:=h1.same (hRd (g+1) (.inr (.inl rfl))).2.2;have q2:=h2.same (hRd (g+2) (.inr (.inr rfl))).2.2;refine ⟨_,_,_,Lo.wv q0,_,_,_,Lo.wv q1,(Qp f d W).mono ?_⟩;rintro e w6 ⟨rfl,x6⟩;have z6:=x6.size;refine ⟨_,_,_,_,_,_,rfl,λbJ Cp=> ?_⟩;have z13:=zA Cp;have r13:Row bJ w6 (Cd ((0,0),(0,0),(0,0))) N5:=Row.nw Cp;refine ⟨⟨rfl,r13.wr bB⟩,λbP ux=> ?_⟩;rw [r13.aH (vs:=Cd (Vf f d 3)) bB (Ze (Vf f d 3)),aQ bB] at ux;have r14:Row bP w6 (Cd (Vf f d 3)) N5:=r13.st ux;have Wb:=zR ux;have bX:Ext w6 bP:=(aL Cp).ae ux (aB _);refine ⟨_,_,_,Lo.wv (q0.ext (x6.tr bX)),(xM f bP).mono ?_⟩;rintro e dG ⟨rfl,cp⟩;have z18:=cp.size;refine ⟨_,_,_,rfl,λdT yX eh Ii fZ GJ cU wK=> ?_⟩;have z22:=zA yX;have z23:=zR Ii;have z24:=zA GJ;have z25:=zR wK;have dQ:Ext dG cU:=(((aL yX).ae Ii (aB _)).bn GJ).ae wK ab;have xW:=x6.tr (bX.tr (cp.tr dQ));obtain ⟨K,hK⟩:∃K:Nat->Prop,K=λi=>i=g\/i=g+1\/i=g+2\/i=w6.heap.size\/i=dG.heap.size\/i=eh.heap.size:=⟨_,rfl⟩
 obtain ⟨P,hP⟩:∃P:Nat->S3->World->Prop,P=λk s wr=>(∃F,J k F wr/\∀i,K i->¬F i/\i<wr.heap.size)/\(Row wr g (dA f) eu/\Row wr (g+1) (dA d) eu/\Row wr (g+2) [r] 3)/\Row wr w6 (Cd s) N5/\cU.heap.size<=wr:=⟨_,rfl⟩
 have ext:∀{k:Nat} {s:S3} {wr wr':World},P k s wr->Ext wr wr'->P k s wr':=λ{k s wr wr'} h x=>by rw [hP] at h ⊢;obtain ⟨⟨F,hJ,hk⟩,⟨a0,a1,a2⟩,a3,a4⟩:=h;exact ⟨⟨F,hsJ _ _ _ _ hJ (Below.mono x ab) λi hi=>x.heap (yO _ _ _ hJ i hi),λi hi=>⟨(hk i hi).1,j6 (hk i hi).2 x.size⟩⟩,⟨a0.ext x,a1.ext x,a2.ext x⟩,a3.ext x,gj a4 x.size⟩
 have glt:g+2<W.heap.size:=q2.lt;have jl:∀{k:Nat} {s s':S3} {wr wr':World} {b:Nat},P k s wr->Mod (λi=>i=b) wr wr'->(b=w6.heap.size\/b=dG.heap.size)->Row wr' w6 (Cd s') N5->P k s' wr':=λ{k s s' wr wr' b} h hm hb cO=>by rw [hP] at h ⊢;obtain ⟨⟨F,hJ,hk⟩,⟨a0,a1,a2⟩,a3,a4⟩:=h;have hkb:¬F b:=(hk b (by rw [hK];rcases hb with rfl|rfl<;>simp)).1;refine ⟨⟨F,hsJ _ _ _ _ hJ (hm.below ab λi hi=>by rcases hb with rfl|rfl<;>omega) λi hi=>hm.same i (yO _ _ _ hJ i hi) λq=>hkb (by rw [<-q];exact hi),λi hi=>⟨(hk i hi).1,j6 (hk i hi).2 hm.size⟩⟩,⟨a0.same (hm.same _ a0.lt ab),a1.same (hm.same _ a1.lt ab),a2.same (hm.same _ a2.lt ab)⟩,cO,gj a4 hm.size⟩
 have init:P 0 (Vf f d 3) cU:=by
  rw [hP];refine ⟨⟨F0,hsJ _ _ _ _ hJ0 (Below.mono xW ab) λi hi=>xW.heap (yO _ _ _ hJ0 i hi),λi hi=> ?_⟩,⟨q0.ext xW,q1.ext xW,q2.ext xW⟩,r14.ext (cp.tr dQ),aB _⟩;rw [hK] at hi;have hF:∀i,F0 i->i<W.heap.size:=λi hi=>yO _ _ _ hJ0 i hi
  rcases hi with hi|hi|hi|hi|hi|hi
  ·exact ⟨(hRd i (.inl hi)).1,by omega⟩
  ·exact ⟨(hRd i (.inr (.inl hi))).1,by omega⟩
  ·exact ⟨(hRd i (.inr (.inr hi))).1,by omega⟩
  ·exact ⟨λq=>by have:=hF i q;omega,by omega⟩
  ·exact ⟨λq=>by have:=hF i q;omega,by omega⟩
  ·exact ⟨λq=>by have:=hF i q;omega,by omega⟩
 have round:∀{k:Nat} {s:S3} {wr:World} {x:LV},(trX f d r)[k]? =some x->P k s wr->cr Tryz.prog y x wr λe w'=>((e=true/\P (k+1) s w')\/(e=false/\∃F',Jx () F' w'))/\w'.heap[dG.heap.size]? =wr.heap[dG.heap.size]?/\w'.heap[eh.heap.size]? =wr.heap[eh.heap.size]? :=λ{k s wr x} hx h=>by
  rw [hP] at h ⊢;obtain ⟨⟨F,hJ,hk⟩,⟨a0,a1,a2⟩,a3,a4⟩:=h;have kk:∀i,(i=g\/i=g+1\/i=g+2\/i=w6.heap.size\/i=dG.heap.size\/i=eh.heap.size)->K i:=λi hi=>by rw [hK];exact hi
  refine dp (hround _ _ _ _ hx hJ) ?_;rintro e w' (⟨rfl,F2,Kk,gG⟩|⟨rfl,F2,Kk,gG⟩)
  ·have same:∀i,K i->w'.heap[i]? =wr.heap[i]? :=λi hi=>gG.same i (hk i hi).2 (hk i hi).1
   refine ⟨.inl ⟨rfl,⟨F2,Kk,λi hi=>⟨λhf=> ?_,j6 (hk i hi).2 gG.size⟩⟩,⟨a0.same (same _ (kk _ bB)),a1.same (same _ (kk _ bB)),a2.same (same _ (kk _ bB))⟩,a3.same (same _ (kk _ bB)),gj a4 gG.size⟩,same _ (kk _ bB),same _ (kk _ bB)⟩;rcases gG.sub i hf with hf|hf
   ·exact (hk i hi).1 hf
   ·have:=(hk i hi).2;omega
  ·have same:∀i,K i->w'.heap[i]? =wr.heap[i]? :=λi hi=>gG.same i (hk i hi).2 (hk i hi).1
   exact ⟨.inr ⟨rfl,F2,Kk⟩,same _ (kk _ bB),same _ (kk _ bB)⟩
 have fin:∀{s:S3} {wr:World},P (trX f d r).length s wr->∃F',J (trX f d r).length F' wr:=λh=>by rw [hP] at h;obtain ⟨⟨F,hJ,-⟩,-⟩:=h;exact ⟨F,hJ⟩
 have rowL:∀{k:Nat} {s:S3} {wr:World},P k s wr->Row wr w6 (Cd s) N5:=λh=>by rw [hP] at h;exact h.2.2.1
 have rowD:∀{k:Nat} {s:S3} {wr:World},P k s wr->Row wr (g+1) (dA d) eu:=λh=>by rw [hP] at h;exact h.2.1.2.1
 have rowR:∀{k:Nat} {s:S3} {wr:World},P k s wr->Row wr (g+2) [r] 3:=λh=>by rw [hP] at h;exact h.2.1.2.2
 have hz:∀{k:Nat} {s:S3} {wr:World},P k s wr->cU.heap.size<=wr:=λh=>by rw [hP] at h;exact h.2.2.2
 have hxs:trX f d r=(goK d (br f) r (3*r.toNat+2) (Vf f d 3) (br f,-1,0)).map λh=> [hiV h]:=rfl
 generalize trX f d r=xs at*;have hbegin:=Vg f d hd;generalize N8:br f=c0 at*;refine ⟨λn a b c z fc tm wr=>∃(k:Nat)(s:S3),P k s wr/\k+n=3*r.toNat+2/\yy d c0 k s (a,b,c)/\z=0/\∃pre:List (LV),pre.length=k/\xs=pre++(goK d c0 r n s ((a,b,c),fc,tm)).map λh=> [hiV h],⟨3*r.toNat+2,rfl,0,Vf f d 3,init,by omega,hbegin,rfl,[],rfl,hxs⟩,?_⟩;rintro n us a b c z fc tm wr ⟨k,s,hp,V6,hro,rfl,pre,hpl,hx⟩;have zr:=hz hp;refine ⟨_,(rowR hp).at 0 rfl,(JB c0 (a,b,c) r wr).mono ?_⟩;rintro e lf ⟨rfl,gA⟩;have Cq:=ext hp gA;refine ⟨_,rfl,gA.heap ab,gA.heap ab,Br.mk (λhw=> ?_) (λhw=> ?_)⟩
 ·have za:=Ve hro ab ab hw;obtain ⟨n,rfl⟩:∃n',n=n'+1:=⟨n-1,by omega⟩;have hgo:goK d c0 r (n+1) s ((a,b,c),fc,tm)=((a,b,c),fc,tm)::(match iZ d s ((a,b,c),fc,tm) with|none=> []|some q=>goK d c0 r n q.1 q.2):=by
   show (if lq c0 (a,b,c) r=true then _ else _)=_;rw [if_pos hw]
   all_goals (cases iZ d s ((a,b,c),fc,tm)<;>rfl)
  rw [hgo] at hx;have hxk:xs[k]? =some [hiV ((a,b,c),fc,tm)]:=by rw [hx,pY ab,hpl,Nat.sub_self];rfl
  refine dp (round hxk Cq) ?_;rintro e jr ⟨hcase,k1,k2⟩;rcases hcase with ⟨rfl,al9⟩|⟨rfl,hJx⟩
  ·refine ⟨true,rfl,k1,k2,Br.mk (λq=>by cases q) (λ_=> ?_)⟩;have z40:=hz al9;refine ⟨λm i at_ wr=>∃j:Nat,i=j/\j+m=3/\at_=fA s j/\P (k+1) s wr,⟨3,rfl,rfl,0,rfl,rfl,rfl,al9⟩,?_⟩;rintro m us i at_ QY ⟨j,rfl,hjm,rfl,WE⟩;have z2:=hz WE;have haj:fA s j<j\/fA s j=0:=Jz s j;apply Br.mk<;>intro hc
   ·have hc:(j:Int)<3:=by simpa using hc
    have hj3:j=0\/j=1\/j=2:=by omega
    have ha3:fA s j=0\/fA s j=1\/fA s j=2:=by omega
    have hpd:=ext WE (Ext.dr QY);have zd:=lG QY;refine ⟨by omega,by omega,_,_,Hf (rowL hpd) hj3,by omega,by omega,_,_,Hf (rowL hpd) ha3,(Mj (iK s j) (iK s (fA s j)) QY.drew).mono ?_⟩;rintro e Rq ⟨rfl,iV⟩;have ama:=ext hpd iV;have wk:=mz (j:=j);refine ⟨_,rfl,iV.heap ab,iV.heap ab,Br.mk (λq=>⟨m-1,by omega,rfl,rfl,j+1,wk,by omega,?_,ama⟩) (λq=>⟨m-1,by omega,rfl,rfl,j+1,wk,by omega,?_,ama⟩)⟩
    ·show ((j:Nat):Int)=((if Mi (iK s j) (iK s (fA s j))=true then j else fA s j:Nat):Int);rw [if_pos q]
    ·show ((fA s j:Nat):Int)=((if Mi (iK s j) (iK s (fA s j))=true then j else fA s j:Nat):Int);rw [if_neg (by rw [q];decide)]
   ·have hc:¬(j:Int)<3:=by simpa using hc
    have:j=3:=by omega
    subst this;have ha3:=at3 s;have hside:=Zd hro ha3;have hnx:iZ d s ((a,b,c),fc,tm)=if (iK s (fA s 3)).2=0 then none else some (HW s (fA s 3) ((iK s (fA s 3)).1+65536,(iK s (fA s 3)).2),(XO (a,b,c) (if db d (fA s 3)>0 then 2*fA s 3+1 else 2*fA s 3),(if db d (fA s 3)>0 then 2*(fA s 3:Int) else 2*(fA s 3:Int)+1),(iK s (fA s 3)).1*65536 /(iK s (fA s 3)).2)):=rfl;have WH:=λq (h:iZ d s ((a,b,c),fc,tm)=some q)=>Zc hro h
    have hdd:=hd (fA s 3) ab;generalize fA s 3=A at*;refine ⟨by omega,by omega,_,ldB (rowL WE) ha3,Br.mk (λq=> ?_) (λq=> ?_)⟩
    ·have q:(iK s A).2=0:=by simpa using q
     rw [hnx,if_pos q] at hx;have:xs.length=k+1:=by rw [hx];simp [hpl]
     rw [<-this] at WE;exact ⟨⟨_,rfl⟩,.inl (fin WE)⟩
    ·have q:¬(iK s A).2=0:=by simpa using q
     rw [if_neg q] at hnx;rw [hnx] at hx;have WH:=WH _ hnx;obtain ⟨s1,s2,s3,s4⟩:=hside;have s2':0<=(iK s A).1/\(iK s A).1<=20000000:=by omega
     have Oh:0<(iK s A).2/\(iK s A).2<=1048576:=by unfold yx at s1;omega
     have hpd:=ext WE (Ext.dr QY);have zd:=lG QY;refine ⟨by omega,by omega,_,ldA (rowL hpd) ha3,by omega,by omega,_,ldB (rowL hpd) ha3,(Zf _ _ ab Oh QY.drew).mono ?_⟩;rintro e kr ⟨rfl,wQ⟩;have aeq:=ext hpd wQ;have z58:=hz aeq;obtain ⟨p1,p2⟩:=aoY (rowL aeq) ha3 (aj ((iK s A).1+65536));refine ⟨_,_,rfl,wQ.heap ab,wQ.heap ab,by omega,by omega,_,ldA (rowL aeq) ha3,by omega,by omega,⟨rfl,p1⟩,?_,?_,λil e62=> ?_⟩
     ·rw [cV];exact po ab
     ·rw [cV];exact po ab
     obtain ⟨q1,q2⟩:=p2 il e62;rw [aK (n:=(iK s A).1+65536) (by unfold inI;omega)] at q1;have aic:=jl aeq q2 (.inl rfl) q1;have z62:=hz aic;refine ⟨_,_,_,Lo.wv (rowD aic),(dc d A il).mono ?_⟩;rintro e oK ⟨rfl,mS⟩;have aid:=ext aic mS;have z66:=hz aid;have hwide:eO (a,b,c):=by unfold lq rI at hw;obtain ⟨-,FI⟩:=hro;unfold yx at FI;unfold eO;simp only at FI ⊢;omega
     have w1:aj (2*(A:Int))=2*(A:Int):=wI;have w2:aj (2*(A:Int)+1)=((2*A+1:Nat):Int):=by rw [wI];omega
     have w3:aj (2*(A:Int)+0)=((2*A:Nat):Int):=by rw [wI];omega
     have w4:aj (((2*A+1:Nat):Int)-1)=2*(A:Int):=by rw [wI];omega
     have w5:aj (((2*A+1:Nat):Int)-0)=2*(A:Int)+1:=by rw [wI];omega
     rw [w1,w2,w3,w4,w5];have hxx:∀y:List Hi,xs=pre++(((a,b,c),fc,tm)::y).map (λh=> [hiV h])->xs=(pre++ [[hiV ((a,b,c),fc,tm)]])++y.map λh=> [hiV h]:=λy h=>by rw [h];simp
     refine ⟨_,rfl,mS.heap ab,mS.heap ab,Br.mk (λhq=>(iP (a,b,c) hwide oK).mono ?_) (λhq=>(iP (a,b,c) hwide oK).mono ?_)⟩
     ·have hq:db d A>0:=by simpa using hq
      rw [if_pos hq,if_pos hq] at hx WH;rintro e sJ ⟨rfl,mI⟩;have J3:=ext aid mI;have z68:=hz J3;refine ⟨_,_,_,_,_,_,_,_,_,_,_,_,_,_,_,_,_,_,rfl,mI.heap ab,mI.heap ab,⟨by omega,by omega⟩,_,_,_,Sk (a,b,c) (j:=2*A+1) ab,λow e90=> ?_⟩;have hm:=oZ e90;refine ⟨n,by omega,rfl,k+1,_,jl J3 hm (.inr rfl) ((rowL J3).same (hm.same _ (rowL J3).lt ab)),by omega,WH,rfl,pre++ [[hiV ((a,b,c),fc,tm)]],by simp [hpl],hxx _ hx⟩
     ·have hq:¬db d A>0:=by simpa using hq
      rw [if_neg hq,if_neg hq] at hx WH;rintro e sJ ⟨rfl,mI⟩;have J3:=ext aid mI;have z68:=hz J3;refine ⟨_,_,_,_,_,_,_,_,_,_,_,_,_,_,_,_,_,_,rfl,mI.heap ab,mI.heap ab,⟨by omega,by omega⟩,_,_,_,Sk (a,b,c) (j:=2*A) ab,λow e90=> ?_⟩;have hm:=oZ e90;refine ⟨n,by omega,rfl,k+1,_,jl J3 hm (.inr rfl) ((rowL J3).same (hm.same _ (rowL J3).lt ab)),by omega,WH,rfl,pre++ [[hiV ((a,b,c),fc,tm)]],by simp [hpl],hxx _ hx⟩
  ·exact ⟨false,rfl,k1,k2,Br.mk (λ_=>⟨⟨_,rfl⟩,.inr hJx⟩) (λq=>by cases q)⟩
 ·have hgo:goK d c0 r n s ((a,b,c),fc,tm)=[]:=by
   cases n with
   |zero=>rfl
   |succ n=>
    show (if lq c0 (a,b,c) r=true then _ else _)=_;rw [if_neg (by rw [hw];decide)]
  rw [hgo] at hx;have:xs.length=k:=by rw [hx];simp [hpl]
  rw [<-this] at Cq;exact ⟨⟨_,rfl⟩,.inl (fin Cq)⟩
theorem Sq{α:Type}(p:α->Bool):∀(l:List α)(n:Nat)(x:α),l[n]? =some x->(∀y ∈ l.take n,p y=false)->p x=true->l.find? p=some x
 | [],n,x,h,_,_=>by simp at h
 |a::l,0,x,h,_,hp=>by
  have h:a=x:=by simpa using h
  subst h;rw [List.find?_cons_of_pos hp]
 |a::l,n+1,x,h,hn,hp=>by have ha:p a=false:=hn a bB;rw [List.find?_cons_of_neg (by rw [ha];decide)];exact Sq p l n x (by simpa using h) (λy hy=>hn y (by simp [hy])) hp
def l6(r:Int):Int:=min (max r 0) 64
theorem Qx(f d:Ce)(r:Int)(w:World):ah 143 #[dY f,dY d,r] w λe w'=>e=(ajN w)/\Row w' w (dA (eJ f)) eu/\Row w' (w.heap.size+1) (dA (km d)) eu/\Row w' (w.heap.size+2) [(l6 r)] 3/\Ext w w':=by
 apply Ut.vc;intro w0 e0 w1 e1 w2 e2;have x0:=aL e0;have z0:=zA e0;have r0:Row w0 w (dA f) eu:=Row.nw e0;have x1:=aL e1;have z1:=zA e1;have r1:Row w1 w0 (dA d) eu:=Row.nw e1;have x2:=aL e2;have z2:=zA e2;have r2:Row w2 w1 [r] 3:=Row.nw e2;have xd:=Ext.dr w2;have zd:=lG w2;refine (Vm f w2.drew).mono ?_;rintro e w3 ⟨rfl,x3⟩;have z3:=x3.size;refine ⟨_,_,_,rfl,x3.heap ab,x3.heap ab,x3.heap ab,Lo.wv (r2.ext (xd.tr x3)),Lo.wv (r1.ext (x2.tr (xd.tr x3))),(Vn d w3).mono ?_⟩;rintro e w7 ⟨rfl,x7⟩;have z7:=x7.size;have y7:=xd.tr (x3.tr x7);have r27:=r2.ext y7;refine ⟨_,_,_,rfl,x7.heap ab,x7.heap ab,x7.heap ab,Lo.wv r27,λaY Cn=> ?_⟩;have r0':Row aY w (dA (eJ f)) eu:=by rw [Cn];exact Row.set (r0.ext (x1.tr (x2.tr y7))) [_,_,_]
 have r1':Row aY w0 (dA d) eu:=(r1.ext (x2.tr y7)).same (by rw [Cn];exact setRow_other _ _ _ _ ab);have r2':Row aY w1 [r] 3:=r27.same (by rw [Cn];exact setRow_other _ _ _ _ ab);have bC:Ext w aY:=(x0.tr (x1.tr (x2.tr y7))).ae Cn (aB _);refine ⟨Lo.wv r2',λcR Og=> ?_⟩;have s1:Row cR w0 (dA (km d)) eu:=by rw [Og];exact Row.set r1' [_,_,_]
 have s0:=r0'.so Og;have s2:=r2'.so Og;have bN:Ext w cR:=bC.ae Og ab;refine ⟨Lo.wv s2,λbJ Cp=> ?_⟩;have er:(if 64<(if 0>r then 0 else r) then 64 else (if 0>r then 0 else r))=l6 r:=by
  unfold l6
  repeat' split
  all_goals omega
 rw [er] at Cp;have t2:Row bJ w1 [(l6 r)] 3:=s2.st Cp;have t0:=s0.so Cp;have t1:=s1.so Cp;rw [z0] at t1;rw [z1,z0] at t2;exact ⟨by rw [z1,z0],t0,t1,t2,bN.ae Cp ab⟩
abbrev Qy:=Ce × Int × Int × Int
abbrev Sa(h:Qy):Value:=.agg #[h.1.1,h.1.2.1,h.1.2.2,h.2.1,h.2.2.1,h.2.2.2]
def hZ(V:Ce->Int)(f d:Ce)(r:Int):Qy × Bool:=
 match (kZ (eJ f) (km d) (l6 r)).find? (λh=> !lu (V h.1)) with
 |some h=>((h.1,V h.1,h.2.1,h.2.2),true)
 |none=>(((0,0,0),0,0,0),false)
set_option maxHeartbeats 2000000 in
theorem H8{v:Value}{V:Ce->Int}{w:World}(hV:Tl v V w)(hv:j9 v=[])(f d:Ce)(r:Int)(hf:(-1900000000<=(br (eJ f)).1/\(br (eJ f)).1<=1900000000)/\(-1900000000<=(br (eJ f)).2.1/\(br (eJ f)).2.1<=1900000000)/\-1900000000<=(br (eJ f)).2.2/\(br (eJ f)).2.2<=1900000000)
  (bt:∀h ∈ kZ (eJ f) (km d) (l6 r),pn h.1):
  ah 87 #[v,dY f,dY d,r] w λe w'=>e=Value.tuple #[Sa (hZ V f d r).1,.bool (hZ V f d r).2]/\Ext w w':=by
 apply Yd.vc;rw [hv,pU];intro w0 e0 w1 e1 w2 e2 w3 e3 w4 e4;have x0:=aL e0;have z0:=zA e0;have x1:=aL e1;have z1:=zA e1;have x2:=aL e2;have z2:=zA e2;have x3:=aL e3;have z3:=zA e3;have x4:=aL e4;have z4:=zA e4;have BH:=x0.tr (x1.tr (x2.tr (x3.tr x4)));refine (Qx f d r w4).mono ?_;rintro e w5 ⟨rfl,t0,t1,t2,x5⟩;have z5:=x5.size;have l5:=t2.lt;have Nu:=BH.tr x5;have hdd:∀i:Nat,i<3-> -1048576<=db (km d) i/\db (km d) i<=1048576:=λi hi=>by
  have hc:∀n,-1048576<=yH n/\yH n<=1048576:=λn=>by unfold yH;omega
  have:i=0\/i=1\/i=2:=by omega
  rcases this with rfl|rfl|rfl<;>exact hc _
 have hrr:0<=l6 r/\l6 r<=64:=by unfold l6;omega
 have hcast:hZ V f d r=match (kZ (eJ f) (km d) (l6 r)).find? (λh=> !lu (V h.1)) with
  |some h=>((h.1,V h.1,h.2.1,h.2.2),true)
  |none=>(((0,0,0),0,0,0),false):=rfl
 have last:∀{w6 w7:World},Mod (λi=>i=w2.heap.size\/i=w3.heap.size\/w5.heap.size<=i) w5 w6->Rec w5 w6 w7->Ext w w7:=λhm hr=>by
  have hx:=hm.ext Nu λi hi=>by have:=Nu.size;omega
  exact (Mod.nX hr).ext hx λi hi=>by have:=Nu.size;omega
 refine ⟨_,rfl,x5.heap ab,x5.heap ab,x5.heap ab,x5.heap ab,x5.heap ab,trX (eJ f) (km d) (l6 r),λi=>i=w4.heap.size\/i=w4.heap.size+1\/i=w4.heap.size+2,λ_=>False,
  λn F a b c q s t bb w'=>(∀i,¬F i)/\(∀h ∈(kZ (eJ f) (km d) (l6 r)).take n,(!lu (V h.1))=false)/\Mod (λi=>w5.heap.size<=i) w5 w',
  λo F a b c q s t bb w'=>(∀i,¬F i)/\hZ V f d r=(((a,b,c),q,s,t),bb)/\Mod (λi=>i=w2.heap.size\/i=w3.heap.size\/w5.heap.size<=i) w5 w',?_,?_,?_,λn F a b c q s t bb w' h i hi=>(h.1 i hi).elim,λo F a b c q s t bb w' h i hi=>(h.1 i hi).elim,λi hi=> ?_,λAX wT=> ?_,?_,?_,?_⟩
 ·intro x hx;obtain ⟨c,-,rfl⟩:=aZ.1 hx;exact ⟨_,_,_,_,_,_,rfl⟩
 ·rintro n F a b c q s t bb eK dT ⟨h1,h2,h3⟩ kD -;exact ⟨h1,h2,h3.tr ⟨kD.os,kD.tape,kD.output,kD.size,λi hi hn=>kD.block i (Nat.lt_of_not_le hn)⟩ λi hi=> .inl hi⟩
 ·rintro o F a b c q s t bb eK dT ⟨h1,h2,h3⟩ kD -;exact ⟨h1,h2,h3.tr ⟨kD.os,kD.tape,kD.output,kD.size,λi hi hn=>kD.block i (Nat.lt_of_not_le hn)⟩ λi hi=> .inl (.inr (.inr hi))⟩
 ·exact ⟨by omega,id,by omega,by omega,by omega,by omega,by omega,trivial⟩
 ·exact ⟨Qo _ _ _ hf hdd hrr _ AX (t0.same (wT.ext.block _ ab)) (t1.same (wT.ext.block _ ab)) (t2.same (wT.ext.block _ ab)),rfl,rfl,rfl,λi h=>h,λc hc=>by simp at hc,Mod.aD wT.ext⟩
 ·rintro n F us a0 b0 c0 q0 s0 t0' bb a b c q s t pH hx hI kr e58 xh W5;have kJ:Ext pH xh:=(aL e58).ae W5 (aB _);have z59:xh.heap.size=pH.heap.size+1:=by rw [zR W5,zA e58]
  have z56:=hI.2.2.size;refine ⟨kJ,λmR fQ aaT=> ?_⟩;obtain ⟨hF,mF,hM⟩:=aaT;have zr:=fQ.size;obtain ⟨h,hh,hval⟩:∃h:Hi,(kZ (eJ f) (km d) (l6 r))[n]? =some h/\(a,b,c)=h.1/\q=0/\s=h.2.1/\t=h.2.2:=by
   rw [aU] at hx
   cases hg:(kZ (eJ f) (km d) (l6 r))[n]? with
   |none=>rw [hg] at hx;cases hx
   |some h=>
    rw [hg] at hx;simp at hx;obtain ⟨g1,g2,g3,g4,g5,g6⟩:=hx;exact ⟨h,rfl,by rw [<-g1,<-g2,<-g3],g4.symm,g5.symm,g6.symm⟩
  obtain ⟨hc,rfl,rfl,rfl⟩:=hval;have mg:=bg hh;have ael:pn (a,b,c):=by rw [hc];exact bt h mg
  have z57:=hM.size;have ht:(kZ (eJ f) (km d) (l6 r)).take (n+1)=(kZ (eJ f) (km d) (l6 r)).take n++ [h]:=by rw [dD,hh];rfl
  obtain ⟨D,hD1,hD2⟩:=hV;refine dp (hD2 mR (λi hi=> ?_) (a,b,c) ael) ?_
  ·have:=hD1 i hi;have:=Nu.size;exact (hM.same i ab ab).trans (Nu.heap ab)
  rintro e mQ ⟨rfl,iW⟩;have z60:=iW.size;refine ⟨_,rfl,iW.heap ab,iW.heap ab,iW.heap ab,iW.heap ab,iW.heap ab,iW.heap ab,(BC (V (a,b,c)) mQ).mono ?_⟩;rintro e il ⟨rfl,asR⟩;subst asR;have Nv:=hM.trans (Mod.aD iW);refine ⟨_,rfl,rfl,rfl,rfl,rfl,rfl,rfl,Br.mk (λhq=>λsO Wx GL Wy oK e66=> ?_) (λhq=> ?_)⟩
  ·have hq':(!lu (V h.1))=true:=by rw [<-hc];exact hq
   have hfd:=Sq (λh:Hi=> !lu (V h.1)) _ n h hh mF hq';have hcast:hZ V f d r=((h.1,V h.1,h.2.1,h.2.2),true):=by rw [hcast,hfd]
   have m1:=oZ Wx;have m2:=oZ Wy;have m3:=oZ e66;have s1:=m1.size;have s2:=m2.size;have m:Mod (λi=>i=w2.heap.size\/i=w3.heap.size\/i=pH.heap.size) il oK:=((m1.mono λi _ h=> .inr (.inr h)).trans (m2.mono λi _ h=> .inl h)).trans (m3.mono λi _ h=> .inr (.inl h));refine ⟨rfl,λ_=>False,⟨rfl,rfl,rfl,λi h=>h,by rw [hcast,hc],(Nv.mono λi _ h=> .inr (.inr h)).trans (m.mono λi _ h=> ?_)⟩,?_⟩
   ·rcases h with h|h|h
    ·exact .inl h
    ·exact .inr (.inl h)
    ·exact .inr (.inr ab)
   ·have hm:=(Mod.aD (F:=λi=>i=w2.heap.size\/i=w3.heap.size\/i=pH.heap.size) iW).trans m;refine ⟨λi hi=> ?_,hm.size,λi hi hn=>hm.same i hi λq=>hn ?_⟩
    ·rcases hi with h|h
     ·exact h.elim
     ·exact .inl (.inl (.inr h))
    ·rcases q with rfl|rfl|rfl
     ·exact .inl (.inr bB)
     ·exact .inl (.inr bB)
     ·exact .inr (aB _)
  ·have hq':(!lu (V h.1))=false:=by rw [<-hc];exact hq
   refine ⟨λ_=>False,⟨rfl,rfl,rfl,λi h=>h,λx hx=> ?_,Nv⟩,Step.late ⟨λi hi=> ?_,iW.size,λi hi _=>iW.block i hi⟩⟩
   ·rw [ht,di] at hx;rcases hx with hx|hx
    ·exact mF x hx
    ·rw [List.mem_singleton.1 hx];exact hq'
   ·rcases hi with h|h
    ·exact h.elim
    ·exact .inl (.inr h)
 ·rintro F us a b c q s t bb Of ⟨hF,mF,hM⟩ hD rL aek kE amz;have z99:=hM.size;rw [show (trX (eJ f) (km d) (l6 r)).length=(kZ (eJ f) (km d) (l6 r)).length from aN ..,iA] at mF;have hfd:(kZ (eJ f) (km d) (l6 r)).find? (λh=> !lu (V h.1))=none:=List.find?_eq_none.2 λx hx=>by rw [mF x hx];decide
  have hcast:hZ V f d r=(((0,0,0),0,0,0),false):=by rw [hcast,hfd]
  have m1:=oZ aek;have m2:=oZ amz;have s1:=m1.size;have m:=(hM.mono (F':=λi=>i=w2.heap.size\/i=w3.heap.size\/w5.heap.size<=i) λi _ h=> .inr (.inr h)).trans ((m1.mono λi _ h=> .inl h).trans (m2.mono λi _ h=> .inr (.inl h)));refine ⟨?_,λahU fQ=> ?_⟩
  ·rw [<-hD,amz,setRow_other _ _ _ _ ab,aek,setRow_other _ _ _ _ ab]
  ·rw [hcast];exact ⟨rfl,last m fQ⟩
 ·rintro F us a b c q s t bb yU ⟨hF,hcv,hM⟩ hD;refine ⟨hD,λAW fQ=> ?_⟩;rw [hcv];exact ⟨rfl,last hM fQ⟩
variable {R:Ending->World->Prop} {w:World} {a0 a1 a2 a3 a4 a5 a6 a7 a8 a9 aA aq au aS aT aW bM bG bH Cr ak ao aw bz bT bR eW eX eD Cs bq bA bo wL wM uS uT wN wO wP Ct Cu Cv Cw Cx Cy Cz CA CB CC:Int}
theorem P7.vc{a0:Sl}{a1:Sl}(h:
 ∃I0:Nat->Int->Sl->World->Prop,
 (∃n1,I0 n1 (0) a0 w)/\
 ∀(n1:Nat)(wX:Nat->Value)(x3:Int)(s4:Sl)(w5:World),I0 n1 x3 s4 w5->
 Br (decide (x3<((a1.n:Nat):Int)))
 (eo a1.a x3 a1.n/\∃(x7:Int),ld w5 (af a1.a ((x3:Int).toNat*1))=some (.int .i64 x7)/\
 ∃I8:Nat->Int->Sl->World->Prop,
 (∃n9,I8 n9 (5) s4 w5)/\
 ∀(n9:Nat)(Wv:Nat->Value)(bC:Int)(jJ:Sl)(bJ:World),I8 n9 bC jJ bJ->
 Br (bC>=0)
 (aP (ngC (aj (8*bC))) (Aw bJ #[.int .u8 (eY ((x7:Int).fdiv (2 ^(min ((aj (8*bC)):Int).toNat 64))))] 5 λeA=>
 ba 1 1 eA jJ 1 [.int .u8 (eY ((x7:Int).fdiv (2 ^(min ((aj (8*bC)):Int).toNat 64))))]/\∀(W7:Sl)(cL:World),aV 5 1 eA jJ 1 [.int .u8 (eY ((x7:Int).fdiv (2 ^(min ((aj (8*bC)):Int).toNat 64))))] W7 cL->Kp bJ eA cL/\
 ∃FO,FO<n9/\I8 FO ((aj (bC-1))) W7 cL))
 (∃n6,n6<n1/\I0 n6 ((aj (x3+1))) jJ bJ))
 (R s4 w5)):ah 81 #[a0,a1] w R:=
 cq ⟨[(5,⟨[(7,.int .i64),(0,.slice)],[],[]⟩),(2,⟨[(10,.int .i64),(0,.slice)],[],[]⟩)],[],[]⟩ Tryz.func81 h
theorem tN.vc{a0:Addr}(h:
 ah 12 #[a0] w (λe w0=>∃(s1:Sl),e=s1/\
 ∃(p2:Option Addr),ld w0 (af (some a0) 0)=some (.pointer p2)/\
 ah 68 #[p2] w0 (λe w3=>∃(x4:Int),e=x4/\
 Aw w3 #[x4] 3 λw5=>
 ah 81 #[.slice none 0 0,.slice (some ⟨w3,0,none⟩) 1 1] w5 (λe w6=>∃(s7:Sl),e=s7/\
 Aw w6 #[.int .u8 (eY ((s1.n:Nat):Int))] 5 λw8=>
 ba 1 1 w8 s7 1 [.int .u8 (eY ((s1.n:Nat):Int))]/\∀(s9:Sl)(bO:World),aV 5 1 w8 s7 1 [.int .u8 (eY ((s1.n:Nat):Int))] s9 bO->Kp w6 w8 bO/\
 ∃I11:Nat->Int->Sl->World->Prop,
 (∃JW,aO [.int .u8 (eY ((s1.n:Nat):Int))]/\I11 JW (0) s9 bO)/\
 ∀(JW:Nat)(as8:Nat->Value)(bX:Int)(lj:Sl)(cJ:World),I11 JW bX lj cJ->
 Br (decide (bX<((s1.n:Nat):Int)))
 (eo s1.a bX s1.n/\∃(cp:Int),ld cJ (af s1.a ((bX:Int).toNat*1))=some (.int .i64 cp)/\
 (0:Int)<=cp/\cp<((16:Nat):Int)/\∃(lE:Option Addr),ld cJ (af (af (some a0) 1) ((cp:Int).toNat*1))=some (.pointer lE)/\
 ∃J20:Sl->World->Prop,
 (aP (dv lE) (aP (dv lE) (aP (dv (af lE 0)) (aP (dv (af (af lE 0) 0)) (∃(dh:Int),ld cJ.drew (af (af (af lE 0) 0) 0)=some (.int .i64 dh)/\
 aP (dv lE) (aP (dv lE) (aP (dv (af lE 0)) (aP (dv (af (af lE 0) 0)) (∃(dN:Int),ld cJ.drew (af (af (af lE 0) 0) 1)=some (.int .i64 dN)/\
 aP (dv lE) (aP (dv lE) (aP (dv (af lE 0)) (aP (dv (af (af lE 0) 0)) (∃(dz:Int),ld cJ.drew (af (af (af lE 0) 0) 2)=some (.int .i64 dz)/\
 aP (dv lE) (aP (dv lE) (aP (dv (af lE 0)) (aP (dv (af (af lE 0) 3)) (∃(eE:Int),ld cJ.drew (af (af (af lE 0) 3) 0)=some (.int .i64 eE)/\
 aP (dv lE) (aP (dv lE) (aP (dv (af lE 0)) (aP (dv (af (af lE 0) 3)) (∃(dQ:Int),ld cJ.drew (af (af (af lE 0) 3) 1)=some (.int .i64 dQ)/\
 aP (dv lE) (aP (dv lE) (aP (dv (af lE 0)) (aP (dv (af (af lE 0) 3)) (∃(fy:Int),ld cJ.drew (af (af (af lE 0) 3) 2)=some (.int .i64 fy)/\
 aP (dv lE) (aP (dv lE) (aP (dv (af lE 0)) (∃(fE:Int),ld cJ.drew (af (af lE 0) 6)=some (.int .i64 fE)/\
 aP (dv lE) (aP (dv lE) (aP (dv (af lE 0)) (∃(g7:Int),ld cJ.drew (af (af lE 0) 7)=some (.int .i64 g7)/\
 (Aw cJ.drew #[.int .u8 (eY cp)] 5 λdR=>
 (ba 1 1 dR lj 1 [.int .u8 (eY cp)]/\∀(sS:Sl)(fJ:World),aV 5 1 dR lj 1 [.int .u8 (eY cp)] sS fJ->Kp w6 dR fJ/\fJ.heap[cJ.drew.heap.size]? =dR.heap[cJ.drew.heap.size]?/\
 ag fJ (af (af lE 0) 7) 0 [g7]/\ag fJ (af (af lE 0) 6) 0 [fE]/\ag fJ (af (af (af lE 0) 3) 2) 0 [fy]/\ag fJ (af (af (af lE 0) 3) 1) 0 [dQ]/\ag fJ (af (af (af lE 0) 3) 0) 0 [eE]/\ag fJ (af (af (af lE 0) 0) 2) 0 [dz]/\ag fJ (af (af (af lE 0) 0) 1) 0 [dN]/\ag fJ (af (af (af lE 0) 0) 0) 0 [dh]/\Aw fJ #[dh,dN,dz,eE,dQ,fy,fE,g7] 3 λlv=>
 ah 81 #[sS,.slice (some ⟨fJ,0,none⟩) 8 8] lv (Rs λs34 eM=>Kp w6 lv eM/\eM.heap[cJ.drew.heap.size]? =lv.heap[cJ.drew.heap.size]?/\
 aO [.int .u8 (eY ((s1.n:Nat):Int))]/\J20 s34 eM))/\(Aw dR #[dh,dN,dz,eE,dQ,fy,fE,g7] 3 λjK=>
 ba 1 1 jK lj 1 [.int .u8 (eY cp)]/\∀(s36:Sl)(ie:World),aV 5 1 jK lj 1 [.int .u8 (eY cp)] s36 ie->Kp w6 jK ie/\ie.heap[cJ.drew.heap.size]? =jK.heap[cJ.drew.heap.size]?/\Kp dR jK ie/\
 ah 81 #[s36,.slice (some ⟨dR,0,none⟩) 8 8] ie (Rs λS1 lf=>Kp w6 ie lf/\lf.heap[cJ.drew.heap.size]? =ie.heap[cJ.drew.heap.size]?/\
 aO [.int .u8 (eY ((s1.n:Nat):Int))]/\J20 S1 lf)))/\(Aw cJ.drew #[dh,dN,dz,eE,dQ,fy,fE,g7] 3 λjr=>
 Aw jr #[.int .u8 (eY cp)] 5 λgO=>
 ba 1 1 gO lj 1 [.int .u8 (eY cp)]/\∀(s42:Sl)(jd:World),aV 5 1 gO lj 1 [.int .u8 (eY cp)] s42 jd->Kp w6 gO jd/\jd.heap[cJ.drew.heap.size]? =gO.heap[cJ.drew.heap.size]?/\Kp jr gO jd/\
 ah 81 #[s42,.slice (some ⟨cJ.drew.heap.size,0,none⟩) 8 8] jd (Rs λs45 ko=>K2 w6 jr jd ko (
 aO [.int .u8 (eY ((s1.n:Nat):Int))]/\J20 s45 ko))))))))))))))))))))))))))))))))))/\
 ∀amg:Nat->Value,∀(C3:Sl)(fY:World),J20 C3 fY->
 aP (dv lE) (aP (dv lE) (aP (dv (af lE 0)) (∃(b49:Bool),ld fY (af (af lE 0) 8)=some (.bool b49)/\
 Br b49
 (Aw fY #[.int .u8 1] 5 λmi=>
 ba 1 1 mi C3 1 [.int .u8 1]/\∀(s51:Sl)(Kd:World),aV 5 1 mi C3 1 [.int .u8 1] s51 Kd->K2 w6 fY mi Kd (
 ∃GW,GW<JW/\aO [.int .u8 (eY ((s1.n:Nat):Int))]/\I11 GW ((aj (bX+1))) s51 Kd))
 (Aw fY #[.int .u8 0] 5 λRq=>
 ba 1 1 Rq C3 1 [.int .u8 0]/\∀(C1:Sl)(yQ:World),aV 5 1 Rq C3 1 [.int .u8 0] C1 yQ->K2 w6 fY Rq yQ (
 ∃GW,GW<JW/\aO [.int .u8 (eY ((s1.n:Nat):Int))]/\I11 GW ((aj (bX+1))) C1 yQ))))))
 (∃(p56:Option Addr),ld cJ (af (some a0) 0)=some (.pointer p56)/\
 ah 82 #[p56] cJ (Rs λmu mR=>Kp w6 cJ mR/\
 (0:Int)<=(if 2000<((mu.n:Nat):Int) then 2000 else ((mu.n:Nat):Int))/\(if 2000<((mu.n:Nat):Int) then 2000 else ((mu.n:Nat):Int))<=((mu.c:Nat):Int)/\Aw mR #[.int .u8 (eY (((((((if 2000<((mu.n:Nat):Int) then 2000 else ((mu.n:Nat):Int)):Int).toNat-0):Nat):Int):Int).fdiv (2 ^(min (8:Int).toNat 64)))),.int .u8 (eY (((((if 2000<((mu.n:Nat):Int) then 2000 else ((mu.n:Nat):Int)):Int).toNat-0):Nat):Int))] 5 λxh=>
 ba 1 1 xh lj 2 [.int .u8 (eY (((((((if 2000<((mu.n:Nat):Int) then 2000 else ((mu.n:Nat):Int)):Int).toNat-0):Nat):Int):Int).fdiv (2 ^(min (8:Int).toNat 64)))),.int .u8 (eY (((((if 2000<((mu.n:Nat):Int) then 2000 else ((mu.n:Nat):Int)):Int).toNat-0):Nat):Int))]/\∀(RB:Sl)(oD:World),aV 5 1 xh lj 2 [.int .u8 (eY (((((((if 2000<((mu.n:Nat):Int) then 2000 else ((mu.n:Nat):Int)):Int).toNat-0):Nat):Int):Int).fdiv (2 ^(min (8:Int).toNat 64)))),.int .u8 (eY (((((if 2000<((mu.n:Nat):Int) then 2000 else ((mu.n:Nat):Int)):Int).toNat-0):Nat):Int))] RB oD->K2 w6 mR xh oD (
 ∃I62:Nat->Int->Sl->World->Prop,
 (∃n63,aO [.int .u8 (eY ((s1.n:Nat):Int))]/\aO [.int .u8 (eY (((((((if 2000<((mu.n:Nat):Int) then 2000 else ((mu.n:Nat):Int)):Int).toNat-0):Nat):Int):Int).fdiv (2 ^(min (8:Int).toNat 64)))),.int .u8 (eY (((((if 2000<((mu.n:Nat):Int) then 2000 else ((mu.n:Nat):Int)):Int).toNat-0):Nat):Int))]/\I62 n63 (0) RB oD)/\
 ∀(n63:Nat)(apQ:Nat->Value)(pj:Int)(s66:Sl)(kx:World),I62 n63 pj s66 kx->
 Br (decide (pj<(((((if 2000<((mu.n:Nat):Int) then 2000 else ((mu.n:Nat):Int)):Int).toNat-0):Nat):Int)))
 (eo (aJ mu.a (0) (mu.c) 4) pj (((if 2000<((mu.n:Nat):Int) then 2000 else ((mu.n:Nat):Int)):Int).toNat-0)/\∃(oM nG mj ml:Int),ag kx (af (aJ mu.a (0) (mu.c) 4) ((pj:Int).toNat*4)) 0 [oM,nG,mj,ml]/\
 Aw kx #[aa,aa,aa,aa] 157 λM8=>
 Sw M8 kx #[oM,nG,mj,ml] λlD=>
 Aw lD #[oM,nG,mj,ml] 3 λqD=>
 ah 81 #[s66,.slice (some ⟨lD,0,none⟩) 4 4] qD (Rs λs77 jt=>K3 w6 mR kx qD jt (
 ∃n68,n68<n63/\aO [.int .u8 (eY ((s1.n:Nat):Int))]/\aO [.int .u8 (eY (((((((if 2000<((mu.n:Nat):Int) then 2000 else ((mu.n:Nat):Int)):Int).toNat-0):Nat):Int):Int).fdiv (2 ^(min (8:Int).toNat 64)))),.int .u8 (eY (((((if 2000<((mu.n:Nat):Int) then 2000 else ((mu.n:Nat):Int)):Int).toNat-0):Nat):Int))]/\I62 n68 ((aj (pj+1))) s77 jt)))
 (R s66 kx)))))))):ah 26 #[a0] w R:=
 cq ⟨[(16,⟨[(124,.int .i64),(4,.slice)],[],[]⟩),(4,⟨[(27,.int .i64),(4,.slice)],[],[]⟩)],[(8,⟨[(4,.slice)],[],[]⟩)],[]⟩ Tryz.func26 h
theorem wF.vc{a0:Addr}(h:
 ∃(p0:Option Addr),ld w (af (some a0) 0)=some (.pointer p0)/\
 ah 18 #[p0] w (λe w1=>∃(p2:Option Addr),e=p2/\
 ah 19 #[p2] w1 (λe w3=>∃(p4:Option Addr),e=p4/\
 ah 26 #[a0] w3 (λe w5=>∃(s6:Sl),e=s6/\
 ah 61 #[p4,s6] w5 (λe w7=>∃(x8:Int),e=x8/\
 R x8 w7))))):ah 35 #[a0] w R:=
 cq bV Tryz.func35 h
theorem QB.vc(h:
 Aw w #[aA,aq,au] 41 λw0=>
 Aw w0 #[aa,aa,aa] 41 λw1=>
 ah 10 #[aA,(10:Int)] w1.drew (Ri λx3 w2=>K2 w w0 w1.drew w2 (
 ag w2 (some ⟨w,2,none⟩) 0 [au]/\ag w2 (some ⟨w,1,none⟩) 0 [aq]/\ah 10 #[aq,(14:Int)] w2 (Ri λx5 w4=>K2 w w0 w2 w4 (
 ag w4 (some ⟨w,2,none⟩) 0 [au]/\ah 10 #[au,(10:Int)] w4 (Ri λx7 w6=>K2 w w0 w4 w6 (
 Sw w6 w0 #[(aj (3+x3)),(aj (6+x5)),(aj (3+x7))] λw8=>
 R (Value.agg #[(aj (3+x3)),(aj (6+x5)),(aj (3+x7))]) w8))))))):ah 28 #[.agg #[aA,aq,au]] w R:=
 cq bV Tryz.func28 h
theorem Vp.vc(h:
 Br (a0>140737488355328)
 (R (140737488355328:Int) w)
 (Br (a0<(-140737488355328))
 (R (Value.int .i64 (-140737488355328)) w)
 (R a0 w))):ah 141 #[a0] w R:=
 cq bV Tryz.func141 h
theorem Mo.vc(h:
 ah 141 #[a0] w (λe w0=>∃(x1:Int),e=x1/\
 ah 86 #[x1,(65536:Int)] w0 (λe w2=>∃(x3:Int),e=x3/\
 R x3 w2))):ah 84 #[a0] w R:=
 cq bV Tryz.func84 h
theorem Zk.vc(h:
 Aw w #[aA,aq,au] 28 λw0=>
 Aw w0 #[aa,aa,aa] 41 λw1=>
 ah 84 #[aA] w1.drew (Ri λx3 w2=>K2 w w0 w1.drew w2 (
 ag w2 (some ⟨w,2,none⟩) 0 [au]/\ag w2 (some ⟨w,1,none⟩) 0 [aq]/\ah 84 #[aq] w2 (Ri λx5 w4=>K2 w w0 w2 w4 (
 ag w4 (some ⟨w,2,none⟩) 0 [au]/\ah 84 #[au] w4 (Ri λx7 w6=>K2 w w0 w4 w6 (
 Sw w6 w0 #[x3,x5,x7] λw8=>
 R (Value.agg #[x3,x5,x7]) w8))))))):ah 30 #[.agg #[aA,aq,au]] w R:=
 cq bV Tryz.func30 h
theorem Vq.vc(h:
 ah 141 #[a0] w (λe w0=>∃(x1:Int),e=x1/\
 ah 141 #[a1] w0 (λe w2=>∃(x3:Int),e=x3/\
 ah 141 #[(aj (x1+x3))] w2 (λe w4=>∃(x5:Int),e=x5/\
 R x5 w4)))):ah 142 #[a0,a1] w R:=
 cq bV Tryz.func142 h
theorem Vt.vc(h:
 Aw w #[aA,aq,au] 28 λw0=>
 Aw w0 #[ak,ao,aw] 28 λw1=>
 Aw w1 #[aa,aa,aa] 28 λw2=>
 ah 142 #[aA,ak] w2.drew (Ri λx4 w3=>K3 w w0 w1 w2.drew w3 (
 ag w3 (some ⟨w0,2,none⟩) 0 [aw]/\ag w3 (some ⟨w,2,none⟩) 0 [au]/\ag w3 (some ⟨w0,1,none⟩) 0 [ao]/\ag w3 (some ⟨w,1,none⟩) 0 [aq]/\ah 142 #[aq,ao] w3 (Ri λx6 w5=>K3 w w0 w1 w3 w5 (
 ag w5 (some ⟨w0,2,none⟩) 0 [aw]/\ag w5 (some ⟨w,2,none⟩) 0 [au]/\ah 142 #[au,aw] w5 (Ri λx8 w7=>K3 w w0 w1 w5 w7 (
 Sw w7 w1 #[x4,x6,x8] λw9=>
 R (Value.agg #[x4,x6,x8]) w9))))))):ah 85 #[.agg #[aA,aq,au],.agg #[ak,ao,aw]] w R:=
 cq bV Tryz.func85 h
theorem Vs.vc(h:
 ah 141 #[a0] w (λe w0=>∃(x1:Int),e=x1/\
 ah 141 #[a1] w0 (λe w2=>∃(x3:Int),e=x3/\
 ah 141 #[(aj (x1-x3))] w2 (λe w4=>∃(x5:Int),e=x5/\
 R x5 w4)))):ah 181 #[a0,a1] w R:=
 cq bV Tryz.func181 h
theorem Qz.vc(h:
 Aw w #[aA,aq,au] 28 λw0=>
 Br (a1==0)
 (R aA w0)
 (Br (a1==1)
 (R aq w0)
 (Br (a1==2)
 (R au w0)
 (R (0:Int) w0)))):ah 180 #[.agg #[aA,aq,au],a1] w R:=
 cq bV Tryz.func180 h
theorem Gw.vc(h:
 Aw w #[aA,aq,au,aS,aT,aW] 107 λw0=>
 Aw w0 #[ak,ao,aw,bz,bT,bR] 107 λw1=>
 Br (aA<bz)
 (Br (aq<bT)
 (Br (au<bR)
 (Br (ak<aS)
 (Br (ao<aT)
 (R (Value.bool (decide (aw<aW))) w1)
 (R false w1))
 (R false w1))
 (Br (ak<aS)
 (Br (ao<aT)
 (R false w1)
 (R false w1))
 (R false w1)))
 (Br (au<bR)
 (Br (ak<aS)
 (R false w1)
 (R false w1))
 (Br (ak<aS)
 (R false w1)
 (R false w1))))
 (Br (aq<bT)
 (Br (au<bR)
 (R false w1)
 (R false w1))
 (Br (au<bR)
 (R false w1)
 (R false w1)))):ah 179 #[.agg #[aA,aq,au,aS,aT,aW],.agg #[ak,ao,aw,bz,bT,bR]] w R:=
 cq bV Tryz.func179 h
theorem Mq.vc(h:
 Aw w #[aA,aq,au] 28 λw0=>
 Aw w0 #[aa,aa,aa,aa,aa,aa] 107 λw1=>
 ah 181 #[aA,(aj (Int.tdiv (if 0>a1 then 0 else a1) 2))] w1.drew (Ri λx3 w2=>K2 w w0 w1.drew w2 (
 ag w2 (some ⟨w,2,none⟩) 0 [au]/\ag w2 (some ⟨w,1,none⟩) 0 [aq]/\ag w2 w 0 [aA]/\ag w2 (some ⟨w,2,none⟩) 0 [au]/\ag w2 (some ⟨w,1,none⟩) 0 [aq]/\ah 141 #[aq] w2 (Ri λx5 w4=>K2 w w0 w2 w4 (
 ag w4 (some ⟨w,2,none⟩) 0 [au]/\ag w4 (some ⟨w,1,none⟩) 0 [aq]/\ag w4 w 0 [aA]/\ag w4 (some ⟨w,2,none⟩) 0 [au]/\ah 181 #[au,(aj (Int.tdiv (if 0>a1 then 0 else a1) 2))] w4 (Ri λx7 w6=>K2 w w0 w4 w6 (
 ag w6 (some ⟨w,2,none⟩) 0 [au]/\ag w6 (some ⟨w,1,none⟩) 0 [aq]/\ag w6 w 0 [aA]/\(ah 142 #[aA,(aj (Int.tdiv (if 0>a1 then 0 else a1) 2))] w6 (Ri λx9 w8=>K2 w w0 w6 w8 (
 ag w8 (some ⟨w,2,none⟩) 0 [au]/\ag w8 (some ⟨w,1,none⟩) 0 [aq]/\ah 142 #[aq,.int .i64 (if 0>a2 then 0 else a2)] w8 (Ri λbC bO=>K2 w w0 w8 bO (
 ag bO (some ⟨w,2,none⟩) 0 [au]/\ah 142 #[au,(aj (Int.tdiv (if 0>a1 then 0 else a1) 2))] bO (Ri λcm cR=>K2 w w0 bO cR (
 Sw cR w0 #[x3,x5,x7,x9,bC,cm] λbP=>
 R (Value.agg #[x3,x5,x7,x9,bC,cm]) bP)))))))/\(ah 142 #[aA,(aj (Int.tdiv (if 0>a1 then 0 else a1) 2))] w6 (Ri λcD eA=>K2 w w0 w6 eA (
 ag eA (some ⟨w,2,none⟩) 0 [au]/\ag eA (some ⟨w,1,none⟩) 0 [aq]/\(ah 142 #[aq,.int .i64 (if 0>a2 then 0 else a2)] eA (Ri λcp cL=>K2 w w0 eA cL (
 ag cL (some ⟨w,2,none⟩) 0 [au]/\ah 142 #[au,(aj (Int.tdiv (if 0>a1 then 0 else a1) 2))] cL (Ri λcW fP=>K2 w w0 cL fP (
 Sw fP w0 #[x3,x5,x7,cD,cp,cW] λeK=>
 R (Value.agg #[x3,x5,x7,cD,cp,cW]) eK)))))/\(ah 142 #[aq,.int .i64 (if 0>a2 then 0 else a2)] eA (Ri λdz dT=>K2 w w0 eA dT (
 ag dT (some ⟨w,2,none⟩) 0 [au]/\(ah 142 #[au,(aj (Int.tdiv (if 0>a1 then 0 else a1) 2))] dT (Ri λdQ fZ=>K2 w w0 dT fZ (
 Sw fZ w0 #[x3,x5,x7,cD,dz,dQ] λfi=>
 R (Value.agg #[x3,x5,x7,cD,dz,dQ]) fi)))/\(ah 142 #[au,(aj (Int.tdiv (if 0>a1 then 0 else a1) 2))] dT (Ri λg7 eH=>K2 w w0 dT eH (
 (Sw eH w0 #[x3,x5,x7,cD,dz,g7] λdR=>
 R (Value.agg #[x3,x5,x7,cD,dz,g7]) dR)/\(Sw eH w0 #[x3,x5,x7,cD,dz,g7] λfu=>
 R (Value.agg #[x3,x5,x7,cD,dz,g7]) fu))))))))))))))))):ah 128 #[.agg #[aA,aq,au],a1,a2] w R:=
 cq bV Tryz.func128 h
theorem Vu.vc{bH:Bool}(h:
 Aw w #[aA,aq,au,aS,aT,aW,bM,bG,bH] 75 λw0=>
 Aw w0 #[aa,aa,aa] 28 λw1=>
 ah 86 #[(aj (bG*4)),(5:Int)] w1.drew (Ri λx3 w2=>K2 w w0 w1.drew w2 (
 ag w2 (some ⟨w,7,none⟩) 0 [bG]/\ag w2 w 0 [aA,aq,au]/\ah 85 #[.agg #[aA,aq,au],.agg #[aa,x3,aa]] w2 (iC λx5 x6 x7 w4=>K2 w w0 w2 w4 (
 ag w4 (some ⟨w,7,none⟩) 0 [bG]/\Sw w4 w0 #[x5,x6,x7] λw8=>
 R (Value.agg #[x5,x6,x7]) w8))))):ah 31 #[.agg #[aA,aq,au,aS,aT,aW,bM,bG,bH]] w R:=
 cq bV Tryz.func31 h
theorem Vv.vc{bH:Bool}(h:
 Aw w #[aA,aq,au,aS,aT,aW,bM,bG,bH] 75 λw0=>
 Aw w0 #[aa,aa,aa,aa,aa,aa] 107 λw1=>
 ah 128 #[.agg #[aA,aq,au],bM,bG] w1 (vG λx3 x4 x5 x6 x7 x8 w2=>K2 w w0 w1 w2 (
 Sw w2 w0 #[x3,x4,x5,x6,x7,x8] λw9=>
 R (Value.agg #[x3,x4,x5,x6,x7,x8]) w9))):ah 70 #[.agg #[aA,aq,au,aS,aT,aW,bM,bG,bH]] w R:=
 cq bV Tryz.func70 h
theorem Jk.vc(h:
 Aw w #[aA,aq,au] 28 λw0=>
 ∃I1:Nat->Int->World->Prop,
 (∃n2,aO [aA,aq,au]/\I1 n2 (0) w0)/\
 ∀(n2:Nat)(us3:Nat->Value)(x4:Int)(w5:World),I1 n2 x4 w5->
 Br (x4<3)
 (ah 180 #[.agg #[aA,aq,au],x4] w5 (Ri λx8 w7=>Kp w w5 w7/\
 Br (decide (x8<(aj (0-a1))))
 (R false w7)
 (Br (x8>a1)
 (R false w7)
 (∃n6,n6<n2/\aO [aA,aq,au]/\I1 n6 ((aj (x4+1))) w7))))
 (R true w5)):ah 157 #[.agg #[aA,aq,au],a1] w R:=
 cq ⟨[(2,⟨[(5,.int .i64)],[],[]⟩)],[],[]⟩ Tryz.func157 h
theorem UY.vc{bH:Bool}(h:
 Aw w #[aA,aq,au,aS,aT,aW,bM,bG,bH] 75 λw0=>
 ah 157 #[.agg #[aA,aq,au],(70368744177664:Int)] w0 (Rb λb2 w1=>Kp w w0 w1/\
 ah 157 #[.agg #[aS,aT,aW],(262144:Int)] w1 (Rb λb4 w3=>Kp w w1 w3/\
 Br b2
 (Br b4
 (Br (bM>=2)
 (Br (bM<=131072)
 (Br (bG>=1)
 (R (Value.bool (decide (bG<=262144))) w3)
 (R false w3))
 (R false w3))
 (R false w3))
 (R false w3))
 (R false w3)))):ah 106 #[.agg #[aA,aq,au,aS,aT,aW,bM,bG,bH]] w R:=
 cq bV Tryz.func106 h
theorem VP.vc(h:
 Aw w #[aA,aq,au] 41 λw0=>
 Aw w0 #[aa,aa,aa] 41 λw1=>
 Sw w1 w0 #[.int .i64 (if 2147483648<(if (-2147483648)>aA then (-2147483648) else aA) then 2147483648 else (if (-2147483648)>aA then (-2147483648) else aA)),.int .i64 (if 2147483648<(if (-2147483648)>aq then (-2147483648) else aq) then 2147483648 else (if (-2147483648)>aq then (-2147483648) else aq)),.int .i64 (if 2147483648<(if (-2147483648)>au then (-2147483648) else au) then 2147483648 else (if (-2147483648)>au then (-2147483648) else au))] λw2=>
 R (Value.agg #[.int .i64 (if 2147483648<(if (-2147483648)>aA then (-2147483648) else aA) then 2147483648 else (if (-2147483648)>aA then (-2147483648) else aA)),.int .i64 (if 2147483648<(if (-2147483648)>aq then (-2147483648) else aq) then 2147483648 else (if (-2147483648)>aq then (-2147483648) else aq)),.int .i64 (if 2147483648<(if (-2147483648)>au then (-2147483648) else au) then 2147483648 else (if (-2147483648)>au then (-2147483648) else au))]) w2):ah 160 #[.agg #[aA,aq,au]] w R:=
 cq bV Tryz.func160 h
theorem QQ.vc(h:
 Aw w #[aA,aq,au] 41 λw0=>
 Aw w0 #[aa,aa,aa,aa,aa,aa,aa,aa,aa,aa,aa,aa,aa,aa,aa,aa,aa,aa] 186 λw1=>
 Aw w1 #[aa,aa,aa,aa,aa,aa,aa,aa,aa,aa,aa,aa,aa,aa,aa,aa,aa,aa] 186 λw2=>
 ∃I3:Nat->Int->World->Prop,
 (∃n4,aO [aA,aq,au]/\I3 n4 (0) w2)/\
 ∀(n4:Nat)(us5:Nat->Value)(x6:Int)(w7:World),I3 n4 x6 w7->
 Br (x6<6)
 (ah 160 #[.agg #[aA,aq,au]] w7 (iC λbh bC bN w9=>Kp w w7 w9/\
 Aw w9 #[aa,aa,aa] 41 λbJ=>
 Sw bJ w9 #[bh,bC,bN] λbP=>
 Br (((aj (Int.tdiv x6 2)):Int)==0)
 (Sw bP w9 #[(aj (bh+(aj ((aj (2*(Int.tmod x6 2)))-1)))),bC,bN] λeA=>
 Br (((aj (Int.tdiv x6 2)):Int)==1)
 (Sw eA w9 #[(aj (bh+(aj ((aj (2*(Int.tmod x6 2)))-1)))),(aj (bC+(aj ((aj (2*(Int.tmod x6 2)))-1)))),bN] λcJ=>
 Br (((aj (Int.tdiv x6 2)):Int)==2)
 (Sw cJ w9 #[(aj (bh+(aj ((aj (2*(Int.tmod x6 2)))-1)))),(aj (bC+(aj ((aj (2*(Int.tmod x6 2)))-1)))),(aj (bN+(aj ((aj (2*(Int.tmod x6 2)))-1))))] λcL=>
 ah 160 #[.agg #[(aj (bh+(aj ((aj (2*(Int.tmod x6 2)))-1)))),(aj (bC+(aj ((aj (2*(Int.tmod x6 2)))-1)))),(aj (bN+(aj ((aj (2*(Int.tmod x6 2)))-1))))]] cL (iC λcn cW dh dG=>K2 w w9 cL dG (
 (0:Int)<=x6/\x6<((6:Nat):Int)/\(true=true/\Wr dG (af (some ⟨w1,0,none⟩) ((x6:Int).toNat*3)) 3)/\bD (af (some ⟨w1,0,none⟩) ((x6:Int).toNat*3))≠some w.heap.size/\bD (af (some ⟨w1,0,none⟩) ((x6:Int).toNat*3))≠some w9.heap.size/\(∀dT,dT=aH dG (af (some ⟨w1,0,none⟩) ((x6:Int).toNat*3)) [cn,cW,dh]->
 ∃n8,n8<n4/\aO [aA,aq,au]/\I3 n8 ((aj (x6+1))) dT))))
 (ah 160 #[.agg #[(aj (bh+(aj ((aj (2*(Int.tmod x6 2)))-1)))),(aj (bC+(aj ((aj (2*(Int.tmod x6 2)))-1)))),bN]] cJ (iC λeE dQ fy eh=>K2 w w9 cJ eh (
 (0:Int)<=x6/\x6<((6:Nat):Int)/\(true=true/\Wr eh (af (some ⟨w1,0,none⟩) ((x6:Int).toNat*3)) 3)/\bD (af (some ⟨w1,0,none⟩) ((x6:Int).toNat*3))≠some w.heap.size/\bD (af (some ⟨w1,0,none⟩) ((x6:Int).toNat*3))≠some w9.heap.size/\(∀eH,eH=aH eh (af (some ⟨w1,0,none⟩) ((x6:Int).toNat*3)) [eE,dQ,fy]->
 ∃n8,n8<n4/\aO [aA,aq,au]/\I3 n8 ((aj (x6+1))) eH)))))
 (Br (((aj (Int.tdiv x6 2)):Int)==2)
 (Sw eA w9 #[(aj (bh+(aj ((aj (2*(Int.tmod x6 2)))-1)))),bC,(aj (bN+(aj ((aj (2*(Int.tmod x6 2)))-1))))] λgN=>
 ah 160 #[.agg #[(aj (bh+(aj ((aj (2*(Int.tmod x6 2)))-1)))),bC,(aj (bN+(aj ((aj (2*(Int.tmod x6 2)))-1))))]] gN (iC λjD ic ig dR=>K2 w w9 gN dR (
 (0:Int)<=x6/\x6<((6:Nat):Int)/\(true=true/\Wr dR (af (some ⟨w1,0,none⟩) ((x6:Int).toNat*3)) 3)/\bD (af (some ⟨w1,0,none⟩) ((x6:Int).toNat*3))≠some w.heap.size/\bD (af (some ⟨w1,0,none⟩) ((x6:Int).toNat*3))≠some w9.heap.size/\(∀eM,eM=aH dR (af (some ⟨w1,0,none⟩) ((x6:Int).toNat*3)) [jD,ic,ig]->
 ∃n8,n8<n4/\aO [aA,aq,au]/\I3 n8 ((aj (x6+1))) eM))))
 (ah 160 #[.agg #[(aj (bh+(aj ((aj (2*(Int.tmod x6 2)))-1)))),bC,bN]] eA (iC λkv nk fB jc=>K2 w w9 eA jc (
 (0:Int)<=x6/\x6<((6:Nat):Int)/\(true=true/\Wr jc (af (some ⟨w1,0,none⟩) ((x6:Int).toNat*3)) 3)/\bD (af (some ⟨w1,0,none⟩) ((x6:Int).toNat*3))≠some w.heap.size/\bD (af (some ⟨w1,0,none⟩) ((x6:Int).toNat*3))≠some w9.heap.size/\(∀lf,lf=aH jc (af (some ⟨w1,0,none⟩) ((x6:Int).toNat*3)) [kv,nk,fB]->
 ∃n8,n8<n4/\aO [aA,aq,au]/\I3 n8 ((aj (x6+1))) lf))))))
 (Br (((aj (Int.tdiv x6 2)):Int)==1)
 (Sw bP w9 #[bh,(aj (bC+(aj ((aj (2*(Int.tmod x6 2)))-1)))),bN] λjX=>
 Br (((aj (Int.tdiv x6 2)):Int)==2)
 (Sw jX w9 #[bh,(aj (bC+(aj ((aj (2*(Int.tmod x6 2)))-1)))),(aj (bN+(aj ((aj (2*(Int.tmod x6 2)))-1))))] λjr=>
 ah 160 #[.agg #[bh,(aj (bC+(aj ((aj (2*(Int.tmod x6 2)))-1)))),(aj (bN+(aj ((aj (2*(Int.tmod x6 2)))-1))))]] jr (iC λlh oE jY gO=>K2 w w9 jr gO (
 (0:Int)<=x6/\x6<((6:Nat):Int)/\(true=true/\Wr gO (af (some ⟨w1,0,none⟩) ((x6:Int).toNat*3)) 3)/\bD (af (some ⟨w1,0,none⟩) ((x6:Int).toNat*3))≠some w.heap.size/\bD (af (some ⟨w1,0,none⟩) ((x6:Int).toNat*3))≠some w9.heap.size/\(∀AX,AX=aH gO (af (some ⟨w1,0,none⟩) ((x6:Int).toNat*3)) [lh,oE,jY]->
 ∃n8,n8<n4/\aO [aA,aq,au]/\I3 n8 ((aj (x6+1))) AX))))
 (ah 160 #[.agg #[bh,(aj (bC+(aj ((aj (2*(Int.tmod x6 2)))-1)))),bN]] jX (iC λph sN zi qC=>K2 w w9 jX qC (
 (0:Int)<=x6/\x6<((6:Nat):Int)/\(true=true/\Wr qC (af (some ⟨w1,0,none⟩) ((x6:Int).toNat*3)) 3)/\bD (af (some ⟨w1,0,none⟩) ((x6:Int).toNat*3))≠some w.heap.size/\bD (af (some ⟨w1,0,none⟩) ((x6:Int).toNat*3))≠some w9.heap.size/\(∀mi,mi=aH qC (af (some ⟨w1,0,none⟩) ((x6:Int).toNat*3)) [ph,sN,zi]->
 ∃n8,n8<n4/\aO [aA,aq,au]/\I3 n8 ((aj (x6+1))) mi)))))
 (Br (((aj (Int.tdiv x6 2)):Int)==2)
 (Sw bP w9 #[bh,bC,(aj (bN+(aj ((aj (2*(Int.tmod x6 2)))-1))))] λzf=>
 ah 160 #[.agg #[bh,bC,(aj (bN+(aj ((aj (2*(Int.tmod x6 2)))-1))))]] zf (iC λiV pE kC Kd=>K2 w w9 zf Kd (
 (0:Int)<=x6/\x6<((6:Nat):Int)/\(true=true/\Wr Kd (af (some ⟨w1,0,none⟩) ((x6:Int).toNat*3)) 3)/\bD (af (some ⟨w1,0,none⟩) ((x6:Int).toNat*3))≠some w.heap.size/\bD (af (some ⟨w1,0,none⟩) ((x6:Int).toNat*3))≠some w9.heap.size/\(∀pH,pH=aH Kd (af (some ⟨w1,0,none⟩) ((x6:Int).toNat*3)) [iV,pE,kC]->
 ∃n8,n8<n4/\aO [aA,aq,au]/\I3 n8 ((aj (x6+1))) pH))))
 (ah 160 #[.agg #[bh,bC,bN]] bP (iC λwQ kJ iW mR=>K2 w w9 bP mR (
 (0:Int)<=x6/\x6<((6:Nat):Int)/\(true=true/\Wr mR (af (some ⟨w1,0,none⟩) ((x6:Int).toNat*3)) 3)/\bD (af (some ⟨w1,0,none⟩) ((x6:Int).toNat*3))≠some w.heap.size/\bD (af (some ⟨w1,0,none⟩) ((x6:Int).toNat*3))≠some w9.heap.size/\(∀oD,oD=aH mR (af (some ⟨w1,0,none⟩) ((x6:Int).toNat*3)) [wQ,kJ,iW]->
 ∃n8,n8<n4/\aO [aA,aq,au]/\I3 n8 ((aj (x6+1))) oD))))))))
 (∃(nj sR yV pj mS mP mI oM nG mj ml me uX uU wR FN zg vt:Int),ag w7 (some ⟨w1,0,none⟩) 0 [nj,sR,yV,pj,mS,mP,mI,oM,nG,mj,ml,me,uX,uU,wR,FN,zg,vt]/\
 Wt w7 ⟨w0,0,none⟩ 18/\Nb w0 w/\(∀uA,uA=aH w7 (some ⟨w0,0,none⟩) [nj,sR,yV,pj,mS,mP,mI,oM,nG,mj,ml,me,uX,uU,wR,FN,zg,vt]->
 ∃(sK qG sQ xg AN Oe rK x88 S2 S4 Ft zh uz vv pF pG C2 Kh:Int),ag uA (some ⟨w0,0,none⟩) 0 [sK,qG,sQ,xg,AN,Oe,rK,x88,S2,S4,Ft,zh,uz,vv,pF,pG,C2,Kh]/\
 R (Value.agg #[sK,qG,sQ,xg,AN,Oe,rK,x88,S2,S4,Ft,zh,uz,vv,pF,pG,C2,Kh]) uA))):ah 112 #[.agg #[aA,aq,au]] w R:=
 cq ⟨[(3,⟨[(4,.int .i64)],[],[]⟩)],[],[]⟩ Tryz.func112 h
theorem VQ.vc(h:
 Aw w #[aA,aq,au] 41 λw0=>
 Aw w0 #[aa,aa,aa,aa,aa,aa] 107 λw1=>
 ah 160 #[.agg #[aA,aq,au]] w1 (iC λx3 x4 x5 w2=>K2 w w0 w1 w2 (
 Aw w2 #[aa,aa,aa] 41 λw6=>
 Sw w6 w2 #[x3,x4,x5] λw7=>
 Aw w7 #[aa,aa,aa] 28 λw8=>
 Sw w8 w7 #[(aj (x3*65536)),(aj (x4*65536)),(aj (x5*65536))] λw9=>
 ah 85 #[.agg #[(aj (x3*65536)),(aj (x4*65536)),(aj (x5*65536))],.agg #[(65536:Int),(65536:Int),(65536:Int)]] w9.drew (iC λbC bN cm bO=>K4 w w0 w2 w7 w9.drew bO (
 ag bO (some ⟨w7,0,none⟩) 0 [(aj (x3*65536)),(aj (x4*65536)),(aj (x5*65536))]/\Sw bO w0 #[(aj (x3*65536)),(aj (x4*65536)),(aj (x5*65536)),bC,bN,cm] λbP=>
 R (Value.agg #[(aj (x3*65536)),(aj (x4*65536)),(aj (x5*65536)),bC,bN,cm]) bP))))):ah 126 #[.agg #[aA,aq,au]] w R:=
 cq bV Tryz.func126 h
theorem Ms.vc(h:
 Aw w #[aA,aq,au,aS,aT,aW] 107 λw0=>
 Aw w0 #[ak,ao,aw,bz,bT,bR] 107 λw1=>
 ah 179 #[.agg #[aA,aq,au,aS,aT,aW],.agg #[ak,ao,aw,bz,bT,bR]] w1 (Rb λb3 w2=>K2 w w0 w1 w2 (
 R b3 w2))):ah 125 #[.agg #[aA,aq,au,aS,aT,aW],.agg #[ak,ao,aw,bz,bT,bR]] w R:=
 cq bV Tryz.func125 h
theorem QC.vc(h:
 Aw w #[aA,aq,au] 28 λw0=>
 Aw w0 #[aa,aa,aa] 28 λw1=>
 ah 10 #[aA,(589825:Int)] w1.drew (Ri λx3 w2=>K2 w w0 w1.drew w2 (
 ag w2 (some ⟨w,2,none⟩) 0 [au]/\ag w2 (some ⟨w,1,none⟩) 0 [aq]/\ah 10 #[aq,(589825:Int)] w2 (Ri λx5 w4=>K2 w w0 w2 w4 (
 ag w4 (some ⟨w,2,none⟩) 0 [au]/\ah 10 #[au,(589825:Int)] w4 (Ri λx7 w6=>K2 w w0 w4 w6 (
 Sw w6 w0 #[(aj (196608+x3)),(aj (589824+x5)),(aj (196608+x7))] λw8=>
 R (Value.agg #[(aj (196608+x3)),(aj (589824+x5)),(aj (196608+x7))]) w8))))))):ah 52 #[.agg #[aA,aq,au]] w R:=
 cq bV Tryz.func52 h
theorem Mt.vc(h:
 Br (a0<0)
 (R a0 w)
 (ah 110 #[a0] w (λe w0=>∃(x1:Int),e=x1/\
 R x1 w0))):ah 56 #[a0] w R:=
 cq bV Tryz.func56 h
theorem JI.vc(h:
 Br (a0<0)
 (∃I0:Nat->Int->Sl->Int->World->Prop,
 (∃n1,I0 n1 (0) ⟨none,0,0⟩ (1099511627776) w)/\
 ∀(n1:Nat)(wX:Nat->Value)(x3:Int)(s4:Sl)(x5:Int)(w6:World),I0 n1 x3 s4 x5 w6->
 Br (x3<6)
 (aP (J6 x5) (Aw w6 #[.int .u8 (eY (Int.tmod (aj (Int.tdiv (aj (a0+281474976710656)) x5)) 256))] 5 λw8=>
 ba 1 1 w8 s4 1 [.int .u8 (eY (Int.tmod (aj (Int.tdiv (aj (a0+281474976710656)) x5)) 256))]/\∀(s9:Sl)(bO:World),aV 5 1 w8 s4 1 [.int .u8 (eY (Int.tmod (aj (Int.tdiv (aj (a0+281474976710656)) x5)) 256))] s9 bO->Kp w6 w8 bO/\
 ∃n7,n7<n1/\I0 n7 ((aj (x3+1))) s9 ((aj (Int.tdiv x5 256))) bO))
 (R s4 w6))
 (∃I11:Nat->Int->Sl->Int->World->Prop,
 (∃JW,I11 JW (0) ⟨none,0,0⟩ (1099511627776) w)/\
 ∀(JW:Nat)(as8:Nat->Value)(bX:Int)(lj:Sl)(cD:Int)(cL:World),I11 JW bX lj cD cL->
 Br (bX<6)
 (aP (J6 cD) (Aw cL #[.int .u8 (eY (Int.tmod (aj (Int.tdiv a0 cD)) 256))] 5 λfP=>
 ba 1 1 fP lj 1 [.int .u8 (eY (Int.tmod (aj (Int.tdiv a0 cD)) 256))]/\∀(uB:Sl)(eK:World),aV 5 1 fP lj 1 [.int .u8 (eY (Int.tmod (aj (Int.tdiv a0 cD)) 256))] uB eK->Kp cL fP eK/\
 ∃n18,n18<JW/\I11 n18 ((aj (bX+1))) uB ((aj (Int.tdiv cD 256))) eK))
 (R lj cL))):ah 89 #[a0] w R:=
 cq ⟨[(6,⟨[(5,.int .i64),(3,.slice),(4,.int .i64)],[],[]⟩),(6,⟨[(5,.int .i64),(3,.slice),(4,.int .i64)],[],[]⟩)],[],[]⟩ Tryz.func89 h
theorem Gz.vc{a0:Sl}(h:
 ∃I0:Nat->Int->Sl->World->Prop,
 (∃n1,I0 n1 (0) ⟨none,0,0⟩ w)/\
 ∀(n1:Nat)(wX:Nat->Value)(x3:Int)(s4:Sl)(w5:World),I0 n1 x3 s4 w5->
 Br (decide (x3<((a0.n:Nat):Int)))
 (eo a0.a x3 a0.n/\∃(x7:Int),ld w5 (af a0.a ((x3:Int).toNat*1))=some (.int .i64 x7)/\
 ah 89 #[x7] w5 (λe w8=>∃(s9:Sl),e=s9/\
 ∃l10:LV,Rd w8 s9.a l10/\ba 1 1 w8 s4 s9.n l10/\∀(AP:Sl)(cR:World),aV 5 1 w8 s4 s9.n l10 AP cR->
 ∃n6,n6<n1/\I0 n6 ((aj (x3+1))) AP cR))
 (R s4 w5)):ah 90 #[a0] w R:=
 cq ⟨[(3,⟨[(4,.int .i64),(3,.slice)],[],[]⟩)],[],[]⟩ Tryz.func90 h
theorem MP.vc{aq:Sl}{au:Sl}(h:
 Aw w #[aA,aq,au] 86 λw0=>
 ah 89 #[aA] w0 (Rs λs2 w1=>Kp w w0 w1/\
 Aw w1 #[.int .u8 (eY ((aq.n:Nat):Int))] 5 λw3=>
 ba 1 1 w3 s2 1 [.int .u8 (eY ((aq.n:Nat):Int))]/\∀(s4:Sl)(w5:World),aV 5 1 w3 s2 1 [.int .u8 (eY ((aq.n:Nat):Int))] s4 w5->K2 w w1 w3 w5 (
 ∃I6:Nat->Int->Sl->World->Prop,
 (∃n7,aO [aA,aq,au]/\aO [.int .u8 (eY ((aq.n:Nat):Int))]/\I6 n7 (0) s4 w5)/\
 ∀(n7:Nat)(us8:Nat->Value)(x9:Int)(xf:Sl)(aY:World),I6 n7 x9 xf aY->
 Br (decide (x9<((aq.n:Nat):Int)))
 (eo aq.a x9 aq.n/\aP (dv (af aq.a ((x9:Int).toNat*10))) (∃(cm bX cA cD cY cp cn cW:Int)(Kc:Bool),ag aY (af (af aq.a ((x9:Int).toNat*10)) 1) 0 [cm,bX,cA,cD,cY,cp,cn,cW,Kc]/\
 Aw aY #[aa,aa,aa,aa,aa,aa,aa,aa,false] 75 λdT=>
 Sw dT aY #[cm,bX,cA,cD,cY,cp,cn,cW,Kc] λeh=>
 eo aq.a x9 aq.n/\aP (dv (af aq.a ((x9:Int).toNat*10))) (∃(eE:Int),ld eh (af (af aq.a ((x9:Int).toNat*10)) 0)=some (.int .i64 eE)/\
 Aw eh #[.int .u8 (eY eE)] 5 λcU=>
 ba 1 1 cU xf 1 [.int .u8 (eY eE)]/\∀(Oi:Sl)(eH:World),aV 5 1 cU xf 1 [.int .u8 (eY eE)] Oi eH->K4 w w1 aY eh cU eH (
 Aw eH #[cm,bX,cA,cD,cY,cp,cn,cW] 3 λgN=>
 ah 90 #[.slice (some ⟨eH,0,none⟩) 8 8] gN (Rs λsS dR=>K4 w w1 aY eh gN dR (
 ∃l31:LV,Rd dR sS.a l31/\ba 1 1 dR Oi sS.n l31/\∀(oL:Sl)(eM:World),aV 5 1 dR Oi sS.n l31 oL eM->K4 w w1 aY eh dR eM (
 Br Kc
 (Aw eM #[.int .u8 (eY 1)] 5 λjc=>
 ba 1 1 jc oL 1 [.int .u8 (eY 1)]/\∀(s35:Sl)(jW:World),aV 5 1 jc oL 1 [.int .u8 (eY 1)] s35 jW->K5 w w1 aY eh eM jc jW (
 ∃JW,JW<n7/\aO [aA,aq,au]/\aO [.int .u8 (eY ((aq.n:Nat):Int))]/\I6 JW ((aj (x9+1))) s35 jW))
 (Aw eM #[.int .u8 (eY 0)] 5 λie=>
 ba 1 1 ie oL 1 [.int .u8 (eY 0)]/\∀(s38:Sl)(jX:World),aV 5 1 ie oL 1 [.int .u8 (eY 0)] s38 jX->K5 w w1 aY eh eM ie jX (
 ∃JW,JW<n7/\aO [aA,aq,au]/\aO [.int .u8 (eY ((aq.n:Nat):Int))]/\I6 JW ((aj (x9+1))) s38 jX)))))))))
 (Aw aY #[.int .u8 (eY (aj (Int.tdiv (if 2000<((au.n:Nat):Int) then 2000 else ((au.n:Nat):Int)) 256))),.int .u8 (eY (Int.tmod (if 2000<((au.n:Nat):Int) then 2000 else ((au.n:Nat):Int)) 256))] 5 λjr=>
 ba 1 1 jr xf 2 [.int .u8 (eY (aj (Int.tdiv (if 2000<((au.n:Nat):Int) then 2000 else ((au.n:Nat):Int)) 256))),.int .u8 (eY (Int.tmod (if 2000<((au.n:Nat):Int) then 2000 else ((au.n:Nat):Int)) 256))]/\∀(Kb:Sl)(ku:World),aV 5 1 jr xf 2 [.int .u8 (eY (aj (Int.tdiv (if 2000<((au.n:Nat):Int) then 2000 else ((au.n:Nat):Int)) 256))),.int .u8 (eY (Int.tmod (if 2000<((au.n:Nat):Int) then 2000 else ((au.n:Nat):Int)) 256))] Kb ku->K3 w w1 aY jr ku (
 ∃I43:Nat->Int->Sl->World->Prop,
 (∃n44,aO [aA,aq,au]/\aO [.int .u8 (eY ((aq.n:Nat):Int))]/\aO [.int .u8 (eY (aj (Int.tdiv (if 2000<((au.n:Nat):Int) then 2000 else ((au.n:Nat):Int)) 256))),.int .u8 (eY (Int.tmod (if 2000<((au.n:Nat):Int) then 2000 else ((au.n:Nat):Int)) 256))]/\I43 n44 (0) Kb ku)/\
 ∀(n44:Nat)(az8:Nat->Value)(gC:Int)(C3:Sl)(fY:World),I43 n44 gC C3 fY->
 Br (decide (gC<(if 2000<((au.n:Nat):Int) then 2000 else ((au.n:Nat):Int))))
 (eo au.a gC au.n/\aP (dv (af au.a ((gC:Int).toNat*4))) (∃(tX mH lC:Int),ag fY (af (af au.a ((gC:Int).toNat*4)) 1) 0 [tX,mH,lC]/\
 Aw fY #[aa,aa,aa] 41 λRq=>
 Sw Rq fY #[tX,mH,lC] λAS=>
 eo au.a gC au.n/\aP (dv (af au.a ((gC:Int).toNat*4))) (∃(kC:Int),ld AS.drew (af (af au.a ((gC:Int).toNat*4)) 0)=some (.int .i64 kC)/\
 Aw AS.drew #[kC,tX,mH,lC] 3 λpH=>
 ah 90 #[.slice (some ⟨AS.drew.heap.size,0,none⟩) 4 4] pH (Rs λmu mR=>K4 w w1 aY fY pH mR (
 ag mR (some ⟨w,2,none⟩) 0 [au]/\∃l59:LV,Rd mR mu.a l59/\ba 1 1 mR C3 mu.n l59/\∀(RB:Sl)(oD:World),aV 5 1 mR C3 mu.n l59 RB oD->K4 w w1 aY fY mR oD (
 ag oD (some ⟨w,2,none⟩) 0 [au]/\∃n49,n49<n44/\aO [aA,aq,au]/\aO [.int .u8 (eY ((aq.n:Nat):Int))]/\aO [.int .u8 (eY (aj (Int.tdiv (if 2000<((au.n:Nat):Int) then 2000 else ((au.n:Nat):Int)) 256))),.int .u8 (eY (Int.tmod (if 2000<((au.n:Nat):Int) then 2000 else ((au.n:Nat):Int)) 256))]/\I43 n49 ((aj (gC+1))) RB oD))))))
 (R C3 fY)))))):ah 34 #[.agg #[aA,aq,au]] w R:=
 cq ⟨[(16,⟨[(8,.int .i64),(3,.slice)],[],[]⟩),(4,⟨[(4,.int .i64),(3,.slice)],[],[]⟩)],[],[]⟩ Tryz.func34 h
theorem sI.vc{c0:Addr}(h:
 Br (!((none:Option Addr)).isNone)
 (aP (dv (none:Option Addr)) (aP (dv (none:Option Addr)) (∃(x0 x1 x2 x3 x4 x5 x6 x7:Int)(b8:Bool),ag w.drew (af (none:Option Addr) 0) 0 [x0,x1,x2,x3,x4,x5,x6,x7,b8]/\
 ∃(x9 bh bC bN cm bX:Int),ag w.drew (some c0) 0 [x9,bh,bC,bN,cm,bX]/\
 ah 48 #[.agg #[x0,x1,x2,x3,x4,x5,x6,x7,b8]] w.drew (λe eA=>∃(cD cY cp cn cW dh:Int),e=Value.agg #[cD,cY,cp,cn,cW,dh]/\
 ag eA (some c0) 0 [x9,bh,bC,bN,cm,bX]/\ah 124 #[.agg #[cD,cY,cp,cn,cW,dh],.agg #[x9,bh,bC,bN,cm,bX]] eA (λe dT=>∃(Ig:Bool),e=Ig/\
 R Ig dT)))))
 (R false w.drew)):ah 123 #[.pointer (none:Option Addr),c0] w R:=
 cq bV Tryz.func123 h
end Go.Proofs.YtkkkfkopcfdmaaaGreatDoor
