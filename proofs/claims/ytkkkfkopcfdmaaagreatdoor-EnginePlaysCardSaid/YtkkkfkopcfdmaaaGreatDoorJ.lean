import Derived.Test.YtkkkfkopcfdmaaaGreatDoorI
import Derived.Test.YtkkkfkopcfdmaaaGreatDoorD
set_option linter.all false
namespace Go.Proofs.YtkkkfkopcfdmaaaGreatDoor
open Go Go.Vc Go.RowKit Go.Proofs Go.dK Go.bf Go.Code Go.gw Go.fV Go.ku
set_option maxRecDepth 100000
def Lz (V:Ce->Int) (b:ep):ep:=
 let y:=lK V aI b.box (pV b.aH b.speed) 32768
 {b with aH:=jW b.aH (zD y.1.1 b.box.1),speed:=lO y.2 b.speed,gZ:=jN V (iA y.1) aI}
def kX (V:Ce->Int) (b:ep) (d:Ce):ep:={b with aH:=jW b.aH (zD (kI V aI b.box (pV b.aH d)).1.1 b.box.1)}
set_option maxHeartbeats 4000000 in
theorem U1 {v:Value} {V:Ce->Int} {w:World} (hV:Tl v V w) (hv:ke v=[]) (b:ep) (hw:bS b.wd) {m:Int} (hnb:dh b.box m) (hm:m<=99980000000000) (i:FR):
  ah 168 #[BG b,v,inV i] w λe w'=>e=(BG (Lz V b))/\Ext w w':=by
 have hgo:Lz V b={b with aH:=jW b.aH (zD (lK V aI b.box (pV b.aH b.speed) 32768).1.1 b.box.1),speed:=lO (lK V aI b.box (pV b.aH b.speed) 32768).2 b.speed,gZ:=jN V (iA (lK V aI b.box (pV b.aH b.speed) 32768).1) aI}:=rfl;apply Dq.vc;intro w0 e0 w1 e1 w2 e2;have x0:=aL e0;have z0:=zA e0;have r0:Row w0 w (jo b) yQ:=Row.nw e0;have x1:=aL e1;have z1:=zA e1;have x2:=aL e2;have z2:=zA e2;refine (cO b hw w2).mono ?_;rintro e w3 ⟨rfl,x3⟩;have z3:=x3.size;refine ⟨_,_,_,_,_,_,rfl,x3.heap aa,x3.heap aa,x3.heap aa,λbD CH aW FA=> ?_⟩;have Sr:=zA CH;have z11:=zR FA;have bz:Ext w3 aW:=(aL CH).af FA (aB _);have rwas:Row aW w3 (fQ b.box) bE:=by rw [FA];exact Row.set (by rw [CH];exact Row.new w3 [_,_,_,_,_,_] _) [_,_,_,_,_,_]
 have rb:=r0.ext (x1.tr (x2.tr (x3.tr bz)));have xw:=x0.tr (x1.tr (x2.tr (x3.tr bz)));have ahG:=hV.ext xw;have rwas0:=rwas;refine ⟨λp q wj=>∃gB gH:Nat,p=some ⟨gB,0,none⟩/\q=some ⟨gH,0,none⟩/\Row wj gB (fQ (lK V aI b.box (pV b.aH b.speed) 32768).1) bE/\Row wj gH (hL (lK V aI b.box (pV b.aH b.speed) 32768).2) dy/\Ext aW wj/\aW.heap.size<=gB,?_,?_⟩
 ·have X:=Ext.dr aW;have rwas:=rwas.ext X;have zd:=lv aW;have hS:=λ(cur:World) (X:Ext aW cur)=>PS (w:=cur) (ahG.ext X) hv b.box hnb hm (pV b.aH b.speed) 32768
  generalize lK V aI b.box (pV b.aH b.speed) 32768=y at*;refine ⟨?_,?_,?_⟩
  ·refine (gV b b.speed aW.drew).mono ?_;rintro e v1 ⟨rfl,xn⟩;have z1:=xn.size;refine ⟨_,_,_,rfl,xn.heap aa,xn.heap aa,xn.heap aa,xn.heap aa,Lo.wv (rwas.ext xn),?_⟩;have X:=X.tr xn;have rwas:=rwas.ext xn;refine ⟨?_,?_,?_⟩
   ·refine (hS v1 X).mono ?_;rintro e v2 ⟨rfl,xn⟩;have z2:=xn.size;refine ⟨_,_,_,_,_,_,_,_,_,rfl,xn.heap aa,xn.heap aa,xn.heap aa,xn.heap aa,?_⟩;have X:=X.tr xn;have rwas:=rwas.ext xn;refine ⟨?_,?_⟩
    ·intro v3 en;have xn:=aL en;have z3:=zA en;have rBn:Row v3 v2 [ab,ab,ab,ab,ab,ab] bE:=Row.nw en;have X:=X.tr xn;have rwas:=rwas.ext xn;have rB:=rBn;intro v4 en;have xn:=aL en;have z4:=zA en;have rHn:Row v4 v3 (hL (false,false,false)) dy:=Row.nw en;have X:=X.tr xn;have rwas:=rwas.ext xn;have rB:=rB.ext xn;have rH:=rHn;intro og dZ;have zs:=zR dZ;have rB:Row og v2 (fQ y.1) bE:=rB.st dZ;have rH:=rH.so dZ;have X:=X.af dZ aa;refine ⟨⟨rfl,rH.wr bt⟩,cV aa,cV aa,cV aa,cV aa,cV aa,λwt et=> ?_⟩;rw [rH.aG (vs:=hL y.2) bt (gf _),aQ bt] at et;have zt:=zR et;have rB:=rB.so et;have rH:Row wt v3 (hL y.2) dy:=rH.st et;exact ⟨rfl,rfl,rfl,rfl,_,_,rfl,rfl,rB,rH,X.af et aa,by omega⟩
    ·intro v3 en;have xn:=aL en;have z3:=zA en;have rHn:Row v3 v2 (hL (false,false,false)) dy:=Row.nw en;have X:=X.tr xn;have rwas:=rwas.ext xn;have rH:=rHn;intro v4 en;have xn:=aL en;have z4:=zA en;have rBn:Row v4 v3 [ab,ab,ab,ab,ab,ab] bE:=Row.nw en;have X:=X.tr xn;have rwas:=rwas.ext xn;have rH:=rH.ext xn;have rB:=rBn;intro og dZ;have zs:=zR dZ;have rB:Row og v3 (fQ y.1) bE:=rB.st dZ;have rH:=rH.so dZ;have X:=X.af dZ aa;refine ⟨⟨rfl,rH.wr bt⟩,cV aa,cV aa,cV aa,cV aa,cV aa,λwt et=> ?_⟩;rw [rH.aG (vs:=hL y.2) bt (gf _),aQ bt] at et;have zt:=zR et;have rB:=rB.so et;have rH:Row wt v2 (hL y.2) dy:=rH.st et;exact ⟨rfl,rfl,rfl,rfl,_,_,rfl,rfl,rB,rH,X.af et aa,by omega⟩
   ·intro v2 en;have xn:=aL en;have z2:=zA en;have rBn:Row v2 v1 [ab,ab,ab,ab,ab,ab] bE:=Row.nw en;have X:=X.tr xn;have rwas:=rwas.ext xn;have rB:=rBn;refine ⟨?_,?_⟩
    ·refine (hS v2 X).mono ?_;rintro e v3 ⟨rfl,xn⟩;have z3:=xn.size;refine ⟨_,_,_,_,_,_,_,_,_,rfl,xn.heap aa,xn.heap aa,xn.heap aa,xn.heap aa,xn.heap aa,?_⟩;have X:=X.tr xn;have rwas:=rwas.ext xn;have rB:=rB.ext xn;intro v4 en;have xn:=aL en;have z4:=zA en;have rHn:Row v4 v3 (hL (false,false,false)) dy:=Row.nw en;have X:=X.tr xn;have rwas:=rwas.ext xn;have rB:=rB.ext xn;have rH:=rHn;intro og dZ;have zs:=zR dZ;have rB:Row og v1 (fQ y.1) bE:=rB.st dZ;have rH:=rH.so dZ;have X:=X.af dZ aa;refine ⟨⟨rfl,rH.wr bt⟩,cV aa,cV aa,cV aa,cV aa,cV aa,λwt et=> ?_⟩;rw [rH.aG (vs:=hL y.2) bt (gf _),aQ bt] at et;have zt:=zR et;have rB:=rB.so et;have rH:Row wt v3 (hL y.2) dy:=rH.st et;exact ⟨rfl,rfl,rfl,rfl,_,_,rfl,rfl,rB,rH,X.af et aa,by omega⟩
    ·intro v3 en;have xn:=aL en;have z3:=zA en;have rHn:Row v3 v2 (hL (false,false,false)) dy:=Row.nw en;have X:=X.tr xn;have rwas:=rwas.ext xn;have rB:=rB.ext xn;have rH:=rHn;refine (hS v3 X).mono ?_;rintro e v4 ⟨rfl,xn⟩;have z4:=xn.size;refine ⟨_,_,_,_,_,_,_,_,_,rfl,xn.heap aa,xn.heap aa,xn.heap aa,xn.heap aa,xn.heap aa,?_⟩;have X:=X.tr xn;have rwas:=rwas.ext xn;have rB:=rB.ext xn;have rH:=rH.ext xn;intro og dZ;have zs:=zR dZ;have rB:Row og v1 (fQ y.1) bE:=rB.st dZ;have rH:=rH.so dZ;have X:=X.af dZ aa;refine ⟨⟨rfl,rH.wr bt⟩,cV aa,cV aa,cV aa,cV aa,cV aa,λwt et=> ?_⟩;rw [rH.aG (vs:=hL y.2) bt (gf _),aQ bt] at et;have zt:=zR et;have rB:=rB.so et;have rH:Row wt v2 (hL y.2) dy:=rH.st et;exact ⟨rfl,rfl,rfl,rfl,_,_,rfl,rfl,rB,rH,X.af et aa,by omega⟩
   ·intro v2 en;have xn:=aL en;have z2:=zA en;have rHn:Row v2 v1 (hL (false,false,false)) dy:=Row.nw en;have X:=X.tr xn;have rwas:=rwas.ext xn;have rH:=rHn;refine ⟨?_,?_⟩
    ·refine (hS v2 X).mono ?_;rintro e v3 ⟨rfl,xn⟩;have z3:=xn.size;refine ⟨_,_,_,_,_,_,_,_,_,rfl,xn.heap aa,xn.heap aa,xn.heap aa,xn.heap aa,?_⟩;have X:=X.tr xn;have rwas:=rwas.ext xn;have rH:=rH.ext xn;intro v4 en;have xn:=aL en;have z4:=zA en;have rBn:Row v4 v3 [ab,ab,ab,ab,ab,ab] bE:=Row.nw en;have X:=X.tr xn;have rwas:=rwas.ext xn;have rH:=rH.ext xn;have rB:=rBn;intro og dZ;have zs:=zR dZ;have rB:Row og v3 (fQ y.1) bE:=rB.st dZ;have rH:=rH.so dZ;have X:=X.af dZ aa;refine ⟨⟨rfl,rH.wr bt⟩,cV aa,cV aa,cV aa,cV aa,cV aa,λwt et=> ?_⟩;rw [rH.aG (vs:=hL y.2) bt (gf _),aQ bt] at et;have zt:=zR et;have rB:=rB.so et;have rH:Row wt v1 (hL y.2) dy:=rH.st et;exact ⟨rfl,rfl,rfl,rfl,_,_,rfl,rfl,rB,rH,X.af et aa,by omega⟩
    ·intro v3 en;have xn:=aL en;have z3:=zA en;have rBn:Row v3 v2 [ab,ab,ab,ab,ab,ab] bE:=Row.nw en;have X:=X.tr xn;have rwas:=rwas.ext xn;have rH:=rH.ext xn;have rB:=rBn;refine (hS v3 X).mono ?_;rintro e v4 ⟨rfl,xn⟩;have z4:=xn.size;refine ⟨_,_,_,_,_,_,_,_,_,rfl,xn.heap aa,xn.heap aa,xn.heap aa,xn.heap aa,xn.heap aa,?_⟩;have X:=X.tr xn;have rwas:=rwas.ext xn;have rB:=rB.ext xn;have rH:=rH.ext xn;intro og dZ;have zs:=zR dZ;have rB:Row og v2 (fQ y.1) bE:=rB.st dZ;have rH:=rH.so dZ;have X:=X.af dZ aa;refine ⟨⟨rfl,rH.wr bt⟩,cV aa,cV aa,cV aa,cV aa,cV aa,λwt et=> ?_⟩;rw [rH.aG (vs:=hL y.2) bt (gf _),aQ bt] at et;have zt:=zR et;have rB:=rB.so et;have rH:Row wt v1 (hL y.2) dy:=rH.st et;exact ⟨rfl,rfl,rfl,rfl,_,_,rfl,rfl,rB,rH,X.af et aa,by omega⟩
  ·intro v1 en;have xn:=aL en;have z1:=zA en;have rBn:Row v1 aW.drew.heap.size [ab,ab,ab,ab,ab,ab] bE:=Row.nw en;have X:=X.tr xn;have rwas:=rwas.ext xn;have rB:=rBn;refine ⟨?_,?_⟩
   ·refine (gV b b.speed v1).mono ?_;rintro e v2 ⟨rfl,xn⟩;have z2:=xn.size;refine ⟨_,_,_,rfl,xn.heap aa,xn.heap aa,xn.heap aa,xn.heap aa,xn.heap aa,Lo.wv (rwas.ext xn),?_⟩;have X:=X.tr xn;have rwas:=rwas.ext xn;have rB:=rB.ext xn;refine ⟨?_,?_⟩
    ·refine (hS v2 X).mono ?_;rintro e v3 ⟨rfl,xn⟩;have z3:=xn.size;refine ⟨_,_,_,_,_,_,_,_,_,rfl,xn.heap aa,xn.heap aa,xn.heap aa,xn.heap aa,xn.heap aa,?_⟩;have X:=X.tr xn;have rwas:=rwas.ext xn;have rB:=rB.ext xn;intro v4 en;have xn:=aL en;have z4:=zA en;have rHn:Row v4 v3 (hL (false,false,false)) dy:=Row.nw en;have X:=X.tr xn;have rwas:=rwas.ext xn;have rB:=rB.ext xn;have rH:=rHn;intro og dZ;have zs:=zR dZ;have rB:Row og aW.drew.heap.size (fQ y.1) bE:=rB.st dZ;have rH:=rH.so dZ;have X:=X.af dZ aa;refine ⟨⟨rfl,rH.wr bt⟩,cV aa,cV aa,cV aa,cV aa,cV aa,λwt et=> ?_⟩;rw [rH.aG (vs:=hL y.2) bt (gf _),aQ bt] at et;have zt:=zR et;have rB:=rB.so et;have rH:Row wt v3 (hL y.2) dy:=rH.st et;exact ⟨rfl,rfl,rfl,rfl,_,_,rfl,rfl,rB,rH,X.af et aa,by omega⟩
    ·intro v3 en;have xn:=aL en;have z3:=zA en;have rHn:Row v3 v2 (hL (false,false,false)) dy:=Row.nw en;have X:=X.tr xn;have rwas:=rwas.ext xn;have rB:=rB.ext xn;have rH:=rHn;refine (hS v3 X).mono ?_;rintro e v4 ⟨rfl,xn⟩;have z4:=xn.size;refine ⟨_,_,_,_,_,_,_,_,_,rfl,xn.heap aa,xn.heap aa,xn.heap aa,xn.heap aa,xn.heap aa,?_⟩;have X:=X.tr xn;have rwas:=rwas.ext xn;have rB:=rB.ext xn;have rH:=rH.ext xn;intro og dZ;have zs:=zR dZ;have rB:Row og aW.drew.heap.size (fQ y.1) bE:=rB.st dZ;have rH:=rH.so dZ;have X:=X.af dZ aa;refine ⟨⟨rfl,rH.wr bt⟩,cV aa,cV aa,cV aa,cV aa,cV aa,λwt et=> ?_⟩;rw [rH.aG (vs:=hL y.2) bt (gf _),aQ bt] at et;have zt:=zR et;have rB:=rB.so et;have rH:Row wt v2 (hL y.2) dy:=rH.st et;exact ⟨rfl,rfl,rfl,rfl,_,_,rfl,rfl,rB,rH,X.af et aa,by omega⟩
   ·intro v2 en;have xn:=aL en;have z2:=zA en;have rHn:Row v2 v1 (hL (false,false,false)) dy:=Row.nw en;have X:=X.tr xn;have rwas:=rwas.ext xn;have rB:=rB.ext xn;have rH:=rHn;refine (gV b b.speed v2).mono ?_;rintro e v3 ⟨rfl,xn⟩;have z3:=xn.size;refine ⟨_,_,_,rfl,xn.heap aa,xn.heap aa,xn.heap aa,xn.heap aa,xn.heap aa,Lo.wv (rwas.ext xn),?_⟩;have X:=X.tr xn;have rwas:=rwas.ext xn;have rB:=rB.ext xn;have rH:=rH.ext xn;refine (hS v3 X).mono ?_;rintro e v4 ⟨rfl,xn⟩;have z4:=xn.size;refine ⟨_,_,_,_,_,_,_,_,_,rfl,xn.heap aa,xn.heap aa,xn.heap aa,xn.heap aa,xn.heap aa,?_⟩;have X:=X.tr xn;have rwas:=rwas.ext xn;have rB:=rB.ext xn;have rH:=rH.ext xn;intro og dZ;have zs:=zR dZ;have rB:Row og aW.drew.heap.size (fQ y.1) bE:=rB.st dZ;have rH:=rH.so dZ;have X:=X.af dZ aa;refine ⟨⟨rfl,rH.wr bt⟩,cV aa,cV aa,cV aa,cV aa,cV aa,λwt et=> ?_⟩;rw [rH.aG (vs:=hL y.2) bt (gf _),aQ bt] at et;have zt:=zR et;have rB:=rB.so et;have rH:Row wt v1 (hL y.2) dy:=rH.st et;exact ⟨rfl,rfl,rfl,rfl,_,_,rfl,rfl,rB,rH,X.af et aa,by omega⟩
  ·intro v1 en;have xn:=aL en;have z1:=zA en;have rHn:Row v1 aW.drew.heap.size (hL (false,false,false)) dy:=Row.nw en;have X:=X.tr xn;have rwas:=rwas.ext xn;have rH:=rHn;refine ⟨?_,?_⟩
   ·refine (gV b b.speed v1).mono ?_;rintro e v2 ⟨rfl,xn⟩;have z2:=xn.size;refine ⟨_,_,_,rfl,xn.heap aa,xn.heap aa,xn.heap aa,xn.heap aa,Lo.wv (rwas.ext xn),?_⟩;have X:=X.tr xn;have rwas:=rwas.ext xn;have rH:=rH.ext xn;refine ⟨?_,?_⟩
    ·refine (hS v2 X).mono ?_;rintro e v3 ⟨rfl,xn⟩;have z3:=xn.size;refine ⟨_,_,_,_,_,_,_,_,_,rfl,xn.heap aa,xn.heap aa,xn.heap aa,xn.heap aa,?_⟩;have X:=X.tr xn;have rwas:=rwas.ext xn;have rH:=rH.ext xn;intro v4 en;have xn:=aL en;have z4:=zA en;have rBn:Row v4 v3 [ab,ab,ab,ab,ab,ab] bE:=Row.nw en;have X:=X.tr xn;have rwas:=rwas.ext xn;have rH:=rH.ext xn;have rB:=rBn;intro og dZ;have zs:=zR dZ;have rB:Row og v3 (fQ y.1) bE:=rB.st dZ;have rH:=rH.so dZ;have X:=X.af dZ aa;refine ⟨⟨rfl,rH.wr bt⟩,cV aa,cV aa,cV aa,cV aa,cV aa,λwt et=> ?_⟩;rw [rH.aG (vs:=hL y.2) bt (gf _),aQ bt] at et;have zt:=zR et;have rB:=rB.so et;have rH:Row wt aW.drew.heap.size (hL y.2) dy:=rH.st et;exact ⟨rfl,rfl,rfl,rfl,_,_,rfl,rfl,rB,rH,X.af et aa,by omega⟩
    ·intro v3 en;have xn:=aL en;have z3:=zA en;have rBn:Row v3 v2 [ab,ab,ab,ab,ab,ab] bE:=Row.nw en;have X:=X.tr xn;have rwas:=rwas.ext xn;have rH:=rH.ext xn;have rB:=rBn;refine (hS v3 X).mono ?_;rintro e v4 ⟨rfl,xn⟩;have z4:=xn.size;refine ⟨_,_,_,_,_,_,_,_,_,rfl,xn.heap aa,xn.heap aa,xn.heap aa,xn.heap aa,xn.heap aa,?_⟩;have X:=X.tr xn;have rwas:=rwas.ext xn;have rB:=rB.ext xn;have rH:=rH.ext xn;intro og dZ;have zs:=zR dZ;have rB:Row og v2 (fQ y.1) bE:=rB.st dZ;have rH:=rH.so dZ;have X:=X.af dZ aa;refine ⟨⟨rfl,rH.wr bt⟩,cV aa,cV aa,cV aa,cV aa,cV aa,λwt et=> ?_⟩;rw [rH.aG (vs:=hL y.2) bt (gf _),aQ bt] at et;have zt:=zR et;have rB:=rB.so et;have rH:Row wt aW.drew.heap.size (hL y.2) dy:=rH.st et;exact ⟨rfl,rfl,rfl,rfl,_,_,rfl,rfl,rB,rH,X.af et aa,by omega⟩
   ·intro v2 en;have xn:=aL en;have z2:=zA en;have rBn:Row v2 v1 [ab,ab,ab,ab,ab,ab] bE:=Row.nw en;have X:=X.tr xn;have rwas:=rwas.ext xn;have rH:=rH.ext xn;have rB:=rBn;refine (gV b b.speed v2).mono ?_;rintro e v3 ⟨rfl,xn⟩;have z3:=xn.size;refine ⟨_,_,_,rfl,xn.heap aa,xn.heap aa,xn.heap aa,xn.heap aa,xn.heap aa,Lo.wv (rwas.ext xn),?_⟩;have X:=X.tr xn;have rwas:=rwas.ext xn;have rB:=rB.ext xn;have rH:=rH.ext xn;refine (hS v3 X).mono ?_;rintro e v4 ⟨rfl,xn⟩;have z4:=xn.size;refine ⟨_,_,_,_,_,_,_,_,_,rfl,xn.heap aa,xn.heap aa,xn.heap aa,xn.heap aa,xn.heap aa,?_⟩;have X:=X.tr xn;have rwas:=rwas.ext xn;have rB:=rB.ext xn;have rH:=rH.ext xn;intro og dZ;have zs:=zR dZ;have rB:Row og v1 (fQ y.1) bE:=rB.st dZ;have rH:=rH.so dZ;have X:=X.af dZ aa;refine ⟨⟨rfl,rH.wr bt⟩,cV aa,cV aa,cV aa,cV aa,cV aa,λwt et=> ?_⟩;rw [rH.aG (vs:=hL y.2) bt (gf _),aQ bt] at et;have zt:=zR et;have rB:=rB.so et;have rH:Row wt aW.drew.heap.size (hL y.2) dy:=rH.st et;exact ⟨rfl,rfl,rfl,rfl,_,_,rfl,rfl,rB,rH,X.af et aa,by omega⟩
 ·rintro us GG agR wj ⟨gB,gH,rfl,rfl,rB,rH,xj,hgB⟩;have zj:=xj.size;have xd:=Ext.dr wj;have zd:=lv wj;have lB:=rB.lt;have lH:=rH.lt;rw [hgo];generalize lK V aI b.box (pV b.aH b.speed) 32768=y at*;refine gr rfl ⟨_,_,_,qL (o:=0) (rB.ext xd) rfl rfl rfl,(uh y.1.1 b.box.1 wj.drew).mono ?_⟩;rintro e GJ ⟨rfl,Ci⟩;have ayk:=Ci.size;have SZ:=xj.tr (xd.tr Ci);refine ⟨_,_,_,rfl,Ci.heap aa,Ci.heap aa,Ci.heap aa,Ci.heap aa,qL (rb.ext SZ) rfl rfl rfl,(iS b.aH (zD y.1.1 b.box.1) GJ).mono ?_⟩;rintro e M6 ⟨rfl,nh⟩;have arv:=nh.size;refine ⟨_,_,_,rfl,nh.heap aa,nh.heap aa,nh.heap aa,nh.heap aa,λua Wm=> ?_⟩;have ayl:=zR Wm;have arw:Ext w ua:=(xw.tr (SZ.tr nh)).af Wm (aB _);have rH2:Row ua gH (hL y.2) dy:=(rH.ext (xd.tr (Ci.tr nh))).same (by rw [Wm];exact setRow_other _ _ _ _ ((rH.ext (xd.tr (Ci.tr nh))).ne ((rb.ext (SZ.tr nh))) aE));have rB2:Row ua gB (fQ y.1) bE:=(rB.ext (xd.tr (Ci.tr nh))).same (by rw [Wm];exact setRow_other _ _ _ _ aa);have n1:gH≠w:=(rH.ext (xd.tr (Ci.tr nh))).ne ((rb.ext (SZ.tr nh))) aE;refine ⟨_,_,_,Lo.wv rH2,(UC y.2 b.speed ua).mono ?_⟩;rintro e agT ⟨rfl,GN⟩;have ayo:=GN.size;refine ⟨_,_,_,rfl,GN.heap aa,GN.heap aa,GN.heap aa,GN.heap aa,λQ4 ahH=> ?_⟩;have ayp:=zR ahH;have aaz:Ext w Q4:=(arw.tr GN).af ahH (aB _);have rB3:Row Q4 gB (fQ y.1) bE:=(rB2.ext GN).same (by rw [ahH];exact setRow_other _ _ _ _ aa);refine ⟨_,_,_,_,_,_,Lo.wv rB3,(lF (hV.ext aaz) hv y.1).mono ?_⟩;rintro e agV ⟨rfl,Wn⟩;have ayr:=Wn.size;refine ⟨_,rfl,Wn.heap aa,Wn.heap aa,Wn.heap aa,Wn.heap aa,λagW arx agX ary=>⟨rfl,((aaz.tr Wn).af arx (aB _)).af ary aa⟩⟩
set_option maxHeartbeats 4000000 in
theorem DR {v:Value} {V:Ce->Int} {w:World} (hV:Tl v V w) (hv:ke v=[]) (b:ep) (hw:bS b.wd) {m:Int} (hnb:dh b.box m) (hm:m<=99990000000000) (d:Ce):
  ah 171 #[BG b,v,ea d] w λe w'=>e=(BG (kX V b d))/\Ext w w':=by
 have hgo:kX V b d={b with aH:=jW b.aH (zD (kI V aI b.box (pV b.aH d)).1.1 b.box.1)}:=rfl;apply BF.vc;intro w0 e0 w1 e1 w2 e2;have x0:=aL e0;have z0:=zA e0;have r0:Row w0 w (jo b) yQ:=Row.nw e0;have x1:=aL e1;have z1:=zA e1;have x2:=aL e2;have z2:=zA e2;refine (cO b hw w2).mono ?_;rintro e w3 ⟨rfl,x3⟩;have z3:=x3.size;refine ⟨_,_,_,_,_,_,rfl,x3.heap aa,x3.heap aa,x3.heap aa,λbD CH aW FA=> ?_⟩;have Sr:=zA CH;have z11:=zR FA;have bz:Ext w3 aW:=(aL CH).af FA (aB _);have rwas:Row aW w3 (fQ b.box) bE:=by rw [FA];exact Row.set (by rw [CH];exact Row.new w3 [_,_,_,_,_,_] _) [_,_,_,_,_,_]
 have rb:=r0.ext (x1.tr (x2.tr (x3.tr bz)));have xw:=x0.tr (x1.tr (x2.tr (x3.tr bz)));have ahG:=hV.ext xw;refine ⟨λp wj=>∃gB gH:Nat,p=some ⟨gB,0,none⟩/\Row wj gB (fQ (kI V aI b.box (pV b.aH d)).1) bE/\Row wj gH (hL (kI V aI b.box (pV b.aH d)).2) dy/\Ext aW wj/\aW.heap.size<=gB,?_,?_⟩
 ·have X:=Ext.dr aW;have rwas:=rwas.ext X;have zd:=lv aW;have hS:=λ(cur:World) (X:Ext aW cur)=>Dc (w:=cur) (ahG.ext X) hv b.box hnb hm (pV b.aH d)
  generalize kI V aI b.box (pV b.aH d)=y at*;refine ⟨?_,?_,?_⟩
  ·refine (gV b d aW.drew).mono ?_;rintro e v1 ⟨rfl,xn⟩;have z1:=xn.size;refine ⟨_,_,_,rfl,xn.heap aa,xn.heap aa,xn.heap aa,xn.heap aa,Lo.wv (rwas.ext xn),?_⟩;have X:=X.tr xn;have rwas:=rwas.ext xn;refine ⟨?_,?_,?_⟩
   ·refine (hS v1 X).mono ?_;rintro e v2 ⟨rfl,xn⟩;have z2:=xn.size;refine ⟨_,_,_,_,_,_,_,_,_,rfl,xn.heap aa,xn.heap aa,xn.heap aa,xn.heap aa,?_⟩;have X:=X.tr xn;have rwas:=rwas.ext xn;refine ⟨?_,?_⟩
    ·intro v3 en;have xn:=aL en;have z3:=zA en;have rBn:Row v3 v2 [ab,ab,ab,ab,ab,ab] bE:=Row.nw en;have X:=X.tr xn;have rwas:=rwas.ext xn;have rB:=rBn;intro v4 en;have xn:=aL en;have z4:=zA en;have rHn:Row v4 v3 (hL (false,false,false)) dy:=Row.nw en;have X:=X.tr xn;have rwas:=rwas.ext xn;have rB:=rB.ext xn;have rH:=rHn;intro og dZ;have zs:=zR dZ;have rB:Row og v2 (fQ y.1) bE:=rB.st dZ;have rH:=rH.so dZ;have X:=X.af dZ aa;refine ⟨⟨rfl,rH.wr bt⟩,cV aa,cV aa,cV aa,cV aa,cV aa,λwt et=> ?_⟩;rw [rH.aG (vs:=hL y.2) bt (gf _),aQ bt] at et;have zt:=zR et;have rB:=rB.so et;have rH:Row wt v3 (hL y.2) dy:=rH.st et;exact ⟨rfl,rfl,rfl,rfl,_,_,rfl,rB,rH,X.af et aa,by omega⟩
    ·intro v3 en;have xn:=aL en;have z3:=zA en;have rHn:Row v3 v2 (hL (false,false,false)) dy:=Row.nw en;have X:=X.tr xn;have rwas:=rwas.ext xn;have rH:=rHn;intro v4 en;have xn:=aL en;have z4:=zA en;have rBn:Row v4 v3 [ab,ab,ab,ab,ab,ab] bE:=Row.nw en;have X:=X.tr xn;have rwas:=rwas.ext xn;have rH:=rH.ext xn;have rB:=rBn;intro og dZ;have zs:=zR dZ;have rB:Row og v3 (fQ y.1) bE:=rB.st dZ;have rH:=rH.so dZ;have X:=X.af dZ aa;refine ⟨⟨rfl,rH.wr bt⟩,cV aa,cV aa,cV aa,cV aa,cV aa,λwt et=> ?_⟩;rw [rH.aG (vs:=hL y.2) bt (gf _),aQ bt] at et;have zt:=zR et;have rB:=rB.so et;have rH:Row wt v2 (hL y.2) dy:=rH.st et;exact ⟨rfl,rfl,rfl,rfl,_,_,rfl,rB,rH,X.af et aa,by omega⟩
   ·intro v2 en;have xn:=aL en;have z2:=zA en;have rBn:Row v2 v1 [ab,ab,ab,ab,ab,ab] bE:=Row.nw en;have X:=X.tr xn;have rwas:=rwas.ext xn;have rB:=rBn;refine ⟨?_,?_⟩
    ·refine (hS v2 X).mono ?_;rintro e v3 ⟨rfl,xn⟩;have z3:=xn.size;refine ⟨_,_,_,_,_,_,_,_,_,rfl,xn.heap aa,xn.heap aa,xn.heap aa,xn.heap aa,xn.heap aa,?_⟩;have X:=X.tr xn;have rwas:=rwas.ext xn;have rB:=rB.ext xn;intro v4 en;have xn:=aL en;have z4:=zA en;have rHn:Row v4 v3 (hL (false,false,false)) dy:=Row.nw en;have X:=X.tr xn;have rwas:=rwas.ext xn;have rB:=rB.ext xn;have rH:=rHn;intro og dZ;have zs:=zR dZ;have rB:Row og v1 (fQ y.1) bE:=rB.st dZ;have rH:=rH.so dZ;have X:=X.af dZ aa;refine ⟨⟨rfl,rH.wr bt⟩,cV aa,cV aa,cV aa,cV aa,cV aa,λwt et=> ?_⟩;rw [rH.aG (vs:=hL y.2) bt (gf _),aQ bt] at et;have zt:=zR et;have rB:=rB.so et;have rH:Row wt v3 (hL y.2) dy:=rH.st et;exact ⟨rfl,rfl,rfl,rfl,_,_,rfl,rB,rH,X.af et aa,by omega⟩
    ·intro v3 en;have xn:=aL en;have z3:=zA en;have rHn:Row v3 v2 (hL (false,false,false)) dy:=Row.nw en;have X:=X.tr xn;have rwas:=rwas.ext xn;have rB:=rB.ext xn;have rH:=rHn;refine (hS v3 X).mono ?_;rintro e v4 ⟨rfl,xn⟩;have z4:=xn.size;refine ⟨_,_,_,_,_,_,_,_,_,rfl,xn.heap aa,xn.heap aa,xn.heap aa,xn.heap aa,xn.heap aa,?_⟩;have X:=X.tr xn;have rwas:=rwas.ext xn;have rB:=rB.ext xn;have rH:=rH.ext xn;intro og dZ;have zs:=zR dZ;have rB:Row og v1 (fQ y.1) bE:=rB.st dZ;have rH:=rH.so dZ;have X:=X.af dZ aa;refine ⟨⟨rfl,rH.wr bt⟩,cV aa,cV aa,cV aa,cV aa,cV aa,λwt et=> ?_⟩;rw [rH.aG (vs:=hL y.2) bt (gf _),aQ bt] at et;have zt:=zR et;have rB:=rB.so et;have rH:Row wt v2 (hL y.2) dy:=rH.st et;exact ⟨rfl,rfl,rfl,rfl,_,_,rfl,rB,rH,X.af et aa,by omega⟩
   ·intro v2 en;have xn:=aL en;have z2:=zA en;have rHn:Row v2 v1 (hL (false,false,false)) dy:=Row.nw en;have X:=X.tr xn;have rwas:=rwas.ext xn;have rH:=rHn;refine ⟨?_,?_⟩
    ·refine (hS v2 X).mono ?_;rintro e v3 ⟨rfl,xn⟩;have z3:=xn.size;refine ⟨_,_,_,_,_,_,_,_,_,rfl,xn.heap aa,xn.heap aa,xn.heap aa,xn.heap aa,?_⟩;have X:=X.tr xn;have rwas:=rwas.ext xn;have rH:=rH.ext xn;intro v4 en;have xn:=aL en;have z4:=zA en;have rBn:Row v4 v3 [ab,ab,ab,ab,ab,ab] bE:=Row.nw en;have X:=X.tr xn;have rwas:=rwas.ext xn;have rH:=rH.ext xn;have rB:=rBn;intro og dZ;have zs:=zR dZ;have rB:Row og v3 (fQ y.1) bE:=rB.st dZ;have rH:=rH.so dZ;have X:=X.af dZ aa;refine ⟨⟨rfl,rH.wr bt⟩,cV aa,cV aa,cV aa,cV aa,cV aa,λwt et=> ?_⟩;rw [rH.aG (vs:=hL y.2) bt (gf _),aQ bt] at et;have zt:=zR et;have rB:=rB.so et;have rH:Row wt v1 (hL y.2) dy:=rH.st et;exact ⟨rfl,rfl,rfl,rfl,_,_,rfl,rB,rH,X.af et aa,by omega⟩
    ·intro v3 en;have xn:=aL en;have z3:=zA en;have rBn:Row v3 v2 [ab,ab,ab,ab,ab,ab] bE:=Row.nw en;have X:=X.tr xn;have rwas:=rwas.ext xn;have rH:=rH.ext xn;have rB:=rBn;refine (hS v3 X).mono ?_;rintro e v4 ⟨rfl,xn⟩;have z4:=xn.size;refine ⟨_,_,_,_,_,_,_,_,_,rfl,xn.heap aa,xn.heap aa,xn.heap aa,xn.heap aa,xn.heap aa,?_⟩;have X:=X.tr xn;have rwas:=rwas.ext xn;have rB:=rB.ext xn;have rH:=rH.ext xn;intro og dZ;have zs:=zR dZ;have rB:Row og v2 (fQ y.1) bE:=rB.st dZ;have rH:=rH.so dZ;have X:=X.af dZ aa;refine ⟨⟨rfl,rH.wr bt⟩,cV aa,cV aa,cV aa,cV aa,cV aa,λwt et=> ?_⟩;rw [rH.aG (vs:=hL y.2) bt (gf _),aQ bt] at et;have zt:=zR et;have rB:=rB.so et;have rH:Row wt v1 (hL y.2) dy:=rH.st et;exact ⟨rfl,rfl,rfl,rfl,_,_,rfl,rB,rH,X.af et aa,by omega⟩
  ·intro v1 en;have xn:=aL en;have z1:=zA en;have rBn:Row v1 aW.drew.heap.size [ab,ab,ab,ab,ab,ab] bE:=Row.nw en;have X:=X.tr xn;have rwas:=rwas.ext xn;have rB:=rBn;refine ⟨?_,?_⟩
   ·refine (gV b d v1).mono ?_;rintro e v2 ⟨rfl,xn⟩;have z2:=xn.size;refine ⟨_,_,_,rfl,xn.heap aa,xn.heap aa,xn.heap aa,xn.heap aa,xn.heap aa,Lo.wv (rwas.ext xn),?_⟩;have X:=X.tr xn;have rwas:=rwas.ext xn;have rB:=rB.ext xn;refine ⟨?_,?_⟩
    ·refine (hS v2 X).mono ?_;rintro e v3 ⟨rfl,xn⟩;have z3:=xn.size;refine ⟨_,_,_,_,_,_,_,_,_,rfl,xn.heap aa,xn.heap aa,xn.heap aa,xn.heap aa,xn.heap aa,?_⟩;have X:=X.tr xn;have rwas:=rwas.ext xn;have rB:=rB.ext xn;intro v4 en;have xn:=aL en;have z4:=zA en;have rHn:Row v4 v3 (hL (false,false,false)) dy:=Row.nw en;have X:=X.tr xn;have rwas:=rwas.ext xn;have rB:=rB.ext xn;have rH:=rHn;intro og dZ;have zs:=zR dZ;have rB:Row og aW.drew.heap.size (fQ y.1) bE:=rB.st dZ;have rH:=rH.so dZ;have X:=X.af dZ aa;refine ⟨⟨rfl,rH.wr bt⟩,cV aa,cV aa,cV aa,cV aa,cV aa,λwt et=> ?_⟩;rw [rH.aG (vs:=hL y.2) bt (gf _),aQ bt] at et;have zt:=zR et;have rB:=rB.so et;have rH:Row wt v3 (hL y.2) dy:=rH.st et;exact ⟨rfl,rfl,rfl,rfl,_,_,rfl,rB,rH,X.af et aa,by omega⟩
    ·intro v3 en;have xn:=aL en;have z3:=zA en;have rHn:Row v3 v2 (hL (false,false,false)) dy:=Row.nw en;have X:=X.tr xn;have rwas:=rwas.ext xn;have rB:=rB.ext xn;have rH:=rHn;refine (hS v3 X).mono ?_;rintro e v4 ⟨rfl,xn⟩;have z4:=xn.size;refine ⟨_,_,_,_,_,_,_,_,_,rfl,xn.heap aa,xn.heap aa,xn.heap aa,xn.heap aa,xn.heap aa,?_⟩;have X:=X.tr xn;have rwas:=rwas.ext xn;have rB:=rB.ext xn;have rH:=rH.ext xn;intro og dZ;have zs:=zR dZ;have rB:Row og aW.drew.heap.size (fQ y.1) bE:=rB.st dZ;have rH:=rH.so dZ;have X:=X.af dZ aa;refine ⟨⟨rfl,rH.wr bt⟩,cV aa,cV aa,cV aa,cV aa,cV aa,λwt et=> ?_⟩;rw [rH.aG (vs:=hL y.2) bt (gf _),aQ bt] at et;have zt:=zR et;have rB:=rB.so et;have rH:Row wt v2 (hL y.2) dy:=rH.st et;exact ⟨rfl,rfl,rfl,rfl,_,_,rfl,rB,rH,X.af et aa,by omega⟩
   ·intro v2 en;have xn:=aL en;have z2:=zA en;have rHn:Row v2 v1 (hL (false,false,false)) dy:=Row.nw en;have X:=X.tr xn;have rwas:=rwas.ext xn;have rB:=rB.ext xn;have rH:=rHn;refine (gV b d v2).mono ?_;rintro e v3 ⟨rfl,xn⟩;have z3:=xn.size;refine ⟨_,_,_,rfl,xn.heap aa,xn.heap aa,xn.heap aa,xn.heap aa,xn.heap aa,Lo.wv (rwas.ext xn),?_⟩;have X:=X.tr xn;have rwas:=rwas.ext xn;have rB:=rB.ext xn;have rH:=rH.ext xn;refine (hS v3 X).mono ?_;rintro e v4 ⟨rfl,xn⟩;have z4:=xn.size;refine ⟨_,_,_,_,_,_,_,_,_,rfl,xn.heap aa,xn.heap aa,xn.heap aa,xn.heap aa,xn.heap aa,?_⟩;have X:=X.tr xn;have rwas:=rwas.ext xn;have rB:=rB.ext xn;have rH:=rH.ext xn;intro og dZ;have zs:=zR dZ;have rB:Row og aW.drew.heap.size (fQ y.1) bE:=rB.st dZ;have rH:=rH.so dZ;have X:=X.af dZ aa;refine ⟨⟨rfl,rH.wr bt⟩,cV aa,cV aa,cV aa,cV aa,cV aa,λwt et=> ?_⟩;rw [rH.aG (vs:=hL y.2) bt (gf _),aQ bt] at et;have zt:=zR et;have rB:=rB.so et;have rH:Row wt v1 (hL y.2) dy:=rH.st et;exact ⟨rfl,rfl,rfl,rfl,_,_,rfl,rB,rH,X.af et aa,by omega⟩
  ·intro v1 en;have xn:=aL en;have z1:=zA en;have rHn:Row v1 aW.drew.heap.size (hL (false,false,false)) dy:=Row.nw en;have X:=X.tr xn;have rwas:=rwas.ext xn;have rH:=rHn;refine ⟨?_,?_⟩
   ·refine (gV b d v1).mono ?_;rintro e v2 ⟨rfl,xn⟩;have z2:=xn.size;refine ⟨_,_,_,rfl,xn.heap aa,xn.heap aa,xn.heap aa,xn.heap aa,Lo.wv (rwas.ext xn),?_⟩;have X:=X.tr xn;have rwas:=rwas.ext xn;have rH:=rH.ext xn;refine ⟨?_,?_⟩
    ·refine (hS v2 X).mono ?_;rintro e v3 ⟨rfl,xn⟩;have z3:=xn.size;refine ⟨_,_,_,_,_,_,_,_,_,rfl,xn.heap aa,xn.heap aa,xn.heap aa,xn.heap aa,?_⟩;have X:=X.tr xn;have rwas:=rwas.ext xn;have rH:=rH.ext xn;intro v4 en;have xn:=aL en;have z4:=zA en;have rBn:Row v4 v3 [ab,ab,ab,ab,ab,ab] bE:=Row.nw en;have X:=X.tr xn;have rwas:=rwas.ext xn;have rH:=rH.ext xn;have rB:=rBn;intro og dZ;have zs:=zR dZ;have rB:Row og v3 (fQ y.1) bE:=rB.st dZ;have rH:=rH.so dZ;have X:=X.af dZ aa;refine ⟨⟨rfl,rH.wr bt⟩,cV aa,cV aa,cV aa,cV aa,cV aa,λwt et=> ?_⟩;rw [rH.aG (vs:=hL y.2) bt (gf _),aQ bt] at et;have zt:=zR et;have rB:=rB.so et;have rH:Row wt aW.drew.heap.size (hL y.2) dy:=rH.st et;exact ⟨rfl,rfl,rfl,rfl,_,_,rfl,rB,rH,X.af et aa,by omega⟩
    ·intro v3 en;have xn:=aL en;have z3:=zA en;have rBn:Row v3 v2 [ab,ab,ab,ab,ab,ab] bE:=Row.nw en;have X:=X.tr xn;have rwas:=rwas.ext xn;have rH:=rH.ext xn;have rB:=rBn;refine (hS v3 X).mono ?_;rintro e v4 ⟨rfl,xn⟩;have z4:=xn.size;refine ⟨_,_,_,_,_,_,_,_,_,rfl,xn.heap aa,xn.heap aa,xn.heap aa,xn.heap aa,xn.heap aa,?_⟩;have X:=X.tr xn;have rwas:=rwas.ext xn;have rB:=rB.ext xn;have rH:=rH.ext xn;intro og dZ;have zs:=zR dZ;have rB:Row og v2 (fQ y.1) bE:=rB.st dZ;have rH:=rH.so dZ;have X:=X.af dZ aa;refine ⟨⟨rfl,rH.wr bt⟩,cV aa,cV aa,cV aa,cV aa,cV aa,λwt et=> ?_⟩;rw [rH.aG (vs:=hL y.2) bt (gf _),aQ bt] at et;have zt:=zR et;have rB:=rB.so et;have rH:Row wt aW.drew.heap.size (hL y.2) dy:=rH.st et;exact ⟨rfl,rfl,rfl,rfl,_,_,rfl,rB,rH,X.af et aa,by omega⟩
   ·intro v2 en;have xn:=aL en;have z2:=zA en;have rBn:Row v2 v1 [ab,ab,ab,ab,ab,ab] bE:=Row.nw en;have X:=X.tr xn;have rwas:=rwas.ext xn;have rH:=rH.ext xn;have rB:=rBn;refine (gV b d v2).mono ?_;rintro e v3 ⟨rfl,xn⟩;have z3:=xn.size;refine ⟨_,_,_,rfl,xn.heap aa,xn.heap aa,xn.heap aa,xn.heap aa,xn.heap aa,Lo.wv (rwas.ext xn),?_⟩;have X:=X.tr xn;have rwas:=rwas.ext xn;have rB:=rB.ext xn;have rH:=rH.ext xn;refine (hS v3 X).mono ?_;rintro e v4 ⟨rfl,xn⟩;have z4:=xn.size;refine ⟨_,_,_,_,_,_,_,_,_,rfl,xn.heap aa,xn.heap aa,xn.heap aa,xn.heap aa,xn.heap aa,?_⟩;have X:=X.tr xn;have rwas:=rwas.ext xn;have rB:=rB.ext xn;have rH:=rH.ext xn;intro og dZ;have zs:=zR dZ;have rB:Row og v1 (fQ y.1) bE:=rB.st dZ;have rH:=rH.so dZ;have X:=X.af dZ aa;refine ⟨⟨rfl,rH.wr bt⟩,cV aa,cV aa,cV aa,cV aa,cV aa,λwt et=> ?_⟩;rw [rH.aG (vs:=hL y.2) bt (gf _),aQ bt] at et;have zt:=zR et;have rB:=rB.so et;have rH:Row wt aW.drew.heap.size (hL y.2) dy:=rH.st et;exact ⟨rfl,rfl,rfl,rfl,_,_,rfl,rB,rH,X.af et aa,by omega⟩
 ·rintro us GG wj ⟨gB,gH,rfl,rB,rH,xj,hgB⟩;have zj:=xj.size;have xd:=Ext.dr wj;have zd:=lv wj;rw [hgo];generalize kI V aI b.box (pV b.aH d)=y at*;refine gr rfl ⟨_,_,_,qL (o:=0) (rB.ext xd) rfl rfl rfl,(uh y.1.1 b.box.1 wj.drew).mono ?_⟩;rintro e V7 ⟨rfl,AH⟩;have ays:=AH.size;have ae8:=xj.tr (xd.tr AH);refine ⟨_,_,_,rfl,AH.heap aa,AH.heap aa,AH.heap aa,AH.heap aa,qL (rb.ext ae8) rfl rfl rfl,(iS b.aH (zD y.1.1 b.box.1) V7).mono ?_⟩;rintro e agY ⟨rfl,GH⟩;have ayt:=GH.size;refine ⟨_,_,_,rfl,GH.heap aa,GH.heap aa,GH.heap aa,GH.heap aa,λagZ arz ua Wm=>⟨rfl,((xw.tr (ae8.tr GH)).af arz (aB _)).af Wm aa⟩⟩
theorem HY (V:Ce->Int) (b:ep) (i:FR):(pT V b i).box=b.box/\(pT V b i).wd=b.wd:=by
 unfold pT;split
 ·exact ⟨rfl,rfl⟩
 ·split<;>exact ⟨rfl,rfl⟩
def upB (V:Ce->Int) (b:ep) (i:FR):Nat->ep
 |0=>b
 |1=>rO b i
 |2=>pT V (rO b i) i
 |_=>Lz V (pT V (rO b i) i)
def tw (V:Ce->Int) (b:ep) (i:FR):ep:=Lz V (pT V (rO b i) i)
theorem DG {v:Value} {V:Ce->Int} {w:World} (hV:Tl v V w) (hv:ke v=[]) (b:ep) (hw:bS b.wd) (hs: -1000000<=b.speed.2.1/\b.speed.2.1<=1000000) {m:Int} (hnb:dh b.box m) (hm:m<=99980000000000) (i:FR):
  ah 116 #[BG b,v,inV i] w λe w'=>e=(BG (tw V b i))/\Ext w w':=by
 apply Dr.vc;intro w0 e0 w1 e1 w2 e2;have x0:=aL e0;have z0:=zA e0;have x1:=aL e1;have z1:=zA e1;have x2:=aL e2;have z2:=zA e2;have yA:=x0.tr (x1.tr x2);refine ⟨λn x a0 a1 a2 a3 a4 a5 a6 a7 a8 wr=>∃k:Nat,x=k/\k+n=3/\upB V b i k=⟨(a0,a1,a2),(a3,a4,a5),a6,a7,a8⟩/\Ext w wr/\w2.heap.size<=wr,⟨3,rfl,rfl,0,rfl,rfl,rfl,yA,aB _⟩,?_⟩;rintro n us x a0 a1 a2 a3 a4 a5 a6 a7 a8 wr ⟨k,rfl,hk,hu,xr,zr⟩;apply Br.mk<;>intro hc
 ·have hc:(k:Int)<3:=by simpa using hc
  have yR:k=0\/k=1\/k=2:=by omega
  have hVr:=hV.ext xr;obtain ⟨fv,h1,h2⟩:∃fv:Value,([.func (.func 166) #[] #[],.func (.func 167) #[] #[],.func (.func 168) #[] #[]]:LV)[((k:Nat):Int).toNat*1]? =some fv/\cw Tryz.prog fv [BG (upB V b i k),v,inV i] wr λe w'=>e=(BG (upB V b i (k+1)))/\Ext wr w':=by
   rcases yR with rfl|rfl|rfl
   ·exact ⟨_,rfl,cU (by kernel_rfl) rfl (Qd b v i wr)⟩
   ·exact ⟨_,rfl,cU (by kernel_rfl) rfl (Qe hVr hv (rO b i) hw hs i)⟩
   ·refine ⟨_,rfl,cU (by kernel_rfl) rfl (U1 hVr hv (pT V (rO b i) i) ?_ (m:=m) ?_ hm i)⟩
    ·rw [(HY V (rO b i) i).2];exact hw
    ·rw [(HY V (rO b i) i).1];exact hnb
  rw [hu] at h2;have wk:=mh (j:=k);refine ⟨⟨by omega,by omega⟩,fv,h1,dq h2 ?_⟩;rintro e fy ⟨rfl,cr⟩;have z19:=cr.size;refine ⟨_,_,_,_,_,_,_,_,_,rfl,cr.heap aa,cr.heap aa,cr.heap aa,λdH MP=>⟨n-1,by omega,rfl,rfl,k+1,wk,by omega,rfl,(xr.tr cr).af MP aa,by rw [zR MP];omega⟩⟩
 ·have hc:¬(k:Int)<3:=by simpa using hc
  have yR:k=3:=by omega
  subst yR;intro ed wO;have hu:tw V b i=_:=hu;exact ⟨by rw [hu],xr.af wO aa⟩
def ovK (a b:Bx) (i:Int):Bool:=decide (di a.1 i<di b.2 i) && decide (di b.1 i<di a.2 i)
def jA (a b:Bx):Bool:=ovK a b 0 && ovK a b 1 && ovK a b 2
theorem Gq (a b:Bx) (i:Int) {ga gb:Nat} {w:World} (ha:Row w ga (fQ a) bE) (hb:Row w gb (fQ b) bE):
  ah 177 #[i,ga,gb] w λe w'=>e=Value.bool (ovK a b i)/\Ext w w':=by
 apply FV.vc;have xd:=Ext.dr w;refine ⟨_,_,_,qL (o:=0) (ha.ext xd) rfl rfl rfl,_,_,_,qL (o:=3) (hb.ext xd) rfl rfl rfl,(dj a.1 i w.drew).mono ?_⟩;rintro e w6 ⟨rfl,x6⟩;have y6:=xd.tr x6;refine ⟨_,rfl,qL (o:=3) (hb.ext y6) rfl rfl rfl,(dj b.2 i w6).mono ?_⟩;rintro e w8 ⟨rfl,x8⟩;have y8:=y6.tr x8;unfold ovK;refine ⟨_,rfl,Br.mk (λhc=>⟨_,_,_,qL (o:=0) (hb.ext y8) rfl rfl rfl,_,_,_,qL (o:=3) (ha.ext y8) rfl rfl rfl,(dj b.1 i w8).mono ?_⟩) (λhc=>⟨by rw [hc,Bool.false_and],y8⟩)⟩;rintro e cB ⟨rfl,cp⟩;have y16:=y8.tr cp;refine ⟨_,rfl,qL (o:=3) (ha.ext y16) rfl rfl rfl,(dj a.2 i cB).mono ?_⟩;rintro e dA ⟨rfl,cg⟩;exact ⟨_,rfl,by rw [hc,Bool.true_and],y16.tr cg⟩
theorem ZB (f:Int->Bool) (fv:Value) (w:World) (hf:∀w',Ext w w'->∀i:Int,cw Tryz.prog fv [i] w' λe w''=>e=Value.bool (f i)/\Ext w' w''):
  ah 176 #[fv] w λe w'=>e=Value.bool (f 0 && f 1 && f 2)/\Ext w w':=by
 apply abY.vc;refine ⟨λn x wr=>∃k:Nat,x=k/\k+n=3/\(∀j:Nat,j<k->f j=true)/\Ext w wr,⟨3,0,rfl,rfl,λj hj=>absurd hj aa,Ext.cQ _⟩,?_⟩;rintro n us x wr ⟨k,rfl,hk,hj,xr⟩;apply Br.mk<;>intro hc
 ·have hc:(k:Int)<3:=by simpa using hc
  refine dq (hf wr xr k) ?_;rintro e w6 ⟨rfl,x6⟩;have wk:=mh (j:=k);refine ⟨_,rfl,Br.mk (λhq=>⟨?_,xr.tr x6⟩) (λhq=>⟨n-1,by omega,k+1,wk,by omega,λj QK=> ?_,xr.tr x6⟩)⟩
  ·have hq:f k=false:=by simpa using hq
   have yR:k=0\/k=1\/k=2:=by omega
   have:(f 0 && f 1 && f 2)=false:=by
    rcases yR with rfl|rfl|rfl
    ·rw [show f 0=false from hq];rfl
    ·rw [show f 1=false from hq,Bool.and_false];rfl
    ·rw [show f 2=false from hq,Bool.and_false]
   rw [this]
  ·have hq:f k=true:=by simpa using hq
   by_cases he:j=k
   ·rw [he];exact hq
   ·exact hj j aa
 ·have hc:¬(k:Int)<3:=by simpa using hc
  refine ⟨?_,xr⟩;rw [show f 0=true from hj 0 aa,show f 1=true from hj 1 aa,show f 2=true from hj 2 aa];rfl
theorem yn (a b:Bx) (w:World):ah 124 #[qG a,qG b] w λe w'=>e=Value.bool (jA a b)/\Ext w w':=by
 apply KM.vc;intro w0 e0 w1 e1;have x0:=aL e0;have r0:Row w0 w (fQ a) bE:=Row.nw e0;have x1:=aL e1;have r1:Row w1 w0 (fQ b) bE:=Row.nw e1;have z0:=zA e0;have z1:=zA e1;refine (ZB (ovK a b) (.func (.func 177) #[] #[w,w0]) w1 λw' x' i=>cU (by kernel_rfl) rfl (Gq a b i (r0.ext (x1.tr x')) (r1.ext x'))).mono ?_;rintro e w2 ⟨rfl,x2⟩;have z2:=x2.size
 first
  |exact ⟨_,rfl,rfl,x0.tr (x1.tr x2)⟩
  |exact ⟨_,rfl,x2.heap aa,x2.heap aa,rfl,x0.tr (x1.tr x2)⟩
def Mg (x y:Bx) (i:Int):Int:=aj ((if di y.2 i<di x.2 i then di y.2 i else di x.2 i)-(if di y.1 i>di x.1 i then di y.1 i else di x.1 i))
theorem we (a b:Bx) (i:Int) {ga gb:Nat} {w:World} (ha:Row w ga (fQ a) bE) (hb:Row w gb (fQ b) bE):
  ah 239 #[i,ga,gb] w λe w'=>e=Value.int .i64 (Mg a b i)/\Ext w w':=by
 apply KN.vc;have xd:=Ext.dr w;refine ⟨_,_,_,qL (o:=3) (ha.ext xd) rfl rfl rfl,_,_,_,qL (o:=3) (hb.ext xd) rfl rfl rfl,_,_,_,qL (o:=0) (ha.ext xd) rfl rfl rfl,_,_,_,qL (o:=0) (hb.ext xd) rfl rfl rfl,(dj a.2 i w.drew).mono ?_⟩;rintro e w6 ⟨rfl,x6⟩;have y6:=xd.tr x6;refine ⟨_,rfl,qL (o:=0) (hb.ext y6) rfl rfl rfl,qL (o:=0) (ha.ext y6) rfl rfl rfl,qL (o:=3) (hb.ext y6) rfl rfl rfl,(dj b.2 i w6).mono ?_⟩;rintro e w8 ⟨rfl,x8⟩;have y8:=y6.tr x8;refine ⟨_,rfl,qL (o:=0) (hb.ext y8) rfl rfl rfl,qL (o:=0) (ha.ext y8) rfl rfl rfl,(dj a.1 i w8).mono ?_⟩;rintro e cB ⟨rfl,cp⟩;have y16:=y8.tr cp;refine ⟨_,rfl,qL (o:=0) (hb.ext y16) rfl rfl rfl,(dj b.1 i cB).mono ?_⟩;rintro e dA ⟨rfl,cg⟩;exact ⟨_,rfl,rfl,y16.tr cg⟩
def U3 (a b:ep):Int:=if Mg a.box b.box 0>Mg a.box b.box 2 then 2 else 0
def nP (a b:ep):Int:=if 4096<Mg a.box b.box (U3 a b) then 4096 else Mg a.box b.box (U3 a b)
def sP (a b:ep):Int:=if di a.aH (U3 a b)<=di b.aH (U3 a b) then aj (0-nP a b) else nP a b
def fC (a b:ep):Ce × Ce:=if jA a.box b.box=true then (iD (0,0,0) (U3 a b) (sP a b),iD (0,0,0) (U3 a b) (aj (0-sP a b))) else ((0,0,0),(0,0,0))
theorem pW (a b:ep) (WS:bS a.wd) (FI:bS b.wd) (w:World):
  ah 170 #[BG a,BG b] w λe w'=>e=Value.tuple #[ea (fC a b).1,ea (fC a b).2]/\Ext w w':=by
 apply Tx.vc;intro w0 e0 w1 e1 w2 e2 w3 e3;have x0:=aL e0;have z0:=zA e0;have r0:Row w0 w (jo a) yQ:=Row.nw e0;have x1:=aL e1;have z1:=zA e1;have r1:Row w1 w0 (jo b) yQ:=Row.nw e1;have x2:=aL e2;have z2:=zA e2;have x3:=aL e3;have z3:=zA e3;have Av:=x0.tr (x1.tr (x2.tr x3));have ra:=r0.ext (x1.tr (x2.tr x3));have rb:=r1.ext (x2.tr x3);refine ⟨λp q wj=>∃gX gY:Nat,p=some ⟨gX,0,none⟩/\q=some ⟨gY,0,none⟩/\Row wj gX (fQ a.box) bE/\Row wj gY (fQ b.box) bE/\Ext w3 wj,?_,?_⟩
 ·have X:=Ext.dr w3;have zd:=lv w3;refine ⟨?_,?_,?_⟩
  ·refine (cO a WS w3.drew).mono ?_;rintro e v1 ⟨rfl,xn⟩;have z1:=xn.size;refine ⟨_,_,_,_,_,_,rfl,xn.heap aa,xn.heap aa,xn.heap aa,xn.heap aa,Lo.wv (r1.ext (x2.tr (x3.tr (X.tr xn)))),?_⟩;have X:=X.tr xn;refine ⟨?_,?_,?_⟩
   ·refine (cO b FI v1).mono ?_;rintro e v2 ⟨rfl,xn⟩;have z2:=xn.size;refine ⟨_,_,_,_,_,_,rfl,xn.heap aa,xn.heap aa,xn.heap aa,xn.heap aa,?_⟩;have X:=X.tr xn;refine ⟨?_,?_⟩
    ·intro v3 en;have xn:=aL en;have z3:=zA en;have rXn:Row v3 v2 [ab,ab,ab,ab,ab,ab] bE:=Row.nw en;have X:=X.tr xn;have rX:=rXn;intro v4 en;have xn:=aL en;have z4:=zA en;have rYn:Row v4 v3 [ab,ab,ab,ab,ab,ab] bE:=Row.nw en;have X:=X.tr xn;have rX:=rX.ext xn;have rY:=rYn;intro ws es wt et;have zs:=zR es;have zt:=zR et;have rX:Row ws v2 (fQ a.box) bE:=rX.st es;have rY:=rY.so es;have rY:Row wt v3 (fQ b.box) bE:=rY.st et;have rX:=rX.so et;exact ⟨rfl,rfl,rfl,rfl,_,_,rfl,rfl,rX,rY,(X.af es aa).af et aa⟩
    ·intro v3 en;have xn:=aL en;have z3:=zA en;have rYn:Row v3 v2 [ab,ab,ab,ab,ab,ab] bE:=Row.nw en;have X:=X.tr xn;have rY:=rYn;intro v4 en;have xn:=aL en;have z4:=zA en;have rXn:Row v4 v3 [ab,ab,ab,ab,ab,ab] bE:=Row.nw en;have X:=X.tr xn;have rY:=rY.ext xn;have rX:=rXn;intro ws es wt et;have zs:=zR es;have zt:=zR et;have rX:Row ws v3 (fQ a.box) bE:=rX.st es;have rY:=rY.so es;have rY:Row wt v2 (fQ b.box) bE:=rY.st et;have rX:=rX.so et;exact ⟨rfl,rfl,rfl,rfl,_,_,rfl,rfl,rX,rY,(X.af es aa).af et aa⟩
   ·intro v2 en;have xn:=aL en;have z2:=zA en;have rXn:Row v2 v1 [ab,ab,ab,ab,ab,ab] bE:=Row.nw en;have X:=X.tr xn;have rX:=rXn;refine ⟨?_,?_⟩
    ·refine (cO b FI v2).mono ?_;rintro e v3 ⟨rfl,xn⟩;have z3:=xn.size;refine ⟨_,_,_,_,_,_,rfl,xn.heap aa,xn.heap aa,xn.heap aa,xn.heap aa,xn.heap aa,?_⟩;have X:=X.tr xn;have rX:=rX.ext xn;intro v4 en;have xn:=aL en;have z4:=zA en;have rYn:Row v4 v3 [ab,ab,ab,ab,ab,ab] bE:=Row.nw en;have X:=X.tr xn;have rX:=rX.ext xn;have rY:=rYn;intro ws es wt et;have zs:=zR es;have zt:=zR et;have rX:Row ws v1 (fQ a.box) bE:=rX.st es;have rY:=rY.so es;have rY:Row wt v3 (fQ b.box) bE:=rY.st et;have rX:=rX.so et;exact ⟨rfl,rfl,rfl,rfl,_,_,rfl,rfl,rX,rY,(X.af es aa).af et aa⟩
    ·intro v3 en;have xn:=aL en;have z3:=zA en;have rYn:Row v3 v2 [ab,ab,ab,ab,ab,ab] bE:=Row.nw en;have X:=X.tr xn;have rX:=rX.ext xn;have rY:=rYn;refine (cO b FI v3).mono ?_;rintro e v4 ⟨rfl,xn⟩;have z4:=xn.size;refine ⟨_,_,_,_,_,_,rfl,xn.heap aa,xn.heap aa,xn.heap aa,xn.heap aa,xn.heap aa,xn.heap aa,?_⟩;have X:=X.tr xn;have rX:=rX.ext xn;have rY:=rY.ext xn;intro ws es wt et;have zs:=zR es;have zt:=zR et;have rX:Row ws v1 (fQ a.box) bE:=rX.st es;have rY:=rY.so es;have rY:Row wt v2 (fQ b.box) bE:=rY.st et;have rX:=rX.so et;exact ⟨rfl,rfl,rfl,rfl,_,_,rfl,rfl,rX,rY,(X.af es aa).af et aa⟩
   ·intro v2 en;have xn:=aL en;have z2:=zA en;have rYn:Row v2 v1 [ab,ab,ab,ab,ab,ab] bE:=Row.nw en;have X:=X.tr xn;have rY:=rYn;refine ⟨?_,?_⟩
    ·refine (cO b FI v2).mono ?_;rintro e v3 ⟨rfl,xn⟩;have z3:=xn.size;refine ⟨_,_,_,_,_,_,rfl,xn.heap aa,xn.heap aa,xn.heap aa,xn.heap aa,xn.heap aa,?_⟩;have X:=X.tr xn;have rY:=rY.ext xn;intro v4 en;have xn:=aL en;have z4:=zA en;have rXn:Row v4 v3 [ab,ab,ab,ab,ab,ab] bE:=Row.nw en;have X:=X.tr xn;have rY:=rY.ext xn;have rX:=rXn;intro ws es wt et;have zs:=zR es;have zt:=zR et;have rX:Row ws v3 (fQ a.box) bE:=rX.st es;have rY:=rY.so es;have rY:Row wt v1 (fQ b.box) bE:=rY.st et;have rX:=rX.so et;exact ⟨rfl,rfl,rfl,rfl,_,_,rfl,rfl,rX,rY,(X.af es aa).af et aa⟩
    ·intro v3 en;have xn:=aL en;have z3:=zA en;have rXn:Row v3 v2 [ab,ab,ab,ab,ab,ab] bE:=Row.nw en;have X:=X.tr xn;have rY:=rY.ext xn;have rX:=rXn;refine (cO b FI v3).mono ?_;rintro e v4 ⟨rfl,xn⟩;have z4:=xn.size;refine ⟨_,_,_,_,_,_,rfl,xn.heap aa,xn.heap aa,xn.heap aa,xn.heap aa,xn.heap aa,xn.heap aa,?_⟩;have X:=X.tr xn;have rX:=rX.ext xn;have rY:=rY.ext xn;intro ws es wt et;have zs:=zR es;have zt:=zR et;have rX:Row ws v2 (fQ a.box) bE:=rX.st es;have rY:=rY.so es;have rY:Row wt v1 (fQ b.box) bE:=rY.st et;have rX:=rX.so et;exact ⟨rfl,rfl,rfl,rfl,_,_,rfl,rfl,rX,rY,(X.af es aa).af et aa⟩
  ·intro v1 en;have xn:=aL en;have z1:=zA en;have rXn:Row v1 w3.drew.heap.size [ab,ab,ab,ab,ab,ab] bE:=Row.nw en;have X:=X.tr xn;have rX:=rXn;refine ⟨?_,?_⟩
   ·refine (cO a WS v1).mono ?_;rintro e v2 ⟨rfl,xn⟩;have z2:=xn.size;refine ⟨_,_,_,_,_,_,rfl,xn.heap aa,xn.heap aa,xn.heap aa,xn.heap aa,xn.heap aa,Lo.wv (r1.ext (x2.tr (x3.tr (X.tr xn)))),?_⟩;have X:=X.tr xn;have rX:=rX.ext xn;refine ⟨?_,?_⟩
    ·refine (cO b FI v2).mono ?_;rintro e v3 ⟨rfl,xn⟩;have z3:=xn.size;refine ⟨_,_,_,_,_,_,rfl,xn.heap aa,xn.heap aa,xn.heap aa,xn.heap aa,xn.heap aa,?_⟩;have X:=X.tr xn;have rX:=rX.ext xn;intro v4 en;have xn:=aL en;have z4:=zA en;have rYn:Row v4 v3 [ab,ab,ab,ab,ab,ab] bE:=Row.nw en;have X:=X.tr xn;have rX:=rX.ext xn;have rY:=rYn;intro ws es wt et;have zs:=zR es;have zt:=zR et;have rX:Row ws w3.drew.heap.size (fQ a.box) bE:=rX.st es;have rY:=rY.so es;have rY:Row wt v3 (fQ b.box) bE:=rY.st et;have rX:=rX.so et;exact ⟨rfl,rfl,rfl,rfl,_,_,rfl,rfl,rX,rY,(X.af es aa).af et aa⟩
    ·intro v3 en;have xn:=aL en;have z3:=zA en;have rYn:Row v3 v2 [ab,ab,ab,ab,ab,ab] bE:=Row.nw en;have X:=X.tr xn;have rX:=rX.ext xn;have rY:=rYn;refine (cO b FI v3).mono ?_;rintro e v4 ⟨rfl,xn⟩;have z4:=xn.size;refine ⟨_,_,_,_,_,_,rfl,xn.heap aa,xn.heap aa,xn.heap aa,xn.heap aa,xn.heap aa,xn.heap aa,?_⟩;have X:=X.tr xn;have rX:=rX.ext xn;have rY:=rY.ext xn;intro ws es wt et;have zs:=zR es;have zt:=zR et;have rX:Row ws w3.drew.heap.size (fQ a.box) bE:=rX.st es;have rY:=rY.so es;have rY:Row wt v2 (fQ b.box) bE:=rY.st et;have rX:=rX.so et;exact ⟨rfl,rfl,rfl,rfl,_,_,rfl,rfl,rX,rY,(X.af es aa).af et aa⟩
   ·intro v2 en;have xn:=aL en;have z2:=zA en;have rYn:Row v2 v1 [ab,ab,ab,ab,ab,ab] bE:=Row.nw en;have X:=X.tr xn;have rX:=rX.ext xn;have rY:=rYn;refine (cO a WS v2).mono ?_;rintro e v3 ⟨rfl,xn⟩;have z3:=xn.size;refine ⟨_,_,_,_,_,_,rfl,xn.heap aa,xn.heap aa,xn.heap aa,xn.heap aa,xn.heap aa,xn.heap aa,Lo.wv (r1.ext (x2.tr (x3.tr (X.tr xn)))),?_⟩;have X:=X.tr xn;have rX:=rX.ext xn;have rY:=rY.ext xn;refine (cO b FI v3).mono ?_;rintro e v4 ⟨rfl,xn⟩;have z4:=xn.size;refine ⟨_,_,_,_,_,_,rfl,xn.heap aa,xn.heap aa,xn.heap aa,xn.heap aa,xn.heap aa,xn.heap aa,?_⟩;have X:=X.tr xn;have rX:=rX.ext xn;have rY:=rY.ext xn;intro ws es wt et;have zs:=zR es;have zt:=zR et;have rX:Row ws w3.drew.heap.size (fQ a.box) bE:=rX.st es;have rY:=rY.so es;have rY:Row wt v1 (fQ b.box) bE:=rY.st et;have rX:=rX.so et;exact ⟨rfl,rfl,rfl,rfl,_,_,rfl,rfl,rX,rY,(X.af es aa).af et aa⟩
  ·intro v1 en;have xn:=aL en;have z1:=zA en;have rYn:Row v1 w3.drew.heap.size [ab,ab,ab,ab,ab,ab] bE:=Row.nw en;have X:=X.tr xn;have rY:=rYn;refine ⟨?_,?_⟩
   ·refine (cO a WS v1).mono ?_;rintro e v2 ⟨rfl,xn⟩;have z2:=xn.size;refine ⟨_,_,_,_,_,_,rfl,xn.heap aa,xn.heap aa,xn.heap aa,xn.heap aa,xn.heap aa,Lo.wv (r1.ext (x2.tr (x3.tr (X.tr xn)))),?_⟩;have X:=X.tr xn;have rY:=rY.ext xn;refine ⟨?_,?_⟩
    ·refine (cO b FI v2).mono ?_;rintro e v3 ⟨rfl,xn⟩;have z3:=xn.size;refine ⟨_,_,_,_,_,_,rfl,xn.heap aa,xn.heap aa,xn.heap aa,xn.heap aa,xn.heap aa,?_⟩;have X:=X.tr xn;have rY:=rY.ext xn;intro v4 en;have xn:=aL en;have z4:=zA en;have rXn:Row v4 v3 [ab,ab,ab,ab,ab,ab] bE:=Row.nw en;have X:=X.tr xn;have rY:=rY.ext xn;have rX:=rXn;intro ws es wt et;have zs:=zR es;have zt:=zR et;have rX:Row ws v3 (fQ a.box) bE:=rX.st es;have rY:=rY.so es;have rY:Row wt w3.drew.heap.size (fQ b.box) bE:=rY.st et;have rX:=rX.so et;exact ⟨rfl,rfl,rfl,rfl,_,_,rfl,rfl,rX,rY,(X.af es aa).af et aa⟩
    ·intro v3 en;have xn:=aL en;have z3:=zA en;have rXn:Row v3 v2 [ab,ab,ab,ab,ab,ab] bE:=Row.nw en;have X:=X.tr xn;have rY:=rY.ext xn;have rX:=rXn;refine (cO b FI v3).mono ?_;rintro e v4 ⟨rfl,xn⟩;have z4:=xn.size;refine ⟨_,_,_,_,_,_,rfl,xn.heap aa,xn.heap aa,xn.heap aa,xn.heap aa,xn.heap aa,xn.heap aa,?_⟩;have X:=X.tr xn;have rX:=rX.ext xn;have rY:=rY.ext xn;intro ws es wt et;have zs:=zR es;have zt:=zR et;have rX:Row ws v2 (fQ a.box) bE:=rX.st es;have rY:=rY.so es;have rY:Row wt w3.drew.heap.size (fQ b.box) bE:=rY.st et;have rX:=rX.so et;exact ⟨rfl,rfl,rfl,rfl,_,_,rfl,rfl,rX,rY,(X.af es aa).af et aa⟩
   ·intro v2 en;have xn:=aL en;have z2:=zA en;have rXn:Row v2 v1 [ab,ab,ab,ab,ab,ab] bE:=Row.nw en;have X:=X.tr xn;have rY:=rY.ext xn;have rX:=rXn;refine (cO a WS v2).mono ?_;rintro e v3 ⟨rfl,xn⟩;have z3:=xn.size;refine ⟨_,_,_,_,_,_,rfl,xn.heap aa,xn.heap aa,xn.heap aa,xn.heap aa,xn.heap aa,xn.heap aa,Lo.wv (r1.ext (x2.tr (x3.tr (X.tr xn)))),?_⟩;have X:=X.tr xn;have rX:=rX.ext xn;have rY:=rY.ext xn;refine (cO b FI v3).mono ?_;rintro e v4 ⟨rfl,xn⟩;have z4:=xn.size;refine ⟨_,_,_,_,_,_,rfl,xn.heap aa,xn.heap aa,xn.heap aa,xn.heap aa,xn.heap aa,xn.heap aa,?_⟩;have X:=X.tr xn;have rX:=rX.ext xn;have rY:=rY.ext xn;intro ws es wt et;have zs:=zR es;have zt:=zR et;have rX:Row ws v1 (fQ a.box) bE:=rX.st es;have rY:=rY.so es;have rY:Row wt w3.drew.heap.size (fQ b.box) bE:=rY.st et;have rX:=rX.so et;exact ⟨rfl,rfl,rfl,rfl,_,_,rfl,rfl,rX,rY,(X.af es aa).af et aa⟩
 ·rintro us p q wj ⟨gX,gY,rfl,rfl,rX,rY,xj⟩;have zj:=xj.size;refine ⟨_,_,_,_,_,_,Lo.wv rX,_,_,_,_,_,_,Lo.wv rY,(yn a.box b.box wj).mono ?_⟩;rintro e M9 ⟨rfl,wL⟩;have ayv:=wL.size;have rX5:=rX.ext wL;have rY5:=rY.ext wL;have xw:=Av.tr (xj.tr wL);unfold fC;refine ⟨_,rfl,wL.heap aa,wL.heap aa,wL.heap aa,wL.heap aa,Br.mk (λhc ag0 arE ag1 arF=>⟨?_,(xw.af arE aa).af arF aa⟩) (λhc=> ?_)⟩
  ·have hc:jA a.box b.box=false:=by simpa using hc
   rw [hc];rfl
  ·have hc:jA a.box b.box=true:=by simpa using hc
   rw [if_pos hc];refine ⟨λx wr=>x=U3 a b/\Ext M9 wr,?_,?_⟩
   ·refine (we a.box b.box 0 rX5 rY5).mono ?_;rintro e adC ⟨rfl,JW⟩;have ayw:=JW.size;refine ⟨_,rfl,JW.heap aa,JW.heap aa,JW.heap aa,JW.heap aa,(we a.box b.box 2 (rX5.ext JW) (rY5.ext JW)).mono ?_⟩;rintro e adD ⟨rfl,Rl⟩;have ayx:=Rl.size;unfold U3;refine ⟨_,rfl,Rl.heap aa,Rl.heap aa,Rl.heap aa,Rl.heap aa,Br.mk (λq=>⟨rfl,rfl,rfl,rfl,?_,JW.tr Rl⟩) (λq=>⟨rfl,rfl,rfl,rfl,?_,JW.tr Rl⟩)⟩
    ·rw [if_pos (by simpa using q)]
    ·rw [if_neg (by simpa using q)]
   ·rintro us x wr ⟨rfl,xr⟩;have zr:=xr.size;refine ⟨λx wr=>x=nP a b/\Ext M9 wr,?_,?_⟩
    ·refine (we a.box b.box (U3 a b) (rX5.ext xr) (rY5.ext xr)).mono ?_;rintro e M4 ⟨rfl,JL⟩;have ayy:=JL.size;exact ⟨_,rfl,JL.heap aa,JL.heap aa,JL.heap aa,JL.heap aa,rfl,rfl,rfl,rfl,rfl,xr.tr JL⟩
    ·rintro us x wr ⟨rfl,xr⟩;have zr:=xr.size;have xd:=Ext.dr wr;have zd:=lv wr;have yd:=xj.tr (wL.tr (xr.tr xd));refine ⟨λx wr=>x=sP a b/\Ext M9 wr,?_,?_⟩
     ·refine (dj a.aH (U3 a b) wr.drew).mono ?_;rintro e Wa ⟨rfl,Ch⟩;have ayz:=Ch.size;refine ⟨_,rfl,Ch.heap aa,Ch.heap aa,Ch.heap aa,Ch.heap aa,qL (o:=0) (rb.ext (yd.tr Ch)) rfl rfl rfl,(dj b.aH (U3 a b) Wa).mono ?_⟩;rintro e M6 ⟨rfl,nh⟩;have arv:=nh.size;unfold sP;refine ⟨_,rfl,nh.heap aa,nh.heap aa,nh.heap aa,nh.heap aa,Br.mk (λq=>⟨rfl,rfl,rfl,rfl,?_,xr.tr (xd.tr (Ch.tr nh))⟩) (λq=>⟨rfl,rfl,rfl,rfl,?_,xr.tr (xd.tr (Ch.tr nh))⟩)⟩
      ·rw [if_pos (by simpa using q)]
      ·rw [if_neg (by simpa using q)]
     ·rintro us x ws ⟨rfl,xs⟩;have zs:=xs.size;refine (iC (0,0,0) (U3 a b) (sP a b) ws).mono ?_;rintro e aay ⟨rfl,Wo⟩;have ayA:=Wo.size;refine ⟨_,_,_,rfl,Wo.heap aa,Wo.heap aa,Wo.heap aa,Wo.heap aa,(iC (0,0,0) (U3 a b) (aj (0-sP a b)) aay).mono ?_⟩;rintro e ag5 ⟨rfl,Fh⟩;have ayB:=Fh.size;exact ⟨_,_,_,rfl,Fh.heap aa,Fh.heap aa,Fh.heap aa,Fh.heap aa,λag6 arG ag7 arH=>⟨rfl,((xw.tr (xs.tr (Wo.tr Fh))).af arG aa).af arH aa⟩⟩
def okB (m:Int) (b:ep):Prop:=jv b.aH m/\(0<=b.wd/\b.wd<=1000000)/\(0<=b.ht/\b.ht<=1000000)/\-1000000<=b.speed.2.1/\b.speed.2.1<=1000000
theorem okB.up {b:ep} {m n:Int} (h:okB m b) (hn:m<=n):okB n b:=⟨h.1.up hn,h.2⟩
theorem okB.wdi {b:ep} {m:Int} (h:okB m b):bS b.wd:=by unfold bS;have:=h.2.1;omega
theorem okB.zE {b:ep} {m:Int} (h:okB m b) (hm:m<=99970000000000):dh b.box (m+1000000):=O4 h.1 h.2.1 h.2.2.1 aa
theorem xQ {V:Ce->Int} {b:ep} {d:Ce} {m:Int} (h:okB m b) (hm:m<=99970000000000):okB (m+12582912) (kX V b d):=by
 have hn:=h.zE hm;have h1:=Iy (V:=V) (p:=aI) (d:=pV b.aH d) hn aa;have h2:=KG (V:=V) (p:=aI) (d:=pV b.aH d) hn aa;have hm0:0<=m:=by have:=h.1;unfold jv at this;omega
 exact ⟨KH h.1 (jv.up hn.lo aa) h1.lo h2 aa aa aa,h.2⟩
theorem acp (h:Ht) (v:Ce) (hv: -1000000<=v.2.1/\v.2.1<=1000000): -1000000<=(lO h v).2.1/\(lO h v).2.1<=1000000:=by
 have e:(lO h v).2.1=if h.2.1=true then dP 0 else v.2.1:=by
  unfold lO
  cases h.1<;>cases h.2.1<;>cases h.2.2<;>rfl
 rw [e];have c0:dP 0=0:=by decide
 rw [c0];split<;>omega
theorem acq {V:Ce->Int} {b:ep} {m:Int} (h:okB m b) (hm:m<=99970000000000):okB (m+16777216) (Lz V b):=by
 have hn:=h.zE hm;have h1:=Xw (V:=V) (p:=aI) (d:=pV b.aH b.speed) (up:=32768) hn aa;have hm0:0<=m:=by have:=h.1;unfold jv at this;omega
 exact ⟨KH h.1 (jv.up hn.lo aa) h1.2.lo h1.1 aa aa aa,h.2.1,h.2.2.1,acp _ _ h.2.2.2⟩
theorem IY {n jump less least:Int} {j:Bool} (hn: -1000000<=n/\n<=1000000) (hj: -1000000<=jump/\jump<=1000000) (hl:0<=less) (ht:0<=least/\least<=1000000): -1000000<=DQ n jump less least j/\DQ n jump less least j<=1000000:=by unfold DQ;split<;>omega
theorem acr {V:Ce->Int} {b:ep} {i:FR} {m:Int} (h:okB m b):okB m (pT V b i):=by
 unfold pT;split
 ·exact ⟨h.1,h.2.1,h.2.2.1,IY h.2.2.2 aE aE aE⟩
 ·split
  ·exact ⟨h.1,h.2.1,h.2.2.1,IY h.2.2.2 aE aE aE⟩
  ·exact ⟨h.1,h.2.1,h.2.2.1,IY h.2.2.2 aE aE aE⟩
theorem acs {V:Ce->Int} {b:ep} {i:FR} {m:Int} (h:okB m b) (hm:m<=99970000000000):okB (m+16777216) (tw V b i):=acq (acr (b:=rO b i) h) hm
def xP (V:Ce->Int) (i k:Nat) (l:List ep):List ep:=
 match l[i]?,l[k]? with
 |some a,some b=>(l.set i (kX V a (fC a b).1)).set k (kX V b (fC a b).2)
 |_,_=>l
def Gc (V:Ce->Int) (i:Nat):Nat->Nat->List ep->List ep
 |_,0,l=>l
 |k,n+1,l=>Gc V i (k+1) n (xP V i k l)
def crB (V:Ce->Int):Nat->Nat->List ep->List ep
 |_,0,l=>l
 |i,n+1,l=>crB V (i+1) n (Gc V i (i+1) (l.length-(i+1)) l)
def qT (V:Ce->Int) (l:List ep):List ep:=crB V 0 l.length l
theorem vF (b:ep):One (jo b):=by intro u hu;simp at hu;rcases hu with rfl|rfl|rfl|rfl|rfl|rfl|rfl|rfl|rfl<;>rfl
theorem Yd (l:List ep):∀r ∈ l.map jo,r.length=9:=by intro r hr;obtain ⟨b,-,rfl⟩:=bg.1 hr;rfl
theorem acu (l:List ep):∀r ∈ l.map jo,One r:=by intro r hr;obtain ⟨b,-,rfl⟩:=bg.1 hr;exact vF b
theorem LA {B:Nat} {w:World} {s:Sl} {l:List ep} (ho:aC B yQ 9 w s (l.map jo)) (hl:l.length<=5000):
  ah 169 #[s] w λe w'=>∃s':Sl,e=s'/\aC w yQ 9 w' s' (l.map jo)/\Ext w w':=by
 apply xz.vc;have hn:s.n=l.length:=by rw [(ho.rd aE).n,aM]
 apply Br.mk<;>intro h
 ·rcases ho.form aE with ⟨hs,B6⟩|⟨g0,cs,ha,-⟩
  ·exact ⟨⟨none,0,0⟩,rfl,by rw [B6];exact aC.nil,Ext.cQ _⟩
  ·rw [ha] at h;cases h
 ·intro w0 e0;have x0:=aL e0;have Rr:=eN e0;have hr0:Row w0 w [] yQ:=by rw [e0];exact Row.new _ _ _
  have qh:aC w yQ 9 w0 ⟨some ⟨w.heap.size,0,none⟩,0,0⟩ []:=aC.jf (aB _) hr0 bt (aB _) rfl bt;obtain ⟨hp,hr⟩:=qh.FO (bytes:=72) (more:=l.map jo) x0.size (Yd _) (acu _) (by simp;omega) (by simp;omega);rw [aM,<-hn] at hp hr;refine ⟨(l.map jo).flatten,((ho.ext x0).rd aE).flat aE,hp,λs2 w3 bo=> ?_⟩;obtain ⟨h1,h2,h3,h4,h5⟩:=hr s2 w3 bo;refine ⟨oP bo (by rw [bM (Yd _),aM,hn]) aa,s2,rfl,h1,x0.trans h3⟩
theorem Ye {B:Nat} {w:World} {s:Sl} {l:List ep} (ho:aC B yQ 9 w s (l.map jo)) {i:Nat} (hi:i<l.length) (x:ep):
  (ae s.a (i*9)).isSome=true/\Wr w (ae s.a (i*9)) 9/\∀w',w'=aG w (ae s.a (i*9)) (jo x)->aC B yQ 9 w' s ((l.set i x).map jo)/\Below B w w'/\Mod (λb=>s.aY=some b) w w':=by
 obtain ⟨h1,h2,h3,h4,h5⟩:=ho.put (i:=i) (r:=jo x) (by simpa using hi) aE rfl (vF x);refine ⟨h1,h2,λw' e=> ?_⟩;subst e;exact ⟨by rw [List.map_set];exact h3,h4,h4.os,h4.tape,h4.output,h4.size,λj _ hn=>h5 j hn⟩
set_option maxHeartbeats 1000000 in
theorem DH {v : Value} {V : Ce → Int} {w : World} (hV : Tl v V w) (hv : ke v = []) {B : Nat} {s : Sl} {l : List ep} (ho : aC B yQ 9 w s (l.map jo)) (hl : l.length ≤ 16) {m : Int} (bk : ∀ b ∈ l, okB m b) (hm0 : 0 ≤ m) (hm : m ≤ 99960000000000) :
  ah 117 #[v, s] w λe w' => ∃ s' : Sl, e = s' ∧ aC w yQ 9 w' s' ((qT V l).map jo) ∧ Ext w w' ∧ (∀ b ∈ qT V l, okB (m + 16 * 16 * 12582912) b) ∧ (qT V l).length = l.length := by
 apply O9.vc
 refine (LA ho aa).mono ?_
 rintro e w0 ⟨s1, rfl, h1, x1⟩
 have Kc : s1.n = l.length := by rw [(h1.rd aE).n, aM]
 refine ⟨s1, rfl, λn x wr => ∃ (i : Nat) (cur : List ep), x = i ∧ i + n = l.length ∧ cur.length = l.length ∧ aC w yQ 9 wr s1 (cur.map jo) ∧ Ext w wr ∧ (∀ b ∈ cur, okB (m + 16 * i * 12582912) b) ∧ qT V l = crB V i n cur, ⟨l.length, 0, l, rfl, by omega, rfl, h1, x1, λb hb => (bk b hb).up aa, rfl⟩, ?_⟩
 rintro n us x w6 ⟨i, cur, rfl, mW, dG, hO, xr, hb, hcr⟩
 apply Br.mk <;> intro hc
 ·have hc : i < l.length := by
   have : (i : Int) < s1.n := by simpa using hc
   omega
  obtain ⟨n, rfl⟩ : ∃ n', n = n' + 1 := ⟨n - 1, by omega⟩
  have wk := mh (j := i)
  rw [wk]
  refine ⟨λn8 x cM => ∃ (k : Nat) (cur : List ep), x = k ∧ k + n8 = l.length ∧ i < k ∧ cur.length = l.length ∧ aC w yQ 9 cM s1 (cur.map jo) ∧ Ext w cM ∧ (∀ b ∈ cur, okB (m + (16 * i + k) * 12582912) b) ∧ qT V l = crB V (i + 1) n (Gc V i k n8 cur), ⟨n, i + 1, cur, rfl, by omega, by omega, dG, hO, xr, λb hb' => (hb b hb').up aa, ?_⟩, ?_⟩
  ·rw [hcr]
   show crB V (i + 1) n (Gc V i (i + 1) (cur.length - (i + 1)) cur) = _
   rw [show cur.length - (i + 1) = n from by omega]
  rintro n8 us x cM ⟨k, cur, rfl, VP, hik, dG, hO, xr, hb, hcr⟩
  apply Br.mk <;> intro nr
  ·have nr : k < l.length := by
    have : (k : Int) < s1.n := by simpa using nr
    omega
   obtain ⟨n8, rfl⟩ : ∃ n', n8 = n' + 1 := ⟨n8 - 1, by omega⟩
   have ha : cur[i]? = some (cur[i]'aa) := c8 aa
   have JB : cur[k]? = some (cur[k]'aa) := c8 aa
   have oka := hb _ (List.getElem_mem (l := cur) (n := i) aa)
   have okb := hb _ (List.getElem_mem (l := cur) (n := k) aa)
   generalize cur[i]'aa = a at ha oka
   generalize cur[k]'aa = b at JB okb
   have hcr : qT V l = crB V (i + 1) n (Gc V i (k + 1) n8 ((cur.set i (kX V a (fC a b).1)).set k (kX V b (fC a b).2))) := by
    rw [hcr]
    show crB V (i + 1) n (Gc V i (k + 1) n8 (xP V i k cur)) = _
    rw [show xP V i k cur = (cur.set i (kX V a (fC a b).1)).set k (kX V b (fC a b).2) from by unfold xP; rw [ha, JB]]
   have WS := oka.wdi
   have FI := okb.wdi
   have ic := (hO.ext (Ext.dr cM)).rd aE
   have sO : (cur.map jo)[i]? = some (jo a) := by rw [aS, ha]; rfl
   have J1 : (cur.map jo)[k]? = some (jo b) := by rw [aS, JB]; rfl
   have ib : ∀ j : Nat, j < l.length → ee s1.a (j : Int) s1.n := λj hj => ic.gR aE aa aa
   have jb : cur.map jo ≠ [] := λh => by rw [h] at sO; cases sO
   have ij : ∀ g, s1.aY = some g → g < cM.heap.size := λg hg => ic.PL aE jb hg
   have hX0 : 16 * (i : Int) + k ≤ 256 := by omega
   refine ⟨λp q wj => ∃ gX gY : Nat, p = some ⟨gX, 0, none⟩ ∧ q = some ⟨gY, 0, none⟩ ∧ Row wj gX (du (fC a b).1) eC ∧ Row wj gY (du (fC a b).2) eC ∧ Ext cM wj ∧ cM.heap.size ≤ gY, ⟨ib i hc, _, _, _, _, _, _, _, _, _, ic.bY sO, ib k nr, _, _, _, _, _, _, _, _, _, ic.bY J1, ?_⟩, ?_⟩
   ·have X := Ext.dr cM
    have zd := lv cM
    refine ⟨?_, ?_, ?_⟩
    ·refine (pW a b WS FI cM.drew).mono ?_
     rintro e v1 ⟨rfl, xn⟩
     have z1 := xn.size
     refine ⟨_, _, _, _, _, _, rfl, ?_⟩
     have X := X.tr xn
     refine ⟨?_, ?_⟩
     ·intro v2 en
      have xn := aL en
      have z2 := zA en
      have rXn : Row v2 v1 [ab, ab, ab] eC := Row.nw en
      have X := X.tr xn
      have rX := rXn
      intro v3 en
      have xn := aL en
      have z3 := zA en
      have rYn : Row v3 v2 [ab, ab, ab] eC := Row.nw en
      have X := X.tr xn
      have rX := rX.ext xn
      have rY := rYn
      intro ws es wt et
      have zs := zR es
      have zt := zR et
      have rX : Row ws v1 (du (fC a b).1) eC := rX.st es
      have rY := rY.so es
      have rY : Row wt v2 (du (fC a b).2) eC := rY.st et
      have rX := rX.so et
      exact ⟨_, _, rfl, rfl, rX, rY, (X.af es aa).af et aa, by omega⟩
     ·intro v2 en
      have xn := aL en
      have z2 := zA en
      have rYn : Row v2 v1 [ab, ab, ab] eC := Row.nw en
      have X := X.tr xn
      have rY := rYn
      intro v3 en
      have xn := aL en
      have z3 := zA en
      have rXn : Row v3 v2 [ab, ab, ab] eC := Row.nw en
      have X := X.tr xn
      have rY := rY.ext xn
      have rX := rXn
      intro ws es wt et
      have zs := zR es
      have zt := zR et
      have rX : Row ws v2 (du (fC a b).1) eC := rX.st es
      have rY := rY.so es
      have rY : Row wt v1 (du (fC a b).2) eC := rY.st et
      have rX := rX.so et
      exact ⟨_, _, rfl, rfl, rX, rY, (X.af es aa).af et aa, by omega⟩
    ·intro v1 en
     have xn := aL en
     have z1 := zA en
     have rXn : Row v1 cM.drew.heap.size [ab, ab, ab] eC := Row.nw en
     have X := X.tr xn
     have rX := rXn
     refine ⟨?_, ?_⟩
     ·refine (pW a b WS FI v1).mono ?_
      rintro e v2 ⟨rfl, xn⟩
      have z2 := xn.size
      refine ⟨_, _, _, _, _, _, rfl, xn.heap aa, ?_⟩
      have X := X.tr xn
      have rX := rX.ext xn
      intro v3 en
      have xn := aL en
      have z3 := zA en
      have rYn : Row v3 v2 [ab, ab, ab] eC := Row.nw en
      have X := X.tr xn
      have rX := rX.ext xn
      have rY := rYn
      intro ws es wt et
      have zs := zR es
      have zt := zR et
      have rX : Row ws cM.drew.heap.size (du (fC a b).1) eC := rX.st es
      have rY := rY.so es
      have rY : Row wt v2 (du (fC a b).2) eC := rY.st et
      have rX := rX.so et
      exact ⟨_, _, rfl, rfl, rX, rY, (X.af es aa).af et aa, by omega⟩
     ·intro v2 en
      have xn := aL en
      have z2 := zA en
      have rYn : Row v2 v1 [ab, ab, ab] eC := Row.nw en
      have X := X.tr xn
      have rX := rX.ext xn
      have rY := rYn
      refine (pW a b WS FI v2).mono ?_
      rintro e v3 ⟨rfl, xn⟩
      have z3 := xn.size
      refine ⟨_, _, _, _, _, _, rfl, xn.heap aa, xn.heap aa, ?_⟩
      have X := X.tr xn
      have rX := rX.ext xn
      have rY := rY.ext xn
      intro ws es wt et
      have zs := zR es
      have zt := zR et
      have rX : Row ws cM.drew.heap.size (du (fC a b).1) eC := rX.st es
      have rY := rY.so es
      have rY : Row wt v1 (du (fC a b).2) eC := rY.st et
      have rX := rX.so et
      exact ⟨_, _, rfl, rfl, rX, rY, (X.af es aa).af et aa, by omega⟩
    ·intro v1 en
     have xn := aL en
     have z1 := zA en
     have rYn : Row v1 cM.drew.heap.size [ab, ab, ab] eC := Row.nw en
     have X := X.tr xn
     have rY := rYn
     refine ⟨?_, ?_⟩
     ·refine (pW a b WS FI v1).mono ?_
      rintro e v2 ⟨rfl, xn⟩
      have z2 := xn.size
      refine ⟨_, _, _, _, _, _, rfl, xn.heap aa, ?_⟩
      have X := X.tr xn
      have rY := rY.ext xn
      intro v3 en
      have xn := aL en
      have z3 := zA en
      have rXn : Row v3 v2 [ab, ab, ab] eC := Row.nw en
      have X := X.tr xn
      have rY := rY.ext xn
      have rX := rXn
      intro ws es wt et
      have zs := zR es
      have zt := zR et
      have rX : Row ws v2 (du (fC a b).1) eC := rX.st es
      have rY := rY.so es
      have rY : Row wt cM.drew.heap.size (du (fC a b).2) eC := rY.st et
      have rX := rX.so et
      exact ⟨_, _, rfl, rfl, rX, rY, (X.af es aa).af et aa, by omega⟩
     ·intro v2 en
      have xn := aL en
      have z2 := zA en
      have rXn : Row v2 v1 [ab, ab, ab] eC := Row.nw en
      have X := X.tr xn
      have rY := rY.ext xn
      have rX := rXn
      refine (pW a b WS FI v2).mono ?_
      rintro e v3 ⟨rfl, xn⟩
      have z3 := xn.size
      refine ⟨_, _, _, _, _, _, rfl, xn.heap aa, xn.heap aa, ?_⟩
      have X := X.tr xn
      have rX := rX.ext xn
      have rY := rY.ext xn
      intro ws es wt et
      have zs := zR es
      have zt := zR et
      have rX : Row ws v1 (du (fC a b).1) eC := rX.st es
      have rY := rY.so es
      have rY : Row wt cM.drew.heap.size (du (fC a b).2) eC := rY.st et
      have rX := rX.so et
      exact ⟨_, _, rfl, rfl, rX, rY, (X.af es aa).af et aa, by omega⟩
   ·rintro us p q wj ⟨gX, gY, rfl, rfl, rX, rY, xj, hgY⟩
    have xd := Ext.dr wj
    have hOj := hO.ext (xj.tr xd)
    refine ⟨λw' => aC w yQ 9 w' s1 ((cur.set i (kX V a (fC a b).1)).map jo) ∧ Row w' gY (du (fC a b).2) eC ∧ Ext w w', ⟨ib i hc, _, _, _, _, _, _, _, _, _, (hOj.rd aE).bY sO, _, _, _, Lo.wv (rX.ext xd), (DR (hV.ext (xr.tr (xj.tr xd))) hv a WS (oka.zE aa) aa (fC a b).1).mono ?_⟩, ?_⟩
    ·rintro e AE ⟨rfl, ql⟩
     have hO7 := hOj.ext ql
     obtain ⟨q1, q2, q3⟩ := Ye hO7 (i := i) aa (kX V a (fC a b).1)
     refine ⟨_, _, _, _, _, _, _, _, _, rfl, ib i hc, ⟨q1, q2⟩, λJF aqo => ?_⟩
     obtain ⟨p1, p2, p3⟩ := q3 JF aqo
     have rY7 := rY.ext (xd.tr ql)
     exact ⟨p1, rY7.same (p3.same _ rY7.lt (λh => by have := ij _ h; omega)), (xr.tr (xj.tr (xd.tr ql))).trans p2⟩
    ·rintro us rA ⟨ak7, rY9, aat⟩
     have xd9 := Ext.dr rA
     have hrd9 := (ak7.ext xd9).rd aE
     have hrk9 : ((cur.set i (kX V a (fC a b).1)).map jo)[k]? = some (jo b) := by rw [aS, List.getElem?_set_ne aa, JB]; rfl
     refine ⟨ib k nr, _, _, _, _, _, _, _, _, _, hrd9.bY hrk9, _, _, _, Lo.wv (rY9.ext xd9), (DR (hV.ext (aat.tr xd9)) hv b FI (okb.zE aa) aa (fC a b).2).mono ?_⟩
     rintro e JO ⟨rfl, ak9⟩
     obtain ⟨q1, q2, q3⟩ := Ye ((ak7.ext xd9).ext ak9) (i := k) (by rw [ir]; omega) (kX V b (fC a b).2)
     refine ⟨_, _, _, _, _, _, _, _, _, rfl, ib k nr, ⟨q1, q2⟩, λoD aqp => ?_⟩
     obtain ⟨p1, p2, p3⟩ := q3 oD aqp
     refine ⟨n8, by omega, k + 1, _, ?_, by omega, by omega, by rw [ir, ir]; exact dG, p1, (aat.tr (xd9.tr ak9)).trans p2, λy hy => ?_, hcr⟩
     ·rw [wI]; omega
     ·rcases kJ hy with hy | rfl
      ·rcases kJ hy with hy | rfl
       ·exact (hb y hy).up aa
       ·exact (xQ oka aa).up aa
      ·exact (xQ okb aa).up aa
  ·have nr : ¬ k < l.length := λh => by
    have : ¬ (k : Int) < s1.n := by simpa using nr
    omega
   have : n8 = 0 := by omega
   subst this
   exact ⟨n, by omega, i + 1, cur, rfl, by omega, dG, hO, xr, λb hb' => (hb b hb').up aa, hcr⟩
 ·have hc : ¬ i < l.length := λh => by
   have : ¬ (i : Int) < s1.n := by simpa using hc
   omega
  have : n = 0 := by omega
  subst this
  have hcr : qT V l = cur := hcr
  refine ⟨s1, rfl, by rw [hcr]; exact hO, xr, λb hb' => ?_, by rw [hcr]; exact dG⟩
  rw [hcr] at hb'
  exact (hb b hb').up aa
set_option maxHeartbeats 8000000
set_option linter.unusedVariables false
variable {R:Ending->World->Prop} {w:World} {a0 a1 a2 a3 a4 a5 a6 a7 a8 a9 aA aq au aT aU aX bN bI bJ EU ak ao aw bw bR bP eZ fa eL EV br bG bq yC yD wC wD yE yF yG EW EX EY EZ E0 E1 E2 E3 E4 E5:Int}
theorem ace.vc (h:
 ∀w0,w0=w.alloc (.cells #[aA,aq,au] 28)->
 ∀w1,w1=w0.alloc (.cells #[ab,ab,ab] 28)->
 ah 203 #[.agg #[aA,aq,au],.func (.func 256) #[] #[]] w1 (iM λx3 x4 x5 w2=>K2 w w0 w1 w2 (
 ∀w6,w6=w2.setRow w0 #[x3,x4,x5]->
 R (Value.agg #[x3,x4,x5]) w6))):ah 195 #[.agg #[aA,aq,au]] w R:=
 cq bT Tryz.func195 h
theorem Ub.vc (h:
 ah 214 #[a1] w (λe w0=>∃(x1:Int),e=x1/\
 R x1 w0)):ah 256 #[a0,a1] w R:=
 cq bT Tryz.func256 h
theorem acf.vc (h:
 ∀w0,w0=w.alloc (.cells #[aA,aq,au] 28)->
 ∀w1,w1=w0.alloc (.cells #[ab,ab,ab] 28)->
 ah 257 #[aA] w1.drew (Ri λx3 w2=>K2 w w0 w1.drew w2 (
 ag w2 (some ⟨w,2,none⟩) 0 [au]/\ag w2 (some ⟨w,1,none⟩) 0 [aq]/\ah 257 #[aq] w2 (Ri λx5 w4=>K2 w w0 w2 w4 (
 ag w4 (some ⟨w,2,none⟩) 0 [au]/\ah 257 #[au] w4 (Ri λx7 w6=>K2 w w0 w4 w6 (
 ∀w8,w8=w6.setRow w0 #[x3,x5,x7]->
 R (Value.agg #[x3,x5,x7]) w8))))))):ah 196 #[.agg #[aA,aq,au]] w R:=
 cq bT Tryz.func196 h
theorem Uc.vc (h:
 R (Value.int .i64 (if 1048576<(if (-1048576)>a0 then (-1048576) else a0) then 1048576 else (if (-1048576)>a0 then (-1048576) else a0))) w):ah 257 #[a0] w R:=
 cq bT Tryz.func257 h
theorem PD.vc (h:
 ∀w0,w0=w.alloc (.cells #[aA,aq] 267)->
 ∀w1,w1=w0.alloc (.cells #[ak,ao] 267)->
 Br (aq==0)
 (R (Value.bool (decide (aq>0))) w1)
 (Br (ao==0)
 (R (Value.bool (decide (aq>0))) w1)
 (R (Value.bool (decide (((aj (aA*ao)):Int)<(aj (ak*aq))))) w1))):ah 200 #[.agg #[aA,aq],.agg #[ak,ao]] w R:=
 cq bT Tryz.func200 h
theorem Ud.vc (h:
 ∀w0,w0=w.alloc (.cells #[aA,aq,au] 28)->
 ∀w1,w1=w0.alloc (.cells #[ak,ao,aw] 28)->
 ∀w2,w2=w1.alloc (.cells #[ab,ab,ab,ab,ab,ab] 268)->
 ∀w3,w3=w2.alloc (.cells #[ab,ab,ab,ab,ab,ab] 268)->
 ∃I4:Nat->Int->World->Prop,
 (∃n5,aO [aA,aq,au]/\aO [ak,ao,aw]/\I4 n5 (0) w3)/\
 ∀(n5:Nat) (us6:Nat->Value) (x7:Int) (w8:World),I4 n5 x7 w8->
 Br (x7<3)
 (ah 178 #[.agg #[aA,aq,au],x7] w8.drew (Ri λbz bD=>K2 w w0 w8.drew bD (
 ag bD (some ⟨w0,0,none⟩) 0 [ak,ao,aw]/\ah 178 #[.agg #[ak,ao,aw],x7] bD (Ri λcc cM=>K2 w w0 bD cM (
 ah 258 #[bz] cM (Ri λcm bK=>K2 w w0 cM bK (
 (0:Int)<=x7/\x7<((3:Nat):Int)/\(true=true/\Wr bK (ae (some ⟨w2,0,none⟩) ((x7:Int).toNat*2)) 2)/\bC (ae (some ⟨w2,0,none⟩) ((x7:Int).toNat*2))≠some w.heap.size/\bC (ae (some ⟨w2,0,none⟩) ((x7:Int).toNat*2))≠some w0.heap.size/\(∀cB,cB=aG bK (ae (some ⟨w2,0,none⟩) ((x7:Int).toNat*2)) [cm,(aj (0-cc))]->
 Br (cc>0)
 (ah 258 #[bz] cB (Ri λcg cE=>K2 w w0 cB cE (
 (0:Int)<=x7/\x7<((3:Nat):Int)/\(true=true/\Wr cE (ae (some ⟨w2,0,none⟩) ((x7:Int).toNat*2)) 2)/\bC (ae (some ⟨w2,0,none⟩) ((x7:Int).toNat*2))≠some w.heap.size/\bC (ae (some ⟨w2,0,none⟩) ((x7:Int).toNat*2))≠some w0.heap.size/\(∀fy,fy=aG cE (ae (some ⟨w2,0,none⟩) ((x7:Int).toNat*2)) [(aj (65536-cg)),cc]->
 ∃n9,n9<n5/\aO [aA,aq,au]/\aO [ak,ao,aw]/\I4 n9 ((aj (x7+1))) fy))))
 (∃n9,n9<n5/\aO [aA,aq,au]/\aO [ak,ao,aw]/\I4 n9 ((aj (x7+1))) cB)))))))))
 (∃(cZ dm dI dz eH dQ:Int),ag w8 (some ⟨w2,0,none⟩) 0 [cZ,dm,dI,dz,eH,dQ]/\
 Wt w8 ⟨w1,0,none⟩ 6/\Nb w1 w/\Nb w1 w0/\(∀eG,eG=aG w8 (some ⟨w1,0,none⟩) [cZ,dm,dI,dz,eH,dQ]->
 ∃(fw gy fI iK gI gQ:Int),ag eG (some ⟨w1,0,none⟩) 0 [fw,gy,fI,iK,gI,gQ]/\
 R (Value.agg #[fw,gy,fI,iK,gI,gQ]) eG))):ah 198 #[.agg #[aA,aq,au],.agg #[ak,ao,aw]] w R:=
 cq ⟨[(3,⟨[(9,.int .i64)],[],[]⟩)],[],[]⟩ Tryz.func198 h
theorem PE.vc (h:
 ∀w0,w0=w.alloc (.cells #[aA,aq,au] 41)->
 ∀w1,w1=w0.alloc (.cells #[ak,ao,aw] 41)->
 ∀w2,w2=w1.alloc (.cells #[a2] 3)->
 ah 259 #[aA,ak,.pointer (some ⟨w1,0,none⟩)] w2 (Rb λb4 w3=>K2 w w0 w2 w3 (
 Br b4
 (ah 259 #[aq,ao,.pointer (some ⟨w1,0,none⟩)] w3 (Rb λb6 w5=>K2 w w0 w3 w5 (
 Br b6
 (ah 259 #[au,aw,.pointer (some ⟨w1,0,none⟩)] w5 (Rb λb8 w7=>K2 w w0 w5 w7 (
 R b8 w7)))
 (R false w5))))
 (R false w3)))):ah 199 #[.agg #[aA,aq,au],.agg #[ak,ao,aw],a2] w R:=
 cq bT Tryz.func199 h
theorem IV.vc {c0:Addr} (h:
 ∃(x0:Int),ld w (some c0)=some (.int .i64 x0)/\
 Br (decide (((aj (a0-a1)):Int)<=x0))
 (∃(x1:Int),ld w (some c0)=some (.int .i64 x1)/\
 R (Value.bool (decide (((aj (a1-a0)):Int)<=x1))) w)
 (R false w)):ah 259 #[a0,a1,c0] w R:=
 cq bT Tryz.func259 h
theorem Ue.vc (h:
 ah 260 #[a0] w (λe w0=>∃(x1:Int) (b2:Bool),e=Value.tuple #[.int .u64 x1,b2]/\
 ah 260 #[a1] w0 (λe w3=>∃(x4:Int) (b5:Bool),e=Value.tuple #[.int .u64 x4,b5]/\
 Br (x4==0)
 (R (Value.tuple #[ab,(1:Int)]) w3)
 (aP (JX x4) (aP (JX x4) (ah 261 #[.int .u64 (c5 (Int.tdiv (c5 (x1*2 ^(min (16:Int).toNat 64))) x4)),.bool (((Int.tmod (c5 (x1*2 ^(min (16:Int).toNat 64))) x4):Int) !=0),.bool (!(b2==b5))] w3.drew (λe w6=>∃(x7:Int),e=x7/\
 R (Value.tuple #[x7,ab]) w6))))))):ah 201 #[a0,a1] w R:=
 cq bT Tryz.func201 h
theorem Lt.vc {a0:Value} {c0:Addr} {c1:Addr} {c2:Addr} (h:
 ∃(x0 x1 x2:Int),ag w (some c0) 0 [x0,x1,x2]/\
 ∃(x3 x4 x5:Int),ag w (some c1) 0 [x3,x4,x5]/\
 ah 198 #[.agg #[x0,x1,x2],.agg #[x3,x4,x5]] w (λe w6=>∃(x7 x8 x9 bj bz bU:Int),e=Value.agg #[x7,x8,x9,bj,bz,bU]/\
 ∀bF,bF=w6.alloc (.cells #[ab,ab,ab,ab,ab,ab] 268)->
 Wt bF ⟨w6,0,none⟩ 6/\(∀bK,bK=aG bF (some ⟨w6,0,none⟩) [x7,x8,x9,bj,bz,bU]->
 ∃(cm cp cT:Int),ag bK (some c0) 0 [cm,cp,cT]/\
 ah 101 #[.agg #[cm,cp,cT]] bK (λe dA=>∃(cr cZ dm:Int),e=Value.agg #[cr,cZ,dm]/\
 ∀cL,cL=dA.alloc (.cells #[ab,ab,ab,ab,ab,ab] 77)->
 ∀dT,dT=cL.setRow dA #[cr,cZ,dm,ab,(-1:Int),ab]->
 ∀fH,fH=dT.alloc (.cells #[ab,ab,ab] 41)->
 ∀cP,cP=fH.setRow dT #[cr,cZ,dm]->
 ∃I26:Nat->Int->Int->Int->Int->Int->Int->World->Prop,
 (∃n27,aO [cr,cZ,dm]/\I26 n27 cr cZ dm (0) ((-1)) (0) cP)/\
 ∀(n27:Nat) (apJ:Nat->Value) (fI iK gI gQ ey g8:Int) (ie:World),I26 n27 fI iK gI gQ ey g8 ie->
 ∃(gu:Int),ld ie (some c2)=some (.int .i64 gu)/\
 ah 199 #[.agg #[cr,cZ,dm],.agg #[fI,iK,gI],gu] ie (Rb λb39 mX=>K2 dA dT ie mX (
 Br b39
 (cw Tryz.prog a0 [.agg #[fI,iK,gI,gQ,ey,g8]] mX (Rb λb41 ik=>K2 dA dT mX ik (
 Br (!b41)
 (R sY ik)
 (∃I42:Nat->Int->Int->World->Prop,
 (∃n43,aO [fI,iK,gI,gQ,ey,g8]/\aO [cr,cZ,dm]/\I42 n43 (0) (0) ik)/\
 ∀(n43:Nat) (axs:Nat->Value) (pk gM:Int) (jQ:World),I42 n43 pk gM jQ->
 Br (pk<3)
 ((0:Int)<=pk/\pk<((3:Nat):Int)/\∃(Cc sa:Int),ag jQ.drew (ae (some ⟨w6,0,none⟩) ((pk:Int).toNat*2)) 0 [Cc,sa]/\
 (0:Int)<=gM/\gM<((3:Nat):Int)/\∃(lr kE:Int),ag jQ.drew (ae (some ⟨w6,0,none⟩) ((gM:Int).toNat*2)) 0 [lr,kE]/\
 ah 200 #[.agg #[Cc,sa],.agg #[lr,kE]] jQ.drew (Rb λb54 SU=>K2 dA dT jQ.drew SU (
 Br b54
 (∃n48,n48<n43/\aO [fI,iK,gI,gQ,ey,g8]/\aO [cr,cZ,dm]/\I42 n48 ((aj (pk+1))) pk SU)
 (∃n48,n48<n43/\aO [fI,iK,gI,gQ,ey,g8]/\aO [cr,cZ,dm]/\I42 n48 ((aj (pk+1))) gM SU))))
 ((0:Int)<=gM/\gM<((3:Nat):Int)/\∃(ky:Int),ld jQ (ae (ae (some ⟨w6,0,none⟩) ((gM:Int).toNat*2)) 1)=some (.int .i64 ky)/\
 Br (ky==0)
 (R sY jQ)
 ((0:Int)<=gM/\gM<((3:Nat):Int)/\∃(rZ:Int),ld jQ.drew (ae (ae (some ⟨w6,0,none⟩) ((gM:Int).toNat*2)) 0)=some (.int .i64 rZ)/\
 (0:Int)<=gM/\gM<((3:Nat):Int)/\∃(l6:Int),ld jQ.drew (ae (ae (some ⟨w6,0,none⟩) ((gM:Int).toNat*2)) 1)=some (.int .i64 l6)/\
 ah 201 #[rZ,l6] jQ.drew (λe jZ=>∃(lf jc:Int),e=Value.tuple #[lf,jc]/\K2 dA dT jQ.drew jZ (
 (0:Int)<=gM/\gM<((3:Nat):Int)/\∃(oq:Int),ld jZ (ae (ae (some ⟨w6,0,none⟩) ((gM:Int).toNat*2)) 0)=some (.int .i64 oq)/\
 (0:Int)<=gM/\gM<((3:Nat):Int)/\(true=true/\Wr jZ (ae (ae (some ⟨w6,0,none⟩) ((gM:Int).toNat*2)) 0) 1)/\bC (ae (ae (some ⟨w6,0,none⟩) ((gM:Int).toNat*2)) 0)≠some dA.heap.size/\bC (ae (ae (some ⟨w6,0,none⟩) ((gM:Int).toNat*2)) 0)≠some dT.heap.size/\(∀gL,gL=aG jZ (ae (ae (some ⟨w6,0,none⟩) ((gM:Int).toNat*2)) 0) [(aj (oq+65536))]->
 ∃(sb sR qp:Int),ag gL (some c1) 0 [sb,sR,qp]/\
 ah 178 #[.agg #[sb,sR,qp],gM] gL (Ri λod my=>K2 dA dT gL my (
 Br (od>0)
 (ah 159 #[.agg #[fI,iK,gI]] my (λe qo=>∃(pz oC m8 nc mH pB tX wE FC wS wF wG uA sH uT yI Ay J8:Int),e=Value.agg #[pz,oC,m8,nc,mH,pB,tX,wE,FC,wS,wF,wG,uA,sH,uT,yI,Ay,J8]/\K2 dA dT my qo (
 ((0:Int)<=(aj ((aj (2*gM))+1))/\((aj ((aj (2*gM))+1)):Int)<((6:Nat):Int))/\∃(qi x88 H3:Int),(([pz,oC,m8,nc,mH,pB,tX,wE,FC,wS,wF,wG,uA,sH,uT,yI,Ay,J8]:LV).drop (((aj ((aj (2*gM))+1)):Int).toNat*3)).take 3=[.int .i64 qi,.int .i64 x88,.int .i64 H3]/\
 ∀nu,nu=qo.setRow dA #[qi,x88,H3,ab,(aj ((aj ((aj (2*gM))+1))-1)),lf]->
 ∃n36,n36<n27/\aO [cr,cZ,dm]/\I26 n36 qi x88 H3 (0) ((aj ((aj ((aj (2*gM))+1))-1))) lf nu)))
 (ah 159 #[.agg #[fI,iK,gI]] my (λe w91=>∃(B9 sJ V2 CE CF CG Kb H0 rq pq tY yK tZ sL qk ql GL sM:Int),e=Value.agg #[B9,sJ,V2,CE,CF,CG,Kb,H0,rq,pq,tY,yK,tZ,sL,qk,ql,GL,sM]/\K2 dA dT my w91 (
 ((0:Int)<=(aj ((aj (2*gM))+0))/\((aj ((aj (2*gM))+0)):Int)<((6:Nat):Int))/\∃(kr qm jn:Int),(([B9,sJ,V2,CE,CF,CG,Kb,H0,rq,pq,tY,yK,tZ,sL,qk,ql,GL,sM]:LV).drop (((aj ((aj (2*gM))+0)):Int).toNat*3)).take 3=[.int .i64 kr,.int .i64 qm,.int .i64 jn]/\
 ∀JM,JM=w91.setRow dA #[kr,qm,jn,ab,(aj ((aj ((aj (2*gM))+1))-0)),lf]->
 ∃n36,n36<n27/\aO [cr,cZ,dm]/\I26 n36 kr qm jn (0) ((aj ((aj ((aj (2*gM))+1))-0))) lf JM))))))))))))))
 (R sY mX))))))):ah 197 #[a0,c0,c1,c2] w R:=
 cq ⟨[(7,⟨[(30,.int .i64),(8,.int .i64)],[],[]⟩),(3,⟨[],[(0,[.int .i64,.int .i64,.int .i64,.int .i64,.int .i64,.int .i64])],[]⟩)],[],[]⟩ Tryz.func197 h
theorem Uf.vc (h:
 ∀w0,w0=w.alloc (.cells #[aA,aq,au] 28)->
 ∀w1,w1=w0.alloc (.cells #[ak,ao,aw] 28)->
 ∀w2,w2=w1.alloc (.cells #[a2] 3)->
 ah 195 #[.agg #[aA,aq,au]] w2.drew (iM λx4 x5 x6 w3=>K3 w w0 w1 w2.drew w3 (
 ag w3 (some ⟨w1,0,none⟩) 0 [a2]/\ag w3 (some ⟨w0,0,none⟩) 0 [ak,ao,aw]/\ah 196 #[.agg #[ak,ao,aw]] w3 (iM λx8 x9 bj w7=>K3 w w0 w1 w3 w7 (
 ag w7 (some ⟨w1,0,none⟩) 0 [a2]/\∀aW,aW=w7.setRow w #[x4,x5,x6]->
 ag aW (some ⟨w1,0,none⟩) 0 [a2]/\∀cM,cM=aW.setRow w0 #[x8,x9,bj]->
 ag cM (some ⟨w1,0,none⟩) 0 [a2]/\∀bF,bF=cM.setRow w1 #[.int .i64 (if 64<(if 0>a2 then 0 else a2) then 64 else (if 0>a2 then 0 else a2))]->
 R (Value.func (.func 197) #[] #[w,.pointer (some ⟨w0,0,none⟩),.pointer (some ⟨w1,0,none⟩)]) bF))))):ah 143 #[.agg #[aA,aq,au],.agg #[ak,ao,aw],a2] w R:=
 cq bT Tryz.func143 h
theorem X0.vc {a0:Value} (h:
 aP (ke a0) (
 ∀w0,w0=w.alloc (.cells #[a0] 65)->
 ∀w1,w1=w0.alloc (.cells #[ak,ao,aw] 28)->
 ∀w2,w2=w1.alloc (.cells #[br,bG,bq] 28)->
 ∀w3,w3=w2.alloc (.cells #[ab,ab,ab,ab,ab,ab] 77)->
 ∀w4,w4=w3.alloc (.cells #[false] 4)->
 ah 143 #[.agg #[ak,ao,aw],.agg #[br,bG,bq],a3] w4 (Rv λv6 w5=>K5 w w0 w1 w2 w3 w4 w5 (
 ∃(xs7:List (LV)) (Rd8 F9:Nat->Prop) (Cj:Nat->(Nat->Prop)->Int->Int->Int->Int->Int->Int->Bool->World->Prop) (X11:Option Nat->(Nat->Prop)->Int->Int->Int->Int->Int->Int->Bool->World->Prop),
 (∀x ∈ xs7,∃(bU cc bW cm cp cT:Int),x=[.agg #[.int .i64 bU,.int .i64 cc,.int .i64 bW,.int .i64 cm,.int .i64 cp,.int .i64 cT]])/\
 (∀(n18:Nat) (F19:Nat->Prop) (cZ dm dI dz eH dQ:Int) (Fa:Bool) (eo gn:World),Cj n18 F19 cZ dm dI dz eH dQ Fa eo->Below w5 eo gn->(∀i,F19 i->gn.heap[i]? =eo.heap[i]?)->Cj n18 F19 cZ dm dI dz eH dQ Fa gn)/\
 (∀(WO:Option Nat) (F30:Nat->Prop) (gI gQ ey g8 jX m4:Int) (b37:Bool) (mX jD:World),X11 WO F30 gI gQ ey g8 jX m4 b37 mX->Below w5 mX jD->(∀i,F30 i->jD.heap[i]? =mX.heap[i]?)->X11 WO F30 gI gQ ey g8 jX m4 b37 jD)/\
 (∀(n40:Nat) (F41:Nat->Prop) (lZ pj kD pk gM rV:Int) (b48:Bool) (kv:World),Cj n40 F41 lZ pj kD pk gM rV b48 kv->∀i,F41 i->i<kv.heap.size/\i≠w5.heap.size/\i≠w5.heap.size+1)/\
 (∀(n50:Option Nat) (F51:Nat->Prop) (kE im ou ky rZ l6:Int) (N0:Bool) (sQ:World),X11 n50 F51 kE im ou ky rZ l6 N0 sQ->∀i,F51 i->i<sQ.heap.size/\i≠w5.heap.size/\i≠w5.heap.size+1)/\
 (∀i,Rd8 i->i<w5.heap.size/\¬F9 i/\i≠w.heap.size/\i≠w0.heap.size/\i≠w1.heap.size/\i≠w2.heap.size/\i≠w3.heap.size/\True)/\
 (∀kC:World,KJ w5 w5 kC->Iter Tryz.prog (v6) kC Rd8 xs7/\aO [a0]/\aO [ak,ao,aw]/\aO [br,bG,bq]/\Cj 0 F9 (0) (0) (0) (0) (0) (0) false kC)/\
 (∀(n61:Nat) (F62:Nat->Prop) (axu:Nat->Value) (sR qp lh od nt pz:Int) (b70:Bool) (m8 nc mH pB tX wE:Int) (sK:World),xs7[n61]? =some [.agg #[.int .i64 m8,.int .i64 nc,.int .i64 mH,.int .i64 pB,.int .i64 tX,.int .i64 wE]]->Cj n61 F62 sR qp lh od nt pz b70 sK->
 ∀N3,N3=sK.alloc (.cells #[ab,ab,ab,ab,ab,ab] 77)->
 ∀r6,r6=N3.setRow sK #[m8,nc,mH,pB,tX,wE]->
 Below sK sK r6/\∀lX:World,Rec (w5.heap.size+1) r6 lX->Cj n61 F62 sR qp lh od nt pz b70 lX->
 cw Tryz.prog a0 [.agg #[m8,nc,mH]] lX (Ri λsH qq=>K6 w w0 w1 w2 w3 sK lX qq (
 ah 144 #[sH] qq (Rb λb84 Nw=>K6 w w0 w1 w2 w3 sK qq Nw (
 Br (!b84)
 (∀JD,JD=Nw.setRow sK #[m8,nc,mH,sH,tX,wE]->
 ∀w86,w86=JD.setRow w2 #[m8,nc,mH,sH,tX,wE]->
 ∀sI,sI=w86.setRow w3 #[true]->
 true=true/\∃F88:Nat->Prop,(aO [a0]/\aO [ak,ao,aw]/\aO [br,bG,bq]/\X11 none F88 m8 nc mH sH tX wE true sI)/\Step (λi=>(F62 i\/i ∈([w.heap.size,w0.heap.size,w1.heap.size,w2.heap.size,w3.heap.size]:List Nat))\/sK.heap.size<=i) (λi=>F88 i\/i ∈([w.heap.size,w0.heap.size,w1.heap.size,w2.heap.size,w3.heap.size]:List Nat)) lX sI)
 (∃F89:Nat->Prop,(aO [a0]/\aO [ak,ao,aw]/\aO [br,bG,bq]/\Cj (n61+1) F89 sR qp lh od nt pz b70 Nw)/\Step (λi=>(F62 i\/i ∈([w.heap.size,w0.heap.size,w1.heap.size,w2.heap.size,w3.heap.size]:List Nat))\/sK.heap.size<=i) (λi=>F89 i\/i ∈([w.heap.size,w0.heap.size,w1.heap.size,w2.heap.size,w3.heap.size]:List Nat)) lX Nw))))))/\
 (∀(F90:Nat->Prop) (apP:Nat->Value) (B9 sJ V2 CE CF CG:Int) (b98:Bool) (J9:World),Cj xs7.length F90 B9 sJ V2 CE CF CG b98 J9->J9.heap[w5.heap.size]? =some (.deferred (some []))->
 ∀po,po=J9.setRow w2 #[ab,ab,ab,ab,ab,ab]->
 ∀Fc,Fc=po.setRow w3 #[false]->
 Fc.heap[w5.heap.size]? =some (.deferred (some []))/\∀ahp:World,Rec w5 Fc ahp->
 R (Value.tuple #[.agg #[ab,ab,ab,ab,ab,ab],false]) ahp)/\
 (∀(aqf:Nat->Prop) (auE:Nat->Value) (sL qk ql GL sM kr:Int) (ak3:Bool) (wK:World),X11 none aqf sL qk ql GL sM kr ak3 wK->wK.heap[w5.heap.size]? =some (.deferred (some []))->
 wK.heap[w5.heap.size]? =some (.deferred (some []))/\∀JM:World,Rec w5 wK JM->
 R (Value.tuple #[.agg #[sL,qk,ql,GL,sM,kr],ak3]) JM))))):ah 87 #[a0,.agg #[ak,ao,aw],.agg #[br,bG,bq],a3] w R:=
 cq ⟨[],[],[(3,⟨[],[(3,[.int .i64,.int .i64,.int .i64,.int .i64,.int .i64,.int .i64]),(4,[.bool])],[]⟩,[.agg [.int .i64,.int .i64,.int .i64,.int .i64,.int .i64,.int .i64]])]⟩ Tryz.func87 h
theorem PF.vc (h:
 ∀w0,w0=w.alloc (.cells #[aA,aq,au,aT,aU,aX] 77)->
 ∀w1,w1=w0.alloc (.cells #[ab,ab,ab] 41)->
 Br (aU<0)
 (∀w2,w2=w1.setRow w0 #[ab,ab,ab]->
 R (Value.tuple #[.agg #[ab,ab,ab],false]) w2)
 (Br (aU>=6)
 (∀w3,w3=w1.setRow w0 #[ab,ab,ab]->
 R (Value.tuple #[.agg #[ab,ab,ab],false]) w3)
 (ah 159 #[.agg #[aA,aq,au]] w1.drew (λe w4=>∃(x5 x6 x7 x8 x9 bj bz bU cc bW cm cp cT cg cr cZ dm dI:Int),e=Value.agg #[x5,x6,x7,x8,x9,bj,bz,bU,cc,bW,cm,cp,cT,cg,cr,cZ,dm,dI]/\K2 w w0 w1.drew w4 (
 ag w4 (some ⟨w,4,none⟩) 0 [aU]/\((0:Int)<=aU/\aU<((6:Nat):Int))/\∃(dz eH dQ:Int),(([x5,x6,x7,x8,x9,bj,bz,bU,cc,bW,cm,cp,cT,cg,cr,cZ,dm,dI]:LV).drop ((aU:Int).toNat*3)).take 3=[.int .i64 dz,.int .i64 eH,.int .i64 dQ]/\
 ∀eG,eG=w4.setRow w0 #[dz,eH,dQ]->
 R (Value.tuple #[.agg #[dz,eH,dQ],true]) eG))))):ah 109 #[.agg #[aA,aq,au,aT,aU,aX]] w R:=
 cq bT Tryz.func109 h
theorem Gb.vc {bJ:Bool} (h:
 ∀w0,w0=w.alloc (.cells #[aA,aq,au,aT,aU,aX,bN,bI,bJ] 70)->
 ∀w1,w1=w0.alloc (.cells #[ab,ab,ab] 28)->
 ah 145 #[.agg #[aA,aq,au],.agg #[ab,(aj (Int.tdiv (aj (bI*4)) 5)),ab]] w1 (iM λx3 x4 x5 w2=>K2 w w0 w1 w2 (
 ∀w6,w6=w2.setRow w0 #[x3,x4,x5]->
 R (Value.agg #[x3,x4,x5]) w6))):ah 88 #[.agg #[aA,aq,au,aT,aU,aX,bN,bI,bJ]] w R:=
 cq bT Tryz.func88 h
theorem X1.vc (h:
 ∀w0,w0=w.alloc (.cells #[aA,aq,au] 41)->
 ∀w1,w1=w0.alloc (.cells #[ab,ab,ab,ab,ab,ab] 107)->
 (ah 174 #[aA] w1.drew (Ri λx3 w2=>K2 w w0 w1.drew w2 (
 ag w2 (some ⟨w,2,none⟩) 0 [au]/\ag w2 (some ⟨w,1,none⟩) 0 [aq]/\(ah 174 #[aq] w2 (Ri λx5 w4=>K2 w w0 w2 w4 (
 ag w4 (some ⟨w,2,none⟩) 0 [au]/\(ah 174 #[au] w4 (Ri λx7 w6=>K2 w w0 w4 w6 (
 (∀w8,w8=w6.alloc (.cells #[ab,ab,ab] 28)->
 ∀w9,w9=w8.setRow w6 #[x3,x5,x7]->
 ah 145 #[.agg #[x3,x5,x7],.agg #[(65536:Int),(65536:Int),(65536:Int)]] w9.drew (iM λbz bU cc bD=>K3 w w0 w6 w9.drew bD (
 ag bD (some ⟨w6,0,none⟩) 0 [x3,x5,x7]/\∀bK,bK=bD.setRow w0 #[x3,x5,x7,bz,bU,cc]->
 R (Value.agg #[x3,x5,x7,bz,bU,cc]) bK)))/\(∀dY,dY=w6.alloc (.cells #[ab,ab,ab] 28)->
 ∀cB,cB=dY.setRow w6 #[x3,x5,x7]->
 ah 145 #[.agg #[x3,x5,x7],.agg #[(65536:Int),(65536:Int),(65536:Int)]] cB.drew (iM λcg cr cZ cE=>K3 w w0 w6 cB.drew cE (
 ag cE (some ⟨w6,0,none⟩) 0 [x3,x5,x7]/\∀ed,ed=cE.setRow w0 #[x3,x5,x7,cg,cr,cZ]->
 R (Value.agg #[x3,x5,x7,cg,cr,cZ]) ed))))))/\(∀cL,cL=w4.alloc (.cells #[ab,ab,ab] 28)->
 ah 174 #[au] cL (Ri λeH dT=>K3 w w0 w4 cL dT (
 ∀cP,cP=dT.setRow w4 #[x3,x5,eH]->
 ah 145 #[.agg #[x3,x5,eH],.agg #[(65536:Int),(65536:Int),(65536:Int)]] cP.drew (iM λfw gy fI eG=>K3 w w0 w4 cP.drew eG (
 ag eG (some ⟨w4,0,none⟩) 0 [x3,x5,eH]/\∀eY,eY=eG.setRow w0 #[x3,x5,eH,fw,gy,fI]->
 R (Value.agg #[x3,x5,eH,fw,gy,fI]) eY))))))))/\(∀fj,fj=w2.alloc (.cells #[ab,ab,ab] 28)->
 ah 174 #[aq] fj (Ri λey j6=>K3 w w0 w2 fj j6 (
 ag j6 (some ⟨w,2,none⟩) 0 [au]/\ah 174 #[au] j6 (Ri λjX iL=>K3 w w0 w2 j6 iL (
 ∀jl,jl=iL.setRow w2 #[x3,ey,jX]->
 ah 145 #[.agg #[x3,ey,jX],.agg #[(65536:Int),(65536:Int),(65536:Int)]] jl.drew (iM λfX mG lW gJ=>K3 w w0 w2 jl.drew gJ (
 ag gJ (some ⟨w2,0,none⟩) 0 [x3,ey,jX]/\∀jm,jm=gJ.setRow w0 #[x3,ey,jX,fX,mG,lW]->
 R (Value.agg #[x3,ey,jX,fX,mG,lW]) jm))))))))))/\(∀jI,jI=w1.drew.alloc (.cells #[ab,ab,ab] 28)->
 ah 174 #[aA] jI (Ri λkD il=>K2 w w0 jI il (
 il.heap[w1.drew.heap.size]? =jI.heap[w1.drew.heap.size]?/\
 ag il (some ⟨w,2,none⟩) 0 [au]/\ag il (some ⟨w,1,none⟩) 0 [aq]/\ah 174 #[aq] il (Ri λgM yN=>K2 w w0 il yN (
 yN.heap[w1.drew.heap.size]? =il.heap[w1.drew.heap.size]?/\
 ag yN (some ⟨w,2,none⟩) 0 [au]/\ah 174 #[au] yN (Ri λuS jQ=>K2 w w0 yN jQ (
 jQ.heap[w1.drew.heap.size]? =yN.heap[w1.drew.heap.size]?/\
 ∀kv,kv=jQ.setRow w1.drew.heap.size #[kD,gM,uS]->
 ah 145 #[.agg #[kD,gM,uS],.agg #[(65536:Int),(65536:Int),(65536:Int)]] kv.drew (iM λlr kE im kM=>K2 w w0 kv.drew kM (
 kM.heap[w1.drew.heap.size]? =kv.drew.heap[w1.drew.heap.size]?/\
 ag kM (some ⟨w1.drew.heap.size,0,none⟩) 0 [kD,gM,uS]/\∀Bs,Bs=kM.setRow w0 #[kD,gM,uS,lr,kE,im]->
 R (Value.agg #[kD,gM,uS,lr,kE,im]) Bs)))))))))):ah 121 #[.agg #[aA,aq,au]] w R:=
 cq bT Tryz.func121 h
theorem tA.vc {a0:Addr} {c0:Addr} (h:
 ∃(x0 x1 x2 x3 x4 x5 x6 x7:Int) (b8:Bool),ag w.drew (ae (some a0) 0) 0 [x0,x1,x2,x3,x4,x5,x6,x7,b8]/\
 ∃(x9 bj bz bU cc bW:Int),ag w.drew (some c0) 0 [x9,bj,bz,bU,cc,bW]/\
 ah 48 #[.agg #[x0,x1,x2,x3,x4,x5,x6,x7,b8]] w.drew (λe dY=>∃(cp cT cg cr cZ dm:Int),e=Value.agg #[cp,cT,cg,cr,cZ,dm]/\
 ag dY (some c0) 0 [x9,bj,bz,bU,cc,bW]/\ah 124 #[.agg #[cp,cT,cg,cr,cZ,dm],.agg #[x9,bj,bz,bU,cc,bW]] dY (λe cL=>∃(H2:Bool),e=H2/\
 R H2 cL))):ah 123 #[a0,c0] w R:=
 cq bT Tryz.func123 h
theorem pa.vc {a0:Sl} {a1:Value} (h:
 ah 175 #[a0,a1] w (λe w0=>∃(x1:Int),e=x1/\
 R (Value.bool (decide (x1>=0))) w0)):ah 122 #[a0,a1] w R:=
 cq bT Tryz.func122 h
theorem vD.vc {a0:Addr} (h:
 ∀w0,w0=w.alloc (.cells #[ak,ao,aw] 41)->
 ah 121 #[.agg #[ak,ao,aw]] w0 (vy λx2 x3 x4 x5 x6 x7 w1=>Kp w w0 w1/\
 ∀w8,w8=w1.alloc (.cells #[ab,ab,ab,ab,ab,ab] 107)->
 ∀w9,w9=w8.setRow w1 #[x2,x3,x4,x5,x6,x7]->
 ah 122 #[.slice (aJ (ae (some a0) 1) (0) (16) 1) (16-0) (16-0),.func (.func 123) #[] #[.pointer (some ⟨w1,0,none⟩)]] w9 (Rb λWL bD=>Kp w w9 bD/\
 R WL bD))):ah 66 #[a0,.agg #[ak,ao,aw]] w R:=
 cq bT Tryz.func66 h
theorem vO.vc {a0:Addr} (h:
 ∀w0,w0=w.alloc (.cells #[br,bG,bq] 28)->
 ∀w1,w1=w0.alloc (.cells #[ab,ab,ab,ab,ab,ab] 77)->
 ah 50 #[a0,a1] w1 (λe w2=>∃(p3:Option Addr),e=p3/\K2 w w0 w1 w2 (
 Br (p3).isNone
 (∀w4,w4=w2.setRow w0 #[ab,ab,ab,ab,ab,ab]->
 R (Value.tuple #[.agg #[ab,ab,ab,ab,ab,ab],(6:Int)]) w4)
 (aP (dB p3) (aP (dB p3) (∃(x5 x6 x7 x8 x9 bj bz bU:Int) (E6:Bool),ag w2.drew (ae p3 0) 0 [x5,x6,x7,x8,x9,bj,bz,bU,E6]/\
 (ah 47 #[a0] w2.drew (Rv λv15 bK=>K2 w w0 w2.drew bK (
 ag bK w 0 [br,bG,bq]/\ag bK (ae p3 0) 0 [x5,x6,x7,x8,x9,bj,bz,bU,E6]/\(ah 88 #[.agg #[x5,x6,x7,x8,x9,bj,bz,bU,E6]] bK (iM λcT cg cr cB=>K2 w w0 bK cB (
 ag cB w 0 [br,bG,bq]/\(ah 87 #[v15,.agg #[cT,cg,cr],.agg #[br,bG,bq],(5:Int)] cB (λe fh=>∃(dm dI dz eH dQ fk:Int) (Ax:Bool),e=Value.tuple #[.agg #[dm,dI,dz,eH,dQ,fk],Ax]/\K2 w w0 cB fh (
 ∀gn,gn=fh.alloc (.cells #[ab,ab,ab,ab,ab,ab] 77)->
 ∀dH,dH=gn.setRow fh #[dm,dI,dz,eH,dQ,fk]->
 Br (!Ax)
 (∀eY,eY=dH.setRow w0 #[ab,ab,ab,ab,ab,ab]->
 R (Value.tuple #[.agg #[ab,ab,ab,ab,ab,ab],(13:Int)]) eY)
 (Br (eH==(-1))
 (∀fj,fj=dH.setRow w0 #[ab,ab,ab,ab,ab,ab]->
 R (Value.tuple #[.agg #[ab,ab,ab,ab,ab,ab],(11:Int)]) fj)
 (∀j6,j6=dH.setRow w0 #[dm,dI,dz,eH,dQ,fk]->
 R (Value.tuple #[.agg #[dm,dI,dz,eH,dQ,fk],(0:Int)]) j6)))))/\(∀ej,ej=cB.alloc (.cells #[ab,ab,ab,ab,ab,ab] 77)->
 ah 87 #[v15,.agg #[cT,cg,cr],.agg #[br,bG,bq],(5:Int)] ej (λe iL=>∃(jX m4 gu fX mG lW:Int) (b41:Bool),e=Value.tuple #[.agg #[jX,m4,gu,fX,mG,lW],b41]/\K3 w w0 cB ej iL (
 ∀jI,jI=iL.setRow cB #[jX,m4,gu,fX,mG,lW]->
 Br (!b41)
 (∀il,il=jI.setRow w0 #[ab,ab,ab,ab,ab,ab]->
 R (Value.tuple #[.agg #[ab,ab,ab,ab,ab,ab],(13:Int)]) il)
 (Br (fX==(-1))
 (∀jV,jV=jI.setRow w0 #[ab,ab,ab,ab,ab,ab]->
 R (Value.tuple #[.agg #[ab,ab,ab,ab,ab,ab],(11:Int)]) jV)
 (∀yN,yN=jI.setRow w0 #[jX,m4,gu,fX,mG,lW]->
 R (Value.tuple #[.agg #[jX,m4,gu,fX,mG,lW],(0:Int)]) yN))))))))/\(∀m7,m7=bK.alloc (.cells #[ab,ab,ab,ab,ab,ab] 77)->
 ah 88 #[.agg #[x5,x6,x7,x8,x9,bj,bz,bU,E6]] m7 (iM λuS Cc sa jQ=>K3 w w0 bK m7 jQ (
 ag jQ w 0 [br,bG,bq]/\ah 87 #[v15,.agg #[uS,Cc,sa],.agg #[br,bG,bq],(5:Int)] jQ (λe wR=>∃(kE im ou ky rZ l6:Int) (N0:Bool),e=Value.tuple #[.agg #[kE,im,ou,ky,rZ,l6],N0]/\K3 w w0 bK jQ wR (
 ∀sQ,sQ=wR.setRow bK #[kE,im,ou,ky,rZ,l6]->
 Br (!N0)
 (∀kC,kC=sQ.setRow w0 #[ab,ab,ab,ab,ab,ab]->
 R (Value.tuple #[.agg #[ab,ab,ab,ab,ab,ab],(13:Int)]) kC)
 (Br (ky==(-1))
 (∀mY,mY=sQ.setRow w0 #[ab,ab,ab,ab,ab,ab]->
 R (Value.tuple #[.agg #[ab,ab,ab,ab,ab,ab],(11:Int)]) mY)
 (∀gL,gL=sQ.setRow w0 #[kE,im,ou,ky,rZ,l6]->
 R (Value.tuple #[.agg #[kE,im,ou,ky,rZ,l6],(0:Int)]) gL))))))))))/\(∀uz,uz=w2.drew.alloc (.cells #[ab,ab,ab,ab,ab,ab] 77)->
 ah 47 #[a0] uz (Rv λv65 oX=>K2 w w0 uz oX (
 oX.heap[w2.drew.heap.size]? =uz.heap[w2.drew.heap.size]?/\
 ag oX w 0 [br,bG,bq]/\ag oX (ae p3 0) 0 [x5,x6,x7,x8,x9,bj,bz,bU,E6]/\ah 88 #[.agg #[x5,x6,x7,x8,x9,bj,bz,bU,E6]] oX (iM λod nt pz my=>K2 w w0 oX my (
 my.heap[w2.drew.heap.size]? =oX.heap[w2.drew.heap.size]?/\
 ag my w 0 [br,bG,bq]/\ah 87 #[v65,.agg #[od,nt,pz],.agg #[br,bG,bq],(5:Int)] my (λe kx=>∃(m8 nc mH pB tX wE:Int) (b77:Bool),e=Value.tuple #[.agg #[m8,nc,mH,pB,tX,wE],b77]/\K2 w w0 my kx (
 kx.heap[w2.drew.heap.size]? =my.heap[w2.drew.heap.size]?/\
 ∀lX,lX=kx.setRow w2.drew.heap.size #[m8,nc,mH,pB,tX,wE]->
 Br (!b77)
 (∀N3,N3=lX.setRow w0 #[ab,ab,ab,ab,ab,ab]->
 R (Value.tuple #[.agg #[ab,ab,ab,ab,ab,ab],(13:Int)]) N3)
 (Br (pB==(-1))
 (∀r6,r6=lX.setRow w0 #[ab,ab,ab,ab,ab,ab]->
 R (Value.tuple #[.agg #[ab,ab,ab,ab,ab,ab],(11:Int)]) r6)
 (∀qq,qq=lX.setRow w0 #[m8,nc,mH,pB,tX,wE]->
 R (Value.tuple #[.agg #[m8,nc,mH,pB,tX,wE],(0:Int)]) qq))))))))))))))):ah 32 #[a0,a1,.agg #[br,bG,bq]] w R:=
 cq bT Tryz.func32 h
theorem vP.vc {a0:Addr} (h:
 ∀w0,w0=w.alloc (.cells #[ak,ao,aw] 41)->
 ah 103 #[a2] w0 (Rb λb2 w1=>Kp w w0 w1/\
 Br b2
 (ah 66 #[a0,.agg #[ak,ao,aw]] w1 (Rb λb4 w3=>Kp w w1 w3/\
 Br b4
 (R (12:Int) w3)
 (∃(p5:Option Addr),ld w3.drew (ae (some a0) 0)=some (.pointer p5)/\
 ah 113 #[p5,.agg #[ak,ao,aw],a2] w3.drew (Ri λx7 w6=>Kp w w3.drew w6/\
 R x7 w6))))
 (∃(p8:Option Addr),ld w1.drew (ae (some a0) 0)=some (.pointer p8)/\
 ah 113 #[p8,.agg #[ak,ao,aw],a2] w1.drew (Ri λbj w9=>Kp w w1.drew w9/\
 R bj w9)))):ah 59 #[a0,.agg #[ak,ao,aw],a2] w R:=
 cq bT Tryz.func59 h
theorem uJ.vc {a0:Addr} (h:
 ∀w0,w0=w.alloc (.cells #[br,bG,bq] 28)->
 ah 32 #[a0,a1,.agg #[br,bG,bq]] w0 (λe w1=>∃(x2 x3 x4 x5 x6 x7 x8:Int),e=Value.tuple #[.agg #[x2,x3,x4,x5,x6,x7],x8]/\Kp w w0 w1/\
 ∀w9,w9=w1.alloc (.cells #[ab,ab,ab,ab,ab,ab] 77)->
 ∀bD,bD=w9.setRow w1 #[x2,x3,x4,x5,x6,x7]->
 Br (x8==6)
 (R x8 bD)
 (ah 108 #[a3] bD (Rb λQL aW=>K2 w w1 bD aW (
 Br (!QL)
 (R (1:Int) aW)
 (Br (a3==0)
 (R (1:Int) aW)
 (Br (x8 !=0)
 (R x8 aW)
 (ah 109 #[.agg #[x2,x3,x4,x5,x6,x7]] aW (λe bF=>∃(bW cm cp:Int) (WH:Bool),e=Value.tuple #[.agg #[bW,cm,cp],WH]/\K2 w w1 aW bF (
 ∀dA,dA=bF.alloc (.cells #[ab,ab,ab] 41)->
 ∀fy,fy=dA.setRow bF #[bW,cm,cp]->
 Br (!WH)
 (R (12:Int) fy)
 (ah 59 #[a0,.agg #[bW,cm,cp],a3] fy (Ri λdm fh=>K3 w w1 bF fy fh (
 R dm fh))))))))))))):ah 55 #[a0,a1,.agg #[br,bG,bq],a3] w R:=
 cq bT Tryz.func55 h
theorem uK.vc {a0:Addr} (h:
 ∀w0,w0=w.alloc (.cells #[br,bG,bq] 28)->
 ah 32 #[a0,a1,.agg #[br,bG,bq]] w0 (λe w1=>∃(x2 x3 x4 x5 x6 x7 x8:Int),e=Value.tuple #[.agg #[x2,x3,x4,x5,x6,x7],x8]/\Kp w w0 w1/\
 ∀w9,w9=w1.alloc (.cells #[ab,ab,ab,ab,ab,ab] 77)->
 ∀bD,bD=w9.setRow w1 #[x2,x3,x4,x5,x6,x7]->
 Br (x8==0)
 (ah 59 #[a0,.agg #[x2,x3,x4],(0:Int)] bD (Ri λbU aW=>K2 w w1 bD aW (
 Br (bU !=0)
 (R (Value.tuple #[ab,bU]) aW)
 (R (Value.tuple #[x5,ab]) aW))))
 (Br (x8 !=0)
 (R (Value.tuple #[ab,x8]) bD)
 (R (Value.tuple #[x5,ab]) bD)))):ah 33 #[a0,a1,.agg #[br,bG,bq]] w R:=
 cq bT Tryz.func33 h
theorem vQ.vc {a0:Addr} {bq:Bool} (h:
 ∀w0,w0=w.alloc (.cells #[br,bG,bq] 109)->
 ah 50 #[a0,a1] w0 (λe w1=>∃(p2:Option Addr),e=p2/\Kp w w0 w1/\
 Br (p2).isNone
 (R (6:Int) w1)
 (aP (dB p2) (aP (dB p2) ((((ae p2 9)).isSome=true/\Wr w1 (ae p2 9) 3)/\bC (ae p2 9)≠some w.heap.size/\(∀w3,w3=aG w1 (ae p2 9) [br,bG,bq]->
 R (0:Int) w3)))))):ah 54 #[a0,a1,.agg #[br,bG,bq]] w R:=
 cq bT Tryz.func54 h
theorem vR.vc {a0:Addr} (h:
 ∀w0,w0=w.alloc (.cells #[ab,ab,ab,ab,ab,ab,ab,ab,false] 70)->
 ah 50 #[a0,a1] w0 (λe w1=>∃(p2:Option Addr),e=p2/\Kp w w0 w1/\
 Br (p2).isNone
 (∀w3,w3=w1.setRow w #[ab,ab,ab,ab,ab,ab,ab,ab,false]->
 R (Value.tuple #[.agg #[ab,ab,ab,ab,ab,ab,ab,ab,false],false]) w3)
 (aP (dB p2) (aP (dB p2) (∃(x4 x5 x6 x7 x8 x9 bj bz:Int) (QL:Bool),ag w1 (ae p2 0) 0 [x4,x5,x6,x7,x8,x9,bj,bz,QL]/\
 ∀bF,bF=w1.setRow w #[x4,x5,x6,x7,x8,x9,bj,bz,QL]->
 R (Value.tuple #[.agg #[x4,x5,x6,x7,x8,x9,bj,bz,QL],true]) bF))))):ah 29 #[a0,a1] w R:=
 cq bT Tryz.func29 h
theorem vM.vc {a0:Addr} (h:
 ∃(p0 p1 p2 p3 p4 p5 p6 p7 p8 p9 H4 Wh ow Ng p14 Rf:Option Addr),ag w (ae (some a0) 1) 0 [.pointer p0,p1,p2,p3,p4,p5,p6,p7,p8,p9,H4,Wh,ow,Ng,p14,Rf]/\
 ∃I16:Nat->Int->Sl->World->Prop,
 (∃GK,I16 GK (0) ⟨none,0,0⟩ w)/\
 ∀(GK:Nat) (aqh:Nat->Value) (cr:Int) (uB:Sl) (ed:World),I16 GK cr uB ed->
 Br (cr<16)
 (((0:Int)<=cr/\cr<((16:Nat):Int))/\∃(Sz:Option Addr),([.pointer p0,p1,p2,p3,p4,p5,p6,p7,p8,p9,H4,Wh,ow,Ng,p14,Rf]:LV)[(cr:Int).toNat*1]? =some (.pointer Sz)/\
 Br (!(Sz).isNone)
 (aP (dB Sz) (aP (dB Sz) (∃(eH dQ fk fw gy fI iK gI:Int) (N1:Bool),ag ed (ae Sz 0) 0 [eH,dQ,fk,fw,gy,fI,iK,gI,N1]/\
 ah 45 #[a0,.agg #[eH,dQ,fk,fw,gy,fI,iK,gI,N1]] ed (λe ej=>∃(JC:Bool),e=JC/\
 Br JC
 (∀ie,ie=ej.alloc (.cells #[Sz] 53)->
 ba 8 1 ie uB 1 [.pointer Sz]/\∀(Kd:Sl) (gJ:World),aV 53 1 ie uB 1 [.pointer Sz] Kd gJ->Kp ej ie gJ/\
 ∃Nh,Nh<GK/\I16 Nh ((aj (cr+1))) Kd gJ)
 (∃Nh,Nh<GK/\I16 Nh ((aj (cr+1))) uB ej)))))
 (∃Nh,Nh<GK/\I16 Nh ((aj (cr+1))) uB ed))
 (∃I38:Nat->Int->Sl->World->Prop,
 (∃n39,I38 n39 (0) ⟨none,0,0⟩ ed)/\
 ∀(n39:Nat) (axx:Nat->Value) (kq:Int) (s42:Sl) (il:World),I38 n39 kq s42 il->
 Br (decide (kq<((uB.n:Nat):Int)))
 (ee uB.a kq uB.n/\∃(p45:Option Addr),ld il (ae uB.a ((kq:Int).toNat*1))=some (.pointer p45)/\
 aP (dB p45) (aP (dB p45) (∃(gM rV uS Cc sa lr kE im:Int) (b54:Bool),ag il.drew (ae p45 0) 0 [gM,rV,uS,Cc,sa,lr,kE,im,b54]/\
 aP (dB p45) (aP (dB p45) (∃(ky rZ:Int) (VZ:Bool),ag il.drew (ae p45 9) 0 [ky,rZ,VZ]/\
 ah 47 #[a0] il.drew (λe jZ=>∃(v59:Value),e=v59/\
 ag jZ (ae p45 9) 0 [ky,rZ,VZ]/\ag jZ (ae p45 0) 0 [gM,rV,uS,Cc,sa,lr,kE,im,b54]/\ah 116 #[.agg #[gM,rV,uS,Cc,sa,lr,kE,im,b54],v59,.agg #[ky,rZ,VZ]] jZ (λe kC=>∃(oq mZ sb sR qp lh od nt:Int) (b69:Bool),e=Value.agg #[oq,mZ,sb,sR,qp,lh,od,nt,b69]/\
 ∀kx,kx=kC.alloc (.cells #[oq,mZ,sb,sR,qp,lh,od,nt,b69] 70)->
 ba 72 9 kx s42 1 [oq,mZ,sb,sR,qp,lh,od,nt,b69]/\∀(s71:Sl) (Ke:World),aV 70 9 kx s42 1 [oq,mZ,sb,sR,qp,lh,od,nt,b69] s71 Ke->Kp kC kx Ke/\
 ∃n44,n44<n39/\I38 n44 ((aj (kq+1))) s71 Ke)))))))
 (ah 47 #[a0] il (λe FG=>∃(v74:Value),e=v74/\
 ah 117 #[v74,s42] FG (λe pn=>∃(E8:Sl),e=E8/\
 ∃I77:Nat->Int->World->Prop,
 (∃n78,I77 n78 (0) pn)/\
 ∀(n78:Nat) (aqk:Nat->Value) (wG:Int) (qq:World),I77 n78 wG qq->
 Br (decide (wG<((E8.n:Nat):Int)))
 (ee E8.a wG E8.n/\∃(uT yI Ay J8 qi x88 H3 Sx:Int) (b91:Bool),ag qq (ae E8.a ((wG:Int).toNat*9)) 0 [uT,yI,Ay,J8,qi,x88,H3,Sx,b91]/\
 ∀WJ,WJ=qq.alloc (.cells #[ab,ab,ab,ab,ab,ab,ab,ab,false] 70)->
 ∀yT,yT=WJ.setRow qq #[uT,yI,Ay,J8,qi,x88,H3,Sx,b91]->
 ee uB.a wG uB.n/\∃(p94:Option Addr),ld yT.drew (ae uB.a ((wG:Int).toNat*1))=some (.pointer p94)/\
 aP (dB p94) (aP (dB p94) ((((ae p94 0)).isSome=true/\Wr yT.drew (ae p94 0) 9)/\bC (ae p94 0)≠some qq.heap.size/\(∀Nz,Nz=aG yT.drew (ae p94 0) [uT,yI,Ay,J8,qi,x88,H3,Sx,b91]->
 ∃n82,n82<n78/\I77 n82 ((aj (wG+1))) Nz))))
 (∃(p96:Option Addr),ld qq (ae (some a0) 0)=some (.pointer p96)/\
 ah 118 #[p96,.func (.func 66) #[a0] #[]] qq (λe w97=>e=sY/\
 ∃(p98:Option Addr),ld w97 (ae (some a0) 0)=some (.pointer p98)/\
 ah 119 #[p98] w97 (λe J9=>∃(rq:Int),e=rq/\
 R rq J9)))))))):ah 64 #[a0] w R:=
 cq ⟨[(15,⟨[(59,.int .i64)],[],[]⟩),(10,⟨[(35,.int .i64),(4,.slice)],[],[]⟩),(4,⟨[(15,.int .i64),(3,.slice)],[],[]⟩)],[],[]⟩ Tryz.func64 h
def eO (v:Ce):Ce:=TI (λ_ n=>dP n) v
theorem U4 (v:Ce) (w:World):ah 195 #[ea v] w λe w'=>e=(ea (eO v))/\Ext w w':=by
 apply ace.vc;intro w0 e0 w1 e1;have x0:=aL e0;have z0:=zA e0;have x1:=aL e1;have z1:=zA e1;refine (ux (λ_ n=>dP n) v (.func (.func 256) #[] #[]) w1 λw' x' i x _ _=>cU (by kernel_rfl) rfl (Ub.vc ((gg x w').mono ?_))).mono ?_
 ·rintro e w2 ⟨rfl,rfl⟩;exact ⟨_,rfl,rfl,Ext.cQ _⟩
 rintro e w2 ⟨rfl,x2⟩;have z2:=x2.size;exact ⟨_,_,_,rfl,x2.heap aa,x2.heap aa,λw6 e6=>⟨rfl,(x0.tr (x1.tr x2)).af e6 aa⟩⟩
def yw (n:Int):Int:=min (max n (-1048576)) 1048576
theorem agi (n:Int):(if 1048576<(if (-1048576)>n then (-1048576) else n) then 1048576 else (if (-1048576)>n then (-1048576) else n))=yw n:=by
 unfold yw
 repeat' split
 all_goals omega
theorem wx (n:Int) (w:World):ah 257 #[n] w λe w'=>e=Value.int .i64 (yw n)/\w'=w:=by apply Uc.vc;exact ⟨by rw [agi],rfl⟩
def ko (v:Ce):Ce:=(yw v.1,yw v.2.1,yw v.2.2)
theorem U5 (v:Ce) (w:World):ah 196 #[ea v] w λe w'=>e=(ea (ko v))/\Ext w w':=by apply acf.vc;intro w0 e0 w1 e1;have x0:=aL e0;have z0:=zA e0;have r0:Row w0 w (du v) eC:=Row.nw e0;have x1:Ext w0 w1.drew:=(aL e1).drew;have r1:=r0.ext x1;refine (wx v.1 w1.drew).mono ?_;rintro e w2 ⟨rfl,rfl⟩;refine ⟨_,rfl,rfl,rfl,mC r1 rfl,mC r1 rfl,(wx v.2.1 w1.drew).mono ?_⟩;rintro e w4 ⟨rfl,rfl⟩;refine ⟨_,rfl,rfl,rfl,mC r1 rfl,(wx v.2.2 w1.drew).mono ?_⟩;rintro e w6 ⟨rfl,rfl⟩;exact ⟨_,rfl,rfl,rfl,λw8 e8=>⟨rfl,(x0.tr x1).af e8 aa⟩⟩
abbrev Sd:=Int × Int
def Mb (a b:Sd):Bool:=if a.2=0\/b.2=0 then decide (0<a.2) else decide (aj (a.1*b.2)<aj (b.1*a.2))
theorem Mc (a b:Sd) (w:World):ah 200 #[.agg #[a.1,a.2],.agg #[b.1,b.2]] w λe w'=>e=Value.bool (Mb a b)/\Ext w w':=by
 apply PD.vc;intro w0 e0 w1 e1;have x1:Ext w w1:=(aL e0).bB e1;unfold Mb;refine Br.mk (λh=>⟨?_,x1⟩) (λh=>Br.mk (λh2=>⟨?_,x1⟩) (λh2=>⟨?_,x1⟩))
 ·rw [if_pos (Or.inl (by simpa using h))]
 ·rw [if_pos (Or.inr (by simpa using h2))]
 ·rw [if_neg (by
   have h1:¬a.2=0:=by simpa using h
   have h3:¬b.2=0:=by simpa using h2
   rintro (h|h)
   ·exact h1 h
   ·exact h3 h)]
def rn (a b r:Int):Bool:=decide (aj (a-b)<=r) && decide (aj (b-a)<=r)
theorem wy (a b r:Int) {g:Nat} {τ:TypeId} {w:World} (hr:Row w g [r] τ):ah 259 #[a,b,g] w λe w'=>e=Value.bool (rn a b r)/\w'=w:=by apply IV.vc;unfold rn;refine ⟨r,hr.at 0 rfl,Br.mk (λh=>⟨r,hr.at 0 rfl,by rw [h,Bool.true_and],rfl⟩) (λh=>⟨by rw [h,Bool.false_and],rfl⟩)⟩
def ln (a b:Ce) (r:Int):Bool:=rn a.1 b.1 r &&(rn a.2.1 b.2.1 r && rn a.2.2 b.2.2 r)
theorem Jo (a b:Ce) (r:Int) (w:World):ah 199 #[ea a,ea b,r] w λe w'=>e=Value.bool (ln a b r)/\Ext w w':=by apply PE.vc;intro w0 e0 w1 e1 w2 e2;have x2:Ext w w2:=((aL e0).bB e1).bB e2;have r2:∃τ,Row w2 w1 [r] τ:=⟨_,by rw [e2];exact Row.new w1 [_] _⟩;obtain ⟨τ,r2⟩:=r2;unfold ln;refine (wy a.1 b.1 r r2).mono ?_;rintro e w3 ⟨rfl,rfl⟩;refine ⟨_,rfl,rfl,rfl,Br.mk (λh=>(wy a.2.1 b.2.1 r r2).mono ?_) (λh=>⟨by rw [h,Bool.false_and],x2⟩)⟩;rintro e w5 ⟨rfl,rfl⟩;refine ⟨_,rfl,rfl,rfl,Br.mk (λh2=>(wy a.2.2 b.2.2 r r2).mono ?_) (λh2=>⟨by rw [h,h2];rfl,x2⟩)⟩;rintro e w7 ⟨rfl,rfl⟩;exact ⟨_,rfl,rfl,rfl,by rw [h,h2,Bool.true_and,Bool.true_and],x2⟩
theorem Y4 (a b:Int) (ha:0<=a/\a<=1000000000) (hb:0<b/\b<=1048576) (w:World):ah 201 #[a,b] w λe w'=>e=Value.tuple #[.int .i64 (a*65536 / b),ab]/\Ext w w':=by
 apply Ue.vc;refine (uj a w).mono ?_;rintro e w0 ⟨rfl,rfl⟩;have ca:dP a=a:=qO aa;have cb:dP b=b:=qO aa;rw [ca];refine ⟨_,_,rfl,(uj b w0).mono ?_⟩;rintro e w3 ⟨rfl,rfl⟩;rw [cb];have asO:(2 ^(min (16:Int).toNat 64):Int)=65536:=by decide
 have ma:max a (-a)=a:=by omega
 have mb:max b (-b)=b:=by omega
 rw [ma,mb];have na:decide (a<0)=false:=by simpa using ha.1
 have nb:decide (b<0)=false:=by simpa using Int.le_of_lt hb.1
 refine ⟨_,_,rfl,Br.mk (λh=>absurd (by simpa using h:b=0) aa) (λh=> ?_)⟩;have JQ:∀q ∈ JX b,q:=λq hq=>by
  unfold JX at hq;rw [if_neg aa] at hq
  cases hq
 rw [asO,vE (n:=a*65536) aa,na,nb];have hd:Int.tdiv (a*65536) b=a*65536 / b:=pK aa;have h1:0<=a*65536 / b:=Int.ediv_nonneg aa aa;have h2:a*65536 / b<=a*65536:=Int.ediv_le_self _ aa;rw [hd,vE (n:=a*65536 / b) aa];refine bA.2 ⟨JQ,bA.2 ⟨JQ,(Dz (a*65536 / b) aa _ _ w3.drew).mono ?_⟩⟩;rintro e w6 ⟨rfl,x6⟩;exact ⟨_,rfl,rfl,(Ext.dr _).tr x6⟩
theorem acw {w:World} {g:Nat} {cs:LV} {E:TypeId} (hr:Row w g cs E) {j:Nat} {a b:Value} (hj:j+2<=cs.length) (ha:a.oneCell'=true) (hb:b.oneCell'=true):
  Wr w (ae (some ⟨g,0,none⟩) j) 2/\∀w',w'=Vc.aG w (ae (some ⟨g,0,none⟩) j) [a,b]->Row w' g ((cs.set j a).set (j+1) b) E/\Mod (λi=>i=g) w w':=by
 rw [bh,eB];have h1:One [a,b]:=by
  intro u hu;simp at hu;rcases hu with rfl|rfl
  ·exact ha
  ·exact hb
 refine ⟨hr.wr hj,λw' e=> ?_⟩;rw [hr.aG (by simpa using hj) h1] at e;subst e;exact ⟨hr.set _,rfl,rfl,rfl,by rw [setRow_size];exact aB _,λi _ hn=>setRow_other _ _ _ _ hn⟩
abbrev S3:=Sd × Sd × Sd
abbrev BZ (s:S3):LV:=[.int .i64 s.1.1,.int .i64 s.1.2,.int .i64 s.2.1.1,.int .i64 s.2.1.2,.int .i64 s.2.2.1,.int .i64 s.2.2.2]
abbrev Ns:TypeId:=268
theorem Y3 (s:S3):One (BZ s):=by intro v hv;simp at hv;rcases hv with rfl|rfl|rfl|rfl|rfl|rfl<;>rfl
def wP (f d:Ce) (i:Int):Sd:=if di d i>0 then (aj (65536-pP (di f i)),di d i) else (pP (di f i),aj (0-di d i))
def UX (f d:Ce):Nat->S3
 |0=>((0,0),(0,0),(0,0))
 |1=>(wP f d 0,(0,0),(0,0))
 |2=>(wP f d 0,wP f d 1,(0,0))
 |_=>(wP f d 0,wP f d 1,wP f d 2)
theorem P8 (f d:Ce) (w:World):ah 198 #[ea f,ea d] w λe w'=>e=Value.agg (BZ (UX f d 3)).toArray/\Ext w w':=by
 apply Ud.vc;intro w0 e0 w1 e1 w2 e2 w3 e3;have x0:=aL e0;have z0:=zA e0;have x1:=aL e1;have z1:=zA e1;have r1:Row w1 w0 (du d) eC:=Row.nw e1;have x2:=aL e2;have z2:=zA e2;have r2:Row w2 w1 (BZ ((0,0),(0,0),(0,0))) Ns:=Row.nw e2;have x3:=aL e3;have z3:=zA e3;have r3:Row w3 w2 (BZ ((0,0),(0,0),(0,0))) Ns:=Row.nw e3;have Av:=x0.tr (x1.tr (x2.tr x3));refine ⟨λn x wr=>∃k:Nat,x=k/\k+n=3/\Row wr w2 (BZ (UX f d k)) Ns/\Row wr w1 (BZ ((0,0),(0,0),(0,0))) Ns/\Row wr w0 (du d) eC/\Ext w wr,⟨3,rfl,rfl,0,rfl,rfl,r3,r2.ext x3,r1.ext (x2.tr x3),Av⟩,?_⟩;rintro n us x w8 ⟨k,rfl,hk,rl,ro,rd,xr⟩;have zl:=rl.lt;apply Br.mk<;>intro hc
 ·have hc:(k:Int)<3:=by simpa using hc
  have yR:k=0\/k=1\/k=2:=by omega
  have wk:=mh (j:=k);have xd:=Ext.dr w8;have zd:=lv w8;refine (dj f k w8.drew).mono ?_;rintro e bD ⟨rfl,bj⟩;have Sr:=bj.size;refine ⟨_,rfl,bj.heap aa,bj.heap aa,Lo.wv (rd.ext (xd.tr bj)),(dj d k bD).mono ?_⟩;rintro e cM ⟨rfl,bU⟩;have z12:=bU.size;have y12:=xd.tr (bj.tr bU);refine ⟨_,rfl,bU.heap aa,bU.heap aa,(zG (di f k) cM).mono ?_⟩;rintro e bK ⟨rfl,rfl⟩;obtain ⟨p1,p2⟩:=acw (rl.ext y12) (j:=(k:Int).toNat*2) (a:=.int .i64 (pP (di f k))) (b:=.int .i64 (aj (0-di d k))) (by show _<=6;omega) rfl rfl;refine ⟨_,rfl,rfl,rfl,by omega,by omega,⟨rfl,p1⟩,oY aa,oY aa,λcB FE=> ?_⟩;obtain ⟨q1,q2⟩:=p2 cB FE;have z16:=q2.size;have alZ:Ext w cB:=q2.ext (xr.tr y12) λi hi=>by omega
  have ahV:=(ro.ext y12).same (q2.same _ (ro.ext y12).lt aa);have JT:=(rd.ext y12).same (q2.same _ (rd.ext y12).lt aa);refine Br.mk (λhq=>(zG (di f k) cB).mono ?_) (λhq=>⟨n-1,by omega,rfl,rfl,k+1,wk,by omega,?_,ahV,JT,alZ⟩)
  ·rintro e cE ⟨rfl,rfl⟩;obtain ⟨p3,p4⟩:=acw q1 (j:=(k:Int).toNat*2) (a:=.int .i64 (aj (65536-pP (di f k)))) (b:=.int .i64 (di d k)) (by rw [ir,ir];show _<=6;omega) rfl rfl;refine ⟨_,rfl,rfl,rfl,by omega,by omega,⟨rfl,p3⟩,oY aa,oY aa,λfy e19=> ?_⟩;obtain ⟨q3,q4⟩:=p4 fy e19;have hq:di d k>0:=by simpa using hq
   have hs:wP f d k=(aj (65536-pP (di f k)),di d k):=by unfold wP;rw [if_pos hq]
   refine ⟨n-1,by omega,rfl,rfl,k+1,wk,by omega,?_,ahV.same (q4.same _ ahV.lt aa),JT.same (q4.same _ JT.lt aa),q4.ext alZ λi hi=>by omega⟩;rcases yR with rfl|rfl|rfl
   ·have hs:wP f d 0=_:=hs;show Row fy _ (BZ (wP f d 0,(0,0),(0,0))) Ns;rw [hs];exact q3
   ·have hs:wP f d 1=_:=hs;show Row fy _ (BZ (wP f d 0,wP f d 1,(0,0))) Ns;rw [hs];exact q3
   ·have hs:wP f d 2=_:=hs;show Row fy _ (BZ (wP f d 0,wP f d 1,wP f d 2)) Ns;rw [hs];exact q3
  ·have hq:¬di d k>0:=by simpa using hq
   have hs:wP f d k=(pP (di f k),aj (0-di d k)):=by unfold wP;rw [if_neg hq]
   rcases yR with rfl|rfl|rfl
   ·have hs:wP f d 0=_:=hs;show Row cB _ (BZ (wP f d 0,(0,0),(0,0))) Ns;rw [hs];exact q1
   ·have hs:wP f d 1=_:=hs;show Row cB _ (BZ (wP f d 0,wP f d 1,(0,0))) Ns;rw [hs];exact q1
   ·have hs:wP f d 2=_:=hs;show Row cB _ (BZ (wP f d 0,wP f d 1,wP f d 2)) Ns;rw [hs];exact q1
 ·have hc:¬(k:Int)<3:=by simpa using hc
  have yR:k=3:=by omega
  subst yR;refine ⟨_,_,_,_,_,_,Lo.wv rl,⟨rfl,ro.wr bt⟩,cV aa,cV aa,λeG yU=> ?_⟩;rw [ro.aG (vs:=BZ (UX f d 3)) bt (Y3 (UX f d 3)),aQ bt] at yU;have r26:Row eG w1 (BZ (UX f d 3)) Ns:=ro.st yU;exact ⟨_,_,_,_,_,_,Lo.wv r26,rfl,xr.af yU aa⟩
def iI (s:S3):Nat->Sd
 |0=>s.1
 |1=>s.2.1
 |_=>s.2.2
def HL (s:S3) (i:Nat) (x:Sd):S3:=
 match i with
 |0=>(x,s.2.1,s.2.2)
 |1=>(s.1,x,s.2.2)
 |_=>(s.1,s.2.1,x)
def fA (s:S3):Nat->Nat
 |0=>0
 |k+1=>if Mb (iI s k) (iI s (fA s k))=true then k else fA s k
theorem Jm (s:S3):∀k:Nat,fA s k<k\/fA s k=0
 |0=> .inr rfl
 |k+1=>by
  unfold fA
  have:=Jm s k
  split<;>omega
theorem at3 (s:S3):fA s 3=0\/fA s 3=1\/fA s 3=2:=by have:=Jm s 3;omega
abbrev Hi:=Ce × Int × Int
def XC (c:Ce):Nat->Ce
 |0=>(c.1-1,c.2.1,c.2.2)
 |1=>(c.1+1,c.2.1,c.2.2)
 |2=>(c.1,c.2.1-1,c.2.2)
 |3=>(c.1,c.2.1+1,c.2.2)
 |4=>(c.1,c.2.1,c.2.2-1)
 |_=>(c.1,c.2.1,c.2.2+1)
def iY (d:Ce) (s:S3) (h:Hi):Option (S3 × Hi):=
 if (iI s (fA s 3)).2=0 then none
 else some (HL s (fA s 3) ((iI s (fA s 3)).1+65536,(iI s (fA s 3)).2),(XC h.1 (if di d (fA s 3)>0 then 2*fA s 3+1 else 2*fA s 3),(if di d (fA s 3)>0 then 2*(fA s 3:Int) else 2*(fA s 3:Int)+1),(iI s (fA s 3)).1*65536 /(iI s (fA s 3)).2))
def goK (d c0:Ce) (r:Int):Nat->S3->Hi->List Hi
 |0,_,_=> []
 |n+1,s,h=>if ln c0 h.1 r=true then h::(match iY d s h with|none=> []|some q=>goK d c0 r n q.1 q.2) else []
def yi (x:Int):Int:=max x (-x)
def Jn (k:Nat) (x:Sd) (d o:Int):Prop:=x.2=yi d/\(0<=x.1/\x.1<=65536*(k+1))/\(0<d->0<=o)/\(d<=0->o<=0)
def yj (d c0:Ce) (k:Nat) (s:S3) (c:Ce):Prop:=
 (Jn k s.1 d.1 (c.1-c0.1)/\Jn k s.2.1 d.2.1 (c.2.1-c0.2.1)/\Jn k s.2.2 d.2.2 (c.2.2-c0.2.2))/\yi (c.1-c0.1)+yi (c.2.1-c0.2.1)+yi (c.2.2-c0.2.2)=k
theorem Y1 {d c0:Ce} {k:Nat} {s:S3} {h:Hi} (hr:yj d c0 k s h.1) {q:S3 × Hi} (hq:iY d s h=some q):yj d c0 (k+1) q.1 q.2.1:=by
 obtain ⟨⟨⟨h1,h2,h3,h4⟩,⟨g1,g2,g3,g4⟩,⟨f1,f2,f3,f4⟩⟩,hs⟩:=hr;obtain ⟨⟨s1,s2⟩,⟨t1,t2⟩,⟨u1,u2⟩⟩:=s;obtain ⟨⟨cx,cy,cz⟩,face,time⟩:=h;unfold iY at hq;split at hq
 ·cases hq
 rename_i jb;injection hq with hq;subst hq;rcases at3 ((s1,s2),(t1,t2),(u1,u2)) with e|e|e
 ·rw [e] at jb ⊢;have a0:di d ((0:Nat):Int)=d.1:=rfl;rw [a0];simp only [iI,HL] at jb h1 h2 h3 h4 g1 g2 g3 g4 f1 f2 f3 f4 hs ⊢;unfold yj Jn yi;unfold yi at h1 g1 f1 hs;split
  ·show (_/\_)/\_;simp only [XC];omega
  ·show (_/\_)/\_;simp only [XC];omega
 ·rw [e] at jb ⊢;have a0:di d ((1:Nat):Int)=d.2.1:=rfl;rw [a0];simp only [iI,HL] at jb h1 h2 h3 h4 g1 g2 g3 g4 f1 f2 f3 f4 hs ⊢;unfold yj Jn yi;unfold yi at h1 g1 f1 hs;split
  ·simp only [XC];omega
  ·simp only [XC];omega
 ·rw [e] at jb ⊢;have a0:di d ((2:Nat):Int)=d.2.2:=rfl;rw [a0];simp only [iI,HL] at jb h1 h2 h3 h4 g1 g2 g3 g4 f1 f2 f3 f4 hs ⊢;unfold yj Jn yi;unfold yi at h1 g1 f1 hs;split
  ·simp only [XC];omega
  ·simp only [XC];omega
theorem UW {d c0 c:Ce} {k:Nat} {s:S3} {r:Int} (hr:yj d c0 k s c) (h0:(-2000000000<=c0.1/\c0.1<=2000000000)/\(-2000000000<=c0.2.1/\c0.2.1<=2000000000)/\-2000000000<=c0.2.2/\c0.2.2<=2000000000) (hk:k<=1000) (hw:ln c0 c r=true):(k:Int)<=3*r:=by obtain ⟨-,hs⟩:=hr;unfold yi at hs;unfold ln rn at hw;simp only [fq,cS] at hw;rw [wI,wI,wI,wI,wI,wI] at hw;omega
abbrev hiV (h:Hi):Value:=.agg #[h.1.1,h.1.2.1,h.1.2.2,ab,h.2.1,h.2.2]
def k8 (f d:Ce) (r:Int):List Hi:=goK d (bu f) r (3*r.toNat+2) (UX f d 3) (bu f,-1,0)
abbrev trX (f d:Ce) (r:Int):List (LV):=(k8 f d r).map λh=> [hiV h]
abbrev ajk (g:Nat):Value:=.func (.func 197) #[] #[g,.pointer (some ⟨g+1,0,none⟩),.pointer (some ⟨g+2,0,none⟩)]
theorem G6 {w:World} {g:Nat} {s:S3} {E:TypeId} (hr:Row w g (BZ s) E) {a:Nat} (ha:a=0\/a=1\/a=2):ag w (ae (some ⟨g,0,none⟩) ((a:Int).toNat*2)) 0 [.int .i64 (iI s a).1,.int .i64 (iI s a).2]:=by
 rw [bh,eB];rcases ha with rfl|rfl|rfl
 all_goals
  refine hr.bY λj hj=> ?_
  match j,hj with
  |0,_=>rfl
  |1,_=>rfl
theorem ldA {w:World} {g:Nat} {s:S3} {E:TypeId} (hr:Row w g (BZ s) E) {a:Nat} (ha:a=0\/a=1\/a=2):Vc.ld w (ae (ae (some ⟨g,0,none⟩) ((a:Int).toNat*2)) 0)=some (.int .i64 (iI s a).1):=by rw [bh,bh,hr.ld];rcases ha with rfl|rfl|rfl<;>rfl
theorem ldB {w:World} {g:Nat} {s:S3} {E:TypeId} (hr:Row w g (BZ s) E) {a:Nat} (ha:a=0\/a=1\/a=2):Vc.ld w (ae (ae (some ⟨g,0,none⟩) ((a:Int).toNat*2)) 1)=some (.int .i64 (iI s a).2):=by rw [bh,bh,hr.ld];rcases ha with rfl|rfl|rfl<;>rfl
theorem aov {w:World} {g:Nat} {s:S3} {E:TypeId} (hr:Row w g (BZ s) E) {a:Nat} (ha:a=0\/a=1\/a=2) (x:Int):
  Wr w (ae (ae (some ⟨g,0,none⟩) ((a:Int).toNat*2)) 0) 1/\∀w',w'=Vc.aG w (ae (ae (some ⟨g,0,none⟩) ((a:Int).toNat*2)) 0) [x]->Row w' g (BZ (HL s a (x,(iI s a).2))) E/\Mod (λi=>i=g) w w':=by
 have e:ae (ae (some ⟨g,0,none⟩) ((a:Int).toNat*2)) 0=ae (some ⟨g,0,none⟩) ((a:Int).toNat*2):=by rw [bh,bh];rfl
 rw [e];obtain ⟨p1,p2⟩:=hr.je (j:=(a:Int).toNat*2) (v:=.int .i64 x) (by show _<6;omega) rfl;refine ⟨p1,λw' e'=> ?_⟩;obtain ⟨q1,q2⟩:=p2 w' e';refine ⟨?_,q2⟩;rcases ha with rfl|rfl|rfl<;>exact q1
theorem oR {w w':World} {g:Nat} {c:Array Value} (e:w'=w.setRow g c):Mod (λi=>i=g) w w':=by subst e;exact ⟨rfl,rfl,rfl,by rw [setRow_size];exact aB _,λi _ hn=>setRow_other _ _ _ _ hn⟩
theorem R8 (c:Ce) {j:Nat} (hj:j<6):((BN c).drop ((j:Int).toNat*3)).take 3=du (XC c j):=by
 have:j=0\/j=1\/j=2\/j=3\/j=4\/j=5:=by omega
 rcases this with rfl|rfl|rfl|rfl|rfl|rfl<;>rfl
theorem axd (d:Ce):di d ((0:Nat):Int)=d.1/\di d ((1:Nat):Int)=d.2.1/\di d ((2:Nat):Int)=d.2.2:=⟨rfl,rfl,rfl⟩
theorem Y2 {d c0 c:Ce} {k a:Nat} {s:S3} (hr:yj d c0 k s c) (ha:a=0\/a=1\/a=2):Jn k (iI s a) (di d a) (di c a-di c0 a):=by
 obtain ⟨⟨h1,h2,h3⟩,-⟩:=hr;rcases ha with rfl|rfl|rfl
 ·exact h1
 ·exact h2
 ·exact h3
theorem UY (f d:Ce) (hd:∀i:Nat,i<3-> -1048576<=di d i/\di d i<=1048576):yj d (bu f) 0 (UX f d 3) (bu f):=by
 have h0:=hd 0 aE;have h1:=hd 1 aE;have h2:=hd 2 aE;obtain ⟨a0,a1,a2⟩:=axd d;rw [a0] at h0;rw [a1] at h1;rw [a2] at h2;have key:∀(i:Int) (q:Int),di d i=q-> -1048576<=q/\q<=1048576->Jn 0 (wP f d i) q 0:=λi q hq hb=>by
  have hf:0<=pP (di f i)/\pP (di f i)<65536:=by unfold pP;omega
  unfold wP Jn yi;rw [hq];split
  ·rw [wI];simp only;omega
  ·rw [wI];simp only;omega
 refine ⟨⟨?_,?_,?_⟩,?_⟩
 ·rw [Int.sub_self];exact key 0 d.1 a0 h0
 ·rw [Int.sub_self];exact key 1 d.2.1 a1 h1
 ·rw [Int.sub_self];exact key 2 d.2.2 a2 h2
 ·rw [Int.sub_self,Int.sub_self,Int.sub_self];rfl
set_option maxHeartbeats 2000000 in
theorem P7 (f d:Ce) (r:Int) (hf:(-1900000000<=(bu f).1/\(bu f).1<=1900000000)/\(-1900000000<=(bu f).2.1/\(bu f).2.1<=1900000000)/\-1900000000<=(bu f).2.2/\(bu f).2.2<=1900000000) (hd:∀i:Nat,i<3-> -1048576<=di d i/\di d i<=1048576) (hr:0<=r/\r<=64)
  (g:Nat) (W0:World) (h0:Row W0 g (du f) eC) (h1:Row W0 (g+1) (du d) eC) (h2:Row W0 (g+2) [r] 3):
  Iter Tryz.prog (ajk g) W0 (λi=>i=g\/i=g+1\/i=g+2) (trX f d r):=by
 refine ⟨⟨_,_,_,rfl,by kernel_rfl⟩,?_⟩;intro y B J Jx F0 W hB hsJ hsX uR hRd hround hJ0;refine cU (by kernel_rfl) (by rfl) ?_;apply Lt.vc;have q0:=h0.same (hRd g (.inl rfl)).2.2;have q1:=h1.same (hRd (g+1) (.inr (.inl rfl))).2.2;have q2:=h2.same (hRd (g+2) (.inr (.inr rfl))).2.2;refine ⟨_,_,_,Lo.wv q0,_,_,_,Lo.wv q1,(P8 f d W).mono ?_⟩;rintro e w6 ⟨rfl,x6⟩;have z6:=x6.size;refine ⟨_,_,_,_,_,_,rfl,λbF B7=> ?_⟩;have z13:=zA B7;have r13:Row bF w6 (BZ ((0,0),(0,0),(0,0))) Ns:=Row.nw B7;refine ⟨⟨rfl,r13.wr bt⟩,λbK uy=> ?_⟩;rw [r13.aG (vs:=BZ (UX f d 3)) bt (Y3 (UX f d 3)),aQ bt] at uy;have r14:Row bK w6 (BZ (UX f d 3)) Ns:=r13.st uy;have WE:=zR uy;have bW:Ext w6 bK:=(aL B7).af uy (aB _);refine ⟨_,_,_,Lo.wv (q0.ext (x6.tr bW)),(xB f bK).mono ?_⟩;rintro e dA ⟨rfl,cg⟩;have z18:=cg.size;refine ⟨_,_,_,rfl,λcL wN dT H5 fH Gu cP wB=> ?_⟩;have z22:=zA wN;have z23:=zR H5;have z24:=zA Gu;have z25:=zR wB;have dQ:Ext dA cP:=(((aL wN).af H5 (aB _)).bB Gu).af wB aa;have xW:=x6.tr (bW.tr (cg.tr dQ));obtain ⟨K,hK⟩:∃K:Nat->Prop,K=λi=>i=g\/i=g+1\/i=g+2\/i=w6.heap.size\/i=dA.heap.size\/i=dT.heap.size:=⟨_,rfl⟩
 obtain ⟨P,hP⟩:∃P:Nat->S3->World->Prop,P=λk s wr=>(∃F,J k F wr/\∀i,K i->¬F i/\i<wr.heap.size)/\(Row wr g (du f) eC/\Row wr (g+1) (du d) eC/\Row wr (g+2) [r] 3)/\Row wr w6 (BZ s) Ns/\cP.heap.size<=wr:=⟨_,rfl⟩
 have ext:∀{k:Nat} {s:S3} {wr wr':World},P k s wr->Ext wr wr'->P k s wr':=λ{k s wr wr'} h x=>by rw [hP] at h ⊢;obtain ⟨⟨F,hJ,hk⟩,⟨a0,a1,a2⟩,a3,a4⟩:=h;exact ⟨⟨F,hsJ _ _ _ _ hJ (Below.mono x aa) λi hi=>x.heap (uR _ _ _ hJ i hi),λi hi=>⟨(hk i hi).1,j9 (hk i hi).2 x.size⟩⟩,⟨a0.ext x,a1.ext x,a2.ext x⟩,a3.ext x,fY a4 x.size⟩
 have glt:g+2<W.heap.size:=q2.lt;have jk:∀{k:Nat} {s s':S3} {wr wr':World} {b:Nat},P k s wr->Mod (λi=>i=b) wr wr'->(b=w6.heap.size\/b=dA.heap.size)->Row wr' w6 (BZ s') Ns->P k s' wr':=λ{k s s' wr wr' b} h hm hb cN=>by rw [hP] at h ⊢;obtain ⟨⟨F,hJ,hk⟩,⟨a0,a1,a2⟩,a3,a4⟩:=h;have hkb:¬F b:=(hk b (by rw [hK];rcases hb with rfl|rfl<;>simp)).1;refine ⟨⟨F,hsJ _ _ _ _ hJ (hm.below aa λi hi=>by rcases hb with rfl|rfl<;>omega) λi hi=>hm.same i (uR _ _ _ hJ i hi) λq=>hkb (by rw [<-q];exact hi),λi hi=>⟨(hk i hi).1,j9 (hk i hi).2 hm.size⟩⟩,⟨a0.same (hm.same _ a0.lt aa),a1.same (hm.same _ a1.lt aa),a2.same (hm.same _ a2.lt aa)⟩,cN,fY a4 hm.size⟩
 have init:P 0 (UX f d 3) cP:=by
  rw [hP];refine ⟨⟨F0,hsJ _ _ _ _ hJ0 (Below.mono xW aa) λi hi=>xW.heap (uR _ _ _ hJ0 i hi),λi hi=> ?_⟩,⟨q0.ext xW,q1.ext xW,q2.ext xW⟩,r14.ext (cg.tr dQ),aB _⟩;rw [hK] at hi;have hF:∀i,F0 i->i<W.heap.size:=λi hi=>uR _ _ _ hJ0 i hi
  rcases hi with hi|hi|hi|hi|hi|hi
  ·exact ⟨(hRd i (.inl hi)).1,by omega⟩
  ·exact ⟨(hRd i (.inr (.inl hi))).1,by omega⟩
  ·exact ⟨(hRd i (.inr (.inr hi))).1,by omega⟩
  ·exact ⟨λq=>by have:=hF i q;omega,by omega⟩
  ·exact ⟨λq=>by have:=hF i q;omega,by omega⟩
  ·exact ⟨λq=>by have:=hF i q;omega,by omega⟩
 have round:∀{k:Nat} {s:S3} {wr:World} {x:LV},(trX f d r)[k]? =some x->P k s wr->cw Tryz.prog y x wr λe w'=>((e=true/\P (k+1) s w')\/(e=false/\∃F',Jx () F' w'))/\w'.heap[dA.heap.size]? =wr.heap[dA.heap.size]?/\w'.heap[dT.heap.size]? =wr.heap[dT.heap.size]? :=λ{k s wr x} hx h=>by
  rw [hP] at h ⊢;obtain ⟨⟨F,hJ,hk⟩,⟨a0,a1,a2⟩,a3,a4⟩:=h;have kk:∀i,(i=g\/i=g+1\/i=g+2\/i=w6.heap.size\/i=dA.heap.size\/i=dT.heap.size)->K i:=λi hi=>by rw [hK];exact hi
  refine dq (hround _ _ _ _ hx hJ) ?_;rintro e w' (⟨rfl,F2,Rk,gC⟩|⟨rfl,F2,Rk,gC⟩)
  ·have same:∀i,K i->w'.heap[i]? =wr.heap[i]? :=λi hi=>gC.same i (hk i hi).2 (hk i hi).1
   refine ⟨.inl ⟨rfl,⟨F2,Rk,λi hi=>⟨λhf=> ?_,j9 (hk i hi).2 gC.size⟩⟩,⟨a0.same (same _ (kk _ bt)),a1.same (same _ (kk _ bt)),a2.same (same _ (kk _ bt))⟩,a3.same (same _ (kk _ bt)),fY a4 gC.size⟩,same _ (kk _ bt),same _ (kk _ bt)⟩;rcases gC.sub i hf with hf|hf
   ·exact (hk i hi).1 hf
   ·have:=(hk i hi).2;omega
  ·have same:∀i,K i->w'.heap[i]? =wr.heap[i]? :=λi hi=>gC.same i (hk i hi).2 (hk i hi).1
   exact ⟨.inr ⟨rfl,F2,Rk⟩,same _ (kk _ bt),same _ (kk _ bt)⟩
 have fin:∀{s:S3} {wr:World},P (trX f d r).length s wr->∃F',J (trX f d r).length F' wr:=λh=>by rw [hP] at h;obtain ⟨⟨F,hJ,-⟩,-⟩:=h;exact ⟨F,hJ⟩
 have rowL:∀{k:Nat} {s:S3} {wr:World},P k s wr->Row wr w6 (BZ s) Ns:=λh=>by rw [hP] at h;exact h.2.2.1
 have rowD:∀{k:Nat} {s:S3} {wr:World},P k s wr->Row wr (g+1) (du d) eC:=λh=>by rw [hP] at h;exact h.2.1.2.1
 have rowR:∀{k:Nat} {s:S3} {wr:World},P k s wr->Row wr (g+2) [r] 3:=λh=>by rw [hP] at h;exact h.2.1.2.2
 have hz:∀{k:Nat} {s:S3} {wr:World},P k s wr->cP.heap.size<=wr:=λh=>by rw [hP] at h;exact h.2.2.2
 have hxs:trX f d r=(goK d (bu f) r (3*r.toNat+2) (UX f d 3) (bu f,-1,0)).map λh=> [hiV h]:=rfl
 generalize trX f d r=xs at*;have hbegin:=UY f d hd;generalize Nv:bu f=c0 at*;refine ⟨λn a b c z fc tm wr=>∃(k:Nat) (s:S3),P k s wr/\k+n=3*r.toNat+2/\yj d c0 k s (a,b,c)/\z=0/\∃pre:List (LV),pre.length=k/\xs=pre++(goK d c0 r n s ((a,b,c),fc,tm)).map λh=> [hiV h],⟨3*r.toNat+2,rfl,0,UX f d 3,init,by omega,hbegin,rfl,[],rfl,hxs⟩,?_⟩;rintro n us a b c z fc tm wr ⟨k,s,hp,VP,hro,rfl,pre,hpl,hx⟩;have zr:=hz hp;refine ⟨_,(rowR hp).at 0 rfl,(Jo c0 (a,b,c) r wr).mono ?_⟩;rintro e mX ⟨rfl,fX⟩;have B8:=ext hp fX;refine ⟨_,rfl,fX.heap aa,fX.heap aa,Br.mk (λhw=> ?_) (λhw=> ?_)⟩
 ·have yR:=UW hro aa aa hw;obtain ⟨n,rfl⟩:∃n',n=n'+1:=⟨n-1,by omega⟩;have hgo:goK d c0 r (n+1) s ((a,b,c),fc,tm)=((a,b,c),fc,tm)::(match iY d s ((a,b,c),fc,tm) with|none=> []|some q=>goK d c0 r n q.1 q.2):=by
   show (if ln c0 (a,b,c) r=true then _ else _)=_;rw [if_pos hw]
   all_goals (cases iY d s ((a,b,c),fc,tm)<;>rfl)
  rw [hgo] at hx;have hxk:xs[k]? =some [hiV ((a,b,c),fc,tm)]:=by rw [hx,oK aa,hpl,Nat.sub_self];rfl
  refine dq (round hxk B8) ?_;rintro e ik ⟨hcase,k1,k2⟩;rcases hcase with ⟨rfl,alJ⟩|⟨rfl,hJx⟩
  ·refine ⟨true,rfl,k1,k2,Br.mk (λq=>by cases q) (λ_=> ?_)⟩;have z40:=hz alJ;refine ⟨λm i at_ wr=>∃j:Nat,i=j/\j+m=3/\at_=fA s j/\P (k+1) s wr,⟨3,rfl,rfl,0,rfl,rfl,rfl,alJ⟩,?_⟩;rintro m us i at_ QI ⟨j,rfl,hjm,rfl,Wj⟩;have z2:=hz Wj;have haj:fA s j<j\/fA s j=0:=Jm s j;apply Br.mk<;>intro hc
   ·have hc:(j:Int)<3:=by simpa using hc
    have hj3:j=0\/j=1\/j=2:=by omega
    have ha3:fA s j=0\/fA s j=1\/fA s j=2:=by omega
    have hpd:=ext Wj (Ext.dr QI);have zd:=lv QI;refine ⟨by omega,by omega,_,_,G6 (rowL hpd) hj3,by omega,by omega,_,_,G6 (rowL hpd) ha3,(Mc (iI s j) (iI s (fA s j)) QI.drew).mono ?_⟩;rintro e SU ⟨rfl,im⟩;have alK:=ext hpd im;have wk:=mh (j:=j);refine ⟨_,rfl,im.heap aa,im.heap aa,Br.mk (λq=>⟨m-1,by omega,rfl,rfl,j+1,wk,by omega,?_,alK⟩) (λq=>⟨m-1,by omega,rfl,rfl,j+1,wk,by omega,?_,alK⟩)⟩
    ·show ((j:Nat):Int)=((if Mb (iI s j) (iI s (fA s j))=true then j else fA s j:Nat):Int);rw [if_pos q]
    ·show ((fA s j:Nat):Int)=((if Mb (iI s j) (iI s (fA s j))=true then j else fA s j:Nat):Int);rw [if_neg (by rw [q];decide)]
   ·have hc:¬(j:Int)<3:=by simpa using hc
    have:j=3:=by omega
    subst this;have ha3:=at3 s;have hside:=Y2 hro ha3;have hnx:iY d s ((a,b,c),fc,tm)=if (iI s (fA s 3)).2=0 then none else some (HL s (fA s 3) ((iI s (fA s 3)).1+65536,(iI s (fA s 3)).2),(XC (a,b,c) (if di d (fA s 3)>0 then 2*fA s 3+1 else 2*fA s 3),(if di d (fA s 3)>0 then 2*(fA s 3:Int) else 2*(fA s 3:Int)+1),(iI s (fA s 3)).1*65536 /(iI s (fA s 3)).2)):=rfl;have Wl:=λq (h:iY d s ((a,b,c),fc,tm)=some q)=>Y1 hro h
    have hdd:=hd (fA s 3) aa;generalize fA s 3=A at*;refine ⟨by omega,by omega,_,ldB (rowL Wj) ha3,Br.mk (λq=> ?_) (λq=> ?_)⟩
    ·have q:(iI s A).2=0:=by simpa using q
     rw [hnx,if_pos q] at hx;have:xs.length=k+1:=by rw [hx];simp [hpl]
     rw [<-this] at Wj;exact ⟨⟨_,rfl⟩,.inl (fin Wj)⟩
    ·have q:¬(iI s A).2=0:=by simpa using q
     rw [if_neg q] at hnx;rw [hnx] at hx;have Wl:=Wl _ hnx;obtain ⟨s1,s2,s3,s4⟩:=hside;have s2':0<=(iI s A).1/\(iI s A).1<=20000000:=by omega
     have hsp:0<(iI s A).2/\(iI s A).2<=1048576:=by unfold yi at s1;omega
     have hpd:=ext Wj (Ext.dr QI);have zd:=lv QI;refine ⟨by omega,by omega,_,ldA (rowL hpd) ha3,by omega,by omega,_,ldB (rowL hpd) ha3,(Y4 _ _ aa hsp QI.drew).mono ?_⟩;rintro e jZ ⟨rfl,tV⟩;have adZ:=ext hpd tV;have z58:=hz adZ;obtain ⟨p1,p2⟩:=aov (rowL adZ) ha3 (aj ((iI s A).1+65536));refine ⟨_,_,rfl,tV.heap aa,tV.heap aa,by omega,by omega,_,ldA (rowL adZ) ha3,by omega,by omega,⟨rfl,p1⟩,?_,?_,λgL e62=> ?_⟩
     ·rw [cY];exact oY aa
     ·rw [cY];exact oY aa
     obtain ⟨q1,q2⟩:=p2 gL e62;rw [aK (n:=(iI s A).1+65536) (by unfold bS;omega)] at q1;have ahE:=jk adZ q2 (.inl rfl) q1;have z62:=hz ahE;refine ⟨_,_,_,Lo.wv (rowD ahE),(dj d A gL).mono ?_⟩;rintro e my ⟨rfl,lh⟩;have ahF:=ext ahE lh;have z66:=hz ahF;have hwide:eQ (a,b,c):=by unfold ln rn at hw;obtain ⟨-,Fq⟩:=hro;unfold yi at Fq;unfold eQ;simp only at Fq ⊢;omega
     have w1:aj (2*(A:Int))=2*(A:Int):=wI;have w2:aj (2*(A:Int)+1)=((2*A+1:Nat):Int):=by rw [wI];omega
     have w3:aj (2*(A:Int)+0)=((2*A:Nat):Int):=by rw [wI];omega
     have w4:aj (((2*A+1:Nat):Int)-1)=2*(A:Int):=by rw [wI];omega
     have w5:aj (((2*A+1:Nat):Int)-0)=2*(A:Int)+1:=by rw [wI];omega
     rw [w1,w2,w3,w4,w5];have hxx:∀y:List Hi,xs=pre++(((a,b,c),fc,tm)::y).map (λh=> [hiV h])->xs=(pre++ [[hiV ((a,b,c),fc,tm)]])++y.map λh=> [hiV h]:=λy h=>by rw [h];simp
     refine ⟨_,rfl,lh.heap aa,lh.heap aa,Br.mk (λhq=>(iO (a,b,c) hwide my).mono ?_) (λhq=>(iO (a,b,c) hwide my).mono ?_)⟩
     ·have hq:di d A>0:=by simpa using hq
      rw [if_pos hq,if_pos hq] at hx Wl;rintro e qo ⟨rfl,nt⟩;have JV:=ext ahF nt;have z68:=hz JV;refine ⟨_,_,_,_,_,_,_,_,_,_,_,_,_,_,_,_,_,_,rfl,nt.heap aa,nt.heap aa,⟨by omega,by omega⟩,_,_,_,R8 (a,b,c) (j:=2*A+1) aa,λnu e90=> ?_⟩;have hm:=oR e90;refine ⟨n,by omega,rfl,k+1,_,jk JV hm (.inr rfl) ((rowL JV).same (hm.same _ (rowL JV).lt aa)),by omega,Wl,rfl,pre++ [[hiV ((a,b,c),fc,tm)]],by simp [hpl],hxx _ hx⟩
     ·have hq:¬di d A>0:=by simpa using hq
      rw [if_neg hq,if_neg hq] at hx Wl;rintro e qo ⟨rfl,nt⟩;have JV:=ext ahF nt;have z68:=hz JV;refine ⟨_,_,_,_,_,_,_,_,_,_,_,_,_,_,_,_,_,_,rfl,nt.heap aa,nt.heap aa,⟨by omega,by omega⟩,_,_,_,R8 (a,b,c) (j:=2*A) aa,λnu e90=> ?_⟩;have hm:=oR e90;refine ⟨n,by omega,rfl,k+1,_,jk JV hm (.inr rfl) ((rowL JV).same (hm.same _ (rowL JV).lt aa)),by omega,Wl,rfl,pre++ [[hiV ((a,b,c),fc,tm)]],by simp [hpl],hxx _ hx⟩
  ·exact ⟨false,rfl,k1,k2,Br.mk (λ_=>⟨⟨_,rfl⟩,.inr hJx⟩) (λq=>by cases q)⟩
 ·have hgo:goK d c0 r n s ((a,b,c),fc,tm)=[]:=by
   cases n with
   |zero=>rfl
   |succ n=>
    show (if ln c0 (a,b,c) r=true then _ else _)=_;rw [if_neg (by rw [hw];decide)]
  rw [hgo] at hx;have:xs.length=k:=by rw [hx];simp [hpl]
  rw [<-this] at B8;exact ⟨⟨_,rfl⟩,.inl (fin B8)⟩
theorem Sc {α:Type} (p:α->Bool):∀(l:List α) (n:Nat) (x:α),l[n]? =some x->(∀y ∈ l.take n,p y=false)->p x=true->l.find? p=some x
 | [],n,x,h,_,_=>by simp at h
 |a::l,0,x,h,_,hp=>by
  have h:a=x:=by simpa using h
  subst h;rw [List.find?_cons_of_pos hp]
 |a::l,n+1,x,h,hn,hp=>by have ha:p a=false:=hn a bt;rw [List.find?_cons_of_neg (by rw [ha];decide)];exact Sc p l n x (by simpa using h) (λy hy=>hn y (by simp [hy])) hp
def lU (r:Int):Int:=min (max r 0) 64
theorem Qf (f d:Ce) (r:Int) (w:World):ah 143 #[ea f,ea d,r] w λe w'=>e=(ajk w)/\Row w' w (du (eO f)) eC/\Row w' (w.heap.size+1) (du (ko d)) eC/\Row w' (w.heap.size+2) [(lU r)] 3/\Ext w w':=by
 apply Uf.vc;intro w0 e0 w1 e1 w2 e2;have x0:=aL e0;have z0:=zA e0;have r0:Row w0 w (du f) eC:=Row.nw e0;have x1:=aL e1;have z1:=zA e1;have r1:Row w1 w0 (du d) eC:=Row.nw e1;have x2:=aL e2;have z2:=zA e2;have r2:Row w2 w1 [r] 3:=Row.nw e2;have xd:=Ext.dr w2;have zd:=lv w2;refine (U4 f w2.drew).mono ?_;rintro e w3 ⟨rfl,x3⟩;have z3:=x3.size;refine ⟨_,_,_,rfl,x3.heap aa,x3.heap aa,x3.heap aa,Lo.wv (r2.ext (xd.tr x3)),Lo.wv (r1.ext (x2.tr (xd.tr x3))),(U5 d w3).mono ?_⟩;rintro e w7 ⟨rfl,x7⟩;have z7:=x7.size;have y7:=xd.tr (x3.tr x7);have r27:=r2.ext y7;refine ⟨_,_,_,rfl,x7.heap aa,x7.heap aa,x7.heap aa,Lo.wv r27,λaW FA=> ?_⟩;have r0':Row aW w (du (eO f)) eC:=by rw [FA];exact Row.set (r0.ext (x1.tr (x2.tr y7))) [_,_,_]
 have r1':Row aW w0 (du d) eC:=(r1.ext (x2.tr y7)).same (by rw [FA];exact setRow_other _ _ _ _ aa);have r2':Row aW w1 [r] 3:=r27.same (by rw [FA];exact setRow_other _ _ _ _ aa);have bz:Ext w aW:=(x0.tr (x1.tr (x2.tr y7))).af FA (aB _);refine ⟨Lo.wv r2',λcM N4=> ?_⟩;have s1:Row cM w0 (du (ko d)) eC:=by rw [N4];exact Row.set r1' [_,_,_]
 have s0:=r0'.so N4;have s2:=r2'.so N4;have bU:Ext w cM:=bz.af N4 aa;refine ⟨Lo.wv s2,λbF B7=> ?_⟩;have er:(if 64<(if 0>r then 0 else r) then 64 else (if 0>r then 0 else r))=lU r:=by
  unfold lU
  repeat' split
  all_goals omega
 rw [er] at B7;have t2:Row bF w1 [(lU r)] 3:=s2.st B7;have t0:=s0.so B7;have t1:=s1.so B7;rw [z0] at t1;rw [z1,z0] at t2;exact ⟨by rw [z1,z0],t0,t1,t2,bU.af B7 aa⟩
abbrev Qg:=Ce × Int × Int × Int
abbrev U6 (h:Qg):Value:=.agg #[h.1.1,h.1.2.1,h.1.2.2,h.2.1,h.2.2.1,h.2.2.2]
def hZ (V:Ce->Int) (f d:Ce) (r:Int):Qg × Bool:=
 match (k8 (eO f) (ko d) (lU r)).find? (λh=> !lq (V h.1)) with
 |some h=>((h.1,V h.1,h.2.1,h.2.2),true)
 |none=>(((0,0,0),0,0,0),false)
set_option maxHeartbeats 2000000 in
theorem HV {v:Value} {V:Ce->Int} {w:World} (hV:Tl v V w) (hv:ke v=[]) (f d:Ce) (r:Int) (hf:(-1900000000<=(bu (eO f)).1/\(bu (eO f)).1<=1900000000)/\(-1900000000<=(bu (eO f)).2.1/\(bu (eO f)).2.1<=1900000000)/\-1900000000<=(bu (eO f)).2.2/\(bu (eO f)).2.2<=1900000000)
  (bk:∀h ∈ k8 (eO f) (ko d) (lU r),oM h.1):
  ah 87 #[v,ea f,ea d,r] w λe w'=>e=Value.tuple #[U6 (hZ V f d r).1,.bool (hZ V f d r).2]/\Ext w w':=by
 apply X0.vc;rw [hv,pF];intro w0 e0 w1 e1 w2 e2 w3 e3 w4 e4;have x0:=aL e0;have z0:=zA e0;have x1:=aL e1;have z1:=zA e1;have x2:=aL e2;have z2:=zA e2;have x3:=aL e3;have z3:=zA e3;have x4:=aL e4;have z4:=zA e4;have Bq:=x0.tr (x1.tr (x2.tr (x3.tr x4)));refine (Qf f d r w4).mono ?_;rintro e w5 ⟨rfl,t0,t1,t2,x5⟩;have z5:=x5.size;have l5:=t2.lt;have Nc:=Bq.tr x5;have hdd:∀i:Nat,i<3-> -1048576<=di (ko d) i/\di (ko d) i<=1048576:=λi hi=>by
  have hc:∀n,-1048576<=yw n/\yw n<=1048576:=λn=>by unfold yw;omega
  have:i=0\/i=1\/i=2:=by omega
  rcases this with rfl|rfl|rfl<;>exact hc _
 have hrr:0<=lU r/\lU r<=64:=by unfold lU;omega
 have hcast:hZ V f d r=match (k8 (eO f) (ko d) (lU r)).find? (λh=> !lq (V h.1)) with
  |some h=>((h.1,V h.1,h.2.1,h.2.2),true)
  |none=>(((0,0,0),0,0,0),false):=rfl
 have last:∀{w6 w7:World},Mod (λi=>i=w2.heap.size\/i=w3.heap.size\/w5.heap.size<=i) w5 w6->Rec w5 w6 w7->Ext w w7:=λhm hr=>by
  have hx:=hm.ext Nc λi hi=>by have:=Nc.size;omega
  exact (Mod.nO hr).ext hx λi hi=>by have:=Nc.size;omega
 refine ⟨_,rfl,x5.heap aa,x5.heap aa,x5.heap aa,x5.heap aa,x5.heap aa,trX (eO f) (ko d) (lU r),λi=>i=w4.heap.size\/i=w4.heap.size+1\/i=w4.heap.size+2,λ_=>False,
  λn F a b c q s t bb w'=>(∀i,¬F i)/\(∀h ∈(k8 (eO f) (ko d) (lU r)).take n,(!lq (V h.1))=false)/\Mod (λi=>w5.heap.size<=i) w5 w',
  λo F a b c q s t bb w'=>(∀i,¬F i)/\hZ V f d r=(((a,b,c),q,s,t),bb)/\Mod (λi=>i=w2.heap.size\/i=w3.heap.size\/w5.heap.size<=i) w5 w',?_,?_,?_,λn F a b c q s t bb w' h i hi=>(h.1 i hi).elim,λo F a b c q s t bb w' h i hi=>(h.1 i hi).elim,λi hi=> ?_,λyN wJ=> ?_,?_,?_,?_⟩
 ·intro x hx;obtain ⟨c,-,rfl⟩:=bg.1 hx;exact ⟨_,_,_,_,_,_,rfl⟩
 ·rintro n F a b c q s t bb ed cL ⟨h1,h2,h3⟩ kF -;exact ⟨h1,h2,h3.tr ⟨kF.os,kF.tape,kF.output,kF.size,λi hi hn=>kF.block i (Nat.lt_of_not_le hn)⟩ λi hi=> .inl hi⟩
 ·rintro o F a b c q s t bb ed cL ⟨h1,h2,h3⟩ kF -;exact ⟨h1,h2,h3.tr ⟨kF.os,kF.tape,kF.output,kF.size,λi hi hn=>kF.block i (Nat.lt_of_not_le hn)⟩ λi hi=> .inl (.inr (.inr hi))⟩
 ·exact ⟨by omega,id,by omega,by omega,by omega,by omega,by omega,trivial⟩
 ·exact ⟨P7 _ _ _ hf hdd hrr _ yN (t0.same (wJ.ext.block _ aa)) (t1.same (wJ.ext.block _ aa)) (t2.same (wJ.ext.block _ aa)),rfl,rfl,rfl,λi h=>h,λc hc=>by simp at hc,Mod.aD wJ.ext⟩
 ·rintro n F us a0 b0 c0 q0 s0 t0' bb a b c q s t ov hx hI jZ e58 sQ WN;have lf:Ext ov sQ:=(aL e58).af WN (aB _);have z59:sQ.heap.size=ov.heap.size+1:=by rw [zR WN,zA e58]
  have z56:=hI.2.2.size;refine ⟨lf,λl8 fN aaB=> ?_⟩;obtain ⟨hF,mV,hM⟩:=aaB;have zr:=fN.size;obtain ⟨h,hh,hval⟩:∃h:Hi,(k8 (eO f) (ko d) (lU r))[n]? =some h/\(a,b,c)=h.1/\q=0/\s=h.2.1/\t=h.2.2:=by
   rw [aS] at hx
   cases hg:(k8 (eO f) (ko d) (lU r))[n]? with
   |none=>rw [hg] at hx;cases hx
   |some h=>
    rw [hg] at hx;simp at hx;obtain ⟨g1,g2,g3,g4,g5,g6⟩:=hx;exact ⟨h,rfl,by rw [<-g1,<-g2,<-g3],g4.symm,g5.symm,g6.symm⟩
  obtain ⟨hc,rfl,rfl,rfl⟩:=hval;have rF:=aZ hh;have asj:oM (a,b,c):=by rw [hc];exact bk h rF
  have z57:=hM.size;have ht:(k8 (eO f) (ko d) (lU r)).take (n+1)=(k8 (eO f) (ko d) (lU r)).take n++ [h]:=by rw [dE,hh];rfl
  obtain ⟨D,hD1,hD2⟩:=hV;refine dq (hD2 l8 (λi hi=> ?_) (a,b,c) asj) ?_
  ·have:=hD1 i hi;have:=Nc.size;exact (hM.same i aa aa).trans (Nc.heap aa)
  rintro e kC ⟨rfl,jc⟩;have z60:=jc.size;refine ⟨_,rfl,jc.heap aa,jc.heap aa,jc.heap aa,jc.heap aa,jc.heap aa,jc.heap aa,(Bk (V (a,b,c)) kC).mono ?_⟩;rintro e gL ⟨rfl,asl⟩;subst asl;have Nd:=hM.trans (Mod.aD jc);refine ⟨_,rfl,rfl,rfl,rfl,rfl,rfl,rfl,Br.mk (λhq=>λoX We E7 Wf my e66=> ?_) (λhq=> ?_)⟩
  ·have hq':(!lq (V h.1))=true:=by rw [<-hc];exact hq
   have hfd:=Sc (λh:Hi=> !lq (V h.1)) _ n h hh mV hq';have hcast:hZ V f d r=((h.1,V h.1,h.2.1,h.2.2),true):=by rw [hcast,hfd]
   have m1:=oR We;have m2:=oR Wf;have m3:=oR e66;have s1:=m1.size;have s2:=m2.size;have m:Mod (λi=>i=w2.heap.size\/i=w3.heap.size\/i=ov.heap.size) gL my:=((m1.mono λi _ h=> .inr (.inr h)).trans (m2.mono λi _ h=> .inl h)).trans (m3.mono λi _ h=> .inr (.inl h));refine ⟨rfl,λ_=>False,⟨rfl,rfl,rfl,λi h=>h,by rw [hcast,hc],(Nd.mono λi _ h=> .inr (.inr h)).trans (m.mono λi _ h=> ?_)⟩,?_⟩
   ·rcases h with h|h|h
    ·exact .inl h
    ·exact .inr (.inl h)
    ·exact .inr (.inr aa)
   ·have hm:=(Mod.aD (F:=λi=>i=w2.heap.size\/i=w3.heap.size\/i=ov.heap.size) jc).trans m;refine ⟨λi hi=> ?_,hm.size,λi hi hn=>hm.same i hi λq=>hn ?_⟩
    ·rcases hi with h|h
     ·exact h.elim
     ·exact .inl (.inl (.inr h))
    ·rcases q with rfl|rfl|rfl
     ·exact .inl (.inr bt)
     ·exact .inl (.inr bt)
     ·exact .inr (aB _)
  ·have hq':(!lq (V h.1))=false:=by rw [<-hc];exact hq
   refine ⟨λ_=>False,⟨rfl,rfl,rfl,λi h=>h,λx hx=> ?_,Nd⟩,Step.late ⟨λi hi=> ?_,jc.size,λi hi _=>jc.block i hi⟩⟩
   ·rw [ht,dR] at hx;rcases hx with hx|hx
    ·exact mV x hx
    ·rw [List.mem_singleton.1 hx];exact hq'
   ·rcases hi with h|h
    ·exact h.elim
    ·exact .inl (.inr h)
 ·rintro F us a b c q s t bb J9 ⟨hF,mV,hM⟩ hD po adW Fc al8;have z99:=hM.size;rw [show (trX (eO f) (ko d) (lU r)).length=(k8 (eO f) (ko d) (lU r)).length from aM ..,iB] at mV;have hfd:(k8 (eO f) (ko d) (lU r)).find? (λh=> !lq (V h.1))=none:=List.find?_eq_none.2 λx hx=>by rw [mV x hx];decide
  have hcast:hZ V f d r=(((0,0,0),0,0,0),false):=by rw [hcast,hfd]
  have m1:=oR adW;have m2:=oR al8;have s1:=m1.size;have m:=(hM.mono (F':=λi=>i=w2.heap.size\/i=w3.heap.size\/w5.heap.size<=i) λi _ h=> .inr (.inr h)).trans ((m1.mono λi _ h=> .inl h).trans (m2.mono λi _ h=> .inr (.inl h)));refine ⟨?_,λahp fN=> ?_⟩
  ·rw [<-hD,al8,setRow_other _ _ _ _ aa,adW,setRow_other _ _ _ _ aa]
  ·rw [hcast];exact ⟨rfl,last m fN⟩
 ·rintro F us a b c q s t bb wK ⟨hF,hcv,hM⟩ hD;refine ⟨hD,λJM fN=> ?_⟩;rw [hcv];exact ⟨rfl,last hM fN⟩
variable {R:Ending->World->Prop} {w:World} {a0 a1 a2 a3 a4 a5 a6 a7 a8 a9 aA aq au aT aU aX bN bI bJ EU ak ao aw bw bR bP eZ fa eL EV br bG bq yC yD wC wD yE yF yG EW EX EY EZ E0 E1 E2 E3 E4 E5:Int}
theorem PO.vc {a0:Sl} {a1:Sl} (h:
 ∃I0:Nat->Int->Sl->World->Prop,
 (∃n1,I0 n1 (0) a0 w)/\
 ∀(n1:Nat) (wM:Nat->Value) (x3:Int) (s4:Sl) (w5:World),I0 n1 x3 s4 w5->
 Br (decide (x3<((a1.n:Nat):Int)))
 (ee a1.a x3 a1.n/\∃(x7:Int),ld w5 (ae a1.a ((x3:Int).toNat*1))=some (.int .i64 x7)/\
 ∃I8:Nat->Int->Sl->World->Prop,
 (∃n9,I8 n9 (5) s4 w5)/\
 ∀(n9:Nat) (Wb:Nat->Value) (bz:Int) (jJ:Sl) (bF:World),I8 n9 bz jJ bF->
 Br (bz>=0)
 (aP (ngC (aj (8*bz))) (∀dY,dY=bF.alloc (.cells #[.int .u8 (eV ((x7:Int).fdiv (2 ^(min ((aj (8*bz)):Int).toNat 64))))] 5)->
 ba 1 1 dY jJ 1 [.int .u8 (eV ((x7:Int).fdiv (2 ^(min ((aj (8*bz)):Int).toNat 64))))]/\∀(WR:Sl) (cE:World),aV 5 1 dY jJ 1 [.int .u8 (eV ((x7:Int).fdiv (2 ^(min ((aj (8*bz)):Int).toNat 64))))] WR cE->Kp bF dY cE/\
 ∃FD,FD<n9/\I8 FD ((aj (bz-1))) WR cE))
 (∃n6,n6<n1/\I0 n6 ((aj (x3+1))) jJ bF))
 (R s4 w5)):ah 81 #[a0,a1] w R:=
 cq ⟨[(5,⟨[(7,.int .i64),(0,.slice)],[],[]⟩),(2,⟨[(10,.int .i64),(0,.slice)],[],[]⟩)],[],[]⟩ Tryz.func81 h
theorem tO.vc {a0:Addr} (h:
 ah 12 #[a0] w (λe w0=>∃(s1:Sl),e=s1/\
 ∃(p2:Option Addr),ld w0 (ae (some a0) 0)=some (.pointer p2)/\
 ah 68 #[p2] w0 (λe w3=>∃(x4:Int),e=x4/\
 ∀w5,w5=w3.alloc (.cells #[x4] 3)->
 ah 81 #[.slice none 0 0,.slice (some ⟨w3,0,none⟩) 1 1] w5 (λe w6=>∃(s7:Sl),e=s7/\
 ∀w8,w8=w6.alloc (.cells #[.int .u8 (eV ((s1.n:Nat):Int))] 5)->
 ba 1 1 w8 s7 1 [.int .u8 (eV ((s1.n:Nat):Int))]/\∀(s9:Sl) (bD:World),aV 5 1 w8 s7 1 [.int .u8 (eV ((s1.n:Nat):Int))] s9 bD->Kp w6 w8 bD/\
 ∃I11:Nat->Int->Sl->World->Prop,
 (∃JP,aO [.int .u8 (eV ((s1.n:Nat):Int))]/\I11 JP (0) s9 bD)/\
 ∀(JP:Nat) (asC:Nat->Value) (bW:Int) (lg:Sl) (cB:World),I11 JP bW lg cB->
 Br (decide (bW<((s1.n:Nat):Int)))
 (ee s1.a bW s1.n/\∃(cg:Int),ld cB (ae s1.a ((bW:Int).toNat*1))=some (.int .i64 cg)/\
 (0:Int)<=cg/\cg<((16:Nat):Int)/\∃(lu:Option Addr),ld cB (ae (ae (some a0) 1) ((cg:Int).toNat*1))=some (.pointer lu)/\
 ∃J20:Sl->World->Prop,
 (aP (dB lu) (aP (dB lu) (aP (dB (ae lu 0)) (aP (dB (ae (ae lu 0) 0)) (∃(dm:Int),ld cB.drew (ae (ae (ae lu 0) 0) 0)=some (.int .i64 dm)/\
 aP (dB lu) (aP (dB lu) (aP (dB (ae lu 0)) (aP (dB (ae (ae lu 0) 0)) (∃(dI:Int),ld cB.drew (ae (ae (ae lu 0) 0) 1)=some (.int .i64 dI)/\
 aP (dB lu) (aP (dB lu) (aP (dB (ae lu 0)) (aP (dB (ae (ae lu 0) 0)) (∃(dz:Int),ld cB.drew (ae (ae (ae lu 0) 0) 2)=some (.int .i64 dz)/\
 aP (dB lu) (aP (dB lu) (aP (dB (ae lu 0)) (aP (dB (ae (ae lu 0) 3)) (∃(eH:Int),ld cB.drew (ae (ae (ae lu 0) 3) 0)=some (.int .i64 eH)/\
 aP (dB lu) (aP (dB lu) (aP (dB (ae lu 0)) (aP (dB (ae (ae lu 0) 3)) (∃(dQ:Int),ld cB.drew (ae (ae (ae lu 0) 3) 1)=some (.int .i64 dQ)/\
 aP (dB lu) (aP (dB lu) (aP (dB (ae lu 0)) (aP (dB (ae (ae lu 0) 3)) (∃(fk:Int),ld cB.drew (ae (ae (ae lu 0) 3) 2)=some (.int .i64 fk)/\
 aP (dB lu) (aP (dB lu) (aP (dB (ae lu 0)) (∃(fw:Int),ld cB.drew (ae (ae lu 0) 6)=some (.int .i64 fw)/\
 aP (dB lu) (aP (dB lu) (aP (dB (ae lu 0)) (∃(gy:Int),ld cB.drew (ae (ae lu 0) 7)=some (.int .i64 gy)/\
 (∀dH,dH=cB.drew.alloc (.cells #[.int .u8 (eV cg)] 5)->
 (ba 1 1 dH lg 1 [.int .u8 (eV cg)]/\∀(sS:Sl) (fj:World),aV 5 1 dH lg 1 [.int .u8 (eV cg)] sS fj->Kp w6 dH fj/\fj.heap[cB.drew.heap.size]? =dH.heap[cB.drew.heap.size]?/\
 ag fj (ae (ae lu 0) 7) 0 [gy]/\ag fj (ae (ae lu 0) 6) 0 [fw]/\ag fj (ae (ae (ae lu 0) 3) 2) 0 [fk]/\ag fj (ae (ae (ae lu 0) 3) 1) 0 [dQ]/\ag fj (ae (ae (ae lu 0) 3) 0) 0 [eH]/\ag fj (ae (ae (ae lu 0) 0) 2) 0 [dz]/\ag fj (ae (ae (ae lu 0) 0) 1) 0 [dI]/\ag fj (ae (ae (ae lu 0) 0) 0) 0 [dm]/\∀j6,j6=fj.alloc (.cells #[dm,dI,dz,eH,dQ,fk,fw,gy] 3)->
 ah 81 #[sS,.slice (some ⟨fj,0,none⟩) 8 8] j6 (Rs λs34 ej=>Kp w6 j6 ej/\ej.heap[cB.drew.heap.size]? =j6.heap[cB.drew.heap.size]?/\
 aO [.int .u8 (eV ((s1.n:Nat):Int))]/\J20 s34 ej))/\(∀ie,ie=dH.alloc (.cells #[dm,dI,dz,eH,dQ,fk,fw,gy] 3)->
 ba 1 1 ie lg 1 [.int .u8 (eV cg)]/\∀(Kd:Sl) (gJ:World),aV 5 1 ie lg 1 [.int .u8 (eV cg)] Kd gJ->Kp w6 ie gJ/\gJ.heap[cB.drew.heap.size]? =ie.heap[cB.drew.heap.size]?/\Kp dH ie gJ/\
 ah 81 #[Kd,.slice (some ⟨dH,0,none⟩) 8 8] gJ (Rs λSv mX=>Kp w6 gJ mX/\mX.heap[cB.drew.heap.size]? =gJ.heap[cB.drew.heap.size]?/\
 aO [.int .u8 (eV ((s1.n:Nat):Int))]/\J20 Sv mX)))/\(∀ik,ik=cB.drew.alloc (.cells #[dm,dI,dz,eH,dQ,fk,fw,gy] 3)->
 ∀jm,jm=ik.alloc (.cells #[.int .u8 (eV cg)] 5)->
 ba 1 1 jm lg 1 [.int .u8 (eV cg)]/\∀(s42:Sl) (il:World),aV 5 1 jm lg 1 [.int .u8 (eV cg)] s42 il->Kp w6 jm il/\il.heap[cB.drew.heap.size]? =jm.heap[cB.drew.heap.size]?/\Kp ik jm il/\
 ah 81 #[s42,.slice (some ⟨cB.drew.heap.size,0,none⟩) 8 8] il (Rs λs45 jV=>K2 w6 ik il jV (
 aO [.int .u8 (eV ((s1.n:Nat):Int))]/\J20 s45 jV))))))))))))))))))))))))))))))))))/\
 ∀alP:Nat->Value,∀(vl:Sl) (fG:World),J20 vl fG->
 aP (dB lu) (aP (dB lu) (aP (dB (ae lu 0)) (∃(b49:Bool),ld fG (ae (ae lu 0) 8)=some (.bool b49)/\
 Br b49
 (∀kM,kM=fG.alloc (.cells #[.int .u8 1] 5)->
 ba 1 1 kM vl 1 [.int .u8 1]/\∀(s51:Sl) (Ny:World),aV 5 1 kM vl 1 [.int .u8 1] s51 Ny->K2 w6 fG kM Ny (
 ∃GK,GK<JP/\aO [.int .u8 (eV ((s1.n:Nat):Int))]/\I11 GK ((aj (bW+1))) s51 Ny))
 (∀SU,SU=fG.alloc (.cells #[.int .u8 0] 5)->
 ba 1 1 SU vl 1 [.int .u8 0]/\∀(CD:Sl) (yH:World),aV 5 1 SU vl 1 [.int .u8 0] CD yH->K2 w6 fG SU yH (
 ∃GK,GK<JP/\aO [.int .u8 (eV ((s1.n:Nat):Int))]/\I11 GK ((aj (bW+1))) CD yH))))))
 (∃(p56:Option Addr),ld cB (ae (some a0) 0)=some (.pointer p56)/\
 ah 82 #[p56] cB (Rs λmc l8=>Kp w6 cB l8/\
 (0:Int)<=(if 2000<((mc.n:Nat):Int) then 2000 else ((mc.n:Nat):Int))/\(if 2000<((mc.n:Nat):Int) then 2000 else ((mc.n:Nat):Int))<=((mc.c:Nat):Int)/\∀sQ,sQ=l8.alloc (.cells #[.int .u8 (eV (((((((if 2000<((mc.n:Nat):Int) then 2000 else ((mc.n:Nat):Int)):Int).toNat-0):Nat):Int):Int).fdiv (2 ^(min (8:Int).toNat 64)))),.int .u8 (eV (((((if 2000<((mc.n:Nat):Int) then 2000 else ((mc.n:Nat):Int)):Int).toNat-0):Nat):Int))] 5)->
 ba 1 1 sQ lg 2 [.int .u8 (eV (((((((if 2000<((mc.n:Nat):Int) then 2000 else ((mc.n:Nat):Int)):Int).toNat-0):Nat):Int):Int).fdiv (2 ^(min (8:Int).toNat 64)))),.int .u8 (eV (((((if 2000<((mc.n:Nat):Int) then 2000 else ((mc.n:Nat):Int)):Int).toNat-0):Nat):Int))]/\∀(Rp:Sl) (mY:World),aV 5 1 sQ lg 2 [.int .u8 (eV (((((((if 2000<((mc.n:Nat):Int) then 2000 else ((mc.n:Nat):Int)):Int).toNat-0):Nat):Int):Int).fdiv (2 ^(min (8:Int).toNat 64)))),.int .u8 (eV (((((if 2000<((mc.n:Nat):Int) then 2000 else ((mc.n:Nat):Int)):Int).toNat-0):Nat):Int))] Rp mY->K2 w6 l8 sQ mY (
 ∃I62:Nat->Int->Sl->World->Prop,
 (∃n63,aO [.int .u8 (eV ((s1.n:Nat):Int))]/\aO [.int .u8 (eV (((((((if 2000<((mc.n:Nat):Int) then 2000 else ((mc.n:Nat):Int)):Int).toNat-0):Nat):Int):Int).fdiv (2 ^(min (8:Int).toNat 64)))),.int .u8 (eV (((((if 2000<((mc.n:Nat):Int) then 2000 else ((mc.n:Nat):Int)):Int).toNat-0):Nat):Int))]/\I62 n63 (0) Rp mY)/\
 ∀(n63:Nat) (apq:Nat->Value) (qp:Int) (s66:Sl) (jY:World),I62 n63 qp s66 jY->
 Br (decide (qp<(((((if 2000<((mc.n:Nat):Int) then 2000 else ((mc.n:Nat):Int)):Int).toNat-0):Nat):Int)))
 (ee (aJ mc.a (0) (mc.c) 4) qp (((if 2000<((mc.n:Nat):Int) then 2000 else ((mc.n:Nat):Int)):Int).toNat-0)/\∃(pz oC m8 nc:Int),ag jY (ae (aJ mc.a (0) (mc.c) 4) ((qp:Int).toNat*4)) 0 [pz,oC,m8,nc]/\
 ∀FG,FG=jY.alloc (.cells #[ab,ab,ab,ab] 157)->
 ∀jK,jK=FG.setRow jY #[pz,oC,m8,nc]->
 ∀pn,pn=jK.alloc (.cells #[pz,oC,m8,nc] 3)->
 ah 81 #[s66,.slice (some ⟨jK,0,none⟩) 4 4] pn (Rs λs77 iq=>K3 w6 l8 jY pn iq (
 ∃n68,n68<n63/\aO [.int .u8 (eV ((s1.n:Nat):Int))]/\aO [.int .u8 (eV (((((((if 2000<((mc.n:Nat):Int) then 2000 else ((mc.n:Nat):Int)):Int).toNat-0):Nat):Int):Int).fdiv (2 ^(min (8:Int).toNat 64)))),.int .u8 (eV (((((if 2000<((mc.n:Nat):Int) then 2000 else ((mc.n:Nat):Int)):Int).toNat-0):Nat):Int))]/\I62 n68 ((aj (qp+1))) s77 iq)))
 (R s66 jY)))))))):ah 26 #[a0] w R:=
 cq ⟨[(16,⟨[(124,.int .i64),(4,.slice)],[],[]⟩),(4,⟨[(27,.int .i64),(4,.slice)],[],[]⟩)],[(8,⟨[(4,.slice)],[],[]⟩)],[]⟩ Tryz.func26 h
theorem wo.vc {a0:Addr} (h:
 ∃(p0:Option Addr),ld w (ae (some a0) 0)=some (.pointer p0)/\
 ah 18 #[p0] w (λe w1=>∃(p2:Option Addr),e=p2/\
 ah 19 #[p2] w1 (λe w3=>∃(p4:Option Addr),e=p4/\
 ah 26 #[a0] w3 (λe w5=>∃(s6:Sl),e=s6/\
 ah 61 #[p4,s6] w5 (λe w7=>∃(x8:Int),e=x8/\
 R x8 w7))))):ah 35 #[a0] w R:=
 cq bT Tryz.func35 h
theorem Qj.vc (h:
 ∀w0,w0=w.alloc (.cells #[aA,aq,au] 41)->
 ∀w1,w1=w0.alloc (.cells #[ab,ab,ab] 41)->
 ah 10 #[aA,(10:Int)] w1.drew (Ri λx3 w2=>K2 w w0 w1.drew w2 (
 ag w2 (some ⟨w,2,none⟩) 0 [au]/\ag w2 (some ⟨w,1,none⟩) 0 [aq]/\ah 10 #[aq,(14:Int)] w2 (Ri λx5 w4=>K2 w w0 w2 w4 (
 ag w4 (some ⟨w,2,none⟩) 0 [au]/\ah 10 #[au,(10:Int)] w4 (Ri λx7 w6=>K2 w w0 w4 w6 (
 ∀w8,w8=w6.setRow w0 #[(aj (3+x3)),(aj (6+x5)),(aj (3+x7))]->
 R (Value.agg #[(aj (3+x3)),(aj (6+x5)),(aj (3+x7))]) w8))))))):ah 28 #[.agg #[aA,aq,au]] w R:=
 cq bT Tryz.func28 h
theorem U8.vc (h:
 Br (a0>140737488355328)
 (R (140737488355328:Int) w)
 (Br (a0<(-140737488355328))
 (R (Value.int .i64 (-140737488355328)) w)
 (R a0 w))):ah 141 #[a0] w R:=
 cq bT Tryz.func141 h
theorem Mh.vc (h:
 ah 141 #[a0] w (λe w0=>∃(x1:Int),e=x1/\
 ah 86 #[x1,(65536:Int)] w0 (λe w2=>∃(x3:Int),e=x3/\
 R x3 w2))):ah 84 #[a0] w R:=
 cq bT Tryz.func84 h
theorem Za.vc (h:
 ∀w0,w0=w.alloc (.cells #[aA,aq,au] 28)->
 ∀w1,w1=w0.alloc (.cells #[ab,ab,ab] 41)->
 ah 84 #[aA] w1.drew (Ri λx3 w2=>K2 w w0 w1.drew w2 (
 ag w2 (some ⟨w,2,none⟩) 0 [au]/\ag w2 (some ⟨w,1,none⟩) 0 [aq]/\ah 84 #[aq] w2 (Ri λx5 w4=>K2 w w0 w2 w4 (
 ag w4 (some ⟨w,2,none⟩) 0 [au]/\ah 84 #[au] w4 (Ri λx7 w6=>K2 w w0 w4 w6 (
 ∀w8,w8=w6.setRow w0 #[x3,x5,x7]->
 R (Value.agg #[x3,x5,x7]) w8))))))):ah 30 #[.agg #[aA,aq,au]] w R:=
 cq bT Tryz.func30 h
theorem U9.vc (h:
 ah 141 #[a0] w (λe w0=>∃(x1:Int),e=x1/\
 ah 141 #[a1] w0 (λe w2=>∃(x3:Int),e=x3/\
 ah 141 #[(aj (x1+x3))] w2 (λe w4=>∃(x5:Int),e=x5/\
 R x5 w4)))):ah 142 #[a0,a1] w R:=
 cq bT Tryz.func142 h
theorem Vd.vc (h:
 ∀w0,w0=w.alloc (.cells #[aA,aq,au] 28)->
 ∀w1,w1=w0.alloc (.cells #[ak,ao,aw] 28)->
 ∀w2,w2=w1.alloc (.cells #[ab,ab,ab] 28)->
 ah 142 #[aA,ak] w2.drew (Ri λx4 w3=>K3 w w0 w1 w2.drew w3 (
 ag w3 (some ⟨w0,2,none⟩) 0 [aw]/\ag w3 (some ⟨w,2,none⟩) 0 [au]/\ag w3 (some ⟨w0,1,none⟩) 0 [ao]/\ag w3 (some ⟨w,1,none⟩) 0 [aq]/\ah 142 #[aq,ao] w3 (Ri λx6 w5=>K3 w w0 w1 w3 w5 (
 ag w5 (some ⟨w0,2,none⟩) 0 [aw]/\ag w5 (some ⟨w,2,none⟩) 0 [au]/\ah 142 #[au,aw] w5 (Ri λx8 w7=>K3 w w0 w1 w5 w7 (
 ∀w9,w9=w7.setRow w1 #[x4,x6,x8]->
 R (Value.agg #[x4,x6,x8]) w9))))))):ah 85 #[.agg #[aA,aq,au],.agg #[ak,ao,aw]] w R:=
 cq bT Tryz.func85 h
theorem Vb.vc (h:
 ah 141 #[a0] w (λe w0=>∃(x1:Int),e=x1/\
 ah 141 #[a1] w0 (λe w2=>∃(x3:Int),e=x3/\
 ah 141 #[(aj (x1-x3))] w2 (λe w4=>∃(x5:Int),e=x5/\
 R x5 w4)))):ah 181 #[a0,a1] w R:=
 cq bT Tryz.func181 h
theorem Qh.vc (h:
 ∀w0,w0=w.alloc (.cells #[aA,aq,au] 28)->
 Br (a1==0)
 (R aA w0)
 (Br (a1==1)
 (R aq w0)
 (Br (a1==2)
 (R au w0)
 (R (0:Int) w0)))):ah 180 #[.agg #[aA,aq,au],a1] w R:=
 cq bT Tryz.func180 h
theorem Gk.vc (h:
 ∀w0,w0=w.alloc (.cells #[aA,aq,au,aT,aU,aX] 107)->
 ∀w1,w1=w0.alloc (.cells #[ak,ao,aw,bw,bR,bP] 107)->
 Br (aA<bw)
 (Br (aq<bR)
 (Br (au<bP)
 (Br (ak<aT)
 (Br (ao<aU)
 (R (Value.bool (decide (aw<aX))) w1)
 (R false w1))
 (R false w1))
 (Br (ak<aT)
 (Br (ao<aU)
 (R false w1)
 (R false w1))
 (R false w1)))
 (Br (au<bP)
 (Br (ak<aT)
 (R false w1)
 (R false w1))
 (Br (ak<aT)
 (R false w1)
 (R false w1))))
 (Br (aq<bR)
 (Br (au<bP)
 (R false w1)
 (R false w1))
 (Br (au<bP)
 (R false w1)
 (R false w1)))):ah 179 #[.agg #[aA,aq,au,aT,aU,aX],.agg #[ak,ao,aw,bw,bR,bP]] w R:=
 cq bT Tryz.func179 h
theorem Mj.vc (h:
 ∀w0,w0=w.alloc (.cells #[aA,aq,au] 28)->
 ∀w1,w1=w0.alloc (.cells #[ab,ab,ab,ab,ab,ab] 107)->
 ah 181 #[aA,(aj (Int.tdiv (if 0>a1 then 0 else a1) 2))] w1.drew (Ri λx3 w2=>K2 w w0 w1.drew w2 (
 ag w2 (some ⟨w,2,none⟩) 0 [au]/\ag w2 (some ⟨w,1,none⟩) 0 [aq]/\ag w2 w 0 [aA]/\ag w2 (some ⟨w,2,none⟩) 0 [au]/\ag w2 (some ⟨w,1,none⟩) 0 [aq]/\ah 141 #[aq] w2 (Ri λx5 w4=>K2 w w0 w2 w4 (
 ag w4 (some ⟨w,2,none⟩) 0 [au]/\ag w4 (some ⟨w,1,none⟩) 0 [aq]/\ag w4 w 0 [aA]/\ag w4 (some ⟨w,2,none⟩) 0 [au]/\ah 181 #[au,(aj (Int.tdiv (if 0>a1 then 0 else a1) 2))] w4 (Ri λx7 w6=>K2 w w0 w4 w6 (
 ag w6 (some ⟨w,2,none⟩) 0 [au]/\ag w6 (some ⟨w,1,none⟩) 0 [aq]/\ag w6 w 0 [aA]/\(ah 142 #[aA,(aj (Int.tdiv (if 0>a1 then 0 else a1) 2))] w6 (Ri λx9 w8=>K2 w w0 w6 w8 (
 ag w8 (some ⟨w,2,none⟩) 0 [au]/\ag w8 (some ⟨w,1,none⟩) 0 [aq]/\ah 142 #[aq,.int .i64 (if 0>a2 then 0 else a2)] w8 (Ri λbz bD=>K2 w w0 w8 bD (
 ag bD (some ⟨w,2,none⟩) 0 [au]/\ah 142 #[au,(aj (Int.tdiv (if 0>a1 then 0 else a1) 2))] bD (Ri λcc cM=>K2 w w0 bD cM (
 ∀bK,bK=cM.setRow w0 #[x3,x5,x7,x9,bz,cc]->
 R (Value.agg #[x3,x5,x7,x9,bz,cc]) bK)))))))/\(ah 142 #[aA,(aj (Int.tdiv (if 0>a1 then 0 else a1) 2))] w6 (Ri λcp dY=>K2 w w0 w6 dY (
 ag dY (some ⟨w,2,none⟩) 0 [au]/\ag dY (some ⟨w,1,none⟩) 0 [aq]/\(ah 142 #[aq,.int .i64 (if 0>a2 then 0 else a2)] dY (Ri λcg cE=>K2 w w0 dY cE (
 ag cE (some ⟨w,2,none⟩) 0 [au]/\ah 142 #[au,(aj (Int.tdiv (if 0>a1 then 0 else a1) 2))] cE (Ri λcZ fy=>K2 w w0 cE fy (
 ∀ed,ed=fy.setRow w0 #[x3,x5,x7,cp,cg,cZ]->
 R (Value.agg #[x3,x5,x7,cp,cg,cZ]) ed)))))/\(ah 142 #[aq,.int .i64 (if 0>a2 then 0 else a2)] dY (Ri λdz cL=>K2 w w0 dY cL (
 ag cL (some ⟨w,2,none⟩) 0 [au]/\(ah 142 #[au,(aj (Int.tdiv (if 0>a1 then 0 else a1) 2))] cL (Ri λdQ fH=>K2 w w0 cL fH (
 ∀eG,eG=fH.setRow w0 #[x3,x5,x7,cp,dz,dQ]->
 R (Value.agg #[x3,x5,x7,cp,dz,dQ]) eG)))/\(ah 142 #[au,(aj (Int.tdiv (if 0>a1 then 0 else a1) 2))] cL (Ri λgy eo=>K2 w w0 cL eo (
 (∀dH,dH=eo.setRow w0 #[x3,x5,x7,cp,dz,gy]->
 R (Value.agg #[x3,x5,x7,cp,dz,gy]) dH)/\(∀eY,eY=eo.setRow w0 #[x3,x5,x7,cp,dz,gy]->
 R (Value.agg #[x3,x5,x7,cp,dz,gy]) eY))))))))))))))))):ah 128 #[.agg #[aA,aq,au],a1,a2] w R:=
 cq bT Tryz.func128 h
theorem Ve.vc {bJ:Bool} (h:
 ∀w0,w0=w.alloc (.cells #[aA,aq,au,aT,aU,aX,bN,bI,bJ] 75)->
 ∀w1,w1=w0.alloc (.cells #[ab,ab,ab] 28)->
 ah 86 #[(aj (bI*4)),(5:Int)] w1.drew (Ri λx3 w2=>K2 w w0 w1.drew w2 (
 ag w2 (some ⟨w,7,none⟩) 0 [bI]/\ag w2 w 0 [aA,aq,au]/\ah 85 #[.agg #[aA,aq,au],.agg #[ab,x3,ab]] w2 (iM λx5 x6 x7 w4=>K2 w w0 w2 w4 (
 ag w4 (some ⟨w,7,none⟩) 0 [bI]/\∀w8,w8=w4.setRow w0 #[x5,x6,x7]->
 R (Value.agg #[x5,x6,x7]) w8))))):ah 31 #[.agg #[aA,aq,au,aT,aU,aX,bN,bI,bJ]] w R:=
 cq bT Tryz.func31 h
theorem Vf.vc {bJ:Bool} (h:
 ∀w0,w0=w.alloc (.cells #[aA,aq,au,aT,aU,aX,bN,bI,bJ] 75)->
 ∀w1,w1=w0.alloc (.cells #[ab,ab,ab,ab,ab,ab] 107)->
 ah 128 #[.agg #[aA,aq,au],bN,bI] w1 (vy λx3 x4 x5 x6 x7 x8 w2=>K2 w w0 w1 w2 (
 ∀w9,w9=w2.setRow w0 #[x3,x4,x5,x6,x7,x8]->
 R (Value.agg #[x3,x4,x5,x6,x7,x8]) w9))):ah 70 #[.agg #[aA,aq,au,aT,aU,aX,bN,bI,bJ]] w R:=
 cq bT Tryz.func70 h
theorem I9.vc (h:
 ∀w0,w0=w.alloc (.cells #[aA,aq,au] 28)->
 ∃I1:Nat->Int->World->Prop,
 (∃n2,aO [aA,aq,au]/\I1 n2 (0) w0)/\
 ∀(n2:Nat) (us3:Nat->Value) (x4:Int) (w5:World),I1 n2 x4 w5->
 Br (x4<3)
 (ah 180 #[.agg #[aA,aq,au],x4] w5 (Ri λx8 w7=>Kp w w5 w7/\
 Br (decide (x8<(aj (0-a1))))
 (R false w7)
 (Br (x8>a1)
 (R false w7)
 (∃n6,n6<n2/\aO [aA,aq,au]/\I1 n6 ((aj (x4+1))) w7))))
 (R true w5)):ah 157 #[.agg #[aA,aq,au],a1] w R:=
 cq ⟨[(2,⟨[(5,.int .i64)],[],[]⟩)],[],[]⟩ Tryz.func157 h
theorem UG.vc {bJ:Bool} (h:
 ∀w0,w0=w.alloc (.cells #[aA,aq,au,aT,aU,aX,bN,bI,bJ] 75)->
 ah 157 #[.agg #[aA,aq,au],(70368744177664:Int)] w0 (Rb λb2 w1=>Kp w w0 w1/\
 ah 157 #[.agg #[aT,aU,aX],(262144:Int)] w1 (Rb λb4 w3=>Kp w w1 w3/\
 Br b2
 (Br b4
 (Br (bN>=2)
 (Br (bN<=131072)
 (Br (bI>=1)
 (R (Value.bool (decide (bI<=262144))) w3)
 (R false w3))
 (R false w3))
 (R false w3))
 (R false w3))
 (R false w3)))):ah 106 #[.agg #[aA,aq,au,aT,aU,aX,bN,bI,bJ]] w R:=
 cq bT Tryz.func106 h
theorem VA.vc (h:
 ∀w0,w0=w.alloc (.cells #[aA,aq,au] 41)->
 ∀w1,w1=w0.alloc (.cells #[ab,ab,ab] 41)->
 ∀w2,w2=w1.setRow w0 #[.int .i64 (if 2147483648<(if (-2147483648)>aA then (-2147483648) else aA) then 2147483648 else (if (-2147483648)>aA then (-2147483648) else aA)),.int .i64 (if 2147483648<(if (-2147483648)>aq then (-2147483648) else aq) then 2147483648 else (if (-2147483648)>aq then (-2147483648) else aq)),.int .i64 (if 2147483648<(if (-2147483648)>au then (-2147483648) else au) then 2147483648 else (if (-2147483648)>au then (-2147483648) else au))]->
 R (Value.agg #[.int .i64 (if 2147483648<(if (-2147483648)>aA then (-2147483648) else aA) then 2147483648 else (if (-2147483648)>aA then (-2147483648) else aA)),.int .i64 (if 2147483648<(if (-2147483648)>aq then (-2147483648) else aq) then 2147483648 else (if (-2147483648)>aq then (-2147483648) else aq)),.int .i64 (if 2147483648<(if (-2147483648)>au then (-2147483648) else au) then 2147483648 else (if (-2147483648)>au then (-2147483648) else au))]) w2):ah 160 #[.agg #[aA,aq,au]] w R:=
 cq bT Tryz.func160 h
theorem QA.vc (h:
 ∀w0,w0=w.alloc (.cells #[aA,aq,au] 41)->
 ∀w1,w1=w0.alloc (.cells #[ab,ab,ab,ab,ab,ab,ab,ab,ab,ab,ab,ab,ab,ab,ab,ab,ab,ab] 186)->
 ∀w2,w2=w1.alloc (.cells #[ab,ab,ab,ab,ab,ab,ab,ab,ab,ab,ab,ab,ab,ab,ab,ab,ab,ab] 186)->
 ∃I3:Nat->Int->World->Prop,
 (∃n4,aO [aA,aq,au]/\I3 n4 (0) w2)/\
 ∀(n4:Nat) (us5:Nat->Value) (x6:Int) (w7:World),I3 n4 x6 w7->
 Br (x6<6)
 (ah 160 #[.agg #[aA,aq,au]] w7 (iM λbj bz bU w9=>Kp w w7 w9/\
 ∀bF,bF=w9.alloc (.cells #[ab,ab,ab] 41)->
 ∀bK,bK=bF.setRow w9 #[bj,bz,bU]->
 Br (((aj (Int.tdiv x6 2)):Int)==0)
 (∀dY,dY=bK.setRow w9 #[(aj (bj+(aj ((aj (2*(Int.tmod x6 2)))-1)))),bz,bU]->
 Br (((aj (Int.tdiv x6 2)):Int)==1)
 (∀cB,cB=dY.setRow w9 #[(aj (bj+(aj ((aj (2*(Int.tmod x6 2)))-1)))),(aj (bz+(aj ((aj (2*(Int.tmod x6 2)))-1)))),bU]->
 Br (((aj (Int.tdiv x6 2)):Int)==2)
 (∀cE,cE=cB.setRow w9 #[(aj (bj+(aj ((aj (2*(Int.tmod x6 2)))-1)))),(aj (bz+(aj ((aj (2*(Int.tmod x6 2)))-1)))),(aj (bU+(aj ((aj (2*(Int.tmod x6 2)))-1))))]->
 ah 160 #[.agg #[(aj (bj+(aj ((aj (2*(Int.tmod x6 2)))-1)))),(aj (bz+(aj ((aj (2*(Int.tmod x6 2)))-1)))),(aj (bU+(aj ((aj (2*(Int.tmod x6 2)))-1))))]] cE (iM λcr cZ dm dA=>K2 w w9 cE dA (
 (0:Int)<=x6/\x6<((6:Nat):Int)/\(true=true/\Wr dA (ae (some ⟨w1,0,none⟩) ((x6:Int).toNat*3)) 3)/\bC (ae (some ⟨w1,0,none⟩) ((x6:Int).toNat*3))≠some w.heap.size/\bC (ae (some ⟨w1,0,none⟩) ((x6:Int).toNat*3))≠some w9.heap.size/\(∀cL,cL=aG dA (ae (some ⟨w1,0,none⟩) ((x6:Int).toNat*3)) [cr,cZ,dm]->
 ∃n8,n8<n4/\aO [aA,aq,au]/\I3 n8 ((aj (x6+1))) cL))))
 (ah 160 #[.agg #[(aj (bj+(aj ((aj (2*(Int.tmod x6 2)))-1)))),(aj (bz+(aj ((aj (2*(Int.tmod x6 2)))-1)))),bU]] cB (iM λeH dQ fk dT=>K2 w w9 cB dT (
 (0:Int)<=x6/\x6<((6:Nat):Int)/\(true=true/\Wr dT (ae (some ⟨w1,0,none⟩) ((x6:Int).toNat*3)) 3)/\bC (ae (some ⟨w1,0,none⟩) ((x6:Int).toNat*3))≠some w.heap.size/\bC (ae (some ⟨w1,0,none⟩) ((x6:Int).toNat*3))≠some w9.heap.size/\(∀eo,eo=aG dT (ae (some ⟨w1,0,none⟩) ((x6:Int).toNat*3)) [eH,dQ,fk]->
 ∃n8,n8<n4/\aO [aA,aq,au]/\I3 n8 ((aj (x6+1))) eo)))))
 (Br (((aj (Int.tdiv x6 2)):Int)==2)
 (∀gn,gn=dY.setRow w9 #[(aj (bj+(aj ((aj (2*(Int.tmod x6 2)))-1)))),bz,(aj (bU+(aj ((aj (2*(Int.tmod x6 2)))-1))))]->
 ah 160 #[.agg #[(aj (bj+(aj ((aj (2*(Int.tmod x6 2)))-1)))),bz,(aj (bU+(aj ((aj (2*(Int.tmod x6 2)))-1))))]] gn (iM λiK gI gQ dH=>K2 w w9 gn dH (
 (0:Int)<=x6/\x6<((6:Nat):Int)/\(true=true/\Wr dH (ae (some ⟨w1,0,none⟩) ((x6:Int).toNat*3)) 3)/\bC (ae (some ⟨w1,0,none⟩) ((x6:Int).toNat*3))≠some w.heap.size/\bC (ae (some ⟨w1,0,none⟩) ((x6:Int).toNat*3))≠some w9.heap.size/\(∀ej,ej=aG dH (ae (some ⟨w1,0,none⟩) ((x6:Int).toNat*3)) [iK,gI,gQ]->
 ∃n8,n8<n4/\aO [aA,aq,au]/\I3 n8 ((aj (x6+1))) ej))))
 (ah 160 #[.agg #[(aj (bj+(aj ((aj (2*(Int.tmod x6 2)))-1)))),bz,bU]] dY (iM λjX m4 gu iL=>K2 w w9 dY iL (
 (0:Int)<=x6/\x6<((6:Nat):Int)/\(true=true/\Wr iL (ae (some ⟨w1,0,none⟩) ((x6:Int).toNat*3)) 3)/\bC (ae (some ⟨w1,0,none⟩) ((x6:Int).toNat*3))≠some w.heap.size/\bC (ae (some ⟨w1,0,none⟩) ((x6:Int).toNat*3))≠some w9.heap.size/\(∀mX,mX=aG iL (ae (some ⟨w1,0,none⟩) ((x6:Int).toNat*3)) [jX,m4,gu]->
 ∃n8,n8<n4/\aO [aA,aq,au]/\I3 n8 ((aj (x6+1))) mX))))))
 (Br (((aj (Int.tdiv x6 2)):Int)==1)
 (∀jD,jD=bK.setRow w9 #[bj,(aj (bz+(aj ((aj (2*(Int.tmod x6 2)))-1)))),bU]->
 Br (((aj (Int.tdiv x6 2)):Int)==2)
 (∀ik,ik=jD.setRow w9 #[bj,(aj (bz+(aj ((aj (2*(Int.tmod x6 2)))-1)))),(aj (bU+(aj ((aj (2*(Int.tmod x6 2)))-1))))]->
 ah 160 #[.agg #[bj,(aj (bz+(aj ((aj (2*(Int.tmod x6 2)))-1)))),(aj (bU+(aj ((aj (2*(Int.tmod x6 2)))-1))))]] ik (iM λlZ pj kD jm=>K2 w w9 ik jm (
 (0:Int)<=x6/\x6<((6:Nat):Int)/\(true=true/\Wr jm (ae (some ⟨w1,0,none⟩) ((x6:Int).toNat*3)) 3)/\bC (ae (some ⟨w1,0,none⟩) ((x6:Int).toNat*3))≠some w.heap.size/\bC (ae (some ⟨w1,0,none⟩) ((x6:Int).toNat*3))≠some w9.heap.size/\(∀yN,yN=aG jm (ae (some ⟨w1,0,none⟩) ((x6:Int).toNat*3)) [lZ,pj,kD]->
 ∃n8,n8<n4/\aO [aA,aq,au]/\I3 n8 ((aj (x6+1))) yN))))
 (ah 160 #[.agg #[bj,(aj (bz+(aj ((aj (2*(Int.tmod x6 2)))-1)))),bU]] jD (iM λrV uS Cc m7=>K2 w w9 jD m7 (
 (0:Int)<=x6/\x6<((6:Nat):Int)/\(true=true/\Wr m7 (ae (some ⟨w1,0,none⟩) ((x6:Int).toNat*3)) 3)/\bC (ae (some ⟨w1,0,none⟩) ((x6:Int).toNat*3))≠some w.heap.size/\bC (ae (some ⟨w1,0,none⟩) ((x6:Int).toNat*3))≠some w9.heap.size/\(∀kM,kM=aG m7 (ae (some ⟨w1,0,none⟩) ((x6:Int).toNat*3)) [rV,uS,Cc]->
 ∃n8,n8<n4/\aO [aA,aq,au]/\I3 n8 ((aj (x6+1))) kM)))))
 (Br (((aj (Int.tdiv x6 2)):Int)==2)
 (∀wR,wR=bK.setRow w9 #[bj,bz,(aj (bU+(aj ((aj (2*(Int.tmod x6 2)))-1))))]->
 ah 160 #[.agg #[bj,bz,(aj (bU+(aj ((aj (2*(Int.tmod x6 2)))-1))))]] wR (iM λim ou ky Ny=>K2 w w9 wR Ny (
 (0:Int)<=x6/\x6<((6:Nat):Int)/\(true=true/\Wr Ny (ae (some ⟨w1,0,none⟩) ((x6:Int).toNat*3)) 3)/\bC (ae (some ⟨w1,0,none⟩) ((x6:Int).toNat*3))≠some w.heap.size/\bC (ae (some ⟨w1,0,none⟩) ((x6:Int).toNat*3))≠some w9.heap.size/\(∀ov,ov=aG Ny (ae (some ⟨w1,0,none⟩) ((x6:Int).toNat*3)) [im,ou,ky]->
 ∃n8,n8<n4/\aO [aA,aq,au]/\I3 n8 ((aj (x6+1))) ov))))
 (ah 160 #[.agg #[bj,bz,bU]] bK (iM λtV lf jc l8=>K2 w w9 bK l8 (
 (0:Int)<=x6/\x6<((6:Nat):Int)/\(true=true/\Wr l8 (ae (some ⟨w1,0,none⟩) ((x6:Int).toNat*3)) 3)/\bC (ae (some ⟨w1,0,none⟩) ((x6:Int).toNat*3))≠some w.heap.size/\bC (ae (some ⟨w1,0,none⟩) ((x6:Int).toNat*3))≠some w9.heap.size/\(∀mY,mY=aG l8 (ae (some ⟨w1,0,none⟩) ((x6:Int).toNat*3)) [tV,lf,jc]->
 ∃n8,n8<n4/\aO [aA,aq,au]/\I3 n8 ((aj (x6+1))) mY))))))))
 (∃(mZ sb sR qp lh od nt pz oC m8 nc mH pB tX wE FC wS wF:Int),ag w7 (some ⟨w1,0,none⟩) 0 [mZ,sb,sR,qp,lh,od,nt,pz,oC,m8,nc,mH,pB,tX,wE,FC,wS,wF]/\
 Wt w7 ⟨w0,0,none⟩ 18/\Nb w0 w/\(∀r6,r6=aG w7 (some ⟨w0,0,none⟩) [mZ,sb,sR,qp,lh,od,nt,pz,oC,m8,nc,mH,pB,tX,wE,FC,wS,wF]->
 ∃(uA sH uT yI Ay J8 qi x88 H3 Sx Ff B9 sJ V2 CE CF CG Kb:Int),ag r6 (some ⟨w0,0,none⟩) 0 [uA,sH,uT,yI,Ay,J8,qi,x88,H3,Sx,Ff,B9,sJ,V2,CE,CF,CG,Kb]/\
 R (Value.agg #[uA,sH,uT,yI,Ay,J8,qi,x88,H3,Sx,Ff,B9,sJ,V2,CE,CF,CG,Kb]) r6))):ah 112 #[.agg #[aA,aq,au]] w R:=
 cq ⟨[(3,⟨[(4,.int .i64)],[],[]⟩)],[],[]⟩ Tryz.func112 h
theorem VB.vc (h:
 ∀w0,w0=w.alloc (.cells #[aA,aq,au] 41)->
 ∀w1,w1=w0.alloc (.cells #[ab,ab,ab,ab,ab,ab] 107)->
 ah 160 #[.agg #[aA,aq,au]] w1 (iM λx3 x4 x5 w2=>K2 w w0 w1 w2 (
 ∀w6,w6=w2.alloc (.cells #[ab,ab,ab] 41)->
 ∀w7,w7=w6.setRow w2 #[x3,x4,x5]->
 ∀w8,w8=w7.alloc (.cells #[ab,ab,ab] 28)->
 ∀w9,w9=w8.setRow w7 #[(aj (x3*65536)),(aj (x4*65536)),(aj (x5*65536))]->
 ah 85 #[.agg #[(aj (x3*65536)),(aj (x4*65536)),(aj (x5*65536))],.agg #[(65536:Int),(65536:Int),(65536:Int)]] w9.drew (iM λbz bU cc bD=>K4 w w0 w2 w7 w9.drew bD (
 ag bD (some ⟨w7,0,none⟩) 0 [(aj (x3*65536)),(aj (x4*65536)),(aj (x5*65536))]/\∀bK,bK=bD.setRow w0 #[(aj (x3*65536)),(aj (x4*65536)),(aj (x5*65536)),bz,bU,cc]->
 R (Value.agg #[(aj (x3*65536)),(aj (x4*65536)),(aj (x5*65536)),bz,bU,cc]) bK))))):ah 126 #[.agg #[aA,aq,au]] w R:=
 cq bT Tryz.func126 h
theorem Ml.vc (h:
 ∀w0,w0=w.alloc (.cells #[aA,aq,au,aT,aU,aX] 107)->
 ∀w1,w1=w0.alloc (.cells #[ak,ao,aw,bw,bR,bP] 107)->
 ah 179 #[.agg #[aA,aq,au,aT,aU,aX],.agg #[ak,ao,aw,bw,bR,bP]] w1 (Rb λb3 w2=>K2 w w0 w1 w2 (
 R b3 w2))):ah 125 #[.agg #[aA,aq,au,aT,aU,aX],.agg #[ak,ao,aw,bw,bR,bP]] w R:=
 cq bT Tryz.func125 h
theorem Qk.vc (h:
 ∀w0,w0=w.alloc (.cells #[aA,aq,au] 28)->
 ∀w1,w1=w0.alloc (.cells #[ab,ab,ab] 28)->
 ah 10 #[aA,(589825:Int)] w1.drew (Ri λx3 w2=>K2 w w0 w1.drew w2 (
 ag w2 (some ⟨w,2,none⟩) 0 [au]/\ag w2 (some ⟨w,1,none⟩) 0 [aq]/\ah 10 #[aq,(589825:Int)] w2 (Ri λx5 w4=>K2 w w0 w2 w4 (
 ag w4 (some ⟨w,2,none⟩) 0 [au]/\ah 10 #[au,(589825:Int)] w4 (Ri λx7 w6=>K2 w w0 w4 w6 (
 ∀w8,w8=w6.setRow w0 #[(aj (196608+x3)),(aj (589824+x5)),(aj (196608+x7))]->
 R (Value.agg #[(aj (196608+x3)),(aj (589824+x5)),(aj (196608+x7))]) w8))))))):ah 52 #[.agg #[aA,aq,au]] w R:=
 cq bT Tryz.func52 h
theorem Mn.vc (h:
 Br (a0<0)
 (R a0 w)
 (ah 110 #[a0] w (λe w0=>∃(x1:Int),e=x1/\
 R x1 w0))):ah 56 #[a0] w R:=
 cq bT Tryz.func56 h
theorem Jy.vc (h:
 Br (a0<0)
 (∃I0:Nat->Int->Sl->Int->World->Prop,
 (∃n1,I0 n1 (0) ⟨none,0,0⟩ (1099511627776) w)/\
 ∀(n1:Nat) (wM:Nat->Value) (x3:Int) (s4:Sl) (x5:Int) (w6:World),I0 n1 x3 s4 x5 w6->
 Br (x3<6)
 (aP (JX x5) (∀w8,w8=w6.alloc (.cells #[.int .u8 (eV (Int.tmod (aj (Int.tdiv (aj (a0+281474976710656)) x5)) 256))] 5)->
 ba 1 1 w8 s4 1 [.int .u8 (eV (Int.tmod (aj (Int.tdiv (aj (a0+281474976710656)) x5)) 256))]/\∀(s9:Sl) (bD:World),aV 5 1 w8 s4 1 [.int .u8 (eV (Int.tmod (aj (Int.tdiv (aj (a0+281474976710656)) x5)) 256))] s9 bD->Kp w6 w8 bD/\
 ∃n7,n7<n1/\I0 n7 ((aj (x3+1))) s9 ((aj (Int.tdiv x5 256))) bD))
 (R s4 w6))
 (∃I11:Nat->Int->Sl->Int->World->Prop,
 (∃JP,I11 JP (0) ⟨none,0,0⟩ (1099511627776) w)/\
 ∀(JP:Nat) (asC:Nat->Value) (bW:Int) (lg:Sl) (cp:Int) (cE:World),I11 JP bW lg cp cE->
 Br (bW<6)
 (aP (JX cp) (∀fy,fy=cE.alloc (.cells #[.int .u8 (eV (Int.tmod (aj (Int.tdiv a0 cp)) 256))] 5)->
 ba 1 1 fy lg 1 [.int .u8 (eV (Int.tmod (aj (Int.tdiv a0 cp)) 256))]/\∀(uB:Sl) (ed:World),aV 5 1 fy lg 1 [.int .u8 (eV (Int.tmod (aj (Int.tdiv a0 cp)) 256))] uB ed->Kp cE fy ed/\
 ∃n18,n18<JP/\I11 n18 ((aj (bW+1))) uB ((aj (Int.tdiv cp 256))) ed))
 (R lg cE))):ah 89 #[a0] w R:=
 cq ⟨[(6,⟨[(5,.int .i64),(3,.slice),(4,.int .i64)],[],[]⟩),(6,⟨[(5,.int .i64),(3,.slice),(4,.int .i64)],[],[]⟩)],[],[]⟩ Tryz.func89 h
theorem Gn.vc {a0:Sl} (h:
 ∃I0:Nat->Int->Sl->World->Prop,
 (∃n1,I0 n1 (0) ⟨none,0,0⟩ w)/\
 ∀(n1:Nat) (wM:Nat->Value) (x3:Int) (s4:Sl) (w5:World),I0 n1 x3 s4 w5->
 Br (decide (x3<((a0.n:Nat):Int)))
 (ee a0.a x3 a0.n/\∃(x7:Int),ld w5 (ae a0.a ((x3:Int).toNat*1))=some (.int .i64 x7)/\
 ah 89 #[x7] w5 (λe w8=>∃(s9:Sl),e=s9/\
 ∃l10:LV,Rd w8 s9.a l10/\ba 1 1 w8 s4 s9.n l10/\∀(Az:Sl) (cM:World),aV 5 1 w8 s4 s9.n l10 Az cM->
 ∃n6,n6<n1/\I0 n6 ((aj (x3+1))) Az cM))
 (R s4 w5)):ah 90 #[a0] w R:=
 cq ⟨[(3,⟨[(4,.int .i64),(3,.slice)],[],[]⟩)],[],[]⟩ Tryz.func90 h
theorem ME.vc {aq:Sl} {au:Sl} (h:
 ∀w0,w0=w.alloc (.cells #[aA,aq,au] 86)->
 ah 89 #[aA] w0 (Rs λs2 w1=>Kp w w0 w1/\
 ∀w3,w3=w1.alloc (.cells #[.int .u8 (eV ((aq.n:Nat):Int))] 5)->
 ba 1 1 w3 s2 1 [.int .u8 (eV ((aq.n:Nat):Int))]/\∀(s4:Sl) (w5:World),aV 5 1 w3 s2 1 [.int .u8 (eV ((aq.n:Nat):Int))] s4 w5->K2 w w1 w3 w5 (
 ∃I6:Nat->Int->Sl->World->Prop,
 (∃n7,aO [aA,aq,au]/\aO [.int .u8 (eV ((aq.n:Nat):Int))]/\I6 n7 (0) s4 w5)/\
 ∀(n7:Nat) (us8:Nat->Value) (x9:Int) (wT:Sl) (aW:World),I6 n7 x9 wT aW->
 Br (decide (x9<((aq.n:Nat):Int)))
 (ee aq.a x9 aq.n/\aP (dB (ae aq.a ((x9:Int).toNat*10))) (∃(cc bW cm cp cT cg cr cZ:Int) (J3:Bool),ag aW (ae (ae aq.a ((x9:Int).toNat*10)) 1) 0 [cc,bW,cm,cp,cT,cg,cr,cZ,J3]/\
 ∀cL,cL=aW.alloc (.cells #[ab,ab,ab,ab,ab,ab,ab,ab,false] 75)->
 ∀dT,dT=cL.setRow aW #[cc,bW,cm,cp,cT,cg,cr,cZ,J3]->
 ee aq.a x9 aq.n/\aP (dB (ae aq.a ((x9:Int).toNat*10))) (∃(eH:Int),ld dT (ae (ae aq.a ((x9:Int).toNat*10)) 0)=some (.int .i64 eH)/\
 ∀cP,cP=dT.alloc (.cells #[.int .u8 (eV eH)] 5)->
 ba 1 1 cP wT 1 [.int .u8 (eV eH)]/\∀(N5:Sl) (eo:World),aV 5 1 cP wT 1 [.int .u8 (eV eH)] N5 eo->K4 w w1 aW dT cP eo (
 ∀gn,gn=eo.alloc (.cells #[cc,bW,cm,cp,cT,cg,cr,cZ] 3)->
 ah 90 #[.slice (some ⟨eo,0,none⟩) 8 8] gn (Rs λsS dH=>K4 w w1 aW dT gn dH (
 ∃l31:LV,Rd dH sS.a l31/\ba 1 1 dH N5 sS.n l31/\∀(oB:Sl) (ej:World),aV 5 1 dH N5 sS.n l31 oB ej->K4 w w1 aW dT dH ej (
 Br J3
 (∀iL,iL=ej.alloc (.cells #[.int .u8 (eV 1)] 5)->
 ba 1 1 iL oB 1 [.int .u8 (eV 1)]/\∀(s35:Sl) (jl:World),aV 5 1 iL oB 1 [.int .u8 (eV 1)] s35 jl->K5 w w1 aW dT ej iL jl (
 ∃JP,JP<n7/\aO [aA,aq,au]/\aO [.int .u8 (eV ((aq.n:Nat):Int))]/\I6 JP ((aj (x9+1))) s35 jl))
 (∀gJ,gJ=ej.alloc (.cells #[.int .u8 (eV 0)] 5)->
 ba 1 1 gJ oB 1 [.int .u8 (eV 0)]/\∀(s38:Sl) (jD:World),aV 5 1 gJ oB 1 [.int .u8 (eV 0)] s38 jD->K5 w w1 aW dT ej gJ jD (
 ∃JP,JP<n7/\aO [aA,aq,au]/\aO [.int .u8 (eV ((aq.n:Nat):Int))]/\I6 JP ((aj (x9+1))) s38 jD)))))))))
 (∀ik,ik=aW.alloc (.cells #[.int .u8 (eV (aj (Int.tdiv (if 2000<((au.n:Nat):Int) then 2000 else ((au.n:Nat):Int)) 256))),.int .u8 (eV (Int.tmod (if 2000<((au.n:Nat):Int) then 2000 else ((au.n:Nat):Int)) 256))] 5)->
 ba 1 1 ik wT 2 [.int .u8 (eV (aj (Int.tdiv (if 2000<((au.n:Nat):Int) then 2000 else ((au.n:Nat):Int)) 256))),.int .u8 (eV (Int.tmod (if 2000<((au.n:Nat):Int) then 2000 else ((au.n:Nat):Int)) 256))]/\∀(J2:Sl) (jI:World),aV 5 1 ik wT 2 [.int .u8 (eV (aj (Int.tdiv (if 2000<((au.n:Nat):Int) then 2000 else ((au.n:Nat):Int)) 256))),.int .u8 (eV (Int.tmod (if 2000<((au.n:Nat):Int) then 2000 else ((au.n:Nat):Int)) 256))] J2 jI->K3 w w1 aW ik jI (
 ∃I43:Nat->Int->Sl->World->Prop,
 (∃n44,aO [aA,aq,au]/\aO [.int .u8 (eV ((aq.n:Nat):Int))]/\aO [.int .u8 (eV (aj (Int.tdiv (if 2000<((au.n:Nat):Int) then 2000 else ((au.n:Nat):Int)) 256))),.int .u8 (eV (Int.tmod (if 2000<((au.n:Nat):Int) then 2000 else ((au.n:Nat):Int)) 256))]/\I43 n44 (0) J2 jI)/\
 ∀(n44:Nat) (azw:Nat->Value) (gM:Int) (vl:Sl) (fG:World),I43 n44 gM vl fG->
 Br (decide (gM<(if 2000<((au.n:Nat):Int) then 2000 else ((au.n:Nat):Int))))
 (ee au.a gM au.n/\aP (dB (ae au.a ((gM:Int).toNat*4))) (∃(sa lr kE:Int),ag fG (ae (ae au.a ((gM:Int).toNat*4)) 1) 0 [sa,lr,kE]/\
 ∀SU,SU=fG.alloc (.cells #[ab,ab,ab] 41)->
 ∀Bs,Bs=SU.setRow fG #[sa,lr,kE]->
 ee au.a gM au.n/\aP (dB (ae au.a ((gM:Int).toNat*4))) (∃(ky:Int),ld Bs.drew (ae (ae au.a ((gM:Int).toNat*4)) 0)=some (.int .i64 ky)/\
 ∀ov,ov=Bs.drew.alloc (.cells #[ky,sa,lr,kE] 3)->
 ah 90 #[.slice (some ⟨Bs.drew.heap.size,0,none⟩) 4 4] ov (Rs λmc l8=>K4 w w1 aW fG ov l8 (
 ag l8 (some ⟨w,2,none⟩) 0 [au]/\∃l59:LV,Rd l8 mc.a l59/\ba 1 1 l8 vl mc.n l59/\∀(Rp:Sl) (mY:World),aV 5 1 l8 vl mc.n l59 Rp mY->K4 w w1 aW fG l8 mY (
 ag mY (some ⟨w,2,none⟩) 0 [au]/\∃n49,n49<n44/\aO [aA,aq,au]/\aO [.int .u8 (eV ((aq.n:Nat):Int))]/\aO [.int .u8 (eV (aj (Int.tdiv (if 2000<((au.n:Nat):Int) then 2000 else ((au.n:Nat):Int)) 256))),.int .u8 (eV (Int.tmod (if 2000<((au.n:Nat):Int) then 2000 else ((au.n:Nat):Int)) 256))]/\I43 n49 ((aj (gM+1))) Rp mY))))))
 (R vl fG)))))):ah 34 #[.agg #[aA,aq,au]] w R:=
 cq ⟨[(16,⟨[(8,.int .i64),(3,.slice)],[],[]⟩),(4,⟨[(4,.int .i64),(3,.slice)],[],[]⟩)],[],[]⟩ Tryz.func34 h
theorem sG.vc {c0:Addr} (h:
 Br (!((none:Option Addr)).isNone)
 (aP (dB (none:Option Addr)) (aP (dB (none:Option Addr)) (∃(x0 x1 x2 x3 x4 x5 x6 x7:Int) (b8:Bool),ag w.drew (ae (none:Option Addr) 0) 0 [x0,x1,x2,x3,x4,x5,x6,x7,b8]/\
 ∃(x9 bj bz bU cc bW:Int),ag w.drew (some c0) 0 [x9,bj,bz,bU,cc,bW]/\
 ah 48 #[.agg #[x0,x1,x2,x3,x4,x5,x6,x7,b8]] w.drew (λe dY=>∃(cp cT cg cr cZ dm:Int),e=Value.agg #[cp,cT,cg,cr,cZ,dm]/\
 ag dY (some c0) 0 [x9,bj,bz,bU,cc,bW]/\ah 124 #[.agg #[cp,cT,cg,cr,cZ,dm],.agg #[x9,bj,bz,bU,cc,bW]] dY (λe cL=>∃(H2:Bool),e=H2/\
 R H2 cL)))))
 (R false w.drew)):ah 123 #[.pointer (none:Option Addr),c0] w R:=
 cq bT Tryz.func123 h
end Go.Proofs.YtkkkfkopcfdmaaaGreatDoor
