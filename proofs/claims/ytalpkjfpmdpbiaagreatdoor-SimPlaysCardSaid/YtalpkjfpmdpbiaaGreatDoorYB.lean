import Derived.Test.YtalpkjfpmdpbiaaGreatDoorGF
import Derived.Test.YtalpkjfpmdpbiaaGreatDoorYA
import Derived.Test.YtalpkjfpmdpbiaaGreatDoorWA
set_option linter.all false
namespace Go.Proofs.YtalpkjfpmdpbiaaGreatDoor
open Go Go.Vc Go.RowKit Go.Proofs
set_option maxRecDepth 100000
set_option maxHeartbeats 8000000
set_option linter.unusedVariables false
variable {R:Ending->World->Prop} {w:World} {a0 a1 a2 a3 a4 a5 a6 a7 a8 a9 aq ar av aI aJ aK aL aH bO eE ao ak aw dB gn gB gC gD fM gE db dR dO ln lO nv ym yn yp yq yt yu yw yx yy yz yA yB yC yD:Int}
def GN.vc{a0:Value}(h:
 Aw w #[ao,ak,aw] 23 λw0=>
 ah 186 #[a0,.agg #[ao,ak,aw]] w0 (λe w1=>∃(x2:Int)(b3:Bool),e=Value.tuple #[x2,b3]/\Kp w w0 w1/\
 ∃J4:World->Prop,
 (Br (a2>0)
 (Br (!b3)
 (Aw w1 #[ao,ak,aw,af] 71 λw5=>
 R (Value.slice (bu w1) 1 1) w5)
 (Br (a2>0)
 (Br (x2 !=a2)
 (ah 187 #[x2] w1.drew (Ri λx7 w6=>Kp w w1.drew w6/\
 au w6 w 0 [ao,ak,aw]/\Aw w6 #[ao,ak,aw,x7] 71 λw8=>
 R (Value.slice (bu w6) 1 1) w8))
 (aP [ao,ak,aw]/\J4 w1))
 (aP [ao,ak,aw]/\J4 w1)))
 (Br (a2>0)
 (Br (x2 !=a2)
 (ah 187 #[x2] w1.drew (Ri λbq w9=>Kp w w1.drew w9/\
 au w9 w 0 [ao,ak,aw]/\Aw w9 #[ao,ak,aw,bq] 71 λcB=>
 R (Value.slice (bu w9) 1 1) cB))
 (aP [ao,ak,aw]/\J4 w1))
 (aP [ao,ak,aw]/\J4 w1)))/\
 ∀aaE:Nat->Value,∀(cC:World),J4 cC->
 ah 93 #[.agg #[ao,ak,aw]] cC (λe bY=>∃(bw cQ cR cf cK du fT eK dc de da dZ dp eS iO oT iN jB:Int),e=Value.agg #[bw,cQ,cR,cf,cK,du,fT,eK,dc,de,da,dZ,dp,eS,iO,oT,iN,jB]/\Kp w cC bY/\
 ((0:Int)<=2/\(2:Int)<((6:Nat):Int))/\∃(gx gf jy:Int),(([bw,cQ,cR,cf,cK,du,fT,eK,dc,de,da,dZ,dp,eS,iO,oT,iN,jB]:LV).drop ((2:Int).toNat*3)).take 3=[.int .i64 gx,.int .i64 gf,.int .i64 jy]/\
 Aw bY #[af,af,af] 23 λnC=>
 Sw nC bY #[gx,gf,jy] λhX=>
 ∃J38:World->Prop,
 (dJ Tryz.prog a0 [.agg #[gx,gf,jy]] hX (Ri λnG iU=>K2 w bY hX iU (
 Br (nG==0)
 (ah 187 #[(1:Int)] iU.drew (Ri λlU kE=>K2 w bY iU.drew kE (
 au kE (bu bY) 0 [gx,gf,jy]/\Aw kE #[gx,gf,jy,lU] 71 λql=>
 R (Value.slice (bu kE) 1 1) ql)))
 (ah 134 #[nG] iU (Rb λb45 jA=>K2 w bY iU jA (
 Br b45
 (R (Value.slice none 0 0) jA)
 (Br (a2>=7)
 (R (Value.slice none 0 0) jA)
 (aP [ao,ak,aw]/\aP [gx,gf,jy]/\J38 jA))))))))/\
 ∀arJ:Nat->Value,∀(oV:World),J38 oV->
 ah 188 #[.agg #[ao,ak,aw]] oV (Rs λyX uK=>K2 w bY oV uK (
 ∃YP:Nat->Int->Sl->World->Prop,
 (∃Qc,aP [ao,ak,aw]/\aP [gx,gf,jy]/\YP Qc (0) ⟨none,0,0⟩ uK)/\
 ∀(Qc:Nat)(ais:Nat->Value)(uO:Int)(BP:Sl)(za:World),YP Qc uO BP za->
 Br (decide (uO<((yX.n:Nat):Int)))
 (cA yX.a uO yX.n/\∃(vb oW xy:Int),au za (ae yX.a ((uO:Int).toNat*3)) 0 [vb,oW,xy]/\
 Aw za #[af,af,af] 23 λBQ=>
 Sw BQ za #[vb,oW,xy] λyY=>
 dJ Tryz.prog a0 [.agg #[vb,oW,xy]] yY (Ri λlQ Bi=>K3 w bY za yY Bi (
 Br (lQ==0)
 (ah 187 #[(ai (a2+1))] Bi.drew (Ri λrG Xh=>K3 w bY za Bi.drew Xh (
 au Xh za 0 [vb,oW,xy]/\Aw Xh #[vb,oW,xy,rG] 71 λsI=>
 aF 32 4 sI BP 1 [vb,oW,xy,rG]/\∀(Fv:Sl)(JU:World),aE 71 4 sI BP 1 [vb,oW,xy,rG] Fv JU->K4 w bY za Xh sI JU (
 ∃n56,n56<Qc/\aP [ao,ak,aw]/\aP [gx,gf,jy]/\YP n56 ((ai (uO+1))) Fv JU))))
 (∃n56,n56<Qc/\aP [ao,ak,aw]/\aP [gx,gf,jy]/\YP n56 ((ai (uO+1))) BP Bi))))
 (R BP za)))))):ah 139 #[a0,.agg #[ao,ak,aw],a2] w R:=
 cq ⟨[(14,⟨[(66,.int .i64),(11,.slice)],[],[]⟩)],[(12,⟨[],[],[]⟩),(6,⟨[],[],[]⟩)],[]⟩ Tryz.func139 h
end Go.Proofs.YtalpkjfpmdpbiaaGreatDoor
namespace Go.Proofs.YtalpkjfpmdpbiaaGreatDoor
open Go Go.Vc Go.RowKit Go.Proofs Go.dS Go.bh Go.Code Go.iQ
set_option maxRecDepth 100000
def Xa{E k m n c:Nat}{w w':World}{a:Option Addr}{s':Sl}{xs news:LV}{rows:List (LV)}(h:aE E k w ⟨a,m,c⟩ n news s' w')(hc:c<m+n)(hx:xs.length=m*k)(fq:Rd w a xs)(jx:xs++news=rows.flatten)(hw:∀r ∈ rows,r.length=k)(hl:news.length=n*k):aj w E k w' s' rows/\Ext w w':=by
 cases h with
 |fits hf=>simp only at hf;omega
 |wJ hg eU rest cap e1 e2 e3 e4=>
  have ho:eU=xs:=by
   apply im;intro i;rcases fz i xs.length with hi|hi
   ·have h1:=fq i xs[i] (cy hi);have hi':i<eU.length:=by simp only at e1;omega
    have h2:=e2 i eU[i] (cy hi');rw [h1] at h2;rw [cy hi,cy hi'];exact h2.symm
   ·rw [iq hi,iq (by simp only at e1;omega)]
  subst ho;have Bh:=Row.new w.drew (eU++news++rest) E;refine ⟨aj.gm (ax _) Bh (Nat.le_of_eq e4.symm) e3 ?_ hw,(Ext.dr w).tr (Ext.al _ _)⟩;rw [<-jx];have ed:(eU++news).length=(m+n)*k:=by rw [eP,hx,hl,q9]
  rw [Ie (by simp only;omega),cZ (by simp only;omega)]
def zL(b:Int)(w:World):ah 140 #[b] w λe w'=>e=Value.int .i64 (dy b)/\w'=w:=by
 apply Hg.vc;refine (mY b w).mono ?_;rintro e w0 ⟨rfl,rfl⟩;unfold dy;refine ⟨_,rfl,Br.mk (λh=> ?_) (λh=> ?_)⟩
 ·have h:fu b=false:=by simpa using h
  rw [h,if_neg aC];exact ⟨rfl,rfl⟩
 ·have h:fu b=true:=by simpa using h
  rw [h,if_pos rfl];unfold fu at h;simp only [gr,bA] at h;rw [wI];exact ⟨rfl,rfl⟩
def GO{c:Ce}(h:dH c){n:Ce}(hn:n ∈ aQ c):lY n/\n ∈ iI c:=by
 have:n ∈ iI c:=by
  unfold aQ at hn;unfold iI;simp only [bJ,fY,or_false] at hn ⊢;rcases hn with h|h|h|h
  ·exact .inl h
  ·exact .inr (.inl h)
  ·exact .inr (.inr (.inr (.inr (.inl h))))
  ·exact .inr (.inr (.inr (.inr (.inr h))))
 exact ⟨wQ h this,this⟩
def NC{w:World}{g:Nat}{cs:LV}{τ:TypeId}(hr:Row w g cs τ)(o:Nat){xs:LV}(h:∀i,i<xs.length->cs[o+i]? =xs[i]?):Rd w (lX g o) xs:=λi v hv=>by
 rw [bZ,hr.ld]
 have hi:=(bH.1 hv).1
 rw [h i hi];exact hv
def tB(c:Ce)(hc:dH c)(w:World):ah 188 #[iG c] w λe w'=>∃s:Sl,e=s/\aj w gz 3 w' s ((aQ c).map dn)/\Ext w w':=by
 apply G5.vc;intro w0 e0;have x0:=bo e0;have z0:=dt e0;refine (lu c hc w0).mono ?_;rintro e w1 ⟨rfl,x1⟩;have z1:=x1.size;refine ⟨_,_,_,_,_,_,_,_,_,_,_,_,_,_,_,_,_,_,rfl,x1.heap aa,λdY BU=> ?_⟩;have du:=bo BU;have hr:Row dY w1 [af,af,af,af,af,af,af,af,af,af,af,af,af,af,af,af,af,af] 161:=Row.nw BU;refine ⟨⟨rfl,hr.wr cx⟩,λe=>by
  have:w1.heap.size=w.heap.size:=by simpa [cS] using e
  omega,λef uP=> ?_⟩
 have uP:ef=bc dY (bu w1.heap.size) (L7 c):=uP;rw [hr.bc (vs:=L7 c) cx (L8 c),ox cx] at uP;have mM:Row ef w1 (L7 c) 161:=hr.st uP;have fT:Ext w ef:=(x0.tr (x1.tr du)).ab uP aa;have xd:=Ext.dr ef;have hr3:=mM.ext xd;have x21d:=fT.tr xd;have zz:w1.heap.size<ef.drew.heap.size:=hr3.lt;have ed:(dn ((c.1,c.2.1,c.2.2-1):Ce)++dn (c.1,c.2.1,c.2.2+1)).length=6:=rfl;have h1:One (dn ((c.1,c.2.1,c.2.2-1):Ce)++dn (c.1,c.2.1,c.2.2+1)):=by
  intro v hv;rcases cu.1 hv with hv|hv
  ·exact A4 _ v hv
  ·exact A4 _ v hv
 have ZQ:Rd ef.drew (bu w1.heap.size) (dn ((c.1-1,c.2.1,c.2.2):Ce)++dn (c.1+1,c.2.1,c.2.2)):=NC hr3 0 (λi hi=>by
  have hi:i<6:=hi;have:i=0\/i=1\/i=2\/i=3\/i=4\/i=5:=by omega
  rcases this with rfl|rfl|rfl|rfl|rfl|rfl<;>rfl)
 refine ⟨by decide,by decide,by decide,by decide,by decide,by decide,dn ((c.1,c.2.1,c.2.2-1):Ce)++dn (c.1,c.2.1,c.2.2+1),NC (o:=12) hr3 (λi hi=>by
  have hi:i<6:=hi;have:i=0\/i=1\/i=2\/i=3\/i=4\/i=5:=by omega
  rcases this with rfl|rfl|rfl|rfl|rfl|rfl<;>rfl),⟨λhf=>absurd hf (show ¬(2+2<=2) by decide),λ_=>⟨_,rfl,ZQ⟩,λhg=>⟨growslice_fits hg (show (2+2)*24<=140737488355328 by decide),show ((2+2:Nat):Int)<=9223372036854775807 by decide⟩,rfl,h1⟩,λCx fy aR=> ?_⟩
 obtain ⟨ho,de⟩:=Xa (rows:=(aQ c).map dn) (xs:=dn ((c.1-1,c.2.1,c.2.2):Ce)++dn (c.1+1,c.2.1,c.2.2)) aR (show 2<2+2 by decide) rfl ZQ rfl (by intro r hr;obtain ⟨y,-,rfl⟩:=aS.1 hr;rfl) rfl;exact ⟨de.heap aa,Cx,rfl,ho.low aa,x21d.tr de⟩
def zK(V:Ce->Int):∀(l:List Ce)(m:Int),0<=m/\m<=7->0<=l.foldl (λm n=>if 0<=dy (V n) then min m (dy (V n)) else m) m/\l.foldl (λm n=>if 0<=dy (V n) then min m (dy (V n)) else m) m<=7
 | [],m,h=>h
 |n::l,m,h=>by
  rw [jL]
  refine zK V l _ ?_
  split<;>omega
def P6(c:Ce):((L7 c).drop ((3:Int).toNat*3)).take 3=dn (iw c):=rfl
def Kt{v:Value}{V:Ce->Int}{w:World}(hV:Tl v V w)(c:Ce)(hc:dH c):
  ah 186 #[v,iG c] w λe w'=>e=Value.tuple #[.int .i64 (dq V c).1,.bool (dq V c).2]/\Ext w w':=by
 apply KF.vc;intro w0 e0;have x0:=bo e0;have z0:=dt e0;refine (lu c hc w0).mono ?_;rintro e w1 ⟨rfl,x1⟩;have z1:=x1.size;have oko:lY (iw c):=wQ hc (by simp [iI]);refine ⟨_,_,_,_,_,_,_,_,_,_,_,_,_,_,_,_,_,_,rfl,x1.heap aa,by decide,_,_,_,P6 c,dI ((hV.ext (x0.tr x1)).at oko) ?_⟩;rintro e gp ⟨rfl,dc⟩;have z23:=dc.size;have agi:=x0.tr (x1.tr dc);refine ⟨_,rfl,dc.heap aa,(mY (V (iw c)) gp).mono ?_⟩;rintro e eh ⟨rfl,rfl⟩;unfold dq;refine ⟨_,rfl,rfl,Br.mk (λh=> ?_) (λh=>(tB c hc eh).mono ?_)⟩
 ·rw [if_pos h];exact ⟨rfl,agi⟩
 rintro e jf ⟨sY,rfl,ho,dp⟩;have z27:=dp.size;rw [if_neg (by rw [h];decide)];have fq:=ho.rd (show 0<3 by decide);have hn:sY.n=4:=fq.n;refine ⟨sY,rfl,dp.heap aa,λn x m wr=>∃j:Nat,x=j/\j+n=4/\m=((aQ c).take j).foldl (λm n=>if 0<=dy (V n) then min m (dy (V n)) else m) 7/\Ext jf wr,⟨4,rfl,0,rfl,rfl,rfl,Ext.bX _⟩,?_⟩;rintro n us x m wr ⟨j,rfl,hj,rfl,xr⟩;have zr:=xr.size;have xr0:=agi.tr (dp.tr xr);apply Br.mk<;>intro hb
 ·replace hb:=fe hb;obtain ⟨y,hy⟩:=aZ (l:=aQ c) (i:=j) (by have:(aQ c).length=4:=rfl;omega);have oky:=(GO hc (bf hy)).1;have hy':((aQ c).map dn)[j]? =some (dn y):=by rw [aV,hy];rfl
  have j2:(aQ c).take (j+1)=(aQ c).take j++ [y]:=by rw [cm,hy];rfl
  have wk:=kK (j:=j);refine ⟨fq.fp (i:=(j:Int)) aC aa hb,_,_,_,(fq.ext xr).aY hy',λiU e39 iV DU=> ?_⟩;have nG:Ext wr iV:=(bo e39).ab DU (ax _);have z40:=jE e39 DU;refine dI ((hV.ext (xr0.tr nG)).at oky) ?_;rintro e kE ⟨rfl,jC⟩;have z41:=jC.size;refine ⟨_,rfl,jC.heap aa,jC.heap aa,(zL (V y) kE).mono ?_⟩;rintro e ql ⟨rfl,rfl⟩;refine ⟨_,rfl,rfl,rfl,Br.mk (λh2=> ?_) (λh2=> ?_)⟩
  ·have h2:=kX h2;refine ⟨n-1,by omega,rfl,j+1,wk,by omega,?_,xr.tr (nG.tr jC)⟩;rw [j2,jc,jL,List.foldl_nil,if_pos h2];split<;>omega
  ·have h2:=kX h2;refine ⟨n-1,by omega,rfl,j+1,wk,by omega,?_,xr.tr (nG.tr jC)⟩;rw [j2,jc,jL,List.foldl_nil,if_neg h2]
 ·replace hb:=eX hb;have ht:(aQ c).take j=aQ c:=cZ (by have:(aQ c).length=4:=rfl;omega);rw [ht];have hle:(aQ c).foldl (λm n=>if 0<=dy (V n) then min m (dy (V n)) else m) 7=rN V (aQ c):=rfl;have cX:=zK V (aQ c) 7 aC;rw [hle] at cX ⊢;apply Br.mk<;>intro h2
  ·rw [if_pos (by simpa using h2)];exact ⟨rfl,xr0⟩
  ·rw [if_neg (by simpa using h2),wI];exact ⟨rfl,xr0⟩
end Go.Proofs.YtalpkjfpmdpbiaaGreatDoor
namespace Go.Proofs.YtalpkjfpmdpbiaaGreatDoor
open Go Go.Vc Go.RowKit Go.Proofs Go.dS Go.bh Go.Code Go.iQ
set_option maxRecDepth 100000
def MS(x:Go.iQ.Cg):One (fx x):=by intro v hv;simp at hv;rcases hv with rfl|rfl|rfl|rfl<;>rfl
def Eh{w:World}{g:Nat}{B:Nat}(x:Go.iQ.Cg)(hr:Row w g (fx x) eH)(hB:B<=g):aj B eH 4 w ⟨bu g,1,1⟩ ([x].map fx):=aj.gm hB hr cx (ax _) rfl cx
def Ks{v:Value}{V:Ce->Int}{w:World}(hV:Tl v V w)(c:Ce)(hc:dH c)(level:Int)(hl:0<=level/\level<=7):
  ah 139 #[v,iG c,level] w λe w'=>∃s:Sl,e=s/\aj w eH 4 w' s ((jS V c level).map fx)/\Ext w w':=by
 apply GN.vc;intro w0 e0;have x0:=bo e0;have z0:=dt e0;have r0:Row w0 w (dn c) gz:=Row.nw e0;refine (Kt (hV.ext x0) c hc).mono ?_;rintro e w1 ⟨rfl,x1⟩;have z1:=x1.size;have oU:=x0.tr x1;have aaH:inI (dq V c).1:=by
  have:=zK V (aQ c) 7 aC;have hle:(aQ c).foldl (λm n=>if 0<=dy (V n) then min m (dy (V n)) else m) 7=rN V (aQ c):=rfl;rw [hle] at this;unfold dq inI;split
  ·simp
  ·split
   ·simp
   ·simp only;omega
 have caseA:0<level->(dq V c).2=false->jS V c level=[(c,0)]:=λh1 h2=>by unfold jS;rw [if_pos ⟨h1,h2⟩]
 have caseB:0<level->¬(dq V c).2=false->(dq V c).1≠level->jS V c level=[(c,gM (dq V c).1)]:=λh1 h2 h3=>by unfold jS;rw [if_neg (λq=>h2 q.2),if_pos ⟨h1,h3⟩]
 have armB:0<level->¬(dq V c).2=false->(dq V c).1≠level->ah 187 #[.int .i64 (dq V c).1] w1.drew (λe w6=>∃(x7:Int),e=x7/\w6.heap[w.heap.size]? =w1.drew.heap[w.heap.size]?/\
   au w6 (bu w.heap.size) 0 [c.1,c.2.1,c.2.2]/\∀w8:World,w8=w6.alloc (.cells #[c.1,c.2.1,c.2.2,x7] eH)->
   (λe w'=>∃s:Sl,e=Ending.returned s/\aj w eH 4 w' s ((jS V c level).map fx)/\Ext w w') (.returned (.slice (bu w6.heap.size) 1 1)) w8):=by
  intro h1 h2 h3;refine (jT (dq V c).1 w1.drew aaH).mono ?_;rintro e w6 ⟨rfl,rfl⟩;refine ⟨_,rfl,rfl,Lo.wv (r0.ext (x1.tr (Ext.dr w1))),λw8 e8=> ?_⟩;have hr:Row w8 w1.drew.heap.size (fx (c,gM (dq V c).1)) eH:=Row.nw e8;have zd:=kQ w1;refine ⟨⟨bu w1.drew.heap.size,1,1⟩,rfl,?_,(oU.tr (Ext.dr w1)).ay e8⟩;rw [caseB h1 h2 h3];exact Eh _ hr aa
 refine ⟨_,_,rfl,x1.heap aa,λwj=>wj=w1/\jS V c level=(if V (bz c)=0 then [(bz c,gM 1)] else if fu (V (bz c))=true\/7<=level then [] else ((aQ c).filter λn=>decide (V n=0)).map λn=>(n,gM (level+1))),?_,?_⟩
 ·have fine:(¬0<level\/(¬(dq V c).2=false/\(dq V c).1=level))->jS V c level=(if V (bz c)=0 then [(bz c,gM 1)] else if fu (V (bz c))=true\/7<=level then [] else ((aQ c).filter λn=>decide (V n=0)).map λn=>(n,gM (level+1))):=λh=>by unfold jS;rw [if_neg (λq=>h.elim (λh=>h q.1) λh=>h.1 q.2),if_neg (λq=>h.elim (λh=>h q.1) λh=>q.2 h.2)]
  refine Br.mk (λh1=>Br.mk (λh2=>λw5 e5=> ?_) (λh2=>Br.mk (λ_=>Br.mk (λh3=> ?_) (λh3=>⟨rfl,rfl,?_⟩)) (λh3=> ?_))) (λh1=>Br.mk (λh3=> ?_) (λh3=>⟨rfl,rfl,?_⟩))
  ·have h1:=kX h1;have hr:Row w5 w1 (fx (c,0)) eH:=Row.nw e5;refine ⟨⟨bu w1.heap.size,1,1⟩,rfl,?_,oU.ay e5⟩;rw [caseA h1 (by simpa using h2)];exact Eh _ hr aa
  ·exact armB (by simpa using h1) (by simpa using h2) (by simpa using h3)
  ·exact fine (.inr ⟨by simpa using h2,by simpa using h3⟩)
  ·rw [h1] at h3;cases h3
  ·rw [h1] at h3;cases h3
  ·exact fine (.inl (by simpa using h1))
 rintro us cC ⟨rfl,hW⟩;rw [hW];refine (lu c hc cC).mono ?_;rintro e bY ⟨rfl,bW⟩;have Vx:=bW.size;have okl:lY (bz c):=wQ hc (by simp [iI]);refine ⟨_,_,_,_,_,_,_,_,_,_,_,_,_,_,_,_,_,_,rfl,bW.heap aa,by decide,_,_,_,Ku c,λnC Jk hX Qb=> ?_⟩;have gk:Ext bY hX:=(bo Jk).ab Qb (ax _);have z37:=jE Jk Qb;have rl:Row hX bY (dn (bz c)) gz:=by rw [Qb];exact Row.set (by rw [Jk];exact Row.new bY [_,_,_] _) _
 have uJ:=oU.tr (bW.tr gk);refine ⟨λwj=>Ext hX wj/\¬V (bz c)=0/\¬(fu (V (bz c))=true\/7<=level),dI ((hV.ext uJ).at okl) ?_,?_⟩
 ·rintro e iU ⟨rfl,kB⟩;have z39:=kB.size;refine ⟨_,rfl,kB.heap aa,kB.heap aa,Br.mk (λh=>(jT 1 iU.drew (by unfold inI;omega)).mono ?_) (λh=>(mY (V (bz c)) iU).mono ?_)⟩
  ·rintro e kE ⟨rfl,rfl⟩;have h:=kX h;refine ⟨_,rfl,rfl,rfl,Lo.wv (rl.ext (kB.tr (Ext.dr iU))),λql Xg=> ?_⟩;have hr:Row ql iU.drew.heap.size (fx (bz c,gM 1)) eH:=Row.nw Xg;have zd:=kQ iU;refine ⟨⟨bu iU.drew.heap.size,1,1⟩,rfl,?_,(uJ.tr (kB.tr (Ext.dr iU))).ay Xg⟩;rw [if_pos h];exact Eh _ hr aa
  ·rintro e jA ⟨rfl,rfl⟩;have h:=kX h;rw [if_neg h];refine ⟨_,rfl,rfl,rfl,Br.mk (λh2=> ?_) (λh2=>Br.mk (λh3=> ?_) (λh3=>⟨rfl,rfl,kB,h,?_⟩))⟩
   ·rw [if_pos (.inl h2)];exact ⟨⟨none,0,0⟩,rfl,aj.nil,uJ.tr kB⟩
   ·rw [if_pos (.inr (by simpa using h3))];exact ⟨⟨none,0,0⟩,rfl,aj.nil,uJ.tr kB⟩
   ·rintro (q|q)
    ·rw [q] at h2;cases h2
    ·simp at h3;omega
 rintro us oV ⟨mc,h1,h2⟩;have z47:=mc.size;rw [if_neg h1,if_neg h2];have aia:=uJ.tr mc;refine (tB c hc oV).mono ?_;rintro e uK ⟨yX,rfl,aib,sH⟩;have z48:=sH.size;have aic:=aia.tr sH;have fq:=aib.rd (show 0<3 by decide);have aoY:yX.n=4:=fq.n;refine ⟨yX,rfl,sH.heap aa,sH.heap aa,λn x BP wr=>∃j:Nat,x=j/\j+n=4/\aj uK eH 4 wr BP (((((aQ c).take j).filter λn=>decide (V n=0)).map λn=>((n,gM (level+1)):Go.iQ.Cg)).map fx)/\Ext uK wr,⟨4,rfl,rfl,0,rfl,rfl,aj.nil,Ext.bX _⟩,?_⟩;rintro n us x BP wr ⟨j,rfl,hj,ho,xr⟩;have zr:=xr.size;have xr0:=aic.tr xr;apply Br.mk<;>intro hb
 ·replace hb:=fe hb;obtain ⟨y,hy⟩:=aZ (l:=aQ c) (i:=j) (by have:(aQ c).length=4:=rfl;omega);have oky:=(GO hc (bf hy)).1;have hy':((aQ c).map dn)[j]? =some (dn y):=by rw [aV,hy];rfl
  have j2:(aQ c).take (j+1)=(aQ c).take j++ [y]:=by rw [cm,hy];rfl
  have wk:=kK (j:=j);refine ⟨fq.fp (i:=(j:Int)) aC aa hb,_,_,_,(fq.ext xr).aY hy',λBQ Vy yY e61=> ?_⟩;have pn:Ext wr yY:=(bo Vy).ab e61 (ax _);have z61:=jE Vy e61;have ry:Row yY wr (dn y) gz:=by rw [e61];exact Row.set (by rw [Vy];exact Row.new wr [_,_,_] _) _
  refine dI ((hV.ext (xr0.tr pn)).at oky) ?_;rintro e Bi ⟨rfl,Cw⟩;have z62:=Cw.size;refine ⟨_,rfl,Cw.heap aa,Cw.heap aa,Cw.heap aa,Br.mk (λh3=> ?_) (λh3=> ?_)⟩
  ·have wl:ai (level+1)=level+1:=wI;rw [wl];refine (jT (level+1) Bi.drew (by unfold inI;omega)).mono ?_;rintro e Xh ⟨rfl,rfl⟩;have xd:=pn.tr (Cw.tr (Ext.dr Bi));have zd:=kQ Bi;refine ⟨_,rfl,rfl,rfl,rfl,Lo.wv (ry.ext (Cw.tr (Ext.dr Bi))),λsI Fu=> ?_⟩;subst Fu;have ho':=ho.ext xd;have aoZ:BP.n<=4:=by have h1:=(ho.rd (show 0<4 by decide)).n;have h2:=C7 (λn=>decide (V n=0)) ((aQ c).take j);rw [aB,aB] at h1;rw [bF] at h2;omega
   obtain ⟨Ml,hres8⟩:=ho'.kJ (bytes:=32) (news:=fx (y,gM (level+1))) (.cells #[y.1,y.2.1,y.2.2,(gM (level+1))] eH) aa rfl (MS _) aa aa;refine ⟨Ml,λFv JU aid=> ?_⟩;obtain ⟨f8,xt,hn8,x8,Vz,-⟩:=hres8 Fv JU aid;have xa:=Ext.al Bi.drew (.cells #[y.1,y.2.1,y.2.2,(gM (level+1))] eH);have aaI:∀b,BP.bj=some b->uK.heap.size<=b/\b<wr.heap.size:=λb hb=>ho.own.lt hb
   have kp:∀j,(j<uK.heap.size\/wr.heap.size<=j)->j<Bi.drew.heap.size->JU.heap[j]? =(Bi.drew.alloc (.cells #[y.1,y.2.1,y.2.2,(gM (level+1))] eH)).heap[j]? :=λj hj hj2=>by rw [Vz j (λhb=>by have:=aaI j hb;omega) hj2,xa.heap hj2]
   refine ⟨kp _ (.inl aa) aa,kp _ (.inl aa) aa,kp _ (.inr aa) aa,f8,n-1,by omega,rfl,rfl,j+1,wk,by omega,?_,(Below.trans (xr.tr xd) x8:Below uK uK JU)⟩;rw [j2,tz,aT,aT,X5 (by simpa using h3)];exact xt
  ·refine ⟨n-1,by omega,rfl,rfl,j+1,wk,by omega,?_,xr.tr (pn.tr Cw)⟩;rw [j2,tz,aT,aT,Rp (by simpa using h3)];simpa using ho.ext (pn.tr Cw)
 ·replace hb:=eX hb;have ht:(aQ c).take j=aQ c:=cZ (by have:(aQ c).length=4:=rfl;omega);rw [ht] at ho;exact ⟨BP,rfl,ho.low aa,xr0⟩
def Rq{b:Int}(h:fu b=true):0<=dy b/\dy b<=7:=by unfold dy;rw [h,if_pos rfl];unfold fu at h;simp only [gr,bA] at h;omega
def Kv{v:Value}{V:Ce->Int}{w:World}(hV:Tl v V w)(c:Ce)(hc:dH c):
  ah 92 #[v,iG c] w λe w'=>∃s:Sl,e=s/\aj w eH 4 w' s ((jq V c).map fx)/\Ext w w':=by
 apply Oa.vc;intro w0 e0;have x0:=bo e0;have z0:=dt e0;have r0:Row w0 w (dn c) gz:=Row.nw e0;refine dI ((hV.ext x0).at hc.ok) ?_;rintro e w1 ⟨rfl,x1⟩;have z1:=x1.size;have oU:=x0.tr x1;refine ⟨_,rfl,x1.heap aa,(rP (V c) w1).mono ?_⟩;rintro e w3 ⟨rfl,rfl⟩;unfold jq;refine ⟨_,rfl,rfl,Br.mk (λh=> ?_) (λh=>(mY (V c) w3).mono ?_)⟩
 ·rw [if_pos (by simpa using h)];refine (Ob (hV.ext oU) c hc).mono ?_;rintro e w5 ⟨s,rfl,ho,x5⟩;exact ⟨s,rfl,x5.heap aa,s,rfl,ho.low aa,oU.tr x5⟩
 ·rintro e w7 ⟨rfl,rfl⟩;rw [if_neg (by simpa using h)];refine ⟨_,rfl,rfl,Br.mk (λh2=>(zL (V c) w7.drew).mono ?_) (λh2=> ?_)⟩
  ·rintro e w9 ⟨rfl,rfl⟩;rw [h2,if_pos rfl];have xd:=oU.tr (Ext.dr w7);have zd:=kQ w7;refine ⟨_,rfl,rfl,Lo.wv (r0.ext (x1.tr (Ext.dr w7))),(Ks (hV.ext xd) c hc (dy (V c)) (Rq h2)).mono ?_⟩;rintro e cB ⟨s,rfl,ho,bR⟩;exact ⟨s,rfl,bR.heap aa,s,rfl,ho.low aa,xd.tr bR⟩
  ·rw [h2,if_neg aC];exact ⟨⟨none,0,0⟩,rfl,aj.nil,oU⟩
end Go.Proofs.YtalpkjfpmdpbiaaGreatDoor
