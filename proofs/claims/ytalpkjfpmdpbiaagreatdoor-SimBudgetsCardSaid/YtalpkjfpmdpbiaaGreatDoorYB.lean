import Derived.Test.YtalpkjfpmdpbiaaGreatDoorGF
import Derived.Test.YtalpkjfpmdpbiaaGreatDoorYA
import Derived.Test.YtalpkjfpmdpbiaaGreatDoorWA
set_option linter.all false
namespace Go.Proofs.YtalpkjfpmdpbiaaGreatDoor
open Go Go.Vc Go.RowKit Go.Proofs
set_option maxRecDepth 100000
set_option maxHeartbeats 8000000
set_option linter.unusedVariables false
variable {R:Ending->World->Prop} {w:World} {a0 a1 a2 a3 a4 a5 a6 a7 a8 a9 aq ar au aI aJ aK aL aH bM eB ao aj aw dO ic jg jh ji gq gY dj dZ dU lg lO nm xO xP xQ xR xS xU xV xW xX xY xZ ya yb yc:Int}
def Gd.vc{a0:Value}(h:
 Aw w #[ao,aj,aw] 23 λw0=>
 ah 186 #[a0,.agg #[ao,aj,aw]] w0 (λe w1=>∃(x2:Int)(b3:Bool),e=Value.tuple #[x2,b3]/\Kp w w0 w1/\
 ∃J4:World->Prop,
 (Br (a2>0)
 (Br (!b3)
 (Aw w1 #[ao,aj,aw,af] 71 λw5=>
 R (Value.slice (bu w1) 1 1) w5)
 (Br (a2>0)
 (Br (x2 !=a2)
 (ah 187 #[x2] w1.drew (Ri λx7 w6=>Kp w w1.drew w6/\
 av w6 w 0 [ao,aj,aw]/\Aw w6 #[ao,aj,aw,x7] 71 λw8=>
 R (Value.slice (bu w6) 1 1) w8))
 (aP [ao,aj,aw]/\J4 w1))
 (aP [ao,aj,aw]/\J4 w1)))
 (Br (a2>0)
 (Br (x2 !=a2)
 (ah 187 #[x2] w1.drew (Ri λbr w9=>Kp w w1.drew w9/\
 av w9 w 0 [ao,aj,aw]/\Aw w9 #[ao,aj,aw,br] 71 λcH=>
 R (Value.slice (bu w9) 1 1) cH))
 (aP [ao,aj,aw]/\J4 w1))
 (aP [ao,aj,aw]/\J4 w1)))/\
 ∀Z5:Nat->Value,∀(cA:World),J4 cA->
 ah 93 #[.agg #[ao,aj,aw]] cA (λe cm=>∃(bA cY cP cn cN dK fW eY de di cW dV dc eM iL oL iK jA:Int),e=Value.agg #[bA,cY,cP,cn,cN,dK,fW,eY,de,di,cW,dV,dc,eM,iL,oL,iK,jA]/\Kp w cA cm/\
 ((0:Int)<=2/\(2:Int)<((6:Nat):Int))/\∃(gn fX jy:Int),(([bA,cY,cP,cn,cN,dK,fW,eY,de,di,cW,dV,dc,eM,iL,oL,iK,jA]:LV).drop ((2:Int).toNat*3)).take 3=[.int .i64 gn,.int .i64 fX,.int .i64 jy]/\
 Aw cm #[af,af,af] 23 λnv=>
 Sw nv cm #[gn,fX,jy] λjj=>
 ∃J38:World->Prop,
 (dH Tryz.prog a0 [.agg #[gn,fX,jy]] jj (Ri λnz iP=>K2 w cm jj iP (
 Br (nz==0)
 (ah 187 #[(1:Int)] iP.drew (Ri λlU j7=>K2 w cm iP.drew j7 (
 av j7 (bu cm) 0 [gn,fX,jy]/\Aw j7 #[gn,fX,jy,lU] 71 λpY=>
 R (Value.slice (bu j7) 1 1) pY)))
 (ah 134 #[nz] iP (Rb λb45 jz=>K2 w cm iP jz (
 Br b45
 (R (Value.slice none 0 0) jz)
 (Br (a2>=7)
 (R (Value.slice none 0 0) jz)
 (aP [ao,aj,aw]/\aP [gn,fX,jy]/\J38 jz))))))))/\
 ∀arh:Nat->Value,∀(oO:World),J38 oO->
 ah 188 #[.agg #[ao,aj,aw]] oO (Rs λyF uh=>K2 w cm oO uh (
 ∃X2:Nat->Int->Sl->World->Prop,
 (∃Px,aP [ao,aj,aw]/\aP [gn,fX,jy]/\X2 Px (0) ⟨none,0,0⟩ uh)/\
 ∀(Px:Nat)(ahO:Nat->Value)(uk:Int)(Bn:Sl)(A5:World),X2 Px uk Bn A5->
 Br (decide (uk<((yF.n:Nat):Int)))
 (cB yF.a uk yF.n/\∃(uC oP wQ:Int),av A5 (ae yF.a ((uk:Int).toNat*3)) 0 [uC,oP,wQ]/\
 Aw A5 #[af,af,af] 23 λBo=>
 Sw Bo A5 #[uC,oP,wQ] λyG=>
 dH Tryz.prog a0 [.agg #[uC,oP,wQ]] yG (Ri λlQ AV=>K3 w cm A5 yG AV (
 Br (lQ==0)
 (ah 187 #[(ai (a2+1))] AV.drew (Ri λwX Wz=>K3 w cm A5 AV.drew Wz (
 av Wz A5 0 [uC,oP,wQ]/\Aw Wz #[uC,oP,wQ,wX] 71 λsy=>
 aF 32 4 sy Bn 1 [uC,oP,wQ,wX]/\∀(EY:Sl)(Jh:World),aD 71 4 sy Bn 1 [uC,oP,wQ,wX] EY Jh->K4 w cm A5 Wz sy Jh (
 ∃n56,n56<Px/\aP [ao,aj,aw]/\aP [gn,fX,jy]/\X2 n56 ((ai (uk+1))) EY Jh))))
 (∃n56,n56<Px/\aP [ao,aj,aw]/\aP [gn,fX,jy]/\X2 n56 ((ai (uk+1))) Bn AV))))
 (R Bn A5)))))):ah 139 #[a0,.agg #[ao,aj,aw],a2] w R:=
 cq ⟨[(14,⟨[(66,.int .i64),(11,.slice)],[],[]⟩)],[(12,⟨[],[],[]⟩),(6,⟨[],[],[]⟩)],[]⟩ Tryz.func139 h
end Go.Proofs.YtalpkjfpmdpbiaaGreatDoor
namespace Go.Proofs.YtalpkjfpmdpbiaaGreatDoor
open Go Go.Vc Go.RowKit Go.Proofs Go.dQ Go.bf Go.Code Go.jd
set_option maxRecDepth 100000
def Wo{E k m n c:Nat}{w w':World}{a:Option Addr}{s':Sl}{xs news:LV}{rows:List (LV)}(h:aD E k w ⟨a,m,c⟩ n news s' w')(hc:c<m+n)(hx:xs.length=m*k)(eZ:Rd w a xs)(jx:xs++news=rows.flatten)(hw:∀r ∈ rows,r.length=k)(hl:news.length=n*k):ak w E k w' s' rows/\Ext w w':=by
 cases h with
 |fits hf=>simp only at hf;omega
 |vV hg eP rest cap e1 e2 e3 e4=>
  have ho:eP=xs:=by
   apply ik;intro i;rcases fx i xs.length with hi|hi
   ·have h1:=eZ i xs[i] (cr hi);have hi':i<eP.length:=by simp only at e1;omega
    have h2:=e2 i eP[i] (cr hi');rw [h1] at h2;rw [cr hi,cr hi'];exact h2.symm
   ·rw [il hi,il (by simp only at e1;omega)]
  subst ho;have AU:=Row.new w.drew (eP++news++rest) E;refine ⟨ak.gg (ax _) AU (Nat.le_of_eq e4.symm) e3 ?_ hw,(Ext.dr w).tr (Ext.al _ _)⟩;rw [<-jx];have dY:(eP++news).length=(m+n)*k:=by rw [eK,hx,hl,qN]
  rw [HM (by simp only;omega),dn (by simp only;omega)]
def zm(b:Int)(w:World):ah 140 #[b] w λe w'=>e=Value.int .i64 (dp b)/\w'=w:=by
 apply Gz.vc;refine (mV b w).mono ?_;rintro e w0 ⟨rfl,rfl⟩;unfold dp;refine ⟨_,rfl,Br.mk (λh=> ?_) (λh=> ?_)⟩
 ·have h:fp b=false:=by simpa using h
  rw [h,if_neg aE];exact ⟨rfl,rfl⟩
 ·have h:fp b=true:=by simpa using h
  rw [h,if_pos rfl];unfold fp at h;simp only [gy,bB] at h;rw [wI];exact ⟨rfl,rfl⟩
def Ge{c:Ce}(h:dB c){n:Ce}(hn:n ∈ aQ c):mA n/\n ∈ iF c:=by
 have:n ∈ iF c:=by
  unfold aQ at hn;unfold iF;simp only [bI,fS,or_false] at hn ⊢;rcases hn with h|h|h|h
  ·exact .inl h
  ·exact .inr (.inl h)
  ·exact .inr (.inr (.inr (.inr (.inl h))))
  ·exact .inr (.inr (.inr (.inr (.inr h))))
 exact ⟨v9 h this,this⟩
def MO{w:World}{g:Nat}{cs:LV}{τ:TypeId}(hr:Row w g cs τ)(o:Nat){xs:LV}(h:∀i,i<xs.length->cs[o+i]? =xs[i]?):Rd w (pd g o) xs:=λi v hv=>by
 rw [bW,hr.ld]
 have hi:=(bF.1 hv).1
 rw [h i hi];exact hv
def sR(c:Ce)(hc:dB c)(w:World):ah 188 #[iS c] w λe w'=>∃s:Sl,e=s/\ak w iE 3 w' s ((aQ c).map ef)/\Ext w w':=by
 apply Gp.vc;intro w0 e0;have x0:=bq e0;have z0:=du e0;refine (lr c hc w0).mono ?_;rintro e w1 ⟨rfl,x1⟩;have z1:=x1.size;refine ⟨_,_,_,_,_,_,_,_,_,_,_,_,_,_,_,_,_,_,rfl,x1.heap aa,λeC Bs=> ?_⟩;have dK:=bq Bs;have hr:Row eC w1 [af,af,af,af,af,af,af,af,af,af,af,af,af,af,af,af,af,af] 161:=Row.nw Bs;refine ⟨⟨rfl,hr.wr cy⟩,λe=>by
  have:w1.heap.size=w.heap.size:=by simpa [cQ] using e
  omega,λea uq=> ?_⟩
 have uq:ea=aZ eC (bu w1.heap.size) (Lm c):=uq;rw [hr.aZ (vs:=Lm c) cy (Ln c),og cy] at uq;have mK:Row ea w1 (Lm c) 161:=hr.st uq;have fW:Ext w ea:=(x0.tr (x1.tr dK)).ab uq aa;have xd:=Ext.dr ea;have hr3:=mK.ext xd;have x21d:=fW.tr xd;have zz:w1.heap.size<ea.drew.heap.size:=hr3.lt;have dY:(ef ((c.1,c.2.1,c.2.2-1):Ce)++ef (c.1,c.2.1,c.2.2+1)).length=6:=rfl;have h1:One (ef ((c.1,c.2.1,c.2.2-1):Ce)++ef (c.1,c.2.1,c.2.2+1)):=by
  intro v hv;rcases ct.1 hv with hv|hv
  ·exact AI _ v hv
  ·exact AI _ v hv
 have Y9:Rd ea.drew (bu w1.heap.size) (ef ((c.1-1,c.2.1,c.2.2):Ce)++ef (c.1+1,c.2.1,c.2.2)):=MO hr3 0 (λi hi=>by
  have hi:i<6:=hi;have:i=0\/i=1\/i=2\/i=3\/i=4\/i=5:=by omega
  rcases this with rfl|rfl|rfl|rfl|rfl|rfl<;>rfl)
 refine ⟨by decide,by decide,by decide,by decide,by decide,by decide,ef ((c.1,c.2.1,c.2.2-1):Ce)++ef (c.1,c.2.1,c.2.2+1),MO (o:=12) hr3 (λi hi=>by
  have hi:i<6:=hi;have:i=0\/i=1\/i=2\/i=3\/i=4\/i=5:=by omega
  rcases this with rfl|rfl|rfl|rfl|rfl|rfl<;>rfl),⟨λhf=>absurd hf (show ¬(2+2<=2) by decide),λ_=>⟨_,rfl,Y9⟩,λhg=>⟨growslice_fits hg (show (2+2)*24<=140737488355328 by decide),show ((2+2:Nat):Int)<=9223372036854775807 by decide⟩,rfl,h1⟩,λB4 fu aS=> ?_⟩
 obtain ⟨ho,di⟩:=Wo (rows:=(aQ c).map ef) (xs:=ef ((c.1-1,c.2.1,c.2.2):Ce)++ef (c.1+1,c.2.1,c.2.2)) aS (show 2<2+2 by decide) rfl Y9 rfl (by intro r hr;obtain ⟨y,-,rfl⟩:=aR.1 hr;rfl) rfl;exact ⟨di.heap aa,B4,rfl,ho.low aa,x21d.tr di⟩
def zl(V:Ce->Int):∀(l:List Ce)(m:Int),0<=m/\m<=7->0<=l.foldl (λm n=>if 0<=dp (V n) then min m (dp (V n)) else m) m/\l.foldl (λm n=>if 0<=dp (V n) then min m (dp (V n)) else m) m<=7
 | [],m,h=>h
 |n::l,m,h=>by
  rw [jI]
  refine zl V l _ ?_
  split<;>omega
def Pn(c:Ce):((Lm c).drop ((3:Int).toNat*3)).take 3=ef (ir c):=rfl
def JR{v:Value}{V:Ce->Int}{w:World}(hV:Tl v V w)(c:Ce)(hc:dB c):
  ah 186 #[v,iS c] w λe w'=>e=Value.tuple #[.int .i64 (dh V c).1,.bool (dh V c).2]/\Ext w w':=by
 apply J2.vc;intro w0 e0;have x0:=bq e0;have z0:=du e0;refine (lr c hc w0).mono ?_;rintro e w1 ⟨rfl,x1⟩;have z1:=x1.size;have oko:mA (ir c):=v9 hc (by simp [iF]);refine ⟨_,_,_,_,_,_,_,_,_,_,_,_,_,_,_,_,_,_,rfl,x1.heap aa,by decide,_,_,_,Pn c,dW ((hV.ext (x0.tr x1)).at oko) ?_⟩;rintro e gi ⟨rfl,de⟩;have z23:=de.size;have afE:=x0.tr (x1.tr de);refine ⟨_,rfl,de.heap aa,(mV (V (ir c)) gi).mono ?_⟩;rintro e eg ⟨rfl,rfl⟩;unfold dh;refine ⟨_,rfl,rfl,Br.mk (λh=> ?_) (λh=>(sR c hc eg).mono ?_)⟩
 ·rw [if_pos h];exact ⟨rfl,afE⟩
 rintro e jb ⟨sB,rfl,ho,dc⟩;have z27:=dc.size;rw [if_neg (by rw [h];decide)];have eZ:=ho.rd (show 0<3 by decide);have hn:sB.n=4:=eZ.n;refine ⟨sB,rfl,dc.heap aa,λn x m wr=>∃j:Nat,x=j/\j+n=4/\m=((aQ c).take j).foldl (λm n=>if 0<=dp (V n) then min m (dp (V n)) else m) 7/\Ext jb wr,⟨4,rfl,0,rfl,rfl,rfl,Ext.ck _⟩,?_⟩;rintro n us x m wr ⟨j,rfl,hj,rfl,xr⟩;have zr:=xr.size;have xr0:=afE.tr (dc.tr xr);apply Br.mk<;>intro hb
 ·replace hb:=fj hb;obtain ⟨y,hy⟩:=bh (l:=aQ c) (i:=j) (by have:(aQ c).length=4:=rfl;omega);have oky:=(Ge hc (bc hy)).1;have hy':((aQ c).map ef)[j]? =some (ef y):=by rw [aX,hy];rfl
  have kJ:(aQ c).take (j+1)=(aQ c).take j++ [y]:=by rw [cu,hy];rfl
  have wk:=lD (j:=j);refine ⟨eZ.fN (i:=(j:Int)) aE aa hb,_,_,_,(eZ.ext xr).bk hy',λiP e39 iQ Dt=> ?_⟩;have nz:Ext wr iQ:=(bq e39).ab Dt (ax _);have z40:=kC e39 Dt;refine dW ((hV.ext (xr0.tr nz)).at oky) ?_;rintro e j7 ⟨rfl,kK⟩;have z41:=kK.size;refine ⟨_,rfl,kK.heap aa,kK.heap aa,(zm (V y) j7).mono ?_⟩;rintro e pY ⟨rfl,rfl⟩;refine ⟨_,rfl,rfl,rfl,Br.mk (λh2=> ?_) (λh2=> ?_)⟩
  ·have h2:=kB h2;refine ⟨n-1,by omega,rfl,j+1,wk,by omega,?_,xr.tr (nz.tr kK)⟩;rw [kJ,iY,jI,List.foldl_nil,if_pos h2];split<;>omega
  ·have h2:=kB h2;refine ⟨n-1,by omega,rfl,j+1,wk,by omega,?_,xr.tr (nz.tr kK)⟩;rw [kJ,iY,jI,List.foldl_nil,if_neg h2]
 ·replace hb:=fh hb;have ht:(aQ c).take j=aQ c:=dn (by have:(aQ c).length=4:=rfl;omega);rw [ht];have hle:(aQ c).foldl (λm n=>if 0<=dp (V n) then min m (dp (V n)) else m) 7=rn V (aQ c):=rfl;have cV:=zl V (aQ c) 7 aE;rw [hle] at cV ⊢;apply Br.mk<;>intro h2
  ·rw [if_pos (by simpa using h2)];exact ⟨rfl,xr0⟩
  ·rw [if_neg (by simpa using h2),wI];exact ⟨rfl,xr0⟩
end Go.Proofs.YtalpkjfpmdpbiaaGreatDoor
namespace Go.Proofs.YtalpkjfpmdpbiaaGreatDoor
open Go Go.Vc Go.RowKit Go.Proofs Go.dQ Go.bf Go.Code Go.jd
set_option maxRecDepth 100000
def Ma(x:Go.jd.Cg):One (fq x):=by intro v hv;simp at hv;rcases hv with rfl|rfl|rfl|rfl<;>rfl
def DP{w:World}{g:Nat}{B:Nat}(x:Go.jd.Cg)(hr:Row w g (fq x) eT)(hB:B<=g):ak B eT 4 w ⟨bu g,1,1⟩ ([x].map fq):=ak.gg hB hr cy (ax _) rfl cy
def JQ{v:Value}{V:Ce->Int}{w:World}(hV:Tl v V w)(c:Ce)(hc:dB c)(level:Int)(hl:0<=level/\level<=7):
  ah 139 #[v,iS c,level] w λe w'=>∃s:Sl,e=s/\ak w eT 4 w' s ((jO V c level).map fq)/\Ext w w':=by
 apply Gd.vc;intro w0 e0;have x0:=bq e0;have z0:=du e0;have r0:Row w0 w (ef c) iE:=Row.nw e0;refine (JR (hV.ext x0) c hc).mono ?_;rintro e w1 ⟨rfl,x1⟩;have z1:=x1.size;have oN:=x0.tr x1;have Z8:inI (dh V c).1:=by
  have:=zl V (aQ c) 7 aE;have hle:(aQ c).foldl (λm n=>if 0<=dp (V n) then min m (dp (V n)) else m) 7=rn V (aQ c):=rfl;rw [hle] at this;unfold dh inI;split
  ·simp
  ·split
   ·simp
   ·simp only;omega
 have caseA:0<level->(dh V c).2=false->jO V c level=[(c,0)]:=λh1 h2=>by unfold jO;rw [if_pos ⟨h1,h2⟩]
 have caseB:0<level->¬(dh V c).2=false->(dh V c).1≠level->jO V c level=[(c,gA (dh V c).1)]:=λh1 h2 h3=>by unfold jO;rw [if_neg (λq=>h2 q.2),if_pos ⟨h1,h3⟩]
 have armB:0<level->¬(dh V c).2=false->(dh V c).1≠level->ah 187 #[.int .i64 (dh V c).1] w1.drew (λe w6=>∃(x7:Int),e=x7/\w6.heap[w.heap.size]? =w1.drew.heap[w.heap.size]?/\
   av w6 (bu w.heap.size) 0 [c.1,c.2.1,c.2.2]/\∀w8:World,w8=w6.alloc (.cells #[c.1,c.2.1,c.2.2,x7] eT)->
   (λe w'=>∃s:Sl,e=Ending.returned s/\ak w eT 4 w' s ((jO V c level).map fq)/\Ext w w') (.returned (.slice (bu w6.heap.size) 1 1)) w8):=by
  intro h1 h2 h3;refine (jP (dh V c).1 w1.drew Z8).mono ?_;rintro e w6 ⟨rfl,rfl⟩;refine ⟨_,rfl,rfl,Lo.wv (r0.ext (x1.tr (Ext.dr w1))),λw8 e8=> ?_⟩;have hr:Row w8 w1.drew.heap.size (fq (c,gA (dh V c).1)) eT:=Row.nw e8;have zd:=lW w1;refine ⟨⟨bu w1.drew.heap.size,1,1⟩,rfl,?_,(oN.tr (Ext.dr w1)).ay e8⟩;rw [caseB h1 h2 h3];exact DP _ hr aa
 refine ⟨_,_,rfl,x1.heap aa,λwj=>wj=w1/\jO V c level=(if V (bz c)=0 then [(bz c,gA 1)] else if fp (V (bz c))=true\/7<=level then [] else ((aQ c).filter λn=>decide (V n=0)).map λn=>(n,gA (level+1))),?_,?_⟩
 ·have fine:(¬0<level\/(¬(dh V c).2=false/\(dh V c).1=level))->jO V c level=(if V (bz c)=0 then [(bz c,gA 1)] else if fp (V (bz c))=true\/7<=level then [] else ((aQ c).filter λn=>decide (V n=0)).map λn=>(n,gA (level+1))):=λh=>by unfold jO;rw [if_neg (λq=>h.elim (λh=>h q.1) λh=>h.1 q.2),if_neg (λq=>h.elim (λh=>h q.1) λh=>q.2 h.2)]
  refine Br.mk (λh1=>Br.mk (λh2=>λw5 e5=> ?_) (λh2=>Br.mk (λ_=>Br.mk (λh3=> ?_) (λh3=>⟨rfl,rfl,?_⟩)) (λh3=> ?_))) (λh1=>Br.mk (λh3=> ?_) (λh3=>⟨rfl,rfl,?_⟩))
  ·have h1:=kB h1;have hr:Row w5 w1 (fq (c,0)) eT:=Row.nw e5;refine ⟨⟨bu w1.heap.size,1,1⟩,rfl,?_,oN.ay e5⟩;rw [caseA h1 (by simpa using h2)];exact DP _ hr aa
  ·exact armB (by simpa using h1) (by simpa using h2) (by simpa using h3)
  ·exact fine (.inr ⟨by simpa using h2,by simpa using h3⟩)
  ·rw [h1] at h3;cases h3
  ·rw [h1] at h3;cases h3
  ·exact fine (.inl (by simpa using h1))
 rintro us cA ⟨rfl,hW⟩;rw [hW];refine (lr c hc cA).mono ?_;rintro e cm ⟨rfl,cl⟩;have Wx:=cl.size;have okl:mA (bz c):=v9 hc (by simp [iF]);refine ⟨_,_,_,_,_,_,_,_,_,_,_,_,_,_,_,_,_,_,rfl,cl.heap aa,by decide,_,_,_,JS c,λnv IH jj Pu=> ?_⟩;have gd:Ext cm jj:=(bq IH).ab Pu (ax _);have z37:=kC IH Pu;have rl:Row jj cm (ef (bz c)) iE:=by rw [Pu];exact Row.set (by rw [IH];exact Row.new cm [_,_,_] _) _
 have ug:=oN.tr (cl.tr gd);refine ⟨λwj=>Ext jj wj/\¬V (bz c)=0/\¬(fp (V (bz c))=true\/7<=level),dW ((hV.ext ug).at okl) ?_,?_⟩
 ·rintro e iP ⟨rfl,kq⟩;have z39:=kq.size;refine ⟨_,rfl,kq.heap aa,kq.heap aa,Br.mk (λh=>(jP 1 iP.drew (by unfold inI;omega)).mono ?_) (λh=>(mV (V (bz c)) iP).mono ?_)⟩
  ·rintro e j7 ⟨rfl,rfl⟩;have h:=kB h;refine ⟨_,rfl,rfl,rfl,Lo.wv (rl.ext (kq.tr (Ext.dr iP))),λpY Wy=> ?_⟩;have hr:Row pY iP.drew.heap.size (fq (bz c,gA 1)) eT:=Row.nw Wy;have zd:=lW iP;refine ⟨⟨bu iP.drew.heap.size,1,1⟩,rfl,?_,(ug.tr (kq.tr (Ext.dr iP))).ay Wy⟩;rw [if_pos h];exact DP _ hr aa
  ·rintro e jz ⟨rfl,rfl⟩;have h:=kB h;rw [if_neg h];refine ⟨_,rfl,rfl,rfl,Br.mk (λh2=> ?_) (λh2=>Br.mk (λh3=> ?_) (λh3=>⟨rfl,rfl,kq,h,?_⟩))⟩
   ·rw [if_pos (.inl h2)];exact ⟨⟨none,0,0⟩,rfl,ak.nil,ug.tr kq⟩
   ·rw [if_pos (.inr (by simpa using h3))];exact ⟨⟨none,0,0⟩,rfl,ak.nil,ug.tr kq⟩
   ·rintro (q|q)
    ·rw [q] at h2;cases h2
    ·simp at h3;omega
 rintro us oO ⟨ma,h1,h2⟩;have z47:=ma.size;rw [if_neg h1,if_neg h2];have ahy:=ug.tr ma;refine (sR c hc oO).mono ?_;rintro e uh ⟨yF,rfl,ahz,rW⟩;have z48:=rW.size;have ahA:=ahy.tr rW;have eZ:=ahz.rd (show 0<3 by decide);have aoh:yF.n=4:=eZ.n;refine ⟨yF,rfl,rW.heap aa,rW.heap aa,λn x Bn wr=>∃j:Nat,x=j/\j+n=4/\ak uh eT 4 wr Bn (((((aQ c).take j).filter λn=>decide (V n=0)).map λn=>((n,gA (level+1)):Go.jd.Cg)).map fq)/\Ext uh wr,⟨4,rfl,rfl,0,rfl,rfl,ak.nil,Ext.ck _⟩,?_⟩;rintro n us x Bn wr ⟨j,rfl,hj,ho,xr⟩;have zr:=xr.size;have xr0:=ahA.tr xr;apply Br.mk<;>intro hb
 ·replace hb:=fj hb;obtain ⟨y,hy⟩:=bh (l:=aQ c) (i:=j) (by have:(aQ c).length=4:=rfl;omega);have oky:=(Ge hc (bc hy)).1;have hy':((aQ c).map ef)[j]? =some (ef y):=by rw [aX,hy];rfl
  have kJ:(aQ c).take (j+1)=(aQ c).take j++ [y]:=by rw [cu,hy];rfl
  have wk:=lD (j:=j);refine ⟨eZ.fN (i:=(j:Int)) aE aa hb,_,_,_,(eZ.ext xr).bk hy',λBo US yG e61=> ?_⟩;have pa:Ext wr yG:=(bq US).ab e61 (ax _);have z61:=kC US e61;have ry:Row yG wr (ef y) iE:=by rw [e61];exact Row.set (by rw [US];exact Row.new wr [_,_,_] _) _
  refine dW ((hV.ext (xr0.tr pa)).at oky) ?_;rintro e AV ⟨rfl,B3⟩;have z62:=B3.size;refine ⟨_,rfl,B3.heap aa,B3.heap aa,B3.heap aa,Br.mk (λh3=> ?_) (λh3=> ?_)⟩
  ·have wl:ai (level+1)=level+1:=wI;rw [wl];refine (jP (level+1) AV.drew (by unfold inI;omega)).mono ?_;rintro e Wz ⟨rfl,rfl⟩;have xd:=pa.tr (B3.tr (Ext.dr AV));have zd:=lW AV;refine ⟨_,rfl,rfl,rfl,rfl,Lo.wv (ry.ext (B3.tr (Ext.dr AV))),λsy Qh=> ?_⟩;subst Qh;have ho':=ho.ext xd;have aoi:Bn.n<=4:=by have h1:=(ho.rd (show 0<4 by decide)).n;have h2:=CF (λn=>decide (V n=0)) ((aQ c).take j);rw [aB,aB] at h1;rw [bG] at h2;omega
   obtain ⟨Pv,hres8⟩:=ho'.kD (bytes:=32) (news:=fq (y,gA (level+1))) (.cells #[y.1,y.2.1,y.2.2,(gA (level+1))] eT) aa rfl (Ma _) aa aa;refine ⟨Pv,λEY Jh ahB=> ?_⟩;obtain ⟨f8,wO,hn8,x8,UT,-⟩:=hres8 EY Jh ahB;have xa:=Ext.al AV.drew (.cells #[y.1,y.2.1,y.2.2,(gA (level+1))] eT);have Z9:∀b,Bn.bg=some b->uh.heap.size<=b/\b<wr.heap.size:=λb hb=>ho.own.lt hb
   have kp:∀j,(j<uh.heap.size\/wr.heap.size<=j)->j<AV.drew.heap.size->Jh.heap[j]? =(AV.drew.alloc (.cells #[y.1,y.2.1,y.2.2,(gA (level+1))] eT)).heap[j]? :=λj hj hj2=>by rw [UT j (λhb=>by have:=Z9 j hb;omega) hj2,xa.heap hj2]
   refine ⟨kp _ (.inl aa) aa,kp _ (.inl aa) aa,kp _ (.inr aa) aa,f8,n-1,by omega,rfl,rfl,j+1,wk,by omega,?_,(Below.trans (xr.tr xd) x8:Below uh uh Jh)⟩;rw [kJ,sP,aT,aT,Xx (by simpa using h3)];exact wO
  ·refine ⟨n-1,by omega,rfl,rfl,j+1,wk,by omega,?_,xr.tr (pa.tr B3)⟩;rw [kJ,sP,aT,aT,QP (by simpa using h3)];simpa using ho.ext (pa.tr B3)
 ·replace hb:=fh hb;have ht:(aQ c).take j=aQ c:=dn (by have:(aQ c).length=4:=rfl;omega);rw [ht] at ho;exact ⟨Bn,rfl,ho.low aa,xr0⟩
def QQ{b:Int}(h:fp b=true):0<=dp b/\dp b<=7:=by unfold dp;rw [h,if_pos rfl];unfold fp at h;simp only [gy,bB] at h;omega
def JT{v:Value}{V:Ce->Int}{w:World}(hV:Tl v V w)(c:Ce)(hc:dB c):
  ah 92 #[v,iS c] w λe w'=>∃s:Sl,e=s/\ak w eT 4 w' s ((jq V c).map fq)/\Ext w w':=by
 apply Nu.vc;intro w0 e0;have x0:=bq e0;have z0:=du e0;have r0:Row w0 w (ef c) iE:=Row.nw e0;refine dW ((hV.ext x0).at hc.ok) ?_;rintro e w1 ⟨rfl,x1⟩;have z1:=x1.size;have oN:=x0.tr x1;refine ⟨_,rfl,x1.heap aa,(ru (V c) w1).mono ?_⟩;rintro e w3 ⟨rfl,rfl⟩;unfold jq;refine ⟨_,rfl,rfl,Br.mk (λh=> ?_) (λh=>(mV (V c) w3).mono ?_)⟩
 ·rw [if_pos (by simpa using h)];refine (Nv (hV.ext oN) c hc).mono ?_;rintro e w5 ⟨s,rfl,ho,x5⟩;exact ⟨s,rfl,x5.heap aa,s,rfl,ho.low aa,oN.tr x5⟩
 ·rintro e w7 ⟨rfl,rfl⟩;rw [if_neg (by simpa using h)];refine ⟨_,rfl,rfl,Br.mk (λh2=>(zm (V c) w7.drew).mono ?_) (λh2=> ?_)⟩
  ·rintro e w9 ⟨rfl,rfl⟩;rw [h2,if_pos rfl];have xd:=oN.tr (Ext.dr w7);have zd:=lW w7;refine ⟨_,rfl,rfl,Lo.wv (r0.ext (x1.tr (Ext.dr w7))),(JQ (hV.ext xd) c hc (dp (V c)) (QQ h2)).mono ?_⟩;rintro e cH ⟨s,rfl,ho,bV⟩;exact ⟨s,rfl,bV.heap aa,s,rfl,ho.low aa,xd.tr bV⟩
  ·rw [h2,if_neg aE];exact ⟨⟨none,0,0⟩,rfl,ak.nil,oN⟩
end Go.Proofs.YtalpkjfpmdpbiaaGreatDoor
