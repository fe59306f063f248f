import Derived.Test.YtkkkfkopcfdmaaaGreatDoorH
import Derived.Test.YtkkkfkopcfdmaaaGreatDoorD
set_option linter.all false
namespace Go.Proofs.YtkkkfkopcfdmaaaGreatDoor
open Go Go.Vc Go.RowKit Go.Proofs Go.dJ Go.bj Go.Code Go.gg Go.fR Go.jV
set_option maxRecDepth 100000
abbrev sB:TypeId:=56
abbrev kQ:TypeId:=111
abbrev dZ:=ef ×(Int × Int × Bool)
abbrev J7(x:dZ):LV:=[.int .i64 x.1.aI.1,.int .i64 x.1.aI.2.1,.int .i64 x.1.aI.2.2,.int .i64 x.1.speed.1,.int .i64 x.1.speed.2.1,.int .i64 x.1.speed.2.2,.int .i64 x.1.wd,.int .i64 x.1.ht,.bool x.1.gV,.int .i64 x.2.1,.int .i64 x.2.2.1,.bool x.2.2.2]
abbrev pA(a:Option Nat):Value:=.pointer (a.map λb=>⟨b,0,none⟩)
structure EL(w:World)(av:List (Option Nat))(L:List (Option dZ)):Prop where
 n:av.length=16
 m:L.length=16
 s:∀(i a:Nat),av[i]? =some (some a)->∃x,L[i]? =some (some x)/\Row w a (J7 x) kQ
 z:∀i:Nat,av[i]? =some none->L[i]? =some none
 d:∀(i j a:Nat),av[i]? =some (some a)->av[j]? =some (some a)->i=j
def EF(F:Nat->Prop)(w:World)(g s o t:Nat)(M:Sm)(occ:Value)(L:List (Option dZ)):Prop:=
 ∃(Fs:Nat->Prop)(av:List (Option Nat)),Row w g (.pointer (some ⟨s,0,none⟩)::av.map pA) sB/\SF Fs w s o t M occ/\EL w av L/\F=λi=>i=g\/Fs i\/some i ∈ av
abbrev jh(F:Nat->Prop)(w:World)(g s o t:Nat)(M:Sm)(occ:Value)(L:List (Option dZ))(w':World):Prop:=∃F',EF F' w' g s o t M occ L/\aM F F' w w'
theorem oA:(Dq sB/\sB≠qL/\sB≠kc/\sB≠zL/\sB≠Q.gK/\sB≠Q.cC/\sB≠pM)/\(Dq kQ/\kQ≠qL/\kQ≠kc/\kQ≠zL/\kQ≠Q.gK/\kQ≠Q.cC/\kQ≠pM)/\sB≠kQ:=by decide
theorem pq{av:List (Option Nat)}{a:Nat}(h:some a ∈ av):∃i:Nat,av[i]? =some (some a):=List.mem_iff_getElem?.1 h
section
variable {F F':Nat->Prop} {w w':World} {g s o t:Nat} {M M':Sm} {occ:Value} {L:List (Option dZ)}
theorem EL.same{av:List (Option Nat)}(h:EL w av L)(hk:∀a,some a ∈ av->w'.heap[a]? =w.heap[a]?):EL w' av L:=
 ⟨h.n,h.m,λi a hi=>by obtain ⟨x,h1,h2⟩:=h.s i a hi;exact ⟨x,h1,h2.same (hk a (bg hi))⟩,h.z,h.d⟩
theorem EL.lt{av:List (Option Nat)}(h:EL w av L){a:Nat}(ha:some a ∈ av):a<w:=by obtain ⟨i,hi⟩:=pq ha;obtain ⟨x,-,h2⟩:=h.s i a hi;exact h2.lt
theorem EF.lt(h:EF F w g s o t M occ L){i:Nat}(hi:F i):i<w:=by
 obtain ⟨Fs,av,h1,h2,h3,rfl⟩:=h;rcases hi with rfl|hi|hi
 ·exact h1.lt
 ·exact h2.lt hi
 ·exact h3.lt hi
theorem EF.same(h:EF F w g s o t M occ L)(hk:∀i,F i->w'.heap[i]? =w.heap[i]?):EF F w' g s o t M occ L:=by obtain ⟨Fs,av,h1,h2,h3,rfl⟩:=h;exact ⟨Fs,av,h1.same (hk _ (.inl rfl)),h2.same λi hi=>hk i (.inr (.inl hi)),h3.same λa ha=>hk a (.inr (.inr ha)),rfl⟩
theorem EF.ext(h:EF F w g s o t M occ L)(x:Ext w w'):EF F w' g s o t M occ L:=h.same λ_ hi=>x.heap (h.lt hi)
theorem EF.vb(h:EF F w g s o t M occ L):∃Fs,SF Fs w s o t M occ/\Vc.ld w (af (some ⟨g,0,none⟩) 0)=some (.pointer (some ⟨s,0,none⟩))/\(∀i,Fs i->F i)/\∀{w':World} {M':Sm} {occ':Value},lR Fs w s o t M' occ' w'->jh F w g s o t M' occ' L w':=by
 obtain ⟨Fs,av,h1,h2,h3,rfl⟩:=h;refine ⟨Fs,h2,h1.at 0 rfl,λi hi=> .inr (.inl hi),?_⟩;rintro w' M' occ' ⟨F',h',ht⟩;have ng:¬Fs g:=h2.jG h1 oA.1.1 oA.1.2.1 oA.1.2.2.1 oA.1.2.2.2.1 oA.1.2.2.2.2.1 oA.1.2.2.2.2.2.1 oA.1.2.2.2.2.2.2;have na:∀a,some a ∈ av->¬Fs a:=λa ha=>by obtain ⟨i,hi⟩:=pq ha;obtain ⟨x,-,hr⟩:=h3.s i a hi;exact h2.jG hr oA.2.1.1 oA.2.1.2.1 oA.2.1.2.2.1 oA.2.1.2.2.2.1 oA.2.1.2.2.2.2.1 oA.2.1.2.2.2.2.2.1 oA.2.1.2.2.2.2.2.2
 refine ⟨_,⟨F',av,ht.mod.row h1 ng,h',h3.same λa ha=>ht.mod.same a (h3.lt ha) (na a ha),rfl⟩,ht.mod.mono λi _ hi=> .inr (.inl hi),λi hi=> ?_⟩;rcases hi with hi|hi|hi
 ·exact .inl (.inl hi)
 ·exact (ht.sub i hi).imp (λq=> .inr (.inl q)) id
 ·exact .inl (.inr (.inr hi))
theorem EF.row(h:EF F w g s o t M occ L):∃av,Row w g (.pointer (some ⟨s,0,none⟩)::av.map pA) sB/\EL w av L/\F g/\(∀a,some a ∈ av->F a)/\∀{w':World} {av':List (Option Nat)} {L':List (Option dZ)},Mod (λi=>i=g\/some i ∈ av) w w'->Row w' g (.pointer (some ⟨s,0,none⟩)::av'.map pA) sB->EL w' av' L'->(∀a,some a ∈ av'->some a ∈ av\/w.heap.size<=a)->jh F w g s o t M occ L' w':=by
 obtain ⟨Fs,av,h1,h2,h3,rfl⟩:=h;refine ⟨av,h1,h3,.inl rfl,λa ha=> .inr (.inr ha),?_⟩;intro w' av' L' hm hr he eL;have ng:¬Fs g:=h2.jG h1 oA.1.1 oA.1.2.1 oA.1.2.2.1 oA.1.2.2.2.1 oA.1.2.2.2.2.1 oA.1.2.2.2.2.2.1 oA.1.2.2.2.2.2.2;have na:∀a,some a ∈ av->¬Fs a:=λa ha=>by obtain ⟨i,hi⟩:=pq ha;obtain ⟨x,-,hr⟩:=h3.s i a hi;exact h2.jG hr oA.2.1.1 oA.2.1.2.1 oA.2.1.2.2.1 oA.2.1.2.2.2.1 oA.2.1.2.2.2.2.1 oA.2.1.2.2.2.2.2.1 oA.2.1.2.2.2.2.2.2
 refine ⟨_,⟨Fs,av',hr,h2.same λi hi=>hm.same i (h2.lt hi) λq=> ?_,he,rfl⟩,hm.mono λi _ hi=>hi.elim .inl λq=> .inr (.inr q),λi hi=> ?_⟩
 ·rcases q with rfl|q
  ·exact ng hi
  ·exact na i q hi
 ·rcases hi with hi|hi|hi
  ·exact .inl (.inl hi)
  ·exact .inl (.inr (.inl hi))
  ·exact (eL i hi).imp (λq=> .inr (.inr q)) id
theorem EF.tl(h:EF F w g s o t M occ L):Tl (.func (.func 83) #[t] #[]) (gy M.T.2) w:=by obtain ⟨Fs,h1,-,-⟩:=h.vb;exact h1.tl
theorem kU(h:EF F w g s o t M occ L):ah 47 #[g] w λe w'=>e=Value.func (.func 83) #[t] #[]/\w'=w:=by obtain ⟨Fs,h1,h2,-,-⟩:=h.vb;obtain ⟨Fw,hW,-,-⟩:=h1.world;apply vS.vc;refine ⟨_,h2,(fO h1).mono ?_⟩;rintro e w1 ⟨rfl,rfl⟩;refine ⟨_,rfl,(fl hW).mono ?_⟩;rintro e w2 ⟨rfl,rfl⟩;exact ⟨_,rfl,rfl,rfl⟩
theorem Uk(h:EF F w g s o t M occ L):ah 41 #[g] w λe w'=>e=Value.pointer (some ⟨s,0,none⟩)/\w'=w:=by obtain ⟨Fs,h1,h2,-,-⟩:=h.vb;apply xS.vc;exact ⟨_,h2,rfl,rfl⟩
theorem xU(v:Ce):pn (br v)/\Tz (pos (br v)):=by have h:=ui v;unfold pn inI Tz Go.dJ.pos;simp only;omega
abbrev nR(M:Sm)(b:ef):Bool:=Dr M.T.2 (br b.aI)
theorem Bn(h:EF F w g s o t M occ L)(b:ef):ah 45 #[g,BV b] w λe w'=>e=Value.bool (nR M b)/\Ext w w':=by
 apply uI.vc;intro w0 e0;have x0:Ext w w0.drew:=(aL e0).drew;have z0:w0.drew.heap.size=w.heap.size+1:=by show w0.heap.size=_;rw [e0];simp
 have r0:Row w0.drew w (jo b) y9:=by rw [e0];exact (Row.new w [_,_,_,_,_,_,_,_,_] _).ext (Ext.dr _)
 obtain ⟨Fs,h1,h2,-,-⟩:=(h.ext x0).vb;refine ⟨_,h2,(fO h1).mono ?_⟩;rintro e w2 ⟨rfl,hw⟩;subst hw;refine ⟨_,rfl,rfl,qe r0 rfl rfl rfl,(xM b.aI w0.drew).mono ?_⟩;rintro e w4 ⟨rfl,x4⟩;obtain ⟨Fw,hW,-,-⟩:=(h1.ext x4).world;refine ⟨_,_,_,rfl,x4.heap ab,(td hW (br b.aI) (xU _).1 (xU _).2).mono ?_⟩;rintro e w8 ⟨rfl,x8⟩;have z4:=x4.size;exact ⟨_,rfl,x8.heap ab,rfl,x0.tr (x4.tr x8)⟩
end
def within(v:Ce)(m:Int):Bool:=decide (-m<=min (min v.1 v.2.1) v.2.2) && decide (max (max v.1 v.2.1) v.2.2<=m)
def ef.may(b:ef):Bool:=decide (2<=b.wd) &&(decide (b.wd<=131072) &&(decide (1<=b.ht) &&(decide (b.ht<=262144) &&(within b.aI 70368744177664 && within b.speed 262144))))
theorem Bo(v:Ce)(m:Int)(hm:0<=m/\m<=140737488355328)(w:World):ah 99 #[dY v,m] w λe w'=>e=Value.bool (within v m)/\Ext w w':=by
 apply Lp.vc;intro w0 e0;have x0:=aL e0;have e1:(if v.2.2<(if v.2.1<v.1 then v.2.1 else v.1) then v.2.2 else (if v.2.1<v.1 then v.2.1 else v.1))=min (min v.1 v.2.1) v.2.2:=by
  repeat' split
  all_goals omega
 have e2:(if v.2.2>(if v.2.1>v.1 then v.2.1 else v.1) then v.2.2 else (if v.2.1>v.1 then v.2.1 else v.1))=max (max v.1 v.2.1) v.2.2:=by
  repeat' split
  all_goals omega
 have e3:aj (0-m)= -m:=by rw [wI];omega
 rw [e1,e2,e3];unfold within;apply Br.mk<;>intro h
 ·have h: -m<=min (min v.1 v.2.1) v.2.2:=by simpa using h
  exact ⟨by rw [decide_eq_true h,Bool.true_and],x0⟩
 ·have h:¬-m<=min (min v.1 v.2.1) v.2.2:=by simpa using h
  exact ⟨by rw [decide_eq_false h,Bool.false_and],x0⟩
theorem X6(b:ef)(w:World):ah 44 #[BV b] w λe w'=>e=Value.bool b.may/\Ext w w':=by
 apply X7.vc;intro w0 e0;have x0:=aL e0;have z0:=eG e0;unfold ef.may;refine Br.mk (λh1=>Br.mk (λh2=>Br.mk (λh3=>Br.mk (λh4=>(Bo b.aI _ aF w0).mono ?_) (λh4=> ?_)) (λh3=> ?_)) (λh2=> ?_)) (λh1=> ?_)
 ·rintro e w1 ⟨rfl,x1⟩;have z1:=x1.size;have h1:2<=b.wd:=by simpa using h1
  have h2:b.wd<=131072:=by simpa using h2
  have h3:1<=b.ht:=by simpa using h3
  have h4:b.ht<=262144:=by simpa using h4
  rw [decide_eq_true h1,decide_eq_true h2,decide_eq_true h3,decide_eq_true h4];refine ⟨_,rfl,x1.heap ab,Br.mk (λh5=>(Bo b.speed _ aF w1).mono ?_) (λh5=>⟨by rw [h5];rfl,x0.tr x1⟩)⟩;rintro e w3 ⟨rfl,x3⟩;exact ⟨_,rfl,x3.heap ab,by rw [h5];rfl,x0.tr (x1.tr x3)⟩
 ·have h4:¬b.ht<=262144:=by simpa using h4
  exact ⟨by rw [decide_eq_false h4];simp,x0⟩
 ·have h3:¬1<=b.ht:=by simpa using h3
  exact ⟨by rw [decide_eq_false h3];simp,x0⟩
 ·have h2:¬b.wd<=131072:=by simpa using h2
  exact ⟨by rw [decide_eq_false h2];simp,x0⟩
 ·have h1:¬2<=b.wd:=by simpa using h1
  exact ⟨by rw [decide_eq_false h1];simp,x0⟩
theorem IS{w:World}{g:Nat}{p:Value}{av:List (Option Nat)}{τ:TypeId}(hr:Row w g (p::av.map pA) τ){k:Nat}{a:Option Nat}(ha:av[k]? =some a):Vc.ld w (af (af (some ⟨g,0,none⟩) 1) (((k:Nat):Int).toNat*1))=some (pA a):=by rw [dw,ej,Nat.mul_one];refine hr.at (1+k) ?_;rw [Nat.add_comm,Bm,aU,ha];rfl
theorem vD{w:World}{g:Nat}{p:Value}{av:List (Option Nat)}{τ:TypeId}(hr:Row w g (p::av.map pA) τ)(hn:av.length=16):
  ah 43 #[.slice (aJ (af (some ⟨g,0,none⟩) 1) 0 16 1) (16-0) (16-0),.pointer none] w λe w'=>e=Value.int .i64 (cj (λa:Option Nat=>a.isNone) av)/\w'=w:=by
 apply (yf.vc (a0:=⟨aJ (af (some ⟨g,0,none⟩) 1) 0 16 1,16-0,16-0⟩));rw [ed];refine ⟨λn x wr=>∃k:Nat,x=k/\k+n=16/\wr=w/\∀j,j<k->∀y,av[j]? =some y->y.isNone=false,⟨16,0,rfl,rfl,rfl,λj hj=>by omega⟩,?_⟩;rintro n us x wr ⟨k,rfl,hk,rfl,mF⟩;apply Br.mk<;>intro hb
 ·have hb:(k:Int)<((16-0:Nat):Int):=by simpa using hb
  obtain ⟨a,ha⟩:=bI (l:=av) (i:=k) ab;refine ⟨⟨rfl,by omega,hb⟩,_,IS hr ha,?_⟩
  cases a with
  |none=>exact ⟨congrArg (λn=>Ending.returned (.int .i64 n)) (nv ha rfl mF).symm,rfl⟩
  |some b=>
   refine bE.2 ⟨λp hp=>by rw [List.mem_singleton.1 hp],?_⟩;have wk:=mz (j:=k);refine eZ rfl ⟨n-1,by omega,k+1,wk,by omega,rfl,λj hj y hy=> ?_⟩;by_cases q:j<k
   ·exact mF j q y hy
   ·rw [show j=k from by omega,ha] at hy;rw [<-Option.some.inj hy];rfl
 ·have hb:¬(k:Int)<((16-0:Nat):Int):=by simpa using hb
  refine ⟨congrArg (λn=>Ending.returned (.int .i64 n)) (iB λy hy=> ?_).symm,rfl⟩;obtain ⟨j,hj⟩:=List.mem_iff_getElem?.1 hy;have:=(cG.1 hj).1;exact mF j ab y hj
abbrev oX(L:List (Option dZ)):Int:=cj (λx:Option dZ=>x.isNone) L
section
variable {F F':Nat->Prop} {w w':World} {g s o t:Nat} {M M':Sm} {occ:Value} {L:List (Option dZ)}
theorem EL.yg{av:List (Option Nat)}(h:EL w av L)(i:Nat):(av[i]? =some none ↔ L[i]? =some none):=by
 refine ⟨h.z i,λhl=> ?_⟩;have hi:i<16:=by rw [<-h.m];exact (cG.1 hl).1
 obtain ⟨a,ha⟩:=bI (l:=av) (i:=i) (by rw [h.n];exact hi)
 cases a with
 |none=>exact ha
 |some a=>
  obtain ⟨x,hx,-⟩:=h.s i a ha;rw [hx] at hl
  cases hl
theorem EL.free{av:List (Option Nat)}(h:EL w av L):cj (λa:Option Nat=>a.isNone) av=oX L:=by
 rcases fg (λa:Option Nat=>a.isNone) av with ⟨e,mF⟩|⟨k,x,hx,hq,e,gZ⟩
 ·rw [e];refine (iB λy hy=> ?_).symm;obtain ⟨i,hi⟩:=List.mem_iff_getElem?.1 hy
  cases y with
  |some y=>rfl
  |none=>
   have:=mF none (bg ((h.yg i).2 hi))
   cases this
 ·rw [e]
  cases x with
  |some x=>cases hq
  |none=>
   refine (nv ((h.yg k).1 hx) rfl λj hj y hy=> ?_).symm
   cases y with
   |some y=>rfl
   |none=>exact absurd (gZ j hj none ((h.yg j).2 hy)) bB
def dn(M:Sm)(L:List (Option dZ))(b:ef):Int × Int × List (Option dZ):=
 if b.may=false then (-1,1,L) else if oX L<0 then (-1,8,L) else if nR M b=false then (-1,11,L) else if jO (gy M.T.2) b.box aE=true then (-1,12,L)
 else (oX L,0,L.set (oX L).toNat (some ({b with gV:=jO (gy M.T.2) (iz b.box) aE},(0,0,false))))
abbrev fe(aI:Ce)(wd ht:Int):ef:=⟨aI,(0,0,0),wd,ht,false⟩
theorem EF.res(h:EF F w g s o t M occ L)(x:Ext w w'):jh F w g s o t M occ L w':=⟨F,h.ext x,aM.aD x⟩
set_option maxHeartbeats 1000000 in
theorem C6(h:EF F w g s o t M occ L)(aI:Ce)(wd ht:Int)(hw:inI wd):ah 11 #[g,dY aI,wd,ht] w λe w'=>
  e=Value.tuple #[.int .i64 (dn M L (fe aI wd ht)).1,.int .i64 (dn M L (fe aI wd ht)).2.1]/\jh F w g s o t M occ (dn M L (fe aI wd ht)).2.2 w':=by
 apply uM.vc;intro w0 e0 w1 e1 w2 e2;have x0:=aL e0;have z0:=eG e0;have x2:Ext w0 w2:=(aL e1).ae e2 (aB _);have z2:=BI e1 e2;have r2:Row w2 w0 (jo (fe aI wd ht)) y9:=by rw [e2];exact Row.set (by rw [e1];exact Row.new w0 [_,_,_,_,_,_,_,_,_] _) _
 have yM:=x0.tr x2;obtain ⟨av,cO,jn,-⟩:=(h.ext yM).row;refine (vD cO jn.n).mono ?_;rintro e w3 ⟨rfl,Ol⟩;subst Ol;rw [jn.free];refine ⟨_,rfl,rfl,rfl,(X6 (fe aI wd ht) w3).mono ?_⟩;rintro e w5 ⟨rfl,x5⟩;have z5:=x5.size;refine ⟨_,rfl,x5.heap ab,x5.heap ab,Br.mk (λq=> ?_) (λq=>Br.mk (λq2=> ?_) (λq2=>(Bn (h.ext (yM.tr x5)) (fe aI wd ht)).mono ?_))⟩
 ·have q:(fe aI wd ht).may=false:=by simpa using q
  unfold dn;rw [if_pos q];exact ⟨rfl,h.res (yM.tr x5)⟩
 ·have q:¬(fe aI wd ht).may=false:=by simpa using q
  have q2:oX L<0:=by simpa using q2
  unfold dn;rw [if_neg q,if_pos q2];exact ⟨rfl,h.res (yM.tr x5)⟩
 have q:¬(fe aI wd ht).may=false:=by simpa using q
 have q2:¬oX L<0:=by simpa using q2
 unfold dn;rw [if_neg q,if_neg q2];rintro e w7 ⟨rfl,x7⟩;have z7:=x7.size;have zd7:=lG w7;have x07:=yM.tr (x5.tr x7);refine ⟨_,rfl,x7.heap ab,x7.heap ab,Br.mk (λq3=> ?_) (λq3=>(kU (h.ext (x07.drew))).mono ?_)⟩
 ·have q3:nR M (fe aI wd ht)=false:=by simpa using q3
  rw [if_pos q3];exact ⟨rfl,h.res x07⟩
 have q3:¬nR M (fe aI wd ht)=false:=by simpa using q3
 rw [if_neg q3];rintro e w9 ⟨rfl,hw9⟩;subst hw9;have r9:=r2.ext ((x5.tr x7).drew);have h9:=h.ext x07.drew;refine ⟨_,rfl,rfl,rfl,Lo.wv r9,(cP (fe aI wd ht) hw w7.drew).mono ?_⟩;rintro e aY ⟨rfl,bC⟩;have z11:=bC.size;refine ⟨_,_,_,_,_,_,rfl,bC.heap ab,bC.heap ab,(mZ (h9.ext bC).tl rfl (fe aI wd ht).box).mono ?_⟩;rintro e dG ⟨rfl,cp⟩;have z18:=cp.size;have Rh:=x07.drew.tr (bC.tr cp);refine ⟨_,rfl,cp.heap ab,cp.heap ab,Br.mk (λq4=> ?_) (λq4=>(kU (h.ext Rh.drew)).mono ?_)⟩
 ·rw [if_pos q4];exact ⟨rfl,h.res Rh⟩
 rw [if_neg (by rw [q4];decide)];rintro e fx ⟨rfl,aq1⟩;subst aq1;have r20:=r9.ext ((bC.tr cp).drew);have h20:=h.ext Rh.drew;have ayb:=lG dG;refine ⟨_,rfl,rfl,rfl,Lo.wv r20,(cP (fe aI wd ht) hw dG.drew).mono ?_⟩;rintro e dT ⟨rfl,dN⟩;have z22:=dN.size;refine ⟨_,_,_,_,_,_,rfl,dN.heap ab,dN.heap ab,(lM (h20.ext dN).tl rfl (fe aI wd ht).box).mono ?_⟩;rintro e dR ⟨rfl,gd⟩;have z29:=gd.size;have alx:=Rh.drew.tr (dN.tr gd);refine ⟨_,rfl,gd.heap ab,gd.heap ab,λfJ e31 lv Rj=> ?_⟩;generalize gG:jO (gy M.T.2) (iz (fe aI wd ht).box) aE=st at*;have ic:Ext w fJ.drew:=(alx.ae e31 ab).drew;have z31:fJ.drew.heap.size=dR.heap.size:=by show fJ.heap.size=_;rw [e31,setRow_size]
 have ig:Ext w lv:=ic.bn Rj;have z32:lv.heap.size=dR.heap.size+1:=by rw [Rj];simp [z31]
 have r32:Row lv fJ.drew.heap.size (J7 ({fe aI wd ht with gV:=st},(0,0,false))) kQ:=Row.nw Rj;obtain ⟨av,hrow0,hel0,hFg,hFa,bw⟩:=h.row;have cO:=hrow0.ext ig;have jn:=hel0.same (w':=lv) λa ha=>ig.heap (hel0.lt ha)
 have hgl:=h.lt hFg;have Kj:=jn.free;obtain ⟨k,hk,hkL,hka⟩:∃k:Nat,oX L=k/\L[k]? =some none/\av[k]? =some none:=by
  rcases fg (λx:Option dZ=>x.isNone) L with ⟨e,-⟩|⟨k,x,hx,hq,e,-⟩
  ·exact absurd (show oX L= -1 from e) ab
  ·cases x with
   |some x=>cases hq
   |none=>exact ⟨k,e,hx,(jn.yg k).2 hx⟩
 have uR:k<16:=by rw [<-jn.m];exact (cG.1 hkL).1
 rw [hk];have hpb:bD (af (af (some ⟨g,0,none⟩) 1) (((k:Nat):Int).toNat*1))=some g:=by rw [cV,cV];rfl
 obtain ⟨p1,p2⟩:=cO.je (j:=1+k) (v:=.pointer (some ⟨fJ.drew.heap.size,0,none⟩)) (by simp [jn.n];omega) rfl;have hpp:af (af (some ⟨g,0,none⟩) 1) (((k:Nat):Int).toNat*1)=af (some ⟨g,0,none⟩) (1+k):=by rw [dw,ej,Nat.mul_one]
 have hgn:g<w:=hgl;rw [hpb];refine ⟨by omega,by omega,⟨rfl,by rw [hpp];exact p1⟩,λq=>by have:=Option.some.inj q;omega,λq=>by have:=Option.some.inj q;omega,λq=>by have:=Option.some.inj q;omega,λeM M5=>⟨rfl,?_⟩⟩;rw [hpp] at M5;obtain ⟨q1,q2⟩:=p2 eM M5;have q1:Row eM g (.pointer (some ⟨s,0,none⟩)::(av.set k (some fJ.drew.heap.size)).map pA) sB:=by
  have e:aR (Value.pointer (some ⟨s,0,none⟩)::av.map pA) (1+k) [.pointer (some ⟨fJ.drew.heap.size,0,none⟩)]=.pointer (some ⟨s,0,none⟩)::(av.set k (some fJ.drew.heap.size)).map pA:=by show (Value.pointer (some ⟨s,0,none⟩)::av.map pA).set (1+k) _=_;rw [Nat.add_comm,List.set_cons_succ,List.map_set];rfl
  rw [<-e];exact q1
 have halt:∀a,some a ∈ av->a<w.heap.size:=λa ha=>h.lt (hFa a ha)
 have iM:∀a,some a ∈ av->a≠g:=λa ha q=>by subst q;obtain ⟨i,hi⟩:=pq ha;obtain ⟨x,-,hr⟩:=jn.s i a hi;exact cO.ne hr oA.2.2 rfl
 have oJ:∀(i a:Nat),(av.set k (some fJ.drew.heap.size))[i]? =some (some a)->(i=k/\a=fJ.drew.heap.size)\/(i≠k/\av[i]? =some (some a)):=λi a hi=>by
  by_cases q:i=k
  ·subst q;rw [oP (by rw [jn.n];exact uR)] at hi;exact .inl ⟨rfl,(Option.some.inj (Option.some.inj hi)).symm⟩
  ·rw [List.getElem?_set_ne (Ne.symm q)] at hi;exact .inr ⟨q,hi⟩
 have hE:EL eM (av.set k (some fJ.drew.heap.size)) (L.set k (some ({fe aI wd ht with gV:=st},(0,0,false)))):=by
  refine ⟨by rw [iq];exact jn.n,by rw [iq];exact jn.m,λi a hi=> ?_,λi hi=> ?_,λi j a hi hj=> ?_⟩
  ·rcases oJ i a hi with ⟨rfl,rfl⟩|⟨q,hi'⟩
   ·refine ⟨_,oP (by rw [jn.m];exact uR),r32.same (q2.same _ ab ab)⟩
   ·obtain ⟨x,hx,hr⟩:=jn.s i a hi';exact ⟨x,by rw [List.getElem?_set_ne (Ne.symm q)];exact hx,hr.same (q2.same _ hr.lt (iM a (bg hi')))⟩
  ·by_cases q:i=k
   ·subst q;rw [oP (by rw [jn.n];exact uR)] at hi
    cases hi
   ·rw [List.getElem?_set_ne (Ne.symm q)] at hi ⊢;exact jn.z i hi
  ·rcases oJ i a hi with ⟨rfl,rfl⟩|⟨q,hi'⟩
   ·rcases oJ j _ hj with ⟨rfl,-⟩|⟨q',hj'⟩
    ·rfl
    ·have:=halt _ (bg hj');omega
   ·rcases oJ j a hj with ⟨rfl,rfl⟩|⟨q',hj'⟩
    ·have:=halt _ (bg hi');omega
    ·exact jn.d i j a hi' hj'
 exact bw ((Mod.aD ig).trans (q2.mono λi _ hi=> .inl hi)) q1 hE λa ha=>by
  obtain ⟨i,hi⟩:=pq ha;rcases oJ i a hi with ⟨-,rfl⟩|⟨-,hi'⟩
  ·have:=alx.size;exact .inr ab
  ·exact .inl (bg hi')
end
section
variable {F F':Nat->Prop} {w w':World} {g s o t:Nat} {M M':Sm} {occ:Value} {L:List (Option dZ)}
theorem CS{p:Value}{av:List (Option Nat)}{τ:TypeId}(hr:Row w g (p::av.map pA) τ)(hn:av.length=16)(n:Int):
  ah 50 #[g,n] w λe w'=>∃a:Option Nat,e=(pA a)/\w'=w/\((∃k:Nat,n=k/\k<16/\av[k]? =some a)\/¬(0<=n/\n<16)/\a=none):=by
 apply Ax.vc;refine Br.mk (λh=>⟨none,rfl,rfl,.inr ⟨?_,rfl⟩⟩) (λh=>Br.mk (λh2=>⟨none,rfl,rfl,.inr ⟨?_,rfl⟩⟩) (λh2=> ?_))
 ·have h:n<0:=by simpa using h
  omega
 ·have h2:n>=16:=by simpa using h2
  omega
 ·have h:¬n<0:=by simpa using h
  have h2:¬n>=16:=by simpa using h2
  obtain ⟨k,rfl⟩:∃k:Nat,n=k:=⟨n.toNat,by omega⟩;obtain ⟨a,ha⟩:=bI (l:=av) (i:=k) ab;exact ⟨by omega,by omega,_,IS hr ha,a,rfl,rfl,.inl ⟨k,rfl,by omega,ha⟩⟩
def cc(L:List (Option dZ))(n:Int):Option dZ:=if 0<=n then (L[n.toNat]?).join else none
def pT(L:List (Option dZ))(n:Int):Int × List (Option dZ):=if (cc L n).isNone then (6,L) else (0,L.set n.toNat none)
theorem EL.ajI{av:List (Option Nat)}(h:EL w av L){k:Nat}{a:Option Nat}(ha:av[k]? =some a):(cc L k).isNone=a.isNone:=by
 unfold cc;rw [if_pos ab,ej]
 cases a with
 |none=>rw [h.z k ha];rfl
 |some a=>
  obtain ⟨x,hx,-⟩:=h.s k a ha;rw [hx];rfl
theorem qv(hL:L.length=16){n:Int}(h:¬(0<=n/\n<16)):cc L n=none:=by
 unfold cc;split
 ·rw [ju ab];rfl
 ·rfl
theorem Tm(h:EF F w g s o t M occ L)(n:Int):ah 13 #[g,n] w λe w'=>e=Value.int .i64 (pT L n).1/\jh F w g s o t M occ (pT L n).2 w':=by
 obtain ⟨av,cO,jn,hFg,hFa,bw⟩:=h.row;apply wi.vc;refine (CS cO jn.n n).mono ?_;rintro e w0 ⟨a,rfl,rfl,hc⟩;refine ⟨_,rfl,?_⟩;unfold pT;rcases hc with ⟨k,rfl,hk,ha⟩|⟨iX,rfl⟩
 ·rw [jn.ajI ha]
  cases a with
  |none=>exact yes rfl ⟨rfl,h.res (Ext.cE _)⟩
  |some a=>
   refine eZ rfl ?_;have hpp:af (af (some ⟨g,0,none⟩) 1) (((k:Nat):Int).toNat*1)=af (some ⟨g,0,none⟩) (1+k):=by rw [dw,ej,Nat.mul_one]
   obtain ⟨p1,p2⟩:=cO.je (j:=1+k) (v:=.pointer none) (by simp [jn.n];omega) rfl;refine ⟨by omega,by omega,⟨rfl,by rw [hpp];exact p1⟩,λw2 e2=>⟨rfl,?_⟩⟩;rw [hpp] at e2;obtain ⟨q1,q2⟩:=p2 w2 e2;have q1:Row w2 g (.pointer (some ⟨s,0,none⟩)::(av.set k none).map pA) sB:=by
    have e:aR (Value.pointer (some ⟨s,0,none⟩)::av.map pA) (1+k) [.pointer none]=.pointer (some ⟨s,0,none⟩)::(av.set k none).map pA:=by show (Value.pointer (some ⟨s,0,none⟩)::av.map pA).set (1+k) _=_;rw [Nat.add_comm,List.set_cons_succ,List.map_set];rfl
    rw [<-e];exact q1
   have iM:∀a,some a ∈ av->a≠g:=λa ha q=>by subst q;obtain ⟨i,hi⟩:=pq ha;obtain ⟨x,-,hr⟩:=jn.s i a hi;exact cO.ne hr oA.2.2 rfl
   have oJ:∀(i a:Nat),(av.set k none)[i]? =some (some a)->i≠k/\av[i]? =some (some a):=λi a hi=>by
    by_cases q:i=k
    ·subst q;rw [oP (by rw [jn.n];exact hk)] at hi
     cases hi
    ·rw [List.getElem?_set_ne (Ne.symm q)] at hi;exact ⟨q,hi⟩
   show jh F w0 g s o t M occ (L.set ((k:Nat):Int).toNat none) w2;refine bw (q2.mono λi _ hi=> .inl hi) q1 ⟨by rw [iq];exact jn.n,by rw [iq];exact jn.m,λi a hi=> ?_,λi hi=> ?_,λi j a hi hj=> ?_⟩ λa ha=> ?_
   ·obtain ⟨q,hi'⟩:=oJ i a hi;obtain ⟨x,hx,hr⟩:=jn.s i a hi';exact ⟨x,by rw [ej,List.getElem?_set_ne (Ne.symm q)];exact hx,hr.same (q2.same _ hr.lt (iM a (bg hi')))⟩
   ·rw [ej];by_cases q:i=k
    ·subst q;exact oP (by rw [jn.m];exact hk)
    ·rw [List.getElem?_set_ne (Ne.symm q)] at hi ⊢;exact jn.z i hi
   ·exact jn.d i j a (oJ i a hi).2 (oJ j a hj).2
   ·obtain ⟨i,hi⟩:=pq ha;exact .inl (bg (oJ i a hi).2)
 ·rw [qv jn.m iX];exact yes rfl ⟨rfl,h.res (Ext.cE _)⟩
def cg(L:List (Option dZ)):List Int:=((List.range 16).filter λi=>(cc L (i:Nat)).isSome).map λi:Nat=>(i:Int)
theorem R1{α:Type}{l:List α}(h:l.length=16):∃a b c d e f g h i j k m n o p q,l=[a,b,c,d,e,f,g,h,i,j,k,m,n,o,p,q]:=by
 match l,h with
 | [a,b,c,d,e,f,g,h,i,j,k,m,n,o,p,q],_=>exact ⟨a,b,c,d,e,f,g,h,i,j,k,m,n,o,p,q,rfl⟩
set_option maxHeartbeats 1000000 in
theorem HL(h:EF F w g s o t M occ L):ah 12 #[g] w λe w'=>∃sl:Sl,e=Value.slice sl.a sl.n sl.c/\aC w 3 1 w' sl ((cg L).map λi=> [.int .i64 i])/\Ext w w':=by
 obtain ⟨av,cO,jn,-⟩:=h.row;apply wm.vc;have jq:ag w (af (some ⟨g,0,none⟩) 1) 0 (av.map pA):=by rw [bf];exact cO.bZ λj hj=>by rw [show 0+1+j=j+1 from by omega,Bm]
 have eN:∀k:Nat,k<16->∃a:Option Nat,(av.map pA)[((k:Nat):Int).toNat*1]? =some (pA a)/\(cc L k).isNone=a.isNone:=λk hk=>by obtain ⟨a,ha⟩:=bI (l:=av) (i:=k) (by rw [jn.n];exact hk);exact ⟨a,by rw [ej,Nat.mul_one,aU,ha];rfl,jn.ajI ha⟩
 obtain ⟨b0,b1,b2,b3,b4,b5,b6,b7,b8,b9,b10,W3,Q1,Fg,b14,SZ,rfl⟩:=R1 jn.n;refine ⟨_,_,_,_,_,_,_,_,_,_,_,_,_,_,_,_,jq,λn x sl wr=>∃k:Nat,x=k/\k+n=16/\aC w 3 1 wr sl ((((List.range k).filter λi=>(cc L (i:Nat)).isSome).map λi:Nat=>(i:Int)).map λi=> [.int .i64 i])/\Ext w wr,⟨16,0,rfl,rfl,aC.nil,Ext.cE _⟩,?_⟩;rintro n us x sl wr ⟨k,rfl,hk,ho,xr⟩;have zr:=xr.size;apply Br.mk<;>intro hb
 ·replace hb:=mh hb;obtain ⟨a,ha,hl⟩:=eN k ab;have wk:=mz (j:=k);have dI:sl.n<=16:=by have h1:=(ho.rd (show 0<1 by decide)).n;have h2:=List.length_filter_le (λi=>(cc L (i:Nat)).isSome) (List.range k);rw [aN,aN] at h1;rw [Bk] at h2;omega
  refine ⟨⟨by omega,by omega⟩,_,ha,Br.mk (λhq=>λfZ GJ=> ?_) (λhq=> ?_)⟩
  ·subst GJ;have hsome:(cc L (k:Nat)).isSome=true:=by
    cases a with
    |none=>exact absurd hq bB
    |some a=>
     cases hL:cc L k with
     |none=>rw [hL] at hl;cases hl
     |some y=>rfl
   obtain ⟨Cq,hres8⟩:=ho.iO (bytes:=8) (news:=[.int .i64 (k:Int)]) (.cells #[.int .i64 (k:Int)] 3) ab rfl (te _ _) ab ab;refine ⟨Cq,λs25 fi arJ=> ?_⟩;obtain ⟨f8,xc,hn8,x8,Fc,-⟩:=hres8 s25 fi arJ;refine ⟨f8,n-1,by omega,k+1,wk,by omega,?_,(Below.trans xr x8:Below w w fi)⟩;rw [List.range_succ,oY,bU,bU,List.filter_cons_of_pos (by simpa using hsome)];exact xc
  ·have hnone:(cc L (k:Nat)).isSome=false:=by
    cases a with
    |some a=>exact absurd hq bB
    |none=>
     cases hL:cc L k with
     |none=>rfl
     |some y=>rw [hL] at hl;cases hl
   refine ⟨n-1,by omega,k+1,wk,by omega,?_,xr⟩;rw [List.range_succ,oY,bU,bU,List.filter_cons_of_neg (by rw [hnone];decide)];simpa using ho
 ·replace hb:=my hb;have uR:k=16:=by omega
  subst uR;exact ⟨sl,rfl,ho,xr⟩
end
abbrev M0e(ar cap room bud:Int):Sm:=⟨ar,min (max cap 1) 16,(KA room,[]),[],⟨4096,0,[]⟩,min (max bud 1) 64,0,[]⟩
abbrev noL:List (Option dZ):=List.replicate 16 none
theorem HN(ar cap room bud:Int)(w:World):ah 38 #[.agg #[ar,cap,room,bud]] w λe w'=>
  ∃(g s o t:Nat)(F:Nat->Prop),e=Value.pointer (some ⟨g,0,none⟩)/\EF F w' g s o t (M0e ar cap room bud) (.func (.func 98) #[] #[]) noL/\Ext w w'/\∀i,F i->w.heap.size<=i:=by
 apply Qe.vc;intro w0 e0;have x0:Ext w w0.drew:=(aL e0).drew;have z0:w0.drew.heap.size=w.heap.size+1:=by show w0.heap.size=_;rw [e0];simp
 have r0:∃τ,Row w0.drew w [ar,cap,room,bud] τ:=⟨_,by rw [e0];exact (Row.new w [_,_,_,_] _).ext (Ext.dr _)⟩;obtain ⟨τ,r0⟩:=r0;refine (Hc ar cap room w0.drew).mono ?_;rintro e w1 ⟨o,t,Fw,rfl,hW,x1,fW⟩;have z1:=x1.size;refine ⟨_,rfl,x1.heap ab,kB (r0.ext x1) rfl,(Bu hW bud).mono ?_⟩;rintro e w3 ⟨s,F,rfl,hS,x3,fS⟩;have z3:=x3.size;refine ⟨_,rfl,x3.heap ab,λw5 e5=> ?_⟩;have x5:=aL e5;have r5:Row w5 w3 (.pointer (some ⟨s,0,none⟩)::(List.replicate 16 none).map pA) sB:=Row.nw e5;have mF:∀(i a:Nat),(List.replicate 16 (none:Option Nat))[i]? =some (some a)->False:=λi a hi=>by
  have:=List.eq_of_mem_replicate (bg hi)
  cases this
 have jn:EL w5 (List.replicate 16 none) noL:=⟨rfl,rfl,λi a hi=>(mF i a hi).elim,λi hi=>List.getElem?_replicate_of_lt (by
  have FD:=(cG.1 hi).1;rw [Ev] at FD;exact FD),λi j a hi=>(mF i a hi).elim⟩
 refine ⟨w3.heap.size,s,o,t,_,rfl,⟨F,_,r5,hS.ext x5,jn,rfl⟩,x0.tr (x1.tr (x3.tr x5)),λi hi=> ?_⟩;rcases hi with rfl|hi|hi
 ·omega
 ·rcases fS i hi with q|q
  ·have:=fW i q;omega
  ·omega
 ·cases List.eq_of_mem_replicate hi
theorem agS(ar limit room:Int){l:List En}(hl:(l.length:Int)<limit){p:Po}(hp:sM p)(hn:∀e ∈ l,e.1≠p):Gk ar limit (KA room) l p=((KA room,l++ [(p,made ar p,false,0)]),0):=by
 have hr:fo limit (KA room) l=((KA room,l),0):=by unfold fo;rw [if_pos hl]
 have hd:(Hf (KA room) (BL p)).1=[]:=by unfold KA;rw [acB]
 have hf:cj (λe:En=>e.1==p) l= -1:=iB λy hy=>by simpa using hn y hy
 unfold Gk;rw [if_neg (by simpa using hp),if_neg (by rw [hf];decide),hr,if_neg bB];simp only [hd,QH]
def xH:List Po:=[(-1,-1),(-1,0),(-1,1),(0,-1),(0,0),(0,1),(1,-1),(1,0),(1,1)]
def l9(ar:Int)(k:Nat):List En:=(xH.take k).map λp=>(p,made ar p,false,0)
theorem agT(ar:Int){k:Nat}(hk:k<=9):(l9 ar k).length=k:=by unfold l9;rw [aN,du];have:xH.length=9:=rfl;omega
theorem IG{k:Nat}{p:Po}(hp:xH[k]? =some p):sM p/\p ∉ xH.take k:=by
 have hk:k<9:=(cG.1 hp).1;have:k=0\/k=1\/k=2\/k=3\/k=4\/k=5\/k=6\/k=7\/k=8:=by omega
 rcases this with rfl|rfl|rfl|rfl|rfl|rfl|rfl|rfl|rfl<;>(cases hp;decide)
theorem ado(ar:Int){k:Nat}{p:Po}(hp:xH[k]? =some p):l9 ar (k+1)=l9 ar k++ [(p,made ar p,false,0)]:=by unfold l9;rw [dD,hp,bU];rfl
theorem ajW(ar cap room:Int)(hc:9<=cap){k:Nat}{p:Po}(hp:xH[k]? =some p):Gk ar cap (KA room) (l9 ar k) p=((KA room,l9 ar (k+1)),0):=by
 have hk:k<9:=(cG.1 hp).1;rw [agS ar cap room (by rw [agT ar ab];omega) (IG hp).1 (λe he q=>by obtain ⟨x,hx,rfl⟩:=aZ.1 he;exact (IG hp).2 (q▸hx)),ado ar hp]
theorem adp{i j:Nat}(hi:i<3)(hj:j<3):xH[3*i+j]? =some (-1+(i:Int),-1+(j:Int)):=by
 have h1:i=0\/i=1\/i=2:=by omega
 have h2:j=0\/j=1\/j=2:=by omega
 rcases h1 with rfl|rfl|rfl<;>rcases h2 with rfl|rfl|rfl<;>rfl
theorem Fa{F:Nat->Prop}{w:World}{o t:Nat}{ar cap room:Int}(h:WF F w o t ar cap (KA room,l9 ar 0) [])(hc:9<=cap):
  ah 42 #[o] w λe w'=>e=true/\FV F w o t ar cap (KA room,l9 ar 9) [] w':=by
 apply QU.vc;refine (oT h).mono ?_;rintro e w0 ⟨rfl,rfl⟩;refine ⟨_,rfl,eZ rfl ⟨λn x wr=>∃(i:Nat)(F':Nat->Prop),x= -1+i/\i+n=3/\WF F' wr o t ar cap (KA room,l9 ar (3*i)) []/\aM F F' w0 wr,⟨3,0,F,rfl,rfl,h,aM.refl _ _⟩,?_⟩⟩;rintro n us x wr ⟨i,F1,rfl,hi,h1,t1⟩;apply Br.mk<;>intro hb
 ·have hb: -1+(i:Int)<2:=by simpa using hb
  refine ⟨λm y wr=>∃(j:Nat)(F':Nat->Prop),y= -1+j/\j+m=3/\WF F' wr o t ar cap (KA room,l9 ar (3*i+j)) []/\aM F F' w0 wr,⟨3,0,F1,rfl,rfl,h1,t1⟩,?_⟩;rintro m wX y QY ⟨j,F2,rfl,hj,h2,t2⟩;apply Br.mk<;>intro jC
  ·have jC: -1+(j:Int)<2:=by simpa using jC
   have hp:=adp (i:=i) (j:=j) ab ab;have jq:=ajW ar cap room hc hp;refine (sT h2 (Nat.zero_le _) (-1+(i:Int),-1+(j:Int))).mono ?_;rintro e bP ⟨rfl,hr⟩;rw [jq] at hr;obtain ⟨F3,h3,t3⟩:=hr;refine ⟨_,rfl,?_⟩;have wk:aj (-1+(j:Int)+1)= -1+((j+1:Nat):Int):=by rw [wI];omega
   refine eZ (by rw [jq];rfl) ⟨m-1,by omega,j+1,F3,wk,by omega,h3,t2.trans t3⟩
  ·have jC:¬-1+(j:Int)<2:=by simpa using jC
   have hj3:j=3:=by omega
   subst hj3;have wk:aj (-1+(i:Int)+1)= -1+((i+1:Nat):Int):=by rw [wI];omega
   exact ⟨n-1,by omega,i+1,F2,wk,by omega,by rw [show 3*(i+1)=3*i+3 from by omega];exact h2,t2⟩
 ·have hb:¬-1+(i:Int)<2:=by simpa using hb
  have hi3:i=3:=by omega
  subst hi3;exact ⟨rfl,F1,h1,t1⟩
abbrev M9e(ar cap bud:Int):Sm:=⟨ar,min (max cap 1) 16,(KA 1000000,l9 ar 9),[],⟨4096,0,[]⟩,min (max bud 1) 64,0,[]⟩
abbrev tk:TypeId:=101
abbrev Bb:TypeId:=117
abbrev zl:LV:=[.bool false,.int .i64 0,.int .i64 0,.int .i64 0,.int .i64 0,.int .i64 0,.int .i64 0,.int .i64 0,.int .i64 0,.bool false,.int .i64 0,.int .i64 0,.bool false]
abbrev V2:Value:=.func (.func 98) #[] #[]
set_option maxHeartbeats 1000000 in
theorem IH(ar bud cap:Int)(hc:9<=cap)(w:World):ah 9 #[ar,bud,cap] w λe w'=>
  ∃(g s o t:Nat)(F:Nat->Prop)(m b s' o' t':Nat)(F':Nat->Prop),e=Value.tuple #[g,m]/\EF F w' g s o t (M9e ar cap bud) V2 noL/\
   SF F' w' s' o' t' (M9e ar cap bud) V2/\Row w' m [o',s',.slice (some ⟨b,0,none⟩) 16 16] tk/\Row w' b (bu zl 16) Bb/\
   (∀i,F i->¬F' i)/\(∀i,F i->w.heap.size<=i)/\(∀i,F' i->w.heap.size<=i)/\w.heap.size<=m/\w.heap.size<=b/\Ext w w':=by
 have Wc:9<=min (max cap 1) 16:=by omega
 apply MV.vc;refine (HN ar cap 1000000 bud w).mono ?_;rintro e w0 ⟨g,s,o,t,F,rfl,hE,x0,fF⟩;have z0:=x0.size;refine ⟨_,rfl,(Hc ar cap 1000000 w0).mono ?_⟩;rintro e w2 ⟨o',t',Fw,rfl,hW,x2,fW⟩;have z2:=x2.size;refine ⟨_,rfl,eZ rfl (eZ rfl ((Bu hW bud).mono ?_))⟩;rintro e w4 ⟨s',Fm,rfl,hS,x4,fS⟩;have z4:=x4.size;have BH:=x0.tr (x2.tr x4);have hE4:=hE.ext (x2.tr x4);have hdj:∀i,F i->¬Fm i:=λi hi hm=>by
  have:=hE.lt hi;rcases fS i hm with q|q
  ·have:=fW i q;omega
  ·omega
 have fM:∀i,Fm i->w.heap.size<=i:=λi hi=>by
  rcases fS i hi with q|q
  ·have:=fW i q;omega
  ·omega
 refine ⟨_,rfl,eZ rfl (fU rfl (fU rfl ?_))⟩;obtain ⟨Fs,hs,jq,-,-⟩:=hE4.vb;obtain ⟨Fv,hV,-,-⟩:=hs.world;refine ⟨_,jq,(fO hs).mono ?_⟩;rintro e w7 ⟨rfl,hw7⟩;subst hw7;refine ⟨_,rfl,eZ rfl ((Uk hE4).mono ?_)⟩;rintro e w9 ⟨rfl,hw9⟩;subst hw9;obtain ⟨Fu,hU,-,bw⟩:=hS.world;refine ⟨_,rfl,eZ rfl ((fl hU).mono ?_)⟩;rintro e aY ⟨rfl,Ro⟩;subst Ro;refine ⟨_,rfl,?_⟩;rw [LP,Bw,pU];refine eZ rfl (fU rfl (fU rfl ⟨_,jq,(fO hs).mono ?_⟩));rintro e bP ⟨rfl,aiw⟩;subst aiw;refine ⟨_,rfl,(fl hV).mono ?_⟩;rintro e cJ ⟨rfl,atL⟩;subst atL;refine ⟨_,rfl,?_⟩;rw [LP,Bw,pU];refine eZ rfl ((Fa (room:=1000000) hU Wc).mono ?_);rintro e dG ⟨rfl,hr⟩;obtain ⟨F2,Rw,t2⟩:=bw hr;have atM:EF F dG g s o t _ V2 noL:=hE4.same λi hi=>t2.mod.same i (hE4.lt hi) (hdj i hi)
 have hdj2:∀i,F i->¬F2 i:=λi hi hm=>by
  rcases t2.sub i hm with q|q
  ·exact hdj i hi q
  ·have:=hE4.lt hi;omega
 obtain ⟨atN,fM2⟩:=t2.fresh BH fM;refine ⟨_,rfl,eZ rfl (fU rfl (fU rfl ?_))⟩;obtain ⟨Fs,hs,jq,-,hresE⟩:=atM.vb;obtain ⟨Fv,hV,-,hresS⟩:=hs.world;refine ⟨_,jq,(fO hs).mono ?_⟩;rintro e eK ⟨rfl,atO⟩;subst atO;refine ⟨_,rfl,(Fa (room:=1000000) hV Wc).mono ?_⟩;rintro e eh ⟨rfl,hr⟩;obtain ⟨F3,hE3,t3⟩:=hresE (hresS hr);have atP:SF F2 eh s' o' t' (M9e ar cap bud) V2:=Rw.same λi hi=>t3.mod.same i (Rw.lt hi) λq=>hdj2 i q hi
 have hdj3:∀i,F3 i->¬F2 i:=λi hi hm=>by
  rcases t3.sub i hi with q|q
  ·exact hdj2 i q hm
  ·have:=Rw.lt hm;omega
 obtain ⟨amW,fF3⟩:=t3.fresh atN fF;have z23:=amW.size;refine ⟨_,rfl,eZ rfl ?_⟩;have last:∀cU:World,cU=eh.drew.alloc (.cells (bu zl (16:Int).toNat).toArray Bb)->∀fi:World,fi=cU.alloc (.cells #[o',s',.slice (some ⟨eh.drew.heap.size,0,none⟩) (16:Int).toNat (16:Int).toNat] tk)->
   ∃(g2 s2 o2 t2:Nat)(F:Nat->Prop)(m b s' o' t':Nat)(F':Nat->Prop),Ending.returned (.tuple #[g,.pointer (some ⟨cU.heap.size,0,none⟩)])=Value.tuple #[g2,m]/\EF F fi g2 s2 o2 t2 (M9e ar cap bud) V2 noL/\
   SF F' fi s' o' t' (M9e ar cap bud) V2/\Row fi m [o',s',.slice (some ⟨b,0,none⟩) 16 16] tk/\Row fi b (bu zl 16) Bb/\
   (∀i,F i->¬F' i)/\(∀i,F i->w.heap.size<=i)/\(∀i,F' i->w.heap.size<=i)/\w.heap.size<=m/\w.heap.size<=b/\Ext w fi:=by
  intro cU wK fi zk;have dQ:Ext eh cU:=(Ext.dr eh).bn wK;have fy:=aL zk;have z25:=dQ.size;have rb:Row cU eh.drew.heap.size (bu zl 16) Bb:=by rw [wK];exact Row.new eh.drew (bu zl 16) _
  have rm:Row fi cU [o',s',.slice (some ⟨eh.drew.heap.size,0,none⟩) 16 16] tk:=Row.nw zk;exact ⟨g,s,o,t,F3,_,_,_,_,_,F2,rfl,hE3.ext (dQ.tr fy),atP.ext (dQ.tr fy),rm,rb.ext fy,hdj3,fF3,fM2,by omega,z23,amW.tr (dQ.tr fy)⟩
 exact ⟨⟨by decide,λcU wK=>⟨⟨λfi zk=>last cU wK fi zk,λfi zk=>last cU wK fi zk⟩,λfi zk=>last cU wK fi zk⟩⟩,⟨by decide,λcU wK fi zk=>last cU wK fi zk⟩⟩
theorem Jj(w:World):ah 14 #[] w λe w'=>e=true/\Ext w w':=by
 apply MW.vc;refine (HN 0 1 0 0 w).mono ?_;rintro e w0 ⟨g,s,o,t,F,rfl,hE,x0,fF⟩;refine ⟨_,rfl,eZ rfl ((C6 hE (0,0,0) 100 100 (by unfold inI;omega)).mono ?_)⟩;have Oh:dn (M0e 0 1 0 0) noL (fe (0,0,0) 100 100)=(-1,11,noL):=by unfold dn;rw [if_neg aF,if_neg aF,if_pos aF]
 rw [Oh];rintro e w2 ⟨rfl,F2,-,t2⟩;exact ⟨_,_,rfl,yes rfl ⟨rfl,(t2.fresh x0 fF).1⟩⟩
set_option maxHeartbeats 8000000
set_option linter.unusedVariables false
variable {R:Ending->World->Prop} {w:World} {a0 a1 a2 a3 a4 a5 a6 a7 a8 a9 aA aq au aS aT aW bM bG bH Cr ak ao aw bz bT bR eW eX eD Cs bq bA bo wL wM uS uT wN wO wP Ct Cu Cv Cw Cx Cy Cz CA CB CC:Int}
theorem IK.vc{a0:Value}(h:
 Aw w #[ak,ao,aw,bz,bT,bR] 107 λw0=>
 ah 102 #[a0,.agg #[ak,ao,aw,bz,bT,bR],.func (.func 274) #[] #[]] w0 (Rb λb2 w1=>Kp w w0 w1/\
 R b2 w1)):ah 234 #[a0,.agg #[ak,ao,aw,bz,bT,bR]] w R:=
 cq bV Tryz.func234 h
theorem TJ.vc{a0:Value}(h:
 Aw w #[ak,ao,aw,bz,bT,bR] 107 λw0=>
 ah 102 #[a0,.agg #[ak,ao,aw,bz,bT,bR],.func (.func 202) #[] #[]] w0 (Rb λb2 w1=>Kp w w0 w1/\
 R b2 w1)):ah 235 #[a0,.agg #[ak,ao,aw,bz,bT,bR]] w R:=
 cq bV Tryz.func235 h
theorem IL.vc(h:
 R (Value.bool (a0==4)) w):ah 274 #[a0] w R:=
 cq bV Tryz.func274 h
theorem IM.vc(h:
 Aw w #[aA,aq,au,aS,aT,aW] 107 λw0=>
 Aw w0 #[a1] 3 λw1=>
 Aw w1 #[a2] 3 λw2=>
 R (Value.func (.func 322) #[] #[w,.pointer (some ⟨w0,0,none⟩),.pointer (some ⟨w1,0,none⟩)]) w2):ah 311 #[.agg #[aA,aq,au,aS,aT,aW],a1,a2] w R:=
 cq bV Tryz.func311 h
theorem DJ.vc{a0:Value}{c0:Addr}{c1:Addr}{c2:Addr}(h:
 ∃(x0 x1 x2:Int),ag w.drew (af (some c0) 0) 0 [x0,x1,x2]/\
 ∃(x3:Int),ld w.drew (some c1)=some (.int .i64 x3)/\
 ∃(x4 x5 x6:Int),ag w.drew (af (some c0) 3) 0 [x4,x5,x6]/\
 ∃(x7:Int),ld w.drew (some c1)=some (.int .i64 x7)/\
 ah 178 #[.agg #[x0,x1,x2],x3] w.drew (λe w8=>∃(x9:Int),e=x9/\
 ag w8 (some c1) 0 [x7]/\ag w8 (af (some c0) 3) 0 [x4,x5,x6]/\ah 178 #[.agg #[x4,x5,x6],x7] w8 (λe bO=>∃(bC:Int),e=bC/\
 ∃(bN:Int),ld bO (some c2)=some (.int .i64 bN)/\
 Br (bN>0)
 (ah 152 #[(aj ((aj (bC+65536))-1))] bO (λe bJ=>∃(bX:Int),e=bX/\
 ∃I15:Nat->Int->World->Prop,
 (∃Ke,I15 Ke bX bJ)/\
 ∀(Ke:Nat)(apN:Nat->Value)(cp:Int)(fP:World),I15 Ke cp fP->
 ∃(dh:Int),ld fP.drew (some c2)=some (.int .i64 dh)/\
 ah 174 #[cp] fP.drew (λe dT=>∃(dz:Int),e=dz/\
 ag dT (some c2) 0 [dh]/\Br (decide (dz<(aj (bC+dh))))
 (ah 174 #[cp] dT (λe fZ=>∃(dQ:Int),e=dQ/\
 cr Tryz.prog a0 [cp,(aj (dQ-bC))] fZ (λe fi=>∃(AM:Bool),e=AM/\
 Br (!AM)
 (R sY fi)
 (∃Q3,Q3<Ke/\I15 Q3 ((aj (cp+1))) fi))))
 (R sY dT))))
 (ah 152 #[x9] bO (λe gN=>∃(gd:Int),e=gd/\
 ∃I30:Nat->Int->World->Prop,
 (∃S0,I30 S0 ((aj (gd-1))) gN)/\
 ∀(S0:Nat)(apO:Nat->Value)(eF:Int)(jc:World),I30 S0 eF jc->
 ∃(nk:Int),ld jc.drew (some c2)=some (.int .i64 nk)/\
 ah 174 #[(aj (eF+1))] jc.drew (λe ie=>∃(gA:Int),e=gA/\
 ag ie (some c2) 0 [nk]/\Br (decide (gA>(aj (x9+nk))))
 (ah 174 #[(aj (eF+1))] ie (λe jX=>∃(mc:Int),e=mc/\
 cr Tryz.prog a0 [eF,(aj (mc-x9))] jX (λe gO=>∃(b42:Bool),e=b42/\
 Br (!b42)
 (R sY gO)
 (∃CD,CD<S0/\I30 CD ((aj (eF-1))) gO))))
 (R sY ie))))))):ah 322 #[a0,c0,c1,c2] w R:=
 cq ⟨[(3,⟨[(7,.int .i64)],[],[]⟩),(7,⟨[(8,.int .i64)],[],[]⟩)],[],[]⟩ Tryz.func322 h
theorem KN.vc(h:
 Aw w #[aA,aq,au,aS,aT,aW] 107 λw0=>
 Aw w0 #[aa,aa,aa,aa,aa,aa] 107 λw1=>
 ah 174 #[a2] w1.drew (Ri λx3 w2=>K2 w w0 w1.drew w2 (
 ag w2 (some ⟨w,3,none⟩) 0 [aS,aT,aW]/\ag w2 w 0 [aA,aq,au]/\ah 155 #[.agg #[aA,aq,au],a1,x3] w2 (iC λx5 x6 x7 w4=>K2 w w0 w2 w4 (
 ag w4 (some ⟨w,3,none⟩) 0 [aS,aT,aW]/\ah 174 #[(aj (a2+1))] w4 (Ri λx9 w8=>K2 w w0 w4 w8 (
 ag w8 (some ⟨w,3,none⟩) 0 [aS,aT,aW]/\ah 155 #[.agg #[aS,aT,aW],a1,x9] w8 (iC λbC bN cm bO=>K2 w w0 w8 bO (
 Sw bO w0 #[x5,x6,x7,bC,bN,cm] λbP=>
 R (Value.agg #[x5,x6,x7,bC,bN,cm]) bP))))))))):ah 312 #[.agg #[aA,aq,au,aS,aT,aW],a1,a2] w R:=
 cq bV Tryz.func312 h
theorem Pn.vc{a0:Value}(h:
 aP (j9 a0) (
 Aw w #[a0] 65 λw0=>
 Aw w0 #[ak,ao,aw,bz,bT,bR] 107 λw1=>
 Aw w1 #[a2] 3 λw2=>
 Aw w2 #[aa] 3 λw3=>
 Aw w3 #[false] 4 λw4=>
 Br (a2<0)
 (Sw w4 w2 #[aa] λw5=>
 Sw w5 w3 #[false] λw6=>
 R (Value.tuple #[aa,false]) w6)
 (Br (a2>=3)
 (Sw w4 w2 #[aa] λw7=>
 Sw w7 w3 #[false] λw8=>
 R (Value.tuple #[aa,false]) w8)
 (ah 311 #[.agg #[ak,ao,aw,bz,bT,bR],a2,.int .i64 (if 4194304<(if (-4194304)>a3 then (-4194304) else a3) then 4194304 else (if (-4194304)>a3 then (-4194304) else a3))] w4 (Rv λv10 w9=>K5 w w0 w1 w2 w3 w4 w9 (
 ∃(adH:List (LV))(akk F13:Nat->Prop)(I14:Nat->(Nat->Prop)->Int->Bool->World->Prop)(X15:Option Nat->(Nat->Prop)->Int->Bool->World->Prop),
 (∀x ∈ adH,∃(cD cY:Int),x=[.int .i64 cD,.int .i64 cY])/\
 (∀(n18:Nat)(F19:Nat->Prop)(cW:Int)(Kc:Bool)(dT eh:World),I14 n18 F19 cW Kc dT->Below w9 dT eh->(∀i,F19 i->eh.heap[i]? =dT.heap[i]?)->I14 n18 F19 cW Kc eh)/\
 (∀(n24:Option Nat)(F25:Nat->Prop)(fy:Int)(AM:Bool)(gN dR:World),X15 n24 F25 fy AM gN->Below w9 gN dR->(∀i,F25 i->dR.heap[i]? =gN.heap[i]?)->X15 n24 F25 fy AM dR)/\
 (∀(n30:Nat)(F31:Nat->Prop)(ig:Int)(b33:Bool)(jc:World),I14 n30 F31 ig b33 jc->∀i,F31 i->i<jc.heap.size/\i≠w9.heap.size/\i≠w9.heap.size+1)/\
 (∀(CD:Option Nat)(F36:Nat->Prop)(fB:Int)(b38:Bool)(jX:World),X15 CD F36 fB b38 jX->∀i,F36 i->i<jX.heap.size/\i≠w9.heap.size/\i≠w9.heap.size+1)/\
 (∀i,akk i->i<w9.heap.size/\¬F13 i/\i≠w.heap.size/\i≠w0.heap.size/\i≠w1.heap.size/\i≠w2.heap.size/\i≠w3.heap.size/\True)/\
 (∀jr:World,KO w9 w9 jr->Iter Tryz.prog (v10) jr akk adH/\aO [a0]/\aO [ak,ao,aw,bz,bT,bR]/\aO [a2]/\I14 0 F13 (0) false jr)/\
 (∀(n41:Nat)(F42:Nat->Prop)(axp:Nat->Value)(jY:Int)(M6:Bool)(gC ph:Int)(fY:World),adH[n41]? =some [.int .i64 gC,.int .i64 ph]->I14 n41 F42 jY M6 fY->
 Below fY fY fY/\∀lA:World,Rec (w9.heap.size+1) fY lA->I14 n41 F42 jY M6 lA->
 ah 312 #[.agg #[ak,ao,aw,bz,bT,bR],a2,gC] lA.drew (vG λmH lC iV pE kC qF mi=>K5 w w0 w1 w2 w3 lA.drew mi (
 ag mi w 0 [a0]/\ah 46 #[a0,.agg #[mH,lC,iV,pE,kC,qF]] mi (Rb λOb mR=>K5 w w0 w1 w2 w3 mi mR (
 Br Ob
 (Sw mR w2 #[ph] λxh=>
 Sw xh w3 #[true] λmQ=>
 true=true/\∃F61:Nat->Prop,(aO [a0]/\aO [ak,ao,aw,bz,bT,bR]/\aO [a2]/\X15 none F61 ph true mQ)/\Step (λi=>(F42 i\/i ∈([w.heap.size,w0.heap.size,w1.heap.size,w2.heap.size,w3.heap.size]:List Nat))\/fY.heap.size<=i) (λi=>F61 i\/i ∈([w.heap.size,w0.heap.size,w1.heap.size,w2.heap.size,w3.heap.size]:List Nat)) lA mQ)
 (∃F62:Nat->Prop,(aO [a0]/\aO [ak,ao,aw,bz,bT,bR]/\aO [a2]/\I14 (n41+1) F62 jY M6 mR)/\Step (λi=>(F42 i\/i ∈([w.heap.size,w0.heap.size,w1.heap.size,w2.heap.size,w3.heap.size]:List Nat))\/fY.heap.size<=i) (λi=>F62 i\/i ∈([w.heap.size,w0.heap.size,w1.heap.size,w2.heap.size,w3.heap.size]:List Nat)) lA mR))))))/\
 (∀(F63:Nat->Prop)(apQ:Nat->Value)(pj:Int)(b66:Bool)(kx:World),I14 adH.length F63 pj b66 kx->kx.heap[w9.heap.size]? =some (.deferred (some []))->
 Sw kx w2 #[.int .i64 (if 4194304<(if (-4194304)>a3 then (-4194304) else a3) then 4194304 else (if (-4194304)>a3 then (-4194304) else a3))] λsJ=>
 Sw sJ w3 #[false] λKf=>
 Kf.heap[w9.heap.size]? =some (.deferred (some []))/\∀np:World,Rec w9 Kf np->
 R (Value.tuple #[.int .i64 (if 4194304<(if (-4194304)>a3 then (-4194304) else a3) then 4194304 else (if (-4194304)>a3 then (-4194304) else a3)),false]) np)/\
 (∀(F71:Nat->Prop)(apG:Nat->Value)(me:Int)(b74:Bool)(qD:World),X15 none F71 me b74 qD->qD.heap[w9.heap.size]? =some (.deferred (some []))->
 qD.heap[w9.heap.size]? =some (.deferred (some []))/\∀jt:World,Rec w9 qD jt->
 R (Value.tuple #[me,b74]) jt))))))):ah 299 #[a0,.agg #[ak,ao,aw,bz,bT,bR],a2,a3] w R:=
 cq ⟨[],[],[(7,⟨[],[(3,[.int .i64]),(4,[.bool])],[]⟩,[.sc (.int .i64),.sc (.int .i64)])]⟩ Tryz.func299 h
theorem XJ.vc(h:
 Aw w #[aA,aq,au,aS,aT,aW] 107 λw0=>
 Aw w0 #[ak,ao,aw] 28 λw1=>
 Aw w1 #[aa,aa,aa,aa,aa,aa] 107 λw2=>
 ah 145 #[.agg #[aA,aq,au],.agg #[ak,ao,aw]] w2.drew (iC λx4 x5 x6 w3=>K3 w w0 w1 w2.drew w3 (
 ag w3 (some ⟨w0,0,none⟩) 0 [ak,ao,aw]/\ag w3 (some ⟨w,3,none⟩) 0 [aS,aT,aW]/\ah 145 #[.agg #[aS,aT,aW],.agg #[ak,ao,aw]] w3 (iC λx8 x9 bh w7=>K3 w w0 w1 w3 w7 (
 Sw w7 w1 #[x4,x5,x6,x8,x9,bh] λaY=>
 R (Value.agg #[x4,x5,x6,x8,x9,bh]) aY))))):ah 300 #[.agg #[aA,aq,au,aS,aT,aW],.agg #[ak,ao,aw]] w R:=
 cq bV Tryz.func300 h
theorem KP.vc{a0:Value}(h:
 Aw w #[ak,ao,aw,bz,bT,bR] 107 λw0=>
 Aw w0 #[aa,aa,aa,aa,aa,aa] 107 λw1=>
 ah 299 #[a0,.agg #[ak,ao,aw,bz,bT,bR],a2,a3] w1 (λe w2=>∃(x3:Int)(b4:Bool),e=Value.tuple #[x3,b4]/\K2 w w0 w1 w2 (
 ah 155 #[.agg #[aa,aa,aa],a2,x3] w2.drew (iC λx6 x7 x8 w5=>K2 w w0 w2.drew w5 (
 ag w5 w 0 [ak,ao,aw,bz,bT,bR]/\ah 300 #[.agg #[ak,ao,aw,bz,bT,bR],.agg #[x6,x7,x8]] w5 (vG λbh bC bN cm bX cA w9=>K2 w w0 w5 w9 (
 Sw w9 w0 #[bh,bC,bN,cm,bX,cA] λcJ=>
 R (Value.tuple #[.agg #[bh,bC,bN,cm,bX,cA],b4]) cJ))))))):ah 275 #[a0,.agg #[ak,ao,aw,bz,bT,bR],a2,a3] w R:=
 cq bV Tryz.func275 h
theorem O6.vc{a0:Value}(h:
 Aw w #[ak,ao,aw,bz,bT,bR] 107 λw0=>
 Aw w0 #[bq,bA,bo] 28 λw1=>
 Aw w1 #[aa,aa,aa,aa,aa,aa] 107 λw2=>
 Aw w2 #[false,false,false] 299 λw3=>
 Aw w3 #[false,false,false] 299 λw4=>
 ∃I5:Nat->Int->Int->Int->Int->Int->Int->Int->World->Prop,
 (∃n6,aO [bq,bA,bo]/\aO [aa,aa,aa,aa,aa,aa]/\I5 n6 (0) ak ao aw bz bT bR w4)/\
 ∀(n6:Nat)(us7:Nat->Value)(x8 x9 bh bC bN cm bX:Int)(eA:World),I5 n6 x8 x9 bh bC bN cm bX eA->
 Br (x8<3)
 (((0:Int)<=x8/\x8<((3:Nat):Int))/\∃(cY:Int),([(1:Int),aa,(2:Int)]:LV)[(x8:Int).toNat*1]? =some (.int .i64 cY)/\
 ah 178 #[.agg #[bq,bA,bo],cY] eA.drew (Ri λcn dG=>K3 w w0 w1 eA.drew dG (
 ag dG w 0 [x9,bh,bC,bN,cm,bX]/\ah 275 #[a0,.agg #[x9,bh,bC,bN,cm,bX],cY,cn] dG (λe fx=>∃(dh dN dz eE dQ fy:Int)(AM:Bool),e=Value.tuple #[.agg #[dh,dN,dz,eE,dQ,fy],AM]/\K3 w w0 w1 dG fx (
 Sw fx w #[dh,dN,dz,eE,dQ,fy] λgN=>
 (0:Int)<=cY/\cY<((3:Nat):Int)/\(true=true/\Wr gN (af (some ⟨w3,0,none⟩) ((cY:Int).toNat*1)) 1)/\bD (af (some ⟨w3,0,none⟩) ((cY:Int).toNat*1))≠some w.heap.size/\bD (af (some ⟨w3,0,none⟩) ((cY:Int).toNat*1))≠some w0.heap.size/\bD (af (some ⟨w3,0,none⟩) ((cY:Int).toNat*1))≠some w1.heap.size/\(∀dR,dR=aH gN (af (some ⟨w3,0,none⟩) ((cY:Int).toNat*1)) [.bool AM]->
 ∃Ke,Ke<n6/\aO [bq,bA,bo]/\aO [aa,aa,aa,aa,aa,aa]/\I5 Ke ((aj (x8+1))) dh dN dz eE dQ fy dR))))))
 (∃(Wh WY Wi:Bool),ag eA.drew (some ⟨w3,0,none⟩) 0 [.bool Wh,WY,Wi]/\
 Sw eA.drew w1 #[x9,bh,bC,bN,cm,bX] λeM=>
 ag eM (some ⟨w3,0,none⟩) 0 [.bool Wh,WY,Wi]/\Wt eM ⟨w2,0,none⟩ 3/\Nb w2 w/\Nb w2 w0/\Nb w2 w1/\(∀jc,jc=aH eM (some ⟨w2,0,none⟩) [.bool Wh,WY,Wi]->
 ∃(b35 b36 b37:Bool),ag jc (some ⟨w2,0,none⟩) 0 [.bool b35,b36,b37]/\
 R (Value.tuple #[.agg #[x9,bh,bC,bN,cm,bX],.agg #[b35,b36,b37]]) jc))):ah 240 #[a0,.agg #[ak,ao,aw,bz,bT,bR],.agg #[bq,bA,bo]] w R:=
 cq ⟨[(3,⟨[(12,.int .i64)],[(0,[.int .i64,.int .i64,.int .i64,.int .i64,.int .i64,.int .i64])],[]⟩)],[],[]⟩ Tryz.func240 h
theorem Pp.vc(h:
 Aw w #[aA,aq,au,aS,aT,aW] 107 λw0=>
 Aw w0 #[ak,ao,aw,bz,bT,bR] 107 λw1=>
 R ((aj ((if (aj (0-(aj (ak-aA))))>(aj (ak-aA)) then (aj (0-(aj (ak-aA)))) else (aj (ak-aA)))+(if (aj (0-(aj (aw-au))))>(aj (aw-au)) then (aj (0-(aj (aw-au)))) else (aj (aw-au)))))) w1.drew):ah 276 #[.agg #[aA,aq,au,aS,aT,aW],.agg #[ak,ao,aw,bz,bT,bR]] w R:=
 cq bV Tryz.func276 h
theorem Pq.vc{a0:Value}(h:
 Aw w #[ak,ao,aw,bz,bT,bR] 107 λw0=>
 Aw w0 #[bq,bA,bo] 28 λw1=>
 Aw w1 #[aa,aa,aa,aa,aa,aa] 107 λw2=>
 Aw w2 #[false,false,false] 299 λw3=>
 ah 240 #[a0,.agg #[ak,ao,aw,bz,bT,bR],.agg #[bq,bA,bo]] w3 (λe w4=>∃(x5 x6 x7 x8 x9 bh:Int)(W3 Q1 Fg:Bool),e=Value.tuple #[.agg #[x5,x6,x7,x8,x9,bh],.agg #[W3,Q1,Fg]]/\K3 w w0 w1 w3 w4 (
 Aw w4 #[aa,aa,aa,aa,aa,aa] 107 λbP=>
 Aw bP #[false,false,false] 299 λeA=>
 Sw eA w4 #[x5,x6,x7,x8,x9,bh] λcJ=>
 Wt cJ ⟨bP,0,none⟩ 3/\Nb bP w/\Nb bP w0/\Nb bP w1/\Nb bP w4/\(∀cL,cL=aH cJ (some ⟨bP,0,none⟩) [.bool W3,Q1,Fg]->
 ∃J18:World->Prop,
 ((0:Int)<=0/\(0:Int)<((3:Nat):Int)/\∃(b19:Bool),ld cL (af (some ⟨bP,0,none⟩) ((0:Int).toNat*1))=some (.bool b19)/\
 Br (!b19)
 ((0:Int)<=2/\(2:Int)<((3:Nat):Int)/\∃(b20:Bool),ld cL (af (some ⟨bP,0,none⟩) ((2:Int).toNat*1))=some (.bool b20)/\
 Br (!b20)
 (∃(Kc b22 Ig:Bool),ag cL.drew (some ⟨bP,0,none⟩) 0 [.bool Kc,b22,Ig]/\
 Sw cL.drew w1 #[x5,x6,x7,x8,x9,bh] λfZ=>
 ag fZ (some ⟨bP,0,none⟩) 0 [.bool Kc,b22,Ig]/\Wt fZ ⟨w2,0,none⟩ 3/\Nb w2 w/\Nb w2 w0/\Nb w2 w1/\Nb w2 w4/\(∀cU,cU=aH fZ (some ⟨w2,0,none⟩) [.bool Kc,b22,Ig]->
 ∃(Fj AM Od:Bool),ag cU (some ⟨w2,0,none⟩) 0 [.bool Fj,AM,Od]/\
 R (Value.tuple #[.agg #[x5,x6,x7,x8,x9,bh],.agg #[Fj,AM,Od]]) cU))
 (Br (a3<=0)
 (∃(b29 Wh WY:Bool),ag cL.drew (some ⟨bP,0,none⟩) 0 [.bool b29,Wh,WY]/\
 Sw cL.drew w1 #[x5,x6,x7,x8,x9,bh] λlv=>
 ag lv (some ⟨bP,0,none⟩) 0 [.bool b29,Wh,WY]/\Wt lv ⟨w2,0,none⟩ 3/\Nb w2 w/\Nb w2 w0/\Nb w2 w1/\Nb w2 w4/\(∀eM,eM=aH lv (some ⟨w2,0,none⟩) [.bool b29,Wh,WY]->
 ∃(b34 b35 b36:Bool),ag eM (some ⟨w2,0,none⟩) 0 [.bool b34,b35,b36]/\
 R (Value.tuple #[.agg #[x5,x6,x7,x8,x9,bh],.agg #[b34,b35,b36]]) eM))
 (ah 49 #[a0,.agg #[ak,ao,aw,bz,bT,bR]] cL (Rb λb38 ie=>K4 w w0 w1 w4 cL ie (
 Br (!b38)
 (∃(b39 b40 b41:Bool),ag ie.drew (some ⟨bP,0,none⟩) 0 [.bool b39,b40,b41]/\
 Sw ie.drew w1 #[x5,x6,x7,x8,x9,bh] λku=>
 ag ku (some ⟨bP,0,none⟩) 0 [.bool b39,b40,b41]/\Wt ku ⟨w2,0,none⟩ 3/\Nb w2 w/\Nb w2 w0/\Nb w2 w1/\Nb w2 w4/\(∀jd,jd=aH ku (some ⟨w2,0,none⟩) [.bool b39,b40,b41]->
 ∃(b44 M6 b46:Bool),ag jd (some ⟨w2,0,none⟩) 0 [.bool b44,M6,b46]/\
 R (Value.tuple #[.agg #[x5,x6,x7,x8,x9,bh],.agg #[b44,M6,b46]]) jd))
 (aO [ak,ao,aw,bz,bT,bR]/\aO [bq,bA,bo]/\aO [aa,aa,aa,aa,aa,aa]/\aO [x5,x6,x7,x8,x9,bh]/\J18 ie))))))
 (Br (a3<=0)
 (∃(b47 b48 b49:Bool),ag cL.drew (some ⟨bP,0,none⟩) 0 [.bool b47,b48,b49]/\
 Sw cL.drew w1 #[x5,x6,x7,x8,x9,bh] λmi=>
 ag mi (some ⟨bP,0,none⟩) 0 [.bool b47,b48,b49]/\Wt mi ⟨w2,0,none⟩ 3/\Nb w2 w/\Nb w2 w0/\Nb w2 w1/\Nb w2 w4/\(∀zf,zf=aH mi (some ⟨w2,0,none⟩) [.bool b47,b48,b49]->
 ∃(b52 b53 b54:Bool),ag zf (some ⟨w2,0,none⟩) 0 [.bool b52,b53,b54]/\
 R (Value.tuple #[.agg #[x5,x6,x7,x8,x9,bh],.agg #[b52,b53,b54]]) zf))
 (ah 49 #[a0,.agg #[ak,ao,aw,bz,bT,bR]] cL (Rb λb56 yQ=>K4 w w0 w1 w4 cL yQ (
 Br (!b56)
 (∃(Wj Ob b59:Bool),ag yQ.drew (some ⟨bP,0,none⟩) 0 [.bool Wj,Ob,b59]/\
 Sw yQ.drew w1 #[x5,x6,x7,x8,x9,bh] λmQ=>
 ag mQ (some ⟨bP,0,none⟩) 0 [.bool Wj,Ob,b59]/\Wt mQ ⟨w2,0,none⟩ 3/\Nb w2 w/\Nb w2 w0/\Nb w2 w1/\Nb w2 w4/\(∀oD,oD=aH mQ (some ⟨w2,0,none⟩) [.bool Wj,Ob,b59]->
 ∃(b62 b63 b64:Bool),ag oD (some ⟨w2,0,none⟩) 0 [.bool b62,b63,b64]/\
 R (Value.tuple #[.agg #[x5,x6,x7,x8,x9,bh],.agg #[b62,b63,b64]]) oD))
 (aO [ak,ao,aw,bz,bT,bR]/\aO [bq,bA,bo]/\aO [aa,aa,aa,aa,aa,aa]/\aO [x5,x6,x7,x8,x9,bh]/\J18 yQ))))))/\
 ∀apT:Nat->Value,∀(oK:World),J18 oK->
 ah 275 #[a0,.agg #[ak,ao,aw,bz,bT,bR],(1:Int),.int .i64 (if 65536<a3 then 65536 else a3)] oK (λe kx=>∃(mI oM nG mj ml me:Int)(b74:Bool),e=Value.tuple #[.agg #[mI,oM,nG,mj,ml,me],b74]/\K4 w w0 w1 w4 oK kx (
 Aw kx #[aa,aa,aa,aa,aa,aa] 107 λqD=>
 Sw qD kx #[mI,oM,nG,mj,ml,me] λjt=>
 Aw jt #[false,false,false] 299 λrJ=>
 Wt rJ ⟨jt,0,none⟩ 3/\Nb jt w/\Nb jt w0/\Nb jt w1/\Nb jt w4/\Nb jt kx/\(∀pk,pk=aH rJ (some ⟨jt,0,none⟩) [.bool false,true,false]->
 Aw pk #[aa,aa,aa,aa,aa,aa] 107 λW4=>
 Sw W4 pk #[mI,oM,nG,mj,ml,me] λuA=>
 ah 275 #[a0,.agg #[mI,oM,nG,mj,ml,me],(0:Int),bq] uA (λe uW=>∃(qG sQ xg AN Oe rK:Int)(b88:Bool),e=Value.tuple #[.agg #[qG,sQ,xg,AN,Oe,rK],b88]/\K6 w w0 w1 w4 kx pk uA uW (
 Sw uW pk #[qG,sQ,xg,AN,Oe,rK] λgf=>
 (0:Int)<=0/\(0:Int)<((3:Nat):Int)/\(true=true/\Wr gf (af (some ⟨jt,0,none⟩) ((0:Int).toNat*1)) 1)/\bD (af (some ⟨jt,0,none⟩) ((0:Int).toNat*1))≠some w.heap.size/\bD (af (some ⟨jt,0,none⟩) ((0:Int).toNat*1))≠some w0.heap.size/\bD (af (some ⟨jt,0,none⟩) ((0:Int).toNat*1))≠some w1.heap.size/\bD (af (some ⟨jt,0,none⟩) ((0:Int).toNat*1))≠some w4.heap.size/\bD (af (some ⟨jt,0,none⟩) ((0:Int).toNat*1))≠some kx.heap.size/\bD (af (some ⟨jt,0,none⟩) ((0:Int).toNat*1))≠some pk.heap.size/\(∀ow,ow=aH gf (af (some ⟨jt,0,none⟩) ((0:Int).toNat*1)) [.bool b88]->
 ah 275 #[a0,.agg #[qG,sQ,xg,AN,Oe,rK],(2:Int),bo] ow (λe Z2=>∃(zh uz vv pF pG C2:Int)(b98:Bool),e=Value.tuple #[.agg #[zh,uz,vv,pF,pG,C2],b98]/\K6 w w0 w1 w4 kx pk ow Z2 (
 Sw Z2 pk #[zh,uz,vv,pF,pG,C2] λOf=>
 (0:Int)<=2/\(2:Int)<((3:Nat):Int)/\(true=true/\Wr Of (af (some ⟨jt,0,none⟩) ((2:Int).toNat*1)) 1)/\bD (af (some ⟨jt,0,none⟩) ((2:Int).toNat*1))≠some w.heap.size/\bD (af (some ⟨jt,0,none⟩) ((2:Int).toNat*1))≠some w0.heap.size/\bD (af (some ⟨jt,0,none⟩) ((2:Int).toNat*1))≠some w1.heap.size/\bD (af (some ⟨jt,0,none⟩) ((2:Int).toNat*1))≠some w4.heap.size/\bD (af (some ⟨jt,0,none⟩) ((2:Int).toNat*1))≠some kx.heap.size/\bD (af (some ⟨jt,0,none⟩) ((2:Int).toNat*1))≠some pk.heap.size/\(∀rL,rL=aH Of (af (some ⟨jt,0,none⟩) ((2:Int).toNat*1)) [.bool b98]->
 ah 275 #[a0,.agg #[zh,uz,vv,pF,pG,C2],(1:Int),(aj (0-(aj (oM-ao))))] rL (λe kE=>∃(tU yS tV sL oN ox:Int)(apU:Bool),e=Value.tuple #[.agg #[tU,yS,tV,sL,oN,ox],apU]/\K6 w w0 w1 w4 kx pk rL kE (
 Sw kE pk #[tU,yS,tV,sL,oN,ox] λFl=>
 ah 276 #[.agg #[ak,ao,aw,bz,bT,bR],.agg #[tU,yS,tV,sL,oN,ox]] Fl.drew (Ri λmf Fo=>K6 w w0 w1 w4 kx pk Fl.drew Fo (
 ag Fo (some ⟨w4,0,none⟩) 0 [x5,x6,x7,x8,x9,bh]/\ag Fo w 0 [ak,ao,aw,bz,bT,bR]/\ah 276 #[.agg #[ak,ao,aw,bz,bT,bR],.agg #[x5,x6,x7,x8,x9,bh]] Fo (Ri λyT yU=>K6 w w0 w1 w4 kx pk Fo yU (
 Br (mf<=yT)
 (∃(ahl JR CE:Bool),ag yU.drew (some ⟨bP,0,none⟩) 0 [.bool ahl,JR,CE]/\
 Sw yU.drew w1 #[x5,x6,x7,x8,x9,bh] λAR=>
 ag AR (some ⟨bP,0,none⟩) 0 [.bool ahl,JR,CE]/\Wt AR ⟨w2,0,none⟩ 3/\Nb w2 w/\Nb w2 w0/\Nb w2 w1/\Nb w2 w4/\Nb w2 kx/\Nb w2 pk/\(∀Fp,Fp=aH AR (some ⟨w2,0,none⟩) [.bool ahl,JR,CE]->
 ∃(ako adM akp:Bool),ag Fp (some ⟨w2,0,none⟩) 0 [.bool ako,adM,akp]/\
 R (Value.tuple #[.agg #[x5,x6,x7,x8,x9,bh],.agg #[ako,adM,akp]]) Fp))
 (∃(ahm ahn aho:Bool),ag yU.drew (some ⟨jt,0,none⟩) 0 [.bool ahm,ahn,aho]/\
 Sw yU.drew w1 #[tU,yS,tV,sL,oN,ox] λFq=>
 ag Fq (some ⟨jt,0,none⟩) 0 [.bool ahm,ahn,aho]/\Wt Fq ⟨w2,0,none⟩ 3/\Nb w2 w/\Nb w2 w0/\Nb w2 w1/\Nb w2 w4/\Nb w2 kx/\Nb w2 pk/\(∀ahp,ahp=aH Fq (some ⟨w2,0,none⟩) [.bool ahm,ahn,aho]->
 ∃(akq Z3 akr:Bool),ag ahp (some ⟨w2,0,none⟩) 0 [.bool akq,Z3,akr]/\
 R (Value.tuple #[.agg #[tU,yS,tV,sL,oN,ox],.agg #[akq,Z3,akr]]) ahp))))))))))))))))))))):ah 236 #[a0,.agg #[ak,ao,aw,bz,bT,bR],.agg #[bq,bA,bo],a3] w R:=
 cq ⟨[],[(4,⟨[],[],[]⟩)],[]⟩ Tryz.func236 h
theorem BP.vc{aA:Bool}{aq:Bool}{au:Bool}(h:
 Aw w #[aA,aq,au] 299 λw0=>
 Aw w0 #[ak,ao,aw] 28 λw1=>
 Aw w1 #[aa,aa,aa] 28 λw2=>
 ∃(b3 b4 b5:Bool),ag w2 w 0 [.bool b3,b4,b5]/\
 ∃I6:Nat->Int->Int->Int->Int->World->Prop,
 (∃n7,aO [aa,aa,aa]/\I6 n7 (0) ak ao aw w2)/\
 ∀(n7:Nat)(us8:Nat->Value)(x9 bh bC bN:Int)(bJ:World),I6 n7 x9 bh bC bN bJ->
 Br (x9<3)
 (((0:Int)<=x9/\x9<((3:Nat):Int))/\∃(SZ:Bool),([.bool b3,b4,b5]:LV)[(x9:Int).toNat*1]? =some (.bool SZ)/\
 Br SZ
 (ah 155 #[.agg #[bh,bC,bN],x9,(0:Int)] bJ (iC λcY cp cn cJ=>K2 w0 w1 bJ cJ (
 Sw cJ w0 #[cY,cp,cn] λfx=>
 ∃FO,FO<n7/\aO [aa,aa,aa]/\I6 FO ((aj (x9+1))) cY cp cn fx)))
 (∃FO,FO<n7/\aO [aa,aa,aa]/\I6 FO ((aj (x9+1))) bh bC bN bJ))
 (Sw bJ w1 #[bh,bC,bN] λeK=>
 R (Value.agg #[bh,bC,bN]) eK)):ah 238 #[.agg #[aA,aq,au],.agg #[ak,ao,aw]] w R:=
 cq ⟨[(2,⟨[(8,.int .i64)],[(0,[.int .i64,.int .i64,.int .i64])],[]⟩)],[],[]⟩ Tryz.func238 h
theorem Gb.vc{bH:Bool}(h:
 Aw w #[aA,aq,au,aS,aT,aW,bM,bG,bH] 70 λw0=>
 Aw w0 #[ak,ao,aw] 28 λw1=>
 Aw w1 #[aa,aa,aa] 28 λw2=>
 ah 145 #[.agg #[aA,aq,au],.agg #[ak,ao,aw]] w2 (iC λx4 x5 x6 w3=>K3 w w0 w1 w2 w3 (
 Aw w3 #[aa,aa,aa] 28 λw7=>
 Sw w7 w3 #[x4,x5,x6] λw8=>
 ah 277 #[x4] w8.drew (Ri λbh w9=>K4 w w0 w1 w3 w8.drew w9 (
 ag w9 w 0 [aA,aq,au]/\ag w9 (some ⟨w3,2,none⟩) 0 [x6]/\ag w9 (some ⟨w3,1,none⟩) 0 [x5]/\ah 277 #[x5] w9 (Ri λbN aY=>K4 w w0 w1 w3 w9 aY (
 ag aY w 0 [aA,aq,au]/\ag aY (some ⟨w3,2,none⟩) 0 [x6]/\ah 277 #[x6] aY (Ri λbX bJ=>K4 w w0 w1 w3 aY bJ (
 ag bJ w 0 [aA,aq,au]/\ah 154 #[.agg #[bh,bN,bX],.agg #[aA,aq,au]] bJ (iC λcD cY cp eA=>K4 w w0 w1 w3 bJ eA (
 Sw eA w1 #[cD,cY,cp] λfP=>
 R (Value.agg #[cD,cY,cp]) fP))))))))))):ah 237 #[.agg #[aA,aq,au,aS,aT,aW,bM,bG,bH],.agg #[ak,ao,aw]] w R:=
 cq bV Tryz.func237 h
theorem BQ.vc(h:
 R (Value.int .i64 (if 70368744177664<(if (-70368744177664)>a0 then (-70368744177664) else a0) then 70368744177664 else (if (-70368744177664)>a0 then (-70368744177664) else a0))) w):ah 277 #[a0] w R:=
 cq bV Tryz.func277 h
theorem Pr.vc(h:
 ah 214 #[a0] w (λe w0=>∃(x1:Int),e=x1/\
 Br (x1<0)
 (R (Value.tuple #[.int .u64 (cX (aj (0-x1))),true]) w0)
 (R (Value.tuple #[.int .u64 (cX x1),false]) w0))):ah 260 #[a0] w R:=
 cq bV Tryz.func260 h
theorem KQ.vc{a1:Bool}{a2:Bool}(h:
 Aw w #[a1] 4 λw0=>
 Aw w0 #[a2] 4 λw1=>
 Br (a0>=140737488355328)
 (Wr w1 w 1/\(∀w2,w2=aH w1 w [.bool false]->
 ∃(b3:Bool),ld w2 (some ⟨w0,0,none⟩)=some (.bool b3)/\
 Br b3
 (ah 285 #[.int .u64 140737488355328,.pointer (some ⟨w0,0,none⟩),w] w2 (λe w4=>∃(x5:Int),e=Value.int .u64 x5/\
 R ((aj (0-(aj x5)))) w4))
 (R ((aj 140737488355328)) w2)))
 (∃(b6:Bool),ld w1 (some ⟨w0,0,none⟩)=some (.bool b6)/\
 Br b6
 (ah 285 #[.int .u64 a0,.pointer (some ⟨w0,0,none⟩),w] w1 (λe w7=>∃(x8:Int),e=Value.int .u64 x8/\
 R ((aj (0-(aj x8)))) w7))
 (R ((aj a0)) w1))):ah 261 #[.int .u64 a0,a1,a2] w R:=
 cq bV Tryz.func261 h
theorem Gc.vc{c0:Addr}{c1:Addr}(h:
 ∃(b0:Bool),ld w (some c0)=some (.bool b0)/\
 Br b0
 (∃(b1:Bool),ld w (some c1)=some (.bool b1)/\
 Br b1
 (R (Value.int .u64 (cX (a0+1))) w)
 (R (Value.int .u64 a0) w))
 (R (Value.int .u64 a0) w)):ah 285 #[.int .u64 a0,c0,c1] w R:=
 cq bV Tryz.func285 h
theorem BR.vc(h:
 R (Value.tuple #[.int .u64 (cX ((cX ((cX (((a0:Int).fdiv (2 ^(min (32:Int).toNat 64)))*((a1:Int).fdiv (2 ^(min (32:Int).toNat 64)))))+(((cX ((cX (((a0:Int).fdiv (2 ^(min (32:Int).toNat 64)))*(nL .u64 a1 4294967295)))+(((cX ((nL .u64 a0 4294967295)*(nL .u64 a1 4294967295))):Int).fdiv (2 ^(min (32:Int).toNat 64))))):Int).fdiv (2 ^(min (32:Int).toNat 64)))))+(((cX ((nL .u64 (cX ((cX (((a0:Int).fdiv (2 ^(min (32:Int).toNat 64)))*(nL .u64 a1 4294967295)))+(((cX ((nL .u64 a0 4294967295)*(nL .u64 a1 4294967295))):Int).fdiv (2 ^(min (32:Int).toNat 64))))) 4294967295)+(cX ((nL .u64 a0 4294967295)*((a1:Int).fdiv (2 ^(min (32:Int).toNat 64))))))):Int).fdiv (2 ^(min (32:Int).toNat 64))))),.int .u64 (cX (a0*a1))]) w):ah 273 #[.int .u64 a0,.int .u64 a1] w R:=
 cq bV Tryz.func273 h
theorem TK.vc(h:
 ah 260 #[a0] w (λe w0=>∃(x1:Int)(b2:Bool),e=Value.tuple #[.int .u64 x1,b2]/\
 ah 260 #[a1] w0 (λe w3=>∃(x4:Int)(b5:Bool),e=Value.tuple #[.int .u64 x4,b5]/\
 ah 273 #[.int .u64 x1,.int .u64 x4] w3 (λe w6=>∃(x7 x8:Int),e=Value.tuple #[.int .u64 x7,.int .u64 x8]/\
 Br (x7>0)
 (ah 261 #[.int .u64 140737488355328,.bool (((Int.tmod x8 65536):Int) !=0),.bool (!(b2==b5))] w6 (λe w9=>∃(bh:Int),e=bh/\
 R bh w9))
 (ah 261 #[.int .u64 ((x8:Int).fdiv (2 ^(min (16:Int).toNat 64))),.bool (((Int.tmod x8 65536):Int) !=0),.bool (!(b2==b5))] w6 (λe aY=>∃(bN:Int),e=bN/\
 R bN aY)))))):ah 232 #[a0,a1] w R:=
 cq bV Tryz.func232 h
theorem xI.vc(h:
 ah 232 #[.int .i64 (if 65536<(if (-65536)>a0 then (-65536) else a0) then 65536 else (if (-65536)>a0 then (-65536) else a0)),(16384:Int)] w (λe w0=>∃(x1:Int),e=x1/\
 R x1 w0)):ah 231 #[a0] w R:=
 cq bV Tryz.func231 h
theorem BS.vc{bH:Bool}{a1:Value}{bo:Bool}(h:
 Aw w #[aA,aq,au,aS,aT,aW,bM,bG,bH] 70 λw0=>
 Aw w0 #[bq,bA,bo] 109 λw1=>
 Aw w1 #[aa,aa,aa,aa,aa,aa,aa,aa,false] 70 λw2=>
 ah 231 #[bq] w2.drew (Ri λx4 w3=>K3 w w0 w1 w2.drew w3 (
 ag w3 (some ⟨w0,1,none⟩) 0 [bA]/\ah 231 #[bA] w3 (Ri λx6 w5=>K3 w w0 w1 w3 w5 (
 Sw w5 w #[aA,aq,au,x4,aT,aW,bM,bG,bH] λw7=>
 Sw w7 w #[aA,aq,au,x4,aT,x6,bM,bG,bH] λw8=>
 Sw w8 w1 #[aA,aq,au,x4,aT,x6,bM,bG,bH] λw9=>
 R (Value.agg #[aA,aq,au,x4,aT,x6,bM,bG,bH]) w9))))):ah 166 #[.agg #[aA,aq,au,aS,aT,aW,bM,bG,bH],a1,.agg #[bq,bA,bo]] w R:=
 cq bV Tryz.func166 h
theorem xJ.vc{c0:Addr}{c1:Addr}(h:
 ∃(p0:Option Addr),ld w.drew (some c0)=some (.pointer p0)/\
 ∃(p1:Option Addr),ld w.drew (some c0)=some (.pointer p1)/\
 aP (dv p1) (∃(x2:Int),ld w.drew p1=some (.int .i64 x2)/\
 aP (dv p0) (((p0).isSome=true/\Wr w.drew p0 1)/\(∀w3,w3=aH w.drew p0 [.int .i64 (if (aj (0-a2))>(aj (x2-a1)) then (aj (0-a2)) else (aj (x2-a1)))]->
 ∃(b4:Bool),ld w3 (af (some c1) 2)=some (.bool b4)/\
 Br b4
 (∃(p5:Option Addr),ld w3 (some c0)=some (.pointer p5)/\
 aP (dv p5) (((p5).isSome=true/\Wr w3 p5 1)/\(∀w6,w6=aH w3 p5 [a0]->
 R sY w6)))
 (R sY w3))))):ah 233 #[a0,a1,a2,c0,c1] w R:=
 cq bV Tryz.func233 h
theorem BT.vc{bH:Bool}{a1:Value}{bo:Bool}(h:
 Aw w #[aA,aq,au,aS,aT,aW,bM,bG,bH] 70 λw0=>
 Aw w0 #[bq,bA,bo] 109 λw1=>
 Aw w1 #[aa,aa,aa,aa,aa,aa,aa,aa,false] 70 λw2=>
 ah 48 #[.agg #[aA,aq,au,aS,aT,aW,bM,bG,bH]] w2 (vG λx4 x5 x6 x7 x8 x9 w3=>K3 w w0 w1 w2 w3 (
 Aw w3 #[aa,aa,aa,aa,aa,aa] 107 λbO=>
 Aw bO #[.pointer none] 296 λaY=>
 Sw aY w3 #[x4,x5,x6,x7,x8,x9] λcR=>
 Sw cR bO #[.pointer (some ⟨w,4,none⟩)] λbJ=>
 ah 234 #[a1,.agg #[x4,x5,x6,x7,x8,x9]] bJ (Rb λSZ bP=>K2 w1 w3 bJ bP (
 Br SZ
 (ah 233 #[(8192:Int),(4096:Int),(8192:Int),.pointer (some ⟨bO,0,none⟩),.pointer (some ⟨w0,0,none⟩)] bP (Rt λcJ=>K2 w1 w3 bP cJ (
 ∃(cY cp cn cW dh dN dz eE:Int)(Q4:Bool),ag cJ w 0 [cY,cp,cn,cW,dh,dN,dz,eE,Q4]/\
 Sw cJ w1 #[cY,cp,cn,cW,dh,dN,dz,eE,Q4] λfi=>
 R (Value.agg #[cY,cp,cn,cW,dh,dN,dz,eE,Q4]) fi)))
 (ah 235 #[a1,.agg #[x4,x5,x6,x7,x8,x9]] bP (Rb λOd eH=>K2 w1 w3 bP eH (
 Br Od
 (ah 233 #[(6144:Int),(1024:Int),(8192:Int),.pointer (some ⟨bO,0,none⟩),.pointer (some ⟨w0,0,none⟩)] eH (Rt λdR=>K2 w1 w3 eH dR (
 ∃(jD ic ig eF g8 kv nk fB:Int)(b38:Bool),ag dR w 0 [jD,ic,ig,eF,g8,kv,nk,fB,b38]/\
 Sw dR w1 #[jD,ic,ig,eF,g8,kv,nk,fB,b38] λjX=>
 R (Value.agg #[jD,ic,ig,eF,g8,kv,nk,fB,b38]) jX)))
 (∃(b40:Bool),ld eH (some ⟨w0,2,none⟩)=some (.bool b40)/\
 Br b40
 (ah 49 #[a1,.agg #[x4,x5,x6,x7,x8,x9]] eH (Rb λb42 gO=>K2 w1 w3 eH gO (
 Wr gO (some ⟨w0,2,none⟩) 1/\Nq (some ⟨w0,2,none⟩) w1/\Nq (some ⟨w0,2,none⟩) w3/\(∀jd,jd=aH gO (some ⟨w0,2,none⟩) [.bool b42]->
 ah 233 #[(28672:Int),(4096:Int),(262144:Int),.pointer (some ⟨bO,0,none⟩),.pointer (some ⟨w0,0,none⟩)] jd (Rt λko=>K2 w1 w3 jd ko (
 ∃(nq gC ph sN zi tX mH lC:Int)(b53:Bool),ag ko w 0 [nq,gC,ph,sN,zi,tX,mH,lC,b53]/\
 Sw ko w1 #[nq,gC,ph,sN,zi,tX,mH,lC,b53] λAS=>
 R (Value.agg #[nq,gC,ph,sN,zi,tX,mH,lC,b53]) AS))))))
 (Wr eH (some ⟨w0,2,none⟩) 1/\Nq (some ⟨w0,2,none⟩) w1/\Nq (some ⟨w0,2,none⟩) w3/\(∀yQ,yQ=aH eH (some ⟨w0,2,none⟩) [.bool false]->
 ah 233 #[(28672:Int),(4096:Int),(262144:Int),.pointer (some ⟨bO,0,none⟩),.pointer (some ⟨w0,0,none⟩)] yQ (Rt λpH=>K2 w1 w3 yQ pH (
 ∃(mG wQ kJ iW ov nj sR yV:Int)(b65:Bool),ag pH w 0 [mG,wQ,kJ,iW,ov,nj,sR,yV,b65]/\
 Sw pH w1 #[mG,wQ,kJ,iW,ov,nj,sR,yV,b65] λoK=>
 R (Value.agg #[mG,wQ,kJ,iW,ov,nj,sR,yV,b65]) oK))))))))))))):ah 167 #[.agg #[aA,aq,au,aS,aT,aW,bM,bG,bH],a1,.agg #[bq,bA,bo]] w R:=
 cq bV Tryz.func167 h
theorem DK.vc{bH:Bool}{a1:Value}{bo:Bool}(h:
 Aw w #[aA,aq,au,aS,aT,aW,bM,bG,bH] 70 λw0=>
 Aw w0 #[bq,bA,bo] 109 λw1=>
 Aw w1 #[aa,aa,aa,aa,aa,aa,aa,aa,false] 70 λw2=>
 ah 48 #[.agg #[aA,aq,au,aS,aT,aW,bM,bG,bH]] w2 (vG λx4 x5 x6 x7 x8 x9 w3=>K3 w w0 w1 w2 w3 (
 Aw w3 #[aa,aa,aa,aa,aa,aa] 107 λbO=>
 Sw bO w3 #[x4,x5,x6,x7,x8,x9] λaY=>
 ∃AT:Option Addr->Option Addr->World->Prop,
 ((ah 237 #[.agg #[aA,aq,au,aS,aT,aW,bM,bG,bH],.agg #[aS,aT,aW]] aY.drew (iC λbX cA cD bJ=>K4 w w0 w1 w3 aY.drew bJ (
 ag bJ (some ⟨w3,0,none⟩) 0 [x4,x5,x6,x7,x8,x9]/\(ah 236 #[a1,.agg #[x4,x5,x6,x7,x8,x9],.agg #[bX,cA,cD],(32768:Int)] bJ (λe cL=>∃(cp cn cW dh dN dz:Int)(Z4 Q4 Fj:Bool),e=Value.tuple #[.agg #[cp,cn,cW,dh,dN,dz],.agg #[Z4,Q4,Fj]]/\K4 w w0 w1 w3 bJ cL (
 (Aw cL #[aa,aa,aa,aa,aa,aa] 107 λeH=>
 Aw eH #[false,false,false] 299 λgN=>
 Sw gN cL #[cp,cn,cW,dh,dN,dz] λdR=>
 Wt dR ⟨eH,0,none⟩ 3/\Nb eH w/\Nb eH w0/\Nb eH w1/\Nb eH w3/\Nb eH cL/\(∀fu,fu=aH dR (some ⟨eH,0,none⟩) [.bool Z4,Q4,Fj]->
 aO [aA,aq,au,aS,aT,aW,bM,bG,bH]/\aO [bq,bA,bo]/\aO [aa,aa,aa,aa,aa,aa,aa,aa,false]/\aO [x4,x5,x6,x7,x8,x9]/\AT (some ⟨cL,0,none⟩) (some ⟨eH,0,none⟩) fu))/\(Aw cL #[false,false,false] 299 λfJ=>
 Aw fJ #[aa,aa,aa,aa,aa,aa] 107 λlv=>
 Sw lv fJ #[cp,cn,cW,dh,dN,dz] λeM=>
 Wt eM ⟨cL,0,none⟩ 3/\Nb cL w/\Nb cL w0/\Nb cL w1/\Nb cL w3/\Nb cL fJ/\(∀jc,jc=aH eM (some ⟨cL,0,none⟩) [.bool Z4,Q4,Fj]->
 aO [aA,aq,au,aS,aT,aW,bM,bG,bH]/\aO [bq,bA,bo]/\aO [aa,aa,aa,aa,aa,aa,aa,aa,false]/\aO [x4,x5,x6,x7,x8,x9]/\AT (some ⟨fJ,0,none⟩) (some ⟨cL,0,none⟩) jc)))))/\(Aw bJ #[aa,aa,aa,aa,aa,aa] 107 λjK=>
 (ah 236 #[a1,.agg #[x4,x5,x6,x7,x8,x9],.agg #[bX,cA,cD],(32768:Int)] jK (λe jW=>∃(fB gA ou mc kI lh:Int)(M7 b44 M6:Bool),e=Value.tuple #[.agg #[fB,gA,ou,mc,kI,lh],.agg #[M7,b44,M6]]/\K5 w w0 w1 w3 bJ jK jW (
 Aw jW #[false,false,false] 299 λqC=>
 Sw qC bJ #[fB,gA,ou,mc,kI,lh] λlg=>
 Wt lg ⟨jW,0,none⟩ 3/\Nb jW w/\Nb jW w0/\Nb jW w1/\Nb jW w3/\Nb jW bJ/\(∀fY,fY=aH lg (some ⟨jW,0,none⟩) [.bool M7,b44,M6]->
 aO [aA,aq,au,aS,aT,aW,bM,bG,bH]/\aO [bq,bA,bo]/\aO [aa,aa,aa,aa,aa,aa,aa,aa,false]/\aO [x4,x5,x6,x7,x8,x9]/\AT (some ⟨bJ,0,none⟩) (some ⟨jW,0,none⟩) fY))))/\(Aw jK #[false,false,false] 299 λlA=>
 ah 236 #[a1,.agg #[x4,x5,x6,x7,x8,x9],.agg #[bX,cA,cD],(32768:Int)] lA (λe mi=>∃(mH lC iV pE kC qF:Int)(Wj Ob b59:Bool),e=Value.tuple #[.agg #[mH,lC,iV,pE,kC,qF],.agg #[Wj,Ob,b59]]/\K5 w w0 w1 w3 bJ lA mi (
 Sw mi bJ #[mH,lC,iV,pE,kC,qF] λmQ=>
 Wt mQ ⟨jK,0,none⟩ 3/\Nb jK w/\Nb jK w0/\Nb jK w1/\Nb jK w3/\Nb jK bJ/\(∀oD,oD=aH mQ (some ⟨jK,0,none⟩) [.bool Wj,Ob,b59]->
 aO [aA,aq,au,aS,aT,aW,bM,bG,bH]/\aO [bq,bA,bo]/\aO [aa,aa,aa,aa,aa,aa,aa,aa,false]/\aO [x4,x5,x6,x7,x8,x9]/\AT (some ⟨bJ,0,none⟩) (some ⟨jK,0,none⟩) oD)))))/\(Aw bJ #[false,false,false] 299 λil=>
 (ah 236 #[a1,.agg #[x4,x5,x6,x7,x8,x9],.agg #[bX,cA,cD],(32768:Int)] il (λe xe=>∃(yV pj mS mP mI oM:Int)(b70 b71 b72:Bool),e=Value.tuple #[.agg #[yV,pj,mS,mP,mI,oM],.agg #[b70,b71,b72]]/\K4 w w0 w1 w3 il xe (
 Aw xe #[aa,aa,aa,aa,aa,aa] 107 λM8=>
 Sw M8 xe #[yV,pj,mS,mP,mI,oM] λlD=>
 Wt lD ⟨bJ,0,none⟩ 3/\Nb bJ w/\Nb bJ w0/\Nb bJ w1/\Nb bJ w3/\Nb bJ xe/\(∀qD,qD=aH lD (some ⟨bJ,0,none⟩) [.bool b70,b71,b72]->
 aO [aA,aq,au,aS,aT,aW,bM,bG,bH]/\aO [bq,bA,bo]/\aO [aa,aa,aa,aa,aa,aa,aa,aa,false]/\aO [x4,x5,x6,x7,x8,x9]/\AT (some ⟨xe,0,none⟩) (some ⟨bJ,0,none⟩) qD))))/\(Aw il #[aa,aa,aa,aa,aa,aa] 107 λjt=>
 ah 236 #[a1,.agg #[x4,x5,x6,x7,x8,x9],.agg #[bX,cA,cD],(32768:Int)] jt (λe rJ=>∃(zg vt uy sK qG sQ:Int)(b84 b85 b86:Bool),e=Value.tuple #[.agg #[zg,vt,uy,sK,qG,sQ],.agg #[b84,b85,b86]]/\K5 w w0 w1 w3 il jt rJ (
 Sw rJ il #[zg,vt,uy,sK,qG,sQ] λAO=>
 Wt AO ⟨bJ,0,none⟩ 3/\Nb bJ w/\Nb bJ w0/\Nb bJ w1/\Nb bJ w3/\Nb bJ il/\(∀Kg,Kg=aH AO (some ⟨bJ,0,none⟩) [.bool b84,b85,b86]->
 aO [aA,aq,au,aS,aT,aW,bM,bG,bH]/\aO [bq,bA,bo]/\aO [aa,aa,aa,aa,aa,aa,aa,aa,false]/\aO [x4,x5,x6,x7,x8,x9]/\AT (some ⟨il,0,none⟩) (some ⟨bJ,0,none⟩) Kg))))))))/\(Aw aY.drew #[aa,aa,aa,aa,aa,aa] 107 λgf=>
 (ah 237 #[.agg #[aA,aq,au,aS,aT,aW,bM,bG,bH],.agg #[aS,aT,aW]] gf (iC λFt zh uz ow=>K4 w w0 w1 w3 gf ow (
 ow.heap[aY.drew.heap.size]? =gf.heap[aY.drew.heap.size]?/\
 ag ow (some ⟨w3,0,none⟩) 0 [x4,x5,x6,x7,x8,x9]/\(ah 236 #[a1,.agg #[x4,x5,x6,x7,x8,x9],.agg #[Ft,zh,uz],(32768:Int)] ow (λe FQ=>∃(pF pG C2 Kh Ie mJ:Int)(Z5 Z6 M9:Bool),e=Value.tuple #[.agg #[pF,pG,C2,Kh,Ie,mJ],.agg #[Z5,Z6,M9]]/\K4 w w0 w1 w3 ow FQ (
 FQ.heap[aY.drew.heap.size]? =ow.heap[aY.drew.heap.size]?/\
 Aw FQ #[false,false,false] 299 λahr=>
 Sw ahr aY.drew.heap.size #[pF,pG,C2,Kh,Ie,mJ] λkq=>
 Wt kq ⟨FQ,0,none⟩ 3/\Nb FQ w/\Nb FQ w0/\Nb FQ w1/\Nb FQ w3/\bD (some ⟨FQ,0,none⟩)≠some aY.drew.heap.size/\(∀Z7,Z7=aH kq (some ⟨FQ,0,none⟩) [.bool Z5,Z6,M9]->
 aO [aA,aq,au,aS,aT,aW,bM,bG,bH]/\aO [bq,bA,bo]/\aO [aa,aa,aa,aa,aa,aa,aa,aa,false]/\aO [x4,x5,x6,x7,x8,x9]/\AT (some ⟨aY.drew.heap.size,0,none⟩) (some ⟨FQ,0,none⟩) Z7))))/\(Aw ow #[false,false,false] 299 λFx=>
 ah 236 #[a1,.agg #[x4,x5,x6,x7,x8,x9],.agg #[Ft,zh,uz],(32768:Int)] Fx (λe tY=>∃(pI jE mf jm yT CF:Int)(JR CE Z8:Bool),e=Value.tuple #[.agg #[pI,jE,mf,jm,yT,CF],.agg #[JR,CE,Z8]]/\K4 w w0 w1 w3 Fx tY (
 tY.heap[aY.drew.heap.size]? =Fx.heap[aY.drew.heap.size]?/\
 Sw tY aY.drew.heap.size #[pI,jE,mf,jm,yT,CF] λFp=>
 Wt Fp ⟨ow,0,none⟩ 3/\Nb ow w/\Nb ow w0/\Nb ow w1/\Nb ow w3/\bD (some ⟨ow,0,none⟩)≠some aY.drew.heap.size/\(∀pJ,pJ=aH Fp (some ⟨ow,0,none⟩) [.bool JR,CE,Z8]->
 aO [aA,aq,au,aS,aT,aW,bM,bG,bH]/\aO [bq,bA,bo]/\aO [aa,aa,aa,aa,aa,aa,aa,aa,false]/\aO [x4,x5,x6,x7,x8,x9]/\AT (some ⟨aY.drew.heap.size,0,none⟩) (some ⟨ow,0,none⟩) pJ)))))))/\(Aw gf #[false,false,false] 299 λFy=>
 ah 237 #[.agg #[aA,aq,au,aS,aT,aW,bM,bG,bH],.agg #[aS,aT,aW]] Fy (iC λWk GN Na AU=>K4 w w0 w1 w3 Fy AU (
 AU.heap[aY.drew.heap.size]? =Fy.heap[aY.drew.heap.size]?/\
 ag AU (some ⟨w3,0,none⟩) 0 [x4,x5,x6,x7,x8,x9]/\ah 236 #[a1,.agg #[x4,x5,x6,x7,x8,x9],.agg #[Wk,GN,Na],(32768:Int)] AU (λe Fq=>∃(GO GP Q5 Nc Nd Nf:Int)(Z9 aaa aab:Bool),e=Value.tuple #[.agg #[GO,GP,Q5,Nc,Nd,Nf],.agg #[Z9,aaa,aab]]/\K4 w w0 w1 w3 AU Fq (
 Fq.heap[aY.drew.heap.size]? =AU.heap[aY.drew.heap.size]?/\
 Sw Fq aY.drew.heap.size #[GO,GP,Q5,Nc,Nd,Nf] λaac=>
 Wt aac ⟨gf,0,none⟩ 3/\Nb gf w/\Nb gf w0/\Nb gf w1/\Nb gf w3/\bD (some ⟨gf,0,none⟩)≠some aY.drew.heap.size/\(∀aad,aad=aH aac (some ⟨gf,0,none⟩) [.bool Z9,aaa,aab]->
 aO [aA,aq,au,aS,aT,aW,bM,bG,bH]/\aO [bq,bA,bo]/\aO [aa,aa,aa,aa,aa,aa,aa,aa,false]/\aO [x4,x5,x6,x7,x8,x9]/\AT (some ⟨aY.drew.heap.size,0,none⟩) (some ⟨gf,0,none⟩) aad)))))))/\(Aw aY.drew #[false,false,false] 299 λtZ=>
 (ah 237 #[.agg #[aA,aq,au,aS,aT,aW,bM,bG,bH],.agg #[aS,aT,aW]] tZ (iC λGR Ng aae rM=>K4 w w0 w1 w3 tZ rM (
 ag rM (some ⟨w3,0,none⟩) 0 [x4,x5,x6,x7,x8,x9]/\(ah 236 #[a1,.agg #[x4,x5,x6,x7,x8,x9],.agg #[GR,Ng,aae],(32768:Int)] rM (λe pK=>∃(aaf Q6 Q7 Q8 Q9 Ra:Int)(aag aah aai:Bool),e=Value.tuple #[.agg #[aaf,Q6,Q7,Q8,Q9,Ra],.agg #[aag,aah,aai]]/\K4 w w0 w1 w3 rM pK (
 Aw pK #[aa,aa,aa,aa,aa,aa] 107 λahs=>
 Sw ahs pK #[aaf,Q6,Q7,Q8,Q9,Ra] λaaj=>
 Wt aaj ⟨aY.drew.heap.size,0,none⟩ 3/\Nq (some ⟨aY.drew.heap.size,0,none⟩) w/\Nq (some ⟨aY.drew.heap.size,0,none⟩) w0/\Nq (some ⟨aY.drew.heap.size,0,none⟩) w1/\Nq (some ⟨aY.drew.heap.size,0,none⟩) w3/\Nq (some ⟨aY.drew.heap.size,0,none⟩) pK/\(∀aak,aak=aH aaj (some ⟨aY.drew.heap.size,0,none⟩) [.bool aag,aah,aai]->
 aO [aA,aq,au,aS,aT,aW,bM,bG,bH]/\aO [bq,bA,bo]/\aO [aa,aa,aa,aa,aa,aa,aa,aa,false]/\aO [x4,x5,x6,x7,x8,x9]/\AT (some ⟨pK,0,none⟩) (some ⟨aY.drew.heap.size,0,none⟩) aak))))/\(Aw rM #[aa,aa,aa,aa,aa,aa] 107 λaal=>
 ah 236 #[a1,.agg #[x4,x5,x6,x7,x8,x9],.agg #[GR,Ng,aae],(32768:Int)] aal (λe aam=>∃(aan aao aap aaq aar aas:Int)(aat aau aav:Bool),e=Value.tuple #[.agg #[aan,aao,aap,aaq,aar,aas],.agg #[aat,aau,aav]]/\K5 w w0 w1 w3 rM aal aam (
 Sw aam rM #[aan,aao,aap,aaq,aar,aas] λaaw=>
 Wt aaw ⟨aY.drew.heap.size,0,none⟩ 3/\Nq (some ⟨aY.drew.heap.size,0,none⟩) w/\Nq (some ⟨aY.drew.heap.size,0,none⟩) w0/\Nq (some ⟨aY.drew.heap.size,0,none⟩) w1/\Nq (some ⟨aY.drew.heap.size,0,none⟩) w3/\Nq (some ⟨aY.drew.heap.size,0,none⟩) rM/\(∀aax,aax=aH aaw (some ⟨aY.drew.heap.size,0,none⟩) [.bool aat,aau,aav]->
 aO [aA,aq,au,aS,aT,aW,bM,bG,bH]/\aO [bq,bA,bo]/\aO [aa,aa,aa,aa,aa,aa,aa,aa,false]/\aO [x4,x5,x6,x7,x8,x9]/\AT (some ⟨rM,0,none⟩) (some ⟨aY.drew.heap.size,0,none⟩) aax)))))))/\(Aw tZ #[aa,aa,aa,aa,aa,aa] 107 λaay=>
 ah 237 #[.agg #[aA,aq,au,aS,aT,aW,bM,bG,bH],.agg #[aS,aT,aW]] aay (iC λWl Wm Wn JS=>K5 w w0 w1 w3 tZ aay JS (
 ag JS (some ⟨w3,0,none⟩) 0 [x4,x5,x6,x7,x8,x9]/\ah 236 #[a1,.agg #[x4,x5,x6,x7,x8,x9],.agg #[Wl,Wm,Wn],(32768:Int)] JS (λe aaz=>∃(Nh wU aaA aaB aaC aaD:Int)(aaE aaF aaG:Bool),e=Value.tuple #[.agg #[Nh,wU,aaA,aaB,aaC,aaD],.agg #[aaE,aaF,aaG]]/\K5 w w0 w1 w3 tZ JS aaz (
 Sw aaz tZ #[Nh,wU,aaA,aaB,aaC,aaD] λaaH=>
 Wt aaH ⟨aY.drew.heap.size,0,none⟩ 3/\Nq (some ⟨aY.drew.heap.size,0,none⟩) w/\Nq (some ⟨aY.drew.heap.size,0,none⟩) w0/\Nq (some ⟨aY.drew.heap.size,0,none⟩) w1/\Nq (some ⟨aY.drew.heap.size,0,none⟩) w3/\Nq (some ⟨aY.drew.heap.size,0,none⟩) tZ/\(∀aaI,aaI=aH aaH (some ⟨aY.drew.heap.size,0,none⟩) [.bool aaE,aaF,aaG]->
 aO [aA,aq,au,aS,aT,aW,bM,bG,bH]/\aO [bq,bA,bo]/\aO [aa,aa,aa,aa,aa,aa,aa,aa,false]/\aO [x4,x5,x6,x7,x8,x9]/\AT (some ⟨tZ,0,none⟩) (some ⟨aY.drew.heap.size,0,none⟩) aaI))))))))/\
 ∀akv:Nat->Value,∀(GS aht:Option Addr)(Ni:World),AT GS aht Ni->
 aP (dv GS) (∃(Nj aaJ AV:Int),ag Ni.drew (af GS 0) 0 [Nj,aaJ,AV]/\
 ah 154 #[.agg #[Nj,aaJ,AV],.agg #[x4,x5,x6]] Ni.drew (iC λahu CG GU GV=>K4 w w0 w1 w3 Ni.drew GV (
 ag GV w 0 [aA,aq,au]/\ah 145 #[.agg #[aA,aq,au],.agg #[ahu,CG,GU]] GV (iC λFz JT JU Nk=>K4 w w0 w1 w3 GV Nk (
 Sw Nk w #[Fz,JT,JU,aS,aT,aW,bM,bG,bH] λwW=>
 ∃(akw akx aky:Bool),ag wW aht 0 [.bool akw,akx,aky]/\
 ah 238 #[.agg #[akw,akx,aky],.agg #[aS,aT,aW]] wW (iC λFA Re Rf ahv=>K4 w w0 w1 w3 wW ahv (
 Sw ahv w #[Fz,JT,JU,FA,Re,Rf,bM,bG,bH] λWo=>
 ∃(akz akA akB akC akD akE:Int),ag Wo GS 0 [akz,akA,akB,akC,akD,akE]/\
 ah 49 #[a1,.agg #[akz,akA,akB,akC,akD,akE]] Wo (Rb λahw ahx=>K4 w w0 w1 w3 Wo ahx (
 Sw ahx w #[Fz,JT,JU,FA,Re,Rf,bM,bG,ahw] λakF=>
 Sw akF w1 #[Fz,JT,JU,FA,Re,Rf,bM,bG,ahw] λakG=>
 R (Value.agg #[Fz,JT,JU,FA,Re,Rf,bM,bG,ahw]) akG)))))))))))):ah 168 #[.agg #[aA,aq,au,aS,aT,aW,bM,bG,bH],a1,.agg #[bq,bA,bo]] w R:=
 cq ⟨[],[(3,⟨[(8,.ptr),(9,.ptr)],[],[]⟩)],[]⟩ Tryz.func168 h
theorem DL.vc{bH:Bool}{a1:Value}{bo:Bool}(h:
 Aw w #[aA,aq,au,aS,aT,aW,bM,bG,bH] 70 λw0=>
 Aw w0 #[bq,bA,bo] 109 λw1=>
 Aw w1 #[aa,aa,aa,aa,aa,aa,aa,aa,false] 70 λw2=>
 ∃I3:Nat->Int->Int->Int->Int->Int->Int->Int->Int->Int->Bool->World->Prop,
 (∃n4,aO [bq,bA,bo]/\aO [aa,aa,aa,aa,aa,aa,aa,aa,false]/\I3 n4 (0) aA aq au aS aT aW bM bG bH w2)/\
 ∀(n4:Nat)(us5:Nat->Value)(x6 x7 x8 x9 bh bC bN cm bX:Int)(SZ:Bool)(cJ:World),I3 n4 x6 x7 x8 x9 bh bC bN cm bX SZ cJ->
 Br (x6<3)
 (((0:Int)<=x6/\x6<((3:Nat):Int))/\∃(v18:Value),([.func (.func 166) #[] #[],.func (.func 167) #[] #[],.func (.func 168) #[] #[]]:LV)[(x6:Int).toNat*1]? =some (v18)/\
 cr Tryz.prog v18 [.agg #[x7,x8,x9,bh,bC,bN,cm,bX,SZ],a1,.agg #[bq,bA,bo]] cJ (λe fP=>∃(cW dh dN dz eE dQ fy fE:Int)(Od:Bool),e=Value.agg #[cW,dh,dN,dz,eE,dQ,fy,fE,Od]/\K3 w w0 w1 cJ fP (
 Sw fP w #[cW,dh,dN,dz,eE,dQ,fy,fE,Od] λdR=>
 ∃GW,GW<n4/\aO [bq,bA,bo]/\aO [aa,aa,aa,aa,aa,aa,aa,aa,false]/\I3 GW ((aj (x6+1))) cW dh dN dz eE dQ fy fE Od dR)))
 (Sw cJ w1 #[x7,x8,x9,bh,bC,bN,cm,bX,SZ] λfu=>
 R (Value.agg #[x7,x8,x9,bh,bC,bN,cm,bX,SZ]) fu)):ah 116 #[.agg #[aA,aq,au,aS,aT,aW,bM,bG,bH],a1,.agg #[bq,bA,bo]] w R:=
 cq ⟨[(2,⟨[(10,.int .i64)],[(0,[.int .i64,.int .i64,.int .i64,.int .i64,.int .i64,.int .i64,.int .i64,.int .i64,.bool])],[]⟩)],[],[]⟩ Tryz.func116 h
theorem BU.vc{bH:Bool}{a1:Value}(h:
 Aw w #[aA,aq,au,aS,aT,aW,bM,bG,bH] 70 λw0=>
 Aw w0 #[bq,bA,bo] 28 λw1=>
 Aw w1 #[aa,aa,aa,aa,aa,aa,aa,aa,false] 70 λw2=>
 ah 48 #[.agg #[aA,aq,au,aS,aT,aW,bM,bG,bH]] w2 (vG λx4 x5 x6 x7 x8 x9 w3=>K3 w w0 w1 w2 w3 (
 Aw w3 #[aa,aa,aa,aa,aa,aa] 107 λbO=>
 Sw bO w3 #[x4,x5,x6,x7,x8,x9] λaY=>
 ∃AT:Option Addr->World->Prop,
 ((ah 237 #[.agg #[aA,aq,au,aS,aT,aW,bM,bG,bH],.agg #[bq,bA,bo]] aY.drew (iC λbX cA cD bJ=>K4 w w0 w1 w3 aY.drew bJ (
 ag bJ (some ⟨w3,0,none⟩) 0 [x4,x5,x6,x7,x8,x9]/\(ah 240 #[a1,.agg #[x4,x5,x6,x7,x8,x9],.agg #[bX,cA,cD]] bJ (λe cL=>∃(cp cn cW dh dN dz:Int)(Z4 Q4 Fj:Bool),e=Value.tuple #[.agg #[cp,cn,cW,dh,dN,dz],.agg #[Z4,Q4,Fj]]/\K4 w w0 w1 w3 bJ cL (
 (Aw cL #[aa,aa,aa,aa,aa,aa] 107 λeH=>
 Aw eH #[false,false,false] 299 λgN=>
 Sw gN cL #[cp,cn,cW,dh,dN,dz] λdR=>
 Wt dR ⟨eH,0,none⟩ 3/\Nb eH w/\Nb eH w0/\Nb eH w1/\Nb eH w3/\Nb eH cL/\(∀fu,fu=aH dR (some ⟨eH,0,none⟩) [.bool Z4,Q4,Fj]->
 aO [aA,aq,au,aS,aT,aW,bM,bG,bH]/\aO [bq,bA,bo]/\aO [aa,aa,aa,aa,aa,aa,aa,aa,false]/\aO [x4,x5,x6,x7,x8,x9]/\AT (some ⟨cL,0,none⟩) fu))/\(Aw cL #[false,false,false] 299 λfJ=>
 Aw fJ #[aa,aa,aa,aa,aa,aa] 107 λlv=>
 Sw lv fJ #[cp,cn,cW,dh,dN,dz] λeM=>
 Wt eM ⟨cL,0,none⟩ 3/\Nb cL w/\Nb cL w0/\Nb cL w1/\Nb cL w3/\Nb cL fJ/\(∀jc,jc=aH eM (some ⟨cL,0,none⟩) [.bool Z4,Q4,Fj]->
 aO [aA,aq,au,aS,aT,aW,bM,bG,bH]/\aO [bq,bA,bo]/\aO [aa,aa,aa,aa,aa,aa,aa,aa,false]/\aO [x4,x5,x6,x7,x8,x9]/\AT (some ⟨fJ,0,none⟩) jc)))))/\(Aw bJ #[aa,aa,aa,aa,aa,aa] 107 λjK=>
 (ah 240 #[a1,.agg #[x4,x5,x6,x7,x8,x9],.agg #[bX,cA,cD]] jK (λe jW=>∃(fB gA ou mc kI lh:Int)(M7 b44 M6:Bool),e=Value.tuple #[.agg #[fB,gA,ou,mc,kI,lh],.agg #[M7,b44,M6]]/\K5 w w0 w1 w3 bJ jK jW (
 Aw jW #[false,false,false] 299 λqC=>
 Sw qC bJ #[fB,gA,ou,mc,kI,lh] λlg=>
 Wt lg ⟨jW,0,none⟩ 3/\Nb jW w/\Nb jW w0/\Nb jW w1/\Nb jW w3/\Nb jW bJ/\(∀fY,fY=aH lg (some ⟨jW,0,none⟩) [.bool M7,b44,M6]->
 aO [aA,aq,au,aS,aT,aW,bM,bG,bH]/\aO [bq,bA,bo]/\aO [aa,aa,aa,aa,aa,aa,aa,aa,false]/\aO [x4,x5,x6,x7,x8,x9]/\AT (some ⟨bJ,0,none⟩) fY))))/\(Aw jK #[false,false,false] 299 λlA=>
 ah 240 #[a1,.agg #[x4,x5,x6,x7,x8,x9],.agg #[bX,cA,cD]] lA (λe mi=>∃(mH lC iV pE kC qF:Int)(Wj Ob b59:Bool),e=Value.tuple #[.agg #[mH,lC,iV,pE,kC,qF],.agg #[Wj,Ob,b59]]/\K5 w w0 w1 w3 bJ lA mi (
 Sw mi bJ #[mH,lC,iV,pE,kC,qF] λmQ=>
 Wt mQ ⟨jK,0,none⟩ 3/\Nb jK w/\Nb jK w0/\Nb jK w1/\Nb jK w3/\Nb jK bJ/\(∀oD,oD=aH mQ (some ⟨jK,0,none⟩) [.bool Wj,Ob,b59]->
 aO [aA,aq,au,aS,aT,aW,bM,bG,bH]/\aO [bq,bA,bo]/\aO [aa,aa,aa,aa,aa,aa,aa,aa,false]/\aO [x4,x5,x6,x7,x8,x9]/\AT (some ⟨bJ,0,none⟩) oD)))))/\(Aw bJ #[false,false,false] 299 λil=>
 (ah 240 #[a1,.agg #[x4,x5,x6,x7,x8,x9],.agg #[bX,cA,cD]] il (λe xe=>∃(yV pj mS mP mI oM:Int)(b70 b71 b72:Bool),e=Value.tuple #[.agg #[yV,pj,mS,mP,mI,oM],.agg #[b70,b71,b72]]/\K4 w w0 w1 w3 il xe (
 Aw xe #[aa,aa,aa,aa,aa,aa] 107 λM8=>
 Sw M8 xe #[yV,pj,mS,mP,mI,oM] λlD=>
 Wt lD ⟨bJ,0,none⟩ 3/\Nb bJ w/\Nb bJ w0/\Nb bJ w1/\Nb bJ w3/\Nb bJ xe/\(∀qD,qD=aH lD (some ⟨bJ,0,none⟩) [.bool b70,b71,b72]->
 aO [aA,aq,au,aS,aT,aW,bM,bG,bH]/\aO [bq,bA,bo]/\aO [aa,aa,aa,aa,aa,aa,aa,aa,false]/\aO [x4,x5,x6,x7,x8,x9]/\AT (some ⟨xe,0,none⟩) qD))))/\(Aw il #[aa,aa,aa,aa,aa,aa] 107 λjt=>
 ah 240 #[a1,.agg #[x4,x5,x6,x7,x8,x9],.agg #[bX,cA,cD]] jt (λe rJ=>∃(zg vt uy sK qG sQ:Int)(b84 b85 b86:Bool),e=Value.tuple #[.agg #[zg,vt,uy,sK,qG,sQ],.agg #[b84,b85,b86]]/\K5 w w0 w1 w3 il jt rJ (
 Sw rJ il #[zg,vt,uy,sK,qG,sQ] λAO=>
 Wt AO ⟨bJ,0,none⟩ 3/\Nb bJ w/\Nb bJ w0/\Nb bJ w1/\Nb bJ w3/\Nb bJ il/\(∀Kg,Kg=aH AO (some ⟨bJ,0,none⟩) [.bool b84,b85,b86]->
 aO [aA,aq,au,aS,aT,aW,bM,bG,bH]/\aO [bq,bA,bo]/\aO [aa,aa,aa,aa,aa,aa,aa,aa,false]/\aO [x4,x5,x6,x7,x8,x9]/\AT (some ⟨il,0,none⟩) Kg))))))))/\(Aw aY.drew #[aa,aa,aa,aa,aa,aa] 107 λgf=>
 (ah 237 #[.agg #[aA,aq,au,aS,aT,aW,bM,bG,bH],.agg #[bq,bA,bo]] gf (iC λFt zh uz ow=>K4 w w0 w1 w3 gf ow (
 ow.heap[aY.drew.heap.size]? =gf.heap[aY.drew.heap.size]?/\
 ag ow (some ⟨w3,0,none⟩) 0 [x4,x5,x6,x7,x8,x9]/\(ah 240 #[a1,.agg #[x4,x5,x6,x7,x8,x9],.agg #[Ft,zh,uz]] ow (λe FQ=>∃(pF pG C2 Kh Ie mJ:Int)(Z5 Z6 M9:Bool),e=Value.tuple #[.agg #[pF,pG,C2,Kh,Ie,mJ],.agg #[Z5,Z6,M9]]/\K4 w w0 w1 w3 ow FQ (
 FQ.heap[aY.drew.heap.size]? =ow.heap[aY.drew.heap.size]?/\
 Aw FQ #[false,false,false] 299 λahr=>
 Sw ahr aY.drew.heap.size #[pF,pG,C2,Kh,Ie,mJ] λkq=>
 Wt kq ⟨FQ,0,none⟩ 3/\Nb FQ w/\Nb FQ w0/\Nb FQ w1/\Nb FQ w3/\bD (some ⟨FQ,0,none⟩)≠some aY.drew.heap.size/\(∀Z7,Z7=aH kq (some ⟨FQ,0,none⟩) [.bool Z5,Z6,M9]->
 aO [aA,aq,au,aS,aT,aW,bM,bG,bH]/\aO [bq,bA,bo]/\aO [aa,aa,aa,aa,aa,aa,aa,aa,false]/\aO [x4,x5,x6,x7,x8,x9]/\AT (some ⟨aY.drew.heap.size,0,none⟩) Z7))))/\(Aw ow #[false,false,false] 299 λFx=>
 ah 240 #[a1,.agg #[x4,x5,x6,x7,x8,x9],.agg #[Ft,zh,uz]] Fx (λe tY=>∃(pI jE mf jm yT CF:Int)(JR CE Z8:Bool),e=Value.tuple #[.agg #[pI,jE,mf,jm,yT,CF],.agg #[JR,CE,Z8]]/\K4 w w0 w1 w3 Fx tY (
 tY.heap[aY.drew.heap.size]? =Fx.heap[aY.drew.heap.size]?/\
 Sw tY aY.drew.heap.size #[pI,jE,mf,jm,yT,CF] λFp=>
 Wt Fp ⟨ow,0,none⟩ 3/\Nb ow w/\Nb ow w0/\Nb ow w1/\Nb ow w3/\bD (some ⟨ow,0,none⟩)≠some aY.drew.heap.size/\(∀pJ,pJ=aH Fp (some ⟨ow,0,none⟩) [.bool JR,CE,Z8]->
 aO [aA,aq,au,aS,aT,aW,bM,bG,bH]/\aO [bq,bA,bo]/\aO [aa,aa,aa,aa,aa,aa,aa,aa,false]/\aO [x4,x5,x6,x7,x8,x9]/\AT (some ⟨aY.drew.heap.size,0,none⟩) pJ)))))))/\(Aw gf #[false,false,false] 299 λFy=>
 ah 237 #[.agg #[aA,aq,au,aS,aT,aW,bM,bG,bH],.agg #[bq,bA,bo]] Fy (iC λWk GN Na AU=>K4 w w0 w1 w3 Fy AU (
 AU.heap[aY.drew.heap.size]? =Fy.heap[aY.drew.heap.size]?/\
 ag AU (some ⟨w3,0,none⟩) 0 [x4,x5,x6,x7,x8,x9]/\ah 240 #[a1,.agg #[x4,x5,x6,x7,x8,x9],.agg #[Wk,GN,Na]] AU (λe Fq=>∃(GO GP Q5 Nc Nd Nf:Int)(Z9 aaa aab:Bool),e=Value.tuple #[.agg #[GO,GP,Q5,Nc,Nd,Nf],.agg #[Z9,aaa,aab]]/\K4 w w0 w1 w3 AU Fq (
 Fq.heap[aY.drew.heap.size]? =AU.heap[aY.drew.heap.size]?/\
 Sw Fq aY.drew.heap.size #[GO,GP,Q5,Nc,Nd,Nf] λaac=>
 Wt aac ⟨gf,0,none⟩ 3/\Nb gf w/\Nb gf w0/\Nb gf w1/\Nb gf w3/\bD (some ⟨gf,0,none⟩)≠some aY.drew.heap.size/\(∀aad,aad=aH aac (some ⟨gf,0,none⟩) [.bool Z9,aaa,aab]->
 aO [aA,aq,au,aS,aT,aW,bM,bG,bH]/\aO [bq,bA,bo]/\aO [aa,aa,aa,aa,aa,aa,aa,aa,false]/\aO [x4,x5,x6,x7,x8,x9]/\AT (some ⟨aY.drew.heap.size,0,none⟩) aad)))))))/\(Aw aY.drew #[false,false,false] 299 λtZ=>
 (ah 237 #[.agg #[aA,aq,au,aS,aT,aW,bM,bG,bH],.agg #[bq,bA,bo]] tZ (iC λGR Ng aae rM=>K4 w w0 w1 w3 tZ rM (
 ag rM (some ⟨w3,0,none⟩) 0 [x4,x5,x6,x7,x8,x9]/\(ah 240 #[a1,.agg #[x4,x5,x6,x7,x8,x9],.agg #[GR,Ng,aae]] rM (λe pK=>∃(aaf Q6 Q7 Q8 Q9 Ra:Int)(aag aah aai:Bool),e=Value.tuple #[.agg #[aaf,Q6,Q7,Q8,Q9,Ra],.agg #[aag,aah,aai]]/\K4 w w0 w1 w3 rM pK (
 Aw pK #[aa,aa,aa,aa,aa,aa] 107 λahs=>
 Sw ahs pK #[aaf,Q6,Q7,Q8,Q9,Ra] λaaj=>
 Wt aaj ⟨aY.drew.heap.size,0,none⟩ 3/\Nq (some ⟨aY.drew.heap.size,0,none⟩) w/\Nq (some ⟨aY.drew.heap.size,0,none⟩) w0/\Nq (some ⟨aY.drew.heap.size,0,none⟩) w1/\Nq (some ⟨aY.drew.heap.size,0,none⟩) w3/\Nq (some ⟨aY.drew.heap.size,0,none⟩) pK/\(∀aak,aak=aH aaj (some ⟨aY.drew.heap.size,0,none⟩) [.bool aag,aah,aai]->
 aO [aA,aq,au,aS,aT,aW,bM,bG,bH]/\aO [bq,bA,bo]/\aO [aa,aa,aa,aa,aa,aa,aa,aa,false]/\aO [x4,x5,x6,x7,x8,x9]/\AT (some ⟨pK,0,none⟩) aak))))/\(Aw rM #[aa,aa,aa,aa,aa,aa] 107 λaal=>
 ah 240 #[a1,.agg #[x4,x5,x6,x7,x8,x9],.agg #[GR,Ng,aae]] aal (λe aam=>∃(aan aao aap aaq aar aas:Int)(aat aau aav:Bool),e=Value.tuple #[.agg #[aan,aao,aap,aaq,aar,aas],.agg #[aat,aau,aav]]/\K5 w w0 w1 w3 rM aal aam (
 Sw aam rM #[aan,aao,aap,aaq,aar,aas] λaaw=>
 Wt aaw ⟨aY.drew.heap.size,0,none⟩ 3/\Nq (some ⟨aY.drew.heap.size,0,none⟩) w/\Nq (some ⟨aY.drew.heap.size,0,none⟩) w0/\Nq (some ⟨aY.drew.heap.size,0,none⟩) w1/\Nq (some ⟨aY.drew.heap.size,0,none⟩) w3/\Nq (some ⟨aY.drew.heap.size,0,none⟩) rM/\(∀aax,aax=aH aaw (some ⟨aY.drew.heap.size,0,none⟩) [.bool aat,aau,aav]->
 aO [aA,aq,au,aS,aT,aW,bM,bG,bH]/\aO [bq,bA,bo]/\aO [aa,aa,aa,aa,aa,aa,aa,aa,false]/\aO [x4,x5,x6,x7,x8,x9]/\AT (some ⟨rM,0,none⟩) aax)))))))/\(Aw tZ #[aa,aa,aa,aa,aa,aa] 107 λaay=>
 ah 237 #[.agg #[aA,aq,au,aS,aT,aW,bM,bG,bH],.agg #[bq,bA,bo]] aay (iC λWl Wm Wn JS=>K5 w w0 w1 w3 tZ aay JS (
 ag JS (some ⟨w3,0,none⟩) 0 [x4,x5,x6,x7,x8,x9]/\ah 240 #[a1,.agg #[x4,x5,x6,x7,x8,x9],.agg #[Wl,Wm,Wn]] JS (λe aaz=>∃(Nh wU aaA aaB aaC aaD:Int)(aaE aaF aaG:Bool),e=Value.tuple #[.agg #[Nh,wU,aaA,aaB,aaC,aaD],.agg #[aaE,aaF,aaG]]/\K5 w w0 w1 w3 tZ JS aaz (
 Sw aaz tZ #[Nh,wU,aaA,aaB,aaC,aaD] λaaH=>
 Wt aaH ⟨aY.drew.heap.size,0,none⟩ 3/\Nq (some ⟨aY.drew.heap.size,0,none⟩) w/\Nq (some ⟨aY.drew.heap.size,0,none⟩) w0/\Nq (some ⟨aY.drew.heap.size,0,none⟩) w1/\Nq (some ⟨aY.drew.heap.size,0,none⟩) w3/\Nq (some ⟨aY.drew.heap.size,0,none⟩) tZ/\(∀aaI,aaI=aH aaH (some ⟨aY.drew.heap.size,0,none⟩) [.bool aaE,aaF,aaG]->
 aO [aA,aq,au,aS,aT,aW,bM,bG,bH]/\aO [bq,bA,bo]/\aO [aa,aa,aa,aa,aa,aa,aa,aa,false]/\aO [x4,x5,x6,x7,x8,x9]/\AT (some ⟨tZ,0,none⟩) aaI))))))))/\
 ∀akv:Nat->Value,∀(GS:Option Addr)(adO:World),AT GS adO->
 aP (dv GS) (∃(JV Nj aaJ:Int),ag adO.drew (af GS 0) 0 [JV,Nj,aaJ]/\
 ah 154 #[.agg #[JV,Nj,aaJ],.agg #[x4,x5,x6]] adO.drew (iC λCH ahu CG Wp=>K4 w w0 w1 w3 adO.drew Wp (
 ag Wp w 0 [aA,aq,au]/\ah 145 #[.agg #[aA,aq,au],.agg #[CH,ahu,CG]] Wp (iC λnr Fz JT ahy=>K4 w w0 w1 w3 Wp ahy (
 Sw ahy w #[nr,Fz,JT,aS,aT,aW,bM,bG,bH] λakH=>
 Sw akH w1 #[nr,Fz,JT,aS,aT,aW,bM,bG,bH] λwW=>
 R (Value.agg #[nr,Fz,JT,aS,aT,aW,bM,bG,bH]) wW)))))))):ah 171 #[.agg #[aA,aq,au,aS,aT,aW,bM,bG,bH],a1,.agg #[bq,bA,bo]] w R:=
 cq ⟨[],[(3,⟨[(8,.ptr)],[],[]⟩)],[]⟩ Tryz.func171 h
theorem acj.vc{a0:Value}(h:
 ∃I0:Nat->Int->World->Prop,
 (∃n1,I0 n1 (0) w)/\
 ∀(n1:Nat)(wX:Nat->Value)(x3:Int)(w4:World),I0 n1 x3 w4->
 Br (x3<3)
 (cr Tryz.prog a0 [x3] w4 (λe w6=>∃(b7:Bool),e=b7/\
 Br (!b7)
 (R false w6)
 (∃n5,n5<n1/\I0 n5 ((aj (x3+1))) w6)))
 (R true w4)):ah 176 #[a0] w R:=
 cq ⟨[(2,⟨[(4,.int .i64)],[],[]⟩)],[],[]⟩ Tryz.func176 h
theorem Gd.vc{c0:Addr}{c1:Addr}(h:
 ∃(x0 x1 x2:Int),ag w.drew (af (some c0) 0) 0 [x0,x1,x2]/\
 ∃(x3 x4 x5:Int),ag w.drew (af (some c1) 3) 0 [x3,x4,x5]/\
 ah 178 #[.agg #[x0,x1,x2],a0] w.drew (λe w6=>∃(x7:Int),e=x7/\
 ag w6 (af (some c1) 3) 0 [x3,x4,x5]/\ah 178 #[.agg #[x3,x4,x5],a0] w6 (λe w8=>∃(x9:Int),e=x9/\
 Br (x7<x9)
 (∃(bh bC bN:Int),ag w8 (af (some c1) 0) 0 [bh,bC,bN]/\
 ∃(cm bX cA:Int),ag w8 (af (some c0) 3) 0 [cm,bX,cA]/\
 ah 178 #[.agg #[bh,bC,bN],a0] w8 (λe cJ=>∃(cY:Int),e=cY/\
 ag cJ (af (some c0) 3) 0 [cm,bX,cA]/\ah 178 #[.agg #[cm,bX,cA],a0] cJ (λe dG=>∃(cn:Int),e=cn/\
 R (Value.bool (decide (cY<cn))) dG)))
 (R false w8)))):ah 177 #[a0,c0,c1] w R:=
 cq bV Tryz.func177 h
theorem KR.vc(h:
 Aw w #[aA,aq,au,aS,aT,aW] 107 λw0=>
 Aw w0 #[ak,ao,aw,bz,bT,bR] 107 λw1=>
 ah 176 #[.func (.func 177) #[] #[w,.pointer (some ⟨w0,0,none⟩)]] w1 (λe w2=>∃(b3:Bool),e=b3/\
 R b3 w2)):ah 124 #[.agg #[aA,aq,au,aS,aT,aW],.agg #[ak,ao,aw,bz,bT,bR]] w R:=
 cq bV Tryz.func124 h
theorem KS.vc{c0:Addr}{c1:Addr}(h:
 ∃(x0 x1 x2:Int),ag w.drew (af (some c0) 3) 0 [x0,x1,x2]/\
 ∃(x3 x4 x5:Int),ag w.drew (af (some c1) 3) 0 [x3,x4,x5]/\
 ∃(x6 x7 x8:Int),ag w.drew (af (some c0) 0) 0 [x6,x7,x8]/\
 ∃(x9 bh bC:Int),ag w.drew (af (some c1) 0) 0 [x9,bh,bC]/\
 ah 178 #[.agg #[x0,x1,x2],a0] w.drew (λe cR=>∃(cm:Int),e=cm/\
 ag cR (af (some c1) 0) 0 [x9,bh,bC]/\ag cR (af (some c0) 0) 0 [x6,x7,x8]/\ag cR (af (some c1) 3) 0 [x3,x4,x5]/\ah 178 #[.agg #[x3,x4,x5],a0] cR (λe bP=>∃(cA:Int),e=cA/\
 ag bP (af (some c1) 0) 0 [x9,bh,bC]/\ag bP (af (some c0) 0) 0 [x6,x7,x8]/\ah 178 #[.agg #[x6,x7,x8],a0] bP (λe cJ=>∃(cY:Int),e=cY/\
 ag cJ (af (some c1) 0) 0 [x9,bh,bC]/\ah 178 #[.agg #[x9,bh,bC],a0] cJ (λe dG=>∃(cn:Int),e=cn/\
 R ((aj ((if cA<cm then cA else cm)-(if cn>cY then cn else cY)))) dG))))):ah 239 #[a0,c0,c1] w R:=
 cq bV Tryz.func239 h
theorem TL.vc{bH:Bool}{eD:Bool}(h:
 Aw w #[aA,aq,au,aS,aT,aW,bM,bG,bH] 70 λw0=>
 Aw w0 #[ak,ao,aw,bz,bT,bR,eW,eX,eD] 70 λw1=>
 Aw w1 #[aa,aa,aa] 28 λw2=>
 Aw w2 #[aa,aa,aa] 28 λw3=>
 ∃J4:Option Addr->Option Addr->World->Prop,
 ((ah 48 #[.agg #[aA,aq,au,aS,aT,aW,bM,bG,bH]] w3.drew (vG λx6 x7 x8 x9 bh bC w5=>K4 w w0 w1 w2 w3.drew w5 (
 ag w5 (some ⟨w0,0,none⟩) 0 [ak,ao,aw,bz,bT,bR,eW,eX,eD]/\(ah 48 #[.agg #[ak,ao,aw,bz,bT,bR,eW,eX,eD]] w5 (vG λcm bX cA cD cY cp cR=>K4 w w0 w1 w2 w5 cR (
 (Aw cR #[aa,aa,aa,aa,aa,aa] 107 λfP=>
 Aw fP #[aa,aa,aa,aa,aa,aa] 107 λfx=>
 Sw fx cR #[x6,x7,x8,x9,bh,bC] λeK=>
 Sw eK fP #[cm,bX,cA,cD,cY,cp] λdT=>
 aO [aA,aq,au,aS,aT,aW,bM,bG,bH]/\aO [ak,ao,aw,bz,bT,bR,eW,eX,eD]/\aO [aa,aa,aa]/\aO [aa,aa,aa]/\J4 (some ⟨cR,0,none⟩) (some ⟨fP,0,none⟩) dT)/\(Aw cR #[aa,aa,aa,aa,aa,aa] 107 λeh=>
 Aw eh #[aa,aa,aa,aa,aa,aa] 107 λfZ=>
 Sw fZ eh #[x6,x7,x8,x9,bh,bC] λcU=>
 Sw cU cR #[cm,bX,cA,cD,cY,cp] λfi=>
 aO [aA,aq,au,aS,aT,aW,bM,bG,bH]/\aO [ak,ao,aw,bz,bT,bR,eW,eX,eD]/\aO [aa,aa,aa]/\aO [aa,aa,aa]/\J4 (some ⟨eh,0,none⟩) (some ⟨cR,0,none⟩) fi))))/\(Aw w5 #[aa,aa,aa,aa,aa,aa] 107 λeH=>
 (ah 48 #[.agg #[ak,ao,aw,bz,bT,bR,eW,eX,eD]] eH (vG λgd jD ic ig eF g8 gN=>K5 w w0 w1 w2 w5 eH gN (
 Aw gN #[aa,aa,aa,aa,aa,aa] 107 λjK=>
 Sw jK w5 #[x6,x7,x8,x9,bh,bC] λjW=>
 Sw jW gN #[gd,jD,ic,ig,eF,g8] λie=>
 aO [aA,aq,au,aS,aT,aW,bM,bG,bH]/\aO [ak,ao,aw,bz,bT,bR,eW,eX,eD]/\aO [aa,aa,aa]/\aO [aa,aa,aa]/\J4 (some ⟨w5,0,none⟩) (some ⟨gN,0,none⟩) ie)))/\(Aw eH #[aa,aa,aa,aa,aa,aa] 107 λlf=>
 ah 48 #[.agg #[ak,ao,aw,bz,bT,bR,eW,eX,eD]] lf (vG λmc kI lh oE jY nq jX=>K6 w w0 w1 w2 w5 eH lf jX (
 Sw jX w5 #[x6,x7,x8,x9,bh,bC] λqC=>
 Sw qC eH #[mc,kI,lh,oE,jY,nq] λlg=>
 aO [aA,aq,au,aS,aT,aW,bM,bG,bH]/\aO [ak,ao,aw,bz,bT,bR,eW,eX,eD]/\aO [aa,aa,aa]/\aO [aa,aa,aa]/\J4 (some ⟨w5,0,none⟩) (some ⟨eH,0,none⟩) lg))))/\(Aw w5 #[aa,aa,aa,aa,aa,aa] 107 λfY=>
 (ah 48 #[.agg #[ak,ao,aw,bz,bT,bR,eW,eX,eD]] fY (vG λtX mH lC iV pE kC lA=>K5 w w0 w1 w2 w5 fY lA (
 Aw lA #[aa,aa,aa,aa,aa,aa] 107 λpH=>
 Sw pH lA #[x6,x7,x8,x9,bh,bC] λmR=>
 Sw mR w5 #[tX,mH,lC,iV,pE,kC] λkr=>
 aO [aA,aq,au,aS,aT,aW,bM,bG,bH]/\aO [ak,ao,aw,bz,bT,bR,eW,eX,eD]/\aO [aa,aa,aa]/\aO [aa,aa,aa]/\J4 (some ⟨lA,0,none⟩) (some ⟨w5,0,none⟩) kr)))/\(Aw fY #[aa,aa,aa,aa,aa,aa] 107 λxh=>
 ah 48 #[.agg #[ak,ao,aw,bz,bT,bR,eW,eX,eD]] xh (vG λov nj sR yV pj mS mQ=>K6 w w0 w1 w2 w5 fY xh mQ (
 Sw mQ fY #[x6,x7,x8,x9,bh,bC] λkx=>
 Sw kx w5 #[ov,nj,sR,yV,pj,mS] λsJ=>
 aO [aA,aq,au,aS,aT,aW,bM,bG,bH]/\aO [ak,ao,aw,bz,bT,bR,eW,eX,eD]/\aO [aa,aa,aa]/\aO [aa,aa,aa]/\J4 (some ⟨fY,0,none⟩) (some ⟨w5,0,none⟩) sJ)))))))/\(Aw w3.drew #[aa,aa,aa,aa,aa,aa] 107 λKf=>
 (ah 48 #[.agg #[aA,aq,au,aS,aT,aW,bM,bG,bH]] Kf (vG λmj ml me uX uU wR np=>K4 w w0 w1 w2 Kf np (
 np.heap[w3.drew.heap.size]? =Kf.heap[w3.drew.heap.size]?/\
 ag np (some ⟨w0,0,none⟩) 0 [ak,ao,aw,bz,bT,bR,eW,eX,eD]/\(ah 48 #[.agg #[ak,ao,aw,bz,bT,bR,eW,eX,eD]] np (vG λzg vt uy sK qG sQ rJ=>K4 w w0 w1 w2 np rJ (
 rJ.heap[w3.drew.heap.size]? =np.heap[w3.drew.heap.size]?/\
 Aw rJ #[aa,aa,aa,aa,aa,aa] 107 λJP=>
 Sw JP w3.drew.heap.size #[mj,ml,me,uX,uU,wR] λWZ=>
 Sw WZ rJ #[zg,vt,uy,sK,qG,sQ] λw86=>
 aO [aA,aq,au,aS,aT,aW,bM,bG,bH]/\aO [ak,ao,aw,bz,bT,bR,eW,eX,eD]/\aO [aa,aa,aa]/\aO [aa,aa,aa]/\J4 (some ⟨w3.drew.heap.size,0,none⟩) (some ⟨rJ,0,none⟩) w86)))/\(Aw np #[aa,aa,aa,aa,aa,aa] 107 λAO=>
 ah 48 #[.agg #[ak,ao,aw,bz,bT,bR,eW,eX,eD]] AO (vG λS2 S4 Ft zh uz vv Kg=>K4 w w0 w1 w2 AO Kg (
 Kg.heap[w3.drew.heap.size]? =AO.heap[w3.drew.heap.size]?/\Kp np AO Kg/\
 Sw Kg w3.drew.heap.size #[mj,ml,me,uX,uU,wR] λZ0=>
 Sw Z0 np #[S2,S4,Ft,zh,uz,vv] λw96=>
 aO [aA,aq,au,aS,aT,aW,bM,bG,bH]/\aO [ak,ao,aw,bz,bT,bR,eW,eX,eD]/\aO [aa,aa,aa]/\aO [aa,aa,aa]/\J4 (some ⟨w3.drew.heap.size,0,none⟩) (some ⟨np,0,none⟩) w96))))))/\(Aw Kf #[aa,aa,aa,aa,aa,aa] 107 λw97=>
 ah 48 #[.agg #[aA,aq,au,aS,aT,aW,bM,bG,bH]] w97 (vG λIe mJ pL tU yS tV GM=>K4 w w0 w1 w2 w97 GM (
 GM.heap[w3.drew.heap.size]? =w97.heap[w3.drew.heap.size]?/\Kp Kf w97 GM/\
 ag GM (some ⟨w0,0,none⟩) 0 [ak,ao,aw,bz,bT,bR,eW,eX,eD]/\ah 48 #[.agg #[ak,ao,aw,bz,bT,bR,eW,eX,eD]] GM (vG λoN ox GX pI jE mf kq=>K4 w w0 w1 w2 GM kq (
 kq.heap[w3.drew.heap.size]? =GM.heap[w3.drew.heap.size]?/\Kp Kf GM kq/\
 Sw kq w3.drew.heap.size #[Ie,mJ,pL,tU,yS,tV] λyU=>
 Sw yU Kf #[oN,ox,GX,pI,jE,mf] λAW=>
 aO [aA,aq,au,aS,aT,aW,bM,bG,bH]/\aO [ak,ao,aw,bz,bT,bR,eW,eX,eD]/\aO [aa,aa,aa]/\aO [aa,aa,aa]/\J4 (some ⟨w3.drew.heap.size,0,none⟩) (some ⟨Kf,0,none⟩) AW))))))/\(Aw w3.drew #[aa,aa,aa,aa,aa,aa] 107 λNl=>
 (ah 48 #[.agg #[aA,aq,au,aS,aT,aW,bM,bG,bH]] Nl (vG λWq aaK adP aaL aaM Rg uY=>K4 w w0 w1 w2 Nl uY (
 uY.heap[w3.drew.heap.size]? =Nl.heap[w3.drew.heap.size]?/\
 ag uY (some ⟨w0,0,none⟩) 0 [ak,ao,aw,bz,bT,bR,eW,eX,eD]/\(ah 48 #[.agg #[ak,ao,aw,bz,bT,bR,eW,eX,eD]] uY (vG λGN Na adQ GO GP Q5 Nn=>K4 w w0 w1 w2 uY Nn (
 Nn.heap[w3.drew.heap.size]? =uY.heap[w3.drew.heap.size]?/\
 Aw Nn #[aa,aa,aa,aa,aa,aa] 107 λapX=>
 Sw apX Nn #[Wq,aaK,adP,aaL,aaM,Rg] λapY=>
 Sw apY w3.drew.heap.size #[GN,Na,adQ,GO,GP,Q5] λapZ=>
 aO [aA,aq,au,aS,aT,aW,bM,bG,bH]/\aO [ak,ao,aw,bz,bT,bR,eW,eX,eD]/\aO [aa,aa,aa]/\aO [aa,aa,aa]/\J4 (some ⟨Nn,0,none⟩) (some ⟨w3.drew.heap.size,0,none⟩) apZ)))/\(Aw uY #[aa,aa,aa,aa,aa,aa] 107 λNo=>
 ah 48 #[.agg #[ak,ao,aw,bz,bT,bR,eW,eX,eD]] No (vG λadR adS adT adU adV GR adW=>K4 w w0 w1 w2 No adW (
 adW.heap[w3.drew.heap.size]? =No.heap[w3.drew.heap.size]?/\Kp uY No adW/\
 Sw adW uY #[Wq,aaK,adP,aaL,aaM,Rg] λap0=>
 Sw ap0 w3.drew.heap.size #[adR,adS,adT,adU,adV,GR] λap1=>
 aO [aA,aq,au,aS,aT,aW,bM,bG,bH]/\aO [ak,ao,aw,bz,bT,bR,eW,eX,eD]/\aO [aa,aa,aa]/\aO [aa,aa,aa]/\J4 (some ⟨uY,0,none⟩) (some ⟨w3.drew.heap.size,0,none⟩) ap1))))))/\(Aw Nl #[aa,aa,aa,aa,aa,aa] 107 λpK=>
 ah 48 #[.agg #[aA,aq,au,aS,aT,aW,bM,bG,bH]] pK (vG λQ6 Q7 Q8 Q9 Ra ap2 Np=>K4 w w0 w1 w2 pK Np (
 Np.heap[w3.drew.heap.size]? =pK.heap[w3.drew.heap.size]?/\Kp Nl pK Np/\
 ag Np (some ⟨w0,0,none⟩) 0 [ak,ao,aw,bz,bT,bR,eW,eX,eD]/\ah 48 #[.agg #[ak,ao,aw,bz,bT,bR,eW,eX,eD]] Np (vG λap3 ap4 ap5 ap6 ap7 ap8 adX=>K4 w w0 w1 w2 Np adX (
 adX.heap[w3.drew.heap.size]? =Np.heap[w3.drew.heap.size]?/\Kp Nl Np adX/\
 Sw adX Nl #[Q6,Q7,Q8,Q9,Ra,ap2] λap9=>
 Sw ap9 w3.drew.heap.size #[ap3,ap4,ap5,ap6,ap7,ap8] λaqa=>
 aO [aA,aq,au,aS,aT,aW,bM,bG,bH]/\aO [ak,ao,aw,bz,bT,bR,eW,eX,eD]/\aO [aa,aa,aa]/\aO [aa,aa,aa]/\J4 (some ⟨Nl,0,none⟩) (some ⟨w3.drew.heap.size,0,none⟩) aqa)))))))/\
 ∀auA:Nat->Value,∀(aaN aaO:Option Addr)(aaP:World),J4 aaN aaO aaP->
 ∃(akJ akK akL akM akN akO:Int),ag aaP aaN 0 [akJ,akK,akL,akM,akN,akO]/\
 ∃(akP Wl Wm Wn akQ Nh:Int),ag aaP aaO 0 [akP,Wl,Wm,Wn,akQ,Nh]/\
 ah 124 #[.agg #[akJ,akK,akL,akM,akN,akO],.agg #[akP,Wl,Wm,Wn,akQ,Nh]] aaP (Rb λaqb Ns=>K4 w w0 w1 w2 aaP Ns (
 Br (!aqb)
 (Sw Ns w1 #[aa,aa,aa] λakR=>
 Sw akR w2 #[aa,aa,aa] λakS=>
 R (Value.tuple #[.agg #[aa,aa,aa],.agg #[aa,aa,aa]]) akS)
 (∃ahz:Int->World->Prop,
 (ah 239 #[aa,aaN,aaO] Ns (Ri λaqc adY=>K4 w w0 w1 w2 Ns adY (
 ah 239 #[(2:Int),aaN,aaO] adY (Ri λaqd adZ=>K4 w w0 w1 w2 adY adZ (
 Br (aqc>aqd)
 (aO [aA,aq,au,aS,aT,aW,bM,bG,bH]/\aO [ak,ao,aw,bz,bT,bR,eW,eX,eD]/\aO [aa,aa,aa]/\aO [aa,aa,aa]/\ahz (2) adZ)
 (aO [aA,aq,au,aS,aT,aW,bM,bG,bH]/\aO [ak,ao,aw,bz,bT,bR,eW,eX,eD]/\aO [aa,aa,aa]/\aO [aa,aa,aa]/\ahz (0) adZ))))))/\
 ∀auB:Nat->Value,∀(Ws:Int)(ahA:World),ahz Ws ahA->
 ∃akT:Int->World->Prop,
 (ah 239 #[Ws,aaN,aaO] ahA (Ri λNj Ni=>K4 w w0 w1 w2 ahA Ni (
 aO [aA,aq,au,aS,aT,aW,bM,bG,bH]/\aO [ak,ao,aw,bz,bT,bR,eW,eX,eD]/\aO [aa,aa,aa]/\aO [aa,aa,aa]/\akT ((if 4096<Nj then 4096 else Nj)) Ni)))/\
 ∀auC:Nat->Value,∀(AV:Int)(GV:World),akT AV GV->
 ∃ahB:Int->World->Prop,
 (ah 178 #[.agg #[aA,aq,au],Ws] GV.drew (Ri λGU Wu=>K4 w w0 w1 w2 GV.drew Wu (
 ag Wu (some ⟨w0,0,none⟩) 0 [ak,ao,aw]/\ah 178 #[.agg #[ak,ao,aw],Ws] Wu (Ri λFz Nk=>K4 w w0 w1 w2 Wu Nk (
 Br (GU<=Fz)
 (aO [aA,aq,au,aS,aT,aW,bM,bG,bH]/\aO [ak,ao,aw,bz,bT,bR,eW,eX,eD]/\aO [aa,aa,aa]/\aO [aa,aa,aa]/\ahB ((aj (0-AV))) Nk)
 (aO [aA,aq,au,aS,aT,aW,bM,bG,bH]/\aO [ak,ao,aw,bz,bT,bR,eW,eX,eD]/\aO [aa,aa,aa]/\aO [aa,aa,aa]/\ahB AV Nk))))))/\
 ∀auD:Nat->Value,∀(JU:Int)(wW:World),ahB JU wW->
 ah 155 #[.agg #[aa,aa,aa],Ws,JU] wW (iC λakU akV GY aaQ=>K4 w w0 w1 w2 wW aaQ (
 ah 155 #[.agg #[aa,aa,aa],Ws,(aj (0-JU))] aaQ (iC λRe Rf aaR ahC=>K4 w w0 w1 w2 aaQ ahC (
 Sw ahC w1 #[akU,akV,GY] λakW=>
 Sw akW w2 #[Re,Rf,aaR] λakX=>
 R (Value.tuple #[.agg #[akU,akV,GY],.agg #[Re,Rf,aaR]]) akX)))))))):ah 170 #[.agg #[aA,aq,au,aS,aT,aW,bM,bG,bH],.agg #[ak,ao,aw,bz,bT,bR,eW,eX,eD]] w R:=
 cq ⟨[],[(11,⟨[(10,.int .i64)],[],[]⟩),(9,⟨[(10,.int .i64)],[],[]⟩),(8,⟨[(9,.int .i64)],[],[]⟩),(2,⟨[(6,.ptr),(7,.ptr)],[],[]⟩)],[]⟩ Tryz.func170 h
theorem xK.vc{a0:Sl}(h:
 Br (a0.a).isNone
 (R (Value.slice none 0 0) w)
 (Aw w #[] 70 λw0=>
 ∃l1:LV,Rd w0 a0.a l1/\ba 72 9 w0 ⟨(some ⟨w,0,none⟩),0,0⟩ a0.n l1/\∀(s2:Sl)(w3:World),aV 70 9 w0 ⟨(some ⟨w,0,none⟩),0,0⟩ a0.n l1 s2 w3->Kp w w0 w3/\
 R s2 w3)):ah 169 #[a0] w R:=
 cq bV Tryz.func169 h
theorem Ps.vc{a0:Value}{a1:Sl}(h:
 ah 169 #[a1] w (λe w0=>∃(s1:Sl),e=s1/\
 ∃I2:Nat->Int->World->Prop,
 (∃n3,I2 n3 (0) w0)/\
 ∀(n3:Nat)(us4:Nat->Value)(x5:Int)(w6:World),I2 n3 x5 w6->
 Br (decide (x5<((s1.n:Nat):Int)))
 (∃I8:Nat->Int->World->Prop,
 (∃n9,I8 n9 ((aj (x5+1))) w6)/\
 ∀(n9:Nat)(Wv:Nat->Value)(bC:Int)(cR:World),I8 n9 bC cR->
 Br (decide (bC<((s1.n:Nat):Int)))
 (∃J14:Option Addr->Option Addr->World->Prop,
 (eo s1.a x5 s1.n/\∃(cA cD cY cp cn cW dh dN:Int)(Ig:Bool),ag cR.drew (af s1.a ((x5:Int).toNat*9)) 0 [cA,cD,cY,cp,cn,cW,dh,dN,Ig]/\
 eo s1.a bC s1.n/\∃(eE dQ fy fE g7 gd jD ic:Int)(Wi:Bool),ag cR.drew (af s1.a ((bC:Int).toNat*9)) 0 [eE,dQ,fy,fE,g7,gd,jD,ic,Wi]/\
 (ah 170 #[.agg #[cA,cD,cY,cp,cn,cW,dh,dN,Ig],.agg #[eE,dQ,fy,fE,g7,gd,jD,ic,Wi]] cR.drew (λe eM=>∃(g8 kv nk fB gA ou:Int),e=Value.tuple #[.agg #[g8,kv,nk],.agg #[fB,gA,ou]]/\
 (Aw eM #[aa,aa,aa] 28 λjr=>
 Aw jr #[aa,aa,aa] 28 λgO=>
 Sw gO eM #[g8,kv,nk] λku=>
 Sw ku jr #[fB,gA,ou] λjd=>
 J14 (some ⟨eM,0,none⟩) (some ⟨jr,0,none⟩) jd)/\(Aw eM #[aa,aa,aa] 28 λko=>
 Aw ko #[aa,aa,aa] 28 λAX=>
 Sw AX ko #[g8,kv,nk] λqC=>
 Sw qC eM #[fB,gA,ou] λlg=>
 J14 (some ⟨ko,0,none⟩) (some ⟨eM,0,none⟩) lg)))/\(Aw cR.drew #[aa,aa,aa] 28 λfY=>
 (ah 170 #[.agg #[cA,cD,cY,cp,cn,cW,dh,dN,Ig],.agg #[eE,dQ,fy,fE,g7,gd,jD,ic,Wi]] fY (λe lA=>∃(tX mH lC iV pE kC:Int),e=Value.tuple #[.agg #[tX,mH,lC],.agg #[iV,pE,kC]]/\lA.heap[cR.drew.heap.size]? =fY.heap[cR.drew.heap.size]?/\
 Aw lA #[aa,aa,aa] 28 λpH=>
 Sw pH cR.drew.heap.size #[tX,mH,lC] λmR=>
 Sw mR lA #[iV,pE,kC] λkr=>
 J14 (some ⟨cR.drew.heap.size,0,none⟩) (some ⟨lA,0,none⟩) kr))/\(Aw fY #[aa,aa,aa] 28 λxh=>
 ah 170 #[.agg #[cA,cD,cY,cp,cn,cW,dh,dN,Ig],.agg #[eE,dQ,fy,fE,g7,gd,jD,ic,Wi]] xh (λe mQ=>∃(ov nj sR yV pj mS:Int),e=Value.tuple #[.agg #[ov,nj,sR],.agg #[yV,pj,mS]]/\mQ.heap[cR.drew.heap.size]? =xh.heap[cR.drew.heap.size]?/\Kp fY xh mQ/\
 Sw mQ cR.drew.heap.size #[ov,nj,sR] λkx=>
 Sw kx fY #[yV,pj,mS] λsJ=>
 J14 (some ⟨cR.drew.heap.size,0,none⟩) (some ⟨fY,0,none⟩) sJ)))/\(Aw cR.drew #[aa,aa,aa] 28 λKf=>
 (ah 170 #[.agg #[cA,cD,cY,cp,cn,cW,dh,dN,Ig],.agg #[eE,dQ,fy,fE,g7,gd,jD,ic,Wi]] Kf (λe np=>∃(mj ml me uX uU wR:Int),e=Value.tuple #[.agg #[mj,ml,me],.agg #[uX,uU,wR]]/\np.heap[cR.drew.heap.size]? =Kf.heap[cR.drew.heap.size]?/\
 Aw np #[aa,aa,aa] 28 λrJ=>
 Sw rJ np #[mj,ml,me] λpk=>
 Sw pk cR.drew.heap.size #[uX,uU,wR] λW4=>
 J14 (some ⟨np,0,none⟩) (some ⟨cR.drew.heap.size,0,none⟩) W4))/\(Aw Kf #[aa,aa,aa] 28 λuA=>
 ah 170 #[.agg #[cA,cD,cY,cp,cn,cW,dh,dN,Ig],.agg #[eE,dQ,fy,fE,g7,gd,jD,ic,Wi]] uA (λe uW=>∃(qG sQ xg AN Oe rK:Int),e=Value.tuple #[.agg #[qG,sQ,xg],.agg #[AN,Oe,rK]]/\uW.heap[cR.drew.heap.size]? =uA.heap[cR.drew.heap.size]?/\Kp Kf uA uW/\
 Sw uW Kf #[qG,sQ,xg] λKg=>
 Sw Kg cR.drew.heap.size #[AN,Oe,rK] λgf=>
 J14 (some ⟨Kf,0,none⟩) (some ⟨cR.drew.heap.size,0,none⟩) gf))))/\
 ∀axu:Nat->Value,∀(p91 p92:Option Addr)(GZ:World),J14 p91 p92 GZ->
 ∃J94:World->Prop,
 (eo s1.a x5 s1.n/\∃(pF pG C2 Kh Ie mJ pL tU:Int)(M9:Bool),ag GZ.drew (af s1.a ((x5:Int).toNat*9)) 0 [pF,pG,C2,Kh,Ie,mJ,pL,tU,M9]/\
 ∃(tV sL oN:Int),ag GZ.drew p91 0 [tV,sL,oN]/\
 ah 171 #[.agg #[pF,pG,C2,Kh,Ie,mJ,pL,tU,M9],a0,.agg #[tV,sL,oN]] GZ.drew (λe Fx=>∃(GX pI jE mf jm yT CF Ww:Int)(CE:Bool),e=Value.agg #[GX,pI,jE,mf,jm,yT,CF,Ww,CE]/\
 eo s1.a x5 s1.n/\(((af s1.a ((x5:Int).toNat*9))).isSome=true/\Wr Fx (af s1.a ((x5:Int).toNat*9)) 9)/\(∀AR,AR=aH Fx (af s1.a ((x5:Int).toNat*9)) [GX,pI,jE,mf,jm,yT,CF,Ww,CE]->
 J94 AR)))/\
 ∀auG:Nat->Value,∀(pJ:World),J94 pJ->
 eo s1.a bC s1.n/\∃(aaM Rg Wk GN Na adQ GO GP:Int)(Z3:Bool),ag pJ.drew (af s1.a ((bC:Int).toNat*9)) 0 [aaM,Rg,Wk,GN,Na,adQ,GO,GP,Z3]/\
 ∃(Nc Nd Nf:Int),ag pJ.drew p92 0 [Nc,Nd,Nf]/\
 ah 171 #[.agg #[aaM,Rg,Wk,GN,Na,adQ,GO,GP,Z3],a0,.agg #[Nc,Nd,Nf]] pJ.drew (λe No=>∃(akY adR adS adT adU adV GR Ng:Int)(akZ:Bool),e=Value.agg #[akY,adR,adS,adT,adU,adV,GR,Ng,akZ]/\
 eo s1.a bC s1.n/\(((af s1.a ((bC:Int).toNat*9))).isSome=true/\Wr No (af s1.a ((bC:Int).toNat*9)) 9)/\(∀pK,pK=aH No (af s1.a ((bC:Int).toNat*9)) [akY,adR,adS,adT,adU,adV,GR,Ng,akZ]->
 ∃n13,n13<n9/\I8 n13 ((aj (bC+1))) pK)))
 (∃n7,n7<n3/\I2 n7 ((aj (x5+1))) cR))
 (R s1 w6))):ah 117 #[a0,a1] w R:=
 cq ⟨[(6,⟨[(7,.int .i64)],[],[]⟩),(3,⟨[(14,.int .i64)],[],[]⟩)],[(10,⟨[],[],[]⟩),(9,⟨[(8,.ptr),(9,.ptr)],[],[]⟩)],[]⟩ Tryz.func117 h
theorem zA{w v:World}{o:Obj}(e:v=w.alloc o):v.heap.size=w.heap.size+1:=by rw [e];simp
theorem zR{w v:World}{g:Nat}{c:Array Value}(e:v=w.setRow g c):v.heap.size=w.heap.size:=by rw [e];simp
theorem Lb{v:Value}{V:Ce->Int}{w:World}(hV:Tl v V w)(hv:j9 v=[])(b:Bx):ah 234 #[v,qQ b] w λe w'=>e=Value.bool (jO V b λx=>x==4)/\Ext w w':=by apply IK.vc;intro w0 e0;have x0:=aL e0;have z0:=zA e0;refine (DU (hV.ext x0) hv b (.func (.func 274) #[] #[]) rfl (λx=>x==4) λx w'=>cS (by kernel_rfl) rfl (IL.vc ⟨rfl,Ext.cE _⟩)).mono ?_;rintro e w1 ⟨rfl,x1⟩;exact ⟨_,rfl,x1.heap ab,rfl,x0.tr x1⟩
theorem TX{v:Value}{V:Ce->Int}{w:World}(hV:Tl v V w)(hv:j9 v=[])(b:Bx):ah 235 #[v,qQ b] w λe w'=>e=Value.bool (jO V b qR)/\Ext w w':=by
 apply TJ.vc;intro w0 e0;have x0:=aL e0;have z0:=zA e0;refine (DU (hV.ext x0) hv b (.func (.func 202) #[] #[]) rfl qR λx w'=>cS (by kernel_rfl) rfl ((nT x w').mono ?_)).mono ?_
 ·rintro e w'' ⟨rfl,rfl⟩;exact ⟨rfl,Ext.cE _⟩
 rintro e w1 ⟨rfl,x1⟩;exact ⟨_,rfl,x1.heap ab,rfl,x0.tr x1⟩
theorem uj(n:Int)(w:World):ah 260 #[n] w λe w'=>e=Value.tuple #[.int .u64 (max (dB n) (-(dB n))),.bool (decide (dB n<0))]/\w'=w:=by
 apply Pr.vc;refine (gn n w).mono ?_;rintro e w0 ⟨rfl,rfl⟩;have hc:=jH n;refine ⟨_,rfl,Br.mk (λh=> ?_) (λh=> ?_)⟩
 ·have h':dB n<0:=by simpa using h
  rw [wI,vM ab,h];exact ⟨by rw [show max (dB n) (-(dB n))=0-dB n from by omega],rfl⟩
 ·have h':¬dB n<0:=by simpa using h
  rw [vM ab,h];exact ⟨by rw [show max (dB n) (-(dB n))=dB n from by omega],rfl⟩
theorem R0{x:Int}(h:0<=x/\x<4294967296):nL .u64 x 4294967295=x:=by
 unfold nL;have e:(BitVec.ofInt IntKind.u64.bits x &&& BitVec.ofInt IntKind.u64.bits 4294967295).toNat=x.toNat:=by
  show (BitVec.ofInt 64 x &&& BitVec.ofInt 64 4294967295).toNat=_;rw [BitVec.toNat_and];have h1:(BitVec.ofInt 64 4294967295).toNat=2 ^ 32-1:=by decide
  rw [h1,Nat.and_two_pow_sub_one_eq_mod,BitVec.toNat_ofInt];omega
 rw [e,Int.toNat_of_nonneg h.1];exact vM ab
theorem p32:(2 ^(min (32:Int).toNat 64):Int)=4294967296:=by decide
theorem PC(x:Int)(h:0<=x/\x<=65536)(w:World):ah 273 #[.int .u64 x,.int .u64 16384] w λe w'=>e=Value.tuple #[.int .u64 0,.int .u64 (x*16384)]/\w'=w:=by
 apply BR.vc;have f:∀y:Int,y.fdiv 4294967296=y / 4294967296:=λy=>rT _ aF
 have q1:x / 4294967296=0:=by omega
 have q3:x*16384 / 4294967296=0:=by omega
 rw [p32,R0 (x:=x) ab,R0 (x:=16384) ab];simp only [f];rw [q1,show (16384:Int) / 4294967296=0 from by decide,vM (n:=x*16384) ab,q3,Int.zero_mul,Int.zero_mul,Int.mul_zero];exact ⟨congrArg (λn=>Ending.returned (.tuple #[.int .u64 n,.int .u64 (x*16384)])) aF,trivial⟩
theorem acu(q:Int)(hq:0<=q/\q<=100000000000000)(below rest:Bool){c0 c1:Nat}{w:World}{τ τ':TypeId}(h0:Row w c0 [.bool below] τ)(h1:Row w c1 [.bool rest] τ'):
  ah 285 #[.int .u64 q,c0,c1] w λe w'=>e=Value.int .u64 (if below=true/\rest=true then q+1 else q)/\w'=w:=by
 apply Gc.vc;refine ⟨below,h0.at 0 rfl,?_⟩
 cases below with
 |false=>exact ⟨rfl,rfl⟩
 |true=>
  refine ⟨rest,h1.at 0 rfl,?_⟩
  cases rest with
  |false=>exact ⟨rfl,rfl⟩
  |true=>exact ⟨by rw [vM ab];rfl,rfl⟩
theorem DV(q:Int)(hq:0<=q/\q<=100000000000000)(rest below:Bool)(w:World):ah 261 #[.int .u64 q,rest,below] w λe w'=>e=Value.int .i64 (if below=true then -(if rest=true then q+1 else q) else q)/\Ext w w':=by
 apply KQ.vc;intro w0 e0 w1 e1;have x0:=aL e0;have z0:=zA e0;have r0:Row w0 w [.bool rest] 4:=Row.nw e0;have x1:=aL e1;have r1:Row w1 w0 [.bool below] 4:=Row.nw e1;refine eZ (by simp;omega) ⟨below,r1.at 0 rfl,?_⟩
 cases below with
 |false=>exact ⟨by rw [wI];rfl,x0.tr x1⟩
 |true=>
  refine (acu q hq true rest r1 (r0.ext x1)).mono ?_;rintro e w7 ⟨rfl,rfl⟩;refine ⟨_,rfl,?_⟩;have e:(if (true=true/\rest=true) then q+1 else q)=if rest=true then q+1 else q:=by simp
  rw [e];have hb:0<=(if rest=true then q+1 else q)/\(if rest=true then q+1 else q)<=100000000000001:=by split<;>omega
  generalize (if rest=true then q+1 else q)=y at*;rw [aK (n:=y) (by unfold inI;omega),wI];exact ⟨by rw [if_pos rfl,Int.zero_sub],x0.tr x1⟩
theorem XT(n:Int)(h: -65536<=n/\n<=65536)(w:World):ah 232 #[n,(16384:Int)] w λe w'=>e=Value.int .i64 (n / 4)/\Ext w w':=by
 apply TK.vc;refine (uj n w).mono ?_;rintro e w0 ⟨rfl,rfl⟩;have hc:dB n=n:=qX ab;have hd:dB 16384=16384:=by decide
 rw [hc];refine ⟨_,_,rfl,(uj 16384 w0).mono ?_⟩;rintro e w3 ⟨rfl,rfl⟩;rw [hd];refine ⟨_,_,rfl,(PC (max n (-n)) ab w3).mono ?_⟩;rintro e w6 ⟨rfl,rfl⟩;refine ⟨_,_,rfl,eZ rfl ?_⟩;have hf:(max n (-n)*16384).fdiv (2 ^(min (16:Int).toNat 64))=max n (-n) / 4:=by rw [p16,rT _ aF];omega
 have hr:Int.tmod (max n (-n)*16384) 65536=max n (-n) % 4*16384:=by rw [Int.tmod_eq_emod_of_nonneg ab];omega
 rw [hf,hr];refine (DV (max n (-n) / 4) ab _ _ w6).mono ?_;rintro e aY ⟨rfl,bC⟩;refine ⟨_,rfl,?_,bC⟩;have hs:(!(decide (n<0)==decide ((16384:Int)<0)))=decide (n<0):=by
  by_cases q:n<0
  ·rw [decide_eq_true q];rfl
  ·rw [decide_eq_false q];rfl
 rw [hs];congr 2;by_cases q:n<0
 ·rw [decide_eq_true q,if_pos rfl];by_cases q2:max n (-n) % 4=0
  ·rw [q2];show -(max n (-n) / 4)=n / 4;omega
  ·have:(max n (-n) % 4*16384 !=0)=true:=by simp;omega
   rw [this,if_pos rfl];omega
 ·rw [decide_eq_false q];show max n (-n) / 4=n / 4;omega
theorem Bi(n:Int)(w:World):ah 231 #[n] w λe w'=>e=Value.int .i64 (Hs n)/\Ext w w':=by
 apply xI.vc;have e:(if 65536<(if (-65536)>n then (-65536) else n) then 65536 else (if (-65536)>n then (-65536) else n))=min (max n (-65536)) 65536:=by
  repeat' split
  all_goals omega
 rw [e];refine (XT _ ab w).mono ?_;rintro e w1 ⟨rfl,x1⟩;exact ⟨_,rfl,rfl,x1⟩
theorem PD(b:Bx)(v:Ce)(w:World):ah 300 #[qQ b,dY v] w λe w'=>e=(qQ (XU b v))/\Ext w w':=by apply XJ.vc;intro w0 e0 w1 e1 w2 e2;have x0:=aL e0;have z0:=zA e0;have r0:Row w0 w (fV b) bF:=Row.nw e0;have x1:=aL e1;have z1:=zA e1;have r1:Row w1 w0 (dA v) eu:=Row.nw e1;have x2:Ext w1 w2.drew:=(aL e2).drew;have z2:w2.drew.heap.size=w1.heap.size+1:=(zA e2:w2.heap.size=_);refine (iS b.1 v w2.drew).mono ?_;rintro e w3 ⟨rfl,x3⟩;have z3:=x3.size;refine ⟨_,_,_,rfl,x3.heap ab,x3.heap ab,x3.heap ab,Lo.wv (r1.ext (x2.tr x3)),qe (r0.ext (x1.tr (x2.tr x3))) rfl rfl rfl,(iS b.2 v w3).mono ?_⟩;rintro e w7 ⟨rfl,x7⟩;have z7:=x7.size;exact ⟨_,_,_,rfl,x7.heap ab,x7.heap ab,x7.heap ab,λaY Cn=>⟨rfl,(x0.tr (x1.tr (x2.tr (x3.tr x7)))).ae Cn ab⟩⟩
theorem PE(b:Bx)(ax k:Int)(hk:inI (k+1))(w:World):ah 312 #[qQ b,ax,k] w λe w'=>e=(qQ (DW b ax k))/\Ext w w':=by apply KN.vc;rw [aK hk];intro w0 e0 w1 e1;have x0:=aL e0;have z0:=zA e0;have r0:Row w0 w (fV b) bF:=Row.nw e0;have x1:Ext w0 w1.drew:=(aL e1).drew;have z1:w1.drew.heap.size=w0.heap.size+1:=(zA e1:w1.heap.size=_);have r1:=r0.ext x1;refine (qY k w1.drew).mono ?_;rintro e w2 ⟨rfl,rfl⟩;refine ⟨_,rfl,rfl,rfl,qe r1 rfl rfl rfl,qe r1 rfl rfl rfl,(iD b.1 ax (pO k) w1.drew).mono ?_⟩;rintro e w4 ⟨rfl,x4⟩;have z4:=x4.size;refine ⟨_,_,_,rfl,x4.heap ab,x4.heap ab,qe (r1.ext x4) rfl rfl rfl,(qY (k+1) w4).mono ?_⟩;rintro e w8 ⟨rfl,rfl⟩;refine ⟨_,rfl,rfl,rfl,qe (r1.ext x4) rfl rfl rfl,(iD b.2 ax (pO (k+1)) _).mono ?_⟩;rintro e bO ⟨rfl,bh⟩;have QX:=bh.size;exact ⟨_,_,_,rfl,bh.heap ab,bh.heap ab,λbP ux=>⟨rfl,(x0.tr (x1.tr (x4.tr bh))).ae ux ab⟩⟩
abbrev q8(b:Bx)(ax d:Int):List (LV):=(eC b ax d).map λx=> [.int .i64 x.1,.int .i64 x.2]
abbrev aeM(g:Nat):Value:=.func (.func 322) #[] #[g,.pointer (some ⟨g+1,0,none⟩),.pointer (some ⟨g+2,0,none⟩)]
theorem Lr(b:Bx)(ax d:Int)(w:World):ah 311 #[qQ b,ax,d] w λe w'=>e=(aeM w)/\Row w' w (fV b) bF/\Row w' (w.heap.size+1) [ax] 3/\Row w' (w.heap.size+2) [d] 3/\Ext w w':=by apply IM.vc;intro w0 e0 w1 e1 w2 e2;have z0:=zA e0;have z1:=zA e1;have r0:Row w0 w (fV b) bF:=Row.nw e0;have r1:Row w1 w0 [ax] 3:=Row.nw e1;have r2:Row w2 w1 [d] 3:=Row.nw e2;have x1:=aL e1;have x2:=aL e2;rw [z0] at r1;rw [z1,z0] at r2;exact ⟨by rw [z1,z0],r0.ext (x1.tr x2),r1.ext x2,r2,(aL e0).tr (x1.tr x2)⟩
theorem Jl{k:Int}(h: -2147483648<=k/\k<=2147483648):pO k=k*65536:=by unfold pO;omega
theorem Ls(b:Bx)(ax d:Int)(hb:da b 100000000000000)(hd: -4194304<=d/\d<=4194304)(g:Nat)(W0:World)(h0:Row W0 g (fV b) bF)(h1:Row W0 (g+1) [ax] 3)(h2:Row W0 (g+2) [d] 3):
  Iter Tryz.prog (aeM g) W0 (λi=>i=g\/i=g+1\/i=g+2) (q8 b ax d):=by
 refine ⟨⟨_,_,_,rfl,by kernel_rfl⟩,?_⟩;intro y B J Jx F0 W hB hsJ hsX yO hRd hround hJ0;refine cS (by kernel_rfl) (by rfl) ?_;apply DJ.vc;have rows:∀{wr:World},(∀i,(i=g\/i=g+1\/i=g+2)->wr.heap[i]? =W0.heap[i]?)->Row wr g (fV b) bF/\Row wr (g+1) [ax] 3/\Row wr (g+2) [d] 3:=λh=>⟨h0.same (h _ (.inl rfl)),h1.same (h _ (.inr (.inl rfl))),h2.same (h _ (.inr (.inr rfl)))⟩
 obtain ⟨q0,q1,q2⟩:=rows λi hi=>(hRd i hi).2.2
 have xd:=Ext.dr W;have Xa:=hb.ax aF ax;refine ⟨_,_,_,qe (o:=0) (q0.ext xd) rfl rfl rfl,_,(q1.ext xd).at 0 rfl,_,_,_,qe (o:=3) (q0.ext xd) rfl rfl rfl,_,(q1.ext xd).at 0 rfl,(dc b.1 ax W.drew).mono ?_⟩;rintro e w8 ⟨rfl,x8⟩;refine ⟨_,rfl,Lo.wv (q1.ext (xd.tr x8)),qe (o:=3) (q0.ext (xd.tr x8)) rfl rfl rfl,(dc b.2 ax w8).mono ?_⟩;rintro e bO ⟨rfl,bh⟩;have xW:=xd.tr (x8.tr bh);refine ⟨_,rfl,_,(q2.ext xW).at 0 rfl,?_⟩;obtain ⟨Q,hQ⟩:∃Q:Nat->World->Prop,Q=λk wr=>∃F,J k F wr/\∀i,(i=g\/i=g+1\/i=g+2)->¬F i/\i<wr.heap.size/\wr.heap[i]? =W0.heap[i]? :=⟨_,rfl⟩
 have ext:∀{k:Nat} {wr wr':World},Q k wr->Ext wr wr'->W.heap.size<=wr->Q k wr':=λ{k wr wr'} h x hz=>by rw [hQ] at h ⊢;obtain ⟨F,hJ,hk⟩:=h;exact ⟨F,hsJ _ _ _ _ hJ (Below.mono x ab) λi hi=>x.heap (yO _ _ _ hJ i hi),λi hi=>⟨(hk i hi).1,j6 (hk i hi).2.1 x.size,(x.heap (hk i hi).2.1).trans (hk i hi).2.2⟩⟩
 have init:Q 0 bO:=by refine ext (wr:=W) ?_ xW (aB _);rw [hQ];exact ⟨F0,hJ0,hRd⟩
 have qrow:∀{k:Nat} {wr:World},Q k wr->Row wr (g+2) [d] 3:=λh=>by rw [hQ] at h;obtain ⟨F,-,hk⟩:=h;exact h2.same (hk _ (.inr (.inr rfl))).2.2
 have round:∀{k:Nat} {wr:World} {x:LV},W.heap.size<=wr->(q8 b ax d)[k]? =some x->Q k wr->cr Tryz.prog y x wr λe w'=>W.heap.size<=w'.heap.size/\((e=true/\Q (k+1) w')\/(e=false/\∃F',Jx () F' w')):=λ{k wr x} hz hx h=>by
  rw [hQ] at h ⊢;obtain ⟨F,hJ,hk⟩:=h;refine dp (hround _ _ _ _ hx hJ) ?_;rintro e w' (⟨rfl,F2,Kk,gG⟩|⟨rfl,F2,Kk,gG⟩)
  ·refine ⟨by have:=gG.size;omega,.inl ⟨rfl,F2,Kk,λi hi=> ?_⟩⟩;obtain ⟨p1,p2,p3⟩:=hk i hi;refine ⟨λhf=> ?_,j6 p2 gG.size,(gG.same i p2 p1).trans p3⟩;rcases gG.sub i hf with hf|hf
   ·exact p1 hf
   ·omega
  ·exact ⟨by have:=gG.size;omega,.inr ⟨rfl,F2,Kk⟩⟩
 have fin:∀{wr:World},Q (q8 b ax d).length wr->∃F',J (q8 b ax d).length F' wr:=λh=>by rw [hQ] at h;obtain ⟨F,hJ,-⟩:=h;exact ⟨F,hJ⟩
 have zW:=xW.size;apply Br.mk<;>intro AL
 ·have AL:0<d:=by simpa using AL
  have hL:eC b ax d=(List.range (YQ (db b.2 ax) d (cu (db b.2 ax+65535)))).map λi:Nat=>(cu (db b.2 ax+65535)+i,(cu (db b.2 ax+65535)+i)*65536-db b.2 ax):=by unfold eC;rw [if_pos AL]
  have FM:∀{k:Nat},k<YQ (db b.2 ax) d (cu (db b.2 ax+65535))->(q8 b ax d)[k]? =some [.int .i64 (cu (db b.2 ax+65535)+k),.int .i64 ((cu (db b.2 ax+65535)+k)*65536-db b.2 ax)]:=λ{k} hk=>by unfold q8;rw [hL,aU,aU,List.getElem?_range hk];rfl
  have dI:(q8 b ax d).length=YQ (db b.2 ax) d (cu (db b.2 ax+65535)):=by unfold q8;rw [hL];simp
  have Ff:cu (db b.2 ax+65535)=(db b.2 ax+65535) / 65536:=by unfold cu;rw [qX ab]
  generalize q8 b ax d=xs at*;generalize db b.2 ax=top at*;generalize db b.1 ax=low at*;rw [aK (n:=top+65536) (by unfold inI;omega),aK (n:=top+65536-1) (by unfold inI;omega),show top+65536-1=top+65535 from by omega];refine (nV (top+65535) bO).mono ?_;rintro e bJ ⟨rfl,arK⟩;subst arK;rw [Ff] at FM dI ⊢;have abd:∀i:Nat,((top+65535) / 65536+(i:Int))*65536<top+d ↔ i<YQ top d ((top+65535) / 65536):=λi=>acZ ab
  have hn:YQ top d ((top+65535) / 65536)<=100:=by unfold YQ;omega
  generalize YQ top d ((top+65535) / 65536)=N at*;refine ⟨_,rfl,λn x wr=>∃k:Nat,x=(top+65535) / 65536+k/\k+n=N/\Q k wr/\W.heap.size<=wr,⟨N,0,by omega,by omega,init,zW⟩,?_⟩;rintro n us x wr ⟨k,rfl,hk,hq,zr⟩;have xr:=Ext.dr wr;have hqd:=ext hq xr zr;have zrd:W.heap.size<=wr.drew.heap.size:=zr;refine ⟨_,(qrow hqd).at 0 rfl,(qY _ wr.drew).mono ?_⟩;rw [Jl ab];rintro e dT ⟨rfl,arL⟩;subst arL;refine ⟨_,rfl,Lo.wv (qrow hqd),?_⟩;rw [aK (n:=top+d) (by unfold inI;omega)];refine Br.mk (λhc=>(qY _ wr.drew).mono ?_) (λhc=> ?_)
  ·have hc:=(abd k).1 (by simpa using hc);rw [Jl ab];rintro e fZ ⟨rfl,arM⟩;subst arM;have wq:aj (((top+65535) / 65536+(k:Int))*65536-top)=((top+65535) / 65536+(k:Int))*65536-top:=wI;have wk:aj ((top+65535) / 65536+(k:Int)+1)=(top+65535) / 65536+((k+1:Nat):Int):=by rw [wI];omega
   refine ⟨_,rfl,?_⟩;rw [wq];refine dp (round zrd (FM hc) hqd) ?_;rintro e fi ⟨z26,⟨rfl,M1⟩|⟨rfl,hx2⟩⟩
   ·exact ⟨true,rfl,Br.mk (λh=>by cases h) (λ_=>⟨n-1,by omega,k+1,wk,by omega,M1,z26⟩)⟩
   ·exact ⟨false,rfl,Br.mk (λ_=>⟨⟨_,rfl⟩,.inr hx2⟩) (λh=>by cases h)⟩
  ·have hc:¬k<N:=λq=>absurd ((abd k).2 q) (by simpa using hc)
   have e:k=N:=by omega
   subst e;rw [<-dI] at hqd;exact ⟨⟨_,rfl⟩,.inl (fin hqd)⟩
 ·have AL:¬0<d:=by simpa using AL
  have hL:eC b ax d=(List.range (tD (db b.1 ax) d (cu (db b.1 ax)-1))).map λi:Nat=>(cu (db b.1 ax)-1-i,(cu (db b.1 ax)-1-i+1)*65536-db b.1 ax):=by unfold eC;rw [if_neg AL]
  have FM:∀{k:Nat},k<tD (db b.1 ax) d (cu (db b.1 ax)-1)->(q8 b ax d)[k]? =some [.int .i64 (cu (db b.1 ax)-1-k),.int .i64 ((cu (db b.1 ax)-1-k+1)*65536-db b.1 ax)]:=λ{k} hk=>by unfold q8;rw [hL,aU,aU,List.getElem?_range hk];rfl
  have dI:(q8 b ax d).length=tD (db b.1 ax) d (cu (db b.1 ax)-1):=by unfold q8;rw [hL];simp
  have Ff:cu (db b.1 ax)=db b.1 ax / 65536:=by unfold cu;rw [qX ab]
  generalize q8 b ax d=xs at*;generalize db b.2 ax=top at*;generalize db b.1 ax=low at*;refine (nV low bO).mono ?_;rintro e gN ⟨rfl,arN⟩;subst arN;rw [Ff] at FM dI ⊢;have abd:∀i:Nat,low+d<(low / 65536-1-(i:Int)+1)*65536 ↔ i<tD low d (low / 65536-1):=λi=>UZ
  have hn:tD low d (low / 65536-1)<=100:=by unfold tD;omega
  generalize tD low d (low / 65536-1)=N at*;have ws:aj (low / 65536-1)=low / 65536-1:=wI;refine ⟨_,rfl,?_⟩;rw [ws];refine ⟨λn x wr=>∃k:Nat,x=low / 65536-1-k/\k+n=N/\Q k wr/\W.heap.size<=wr,⟨N,0,by omega,by omega,init,zW⟩,?_⟩;rintro n us x wr ⟨k,rfl,hk,hq,zr⟩;have xr:=Ext.dr wr;have hqd:=ext hq xr zr;have zrd:W.heap.size<=wr.drew.heap.size:=zr;have w1:aj (low / 65536-1-(k:Int)+1)=low / 65536-1-(k:Int)+1:=wI;rw [w1];refine ⟨_,(qrow hqd).at 0 rfl,(qY _ wr.drew).mono ?_⟩;rw [Jl ab];rintro e ie ⟨rfl,arO⟩;subst arO;refine ⟨_,rfl,Lo.wv (qrow hqd),?_⟩;rw [aK (n:=low+d) (by unfold inI;omega)];refine Br.mk (λhc=>(qY _ wr.drew).mono ?_) (λhc=> ?_)
  ·have hc:=(abd k).1 (by simpa using hc);rw [Jl ab];rintro e jX ⟨rfl,ah9⟩;subst ah9;have wq:aj ((low / 65536-1-(k:Int)+1)*65536-low)=(low / 65536-1-(k:Int)+1)*65536-low:=wI;have wk:aj (low / 65536-1-(k:Int)-1)=low / 65536-1-((k+1:Nat):Int):=by rw [wI];omega
   refine ⟨_,rfl,?_⟩;rw [wq];refine dp (round zrd (FM hc) hqd) ?_;rintro e gO ⟨z41,⟨rfl,M1⟩|⟨rfl,hx2⟩⟩
   ·exact ⟨true,rfl,Br.mk (λh=>by cases h) (λ_=>⟨n-1,by omega,k+1,wk,by omega,M1,z41⟩)⟩
   ·exact ⟨false,rfl,Br.mk (λ_=>⟨⟨_,rfl⟩,.inr hx2⟩) (λh=>by cases h)⟩
  ·have hc:¬k<N:=λq=>absurd ((abd k).2 q) (by simpa using hc)
   have e:k=N:=by omega
   subst e;rw [<-dI] at hqd;exact ⟨⟨_,rfl⟩,.inl (fin hqd)⟩
theorem Ya{b:Bx}{ax d:Int}{n:Nat}{x y:Int}(h:(q8 b ax d)[n]? =some [.int .i64 x,.int .i64 y]):(eC b ax d)[n]? =some (x,y):=by
 unfold q8 at h;rw [aU] at h
 cases hc:(eC b ax d)[n]? with
 |none=>rw [hc] at h;cases h
 |some c=>
  rw [hc] at h;simp only [Option.map_some] at h;injection h with h;injection h with h1 h;injection h with h2 _;injection h1 with _ h1;injection h2 with _ h2;exact congrArg some (Prod.ext h1 h2)
theorem aoR(d:Int):(if 4194304<(if (-4194304)>d then (-4194304) else d) then 4194304 else (if (-4194304)>d then (-4194304) else d))=nY d:=by
 unfold nY
 repeat' split
 all_goals omega
theorem PQ{v:Value}{V:Ce->Int}{w:World}(hV:Tl v V w)(hv:j9 v=[])(b:Bx)(hb:da b 100000000000000)(ax d:Int)(hax:0<=ax/\ax<3):
  ah 299 #[v,qQ b,ax,d] w λe w'=>e=Value.tuple #[.int .i64 (pa V aE b ax d).1,.bool (pa V aE b ax d).2]/\Ext w w':=by
 apply Pn.vc;rw [hv,pU,aoR];have hd:=Ja d;intro w0 e0 w1 e1 w2 e2 w3 e3 w4 e4;have x0:=aL e0;have z0:=zA e0;have r0:∃τ,Row w0 w [v] τ:=⟨_,by rw [e0];exact Row.new w [_] _⟩;have x1:=aL e1;have z1:=zA e1;have x2:=aL e2;have z2:=zA e2;have x3:=aL e3;have z3:=zA e3;have x4:=aL e4;have z4:=zA e4;have BH:=x0.tr (x1.tr (x2.tr (x3.tr x4)));obtain ⟨τ0,r0⟩:=r0;refine eZ (by simp;omega) (eZ (by simp;omega) ((Lr b ax (nY d) w4).mono ?_));rintro e w9 ⟨rfl,hb9,ha9,hd9,x9⟩;have z9:=x9.size;have l9:=hd9.lt;have Nt:=BH.tr x9;have r9:=r0.ext (x1.tr (x2.tr (x3.tr (x4.tr x9))));refine ⟨_,rfl,x9.heap ab,x9.heap ab,x9.heap ab,x9.heap ab,x9.heap ab,q8 b ax (nY d),λi=>i=w4.heap.size\/i=w4.heap.size+1\/i=w4.heap.size+2,λ_=>False,
  λn F y bb w'=>(∀i,¬F i)/\(∀x ∈(eC b ax (nY d)).take n,jO V (DW b ax x.1) aE=false)/\Mod (λi=>w9.heap.size<=i) w9 w',
  λo F y bb w'=>(∀i,¬F i)/\(y,bb)=pa V aE b ax d/\Mod (λi=>i=w2.heap.size\/i=w3.heap.size\/w9.heap.size<=i) w9 w',?_,?_,?_,λn F y bb w' h i hi=>(h.1 i hi).elim,λo F y bb w' h i hi=>(h.1 i hi).elim,λi hi=> ?_,λAX wT=> ?_,?_,?_,?_⟩
 ·intro x hx;obtain ⟨c,-,rfl⟩:=aZ.1 hx;exact ⟨_,_,rfl⟩
 ·rintro n F y bb eK dT ⟨h1,h2,h3⟩ kD -;exact ⟨h1,h2,h3.tr ⟨kD.os,kD.tape,kD.output,kD.size,λi hi hn=>kD.block i (Nat.lt_of_not_le hn)⟩ λi hi=> .inl hi⟩
 ·rintro o F y bb eK dT ⟨h1,h2,h3⟩ kD -;exact ⟨h1,h2,h3.tr ⟨kD.os,kD.tape,kD.output,kD.size,λi hi hn=>kD.block i (Nat.lt_of_not_le hn)⟩ λi hi=> .inl (.inr (.inr hi))⟩
 ·rcases hi with rfl|rfl|rfl<;>exact ⟨by omega,id,by omega,by omega,by omega,by omega,by omega,trivial⟩
 ·exact ⟨Ls b ax (nY d) hb hd _ AX (hb9.same (wT.ext.block _ ab)) (ha9.same (wT.ext.block _ ab)) (hd9.same (wT.ext.block _ ab)),rfl,rfl,rfl,λi h=>h,λc hc=>by simp at hc,Mod.aD wT.ext⟩
 ·rintro n F us y50 b51 lC iV pH hx hI;have z56:=hI.2.2.size;refine ⟨Below.refl _ _,λmR fQ aaT=> ?_⟩;obtain ⟨hF,mF,hM⟩:=aaT;have zr:=fQ.size;have hc:=Ya hx;have mg:=bg hc;have oq:=Lt hb hd _ mg;have z57:=hM.size;have ht:(eC b ax (nY d)).take (n+1)=(eC b ax (nY d)).take n++ [(lC,iV)]:=by rw [dD,hc];rfl
  have zd:=lG mR;have aqK:Tl v V mR.drew:=by obtain ⟨D,hD1,hD2⟩:=hV;refine ⟨D,λi hi=>by have:=hD1 i hi;have:=Nt.size;omega,λw' hk=>hD2 w' λi hi=>(hk i hi).trans ?_⟩;have:=hD1 i hi;have:=Nt.size;exact (hM.same i ab ab).trans (Nt.heap ab)
  refine (PE b ax lC (by simp only at oq;unfold inI;omega) mR.drew).mono ?_;rintro e mQ ⟨rfl,iW⟩;have z60:=iW.size;have aaU:=hM.trans (Mod.aD ((Ext.dr mR).tr iW));refine ⟨_,_,_,_,_,_,rfl,iW.heap ab,iW.heap ab,iW.heap ab,iW.heap ab,iW.heap ab,Lo.wv (aaU.row r9 ab),(mZ (aqK.ext iW) hv (DW b ax lC)).mono ?_⟩;rintro e il ⟨rfl,nj⟩;have z62:=nj.size;have Nv:=aaU.trans (Mod.aD nj);refine ⟨_,rfl,nj.heap ab,nj.heap ab,nj.heap ab,nj.heap ab,nj.heap ab,Br.mk (λhq=>λsO Wx GL Wy=> ?_) (λhq=> ?_)⟩
  ·have hax2:pa V aE b ax d=(iV,true):=by
    unfold pa;have hf:(eC b ax (nY d)).find? (λx=>jO V (DW b ax x.1) aE)=some (lC,iV):=by
     have hsplit:eC b ax (nY d)=(eC b ax (nY d)).take n++(lC,iV)::(eC b ax (nY d)).drop (n+1):=by
      have h1:=List.take_append_drop n (eC b ax (nY d));have h2:(eC b ax (nY d)).drop n=(lC,iV)::(eC b ax (nY d)).drop (n+1):=by have hl:=(cG.1 hc);rw [List.drop_eq_getElem_cons hl.1,hl.2]
      rw [h2] at h1;exact h1.symm
     rw [hsplit,List.find?_append,List.find?_eq_none.2 λx hx=>by rw [mF x hx];decide];simp [hq]
    rw [hf]
   have aqw:GL.heap.size=il.heap.size:=by rw [Wy,setRow_size,Wx,setRow_size]
   have ahK:∀i,i≠w2.heap.size->i≠w3.heap.size->GL.heap[i]? =il.heap[i]? :=λi h1 h2=>by rw [Wy,setRow_other _ _ _ _ h2,Wx,setRow_other _ _ _ _ h1]
   have aaV:Mod (λi=>i=w2.heap.size\/i=w3.heap.size) il GL:=⟨by rw [Wy,Wx];rfl,by rw [Wy,Wx];rfl,by rw [Wy,Wx];rfl,by omega,λi _ hn=>ahK i (λq=>hn (.inl q)) (λq=>hn (.inr q))⟩;refine ⟨rfl,λ_=>False,⟨rfl,rfl,rfl,λi h=>h,hax2.symm,(Nv.mono λi _ h=> .inr (.inr h)).trans (aaV.mono λi _ h=>h.elim .inl λh=> .inr (.inl h))⟩,?_⟩;have FB:=((Mod.aD (F:=λi=>i=w2.heap.size\/i=w3.heap.size) (((Ext.dr mR).tr iW).tr nj))).trans aaV;refine Step.late ⟨λi hi=> ?_,FB.size,λi hi hn=>FB.same i hi λq=>hn (.inr ?_)⟩
   ·rcases hi with h|h
    ·exact h.elim
    ·exact .inl (.inr h)
   ·rcases q with rfl|rfl<;>simp
  ·have Nw:=((Ext.dr mR).tr iW).tr nj;refine ⟨λ_=>False,⟨rfl,rfl,rfl,λi h=>h,λc hc=> ?_,Nv⟩,Step.late ⟨λi hi=> ?_,Nw.size,λi hi _=>Nw.block i hi⟩⟩
   ·rw [ht,di] at hc;rcases hc with hc|hc
    ·exact mF c hc
    ·rw [List.mem_singleton.1 hc];exact hq
   ·rcases hi with h|h
    ·exact h.elim
    ·exact .inl (.inr h)
 ·rintro F us y70 b73 lD ⟨hF,mF,hM⟩ Rl qD Wz jt e76;have z74:=hM.size;have dI:(q8 b ax (nY d)).length=(eC b ax (nY d)).length:=by unfold q8;simp
  rw [dI,iA] at mF;have hax2:pa V aE b ax d=(nY d,false):=by unfold pa;rw [List.find?_eq_none.2 λx hx=>by rw [mF x hx];decide]
  rw [hax2];refine ⟨by rw [e76,setRow_other _ _ _ _ ab,Wz,setRow_other _ _ _ _ ab];exact Rl,λrJ fQ=>⟨rfl,?_⟩⟩;have uX:Ext w lD:=hM.ext Nt λi hi=>by have:=Nt.size;omega
  have wR:Ext w jt:=(uX.ae Wz ab).ae e76 ab;exact (Mod.nX fQ).ext wR λi hi=>by have:=Nt.size;omega
 ·rintro F us y80 b83 JP ⟨hF,hax2,hM⟩ Rl;rw [<-hax2];refine ⟨Rl,λWZ fQ=>⟨rfl,?_⟩⟩;have xg:Ext w JP:=hM.ext Nt λi hi=>by have:=Nt.size;omega
  exact (Mod.nX fQ).ext xg λi hi=>by have:=Nt.size;omega
theorem nS{v:Value}{V:Ce->Int}{w:World}(hV:Tl v V w)(hv:j9 v=[])(b:Bx)(hb:da b 100000000000000)(ax d:Int)(hax:0<=ax/\ax<3):
  ah 275 #[v,qQ b,ax,d] w λe w'=>e=Value.tuple #[qQ (cF V aE b ax d).1,.bool (cF V aE b ax d).2]/\Ext w w':=by
 apply KP.vc;intro w0 e0 w1 e1;have x0:=aL e0;have z0:=zA e0;have r0:Row w0 w (fV b) bF:=Row.nw e0;have x1:=aL e1;have z1:=zA e1;refine (PQ (hV.ext (x0.tr x1)) hv b hb ax d hax).mono ?_;rintro e w2 ⟨rfl,x2⟩;have z2:=x2.size;have zd:=lG w2;refine ⟨_,_,rfl,x2.heap ab,x2.heap ab,(iD (0,0,0) ax (pa V aE b ax d).1 w2.drew).mono ?_⟩;rintro e w5 ⟨rfl,x5⟩;have z5:=x5.size;refine ⟨_,_,_,rfl,x5.heap ab,x5.heap ab,Lo.wv (r0.ext (x1.tr (x2.tr ((Ext.dr w2).tr x5)))),(PD b (iE (0,0,0) ax (pa V aE b ax d).1) w5).mono ?_⟩;rintro e w9 ⟨rfl,x9⟩;have z9:=x9.size;exact ⟨_,_,_,_,_,_,rfl,x9.heap ab,x9.heap ab,λcJ FP=>⟨rfl,(x0.tr (x1.tr (x2.tr ((Ext.dr w2).tr (x5.tr x9))))).ae FP ab⟩⟩
abbrev Ht:=Bool × Bool × Bool
abbrev hL(h:Ht):LV:=[.bool h.1,.bool h.2.1,.bool h.2.2]
abbrev dy:TypeId:=299
theorem gm(h:Ht):One (hL h):=by intro v hv;simp at hv;rcases hv with rfl|rfl|rfl<;>rfl
theorem cT{g h o:Nat}(hn:g≠h):bD (some ⟨g,o,none⟩)≠some h:=λq=>hn (Option.some.inj q)
theorem po{g h o n:Nat}(hn:g≠h):bD (af (some ⟨g,o,none⟩) n)≠some h:=by rw [cV];exact cT hn
theorem CN{wr:World}{gh go gb:Nat}{h:Ht}{cs:LV}(rh:Row wr gh (hL h) dy)(ro:Row wr go cs dy)(hc:cs.length=3)(iM:gh≠go)(h1:gb≠gh)(h2:gb≠go)(c:Array Value):
  ag wr.drew (some ⟨gh,0,none⟩) 0 (hL h)/\∀fZ:World,fZ=wr.drew.setRow gb c->ag fZ (some ⟨gh,0,none⟩) 0 (hL h)/\Wr fZ (some ⟨go,0,none⟩) 3/\∀cU:World,cU=Vc.aH fZ (some ⟨go,0,none⟩) (hL h)->ag cU (some ⟨go,0,none⟩) 0 (hL h)/\Mod (λi=>i=gb\/i=go) wr cU:=by
 have xd:=Ext.dr wr;refine ⟨Lo.wv (rh.ext xd),λfZ GJ=> ?_⟩;have rh2:Row fZ gh (hL h) dy:=(rh.ext xd).same (by rw [GJ];exact setRow_other _ _ _ _ h1.symm);have ro2:Row fZ go cs dy:=(ro.ext xd).same (by rw [GJ];exact setRow_other _ _ _ _ h2.symm);have m24:Mod (λi=>i=gb\/i=go) wr fZ:=by refine (Mod.aD xd).trans ⟨by rw [GJ];rfl,by rw [GJ];rfl,by rw [GJ];rfl,by rw [GJ,setRow_size];exact aB _,λi _ hn=>by rw [GJ];exact setRow_other _ _ _ _ λq=>hn (.inl q)⟩
 refine ⟨Lo.wv rh2,ro2.wr ab,λcU wK=> ?_⟩;rw [ro2.aH (vs:=hL h) (by rw [hc];exact aB _) (gm h),aQ (by rw [hc];rfl)] at wK;have r25:Row cU go (hL h) dy:=ro2.st wK;exact ⟨Lo.wv r25,m24.trans ⟨by rw [wK];rfl,by rw [wK];rfl,by rw [wK];rfl,by rw [wK,setRow_size];exact aB _,λi _ hn=>by rw [wK];exact setRow_other _ _ _ _ λq=>hn (.inr q)⟩⟩
def KG(V:Ce->Int)(p:Int->Bool)(b:Bx)(d:Ce):Nat->Bx × Ht
 |0=>(b,(false,false,false))
 |1=>((cF V p b 1 d.2.1).1,(false,(cF V p b 1 d.2.1).2,false))
 |2=>((cF V p (cF V p b 1 d.2.1).1 0 d.1).1,((cF V p (cF V p b 1 d.2.1).1 0 d.1).2,(cF V p b 1 d.2.1).2,false))
 |_=>kG V p b d
theorem acb{V:Ce->Int}{p:Int->Bool}{b:Bx}{d:Ce}{m:Int}(hb:da b m)(hm:m<=99990000000000){k:Nat}(hk:k<3):da (KG V p b d k).1 100000000000000:=by
 have up:∀{c:Bx} {a:Int},da c a->a<=100000000000000->da c 100000000000000:=λh1 h2=>by unfold da at h1 ⊢;omega
 have h1:=dP (V:=V) (p:=p) (ax:=1) (d:=d.2.1) hb ab;have h2:=dP (V:=V) (p:=p) (ax:=0) (d:=d.1) h1 ab;have:k=0\/k=1\/k=2:=by omega
 rcases this with rfl|rfl|rfl
 ·exact up hb ab
 ·exact up h1 ab
 ·exact up h2 ab
theorem Dy{v:Value}{V:Ce->Int}{w:World}(hV:Tl v V w)(hv:j9 v=[])(b:Bx){m:Int}(hb:da b m)(hm:m<=99990000000000)(d:Ce):
  ah 240 #[v,qQ b,dY d] w λe w'=>e=Value.tuple #[qQ (kG V aE b d).1,.agg (hL (kG V aE b d).2).toArray]/\Ext w w':=by
 apply O6.vc;intro w0 e0 w1 e1 w2 e2 w3 e3 w4 e4;have x0:=aL e0;have z0:=zA e0;have r0:Row w0 w (fV b) bF:=Row.nw e0;have x1:=aL e1;have z1:=zA e1;have x2:=aL e2;have z2:=zA e2;have x3:=aL e3;have z3:=zA e3;have r3:Row w3 w2 (hL (false,false,false)) dy:=Row.nw e3;have x4:=aL e4;have z4:=zA e4;have r4:Row w4 w3 (hL (false,false,false)) dy:=Row.nw e4;have BH:=x0.tr (x1.tr (x2.tr (x3.tr x4)));refine ⟨λn x a1 a2 a3 a4 a5 a6 wr=>∃k:Nat,x=k/\k+n=3/\a1=(KG V aE b d k).1.1.1/\a2=(KG V aE b d k).1.1.2.1/\a3=(KG V aE b d k).1.1.2.2/\a4=(KG V aE b d k).1.2.1/\a5=(KG V aE b d k).1.2.2.1/\a6=(KG V aE b d k).1.2.2.2/\Row wr w (fV (KG V aE b d k).1) bF/\Row wr w3 (hL (KG V aE b d k).2) dy/\Row wr w2 (hL (false,false,false)) dy/\Ext w wr,
  ⟨3,rfl,rfl,0,rfl,rfl,rfl,rfl,rfl,rfl,rfl,rfl,r0.ext (x1.tr (x2.tr (x3.tr x4))),r4,r3.ext x4,BH⟩,?_⟩
 rintro n us x a1 a2 a3 a4 a5 a6 wr ⟨k,rfl,hk,rfl,rfl,rfl,rfl,rfl,rfl,hb',hh,ho,xr⟩;have l3:=hh.lt;apply Br.mk<;>intro hc
 ·have hc:(k:Int)<3:=by simpa using hc
  have za:k=0\/k=1\/k=2:=by omega
  have yK:=acb (V:=V) (p:=aE) (d:=d) hb hm (k:=k) ab;obtain ⟨a,ha,ha1,ZW,ha3⟩:∃a:Nat,a<3/\([(1:Int),aa,(2:Int)]:LV)[((k:Nat):Int).toNat*1]? =some (.int .i64 (a:Int))/\(KG V aE b d (k+1)).1=(cF V aE (KG V aE b d k).1 a (db d a)).1/\aR (hL (KG V aE b d k).2) a [.bool (cF V aE (KG V aE b d k).1 a (db d a)).2]=hL (KG V aE b d (k+1)).2:=by
   rcases za with rfl|rfl|rfl
   ·exact ⟨1,by decide,rfl,rfl,rfl⟩
   ·exact ⟨0,by decide,rfl,rfl,rfl⟩
   ·exact ⟨2,by decide,rfl,rfl,rfl⟩
  have zd:=lG wr;refine ⟨⟨by omega,by omega⟩,_,ha1,(dc d a wr.drew).mono ?_⟩;rintro e dG ⟨rfl,cp⟩;have z18:=cp.size;have akc:=xr.tr ((Ext.dr wr).tr cp);refine ⟨_,rfl,cp.heap ab,cp.heap ab,cp.heap ab,Lo.wv (hb'.ext ((Ext.dr wr).tr cp)),(nS (hV.ext akc) hv (KG V aE b d k).1 yK a (db d a) ab).mono ?_⟩;rintro e fx ⟨rfl,cW⟩;have z20:=cW.size;have ZX:=(Ext.dr wr).tr (cp.tr cW);refine ⟨_,_,_,_,_,_,_,rfl,cW.heap ab,cW.heap ab,cW.heap ab,λgN e28=> ?_⟩;generalize hy:cF V aE (KG V aE b d k).1 a (db d a)=y at*;have rb:Row gN w (fV y.1) bF:=by rw [e28];exact Row.set (hb'.ext ZX) [_,_,_,_,_,_]
  have rh:Row gN w3 (hL (KG V aE b d k).2) dy:=(hh.ext ZX).same (by rw [e28];exact setRow_other _ _ _ _ ab);have ro:Row gN w2 (hL (false,false,false)) dy:=(ho.ext ZX).same (by rw [e28];exact setRow_other _ _ _ _ ab);have g7:Ext w gN:=(akc.tr cW).ae e28 (aB _);have hpp:af (some ⟨w3.heap.size,0,none⟩) (((a:Nat):Int).toNat*1)=af (some ⟨w3.heap.size,0,none⟩) a:=by rw [ej,Nat.mul_one]
  obtain ⟨p1,p2⟩:=rh.je (j:=a) (v:=.bool y.2) ha rfl;have wk:=mz (j:=k);rw [hpp];refine ⟨by omega,by omega,⟨rfl,p1⟩,po ab,po ab,po ab,λdR M3=> ?_⟩;obtain ⟨q1,q2⟩:=p2 dR M3;exact ⟨n-1,by omega,rfl,rfl,k+1,wk,by omega,by rw [ZW],by rw [ZW],by rw [ZW],by rw [ZW],by rw [ZW],by rw [ZW],by rw [ZW];exact rb.same (q2.same _ rb.lt ab),by rw [<-ha3];exact q1,ro.same (q2.same _ ro.lt ab),q2.ext g7 λi hi=>by omega⟩
 ·have hc:¬(k:Int)<3:=by simpa using hc
  have za:k=3:=by omega
  subst za;obtain ⟨q1,q2⟩:=CN (gb:=w1.heap.size) hh ho rfl ab ab ab _;refine ⟨_,_,_,q1,λeM M5=> ?_⟩;obtain ⟨q3,q4,q5⟩:=q2 eM M5;refine ⟨q3,⟨rfl,q4⟩,cT ab,cT ab,cT ab,λjc e34=> ?_⟩;obtain ⟨q6,q7⟩:=q5 jc e34;exact ⟨_,_,_,q6,rfl,q7.ext xr λi hi=>by omega⟩
theorem HJ(a b:Bx)(ha:da a 100000000000000)(hb:da b 100000000000000)(w:World):ah 276 #[qQ a,qQ b] w λe w'=>e=Value.int .i64 (yk a b)/\Ext w w':=by
 apply Pp.vc;intro w0 e0 w1 e1;have x1:Ext w w1.drew:=((aL e0).bn e1).drew;unfold da at ha hb;rw [aK (n:=b.1.1-a.1.1) (by unfold inI;omega),aK (n:=b.1.2.2-a.1.2.2) (by unfold inI;omega),aK (n:=0-(b.1.1-a.1.1)) (by unfold inI;omega),aK (n:=0-(b.1.2.2-a.1.2.2)) (by unfold inI;omega)];have e1:∀y:Int,(if 0-y>y then 0-y else y)=max y (-y):=λy=>by split<;>omega
 rw [e1,e1,wI];exact ⟨rfl,x1⟩
def stK(h:Ht)(v:Ce):Nat->Ce
 |0=>v
 |1=>if h.1 then iE v 0 0 else v
 |2=>(λv=>if h.2.1 then iE v 1 0 else v) (if h.1 then iE v 0 0 else v)
 |_=>lU h v
theorem UR(h:Ht)(v:Ce)(w:World):ah 238 #[.agg (hL h).toArray,dY v] w λe w'=>e=(dY (lU h v))/\Ext w w':=by
 apply BP.vc;intro w0 e0 w1 e1 w2 e2;have x0:=aL e0;have z0:=zA e0;have r0:Row w0 w (hL h) dy:=Row.nw e0;have x1:=aL e1;have z1:=zA e1;have x2:=aL e2;have z2:=zA e2;have yM:=x0.tr (x1.tr x2);refine ⟨_,_,_,Lo.wv (r0.ext (x1.tr x2)),λn x a1 a2 a3 wr=>∃k:Nat,x=k/\k+n=3/\(a1,a2,a3)=stK h v k/\Ext w wr/\w2.heap.size<=wr,⟨3,rfl,0,rfl,rfl,rfl,yM,aB _⟩,?_⟩;rintro n us x a1 a2 a3 wr ⟨k,rfl,hk,hs,xr,zr⟩;apply Br.mk<;>intro hc
 ·have hc:(k:Int)<3:=by simpa using hc
  have za:k=0\/k=1\/k=2:=by omega
  obtain ⟨r,hr1,pP⟩:∃r:Bool,([.bool h.1,.bool h.2.1,.bool h.2.2]:LV)[((k:Nat):Int).toNat*1]? =some (.bool r)/\stK h v (k+1)=if r then iE (stK h v k) k 0 else stK h v k:=by
   rcases za with rfl|rfl|rfl
   ·exact ⟨h.1,rfl,rfl⟩
   ·exact ⟨h.2.1,rfl,rfl⟩
   ·exact ⟨h.2.2,rfl,rfl⟩
  have wk:=mz (j:=k);refine ⟨⟨by omega,by omega⟩,r,hr1,Br.mk (λhq=>(iD (a1,a2,a3) k 0 wr).mono ?_) (λhq=> ?_)⟩
  ·rintro e cJ ⟨rfl,cD⟩;have z16:=cD.size;refine ⟨_,_,_,rfl,cD.heap ab,cD.heap ab,λfx e20=>⟨n-1,by omega,rfl,k+1,wk,by omega,?_,(xr.tr cD).ae e20 ab,by rw [zR e20];omega⟩⟩;rw [pP,hq,if_pos rfl,<-hs]
  ·exact ⟨n-1,by omega,rfl,k+1,wk,by omega,by rw [pP,hq,if_neg aF,<-hs],xr,zr⟩
 ·have hc:¬(k:Int)<3:=by simpa using hc
  have za:k=3:=by omega
  subst za;intro eK yY;have hs:(a1,a2,a3)=lU h v:=hs;refine ⟨by rw [<-hs],xr.ae yY ab⟩
theorem pf{b:Bx}{m n:Int}(h:da b m)(hmn:m<=n):da b n:=by unfold da at h ⊢;omega
set_option maxHeartbeats 1000000 in
theorem Qa{v:Value}{V:Ce->Int}{w:World}(hV:Tl v V w)(hv:j9 v=[])(b:Bx){m:Int}(hb:da b m)(hm:m<=99980000000000)(d:Ce)(up:Int):
  ah 236 #[v,qQ b,dY d,up] w λe w'=>e=Value.tuple #[qQ (lQ V aE b d up).1,.agg (hL (lQ V aE b d up).2).toArray]/\Ext w w':=by
 apply Pq.vc;have hup:(if 65536<up then 65536 else up)=min up 65536:=by split<;>omega
 rw [hup];intro w0 e0 w1 e1 w2 e2 w3 e3;have x0:=aL e0;have z0:=zA e0;have r0:Row w0 w (fV b) bF:=Row.nw e0;have x1:=aL e1;have z1:=zA e1;have r1:Row w1 w0 (dA d) eu:=Row.nw e1;have x2:=aL e2;have z2:=zA e2;have x3:=aL e3;have z3:=zA e3;have r3:Row w3 w2 (hL (false,false,false)) dy:=Row.nw e3;have AK:=x0.tr (x1.tr (x2.tr x3));refine (Dy (hV.ext AK) hv b hb ab d).mono ?_;rintro e w4 ⟨rfl,x4⟩;have z4:=x4.size;have hpn:=IJ (V:=V) (p:=aE) (d:=d) hb ab;have hstep:lQ V aE b d up=(if ((!(kG V aE b d).2.1 && !(kG V aE b d).2.2.2)||decide (up<=0)|| !jO V (iz b) aE)=true then kG V aE b d else if yk b (cF V aE (cF V aE (cF V aE (cF V aE b 1 (min up 65536)).1 0 d.1).1 2 d.2.2).1 1 (-((cF V aE b 1 (min up 65536)).1.1.2.1-b.1.2.1))).1<=yk b (kG V aE b d).1 then kG V aE b d else ((cF V aE (cF V aE (cF V aE (cF V aE b 1 (min up 65536)).1 0 d.1).1 2 d.2.2).1 1 (-((cF V aE b 1 (min up 65536)).1.1.2.1-b.1.2.1))).1,((cF V aE (cF V aE b 1 (min up 65536)).1 0 d.1).2,true,(cF V aE (cF V aE (cF V aE b 1 (min up 65536)).1 0 d.1).1 2 d.2.2).2))):=rfl;generalize kG V aE b d=mv at*;refine ⟨_,_,_,_,_,_,_,_,_,rfl,x4.heap ab,x4.heap ab,x4.heap ab,λbP ux eA oO cJ FP=> ?_⟩;have bX:=aL ux;have Wb:=zA ux;have cA:=aL oO;have z15:=zA oO;have r15:Row eA bP (hL (false,false,false)) dy:=Row.nw oO;have z16:=zR FP;have r16:Row cJ bP (hL (false,false,false)) dy:=r15.same (by rw [FP];exact setRow_other _ _ _ _ ab);have arq:Row cJ w4 (fV mv.1) bF:=by rw [FP];exact Row.set ((by rw [ux];exact Row.new w4 [_,_,_,_,_,_] _:Row bP w4 _ bF).ext cA) [_,_,_,_,_,_]
 have cD:Ext w4 cJ:=(bX.tr cA).ae FP (aB _);refine ⟨⟨rfl,r16.wr bB⟩,cT ab,cT ab,cT ab,cT ab,λcL ze=> ?_⟩;rw [r16.aH (vs:=hL mv.2) bB (gm _),aQ bB] at ze;have rh:Row cL bP (hL mv.2) dy:=r16.st ze;have z17:=zR ze;have cY:Ext w4 cL:=cD.ae ze ab;have rp:Row cL w4 (fV mv.1) bF:=arq.same (by rw [ze];exact setRow_other _ _ _ _ ab);have aej:=AK.tr (x4.tr cY);have alI:=x1.tr (x2.tr (x3.tr (x4.tr cY)));have ro:Row cL w2 (hL (false,false,false)) dy:=r3.ext (x4.tr cY);have rb:=r0.ext alI;have rd:=r1.ext (x2.tr (x3.tr (x4.tr cY)));have plain:∀wr:World,Ext cL wr->lQ V aE b d up=mv->∃(Kc:Bool)(b22:Bool)(Ig:Bool),ag wr.drew (some ⟨bP.heap.size,0,none⟩) 0 [.bool Kc,b22,Ig]/\
   ∀fZ:World,fZ=wr.drew.setRow w1 #[mv.1.1.1,mv.1.1.2.1,mv.1.1.2.2,mv.1.2.1,mv.1.2.2.1,mv.1.2.2.2]->
   ag fZ (some ⟨bP.heap.size,0,none⟩) 0 [.bool Kc,b22,Ig]/\(true=true/\Wr fZ (some ⟨w2.heap.size,0,none⟩) 3)/\bD (some ⟨w2.heap.size,0,none⟩)≠some w.heap.size/\bD (some ⟨w2.heap.size,0,none⟩)≠some w0.heap.size/\bD (some ⟨w2.heap.size,0,none⟩)≠some w1.heap.size/\bD (some ⟨w2.heap.size,0,none⟩)≠some w4.heap.size/\(∀cU:World,cU=Vc.aH fZ (some ⟨w2.heap.size,0,none⟩) [.bool Kc,b22,Ig]->
   ∃(Fj:Bool)(AM:Bool)(Od:Bool),ag cU (some ⟨w2.heap.size,0,none⟩) 0 [.bool Fj,AM,Od]/\
   (Ending.returned (.tuple #[.agg #[mv.1.1.1,mv.1.1.2.1,mv.1.1.2.2,mv.1.2.1,mv.1.2.2.1,mv.1.2.2.2],.agg #[Fj,AM,Od]])=Value.tuple #[qQ (lQ V aE b d up).1,.agg (hL (lQ V aE b d up).2).toArray]/\Ext w cU)):=λwr x gG=>by
  have zx:=x.size;obtain ⟨q1,q2⟩:=CN (gb:=w1.heap.size) (rh.ext x) (ro.ext x) rfl ab ab ab #[mv.1.1.1,mv.1.1.2.1,mv.1.1.2.2,mv.1.2.1,mv.1.2.2.1,mv.1.2.2.2];refine ⟨_,_,_,q1,λfZ GJ=> ?_⟩;obtain ⟨q3,q4,q5⟩:=q2 fZ GJ;refine ⟨q3,⟨rfl,q4⟩,cT ab,cT ab,cT ab,cT ab,λcU wK=> ?_⟩;obtain ⟨q6,q7⟩:=q5 cU wK;exact ⟨_,_,_,q6,by rw [gG],q7.ext (aej.tr x) λi hi=>by omega⟩
 have gG:∀wr:World,Ext cL wr->Tl v V wr:=λwr x=>hV.ext (aej.tr x)
 refine ⟨λwj=>Ext cL wj/\¬((!mv.2.1 && !mv.2.2.2)||decide (up<=0)|| !jO V (iz b) aE)=true,?_,?_⟩
 ·refine ⟨by decide,by decide,mv.2.1,rh.at 0 rfl,Br.mk (λq1=>⟨by decide,by decide,mv.2.2.2,rh.at 2 rfl,Br.mk (λq2=>plain cL (Ext.cE _) (by rw [hstep,if_pos (by rw [q1,q2];rfl)])) (λq2=> ?_)⟩) (λq1=> ?_)⟩
  all_goals
   have hcf:(!mv.2.1 && !mv.2.2.2)=false:=by first|rw [q2,Bool.and_false]|rw [q1,Bool.false_and]
   refine Br.mk (λq3=>plain cL (Ext.cE _) (by rw [hstep,if_pos (by rw [hcf,q3];rfl)])) (λq3=>(lM (gG cL (Ext.cE _)) hv b).mono ?_)
   rintro e ie ⟨rfl,fB⟩
   exact ⟨_,rfl,fB.heap ab,fB.heap ab,fB.heap ab,fB.heap ab,Br.mk (λq4=>plain ie fB (by rw [hstep,if_pos (by rw [hcf,q3,q4];rfl)])) (λq4=>⟨rfl,rfl,rfl,rfl,fB,by rw [hcf,q3,q4];decide⟩)⟩
 ·rintro us oK ⟨mS,hn⟩;rw [if_neg hn] at hstep;have z66:=mS.size;have n1:=dP (V:=V) (p:=aE) (ax:=1) (d:=min up 65536) hb ab;refine (nS (gG oK mS) hv b (pf hb ab) 1 (min up 65536) aF).mono ?_;rintro e kx ⟨rfl,mP⟩;have z67:=mP.size;have n2:=dP (V:=V) (p:=aE) (ax:=0) (d:=d.1) n1 ab;have n3:=dP (V:=V) (p:=aE) (ax:=2) (d:=d.2.2) n2 ab;have n4:=dP (V:=V) (p:=aE) (ax:=1) (d:= -((cF V aE b 1 (min up 65536)).1.1.2.1-b.1.2.1)) n3 ab;refine ⟨_,_,_,_,_,_,_,rfl,mP.heap ab,mP.heap ab,mP.heap ab,mP.heap ab,λqD Wz jt e76 rJ e77=> ?_⟩;generalize cF V aE b 1 (min up 65536)=hi at*;have z75:=zA Wz;have z76:=zR e76;have z77:=zA e77;have rhi:Row jt kx (fV hi.1) bF:=by rw [e76];exact Row.set (by rw [Wz];exact Row.new kx [_,_,_,_,_,_] _) [_,_,_,_,_,_]
  have ah4:Row rJ jt (hL (false,false,false)) dy:=Row.nw e77;have FN:Ext kx rJ:=((aL Wz).ae e76 (aB _)).bn e77;have rhi:=rhi.ext (aL e77);refine ⟨⟨rfl,ah4.wr bB⟩,cT ab,cT ab,cT ab,cT ab,cT ab,λpk e78 W4 e79 uA e80=> ?_⟩;rw [ah4.aH (vs:=hL (false,true,false)) bB (gm (false,true,false)),aQ bB] at e78;have z78:=zR e78;have aru:Row pk jt (hL (false,true,false)) dy:=ah4.st e78;have rhi:=rhi.so e78;have zg:Ext kx pk:=FN.ae e78 ab;have z79:=zA e79;have z80:=zR e80;have aa9:Ext pk uA:=(aL e79).ae e80 (aB _);have arv:Row uA pk (fV hi.1) bF:=by rw [e80];exact Row.set (by rw [e79];exact Row.new pk [_,_,_,_,_,_] _) [_,_,_,_,_,_]
  have arw:=aru.ext aa9;have alK:=mS.tr (mP.tr (zg.tr aa9));refine (nS (gG uA alK) hv hi.1 (pf n1 ab) 0 d.1 aF).mono ?_;rintro e uW ⟨rfl,sK⟩;have z81:=sK.size;refine ⟨_,_,_,_,_,_,_,rfl,sK.heap ab,sK.heap ab,sK.heap ab,sK.heap ab,sK.heap ab,sK.heap ab,λgf e89=> ?_⟩;generalize cF V aE hi.1 0 d.1=ax at*;have z89:=zR e89;have alL:Row gf pk (fV ax.1) bF:=by rw [e89];exact Row.set (arv.ext sK) [_,_,_,_,_,_]
  have arx:Row gf jt (hL (false,true,false)) dy:=(arw.ext sK).same (by rw [e89];exact setRow_other _ _ _ _ ab);have S2:Ext pk gf:=(aa9.tr sK).ae e89 (aB _);obtain ⟨p1,p2⟩:=arx.je (j:=0) (v:=.bool ax.2) aF rfl;refine ⟨by decide,by decide,⟨rfl,p1⟩,po ab,po ab,po ab,po ab,po ab,po ab,λow e90=> ?_⟩;obtain ⟨q1,q2⟩:=p2 ow e90;have ary:Row ow jt (hL (ax.2,true,false)) dy:=q1;have arz:=alL.same (q2.same _ alL.lt ab);have z90:=q2.size;have S4:Ext kx ow:=q2.ext (zg.tr S2) λi hi=>by omega
  refine (nS (gG ow (mS.tr (mP.tr S4))) hv ax.1 (pf n2 ab) 2 d.2.2 aF).mono ?_;rintro e Z2 ⟨rfl,Ft⟩;have z91:=Ft.size;refine ⟨_,_,_,_,_,_,_,rfl,Ft.heap ab,Ft.heap ab,Ft.heap ab,Ft.heap ab,Ft.heap ab,Ft.heap ab,λOf e99=> ?_⟩;generalize cF V aE ax.1 2 d.2.2=az at*;have z99:=zR e99;have alN:Row Of pk (fV az.1) bF:=by rw [e99];exact Row.set (arz.ext Ft) [_,_,_,_,_,_]
  have arA:Row Of jt (hL (ax.2,true,false)) dy:=(ary.ext Ft).same (by rw [e99];exact setRow_other _ _ _ _ ab);have Ie:Ext kx Of:=(S4.tr Ft).ae e99 ab;obtain ⟨p1,p3⟩:=arA.je (j:=2) (v:=.bool az.2) (show 2<3 by decide) rfl;refine ⟨by decide,by decide,⟨rfl,p1⟩,po ab,po ab,po ab,po ab,po ab,po ab,λrL aek=> ?_⟩;obtain ⟨q1,q3⟩:=p3 rL aek;have alO:Row rL jt (hL (ax.2,true,az.2)) dy:=q1;have avv:=alN.same (q3.same _ alN.lt ab);have ayp:=q3.size;have mJ:Ext kx rL:=q3.ext Ie λi hi=>by omega
  have hhi:=n1;have hbb:=hb;unfold da at hhi hbb;have wr1:aj (hi.1.1.2.1-b.1.2.1)=hi.1.1.2.1-b.1.2.1:=wI;have QY:aj (0-(hi.1.1.2.1-b.1.2.1))= -(hi.1.1.2.1-b.1.2.1):=by rw [wI];omega
  rw [wr1,QY];refine (nS (gG rL (mS.tr (mP.tr mJ))) hv az.1 (pf n3 ab) 1 (-(hi.1.1.2.1-b.1.2.1)) aF).mono ?_;rintro e kE ⟨rfl,pL⟩;have ays:=pL.size;refine ⟨_,_,_,_,_,_,_,rfl,pL.heap ab,pL.heap ab,pL.heap ab,pL.heap ab,pL.heap ab,pL.heap ab,λFl ah6=> ?_⟩;generalize cF V aE az.1 1 (-(hi.1.1.2.1-b.1.2.1))=ay at*;have ayt:=zR ah6;have alP:Row Fl jt (hL (ax.2,true,az.2)) dy:=(alO.ext pL).same (by rw [ah6];exact setRow_other _ _ _ _ ab);have pI:Ext kx Fl:=(mJ.tr pL).ae ah6 ab;have xd:=Ext.dr Fl;have zd:=lG Fl;have x17d:=mS.tr (mP.tr (pI.tr xd));refine (HJ b ay.1 (pf hb ab) (pf n4 ab) Fl.drew).mono ?_;rintro e Fo ⟨rfl,jE⟩;have ayu:=jE.size;refine ⟨_,rfl,jE.heap ab,jE.heap ab,jE.heap ab,jE.heap ab,jE.heap ab,jE.heap ab,Lo.wv (rp.ext (x17d.tr jE)),Lo.wv (rb.ext (x17d.tr jE)),(HJ b mv.1 (pf hb ab) (pf hpn ab) Fo).mono ?_⟩;rintro e yU ⟨rfl,jm⟩;have ayv:=jm.size;have FH:=x17d.tr (jE.tr jm);refine ⟨_,rfl,jm.heap ab,jm.heap ab,jm.heap ab,jm.heap ab,jm.heap ab,jm.heap ab,Br.mk (λq=> ?_) (λq=> ?_)⟩
  ·have q:yk b ay.1<=yk b mv.1:=by simpa using q
   rw [if_pos q] at hstep;rw [hstep];obtain ⟨q1,q2⟩:=CN (gb:=w1.heap.size) (rh.ext FH) (ro.ext FH) rfl ab ab ab #[mv.1.1.1,mv.1.1.2.1,mv.1.1.2.2,mv.1.2.1,mv.1.2.2.1,mv.1.2.2.2];refine ⟨_,_,_,q1,λfZ GJ=> ?_⟩;obtain ⟨q3,q4,q5⟩:=q2 fZ GJ;refine ⟨q3,⟨rfl,q4⟩,cT ab,cT ab,cT ab,cT ab,cT ab,cT ab,λcU wK=> ?_⟩;obtain ⟨q6,q7⟩:=q5 cU wK;exact ⟨_,_,_,q6,rfl,q7.ext (aej.tr FH) λi hi=>by omega⟩
  ·have q:¬yk b ay.1<=yk b mv.1:=by simpa using q
   rw [if_neg q] at hstep;rw [hstep];obtain ⟨q1,q2⟩:=CN (gb:=w1.heap.size) (alP.ext (xd.tr (jE.tr jm))) (ro.ext FH) rfl ab ab ab #[ay.1.1.1,ay.1.1.2.1,ay.1.1.2.2,ay.1.2.1,ay.1.2.2.1,ay.1.2.2.2];refine ⟨_,_,_,q1,λfZ GJ=> ?_⟩;obtain ⟨q3,q4,q5⟩:=q2 fZ GJ;refine ⟨q3,⟨rfl,q4⟩,cT ab,cT ab,cT ab,cT ab,cT ab,cT ab,λcU wK=> ?_⟩;obtain ⟨q6,q7⟩:=q5 cU wK;exact ⟨_,_,_,q6,rfl,q7.ext (aej.tr FH) λi hi=>by omega⟩
theorem agD(n:Int):(if 70368744177664<(if (-70368744177664)>n then (-70368744177664) else n) then 70368744177664 else (if (-70368744177664)>n then (-70368744177664) else n))=yz n:=by
 unfold yz
 repeat' split
 all_goals omega
theorem AE(n:Int)(w:World):ah 277 #[n] w λe w'=>e=Value.int .i64 (yz n)/\w'=w:=by apply BQ.vc;exact ⟨by rw [agD],rfl⟩
theorem gU(b:ef)(d:Ce)(w:World):ah 237 #[BV b,dY d] w λe w'=>e=(dY (qp b.aI d))/\Ext w w':=by
 apply Gb.vc;intro w0 e0 w1 e1 w2 e2;have x0:=aL e0;have z0:=zA e0;have r0:Row w0 w (jo b) y9:=Row.nw e0;have x1:=aL e1;have z1:=zA e1;have x2:=aL e2;have z2:=zA e2;refine (iS b.aI d w2).mono ?_;rintro e w3 ⟨rfl,x3⟩;have z3:=x3.size;refine ⟨_,_,_,rfl,x3.heap ab,x3.heap ab,x3.heap ab,λw7 e7 w8 e8=> ?_⟩;have x8:Ext w3 w8.drew:=((aL e7).ae e8 (aB _)).drew;have z8:w8.drew.heap.size=w3.heap.size+1:=by show w8.heap.size=_;rw [zR e8,zA e7]
 have r8:Row w8.drew w3 (dA (jU b.aI d)) eu:=(by rw [e8];exact Row.set (by rw [e7];exact Row.new w3 [_,_,_] _) [_,_,_]:Row w8 w3 _ eu).ext (Ext.dr w8);have rb:=r0.ext (x1.tr (x2.tr (x3.tr x8)));refine (AE (jU b.aI d).1 w8.drew).mono ?_;rintro e w9 ⟨rfl,rfl⟩;refine ⟨_,rfl,rfl,rfl,rfl,rfl,qe rb rfl rfl rfl,kB r8 rfl,kB r8 rfl,(AE (jU b.aI d).2.1 w8.drew).mono ?_⟩;rintro e aY ⟨rfl,rfl⟩;refine ⟨_,rfl,rfl,rfl,rfl,rfl,qe rb rfl rfl rfl,kB r8 rfl,(AE (jU b.aI d).2.2 w8.drew).mono ?_⟩;rintro e bJ ⟨rfl,rfl⟩;refine ⟨_,rfl,rfl,rfl,rfl,rfl,qe rb rfl rfl rfl,(uh (yz (jU b.aI d).1,yz (jU b.aI d).2.1,yz (jU b.aI d).2.2) b.aI w8.drew).mono ?_⟩;rintro e eA ⟨rfl,cA⟩;have z15:=cA.size;exact ⟨_,_,_,rfl,cA.heap ab,cA.heap ab,cA.heap ab,cA.heap ab,λfP e19=>⟨rfl,(x0.tr (x1.tr (x2.tr (x3.tr (x8.tr cA))))).ae e19 ab⟩⟩
abbrev Ga:=Int × Int × Bool
abbrev inV(i:Ga):Value:=.agg #[i.1,i.2.1,.bool i.2.2]
abbrev inL(i:Ga):LV:=[.int .i64 i.1,.int .i64 i.2.1,.bool i.2.2]
abbrev ac5:TypeId:=109
def rV(b:ef)(i:Ga):ef:={b with speed:=(Hs i.1,b.speed.2.1,Hs i.2.1)}
theorem Qv(b:ef)(v:Value)(i:Ga)(w:World):ah 166 #[BV b,v,inV i] w λe w'=>e=(BV (rV b i))/\Ext w w':=by apply BS.vc;intro w0 e0 w1 e1 w2 e2;have x0:=aL e0;have z0:=zA e0;have x1:=aL e1;have z1:=zA e1;have r1:Row w1 w0 (inL i) ac5:=Row.nw e1;have x2:Ext w1 w2.drew:=(aL e2).drew;have z2:w2.drew.heap.size=w1.heap.size+1:=(zA e2:w2.heap.size=_);refine (Bi i.1 w2.drew).mono ?_;rintro e w3 ⟨rfl,x3⟩;have z3:=x3.size;refine ⟨_,rfl,x3.heap ab,x3.heap ab,x3.heap ab,kB (r1.ext (x2.tr x3)) rfl,(Bi i.2.1 w3).mono ?_⟩;rintro e w5 ⟨rfl,x5⟩;have z5:=x5.size;exact ⟨_,rfl,x5.heap ab,x5.heap ab,x5.heap ab,λw7 e7 w8 e8 w9 e9=>⟨rfl,((((x0.tr (x1.tr (x2.tr (x3.tr x5)))).ae e7 ab).ae e8 ab).ae e9 ab)⟩⟩
def Ef(n jump less least:Int)(j:Bool):Int:=if j then jump else max (n-less) (-least)
def qn(V:Ce->Int)(b:ef)(i:Ga):ef:=
 if jO V b.box (λx=>x==4)=true then {b with speed:=(b.speed.1,Ef b.speed.2.1 8192 4096 8192 i.2.2,b.speed.2.2)}
 else if jO V b.box qR=true then {b with speed:=(b.speed.1,Ef b.speed.2.1 6144 1024 8192 i.2.2,b.speed.2.2)}
 else {b with speed:=(b.speed.1,Ef b.speed.2.1 28672 4096 262144 (i.2.2 && jO V (iz b.box) aE),b.speed.2.2)}
theorem uo(b:ef)(jump less least:Int)(j:Bool){gb gp gi:Nat}{w:World}{τ:TypeId}{i:Ga}(hb:Row w gb (jo b) y9)(hp:Row w gp [.pointer (some ⟨gb,4,none⟩)] τ)(hi:Row w gi [i.1,i.2.1,j] ac5)(hs:inI (b.speed.2.1-less))(hl:0<=least/\least<=1000000)(hn:gb≠gp/\gb≠gi):
  ah 233 #[jump,less,least,gp,gi] w λe w'=>e=sY/\Row w' gb (jo {b with speed:=(b.speed.1,Ef b.speed.2.1 jump less least j,b.speed.2.2)}) y9/\Mod (λk=>k=gb) w w':=by
 apply xJ.vc;have xd:=Ext.dr w;have hb':=hb.ext xd;have hp':=hp.ext xd;have e1:aj (b.speed.2.1-less)=b.speed.2.1-less:=aK hs;have e2:aj (0-least)= -least:=by rw [wI];omega
 have e3:(if -least>b.speed.2.1-less then -least else b.speed.2.1-less)=max (b.speed.2.1-less) (-least):=by split<;>omega
 refine ⟨_,hp'.at 0 rfl,_,hp'.at 0 rfl,fU rfl ⟨_,hb'.at 4 rfl,fU rfl ?_⟩⟩;rw [e1,e2,e3];obtain ⟨p1,p2⟩:=hb'.je (j:=4) (v:=.int .i64 (max (b.speed.2.1-less) (-least))) (show 4<9 by decide) rfl;refine ⟨⟨rfl,p1⟩,λw3 e3=> ?_⟩;obtain ⟨q1,q2⟩:=p2 w3 e3;have hm:=(Mod.aD (F:=λk=>k=gb) xd).trans q2;have hi3:=(hi.ext xd).same (q2.same _ (hi.ext xd).lt (Ne.symm hn.2));have hp3:=hp'.same (q2.same _ hp'.lt (Ne.symm hn.1));refine ⟨j,hi3.at 2 rfl,?_⟩
 cases j with
 |false=>exact ⟨rfl,q1,hm⟩
 |true=>
  obtain ⟨p3,p4⟩:=q1.je (j:=4) (v:=.int .i64 jump) (show 4<9 by decide) rfl;refine ⟨_,hp3.at 0 rfl,fU rfl ⟨⟨rfl,p3⟩,λw6 e6=> ?_⟩⟩;obtain ⟨q3,q4⟩:=p4 w6 e6;exact ⟨rfl,q3,hm.trans q4⟩
set_option maxHeartbeats 1000000 in
theorem Qw{v:Value}{V:Ce->Int}{w:World}(hV:Tl v V w)(hv:j9 v=[])(b:ef)(hw:inI b.wd)(hs: -1000000<=b.speed.2.1/\b.speed.2.1<=1000000)(i:Ga):
  ah 167 #[BV b,v,inV i] w λe w'=>e=(BV (qn V b i))/\Ext w w':=by
 apply BT.vc;intro w0 e0 w1 e1 w2 e2;have x0:=aL e0;have z0:=zA e0;have r0:Row w0 w (jo b) y9:=Row.nw e0;have x1:=aL e1;have z1:=zA e1;have r1:Row w1 w0 (inL i) ac5:=Row.nw e1;have x2:=aL e2;have z2:=zA e2;refine (cP b hw w2).mono ?_;rintro e w3 ⟨rfl,x3⟩;have z3:=x3.size;refine ⟨_,_,_,_,_,_,rfl,x3.heap ab,x3.heap ab,x3.heap ab,λbO vw aY Cn cR Og bJ Cp=> ?_⟩;have QX:=zA vw;have z11:=zA Cn;have z12:=zR Og;have z13:=zR Cp;have cm:Ext w3 bJ:=(((aL vw).bn Cn).ae Og (aB _)).ae Cp ab;have rp:∃τ,Row bJ bO [.pointer (some ⟨w.heap.size,4,none⟩)] τ:=⟨_,by
  rw [Cp];exact Row.set ((by rw [Cn];exact Row.new bO [_] _:Row aY bO _ _).same (by rw [Og];exact setRow_other _ _ _ _ ab)) [_]⟩
 obtain ⟨τ,rp⟩:=rp;have rb:=r0.ext (x1.tr (x2.tr (x3.tr cm)));have ri:=r1.ext (x2.tr (x3.tr cm));have xw:=x0.tr (x1.tr (x2.tr (x3.tr cm)));have fin:∀{cJ:World} {b':ef},Row cJ w (jo b') y9->Ext w cJ->∃(cY:Int)(cp:Int)(cn:Int)(cW:Int)(dh:Int)(dN:Int)(dz:Int)(eE:Int)(Q4:Bool),ag cJ (some ⟨w.heap.size,0,none⟩) 0 [cY,cp,cn,cW,dh,dN,dz,eE,Q4]/\
   ∀fi:World,fi=cJ.setRow w1 #[cY,cp,cn,cW,dh,dN,dz,eE,Q4]->(Ending.returned (.agg #[cY,cp,cn,cW,dh,dN,dz,eE,Q4])=(BV b')/\Ext w fi):=λhr x=>⟨_,_,_,_,_,_,_,_,_,Lo.wv hr,λfi zk=>⟨rfl,x.ae zk ab⟩⟩
 unfold qn;refine (Lb (hV.ext xw) hv b.box).mono ?_;rintro e bP ⟨rfl,bX⟩;have Wb:=bX.size;refine ⟨_,rfl,bX.heap ab,bX.heap ab,Br.mk (λhc=> ?_) (λhc=> ?_)⟩
 ·rw [if_pos hc];refine (uo b 8192 4096 8192 i.2.2 (rb.ext bX) (rp.ext bX) (ri.ext bX) (by unfold inI;omega) aF ⟨by omega,by omega⟩).mono ?_;rintro e cJ ⟨rfl,hr,hm⟩;exact ⟨rfl,hm.same _ ab ab,hm.same _ ab ab,fin hr (hm.ext (xw.tr bX) λk hk=>by omega)⟩
 rw [if_neg (by rw [hc];decide)];refine (TX (hV.ext (xw.tr bX)) hv b.box).mono ?_;rintro e eH ⟨rfl,fE⟩;have z27:=fE.size;have aer:=xw.tr (bX.tr fE);have aih:=rb.ext (bX.tr fE);have aii:=rp.ext (bX.tr fE);have aij:=ri.ext (bX.tr fE);refine ⟨_,rfl,fE.heap ab,fE.heap ab,Br.mk (λnE=> ?_) (λnE=>⟨_,aij.at 2 rfl,?_⟩)⟩
 ·rw [if_pos nE];refine (uo b 6144 1024 8192 i.2.2 aih aii aij (by unfold inI;omega) aF ⟨by omega,by omega⟩).mono ?_;rintro e cJ ⟨rfl,hr,hm⟩;exact ⟨rfl,hm.same _ ab ab,hm.same _ ab ab,fin hr (hm.ext aer λk hk=>by omega)⟩
 rw [if_neg (by rw [nE];decide)];have last:∀(j:Bool)(gO:World),Ext eH gO->Wr gO (some ⟨w0.heap.size,2,none⟩) 1/\∀jd:World,jd=Vc.aH gO (some ⟨w0.heap.size,2,none⟩) [.bool j]->Row jd w0 [i.1,i.2.1,.bool j] ac5/\Mod (λk=>k=w0.heap.size) gO jd:=λj gO kI=>(aij.ext kI).je (j:=2) (v:=.bool j) (show 2<3 by decide) rfl
 refine Br.mk (λhj=>(lM (hV.ext aer) hv b.box).mono ?_) (λhj=> ?_)
 ·rintro e gO ⟨rfl,kI⟩;have z41:=kI.size;rw [hj,Bool.true_and];generalize jO V (iz b.box) aE=st;obtain ⟨p1,p2⟩:=last st gO kI;refine ⟨_,rfl,kI.heap ab,kI.heap ab,p1,cT ab,cT ab,λjd e43=> ?_⟩;obtain ⟨q1,q2⟩:=p2 jd e43;have z43:=q2.size;refine (uo (i:=i) b 28672 4096 262144 st ((aih.ext kI).same (q2.same _ ab ab)) ((aii.ext kI).same (q2.same _ ab ab)) q1 (by unfold inI;omega) aF ⟨by omega,by omega⟩).mono ?_;rintro e cJ ⟨rfl,hr,hm⟩;exact ⟨rfl,hm.same _ ab ab,hm.same _ ab ab,fin hr (hm.ext (q2.ext (aer.tr kI) λk hk=>by omega) λk hk=>by omega)⟩
 ·rw [hj,Bool.false_and];obtain ⟨p1,p2⟩:=last false eH (Ext.cE _);refine ⟨p1,cT ab,cT ab,λjd e43=> ?_⟩;obtain ⟨q1,q2⟩:=p2 jd e43;have z43:=q2.size;refine (uo (i:=i) b 28672 4096 262144 false (aih.same (q2.same _ ab ab)) (aii.same (q2.same _ ab ab)) q1 (by unfold inI;omega) aF ⟨by omega,by omega⟩).mono ?_;rintro e cJ ⟨rfl,hr,hm⟩;exact ⟨rfl,hm.same _ ab ab,hm.same _ ab ab,fin hr (hm.ext (q2.ext aer λk hk=>by omega) λk hk=>by omega)⟩
end Go.Proofs.YtkkkfkopcfdmaaaGreatDoor
