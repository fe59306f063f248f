import Derived.Test.YtkkkfkopcfdmaaaGreatDoorH
import Derived.Test.YtkkkfkopcfdmaaaGreatDoorD
set_option linter.all false
namespace Go.Proofs.YtkkkfkopcfdmaaaGreatDoor
open Go Go.Vc Go.RowKit Go.Proofs Go.dm Go.aZ Go.Code Go.fZ Go.fh Go.iU
set_option maxRecDepth 100000
abbrev tD:TypeId:=56
abbrev lZ:TypeId:=111
abbrev dQ:=dE ×(Int × Int × Bool)
abbrev L9(x:dQ):LV:=[.int .i64 x.1.aE.1,.int .i64 x.1.aE.2.1,.int .i64 x.1.aE.2.2,.int .i64 x.1.speed.1,.int .i64 x.1.speed.2.1,.int .i64 x.1.speed.2.2,.int .i64 x.1.wd,.int .i64 x.1.ht,.bool x.1.iE,.int .i64 x.2.1,.int .i64 x.2.2.1,.bool x.2.2.2]
abbrev pA(a:Option Nat):Value:=.pointer (a.map λb=>⟨b,0,none⟩)
structure EL(w:World)(av:List (Option Nat))(L:List (Option dQ)):Prop where
 n:av.length=16
 m:L.length=16
 s:∀(i a:Nat),av[i]? =some (some a)->∃x,L[i]? =some (some x)/\Row w a (L9 x) lZ
 z:∀i:Nat,av[i]? =some none->L[i]? =some none
 d:∀(i j a:Nat),av[i]? =some (some a)->av[j]? =some (some a)->i=j
def EF(F:Nat->Prop)(w:World)(g s o t:Nat)(M:Sm)(occ:Value)(L:List (Option dQ)):Prop:=
 ∃(Fs:Nat->Prop)(av:List (Option Nat)),Row w g (.pointer (aB s)::av.map pA) tD/\SF Fs w s o t M occ/\EL w av L/\F=λi=>i=g\/Fs i\/some i ∈ av
abbrev jH(F:Nat->Prop)(w:World)(g s o t:Nat)(M:Sm)(occ:Value)(L:List (Option dQ))(w':World):Prop:=∃F',EF F' w' g s o t M occ L/\aO F F' w w'
def pF:(E4 tD/\tD≠rR/\tD≠kW/\tD≠Bi/\tD≠Q.kq/\tD≠Q.cQ/\tD≠qD)/\(E4 lZ/\lZ≠rR/\lZ≠kW/\lZ≠Bi/\lZ≠Q.kq/\lZ≠Q.cQ/\lZ≠qD)/\tD≠lZ:=by decide
def qo{av:List (Option Nat)}{a:Nat}(h:some a ∈ av):∃i:Nat,av[i]? =some (some a):=Jj.1 h
section
variable {F F':Nat->Prop} {w w':World} {g s o t:Nat} {M M':Sm} {occ:Value} {L:List (Option dQ)}
def EL.same{av:List (Option Nat)}(h:EL w av L)(hk:∀a,some a ∈ av->w'.heap[a]? =w.heap[a]?):EL w' av L:=
 ⟨h.n,h.m,λi a hi=>by obtain ⟨x,h1,h2⟩:=h.s i a hi;exact ⟨x,h1,h2.same (hk a (aU hi))⟩,h.z,h.d⟩
def EL.lt{av:List (Option Nat)}(h:EL w av L){a:Nat}(ha:some a ∈ av):a<w:=by obtain ⟨i,hi⟩:=qo ha;obtain ⟨x,-,h2⟩:=h.s i a hi;exact h2.lt
def EF.lt(h:EF F w g s o t M occ L){i:Nat}(hi:F i):i<w:=by
 obtain ⟨Fs,av,h1,h2,h3,rfl⟩:=h;rcases hi with rfl|hi|hi
 ·exact h1.lt
 ·exact h2.lt hi
 ·exact h3.lt hi
def EF.same(h:EF F w g s o t M occ L)(hk:∀i,F i->w'.heap[i]? =w.heap[i]?):EF F w' g s o t M occ L:=by obtain ⟨Fs,av,h1,h2,h3,rfl⟩:=h;exact ⟨Fs,av,h1.same (hk _ (.inl rfl)),h2.same λi hi=>hk i (.inr (.inl hi)),h3.same λa ha=>hk a (.inr (.inr ha)),rfl⟩
def EF.ext(h:EF F w g s o t M occ L)(x:Ext w w'):EF F w' g s o t M occ L:=h.same λ_ hi=>x.heap (h.lt hi)
def EF.wu(h:EF F w g s o t M occ L):∃Fs,SF Fs w s o t M occ/\Vc.ld w (ae (aB g) 0)=some (.pointer (aB s))/\(∀i,Fs i->F i)/\∀{w':World} {M':Sm} {occ':Value},mW Fs w s o t M' occ' w'->jH F w g s o t M' occ' L w':=by
 obtain ⟨Fs,av,h1,h2,h3,rfl⟩:=h;refine ⟨Fs,h2,h1.at 0 rfl,λi hi=> .inr (.inl hi),?_⟩;rintro w' M' occ' ⟨F',h',ht⟩;have ng:¬Fs g:=h2.ka h1 pF.1.1 pF.1.2.1 pF.1.2.2.1 pF.1.2.2.2.1 pF.1.2.2.2.2.1 pF.1.2.2.2.2.2.1 pF.1.2.2.2.2.2.2;have na:∀a,some a ∈ av->¬Fs a:=λa ha=>by obtain ⟨i,hi⟩:=qo ha;obtain ⟨x,-,hr⟩:=h3.s i a hi;exact h2.ka hr pF.2.1.1 pF.2.1.2.1 pF.2.1.2.2.1 pF.2.1.2.2.2.1 pF.2.1.2.2.2.2.1 pF.2.1.2.2.2.2.2.1 pF.2.1.2.2.2.2.2.2
 refine ⟨_,⟨F',av,ht.mod.row h1 ng,h',h3.same λa ha=>ht.mod.same a (h3.lt ha) (na a ha),rfl⟩,ht.mod.mono λi _ hi=> .inr (.inl hi),λi hi=> ?_⟩;rcases hi with hi|hi|hi
 ·exact .inl (.inl hi)
 ·exact (ht.sub i hi).imp (λq=> .inr (.inl q)) id
 ·exact .inl (.inr (.inr hi))
def EF.row(h:EF F w g s o t M occ L):∃av,Row w g (.pointer (aB s)::av.map pA) tD/\EL w av L/\F g/\(∀a,some a ∈ av->F a)/\∀{w':World} {av':List (Option Nat)} {L':List (Option dQ)},Mod (λi=>i=g\/some i ∈ av) w w'->Row w' g (.pointer (aB s)::av'.map pA) tD->EL w' av' L'->(∀a,some a ∈ av'->some a ∈ av\/w.heap.size<=a)->jH F w g s o t M occ L' w':=by
 obtain ⟨Fs,av,h1,h2,h3,rfl⟩:=h;refine ⟨av,h1,h3,.inl rfl,λa ha=> .inr (.inr ha),?_⟩;intro w' av' L' hm hr he eQ;have ng:¬Fs g:=h2.ka h1 pF.1.1 pF.1.2.1 pF.1.2.2.1 pF.1.2.2.2.1 pF.1.2.2.2.2.1 pF.1.2.2.2.2.2.1 pF.1.2.2.2.2.2.2;have na:∀a,some a ∈ av->¬Fs a:=λa ha=>by obtain ⟨i,hi⟩:=qo ha;obtain ⟨x,-,hr⟩:=h3.s i a hi;exact h2.ka hr pF.2.1.1 pF.2.1.2.1 pF.2.1.2.2.1 pF.2.1.2.2.2.1 pF.2.1.2.2.2.2.1 pF.2.1.2.2.2.2.2.1 pF.2.1.2.2.2.2.2.2
 refine ⟨_,⟨Fs,av',hr,h2.same λi hi=>hm.same i (h2.lt hi) λq=> ?_,he,rfl⟩,hm.mono λi _ hi=>hi.elim .inl λq=> .inr (.inr q),λi hi=> ?_⟩
 ·rcases q with rfl|q
  ·exact ng hi
  ·exact na i q hi
 ·rcases hi with hi|hi|hi
  ·exact .inl (.inl hi)
  ·exact .inl (.inr (.inl hi))
  ·exact (eQ i hi).imp (λq=> .inr (.inr q)) id
def EF.tl(h:EF F w g s o t M occ L):Tl (.func (.func 83) #[t] #[]) (fx M.T.2) w:=by obtain ⟨Fs,h1,-,-⟩:=h.wu;exact h1.tl
def mc(h:EF F w g s o t M occ L):ah 47 #[g] w λe w'=>e=Value.func (.func 83) #[t] #[]/\w'=w:=by obtain ⟨Fs,h1,h2,-,-⟩:=h.wu;obtain ⟨Fw,hW,-,-⟩:=h1.world;apply xI.vc;refine ⟨_,h2,(gW h1).mono ?_⟩;rintro e w1 ⟨rfl,rfl⟩;refine ⟨_,rfl,(gw hW).mono ?_⟩;rintro e w2 ⟨rfl,rfl⟩;exact ⟨_,rfl,rfl,rfl⟩
def WV(h:EF F w g s o t M occ L):ah 41 #[g] w λe w'=>e=Value.pointer (aB s)/\w'=w:=by obtain ⟨Fs,h1,h2,-,-⟩:=h.wu;apply zH.vc;exact ⟨_,h2,rfl,rfl⟩
def zI(v:Ce):qC (bw v)/\V9 (pos (bw v)):=by have h:=vt v;unfold qC bT V9 Go.dm.pos;simp only;omega
abbrev o5(M:Sm)(b:dE):Bool:=E5 M.T.2 (bw b.aE)
def CN(h:EF F w g s o t M occ L)(b:dE):ah 45 #[g,Dp b] w λe w'=>e=Value.bool (o5 M b)/\Ext w w':=by
 apply vL.vc;intro w0 e0;have x0:Ext w w0.drew:=(aT e0).drew;have z0:w0.drew.heap.size=w.heap.size+1:=by show w0.heap.size=_;rw [e0];simp
 have r0:Row w0.drew w (jQ b) AT:=by rw [e0];exact (Row.new w [_,_,_,_,_,_,_,_,_] _).ext (Ext.dr _)
 obtain ⟨Fs,h1,h2,-,-⟩:=(h.ext x0).wu;refine ⟨_,h2,(gW h1).mono ?_⟩;rintro e w2 ⟨rfl,hw⟩;subst hw;refine ⟨_,rfl,rfl,sh r0 rfl rfl rfl,(zy b.aE w0.drew).mono ?_⟩;rintro e w4 ⟨rfl,x4⟩;obtain ⟨Fw,hW,-,-⟩:=(h1.ext x4).world;refine ⟨_,_,_,rfl,x4.heap ab,(uo hW (bw b.aE) (zI _).1 (zI _).2).mono ?_⟩;rintro e w8 ⟨rfl,x8⟩;have z4:=x4.size;exact ⟨_,rfl,x8.heap ab,rfl,x0.tr (x4.tr x8)⟩
end
def within(v:Ce)(m:Int):Bool:=decide (-m<=min (min v.1 v.2.1) v.2.2) && decide (max (max v.1 v.2.1) v.2.2<=m)
def dE.may(b:dE):Bool:=decide (2<=b.wd) &&(decide (b.wd<=131072) &&(decide (1<=b.ht) &&(decide (b.ht<=262144) &&(within b.aE 70368744177664 && within b.speed 262144))))
def CO(v:Ce)(m:Int)(hm:0<=m/\m<=140737488355328)(w:World):ah 99 #[eg v,m] w λe w'=>e=Value.bool (within v m)/\Ext w w':=by
 apply N0.vc;intro w0 e0;have x0:=aT e0;have e1:(if v.2.2<(if v.2.1<v.1 then v.2.1 else v.1) then v.2.2 else (if v.2.1<v.1 then v.2.1 else v.1))=min (min v.1 v.2.1) v.2.2:=by
  repeat' split
  all_goals omega
 have e2:(if v.2.2>(if v.2.1>v.1 then v.2.1 else v.1) then v.2.2 else (if v.2.1>v.1 then v.2.1 else v.1))=max (max v.1 v.2.1) v.2.2:=by
  repeat' split
  all_goals omega
 have e3:ak (0-m)= -m:=by rw [wI];omega
 rw [e1,e2,e3];unfold within;apply Br.mk<;>intro h
 ·have h:=dn h;exact ⟨by rw [decide_eq_true h,pW],x0⟩
 ·have h:=dn h;exact ⟨by rw [decide_eq_false h,CP],x0⟩
def N1(b:dE)(w:World):ah 44 #[Dp b] w λe w'=>e=Value.bool b.may/\Ext w w':=by
 apply aa4.vc;intro w0 e0;have x0:=aT e0;have z0:=eN e0;unfold dE.may;refine Br.mk (λh1=>Br.mk (λh2=>Br.mk (λh3=>Br.mk (λh4=>(CO b.aE _ aG w0).mono ?_) (λh4=> ?_)) (λh3=> ?_)) (λh2=> ?_)) (λh1=> ?_)
 ·rintro e w1 ⟨rfl,x1⟩;have z1:=x1.size;have h1:=dn h1;have h2:=dn h2;have h3:=dn h3;have h4:=dn h4;rw [decide_eq_true h1,decide_eq_true h2,decide_eq_true h3,decide_eq_true h4];refine ⟨_,rfl,x1.heap ab,Br.mk (λh5=>(CO b.speed _ aG w1).mono ?_) (λh5=>⟨by rw [h5];rfl,x0.tr x1⟩)⟩;rintro e w3 ⟨rfl,x3⟩;exact ⟨_,rfl,x3.heap ab,by rw [h5];rfl,x0.tr (x1.tr x3)⟩
 ·have h4:=dn h4;exact ⟨by rw [decide_eq_false h4];simp,x0⟩
 ·have h3:=dn h3;exact ⟨by rw [decide_eq_false h3];simp,x0⟩
 ·have h2:=dn h2;exact ⟨by rw [decide_eq_false h2];simp,x0⟩
 ·have h1:=dn h1;exact ⟨by rw [decide_eq_false h1];simp,x0⟩
def KW{w:World}{g:Nat}{p:Value}{av:List (Option Nat)}{τ:TypeId}(hr:Row w g (p::av.map pA) τ){k:Nat}{a:Option Nat}(ha:av[k]? =some a):Vc.ld w (ae (ae (aB g) 1) (((k:Nat):Int).toNat*1))=some (pA a):=by rw [dC,eC,zc];refine hr.at (1+k) ?_;rw [uk,CM,aV,ha];rfl
def xi{w:World}{g:Nat}{p:Value}{av:List (Option Nat)}{τ:TypeId}(hr:Row w g (p::av.map pA) τ)(hn:av.length=16):
  ah 43 #[.slice (aJ (ae (some ⟨g,0,none⟩) 1) 0 16 1) (16-0) (16-0),.pointer none] w λe w'=>e=Value.int .i64 (cE (λa:Option Nat=>a.isNone) av)/\w'=w:=by
 apply (zU.vc (a0:=⟨aJ (ae (some ⟨g,0,none⟩) 1) 0 16 1,16-0,16-0⟩));rw [eo];refine ⟨λn x wr=>∃k:Nat,x=k/\k+n=16/\wr=w/\∀j,j<k->∀y,av[j]? =some y->y.isNone=false,⟨16,0,rfl,rfl,rfl,λj hj=>by omega⟩,?_⟩;rintro n us x wr ⟨k,rfl,hk,rfl,lq⟩;apply Br.mk<;>intro hb
 ·have hb:(k:Int)<((16-0:Nat):Int):=by simpa using hb
  obtain ⟨a,ha⟩:=bB (l:=av) (i:=k) ab;refine ⟨⟨rfl,by omega,hb⟩,_,KW hr ha,?_⟩
  cases a with
  |none=>exact ⟨congrArg (λn=>Ending.returned (.int .i64 n)) (oF ha rfl lq).symm,rfl⟩
  |some b=>
   refine bD.2 ⟨λp hp=>by rw [List.mem_singleton.1 hp],?_⟩;have wk:=nY (j:=k);refine fB rfl ⟨n-1,by omega,k+1,wk,by omega,rfl,λj hj y hy=> ?_⟩;by_cases q:j<k
   ·exact lq j q y hy
   ·rw [show j=k from by omega,ha] at hy;rw [<-Option.some.inj hy];rfl
 ·have hb:¬(k:Int)<((16-0:Nat):Int):=by simpa using hb
  refine ⟨congrArg (λn=>Ending.returned (.int .i64 n)) (jc λy hy=> ?_).symm,rfl⟩;obtain ⟨j,hj⟩:=List.mem_iff_getElem?.1 hy;have:=(cK.1 hj).1;exact lq j ab y hj
abbrev qc(L:List (Option dQ)):Int:=cE (λx:Option dQ=>x.isNone) L
section
variable {F F':Nat->Prop} {w w':World} {g s o t:Nat} {M M':Sm} {occ:Value} {L:List (Option dQ)}
def EL.zV{av:List (Option Nat)}(h:EL w av L)(i:Nat):(av[i]? =some none ↔ L[i]? =some none):=by
 refine ⟨h.z i,λhl=> ?_⟩;have hi:i<16:=by rw [<-h.m];exact (cK.1 hl).1
 obtain ⟨a,ha⟩:=bB (l:=av) (i:=i) (by rw [h.n];exact hi)
 cases a with
 |none=>exact ha
 |some a=>
  obtain ⟨x,hx,-⟩:=h.s i a ha;rw [hx] at hl
  cases hl
def EL.free{av:List (Option Nat)}(h:EL w av L):cE (λa:Option Nat=>a.isNone) av=qc L:=by
 rcases eK (λa:Option Nat=>a.isNone) av with ⟨e,lq⟩|⟨k,x,hx,hq,e,iS⟩
 ·rw [e];refine (jc λy hy=> ?_).symm;obtain ⟨i,hi⟩:=Jj.1 hy
  cases y with
  |some y=>rfl
  |none=>
   have:=lq none (aU ((h.zV i).2 hi))
   cases this
 ·rw [e]
  cases x with
  |some x=>cases hq
  |none=>
   refine (oF ((h.zV k).1 hx) rfl λj hj y hy=> ?_).symm
   cases y with
   |some y=>rfl
   |none=>exact absurd (iS j hj none ((h.zV j).2 hy)) cj
def dj(M:Sm)(L:List (Option dQ))(b:dE):Int × Int × List (Option dQ):=
 if b.may=false then (-1,1,L) else if qc L<0 then (-1,8,L) else if o5 M b=false then (-1,11,L) else if g9 (fx M.T.2) b.box aC=true then (-1,12,L)
 else (qc L,0,L.set (qc L).toNat (some ({b with iE:=g9 (fx M.T.2) (iZ b.box) aC},(0,0,false))))
abbrev fq(aE:Ce)(wd ht:Int):dE:=⟨aE,(0,0,0),wd,ht,false⟩
def EF.res(h:EF F w g s o t M occ L)(x:Ext w w'):jH F w g s o t M occ L w':=⟨F,h.ext x,aO.aH x⟩
set_option maxHeartbeats 1000000 in
def EM(h:EF F w g s o t M occ L)(aE:Ce)(wd ht:Int)(hw:bT wd):ah 11 #[.pointer (some ⟨g,0,none⟩),eg aE,wd,ht] w λe w'=>
  e=Value.tuple #[.int .i64 (dj M L (fq aE wd ht)).1,.int .i64 (dj M L (fq aE wd ht)).2.1]/\jH F w g s o t M occ (dj M L (fq aE wd ht)).2.2 w':=by
 apply vO.vc;intro w0 e0 w1 e1 w2 e2;have x0:=aT e0;have z0:=eN e0;have x2:Ext w0 w2:=(aT e1).ag e2 (aD _);have z2:=Db e1 e2;have r2:Row w2 w0 (jQ (fq aE wd ht)) AT:=by rw [e2];exact Row.set (by rw [e1];exact Row.new w0 [_,_,_,_,_,_,_,_,_] _) _
 have AI:=x0.tr x2;obtain ⟨av,dq,jP,-⟩:=(h.ext AI).row;refine (xi dq jP.n).mono ?_;rintro e w3 ⟨rfl,Q9⟩;subst Q9;rw [jP.free];refine ⟨_,rfl,rfl,rfl,(N1 (fq aE wd ht) w3).mono ?_⟩;rintro e w5 ⟨rfl,x5⟩;have z5:=x5.size;refine ⟨_,rfl,x5.k,x5.k,Br.mk (λq=> ?_) (λq=>Br.mk (λq2=> ?_) (λq2=>(CN (h.ext (AI.tr x5)) (fq aE wd ht)).mono ?_))⟩
 ·have q:(fq aE wd ht).may=false:=by simpa using q
  unfold dj;rw [if_pos q];exact ⟨rfl,h.res (AI.tr x5)⟩
 ·have q:¬(fq aE wd ht).may=false:=by simpa using q
  have q2:qc L<0:=by simpa using q2
  unfold dj;rw [if_neg q,if_pos q2];exact ⟨rfl,h.res (AI.tr x5)⟩
 have q:¬(fq aE wd ht).may=false:=by simpa using q
 have q2:¬qc L<0:=by simpa using q2
 unfold dj;rw [if_neg q,if_neg q2];rintro e w7 ⟨rfl,x7⟩;have z7:=x7.size;have zd7:=mN w7;have x07:=AI.tr (x5.tr x7);refine ⟨_,rfl,x7.k,x7.k,Br.mk (λq3=> ?_) (λq3=>(mc (h.ext (x07.drew))).mono ?_)⟩
 ·have q3:o5 M (fq aE wd ht)=false:=by simpa using q3
  rw [if_pos q3];exact ⟨rfl,h.res x07⟩
 have q3:¬o5 M (fq aE wd ht)=false:=by simpa using q3
 rw [if_neg q3];rintro e w9 ⟨rfl,hw9⟩;subst hw9;have r9:=r2.ext ((x5.tr x7).drew);have h9:=h.ext x07.drew;refine ⟨_,rfl,rfl,rfl,Lo.wv r9,(kD (fq aE wd ht) hw w7.drew).mono ?_⟩;rintro e bc ⟨rfl,bA⟩;have z11:=bA.size;refine ⟨_,_,_,_,_,_,rfl,bA.k,bA.k,(od (h9.ext bA).tl rfl (fq aE wd ht).box).mono ?_⟩;rintro e du ⟨rfl,cA⟩;have z18:=cA.size;have Ub:=x07.drew.tr (bA.tr cA);refine ⟨_,rfl,cA.k,cA.k,Br.mk (λq4=> ?_) (λq4=>(mc (h.ext Ub.drew)).mono ?_)⟩
 ·rw [if_pos q4];exact ⟨rfl,h.res Ub⟩
 rw [if_neg (by rw [q4];decide)];rintro e ef ⟨rfl,auN⟩;subst auN;have r20:=r9.ext ((bA.tr cA).drew);have h20:=h.ext Ub.drew;have aB1:=mN du;refine ⟨_,rfl,rfl,rfl,Lo.wv r20,(kD (fq aE wd ht) hw du.drew).mono ?_⟩;rintro e ey ⟨rfl,dJ⟩;have z22:=dJ.size;refine ⟨_,_,_,_,_,_,rfl,dJ.k,dJ.k,(mT (h20.ext dJ).tl rfl (fq aE wd ht).box).mono ?_⟩;rintro e dX ⟨rfl,gr⟩;have z29:=gr.size;have ao8:=Ub.drew.tr (dJ.tr gr);refine ⟨_,rfl,gr.k,gr.k,λgA e31 lA Uc=> ?_⟩;generalize g7:g9 (fx M.T.2) (iZ (fq aE wd ht).box) aC=st at*;have iB:Ext w gA.drew:=(ao8.ag e31 (by omega)).drew;have z31:gA.drew.heap.size=dX.heap.size:=by show gA.heap.size=_;rw [e31,setRow_size]
 have il:Ext w lA:=iB.bg Uc;have z32:lA.heap.size=dX.heap.size+1:=by rw [Uc];simp [z31]
 have r32:Row lA gA.drew.heap.size (L9 ({fq aE wd ht with iE:=st},(0,0,false))) lZ:=Row.nw Uc;obtain ⟨av,hrow0,hel0,hFg,hFa,bu⟩:=h.row;have dq:=hrow0.ext il;have jP:=hel0.same (w':=lA) λa ha=>il.heap (hel0.lt ha)
 have hgl:=h.lt hFg;have HQ:=jP.free;obtain ⟨k,hk,hkL,hka⟩:∃k:Nat,qc L=k/\L[k]? =some none/\av[k]? =some none:=by
  rcases eK (λx:Option dQ=>x.isNone) L with ⟨e,-⟩|⟨k,x,hx,hq,e,-⟩
  ·exact absurd (show qc L= -1 from e) (by omega)
  ·cases x with
   |some x=>cases hq
   |none=>exact ⟨k,e,hx,(jP.zV k).2 hx⟩
 have vT:k<16:=by rw [<-jP.m];exact (cK.1 hkL).1
 rw [hk];have hpb:bt (ae (ae (some ⟨g,0,none⟩) 1) (((k:Nat):Int).toNat*1))=some g:=by rw [de,de];rfl
 obtain ⟨p1,p2⟩:=dq.jm (j:=1+k) (v:=.pointer (some ⟨gA.drew.heap.size,0,none⟩)) (by simp [jP.n];omega) rfl;have hpp:ae (ae (some ⟨g,0,none⟩) 1) (((k:Nat):Int).toNat*1)=ae (some ⟨g,0,none⟩) (1+k):=by rw [dC,eC,Nat.mul_one]
 have hgn:g<w:=hgl;rw [hpb];refine ⟨by omega,by omega,⟨rfl,by rw [hpp];exact p1⟩,λq=>by have:=Option.some.inj q;omega,λq=>by have:=Option.some.inj q;omega,λq=>by have:=Option.some.inj q;omega,λeP Zd=>⟨rfl,?_⟩⟩;rw [hpp] at Zd;obtain ⟨q1,q2⟩:=p2 eP Zd;have q1:Row eP g (.pointer (some ⟨s,0,none⟩)::(av.set k (some gA.drew.heap.size)).map pA) tD:=by
  have e:aW (Value.pointer (some ⟨s,0,none⟩)::av.map pA) (1+k) [.pointer (some ⟨gA.drew.heap.size,0,none⟩)]=.pointer (some ⟨s,0,none⟩)::(av.set k (some gA.drew.heap.size)).map pA:=by show (Value.pointer (some ⟨s,0,none⟩)::av.map pA).set (1+k) _=_;rw [Nat.add_comm,List.set_cons_succ,List.map_set];rfl
  rw [<-e];exact q1
 have halt:∀a,some a ∈ av->a<w.heap.size:=λa ha=>h.lt (hFa a ha)
 have gy:∀a,some a ∈ av->a≠g:=λa ha q=>by subst q;obtain ⟨i,hi⟩:=qo ha;obtain ⟨x,-,hr⟩:=jP.s i a hi;exact dq.ne hr pF.2.2 rfl
 have ou:∀(i a:Nat),(av.set k (some gA.drew.heap.size))[i]? =some (some a)->(i=k/\a=gA.drew.heap.size)\/(i≠k/\av[i]? =some (some a)):=λi a hi=>by
  by_cases q:i=k
  ·subst q;rw [oS (by rw [jP.n];exact vT)] at hi;exact .inl ⟨rfl,(Option.some.inj (Option.some.inj hi)).symm⟩
  ·rw [List.getElem?_set_ne (Ne.symm q)] at hi;exact .inr ⟨q,hi⟩
 have hE:EL eP (av.set k (some gA.drew.heap.size)) (L.set k (some ({fq aE wd ht with iE:=st},(0,0,false)))):=by
  refine ⟨by rw [jU];exact jP.n,by rw [jU];exact jP.m,λi a hi=> ?_,λi hi=> ?_,λi j a hi hj=> ?_⟩
  ·rcases ou i a hi with ⟨rfl,rfl⟩|⟨q,hi'⟩
   ·refine ⟨_,oS (by rw [jP.m];exact vT),r32.same (q2.same _ (by omega) (by omega))⟩
   ·obtain ⟨x,hx,hr⟩:=jP.s i a hi';exact ⟨x,by rw [List.getElem?_set_ne (Ne.symm q)];exact hx,hr.same (q2.same _ hr.lt (gy a (aU hi')))⟩
  ·by_cases q:i=k
   ·subst q;rw [oS (by rw [jP.n];exact vT)] at hi
    cases hi
   ·rw [List.getElem?_set_ne (Ne.symm q)] at hi ⊢;exact jP.z i hi
  ·rcases ou i a hi with ⟨rfl,rfl⟩|⟨q,hi'⟩
   ·rcases ou j _ hj with ⟨rfl,-⟩|⟨q',hj'⟩
    ·rfl
    ·have:=halt _ (aU hj');omega
   ·rcases ou j a hj with ⟨rfl,rfl⟩|⟨q',hj'⟩
    ·have:=halt _ (aU hi');omega
    ·exact jP.d i j a hi' hj'
 exact bu ((Mod.aH il).trans (q2.mono λi _ hi=> .inl hi)) q1 hE λa ha=>by
  obtain ⟨i,hi⟩:=qo ha;rcases ou i a hi with ⟨-,rfl⟩|⟨-,hi'⟩
  ·have:=ao8.size;exact .inr (by omega)
  ·exact .inl (aU hi')
end
section
variable {F F':Nat->Prop} {w w':World} {g s o t:Nat} {M M':Sm} {occ:Value} {L:List (Option dQ)}
def Ev{p:Value}{av:List (Option Nat)}{τ:TypeId}(hr:Row w g (p::av.map pA) τ)(hn:av.length=16)(n:Int):
  ah 50 #[g,n] w λe w'=>∃a:Option Nat,e=(pA a)/\w'=w/\((∃k:Nat,n=k/\k<16/\av[k]? =some a)\/¬(0<=n/\n<16)/\a=none):=by
 apply BR.vc;refine Br.mk (λh=>⟨none,rfl,rfl,.inr ⟨?_,rfl⟩⟩) (λh=>Br.mk (λh2=>⟨none,rfl,rfl,.inr ⟨?_,rfl⟩⟩) (λh2=> ?_))
 ·have h:=dn h;omega
 ·have h2:=dn h2;omega
 ·have h:=dn h;have h2:=dn h2;obtain ⟨k,rfl⟩:∃k:Nat,n=k:=⟨n.toNat,by omega⟩;obtain ⟨a,ha⟩:=bB (l:=av) (i:=k) ab;exact ⟨by omega,by omega,_,KW hr ha,a,rfl,rfl,.inl ⟨k,rfl,by omega,ha⟩⟩
def cC(L:List (Option dQ))(n:Int):Option dQ:=if 0<=n then (L[n.toNat]?).join else none
def oT(L:List (Option dQ))(n:Int):Int × List (Option dQ):=if (cC L n).isNone then (6,L) else (0,L.set n.toNat none)
def EL.am8{av:List (Option Nat)}(h:EL w av L){k:Nat}{a:Option Nat}(ha:av[k]? =some a):(cC L k).isNone=a.isNone:=by
 unfold cC;rw [if_pos ab,eC]
 cases a with
 |none=>rw [h.z k ha];rfl
 |some a=>
  obtain ⟨x,hx,-⟩:=h.s k a ha;rw [hx];rfl
def rf(hL:L.length=16){n:Int}(h:¬(0<=n/\n<16)):cC L n=none:=by
 unfold cC;split
 ·rw [jX ab];rfl
 ·rfl
def VW(h:EF F w g s o t M occ L)(n:Int):ah 13 #[g,n] w λe w'=>e=Value.int .i64 (oT L n).1/\jH F w g s o t M occ (oT L n).2 w':=by
 obtain ⟨av,dq,jP,hFg,hFa,bu⟩:=h.row;apply xX.vc;refine (Ev dq jP.n n).mono ?_;rintro e w0 ⟨a,rfl,rfl,hc⟩;refine ⟨_,rfl,?_⟩;unfold oT;rcases hc with ⟨k,rfl,hk,ha⟩|⟨wm,rfl⟩
 ·rw [jP.am8 ha]
  cases a with
  |none=>exact yes rfl ⟨rfl,h.res (Ext.cu _)⟩
  |some a=>
   refine fB rfl ?_;have hpp:ae (ae (aB g) 1) (((k:Nat):Int).toNat*1)=ae (aB g) (1+k):=by rw [dC,eC,zc]
   obtain ⟨p1,p2⟩:=dq.jm (j:=1+k) (v:=.pointer none) (by simp [jP.n];omega) rfl;refine ⟨by omega,by omega,⟨rfl,by rw [hpp];exact p1⟩,λw2 e2=>⟨rfl,?_⟩⟩;rw [hpp] at e2;obtain ⟨q1,q2⟩:=p2 w2 e2;have q1:Row w2 g (.pointer (aB s)::(av.set k none).map pA) tD:=by
    have e:aW (Value.pointer (aB s)::av.map pA) (1+k) [.pointer none]=.pointer (aB s)::(av.set k none).map pA:=by show (Value.pointer (aB s)::av.map pA).set (1+k) _=_;rw [uk,aa3,jV];rfl
    rw [<-e];exact q1
   have gy:∀a,some a ∈ av->a≠g:=λa ha q=>by subst q;obtain ⟨i,hi⟩:=qo ha;obtain ⟨x,-,hr⟩:=jP.s i a hi;exact dq.ne hr pF.2.2 rfl
   have ou:∀(i a:Nat),(av.set k none)[i]? =some (some a)->i≠k/\av[i]? =some (some a):=λi a hi=>by
    by_cases q:i=k
    ·subst q;rw [oS (by rw [jP.n];exact hk)] at hi
     cases hi
    ·rw [zT (Ne.symm q)] at hi;exact ⟨q,hi⟩
   show jH F w0 g s o t M occ (L.set ((k:Nat):Int).toNat none) w2;refine bu (q2.mono λi _ hi=> .inl hi) q1 ⟨by rw [jU];exact jP.n,by rw [jU];exact jP.m,λi a hi=> ?_,λi hi=> ?_,λi j a hi hj=> ?_⟩ λa ha=> ?_
   ·obtain ⟨q,hi'⟩:=ou i a hi;obtain ⟨x,hx,hr⟩:=jP.s i a hi';exact ⟨x,by rw [eC,zT (Ne.symm q)];exact hx,hr.same (q2.same _ hr.lt (gy a (aU hi')))⟩
   ·rw [eC];by_cases q:i=k
    ·subst q;exact oS (by rw [jP.m];exact hk)
    ·rw [zT (Ne.symm q)] at hi ⊢;exact jP.z i hi
   ·exact jP.d i j a (ou i a hi).2 (ou j a hj).2
   ·obtain ⟨i,hi⟩:=qo ha;exact .inl (aU (ou i a hi).2)
 ·rw [rf jP.m wm];exact yes rfl ⟨rfl,h.res (Ext.cu _)⟩
def cF(L:List (Option dQ)):List Int:=((List.range 16).filter λi=>(cC L (i:Nat)).isSome).map λi:Nat=>(i:Int)
def UR{α:Type}{l:List α}(h:l.length=16):∃a b c d e f g h i j k m n o p q,l=[a,b,c,d,e,f,g,h,i,j,k,m,n,o,p,q]:=by
 match l,h with
 | [a,b,c,d,e,f,g,h,i,j,k,m,n,o,p,q],_=>exact ⟨a,b,c,d,e,f,g,h,i,j,k,m,n,o,p,q,rfl⟩
set_option maxHeartbeats 1000000 in
def JO(h:EF F w g s o t M occ L):ah 12 #[g] w λe w'=>∃sl:Sl,e=Value.slice sl.a sl.n sl.c/\aF w 3 1 w' sl ((cF L).map λi=> [.int .i64 i])/\Ext w w':=by
 obtain ⟨av,dq,jP,-⟩:=h.row;apply xY.vc;have jR:af w (ae (aB g) 1) 0 (av.map pA):=by rw [bo];exact dq.cg λj hj=>by rw [show 0+1+j=j+1 from by omega,CM]
 have fL:∀k:Nat,k<16->∃a:Option Nat,(av.map pA)[((k:Nat):Int).toNat*1]? =some (pA a)/\(cC L k).isNone=a.isNone:=λk hk=>by obtain ⟨a,ha⟩:=bB (l:=av) (i:=k) (by rw [jP.n];exact hk);exact ⟨a,by rw [eC,zc,aV,ha];rfl,jP.am8 ha⟩
 obtain ⟨b0,b1,b2,b3,b4,b5,b6,b7,b8,b9,b10,Z0,TV,Hl,b14,VB,rfl⟩:=UR jP.n;refine ⟨_,_,_,_,_,_,_,_,_,_,_,_,_,_,_,_,jR,λn x sl wr=>∃k:Nat,x=k/\k+n=16/\aF w 3 1 wr sl ((((List.range k).filter λi=>(cC L (i:Nat)).isSome).map λi:Nat=>(i:Int)).map λi=> [.int .i64 i])/\Ext w wr,⟨16,0,rfl,rfl,aF.nil,Ext.cu _⟩,?_⟩;rintro n us x sl wr ⟨k,rfl,hk,ho,xr⟩;have zr:=xr.size;apply Br.mk<;>intro hb
 ·replace hb:=nG hb;obtain ⟨a,ha,hl⟩:=fL k ab;have wk:=nY (j:=k);have dD:sl.n<=16:=by have h1:=(ho.rd (show 0<1 by decide)).n;have h2:=zf (λi=>(cC L (i:Nat)).isSome) (List.range k);rw [aN,aN] at h1;rw [FM] at h2;omega
  refine ⟨⟨by omega,by omega⟩,_,ha,Br.mk (λhq=>λgC Iu=> ?_) (λhq=> ?_)⟩
  ·subst Iu;have hsome:(cC L (k:Nat)).isSome=true:=by
    cases a with
    |none=>exact absurd hq cj
    |some a=>
     cases hL:cC L k with
     |none=>rw [hL] at hl;cases hl
     |some y=>rfl
   obtain ⟨DU,hres8⟩:=ho.iO (bytes:=8) (news:=[.int .i64 (k:Int)]) (.cells #[.int .i64 (k:Int)] 3) ab rfl (sW _ _) ab ab;refine ⟨DU,λs25 fb avp=> ?_⟩;obtain ⟨f8,yM,hn8,x8,Hh,-⟩:=hres8 s25 fb avp;refine ⟨f8,n-1,by omega,k+1,wk,by omega,?_,(Below.trans xr x8:Below w w fb)⟩;rw [wK,qd,bX,bX,Jh (by simpa using hsome)];exact yM
  ·have hnone:(cC L (k:Nat)).isSome=false:=by
    cases a with
    |some a=>exact absurd hq cj
    |none=>
     cases hL:cC L k with
     |none=>rfl
     |some y=>rw [hL] at hl;cases hl
   refine ⟨n-1,by omega,k+1,wk,by omega,?_,xr⟩;rw [wK,qd,bX,bX,Ji (by rw [hnone];decide)];simpa using ho
 ·replace hb:=nT hb;have vT:k=16:=by omega
  subst vT;exact ⟨sl,rfl,ho,xr⟩
end
abbrev M0e(ai cap room bud:Int):Sm:=⟨ai,min (max cap 1) 16,(MI room,[]),[],⟨4096,0,[]⟩,min (max bud 1) 64,0,[]⟩
abbrev noL:List (Option dQ):=List.replicate 16 none
def JP(ai cap room bud:Int)(w:World):ah 38 #[.agg #[ai,cap,room,bud]] w λe w'=>
  ∃(g s o t:Nat)(F:Nat->Prop),e=Value.pointer (aB g)/\EF F w' g s o t (M0e ai cap room bud) (.func (.func 98) #[] #[]) noL/\Ext w w'/\∀i,F i->w.heap.size<=i:=by
 apply SW.vc;intro w0 e0;have x0:Ext w w0.drew:=(aT e0).drew;have z0:w0.drew.heap.size=w.heap.size+1:=by show w0.heap.size=_;rw [e0];simp
 have r0:∃τ,Row w0.drew w [ai,cap,room,bud] τ:=⟨_,by rw [e0];exact (Row.new w [_,_,_,_] _).ext (Ext.dr _)⟩;obtain ⟨τ,r0⟩:=r0;refine (Ja ai cap room w0.drew).mono ?_;rintro e w1 ⟨o,t,Fw,rfl,hW,x1,fW⟩;have z1:=x1.size;refine ⟨_,rfl,x1.heap ab,nJ (r0.ext x1) rfl,(CW hW bud).mono ?_⟩;rintro e w3 ⟨s,F,rfl,hS,x3,fS⟩;have z3:=x3.size;refine ⟨_,rfl,x3.heap ab,λw5 e5=> ?_⟩;have x5:=aT e5;have r5:Row w5 w3 (.pointer (aB s)::(List.replicate 16 none).map pA) tD:=Row.nw e5;have lq:∀(i a:Nat),(List.replicate 16 (none:Option Nat))[i]? =some (some a)->False:=λi a hi=>by
  have:=List.eq_of_mem_replicate (aU hi)
  cases this
 have jP:EL w5 (List.replicate 16 none) noL:=⟨rfl,rfl,λi a hi=>(lq i a hi).elim,λi hi=>List.getElem?_replicate_of_lt (by
  have HB:=(cK.1 hi).1;rw [JM] at HB;exact HB),λi j a hi=>(lq i a hi).elim⟩
 refine ⟨w3.heap.size,s,o,t,_,rfl,⟨F,_,r5,hS.ext x5,jP,rfl⟩,x0.tr (x1.tr (x3.tr x5)),λi hi=> ?_⟩;rcases hi with rfl|hi|hi
 ·omega
 ·rcases fS i hi with q|q
  ·have:=fW i q;omega
  ·omega
 ·cases List.eq_of_mem_replicate hi
def akf(ai limit room:Int){l:List En}(hl:(l.length:Int)<limit){p:Po}(hp:oE p)(hn:∀e ∈ l,e.1≠p):HI ai limit (MI room) l p=((MI room,l++ [(p,made ai p,false,0)]),0):=by
 have hr:eX limit (MI room) l=((MI room,l),0):=by unfold eX;rw [if_pos hl]
 have hd:(tU (MI room) (pd p)).1=[]:=by unfold MI;rw [UT]
 have hf:cE (λe:En=>e.1==p) l= -1:=jc λy hy=>by simpa using hn y hy
 unfold HI;rw [if_neg (by simpa using hp),if_neg (by rw [hf];decide),hr,if_neg cj];simp only [hd,Tu]
def wF:List Po:=[(-1,-1),(-1,0),(-1,1),(0,-1),(0,0),(0,1),(1,-1),(1,0),(1,1)]
def l9(ai:Int)(k:Nat):List En:=(wF.take k).map λp=>(p,made ai p,false,0)
def akg(ai:Int){k:Nat}(hk:k<=9):(l9 ai k).length=k:=by unfold l9;rw [aN,dI];have:wF.length=9:=rfl;omega
def Ep{k:Nat}{p:Po}(hp:wF[k]? =some p):oE p/\p ∉ wF.take k:=by
 have hk:k<9:=(cK.1 hp).1;have:k=0\/k=1\/k=2\/k=3\/k=4\/k=5\/k=6\/k=7\/k=8:=by omega
 rcases this with rfl|rfl|rfl|rfl|rfl|rfl|rfl|rfl|rfl<;>(cases hp;decide)
def agw(ai:Int){k:Nat}{p:Po}(hp:wF[k]? =some p):l9 ai (k+1)=l9 ai k++ [(p,made ai p,false,0)]:=by unfold l9;rw [dP,hp,bX];rfl
def anq(ai cap room:Int)(hc:9<=cap){k:Nat}{p:Po}(hp:wF[k]? =some p):HI ai cap (MI room) (l9 ai k) p=((MI room,l9 ai (k+1)),0):=by
 have hk:k<9:=(cK.1 hp).1;rw [akf ai cap room (by rw [akg ai ab];omega) (Ep hp).1 (λe he q=>by obtain ⟨x,hx,rfl⟩:=aY.1 he;exact (Ep hp).2 (q▸hx)),agw ai hp]
def agx{i j:Nat}(hi:i<3)(hj:j<3):wF[3*i+j]? =some (-1+(i:Int),-1+(j:Int)):=by
 have h1:i=0\/i=1\/i=2:=by omega
 have h2:j=0\/j=1\/j=2:=by omega
 rcases h1 with rfl|rfl|rfl<;>rcases h2 with rfl|rfl|rfl<;>rfl
def He{F:Nat->Prop}{w:World}{o t:Nat}{ai cap room:Int}(h:WF F w o t ai cap (MI room,l9 ai 0) [])(hc:9<=cap):
  ah 42 #[o] w λe w'=>e=true/\HS F w o t ai cap (MI room,l9 ai 9) [] w':=by
 apply TN.vc;refine (pX h).mono ?_;rintro e w0 ⟨rfl,rfl⟩;refine ⟨_,rfl,fB rfl ⟨λn x wr=>∃(i:Nat)(F':Nat->Prop),x= -1+i/\i+n=3/\WF F' wr o t ai cap (MI room,l9 ai (3*i)) []/\aO F F' w0 wr,⟨3,0,F,rfl,rfl,h,aO.refl _ _⟩,?_⟩⟩;rintro n us x wr ⟨i,F1,rfl,hi,h1,t1⟩;apply Br.mk<;>intro hb
 ·have hb:=dn hb;refine ⟨λm y wr=>∃(j:Nat)(F':Nat->Prop),y= -1+j/\j+m=3/\WF F' wr o t ai cap (MI room,l9 ai (3*i+j)) []/\aO F F' w0 wr,⟨3,0,F1,rfl,rfl,h1,t1⟩,?_⟩;rintro m wg y TR ⟨j,F2,rfl,hj,h2,t2⟩;apply Br.mk<;>intro j8
  ·have j8:=dn j8;have hp:=agx (i:=i) (j:=j) ab ab;have jR:=anq ai cap room hc hp;refine (uc h2 (iI _) (-1+(i:Int),-1+(j:Int))).mono ?_;rintro e bJ ⟨rfl,hr⟩;rw [jR] at hr;obtain ⟨F3,h3,t3⟩:=hr;refine ⟨_,rfl,?_⟩;have wk:ak (-1+(j:Int)+1)= -1+((j+1:Nat):Int):=by rw [wI];omega
   refine fB (by rw [jR];rfl) ⟨m-1,by omega,j+1,F3,wk,by omega,h3,t2.trans t3⟩
  ·have j8:=dn j8;have hj3:j=3:=by omega
   subst hj3;have wk:ak (-1+(i:Int)+1)= -1+((i+1:Nat):Int):=by rw [wI];omega
   exact ⟨n-1,by omega,i+1,F2,wk,by omega,by rw [show 3*(i+1)=3*i+3 from by omega];exact h2,t2⟩
 ·have hb:=dn hb;have hi3:i=3:=by omega
  subst hi3;exact ⟨rfl,F1,h1,t1⟩
abbrev ZR(ai cap bud:Int):Sm:=⟨ai,min (max cap 1) 16,(MI 1000000,l9 ai 9),[],⟨4096,0,[]⟩,min (max bud 1) 64,0,[]⟩
abbrev ux:TypeId:=101
abbrev CC:TypeId:=117
abbrev zl:LV:=[.bool false,.int .i64 0,.int .i64 0,.int .i64 0,.int .i64 0,.int .i64 0,.int .i64 0,.int .i64 0,.int .i64 0,.bool false,.int .i64 0,.int .i64 0,.bool false]
abbrev YY:Value:=.func (.func 98) #[] #[]
set_option maxHeartbeats 1000000 in
def KM(ai bud cap:Int)(hc:9<=cap)(w:World):ah 9 #[ai,bud,cap] w λe w'=>
  ∃(g s o t:Nat)(F:Nat->Prop)(m b s' o' t':Nat)(F':Nat->Prop),e=Value.tuple #[g,m]/\EF F w' g s o t (ZR ai cap bud) YY noL/\
   SF F' w' s' o' t' (ZR ai cap bud) YY/\Row w' m [o',s',.slice (aB b) 16 16] ux/\Row w' b (br zl 16) CC/\
   (∀i,F i->¬F' i)/\(∀i,F i->w.heap.size<=i)/\(∀i,F' i->w.heap.size<=i)/\w.heap.size<=m/\w.heap.size<=b/\Ext w w':=by
 have Zb:9<=min (max cap 1) 16:=by omega
 apply Qd.vc;refine (JP ai cap 1000000 bud w).mono ?_;rintro e w0 ⟨g,s,o,t,F,rfl,hE,x0,fF⟩;have z0:=x0.size;refine ⟨_,rfl,(Ja ai cap 1000000 w0).mono ?_⟩;rintro e w2 ⟨o',t',Fw,rfl,hW,x2,fW⟩;have z2:=x2.size;refine ⟨_,rfl,fB rfl (fB rfl ((CW hW bud).mono ?_))⟩;rintro e w4 ⟨s',Fm,rfl,hS,x4,fS⟩;have z4:=x4.size;have AW:=x0.tr (x2.tr x4);have hE4:=hE.ext (x2.tr x4);have hdj:∀i,F i->¬Fm i:=λi hi hm=>by
  have:=hE.lt hi;rcases fS i hm with q|q
  ·have:=fW i q;omega
  ·omega
 have fM:∀i,Fm i->w.heap.size<=i:=λi hi=>by
  rcases fS i hi with q|q
  ·have:=fW i q;omega
  ·omega
 refine ⟨_,rfl,fB rfl (gT rfl (gT rfl ?_))⟩;obtain ⟨Fs,hs,jR,-,-⟩:=hE4.wu;obtain ⟨Fv,hV,-,-⟩:=hs.world;refine ⟨_,jR,(gW hs).mono ?_⟩;rintro e w7 ⟨rfl,hw7⟩;subst hw7;refine ⟨_,rfl,fB rfl ((WV hE4).mono ?_)⟩;rintro e w9 ⟨rfl,hw9⟩;subst hw9;obtain ⟨Fu,hU,-,bu⟩:=hS.world;refine ⟨_,rfl,fB rfl ((gw hU).mono ?_)⟩;rintro e bc ⟨rfl,Uf⟩;subst Uf;refine ⟨_,rfl,?_⟩;rw [Ox,CY,qJ];refine fB rfl (gT rfl (gT rfl ⟨_,jR,(gW hs).mono ?_⟩));rintro e bJ ⟨rfl,alW⟩;subst alW;refine ⟨_,rfl,(gw hV).mono ?_⟩;rintro e cP ⟨rfl,axv⟩;subst axv;refine ⟨_,rfl,?_⟩;rw [Ox,CY,qJ];refine fB rfl ((He (room:=1000000) hU Zb).mono ?_);rintro e du ⟨rfl,hr⟩;obtain ⟨F2,Uj,t2⟩:=bu hr;have axw:EF F du g s o t _ YY noL:=hE4.same λi hi=>t2.mod.same i (hE4.lt hi) (hdj i hi)
 have hdj2:∀i,F i->¬F2 i:=λi hi hm=>by
  rcases t2.sub i hm with q|q
  ·exact hdj i hi q
  ·have:=hE4.lt hi;omega
 obtain ⟨axx,fM2⟩:=t2.fresh AW fM;refine ⟨_,rfl,fB rfl (gT rfl (gT rfl ?_))⟩;obtain ⟨Fs,hs,jR,-,hresE⟩:=axw.wu;obtain ⟨Fv,hV,-,hresS⟩:=hs.world;refine ⟨_,jR,(gW hs).mono ?_⟩;rintro e eU ⟨rfl,axy⟩;subst axy;refine ⟨_,rfl,(He (room:=1000000) hV Zb).mono ?_⟩;rintro e eR ⟨rfl,hr⟩;obtain ⟨F3,hE3,t3⟩:=hresE (hresS hr);have axz:SF F2 eR s' o' t' (ZR ai cap bud) YY:=Uj.same λi hi=>t3.mod.same i (Uj.lt hi) λq=>hdj2 i q hi
 have hdj3:∀i,F3 i->¬F2 i:=λi hi hm=>by
  rcases t3.sub i hi with q|q
  ·exact hdj2 i q hm
  ·have:=Uj.lt hm;omega
 obtain ⟨aqw,fF3⟩:=t3.fresh axx fF;have z23:=aqw.size;refine ⟨_,rfl,fB rfl ?_⟩;have last:∀cV:World,cV=eR.drew.alloc (.cells (br zl (16:Int).toNat).toArray CC)->∀fb:World,fb=cV.alloc (.cells #[o',s',.slice (aB eR.drew.heap.size) (16:Int).toNat (16:Int).toNat] ux)->
   ∃(g2 s2 o2 t2:Nat)(F:Nat->Prop)(m b s' o' t':Nat)(F':Nat->Prop),Ending.returned (.tuple #[g,.pointer (aB cV.heap.size)])=Value.tuple #[g2,m]/\EF F fb g2 s2 o2 t2 (ZR ai cap bud) YY noL/\
   SF F' fb s' o' t' (ZR ai cap bud) YY/\Row fb m [o',s',.slice (aB b) 16 16] ux/\Row fb b (br zl 16) CC/\
   (∀i,F i->¬F' i)/\(∀i,F i->w.heap.size<=i)/\(∀i,F' i->w.heap.size<=i)/\w.heap.size<=m/\w.heap.size<=b/\Ext w fb:=by
  intro cV tV fb yI;have dT:Ext eR cV:=(Ext.dr eR).bg tV;have fE:=aT yI;have z25:=dT.size;have rb:Row cV eR.drew.heap.size (br zl 16) CC:=by rw [tV];exact Row.new eR.drew (br zl 16) _
  have rm:Row fb cV [o',s',.slice (aB eR.drew.heap.size) 16 16] ux:=Row.nw yI;exact ⟨g,s,o,t,F3,_,_,_,_,_,F2,rfl,hE3.ext (dT.tr fE),axz.ext (dT.tr fE),rm,rb.ext fE,hdj3,fF3,fM2,by omega,z23,aqw.tr (dT.tr fE)⟩
 exact ⟨⟨by decide,λcV tV=>⟨⟨λfb yI=>last cV tV fb yI,λfb yI=>last cV tV fb yI⟩,λfb yI=>last cV tV fb yI⟩⟩,⟨by decide,λcV tV fb yI=>last cV tV fb yI⟩⟩
def LF(w:World):ah 14 #[] w λe w'=>e=true/\Ext w w':=by
 apply Qe.vc;refine (JP 0 1 0 0 w).mono ?_;rintro e w0 ⟨g,s,o,t,F,rfl,hE,x0,fF⟩;refine ⟨_,rfl,fB rfl ((EM hE (0,0,0) 100 100 (by unfold bT;omega)).mono ?_)⟩;have hsp:dj (M0e 0 1 0 0) noL (fq (0,0,0) 100 100)=(-1,11,noL):=by unfold dj;rw [if_neg aG,if_neg aG,if_pos aG]
 rw [hsp];rintro e w2 ⟨rfl,F2,-,t2⟩;exact ⟨_,_,rfl,yes rfl ⟨rfl,(t2.fresh x0 fF).1⟩⟩
set_option maxHeartbeats 8000000
set_option linter.unusedVariables false
variable {R:Ending->World->Prop} {w:World} {a0 a1 a2 a3 a4 a5 a6 a7 a8 a9 aw ao au aP aQ aR bM bH bI DV aq ar aA bz bR bQ fe fg eM DW bE bO bC yu yw vV vW yx yy yz DX DY DZ D3 D4 D5 D6 D7 D8 D9:Int}
def KQ.vc{a0:Value}(h:
 Aw w #[aq,ar,aA,bz,bR,bQ] 107 λw0=>
 ah 102 #[a0,.agg #[aq,ar,aA,bz,bR,bQ],.func (.func 274) #[] #[]] w0 (Rb λb2 w1=>Kp w w0 w1/\
 R b2 w1)):ah 234 #[a0,.agg #[aq,ar,aA,bz,bR,bQ]] w R:=
 cq bU Tryz.func234 h
def Wj.vc{a0:Value}(h:
 Aw w #[aq,ar,aA,bz,bR,bQ] 107 λw0=>
 ah 102 #[a0,.agg #[aq,ar,aA,bz,bR,bQ],.func (.func 202) #[] #[]] w0 (Rb λb2 w1=>Kp w w0 w1/\
 R b2 w1)):ah 235 #[a0,.agg #[aq,ar,aA,bz,bR,bQ]] w R:=
 cq bU Tryz.func235 h
def KR.vc(h:
 R (Value.bool (a0==4)) w):ah 274 #[a0] w R:=
 cq bU Tryz.func274 h
def KS.vc(h:
 Aw w #[aw,ao,au,aP,aQ,aR] 107 λw0=>
 Aw w0 #[a1] 3 λw1=>
 Aw w1 #[a2] 3 λw2=>
 R (Value.func (.func 322) #[] #[w,.pointer (aB w0),.pointer (aB w1)]) w2):ah 311 #[.agg #[aw,ao,au,aP,aQ,aR],a1,a2] w R:=
 cq bU Tryz.func311 h
def Fz.vc{a0:Value}{c0:Addr}{c1:Addr}{c2:Addr}(h:
 ∃(x0 x1 x2:Int),af w.drew (ae (some c0) 0) 0 [x0,x1,x2]/\
 ∃(x3:Int),ld w.drew (some c1)=some (.int .i64 x3)/\
 ∃(x4 x5 x6:Int),af w.drew (ae (some c0) 3) 0 [x4,x5,x6]/\
 ∃(x7:Int),ld w.drew (some c1)=some (.int .i64 x7)/\
 ah 178 #[.agg #[x0,x1,x2],x3] w.drew (λe w8=>∃(x9:Int),e=x9/\
 af w8 (some c1) 0 [x7]/\af w8 (ae (some c0) 3) 0 [x4,x5,x6]/\ah 178 #[.agg #[x4,x5,x6],x7] w8 (λe bN=>∃(bA:Int),e=bA/\
 ∃(bS:Int),ld bN (some c2)=some (.int .i64 bS)/\
 Br (bS>0)
 (ah 152 #[(ak ((ak (bA+65536))-1))] bN (λe bG=>∃(bW:Int),e=bW/\
 ∃I15:Nat->Int->World->Prop,
 (∃Mk,I15 Mk bW bG)/\
 ∀(Mk:Nat)(atu:Nat->Value)(cA:Int)(gn:World),I15 Mk cA gn->
 ∃(dh:Int),ld gn.drew (some c2)=some (.int .i64 dh)/\
 ah 174 #[cA] gn.drew (λe ey=>∃(dA:Int),e=dA/\
 af ey (some c2) 0 [dh]/\Br (decide (dA<(ak (bA+dh))))
 (ah 174 #[cA] ey (λe gC=>∃(dT:Int),e=dT/\
 cL Tryz.prog a0 [cA,(ak (dT-bA))] gC (λe fb=>∃(B7:Bool),e=B7/\
 Br (!B7)
 (R ug fb)
 (∃TX,TX<Mk/\I15 TX ((ak (cA+1))) fb))))
 (R ug ey))))
 (ah 152 #[x9] bN (λe gQ=>∃(gr:Int),e=gr/\
 ∃I30:Nat->Int->World->Prop,
 (∃VC,I30 VC ((ak (gr-1))) gQ)/\
 ∀(VC:Nat)(atv:Nat->Value)(eF:Int)(iq:World),I30 VC eF iq->
 ∃(lJ:Int),ld iq.drew (some c2)=some (.int .i64 lJ)/\
 ah 174 #[(ak (eF+1))] iq.drew (λe iN=>∃(gd:Int),e=gd/\
 af iN (some c2) 0 [lJ]/\Br (decide (gd>(ak (x9+lJ))))
 (ah 174 #[(ak (eF+1))] iN (λe kP=>∃(lu:Int),e=lu/\
 cL Tryz.prog a0 [eF,(ak (lu-x9))] kP (λe iR=>∃(b42:Bool),e=b42/\
 Br (!b42)
 (R ug iR)
 (∃Mj,Mj<VC/\I30 Mj ((ak (eF-1))) iR))))
 (R ug iN))))))):ah 322 #[a0,c0,c1,c2] w R:=
 cq ⟨[(3,⟨[(7,.int .i64)],[],[]⟩),(7,⟨[(8,.int .i64)],[],[]⟩)],[],[]⟩ Tryz.func322 h
def MZ.vc(h:
 Aw w #[aw,ao,au,aP,aQ,aR] 107 λw0=>
 Aw w0 #[aa,aa,aa,aa,aa,aa] 107 λw1=>
 ah 174 #[a2] w1.drew (Ri λx3 w2=>K2 w w0 w1.drew w2 (
 af w2 (dU w 3) 0 [aP,aQ,aR]/\af w2 w 0 [aw,ao,au]/\ah 155 #[.agg #[aw,ao,au],a1,x3] w2 (jo λx5 x6 x7 w4=>K2 w w0 w2 w4 (
 af w4 (dU w 3) 0 [aP,aQ,aR]/\ah 174 #[(ak (a2+1))] w4 (Ri λx9 w8=>K2 w w0 w4 w8 (
 af w8 (dU w 3) 0 [aP,aQ,aR]/\ah 155 #[.agg #[aP,aQ,aR],a1,x9] w8 (jo λbA bS cn bN=>K2 w w0 w8 bN (
 Sw bN w0 #[x5,x6,x7,bA,bS,cn] λbJ=>
 R (Value.agg #[x5,x6,x7,bA,bS,cn]) bJ))))))))):ah 312 #[.agg #[aw,ao,au,aP,aQ,aR],a1,a2] w R:=
 cq bU Tryz.func312 h
def RN.vc{a0:Value}(h:
 aS (kU a0) (
 Aw w #[a0] 65 λw0=>
 Aw w0 #[aq,ar,aA,bz,bR,bQ] 107 λw1=>
 Aw w1 #[a2] 3 λw2=>
 Aw w2 #[aa] 3 λw3=>
 Aw w3 #[false] 4 λw4=>
 Br (a2<0)
 (Sw w4 w2 #[aa] λw5=>
 Sw w5 w3 #[false] λw6=>
 R (Value.tuple #[aa,false]) w6)
 (Br (a2>=3)
 (Sw w4 w2 #[aa] λw7=>
 Sw w7 w3 #[false] λw8=>
 R (Value.tuple #[aa,false]) w8)
 (ah 311 #[.agg #[aq,ar,aA,bz,bR,bQ],a2,.int .i64 (if 4194304<(if (-4194304)>a3 then (-4194304) else a3) then 4194304 else (if (-4194304)>a3 then (-4194304) else a3))] w4 (Rv λv10 w9=>K5 w w0 w1 w2 w3 w4 w9 (
 ∃(agL:List (LV))(anT F13:Nat->Prop)(I14:Nat->(Nat->Prop)->Int->Bool->World->Prop)(X15:Option Nat->(Nat->Prop)->Int->Bool->World->Prop),
 (∀x ∈ agL,∃(cp cZ:Int),x=[.int .i64 cp,.int .i64 cZ])/\
 (∀(n18:Nat)(F19:Nat->Prop)(cW:Int)(Mh:Bool)(ey eR:World),I14 n18 F19 cW Mh ey->Below w9 ey eR->(∀i,F19 i->eR.heap[i]? =ey.heap[i]?)->I14 n18 F19 cW Mh eR)/\
 (∀(n24:Option Nat)(F25:Nat->Prop)(fE:Int)(B7:Bool)(gQ dX:World),X15 n24 F25 fE B7 gQ->Below w9 gQ dX->(∀i,F25 i->dX.heap[i]? =gQ.heap[i]?)->X15 n24 F25 fE B7 dX)/\
 (∀(n30:Nat)(F31:Nat->Prop)(il:Int)(Zi:Bool)(iq:World),I14 n30 F31 il Zi iq->∀i,F31 i->i<iq.heap.size/\i≠w9.heap.size/\i≠w9.heap.size+1)/\
 (∀(Mj:Option Nat)(F36:Nat->Prop)(gx:Int)(b38:Bool)(kP:World),X15 Mj F36 gx b38 kP->∀i,F36 i->i<kP.heap.size/\i≠w9.heap.size/\i≠w9.heap.size+1)/\
 (∀i,anT i->i<w9.heap.size/\¬F13 i/\i≠w.heap.size/\i≠w0.heap.size/\i≠w1.heap.size/\i≠w2.heap.size/\i≠w3.heap.size/\True)/\
 (∀jS:World,M1 w9 w9 jS->Iter Tryz.prog (v10) jS anT agL/\aL [a0]/\aL [aq,ar,aA,bz,bR,bQ]/\aL [a2]/\I14 0 F13 (0) false jS)/\
 (∀(n41:Nat)(F42:Nat->Prop)(aBh:Nat->Value)(lK:Int)(Qm:Bool)(g8 qF:Int)(gf:World),agL[n41]? =some [.int .i64 g8,.int .i64 qF]->I14 n41 F42 lK Qm gf->
 Below gf gf gf/\∀mI:World,Rec (w9.heap.size+1) gf mI->I14 n41 F42 lK Qm mI->
 ah 312 #[.agg #[aq,ar,aA,bz,bR,bQ],a2,g8] mI.drew (wE λnE mJ iT qx mz tk lR=>K5 w w0 w1 w2 w3 mI.drew lR (
 af lR w 0 [a0]/\ah 46 #[a0,.agg #[nE,mJ,iT,qx,mz,tk]] lR (Rb λQ3 nQ=>K5 w w0 w1 w2 w3 lR nQ (
 Br Q3
 (Sw nQ w2 #[qF] λyO=>
 Sw yO w3 #[true] λnN=>
 true=true/\∃F61:Nat->Prop,(aL [a0]/\aL [aq,ar,aA,bz,bR,bQ]/\aL [a2]/\X15 none F61 qF true nN)/\Step (λi=>(F42 i\/i ∈([w.heap.size,w0.heap.size,w1.heap.size,w2.heap.size,w3.heap.size]:List Nat))\/gf.heap.size<=i) (λi=>F61 i\/i ∈([w.heap.size,w0.heap.size,w1.heap.size,w2.heap.size,w3.heap.size]:List Nat)) mI nN)
 (∃F62:Nat->Prop,(aL [a0]/\aL [aq,ar,aA,bz,bR,bQ]/\aL [a2]/\I14 (n41+1) F62 lK Qm nQ)/\Step (λi=>(F42 i\/i ∈([w.heap.size,w0.heap.size,w1.heap.size,w2.heap.size,w3.heap.size]:List Nat))\/gf.heap.size<=i) (λi=>F62 i\/i ∈([w.heap.size,w0.heap.size,w1.heap.size,w2.heap.size,w3.heap.size]:List Nat)) mI nQ))))))/\
 (∀(F63:Nat->Prop)(atw:Nat->Value)(rJ:Int)(b66:Bool)(lC:World),I14 agL.length F63 rJ b66 lC->lC.heap[w9.heap.size]? =some (.deferred (some []))->
 Sw lC w2 #[.int .i64 (if 4194304<(if (-4194304)>a3 then (-4194304) else a3) then 4194304 else (if (-4194304)>a3 then (-4194304) else a3))] λtM=>
 Sw tM w3 #[false] λMl=>
 Ml.heap[w9.heap.size]? =some (.deferred (some []))/\∀oA:World,Rec w9 Ml oA->
 R (Value.tuple #[.int .i64 (if 4194304<(if (-4194304)>a3 then (-4194304) else a3) then 4194304 else (if (-4194304)>a3 then (-4194304) else a3)),false]) oA)/\
 (∀(F71:Nat->Prop)(atm:Nat->Value)(nO:Int)(b74:Bool)(sN:World),X15 none F71 nO b74 sN->sN.heap[w9.heap.size]? =some (.deferred (some []))->
 sN.heap[w9.heap.size]? =some (.deferred (some []))/\∀kL:World,Rec w9 sN kL->
 R (Value.tuple #[nO,b74]) kL))))))):ah 299 #[a0,.agg #[aq,ar,aA,bz,bR,bQ],a2,a3] w R:=
 cq ⟨[],[],[(7,⟨[],[(3,[.int .i64]),(4,[.bool])],[]⟩,[.sc (.int .i64),.sc (.int .i64)])]⟩ Tryz.func299 h
def aaH.vc(h:
 Aw w #[aw,ao,au,aP,aQ,aR] 107 λw0=>
 Aw w0 #[aq,ar,aA] 28 λw1=>
 Aw w1 #[aa,aa,aa,aa,aa,aa] 107 λw2=>
 ah 145 #[.agg #[aw,ao,au],.agg #[aq,ar,aA]] w2.drew (jo λx4 x5 x6 w3=>K3 w w0 w1 w2.drew w3 (
 af w3 (aB w0) 0 [aq,ar,aA]/\af w3 (dU w 3) 0 [aP,aQ,aR]/\ah 145 #[.agg #[aP,aQ,aR],.agg #[aq,ar,aA]] w3 (jo λx8 x9 bk w7=>K3 w w0 w1 w3 w7 (
 Sw w7 w1 #[x4,x5,x6,x8,x9,bk] λbc=>
 R (Value.agg #[x4,x5,x6,x8,x9,bk]) bc))))):ah 300 #[.agg #[aw,ao,au,aP,aQ,aR],.agg #[aq,ar,aA]] w R:=
 cq bU Tryz.func300 h
def M3.vc{a0:Value}(h:
 Aw w #[aq,ar,aA,bz,bR,bQ] 107 λw0=>
 Aw w0 #[aa,aa,aa,aa,aa,aa] 107 λw1=>
 ah 299 #[a0,.agg #[aq,ar,aA,bz,bR,bQ],a2,a3] w1 (λe w2=>∃(x3:Int)(b4:Bool),e=Value.tuple #[x3,b4]/\K2 w w0 w1 w2 (
 ah 155 #[.agg #[aa,aa,aa],a2,x3] w2.drew (jo λx6 x7 x8 w5=>K2 w w0 w2.drew w5 (
 af w5 w 0 [aq,ar,aA,bz,bR,bQ]/\ah 300 #[.agg #[aq,ar,aA,bz,bR,bQ],.agg #[x6,x7,x8]] w5 (wE λbk bA bS cn bW cD w9=>K2 w w0 w5 w9 (
 Sw w9 w0 #[bk,bA,bS,cn,bW,cD] λcP=>
 R (Value.tuple #[.agg #[bk,bA,bS,cn,bW,cD],b4]) cP))))))):ah 275 #[a0,.agg #[aq,ar,aA,bz,bR,bQ],a2,a3] w R:=
 cq bU Tryz.func275 h
def RA.vc{a0:Value}(h:
 Aw w #[aq,ar,aA,bz,bR,bQ] 107 λw0=>
 Aw w0 #[bE,bO,bC] 28 λw1=>
 Aw w1 #[aa,aa,aa,aa,aa,aa] 107 λw2=>
 Aw w2 #[false,false,false] 299 λw3=>
 Aw w3 #[false,false,false] 299 λw4=>
 ∃I5:Nat->Int->Int->Int->Int->Int->Int->Int->World->Prop,
 (∃n6,aL [bE,bO,bC]/\aL [aa,aa,aa,aa,aa,aa]/\I5 n6 (0) aq ar aA bz bR bQ w4)/\
 ∀(n6:Nat)(us7:Nat->Value)(x8 x9 bk bA bS cn bW:Int)(eu:World),I5 n6 x8 x9 bk bA bS cn bW eu->
 Br (x8<3)
 (((0:Int)<=x8/\x8<((3:Nat):Int))/\∃(cZ:Int),([(1:Int),aa,(2:Int)]:LV)[(x8:Int).toNat*1]? =some (.int .i64 cZ)/\
 ah 178 #[.agg #[bE,bO,bC],cZ] eu.drew (Ri λcr du=>K3 w w0 w1 eu.drew du (
 af du w 0 [x9,bk,bA,bS,cn,bW]/\ah 275 #[a0,.agg #[x9,bk,bA,bS,cn,bW],cZ,cr] du (λe ef=>∃(dh dJ dA eG dT fE:Int)(B7:Bool),e=Value.tuple #[.agg #[dh,dJ,dA,eG,dT,fE],B7]/\K3 w w0 w1 du ef (
 Sw ef w #[dh,dJ,dA,eG,dT,fE] λgQ=>
 (0:Int)<=cZ/\cZ<((3:Nat):Int)/\(true=true/\Wr gQ (ae (aB w3) ((cZ:Int).toNat*1)) 1)/\bt (ae (aB w3) ((cZ:Int).toNat*1))≠some w.heap.size/\bt (ae (aB w3) ((cZ:Int).toNat*1))≠some w0.heap.size/\bt (ae (aB w3) ((cZ:Int).toNat*1))≠some w1.heap.size/\(∀dX,dX=aK gQ (ae (aB w3) ((cZ:Int).toNat*1)) [.bool B7]->
 ∃Mk,Mk<n6/\aL [bE,bO,bC]/\aL [aa,aa,aa,aa,aa,aa]/\I5 Mk ((ak (x8+1))) dh dJ dA eG dT fE dX))))))
 (∃(Zj TU Zk:Bool),af eu.drew (aB w3) 0 [.bool Zj,TU,Zk]/\
 Sw eu.drew w1 #[x9,bk,bA,bS,cn,bW] λeP=>
 af eP (aB w3) 0 [.bool Zj,TU,Zk]/\Wt eP ⟨w2,0,none⟩ 3/\Nb w2 w/\Nb w2 w0/\Nb w2 w1/\(∀iq,iq=aK eP (aB w2) [.bool Zj,TU,Zk]->
 ∃(b35 b36 b37:Bool),af iq (aB w2) 0 [.bool b35,b36,b37]/\
 R (Value.tuple #[.agg #[x9,bk,bA,bS,cn,bW],.agg #[b35,b36,b37]]) iq))):ah 240 #[a0,.agg #[aq,ar,aA,bz,bR,bQ],.agg #[bE,bO,bC]] w R:=
 cq ⟨[(3,⟨[(12,.int .i64)],[(0,[.int .i64,.int .i64,.int .i64,.int .i64,.int .i64,.int .i64])],[]⟩)],[],[]⟩ Tryz.func240 h
def RO.vc(h:
 Aw w #[aw,ao,au,aP,aQ,aR] 107 λw0=>
 Aw w0 #[aq,ar,aA,bz,bR,bQ] 107 λw1=>
 R ((ak ((if (ak (0-(ak (aq-aw))))>(ak (aq-aw)) then (ak (0-(ak (aq-aw)))) else (ak (aq-aw)))+(if (ak (0-(ak (aA-au))))>(ak (aA-au)) then (ak (0-(ak (aA-au)))) else (ak (aA-au)))))) w1.drew):ah 276 #[.agg #[aw,ao,au,aP,aQ,aR],.agg #[aq,ar,aA,bz,bR,bQ]] w R:=
 cq bU Tryz.func276 h
def RP.vc{a0:Value}(h:
 Aw w #[aq,ar,aA,bz,bR,bQ] 107 λw0=>
 Aw w0 #[bE,bO,bC] 28 λw1=>
 Aw w1 #[aa,aa,aa,aa,aa,aa] 107 λw2=>
 Aw w2 #[false,false,false] 299 λw3=>
 ah 240 #[a0,.agg #[aq,ar,aA,bz,bR,bQ],.agg #[bE,bO,bC]] w3 (λe w4=>∃(x5 x6 x7 x8 x9 bk:Int)(Z0 TV Hl:Bool),e=Value.tuple #[.agg #[x5,x6,x7,x8,x9,bk],.agg #[Z0,TV,Hl]]/\K3 w w0 w1 w3 w4 (
 Aw w4 #[aa,aa,aa,aa,aa,aa] 107 λbJ=>
 Aw bJ #[false,false,false] 299 λeu=>
 Sw eu w4 #[x5,x6,x7,x8,x9,bk] λcP=>
 Wt cP ⟨bJ,0,none⟩ 3/\Nb bJ w/\Nb bJ w0/\Nb bJ w1/\Nb bJ w4/\(∀cJ,cJ=aK cP (aB bJ) [.bool Z0,TV,Hl]->
 ∃J18:World->Prop,
 ((0:Int)<=0/\(0:Int)<((3:Nat):Int)/\∃(b19:Bool),ld cJ (ae (aB bJ) ((0:Int).toNat*1))=some (.bool b19)/\
 Br (!b19)
 ((0:Int)<=2/\(2:Int)<((3:Nat):Int)/\∃(b20:Bool),ld cJ (ae (aB bJ) ((2:Int).toNat*1))=some (.bool b20)/\
 Br (!b20)
 (∃(Mh b22 Cd:Bool),af cJ.drew (aB bJ) 0 [.bool Mh,b22,Cd]/\
 Sw cJ.drew w1 #[x5,x6,x7,x8,x9,bk] λgC=>
 af gC (aB bJ) 0 [.bool Mh,b22,Cd]/\Wt gC ⟨w2,0,none⟩ 3/\Nb w2 w/\Nb w2 w0/\Nb w2 w1/\Nb w2 w4/\(∀cV,cV=aK gC (aB w2) [.bool Mh,b22,Cd]->
 ∃(Hm B7 Q4:Bool),af cV (aB w2) 0 [.bool Hm,B7,Q4]/\
 R (Value.tuple #[.agg #[x5,x6,x7,x8,x9,bk],.agg #[Hm,B7,Q4]]) cV))
 (Br (a3<=0)
 (∃(b29 Zj TU:Bool),af cJ.drew (aB bJ) 0 [.bool b29,Zj,TU]/\
 Sw cJ.drew w1 #[x5,x6,x7,x8,x9,bk] λlA=>
 af lA (aB bJ) 0 [.bool b29,Zj,TU]/\Wt lA ⟨w2,0,none⟩ 3/\Nb w2 w/\Nb w2 w0/\Nb w2 w1/\Nb w2 w4/\(∀eP,eP=aK lA (aB w2) [.bool b29,Zj,TU]->
 ∃(Ze b35 b36:Bool),af eP (aB w2) 0 [.bool Ze,b35,b36]/\
 R (Value.tuple #[.agg #[x5,x6,x7,x8,x9,bk],.agg #[Ze,b35,b36]]) eP))
 (ah 49 #[a0,.agg #[aq,ar,aA,bz,bR,bQ]] cJ (Rb λb38 iN=>K4 w w0 w1 w4 cJ iN (
 Br (!b38)
 (∃(b39 b40 b41:Bool),af iN.drew (aB bJ) 0 [.bool b39,b40,b41]/\
 Sw iN.drew w1 #[x5,x6,x7,x8,x9,bk] λkO=>
 af kO (aB bJ) 0 [.bool b39,b40,b41]/\Wt kO ⟨w2,0,none⟩ 3/\Nb w2 w/\Nb w2 w0/\Nb w2 w1/\Nb w2 w4/\(∀iH,iH=aK kO (aB w2) [.bool b39,b40,b41]->
 ∃(b44 Qm b46:Bool),af iH (aB w2) 0 [.bool b44,Qm,b46]/\
 R (Value.tuple #[.agg #[x5,x6,x7,x8,x9,bk],.agg #[b44,Qm,b46]]) iH))
 (aL [aq,ar,aA,bz,bR,bQ]/\aL [bE,bO,bC]/\aL [aa,aa,aa,aa,aa,aa]/\aL [x5,x6,x7,x8,x9,bk]/\J18 iN))))))
 (Br (a3<=0)
 (∃(b47 b48 b49:Bool),af cJ.drew (aB bJ) 0 [.bool b47,b48,b49]/\
 Sw cJ.drew w1 #[x5,x6,x7,x8,x9,bk] λlR=>
 af lR (aB bJ) 0 [.bool b47,b48,b49]/\Wt lR ⟨w2,0,none⟩ 3/\Nb w2 w/\Nb w2 w0/\Nb w2 w1/\Nb w2 w4/\(∀vX,vX=aK lR (aB w2) [.bool b47,b48,b49]->
 ∃(b52 b53 b54:Bool),af vX (aB w2) 0 [.bool b52,b53,b54]/\
 R (Value.tuple #[.agg #[x5,x6,x7,x8,x9,bk],.agg #[b52,b53,b54]]) vX))
 (ah 49 #[a0,.agg #[aq,ar,aA,bz,bR,bQ]] cJ (Rb λb56 AK=>K4 w w0 w1 w4 cJ AK (
 Br (!b56)
 (∃(Zl Q3 b59:Bool),af AK.drew (aB bJ) 0 [.bool Zl,Q3,b59]/\
 Sw AK.drew w1 #[x5,x6,x7,x8,x9,bk] λnN=>
 af nN (aB bJ) 0 [.bool Zl,Q3,b59]/\Wt nN ⟨w2,0,none⟩ 3/\Nb w2 w/\Nb w2 w0/\Nb w2 w1/\Nb w2 w4/\(∀pG,pG=aK nN (aB w2) [.bool Zl,Q3,b59]->
 ∃(b62 b63 b64:Bool),af pG (aB w2) 0 [.bool b62,b63,b64]/\
 R (Value.tuple #[.agg #[x5,x6,x7,x8,x9,bk],.agg #[b62,b63,b64]]) pG))
 (aL [aq,ar,aA,bz,bR,bQ]/\aL [bE,bO,bC]/\aL [aa,aa,aa,aa,aa,aa]/\aL [x5,x6,x7,x8,x9,bk]/\J18 AK))))))/\
 ∀atz:Nat->Value,∀(rI:World),J18 rI->
 ah 275 #[a0,.agg #[aq,ar,aA,bz,bR,bQ],(1:Int),.int .i64 (if 65536<a3 then 65536 else a3)] rI (λe lC=>∃(oN qH pP oy oz nO:Int)(b74:Bool),e=Value.tuple #[.agg #[oN,qH,pP,oy,oz,nO],b74]/\K4 w w0 w1 w4 rI lC (
 Aw lC #[aa,aa,aa,aa,aa,aa] 107 λsN=>
 Sw sN lC #[oN,qH,pP,oy,oz,nO] λkL=>
 Aw kL #[false,false,false] 299 λvd=>
 Wt vd ⟨kL,0,none⟩ 3/\Nb kL w/\Nb kL w0/\Nb kL w1/\Nb kL w4/\Nb kL lC/\(∀qm,qm=aK vd (aB kL) [.bool false,true,false]->
 Aw qm #[aa,aa,aa,aa,aa,aa] 107 λZ1=>
 Sw Z1 qm #[oN,qH,pP,oy,oz,nO] λvG=>
 ah 275 #[a0,.agg #[oN,qH,pP,oy,oz,nO],(0:Int),bE] vG (λe we=>∃(tN v5 B8 B9 Q5 ve:Int)(b88:Bool),e=Value.tuple #[.agg #[tN,v5,B8,B9,Q5,ve],b88]/\K6 w w0 w1 w4 lC qm vG we (
 Sw we qm #[tN,v5,B8,B9,Q5,ve] λpC=>
 (0:Int)<=0/\(0:Int)<((3:Nat):Int)/\(true=true/\Wr pC (ae (aB kL) ((0:Int).toNat*1)) 1)/\bt (ae (aB kL) ((0:Int).toNat*1))≠some w.heap.size/\bt (ae (aB kL) ((0:Int).toNat*1))≠some w0.heap.size/\bt (ae (aB kL) ((0:Int).toNat*1))≠some w1.heap.size/\bt (ae (aB kL) ((0:Int).toNat*1))≠some w4.heap.size/\bt (ae (aB kL) ((0:Int).toNat*1))≠some lC.heap.size/\bt (ae (aB kL) ((0:Int).toNat*1))≠some qm.heap.size/\(∀pD,pD=aK pC (ae (aB kL) ((0:Int).toNat*1)) [.bool b88]->
 ah 275 #[a0,.agg #[tN,v5,B8,B9,Q5,ve],(2:Int),bC] pD (λe w91=>∃(Eb yD Zm EG EH EI:Int)(b98:Bool),e=Value.tuple #[.agg #[Eb,yD,Zm,EG,EH,EI],b98]/\K6 w w0 w1 w4 lC qm pD w91 (
 Sw w91 qm #[Eb,yD,Zm,EG,EH,EI] λQ6=>
 (0:Int)<=2/\(2:Int)<((3:Nat):Int)/\(true=true/\Wr Q6 (ae (aB kL) ((2:Int).toNat*1)) 1)/\bt (ae (aB kL) ((2:Int).toNat*1))≠some w.heap.size/\bt (ae (aB kL) ((2:Int).toNat*1))≠some w0.heap.size/\bt (ae (aB kL) ((2:Int).toNat*1))≠some w1.heap.size/\bt (ae (aB kL) ((2:Int).toNat*1))≠some w4.heap.size/\bt (ae (aB kL) ((2:Int).toNat*1))≠some lC.heap.size/\bt (ae (aB kL) ((2:Int).toNat*1))≠some qm.heap.size/\(∀sO,sO=aK Q6 (ae (aB kL) ((2:Int).toNat*1)) [.bool b98]->
 ah 275 #[a0,.agg #[Eb,yD,Zm,EG,EH,EI],(1:Int),(ak (0-(ak (qH-ar))))] sO (λe Iz=>∃(vf AO vg tO rD rE:Int)(atA:Bool),e=Value.tuple #[.agg #[vf,AO,vg,tO,rD,rE],atA]/\K6 w w0 w1 w4 lC qm sO Iz (
 Sw Iz qm #[vf,AO,vg,tO,rD,rE] λHo=>
 ah 276 #[.agg #[aq,ar,aA,bz,bR,bQ],.agg #[vf,AO,vg,tO,rD,rE]] Ho.drew (Ri λrF Hp=>K6 w w0 w1 w4 lC qm Ho.drew Hp (
 af Hp (aB w4) 0 [x5,x6,x7,x8,x9,bk]/\af Hp w 0 [aq,ar,aA,bz,bR,bQ]/\ah 276 #[.agg #[aq,ar,aA,bz,bR,bQ],.agg #[x5,x6,x7,x8,x9,bk]] Hp (Ri λAP AQ=>K6 w w0 w1 w4 lC qm Hp AQ (
 Br (rF<=AP)
 (∃(akK LU Ec:Bool),af AQ.drew (aB bJ) 0 [.bool akK,LU,Ec]/\
 Sw AQ.drew w1 #[x5,x6,x7,x8,x9,bk] λQo=>
 af Qo (aB bJ) 0 [.bool akK,LU,Ec]/\Wt Qo ⟨w2,0,none⟩ 3/\Nb w2 w/\Nb w2 w0/\Nb w2 w1/\Nb w2 w4/\Nb w2 lC/\Nb w2 qm/\(∀Hq,Hq=aK Qo (aB w2) [.bool akK,LU,Ec]->
 ∃(anX anY anZ:Bool),af Hq (aB w2) 0 [.bool anX,anY,anZ]/\
 R (Value.tuple #[.agg #[x5,x6,x7,x8,x9,bk],.agg #[anX,anY,anZ]]) Hq))
 (∃(akL akM akN:Bool),af AQ.drew (aB kL) 0 [.bool akL,akM,akN]/\
 Sw AQ.drew w1 #[vf,AO,vg,tO,rD,rE] λHr=>
 af Hr (aB kL) 0 [.bool akL,akM,akN]/\Wt Hr ⟨w2,0,none⟩ 3/\Nb w2 w/\Nb w2 w0/\Nb w2 w1/\Nb w2 w4/\Nb w2 lC/\Nb w2 qm/\(∀akO,akO=aK Hr (aB w2) [.bool akL,akM,akN]->
 ∃(an1 ac4 an2:Bool),af akO (aB w2) 0 [.bool an1,ac4,an2]/\
 R (Value.tuple #[.agg #[vf,AO,vg,tO,rD,rE],.agg #[an1,ac4,an2]]) akO))))))))))))))))))))):ah 236 #[a0,.agg #[aq,ar,aA,bz,bR,bQ],.agg #[bE,bO,bC],a3] w R:=
 cq ⟨[],[(4,⟨[],[],[]⟩)],[]⟩ Tryz.func236 h
def Dg.vc{aw:Bool}{ao:Bool}{au:Bool}(h:
 Aw w #[aw,ao,au] 299 λw0=>
 Aw w0 #[aq,ar,aA] 28 λw1=>
 Aw w1 #[aa,aa,aa] 28 λw2=>
 ∃(b3 b4 b5:Bool),af w2 w 0 [.bool b3,b4,b5]/\
 ∃I6:Nat->Int->Int->Int->Int->World->Prop,
 (∃n7,aL [aa,aa,aa]/\I6 n7 (0) aq ar aA w2)/\
 ∀(n7:Nat)(us8:Nat->Value)(x9 bk bA bS:Int)(bG:World),I6 n7 x9 bk bA bS bG->
 Br (x9<3)
 (((0:Int)<=x9/\x9<((3:Nat):Int))/\∃(VB:Bool),([.bool b3,b4,b5]:LV)[(x9:Int).toNat*1]? =some (.bool VB)/\
 Br VB
 (ah 155 #[.agg #[bk,bA,bS],x9,(0:Int)] bG (jo λcZ cA cr cP=>K2 w0 w1 bG cP (
 Sw cP w0 #[cZ,cA,cr] λef=>
 ∃Cc,Cc<n7/\aL [aa,aa,aa]/\I6 Cc ((ak (x9+1))) cZ cA cr ef)))
 (∃Cc,Cc<n7/\aL [aa,aa,aa]/\I6 Cc ((ak (x9+1))) bk bA bS bG))
 (Sw bG w1 #[bk,bA,bS] λeU=>
 R (Value.agg #[bk,bA,bS]) eU)):ah 238 #[.agg #[aw,ao,au],.agg #[aq,ar,aA]] w R:=
 cq ⟨[(2,⟨[(8,.int .i64)],[(0,[.int .i64,.int .i64,.int .i64])],[]⟩)],[],[]⟩ Tryz.func238 h
def HX.vc{bI:Bool}(h:
 Aw w #[aw,ao,au,aP,aQ,aR,bM,bH,bI] 70 λw0=>
 Aw w0 #[aq,ar,aA] 28 λw1=>
 Aw w1 #[aa,aa,aa] 28 λw2=>
 ah 145 #[.agg #[aw,ao,au],.agg #[aq,ar,aA]] w2 (jo λx4 x5 x6 w3=>K3 w w0 w1 w2 w3 (
 Aw w3 #[aa,aa,aa] 28 λw7=>
 Sw w7 w3 #[x4,x5,x6] λw8=>
 ah 277 #[x4] w8.drew (Ri λbk w9=>K4 w w0 w1 w3 w8.drew w9 (
 af w9 w 0 [aw,ao,au]/\af w9 (dU w3 2) 0 [x6]/\af w9 (dU w3 1) 0 [x5]/\ah 277 #[x5] w9 (Ri λbS bc=>K4 w w0 w1 w3 w9 bc (
 af bc w 0 [aw,ao,au]/\af bc (dU w3 2) 0 [x6]/\ah 277 #[x6] bc (Ri λbW bG=>K4 w w0 w1 w3 bc bG (
 af bG w 0 [aw,ao,au]/\ah 154 #[.agg #[bk,bS,bW],.agg #[aw,ao,au]] bG (jo λcp cZ cA eu=>K4 w w0 w1 w3 bG eu (
 Sw eu w1 #[cp,cZ,cA] λgn=>
 R (Value.agg #[cp,cZ,cA]) gn))))))))))):ah 237 #[.agg #[aw,ao,au,aP,aQ,aR,bM,bH,bI],.agg #[aq,ar,aA]] w R:=
 cq bU Tryz.func237 h
def Dh.vc(h:
 R (Value.int .i64 (if 70368744177664<(if (-70368744177664)>a0 then (-70368744177664) else a0) then 70368744177664 else (if (-70368744177664)>a0 then (-70368744177664) else a0))) w):ah 277 #[a0] w R:=
 cq bU Tryz.func277 h
def RQ.vc(h:
 ah 214 #[a0] w (λe w0=>∃(x1:Int),e=x1/\
 Br (x1<0)
 (R (Value.tuple #[.int .u64 (di (ak (0-x1))),true]) w0)
 (R (Value.tuple #[.int .u64 (di x1),false]) w0))):ah 260 #[a0] w R:=
 cq bU Tryz.func260 h
def M4.vc{a1:Bool}{a2:Bool}(h:
 Aw w #[a1] 4 λw0=>
 Aw w0 #[a2] 4 λw1=>
 Br (a0>=140737488355328)
 (Wr w1 w 1/\(∀w2,w2=aK w1 w [.bool false]->
 ∃(b3:Bool),ld w2 (aB w0)=some (.bool b3)/\
 Br b3
 (ah 285 #[.int .u64 140737488355328,.pointer (aB w0),w] w2 (λe w4=>∃(x5:Int),e=Value.int .u64 x5/\
 R ((ak (0-(ak x5)))) w4))
 (R ((ak 140737488355328)) w2)))
 (∃(b6:Bool),ld w1 (aB w0)=some (.bool b6)/\
 Br b6
 (ah 285 #[.int .u64 a0,.pointer (aB w0),w] w1 (λe w7=>∃(x8:Int),e=Value.int .u64 x8/\
 R ((ak (0-(ak x8)))) w7))
 (R ((ak a0)) w1))):ah 261 #[.int .u64 a0,a1,a2] w R:=
 cq bU Tryz.func261 h
def HY.vc{c0:Addr}{c1:Addr}(h:
 ∃(b0:Bool),ld w (some c0)=some (.bool b0)/\
 Br b0
 (∃(b1:Bool),ld w (some c1)=some (.bool b1)/\
 Br b1
 (R (Value.int .u64 (di (a0+1))) w)
 (R (Value.int .u64 a0) w))
 (R (Value.int .u64 a0) w)):ah 285 #[.int .u64 a0,c0,c1] w R:=
 cq bU Tryz.func285 h
def Di.vc(h:
 R (Value.tuple #[.int .u64 (di ((di ((di (((a0:Int).fdiv (2 ^(min (32:Int).toNat 64)))*((a1:Int).fdiv (2 ^(min (32:Int).toNat 64)))))+(((di ((di (((a0:Int).fdiv (2 ^(min (32:Int).toNat 64)))*(oU .u64 a1 4294967295)))+(((di ((oU .u64 a0 4294967295)*(oU .u64 a1 4294967295))):Int).fdiv (2 ^(min (32:Int).toNat 64))))):Int).fdiv (2 ^(min (32:Int).toNat 64)))))+(((di ((oU .u64 (di ((di (((a0:Int).fdiv (2 ^(min (32:Int).toNat 64)))*(oU .u64 a1 4294967295)))+(((di ((oU .u64 a0 4294967295)*(oU .u64 a1 4294967295))):Int).fdiv (2 ^(min (32:Int).toNat 64))))) 4294967295)+(di ((oU .u64 a0 4294967295)*((a1:Int).fdiv (2 ^(min (32:Int).toNat 64))))))):Int).fdiv (2 ^(min (32:Int).toNat 64))))),.int .u64 (di (a0*a1))]) w):ah 273 #[.int .u64 a0,.int .u64 a1] w R:=
 cq bU Tryz.func273 h
def Wk.vc(h:
 ah 260 #[a0] w (λe w0=>∃(x1:Int)(b2:Bool),e=Value.tuple #[.int .u64 x1,b2]/\
 ah 260 #[a1] w0 (λe w3=>∃(x4:Int)(b5:Bool),e=Value.tuple #[.int .u64 x4,b5]/\
 ah 273 #[.int .u64 x1,.int .u64 x4] w3 (λe w6=>∃(x7 x8:Int),e=Value.tuple #[.int .u64 x7,.int .u64 x8]/\
 Br (x7>0)
 (ah 261 #[.int .u64 140737488355328,.bool (((Int.tmod x8 65536):Int) !=0),.bool (!(b2==b5))] w6 (λe w9=>∃(bk:Int),e=bk/\
 R bk w9))
 (ah 261 #[.int .u64 ((x8:Int).fdiv (2 ^(min (16:Int).toNat 64))),.bool (((Int.tmod x8 65536):Int) !=0),.bool (!(b2==b5))] w6 (λe bc=>∃(bS:Int),e=bS/\
 R bS bc)))))):ah 232 #[a0,a1] w R:=
 cq bU Tryz.func232 h
def zi.vc(h:
 ah 232 #[.int .i64 (if 65536<(if (-65536)>a0 then (-65536) else a0) then 65536 else (if (-65536)>a0 then (-65536) else a0)),(16384:Int)] w (λe w0=>∃(x1:Int),e=x1/\
 R x1 w0)):ah 231 #[a0] w R:=
 cq bU Tryz.func231 h
def Dj.vc{bI:Bool}{a1:Value}{bC:Bool}(h:
 Aw w #[aw,ao,au,aP,aQ,aR,bM,bH,bI] 70 λw0=>
 Aw w0 #[bE,bO,bC] 109 λw1=>
 Aw w1 #[aa,aa,aa,aa,aa,aa,aa,aa,false] 70 λw2=>
 ah 231 #[bE] w2.drew (Ri λx4 w3=>K3 w w0 w1 w2.drew w3 (
 af w3 (dU w0 1) 0 [bO]/\ah 231 #[bO] w3 (Ri λx6 w5=>K3 w w0 w1 w3 w5 (
 Sw w5 w #[aw,ao,au,x4,aQ,aR,bM,bH,bI] λw7=>
 Sw w7 w #[aw,ao,au,x4,aQ,x6,bM,bH,bI] λw8=>
 Sw w8 w1 #[aw,ao,au,x4,aQ,x6,bM,bH,bI] λw9=>
 R (Value.agg #[aw,ao,au,x4,aQ,x6,bM,bH,bI]) w9))))):ah 166 #[.agg #[aw,ao,au,aP,aQ,aR,bM,bH,bI],a1,.agg #[bE,bO,bC]] w R:=
 cq bU Tryz.func166 h
def zk.vc{c0:Addr}{c1:Addr}(h:
 ∃(p0:Option Addr),ld w.drew (some c0)=some (.pointer p0)/\
 ∃(p1:Option Addr),ld w.drew (some c0)=some (.pointer p1)/\
 aS (dK p1) (∃(x2:Int),ld w.drew p1=some (.int .i64 x2)/\
 aS (dK p0) (((p0).isSome=true/\Wr w.drew p0 1)/\(∀w3,w3=aK w.drew p0 [.int .i64 (if (ak (0-a2))>(ak (x2-a1)) then (ak (0-a2)) else (ak (x2-a1)))]->
 ∃(b4:Bool),ld w3 (ae (some c1) 2)=some (.bool b4)/\
 Br b4
 (∃(p5:Option Addr),ld w3 (some c0)=some (.pointer p5)/\
 aS (dK p5) (((p5).isSome=true/\Wr w3 p5 1)/\(∀w6,w6=aK w3 p5 [a0]->
 R ug w6)))
 (R ug w3))))):ah 233 #[a0,a1,a2,c0,c1] w R:=
 cq bU Tryz.func233 h
def Dl.vc{bI:Bool}{a1:Value}{bC:Bool}(h:
 Aw w #[aw,ao,au,aP,aQ,aR,bM,bH,bI] 70 λw0=>
 Aw w0 #[bE,bO,bC] 109 λw1=>
 Aw w1 #[aa,aa,aa,aa,aa,aa,aa,aa,false] 70 λw2=>
 ah 48 #[.agg #[aw,ao,au,aP,aQ,aR,bM,bH,bI]] w2 (wE λx4 x5 x6 x7 x8 x9 w3=>K3 w w0 w1 w2 w3 (
 Aw w3 #[aa,aa,aa,aa,aa,aa] 107 λbN=>
 Aw bN #[.pointer none] 296 λbc=>
 Sw bc w3 #[x4,x5,x6,x7,x8,x9] λcU=>
 Sw cU bN #[.pointer (dU w 4)] λbG=>
 ah 234 #[a1,.agg #[x4,x5,x6,x7,x8,x9]] bG (Rb λVB bJ=>K2 w1 w3 bG bJ (
 Br VB
 (ah 233 #[(8192:Int),(4096:Int),(8192:Int),.pointer (aB bN),.pointer (aB w0)] bJ (Rt λcP=>K2 w1 w3 bJ cP (
 ∃(cZ cA cr cW dh dJ dA eG:Int)(Mn:Bool),af cP w 0 [cZ,cA,cr,cW,dh,dJ,dA,eG,Mn]/\
 Sw cP w1 #[cZ,cA,cr,cW,dh,dJ,dA,eG,Mn] λfb=>
 R (Value.agg #[cZ,cA,cr,cW,dh,dJ,dA,eG,Mn]) fb)))
 (ah 235 #[a1,.agg #[x4,x5,x6,x7,x8,x9]] bJ (Rb λQ4 eB=>K2 w1 w3 bJ eB (
 Br Q4
 (ah 233 #[(6144:Int),(1024:Int),(8192:Int),.pointer (aB bN),.pointer (aB w0)] eB (Rt λdX=>K2 w1 w3 eB dX (
 ∃(iM iB il eF im jT lJ gx:Int)(b38:Bool),af dX w 0 [iM,iB,il,eF,im,jT,lJ,gx,b38]/\
 Sw dX w1 #[iM,iB,il,eF,im,jT,lJ,gx,b38] λkP=>
 R (Value.agg #[iM,iB,il,eF,im,jT,lJ,gx,b38]) kP)))
 (∃(b40:Bool),ld eB (dU w0 2)=some (.bool b40)/\
 Br b40
 (ah 49 #[a1,.agg #[x4,x5,x6,x7,x8,x9]] eB (Rb λb42 iR=>K2 w1 w3 eB iR (
 Wr iR (dU w0 2) 1/\Nq (dU w0 2) w1/\Nq (dU w0 2) w3/\(∀iH,iH=aK iR (dU w0 2) [.bool b42]->
 ah 233 #[(28672:Int),(4096:Int),(262144:Int),.pointer (aB bN),.pointer (aB w0)] iH (Rt λkI=>K2 w1 w3 iH kI (
 ∃(pH g8 qF yL HN vh nE mJ:Int)(b53:Bool),af kI w 0 [pH,g8,qF,yL,HN,vh,nE,mJ,b53]/\
 Sw kI w1 #[pH,g8,qF,yL,HN,vh,nE,mJ,b53] λHs=>
 R (Value.agg #[pH,g8,qF,yL,HN,vh,nE,mJ,b53]) Hs))))))
 (Wr eB (dU w0 2) 1/\Nq (dU w0 2) w1/\Nq (dU w0 2) w3/\(∀AK,AK=aK eB (dU w0 2) [.bool false]->
 ah 233 #[(28672:Int),(4096:Int),(262144:Int),.pointer (aB bN),.pointer (aB w0)] AK (Rt λqy=>K2 w1 w3 AK qy (
 ∃(ox yA qG my vU ov tY AR:Int)(b65:Bool),af qy w 0 [ox,yA,qG,my,vU,ov,tY,AR,b65]/\
 Sw qy w1 #[ox,yA,qG,my,vU,ov,tY,AR,b65] λrI=>
 R (Value.agg #[ox,yA,qG,my,vU,ov,tY,AR,b65]) rI))))))))))))):ah 167 #[.agg #[aw,ao,au,aP,aQ,aR,bM,bH,bI],a1,.agg #[bE,bO,bC]] w R:=
 cq bU Tryz.func167 h
def FA.vc{bI:Bool}{a1:Value}{bC:Bool}(h:
 Aw w #[aw,ao,au,aP,aQ,aR,bM,bH,bI] 70 λw0=>
 Aw w0 #[bE,bO,bC] 109 λw1=>
 Aw w1 #[aa,aa,aa,aa,aa,aa,aa,aa,false] 70 λw2=>
 ah 48 #[.agg #[aw,ao,au,aP,aQ,aR,bM,bH,bI]] w2 (wE λx4 x5 x6 x7 x8 x9 w3=>K3 w w0 w1 w2 w3 (
 Aw w3 #[aa,aa,aa,aa,aa,aa] 107 λbN=>
 Sw bN w3 #[x4,x5,x6,x7,x8,x9] λbc=>
 ∃Cf:Option Addr->Option Addr->World->Prop,
 ((ah 237 #[.agg #[aw,ao,au,aP,aQ,aR,bM,bH,bI],.agg #[aP,aQ,aR]] bc.drew (jo λbW cD cp bG=>K4 w w0 w1 w3 bc.drew bG (
 af bG (aB w3) 0 [x4,x5,x6,x7,x8,x9]/\(ah 236 #[a1,.agg #[x4,x5,x6,x7,x8,x9],.agg #[bW,cD,cp],(32768:Int)] bG (λe cJ=>∃(cA cr cW dh dJ dA:Int)(Zn Mn Hm:Bool),e=Value.tuple #[.agg #[cA,cr,cW,dh,dJ,dA],.agg #[Zn,Mn,Hm]]/\K4 w w0 w1 w3 bG cJ (
 (Aw cJ #[aa,aa,aa,aa,aa,aa] 107 λeB=>
 Aw eB #[false,false,false] 299 λgQ=>
 Sw gQ cJ #[cA,cr,cW,dh,dJ,dA] λdX=>
 Wt dX ⟨eB,0,none⟩ 3/\Nb eB w/\Nb eB w0/\Nb eB w1/\Nb eB w3/\Nb eB cJ/\(∀fw,fw=aK dX (aB eB) [.bool Zn,Mn,Hm]->
 aL [aw,ao,au,aP,aQ,aR,bM,bH,bI]/\aL [bE,bO,bC]/\aL [aa,aa,aa,aa,aa,aa,aa,aa,false]/\aL [x4,x5,x6,x7,x8,x9]/\Cf (aB cJ) (aB eB) fw))/\(Aw cJ #[false,false,false] 299 λgA=>
 Aw gA #[aa,aa,aa,aa,aa,aa] 107 λlA=>
 Sw lA gA #[cA,cr,cW,dh,dJ,dA] λeP=>
 Wt eP ⟨cJ,0,none⟩ 3/\Nb cJ w/\Nb cJ w0/\Nb cJ w1/\Nb cJ w3/\Nb cJ gA/\(∀iq,iq=aK eP (aB cJ) [.bool Zn,Mn,Hm]->
 aL [aw,ao,au,aP,aQ,aR,bM,bH,bI]/\aL [bE,bO,bC]/\aL [aa,aa,aa,aa,aa,aa,aa,aa,false]/\aL [x4,x5,x6,x7,x8,x9]/\Cf (aB gA) (aB cJ) iq)))))/\(Aw bG #[aa,aa,aa,aa,aa,aa] 107 λki=>
 (ah 236 #[a1,.agg #[x4,x5,x6,x7,x8,x9],.agg #[bW,cD,cp],(32768:Int)] ki (λe jN=>∃(gx gd kH lu kJ ow:Int)(Qn b44 Qm:Bool),e=Value.tuple #[.agg #[gx,gd,kH,lu,kJ,ow],.agg #[Qn,b44,Qm]]/\K5 w w0 w1 w3 bG ki jN (
 Aw jN #[false,false,false] 299 λoM=>
 Sw oM bG #[gx,gd,kH,lu,kJ,ow] λmw=>
 Wt mw ⟨jN,0,none⟩ 3/\Nb jN w/\Nb jN w0/\Nb jN w1/\Nb jN w3/\Nb jN bG/\(∀gf,gf=aK mw (aB jN) [.bool Qn,b44,Qm]->
 aL [aw,ao,au,aP,aQ,aR,bM,bH,bI]/\aL [bE,bO,bC]/\aL [aa,aa,aa,aa,aa,aa,aa,aa,false]/\aL [x4,x5,x6,x7,x8,x9]/\Cf (aB bG) (aB jN) gf))))/\(Aw ki #[false,false,false] 299 λmI=>
 ah 236 #[a1,.agg #[x4,x5,x6,x7,x8,x9],.agg #[bW,cD,cp],(32768:Int)] mI (λe lR=>∃(nE mJ iT qx mz tk:Int)(Zl Q3 b59:Bool),e=Value.tuple #[.agg #[nE,mJ,iT,qx,mz,tk],.agg #[Zl,Q3,b59]]/\K5 w w0 w1 w3 bG mI lR (
 Sw lR bG #[nE,mJ,iT,qx,mz,tk] λnN=>
 Wt nN ⟨ki,0,none⟩ 3/\Nb ki w/\Nb ki w0/\Nb ki w1/\Nb ki w3/\Nb ki bG/\(∀pG,pG=aK nN (aB ki) [.bool Zl,Q3,b59]->
 aL [aw,ao,au,aP,aQ,aR,bM,bH,bI]/\aL [bE,bO,bC]/\aL [aa,aa,aa,aa,aa,aa,aa,aa,false]/\aL [x4,x5,x6,x7,x8,x9]/\Cf (aB bG) (aB ki) pG)))))/\(Aw bG #[false,false,false] 299 λjk=>
 (ah 236 #[a1,.agg #[x4,x5,x6,x7,x8,x9],.agg #[bW,cD,cp],(32768:Int)] jk (λe Iw=>∃(AR rJ nR pB oN qH:Int)(b70 b71 b72:Bool),e=Value.tuple #[.agg #[AR,rJ,nR,pB,oN,qH],.agg #[b70,b71,b72]]/\K4 w w0 w1 w3 jk Iw (
 Aw Iw #[aa,aa,aa,aa,aa,aa] 107 λQp=>
 Sw Qp Iw #[AR,rJ,nR,pB,oN,qH] λnt=>
 Wt nt ⟨bG,0,none⟩ 3/\Nb bG w/\Nb bG w0/\Nb bG w1/\Nb bG w3/\Nb bG Iw/\(∀sN,sN=aK nt (aB bG) [.bool b70,b71,b72]->
 aL [aw,ao,au,aP,aQ,aR,bM,bH,bI]/\aL [bE,bO,bC]/\aL [aa,aa,aa,aa,aa,aa,aa,aa,false]/\aL [x4,x5,x6,x7,x8,x9]/\Cf (aB Iw) (aB bG) sN))))/\(Aw jk #[aa,aa,aa,aa,aa,aa] 107 λkL=>
 ah 236 #[a1,.agg #[x4,x5,x6,x7,x8,x9],.agg #[bW,cD,cp],(32768:Int)] kL (λe vd=>∃(Ea AL yC vF tN v5:Int)(b84 b85 b86:Bool),e=Value.tuple #[.agg #[Ea,AL,yC,vF,tN,v5],.agg #[b84,b85,b86]]/\K5 w w0 w1 w3 jk kL vd (
 Sw vd jk #[Ea,AL,yC,vF,tN,v5] λCa=>
 Wt Ca ⟨bG,0,none⟩ 3/\Nb bG w/\Nb bG w0/\Nb bG w1/\Nb bG w3/\Nb bG jk/\(∀Mo,Mo=aK Ca (aB bG) [.bool b84,b85,b86]->
 aL [aw,ao,au,aP,aQ,aR,bM,bH,bI]/\aL [bE,bO,bC]/\aL [aa,aa,aa,aa,aa,aa,aa,aa,false]/\aL [x4,x5,x6,x7,x8,x9]/\Cf (aB jk) (aB bG) Mo))))))))/\(Aw bc.drew #[aa,aa,aa,aa,aa,aa] 107 λpC=>
 (ah 237 #[.agg #[aw,ao,au,aP,aQ,aR,bM,bH,bI],.agg #[aP,aQ,aR]] pC (jo λHu Eb yD pD=>K4 w w0 w1 w3 pC pD (
 pD.heap[bc.drew.heap.size]? =pC.heap[bc.drew.heap.size]?/\
 af pD (aB w3) 0 [x4,x5,x6,x7,x8,x9]/\(ah 236 #[a1,.agg #[x4,x5,x6,x7,x8,x9],.agg #[Hu,Eb,yD],(32768:Int)] pD (λe HO=>∃(EG EH EI Mp Kl sQ:Int)(ac5 ac6 Qq:Bool),e=Value.tuple #[.agg #[EG,EH,EI,Mp,Kl,sQ],.agg #[ac5,ac6,Qq]]/\K4 w w0 w1 w3 pD HO (
 HO.heap[bc.drew.heap.size]? =pD.heap[bc.drew.heap.size]?/\
 Aw HO #[false,false,false] 299 λakQ=>
 Sw akQ bc.drew.heap.size #[EG,EH,EI,Mp,Kl,sQ] λIA=>
 Wt IA ⟨HO,0,none⟩ 3/\Nb HO w/\Nb HO w0/\Nb HO w1/\Nb HO w3/\bt (aB HO)≠some bc.drew.heap.size/\(∀ac7,ac7=aK IA (aB HO) [.bool ac5,ac6,Qq]->
 aL [aw,ao,au,aP,aQ,aR,bM,bH,bI]/\aL [bE,bO,bC]/\aL [aa,aa,aa,aa,aa,aa,aa,aa,false]/\aL [x4,x5,x6,x7,x8,x9]/\Cf (aB bc.drew.heap.size) (aB HO) ac7))))/\(Aw pD #[false,false,false] 299 λHv=>
 ah 236 #[a1,.agg #[x4,x5,x6,x7,x8,x9],.agg #[Hu,Eb,yD],(32768:Int)] Hv (λe LW=>∃(tP lv rF jO AP Ed:Int)(LU Ec ac8:Bool),e=Value.tuple #[.agg #[tP,lv,rF,jO,AP,Ed],.agg #[LU,Ec,ac8]]/\K4 w w0 w1 w3 Hv LW (
 LW.heap[bc.drew.heap.size]? =Hv.heap[bc.drew.heap.size]?/\
 Sw LW bc.drew.heap.size #[tP,lv,rF,jO,AP,Ed] λHq=>
 Wt Hq ⟨pD,0,none⟩ 3/\Nb pD w/\Nb pD w0/\Nb pD w1/\Nb pD w3/\bt (aB pD)≠some bc.drew.heap.size/\(∀tQ,tQ=aK Hq (aB pD) [.bool LU,Ec,ac8]->
 aL [aw,ao,au,aP,aQ,aR,bM,bH,bI]/\aL [bE,bO,bC]/\aL [aa,aa,aa,aa,aa,aa,aa,aa,false]/\aL [x4,x5,x6,x7,x8,x9]/\Cf (aB bc.drew.heap.size) (aB pD) tQ)))))))/\(Aw pC #[false,false,false] 299 λHw=>
 ah 237 #[.agg #[aw,ao,au,aP,aQ,aR,bM,bH,bI],.agg #[aP,aQ,aR]] Hw (jo λZo IB Qs Ch=>K4 w w0 w1 w3 Hw Ch (
 Ch.heap[bc.drew.heap.size]? =Hw.heap[bc.drew.heap.size]?/\
 af Ch (aB w3) 0 [x4,x5,x6,x7,x8,x9]/\ah 236 #[a1,.agg #[x4,x5,x6,x7,x8,x9],.agg #[Zo,IB,Qs],(32768:Int)] Ch (λe Hr=>∃(IC ID TY Qt Qu Qv:Int)(ac9 ada adb:Bool),e=Value.tuple #[.agg #[IC,ID,TY,Qt,Qu,Qv],.agg #[ac9,ada,adb]]/\K4 w w0 w1 w3 Ch Hr (
 Hr.heap[bc.drew.heap.size]? =Ch.heap[bc.drew.heap.size]?/\
 Sw Hr bc.drew.heap.size #[IC,ID,TY,Qt,Qu,Qv] λade=>
 Wt ade ⟨pC,0,none⟩ 3/\Nb pC w/\Nb pC w0/\Nb pC w1/\Nb pC w3/\bt (aB pC)≠some bc.drew.heap.size/\(∀adf,adf=aK ade (aB pC) [.bool ac9,ada,adb]->
 aL [aw,ao,au,aP,aQ,aR,bM,bH,bI]/\aL [bE,bO,bC]/\aL [aa,aa,aa,aa,aa,aa,aa,aa,false]/\aL [x4,x5,x6,x7,x8,x9]/\Cf (aB bc.drew.heap.size) (aB pC) adf)))))))/\(Aw bc.drew #[false,false,false] 299 λvi=>
 (ah 237 #[.agg #[aw,ao,au,aP,aQ,aR,bM,bH,bI],.agg #[aP,aQ,aR]] vi (jo λIE Qw adg sR=>K4 w w0 w1 w3 vi sR (
 af sR (aB w3) 0 [x4,x5,x6,x7,x8,x9]/\(ah 236 #[a1,.agg #[x4,x5,x6,x7,x8,x9],.agg #[IE,Qw,adg],(32768:Int)] sR (λe qA=>∃(adh TZ T0 T3 T4 T6:Int)(adi adj adk:Bool),e=Value.tuple #[.agg #[adh,TZ,T0,T3,T4,T6],.agg #[adi,adj,adk]]/\K4 w w0 w1 w3 sR qA (
 Aw qA #[aa,aa,aa,aa,aa,aa] 107 λakR=>
 Sw akR qA #[adh,TZ,T0,T3,T4,T6] λadl=>
 Wt adl ⟨bc.drew.heap.size,0,none⟩ 3/\Nq (aB bc.drew.heap.size) w/\Nq (aB bc.drew.heap.size) w0/\Nq (aB bc.drew.heap.size) w1/\Nq (aB bc.drew.heap.size) w3/\Nq (aB bc.drew.heap.size) qA/\(∀adm,adm=aK adl (aB bc.drew.heap.size) [.bool adi,adj,adk]->
 aL [aw,ao,au,aP,aQ,aR,bM,bH,bI]/\aL [bE,bO,bC]/\aL [aa,aa,aa,aa,aa,aa,aa,aa,false]/\aL [x4,x5,x6,x7,x8,x9]/\Cf (aB qA) (aB bc.drew.heap.size) adm))))/\(Aw sR #[aa,aa,aa,aa,aa,aa] 107 λadn=>
 ah 236 #[a1,.agg #[x4,x5,x6,x7,x8,x9],.agg #[IE,Qw,adg],(32768:Int)] adn (λe ado=>∃(adp adq adr ads adt adu:Int)(adv adw adx:Bool),e=Value.tuple #[.agg #[adp,adq,adr,ads,adt,adu],.agg #[adv,adw,adx]]/\K5 w w0 w1 w3 sR adn ado (
 Sw ado sR #[adp,adq,adr,ads,adt,adu] λady=>
 Wt ady ⟨bc.drew.heap.size,0,none⟩ 3/\Nq (aB bc.drew.heap.size) w/\Nq (aB bc.drew.heap.size) w0/\Nq (aB bc.drew.heap.size) w1/\Nq (aB bc.drew.heap.size) w3/\Nq (aB bc.drew.heap.size) sR/\(∀adz,adz=aK ady (aB bc.drew.heap.size) [.bool adv,adw,adx]->
 aL [aw,ao,au,aP,aQ,aR,bM,bH,bI]/\aL [bE,bO,bC]/\aL [aa,aa,aa,aa,aa,aa,aa,aa,false]/\aL [x4,x5,x6,x7,x8,x9]/\Cf (aB sR) (aB bc.drew.heap.size) adz)))))))/\(Aw vi #[aa,aa,aa,aa,aa,aa] 107 λadA=>
 ah 237 #[.agg #[aw,ao,au,aP,aQ,aR,bM,bH,bI],.agg #[aP,aQ,aR]] adA (jo λZp Zq Zr LX=>K5 w w0 w1 w3 vi adA LX (
 af LX (aB w3) 0 [x4,x5,x6,x7,x8,x9]/\ah 236 #[a1,.agg #[x4,x5,x6,x7,x8,x9],.agg #[Zp,Zq,Zr],(32768:Int)] LX (λe adB=>∃(Qx yG adC adD adE adF:Int)(adG adH adI:Bool),e=Value.tuple #[.agg #[Qx,yG,adC,adD,adE,adF],.agg #[adG,adH,adI]]/\K5 w w0 w1 w3 vi LX adB (
 Sw adB vi #[Qx,yG,adC,adD,adE,adF] λadJ=>
 Wt adJ ⟨bc.drew.heap.size,0,none⟩ 3/\Nq (aB bc.drew.heap.size) w/\Nq (aB bc.drew.heap.size) w0/\Nq (aB bc.drew.heap.size) w1/\Nq (aB bc.drew.heap.size) w3/\Nq (aB bc.drew.heap.size) vi/\(∀adK,adK=aK adJ (aB bc.drew.heap.size) [.bool adG,adH,adI]->
 aL [aw,ao,au,aP,aQ,aR,bM,bH,bI]/\aL [bE,bO,bC]/\aL [aa,aa,aa,aa,aa,aa,aa,aa,false]/\aL [x4,x5,x6,x7,x8,x9]/\Cf (aB vi) (aB bc.drew.heap.size) adK))))))))/\
 ∀an6:Nat->Value,∀(IF akS:Option Addr)(Qy:World),Cf IF akS Qy->
 aS (dK IF) (∃(Qz adL Ci:Int),af Qy.drew (ae IF 0) 0 [Qz,adL,Ci]/\
 ah 154 #[.agg #[Qz,adL,Ci],.agg #[x4,x5,x6]] Qy.drew (jo λakT Ee IG IH=>K4 w w0 w1 w3 Qy.drew IH (
 af IH w 0 [aw,ao,au]/\ah 145 #[.agg #[aw,ao,au],.agg #[akT,Ee,IG]] IH (jo λHx LY LZ QA=>K4 w w0 w1 w3 IH QA (
 Sw QA w #[Hx,LY,LZ,aP,aQ,aR,bM,bH,bI] λyH=>
 ∃(an7 an8 an9:Bool),af yH akS 0 [.bool an7,an8,an9]/\
 ah 238 #[.agg #[an7,an8,an9],.agg #[aP,aQ,aR]] yH (jo λHy T7 T8 akU=>K4 w w0 w1 w3 yH akU (
 Sw akU w #[Hx,LY,LZ,Hy,T7,T8,bM,bH,bI] λZs=>
 ∃(aoa aob aoc aod aoe aof:Int),af Zs IF 0 [aoa,aob,aoc,aod,aoe,aof]/\
 ah 49 #[a1,.agg #[aoa,aob,aoc,aod,aoe,aof]] Zs (Rb λakV akW=>K4 w w0 w1 w3 Zs akW (
 Sw akW w #[Hx,LY,LZ,Hy,T7,T8,bM,bH,akV] λaog=>
 Sw aog w1 #[Hx,LY,LZ,Hy,T7,T8,bM,bH,akV] λaoh=>
 R (Value.agg #[Hx,LY,LZ,Hy,T7,T8,bM,bH,akV]) aoh)))))))))))):ah 168 #[.agg #[aw,ao,au,aP,aQ,aR,bM,bH,bI],a1,.agg #[bE,bO,bC]] w R:=
 cq ⟨[],[(3,⟨[(8,.ptr),(9,.ptr)],[],[]⟩)],[]⟩ Tryz.func168 h
def FB.vc{bI:Bool}{a1:Value}{bC:Bool}(h:
 Aw w #[aw,ao,au,aP,aQ,aR,bM,bH,bI] 70 λw0=>
 Aw w0 #[bE,bO,bC] 109 λw1=>
 Aw w1 #[aa,aa,aa,aa,aa,aa,aa,aa,false] 70 λw2=>
 ∃I3:Nat->Int->Int->Int->Int->Int->Int->Int->Int->Int->Bool->World->Prop,
 (∃n4,aL [bE,bO,bC]/\aL [aa,aa,aa,aa,aa,aa,aa,aa,false]/\I3 n4 (0) aw ao au aP aQ aR bM bH bI w2)/\
 ∀(n4:Nat)(us5:Nat->Value)(x6 x7 x8 x9 bk bA bS cn bW:Int)(VB:Bool)(cP:World),I3 n4 x6 x7 x8 x9 bk bA bS cn bW VB cP->
 Br (x6<3)
 (((0:Int)<=x6/\x6<((3:Nat):Int))/\∃(v18:Value),([.func (.func 166) #[] #[],.func (.func 167) #[] #[],.func (.func 168) #[] #[]]:LV)[(x6:Int).toNat*1]? =some (v18)/\
 cL Tryz.prog v18 [.agg #[x7,x8,x9,bk,bA,bS,cn,bW,VB],a1,.agg #[bE,bO,bC]] cP (λe gn=>∃(cW dh dJ dA eG dT fE fD:Int)(Q4:Bool),e=Value.agg #[cW,dh,dJ,dA,eG,dT,fE,fD,Q4]/\K3 w w0 w1 cP gn (
 Sw gn w #[cW,dh,dJ,dA,eG,dT,fE,fD,Q4] λdX=>
 ∃II,II<n4/\aL [bE,bO,bC]/\aL [aa,aa,aa,aa,aa,aa,aa,aa,false]/\I3 II ((ak (x6+1))) cW dh dJ dA eG dT fE fD Q4 dX)))
 (Sw cP w1 #[x7,x8,x9,bk,bA,bS,cn,bW,VB] λfw=>
 R (Value.agg #[x7,x8,x9,bk,bA,bS,cn,bW,VB]) fw)):ah 116 #[.agg #[aw,ao,au,aP,aQ,aR,bM,bH,bI],a1,.agg #[bE,bO,bC]] w R:=
 cq ⟨[(2,⟨[(10,.int .i64)],[(0,[.int .i64,.int .i64,.int .i64,.int .i64,.int .i64,.int .i64,.int .i64,.int .i64,.bool])],[]⟩)],[],[]⟩ Tryz.func116 h
def Dn.vc{bI:Bool}{a1:Value}(h:
 Aw w #[aw,ao,au,aP,aQ,aR,bM,bH,bI] 70 λw0=>
 Aw w0 #[bE,bO,bC] 28 λw1=>
 Aw w1 #[aa,aa,aa,aa,aa,aa,aa,aa,false] 70 λw2=>
 ah 48 #[.agg #[aw,ao,au,aP,aQ,aR,bM,bH,bI]] w2 (wE λx4 x5 x6 x7 x8 x9 w3=>K3 w w0 w1 w2 w3 (
 Aw w3 #[aa,aa,aa,aa,aa,aa] 107 λbN=>
 Sw bN w3 #[x4,x5,x6,x7,x8,x9] λbc=>
 ∃Cf:Option Addr->World->Prop,
 ((ah 237 #[.agg #[aw,ao,au,aP,aQ,aR,bM,bH,bI],.agg #[bE,bO,bC]] bc.drew (jo λbW cD cp bG=>K4 w w0 w1 w3 bc.drew bG (
 af bG (aB w3) 0 [x4,x5,x6,x7,x8,x9]/\(ah 240 #[a1,.agg #[x4,x5,x6,x7,x8,x9],.agg #[bW,cD,cp]] bG (λe cJ=>∃(cA cr cW dh dJ dA:Int)(Zn Mn Hm:Bool),e=Value.tuple #[.agg #[cA,cr,cW,dh,dJ,dA],.agg #[Zn,Mn,Hm]]/\K4 w w0 w1 w3 bG cJ (
 (Aw cJ #[aa,aa,aa,aa,aa,aa] 107 λeB=>
 Aw eB #[false,false,false] 299 λgQ=>
 Sw gQ cJ #[cA,cr,cW,dh,dJ,dA] λdX=>
 Wt dX ⟨eB,0,none⟩ 3/\Nb eB w/\Nb eB w0/\Nb eB w1/\Nb eB w3/\Nb eB cJ/\(∀fw,fw=aK dX (aB eB) [.bool Zn,Mn,Hm]->
 aL [aw,ao,au,aP,aQ,aR,bM,bH,bI]/\aL [bE,bO,bC]/\aL [aa,aa,aa,aa,aa,aa,aa,aa,false]/\aL [x4,x5,x6,x7,x8,x9]/\Cf (aB cJ) fw))/\(Aw cJ #[false,false,false] 299 λgA=>
 Aw gA #[aa,aa,aa,aa,aa,aa] 107 λlA=>
 Sw lA gA #[cA,cr,cW,dh,dJ,dA] λeP=>
 Wt eP ⟨cJ,0,none⟩ 3/\Nb cJ w/\Nb cJ w0/\Nb cJ w1/\Nb cJ w3/\Nb cJ gA/\(∀iq,iq=aK eP (aB cJ) [.bool Zn,Mn,Hm]->
 aL [aw,ao,au,aP,aQ,aR,bM,bH,bI]/\aL [bE,bO,bC]/\aL [aa,aa,aa,aa,aa,aa,aa,aa,false]/\aL [x4,x5,x6,x7,x8,x9]/\Cf (aB gA) iq)))))/\(Aw bG #[aa,aa,aa,aa,aa,aa] 107 λki=>
 (ah 240 #[a1,.agg #[x4,x5,x6,x7,x8,x9],.agg #[bW,cD,cp]] ki (λe jN=>∃(gx gd kH lu kJ ow:Int)(Qn b44 Qm:Bool),e=Value.tuple #[.agg #[gx,gd,kH,lu,kJ,ow],.agg #[Qn,b44,Qm]]/\K5 w w0 w1 w3 bG ki jN (
 Aw jN #[false,false,false] 299 λoM=>
 Sw oM bG #[gx,gd,kH,lu,kJ,ow] λmw=>
 Wt mw ⟨jN,0,none⟩ 3/\Nb jN w/\Nb jN w0/\Nb jN w1/\Nb jN w3/\Nb jN bG/\(∀gf,gf=aK mw (aB jN) [.bool Qn,b44,Qm]->
 aL [aw,ao,au,aP,aQ,aR,bM,bH,bI]/\aL [bE,bO,bC]/\aL [aa,aa,aa,aa,aa,aa,aa,aa,false]/\aL [x4,x5,x6,x7,x8,x9]/\Cf (aB bG) gf))))/\(Aw ki #[false,false,false] 299 λmI=>
 ah 240 #[a1,.agg #[x4,x5,x6,x7,x8,x9],.agg #[bW,cD,cp]] mI (λe lR=>∃(nE mJ iT qx mz tk:Int)(Zl Q3 b59:Bool),e=Value.tuple #[.agg #[nE,mJ,iT,qx,mz,tk],.agg #[Zl,Q3,b59]]/\K5 w w0 w1 w3 bG mI lR (
 Sw lR bG #[nE,mJ,iT,qx,mz,tk] λnN=>
 Wt nN ⟨ki,0,none⟩ 3/\Nb ki w/\Nb ki w0/\Nb ki w1/\Nb ki w3/\Nb ki bG/\(∀pG,pG=aK nN (aB ki) [.bool Zl,Q3,b59]->
 aL [aw,ao,au,aP,aQ,aR,bM,bH,bI]/\aL [bE,bO,bC]/\aL [aa,aa,aa,aa,aa,aa,aa,aa,false]/\aL [x4,x5,x6,x7,x8,x9]/\Cf (aB bG) pG)))))/\(Aw bG #[false,false,false] 299 λjk=>
 (ah 240 #[a1,.agg #[x4,x5,x6,x7,x8,x9],.agg #[bW,cD,cp]] jk (λe Iw=>∃(AR rJ nR pB oN qH:Int)(b70 b71 b72:Bool),e=Value.tuple #[.agg #[AR,rJ,nR,pB,oN,qH],.agg #[b70,b71,b72]]/\K4 w w0 w1 w3 jk Iw (
 Aw Iw #[aa,aa,aa,aa,aa,aa] 107 λQp=>
 Sw Qp Iw #[AR,rJ,nR,pB,oN,qH] λnt=>
 Wt nt ⟨bG,0,none⟩ 3/\Nb bG w/\Nb bG w0/\Nb bG w1/\Nb bG w3/\Nb bG Iw/\(∀sN,sN=aK nt (aB bG) [.bool b70,b71,b72]->
 aL [aw,ao,au,aP,aQ,aR,bM,bH,bI]/\aL [bE,bO,bC]/\aL [aa,aa,aa,aa,aa,aa,aa,aa,false]/\aL [x4,x5,x6,x7,x8,x9]/\Cf (aB Iw) sN))))/\(Aw jk #[aa,aa,aa,aa,aa,aa] 107 λkL=>
 ah 240 #[a1,.agg #[x4,x5,x6,x7,x8,x9],.agg #[bW,cD,cp]] kL (λe vd=>∃(Ea AL yC vF tN v5:Int)(b84 b85 b86:Bool),e=Value.tuple #[.agg #[Ea,AL,yC,vF,tN,v5],.agg #[b84,b85,b86]]/\K5 w w0 w1 w3 jk kL vd (
 Sw vd jk #[Ea,AL,yC,vF,tN,v5] λCa=>
 Wt Ca ⟨bG,0,none⟩ 3/\Nb bG w/\Nb bG w0/\Nb bG w1/\Nb bG w3/\Nb bG jk/\(∀Mo,Mo=aK Ca (aB bG) [.bool b84,b85,b86]->
 aL [aw,ao,au,aP,aQ,aR,bM,bH,bI]/\aL [bE,bO,bC]/\aL [aa,aa,aa,aa,aa,aa,aa,aa,false]/\aL [x4,x5,x6,x7,x8,x9]/\Cf (aB jk) Mo))))))))/\(Aw bc.drew #[aa,aa,aa,aa,aa,aa] 107 λpC=>
 (ah 237 #[.agg #[aw,ao,au,aP,aQ,aR,bM,bH,bI],.agg #[bE,bO,bC]] pC (jo λHu Eb yD pD=>K4 w w0 w1 w3 pC pD (
 pD.heap[bc.drew.heap.size]? =pC.heap[bc.drew.heap.size]?/\
 af pD (aB w3) 0 [x4,x5,x6,x7,x8,x9]/\(ah 240 #[a1,.agg #[x4,x5,x6,x7,x8,x9],.agg #[Hu,Eb,yD]] pD (λe HO=>∃(EG EH EI Mp Kl sQ:Int)(ac5 ac6 Qq:Bool),e=Value.tuple #[.agg #[EG,EH,EI,Mp,Kl,sQ],.agg #[ac5,ac6,Qq]]/\K4 w w0 w1 w3 pD HO (
 HO.heap[bc.drew.heap.size]? =pD.heap[bc.drew.heap.size]?/\
 Aw HO #[false,false,false] 299 λakQ=>
 Sw akQ bc.drew.heap.size #[EG,EH,EI,Mp,Kl,sQ] λIA=>
 Wt IA ⟨HO,0,none⟩ 3/\Nb HO w/\Nb HO w0/\Nb HO w1/\Nb HO w3/\bt (aB HO)≠some bc.drew.heap.size/\(∀ac7,ac7=aK IA (aB HO) [.bool ac5,ac6,Qq]->
 aL [aw,ao,au,aP,aQ,aR,bM,bH,bI]/\aL [bE,bO,bC]/\aL [aa,aa,aa,aa,aa,aa,aa,aa,false]/\aL [x4,x5,x6,x7,x8,x9]/\Cf (aB bc.drew.heap.size) ac7))))/\(Aw pD #[false,false,false] 299 λHv=>
 ah 240 #[a1,.agg #[x4,x5,x6,x7,x8,x9],.agg #[Hu,Eb,yD]] Hv (λe LW=>∃(tP lv rF jO AP Ed:Int)(LU Ec ac8:Bool),e=Value.tuple #[.agg #[tP,lv,rF,jO,AP,Ed],.agg #[LU,Ec,ac8]]/\K4 w w0 w1 w3 Hv LW (
 LW.heap[bc.drew.heap.size]? =Hv.heap[bc.drew.heap.size]?/\
 Sw LW bc.drew.heap.size #[tP,lv,rF,jO,AP,Ed] λHq=>
 Wt Hq ⟨pD,0,none⟩ 3/\Nb pD w/\Nb pD w0/\Nb pD w1/\Nb pD w3/\bt (aB pD)≠some bc.drew.heap.size/\(∀tQ,tQ=aK Hq (aB pD) [.bool LU,Ec,ac8]->
 aL [aw,ao,au,aP,aQ,aR,bM,bH,bI]/\aL [bE,bO,bC]/\aL [aa,aa,aa,aa,aa,aa,aa,aa,false]/\aL [x4,x5,x6,x7,x8,x9]/\Cf (aB bc.drew.heap.size) tQ)))))))/\(Aw pC #[false,false,false] 299 λHw=>
 ah 237 #[.agg #[aw,ao,au,aP,aQ,aR,bM,bH,bI],.agg #[bE,bO,bC]] Hw (jo λZo IB Qs Ch=>K4 w w0 w1 w3 Hw Ch (
 Ch.heap[bc.drew.heap.size]? =Hw.heap[bc.drew.heap.size]?/\
 af Ch (aB w3) 0 [x4,x5,x6,x7,x8,x9]/\ah 240 #[a1,.agg #[x4,x5,x6,x7,x8,x9],.agg #[Zo,IB,Qs]] Ch (λe Hr=>∃(IC ID TY Qt Qu Qv:Int)(ac9 ada adb:Bool),e=Value.tuple #[.agg #[IC,ID,TY,Qt,Qu,Qv],.agg #[ac9,ada,adb]]/\K4 w w0 w1 w3 Ch Hr (
 Hr.heap[bc.drew.heap.size]? =Ch.heap[bc.drew.heap.size]?/\
 Sw Hr bc.drew.heap.size #[IC,ID,TY,Qt,Qu,Qv] λade=>
 Wt ade ⟨pC,0,none⟩ 3/\Nb pC w/\Nb pC w0/\Nb pC w1/\Nb pC w3/\bt (aB pC)≠some bc.drew.heap.size/\(∀adf,adf=aK ade (aB pC) [.bool ac9,ada,adb]->
 aL [aw,ao,au,aP,aQ,aR,bM,bH,bI]/\aL [bE,bO,bC]/\aL [aa,aa,aa,aa,aa,aa,aa,aa,false]/\aL [x4,x5,x6,x7,x8,x9]/\Cf (aB bc.drew.heap.size) adf)))))))/\(Aw bc.drew #[false,false,false] 299 λvi=>
 (ah 237 #[.agg #[aw,ao,au,aP,aQ,aR,bM,bH,bI],.agg #[bE,bO,bC]] vi (jo λIE Qw adg sR=>K4 w w0 w1 w3 vi sR (
 af sR (aB w3) 0 [x4,x5,x6,x7,x8,x9]/\(ah 240 #[a1,.agg #[x4,x5,x6,x7,x8,x9],.agg #[IE,Qw,adg]] sR (λe qA=>∃(adh TZ T0 T3 T4 T6:Int)(adi adj adk:Bool),e=Value.tuple #[.agg #[adh,TZ,T0,T3,T4,T6],.agg #[adi,adj,adk]]/\K4 w w0 w1 w3 sR qA (
 Aw qA #[aa,aa,aa,aa,aa,aa] 107 λakR=>
 Sw akR qA #[adh,TZ,T0,T3,T4,T6] λadl=>
 Wt adl ⟨bc.drew.heap.size,0,none⟩ 3/\Nq (aB bc.drew.heap.size) w/\Nq (aB bc.drew.heap.size) w0/\Nq (aB bc.drew.heap.size) w1/\Nq (aB bc.drew.heap.size) w3/\Nq (aB bc.drew.heap.size) qA/\(∀adm,adm=aK adl (aB bc.drew.heap.size) [.bool adi,adj,adk]->
 aL [aw,ao,au,aP,aQ,aR,bM,bH,bI]/\aL [bE,bO,bC]/\aL [aa,aa,aa,aa,aa,aa,aa,aa,false]/\aL [x4,x5,x6,x7,x8,x9]/\Cf (aB qA) adm))))/\(Aw sR #[aa,aa,aa,aa,aa,aa] 107 λadn=>
 ah 240 #[a1,.agg #[x4,x5,x6,x7,x8,x9],.agg #[IE,Qw,adg]] adn (λe ado=>∃(adp adq adr ads adt adu:Int)(adv adw adx:Bool),e=Value.tuple #[.agg #[adp,adq,adr,ads,adt,adu],.agg #[adv,adw,adx]]/\K5 w w0 w1 w3 sR adn ado (
 Sw ado sR #[adp,adq,adr,ads,adt,adu] λady=>
 Wt ady ⟨bc.drew.heap.size,0,none⟩ 3/\Nq (aB bc.drew.heap.size) w/\Nq (aB bc.drew.heap.size) w0/\Nq (aB bc.drew.heap.size) w1/\Nq (aB bc.drew.heap.size) w3/\Nq (aB bc.drew.heap.size) sR/\(∀adz,adz=aK ady (aB bc.drew.heap.size) [.bool adv,adw,adx]->
 aL [aw,ao,au,aP,aQ,aR,bM,bH,bI]/\aL [bE,bO,bC]/\aL [aa,aa,aa,aa,aa,aa,aa,aa,false]/\aL [x4,x5,x6,x7,x8,x9]/\Cf (aB sR) adz)))))))/\(Aw vi #[aa,aa,aa,aa,aa,aa] 107 λadA=>
 ah 237 #[.agg #[aw,ao,au,aP,aQ,aR,bM,bH,bI],.agg #[bE,bO,bC]] adA (jo λZp Zq Zr LX=>K5 w w0 w1 w3 vi adA LX (
 af LX (aB w3) 0 [x4,x5,x6,x7,x8,x9]/\ah 240 #[a1,.agg #[x4,x5,x6,x7,x8,x9],.agg #[Zp,Zq,Zr]] LX (λe adB=>∃(Qx yG adC adD adE adF:Int)(adG adH adI:Bool),e=Value.tuple #[.agg #[Qx,yG,adC,adD,adE,adF],.agg #[adG,adH,adI]]/\K5 w w0 w1 w3 vi LX adB (
 Sw adB vi #[Qx,yG,adC,adD,adE,adF] λadJ=>
 Wt adJ ⟨bc.drew.heap.size,0,none⟩ 3/\Nq (aB bc.drew.heap.size) w/\Nq (aB bc.drew.heap.size) w0/\Nq (aB bc.drew.heap.size) w1/\Nq (aB bc.drew.heap.size) w3/\Nq (aB bc.drew.heap.size) vi/\(∀adK,adK=aK adJ (aB bc.drew.heap.size) [.bool adG,adH,adI]->
 aL [aw,ao,au,aP,aQ,aR,bM,bH,bI]/\aL [bE,bO,bC]/\aL [aa,aa,aa,aa,aa,aa,aa,aa,false]/\aL [x4,x5,x6,x7,x8,x9]/\Cf (aB vi) adK))))))))/\
 ∀an6:Nat->Value,∀(IF:Option Addr)(agR:World),Cf IF agR->
 aS (dK IF) (∃(L0 Qz adL:Int),af agR.drew (ae IF 0) 0 [L0,Qz,adL]/\
 ah 154 #[.agg #[L0,Qz,adL],.agg #[x4,x5,x6]] agR.drew (jo λEf akT Ee Zt=>K4 w w0 w1 w3 agR.drew Zt (
 af Zt w 0 [aw,ao,au]/\ah 145 #[.agg #[aw,ao,au],.agg #[Ef,akT,Ee]] Zt (jo λoB Hx LY akX=>K4 w w0 w1 w3 Zt akX (
 Sw akX w #[oB,Hx,LY,aP,aQ,aR,bM,bH,bI] λaoi=>
 Sw aoi w1 #[oB,Hx,LY,aP,aQ,aR,bM,bH,bI] λyH=>
 R (Value.agg #[oB,Hx,LY,aP,aQ,aR,bM,bH,bI]) yH)))))))):ah 171 #[.agg #[aw,ao,au,aP,aQ,aR,bM,bH,bI],a1,.agg #[bE,bO,bC]] w R:=
 cq ⟨[],[(3,⟨[(8,.ptr)],[],[]⟩)],[]⟩ Tryz.func171 h
def afk.vc{a0:Value}(h:
 ∃I0:Nat->Int->World->Prop,
 (∃n1,I0 n1 (0) w)/\
 ∀(n1:Nat)(wg:Nat->Value)(x3:Int)(w4:World),I0 n1 x3 w4->
 Br (x3<3)
 (cL Tryz.prog a0 [x3] w4 (λe w6=>∃(b7:Bool),e=b7/\
 Br (!b7)
 (R false w6)
 (∃n5,n5<n1/\I0 n5 ((ak (x3+1))) w6)))
 (R true w4)):ah 176 #[a0] w R:=
 cq ⟨[(2,⟨[(4,.int .i64)],[],[]⟩)],[],[]⟩ Tryz.func176 h
def HZ.vc{c0:Addr}{c1:Addr}(h:
 ∃(x0 x1 x2:Int),af w.drew (ae (some c0) 0) 0 [x0,x1,x2]/\
 ∃(x3 x4 x5:Int),af w.drew (ae (some c1) 3) 0 [x3,x4,x5]/\
 ah 178 #[.agg #[x0,x1,x2],a0] w.drew (λe w6=>∃(x7:Int),e=x7/\
 af w6 (ae (some c1) 3) 0 [x3,x4,x5]/\ah 178 #[.agg #[x3,x4,x5],a0] w6 (λe w8=>∃(x9:Int),e=x9/\
 Br (x7<x9)
 (∃(bk bA bS:Int),af w8 (ae (some c1) 0) 0 [bk,bA,bS]/\
 ∃(cn bW cD:Int),af w8 (ae (some c0) 3) 0 [cn,bW,cD]/\
 ah 178 #[.agg #[bk,bA,bS],a0] w8 (λe cP=>∃(cZ:Int),e=cZ/\
 af cP (ae (some c0) 3) 0 [cn,bW,cD]/\ah 178 #[.agg #[cn,bW,cD],a0] cP (λe du=>∃(cr:Int),e=cr/\
 R (Value.bool (decide (cZ<cr))) du)))
 (R false w8)))):ah 177 #[a0,c0,c1] w R:=
 cq bU Tryz.func177 h
def M5.vc(h:
 Aw w #[aw,ao,au,aP,aQ,aR] 107 λw0=>
 Aw w0 #[aq,ar,aA,bz,bR,bQ] 107 λw1=>
 ah 176 #[.func (.func 177) #[] #[w,.pointer (aB w0)]] w1 (λe w2=>∃(b3:Bool),e=b3/\
 R b3 w2)):ah 124 #[.agg #[aw,ao,au,aP,aQ,aR],.agg #[aq,ar,aA,bz,bR,bQ]] w R:=
 cq bU Tryz.func124 h
def M6.vc{c0:Addr}{c1:Addr}(h:
 ∃(x0 x1 x2:Int),af w.drew (ae (some c0) 3) 0 [x0,x1,x2]/\
 ∃(x3 x4 x5:Int),af w.drew (ae (some c1) 3) 0 [x3,x4,x5]/\
 ∃(x6 x7 x8:Int),af w.drew (ae (some c0) 0) 0 [x6,x7,x8]/\
 ∃(x9 bk bA:Int),af w.drew (ae (some c1) 0) 0 [x9,bk,bA]/\
 ah 178 #[.agg #[x0,x1,x2],a0] w.drew (λe cU=>∃(cn:Int),e=cn/\
 af cU (ae (some c1) 0) 0 [x9,bk,bA]/\af cU (ae (some c0) 0) 0 [x6,x7,x8]/\af cU (ae (some c1) 3) 0 [x3,x4,x5]/\ah 178 #[.agg #[x3,x4,x5],a0] cU (λe bJ=>∃(cD:Int),e=cD/\
 af bJ (ae (some c1) 0) 0 [x9,bk,bA]/\af bJ (ae (some c0) 0) 0 [x6,x7,x8]/\ah 178 #[.agg #[x6,x7,x8],a0] bJ (λe cP=>∃(cZ:Int),e=cZ/\
 af cP (ae (some c1) 0) 0 [x9,bk,bA]/\ah 178 #[.agg #[x9,bk,bA],a0] cP (λe du=>∃(cr:Int),e=cr/\
 R ((ak ((if cD<cn then cD else cn)-(if cr>cZ then cr else cZ)))) du))))):ah 239 #[a0,c0,c1] w R:=
 cq bU Tryz.func239 h
def Wl.vc{bI:Bool}{eM:Bool}(h:
 Aw w #[aw,ao,au,aP,aQ,aR,bM,bH,bI] 70 λw0=>
 Aw w0 #[aq,ar,aA,bz,bR,bQ,fe,fg,eM] 70 λw1=>
 Aw w1 #[aa,aa,aa] 28 λw2=>
 Aw w2 #[aa,aa,aa] 28 λw3=>
 ∃J4:Option Addr->Option Addr->World->Prop,
 ((ah 48 #[.agg #[aw,ao,au,aP,aQ,aR,bM,bH,bI]] w3.drew (wE λx6 x7 x8 x9 bk bA w5=>K4 w w0 w1 w2 w3.drew w5 (
 af w5 (aB w0) 0 [aq,ar,aA,bz,bR,bQ,fe,fg,eM]/\(ah 48 #[.agg #[aq,ar,aA,bz,bR,bQ,fe,fg,eM]] w5 (wE λcn bW cD cp cZ cA cU=>K4 w w0 w1 w2 w5 cU (
 (Aw cU #[aa,aa,aa,aa,aa,aa] 107 λgn=>
 Aw gn #[aa,aa,aa,aa,aa,aa] 107 λef=>
 Sw ef cU #[x6,x7,x8,x9,bk,bA] λeU=>
 Sw eU gn #[cn,bW,cD,cp,cZ,cA] λey=>
 aL [aw,ao,au,aP,aQ,aR,bM,bH,bI]/\aL [aq,ar,aA,bz,bR,bQ,fe,fg,eM]/\aL [aa,aa,aa]/\aL [aa,aa,aa]/\J4 (aB cU) (aB gn) ey)/\(Aw cU #[aa,aa,aa,aa,aa,aa] 107 λeR=>
 Aw eR #[aa,aa,aa,aa,aa,aa] 107 λgC=>
 Sw gC eR #[x6,x7,x8,x9,bk,bA] λcV=>
 Sw cV cU #[cn,bW,cD,cp,cZ,cA] λfb=>
 aL [aw,ao,au,aP,aQ,aR,bM,bH,bI]/\aL [aq,ar,aA,bz,bR,bQ,fe,fg,eM]/\aL [aa,aa,aa]/\aL [aa,aa,aa]/\J4 (aB eR) (aB cU) fb))))/\(Aw w5 #[aa,aa,aa,aa,aa,aa] 107 λeB=>
 (ah 48 #[.agg #[aq,ar,aA,bz,bR,bQ,fe,fg,eM]] eB (wE λgr iM iB il eF im gQ=>K5 w w0 w1 w2 w5 eB gQ (
 Aw gQ #[aa,aa,aa,aa,aa,aa] 107 λki=>
 Sw ki w5 #[x6,x7,x8,x9,bk,bA] λjN=>
 Sw jN gQ #[gr,iM,iB,il,eF,im] λiN=>
 aL [aw,ao,au,aP,aQ,aR,bM,bH,bI]/\aL [aq,ar,aA,bz,bR,bQ,fe,fg,eM]/\aL [aa,aa,aa]/\aL [aa,aa,aa]/\J4 (aB w5) (aB gQ) iN)))/\(Aw eB #[aa,aa,aa,aa,aa,aa] 107 λoL=>
 ah 48 #[.agg #[aq,ar,aA,bz,bR,bQ,fe,fg,eM]] oL (wE λlu kJ ow qw lK pH kP=>K6 w w0 w1 w2 w5 eB oL kP (
 Sw kP w5 #[x6,x7,x8,x9,bk,bA] λoM=>
 Sw oM eB #[lu,kJ,ow,qw,lK,pH] λmw=>
 aL [aw,ao,au,aP,aQ,aR,bM,bH,bI]/\aL [aq,ar,aA,bz,bR,bQ,fe,fg,eM]/\aL [aa,aa,aa]/\aL [aa,aa,aa]/\J4 (aB w5) (aB eB) mw))))/\(Aw w5 #[aa,aa,aa,aa,aa,aa] 107 λgf=>
 (ah 48 #[.agg #[aq,ar,aA,bz,bR,bQ,fe,fg,eM]] gf (wE λvh nE mJ iT qx mz mI=>K5 w w0 w1 w2 w5 gf mI (
 Aw mI #[aa,aa,aa,aa,aa,aa] 107 λqy=>
 Sw qy mI #[x6,x7,x8,x9,bk,bA] λnQ=>
 Sw nQ w5 #[vh,nE,mJ,iT,qx,mz] λCj=>
 aL [aw,ao,au,aP,aQ,aR,bM,bH,bI]/\aL [aq,ar,aA,bz,bR,bQ,fe,fg,eM]/\aL [aa,aa,aa]/\aL [aa,aa,aa]/\J4 (aB mI) (aB w5) Cj)))/\(Aw gf #[aa,aa,aa,aa,aa,aa] 107 λyO=>
 ah 48 #[.agg #[aq,ar,aA,bz,bR,bQ,fe,fg,eM]] yO (wE λvU ov tY AR rJ nR nN=>K6 w w0 w1 w2 w5 gf yO nN (
 Sw nN gf #[x6,x7,x8,x9,bk,bA] λlC=>
 Sw lC w5 #[vU,ov,tY,AR,rJ,nR] λtM=>
 aL [aw,ao,au,aP,aQ,aR,bM,bH,bI]/\aL [aq,ar,aA,bz,bR,bQ,fe,fg,eM]/\aL [aa,aa,aa]/\aL [aa,aa,aa]/\J4 (aB gf) (aB w5) tM)))))))/\(Aw w3.drew #[aa,aa,aa,aa,aa,aa] 107 λMl=>
 (ah 48 #[.agg #[aw,ao,au,aP,aQ,aR,bM,bH,bI]] Ml (wE λoy oz nO wh vY yB oA=>K4 w w0 w1 w2 Ml oA (
 oA.heap[w3.drew.heap.size]? =Ml.heap[w3.drew.heap.size]?/\
 af oA (aB w0) 0 [aq,ar,aA,bz,bR,bQ,fe,fg,eM]/\(ah 48 #[.agg #[aq,ar,aA,bz,bR,bQ,fe,fg,eM]] oA (wE λEa AL yC vF tN v5 vd=>K4 w w0 w1 w2 oA vd (
 vd.heap[w3.drew.heap.size]? =oA.heap[w3.drew.heap.size]?/\
 Aw vd #[aa,aa,aa,aa,aa,aa] 107 λLS=>
 Sw LS w3.drew.heap.size #[oy,oz,nO,wh,vY,yB] λw85=>
 Sw w85 vd #[Ea,AL,yC,vF,tN,v5] λw86=>
 aL [aw,ao,au,aP,aQ,aR,bM,bH,bI]/\aL [aq,ar,aA,bz,bR,bQ,fe,fg,eM]/\aL [aa,aa,aa]/\aL [aa,aa,aa]/\J4 (aB w3.drew.heap.size) (aB vd) w86)))/\(Aw oA #[aa,aa,aa,aa,aa,aa] 107 λCa=>
 ah 48 #[.agg #[aq,ar,aA,bz,bR,bQ,fe,fg,eM]] Ca (wE λVE x90 Hu Eb yD Zm Mo=>K4 w w0 w1 w2 Ca Mo (
 Mo.heap[w3.drew.heap.size]? =Ca.heap[w3.drew.heap.size]?/\Kp oA Ca Mo/\
 Sw Mo w3.drew.heap.size #[oy,oz,nO,wh,vY,yB] λw95=>
 Sw w95 oA #[VE,x90,Hu,Eb,yD,Zm] λw96=>
 aL [aw,ao,au,aP,aQ,aR,bM,bH,bI]/\aL [aq,ar,aA,bz,bR,bQ,fe,fg,eM]/\aL [aa,aa,aa]/\aL [aa,aa,aa]/\J4 (aB w3.drew.heap.size) (aB oA) w96))))))/\(Aw Ml #[aa,aa,aa,aa,aa,aa] 107 λw97=>
 ah 48 #[.agg #[aw,ao,au,aP,aQ,aR,bM,bH,bI]] w97 (wE λKl sQ qB vf AO vg Zf=>K4 w w0 w1 w2 w97 Zf (
 Zf.heap[w3.drew.heap.size]? =w97.heap[w3.drew.heap.size]?/\Kp Ml w97 Zf/\
 af Zf (aB w0) 0 [aq,ar,aA,bz,bR,bQ,fe,fg,eM]/\ah 48 #[.agg #[aq,ar,aA,bz,bR,bQ,fe,fg,eM]] Zf (wE λrD rE IJ tP lv rF IA=>K4 w w0 w1 w2 Zf IA (
 IA.heap[w3.drew.heap.size]? =Zf.heap[w3.drew.heap.size]?/\Kp Ml Zf IA/\
 Sw IA w3.drew.heap.size #[Kl,sQ,qB,vf,AO,vg] λAQ=>
 Sw AQ Ml #[rD,rE,IJ,tP,lv,rF] λT9=>
 aL [aw,ao,au,aP,aQ,aR,bM,bH,bI]/\aL [aq,ar,aA,bz,bR,bQ,fe,fg,eM]/\aL [aa,aa,aa]/\aL [aa,aa,aa]/\J4 (aB w3.drew.heap.size) (aB Ml) T9))))))/\(Aw w3.drew #[aa,aa,aa,aa,aa,aa] 107 λQB=>
 (ah 48 #[.agg #[aw,ao,au,aP,aQ,aR,bM,bH,bI]] QB (wE λZu adN aok adO adP Ua IK=>K4 w w0 w1 w2 QB IK (
 IK.heap[w3.drew.heap.size]? =QB.heap[w3.drew.heap.size]?/\
 af IK (aB w0) 0 [aq,ar,aA,bz,bR,bQ,fe,fg,eM]/\(ah 48 #[.agg #[aq,ar,aA,bz,bR,bQ,fe,fg,eM]] IK (wE λIB Qs agS IC ID TY QC=>K4 w w0 w1 w2 IK QC (
 QC.heap[w3.drew.heap.size]? =IK.heap[w3.drew.heap.size]?/\
 Aw QC #[aa,aa,aa,aa,aa,aa] 107 λatD=>
 Sw atD QC #[Zu,adN,aok,adO,adP,Ua] λatF=>
 Sw atF w3.drew.heap.size #[IB,Qs,agS,IC,ID,TY] λatG=>
 aL [aw,ao,au,aP,aQ,aR,bM,bH,bI]/\aL [aq,ar,aA,bz,bR,bQ,fe,fg,eM]/\aL [aa,aa,aa]/\aL [aa,aa,aa]/\J4 (aB QC) (aB w3.drew.heap.size) atG)))/\(Aw IK #[aa,aa,aa,aa,aa,aa] 107 λQD=>
 ah 48 #[.agg #[aq,ar,aA,bz,bR,bQ,fe,fg,eM]] QD (wE λagT agU agV agW agX IE agY=>K4 w w0 w1 w2 QD agY (
 agY.heap[w3.drew.heap.size]? =QD.heap[w3.drew.heap.size]?/\Kp IK QD agY/\
 Sw agY IK #[Zu,adN,aok,adO,adP,Ua] λatH=>
 Sw atH w3.drew.heap.size #[agT,agU,agV,agW,agX,IE] λatI=>
 aL [aw,ao,au,aP,aQ,aR,bM,bH,bI]/\aL [aq,ar,aA,bz,bR,bQ,fe,fg,eM]/\aL [aa,aa,aa]/\aL [aa,aa,aa]/\J4 (aB IK) (aB w3.drew.heap.size) atI))))))/\(Aw QB #[aa,aa,aa,aa,aa,aa] 107 λqA=>
 ah 48 #[.agg #[aw,ao,au,aP,aQ,aR,bM,bH,bI]] qA (wE λTZ T0 T3 T4 T6 atJ QE=>K4 w w0 w1 w2 qA QE (
 QE.heap[w3.drew.heap.size]? =qA.heap[w3.drew.heap.size]?/\Kp QB qA QE/\
 af QE (aB w0) 0 [aq,ar,aA,bz,bR,bQ,fe,fg,eM]/\ah 48 #[.agg #[aq,ar,aA,bz,bR,bQ,fe,fg,eM]] QE (wE λatK atL atM atN atO atP agZ=>K4 w w0 w1 w2 QE agZ (
 agZ.heap[w3.drew.heap.size]? =QE.heap[w3.drew.heap.size]?/\Kp QB QE agZ/\
 Sw agZ QB #[TZ,T0,T3,T4,T6,atJ] λatQ=>
 Sw atQ w3.drew.heap.size #[atK,atL,atM,atN,atO,atP] λatS=>
 aL [aw,ao,au,aP,aQ,aR,bM,bH,bI]/\aL [aq,ar,aA,bz,bR,bQ,fe,fg,eM]/\aL [aa,aa,aa]/\aL [aa,aa,aa]/\J4 (aB QB) (aB w3.drew.heap.size) atS)))))))/\
 ∀ayo:Nat->Value,∀(adQ adR:Option Addr)(adS:World),J4 adQ adR adS->
 ∃(aol aom aon aoo aop aoq:Int),af adS adQ 0 [aol,aom,aon,aoo,aop,aoq]/\
 ∃(aor Zp Zq Zr aos Qx:Int),af adS adR 0 [aor,Zp,Zq,Zr,aos,Qx]/\
 ah 124 #[.agg #[aol,aom,aon,aoo,aop,aoq],.agg #[aor,Zp,Zq,Zr,aos,Qx]] adS (Rb λatT QF=>K4 w w0 w1 w2 adS QF (
 Br (!atT)
 (Sw QF w1 #[aa,aa,aa] λaot=>
 Sw aot w2 #[aa,aa,aa] λaou=>
 R (Value.tuple #[.agg #[aa,aa,aa],.agg #[aa,aa,aa]]) aou)
 (∃akY:Int->World->Prop,
 (ah 239 #[aa,adQ,adR] QF (Ri λatU ag0=>K4 w w0 w1 w2 QF ag0 (
 ah 239 #[(2:Int),adQ,adR] ag0 (Ri λatV ag1=>K4 w w0 w1 w2 ag0 ag1 (
 Br (atU>atV)
 (aL [aw,ao,au,aP,aQ,aR,bM,bH,bI]/\aL [aq,ar,aA,bz,bR,bQ,fe,fg,eM]/\aL [aa,aa,aa]/\aL [aa,aa,aa]/\akY (2) ag1)
 (aL [aw,ao,au,aP,aQ,aR,bM,bH,bI]/\aL [aq,ar,aA,bz,bR,bQ,fe,fg,eM]/\aL [aa,aa,aa]/\aL [aa,aa,aa]/\akY (0) ag1))))))/\
 ∀ayp:Nat->Value,∀(Zv:Int)(akZ:World),akY Zv akZ->
 ∃aov:Int->World->Prop,
 (ah 239 #[Zv,adQ,adR] akZ (Ri λQz Qy=>K4 w w0 w1 w2 akZ Qy (
 aL [aw,ao,au,aP,aQ,aR,bM,bH,bI]/\aL [aq,ar,aA,bz,bR,bQ,fe,fg,eM]/\aL [aa,aa,aa]/\aL [aa,aa,aa]/\aov ((if 4096<Qz then 4096 else Qz)) Qy)))/\
 ∀ayq:Nat->Value,∀(Ci:Int)(IH:World),aov Ci IH->
 ∃ak0:Int->World->Prop,
 (ah 178 #[.agg #[aw,ao,au],Zv] IH.drew (Ri λIG Zw=>K4 w w0 w1 w2 IH.drew Zw (
 af Zw (aB w0) 0 [aq,ar,aA]/\ah 178 #[.agg #[aq,ar,aA],Zv] Zw (Ri λHx QA=>K4 w w0 w1 w2 Zw QA (
 Br (IG<=Hx)
 (aL [aw,ao,au,aP,aQ,aR,bM,bH,bI]/\aL [aq,ar,aA,bz,bR,bQ,fe,fg,eM]/\aL [aa,aa,aa]/\aL [aa,aa,aa]/\ak0 ((ak (0-Ci))) QA)
 (aL [aw,ao,au,aP,aQ,aR,bM,bH,bI]/\aL [aq,ar,aA,bz,bR,bQ,fe,fg,eM]/\aL [aa,aa,aa]/\aL [aa,aa,aa]/\ak0 Ci QA))))))/\
 ∀ayr:Nat->Value,∀(LZ:Int)(yH:World),ak0 LZ yH->
 ah 155 #[.agg #[aa,aa,aa],Zv,LZ] yH (jo λaow aox IL adT=>K4 w w0 w1 w2 yH adT (
 ah 155 #[.agg #[aa,aa,aa],Zv,(ak (0-LZ))] adT (jo λT7 T8 adU ak1=>K4 w w0 w1 w2 adT ak1 (
 Sw ak1 w1 #[aow,aox,IL] λaoy=>
 Sw aoy w2 #[T7,T8,adU] λaoz=>
 R (Value.tuple #[.agg #[aow,aox,IL],.agg #[T7,T8,adU]]) aoz)))))))):ah 170 #[.agg #[aw,ao,au,aP,aQ,aR,bM,bH,bI],.agg #[aq,ar,aA,bz,bR,bQ,fe,fg,eM]] w R:=
 cq ⟨[],[(11,⟨[(10,.int .i64)],[],[]⟩),(9,⟨[(10,.int .i64)],[],[]⟩),(8,⟨[(9,.int .i64)],[],[]⟩),(2,⟨[(6,.ptr),(7,.ptr)],[],[]⟩)],[]⟩ Tryz.func170 h
def zo.vc{a0:Sl}(h:
 Br (a0.a).isNone
 (R (Value.slice none 0 0) w)
 (Aw w #[] 70 λw0=>
 ∃l1:LV,Rd w0 a0.a l1/\ba 72 9 w0 ⟨(aB w),0,0⟩ a0.n l1/\∀(s2:Sl)(w3:World),aX 70 9 w0 ⟨(aB w),0,0⟩ a0.n l1 s2 w3->Kp w w0 w3/\
 R s2 w3)):ah 169 #[a0] w R:=
 cq bU Tryz.func169 h
def RR.vc{a0:Value}{a1:Sl}(h:
 ah 169 #[a1] w (λe w0=>∃(s1:Sl),e=s1/\
 ∃I2:Nat->Int->World->Prop,
 (∃n3,I2 n3 (0) w0)/\
 ∀(n3:Nat)(us4:Nat->Value)(x5:Int)(w6:World),I2 n3 x5 w6->
 Br (decide (x5<((s1.n:Nat):Int)))
 (∃I8:Nat->Int->World->Prop,
 (∃n9,I8 n9 ((ak (x5+1))) w6)/\
 ∀(n9:Nat)(Zx:Nat->Value)(bA:Int)(cU:World),I8 n9 bA cU->
 Br (decide (bA<((s1.n:Nat):Int)))
 (∃J14:Option Addr->Option Addr->World->Prop,
 (ez s1.a x5 s1.n/\∃(cD cp cZ cA cr cW dh dJ:Int)(Cd:Bool),af cU.drew (ae s1.a ((x5:Int).toNat*9)) 0 [cD,cp,cZ,cA,cr,cW,dh,dJ,Cd]/\
 ez s1.a bA s1.n/\∃(eG dT fE fD ik gr iM iB:Int)(Zk:Bool),af cU.drew (ae s1.a ((bA:Int).toNat*9)) 0 [eG,dT,fE,fD,ik,gr,iM,iB,Zk]/\
 (ah 170 #[.agg #[cD,cp,cZ,cA,cr,cW,dh,dJ,Cd],.agg #[eG,dT,fE,fD,ik,gr,iM,iB,Zk]] cU.drew (λe eP=>∃(im jT lJ gx gd kH:Int),e=Value.tuple #[.agg #[im,jT,lJ],.agg #[gx,gd,kH]]/\
 (Aw eP #[aa,aa,aa] 28 λjS=>
 Aw jS #[aa,aa,aa] 28 λiR=>
 Sw iR eP #[im,jT,lJ] λkO=>
 Sw kO jS #[gx,gd,kH] λiH=>
 J14 (aB eP) (aB jS) iH)/\(Aw eP #[aa,aa,aa] 28 λkI=>
 Aw kI #[aa,aa,aa] 28 λyP=>
 Sw yP kI #[im,jT,lJ] λoM=>
 Sw oM eP #[gx,gd,kH] λmw=>
 J14 (aB kI) (aB eP) mw)))/\(Aw cU.drew #[aa,aa,aa] 28 λgf=>
 (ah 170 #[.agg #[cD,cp,cZ,cA,cr,cW,dh,dJ,Cd],.agg #[eG,dT,fE,fD,ik,gr,iM,iB,Zk]] gf (λe mI=>∃(vh nE mJ iT qx mz:Int),e=Value.tuple #[.agg #[vh,nE,mJ],.agg #[iT,qx,mz]]/\mI.heap[cU.drew.heap.size]? =gf.heap[cU.drew.heap.size]?/\
 Aw mI #[aa,aa,aa] 28 λqy=>
 Sw qy cU.drew.heap.size #[vh,nE,mJ] λnQ=>
 Sw nQ mI #[iT,qx,mz] λCj=>
 J14 (aB cU.drew.heap.size) (aB mI) Cj))/\(Aw gf #[aa,aa,aa] 28 λyO=>
 ah 170 #[.agg #[cD,cp,cZ,cA,cr,cW,dh,dJ,Cd],.agg #[eG,dT,fE,fD,ik,gr,iM,iB,Zk]] yO (λe nN=>∃(vU ov tY AR rJ nR:Int),e=Value.tuple #[.agg #[vU,ov,tY],.agg #[AR,rJ,nR]]/\nN.heap[cU.drew.heap.size]? =yO.heap[cU.drew.heap.size]?/\Kp gf yO nN/\
 Sw nN cU.drew.heap.size #[vU,ov,tY] λlC=>
 Sw lC gf #[AR,rJ,nR] λtM=>
 J14 (aB cU.drew.heap.size) (aB gf) tM)))/\(Aw cU.drew #[aa,aa,aa] 28 λMl=>
 (ah 170 #[.agg #[cD,cp,cZ,cA,cr,cW,dh,dJ,Cd],.agg #[eG,dT,fE,fD,ik,gr,iM,iB,Zk]] Ml (λe oA=>∃(oy oz nO wh vY yB:Int),e=Value.tuple #[.agg #[oy,oz,nO],.agg #[wh,vY,yB]]/\oA.heap[cU.drew.heap.size]? =Ml.heap[cU.drew.heap.size]?/\
 Aw oA #[aa,aa,aa] 28 λvd=>
 Sw vd oA #[oy,oz,nO] λqm=>
 Sw qm cU.drew.heap.size #[wh,vY,yB] λZ1=>
 J14 (aB oA) (aB cU.drew.heap.size) Z1))/\(Aw Ml #[aa,aa,aa] 28 λvG=>
 ah 170 #[.agg #[cD,cp,cZ,cA,cr,cW,dh,dJ,Cd],.agg #[eG,dT,fE,fD,ik,gr,iM,iB,Zk]] vG (λe we=>∃(tN v5 B8 B9 Q5 ve:Int),e=Value.tuple #[.agg #[tN,v5,B8],.agg #[B9,Q5,ve]]/\we.heap[cU.drew.heap.size]? =vG.heap[cU.drew.heap.size]?/\Kp Ml vG we/\
 Sw we Ml #[tN,v5,B8] λMo=>
 Sw Mo cU.drew.heap.size #[B9,Q5,ve] λpC=>
 J14 (aB Ml) (aB cU.drew.heap.size) pC))))/\
 ∀aBm:Nat->Value,∀(p91 p92:Option Addr)(IM:World),J14 p91 p92 IM->
 ∃J94:World->Prop,
 (ez s1.a x5 s1.n/\∃(EG EH EI Mp Kl sQ qB vf:Int)(Qq:Bool),af IM.drew (ae s1.a ((x5:Int).toNat*9)) 0 [EG,EH,EI,Mp,Kl,sQ,qB,vf,Qq]/\
 ∃(vg tO rD:Int),af IM.drew p91 0 [vg,tO,rD]/\
 ah 171 #[.agg #[EG,EH,EI,Mp,Kl,sQ,qB,vf,Qq],a0,.agg #[vg,tO,rD]] IM.drew (λe Hv=>∃(IJ tP lv rF jO AP Ed Zy:Int)(Ec:Bool),e=Value.agg #[IJ,tP,lv,rF,jO,AP,Ed,Zy,Ec]/\
 ez s1.a x5 s1.n/\(((ae s1.a ((x5:Int).toNat*9))).isSome=true/\Wr Hv (ae s1.a ((x5:Int).toNat*9)) 9)/\(∀Qo,Qo=aK Hv (ae s1.a ((x5:Int).toNat*9)) [IJ,tP,lv,rF,jO,AP,Ed,Zy,Ec]->
 J94 Qo)))/\
 ∀ayu:Nat->Value,∀(tQ:World),J94 tQ->
 ez s1.a bA s1.n/\∃(adP Ua Zo IB Qs agS IC ID:Int)(ac4:Bool),af tQ.drew (ae s1.a ((bA:Int).toNat*9)) 0 [adP,Ua,Zo,IB,Qs,agS,IC,ID,ac4]/\
 ∃(Qt Qu Qv:Int),af tQ.drew p92 0 [Qt,Qu,Qv]/\
 ah 171 #[.agg #[adP,Ua,Zo,IB,Qs,agS,IC,ID,ac4],a0,.agg #[Qt,Qu,Qv]] tQ.drew (λe QD=>∃(aoB agT agU agV agW agX IE Qw:Int)(aoC:Bool),e=Value.agg #[aoB,agT,agU,agV,agW,agX,IE,Qw,aoC]/\
 ez s1.a bA s1.n/\(((ae s1.a ((bA:Int).toNat*9))).isSome=true/\Wr QD (ae s1.a ((bA:Int).toNat*9)) 9)/\(∀qA,qA=aK QD (ae s1.a ((bA:Int).toNat*9)) [aoB,agT,agU,agV,agW,agX,IE,Qw,aoC]->
 ∃n13,n13<n9/\I8 n13 ((ak (bA+1))) qA)))
 (∃n7,n7<n3/\I2 n7 ((ak (x5+1))) cU))
 (R s1 w6))):ah 117 #[a0,a1] w R:=
 cq ⟨[(6,⟨[(7,.int .i64)],[],[]⟩),(3,⟨[(14,.int .i64)],[],[]⟩)],[(10,⟨[],[],[]⟩),(9,⟨[(8,.ptr),(9,.ptr)],[],[]⟩)],[]⟩ Tryz.func117 h
def zA{w v:World}{o:Obj}(e:v=w.alloc o):v.heap.size=w.heap.size+1:=by rw [e];simp
def zR{w v:World}{g:Nat}{c:Array Value}(e:v=w.setRow g c):v.heap.size=w.heap.size:=by rw [e];simp
def Nk{v:Value}{V:Ce->Int}{w:World}(hV:Tl v V w)(hv:kU v=[])(b:Bx):ah 234 #[v,qS b] w λe w'=>e=Value.bool (g9 V b λx=>x==4)/\Ext w w':=by apply KQ.vc;intro w0 e0;have x0:=aT e0;have z0:=zA e0;refine (FJ (hV.ext x0) hv b (.func (.func 274) #[] #[]) rfl (λx=>x==4) λx w'=>c9 (by kernel_rfl) rfl (KR.vc ⟨rfl,Ext.cu _⟩)).mono ?_;rintro e w1 ⟨rfl,x1⟩;exact ⟨_,rfl,x1.heap ab,rfl,x0.tr x1⟩
def Ww{v:Value}{V:Ce->Int}{w:World}(hV:Tl v V w)(hv:kU v=[])(b:Bx):ah 235 #[v,qS b] w λe w'=>e=Value.bool (g9 V b qU)/\Ext w w':=by
 apply Wj.vc;intro w0 e0;have x0:=aT e0;have z0:=zA e0;refine (FJ (hV.ext x0) hv b (.func (.func 202) #[] #[]) rfl qU λx w'=>c9 (by kernel_rfl) rfl ((pc x w').mono ?_)).mono ?_
 ·rintro e w'' ⟨rfl,rfl⟩;exact ⟨rfl,Ext.cu _⟩
 rintro e w1 ⟨rfl,x1⟩;exact ⟨_,rfl,x1.heap ab,rfl,x0.tr x1⟩
def vu(n:Int)(w:World):ah 260 #[n] w λe w'=>e=Value.tuple #[.int .u64 (max (dz n) (-(dz n))),.bool (decide (dz n<0))]/\w'=w:=by
 apply RQ.vc;refine (gK n w).mono ?_;rintro e w0 ⟨rfl,rfl⟩;have hc:=kc n;refine ⟨_,rfl,Br.mk (λh=> ?_) (λh=> ?_)⟩
 ·have h':dz n<0:=by simpa using h
  rw [wI,xC ab,h];exact ⟨by rw [show max (dz n) (-(dz n))=0-dz n from by omega],rfl⟩
 ·have h':¬dz n<0:=by simpa using h
  rw [xC ab,h];exact ⟨by rw [show max (dz n) (-(dz n))=dz n from by omega],rfl⟩
def UP{x:Int}(h:0<=x/\x<4294967296):oU .u64 x 4294967295=x:=by
 unfold oU;have e:(BitVec.ofInt IntKind.u64.bits x &&& BitVec.ofInt IntKind.u64.bits 4294967295).toNat=x.toNat:=by
  show (BitVec.ofInt 64 x &&& BitVec.ofInt 64 4294967295).toNat=_;rw [zB];have h1:(BitVec.ofInt 64 4294967295).toNat=2 ^ 32-1:=by decide
  rw [h1,Nat.and_two_pow_sub_one_eq_mod,Ct];omega
 rw [e,Int.toNat_of_nonneg h.1];exact xC ab
def p32:(2 ^(min (32:Int).toNat 64):Int)=4294967296:=by decide
def R1(x:Int)(h:0<=x/\x<=65536)(w:World):ah 273 #[.int .u64 x,.int .u64 16384] w λe w'=>e=Value.tuple #[.int .u64 0,.int .u64 (x*16384)]/\w'=w:=by
 apply Di.vc;have f:∀y:Int,y.fdiv 4294967296=y / 4294967296:=λy=>sZ _ aG
 have q1:x / 4294967296=0:=by omega
 have q3:x*16384 / 4294967296=0:=by omega
 rw [p32,UP (x:=x) ab,UP (x:=16384) ab];simp only [f];rw [q1,show (16384:Int) / 4294967296=0 from by decide,xC (n:=x*16384) ab,q3,Int.zero_mul,Int.zero_mul,Int.mul_zero];exact ⟨congrArg (λn=>Ending.returned (.tuple #[.int .u64 n,.int .u64 (x*16384)])) aG,trivial⟩
def afs(q:Int)(hq:0<=q/\q<=100000000000000)(below rest:Bool){c0 c1:Nat}{w:World}{τ τ':TypeId}(h0:Row w c0 [.bool below] τ)(h1:Row w c1 [.bool rest] τ'):
  ah 285 #[.int .u64 q,c0,c1] w λe w'=>e=Value.int .u64 (if below=true/\rest=true then q+1 else q)/\w'=w:=by
 apply HY.vc;refine ⟨below,h0.at 0 rfl,?_⟩
 cases below with
 |false=>exact ⟨rfl,rfl⟩
 |true=>
  refine ⟨rest,h1.at 0 rfl,?_⟩
  cases rest with
  |false=>exact ⟨rfl,rfl⟩
  |true=>exact ⟨by rw [xC ab];rfl,rfl⟩
def FK(q:Int)(hq:0<=q/\q<=100000000000000)(rest below:Bool)(w:World):ah 261 #[.int .u64 q,rest,below] w λe w'=>e=Value.int .i64 (if below=true then -(if rest=true then q+1 else q) else q)/\Ext w w':=by
 apply M4.vc;intro w0 e0 w1 e1;have x0:=aT e0;have z0:=zA e0;have r0:Row w0 w [.bool rest] 4:=Row.nw e0;have x1:=aT e1;have r1:Row w1 w0 [.bool below] 4:=Row.nw e1;refine fB (by simp;omega) ⟨below,r1.at 0 rfl,?_⟩
 cases below with
 |false=>exact ⟨by rw [wI];rfl,x0.tr x1⟩
 |true=>
  refine (afs q hq true rest r1 (r0.ext x1)).mono ?_;rintro e w7 ⟨rfl,rfl⟩;refine ⟨_,rfl,?_⟩;have e:(if (true=true/\rest=true) then q+1 else q)=if rest=true then q+1 else q:=by simp
  rw [e];have hb:0<=(if rest=true then q+1 else q)/\(if rest=true then q+1 else q)<=100000000000001:=by split<;>omega
  generalize (if rest=true then q+1 else q)=y at*;rw [aM (n:=y) (by unfold bT;omega),wI];exact ⟨by rw [if_pos rfl,Int.zero_sub],x0.tr x1⟩
def aaT(n:Int)(h: -65536<=n/\n<=65536)(w:World):ah 232 #[n,(16384:Int)] w λe w'=>e=Value.int .i64 (n / 4)/\Ext w w':=by
 apply Wk.vc;refine (vu n w).mono ?_;rintro e w0 ⟨rfl,rfl⟩;have hc:dz n=n:=fO ab;have hd:dz 16384=16384:=by decide
 rw [hc];refine ⟨_,_,rfl,(vu 16384 w0).mono ?_⟩;rintro e w3 ⟨rfl,rfl⟩;rw [hd];refine ⟨_,_,rfl,(R1 (max n (-n)) ab w3).mono ?_⟩;rintro e w6 ⟨rfl,rfl⟩;refine ⟨_,_,rfl,fB rfl ?_⟩;have hf:(max n (-n)*16384).fdiv (2 ^(min (16:Int).toNat 64))=max n (-n) / 4:=by rw [p16,sZ _ aG];omega
 have hr:Int.tmod (max n (-n)*16384) 65536=max n (-n) % 4*16384:=by rw [CE ab];omega
 rw [hf,hr];refine (FK (max n (-n) / 4) ab _ _ w6).mono ?_;rintro e bc ⟨rfl,bA⟩;refine ⟨_,rfl,?_,bA⟩;have hs:(!(decide (n<0)==decide ((16384:Int)<0)))=decide (n<0):=by
  by_cases q:n<0
  ·rw [decide_eq_true q];rfl
  ·rw [decide_eq_false q];rfl
 rw [hs];congr 2;by_cases q:n<0
 ·rw [decide_eq_true q,if_pos rfl];by_cases q2:max n (-n) % 4=0
  ·rw [q2];show -(max n (-n) / 4)=n / 4;omega
  ·have:(max n (-n) % 4*16384 !=0)=true:=by simp;omega
   rw [this,if_pos rfl];omega
 ·rw [decide_eq_false q];show max n (-n) / 4=n / 4;omega
def CK(n:Int)(w:World):ah 231 #[n] w λe w'=>e=Value.int .i64 (zC n)/\Ext w w':=by
 apply zi.vc;have e:(if 65536<(if (-65536)>n then (-65536) else n) then 65536 else (if (-65536)>n then (-65536) else n))=min (max n (-65536)) 65536:=by
  repeat' split
  all_goals omega
 rw [e];refine (aaT _ ab w).mono ?_;rintro e w1 ⟨rfl,x1⟩;exact ⟨_,rfl,rfl,x1⟩
def R2(b:Bx)(v:Ce)(w:World):ah 300 #[qS b,eg v] w λe w'=>e=(qS (UQ b v))/\Ext w w':=by apply aaH.vc;intro w0 e0 w1 e1 w2 e2;have x0:=aT e0;have z0:=zA e0;have r0:Row w0 w (pK b) fQ:=Row.nw e0;have x1:=aT e1;have z1:=zA e1;have r1:Row w1 w0 (dO v) ic:=Row.nw e1;have x2:Ext w1 w2.drew:=(aT e2).drew;have z2:w2.drew.heap.size=w1.heap.size+1:=(zA e2:w2.heap.size=_);refine (jt b.1 v w2.drew).mono ?_;rintro e w3 ⟨rfl,x3⟩;have z3:=x3.size;refine ⟨_,_,_,rfl,x3.heap ab,x3.heap ab,x3.heap ab,Lo.wv (r1.ext (x2.tr x3)),sh (r0.ext (x1.tr (x2.tr x3))) rfl rfl rfl,(jt b.2 v w3).mono ?_⟩;rintro e w7 ⟨rfl,x7⟩;have z7:=x7.size;exact ⟨_,_,_,rfl,x7.heap ab,x7.heap ab,x7.heap ab,λbc Da=>⟨rfl,(x0.tr (x1.tr (x2.tr (x3.tr x7)))).ag Da ab⟩⟩
def R3(b:Bx)(ax k:Int)(hk:bT (k+1))(w:World):ah 312 #[qS b,ax,k] w λe w'=>e=(qS (lf b ax k))/\Ext w w':=by apply MZ.vc;rw [aM hk];intro w0 e0 w1 e1;have x0:=aT e0;have z0:=zA e0;have r0:Row w0 w (pK b) fQ:=Row.nw e0;have x1:Ext w0 w1.drew:=(aT e1).drew;have z1:w1.drew.heap.size=w0.heap.size+1:=(zA e1:w1.heap.size=_);have r1:=r0.ext x1;refine (sk k w1.drew).mono ?_;rintro e w2 ⟨rfl,rfl⟩;refine ⟨_,rfl,rfl,rfl,sh r1 rfl rfl rfl,sh r1 rfl rfl rfl,(jd b.1 ax (nL k) w1.drew).mono ?_⟩;rintro e w4 ⟨rfl,x4⟩;have z4:=x4.size;refine ⟨_,_,_,rfl,x4.heap ab,x4.heap ab,sh (r1.ext x4) rfl rfl rfl,(sk (k+1) w4).mono ?_⟩;rintro e w8 ⟨rfl,rfl⟩;refine ⟨_,rfl,rfl,rfl,sh (r1.ext x4) rfl rfl rfl,(jd b.2 ax (nL (k+1)) _).mono ?_⟩;rintro e bN ⟨rfl,bk⟩;have Y6:=bk.size;exact ⟨_,_,_,rfl,bk.heap ab,bk.heap ab,λbJ vE=>⟨rfl,(x0.tr (x1.tr (x4.tr bk))).ag vE ab⟩⟩
abbrev sr(b:Bx)(ax d:Int):List (LV):=(cN b ax d).map λx=> [.int .i64 x.1,.int .i64 x.2]
abbrev ahU(g:Nat):Value:=.func (.func 322) #[] #[g,.pointer (some ⟨g+1,0,none⟩),.pointer (some ⟨g+2,0,none⟩)]
def N3(b:Bx)(ax d:Int)(w:World):ah 311 #[qS b,ax,d] w λe w'=>e=(ahU w)/\Row w' w (pK b) fQ/\Row w' (w.heap.size+1) [ax] 3/\Row w' (w.heap.size+2) [d] 3/\Ext w w':=by apply KS.vc;intro w0 e0 w1 e1 w2 e2;have z0:=zA e0;have z1:=zA e1;have r0:Row w0 w (pK b) fQ:=Row.nw e0;have r1:Row w1 w0 [ax] 3:=Row.nw e1;have r2:Row w2 w1 [d] 3:=Row.nw e2;have x1:=aT e1;have x2:=aT e2;rw [z0] at r1;rw [z1,z0] at r2;exact ⟨by rw [z1,z0],r0.ext (x1.tr x2),r1.ext x2,r2,(aT e0).tr (x1.tr x2)⟩
def Lp{k:Int}(h: -2147483648<=k/\k<=2147483648):nL k=k*65536:=by unfold nL;omega
def N4(b:Bx)(ax d:Int)(hb:bY b 100000000000000)(hd: -4194304<=d/\d<=4194304)(g:Nat)(W0:World)(h0:Row W0 g (pK b) fQ)(h1:Row W0 (g+1) [ax] 3)(h2:Row W0 (g+2) [d] 3):
  Iter Tryz.prog (ahU g) W0 (λi=>i=g\/i=g+1\/i=g+2) (sr b ax d):=by
 refine ⟨⟨_,_,_,rfl,by kernel_rfl⟩,?_⟩;intro y B J Jx F0 W hB hsJ hsX yt hRd hround hJ0;refine c9 (by kernel_rfl) (by rfl) ?_;apply Fz.vc;have rows:∀{wr:World},(∀i,(i=g\/i=g+1\/i=g+2)->wr.heap[i]? =W0.heap[i]?)->Row wr g (pK b) fQ/\Row wr (g+1) [ax] 3/\Row wr (g+2) [d] 3:=λh=>⟨h0.same (h _ (.inl rfl)),h1.same (h _ (.inr (.inl rfl))),h2.same (h _ (.inr (.inr rfl)))⟩
 obtain ⟨q0,q1,q2⟩:=rows λi hi=>(hRd i hi).2.2
 have xd:=Ext.dr W;have Z9:=hb.ax aG ax;refine ⟨_,_,_,sh (o:=0) (q0.ext xd) rfl rfl rfl,_,(q1.ext xd).at 0 rfl,_,_,_,sh (o:=3) (q0.ext xd) rfl rfl rfl,_,(q1.ext xd).at 0 rfl,(dt b.1 ax W.drew).mono ?_⟩;rintro e w8 ⟨rfl,x8⟩;refine ⟨_,rfl,Lo.wv (q1.ext (xd.tr x8)),sh (o:=3) (q0.ext (xd.tr x8)) rfl rfl rfl,(dt b.2 ax w8).mono ?_⟩;rintro e bN ⟨rfl,bk⟩;have xW:=xd.tr (x8.tr bk);refine ⟨_,rfl,_,(q2.ext xW).at 0 rfl,?_⟩;obtain ⟨Q,hQ⟩:∃Q:Nat->World->Prop,Q=λk wr=>∃F,J k F wr/\∀i,(i=g\/i=g+1\/i=g+2)->¬F i/\i<wr.heap.size/\wr.heap[i]? =W0.heap[i]? :=⟨_,rfl⟩
 have ext:∀{k:Nat} {wr wr':World},Q k wr->Ext wr wr'->W.heap.size<=wr->Q k wr':=λ{k wr wr'} h x hz=>by rw [hQ] at h ⊢;obtain ⟨F,hJ,hk⟩:=h;exact ⟨F,hsJ _ _ _ _ hJ (Below.mono x ab) λi hi=>x.heap (yt _ _ _ hJ i hi),λi hi=>⟨(hk i hi).1,kB (hk i hi).2.1 x.size,(x.heap (hk i hi).2.1).trans (hk i hi).2.2⟩⟩
 have init:Q 0 bN:=by refine ext (wr:=W) ?_ xW (aD _);rw [hQ];exact ⟨F0,hJ0,hRd⟩
 have qrow:∀{k:Nat} {wr:World},Q k wr->Row wr (g+2) [d] 3:=λh=>by rw [hQ] at h;obtain ⟨F,-,hk⟩:=h;exact h2.same (hk _ (.inr (.inr rfl))).2.2
 have round:∀{k:Nat} {wr:World} {x:LV},W.heap.size<=wr->(sr b ax d)[k]? =some x->Q k wr->cL Tryz.prog y x wr λe w'=>W.heap.size<=w'.heap.size/\((e=true/\Q (k+1) w')\/(e=false/\∃F',Jx () F' w')):=λ{k wr x} hz hx h=>by
  rw [hQ] at h ⊢;obtain ⟨F,hJ,hk⟩:=h;refine dG (hround _ _ _ _ hx hJ) ?_;rintro e w' (⟨rfl,F2,Ul,g7⟩|⟨rfl,F2,Ul,g7⟩)
  ·refine ⟨by have:=g7.size;omega,.inl ⟨rfl,F2,Ul,λi hi=> ?_⟩⟩;obtain ⟨p1,p2,p3⟩:=hk i hi;refine ⟨λhf=> ?_,kB p2 g7.size,(g7.same i p2 p1).trans p3⟩;rcases g7.sub i hf with hf|hf
   ·exact p1 hf
   ·omega
  ·exact ⟨by have:=g7.size;omega,.inr ⟨rfl,F2,Ul⟩⟩
 have fin:∀{wr:World},Q (sr b ax d).length wr->∃F',J (sr b ax d).length F' wr:=λh=>by rw [hQ] at h;obtain ⟨F,hJ,-⟩:=h;exact ⟨F,hJ⟩
 have zW:=xW.size;apply Br.mk<;>intro B6
 ·have B6:=dn B6;have hL:cN b ax d=(List.range (S1 (bZ b.2 ax) d (bV (bZ b.2 ax+65535)))).map λi:Nat=>(bV (bZ b.2 ax+65535)+i,(bV (bZ b.2 ax+65535)+i)*65536-bZ b.2 ax):=by unfold cN;rw [if_pos B6]
  have HK:∀{k:Nat},k<S1 (bZ b.2 ax) d (bV (bZ b.2 ax+65535))->(sr b ax d)[k]? =some [.int .i64 (bV (bZ b.2 ax+65535)+k),.int .i64 ((bV (bZ b.2 ax+65535)+k)*65536-bZ b.2 ax)]:=λ{k} hk=>by unfold sr;rw [hL,aV,aV,I9 hk];rfl
  have dD:(sr b ax d).length=S1 (bZ b.2 ax) d (bV (bZ b.2 ax+65535)):=by unfold sr;rw [hL];simp
  have Hk:bV (bZ b.2 ax+65535)=(bZ b.2 ax+65535) / 65536:=by unfold bV;rw [fO ab]
  generalize sr b ax d=xs at*;generalize bZ b.2 ax=top at*;generalize bZ b.1 ax=low at*;rw [aM (n:=top+65536) (by unfold bT;omega),aM (n:=top+65536-1) (by unfold bT;omega),show top+65536-1=top+65535 from by omega];refine (ph (top+65535) bN).mono ?_;rintro e bG ⟨rfl,avt⟩;subst avt;rw [Hk] at HK dD ⊢;have aef:∀i:Nat,((top+65535) / 65536+(i:Int))*65536<top+d ↔ i<S1 top d ((top+65535) / 65536):=λi=>U8 ab
  have hn:S1 top d ((top+65535) / 65536)<=100:=by unfold S1;omega
  generalize S1 top d ((top+65535) / 65536)=N at*;refine ⟨_,rfl,λn x wr=>∃k:Nat,x=(top+65535) / 65536+k/\k+n=N/\Q k wr/\W.heap.size<=wr,⟨N,0,by omega,by omega,init,zW⟩,?_⟩;rintro n us x wr ⟨k,rfl,hk,hq,zr⟩;have xr:=Ext.dr wr;have hqd:=ext hq xr zr;have zrd:W.heap.size<=wr.drew.heap.size:=zr;refine ⟨_,(qrow hqd).at 0 rfl,(sk _ wr.drew).mono ?_⟩;rw [Lp ab];rintro e ey ⟨rfl,avu⟩;subst avu;refine ⟨_,rfl,Lo.wv (qrow hqd),?_⟩;rw [aM (n:=top+d) (by unfold bT;omega)];refine Br.mk (λhc=>(sk _ wr.drew).mono ?_) (λhc=> ?_)
  ·have hc:=(aef k).1 (by simpa using hc);rw [Lp ab];rintro e gC ⟨rfl,avv⟩;subst avv;have wq:ak (((top+65535) / 65536+(k:Int))*65536-top)=((top+65535) / 65536+(k:Int))*65536-top:=wI;have wk:ak ((top+65535) / 65536+(k:Int)+1)=(top+65535) / 65536+((k+1:Nat):Int):=by rw [wI];omega
   refine ⟨_,rfl,?_⟩;rw [wq];refine dG (round zrd (HK hc) hqd) ?_;rintro e fb ⟨z26,⟨rfl,B4⟩|⟨rfl,Ra⟩⟩
   ·exact ⟨true,rfl,Br.mk (λh=>by cases h) (λ_=>⟨n-1,by omega,k+1,wk,by omega,B4,z26⟩)⟩
   ·exact ⟨false,rfl,Br.mk (λ_=>⟨⟨_,rfl⟩,.inr Ra⟩) (λh=>by cases h)⟩
  ·have hc:¬k<N:=λq=>absurd ((aef k).2 q) (by simpa using hc)
   have e:k=N:=by omega
   subst e;rw [<-dD] at hqd;exact ⟨⟨_,rfl⟩,.inl (fin hqd)⟩
 ·have B6:=dn B6;have hL:cN b ax d=(List.range (pw (bZ b.1 ax) d (bV (bZ b.1 ax)-1))).map λi:Nat=>(bV (bZ b.1 ax)-1-i,(bV (bZ b.1 ax)-1-i+1)*65536-bZ b.1 ax):=by unfold cN;rw [if_neg B6]
  have HK:∀{k:Nat},k<pw (bZ b.1 ax) d (bV (bZ b.1 ax)-1)->(sr b ax d)[k]? =some [.int .i64 (bV (bZ b.1 ax)-1-k),.int .i64 ((bV (bZ b.1 ax)-1-k+1)*65536-bZ b.1 ax)]:=λ{k} hk=>by unfold sr;rw [hL,aV,aV,I9 hk];rfl
  have dD:(sr b ax d).length=pw (bZ b.1 ax) d (bV (bZ b.1 ax)-1):=by unfold sr;rw [hL];simp
  have Hk:bV (bZ b.1 ax)=bZ b.1 ax / 65536:=by unfold bV;rw [fO ab]
  generalize sr b ax d=xs at*;generalize bZ b.2 ax=top at*;generalize bZ b.1 ax=low at*;refine (ph low bN).mono ?_;rintro e gQ ⟨rfl,avw⟩;subst avw;rw [Hk] at HK dD ⊢;have aef:∀i:Nat,low+d<(low / 65536-1-(i:Int)+1)*65536 ↔ i<pw low d (low / 65536-1):=λi=>JR
  have hn:pw low d (low / 65536-1)<=100:=by unfold pw;omega
  generalize pw low d (low / 65536-1)=N at*;have ws:ak (low / 65536-1)=low / 65536-1:=wI;refine ⟨_,rfl,?_⟩;rw [ws];refine ⟨λn x wr=>∃k:Nat,x=low / 65536-1-k/\k+n=N/\Q k wr/\W.heap.size<=wr,⟨N,0,by omega,by omega,init,zW⟩,?_⟩;rintro n us x wr ⟨k,rfl,hk,hq,zr⟩;have xr:=Ext.dr wr;have hqd:=ext hq xr zr;have zrd:W.heap.size<=wr.drew.heap.size:=zr;have w1:ak (low / 65536-1-(k:Int)+1)=low / 65536-1-(k:Int)+1:=wI;rw [w1];refine ⟨_,(qrow hqd).at 0 rfl,(sk _ wr.drew).mono ?_⟩;rw [Lp ab];rintro e iN ⟨rfl,avx⟩;subst avx;refine ⟨_,rfl,Lo.wv (qrow hqd),?_⟩;rw [aM (n:=low+d) (by unfold bT;omega)];refine Br.mk (λhc=>(sk _ wr.drew).mono ?_) (λhc=> ?_)
  ·have hc:=(aef k).1 (by simpa using hc);rw [Lp ab];rintro e kP ⟨rfl,alz⟩;subst alz;have wq:ak ((low / 65536-1-(k:Int)+1)*65536-low)=(low / 65536-1-(k:Int)+1)*65536-low:=wI;have wk:ak (low / 65536-1-(k:Int)-1)=low / 65536-1-((k+1:Nat):Int):=by rw [wI];omega
   refine ⟨_,rfl,?_⟩;rw [wq];refine dG (round zrd (HK hc) hqd) ?_;rintro e iR ⟨z41,⟨rfl,B4⟩|⟨rfl,Ra⟩⟩
   ·exact ⟨true,rfl,Br.mk (λh=>by cases h) (λ_=>⟨n-1,by omega,k+1,wk,by omega,B4,z41⟩)⟩
   ·exact ⟨false,rfl,Br.mk (λ_=>⟨⟨_,rfl⟩,.inr Ra⟩) (λh=>by cases h)⟩
  ·have hc:¬k<N:=λq=>absurd ((aef k).2 q) (by simpa using hc)
   have e:k=N:=by omega
   subst e;rw [<-dD] at hqd;exact ⟨⟨_,rfl⟩,.inl (fin hqd)⟩
def aa6{b:Bx}{ax d:Int}{n:Nat}{x y:Int}(h:(sr b ax d)[n]? =some [.int .i64 x,.int .i64 y]):(cN b ax d)[n]? =some (x,y):=by (simp_all [sr];done)
def asx(d:Int):(if 4194304<(if (-4194304)>d then (-4194304) else d) then 4194304 else (if (-4194304)>d then (-4194304) else d))=kN d:=by
 unfold kN
 repeat' split
 all_goals omega
def Sf{v:Value}{V:Ce->Int}{w:World}(hV:Tl v V w)(hv:kU v=[])(b:Bx)(hb:bY b 100000000000000)(ax d:Int)(VJ:0<=ax/\ax<3):
  ah 299 #[v,qS b,ax,d] w λe w'=>e=Value.tuple #[.int .i64 (eE V aC b ax d).1,.bool (eE V aC b ax d).2]/\Ext w w':=by
 apply RN.vc;rw [hv,qJ,asx];have hd:=zL d;intro w0 e0 w1 e1 w2 e2 w3 e3 w4 e4;have x0:=aT e0;have z0:=zA e0;have r0:∃τ,Row w0 w [v] τ:=⟨_,by rw [e0];exact Row.new w [_] _⟩;have x1:=aT e1;have z1:=zA e1;have x2:=aT e2;have z2:=zA e2;have x3:=aT e3;have z3:=zA e3;have x4:=aT e4;have z4:=zA e4;have AW:=x0.tr (x1.tr (x2.tr (x3.tr x4)));obtain ⟨τ0,r0⟩:=r0;refine fB (by simp;omega) (fB (by simp;omega) ((N3 b ax (kN d) w4).mono ?_));rintro e w9 ⟨rfl,hb9,ha9,hd9,x9⟩;have z9:=x9.size;have l9:=hd9.lt;have QG:=AW.tr x9;have r9:=r0.ext (x1.tr (x2.tr (x3.tr (x4.tr x9))));refine ⟨_,rfl,x9.heap ab,x9.heap ab,x9.heap ab,x9.heap ab,x9.heap ab,sr b ax (kN d),λi=>i=w4.heap.size\/i=w4.heap.size+1\/i=w4.heap.size+2,λ_=>False,
  λn F y bb w'=>(∀i,¬F i)/\(∀x ∈(cN b ax (kN d)).take n,g9 V (lf b ax x.1) aC=false)/\Mod (λi=>w9.heap.size<=i) w9 w',
  λo F y bb w'=>(∀i,¬F i)/\(y,bb)=eE V aC b ax d/\Mod (λi=>i=w2.heap.size\/i=w3.heap.size\/w9.heap.size<=i) w9 w',?_,?_,?_,λn F y bb w' h i hi=>(h.1 i hi).elim,λo F y bb w' h i hi=>(h.1 i hi).elim,λi hi=> ?_,λyP yF=> ?_,?_,?_,?_⟩
 ·intro x hx;obtain ⟨c,-,rfl⟩:=aY.1 hx;exact ⟨_,_,rfl⟩
 ·rintro n F y bb eU ey ⟨h1,h2,h3⟩ lL -;exact ⟨h1,h2,h3.tr ⟨lL.os,lL.tape,lL.output,lL.size,λi hi hn=>lL.block i (Js hn)⟩ λi hi=> .inl hi⟩
 ·rintro o F y bb eU ey ⟨h1,h2,h3⟩ lL -;exact ⟨h1,h2,h3.tr ⟨lL.os,lL.tape,lL.output,lL.size,λi hi hn=>lL.block i (Js hn)⟩ λi hi=> .inl (.inr (.inr hi))⟩
 ·rcases hi with rfl|rfl|rfl<;>exact ⟨by omega,id,by omega,by omega,by omega,by omega,by omega,trivial⟩
 ·exact ⟨N4 b ax (kN d) hb hd _ yP (hb9.same (yF.ext.block _ ab)) (ha9.same (yF.ext.block _ ab)) (hd9.same (yF.ext.block _ ab)),rfl,rfl,rfl,λi h=>h,λc hc=>by simp at hc,Mod.aH yF.ext⟩
 ·rintro n F us y50 b51 mJ iT qy hx hI;have z56:=hI.2.2.size;refine ⟨Below.refl _ _,λnQ gR adX=> ?_⟩;obtain ⟨hF,lq,hM⟩:=adX;have zr:=gR.size;have hc:=aa6 hx;have eV:=aU hc;have lr:=N5 hb hd _ eV;have z57:=hM.size;have ht:(cN b ax (kN d)).take (n+1)=(cN b ax (kN d)).take n++ [(mJ,iT)]:=by rw [dP,hc];rfl
  have zd:=mN nQ;have auv:Tl v V nQ.drew:=by obtain ⟨D,hD1,hD2⟩:=hV;refine ⟨D,λi hi=>by have:=hD1 i hi;have:=QG.size;omega,λw' hk=>hD2 w' λi hi=>(hk i hi).trans ?_⟩;have:=hD1 i hi;have:=QG.size;exact (hM.same i ab ab).trans (QG.heap ab)
  refine (R3 b ax mJ (by simp only at lr;unfold bT;omega) nQ.drew).mono ?_;rintro e nN ⟨rfl,my⟩;have z60:=my.size;have adY:=hM.trans (Mod.aH ((Ext.dr nQ).tr my));refine ⟨_,_,_,_,_,_,rfl,my.heap ab,my.heap ab,my.heap ab,my.heap ab,my.heap ab,Lo.wv (adY.row r9 ab),(od (auv.ext my) hv (lf b ax mJ)).mono ?_⟩;rintro e jk ⟨rfl,ov⟩;have z62:=ov.size;have QI:=adY.trans (Mod.aH ov);refine ⟨_,rfl,ov.heap ab,ov.heap ab,ov.heap ab,ov.heap ab,ov.heap ab,Br.mk (λhq=>λtX Zz Ix ZA=> ?_) (λhq=> ?_)⟩
  ·have hax2:eE V aC b ax d=(iT,true):=by
    unfold eE;have hf:(cN b ax (kN d)).find? (λx=>g9 V (lf b ax x.1) aC)=some (mJ,iT):=by
     have hsplit:cN b ax (kN d)=(cN b ax (kN d)).take n++(mJ,iT)::(cN b ax (kN d)).drop (n+1):=by
      have h1:=qP n (cN b ax (kN d));have h2:(cN b ax (kN d)).drop n=(mJ,iT)::(cN b ax (kN d)).drop (n+1):=by have hl:=(cK.1 hc);rw [zM hl.1,hl.2]
      rw [h2] at h1;exact h1.symm
     rw [hsplit,List.find?_append,CR.2 λx hx=>by rw [lq x hx];decide];simp [hq]
    rw [hf]
   have auh:Ix.heap.size=jk.heap.size:=by rw [ZA,setRow_size,Zz,setRow_size]
   have ak8:∀i,i≠w2.heap.size->i≠w3.heap.size->Ix.heap[i]? =jk.heap[i]? :=λi h1 h2=>by rw [ZA,setRow_other _ _ _ _ h2,Zz,setRow_other _ _ _ _ h1]
   have adZ:Mod (λi=>i=w2.heap.size\/i=w3.heap.size) jk Ix:=⟨by rw [ZA,Zz];rfl,by rw [ZA,Zz];rfl,by rw [ZA,Zz];rfl,by omega,λi _ hn=>ak8 i (λq=>hn (.inl q)) (λq=>hn (.inr q))⟩;refine ⟨rfl,λ_=>False,⟨rfl,rfl,rfl,λi h=>h,hax2.symm,(QI.mono λi _ h=> .inr (.inr h)).trans (adZ.mono λi _ h=>h.elim .inl λh=> .inr (.inl h))⟩,?_⟩;have Hz:=((Mod.aH (F:=λi=>i=w2.heap.size\/i=w3.heap.size) (((Ext.dr nQ).tr my).tr ov))).trans adZ;refine Step.late ⟨λi hi=> ?_,Hz.size,λi hi hn=>Hz.same i hi λq=>hn (.inr ?_)⟩
   ·rcases hi with h|h
    ·exact h.elim
    ·exact .inl (.inr h)
   ·rcases q with rfl|rfl<;>simp
  ·have QJ:=((Ext.dr nQ).tr my).tr ov;refine ⟨λ_=>False,⟨rfl,rfl,rfl,λi h=>h,λc hc=> ?_,QI⟩,Step.late ⟨λi hi=> ?_,QJ.size,λi hi _=>QJ.block i hi⟩⟩
   ·rw [ht,c5] at hc;rcases hc with hc|hc
    ·exact lq c hc
    ·rw [gU.1 hc];exact hq
   ·rcases hi with h|h
    ·exact h.elim
    ·exact .inl (.inr h)
 ·rintro F us y70 b73 nt ⟨hF,lq,hM⟩ Ud sN ZB kL e76;have z74:=hM.size;have dD:(sr b ax (kN d)).length=(cN b ax (kN d)).length:=by unfold sr;simp
  rw [dD,ja] at lq;have hax2:eE V aC b ax d=(kN d,false):=by unfold eE;rw [CR.2 λx hx=>by rw [lq x hx];decide]
  rw [hax2];refine ⟨by rw [e76,setRow_other _ _ _ _ ab,ZB,setRow_other _ _ _ _ ab];exact Ud,λvd gR=>⟨rfl,?_⟩⟩;have wh:Ext w nt:=hM.ext QG λi hi=>by have:=QG.size;omega
  have yB:Ext w kL:=(wh.ag ZB ab).ag e76 ab;exact (Mod.sm gR).ext yB λi hi=>by have:=QG.size;omega
 ·rintro F us y80 b83 LS ⟨hF,hax2,hM⟩ Ud;rw [<-hax2];refine ⟨Ud,λw85 gR=>⟨rfl,?_⟩⟩;have B8:Ext w LS:=hM.ext QG λi hi=>by have:=QG.size;omega
  exact (Mod.sm gR).ext B8 λi hi=>by have:=QG.size;omega
def pa{v:Value}{V:Ce->Int}{w:World}(hV:Tl v V w)(hv:kU v=[])(b:Bx)(hb:bY b 100000000000000)(ax d:Int)(VJ:0<=ax/\ax<3):
  ah 275 #[v,qS b,ax,d] w λe w'=>e=Value.tuple #[qS (cw V aC b ax d).1,.bool (cw V aC b ax d).2]/\Ext w w':=by
 apply M3.vc;intro w0 e0 w1 e1;have x0:=aT e0;have z0:=zA e0;have r0:Row w0 w (pK b) fQ:=Row.nw e0;have x1:=aT e1;have z1:=zA e1;refine (Sf (hV.ext (x0.tr x1)) hv b hb ax d VJ).mono ?_;rintro e w2 ⟨rfl,x2⟩;have z2:=x2.size;have zd:=mN w2;refine ⟨_,_,rfl,x2.heap ab,x2.heap ab,(jd (0,0,0) ax (eE V aC b ax d).1 w2.drew).mono ?_⟩;rintro e w5 ⟨rfl,x5⟩;have z5:=x5.size;refine ⟨_,_,_,rfl,x5.heap ab,x5.heap ab,Lo.wv (r0.ext (x1.tr (x2.tr ((Ext.dr w2).tr x5)))),(R2 b (gJ (0,0,0) ax (eE V aC b ax d).1) w5).mono ?_⟩;rintro e w9 ⟨rfl,x9⟩;have z9:=x9.size;exact ⟨_,_,_,_,_,_,rfl,x9.heap ab,x9.heap ab,λcP HM=>⟨rfl,(x0.tr (x1.tr (x2.tr ((Ext.dr w2).tr (x5.tr x9))))).ag HM ab⟩⟩
abbrev Ht:=Bool × Bool × Bool
abbrev hL(h:Ht):LV:=[.bool h.1,.bool h.2.1,.bool h.2.2]
abbrev ko:TypeId:=299
def MQ(h:Ht):One (hL h):=by intro v hv;simp at hv;rcases hv with rfl|rfl|rfl<;>rfl
def pJ{g h o:Nat}(hn:g≠h):bt (dU g o)≠some h:=λq=>hn (Option.some.inj q)
def kM{g h o n:Nat}(hn:g≠h):bt (ae (dU g o) n)≠some h:=by rw [de];exact pJ hn
def Em{wr:World}{gh go gb:Nat}{h:Ht}{cs:LV}(rh:Row wr gh (hL h) ko)(ro:Row wr go cs ko)(hc:cs.length=3)(gy:gh≠go)(h1:gb≠gh)(h2:gb≠go)(c:Array Value):
  af wr.drew (aB gh) 0 (hL h)/\∀gC:World,gC=wr.drew.setRow gb c->af gC (aB gh) 0 (hL h)/\Wr gC (aB go) 3/\∀cV:World,cV=Vc.aK gC (aB go) (hL h)->af cV (aB go) 0 (hL h)/\Mod (λi=>i=gb\/i=go) wr cV:=by
 have xd:=Ext.dr wr;refine ⟨Lo.wv (rh.ext xd),λgC Iu=> ?_⟩;have rh2:Row gC gh (hL h) ko:=(rh.ext xd).same (by rw [Iu];exact setRow_other _ _ _ _ h1.symm);have ro2:Row gC go cs ko:=(ro.ext xd).same (by rw [Iu];exact setRow_other _ _ _ _ h2.symm);have m24:Mod (λi=>i=gb\/i=go) wr gC:=by refine (Mod.aH xd).trans ⟨by rw [Iu];rfl,by rw [Iu];rfl,by rw [Iu];rfl,by rw [Iu,setRow_size];exact aD _,λi _ hn=>by rw [Iu];exact setRow_other _ _ _ _ λq=>hn (.inl q)⟩
 refine ⟨Lo.wv rh2,ro2.wr ab,λcV tV=> ?_⟩;rw [ro2.aK (vs:=hL h) (by rw [hc];exact aD _) (MQ h),ed (by rw [hc];rfl)] at tV;have r25:Row cV go (hL h) ko:=ro2.st tV;exact ⟨Lo.wv r25,m24.trans ⟨by rw [tV];rfl,by rw [tV];rfl,by rw [tV];rfl,by rw [tV,setRow_size];exact aD _,λi _ hn=>by rw [tV];exact setRow_other _ _ _ _ λq=>hn (.inr q)⟩⟩
def MR(V:Ce->Int)(p:Int->Bool)(b:Bx)(d:Ce):Nat->Bx × Ht
 |0=>(b,(false,false,false))
 |1=>((cw V p b 1 d.2.1).1,(false,(cw V p b 1 d.2.1).2,false))
 |2=>((cw V p (cw V p b 1 d.2.1).1 0 d.1).1,((cw V p (cw V p b 1 d.2.1).1 0 d.1).2,(cw V p b 1 d.2.1).2,false))
 |_=>kC V p b d
def afd{V:Ce->Int}{p:Int->Bool}{b:Bx}{d:Ce}{m:Int}(hb:bY b m)(hm:m<=99990000000000){k:Nat}(hk:k<3):bY (MR V p b d k).1 100000000000000:=by
 have up:∀{c:Bx} {a:Int},bY c a->a<=100000000000000->bY c 100000000000000:=λh1 h2=>by unfold bY at h1 ⊢;omega
 have h1:=dS (V:=V) (p:=p) (ax:=1) (d:=d.2.1) hb ab;have h2:=dS (V:=V) (p:=p) (ax:=0) (d:=d.1) h1 ab;have:k=0\/k=1\/k=2:=by omega
 rcases this with rfl|rfl|rfl
 ·exact up hb ab
 ·exact up h1 ab
 ·exact up h2 ab
def Ff{v:Value}{V:Ce->Int}{w:World}(hV:Tl v V w)(hv:kU v=[])(b:Bx){m:Int}(hb:bY b m)(hm:m<=99990000000000)(d:Ce):
  ah 240 #[v,qS b,eg d] w λe w'=>e=Value.tuple #[qS (kC V aC b d).1,.agg (hL (kC V aC b d).2).toArray]/\Ext w w':=by
 apply RA.vc;intro w0 e0 w1 e1 w2 e2 w3 e3 w4 e4;have x0:=aT e0;have z0:=zA e0;have r0:Row w0 w (pK b) fQ:=Row.nw e0;have x1:=aT e1;have z1:=zA e1;have x2:=aT e2;have z2:=zA e2;have x3:=aT e3;have z3:=zA e3;have r3:Row w3 w2 (hL (false,false,false)) ko:=Row.nw e3;have x4:=aT e4;have z4:=zA e4;have r4:Row w4 w3 (hL (false,false,false)) ko:=Row.nw e4;have AW:=x0.tr (x1.tr (x2.tr (x3.tr x4)));refine ⟨λn x a1 a2 a3 a4 a5 a6 wr=>∃k:Nat,x=k/\k+n=3/\a1=(MR V aC b d k).1.1.1/\a2=(MR V aC b d k).1.1.2.1/\a3=(MR V aC b d k).1.1.2.2/\a4=(MR V aC b d k).1.2.1/\a5=(MR V aC b d k).1.2.2.1/\a6=(MR V aC b d k).1.2.2.2/\Row wr w (pK (MR V aC b d k).1) fQ/\Row wr w3 (hL (MR V aC b d k).2) ko/\Row wr w2 (hL (false,false,false)) ko/\Ext w wr,
  ⟨3,rfl,rfl,0,rfl,rfl,rfl,rfl,rfl,rfl,rfl,rfl,r0.ext (x1.tr (x2.tr (x3.tr x4))),r4,r3.ext x4,AW⟩,?_⟩
 rintro n us x a1 a2 a3 a4 a5 a6 wr ⟨k,rfl,hk,rfl,rfl,rfl,rfl,rfl,rfl,hb',hh,ho,xr⟩;have l3:=hh.lt;apply Br.mk<;>intro hc
 ·have hc:=dn hc;have vD:k=0\/k=1\/k=2:=by omega
  have AV:=afd (V:=V) (p:=aC) (d:=d) hb hm (k:=k) ab;obtain ⟨a,ha,ha1,ha2,ha3⟩:∃a:Nat,a<3/\([(1:Int),aa,(2:Int)]:LV)[((k:Nat):Int).toNat*1]? =some (.int .i64 (a:Int))/\(MR V aC b d (k+1)).1=(cw V aC (MR V aC b d k).1 a (bZ d a)).1/\aW (hL (MR V aC b d k).2) a [.bool (cw V aC (MR V aC b d k).1 a (bZ d a)).2]=hL (MR V aC b d (k+1)).2:=by
   rcases vD with rfl|rfl|rfl
   ·exact ⟨1,by decide,rfl,rfl,rfl⟩
   ·exact ⟨0,by decide,rfl,rfl,rfl⟩
   ·exact ⟨2,by decide,rfl,rfl,rfl⟩
  have zd:=mN wr;refine ⟨⟨by omega,by omega⟩,_,ha1,(dt d a wr.drew).mono ?_⟩;rintro e du ⟨rfl,cA⟩;have z18:=cA.size;have anJ:=xr.tr ((Ext.dr wr).tr cA);refine ⟨_,rfl,cA.heap ab,cA.heap ab,cA.heap ab,Lo.wv (hb'.ext ((Ext.dr wr).tr cA)),(pa (hV.ext anJ) hv (MR V aC b d k).1 AV a (bZ d a) ab).mono ?_⟩;rintro e ef ⟨rfl,cW⟩;have z20:=cW.size;have acX:=(Ext.dr wr).tr (cA.tr cW);refine ⟨_,_,_,_,_,_,_,rfl,cW.heap ab,cW.heap ab,cW.heap ab,λgQ e28=> ?_⟩;generalize hy:cw V aC (MR V aC b d k).1 a (bZ d a)=y at*;have rb:Row gQ w (pK y.1) fQ:=by rw [e28];exact Row.set (hb'.ext acX) [_,_,_,_,_,_]
  have rh:Row gQ w3 (hL (MR V aC b d k).2) ko:=(hh.ext acX).same (by rw [e28];exact setRow_other _ _ _ _ ab);have ro:Row gQ w2 (hL (false,false,false)) ko:=(ho.ext acX).same (by rw [e28];exact setRow_other _ _ _ _ ab);have ik:Ext w gQ:=(anJ.tr cW).ag e28 (aD _);have hpp:ae (aB w3.heap.size) (((a:Nat):Int).toNat*1)=ae (aB w3.heap.size) a:=by rw [eC,zc]
  obtain ⟨p1,p2⟩:=rh.jm (j:=a) (v:=.bool y.2) ha rfl;have wk:=nY (j:=k);rw [hpp];refine ⟨by omega,by omega,⟨rfl,p1⟩,kM ab,kM ab,kM ab,λdX Qk=> ?_⟩;obtain ⟨q1,q2⟩:=p2 dX Qk;exact ⟨n-1,by omega,rfl,rfl,k+1,wk,by omega,by rw [ha2],by rw [ha2],by rw [ha2],by rw [ha2],by rw [ha2],by rw [ha2],by rw [ha2];exact rb.same (q2.same _ rb.lt ab),by rw [<-ha3];exact q1,ro.same (q2.same _ ro.lt ab),q2.ext ik λi hi=>by omega⟩
 ·have hc:=dn hc;have vD:k=3:=by omega
  subst vD;obtain ⟨q1,q2⟩:=Em (gb:=w1.heap.size) hh ho rfl ab ab ab _;refine ⟨_,_,_,q1,λeP Zd=> ?_⟩;obtain ⟨q3,q4,q5⟩:=q2 eP Zd;refine ⟨q3,⟨rfl,q4⟩,pJ ab,pJ ab,pJ ab,λiq e34=> ?_⟩;obtain ⟨q6,q7⟩:=q5 iq e34;exact ⟨_,_,_,q6,rfl,q7.ext xr λi hi=>by omega⟩
def JN(a b:Bx)(ha:bY a 100000000000000)(hb:bY b 100000000000000)(w:World):ah 276 #[qS a,qS b] w λe w'=>e=Value.int .i64 (Oy a b)/\Ext w w':=by
 apply RO.vc;intro w0 e0 w1 e1;have x1:Ext w w1.drew:=((aT e0).bg e1).drew;unfold bY at ha hb;rw [aM (n:=b.1.1-a.1.1) (by unfold bT;omega),aM (n:=b.1.2.2-a.1.2.2) (by unfold bT;omega),aM (n:=0-(b.1.1-a.1.1)) (by unfold bT;omega),aM (n:=0-(b.1.2.2-a.1.2.2)) (by unfold bT;omega)];have e1:∀y:Int,(if 0-y>y then 0-y else y)=max y (-y):=λy=>by split<;>omega
 rw [e1,e1,wI];exact ⟨rfl,x1⟩
def stK(h:Ht)(v:Ce):Nat->Ce
 |0=>v
 |1=>if h.1 then gJ v 0 0 else v
 |2=>(λv=>if h.2.1 then gJ v 1 0 else v) (if h.1 then gJ v 0 0 else v)
 |_=>gl h v
def Xv(h:Ht)(v:Ce)(w:World):ah 238 #[.agg (hL h).toArray,eg v] w λe w'=>e=(eg (gl h v))/\Ext w w':=by
 apply Dg.vc;intro w0 e0 w1 e1 w2 e2;have x0:=aT e0;have z0:=zA e0;have r0:Row w0 w (hL h) ko:=Row.nw e0;have x1:=aT e1;have z1:=zA e1;have x2:=aT e2;have z2:=zA e2;have AI:=x0.tr (x1.tr x2);refine ⟨_,_,_,Lo.wv (r0.ext (x1.tr x2)),λn x a1 a2 a3 wr=>∃k:Nat,x=k/\k+n=3/\(a1,a2,a3)=stK h v k/\Ext w wr/\w2.heap.size<=wr,⟨3,rfl,0,rfl,rfl,rfl,AI,aD _⟩,?_⟩;rintro n us x a1 a2 a3 wr ⟨k,rfl,hk,hs,xr,zr⟩;apply Br.mk<;>intro hc
 ·have hc:=dn hc;have vD:k=0\/k=1\/k=2:=by omega
  obtain ⟨r,hr1,qE⟩:∃r:Bool,([.bool h.1,.bool h.2.1,.bool h.2.2]:LV)[((k:Nat):Int).toNat*1]? =some (.bool r)/\stK h v (k+1)=if r then gJ (stK h v k) k 0 else stK h v k:=by
   rcases vD with rfl|rfl|rfl
   ·exact ⟨h.1,rfl,rfl⟩
   ·exact ⟨h.2.1,rfl,rfl⟩
   ·exact ⟨h.2.2,rfl,rfl⟩
  have wk:=nY (j:=k);refine ⟨⟨by omega,by omega⟩,r,hr1,Br.mk (λhq=>(jd (a1,a2,a3) k 0 wr).mono ?_) (λhq=> ?_)⟩
  ·rintro e cP ⟨rfl,cp⟩;have z16:=cp.size;refine ⟨_,_,_,rfl,cp.heap ab,cp.heap ab,λef VM=>⟨n-1,by omega,rfl,k+1,wk,by omega,?_,(xr.tr cp).ag VM ab,by rw [zR VM];omega⟩⟩;rw [qE,hq,if_pos rfl,<-hs]
  ·exact ⟨n-1,by omega,rfl,k+1,wk,by omega,by rw [qE,hq,if_neg aG,<-hs],xr,zr⟩
 ·have hc:=dn hc;have vD:k=3:=by omega
  subst vD;intro eU HE;have hs:(a1,a2,a3)=gl h v:=hs;refine ⟨by rw [<-hs],xr.ag HE ab⟩
def qg{b:Bx}{m n:Int}(h:bY b m)(hmn:m<=n):bY b n:=by unfold bY at h ⊢;omega
set_option maxHeartbeats 1000000 in
def SR{v:Value}{V:Ce->Int}{w:World}(hV:Tl v V w)(hv:kU v=[])(b:Bx){m:Int}(hb:bY b m)(hm:m<=99980000000000)(d:Ce)(up:Int):
  ah 236 #[v,qS b,eg d,up] w λe w'=>e=Value.tuple #[qS (gG V aC b d up).1,.agg (hL (gG V aC b d up).2).toArray]/\Ext w w':=by
 apply RP.vc;have hup:(if 65536<up then 65536 else up)=min up 65536:=by split<;>omega
 rw [hup];intro w0 e0 w1 e1 w2 e2 w3 e3;have x0:=aT e0;have z0:=zA e0;have r0:Row w0 w (pK b) fQ:=Row.nw e0;have x1:=aT e1;have z1:=zA e1;have r1:Row w1 w0 (dO d) ic:=Row.nw e1;have x2:=aT e2;have z2:=zA e2;have x3:=aT e3;have z3:=zA e3;have r3:Row w3 w2 (hL (false,false,false)) ko:=Row.nw e3;have B5:=x0.tr (x1.tr (x2.tr x3));refine (Ff (hV.ext B5) hv b hb ab d).mono ?_;rintro e w4 ⟨rfl,x4⟩;have z4:=x4.size;have hpn:=KP (V:=V) (p:=aC) (d:=d) hb ab;have hstep:gG V aC b d up=(if ((!(kC V aC b d).2.1 && !(kC V aC b d).2.2.2)||decide (up<=0)|| !g9 V (iZ b) aC)=true then kC V aC b d else if Oy b (cw V aC (cw V aC (cw V aC (cw V aC b 1 (min up 65536)).1 0 d.1).1 2 d.2.2).1 1 (-((cw V aC b 1 (min up 65536)).1.1.2.1-b.1.2.1))).1<=Oy b (kC V aC b d).1 then kC V aC b d else ((cw V aC (cw V aC (cw V aC (cw V aC b 1 (min up 65536)).1 0 d.1).1 2 d.2.2).1 1 (-((cw V aC b 1 (min up 65536)).1.1.2.1-b.1.2.1))).1,((cw V aC (cw V aC b 1 (min up 65536)).1 0 d.1).2,true,(cw V aC (cw V aC (cw V aC b 1 (min up 65536)).1 0 d.1).1 2 d.2.2).2))):=rfl;generalize kC V aC b d=mv at*;refine ⟨_,_,_,_,_,_,_,_,_,rfl,x4.heap ab,x4.heap ab,x4.heap ab,λbJ vE eu pQ cP HM=> ?_⟩;have bW:=aT vE;have Y9:=zA vE;have cD:=aT pQ;have z15:=zA pQ;have r15:Row eu bJ (hL (false,false,false)) ko:=Row.nw pQ;have z16:=zR HM;have r16:Row cP bJ (hL (false,false,false)) ko:=r15.same (by rw [HM];exact setRow_other _ _ _ _ ab);have au9:Row cP w4 (pK mv.1) fQ:=by rw [HM];exact Row.set ((by rw [vE];exact Row.new w4 [_,_,_,_,_,_] _:Row bJ w4 _ fQ).ext cD) [_,_,_,_,_,_]
 have cp:Ext w4 cP:=(bW.tr cD).ag HM (aD _);refine ⟨⟨rfl,r16.wr cj⟩,pJ ab,pJ ab,pJ ab,pJ ab,λcJ yr=> ?_⟩;rw [r16.aK (vs:=hL mv.2) cj (MQ _),ed cj] at yr;have rh:Row cJ bJ (hL mv.2) ko:=r16.st yr;have z17:=zR yr;have cZ:Ext w4 cJ:=cp.ag yr ab;have rp:Row cJ w4 (pK mv.1) fQ:=au9.same (by rw [yr];exact setRow_other _ _ _ _ ab);have ahn:=B5.tr (x4.tr cZ);have api:=x1.tr (x2.tr (x3.tr (x4.tr cZ)));have ro:Row cJ w2 (hL (false,false,false)) ko:=r3.ext (x4.tr cZ);have rb:=r0.ext api;have rd:=r1.ext (x2.tr (x3.tr (x4.tr cZ)));have plain:∀wr:World,Ext cJ wr->gG V aC b d up=mv->∃(Mh:Bool)(b22:Bool)(Cd:Bool),af wr.drew (aB bJ.heap.size) 0 [.bool Mh,b22,Cd]/\
   ∀gC:World,gC=wr.drew.setRow w1 #[mv.1.1.1,mv.1.1.2.1,mv.1.1.2.2,mv.1.2.1,mv.1.2.2.1,mv.1.2.2.2]->
   af gC (aB bJ.heap.size) 0 [.bool Mh,b22,Cd]/\(true=true/\Wr gC (aB w2.heap.size) 3)/\bt (aB w2.heap.size)≠some w.heap.size/\bt (aB w2.heap.size)≠some w0.heap.size/\bt (aB w2.heap.size)≠some w1.heap.size/\bt (aB w2.heap.size)≠some w4.heap.size/\(∀cV:World,cV=Vc.aK gC (aB w2.heap.size) [.bool Mh,b22,Cd]->
   ∃(Hm:Bool)(B7:Bool)(Q4:Bool),af cV (aB w2.heap.size) 0 [.bool Hm,B7,Q4]/\
   (Ending.returned (.tuple #[.agg #[mv.1.1.1,mv.1.1.2.1,mv.1.1.2.2,mv.1.2.1,mv.1.2.2.1,mv.1.2.2.2],.agg #[Hm,B7,Q4]])=Value.tuple #[qS (gG V aC b d up).1,.agg (hL (gG V aC b d up).2).toArray]/\Ext w cV)):=λwr x g7=>by
  have zx:=x.size;obtain ⟨q1,q2⟩:=Em (gb:=w1.heap.size) (rh.ext x) (ro.ext x) rfl ab ab ab #[mv.1.1.1,mv.1.1.2.1,mv.1.1.2.2,mv.1.2.1,mv.1.2.2.1,mv.1.2.2.2];refine ⟨_,_,_,q1,λgC Iu=> ?_⟩;obtain ⟨q3,q4,q5⟩:=q2 gC Iu;refine ⟨q3,⟨rfl,q4⟩,pJ ab,pJ ab,pJ ab,pJ ab,λcV tV=> ?_⟩;obtain ⟨q6,q7⟩:=q5 cV tV;exact ⟨_,_,_,q6,by rw [g7],q7.ext (ahn.tr x) λi hi=>by omega⟩
 have g7:∀wr:World,Ext cJ wr->Tl v V wr:=λwr x=>hV.ext (ahn.tr x)
 refine ⟨λwj=>Ext cJ wj/\¬((!mv.2.1 && !mv.2.2.2)||decide (up<=0)|| !g9 V (iZ b) aC)=true,?_,?_⟩
 ·refine ⟨by decide,by decide,mv.2.1,rh.at 0 rfl,Br.mk (λq1=>⟨by decide,by decide,mv.2.2.2,rh.at 2 rfl,Br.mk (λq2=>plain cJ (Ext.cu _) (by rw [hstep,if_pos (by rw [q1,q2];rfl)])) (λq2=> ?_)⟩) (λq1=> ?_)⟩
  all_goals
   have hcf:(!mv.2.1 && !mv.2.2.2)=false:=by first|rw [q2,Bool.and_false]|rw [q1,CP]
   refine Br.mk (λq3=>plain cJ (Ext.cu _) (by rw [hstep,if_pos (by rw [hcf,q3];rfl)])) (λq3=>(mT (g7 cJ (Ext.cu _)) hv b).mono ?_)
   rintro e iN ⟨rfl,gx⟩
   exact ⟨_,rfl,gx.heap ab,gx.heap ab,gx.heap ab,gx.heap ab,Br.mk (λq4=>plain iN gx (by rw [hstep,if_pos (by rw [hcf,q3,q4];rfl)])) (λq4=>⟨rfl,rfl,rfl,rfl,gx,by rw [hcf,q3,q4];decide⟩)⟩
 ·rintro us rI ⟨nR,hn⟩;rw [if_neg hn] at hstep;have z66:=nR.size;have n1:=dS (V:=V) (p:=aC) (ax:=1) (d:=min up 65536) hb ab;refine (pa (g7 rI nR) hv b (qg hb ab) 1 (min up 65536) aG).mono ?_;rintro e lC ⟨rfl,pB⟩;have z67:=pB.size;have n2:=dS (V:=V) (p:=aC) (ax:=0) (d:=d.1) n1 ab;have n3:=dS (V:=V) (p:=aC) (ax:=2) (d:=d.2.2) n2 ab;have n4:=dS (V:=V) (p:=aC) (ax:=1) (d:= -((cw V aC b 1 (min up 65536)).1.1.2.1-b.1.2.1)) n3 ab;refine ⟨_,_,_,_,_,_,_,rfl,pB.heap ab,pB.heap ab,pB.heap ab,pB.heap ab,λsN ZB kL e76 vd e77=> ?_⟩;generalize cw V aC b 1 (min up 65536)=hi at*;have z75:=zA ZB;have z76:=zR e76;have z77:=zA e77;have rhi:Row kL lC (pK hi.1) fQ:=by rw [e76];exact Row.set (by rw [ZB];exact Row.new lC [_,_,_,_,_,_] _) [_,_,_,_,_,_]
  have alv:Row vd kL (hL (false,false,false)) ko:=Row.nw e77;have HL:Ext lC vd:=((aT ZB).ag e76 (aD _)).bg e77;have rhi:=rhi.ext (aT e77);refine ⟨⟨rfl,alv.wr cj⟩,pJ ab,pJ ab,pJ ab,pJ ab,pJ ab,λqm e78 Z1 e79 vG e80=> ?_⟩;rw [alv.aK (vs:=hL (false,true,false)) cj (MQ (false,true,false)),ed cj] at e78;have z78:=zR e78;have avc:Row qm kL (hL (false,true,false)) ko:=alv.st e78;have rhi:=rhi.so e78;have Ea:Ext lC qm:=HL.ag e78 ab;have z79:=zA e79;have z80:=zR e80;have aed:Ext qm vG:=(aT e79).ag e80 (aD _);have avd:Row vG qm (pK hi.1) fQ:=by rw [e80];exact Row.set (by rw [e79];exact Row.new qm [_,_,_,_,_,_] _) [_,_,_,_,_,_]
  have ave:=avc.ext aed;have apk:=nR.tr (pB.tr (Ea.tr aed));refine (pa (g7 vG apk) hv hi.1 (qg n1 ab) 0 d.1 aG).mono ?_;rintro e we ⟨rfl,vF⟩;have z81:=vF.size;refine ⟨_,_,_,_,_,_,_,rfl,vF.heap ab,vF.heap ab,vF.heap ab,vF.heap ab,vF.heap ab,vF.heap ab,λpC e89=> ?_⟩;generalize cw V aC hi.1 0 d.1=ax at*;have z89:=zR e89;have apl:Row pC qm (pK ax.1) fQ:=by rw [e89];exact Row.set (avd.ext vF) [_,_,_,_,_,_]
  have avf:Row pC kL (hL (false,true,false)) ko:=(ave.ext vF).same (by rw [e89];exact setRow_other _ _ _ _ ab);have VE:Ext qm pC:=(aed.tr vF).ag e89 (aD _);obtain ⟨p1,p2⟩:=avf.jm (j:=0) (v:=.bool ax.2) aG rfl;refine ⟨by decide,by decide,⟨rfl,p1⟩,kM ab,kM ab,kM ab,kM ab,kM ab,kM ab,λpD e90=> ?_⟩;obtain ⟨q1,q2⟩:=p2 pD e90;have avg:Row pD kL (hL (ax.2,true,false)) ko:=q1;have avh:=apl.same (q2.same _ apl.lt ab);have z90:=q2.size;have x90:Ext lC pD:=q2.ext (Ea.tr VE) λi hi=>by omega
  refine (pa (g7 pD (nR.tr (pB.tr x90))) hv ax.1 (qg n2 ab) 2 d.2.2 aG).mono ?_;rintro e w91 ⟨rfl,Hu⟩;have z91:=Hu.size;refine ⟨_,_,_,_,_,_,_,rfl,Hu.heap ab,Hu.heap ab,Hu.heap ab,Hu.heap ab,Hu.heap ab,Hu.heap ab,λQ6 e99=> ?_⟩;generalize cw V aC ax.1 2 d.2.2=az at*;have z99:=zR e99;have apn:Row Q6 qm (pK az.1) fQ:=by rw [e99];exact Row.set (avh.ext Hu) [_,_,_,_,_,_]
  have avi:Row Q6 kL (hL (ax.2,true,false)) ko:=(avg.ext Hu).same (by rw [e99];exact setRow_other _ _ _ _ ab);have Kl:Ext lC Q6:=(x90.tr Hu).ag e99 ab;obtain ⟨p1,p3⟩:=avi.jm (j:=2) (v:=.bool az.2) (show 2<3 by decide) rfl;refine ⟨by decide,by decide,⟨rfl,p1⟩,kM ab,kM ab,kM ab,kM ab,kM ab,kM ab,λsO aho=> ?_⟩;obtain ⟨q1,q3⟩:=p3 sO aho;have apo:Row sO kL (hL (ax.2,true,az.2)) ko:=q1;have azi:=apn.same (q3.same _ apn.lt ab);have aCd:=q3.size;have sQ:Ext lC sO:=q3.ext Kl λi hi=>by omega
  have hhi:=n1;have hbb:=hb;unfold bY at hhi hbb;have wr1:ak (hi.1.1.2.1-b.1.2.1)=hi.1.1.2.1-b.1.2.1:=wI;have TR:ak (0-(hi.1.1.2.1-b.1.2.1))= -(hi.1.1.2.1-b.1.2.1):=by rw [wI];omega
  rw [wr1,TR];refine (pa (g7 sO (nR.tr (pB.tr sQ))) hv az.1 (qg n3 ab) 1 (-(hi.1.1.2.1-b.1.2.1)) aG).mono ?_;rintro e Iz ⟨rfl,qB⟩;have aCg:=qB.size;refine ⟨_,_,_,_,_,_,_,rfl,qB.heap ab,qB.heap ab,qB.heap ab,qB.heap ab,qB.heap ab,qB.heap ab,λHo alx=> ?_⟩;generalize cw V aC az.1 1 (-(hi.1.1.2.1-b.1.2.1))=ay at*;have aCh:=zR alx;have apq:Row Ho kL (hL (ax.2,true,az.2)) ko:=(apo.ext qB).same (by rw [alx];exact setRow_other _ _ _ _ ab);have tP:Ext lC Ho:=(sQ.tr qB).ag alx ab;have xd:=Ext.dr Ho;have zd:=mN Ho;have x17d:=nR.tr (pB.tr (tP.tr xd));refine (JN b ay.1 (qg hb ab) (qg n4 ab) Ho.drew).mono ?_;rintro e Hp ⟨rfl,lv⟩;have aCi:=lv.size;refine ⟨_,rfl,lv.heap ab,lv.heap ab,lv.heap ab,lv.heap ab,lv.heap ab,lv.heap ab,Lo.wv (rp.ext (x17d.tr lv)),Lo.wv (rb.ext (x17d.tr lv)),(JN b mv.1 (qg hb ab) (qg hpn ab) Hp).mono ?_⟩;rintro e AQ ⟨rfl,jO⟩;have aCj:=jO.size;have HF:=x17d.tr (lv.tr jO);refine ⟨_,rfl,jO.heap ab,jO.heap ab,jO.heap ab,jO.heap ab,jO.heap ab,jO.heap ab,Br.mk (λq=> ?_) (λq=> ?_)⟩
  ·have q:=dn q;rw [if_pos q] at hstep;rw [hstep];obtain ⟨q1,q2⟩:=Em (gb:=w1.heap.size) (rh.ext HF) (ro.ext HF) rfl ab ab ab #[mv.1.1.1,mv.1.1.2.1,mv.1.1.2.2,mv.1.2.1,mv.1.2.2.1,mv.1.2.2.2];refine ⟨_,_,_,q1,λgC Iu=> ?_⟩;obtain ⟨q3,q4,q5⟩:=q2 gC Iu;refine ⟨q3,⟨rfl,q4⟩,pJ ab,pJ ab,pJ ab,pJ ab,pJ ab,pJ ab,λcV tV=> ?_⟩;obtain ⟨q6,q7⟩:=q5 cV tV;exact ⟨_,_,_,q6,rfl,q7.ext (ahn.tr HF) λi hi=>by omega⟩
  ·have q:=dn q;rw [if_neg q] at hstep;rw [hstep];obtain ⟨q1,q2⟩:=Em (gb:=w1.heap.size) (apq.ext (xd.tr (lv.tr jO))) (ro.ext HF) rfl ab ab ab #[ay.1.1.1,ay.1.1.2.1,ay.1.1.2.2,ay.1.2.1,ay.1.2.2.1,ay.1.2.2.2];refine ⟨_,_,_,q1,λgC Iu=> ?_⟩;obtain ⟨q3,q4,q5⟩:=q2 gC Iu;refine ⟨q3,⟨rfl,q4⟩,pJ ab,pJ ab,pJ ab,pJ ab,pJ ab,pJ ab,λcV tV=> ?_⟩;obtain ⟨q6,q7⟩:=q5 cV tV;exact ⟨_,_,_,q6,rfl,q7.ext (ahn.tr HF) λi hi=>by omega⟩
def ajZ(n:Int):(if 70368744177664<(if (-70368744177664)>n then (-70368744177664) else n) then 70368744177664 else (if (-70368744177664)>n then (-70368744177664) else n))=Ar n:=by
 unfold Ar
 repeat' split
 all_goals omega
def BY(n:Int)(w:World):ah 277 #[n] w λe w'=>e=Value.int .i64 (Ar n)/\w'=w:=by apply Dh.vc;exact ⟨by rw [ajZ],rfl⟩
def J1(b:dE)(d:Ce)(w:World):ah 237 #[Dp b,eg d] w λe w'=>e=(eg (kv b.aE d))/\Ext w w':=by
 apply HX.vc;intro w0 e0 w1 e1 w2 e2;have x0:=aT e0;have z0:=zA e0;have r0:Row w0 w (jQ b) AT:=Row.nw e0;have x1:=aT e1;have z1:=zA e1;have x2:=aT e2;have z2:=zA e2;refine (jt b.aE d w2).mono ?_;rintro e w3 ⟨rfl,x3⟩;have z3:=x3.size;refine ⟨_,_,_,rfl,x3.heap ab,x3.heap ab,x3.heap ab,λw7 e7 w8 e8=> ?_⟩;have x8:Ext w3 w8.drew:=((aT e7).ag e8 (aD _)).drew;have z8:w8.drew.heap.size=w3.heap.size+1:=by show w8.heap.size=_;rw [zR e8,zA e7]
 have r8:Row w8.drew w3 (dO (jK b.aE d)) ic:=(by rw [e8];exact Row.set (by rw [e7];exact Row.new w3 [_,_,_] _) [_,_,_]:Row w8 w3 _ ic).ext (Ext.dr w8);have rb:=r0.ext (x1.tr (x2.tr (x3.tr x8)));refine (BY (jK b.aE d).1 w8.drew).mono ?_;rintro e w9 ⟨rfl,rfl⟩;refine ⟨_,rfl,rfl,rfl,rfl,rfl,sh rb rfl rfl rfl,nJ r8 rfl,nJ r8 rfl,(BY (jK b.aE d).2.1 w8.drew).mono ?_⟩;rintro e bc ⟨rfl,rfl⟩;refine ⟨_,rfl,rfl,rfl,rfl,rfl,sh rb rfl rfl rfl,nJ r8 rfl,(BY (jK b.aE d).2.2 w8.drew).mono ?_⟩;rintro e bG ⟨rfl,rfl⟩;refine ⟨_,rfl,rfl,rfl,rfl,rfl,sh rb rfl rfl rfl,(vr (Ar (jK b.aE d).1,Ar (jK b.aE d).2.1,Ar (jK b.aE d).2.2) b.aE w8.drew).mono ?_⟩;rintro e eu ⟨rfl,cD⟩;have z15:=cD.size;exact ⟨_,_,_,rfl,cD.heap ab,cD.heap ab,cD.heap ab,cD.heap ab,λgn e19=>⟨rfl,(x0.tr (x1.tr (x2.tr (x3.tr (x8.tr cD))))).ag e19 ab⟩⟩
abbrev El:=Int × Int × Bool
abbrev inV(i:El):Value:=.agg #[i.1,i.2.1,.bool i.2.2]
abbrev inL(i:El):LV:=[.int .i64 i.1,.int .i64 i.2.1,.bool i.2.2]
abbrev af7:TypeId:=109
def pn(b:dE)(i:El):dE:={b with speed:=(zC i.1,b.speed.2.1,zC i.2.1)}
def Th(b:dE)(v:Value)(i:El)(w:World):ah 166 #[Dp b,v,inV i] w λe w'=>e=(Dp (pn b i))/\Ext w w':=by apply Dj.vc;intro w0 e0 w1 e1 w2 e2;have x0:=aT e0;have z0:=zA e0;have x1:=aT e1;have z1:=zA e1;have r1:Row w1 w0 (inL i) af7:=Row.nw e1;have x2:Ext w1 w2.drew:=(aT e2).drew;have z2:w2.drew.heap.size=w1.heap.size+1:=(zA e2:w2.heap.size=_);refine (CK i.1 w2.drew).mono ?_;rintro e w3 ⟨rfl,x3⟩;have z3:=x3.size;refine ⟨_,rfl,x3.heap ab,x3.heap ab,x3.heap ab,nJ (r1.ext (x2.tr x3)) rfl,(CK i.2.1 w3).mono ?_⟩;rintro e w5 ⟨rfl,x5⟩;have z5:=x5.size;exact ⟨_,rfl,x5.heap ab,x5.heap ab,x5.heap ab,λw7 e7 w8 e8 w9 e9=>⟨rfl,((((x0.tr (x1.tr (x2.tr (x3.tr x5)))).ag e7 ab).ag e8 ab).ag e9 ab)⟩⟩
def wN(n jump less least:Int)(j:Bool):Int:=if j then jump else max (n-less) (-least)
def lP(V:Ce->Int)(b:dE)(i:El):dE:=
 if g9 V b.box (λx=>x==4)=true then {b with speed:=(b.speed.1,wN b.speed.2.1 8192 4096 8192 i.2.2,b.speed.2.2)}
 else if g9 V b.box qU=true then {b with speed:=(b.speed.1,wN b.speed.2.1 6144 1024 8192 i.2.2,b.speed.2.2)}
 else {b with speed:=(b.speed.1,wN b.speed.2.1 28672 4096 262144 (i.2.2 && g9 V (iZ b.box) aC),b.speed.2.2)}
def vy(b:dE)(jump less least:Int)(j:Bool){gb gp gi:Nat}{w:World}{τ:TypeId}{i:El}(hb:Row w gb (jQ b) AT)(hp:Row w gp [.pointer (dU gb 4)] τ)(hi:Row w gi [i.1,i.2.1,j] af7)(hs:bT (b.speed.2.1-less))(hl:0<=least/\least<=1000000)(hn:gb≠gp/\gb≠gi):
  ah 233 #[jump,less,least,gp,gi] w λe w'=>e=ug/\Row w' gb (jQ {b with speed:=(b.speed.1,wN b.speed.2.1 jump less least j,b.speed.2.2)}) AT/\Mod (λk=>k=gb) w w':=by
 apply zk.vc;have xd:=Ext.dr w;have hb':=hb.ext xd;have hp':=hp.ext xd;have e1:ak (b.speed.2.1-less)=b.speed.2.1-less:=aM hs;have e2:ak (0-least)= -least:=by rw [wI];omega
 have e3:(if -least>b.speed.2.1-less then -least else b.speed.2.1-less)=max (b.speed.2.1-less) (-least):=by split<;>omega
 refine ⟨_,hp'.at 0 rfl,_,hp'.at 0 rfl,gT rfl ⟨_,hb'.at 4 rfl,gT rfl ?_⟩⟩;rw [e1,e2,e3];obtain ⟨p1,p2⟩:=hb'.jm (j:=4) (v:=.int .i64 (max (b.speed.2.1-less) (-least))) (show 4<9 by decide) rfl;refine ⟨⟨rfl,p1⟩,λw3 e3=> ?_⟩;obtain ⟨q1,q2⟩:=p2 w3 e3;have hm:=(Mod.aH (F:=λk=>k=gb) xd).trans q2;have hi3:=(hi.ext xd).same (q2.same _ (hi.ext xd).lt (Ne.symm hn.2));have hp3:=hp'.same (q2.same _ hp'.lt (Ne.symm hn.1));refine ⟨j,hi3.at 2 rfl,?_⟩
 cases j with
 |false=>exact ⟨rfl,q1,hm⟩
 |true=>
  obtain ⟨p3,p4⟩:=q1.jm (j:=4) (v:=.int .i64 jump) (show 4<9 by decide) rfl;refine ⟨_,hp3.at 0 rfl,gT rfl ⟨⟨rfl,p3⟩,λw6 e6=> ?_⟩⟩;obtain ⟨q3,q4⟩:=p4 w6 e6;exact ⟨rfl,q3,hm.trans q4⟩
set_option maxHeartbeats 1000000 in
def Ti{v:Value}{V:Ce->Int}{w:World}(hV:Tl v V w)(hv:kU v=[])(b:dE)(hw:bT b.wd)(hs: -1000000<=b.speed.2.1/\b.speed.2.1<=1000000)(i:El):
  ah 167 #[Dp b,v,inV i] w λe w'=>e=(Dp (lP V b i))/\Ext w w':=by
 apply Dl.vc;intro w0 e0 w1 e1 w2 e2;have x0:=aT e0;have z0:=zA e0;have r0:Row w0 w (jQ b) AT:=Row.nw e0;have x1:=aT e1;have z1:=zA e1;have r1:Row w1 w0 (inL i) af7:=Row.nw e1;have x2:=aT e2;have z2:=zA e2;refine (kD b hw w2).mono ?_;rintro e w3 ⟨rfl,x3⟩;have z3:=x3.size;refine ⟨_,_,_,_,_,_,rfl,x3.heap ab,x3.heap ab,x3.heap ab,λbN AY bc Da cU Km bG DT=> ?_⟩;have Y6:=zA AY;have z11:=zA Da;have z12:=zR Km;have z13:=zR DT;have cn:Ext w3 bG:=(((aT AY).bg Da).ag Km (aD _)).ag DT ab;have rp:∃τ,Row bG bN [.pointer (dU w.heap.size 4)] τ:=⟨_,by
  rw [DT];exact Row.set ((by rw [Da];exact Row.new bN [_] _:Row bc bN _ _).same (by rw [Km];exact setRow_other _ _ _ _ ab)) [_]⟩
 obtain ⟨τ,rp⟩:=rp;have rb:=r0.ext (x1.tr (x2.tr (x3.tr cn)));have ri:=r1.ext (x2.tr (x3.tr cn));have xw:=x0.tr (x1.tr (x2.tr (x3.tr cn)));have fin:∀{cP:World} {b':dE},Row cP w (jQ b') AT->Ext w cP->∃(cZ:Int)(cA:Int)(cr:Int)(cW:Int)(dh:Int)(dJ:Int)(dA:Int)(eG:Int)(Mn:Bool),af cP (aB w.heap.size) 0 [cZ,cA,cr,cW,dh,dJ,dA,eG,Mn]/\
   ∀fb:World,fb=cP.setRow w1 #[cZ,cA,cr,cW,dh,dJ,dA,eG,Mn]->(Ending.returned (.agg #[cZ,cA,cr,cW,dh,dJ,dA,eG,Mn])=(Dp b')/\Ext w fb):=λhr x=>⟨_,_,_,_,_,_,_,_,_,Lo.wv hr,λfb yI=>⟨rfl,x.ag yI ab⟩⟩
 unfold lP;refine (Nk (hV.ext xw) hv b.box).mono ?_;rintro e bJ ⟨rfl,bW⟩;have Y9:=bW.size;refine ⟨_,rfl,bW.heap ab,bW.heap ab,Br.mk (λhc=> ?_) (λhc=> ?_)⟩
 ·rw [if_pos hc];refine (vy b 8192 4096 8192 i.2.2 (rb.ext bW) (rp.ext bW) (ri.ext bW) (by unfold bT;omega) aG ⟨by omega,by omega⟩).mono ?_;rintro e cP ⟨rfl,hr,hm⟩;exact ⟨rfl,hm.same _ ab ab,hm.same _ ab ab,fin hr (hm.ext (xw.tr bW) λk hk=>by omega)⟩
 rw [if_neg (by rw [hc];decide)];refine (Ww (hV.ext (xw.tr bW)) hv b.box).mono ?_;rintro e eB ⟨rfl,fD⟩;have z27:=fD.size;have aht:=xw.tr (bW.tr fD);have alH:=rb.ext (bW.tr fD);have alI:=rp.ext (bW.tr fD);have alJ:=ri.ext (bW.tr fD);refine ⟨_,rfl,fD.heap ab,fD.heap ab,Br.mk (λoK=> ?_) (λoK=>⟨_,alJ.at 2 rfl,?_⟩)⟩
 ·rw [if_pos oK];refine (vy b 6144 1024 8192 i.2.2 alH alI alJ (by unfold bT;omega) aG ⟨by omega,by omega⟩).mono ?_;rintro e cP ⟨rfl,hr,hm⟩;exact ⟨rfl,hm.same _ ab ab,hm.same _ ab ab,fin hr (hm.ext aht λk hk=>by omega)⟩
 rw [if_neg (by rw [oK];decide)];have last:∀(j:Bool)(iR:World),Ext eB iR->Wr iR (dU w0.heap.size 2) 1/\∀iH:World,iH=Vc.aK iR (dU w0.heap.size 2) [.bool j]->Row iH w0 [i.1,i.2.1,.bool j] af7/\Mod (λk=>k=w0.heap.size) iR iH:=λj iR kJ=>(alJ.ext kJ).jm (j:=2) (v:=.bool j) (show 2<3 by decide) rfl
 refine Br.mk (λhj=>(mT (hV.ext aht) hv b.box).mono ?_) (λhj=> ?_)
 ·rintro e iR ⟨rfl,kJ⟩;have z41:=kJ.size;rw [hj,pW];generalize g9 V (iZ b.box) aC=st;obtain ⟨p1,p2⟩:=last st iR kJ;refine ⟨_,rfl,kJ.heap ab,kJ.heap ab,p1,pJ ab,pJ ab,λiH e43=> ?_⟩;obtain ⟨q1,q2⟩:=p2 iH e43;have z43:=q2.size;refine (vy (i:=i) b 28672 4096 262144 st ((alH.ext kJ).same (q2.same _ ab ab)) ((alI.ext kJ).same (q2.same _ ab ab)) q1 (by unfold bT;omega) aG ⟨by omega,by omega⟩).mono ?_;rintro e cP ⟨rfl,hr,hm⟩;exact ⟨rfl,hm.same _ ab ab,hm.same _ ab ab,fin hr (hm.ext (q2.ext (aht.tr kJ) λk hk=>by omega) λk hk=>by omega)⟩
 ·rw [hj,CP];obtain ⟨p1,p2⟩:=last false eB (Ext.cu _);refine ⟨p1,pJ ab,pJ ab,λiH e43=> ?_⟩;obtain ⟨q1,q2⟩:=p2 iH e43;have z43:=q2.size;refine (vy (i:=i) b 28672 4096 262144 false (alH.same (q2.same _ ab ab)) (alI.same (q2.same _ ab ab)) q1 (by unfold bT;omega) aG ⟨by omega,by omega⟩).mono ?_;rintro e cP ⟨rfl,hr,hm⟩;exact ⟨rfl,hm.same _ ab ab,hm.same _ ab ab,fin hr (hm.ext (q2.ext aht λk hk=>by omega) λk hk=>by omega)⟩
end Go.Proofs.YtkkkfkopcfdmaaaGreatDoor
