import Derived.Test.YtjcnjlaelhdjeaaGreatDoorG
import Derived.Test.YtjcnjlaelhdjeaaGreatDoorD
set_option linter.all false
namespace Go.Proofs.YtjcnjlaelhdjeaaGreatDoor
open Go Go.Vc Go.RowKit Go.Proofs Go.cC Go.aO Go.Code Go.fi Go.fL Go.iZ
set_option maxRecDepth 100000
set_option maxHeartbeats 8000000
abbrev oo(b:Bx):List (LV):=(kx b).map λc=> [gg c]
abbrev adj(g:Nat):Value:=.func (.func 377) #[] #[g]
def Y4(b:Bx)(g:Nat)(W0:World)(hb:Row W0 g (pL b) fX):Iter Tryz.prog (adj g) W0 (λi=>i=g) (oo b):=by
 refine ⟨⟨_,_,_,rfl,by kernel_rfl⟩,?_⟩;intro y B J Jx F0 W hB hsJ hsX yJ hRd hround h0;refine bV (by kernel_rfl) (by rfl) ?_;apply N1.vc;have hbW:Row W g (pL b) fX:=hb.same (hRd g rfl).2.2;refine ⟨_,_,_,_,_,_,Lo.wv hbW,(YQ b W).mono ?_⟩;rintro e w6 ⟨lo,hi,rfl,hsp,x6⟩;refine ⟨_,_,_,_,_,_,_,rfl,λcu yw dj pJ cp CE cM uq=> ?_⟩;have cY:=aV yw;have z14:=fE yw;have dS:Ext w6 cM:=(((cY.ba pJ).af CE (ak _)).af uq aa);have z17:cM.heap.size=w6.heap.size+2:=by rw [uq,setRow_size,CE,setRow_size,pJ];simp [z14]
 have xW:=x6.tr dS;have zW:=xW.size;obtain ⟨Q,hQ⟩:∃Q:Nat->wPp,Q=λk wr=>∃F,J k F wr/\∀i,F i->(F0 i\/cM.heap.size<=i):=⟨_,rfl⟩
 have z6:=x6.size;have hF0:∀i,F0 i->i<w6.heap.size:=λi hi=>gA (yJ _ _ _ h0 i hi) z6
 have init:Q 0 cM:=by rw [hQ];exact ⟨F0,hsJ _ _ _ _ h0 (Below.mono xW hB) λi hi=>xW.heap (yJ _ _ _ h0 i hi),λi hi=> .inl hi⟩
 have round:∀{k:Nat} {wr:World} {x:LV},cM.heap.size<=wr->(oo b)[k]? =some x->Q k wr->bu Tryz.prog y x wr λe w'=>cM.heap.size<=w'.heap.size/\(∀i,i<cM.heap.size->¬F0 i->w'.heap[i]? =wr.heap[i]?)/\((e=true/\Q (k+1) w')\/(e=false/\∃F',Jx () F' w')):=λ{k wr x} hz hx h=>by
  rw [hQ] at h ⊢;obtain ⟨F,hJ,h2⟩:=h;refine bJ (hround _ _ _ _ hx hJ) ?_;have aW:∀{w':World} {F2:Nat->Prop},Step F F2 wr w'->cM.heap.size<=w'.heap.size/\(∀i,i<cM.heap.size->¬F0 i->w'.heap[i]? =wr.heap[i]?):=λgy=>⟨by have:=gy.size;omega,λi hi hn=>gy.same i aa λhf=>(h2 i hf).elim hn aa⟩
  rintro e w' (⟨rfl,F2,Wx,gy⟩|⟨rfl,F2,Wx,gy⟩)
  ·refine ⟨(aW gy).1,(aW gy).2,.inl ⟨rfl,F2,Wx,λi hi=> ?_⟩⟩;rcases gy.sub i hi with hf|hf
   ·exact h2 i hf
   ·exact .inr aa
  ·exact ⟨(aW gy).1,(aW gy).2,.inr ⟨rfl,F2,Wx⟩⟩
 have fin:∀{wr:World},Q (oo b).length wr->∃F',J (oo b).length F' wr:=λh=>by rw [hQ] at h;obtain ⟨F,hJ,-⟩:=h;exact ⟨F,hJ⟩
 have n6:¬F0 w6:=λq=>by have:=hF0 _ q;omega
 have n14:¬F0 cu:=λq=>by have:=hF0 _ q;omega
 have nE:cM.heap.size=w6.heap.size+2:=z17
 cases hspan:wK b with
 |false=>
  have Ep:oo b=[]:=by unfold oo kx;rw [hspan];rfl
  rw [Ep] at fin ⊢;exact ⟨λn x wr=>wr=cM,⟨0,rfl,rfl,rfl⟩,λn us x wr hwr=>by
   subst hwr;exact Br.mk (λh=>by cases h) (λ_=>⟨⟨_,rfl⟩,.inl (fin init)⟩)⟩
 |true=>
  obtain ⟨rfl,rfl⟩:=hsp hspan;have hc:kx b=Mq (bh b.1) (ft b):=by unfold kx;rw [hspan];rfl
  have Ia:∀{jy jz jx:Nat},jy<cm (bh b.1).2.1 (ft b).2.1->jz<cm (bh b.1).2.2 (ft b).2.2->jx<cm (bh b.1).1 (ft b).1->
    (oo b)[(jy*cm (bh b.1).2.2 (ft b).2.2+jz)*cm (bh b.1).1 (ft b).1+jx]? =some [gg ((bh b.1).1+(jx:Int),(bh b.1).2.1+(jy:Int),(bh b.1).2.2+(jz:Int))]:=λh1 h2 h3=>by
   unfold oo;rw [hc,aZ,Xh _ _ h1 h2 h3];rfl
  have db:(oo b).length=cm (bh b.1).2.1 (ft b).2.1*cm (bh b.1).2.2 (ft b).2.2*cm (bh b.1).1 (ft b).1:=by unfold oo;rw [aJ,hc,ade]
  obtain ⟨⟨a1,a2⟩,⟨a3,a4⟩,a5,a6⟩:=vH b.1;obtain ⟨⟨b1,b2⟩,⟨b3,b4⟩,b5,b6⟩:=Xe b;generalize oo b=xs at*;generalize bh b.1=a at*;generalize ft b=z at*;have hny:∀j:Nat,a.2.1+(j:Int)<=z.2.1 ↔ j<cm a.2.1 z.2.1:=λj=>by unfold cm;omega
  have hnz:∀j:Nat,a.2.2+(j:Int)<=z.2.2 ↔ j<cm a.2.2 z.2.2:=λj=>by unfold cm;omega
  have hnx:∀j:Nat,a.1+(j:Int)<=z.1 ↔ j<cm a.1 z.1:=λj=>by unfold cm;omega
  have hmy:cm a.2.1 z.2.1<=4294967297:=by unfold cm;omega
  have hmz:cm a.2.2 z.2.2<=4294967297:=by unfold cm;omega
  have hmx:cm a.1 z.1<=4294967297:=by unfold cm;omega
  generalize cm a.2.1 z.2.1=ny at*;generalize cm a.2.2 z.2.2=nz at*;generalize cm a.1 z.1=nx at*;refine ⟨λn v wr=>∃jy:Nat,v=a.2.1+jy/\jy+n=ny/\Q (jy*nz*nx) wr/\cM.heap.size<=wr,⟨ny,rfl,rfl,0,aa,aa,by rw [Nat.zero_mul,Nat.zero_mul];exact init,ak _⟩,?_⟩;rintro n2 us3 v dt ⟨jy,rfl,hjy,hq,zr⟩;refine Br.mk (λ_=>Br.mk (λhc1=> ?_) (λhc1=> ?_)) (λh=>by cases h)
  ·replace hc1:=lT hc1;have ly:=(hny jy).1 hc1;refine ⟨λn v wr=>∃jz:Nat,v=a.2.2+jz/\jz+n=nz/\Q ((jy*nz+jz)*nx) wr/\cM.heap.size<=wr,⟨nz,rfl,rfl,0,aa,aa,by rw [Nat.add_zero];exact hq,zr⟩,?_⟩;rintro n10 azq v jI ⟨jz,rfl,hjz,hq,zr⟩;apply Br.mk<;>intro nG
   ·replace nG:=lT nG;have lz:=(hnz jz).1 nG;refine ⟨λn v wr=>∃jx:Nat,v=a.1+jx/\jx+n=nx/\Q ((jy*nz+jz)*nx+jx) wr/\cM.heap.size<=wr,⟨nx,rfl,rfl,0,aa,aa,by rw [Nat.add_zero];exact hq,zr⟩,?_⟩;rintro n18 azt v ky ⟨jx,rfl,hjx,hq,zr⟩;apply Br.mk<;>intro K9
    ·replace K9:=lT K9;have lx:=(hnx jx).1 K9;refine bJ (round zr (Ia ly lz lx) hq) ?_;have wk:aC (a.1+(jx:Int)+1)=a.1+((jx+1:Nat):Int):=by rw [wI];omega
     rintro e ox ⟨z36,k36,q⟩;have k1:=k36 w6 aa n6;have k2:=k36 cu aa n14;rcases q with ⟨rfl,hq2⟩|⟨rfl,hx2⟩
     ·exact ⟨true,rfl,k1,k2,Br.mk (λh=>by cases h) (λ_=>⟨n18-1,aa,rfl,rfl,jx+1,wk,aa,hq2,z36⟩)⟩
     ·exact ⟨false,rfl,k1,k2,Br.mk (λ_=>⟨⟨_,rfl⟩,.inr hx2⟩) (λh=>by cases h)⟩
    ·replace K9:=l6 K9;have e:jx=nx:=by have:=mt (hnx jx).2 K9;omega
     subst e;have wk:aC (a.2.2+(jz:Int)+1)=a.2.2+((jz+1:Nat):Int):=by rw [wI];omega
     refine ⟨n10-1,aa,rfl,rfl,jz+1,wk,aa,?_,zr⟩;have:(jy*nz+(jz+1))*jx=(jy*nz+jz)*jx+jx:=by rw [<-Nat.add_assoc,pZ _ 1,Nat.one_mul]
     rw [this];exact hq
   ·replace nG:=l6 nG;have e:jz=nz:=by have:=mt (hnz jz).2 nG;omega
    subst e;have wk:aC (a.2.1+(jy:Int)+1)=a.2.1+((jy+1:Nat):Int):=by rw [wI];omega
    refine ⟨n2-1,aa,rfl,rfl,jy+1,wk,aa,?_,zr⟩;rw [pZ jy 1,Nat.one_mul];exact hq
  ·replace hc1:=l6 hc1;have e:jy=ny:=by have:=mt (hny jy).2 hc1;omega
   subst e;rw [<-db] at hq;exact ⟨⟨_,rfl⟩,.inl (fin hq)⟩
def UO(b:Bx)(w:World):ae 357 #[xq b] w λe w'=>e=(adj w)/\Row w' w (pL b) fX/\Ext w w':=by apply UP.vc;intro w0 e0;exact ⟨rfl,by rw [e0];exact Row.new w [_,_,_,_,_,_] _,(aV e0)⟩
def Y2{b:Bx}{n:Nat}{x y z:Int}(h:(oo b)[n]? =some [.agg #[.int .i64 x,.int .i64 y,.int .i64 z]]):(kx b)[n]? =some (x,y,z):=by
 unfold oo at h;rw [aZ] at h
 cases hc:(kx b)[n]? with
 |none=>rw [hc] at h;cases h
 |some c=>
  rw [hc] at h;simp only [mV] at h;injection h with h;injection h with h _;injection h with h;injection h with h;injection h with h1 h;injection h with h2 h;injection h with h3 _;injection h1 with _ h1;injection h2 with _ h2;injection h3 with _ h3;exact congrArg some (Prod.ext h1 (Prod.ext h2 h3))
def adk{b:Bx}{c:Ce}(h:c ∈ kx b):qT c:=by
 unfold kx at h;split at h
 ·have h1:=Qa h;have h2:=vH b.1;have h3:=Xe b;unfold qT cT;omega
 ·cases h
def Y3{v:Value}{V:Ce->Int}{w:World}(hV:Tl v V w)(hv:kr v=[])(b:Bx)(fp:Value)(hfp:kr fp=[])(p:Int->Bool)(hp:∀(x:Int)(w':World),bu Tryz.prog fp [.int .i64 x] w' λe w''=>e=Value.bool (p x)/\Ext w' w''):
  ae 317 #[v,xq b,fp] w λe w'=>∃c:Ce,e=Value.tuple #[gg c,.bool (kd V b p)]/\Ext w w':=by
 apply UQ.vc;rw [hv,uw];intro w0 e0 w1 e1;rw [hfp,uw];intro w2 e2 w3 e3 w4 e4;have x0:=aV e0;have z0:=fE e0;have x1:=aV e1;have z1:=fE e1;have x2:=aV e2;have z2:=fE e2;have r2:∃τ,Row w2 w1 [fp] τ:=⟨_,by rw [e2];exact Row.new w1 [_] _⟩;have x3:=aV e3;have z3:=fE e3;have x4:=aV e4;have z4:=fE e4;have E9:=x0.tr (x1.tr (x2.tr (x3.tr x4)));obtain ⟨τ2,r2⟩:=r2;refine (UO b w4).mono ?_;rintro e w5 ⟨rfl,hb5,x5⟩;have z5:=x5.size;have l5:=hb5.lt;have Yd:=E9.tr x5;have r5:=r2.ext (x3.tr (x4.tr x5));refine ⟨_,rfl,x5.heap aa,x5.heap aa,x5.heap aa,x5.heap aa,x5.heap aa,oo b,λi=>i=w4.heap.size,λ_=>False,
  λn F x y z bb w'=>(∀i,¬F i)/\(∀c ∈(kx b).take n,p (V c)=false)/\Mod (λi=>w5.heap.size<=i) w5 w',
  λo F x y z bb w'=>(∀i,¬F i)/\bb=kd V b p/\Mod (λi=>i=w2.heap.size\/i=w3.heap.size\/w5.heap.size<=i) w5 w',?_,?_,?_,λn F x y z bb w' h i hi=>(h.1 i hi).elim,λo F x y z bb w' h i hi=>(h.1 i hi).elim,λi hi=> ?_,λyI vw=> ?_,?_,?_,?_⟩
 ·intro x hx;obtain ⟨c,-,rfl⟩:=bf.1 hx;exact ⟨_,_,_,rfl⟩
 ·rintro n F x y z bb cX dt ⟨h1,h2,h3⟩ kE -;exact ⟨h1,h2,h3.tr ⟨kE.os,kE.tape,kE.output,kE.size,λi hi hn=>kE.block i (C2 hn)⟩ λi hi=> .inl hi⟩
 ·rintro o F x y z bb cX dt ⟨h1,h2,h3⟩ kE -;exact ⟨h1,h2,h3.tr ⟨kE.os,kE.tape,kE.output,kE.size,λi hi hn=>kE.block i (C2 hn)⟩ λi hi=> .inl (.inr (.inr hi))⟩
 ·subst hi;exact ⟨aa,id,aa,aa,aa,aa,aa,trivial⟩
 ·exact ⟨Y4 b _ yI (hb5.same (vw.ext.block _ aa)),rfl,rfl,rfl,λi h=>h,λc hc=>by simp at hc,Mod.aq vw.ext⟩
 ·rintro n F us TS Fb yK b52 nZ CF vR Bk hx hI CD e58 pR TU;have Ie:Ext Bk pR:=(aV e58).af TU (ak _);have z59:pR.heap.size=Bk.heap.size+1:=by rw [TU,setRow_size,e58];simp
  have z56:=hI.2.2.size;refine ⟨Ie,λpI fQ agh=> ?_⟩;obtain ⟨hF,lD,hM⟩:=agh;have zr:=fQ.size;have hc:=Y2 hx;have pV:=aQ hc;have z57:=hM.size;have ht:(kx b).take (n+1)=(kx b).take n++ [(nZ,CF,vR)]:=by rw [dq,hc];rfl
  obtain ⟨D,hD1,hD2⟩:=hV;refine bJ (hD2 pI.drew (λi hi=> ?_) (nZ,CF,vR) (adk pV)) ?_
  ·have:=hD1 i hi;have:=Yd.size;exact (hM.same i aa aa).trans (Yd.heap aa)
  rintro e nX ⟨rfl,rM⟩;have zd:=oa pI;have z60:=rM.size;have agi:=hM.trans (Mod.aq ((Ext.dr pI).tr rM));refine ⟨_,rfl,rM.heap aa,rM.heap aa,rM.heap aa,rM.heap aa,rM.heap aa,rM.heap aa,Lo.wv (agi.row r5 aa),bJ (hp _ nX) ?_⟩;rintro e kz ⟨rfl,rJ⟩;have z62:=rJ.size;have Tq:=agi.trans (Mod.aq rJ);refine ⟨_,rfl,rJ.heap aa,rJ.heap aa,rJ.heap aa,rJ.heap aa,rJ.heap aa,rJ.heap aa,Br.mk (λhq=>λJs e64 OU e65=> ?_) (λhq=> ?_)⟩
  ·have hq:p (V (nZ,CF,vR))=true:=hq;have aol:kd V b p=true:=List.any_eq_true.2 ⟨_,pV,hq⟩;have ax4:OU.heap.size=kz.heap.size:=by rw [e65,setRow_size,e64,setRow_size]
   have aom:∀i,i≠w2.heap.size->i≠w3.heap.size->OU.heap[i]? =kz.heap[i]? :=λi h1 h2=>by rw [e65,setRow_other _ _ _ _ h2,e64,setRow_other _ _ _ _ h1]
   have agj:Mod (λi=>i=w2.heap.size\/i=w3.heap.size) kz OU:=⟨by rw [e65,e64];rfl,by rw [e65,e64];rfl,by rw [e65,e64];rfl,aa,λi _ hn=>aom i (λq=>hn (.inl q)) (λq=>hn (.inr q))⟩;refine ⟨rfl,λ_=>False,⟨rfl,rfl,rfl,λi h=>h,aol.symm,(Tq.mono λi _ h=> .inr (.inr h)).trans (agj.mono λi _ h=>h.elim .inl λh=> .inr (.inl h))⟩,?_⟩;have H0:=((Mod.aq (F:=λi=>i=w2.heap.size\/i=w3.heap.size) (((Ext.dr pI).tr rM).tr rJ))).trans agj;refine Step.late ⟨λi hi=> ?_,H0.size,λi hi hn=>H0.same i hi λq=>hn (.inr ?_)⟩
   ·rcases hi with h|h
    ·exact h.elim
    ·exact .inl (.inr h)
   ·rcases q with rfl|rfl<;>simp
  ·have hq:p (V (nZ,CF,vR))=false:=hq;have Tr:=((Ext.dr pI).tr rM).tr rJ;refine ⟨λ_=>False,⟨rfl,rfl,rfl,λi h=>h,λc hc=> ?_,Tq⟩,Step.late ⟨λi hi=> ?_,Tr.size,λi hi _=>Tr.block i hi⟩⟩
   ·rw [ht,dp] at hc;rcases hc with hc|hc
    ·exact lD c hc
    ·rw [gU.1 hc];exact hq
   ·rcases hi with h|h
    ·exact h.elim
    ·exact .inl (.inr h)
 ·rintro F us Es Ba Dw b73 Ex ⟨hF,lD,hM⟩ Ws ur e75 qM e76;have z74:=hM.size;have db:(oo b).length=(kx b).length:=by unfold oo;simp
  rw [db,kA] at lD;have aol:kd V b p=false:=by unfold kd;rw [List.any_eq_false];exact λc hc=>by rw [lD c hc];decide
  refine ⟨by rw [e76,setRow_other _ _ _ _ aa,e75,setRow_other _ _ _ _ aa];exact Ws,λuk fQ=>⟨(0,0,0),by rw [aol],?_⟩⟩;have OS:Ext w Ex:=hM.ext Yd λi hi=>by have:=Yd.size;omega
  have OT:Ext w qM:=(OS.af e75 aa).af e76 aa;exact (Mod.pd fQ).ext OT λi hi=>by have:=Yd.size;omega
 ·rintro F us Oj HX Et b83 w84 ⟨hF,rfl,hM⟩ Ws;refine ⟨Ws,λw85 fQ=>⟨(Oj,HX,Et),rfl,?_⟩⟩;have TR:Ext w w84:=hM.ext Yd λi hi=>by have:=Yd.size;omega
  exact (Mod.pd fQ).ext TR λi hi=>by have:=Yd.size;omega
def Gk{v:Value}{V:Ce->Int}{w:World}(hV:Tl v V w)(hv:kr v=[])(b:Bx)(fp:Value)(hfp:kr fp=[])(p:Int->Bool)(hp:∀(x:Int)(w':World),bu Tryz.prog fp [x] w' λe w''=>e=Value.bool (p x)/\Ext w' w''):
  eU 254 #[v,xq b,fp] w (Value.bool (kd V b p)):=by
 apply Y5.vc;intro w0 e0;have x0:=aV e0;have z0:=fE e0;refine (Y3 (hV.ext x0) hv b fp hfp p hp).mono ?_;rintro e w1 ⟨c,rfl,x1⟩;have z1:=x1.size;refine ⟨_,_,_,_,rfl,x1.heap aa,λw6 e6 w7 e7=>⟨rfl,(x0.tr x1).tr ((aV e6).af e7 (ak _))⟩⟩
def sK{v:Value}{V:Ce->Int}{w:World}(hV:Tl v V w)(hv:kr v=[])(b:Bx):eU 194 #[v,xq b] w (Value.bool (kd V b aD)):=by
 apply IF.vc;intro w0 e0;have x0:=aV e0;have z0:=fE e0;refine (Gk (hV.ext x0) hv b (.func (.func 187) #[] #[]) rfl aD λx w'=>bV (by kernel_rfl) rfl ((rf x w').mono ?_)).mono ?_
 ·rintro e w'' ⟨rfl,rfl⟩;exact ⟨rfl,Ext.bU _⟩
 rintro e w1 ⟨rfl,x1⟩;exact ⟨_,rfl,x1.heap aa,rfl,x0.tr x1⟩
def qo{v:Value}{V:Ce->Int}{w:World}(hV:Tl v V w)(hv:kr v=[])(b:Bx):eU 195 #[v,xq b] w (Value.bool (kd V (nQ b) aD)):=by
 apply Mr.vc;intro w0 e0;have x0:=aV e0;have z0:=fE e0;refine (UE b w0).bj λw1 x1=> ?_
 refine ⟨_,_,_,_,_,_,rfl,x1.heap aa,(sK (hV.ext (x0.tr x1)) hv (nQ b)).bj λw8 x8=> ?_⟩;have z1:=x1.size;exact ⟨_,rfl,x8.heap aa,rfl,x0.tr (x1.tr x8)⟩
open Tryz
variable {R:eWp} {w:World} {a0 a1 a2 a3 aM aL aR cV cZ du iO iF gG aG aH aS eX jg jh V7 V8 Oi gu gw fB:Int}
def Me.vc{a0:Value}(h:(λA=>
 Aw w A 202 λw0=>
 ae 254 #[a0,.agg A,.func (.func 261) #[] #[]] w0 (Rb λb2 w1=>Kp w w0 w1/\
 R b2 w1)) #[aG,aH,aS,eX,jg,jh]):ae 202 #[a0,.agg #[aG,aH,aS,eX,jg,jh]] w R:=
 cq bD func202 h
def YK.vc{a0:Value}(h:(λA=>
 Aw w A 202 λw0=>
 ae 254 #[a0,.agg A,.func (.func 262) #[] #[]] w0 (Rb λb2 w1=>Kp w w0 w1/\
 R b2 w1)) #[aG,aH,aS,eX,jg,jh]):ae 203 #[a0,.agg #[aG,aH,aS,eX,jg,jh]] w R:=
 cq bD func203 h
def Mf.vc(h:
 R (Ix (a0==4)) w):ae 261 #[a0] w R:=
 cq bD func261 h
def Mg.vc(h:
 Aw w #[aM,aL,aR,cV,cZ,du] 202 λw0=>
 Aw w0 #[a1] 3 λw1=>
 Aw w1 #[a2] 3 λw2=>
 R (Value.func (.func 379) #[] #[w,.pointer (aB w0),.pointer (aB w1)]) w2):ae 358 #[.agg #[aM,aL,aR,cV,cZ,du],a1,a2] w R:=
 cq bD func358 h
def FZ.vc{a0:Value}{c0:Addr}{c1:Addr}{c2:Addr}(h:(λA B C=>
 ia w.drew (ab (some c0) 0) λx0 x1 x2=>
 jV w.drew C λx3=>
 ia w.drew B λx4 x5 x6=>
 jV w.drew C λx7=>
 ae 210 #[.agg #[x0,x1,x2],x3] w.drew (λe w8=>∃(x9:Int),e=x9/\
 ah w8 C 0 [x7]/\ah w8 B 0 [x4,x5,x6]/\ae 210 #[.agg #[x4,x5,x6],x7] w8 (λe bc=>∃(bR:Int),e=bR/\
 jV bc A λcw=>
 Br (cw>0)
 (ae 198 #[(aC ((aC (bR+65536))-1))] bc (λe bw=>∃(cY:Int),e=cY/\
 uo (λI15 n16=>I15 n16 cY bw) λI15 n16 awR de eQ=>
 jV eQ.drew A λfj=>
 ae 213 #[de] eQ.drew (λe dt=>∃(im:Int),e=im/\
 ah dt A 0 [fj]/\Br (decide (im<(aC (bR+fj))))
 (ae 213 #[de] dt (λe iH=>∃(gM:Int),e=gM/\
 bu Tryz.prog a0 [de,(aC (gM-bR))] iH (λe lQ=>∃(X9:Bool),e=X9/\
 Br (!X9)
 (R pH lQ)
 (∃n20,n20<n16/\I15 n20 ((aC (de+1))) lQ))))
 (R pH dt))))
 (ae 198 #[x9] bc (λe jI=>∃(kK:Int),e=kK/\
 uo (λI30 n31=>I30 n31 ((aC (kK-1))) jI) λI30 n31 awS gO ky=>
 jV ky.drew A λpP=>
 ae 213 #[(aC (gO+1))] ky.drew (λe jJ=>∃(nI:Int),e=nI/\
 ah jJ A 0 [pP]/\Br (decide (nI>(aC (x9+pP))))
 (ae 213 #[(aC (gO+1))] jJ (λe lN=>∃(rK:Int),e=rK/\
 bu Tryz.prog a0 [gO,(aC (rK-x9))] lN (λe kN=>∃(b42:Bool),e=b42/\
 Br (!b42)
 (R pH kN)
 (∃n35,n35<n31/\I30 n35 ((aC (gO-1))) kN))))
 (R pH jJ))))))) (some c2) (ab (some c0) 3) (some c1)):ae 379 #[a0,c0,c1,c2] w R:=
 cq ⟨[(3,⟨[(7,.int .i64)],[],[]⟩),(7,⟨[(8,.int .i64)],[],[]⟩)],[],[]⟩ func379 h
def PL.vc(h:(λA B=>
 Aw w #[aM,aL,aR,cV,cZ,du] 202 λw0=>
 Aw w0 #[ai,ai,ai,ai,ai,ai] 202 λw1=>
 ae 213 #[a2] w1.drew (Ri λx3 w2=>K2 w w0 w1.drew w2 (
 ah w2 B 0 A/\ah w2 w 0 [aM,aL,aR]/\ae 211 #[.agg #[aM,aL,aR],a1,x3] w2 (mh λx5 x6 x7 w4=>K2 w w0 w2 w4 (
 ah w4 B 0 A/\ae 213 #[(aC (a2+1))] w4 (Ri λx9 w8=>K2 w w0 w4 w8 (
 ah w8 B 0 A/\ae 211 #[.agg #[cV,cZ,du],a1,x9] w8 (mh λbR cw cN bc=>K2 w w0 w8 bc (
 Sw bc w0 #[x5,x6,x7,bR,cw,cN] λcu=>
 R (tZ #[x5,x6,x7,bR,cw,cN]) cu))))))))) [cV,cZ,du] (jS w 3)):ae 359 #[.agg #[aM,aL,aR,cV,cZ,du],a1,a2] w R:=
 cq bD func359 h
def Uw.vc{a0:Value}(h:(λA B C D E G=>
 aN (kr a0) (
 Aw w #[a0] 95 λw0=>
 Aw w0 C 202 λw1=>
 Aw w1 #[a2] 3 λw2=>
 Aw w2 #[ai] 3 λw3=>(λAa Ab=>
 Aw w3 G 4 λw4=>
 Br (a2<0)
 (Sw w4 w2 #[ai] λw5=>
 Sw w5 w3 G λw6=>
 R E w6)
 (Br (a2>=3)
 (Sw w4 w2 #[ai] λw7=>
 Sw w7 w3 G λw8=>
 R E w8)
 (ae 358 #[.agg C,a2,.int .i64 A] w4 (Rv λv10 w9=>Ab w4 w9 (
 ∃(ajn:List (LV))(ari F13:Nat->Prop)(I14:Nat->(Nat->Prop)->Int->Bool->wPp)(X15:Option Nat->(Nat->Prop)->Int->Bool->wPp),
 (∀x ∈ ajn,∃(dz dS:Int),x=[.int .i64 dz,.int .i64 dS])/\
 (∀(n18:Nat)(F19:Nat->Prop)(fk:Int)(b21:Bool)(dt je:World),I14 n18 F19 fk b21 dt->Below w9 dt je->(∀i,F19 i->je.heap[i]? =dt.heap[i]?)->I14 n18 F19 fk b21 je)/\
 (∀(n24:Option Nat)(F25:Nat->Prop)(nY:Int)(X9:Bool)(jI gz:World),X15 n24 F25 nY X9 jI->Below w9 jI gz->(∀i,F25 i->gz.heap[i]? =jI.heap[i]?)->X15 n24 F25 nY X9 gz)/\
 (∀(n30:Nat)(F31:Nat->Prop)(mR:Int)(b33:Bool)(ky:World),I14 n30 F31 mR b33 ky->∀i,F31 i->i<ky.heap.size/\i≠w9.heap.size/\i≠w9.heap.size+1)/\
 (∀(n35:Option Nat)(F36:Nat->Prop)(mQ:Int)(b38:Bool)(lN:World),X15 n35 F36 mQ b38 lN->∀i,F36 i->i<lN.heap.size/\i≠w9.heap.size/\i≠w9.heap.size+1)/\
 (∀i,ari i->i<w9.heap.size/\¬F13 i/\i≠w.heap.size/\i≠w0.heap.size/\i≠w1.heap.size/\i≠w2.heap.size/\i≠w3.heap.size/\True)/\
 (∀nV:World,PM w9 w9 nV->Iter Tryz.prog (v10) nV ari ajn/\aP [a0]/\aP D/\aP [a2]/\I14 0 F13 (0) false nV)/\
 (∀(n41:Nat)(F42:Nat->Prop)(aEP:Nat->Value)(rE:Int)(b45:Bool)(pQ Fa:Int)(lP:World),ajn[n41]? =some [.int .i64 pQ,.int .i64 Fa]->I14 n41 F42 rE b45 lP->
 Below lP lP lP/\∀nH:World,Rec (w9.heap.size+1) lP nH->I14 n41 F42 rE b45 nH->
 ae 359 #[.agg C,a2,pQ] nH.drew (CY λyK wm nZ CF vR OP yL=>Ab nH.drew yL (
 ah yL w 0 [a0]/\ae 194 #[a0,.agg #[yK,wm,nZ,CF,vR,OP]] yL (Rb λb58 pI=>Ab yL pI (
 Br b58
 (Sw pI w2 #[Fa] λpR=>
 Sw pR w3 #[true] λnX=>
 true=true/\∃F61:Nat->Prop,(aP [a0]/\aP D/\aP [a2]/\X15 none F61 Fa true nX)/\Step (λi=>(F42 i\/i ∈ Aa)\/lP.heap.size<=i) (λi=>F61 i\/i ∈ Aa) nH nX)
 (∃F62:Nat->Prop,(aP [a0]/\aP D/\aP [a2]/\I14 (n41+1) F62 rE b45 pI)/\Step (λi=>(F42 i\/i ∈ Aa)\/lP.heap.size<=i) (λi=>F62 i\/i ∈ Aa) nH pI))))))/\
 (∀(F63:Nat->Prop)(awU:Nat->Value)(A8:Int)(b66:Bool)(pS:World),I14 ajn.length F63 A8 b66 pS->pS.heap[w9.heap.size]? =some B->
 Sw pS w2 #[.int .i64 A] λOO=>
 Sw OO w3 G λOQ=>
 OQ.heap[w9.heap.size]? =some B/\∀yM:World,Rec w9 OQ yM->
 R (eV #[.int .i64 A,false]) yM)/\
 (∀(F71:Nat->Prop)(aET:Nat->Value)(KU:Int)(b74:Bool)(ur:World),X15 none F71 KU b74 ur->ur.heap[w9.heap.size]? =some B->
 ur.heap[w9.heap.size]? =some B/\∀qM:World,Rec w9 ur qM->
 R (eV #[KU,b74]) qM)))))) ([w.heap.size,w0.heap.size,w1.heap.size,w2.heap.size,w3.heap.size]:List Nat) (K5 w w0 w1 w2 w3))) (if 4194304<(if (-4194304)>a3 then (-4194304) else a3) then 4194304 else (if (-4194304)>a3 then (-4194304) else a3)) (.deferred (some [])) #[aG,aH,aS,eX,jg,jh] [aG,aH,aS,eX,jg,jh] (Value.tuple #[ai,false]) #[false]):ae 319 #[a0,.agg #[aG,aH,aS,eX,jg,jh],a2,a3] w R:=
 cq ⟨[],[],[(7,⟨[],[(3,[.int .i64]),(4,[.bool])],[]⟩,[.sc (.int .i64),.sc (.int .i64)])]⟩ func319 h
def acX.vc(h:(λA=>
 Aw w #[aM,aL,aR,cV,cZ,du] 202 λw0=>
 Aw w0 A 73 λw1=>
 Aw w1 #[ai,ai,ai,ai,ai,ai] 202 λw2=>
 ae 206 #[.agg #[aM,aL,aR],.agg A] w2.drew (mh λx4 x5 x6 w3=>K3 w w0 w1 w2.drew w3 (
 ah w3 (aB w0) 0 [aG,aH,aS]/\ah w3 (jS w 3) 0 [cV,cZ,du]/\ae 206 #[.agg #[cV,cZ,du],.agg A] w3 (mh λx8 x9 bM w7=>K3 w w0 w1 w3 w7 (
 Sw w7 w1 #[x4,x5,x6,x8,x9,bM] λbB=>
 R (tZ #[x4,x5,x6,x8,x9,bM]) bB))))) #[aG,aH,aS]):ae 320 #[.agg #[aM,aL,aR,cV,cZ,du],.agg #[aG,aH,aS]] w R:=
 cq bD func320 h
def PN.vc{a0:Value}(h:(λA=>
 Aw w A 202 λw0=>
 Aw w0 #[ai,ai,ai,ai,ai,ai] 202 λw1=>
 ae 319 #[a0,.agg A,a2,a3] w1 (W8 λx3 b4 w2=>K2 w w0 w1 w2 (
 ae 211 #[.agg #[ai,ai,ai],a2,x3] w2.drew (mh λx6 x7 x8 w5=>K2 w w0 w2.drew w5 (
 ah w5 w 0 [aG,aH,aS,eX,jg,jh]/\ae 320 #[.agg A,.agg #[x6,x7,x8]] w5 (CY λbM bR cw cN cY dm w9=>K2 w w0 w5 w9 (
 Sw w9 w0 #[bM,bR,cw,cN,cY,dm] λcp=>
 R (eV #[.agg #[bM,bR,cw,cN,cY,dm],b4]) cp))))))) #[aG,aH,aS,eX,jg,jh]):ae 263 #[a0,.agg #[aG,aH,aS,eX,jg,jh],a2,a3] w R:=
 cq bD func263 h
def Uc.vc{a0:Value}(h:(λA B=>
 Aw w #[aG,aH,aS,eX,jg,jh] 202 λw0=>
 Aw w0 #[gu,gw,fB] 73 λw1=>
 Aw w1 #[ai,ai,ai,ai,ai,ai] 202 λw2=>
 Aw w2 B 253 λw3=>(λAa=>
 Aw w3 B 253 λw4=>
 ∃I5:Nat->Int->Int->Int->Int->Int->Int->Int->wPp,
 (∃n6,aP [gu,gw,fB]/\aP A/\I5 n6 (0) aG aH aS eX jg jh w4)/\
 ∀(n6:Nat)(us7:Nat->Value)(x8 x9 bM bR cw cN cY:Int)(dj:World),I5 n6 x8 x9 bM bR cw cN cY dj->
 Br (x8<3)
 (((0:Int)<=x8/\x8<((3:Nat):Int))/\∃(dS:Int),([(1:Int),ai,(2:Int)]:LV)[(x8:Int).toNat*1]? =some (.int .i64 dS)/\
 ae 210 #[.agg #[gu,gw,fB],dS] dj.drew (Ri λdR dN=>K3 w w0 w1 dj.drew dN (
 ah dN w 0 [x9,bM,bR,cw,cN,cY]/\ae 263 #[a0,.agg #[x9,bM,bR,cw,cN,cY],dS,dR] dN (Mh λfj gI im jR gM nY X9 fw=>K3 w w0 w1 dN fw (
 Sw fw w #[fj,gI,im,jR,gM,nY] λjI=>
 (0:Int)<=dS/\dS<((3:Nat):Int)/\(true=true/\Wr jI (ab Aa ((dS:Int).toNat*1)) 1)/\bN (ab Aa ((dS:Int).toNat*1))≠some w.heap.size/\bN (ab Aa ((dS:Int).toNat*1))≠some w0.heap.size/\bN (ab Aa ((dS:Int).toNat*1))≠some w1.heap.size/\(Pw jI (ab Aa ((dS:Int).toNat*1)) [.bool X9] λgz=>
 ∃n16,n16<n6/\aP [gu,gw,fB]/\aP A/\I5 n16 ((aC (x8+1))) fj gI im jR gM nY gz))))))
 (lW dj.drew Aa λb30 b31 b32=>
 Sw dj.drew w1 #[x9,bM,bR,cw,cN,cY] λjZ=>
 ah jZ Aa 0 [.bool b30,b31,b32]/\Wt jZ ⟨w2,0,none⟩ 3/\Nb w2 w/\Nb w2 w0/\Nb w2 w1/\(Pw jZ (aB w2) [.bool b30,b31,b32] λky=>
 lW ky (aB w2) λb35 b36 b37=>
 R (eV #[.agg #[x9,bM,bR,cw,cN,cY],.agg #[b35,b36,b37]]) ky))) (aB w3)) [ai,ai,ai,ai,ai,ai] #[false,false,false]):ae 212 #[a0,.agg #[aG,aH,aS,eX,jg,jh],.agg #[gu,gw,fB]] w R:=
 cq ⟨[(3,⟨[(12,.int .i64)],[(0,[.int .i64,.int .i64,.int .i64,.int .i64,.int .i64,.int .i64])],[]⟩)],[],[]⟩ func212 h
def Ux.vc(h:(λA B=>
 Aw w #[aM,aL,aR,cV,cZ,du] 202 λw0=>
 Aw w0 #[aG,aH,aS,eX,jg,jh] 202 λw1=>
 R ((aC ((if (aC (0-A))>A then (aC (0-A)) else A)+(if (aC (0-B))>B then (aC (0-B)) else B)))) w1.drew) (aC (aG-aM)) (aC (aS-aR))):ae 264 #[.agg #[aM,aL,aR,cV,cZ,du],.agg #[aG,aH,aS,eX,jg,jh]] w R:=
 cq bD func264 h
def Uy.vc{a0:Value}(h:(λ(A:Array Value)(B:Array Value)(C:Array Value) D (E:LV) (G:LV) H L=>
 Aw w A 202 λw0=>
 Aw w0 #[gu,gw,fB] 73 λw1=>
 Aw w1 B 202 λw2=>(λAa=>
 Aw w2 C 253 λw3=>
 ae 212 #[a0,.agg A,.agg #[gu,gw,fB]] w3 (pj λx5 x6 x7 x8 x9 bM b11 b12 KO w4=>(λ(Ab:Array Value)(Ac:LV) Ad=>K3 w w0 w1 w3 w4 (
 Aw w4 B 202 λcu=>(λAe=>
 Aw cu C 253 λdj=>
 Sw dj w4 Ab λcp=>
 Wt cp ⟨cu,0,none⟩ 3/\Nb cu w/\Nb cu w0/\Nb cu w1/\Nb cu w4/\(Pw cp Ae [.bool b11,b12,KO] λcM=>
 ∃J18:wPp,
 ((0:Int)<=0/\(0:Int)<D/\Mi cM (ab Ae H) λb19=>
 Br (!b19)
 ((0:Int)<=2/\(2:Int)<D/\Mi cM (ab Ae L) λb20=>
 Br (!b20)
 (lW cM.drew Ae λb21 b22 b23=>
 Sw cM.drew w1 Ab λiH=>
 ah iH Ae 0 [.bool b21,b22,b23]/\Wt iH ⟨w2,0,none⟩ 3/\Nb w2 w/\Nb w2 w0/\Nb w2 w1/\Nb w2 w4/\(Pw iH Aa [.bool b21,b22,b23] λdL=>
 lW dL Aa λV9 X9 Ya=>
 R (eV #[.agg Ab,.agg #[V9,X9,Ya]]) dL))
 (Br (a3<=0)
 (lW cM.drew Ae λb29 b30 b31=>
 Sw cM.drew w1 Ab λuu=>
 ah uu Ae 0 [.bool b29,b30,b31]/\Wt uu ⟨w2,0,none⟩ 3/\Nb w2 w/\Nb w2 w0/\Nb w2 w1/\Nb w2 w4/\(Pw uu Aa [.bool b29,b30,b31] λjZ=>
 lW jZ Aa λb34 b35 b36=>
 R (eV #[.agg Ab,.agg #[b34,b35,b36]]) jZ))
 (ae 195 #[a0,.agg A] cM (Rb λb38 jJ=>Ad cM jJ (
 Br (!b38)
 (lW jJ.drew Ae λb39 b40 b41=>
 Sw jJ.drew w1 Ab λpF=>
 ah pF Ae 0 [.bool b39,b40,b41]/\Wt pF ⟨w2,0,none⟩ 3/\Nb w2 w/\Nb w2 w0/\Nb w2 w1/\Nb w2 w4/\(Pw pF Aa [.bool b39,b40,b41] λiS=>
 lW iS Aa λb44 b45 b46=>
 R (eV #[.agg Ab,.agg #[b44,b45,b46]]) iS))
 (aP E/\aP [gu,gw,fB]/\aP G/\aP Ac/\J18 jJ))))))
 (Br (a3<=0)
 (lW cM.drew Ae λb47 b48 b49=>
 Sw cM.drew w1 Ab λyL=>
 ah yL Ae 0 [.bool b47,b48,b49]/\Wt yL ⟨w2,0,none⟩ 3/\Nb w2 w/\Nb w2 w0/\Nb w2 w1/\Nb w2 w4/\(Pw yL Aa [.bool b47,b48,b49] λw51=>
 lW w51 Aa λb52 b53 b54=>
 R (eV #[.agg Ab,.agg #[b52,b53,b54]]) w51))
 (ae 195 #[a0,.agg A] cM (Rb λb56 yN=>Ad cM yN (
 Br (!b56)
 (lW yN.drew Ae λb57 b58 b59=>
 Sw yN.drew w1 Ab λnX=>
 ah nX Ae 0 [.bool b57,b58,b59]/\Wt nX ⟨w2,0,none⟩ 3/\Nb w2 w/\Nb w2 w0/\Nb w2 w1/\Nb w2 w4/\(Pw nX Aa [.bool b57,b58,b59] λvv=>
 lW vv Aa λb62 b63 b64=>
 R (eV #[.agg Ab,.agg #[b62,b63,b64]]) vv))
 (aP E/\aP [gu,gw,fB]/\aP G/\aP Ac/\J18 yN))))))/\
 ∀aw2:Nat->Value,∀(yy:World),J18 yy->
 ae 263 #[a0,.agg A,(1:Int),.int .i64 (if 65536<a3 then 65536 else a3)] yy (Mh λyz A9 Es Ba Dw KU b74 pS=>(λ(Af:Array Value)=>Ad yy pS (
 Aw pS B 202 λur=>
 Sw ur pS Af λqM=>(λAg Ah Ai=>
 Aw qM C 253 λuk=>
 Wt uk ⟨qM,0,none⟩ 3/\Nb qM w/\Nb qM w0/\Nb qM w1/\Nb qM w4/\Nb qM pS/\(Pw uk Ai [.bool false,true,false] λwu=>(λAj=>
 Aw wu B 202 λKV=>
 Sw KV wu Af λJh=>
 ae 263 #[a0,.agg Af,(0:Int),gu] Jh (Mh λEt OR TR x85 x86 xf b88 wx=>Aj Jh wx (
 Sw wx wu #[Et,OR,TR,x85,x86,xf] λwy=>
 (0:Int)<=0/\(0:Int)<D/\(true=true/\Wr wy Ag 1)/\bN Ag≠some w.heap.size/\bN Ag≠some w0.heap.size/\bN Ag≠some w1.heap.size/\bN Ag≠some w4.heap.size/\bN Ag≠some pS.heap.size/\bN Ag≠some wu.heap.size/\(Pw wy Ag [.bool b88] λrL=>
 ae 263 #[a0,.agg #[Et,OR,TR,x85,x86,xf],(2:Int),fB] rL (Mh λTa Wa x94 Wb Wc KW b98 w91=>Aj rL w91 (
 Sw w91 wu #[Ta,Wa,x94,Wb,Wc,KW] λIc=>
 (0:Int)<=2/\(2:Int)<D/\(true=true/\Wr Ic Ah 1)/\bN Ah≠some w.heap.size/\bN Ah≠some w0.heap.size/\bN Ah≠some w1.heap.size/\bN Ah≠some w4.heap.size/\bN Ah≠some pS.heap.size/\bN Ah≠some wu.heap.size/\(Pw Ic Ah [.bool b98] λtg=>
 ae 263 #[a0,.agg #[Ta,Wa,x94,Wb,Wc,KW],(1:Int),(aC (0-(aC (A9-aH))))] tg (Mh λBb Eu We Ev Ji Ew anm Jj=>(λ(Ak:Array Value)=>Aj tg Jj (
 Sw Jj wu Ak λum=>
 ae 264 #[.agg A,.agg Ak] um.drew (Ri λyA Wf=>Aj um.drew Wf (
 ah Wf (aB w4) 0 Ac/\ah Wf w 0 E/\ae 264 #[.agg A,.agg Ab] Wf (Ri λWg Bc=>Aj Wf Bc (
 Br (yA<=Wg)
 (lW Bc.drew Ae λaro abk Tc=>
 Sw Bc.drew w1 Ab λWh=>
 ah Wh Ae 0 [.bool aro,abk,Tc]/\Wt Wh ⟨w2,0,none⟩ 3/\Nb w2 w/\Nb w2 w0/\Nb w2 w1/\Nb w2 w4/\Nb w2 pS/\Nb w2 wu/\(Pw Wh Aa [.bool aro,abk,Tc] λoL=>
 lW oL Aa λaw4 aw5 aw6=>
 R (eV #[.agg Ab,.agg #[aw4,aw5,aw6]]) oL))
 (lW Bc.drew Ai λarp arq ars=>
 Sw Bc.drew w1 Ak λoM=>
 ah oM Ai 0 [.bool arp,arq,ars]/\Wt oM ⟨w2,0,none⟩ 3/\Nb w2 w/\Nb w2 w0/\Nb w2 w1/\Nb w2 w4/\Nb w2 pS/\Nb w2 wu/\(Pw oM Aa [.bool arp,arq,ars] λart=>
 lW art Aa λaw7 ann aw8=>
 R (eV #[.agg Ak,.agg #[aw7,ann,aw8]]) art)))))))) #[Bb,Eu,We,Ev,Ji,Ew])))))))) (K6 w w0 w1 w4 pS wu))) (ab (aB qM) H) (ab (aB qM) L) (aB qM))) #[yz,A9,Es,Ba,Dw,KU]))) (aB cu))) #[x5,x6,x7,x8,x9,bM] [x5,x6,x7,x8,x9,bM] (K4 w w0 w1 w4))) (aB w2)) #[aG,aH,aS,eX,jg,jh] #[ai,ai,ai,ai,ai,ai] #[false,false,false] ((3:Nat):Int) [aG,aH,aS,eX,jg,jh] [ai,ai,ai,ai,ai,ai] ((0:Int).toNat*1) ((2:Int).toNat*1)):ae 204 #[a0,.agg #[aG,aH,aS,eX,jg,jh],.agg #[gu,gw,fB],a3] w R:=
 cq ⟨[],[(4,⟨[],[],[]⟩)],[]⟩ func204 h
def DG.vc{aM:Bool}{aL:Bool}{aR:Bool}(h:(λA=>
 Aw w #[aM,aL,aR] 253 λw0=>
 Aw w0 #[aG,aH,aS] 73 λw1=>
 Aw w1 #[ai,ai,ai] 73 λw2=>
 lW w2 w λb3 b4 b5=>
 ∃I6:Nat->Int->Int->Int->Int->wPp,
 (∃n7,aP A/\I6 n7 (0) aG aH aS w2)/\
 ∀(n7:Nat)(us8:Nat->Value)(x9 bM bR cw:Int)(bw:World),I6 n7 x9 bM bR cw bw->
 Br (x9<3)
 (((0:Int)<=x9/\x9<((3:Nat):Int))/\∃(X5:Bool),([.bool b3,b4,b5]:LV)[(x9:Int).toNat*1]? =some (.bool X5)/\
 Br X5
 (ae 211 #[.agg #[bM,bR,cw],x9,(0:Int)] bw (mh λdS de dR cp=>K2 w0 w1 bw cp (
 Sw cp w0 #[dS,de,dR] λfw=>
 ∃n14,n14<n7/\aP A/\I6 n14 ((aC (x9+1))) dS de dR fw)))
 (∃n14,n14<n7/\aP A/\I6 n14 ((aC (x9+1))) bM bR cw bw))
 (Sw bw w1 #[bM,bR,cw] λcX=>
 R (tZ #[bM,bR,cw]) cX)) [ai,ai,ai]):ae 208 #[.agg #[aM,aL,aR],.agg #[aG,aH,aS]] w R:=
 cq ⟨[(2,⟨[(8,.int .i64)],[(0,[.int .i64,.int .i64,.int .i64])],[]⟩)],[],[]⟩ func208 h
def Iy.vc{gG:Bool}(h:(λ(A:LV)=>
 Aw w #[aM,aL,aR,cV,cZ,du,iO,iF,gG] 75 λw0=>
 Aw w0 #[aG,aH,aS] 73 λw1=>
 Aw w1 #[ai,ai,ai] 73 λw2=>
 ae 206 #[.agg #[aM,aL,aR],.agg #[aG,aH,aS]] w2 (mh λx4 x5 x6 w3=>(λAa=>K3 w w0 w1 w2 w3 (
 Aw w3 #[ai,ai,ai] 73 λw7=>
 Sw w7 w3 #[x4,x5,x6] λw8=>
 ae 265 #[x4] w8.drew (Ri λbM w9=>Aa w8.drew w9 (
 ah w9 w 0 A/\ah w9 (jS w3 2) 0 [x6]/\ah w9 (jS w3 1) 0 [x5]/\ae 265 #[x5] w9 (Ri λcw bB=>Aa w9 bB (
 ah bB w 0 A/\ah bB (jS w3 2) 0 [x6]/\ae 265 #[x6] bB (Ri λcY bw=>Aa bB bw (
 ah bw w 0 A/\ae 207 #[.agg #[bM,cw,cY],.agg #[aM,aL,aR]] bw (mh λdz dS de dj=>Aa bw dj (
 Sw dj w1 #[dz,dS,de] λeQ=>
 R (tZ #[dz,dS,de]) eQ)))))))))) (K4 w w0 w1 w3))) [aM,aL,aR]):ae 205 #[.agg #[aM,aL,aR,cV,cZ,du,iO,iF,gG],.agg #[aG,aH,aS]] w R:=
 cq bD func205 h
def DH.vc(h:(λA=>
 R (Value.int .i64 (if 70368744177664<A then 70368744177664 else A)) w) (if (-70368744177664)>a0 then (-70368744177664) else a0)):ae 265 #[a0] w R:=
 cq bD func265 h
def Uz.vc(h:
 ae 257 #[a0] w (gk λx1 w0=>Br (x1<0)
 (R (eV #[.int .u64 (fJ (aC (0-x1))),true]) w0)
 (R (eV #[.int .u64 (fJ x1),false]) w0))):ae 258 #[a0] w R:=
 cq bD func258 h
def PO.vc{a1:Bool}{a2:Bool}(h:
 Aw w #[a1] 4 λw0=>
 Aw w0 #[a2] 4 λw1=>
 Br (a0>=140737488355328)
 (Wr w1 w 1/\(Pw w1 w [.bool false] λw2=>
 Mi w2 (aB w0) λb3=>
 Br b3
 (ae 318 #[.int .u64 140737488355328,.pointer (aB w0),w] w2 (λe w4=>∃(x5:Int),e=Value.int .u64 x5/\
 R ((aC (0-(aC x5)))) w4))
 (R ((aC 140737488355328)) w2)))
 (Mi w1 (aB w0) λb6=>
 Br b6
 (ae 318 #[.int .u64 a0,.pointer (aB w0),w] w1 (λe w7=>∃(x8:Int),e=Value.int .u64 x8/\
 R ((aC (0-(aC x8)))) w7))
 (R ((aC a0)) w1))):ae 260 #[.int .u64 a0,a1,a2] w R:=
 cq bD func260 h
def Iz.vc{c0:Addr}{c1:Addr}(h:(λA=>
 Mi w (some c0) λb0=>
 Br b0
 (Mi w (some c1) λb1=>
 Br b1
 (R (Value.int .u64 (fJ (a0+1))) w)
 A)
 A) (R (Value.int .u64 a0) w)):ae 318 #[.int .u64 a0,c0,c1] w R:=
 cq bD func318 h
def DI.vc(h:(λA B C D=>
 R (eV #[.int .u64 (fJ ((fJ ((fJ ((D.fdiv A)*((a1:Int).fdiv A)))+(((fJ ((fJ ((D.fdiv A)*B))+(((fJ (C*B)):Int).fdiv A))):Int).fdiv A)))+(((fJ ((tP .u64 (fJ ((fJ ((D.fdiv A)*B))+(((fJ (C*B)):Int).fdiv A))) 4294967295)+(fJ (C*((a1:Int).fdiv A))))):Int).fdiv A))),.int .u64 (fJ (a0*a1))]) w) (2 ^(min (32:Int).toNat 64)) (tP .u64 a1 4294967295) (tP .u64 a0 4294967295) (a0:Int)):ae 259 #[.int .u64 a0,.int .u64 a1] w R:=
 cq bD func259 h
def YL.vc(h:
 ae 258 #[a0] w (ahK λx1 b2 w0=>ae 258 #[a1] w0 (ahK λx4 b5 w3=>ae 259 #[.int .u64 x1,.int .u64 x4] w3 (λe w6=>∃(x7 x8:Int),e=Value.tuple #[.int .u64 x7,.int .u64 x8]/\
 Br (x7>0)
 (ae 260 #[.int .u64 140737488355328,.bool (((Int.tmod x8 65536):Int) !=0),.bool (!(b2==b5))] w6 (gk λbM w9=>R bM w9))
 (ae 260 #[.int .u64 ((x8:Int).fdiv (2 ^(min (16:Int).toNat 64))),.bool (((Int.tmod x8 65536):Int) !=0),.bool (!(b2==b5))] w6 (gk λcw bB=>R cw bB)))))):ae 200 #[a0,a1] w R:=
 cq bD func200 h
def zC.vc(h:(λA=>
 ae 200 #[.int .i64 (if 65536<A then 65536 else A),(16384:Int)] w (gk λx1 w0=>R x1 w0)) (if (-65536)>a0 then (-65536) else a0)):ae 199 #[a0] w R:=
 cq bD func199 h
def DJ.vc{gG:Bool}{a1:Value}{fB:Bool}(h:
 Aw w #[aM,aL,aR,cV,cZ,du,iO,iF,gG] 75 λw0=>
 Aw w0 #[gu,gw,fB] 101 λw1=>
 Aw w1 #[ai,ai,ai,ai,ai,ai,ai,ai,false] 75 λw2=>
 ae 199 #[gu] w2.drew (Ri λx4 w3=>K3 w w0 w1 w2.drew w3 (
 ah w3 (jS w0 1) 0 [gw]/\ae 199 #[gw] w3 (Ri λx6 w5=>(λAa=>K3 w w0 w1 w3 w5 (
 Sw w5 w #[aM,aL,aR,x4,cZ,du,iO,iF,gG] λw7=>
 Sw w7 w Aa λw8=>
 Sw w8 w1 Aa λw9=>
 R (Value.agg Aa) w9)) #[aM,aL,aR,x4,cZ,x6,iO,iF,gG])))):ae 139 #[.agg #[aM,aL,aR,cV,cZ,du,iO,iF,gG],a1,.agg #[gu,gw,fB]] w R:=
 cq bD func139 h
def zD.vc{c0:Addr}{c1:Addr}(h:(λA=>
 fu w.drew A λp0=>
 fu w.drew A λp1=>
 aN (eI p1) (jV w.drew p1 λx2=>
 aN (eI p0) (((p0).isSome=true/\Wr w.drew p0 1)/\(Pw w.drew p0 [.int .i64 (if (aC (0-a2))>(aC (x2-a1)) then (aC (0-a2)) else (aC (x2-a1)))] λw3=>
 Mi w3 (ab (some c1) 2) λb4=>
 Br b4
 (fu w3 A λp5=>
 aN (eI p5) (((p5).isSome=true/\Wr w3 p5 1)/\(Pw w3 p5 [a0] λw6=>
 R pH w6)))
 (R pH w3))))) (some c0)):ae 201 #[a0,a1,a2,c0,c1] w R:=
 cq bD func201 h
def DK.vc{gG:Bool}{a1:Value}{fB:Bool}(h:(λ(A:Array Value) B=>
 Aw w A 75 λw0=>(λAa Ab=>
 Aw w0 #[gu,gw,fB] 101 λw1=>
 Aw w1 #[ai,ai,ai,ai,ai,ai,ai,ai,false] 75 λw2=>
 ae 149 #[.agg A] w2 (CY λx4 x5 x6 x7 x8 x9 w3=>(λ(Ac:Array Value) Ad=>K3 w w0 w1 w2 w3 (
 Aw w3 #[ai,ai,ai,ai,ai,ai] 202 λbc=>(λ(Ae:Array Value)=>
 Aw bc #[pno] 250 λbB=>
 Sw bB w3 #[x4,x5,x6,x7,x8,x9] λbO=>
 Sw bO bc #[.pointer (jS w 4)] λbw=>
 ae 202 Ac bw (Rb λX5 cu=>Ad bw cu (
 Br X5
 (ae 201 #[B,(4096:Int),B,.pointer (aB bc),.pointer Ab] cu (Rt λcp=>Ad cu cp (
 jW cp w λdS de dR fk fj gI im jR b25=>(λ(Af:Array Value)=>
 Sw cp w1 Af λlQ=>
 R (Value.agg Af) lQ) #[dS,de,dR,fk,fj,gI,im,jR,b25])))
 (ae 203 Ac cu (Rb λYa gN=>Ad cu gN (
 Br Ya
 (ae 201 #[(6144:Int),(1024:Int),B,.pointer (aB bc),.pointer Ab] gN (Rt λgz=>Ad gN gz (
 jW gz w λtM oU mR gO j0 pG pP mQ b38=>(λ(Ag:Array Value)=>
 Sw gz w1 Ag λlN=>
 R (Value.agg Ag) lN) #[tM,oU,mR,gO,j0,pG,pP,mQ,b38])))
 (Mi gN Aa λb40=>
 Br b40
 (ae 195 Ac gN (Rb λb42 kN=>Ad gN kN (
 Wr kN Aa 1/\Nq Aa w1/\Nq Aa w3/\(Pw kN Aa [.bool b42] λiS=>
 ae 201 Ae iS (Rt λkh=>Ad iS kh (
 jW kh w λyO pQ Fa KQ TS Fb yK wm b53=>(λ(Ah:Array Value)=>
 Sw kh w1 Ah λw54=>
 R (Value.agg Ah) w54) #[yO,pQ,Fa,KQ,TS,Fb,yK,wm,b53]))))))
 (Wr gN Aa 1/\Nq Aa w1/\Nq Aa w3/\(Pw gN Aa [.bool false] λyN=>
 ae 201 Ae yN (Rt λBk=>Ad yN Bk (
 jW Bk w λJk KP Ie rM KS rJ Bj KX b65=>(λ(Ai:Array Value)=>
 Sw Bk w1 Ai λyy=>
 R (Value.agg Ai) yy) #[Jk,KP,Ie,rM,KS,rJ,Bj,KX,b65]))))))))))) #[(28672:Int),(4096:Int),(262144:Int),.pointer (aB bc),.pointer Ab])) #[a1,.agg #[x4,x5,x6,x7,x8,x9]] (K2 w1 w3))) (jS w0 2) (aB w0)) #[aM,aL,aR,cV,cZ,du,iO,iF,gG] (8192:Int)):ae 140 #[.agg #[aM,aL,aR,cV,cZ,du,iO,iF,gG],a1,.agg #[gu,gw,fB]] w R:=
 cq bD func140 h
def F7.vc{gG:Bool}{a1:Value}{fB:Bool}(h:(λA B C D E G H L=>
 Aw w L 75 λw0=>
 Aw w0 #[gu,gw,fB] 101 λw1=>
 Aw w1 #[ai,ai,ai,ai,ai,ai,ai,ai,false] 75 λw2=>
 ae 149 #[.agg L] w2 (CY λx4 x5 x6 x7 x8 x9 w3=>(λAa Ab Ac Ad=>K3 w w0 w1 w2 w3 (
 Aw w3 C 202 λbc=>
 Sw bc w3 Ab λbB=>(λAe=>
 ∃CG:Option Addr->Option Addr->wPp,
 ((ae 205 D bB.drew (mh λcY dm dz bw=>(λAf Ag Ah=>Ac bB.drew bw (
 ah bw Ad 0 Aa/\(ae 204 Af bw (pj λde dR fk fj gI im b24 b25 V9 cM=>Ac bw cM (
 (Aw cM C 202 λgN=>
 Aw gN E 253 λjI=>
 Sw jI cM #[de,dR,fk,fj,gI,im] λgz=>
 Wt gz ⟨gN,0,none⟩ 3/\Nb gN w/\Nb gN w0/\Nb gN w1/\Nb gN w3/\Nb gN cM/\(Pw gz (aB gN) [.bool b24,b25,V9] λpN=>
 aP B/\aP G/\aP A/\aP Aa/\CG (aB cM) (aB gN) pN))/\(Aw cM E 253 λik=>
 Aw ik C 202 λuu=>
 Sw uu ik #[de,dR,fk,fj,gI,im] λjZ=>
 Wt jZ ⟨cM,0,none⟩ 3/\Nb cM w/\Nb cM w0/\Nb cM w1/\Nb cM w3/\Nb cM ik/\(Pw jZ (aB cM) [.bool b24,b25,V9] λky=>
 aP B/\aP G/\aP A/\aP Aa/\CG (aB ik) (aB cM) ky)))))/\(Aw bw C 202 λiI=>
 (ae 204 Af iI (pj λmQ nI rD rK lO yP b43 b44 b45 ox=>Ah iI ox (
 Aw ox E 253 λIg=>
 Sw Ig bw #[mQ,nI,rD,rK,lO,yP] λoK=>
 Wt oK ⟨ox,0,none⟩ 3/\Nb ox w/\Nb ox w0/\Nb ox w1/\Nb ox w3/\Nb ox bw/\(Pw oK (aB ox) [.bool b43,b44,b45] λlP=>
 aP B/\aP G/\aP A/\aP Aa/\CG Ag (aB ox) lP))))/\(Aw iI E 253 λnH=>
 ae 204 Af nH (pj λyK wm nZ CF vR OP b57 b58 b59 yL=>Ah nH yL (
 Sw yL bw #[yK,wm,nZ,CF,vR,OP] λnX=>
 Wt nX ⟨iI,0,none⟩ 3/\Nb iI w/\Nb iI w0/\Nb iI w1/\Nb iI w3/\Nb iI bw/\(Pw nX (aB iI) [.bool b57,b58,b59] λvv=>
 aP B/\aP G/\aP A/\aP Aa/\CG Ag (aB iI) vv)))))/\(Aw bw E 253 λkz=>
 (ae 204 Af kz (pj λKX A8 rO yt yz A9 b70 b71 b72 Og=>Ac kz Og (
 Aw Og C 202 λJl=>
 Sw Jl Og #[KX,A8,rO,yt,yz,A9] λEx=>
 Wt Ex ⟨bw,0,none⟩ 3/\Nb bw w/\Nb bw w0/\Nb bw w1/\Nb bw w3/\Nb bw Og/\(Pw Ex Ag [.bool b70,b71,b72] λur=>
 aP B/\aP G/\aP A/\aP Aa/\CG (aB Og) Ag ur))))/\(Aw kz C 202 λqM=>
 ae 204 Af qM (pj λx78 x79 Oj HX Et OR b84 b85 b86 uk=>K5 w w0 w1 w3 kz qM uk (
 Sw uk kz #[x78,x79,Oj,HX,Et,OR] λIh=>
 Wt Ih ⟨bw,0,none⟩ 3/\Nb bw w/\Nb bw w0/\Nb bw w1/\Nb bw w3/\Nb bw kz/\(Pw Ih Ag [.bool b84,b85,b86] λTT=>
 aP B/\aP G/\aP A/\aP Aa/\CG (aB kz) Ag TT))))))) #[a1,.agg Ab,.agg #[cY,dm,dz],H] (aB bw) (K5 w w0 w1 w3 bw)))/\(Aw bB.drew C 202 λwy=>
 (ae 205 D wy (mh λOl Ta Wa rL=>(λAi Aj=>Ac wy rL (
 oC bB wy rL/\
 ah rL Ad 0 Aa/\(ae 204 Ai rL (pj λWb Wc KW x98 Yb Be ano anp afI Ii=>Ac rL Ii (
 oC bB rL Ii/\
 Aw Ii E 253 λabm=>
 Sw abm bB.drew.heap.size #[Wb,Wc,KW,x98,Yb,Be] λBf=>
 Wt Bf ⟨Ii,0,none⟩ 3/\Nb Ii w/\Nb Ii w0/\Nb Ii w1/\Nb Ii w3/\bN (aB Ii)≠some bB.drew.heap.size/\(Pw Bf (aB Ii) [.bool ano,anp,afI] λyB=>
 aP B/\aP G/\aP A/\aP Aa/\CG Ae (aB Ii) yB))))/\(Aw rL E 253 λHY=>
 ae 204 Ai HY (pj λrF lR yA lS Wg afJ abk Tc anq Wi=>Ac HY Wi (
 oC bB HY Wi/\
 Sw Wi bB.drew.heap.size #[rF,lR,yA,lS,Wg,afJ] λoL=>
 Wt oL ⟨rL,0,none⟩ 3/\Nb rL w/\Nb rL w0/\Nb rL w1/\Nb rL w3/\bN Aj≠some bB.drew.heap.size/\(Pw oL Aj [.bool abk,Tc,anq] λJm=>
 aP B/\aP G/\aP A/\aP Aa/\CG Ae Aj Jm)))))) #[a1,.agg Ab,.agg #[Ol,Ta,Wa],H] (aB rL)))/\(Aw wy E 253 λEy=>
 ae 205 D Ey (mh λafK Wj Wk CH=>Ac Ey CH (
 oC bB Ey CH/\
 ah CH Ad 0 Aa/\ae 204 #[a1,.agg Ab,.agg #[afK,Wj,Wk],H] CH (pj λHZ Wl afL afM afN afO anr ans ant oM=>Ac CH oM (
 oC bB CH oM/\
 Sw oM bB.drew.heap.size #[HZ,Wl,afL,afM,afN,afO] λafP=>
 Wt afP ⟨wy,0,none⟩ 3/\Nb wy w/\Nb wy w0/\Nb wy w1/\Nb wy w3/\bN (aB wy)≠some bB.drew.heap.size/\(Pw afP (aB wy) [.bool anr,ans,ant] λanu=>
 aP B/\aP G/\aP A/\aP Aa/\CG Ae (aB wy) anu)))))))/\(Aw bB.drew E 253 λvx=>
 (ae 205 D vx (mh λWm afQ anv th=>(λAk=>Ac vx th (
 ah th Ad 0 Aa/\(ae 204 Ak th (pj λanw afR afS afT Td afU anx anz anA rG=>Ac th rG (
 Aw rG C 202 λanB=>
 Sw anB rG #[anw,afR,afS,afT,Td,afU] λafV=>
 Wt afV ⟨bB.drew.heap.size,0,none⟩ 3/\Nq Ae w/\Nq Ae w0/\Nq Ae w1/\Nq Ae w3/\Nq Ae rG/\(Pw afV Ae [.bool anx,anz,anA] λanC=>
 aP B/\aP G/\aP A/\aP Aa/\CG (aB rG) Ae anC))))/\(Aw th C 202 λafW=>
 ae 204 Ak afW (pj λanD anE anF anG anH anK anL anM anN afX=>K5 w w0 w1 w3 th afW afX (
 Sw afX th #[anD,anE,anF,anG,anH,anK] λafY=>
 Wt afY ⟨bB.drew.heap.size,0,none⟩ 3/\Nq Ae w/\Nq Ae w0/\Nq Ae w1/\Nq Ae w3/\Nq Ae th/\(Pw afY Ae [.bool anL,anM,anN] λanO=>
 aP B/\aP G/\aP A/\aP Aa/\CG (aB th) Ae anO)))))) #[a1,.agg Ab,.agg #[Wm,afQ,anv],H]))/\(Aw vx C 202 λafZ=>
 ae 205 D afZ (mh λaf0 af1 af2 Om=>K5 w w0 w1 w3 vx afZ Om (
 ah Om Ad 0 Aa/\ae 204 #[a1,.agg Ab,.agg #[af0,af1,af2],H] Om (pj λaf3 CI anP anQ anR anT anU anV anW af4=>K5 w w0 w1 w3 vx Om af4 (
 Sw af4 vx #[af3,CI,anP,anQ,anR,anT] λaf5=>
 Wt af5 ⟨bB.drew.heap.size,0,none⟩ 3/\Nq Ae w/\Nq Ae w0/\Nq Ae w1/\Nq Ae w3/\Nq Ae vx/\(Pw af5 Ae [.bool anU,anV,anW] λanX=>
 aP B/\aP G/\aP A/\aP Aa/\CG (aB vx) Ae anX))))))))/\
 ∀arv:Nat->Value,∀(Jn anY:Option Addr)(Te:World),CG Jn anY Te->
 aN (eI Jn) (ia Te.drew (ab Jn 0) λabn anZ Ez=>
 ae 207 #[.agg #[abn,anZ,Ez],.agg #[x4,x5,x6]] Te.drew (mh λan1 EA Jo Jp=>Ac Te.drew Jp (
 ah Jp w 0 [aM,aL,aR]/\ae 206 #[.agg #[aM,aL,aR],.agg #[an1,EA,Jo]] Jp (mh λWn af6 Wo Tf=>Ac Jp Tf (
 Sw Tf w #[Wn,af6,Wo,cV,cZ,du,iO,iF,gG] λyC=>
 lW yC anY λaxc axe axf=>
 ae 208 #[.agg #[axc,axe,axf],.agg #[cV,cZ,du]] yC (mh λOn af7 af8 an2=>Ac yC an2 (
 Sw an2 w #[Wn,af6,Wo,On,af7,af8,iO,iF,gG] λabo=>
 CZ abo Jn λaxg axh axi axj axk axl=>
 ae 195 #[a1,.agg #[axg,axh,axi,axj,axk,axl]] abo (Rb λaxm an3=>(λAl=>Ac abo an3 (
 Sw an3 w Al λarw=>
 Sw arw w1 Al λarx=>
 R (Value.agg Al) arx)) #[Wn,af6,Wo,On,af7,af8,iO,iF,axm]))))))))) (aB bB.drew.heap.size))) [x4,x5,x6,x7,x8,x9] #[x4,x5,x6,x7,x8,x9] (K4 w w0 w1 w3) (aB w3))) [ai,ai,ai,ai,ai,ai,ai,ai,false] [aM,aL,aR,cV,cZ,du,iO,iF,gG] #[ai,ai,ai,ai,ai,ai] #[.agg #[aM,aL,aR,cV,cZ,du,iO,iF,gG],.agg #[cV,cZ,du]] #[false,false,false] [gu,gw,fB] (32768:Int) #[aM,aL,aR,cV,cZ,du,iO,iF,gG]):ae 141 #[.agg #[aM,aL,aR,cV,cZ,du,iO,iF,gG],a1,.agg #[gu,gw,fB]] w R:=
 cq ⟨[],[(3,⟨[(8,.ptr),(9,.ptr)],[],[]⟩)],[]⟩ func141 h
def F8.vc{gG:Bool}{a1:Value}{fB:Bool}(h:(λA=>
 Aw w #[aM,aL,aR,cV,cZ,du,iO,iF,gG] 75 λw0=>
 Aw w0 #[gu,gw,fB] 101 λw1=>
 Aw w1 #[ai,ai,ai,ai,ai,ai,ai,ai,false] 75 λw2=>
 ∃I3:Nat->Int->Int->Int->Int->Int->Int->Int->Int->Int->Bool->wPp,
 (∃n4,aP [gu,gw,fB]/\aP A/\I3 n4 (0) aM aL aR cV cZ du iO iF gG w2)/\
 ∀(n4:Nat)(us5:Nat->Value)(x6 x7 x8 x9 bM bR cw cN cY:Int)(X5:Bool)(cp:World),I3 n4 x6 x7 x8 x9 bM bR cw cN cY X5 cp->
 Br (x6<3)
 (((0:Int)<=x6/\x6<((3:Nat):Int))/\∃(v18:Value),([.func (.func 139) #[] #[],.func (.func 140) #[] #[],.func (.func 141) #[] #[]]:LV)[(x6:Int).toNat*1]? =some (v18)/\
 bu Tryz.prog v18 [.agg #[x7,x8,x9,bM,bR,cw,cN,cY,X5],a1,.agg #[gu,gw,fB]] cp (ahL λfk fj gI im jR gM nY jH Ya eQ=>K3 w w0 w1 cp eQ (
 Sw eQ w #[fk,fj,gI,im,jR,gM,nY,jH,Ya] λgz=>
 ∃n17,n17<n4/\aP [gu,gw,fB]/\aP A/\I3 n17 ((aC (x6+1))) fk fj gI im jR gM nY jH Ya gz)))
 (Sw cp w1 #[x7,x8,x9,bM,bR,cw,cN,cY,X5] λpN=>
 R (tZ #[x7,x8,x9,bM,bR,cw,cN,cY,X5]) pN)) [ai,ai,ai,ai,ai,ai,ai,ai,false]):ae 80 #[.agg #[aM,aL,aR,cV,cZ,du,iO,iF,gG],a1,.agg #[gu,gw,fB]] w R:=
 cq ⟨[(2,⟨[(10,.int .i64)],[(0,[.int .i64,.int .i64,.int .i64,.int .i64,.int .i64,.int .i64,.int .i64,.int .i64,.bool])],[]⟩)],[],[]⟩ func80 h
def DL.vc{gG:Bool}{a1:Value}(h:(λA B C D E G H=>
 Aw w H 75 λw0=>
 Aw w0 #[gu,gw,fB] 73 λw1=>
 Aw w1 #[ai,ai,ai,ai,ai,ai,ai,ai,false] 75 λw2=>
 ae 149 #[.agg H] w2 (CY λx4 x5 x6 x7 x8 x9 w3=>(λAa Ab Ac Ad=>K3 w w0 w1 w2 w3 (
 Aw w3 C 202 λbc=>
 Sw bc w3 Ab λbB=>(λAe=>
 ∃CG:Option Addr->wPp,
 ((ae 205 D bB.drew (mh λcY dm dz bw=>(λAf Ag Ah=>Ac bB.drew bw (
 ah bw Ad 0 Aa/\(ae 212 Af bw (pj λde dR fk fj gI im b24 b25 V9 cM=>Ac bw cM (
 (Aw cM C 202 λgN=>
 Aw gN E 253 λjI=>
 Sw jI cM #[de,dR,fk,fj,gI,im] λgz=>
 Wt gz ⟨gN,0,none⟩ 3/\Nb gN w/\Nb gN w0/\Nb gN w1/\Nb gN w3/\Nb gN cM/\(Pw gz (aB gN) [.bool b24,b25,V9] λpN=>
 aP B/\aP G/\aP A/\aP Aa/\CG (aB cM) pN))/\(Aw cM E 253 λik=>
 Aw ik C 202 λuu=>
 Sw uu ik #[de,dR,fk,fj,gI,im] λjZ=>
 Wt jZ ⟨cM,0,none⟩ 3/\Nb cM w/\Nb cM w0/\Nb cM w1/\Nb cM w3/\Nb cM ik/\(Pw jZ (aB cM) [.bool b24,b25,V9] λky=>
 aP B/\aP G/\aP A/\aP Aa/\CG (aB ik) ky)))))/\(Aw bw C 202 λiI=>
 (ae 212 Af iI (pj λmQ nI rD rK lO yP b43 b44 b45 ox=>Ah iI ox (
 Aw ox E 253 λIg=>
 Sw Ig bw #[mQ,nI,rD,rK,lO,yP] λoK=>
 Wt oK ⟨ox,0,none⟩ 3/\Nb ox w/\Nb ox w0/\Nb ox w1/\Nb ox w3/\Nb ox bw/\(Pw oK (aB ox) [.bool b43,b44,b45] λlP=>
 aP B/\aP G/\aP A/\aP Aa/\CG Ag lP))))/\(Aw iI E 253 λnH=>
 ae 212 Af nH (pj λyK wm nZ CF vR OP b57 b58 b59 yL=>Ah nH yL (
 Sw yL bw #[yK,wm,nZ,CF,vR,OP] λnX=>
 Wt nX ⟨iI,0,none⟩ 3/\Nb iI w/\Nb iI w0/\Nb iI w1/\Nb iI w3/\Nb iI bw/\(Pw nX (aB iI) [.bool b57,b58,b59] λvv=>
 aP B/\aP G/\aP A/\aP Aa/\CG Ag vv)))))/\(Aw bw E 253 λkz=>
 (ae 212 Af kz (pj λKX A8 rO yt yz A9 b70 b71 b72 Og=>Ac kz Og (
 Aw Og C 202 λJl=>
 Sw Jl Og #[KX,A8,rO,yt,yz,A9] λEx=>
 Wt Ex ⟨bw,0,none⟩ 3/\Nb bw w/\Nb bw w0/\Nb bw w1/\Nb bw w3/\Nb bw Og/\(Pw Ex Ag [.bool b70,b71,b72] λur=>
 aP B/\aP G/\aP A/\aP Aa/\CG (aB Og) ur))))/\(Aw kz C 202 λqM=>
 ae 212 Af qM (pj λx78 x79 Oj HX Et OR b84 b85 b86 uk=>K5 w w0 w1 w3 kz qM uk (
 Sw uk kz #[x78,x79,Oj,HX,Et,OR] λIh=>
 Wt Ih ⟨bw,0,none⟩ 3/\Nb bw w/\Nb bw w0/\Nb bw w1/\Nb bw w3/\Nb bw kz/\(Pw Ih Ag [.bool b84,b85,b86] λTT=>
 aP B/\aP G/\aP A/\aP Aa/\CG (aB kz) TT))))))) #[a1,.agg Ab,.agg #[cY,dm,dz]] (aB bw) (K5 w w0 w1 w3 bw)))/\(Aw bB.drew C 202 λwy=>
 (ae 205 D wy (mh λOl Ta Wa rL=>(λAi=>Ac wy rL (
 oC bB wy rL/\
 ah rL Ad 0 Aa/\(ae 212 Ai rL (pj λWb Wc KW x98 Yb Be ano anp afI Ii=>Ac rL Ii (
 oC bB rL Ii/\
 Aw Ii E 253 λabm=>
 Sw abm bB.drew.heap.size #[Wb,Wc,KW,x98,Yb,Be] λBf=>
 Wt Bf ⟨Ii,0,none⟩ 3/\Nb Ii w/\Nb Ii w0/\Nb Ii w1/\Nb Ii w3/\bN (aB Ii)≠some bB.drew.heap.size/\(Pw Bf (aB Ii) [.bool ano,anp,afI] λyB=>
 aP B/\aP G/\aP A/\aP Aa/\CG Ae yB))))/\(Aw rL E 253 λHY=>
 ae 212 Ai HY (pj λrF lR yA lS Wg afJ abk Tc anq Wi=>Ac HY Wi (
 oC bB HY Wi/\
 Sw Wi bB.drew.heap.size #[rF,lR,yA,lS,Wg,afJ] λoL=>
 Wt oL ⟨rL,0,none⟩ 3/\Nb rL w/\Nb rL w0/\Nb rL w1/\Nb rL w3/\bN (aB rL)≠some bB.drew.heap.size/\(Pw oL (aB rL) [.bool abk,Tc,anq] λJm=>
 aP B/\aP G/\aP A/\aP Aa/\CG Ae Jm)))))) #[a1,.agg Ab,.agg #[Ol,Ta,Wa]]))/\(Aw wy E 253 λEy=>
 ae 205 D Ey (mh λafK Wj Wk CH=>Ac Ey CH (
 oC bB Ey CH/\
 ah CH Ad 0 Aa/\ae 212 #[a1,.agg Ab,.agg #[afK,Wj,Wk]] CH (pj λHZ Wl afL afM afN afO anr ans ant oM=>Ac CH oM (
 oC bB CH oM/\
 Sw oM bB.drew.heap.size #[HZ,Wl,afL,afM,afN,afO] λafP=>
 Wt afP ⟨wy,0,none⟩ 3/\Nb wy w/\Nb wy w0/\Nb wy w1/\Nb wy w3/\bN (aB wy)≠some bB.drew.heap.size/\(Pw afP (aB wy) [.bool anr,ans,ant] λanu=>
 aP B/\aP G/\aP A/\aP Aa/\CG Ae anu)))))))/\(Aw bB.drew E 253 λvx=>
 (ae 205 D vx (mh λWm afQ anv th=>(λAj=>Ac vx th (
 ah th Ad 0 Aa/\(ae 212 Aj th (pj λanw afR afS afT Td afU anx anz anA rG=>Ac th rG (
 Aw rG C 202 λanB=>
 Sw anB rG #[anw,afR,afS,afT,Td,afU] λafV=>
 Wt afV ⟨bB.drew.heap.size,0,none⟩ 3/\Nq Ae w/\Nq Ae w0/\Nq Ae w1/\Nq Ae w3/\Nq Ae rG/\(Pw afV Ae [.bool anx,anz,anA] λanC=>
 aP B/\aP G/\aP A/\aP Aa/\CG (aB rG) anC))))/\(Aw th C 202 λafW=>
 ae 212 Aj afW (pj λanD anE anF anG anH anK anL anM anN afX=>K5 w w0 w1 w3 th afW afX (
 Sw afX th #[anD,anE,anF,anG,anH,anK] λafY=>
 Wt afY ⟨bB.drew.heap.size,0,none⟩ 3/\Nq Ae w/\Nq Ae w0/\Nq Ae w1/\Nq Ae w3/\Nq Ae th/\(Pw afY Ae [.bool anL,anM,anN] λanO=>
 aP B/\aP G/\aP A/\aP Aa/\CG (aB th) anO)))))) #[a1,.agg Ab,.agg #[Wm,afQ,anv]]))/\(Aw vx C 202 λafZ=>
 ae 205 D afZ (mh λaf0 af1 af2 Om=>K5 w w0 w1 w3 vx afZ Om (
 ah Om Ad 0 Aa/\ae 212 #[a1,.agg Ab,.agg #[af0,af1,af2]] Om (pj λaf3 CI anP anQ anR anT anU anV anW af4=>K5 w w0 w1 w3 vx Om af4 (
 Sw af4 vx #[af3,CI,anP,anQ,anR,anT] λaf5=>
 Wt af5 ⟨bB.drew.heap.size,0,none⟩ 3/\Nq Ae w/\Nq Ae w0/\Nq Ae w1/\Nq Ae w3/\Nq Ae vx/\(Pw af5 Ae [.bool anU,anV,anW] λanX=>
 aP B/\aP G/\aP A/\aP Aa/\CG (aB vx) anX))))))))/\
 ∀arv:Nat->Value,∀(Jn:Option Addr)(ajr:World),CG Jn ajr->
 aN (eI Jn) (ia ajr.drew (ab Jn 0) λTg abn anZ=>
 ae 207 #[.agg #[Tg,abn,anZ],.agg #[x4,x5,x6]] ajr.drew (mh λEB an1 EA abp=>Ac ajr.drew abp (
 ah abp w 0 [aM,aL,aR]/\ae 206 #[.agg #[aM,aL,aR],.agg #[EB,an1,EA]] abp (mh λpT Wn af6 an4=>(λAk=>Ac abp an4 (
 Sw an4 w Ak λary=>
 Sw ary w1 Ak λyC=>
 R (Value.agg Ak) yC)) #[pT,Wn,af6,cV,cZ,du,iO,iF,gG]))))) (aB bB.drew.heap.size))) [x4,x5,x6,x7,x8,x9] #[x4,x5,x6,x7,x8,x9] (K4 w w0 w1 w3) (aB w3))) [ai,ai,ai,ai,ai,ai,ai,ai,false] [aM,aL,aR,cV,cZ,du,iO,iF,gG] #[ai,ai,ai,ai,ai,ai] #[.agg #[aM,aL,aR,cV,cZ,du,iO,iF,gG],.agg #[gu,gw,fB]] #[false,false,false] [gu,gw,fB] #[aM,aL,aR,cV,cZ,du,iO,iF,gG]):ae 144 #[.agg #[aM,aL,aR,cV,cZ,du,iO,iF,gG],a1,.agg #[gu,gw,fB]] w R:=
 cq ⟨[],[(3,⟨[(8,.ptr)],[],[]⟩)],[]⟩ func144 h
def ahM.vc{a0:Value}(h:
 uo (λI0 n1=>I0 n1 (0) w) λI0 n1 wZ x3 w4=>
 Br (x3<3)
 (bu Tryz.prog a0 [x3] w4 (CP λb7 w6=>Br (!b7)
 (R false w6)
 (∃n5,n5<n1/\I0 n5 ((aC (x3+1))) w6)))
 (R true w4)):ae 215 #[a0] w R:=
 cq (Oy 2 4) func215 h
def IA.vc{c0:Addr}{c1:Addr}(h:(λA B=>
 ia w.drew (ab (some c0) 0) λx0 x1 x2=>
 ia w.drew A λx3 x4 x5=>
 ae 210 #[.agg #[x0,x1,x2],a0] w.drew (gk λx7 w6=>ah w6 A 0 [x3,x4,x5]/\ae 210 #[.agg #[x3,x4,x5],a0] w6 (gk λx9 w8=>Br (x7<x9)
 (ia w8 (ab (some c1) 0) λbM bR cw=>
 ia w8 B λcN cY dm=>
 ae 210 #[.agg #[bM,bR,cw],a0] w8 (gk λdS cp=>ah cp B 0 [cN,cY,dm]/\ae 210 #[.agg #[cN,cY,dm],a0] cp (gk λdR dN=>R (Ix (decide (dS<dR))) dN)))
 (R false w8)))) (ab (some c1) 3) (ab (some c0) 3)):ae 216 #[a0,c0,c1] w R:=
 cq bD func216 h
def PS.vc(h:
 Aw w #[aM,aL,aR,cV,cZ,du] 202 λw0=>
 Aw w0 #[aG,aH,aS,eX,jg,jh] 202 λw1=>
 ae 215 #[.func (.func 216) #[] #[w,.pointer (aB w0)]] w1 (CP λb3 w2=>R b3 w2)):ae 148 #[.agg #[aM,aL,aR,cV,cZ,du],.agg #[aG,aH,aS,eX,jg,jh]] w R:=
 cq bD func148 h
def PT.vc{c0:Addr}{c1:Addr}(h:(λA B C=>
 ia w.drew (ab (some c0) 3) λx0 x1 x2=>
 ia w.drew C λx3 x4 x5=>
 ia w.drew B λx6 x7 x8=>
 ia w.drew A λx9 bM bR=>
 ae 210 #[.agg #[x0,x1,x2],a0] w.drew (gk λcN bO=>ah bO A 0 [x9,bM,bR]/\ah bO B 0 [x6,x7,x8]/\ah bO C 0 [x3,x4,x5]/\ae 210 #[.agg #[x3,x4,x5],a0] bO (gk λdm cu=>ah cu A 0 [x9,bM,bR]/\ah cu B 0 [x6,x7,x8]/\ae 210 #[.agg #[x6,x7,x8],a0] cu (gk λdS cp=>ah cp A 0 [x9,bM,bR]/\ae 210 #[.agg #[x9,bM,bR],a0] cp (gk λdR dN=>R ((aC ((if dm<cN then dm else cN)-(if dR>dS then dR else dS)))) dN))))) (ab (some c1) 0) (ab (some c0) 0) (ab (some c1) 3)):ae 209 #[a0,c0,c1] w R:=
 cq bD func209 h
def YN.vc{gG:Bool}{Oi:Bool}(h:(λ(A:LV)(B:LV)(C:Array Value)(D:LV)(E:Array Value)(G:Array Value)(H:Array Value)=>
 Aw w #[aM,aL,aR,cV,cZ,du,iO,iF,gG] 75 λw0=>(λAa=>
 Aw w0 #[aG,aH,aS,eX,jg,jh,V7,V8,Oi] 75 λw1=>
 Aw w1 H 73 λw2=>(λAb=>
 Aw w2 H 73 λw3=>(λAc=>
 ∃J4:Option Addr->Option Addr->wPp,
 ((ae 149 G w3.drew (CY λx6 x7 x8 x9 bM bR w5=>(λ(Ad:Array Value) Ae Af=>Ab w3.drew w5 (
 ah w5 Aa 0 A/\(ae 149 E w5 (CY λcN cY dm dz dS de bO=>Ab w5 bO (
 (Aw bO C 202 λeQ=>
 Aw eQ C 202 λfw=>
 Sw fw bO Ad λcX=>
 Sw cX eQ #[cN,cY,dm,dz,dS,de] λdt=>
 aP B/\aP A/\aP D/\aP D/\J4 (aB bO) (aB eQ) dt)/\(Aw bO C 202 λje=>
 Aw je C 202 λiH=>
 Sw iH je Ad λdL=>
 Sw dL bO #[cN,cY,dm,dz,dS,de] λlQ=>
 aP B/\aP A/\aP D/\aP D/\J4 (aB je) (aB bO) lQ))))/\(Aw w5 C 202 λgN=>
 (ae 149 E gN (CY λkK tM oU mR gO j0 jI=>Af gN jI (
 Aw jI C 202 λiI=>
 Sw iI w5 Ad λox=>
 Sw ox jI #[kK,tM,oU,mR,gO,j0] λjJ=>
 aP B/\aP A/\aP D/\aP D/\J4 Ae (aB jI) jJ)))/\(Aw gN C 202 λtN=>
 ae 149 E tN (CY λrK lO yP vS rE yO lN=>K6 w w0 w1 w2 w5 gN tN lN (
 Sw lN w5 Ad λIg=>
 Sw Ig gN #[rK,lO,yP,vS,rE,yO] λoK=>
 aP B/\aP A/\aP D/\aP D/\J4 Ae (aB gN) oK))))/\(Aw w5 C 202 λlP=>
 (ae 149 E lP (CY λFb yK wm nZ CF vR nH=>Af lP nH (
 Aw nH C 202 λBk=>
 Sw Bk nH Ad λpI=>
 Sw pI w5 #[Fb,yK,wm,nZ,CF,vR] λCD=>
 aP B/\aP A/\aP D/\aP D/\J4 (aB nH) Ae CD)))/\(Aw lP C 202 λpR=>
 ae 149 E pR (CY λKS rJ Bj KX A8 rO nX=>K6 w w0 w1 w2 w5 lP pR nX (
 Sw nX lP Ad λpS=>
 Sw pS w5 #[KS,rJ,Bj,KX,A8,rO] λOO=>
 aP B/\aP A/\aP D/\aP D/\J4 (aB lP) Ae OO)))))) #[x6,x7,x8,x9,bM,bR] (aB w5) (K5 w w0 w1 w2 w5)))/\(Aw w3.drew C 202 λOQ=>
 (ae 149 G OQ (CY λBa Dw KU OS KY OT yM=>Ab OQ yM (
 oC w3 OQ yM/\
 ah yM Aa 0 A/\(ae 149 E yM (CY λx78 x79 Oj HX Et OR uk=>Ab yM uk (
 oC w3 yM uk/\
 Aw uk C 202 λw84=>
 Sw w84 w3.drew.heap.size #[Ba,Dw,KU,OS,KY,OT] λw85=>
 Sw w85 uk #[x78,x79,Oj,HX,Et,OR] λw86=>
 aP B/\aP A/\aP D/\aP D/\J4 Ac (aB uk) w86)))/\(Aw yM C 202 λIh=>
 ae 149 E Ih (CY λx89 x90 Ol Ta Wa x94 TT=>Ab Ih TT (
 oC w3 Ih TT/\Kp yM Ih TT/\
 Sw TT w3.drew.heap.size #[Ba,Dw,KU,OS,KY,OT] λw95=>
 Sw w95 yM #[x89,x90,Ol,Ta,Wa,x94] λIj=>
 aP B/\aP A/\aP D/\aP D/\J4 Ac (aB yM) Ij))))))/\(Aw OQ C 202 λw97=>
 ae 149 G w97 (CY λYb Be pU Bb Eu We w98=>Ab w97 w98 (
 oC w3 w97 w98/\Kp OQ w97 w98/\
 ah w98 Aa 0 A/\ae 149 E w98 (CY λJi Ew Th rF lR yA Bf=>Ab w98 Bf (
 oC w3 w98 Bf/\Kp OQ w98 Bf/\
 Sw Bf w3.drew.heap.size #[Yb,Be,pU,Bb,Eu,We] λBc=>
 Sw Bc OQ #[Ji,Ew,Th,rF,lR,yA] λWp=>
 aP B/\aP A/\aP D/\aP D/\J4 Ac (aB OQ) Wp))))))/\(Aw w3.drew C 202 λJq=>
 (ae 149 G Jq (CY λarz arA arB agb abq ajs EC=>Ab Jq EC (
 oC w3 Jq EC/\
 ah EC Aa 0 A/\(ae 149 E EC (CY λWj Wk an6 HZ Wl afL yD=>Ab EC yD (
 oC w3 EC yD/\
 Aw yD C 202 λaxn=>
 Sw axn yD #[arz,arA,arB,agb,abq,ajs] λaxo=>
 Sw axo w3.drew.heap.size #[Wj,Wk,an6,HZ,Wl,afL] λaxp=>
 aP B/\aP A/\aP D/\aP D/\J4 (aB yD) Ac axp)))/\(Aw EC C 202 λTi=>
 ae 149 E Ti (CY λan7 an8 an9 aoa aob Wm ajt=>Ab Ti ajt (
 oC w3 Ti ajt/\Kp EC Ti ajt/\
 Sw ajt EC #[arz,arA,arB,agb,abq,ajs] λaxq=>
 Sw axq w3.drew.heap.size #[an7,an8,an9,aoa,aob,Wm] λaxr=>
 aP B/\aP A/\aP D/\aP D/\J4 (aB EC) Ac axr))))))/\(Aw Jq C 202 λrG=>
 ae 149 G rG (CY λafR afS afT Td afU axs Tj=>Ab rG Tj (
 oC w3 rG Tj/\Kp Jq rG Tj/\
 ah Tj Aa 0 A/\ae 149 E Tj (CY λaxt axu axv axw axx axy aju=>Ab Tj aju (
 oC w3 Tj aju/\Kp Jq Tj aju/\
 Sw aju Jq #[afR,afS,afT,Td,afU,axs] λaxz=>
 Sw axz w3.drew.heap.size #[axt,axu,axv,axw,axx,axy] λaxA=>
 aP B/\aP A/\aP D/\aP D/\J4 (aB Jq) Ac axA)))))))/\
 ∀aB4:Nat->Value,∀(Tk Tm:Option Addr)(agc:World),J4 Tk Tm agc->
 CZ agc Tk λaxB axC axD ajv axE axF=>
 CZ agc Tm λaxG af0 af1 af2 axH af3=>
 ae 148 #[.agg #[axB,axC,axD,ajv,axE,axF],.agg #[axG,af0,af1,af2,axH,af3]] agc (Rb λaxI Tn=>Ab agc Tn (
 Br (!axI)
 (Sw Tn w1 H λarC=>
 Sw arC w2 H λarD=>
 R (eV #[.agg H,.agg H]) arD)
 (∃aoc:Int->wPp,
 (ae 209 #[ai,Tk,Tm] Tn (Ri λaxJ ajw=>Ab Tn ajw (
 ae 209 #[(2:Int),Tk,Tm] ajw (Ri λaxL ajx=>Ab ajw ajx (
 Br (axJ>axL)
 (aP B/\aP A/\aP D/\aP D/\aoc (2) ajx)
 (aP B/\aP A/\aP D/\aP D/\aoc (0) ajx))))))/\
 ∀aB5:Nat->Value,∀(abr:Int)(aod:World),aoc abr aod->
 ∃arE:Int->wPp,
 (ae 209 #[abr,Tk,Tm] aod (Ri λabn Te=>Ab aod Te (
 aP B/\aP A/\aP D/\aP D/\arE ((if 4096<abn then 4096 else abn)) Te)))/\
 ∀aB6:Nat->Value,∀(Ez:Int)(Jp:World),arE Ez Jp->
 ∃aoe:Int->wPp,
 (ae 210 #[.agg #[aM,aL,aR],abr] Jp.drew (Ri λJo abt=>Ab Jp.drew abt (
 ah abt Aa 0 [aG,aH,aS]/\ae 210 #[.agg #[aG,aH,aS],abr] abt (Ri λWn Tf=>Ab abt Tf (
 Br (Jo<=Wn)
 (aP B/\aP A/\aP D/\aP D/\aoe ((aC (0-Ez))) Tf)
 (aP B/\aP A/\aP D/\aP D/\aoe Ez Tf))))))/\
 ∀aB7:Nat->Value,∀(Wo:Int)(yC:World),aoe Wo yC->
 ae 211 #[.agg H,abr,Wo] yC (mh λarF arG Jr agd=>Ab yC agd (
 ae 211 #[.agg H,abr,(aC (0-Wo))] agd (mh λaf7 af8 age aof=>Ab agd aof (
 Sw aof w1 #[arF,arG,Jr] λarH=>
 Sw arH w2 #[af7,af8,age] λarI=>
 R (eV #[.agg #[arF,arG,Jr],.agg #[af7,af8,age]]) arI)))))))) (aB w3.drew.heap.size)) (K4 w w0 w1 w2)) (aB w0)) [aG,aH,aS,eX,jg,jh,V7,V8,Oi] [aM,aL,aR,cV,cZ,du,iO,iF,gG] #[ai,ai,ai,ai,ai,ai] [ai,ai,ai] #[.agg #[aG,aH,aS,eX,jg,jh,V7,V8,Oi]] #[.agg #[aM,aL,aR,cV,cZ,du,iO,iF,gG]] #[ai,ai,ai]):ae 143 #[.agg #[aM,aL,aR,cV,cZ,du,iO,iF,gG],.agg #[aG,aH,aS,eX,jg,jh,V7,V8,Oi]] w R:=
 cq ⟨[],[(11,⟨[(10,.int .i64)],[],[]⟩),(9,⟨[(10,.int .i64)],[],[]⟩),(8,⟨[(9,.int .i64)],[],[]⟩),(2,⟨[(6,.ptr),(7,.ptr)],[],[]⟩)],[]⟩ func143 h
def zE.vc{a0:Sl}(h:
 Br (a0.a).isNone
 (R (Value.slice none 0 0) w)
 (Aw w #[] 75 λw0=>
 ∃l1:LV,Rd w0 a0.a l1/\aY 72 9 w0 ⟨(aB w),0,0⟩ a0.n l1/\∀(s2:Sl)(w3:World),aT 75 9 w0 ⟨(aB w),0,0⟩ a0.n l1 s2 w3->Kp w w0 w3/\
 R s2 w3)):ae 142 #[a0] w R:=
 cq bD func142 h
def UA.vc{a0:Value}{a1:Sl}(h:(λA=>
 ae 142 #[a1] w (rZ λs1 w0=>uo (λI2 n3=>I2 n3 (0) w0) λI2 n3 us4 x5 w6=>(λAa Ab=>
 Br (decide (x5<((s1.n:Nat):Int)))
 (uo (λI8 n9=>I8 n9 Ab w6) λI8 n9 agf bR bO=>(λAc Ad=>
 Br (decide (bR<((s1.n:Nat):Int)))
 (∃J14:Option Addr->Option Addr->wPp,
 (gJ s1.a x5 s1.n/\jW bO.drew Aa λdm dz dS de dR fk fj gI b23=>(λAe=>
 gJ s1.a bR s1.n/\jW bO.drew Ac λjR gM nY jH rI kK tM oU b32=>(λAf=>
 (ae 143 Af bO.drew (acY λj0 pG pP mQ nI rD jZ=>(Aw jZ A 73 λnV=>
 Aw nV A 73 λkN=>
 Sw kN jZ #[j0,pG,pP] λpF=>
 Sw pF nV #[mQ,nI,rD] λiS=>
 J14 (aB jZ) (aB nV) iS)/\(Aw jZ A 73 λkh=>
 Aw kh A 73 λyI=>
 Sw yI kh #[j0,pG,pP] λIg=>
 Sw Ig jZ #[mQ,nI,rD] λoK=>
 J14 (aB kh) (aB jZ) oK)))/\(Aw bO.drew A 73 λlP=>
 (ae 143 Af lP (acY λFb yK wm nZ CF vR nH=>oC bO lP nH/\
 Aw nH A 73 λBk=>
 Sw Bk bO.drew.heap.size #[Fb,yK,wm] λpI=>
 Sw pI nH #[nZ,CF,vR] λCD=>
 J14 Ad (aB nH) CD))/\(Aw lP A 73 λpR=>
 ae 143 Af pR (acY λKS rJ Bj KX A8 rO nX=>oC bO pR nX/\Kp lP pR nX/\
 Sw nX bO.drew.heap.size #[KS,rJ,Bj] λpS=>
 Sw pS lP #[KX,A8,rO] λOO=>
 J14 Ad (aB lP) OO)))/\(Aw bO.drew A 73 λOQ=>
 (ae 143 Af OQ (acY λBa Dw KU OS KY OT yM=>oC bO OQ yM/\
 Aw yM A 73 λuk=>
 Sw uk yM #[Ba,Dw,KU] λwu=>
 Sw wu bO.drew.heap.size #[OS,KY,OT] λKV=>
 J14 (aB yM) Ad KV))/\(Aw OQ A 73 λJh=>
 ae 143 Af Jh (acY λEt OR TR x85 x86 xf wx=>oC bO Jh wx/\Kp OQ Jh wx/\
 Sw wx OQ #[Et,OR,TR] λTT=>
 Sw TT bO.drew.heap.size #[x85,x86,xf] λwy=>
 J14 (aB OQ) Ad wy)))) #[.agg Ae,.agg #[jR,gM,nY,jH,rI,kK,tM,oU,b32]]) #[dm,dz,dS,de,dR,fk,fj,gI,b23])/\
 ∀axM:Nat->Value,∀(p91 p92:Option Addr)(KZ:World),J14 p91 p92 KZ->
 ∃J94:wPp,
 (gJ s1.a x5 s1.n/\jW KZ.drew Aa λWb Wc KW x98 Yb Be pU Bb afI=>
 ia KZ.drew p91 λWe Ev Ji=>
 ae 144 #[.agg #[Wb,Wc,KW,x98,Yb,Be,pU,Bb,afI],a0,.agg #[We,Ev,Ji]] KZ.drew (ahL λTh rF lR yA lS Wg afJ axN Tc HY=>gJ s1.a x5 s1.n/\((Aa).isSome=true/\Wr HY Aa 9)/\(Pw HY Aa [Th,rF,lR,yA,lS,Wg,afJ,axN,Tc] λWh=>
 J94 Wh)))/\
 ∀aCb:Nat->Value,∀(Jm:World),J94 Jm->
 gJ s1.a bR s1.n/\jW Jm.drew Ac λabq ajs afK Wj Wk an6 HZ Wl ann=>
 ia Jm.drew p92 λafM afN afO=>
 ae 144 #[.agg #[abq,ajs,afK,Wj,Wk,an6,HZ,Wl,ann],a0,.agg #[afM,afN,afO]] Jm.drew (ahL λaxO an7 an8 an9 aoa aob Wm afQ axQ Ti=>gJ s1.a bR s1.n/\((Ac).isSome=true/\Wr Ti Ac 9)/\(Pw Ti Ac [axO,an7,an8,an9,aoa,aob,Wm,afQ,axQ] λrG=>
 ∃n13,n13<n9/\I8 n13 ((aC (bR+1))) rG)))
 (∃n7,n7<n3/\I2 n7 Ab bO)) (ab s1.a ((bR:Int).toNat*9)) (aB bO.drew.heap.size))
 (R s1 w6)) (ab s1.a ((x5:Int).toNat*9)) ((aC (x5+1))))) #[ai,ai,ai]):ae 82 #[a0,a1] w R:=
 cq ⟨[(6,⟨[(7,.int .i64)],[],[]⟩),(3,⟨[(14,.int .i64)],[],[]⟩)],[(10,⟨[],[],[]⟩),(9,⟨[(8,.ptr),(9,.ptr)],[],[]⟩)],[]⟩ func82 h
def zA{w v:World}{o:Obj}(e:v=w.alloc o):v.heap.size=w.heap.size+1:=by rw [e];simp
def zR{w v:World}{g:Nat}{c:Array Value}(e:v=w.setRow g c):v.heap.size=w.heap.size:=by rw [e];simp
def Qc{v:Value}{V:Ce->Int}{w:World}(hV:Tl v V w)(hv:kr v=[])(b:Bx):eU 202 #[v,xq b] w (Value.bool (kd V b λx=>x==4)):=by
 apply Me.vc;intro w0 e0;have x0:=aV e0;have z0:=zA e0;refine (Gk (hV.ext x0) hv b (.func (.func 261) #[] #[]) rfl (λx=>x==4) λx w'=>bV (by kernel_rfl) rfl (Mf.vc ⟨rfl,Ext.bU _⟩)).bj λw1 x1=> ?_
 exact ⟨_,rfl,x1.heap aa,rfl,x0.tr x1⟩
def Y1{v:Value}{V:Ce->Int}{w:World}(hV:Tl v V w)(hv:kr v=[])(b:Bx):eU 203 #[v,xq b] w (Value.bool (kd V b sj)):=by
 apply YK.vc;intro w0 e0;have x0:=aV e0;have z0:=zA e0;refine (Gk (hV.ext x0) hv b (.func (.func 262) #[] #[]) rfl sj λx w'=>bV (by kernel_rfl) rfl ((pg x w').mono ?_)).mono ?_
 ·rintro e w'' ⟨rfl,rfl⟩;exact ⟨rfl,Ext.bU _⟩
 rintro e w1 ⟨rfl,x1⟩;exact ⟨_,rfl,x1.heap aa,rfl,x0.tr x1⟩
def vI(n:Int)(w:World):kT 258 #[n] w (Value.tuple #[.int .u64 (max (dG n) (-(dG n))),.bool (decide (dG n<0))]):=by
 apply Uz.vc;refine (ic n w).gK ?_;have hc:=sH n;refine ⟨_,rfl,Br.mk (λh=> ?_) (λh=> ?_)⟩
 ·have h':dG n<0:=by simpa using h
  rw [wI,xE aa,h];exact ⟨by rw [show max (dG n) (-(dG n))=0-dG n from by omega],rfl⟩
 ·have h':¬dG n<0:=by simpa using h
  rw [xE aa,h];exact ⟨by rw [show max (dG n) (-(dG n))=dG n from by omega],rfl⟩
def Xk{x:Int}(h:0<=x/\x<4294967296):tP .u64 x 4294967295=x:=by
 unfold tP;have e:(BitVec.ofInt IntKind.u64.bits x &&& BitVec.ofInt IntKind.u64.bits 4294967295).toNat=x.toNat:=by
  show (BitVec.ofInt 64 x &&& BitVec.ofInt 64 4294967295).toNat=_;rw [zK];have h1:(BitVec.ofInt 64 4294967295).toNat=2 ^ 32-1:=by decide
  rw [h1,Nat.and_two_pow_sub_one_eq_mod,zc];omega
 rw [e,Int.toNat_of_nonneg h.1];exact xE aa
def p32:(2 ^(min (32:Int).toNat 64):Int)=4294967296:=by decide
def UL(x:Int)(h:0<=x/\x<=65536)(w:World):kT 259 #[.int .u64 x,.int .u64 16384] w (Value.tuple #[.int .u64 0,.int .u64 (x*16384)]):=by
 apply DI.vc;have f:∀y:Int,y.fdiv 4294967296=y / 4294967296:=λy=>tB _ aw
 have q1:x / 4294967296=0:=by omega
 have q3:x*16384 / 4294967296=0:=by omega
 rw [p32,Xk (x:=x) aa,Xk (x:=16384) aa];simp only [f];rw [q1,show (16384:Int) / 4294967296=0 from by decide,xE (n:=x*16384) aa,q3,Int.zero_mul,Int.zero_mul,Int.mul_zero];exact ⟨congrArg (λn=>Ending.returned (.tuple #[.int .u64 n,.int .u64 (x*16384)])) aw,trivial⟩
def ahX(q:Int)(hq:0<=q/\q<=100000000000000)(below rest:Bool){c0 c1:Nat}{w:World}{τ τ':TypeId}(h0:Row w c0 [.bool below] τ)(h1:Row w c1 [.bool rest] τ'):
  ae 318 #[.int .u64 q,c0,c1] w λe w'=>e=Value.int .u64 (if below=true/\rest=true then q+1 else q)/\w'=w:=by
 apply Iz.vc;refine ⟨below,h0.at 0 rfl,?_⟩
 cases below with
 |false=>exact ⟨rfl,rfl⟩
 |true=>
  refine ⟨rest,h1.at 0 rfl,?_⟩
  cases rest with
  |false=>exact ⟨rfl,rfl⟩
  |true=>exact ⟨by rw [xE aa];rfl,rfl⟩
def Gl(q:Int)(hq:0<=q/\q<=100000000000000)(rest below:Bool)(w:World):eU 260 #[.int .u64 q,rest,below] w (Value.int .i64 (if below=true then -(if rest=true then q+1 else q) else q)):=by
 apply PO.vc;intro w0 e0 w1 e1;have x0:=aV e0;have z0:=zA e0;have r0:Row w0 w [.bool rest] 4:=Row.nw e0;have x1:=aV e1;have r1:Row w1 w0 [.bool below] 4:=Row.nw e1;refine BK smo ⟨below,r1.at 0 rfl,?_⟩
 cases below with
 |false=>exact ⟨by rw [wI];rfl,x0.tr x1⟩
 |true=>
  refine (ahX q hq true rest r1 (r0.ext x1)).gK ?_;refine ⟨_,rfl,?_⟩;have e:(if (true=true/\rest=true) then q+1 else q)=if rest=true then q+1 else q:=by simp
  rw [e];have hb:0<=(if rest=true then q+1 else q)/\(if rest=true then q+1 else q)<=100000000000001:=by split<;>omega
  generalize (if rest=true then q+1 else q)=y at*;rw [aK (n:=y) inO,wI];exact ⟨by rw [if_pos rfl,Int.zero_sub],x0.tr x1⟩
def adh(n:Int)(h: -65536<=n/\n<=65536)(w:World):eU 200 #[n,(16384:Int)] w (Value.int .i64 (n / 4)):=by
 apply YL.vc;refine (vI n w).mono ?_;rintro e w0 ⟨rfl,rfl⟩;have hc:dG n=n:=oE aa;have hd:dG 16384=16384:=by decide
 rw [hc];refine ⟨_,_,rfl,(vI 16384 w0).mono ?_⟩;rintro e w3 ⟨rfl,rfl⟩;rw [hd];refine ⟨_,_,rfl,(UL (max n (-n)) aa w3).mono ?_⟩;rintro e w6 ⟨rfl,rfl⟩;refine ⟨_,_,rfl,BK rfl ?_⟩;have hf:(max n (-n)*16384).fdiv (2 ^(min (16:Int).toNat 64))=max n (-n) / 4:=by rw [p16,tB _ aw];omega
 have hr:Int.tmod (max n (-n)*16384) 65536=max n (-n) % 4*16384:=by rw [PE aa];omega
 rw [hf,hr];refine (Gl (max n (-n) / 4) aa _ _ w6).mono ?_;rintro e bB ⟨rfl,bR⟩;refine ⟨_,rfl,?_,bR⟩;have hs:(!(decide (n<0)==decide ((16384:Int)<0)))=decide (n<0):=by
  by_cases q:n<0
  ·rw [decide_eq_true q];rfl
  ·rw [decide_eq_false q];rfl
 rw [hs];congr 2;by_cases q:n<0
 ·rw [decide_eq_true q,if_pos rfl];by_cases q2:max n (-n) % 4=0
  ·rw [q2];show -(max n (-n) / 4)=n / 4;omega
  ·have:(max n (-n) % 4*16384 !=0)=true:=by simp;omega
   rw [this,if_pos rfl];omega
 ·rw [decide_eq_false q];show max n (-n) / 4=n / 4;omega
def C1(n:Int)(w:World):eU 199 #[n] w (Value.int .i64 (J1 n)):=by
 apply zC.vc;have e:(if 65536<(if (-65536)>n then (-65536) else n) then 65536 else (if (-65536)>n then (-65536) else n))=min (max n (-65536)) 65536:=by
  repeat' split
  all_goals omega
 rw [e];refine (adh _ aa w).bj λw1 x1=> ?_
 exact ⟨_,rfl,rfl,x1⟩
def UM(b:Bx)(v:Ce)(w:World):eU 320 #[xq b,gg v] w ((xq (adi b v))):=by
 apply acX.vc;intro w0 e0 w1 e1 w2 e2;have x0:=aV e0;have z0:=zA e0;have r0:Row w0 w (pL b) fX:=Row.nw e0;have x1:=aV e1;have z1:=zA e1;have r1:Row w1 w0 (eZ v) iz:=Row.nw e1;have x2:Ext w1 w2.drew:=(aV e2).drew;have z2:w2.drew.heap.size=w1.heap.size+1:=(zA e2:w2.heap.size=_);refine (jD b.1 v w2.drew).bj λw3 x3=> ?_
 have z3:=x3.size;refine ⟨_,_,_,rfl,x3.heap aa,x3.heap aa,x3.heap aa,Lo.wv (r1.ext (x2.tr x3)),ua (r0.ext (x1.tr (x2.tr x3))) rfl rfl rfl,(jD b.2 v w3).bj λw7 x7=> ?_⟩;have z7:=x7.size;exact ⟨_,_,_,rfl,x7.heap aa,x7.heap aa,x7.heap aa,λbB yr=>⟨rfl,(x0.tr (x1.tr (x2.tr (x3.tr x7)))).af yr aa⟩⟩
def UN(b:Bx)(ax k:Int)(hk:cT (k+1))(w:World):eU 359 #[xq b,ax,k] w ((xq (sI b ax k))):=by apply PL.vc;rw [aK hk];intro w0 e0 w1 e1;have x0:=aV e0;have z0:=zA e0;have r0:Row w0 w (pL b) fX:=Row.nw e0;have x1:Ext w0 w1.drew:=(aV e1).drew;have z1:w1.drew.heap.size=w0.heap.size+1:=(zA e1:w1.heap.size=_);have r1:=r0.ext x1;refine (sJ k w1.drew).gK ?_;refine ⟨_,rfl,rfl,rfl,ua r1 rfl rfl rfl,ua r1 rfl rfl rfl,(jo b.1 ax (uS k) w1.drew).bj λw4 x4=> ?_⟩;have z4:=x4.size;refine ⟨_,_,_,rfl,x4.heap aa,x4.heap aa,ua (r1.ext x4) rfl rfl rfl,(sJ (k+1) w4).gK ?_⟩;refine ⟨_,rfl,rfl,rfl,ua (r1.ext x4) rfl rfl rfl,(jo b.2 ax (uS (k+1)) _).bj λbc bM=> ?_⟩;have z10:=bM.size;exact ⟨_,_,_,rfl,bM.heap aa,bM.heap aa,λcu yw=>⟨rfl,(x0.tr (x1.tr (x4.tr bM))).af yw aa⟩⟩
abbrev sM(b:Bx)(ax d:Int):List (LV):=(dy b ax d).map λx=> [.int .i64 x.1,.int .i64 x.2]
abbrev akD(g:Nat):Value:=.func (.func 379) #[] #[g,.pointer (some ⟨g+1,0,none⟩),.pointer (some ⟨g+2,0,none⟩)]
def Qw(b:Bx)(ax d:Int)(w:World):ae 358 #[xq b,ax,d] w λe w'=>e=(akD w)/\Row w' w (pL b) fX/\Row w' (w.heap.size+1) [ax] 3/\Row w' (w.heap.size+2) [d] 3/\Ext w w':=by apply Mg.vc;intro w0 e0 w1 e1 w2 e2;have z0:=zA e0;have z1:=zA e1;have r0:Row w0 w (pL b) fX:=Row.nw e0;have r1:Row w1 w0 [ax] 3:=Row.nw e1;have r2:Row w2 w1 [d] 3:=Row.nw e2;have x1:=aV e1;have x2:=aV e2;rw [z0] at r1;rw [z1,z0] at r2;exact ⟨by rw [z1,z0],r0.ext (x1.tr x2),r1.ext x2,r2,(aV e0).tr (x1.tr x2)⟩
def M5{k:Int}(h: -2147483648<=k/\k<=2147483648):uS k=k*65536:=by unfold uS;omega
def Qx(b:Bx)(ax d:Int)(hb:bW b 100000000000000)(hd: -4194304<=d/\d<=4194304)(g:Nat)(W0:World)(h0:Row W0 g (pL b) fX)(h1:Row W0 (g+1) [ax] 3)(h2:Row W0 (g+2) [d] 3):
  Iter Tryz.prog (akD g) W0 (λi=>i=g\/i=g+1\/i=g+2) (sM b ax d):=by
 refine ⟨⟨_,_,_,rfl,by kernel_rfl⟩,?_⟩;intro y B J Jx F0 W hB hsJ hsX yJ hRd hround hJ0;refine bV (by kernel_rfl) (by rfl) ?_;apply FZ.vc;have rows:∀{wr:World},(∀i,(i=g\/i=g+1\/i=g+2)->wr.heap[i]? =W0.heap[i]?)->Row wr g (pL b) fX/\Row wr (g+1) [ax] 3/\Row wr (g+2) [d] 3:=λh=>⟨h0.same (h _ (.inl rfl)),h1.same (h _ (.inr (.inl rfl))),h2.same (h _ (.inr (.inr rfl)))⟩
 obtain ⟨q0,q1,q2⟩:=rows λi hi=>(hRd i hi).2.2
 have xd:=Ext.dr W;have EH:=hb.ax aw ax;refine ⟨_,_,_,ua (o:=0) (q0.ext xd) rfl rfl rfl,_,(q1.ext xd).at 0 rfl,_,_,_,ua (o:=3) (q0.ext xd) rfl rfl rfl,_,(q1.ext xd).at 0 rfl,(c9 b.1 ax W.drew).bj λw8 x8=> ?_⟩;refine ⟨_,rfl,Lo.wv (q1.ext (xd.tr x8)),ua (o:=3) (q0.ext (xd.tr x8)) rfl rfl rfl,(c9 b.2 ax w8).bj λbc bM=> ?_⟩;have xW:=xd.tr (x8.tr bM);refine ⟨_,rfl,_,(q2.ext xW).at 0 rfl,?_⟩;obtain ⟨Q,hQ⟩:∃Q:Nat->wPp,Q=λk wr=>∃F,J k F wr/\∀i,(i=g\/i=g+1\/i=g+2)->¬F i/\i<wr.heap.size/\wr.heap[i]? =W0.heap[i]? :=⟨_,rfl⟩
 have ext:∀{k:Nat} {wr wr':World},Q k wr->Ext wr wr'->W.heap.size<=wr->Q k wr':=λ{k wr wr'} h x hz=>by rw [hQ] at h ⊢;obtain ⟨F,hJ,hk⟩:=h;exact ⟨F,hsJ _ _ _ _ hJ (Below.mono x aa) λi hi=>x.heap (yJ _ _ _ hJ i hi),λi hi=>⟨(hk i hi).1,gA (hk i hi).2.1 x.size,(x.heap (hk i hi).2.1).trans (hk i hi).2.2⟩⟩
 have init:Q 0 bc:=by refine ext (wr:=W) ?_ xW (ak _);rw [hQ];exact ⟨F0,hJ0,hRd⟩
 have qrow:∀{k:Nat} {wr:World},Q k wr->Row wr (g+2) [d] 3:=λh=>by rw [hQ] at h;obtain ⟨F,-,hk⟩:=h;exact h2.same (hk _ (.inr (.inr rfl))).2.2
 have round:∀{k:Nat} {wr:World} {x:LV},W.heap.size<=wr->(sM b ax d)[k]? =some x->Q k wr->bu Tryz.prog y x wr λe w'=>W.heap.size<=w'.heap.size/\((e=true/\Q (k+1) w')\/(e=false/\∃F',Jx () F' w')):=λ{k wr x} hz hx h=>by
  rw [hQ] at h ⊢;obtain ⟨F,hJ,hk⟩:=h;refine bJ (hround _ _ _ _ hx hJ) ?_;rintro e w' (⟨rfl,F2,Wx,gy⟩|⟨rfl,F2,Wx,gy⟩)
  ·refine ⟨by have:=gy.size;omega,.inl ⟨rfl,F2,Wx,λi hi=> ?_⟩⟩;obtain ⟨p1,p2,p3⟩:=hk i hi;refine ⟨λhf=> ?_,gA p2 gy.size,(gy.same i p2 p1).trans p3⟩;rcases gy.sub i hf with hf|hf
   ·exact p1 hf
   ·omega
  ·exact ⟨by have:=gy.size;omega,.inr ⟨rfl,F2,Wx⟩⟩
 have fin:∀{wr:World},Q (sM b ax d).length wr->∃F',J (sM b ax d).length F' wr:=λh=>by rw [hQ] at h;obtain ⟨F,hJ,-⟩:=h;exact ⟨F,hJ⟩
 have zW:=xW.size;apply Br.mk<;>intro CC
 ·have CC:=fC CC;have hL:dy b ax d=(List.range (upN (dK b.2 ax) d (cg (dK b.2 ax+65535)))).map λi:Nat=>(cg (dK b.2 ax+65535)+i,(cg (dK b.2 ax+65535)+i)*65536-dK b.2 ax):=by unfold dy;rw [if_pos CC]
  have Ia:∀{k:Nat},k<upN (dK b.2 ax) d (cg (dK b.2 ax+65535))->(sM b ax d)[k]? =some [.int .i64 (cg (dK b.2 ax+65535)+k),.int .i64 ((cg (dK b.2 ax+65535)+k)*65536-dK b.2 ax)]:=λ{k} hk=>by unfold sM;rw [hL,aZ,aZ,Fu hk];rfl
  have db:(sM b ax d).length=upN (dK b.2 ax) d (cg (dK b.2 ax+65535)):=by unfold sM;rw [hL];simp
  have TA:cg (dK b.2 ax+65535)=(dK b.2 ax+65535) / 65536:=by unfold cg;rw [oE aa]
  generalize sM b ax d=xs at*;generalize dK b.2 ax=top at*;generalize dK b.1 ax=low at*;rw [aK (n:=top+65536) inO,aK (n:=top+65536-1) inO,show top+65536-1=top+65535 from by omega];refine (pn (top+65535) bc).bj λbw azQ=> ?_
  subst azQ;rw [TA] at Ia db ⊢;have agJ:∀i:Nat,((top+65535) / 65536+(i:Int))*65536<top+d ↔ i<upN top d ((top+65535) / 65536):=λi=>aiC aa
  have hn:upN top d ((top+65535) / 65536)<=100:=by unfold upN;omega
  generalize upN top d ((top+65535) / 65536)=N at*;refine ⟨_,rfl,λn x wr=>∃k:Nat,x=(top+65535) / 65536+k/\k+n=N/\Q k wr/\W.heap.size<=wr,⟨N,0,aa,aa,init,zW⟩,?_⟩;rintro n us x wr ⟨k,rfl,hk,hq,zr⟩;have xr:=Ext.dr wr;have hqd:=ext hq xr zr;have zrd:W.heap.size<=wr.drew.heap.size:=zr;refine ⟨_,(qrow hqd).at 0 rfl,(sJ _ wr.drew).mono ?_⟩;rw [M5 aa];rintro e dt ⟨rfl,azR⟩;subst azR;refine ⟨_,rfl,Lo.wv (qrow hqd),?_⟩;rw [aK (n:=top+d) inO];refine Br.mk (λhc=>(sJ _ wr.drew).mono ?_) (λhc=> ?_)
  ·have hc:=(agJ k).1 (by simpa using hc);rw [M5 aa];rintro e iH ⟨rfl,azS⟩;subst azS;have wq:aC (((top+65535) / 65536+(k:Int))*65536-top)=((top+65535) / 65536+(k:Int))*65536-top:=wI;have wk:aC ((top+65535) / 65536+(k:Int)+1)=(top+65535) / 65536+((k+1:Nat):Int):=by rw [wI];omega
   refine ⟨_,rfl,?_⟩;rw [wq];refine bJ (round zrd (Ia hc) hqd) ?_;rintro e lQ ⟨z26,⟨rfl,hq2⟩|⟨rfl,hx2⟩⟩
   ·exact ⟨true,rfl,Br.mk (λh=>by cases h) (λ_=>⟨n-1,aa,k+1,wk,aa,hq2,z26⟩)⟩
   ·exact ⟨false,rfl,Br.mk (λ_=>⟨⟨_,rfl⟩,.inr hx2⟩) (λh=>by cases h)⟩
  ·have hc:¬k<N:=λq=>absurd ((agJ k).2 q) (by simpa using hc)
   have e:k=N:=by omega
   subst e;rw [<-db] at hqd;exact ⟨⟨_,rfl⟩,.inl (fin hqd)⟩
 ·have CC:=fC CC;have hL:dy b ax d=(List.range (tH (dK b.1 ax) d (cg (dK b.1 ax)-1))).map λi:Nat=>(cg (dK b.1 ax)-1-i,(cg (dK b.1 ax)-1-i+1)*65536-dK b.1 ax):=by unfold dy;rw [if_neg CC]
  have Ia:∀{k:Nat},k<tH (dK b.1 ax) d (cg (dK b.1 ax)-1)->(sM b ax d)[k]? =some [.int .i64 (cg (dK b.1 ax)-1-k),.int .i64 ((cg (dK b.1 ax)-1-k+1)*65536-dK b.1 ax)]:=λ{k} hk=>by unfold sM;rw [hL,aZ,aZ,Fu hk];rfl
  have db:(sM b ax d).length=tH (dK b.1 ax) d (cg (dK b.1 ax)-1):=by unfold sM;rw [hL];simp
  have TA:cg (dK b.1 ax)=dK b.1 ax / 65536:=by unfold cg;rw [oE aa]
  generalize sM b ax d=xs at*;generalize dK b.2 ax=top at*;generalize dK b.1 ax=low at*;refine (pn low bc).bj λjI azT=> ?_
  subst azT;rw [TA] at Ia db ⊢;have agJ:∀i:Nat,low+d<(low / 65536-1-(i:Int)+1)*65536 ↔ i<tH low d (low / 65536-1):=λi=>aad
  have hn:tH low d (low / 65536-1)<=100:=by unfold tH;omega
  generalize tH low d (low / 65536-1)=N at*;have ws:aC (low / 65536-1)=low / 65536-1:=wI;refine ⟨_,rfl,?_⟩;rw [ws];refine ⟨λn x wr=>∃k:Nat,x=low / 65536-1-k/\k+n=N/\Q k wr/\W.heap.size<=wr,⟨N,0,aa,aa,init,zW⟩,?_⟩;rintro n us x wr ⟨k,rfl,hk,hq,zr⟩;have xr:=Ext.dr wr;have hqd:=ext hq xr zr;have zrd:W.heap.size<=wr.drew.heap.size:=zr;have w1:aC (low / 65536-1-(k:Int)+1)=low / 65536-1-(k:Int)+1:=wI;rw [w1];refine ⟨_,(qrow hqd).at 0 rfl,(sJ _ wr.drew).mono ?_⟩;rw [M5 aa];rintro e jJ ⟨rfl,azU⟩;subst azU;refine ⟨_,rfl,Lo.wv (qrow hqd),?_⟩;rw [aK (n:=low+d) inO];refine Br.mk (λhc=>(sJ _ wr.drew).mono ?_) (λhc=> ?_)
  ·have hc:=(agJ k).1 (by simpa using hc);rw [M5 aa];rintro e lN ⟨rfl,ao2⟩;subst ao2;have wq:aC ((low / 65536-1-(k:Int)+1)*65536-low)=(low / 65536-1-(k:Int)+1)*65536-low:=wI;have wk:aC (low / 65536-1-(k:Int)-1)=low / 65536-1-((k+1:Nat):Int):=by rw [wI];omega
   refine ⟨_,rfl,?_⟩;rw [wq];refine bJ (round zrd (Ia hc) hqd) ?_;rintro e kN ⟨z41,⟨rfl,hq2⟩|⟨rfl,hx2⟩⟩
   ·exact ⟨true,rfl,Br.mk (λh=>by cases h) (λ_=>⟨n-1,aa,k+1,wk,aa,hq2,z41⟩)⟩
   ·exact ⟨false,rfl,Br.mk (λ_=>⟨⟨_,rfl⟩,.inr hx2⟩) (λh=>by cases h)⟩
  ·have hc:¬k<N:=λq=>absurd ((agJ k).2 q) (by simpa using hc)
   have e:k=N:=by omega
   subst e;rw [<-db] at hqd;exact ⟨⟨_,rfl⟩,.inl (fin hqd)⟩
def adx{b:Bx}{ax d:Int}{n:Nat}{x y:Int}(h:(sM b ax d)[n]? =some [.int .i64 x,.int .i64 y]):(dy b ax d)[n]? =some (x,y):=by
 unfold sM at h;rw [aZ] at h
 cases hc:(dy b ax d)[n]? with
 |none=>rw [hc] at h;cases h
 |some c=>
  rw [hc] at h;simp only [mV] at h;injection h with h;injection h with h1 h;injection h with h2 _;injection h1 with _ h1;injection h2 with _ h2;exact congrArg some (Prod.ext h1 h2)
def avI(d:Int):(if 4194304<(if (-4194304)>d then (-4194304) else d) then 4194304 else (if (-4194304)>d then (-4194304) else d))=mj d:=by
 unfold mj
 repeat' split
 all_goals omega
def UZ{v:Value}{V:Ce->Int}{w:World}(hV:Tl v V w)(hv:kr v=[])(b:Bx)(hb:bW b 100000000000000)(ax d:Int)(hax:0<=ax/\ax<3):
  eU 319 #[v,xq b,ax,d] w (Value.tuple #[.int .i64 (fa V aD b ax d).1,.bool (fa V aD b ax d).2]):=by
 apply Uw.vc;rw [hv,uw,avI];have hd:=EU d;intro w0 e0 w1 e1 w2 e2 w3 e3 w4 e4;have x0:=aV e0;have z0:=zA e0;have r0:∃τ,Row w0 w [v] τ:=⟨_,by rw [e0];exact Row.new w [_] _⟩;have x1:=aV e1;have z1:=zA e1;have x2:=aV e2;have z2:=zA e2;have x3:=aV e3;have z3:=zA e3;have x4:=aV e4;have z4:=zA e4;have E9:=x0.tr (x1.tr (x2.tr (x3.tr x4)));obtain ⟨τ0,r0⟩:=r0;refine BK smo (BK smo ((Qw b ax (mj d) w4).mono ?_));rintro e w9 ⟨rfl,hb9,ha9,hd9,x9⟩;have z9:=x9.size;have l9:=hd9.lt;have To:=E9.tr x9;have r9:=r0.ext (x1.tr (x2.tr (x3.tr (x4.tr x9))));refine ⟨_,rfl,x9.heap aa,x9.heap aa,x9.heap aa,x9.heap aa,x9.heap aa,sM b ax (mj d),λi=>i=w4.heap.size\/i=w4.heap.size+1\/i=w4.heap.size+2,λ_=>False,
  λn F y bb w'=>(∀i,¬F i)/\(∀x ∈(dy b ax (mj d)).take n,kd V (sI b ax x.1) aD=false)/\Mod (λi=>w9.heap.size<=i) w9 w',
  λo F y bb w'=>(∀i,¬F i)/\(y,bb)=fa V aD b ax d/\Mod (λi=>i=w2.heap.size\/i=w3.heap.size\/w9.heap.size<=i) w9 w',?_,?_,?_,λn F y bb w' h i hi=>(h.1 i hi).elim,λo F y bb w' h i hi=>(h.1 i hi).elim,λi hi=> ?_,λyI vw=> ?_,?_,?_,?_⟩
 ·intro x hx;obtain ⟨c,-,rfl⟩:=bf.1 hx;exact ⟨_,_,rfl⟩
 ·rintro n F y bb cX dt ⟨h1,h2,h3⟩ kE -;exact ⟨h1,h2,h3.tr ⟨kE.os,kE.tape,kE.output,kE.size,λi hi hn=>kE.block i (C2 hn)⟩ λi hi=> .inl hi⟩
 ·rintro o F y bb cX dt ⟨h1,h2,h3⟩ kE -;exact ⟨h1,h2,h3.tr ⟨kE.os,kE.tape,kE.output,kE.size,λi hi hn=>kE.block i (C2 hn)⟩ λi hi=> .inl (.inr (.inr hi))⟩
 ·rcases hi with rfl|rfl|rfl<;>exact ⟨aa,id,aa,aa,aa,aa,aa,trivial⟩
 ·exact ⟨Qx b ax (mj d) hb hd _ yI (hb9.same (vw.ext.block _ aa)) (ha9.same (vw.ext.block _ aa)) (hd9.same (vw.ext.block _ aa)),rfl,rfl,rfl,λi h=>h,λc hc=>by simp at hc,Mod.aq vw.ext⟩
 ·rintro n F us y50 b51 wm nZ Bk hx hI;have z56:=hI.2.2.size;refine ⟨Below.refl _ _,λpI fQ agh=> ?_⟩;obtain ⟨hF,lD,hM⟩:=agh;have zr:=fQ.size;have hc:=adx hx;have pV:=aQ hc;have pE:=Qy hb hd _ pV;have z57:=hM.size;have ht:(dy b ax (mj d)).take (n+1)=(dy b ax (mj d)).take n++ [(wm,nZ)]:=by rw [dq,hc];rfl
  have zd:=oa pI;have ayq:Tl v V pI.drew:=by obtain ⟨D,hD1,hD2⟩:=hV;refine ⟨D,λi hi=>by have:=hD1 i hi;have:=To.size;omega,λw' hk=>hD2 w' λi hi=>(hk i hi).trans ?_⟩;have:=hD1 i hi;have:=To.size;exact (hM.same i aa aa).trans (To.heap aa)
  refine (UN b ax wm (by simp only at pE;unfold cT;omega) pI.drew).bj λnX rM=> ?_
  have z60:=rM.size;have agi:=hM.trans (Mod.aq ((Ext.dr pI).tr rM));refine ⟨_,_,_,_,_,_,rfl,rM.heap aa,rM.heap aa,rM.heap aa,rM.heap aa,rM.heap aa,Lo.wv (agi.row r9 aa),(sK (ayq.ext rM) hv (sI b ax wm)).bj λkz rJ=> ?_⟩;have z62:=rJ.size;have Tq:=agi.trans (Mod.aq rJ);refine ⟨_,rfl,rJ.heap aa,rJ.heap aa,rJ.heap aa,rJ.heap aa,rJ.heap aa,Br.mk (λhq=>λJs e64 OU e65=> ?_) (λhq=> ?_)⟩
  ·have hax2:fa V aD b ax d=(nZ,true):=by
    unfold fa;have hf:(dy b ax (mj d)).find? (λx=>kd V (sI b ax x.1) aD)=some (wm,nZ):=by
     have hsplit:dy b ax (mj d)=(dy b ax (mj d)).take n++(wm,nZ)::(dy b ax (mj d)).drop (n+1):=by
      have h1:=tn n (dy b ax (mj d));have h2:(dy b ax (mj d)).drop n=(wm,nZ)::(dy b ax (mj d)).drop (n+1):=by have hl:=(cP.1 hc);rw [wN hl.1,hl.2]
      rw [h2] at h1;exact h1.symm
     rw [hsplit,List.find?_append,Qz.2 λx hx=>by rw [lD x hx];decide];simp [hq]
    rw [hf]
   have ax4:OU.heap.size=kz.heap.size:=by rw [e65,setRow_size,e64,setRow_size]
   have aom:∀i,i≠w2.heap.size->i≠w3.heap.size->OU.heap[i]? =kz.heap[i]? :=λi h1 h2=>by rw [e65,setRow_other _ _ _ _ h2,e64,setRow_other _ _ _ _ h1]
   have agj:Mod (λi=>i=w2.heap.size\/i=w3.heap.size) kz OU:=⟨by rw [e65,e64];rfl,by rw [e65,e64];rfl,by rw [e65,e64];rfl,aa,λi _ hn=>aom i (λq=>hn (.inl q)) (λq=>hn (.inr q))⟩;refine ⟨rfl,λ_=>False,⟨rfl,rfl,rfl,λi h=>h,hax2.symm,(Tq.mono λi _ h=> .inr (.inr h)).trans (agj.mono λi _ h=>h.elim .inl λh=> .inr (.inl h))⟩,?_⟩;have H0:=((Mod.aq (F:=λi=>i=w2.heap.size\/i=w3.heap.size) (((Ext.dr pI).tr rM).tr rJ))).trans agj;refine Step.late ⟨λi hi=> ?_,H0.size,λi hi hn=>H0.same i hi λq=>hn (.inr ?_)⟩
   ·rcases hi with h|h
    ·exact h.elim
    ·exact .inl (.inr h)
   ·rcases q with rfl|rfl<;>simp
  ·have Tr:=((Ext.dr pI).tr rM).tr rJ;refine ⟨λ_=>False,⟨rfl,rfl,rfl,λi h=>h,λc hc=> ?_,Tq⟩,Step.late ⟨λi hi=> ?_,Tr.size,λi hi _=>Tr.block i hi⟩⟩
   ·rw [ht,dp] at hc;rcases hc with hc|hc
    ·exact lD c hc
    ·rw [gU.1 hc];exact hq
   ·rcases hi with h|h
    ·exact h.elim
    ·exact .inl (.inr h)
 ·rintro F us y70 b73 Ex ⟨hF,lD,hM⟩ Ws ur e75 qM e76;have z74:=hM.size;have db:(sM b ax (mj d)).length=(dy b ax (mj d)).length:=by unfold sM;simp
  rw [db,kA] at lD;have hax2:fa V aD b ax d=(mj d,false):=by unfold fa;rw [Qz.2 λx hx=>by rw [lD x hx];decide]
  rw [hax2];refine ⟨by rw [e76,setRow_other _ _ _ _ aa,e75,setRow_other _ _ _ _ aa];exact Ws,λuk fQ=>⟨rfl,?_⟩⟩;have OS:Ext w Ex:=hM.ext To λi hi=>by have:=To.size;omega
  have OT:Ext w qM:=(OS.af e75 aa).af e76 aa;exact (Mod.pd fQ).ext OT λi hi=>by have:=To.size;omega
 ·rintro F us y80 b83 w84 ⟨hF,hax2,hM⟩ Ws;rw [<-hax2];refine ⟨Ws,λw85 fQ=>⟨rfl,?_⟩⟩;have TR:Ext w w84:=hM.ext To λi hi=>by have:=To.size;omega
  exact (Mod.pd fQ).ext TR λi hi=>by have:=To.size;omega
def pc{v:Value}{V:Ce->Int}{w:World}(hV:Tl v V w)(hv:kr v=[])(b:Bx)(hb:bW b 100000000000000)(ax d:Int)(hax:0<=ax/\ax<3):
  eU 263 #[v,xq b,ax,d] w (Value.tuple #[xq (bz V aD b ax d).1,.bool (bz V aD b ax d).2]):=by
 apply PN.vc;intro w0 e0 w1 e1;have x0:=aV e0;have z0:=zA e0;have r0:Row w0 w (pL b) fX:=Row.nw e0;have x1:=aV e1;have z1:=zA e1;refine (UZ (hV.ext (x0.tr x1)) hv b hb ax d hax).bj λw2 x2=> ?_
 have z2:=x2.size;have zd:=oa w2;refine ⟨_,_,rfl,x2.heap aa,x2.heap aa,(jo (0,0,0) ax (fa V aD b ax d).1 w2.drew).bj λw5 x5=> ?_⟩;have z5:=x5.size;refine ⟨_,_,_,rfl,x5.heap aa,x5.heap aa,Lo.wv (r0.ext (x1.tr (x2.tr ((Ext.dr w2).tr x5)))),(UM b (gd (0,0,0) ax (fa V aD b ax d).1) w5).bj λw9 x9=> ?_⟩;have z9:=x9.size;exact ⟨_,_,_,_,_,_,rfl,x9.heap aa,x9.heap aa,λcp CE=>⟨rfl,(x0.tr (x1.tr (x2.tr ((Ext.dr w2).tr (x5.tr x9))))).af CE aa⟩⟩
abbrev Ht:=Bool × Bool × Bool
abbrev hL(h:Ht):LV:=[.bool h.1,.bool h.2.1,.bool h.2.2]
abbrev ks:TypeId:=253
def Pr(h:Ht):One (hL h):=by intro v hv;simp at hv;rcases hv with rfl|rfl|rfl<;>rfl
def pK{g h o:Nat}(hn:g≠h):bN (jS g o)≠some h:=λq=>hn (Option.some.inj q)
def qE{g h o n:Nat}(hn:g≠h):bN (ab (jS g o) n)≠some h:=by rw [cB];exact pK hn
def EO{wr:World}{gh go gb:Nat}{h:Ht}{cs:LV}(rh:Row wr gh (hL h) ks)(ro:Row wr go cs ks)(hc:cs.length=3)(fA:gh≠go)(h1:gb≠gh)(h2:gb≠go)(c:Array Value):
  ah wr.drew (aB gh) 0 (hL h)/\∀iH:World,iH=wr.drew.setRow gb c->ah iH (aB gh) 0 (hL h)/\Wr iH (aB go) 3/\∀dL:World,dL=Vc.bC iH (aB go) (hL h)->ah dL (aB go) 0 (hL h)/\Mod (λi=>i=gb\/i=go) wr dL:=by
 have xd:=Ext.dr wr;refine ⟨Lo.wv (rh.ext xd),λiH Jf=> ?_⟩;have rh2:Row iH gh (hL h) ks:=(rh.ext xd).same (by rw [Jf];exact setRow_other _ _ _ _ h1.symm);have ro2:Row iH go cs ks:=(ro.ext xd).same (by rw [Jf];exact setRow_other _ _ _ _ h2.symm);have m24:Mod (λi=>i=gb\/i=go) wr iH:=by refine (Mod.aq xd).trans ⟨by rw [Jf];rfl,by rw [Jf];rfl,by rw [Jf];rfl,by rw [Jf,setRow_size];exact ak _,λi _ hn=>by rw [Jf];exact setRow_other _ _ _ _ λq=>hn (.inl q)⟩
 refine ⟨Lo.wv rh2,ro2.wr aa,λdL OM=> ?_⟩;rw [ro2.bC (vs:=hL h) (by rw [hc];exact ak _) (Pr h),dE (by rw [hc];rfl)] at OM;have r25:Row dL go (hL h) ks:=ro2.st OM;exact ⟨Lo.wv r25,m24.trans ⟨by rw [OM];rfl,by rw [OM];rfl,by rw [OM];rfl,by rw [OM,setRow_size];exact ak _,λi _ hn=>by rw [OM];exact setRow_other _ _ _ _ λq=>hn (.inr q)⟩⟩
def Ps(V:Ce->Int)(p:Int->Bool)(b:Bx)(d:Ce):Nat->Bx × Ht
 |0=>(b,(false,false,false))
 |1=>((bz V p b 1 d.2.1).1,(false,(bz V p b 1 d.2.1).2,false))
 |2=>((bz V p (bz V p b 1 d.2.1).1 0 d.1).1,((bz V p (bz V p b 1 d.2.1).1 0 d.1).2,(bz V p b 1 d.2.1).2,false))
 |_=>j8 V p b d
def ahB{V:Ce->Int}{p:Int->Bool}{b:Bx}{d:Ce}{m:Int}(hb:bW b m)(hm:m<=99990000000000){k:Nat}(hk:k<3):bW (Ps V p b d k).1 100000000000000:=by
 have up:∀{c:Bx} {a:Int},bW c a->a<=100000000000000->bW c 100000000000000:=λh1 h2=>by unfold bW at h1 ⊢;omega
 have h1:=bX (V:=V) (p:=p) (ax:=1) (d:=d.2.1) hb aa;have h2:=bX (V:=V) (p:=p) (ax:=0) (d:=d.1) h1 aa;have:k=0\/k=1\/k=2:=by omega
 rcases this with rfl|rfl|rfl
 ·exact up hb aa
 ·exact up h1 aa
 ·exact up h2 aa
def FM{v:Value}{V:Ce->Int}{w:World}(hV:Tl v V w)(hv:kr v=[])(b:Bx){m:Int}(hb:bW b m)(hm:m<=99990000000000)(d:Ce):
  eU 212 #[v,xq b,gg d] w (Value.tuple #[xq (j8 V aD b d).1,.agg (hL (j8 V aD b d).2).toArray]):=by
 apply Uc.vc;intro w0 e0 w1 e1 w2 e2 w3 e3 w4 e4;have x0:=aV e0;have z0:=zA e0;have r0:Row w0 w (pL b) fX:=Row.nw e0;have x1:=aV e1;have z1:=zA e1;have x2:=aV e2;have z2:=zA e2;have x3:=aV e3;have z3:=zA e3;have r3:Row w3 w2 (hL (false,false,false)) ks:=Row.nw e3;have x4:=aV e4;have z4:=zA e4;have r4:Row w4 w3 (hL (false,false,false)) ks:=Row.nw e4;have E9:=x0.tr (x1.tr (x2.tr (x3.tr x4)));refine ⟨λn x a1 a2 a3 a4 a5 a6 wr=>∃k:Nat,x=k/\k+n=3/\a1=(Ps V aD b d k).1.1.1/\a2=(Ps V aD b d k).1.1.2.1/\a3=(Ps V aD b d k).1.1.2.2/\a4=(Ps V aD b d k).1.2.1/\a5=(Ps V aD b d k).1.2.2.1/\a6=(Ps V aD b d k).1.2.2.2/\Row wr w (pL (Ps V aD b d k).1) fX/\Row wr w3 (hL (Ps V aD b d k).2) ks/\Row wr w2 (hL (false,false,false)) ks/\Ext w wr,
  ⟨3,rfl,rfl,0,rfl,rfl,rfl,rfl,rfl,rfl,rfl,rfl,r0.ext (x1.tr (x2.tr (x3.tr x4))),r4,r3.ext x4,E9⟩,?_⟩
 rintro n us x a1 a2 a3 a4 a5 a6 wr ⟨k,rfl,hk,rfl,rfl,rfl,rfl,rfl,rfl,hb',hh,ho,xr⟩;have l3:=hh.lt;apply Br.mk<;>intro hc
 ·have hc:=fC hc;have HV:k=0\/k=1\/k=2:=by omega
  have hnr:=ahB (V:=V) (p:=aD) (d:=d) hb hm (k:=k) aa;obtain ⟨a,ha,ha1,ha2,Oe⟩:∃a:Nat,a<3/\([(1:Int),ai,(2:Int)]:LV)[((k:Nat):Int).toNat*1]? =some (.int .i64 (a:Int))/\(Ps V aD b d (k+1)).1=(bz V aD (Ps V aD b d k).1 a (dK d a)).1/\putCells (hL (Ps V aD b d k).2) a [.bool (bz V aD (Ps V aD b d k).1 a (dK d a)).2]=hL (Ps V aD b d (k+1)).2:=by
   rcases HV with rfl|rfl|rfl
   ·exact ⟨1,aw,rfl,rfl,rfl⟩
   ·exact ⟨0,aw,rfl,rfl,rfl⟩
   ·exact ⟨2,aw,rfl,rfl,rfl⟩
  have zd:=oa wr;refine ⟨⟨aa,aa⟩,_,ha1,(c9 d a wr.drew).bj λdN de=> ?_⟩;have z18:=de.size;have arb:=xr.tr ((Ext.dr wr).tr de);refine ⟨_,rfl,de.heap aa,de.heap aa,de.heap aa,Lo.wv (hb'.ext ((Ext.dr wr).tr de)),(pc (hV.ext arb) hv (Ps V aD b d k).1 hnr a (dK d a) aa).bj λfw fk=> ?_⟩;have z20:=fk.size;have afA:=(Ext.dr wr).tr (de.tr fk);refine ⟨_,_,_,_,_,_,_,rfl,fk.heap aa,fk.heap aa,fk.heap aa,λjI e28=> ?_⟩;generalize hy:bz V aD (Ps V aD b d k).1 a (dK d a)=y at*;have rb:Row jI w (pL y.1) fX:=by rw [e28];exact Row.set (hb'.ext afA) [_,_,_,_,_,_]
  have rh:Row jI w3 (hL (Ps V aD b d k).2) ks:=(hh.ext afA).same (by rw [e28];exact setRow_other _ _ _ _ aa);have ro:Row jI w2 (hL (false,false,false)) ks:=(ho.ext afA).same (by rw [e28];exact setRow_other _ _ _ _ aa);have rI:Ext w jI:=(arb.tr fk).af e28 (ak _);have Of:ab (aB w3.heap.size) (((a:Nat):Int).toNat*1)=ab (aB w3.heap.size) a:=by rw [gZ,zm]
  obtain ⟨p1,p2⟩:=rh.fF (j:=a) (v:=.bool y.2) ha rfl;have wk:=nJ (j:=k);rw [Of];refine ⟨aa,aa,⟨rfl,p1⟩,qE aa,qE aa,qE aa,λgz S2=> ?_⟩;obtain ⟨q1,q2⟩:=p2 gz S2;exact ⟨n-1,aa,rfl,rfl,k+1,wk,aa,by rw [ha2],by rw [ha2],by rw [ha2],by rw [ha2],by rw [ha2],by rw [ha2],by rw [ha2];exact rb.same (q2.same _ rb.lt aa),by rw [<-Oe];exact q1,ro.same (q2.same _ ro.lt aa),q2.ext rI λi hi=>by omega⟩
 ·have hc:=fC hc;have HV:k=3:=by omega
  subst HV;obtain ⟨q1,q2⟩:=EO (gb:=w1.heap.size) hh ho rfl aa aa aa _;refine ⟨_,_,_,q1,λjZ e33=> ?_⟩;obtain ⟨q3,q4,q5⟩:=q2 jZ e33;refine ⟨q3,⟨rfl,q4⟩,pK aa,pK aa,pK aa,λky e34=> ?_⟩;obtain ⟨q6,q7⟩:=q5 ky e34;exact ⟨_,_,_,q6,rfl,q7.ext xr λi hi=>by omega⟩
def Kk(a b:Bx)(ha:bW a 100000000000000)(hb:bW b 100000000000000)(w:World):eU 264 #[xq a,xq b] w (Value.int .i64 (Kl a b)):=by
 apply Ux.vc;intro w0 e0 w1 e1;have x1:Ext w w1.drew:=((aV e0).ba e1).drew;unfold bW at ha hb;rw [aK (n:=b.1.1-a.1.1) inO,aK (n:=b.1.2.2-a.1.2.2) inO,aK (n:=0-(b.1.1-a.1.1)) inO,aK (n:=0-(b.1.2.2-a.1.2.2)) inO];have e1:∀y:Int,(if 0-y>y then 0-y else y)=max y (-y):=λy=>by split<;>omega
 rw [e1,e1,wI];exact ⟨rfl,x1⟩
def stK(h:Ht)(v:Ce):Nat->Ce
 |0=>v
 |1=>if h.1 then gd v 0 0 else v
 |2=>(λv=>if h.2.1 then gd v 1 0 else v) (if h.1 then gd v 0 0 else v)
 |_=>u7 h v
def Z7(h:Ht)(v:Ce)(w:World):eU 208 #[.agg (hL h).toArray,gg v] w ((gg (u7 h v))):=by
 apply DG.vc;intro w0 e0 w1 e1 w2 e2;have x0:=aV e0;have z0:=zA e0;have r0:Row w0 w (hL h) ks:=Row.nw e0;have x1:=aV e1;have z1:=zA e1;have x2:=aV e2;have z2:=zA e2;have yq:=x0.tr (x1.tr x2);refine ⟨_,_,_,Lo.wv (r0.ext (x1.tr x2)),λn x a1 a2 a3 wr=>∃k:Nat,x=k/\k+n=3/\(a1,a2,a3)=stK h v k/\Ext w wr/\w2.heap.size<=wr,⟨3,rfl,0,rfl,rfl,rfl,yq,ak _⟩,?_⟩;rintro n us x a1 a2 a3 wr ⟨k,rfl,hk,hs,xr,zr⟩;apply Br.mk<;>intro hc
 ·have hc:=fC hc;have HV:k=0\/k=1\/k=2:=by omega
  obtain ⟨r,hr1,jY⟩:∃r:Bool,([.bool h.1,.bool h.2.1,.bool h.2.2]:LV)[((k:Nat):Int).toNat*1]? =some (.bool r)/\stK h v (k+1)=if r then gd (stK h v k) k 0 else stK h v k:=by
   rcases HV with rfl|rfl|rfl
   ·exact ⟨h.1,rfl,rfl⟩
   ·exact ⟨h.2.1,rfl,rfl⟩
   ·exact ⟨h.2.2,rfl,rfl⟩
  have wk:=nJ (j:=k);refine ⟨⟨aa,aa⟩,r,hr1,Br.mk (λhq=>(jo (a1,a2,a3) k 0 wr).mono ?_) (λhq=> ?_)⟩
  ·rintro e cp ⟨rfl,dz⟩;have z16:=dz.size;refine ⟨_,_,_,rfl,dz.heap aa,dz.heap aa,λfw wi=>⟨n-1,aa,rfl,k+1,wk,aa,?_,(xr.tr dz).af wi aa,by rw [zR wi];omega⟩⟩;rw [jY,hq,if_pos rfl,<-hs]
  ·exact ⟨n-1,aa,rfl,k+1,wk,aa,by rw [jY,hq,if_neg aw,<-hs],xr,zr⟩
 ·have hc:=fC hc;have HV:k=3:=by omega
  subst HV;intro cX vu;have hs:(a1,a2,a3)=u7 h v:=hs;refine ⟨by rw [<-hs],xr.af vu aa⟩
def qv{b:Bx}{m n:Int}(h:bW b m)(hmn:m<=n):bW b n:=by unfold bW at h ⊢;omega
def Vn{v:Value}{V:Ce->Int}{w:World}(hV:Tl v V w)(hv:kr v=[])(b:Bx){m:Int}(hb:bW b m)(hm:m<=99980000000000)(d:Ce)(up:Int):
  eU 204 #[v,xq b,gg d,up] w (Value.tuple #[xq (jM V aD b d up).1,.agg (hL (jM V aD b d up).2).toArray]):=by
 apply Uy.vc;have hup:(if 65536<up then 65536 else up)=min up 65536:=by split<;>omega
 rw [hup];intro w0 e0 w1 e1 w2 e2 w3 e3;have x0:=aV e0;have z0:=zA e0;have r0:Row w0 w (pL b) fX:=Row.nw e0;have x1:=aV e1;have z1:=zA e1;have r1:Row w1 w0 (eZ d) iz:=Row.nw e1;have x2:=aV e2;have z2:=zA e2;have x3:=aV e3;have z3:=zA e3;have r3:Row w3 w2 (hL (false,false,false)) ks:=Row.nw e3;have x03:=x0.tr (x1.tr (x2.tr x3));refine (FM (hV.ext x03) hv b hb aa d).bj λw4 x4=> ?_
 have z4:=x4.size;have hpn:=Md (V:=V) (p:=aD) (d:=d) hb aa;have hstep:jM V aD b d up=(if ((!(j8 V aD b d).2.1 && !(j8 V aD b d).2.2.2)||decide (up<=0)|| !kd V (nQ b) aD)=true then j8 V aD b d else if Kl b (bz V aD (bz V aD (bz V aD (bz V aD b 1 (min up 65536)).1 0 d.1).1 2 d.2.2).1 1 (-((bz V aD b 1 (min up 65536)).1.1.2.1-b.1.2.1))).1<=Kl b (j8 V aD b d).1 then j8 V aD b d else ((bz V aD (bz V aD (bz V aD (bz V aD b 1 (min up 65536)).1 0 d.1).1 2 d.2.2).1 1 (-((bz V aD b 1 (min up 65536)).1.1.2.1-b.1.2.1))).1,((bz V aD (bz V aD b 1 (min up 65536)).1 0 d.1).2,true,(bz V aD (bz V aD (bz V aD b 1 (min up 65536)).1 0 d.1).1 2 d.2.2).2))):=rfl;generalize j8 V aD b d=mv at*;refine ⟨_,_,_,_,_,_,_,_,_,rfl,x4.heap aa,x4.heap aa,x4.heap aa,λcu yw dj pJ cp CE=> ?_⟩;have cY:=aV yw;have z14:=zA yw;have dm:=aV pJ;have z15:=zA pJ;have r15:Row dj cu (hL (false,false,false)) ks:=Row.nw pJ;have z16:=zR CE;have r16:Row cp cu (hL (false,false,false)) ks:=r15.same (by rw [CE];exact setRow_other _ _ _ _ aa);have azw:Row cp w4 (pL mv.1) fX:=by rw [CE];exact Row.set ((by rw [yw];exact Row.new w4 [_,_,_,_,_,_] _:Row cu w4 _ fX).ext dm) [_,_,_,_,_,_]
 have dz:Ext w4 cp:=(cY.tr dm).af CE (ak _);refine ⟨⟨rfl,r16.wr bo⟩,pK aa,pK aa,pK aa,pK aa,λcM uq=> ?_⟩;rw [r16.bC (vs:=hL mv.2) bo (Pr _),dE bo] at uq;have rh:Row cM cu (hL mv.2) ks:=r16.st uq;have z17:=zR uq;have dS:Ext w4 cM:=dz.af uq aa;have rp:Row cM w4 (pL mv.1) fX:=azw.same (by rw [uq];exact setRow_other _ _ _ _ aa);have ajX:=x03.tr (x4.tr dS);have as5:=x1.tr (x2.tr (x3.tr (x4.tr dS)));have ro:Row cM w2 (hL (false,false,false)) ks:=r3.ext (x4.tr dS);have rb:=r0.ext as5;have rd:=r1.ext (x2.tr (x3.tr (x4.tr dS)));have plain:∀wr:World,Ext cM wr->jM V aD b d up=mv->∃(b21:Bool)(b22:Bool)(b23:Bool),ah wr.drew (aB cu.heap.size) 0 [.bool b21,b22,b23]/\
   ∀iH:World,iH=wr.drew.setRow w1 #[mv.1.1.1,mv.1.1.2.1,mv.1.1.2.2,mv.1.2.1,mv.1.2.2.1,mv.1.2.2.2]->
   ah iH (aB cu.heap.size) 0 [.bool b21,b22,b23]/\(true=true/\Wr iH (aB w2.heap.size) 3)/\bN (aB w2.heap.size)≠some w.heap.size/\bN (aB w2.heap.size)≠some w0.heap.size/\bN (aB w2.heap.size)≠some w1.heap.size/\bN (aB w2.heap.size)≠some w4.heap.size/\(∀dL:World,dL=Vc.bC iH (aB w2.heap.size) [.bool b21,b22,b23]->
   ∃(V9:Bool)(X9:Bool)(Ya:Bool),ah dL (aB w2.heap.size) 0 [.bool V9,X9,Ya]/\
   (Ending.returned (.tuple #[.agg #[mv.1.1.1,mv.1.1.2.1,mv.1.1.2.2,mv.1.2.1,mv.1.2.2.1,mv.1.2.2.2],.agg #[V9,X9,Ya]])=Value.tuple #[xq (jM V aD b d up).1,.agg (hL (jM V aD b d up).2).toArray]/\Ext w dL)):=λwr x gy=>by
  have zx:=x.size;obtain ⟨q1,q2⟩:=EO (gb:=w1.heap.size) (rh.ext x) (ro.ext x) rfl aa aa aa #[mv.1.1.1,mv.1.1.2.1,mv.1.1.2.2,mv.1.2.1,mv.1.2.2.1,mv.1.2.2.2];refine ⟨_,_,_,q1,λiH Jf=> ?_⟩;obtain ⟨q3,q4,q5⟩:=q2 iH Jf;refine ⟨q3,⟨rfl,q4⟩,pK aa,pK aa,pK aa,pK aa,λdL OM=> ?_⟩;obtain ⟨q6,q7⟩:=q5 dL OM;exact ⟨_,_,_,q6,by rw [gy],q7.ext (ajX.tr x) λi hi=>by omega⟩
 have gy:∀wr:World,Ext cM wr->Tl v V wr:=λwr x=>hV.ext (ajX.tr x)
 refine ⟨λwj=>Ext cM wj/\¬((!mv.2.1 && !mv.2.2.2)||decide (up<=0)|| !kd V (nQ b) aD)=true,?_,?_⟩
 ·refine ⟨aw,aw,mv.2.1,rh.at 0 rfl,Br.mk (λq1=>⟨aw,aw,mv.2.2.2,rh.at 2 rfl,Br.mk (λq2=>plain cM (Ext.bU _) (by rw [hstep,if_pos (by rw [q1,q2];rfl)])) (λq2=> ?_)⟩) (λq1=> ?_)⟩
  all_goals
   have hcf:(!mv.2.1 && !mv.2.2.2)=false:=by first|rw [q2,Bool.and_false]|rw [q1,C5]
   refine Br.mk (λq3=>plain cM (Ext.bU _) (by rw [hstep,if_pos (by rw [hcf,q3];rfl)])) (λq3=>(qo (gy cM (Ext.bU _)) hv b).bj λjJ mQ=> ?_)
   exact ⟨_,rfl,mQ.heap aa,mQ.heap aa,mQ.heap aa,mQ.heap aa,Br.mk (λq4=>plain jJ mQ (by rw [hstep,if_pos (by rw [hcf,q3,q4];rfl)])) (λq4=>⟨rfl,rfl,rfl,rfl,mQ,by rw [hcf,q3,q4];decide⟩)⟩
 ·rintro us yy ⟨rO,hn⟩;rw [if_neg hn] at hstep;have z66:=rO.size;have n1:=bX (V:=V) (p:=aD) (ax:=1) (d:=min up 65536) hb aa;refine (pc (gy yy rO) hv b (qv hb aa) 1 (min up 65536) aw).bj λpS yt=> ?_
  have z67:=yt.size;have n2:=bX (V:=V) (p:=aD) (ax:=0) (d:=d.1) n1 aa;have n3:=bX (V:=V) (p:=aD) (ax:=2) (d:=d.2.2) n2 aa;have n4:=bX (V:=V) (p:=aD) (ax:=1) (d:= -((bz V aD b 1 (min up 65536)).1.1.2.1-b.1.2.1)) n3 aa;refine ⟨_,_,_,_,_,_,_,rfl,yt.heap aa,yt.heap aa,yt.heap aa,yt.heap aa,λur e75 qM e76 uk e77=> ?_⟩;generalize bz V aD b 1 (min up 65536)=hi at*;have z75:=zA e75;have z76:=zR e76;have z77:=zA e77;have rhi:Row qM pS (pL hi.1) fX:=by rw [e76];exact Row.set (by rw [e75];exact Row.new pS [_,_,_,_,_,_] _) [_,_,_,_,_,_]
  have aoZ:Row uk qM (hL (false,false,false)) ks:=Row.nw e77;have x77:Ext pS uk:=((aV e75).af e76 (ak _)).ba e77;have rhi:=rhi.ext (aV e77);refine ⟨⟨rfl,aoZ.wr bo⟩,pK aa,pK aa,pK aa,pK aa,pK aa,λwu e78 KV e79 Jh e80=> ?_⟩;rw [aoZ.bC (vs:=hL (false,true,false)) bo (Pr (false,true,false)),dE bo] at e78;have z78:=zR e78;have azA:Row wu qM (hL (false,true,false)) ks:=aoZ.st e78;have rhi:=rhi.so e78;have x78:Ext pS wu:=x77.af e78 aa;have z79:=zA e79;have z80:=zR e80;have agH:Ext wu Jh:=(aV e79).af e80 (ak _);have azB:Row Jh wu (pL hi.1) fX:=by rw [e80];exact Row.set (by rw [e79];exact Row.new wu [_,_,_,_,_,_] _) [_,_,_,_,_,_]
  have azC:=azA.ext agH;have as6:=rO.tr (yt.tr (x78.tr agH));refine (pc (gy Jh as6) hv hi.1 (qv n1 aa) 0 d.1 aw).bj λwx HX=> ?_
  have z81:=HX.size;refine ⟨_,_,_,_,_,_,_,rfl,HX.heap aa,HX.heap aa,HX.heap aa,HX.heap aa,HX.heap aa,HX.heap aa,λwy e89=> ?_⟩;generalize bz V aD hi.1 0 d.1=ax at*;have z89:=zR e89;have as7:Row wy wu (pL ax.1) fX:=by rw [e89];exact Row.set (azB.ext HX) [_,_,_,_,_,_]
  have azD:Row wy qM (hL (false,true,false)) ks:=(azC.ext HX).same (by rw [e89];exact setRow_other _ _ _ _ aa);have x89:Ext wu wy:=(agH.tr HX).af e89 (ak _);obtain ⟨p1,p2⟩:=azD.fF (j:=0) (v:=.bool ax.2) aw rfl;refine ⟨aw,aw,⟨rfl,p1⟩,qE aa,qE aa,qE aa,qE aa,qE aa,qE aa,λrL e90=> ?_⟩;obtain ⟨q1,q2⟩:=p2 rL e90;have azE:Row rL qM (hL (ax.2,true,false)) ks:=q1;have azF:=as7.same (q2.same _ as7.lt aa);have z90:=q2.size;have x90:Ext pS rL:=q2.ext (x78.tr x89) λi hi=>by omega
  refine (pc (gy rL (rO.tr (yt.tr x90))) hv ax.1 (qv n2 aa) 2 d.2.2 aw).bj λw91 Ol=> ?_
  have z91:=Ol.size;refine ⟨_,_,_,_,_,_,_,rfl,Ol.heap aa,Ol.heap aa,Ol.heap aa,Ol.heap aa,Ol.heap aa,Ol.heap aa,λIc e99=> ?_⟩;generalize bz V aD ax.1 2 d.2.2=az at*;have z99:=zR e99;have as9:Row Ic wu (pL az.1) fX:=by rw [e99];exact Row.set (azF.ext Ol) [_,_,_,_,_,_]
  have azG:Row Ic qM (hL (ax.2,true,false)) ks:=(azE.ext Ol).same (by rw [e99];exact setRow_other _ _ _ _ aa);have Yb:Ext pS Ic:=(x90.tr Ol).af e99 aa;obtain ⟨p1,p3⟩:=azG.fF (j:=2) (v:=.bool az.2) (show 2<3 by decide) rfl;refine ⟨aw,aw,⟨rfl,p1⟩,qE aa,qE aa,qE aa,qE aa,qE aa,qE aa,λtg ajY=> ?_⟩;obtain ⟨q1,q3⟩:=p3 tg ajY;have ata:Row tg qM (hL (ax.2,true,az.2)) ks:=q1;have aDg:=as9.same (q3.same _ as9.lt aa);have ayx:=q3.size;have Be:Ext pS tg:=q3.ext Yb λi hi=>by omega
  have hhi:=n1;have hbb:=hb;unfold bW at hhi hbb;have wr1:aC (hi.1.1.2.1-b.1.2.1)=hi.1.1.2.1-b.1.2.1:=wI;have X3:aC (0-(hi.1.1.2.1-b.1.2.1))= -(hi.1.1.2.1-b.1.2.1):=by rw [wI];omega
  rw [wr1,X3];refine (pc (gy tg (rO.tr (yt.tr Be))) hv az.1 (qv n3 aa) 1 (-(hi.1.1.2.1-b.1.2.1)) aw).bj λJj pU=> ?_
  have aGF:=pU.size;refine ⟨_,_,_,_,_,_,_,rfl,pU.heap aa,pU.heap aa,pU.heap aa,pU.heap aa,pU.heap aa,pU.heap aa,λum ao1=> ?_⟩;generalize bz V aD az.1 1 (-(hi.1.1.2.1-b.1.2.1))=ay at*;have ayD:=zR ao1;have atb:Row um qM (hL (ax.2,true,az.2)) ks:=(ata.ext pU).same (by rw [ao1];exact setRow_other _ _ _ _ aa);have rF:Ext pS um:=(Be.tr pU).af ao1 aa;have xd:=Ext.dr um;have zd:=oa um;have x17d:=rO.tr (yt.tr (rF.tr xd));refine (Kk b ay.1 (qv hb aa) (qv n4 aa) um.drew).bj λWf lR=> ?_
  have aGG:=lR.size;refine ⟨_,rfl,lR.heap aa,lR.heap aa,lR.heap aa,lR.heap aa,lR.heap aa,lR.heap aa,Lo.wv (rp.ext (x17d.tr lR)),Lo.wv (rb.ext (x17d.tr lR)),(Kk b mv.1 (qv hb aa) (qv hpn aa) Wf).bj λBc lS=> ?_⟩;have aGH:=lS.size;have H5:=x17d.tr (lR.tr lS);refine ⟨_,rfl,lS.heap aa,lS.heap aa,lS.heap aa,lS.heap aa,lS.heap aa,lS.heap aa,Br.mk (λq=> ?_) (λq=> ?_)⟩
  ·have q:=fC q;rw [if_pos q] at hstep;rw [hstep];obtain ⟨q1,q2⟩:=EO (gb:=w1.heap.size) (rh.ext H5) (ro.ext H5) rfl aa aa aa #[mv.1.1.1,mv.1.1.2.1,mv.1.1.2.2,mv.1.2.1,mv.1.2.2.1,mv.1.2.2.2];refine ⟨_,_,_,q1,λiH Jf=> ?_⟩;obtain ⟨q3,q4,q5⟩:=q2 iH Jf;refine ⟨q3,⟨rfl,q4⟩,pK aa,pK aa,pK aa,pK aa,pK aa,pK aa,λdL OM=> ?_⟩;obtain ⟨q6,q7⟩:=q5 dL OM;exact ⟨_,_,_,q6,rfl,q7.ext (ajX.tr H5) λi hi=>by omega⟩
  ·have q:=fC q;rw [if_neg q] at hstep;rw [hstep];obtain ⟨q1,q2⟩:=EO (gb:=w1.heap.size) (atb.ext (xd.tr (lR.tr lS))) (ro.ext H5) rfl aa aa aa #[ay.1.1.1,ay.1.1.2.1,ay.1.1.2.2,ay.1.2.1,ay.1.2.2.1,ay.1.2.2.2];refine ⟨_,_,_,q1,λiH Jf=> ?_⟩;obtain ⟨q3,q4,q5⟩:=q2 iH Jf;refine ⟨q3,⟨rfl,q4⟩,pK aa,pK aa,pK aa,pK aa,pK aa,pK aa,λdL OM=> ?_⟩;obtain ⟨q6,q7⟩:=q5 dL OM;exact ⟨_,_,_,q6,rfl,q7.ext (ajX.tr H5) λi hi=>by omega⟩
def amH(n:Int):(if 70368744177664<(if (-70368744177664)>n then (-70368744177664) else n) then 70368744177664 else (if (-70368744177664)>n then (-70368744177664) else n))=jd n:=by
 unfold jd
 repeat' split
 all_goals omega
def Cv(n:Int)(w:World):kT 265 #[n] w (Value.int .i64 (jd n)):=by apply DH.vc;exact ⟨by rw [amH],rfl⟩
def Ky(b:eJ)(d:Ce)(w:World):eU 205 #[IB b,gg d] w ((gg (jE b.au d))):=by
 apply Iy.vc;intro w0 e0 w1 e1 w2 e2;have x0:=aV e0;have z0:=zA e0;have r0:Row w0 w (pk b) DM:=Row.nw e0;have x1:=aV e1;have z1:=zA e1;have x2:=aV e2;have z2:=zA e2;refine (jD b.au d w2).bj λw3 x3=> ?_
 have z3:=x3.size;refine ⟨_,_,_,rfl,x3.heap aa,x3.heap aa,x3.heap aa,λw7 e7 w8 e8=> ?_⟩;have x8:Ext w3 w8.drew:=((aV e7).af e8 (ak _)).drew;have z8:w8.drew.heap.size=w3.heap.size+1:=by show w8.heap.size=_;rw [zR e8,zA e7]
 have r8:Row w8.drew w3 (eZ (jf b.au d)) iz:=(by rw [e8];exact Row.set (by rw [e7];exact Row.new w3 [_,_,_] _) [_,_,_]:Row w8 w3 _ iz).ext (Ext.dr w8);have rb:=r0.ext (x1.tr (x2.tr (x3.tr x8)));refine (Cv (jf b.au d).1 w8.drew).gK ?_;refine ⟨_,rfl,rfl,rfl,rfl,rfl,ua rb rfl rfl rfl,xB r8 rfl,xB r8 rfl,(Cv (jf b.au d).2.1 w8.drew).gK ?_⟩;refine ⟨_,rfl,rfl,rfl,rfl,rfl,ua rb rfl rfl rfl,xB r8 rfl,(Cv (jf b.au d).2.2 w8.drew).gK ?_⟩;refine ⟨_,rfl,rfl,rfl,rfl,rfl,ua rb rfl rfl rfl,(vG (jd (jf b.au d).1,jd (jf b.au d).2.1,jd (jf b.au d).2.2) b.au w8.drew).bj λdj dm=> ?_⟩;have z15:=dm.size;exact ⟨_,_,_,rfl,dm.heap aa,dm.heap aa,dm.heap aa,dm.heap aa,λeQ S8=>⟨rfl,(x0.tr (x1.tr (x2.tr (x3.tr (x8.tr dm))))).af S8 aa⟩⟩
abbrev QN:=Int × Int × Bool
abbrev inV(i:QN):Value:=.agg #[i.1,i.2.1,.bool i.2.2]
abbrev inL(i:QN):LV:=[.int .i64 i.1,.int .i64 i.2.1,.bool i.2.2]
abbrev aiK:TypeId:=101
def tF(b:eJ)(i:QN):eJ:={b with speed:=(J1 i.1,b.speed.2.1,J1 i.2.1)}
def VJ(b:eJ)(v:Value)(i:QN)(w:World):eU 139 #[IB b,v,inV i] w ((IB (tF b i))):=by
 apply DJ.vc;intro w0 e0 w1 e1 w2 e2;have x0:=aV e0;have z0:=zA e0;have x1:=aV e1;have z1:=zA e1;have r1:Row w1 w0 (inL i) aiK:=Row.nw e1;have x2:Ext w1 w2.drew:=(aV e2).drew;have z2:w2.drew.heap.size=w1.heap.size+1:=(zA e2:w2.heap.size=_);refine (C1 i.1 w2.drew).bj λw3 x3=> ?_
 have z3:=x3.size;refine ⟨_,rfl,x3.heap aa,x3.heap aa,x3.heap aa,xB (r1.ext (x2.tr x3)) rfl,(C1 i.2.1 w3).bj λw5 x5=> ?_⟩;have z5:=x5.size;exact ⟨_,rfl,x5.heap aa,x5.heap aa,x5.heap aa,λw7 e7 w8 e8 w9 e9=>⟨rfl,((((x0.tr (x1.tr (x2.tr (x3.tr x5)))).af e7 aa).af e8 aa).af e9 aa)⟩⟩
def wQ(n jump less least:Int)(j:Bool):Int:=if j then jump else max (n-less) (-least)
def tE(V:Ce->Int)(b:eJ)(i:QN):eJ:=
 if kd V b.box (λx=>x==4)=true then {b with speed:=(b.speed.1,wQ b.speed.2.1 8192 4096 8192 i.2.2,b.speed.2.2)}
 else if kd V b.box sj=true then {b with speed:=(b.speed.1,wQ b.speed.2.1 6144 1024 8192 i.2.2,b.speed.2.2)}
 else {b with speed:=(b.speed.1,wQ b.speed.2.1 28672 4096 262144 (i.2.2 && kd V (nQ b.box) aD),b.speed.2.2)}
def vN(b:eJ)(jump less least:Int)(j:Bool){gb gp gi:Nat}{w:World}{τ:TypeId}{i:QN}(hb:Row w gb (pk b) DM)(hp:Row w gp [.pointer (jS gb 4)] τ)(hi:Row w gi [i.1,i.2.1,j] aiK)(hs:cT (b.speed.2.1-less))(hl:0<=least/\least<=1000000)(hn:gb≠gp/\gb≠gi):
  ae 201 #[jump,less,least,gp,gi] w λe w'=>e=pH/\Row w' gb (pk {b with speed:=(b.speed.1,wQ b.speed.2.1 jump less least j,b.speed.2.2)}) DM/\Mod (λk=>k=gb) w w':=by
 apply zD.vc;have xd:=Ext.dr w;have hb':=hb.ext xd;have hp':=hp.ext xd;have e1:aC (b.speed.2.1-less)=b.speed.2.1-less:=aK hs;have e2:aC (0-least)= -least:=by rw [wI];omega
 have e3:(if -least>b.speed.2.1-less then -least else b.speed.2.1-less)=max (b.speed.2.1-less) (-least):=by split<;>omega
 refine ⟨_,hp'.at 0 rfl,_,hp'.at 0 rfl,lI rfl ⟨_,hb'.at 4 rfl,lI rfl ?_⟩⟩;rw [e1,e2,e3];obtain ⟨p1,p2⟩:=hb'.fF (j:=4) (v:=.int .i64 (max (b.speed.2.1-less) (-least))) (show 4<9 by decide) rfl;refine ⟨⟨rfl,p1⟩,λw3 e3=> ?_⟩;obtain ⟨q1,q2⟩:=p2 w3 e3;have hm:=(Mod.aq (F:=λk=>k=gb) xd).trans q2;have hi3:=(hi.ext xd).same (q2.same _ (hi.ext xd).lt (Ne.symm hn.2));have hp3:=hp'.same (q2.same _ hp'.lt (Ne.symm hn.1));refine ⟨j,hi3.at 2 rfl,?_⟩
 cases j with
 |false=>exact ⟨rfl,q1,hm⟩
 |true=>
  obtain ⟨p3,p4⟩:=q1.fF (j:=4) (v:=.int .i64 jump) (show 4<9 by decide) rfl;refine ⟨_,hp3.at 0 rfl,lI rfl ⟨⟨rfl,p3⟩,λw6 e6=> ?_⟩⟩;obtain ⟨q3,q4⟩:=p4 w6 e6;exact ⟨rfl,q3,hm.trans q4⟩
def VK{v:Value}{V:Ce->Int}{w:World}(hV:Tl v V w)(hv:kr v=[])(b:eJ)(hw:cT b.wd)(hs: -1000000<=b.speed.2.1/\b.speed.2.1<=1000000)(i:QN):
  eU 140 #[IB b,v,inV i] w ((IB (tE V b i))):=by
 apply DK.vc;intro w0 e0 w1 e1 w2 e2;have x0:=aV e0;have z0:=zA e0;have r0:Row w0 w (pk b) DM:=Row.nw e0;have x1:=aV e1;have z1:=zA e1;have r1:Row w1 w0 (inL i) aiK:=Row.nw e1;have x2:=aV e2;have z2:=zA e2;refine (kB b hw w2).bj λw3 x3=> ?_
 have z3:=x3.size;refine ⟨_,_,_,_,_,_,rfl,x3.heap aa,x3.heap aa,x3.heap aa,λbc vy bB yr bO uv bw Dv=> ?_⟩;have z10:=zA vy;have z11:=zA yr;have z12:=zR uv;have z13:=zR Dv;have cN:Ext w3 bw:=(((aV vy).ba yr).af uv (ak _)).af Dv aa;have rp:∃τ,Row bw bc [.pointer (jS w.heap.size 4)] τ:=⟨_,by
  rw [Dv];exact Row.set ((by rw [yr];exact Row.new bc [_] _:Row bB bc _ _).same (by rw [uv];exact setRow_other _ _ _ _ aa)) [_]⟩
 obtain ⟨τ,rp⟩:=rp;have rb:=r0.ext (x1.tr (x2.tr (x3.tr cN)));have ri:=r1.ext (x2.tr (x3.tr cN));have xw:=x0.tr (x1.tr (x2.tr (x3.tr cN)));have fin:∀{cp:World} {b':eJ},Row cp w (pk b') DM->Ext w cp->∃(dS:Int)(de:Int)(dR:Int)(fk:Int)(fj:Int)(gI:Int)(im:Int)(jR:Int)(b25:Bool),ah cp (aB w.heap.size) 0 [dS,de,dR,fk,fj,gI,im,jR,b25]/\
   ∀lQ:World,lQ=cp.setRow w1 #[dS,de,dR,fk,fj,gI,im,jR,b25]->(Ending.returned (.agg #[dS,de,dR,fk,fj,gI,im,jR,b25])=(IB b')/\Ext w lQ):=λhr x=>⟨_,_,_,_,_,_,_,_,_,Lo.wv hr,λlQ Tx=>⟨rfl,x.af Tx aa⟩⟩
 unfold tE;refine (Qc (hV.ext xw) hv b.box).bj λcu cY=> ?_
 have z14:=cY.size;refine ⟨_,rfl,cY.heap aa,cY.heap aa,Br.mk (λhc=> ?_) (λhc=> ?_)⟩
 ·rw [if_pos hc];refine (vN b 8192 4096 8192 i.2.2 (rb.ext cY) (rp.ext cY) (ri.ext cY) inO aw ⟨aa,aa⟩).mono ?_;rintro e cp ⟨rfl,hr,hm⟩;exact ⟨rfl,hm.same _ aa aa,hm.same _ aa aa,fin hr (hm.ext (xw.tr cY) λk hk=>by omega)⟩
 rw [if_neg (by rw [hc];decide)];refine (Y1 (hV.ext (xw.tr cY)) hv b.box).bj λgN jH=> ?_
 have z27:=jH.size;have aj4:=xw.tr (cY.tr jH);have apa:=rb.ext (cY.tr jH);have apb:=rp.ext (cY.tr jH);have apc:=ri.ext (cY.tr jH);refine ⟨_,rfl,jH.heap aa,jH.heap aa,Br.mk (λnG=> ?_) (λnG=>⟨_,apc.at 2 rfl,?_⟩)⟩
 ·rw [if_pos nG];refine (vN b 6144 1024 8192 i.2.2 apa apb apc inO aw ⟨aa,aa⟩).mono ?_;rintro e cp ⟨rfl,hr,hm⟩;exact ⟨rfl,hm.same _ aa aa,hm.same _ aa aa,fin hr (hm.ext aj4 λk hk=>by omega)⟩
 rw [if_neg (by rw [nG];decide)];have last:∀(j:Bool)(kN:World),Ext gN kN->Wr kN (jS w0.heap.size 2) 1/\∀iS:World,iS=Vc.bC kN (jS w0.heap.size 2) [.bool j]->Row iS w0 [i.1,i.2.1,.bool j] aiK/\Mod (λk=>k=w0.heap.size) kN iS:=λj kN lO=>(apc.ext lO).fF (j:=2) (v:=.bool j) (show 2<3 by decide) rfl
 refine Br.mk (λhj=>(qo (hV.ext aj4) hv b.box).mono ?_) (λhj=> ?_)
 ·rintro e kN ⟨rfl,lO⟩;have z41:=lO.size;rw [hj,oZ];generalize kd V (nQ b.box) aD=st;obtain ⟨p1,p2⟩:=last st kN lO;refine ⟨_,rfl,lO.heap aa,lO.heap aa,p1,pK aa,pK aa,λiS X6=> ?_⟩;obtain ⟨q1,q2⟩:=p2 iS X6;have z43:=q2.size;refine (vN (i:=i) b 28672 4096 262144 st ((apa.ext lO).same (q2.same _ aa aa)) ((apb.ext lO).same (q2.same _ aa aa)) q1 inO aw ⟨aa,aa⟩).mono ?_;rintro e cp ⟨rfl,hr,hm⟩;exact ⟨rfl,hm.same _ aa aa,hm.same _ aa aa,fin hr (hm.ext (q2.ext (aj4.tr lO) λk hk=>by omega) λk hk=>by omega)⟩
 ·rw [hj,C5];obtain ⟨p1,p2⟩:=last false gN (Ext.bU _);refine ⟨p1,pK aa,pK aa,λiS X6=> ?_⟩;obtain ⟨q1,q2⟩:=p2 iS X6;have z43:=q2.size;refine (vN (i:=i) b 28672 4096 262144 false (apa.same (q2.same _ aa aa)) (apb.same (q2.same _ aa aa)) q1 inO aw ⟨aa,aa⟩).mono ?_;rintro e cp ⟨rfl,hr,hm⟩;exact ⟨rfl,hm.same _ aa aa,hm.same _ aa aa,fin hr (hm.ext (q2.ext aj4 λk hk=>by omega) λk hk=>by omega)⟩
def rN{w w':World}{l:LV}{t:TypeId}(e:w'=w.alloc (.cells l.toArray t)):Row w' w l t:=by rw [e];exact Row.new _ _ _
def rS{w w':World}{g:Nat}{l cs:LV}{t:TypeId}(h:Row w g cs t)(e:w'=w.setRow g l.toArray):Row w' g l t:=h.st e
def GG(V:Ce->Int)(b:eJ):eJ:=
 let y:=jM V aD b.box (jE b.au b.speed) 32768
 {b with au:=jf b.au (uP y.1.1 b.box.1),speed:=u7 y.2 b.speed,fM:=kd V (nQ y.1) aD}
def jr(V:Ce->Int)(b:eJ)(d:Ce):eJ:={b with au:=jf b.au (uP (j8 V aD b.box (jE b.au d)).1.1 b.box.1)}
def aaz{v:Value}{V:Ce->Int}{w:World}(hV:Tl v V w)(hv:kr v=[])(b:eJ)(hw:cT b.wd){m:Int}(hnb:bW b.box m)(hm:m<=99980000000000)(i:QN):
  eU 141 #[IB b,v,inV i] w ((IB (GG V b))):=by
 have hgo:GG V b={b with au:=jf b.au (uP (jM V aD b.box (jE b.au b.speed) 32768).1.1 b.box.1),speed:=u7 (jM V aD b.box (jE b.au b.speed) 32768).2 b.speed,fM:=kd V (nQ (jM V aD b.box (jE b.au b.speed) 32768).1) aD}:=rfl;apply F7.vc;intro w0 e0 w1 e1 w2 e2;have x0:=aV e0;have z0:=zA e0;have r0:Row w0 w (pk b) DM:=Row.nw e0;have x1:=aV e1;have z1:=zA e1;have x2:=aV e2;have z2:=zA e2;refine (kB b hw w2).bj λw3 x3=> ?_
 have z3:=x3.size;refine ⟨_,_,_,_,_,_,rfl,x3.heap aa,x3.heap aa,x3.heap aa,λbc vy bB yr=> ?_⟩;have z10:=zA vy;have z11:=zR yr;have bR:Ext w3 bB:=(aV vy).af yr (ak _);have rwas:Row bB w3 (pL b.box) fX:=by rw [yr];exact Row.set (by rw [vy];exact Row.new w3 [_,_,_,_,_,_] _) [_,_,_,_,_,_]
 have rb:=r0.ext (x1.tr (x2.tr (x3.tr bR)));have xw:=x0.tr (x1.tr (x2.tr (x3.tr bR)));have ao8:=hV.ext xw;have rwas0:=rwas;refine ⟨λp q wj=>∃gB gH:Nat,p=aB gB/\q=aB gH/\Row wj gB (pL (jM V aD b.box (jE b.au b.speed) 32768).1) fX/\Row wj gH (hL (jM V aD b.box (jE b.au b.speed) 32768).2) ks/\Ext bB wj/\bB.heap.size<=gB,?_,?_⟩
 ·have X:=Ext.dr bB;have rwas:=rwas.ext X;have zd:=oa bB;have hS:=λ(cur:World)(X:Ext bB cur)=>Vn (w:=cur) (ao8.ext X) hv b.box hnb hm (jE b.au b.speed) 32768
  generalize jM V aD b.box (jE b.au b.speed) 32768=y at*
  repeat' first
   |(refine (Ky b b.speed _).mono ?_;rintro e v ⟨rfl,xn⟩;have zn:=xn.size;refine ⟨_,_,_,rfl,?_⟩;(repeat (refine ⟨xn.heap aa,?_⟩));refine ⟨Lo.wv (rwas.ext xn),?_⟩;have X:=X.tr xn;have rwas:=rwas.ext xn;(try have rB:=rB.ext xn);(try have rH:=rH.ext xn);clear xn)
   |(refine (hS _ X).mono ?_;rintro e v ⟨rfl,xn⟩;have zn:=xn.size;refine ⟨_,_,_,_,_,_,_,_,_,rfl,?_⟩;(repeat (refine ⟨xn.heap aa,?_⟩));have X:=X.tr xn;have rwas:=rwas.ext xn;(try have rB:=rB.ext xn);(try have rH:=rH.ext xn);clear xn)
   |(intro v en;have rBn:Row v _ [ai,ai,ai,ai,ai,ai] fX:=rN en;have xn:=(aV en);have zn:=zA en;have X:=X.tr xn;have rwas:=rwas.ext xn;(try have rB:=rB.ext xn);(try have rH:=rH.ext xn);have rB:=rBn;clear xn en)
   |(intro v en;have rHn:Row v _ (hL (false,false,false)) ks:=rN en;have xn:=(aV en);have zn:=zA en;have X:=X.tr xn;have rwas:=rwas.ext xn;(try have rB:=rB.ext xn);(try have rH:=rH.ext xn);have rH:=rHn;clear xn en)
   |(intro ws es;have zs:=zR es;have rB:Row ws _ (pL y.1) fX:=rS rB es;have rH:=rH.so es;have X:=X.af es aa;refine ⟨⟨rfl,rH.wr bo⟩,pK aa,pK aa,pK aa,pK aa,pK aa,λwt et=> ?_⟩;rw [rH.bC (vs:=hL y.2) bo (Pr _),dE bo] at et;have zt:=zR et;have rB:=rB.so et;have rH:Row wt _ (hL y.2) ks:=rS rH et;exact ⟨rfl,rfl,rfl,rfl,_,_,rfl,rfl,rB,rH,X.af et aa,aa⟩)
   |refine And.intro ?_ ?_
 ·rintro us Jn anY wj ⟨gB,gH,rfl,rfl,rB,rH,xj,hgB⟩;have zj:=xj.size;have xd:=Ext.dr wj;have zd:=oa wj;have lB:=rB.lt;have lH:=rH.lt;rw [hgo];generalize jM V aD b.box (jE b.au b.speed) 32768=y at*;refine lI rfl ⟨_,_,_,ua (o:=0) (rB.ext xd) rfl rfl rfl,(vG y.1.1 b.box.1 wj.drew).bj λJp EB=> ?_⟩;have aHh:=EB.size;have Yh:=xj.tr (xd.tr EB);refine ⟨_,_,_,rfl,EB.heap aa,EB.heap aa,EB.heap aa,EB.heap aa,ua (rb.ext Yh) rfl rfl rfl,(jD b.au (uP y.1.1 b.box.1) Jp).bj λTf pT=> ?_⟩;have aAk:=pT.size;refine ⟨_,_,_,rfl,pT.heap aa,pT.heap aa,pT.heap aa,pT.heap aa,λyC abI=> ?_⟩;have aHi:=zR abI;have aAl:Ext w yC:=(xw.tr (Yh.tr pT)).af abI (ak _);have rH2:Row yC gH (hL y.2) ks:=(rH.ext (xd.tr (EB.tr pT))).same (by rw [abI];exact setRow_other _ _ _ _ ((rH.ext (xd.tr (EB.tr pT))).ne ((rb.ext (Yh.tr pT))) aw));have rB2:Row yC gB (pL y.1) fX:=(rB.ext (xd.tr (EB.tr pT))).same (by rw [abI];exact setRow_other _ _ _ _ aa);have n1:gH≠w:=(rH.ext (xd.tr (EB.tr pT))).ne ((rb.ext (Yh.tr pT))) aw;refine ⟨_,_,_,Lo.wv rH2,(Z7 y.2 b.speed yC).bj λan2 Jr=> ?_⟩;have aHl:=Jr.size;refine ⟨_,_,_,rfl,Jr.heap aa,Jr.heap aa,Jr.heap aa,Jr.heap aa,λabo ao9=> ?_⟩;have aHm:=zR ao9;have age:Ext w abo:=(aAl.tr Jr).af ao9 (ak _);have rB3:Row abo gB (pL y.1) fX:=(rB2.ext Jr).same (by rw [ao9];exact setRow_other _ _ _ _ aa);refine ⟨_,_,_,_,_,_,Lo.wv rB3,(qo (hV.ext age) hv y.1).bj λan3 abJ=> ?_⟩;have aHo:=abJ.size;refine ⟨_,rfl,abJ.heap aa,abJ.heap aa,abJ.heap aa,abJ.heap aa,λarw aAm arx aAn=>⟨rfl,((age.tr abJ).af aAm (ak _)).af aAn aa⟩⟩
def GH{v:Value}{V:Ce->Int}{w:World}(hV:Tl v V w)(hv:kr v=[])(b:eJ)(hw:cT b.wd){m:Int}(hnb:bW b.box m)(hm:m<=99990000000000)(d:Ce):
  eU 144 #[IB b,v,gg d] w ((IB (jr V b d))):=by
 have hgo:jr V b d={b with au:=jf b.au (uP (j8 V aD b.box (jE b.au d)).1.1 b.box.1)}:=rfl;apply DL.vc;intro w0 e0 w1 e1 w2 e2;have x0:=aV e0;have z0:=zA e0;have r0:Row w0 w (pk b) DM:=Row.nw e0;have x1:=aV e1;have z1:=zA e1;have x2:=aV e2;have z2:=zA e2;refine (kB b hw w2).bj λw3 x3=> ?_
 have z3:=x3.size;refine ⟨_,_,_,_,_,_,rfl,x3.heap aa,x3.heap aa,x3.heap aa,λbc vy bB yr=> ?_⟩;have z10:=zA vy;have z11:=zR yr;have bR:Ext w3 bB:=(aV vy).af yr (ak _);have rwas:Row bB w3 (pL b.box) fX:=by rw [yr];exact Row.set (by rw [vy];exact Row.new w3 [_,_,_,_,_,_] _) [_,_,_,_,_,_]
 have rb:=r0.ext (x1.tr (x2.tr (x3.tr bR)));have xw:=x0.tr (x1.tr (x2.tr (x3.tr bR)));have ao8:=hV.ext xw;refine ⟨λp wj=>∃gB gH:Nat,p=aB gB/\Row wj gB (pL (j8 V aD b.box (jE b.au d)).1) fX/\Row wj gH (hL (j8 V aD b.box (jE b.au d)).2) ks/\Ext bB wj/\bB.heap.size<=gB,?_,?_⟩
 ·have X:=Ext.dr bB;have rwas:=rwas.ext X;have zd:=oa bB;have hS:=λ(cur:World)(X:Ext bB cur)=>FM (w:=cur) (ao8.ext X) hv b.box hnb hm (jE b.au d)
  generalize j8 V aD b.box (jE b.au d)=y at*
  repeat' first
   |(refine (Ky b d _).mono ?_;rintro e v ⟨rfl,xn⟩;have zn:=xn.size;refine ⟨_,_,_,rfl,?_⟩;(repeat (refine ⟨xn.heap aa,?_⟩));refine ⟨Lo.wv (rwas.ext xn),?_⟩;have X:=X.tr xn;have rwas:=rwas.ext xn;(try have rB:=rB.ext xn);(try have rH:=rH.ext xn);clear xn)
   |(refine (hS _ X).mono ?_;rintro e v ⟨rfl,xn⟩;have zn:=xn.size;refine ⟨_,_,_,_,_,_,_,_,_,rfl,?_⟩;(repeat (refine ⟨xn.heap aa,?_⟩));have X:=X.tr xn;have rwas:=rwas.ext xn;(try have rB:=rB.ext xn);(try have rH:=rH.ext xn);clear xn)
   |(intro v en;have rBn:Row v _ [ai,ai,ai,ai,ai,ai] fX:=rN en;have xn:=(aV en);have zn:=zA en;have X:=X.tr xn;have rwas:=rwas.ext xn;(try have rB:=rB.ext xn);(try have rH:=rH.ext xn);have rB:=rBn;clear xn en)
   |(intro v en;have rHn:Row v _ (hL (false,false,false)) ks:=rN en;have xn:=(aV en);have zn:=zA en;have X:=X.tr xn;have rwas:=rwas.ext xn;(try have rB:=rB.ext xn);(try have rH:=rH.ext xn);have rH:=rHn;clear xn en)
   |(intro ws es;have zs:=zR es;have rB:Row ws _ (pL y.1) fX:=rS rB es;have rH:=rH.so es;have X:=X.af es aa;refine ⟨⟨rfl,rH.wr bo⟩,pK aa,pK aa,pK aa,pK aa,pK aa,λwt et=> ?_⟩;rw [rH.bC (vs:=hL y.2) bo (Pr _),dE bo] at et;have zt:=zR et;have rB:=rB.so et;have rH:Row wt _ (hL y.2) ks:=rS rH et;exact ⟨rfl,rfl,rfl,rfl,_,_,rfl,rB,rH,X.af et aa,aa⟩)
   |refine And.intro ?_ ?_
 ·rintro us Jn wj ⟨gB,gH,rfl,rB,rH,xj,hgB⟩;have zj:=xj.size;have xd:=Ext.dr wj;have zd:=oa wj;rw [hgo];generalize j8 V aD b.box (jE b.au d)=y at*;refine lI rfl ⟨_,_,_,ua (o:=0) (rB.ext xd) rfl rfl rfl,(vG y.1.1 b.box.1 wj.drew).bj λabp Ez=> ?_⟩;have aHp:=Ez.size;have alB:=xj.tr (xd.tr Ez);refine ⟨_,_,_,rfl,Ez.heap aa,Ez.heap aa,Ez.heap aa,Ez.heap aa,ua (rb.ext alB) rfl rfl rfl,(jD b.au (uP y.1.1 b.box.1) abp).bj λan4 Jo=> ?_⟩;have aHq:=Jo.size;refine ⟨_,_,_,rfl,Jo.heap aa,Jo.heap aa,Jo.heap aa,Jo.heap aa,λary aAo yC abI=>⟨rfl,((xw.tr (alB.tr Jo)).af aAo (ak _)).af abI aa⟩⟩
def KM(V:Ce->Int)(b:eJ)(i:QN):(tE V b i).box=b.box/\(tE V b i).wd=b.wd:=by
 unfold tE;split
 ·exact ⟨rfl,rfl⟩
 ·split<;>exact ⟨rfl,rfl⟩
def upB(V:Ce->Int)(b:eJ)(i:QN):Nat->eJ
 |0=>b
 |1=>tF b i
 |2=>tE V (tF b i) i
 |_=>GG V (tE V (tF b i) i)
def zS(V:Ce->Int)(b:eJ)(i:QN):eJ:=GG V (tE V (tF b i) i)
def UX{v:Value}{V:Ce->Int}{w:World}(hV:Tl v V w)(hv:kr v=[])(b:eJ)(hw:cT b.wd)(hs: -1000000<=b.speed.2.1/\b.speed.2.1<=1000000){m:Int}(hnb:bW b.box m)(hm:m<=99980000000000)(i:QN):
  eU 80 #[IB b,v,inV i] w ((IB (zS V b i))):=by
 apply F8.vc;intro w0 e0 w1 e1 w2 e2;have x0:=aV e0;have z0:=zA e0;have x1:=aV e1;have z1:=zA e1;have x2:=aV e2;have z2:=zA e2;have yq:=x0.tr (x1.tr x2);refine ⟨λn x a0 a1 a2 a3 a4 a5 a6 a7 a8 wr=>∃k:Nat,x=k/\k+n=3/\upB V b i k=⟨(a0,a1,a2),(a3,a4,a5),a6,a7,a8⟩/\Ext w wr/\w2.heap.size<=wr,⟨3,rfl,rfl,0,rfl,rfl,rfl,yq,ak _⟩,?_⟩;rintro n us x a0 a1 a2 a3 a4 a5 a6 a7 a8 wr ⟨k,rfl,hk,hu,xr,zr⟩;apply Br.mk<;>intro hc
 ·have hc:=fC hc;have HV:k=0\/k=1\/k=2:=by omega
  have hVr:=hV.ext xr;obtain ⟨fv,h1,h2⟩:∃fv:Value,([.func (.func 139) #[] #[],.func (.func 140) #[] #[],.func (.func 141) #[] #[]]:LV)[((k:Nat):Int).toNat*1]? =some fv/\bu Tryz.prog fv [IB (upB V b i k),v,inV i] wr λe w'=>e=(IB (upB V b i (k+1)))/\Ext wr w':=by
   rcases HV with rfl|rfl|rfl
   ·exact ⟨_,rfl,bV (by kernel_rfl) rfl (VJ b v i wr)⟩
   ·exact ⟨_,rfl,bV (by kernel_rfl) rfl (VK hVr hv (tF b i) hw hs i)⟩
   ·refine ⟨_,rfl,bV (by kernel_rfl) rfl (aaz hVr hv (tE V (tF b i) i) ?_ (m:=m) ?_ hm i)⟩
    ·rw [(KM V (tF b i) i).2];exact hw
    ·rw [(KM V (tF b i) i).1];exact hnb
  rw [hu] at h2;have wk:=nJ (j:=k);refine ⟨⟨aa,aa⟩,fv,h1,bJ h2 ?_⟩;rintro e eQ ⟨rfl,dR⟩;have z19:=dR.size;refine ⟨_,_,_,_,_,_,_,_,_,rfl,dR.heap aa,dR.heap aa,dR.heap aa,λgz S2=>⟨n-1,aa,rfl,rfl,k+1,wk,aa,rfl,(xr.tr dR).af S2 aa,by rw [zR S2];omega⟩⟩
 ·have hc:=fC hc;have HV:k=3:=by omega
  subst HV;intro cX vu;have hu:zS V b i=_:=hu;exact ⟨by rw [hu],xr.af vu aa⟩
def ovK(a b:Bx)(i:Int):Bool:=decide (dK a.1 i<dK b.2 i) && decide (dK b.1 i<dK a.2 i)
def vq(a b:Bx):Bool:=ovK a b 0 && ovK a b 1 && ovK a b 2
def Je(a b:Bx)(i:Int){ga gb:Nat}{w:World}(ha:Row w ga (pL a) fX)(hb:Row w gb (pL b) fX):
  eU 216 #[i,ga,gb] w (Value.bool (ovK a b i)):=by
 apply IA.vc;have xd:=Ext.dr w;refine ⟨_,_,_,ua (o:=0) (ha.ext xd) rfl rfl rfl,_,_,_,ua (o:=3) (hb.ext xd) rfl rfl rfl,(c9 a.1 i w.drew).bj λw6 x6=> ?_⟩;have y6:=xd.tr x6;refine ⟨_,rfl,ua (o:=3) (hb.ext y6) rfl rfl rfl,(c9 b.2 i w6).bj λw8 x8=> ?_⟩;have y8:=y6.tr x8;unfold ovK;refine ⟨_,rfl,Br.mk (λhc=>⟨_,_,_,ua (o:=0) (hb.ext y8) rfl rfl rfl,_,_,_,ua (o:=3) (ha.ext y8) rfl rfl rfl,(c9 b.1 i w8).mono ?_⟩) (λhc=>⟨by rw [hc,C5],y8⟩)⟩;rintro e cp ⟨rfl,dz⟩;have y16:=y8.tr dz;refine ⟨_,rfl,ua (o:=3) (ha.ext y16) rfl rfl rfl,(c9 a.2 i cp).bj λdN de=> ?_⟩;exact ⟨_,rfl,by rw [hc,oZ],y16.tr de⟩
def afo(f:Int->Bool)(fv:Value)(w:World)(hf:∀w',Ext w w'->∀i:Int,bu Tryz.prog fv [i] w' λe w''=>e=Value.bool (f i)/\Ext w' w''):
  eU 215 #[fv] w (Value.bool (f 0 && f 1 && f 2)):=by
 apply ahM.vc;refine ⟨λn x wr=>∃k:Nat,x=k/\k+n=3/\(∀j:Nat,j<k->f j=true)/\Ext w wr,⟨3,0,rfl,rfl,λj hj=>absurd hj aa,Ext.bU _⟩,?_⟩;rintro n us x wr ⟨k,rfl,hk,hj,xr⟩;apply Br.mk<;>intro hc
 ·have hc:(k:Int)<3:=by simpa using hc
  refine bJ (hf wr xr k) ?_;rintro e w6 ⟨rfl,x6⟩;have wk:=nJ (j:=k);refine ⟨_,rfl,Br.mk (λhq=>⟨?_,xr.tr x6⟩) (λhq=>⟨n-1,aa,k+1,wk,aa,λj hjk=> ?_,xr.tr x6⟩)⟩
  ·have hq:f k=false:=by simpa using hq
   have HV:k=0\/k=1\/k=2:=by omega
   have:(f 0 && f 1 && f 2)=false:=by
    rcases HV with rfl|rfl|rfl
    ·rw [show f 0=false from hq];rfl
    ·rw [show f 1=false from hq,Bool.and_false];rfl
    ·rw [show f 2=false from hq,Bool.and_false]
   rw [this]
  ·have hq:f k=true:=by simpa using hq
   by_cases he:j=k
   ·rw [he];exact hq
   ·exact hj j aa
 ·have hc:¬(k:Int)<3:=by simpa using hc
  refine ⟨?_,xr⟩;rw [show f 0=true from hj 0 aa,show f 1=true from hj 1 aa,show f 2=true from hj 2 aa];rfl
def AX(a b:Bx)(w:World):eU 148 #[xq a,xq b] w (Value.bool (vq a b)):=by
 apply PS.vc;intro w0 e0 w1 e1;have x0:=aV e0;have r0:Row w0 w (pL a) fX:=Row.nw e0;have x1:=aV e1;have r1:Row w1 w0 (pL b) fX:=Row.nw e1;have z0:=zA e0;have z1:=zA e1;refine (afo (ovK a b) (.func (.func 216) #[] #[w,w0]) w1 λw' x' i=>bV (by kernel_rfl) rfl (Je a b i (r0.ext (x1.tr x')) (r1.ext x'))).bj λw2 x2=> ?_
 have z2:=x2.size
 first
  |exact ⟨_,rfl,rfl,x0.tr (x1.tr x2)⟩
  |exact ⟨_,rfl,x2.heap aa,x2.heap aa,rfl,x0.tr (x1.tr x2)⟩
def R9(x y:Bx)(i:Int):Int:=aC ((if dK y.2 i<dK x.2 i then dK y.2 i else dK x.2 i)-(if dK y.1 i>dK x.1 i then dK y.1 i else dK x.1 i))
def yg(a b:Bx)(i:Int){ga gb:Nat}{w:World}(ha:Row w ga (pL a) fX)(hb:Row w gb (pL b) fX):
  eU 209 #[i,ga,gb] w (Value.int .i64 (R9 a b i)):=by
 apply PT.vc;have xd:=Ext.dr w;refine ⟨_,_,_,ua (o:=3) (ha.ext xd) rfl rfl rfl,_,_,_,ua (o:=3) (hb.ext xd) rfl rfl rfl,_,_,_,ua (o:=0) (ha.ext xd) rfl rfl rfl,_,_,_,ua (o:=0) (hb.ext xd) rfl rfl rfl,(c9 a.2 i w.drew).bj λw6 x6=> ?_⟩;have y6:=xd.tr x6;refine ⟨_,rfl,ua (o:=0) (hb.ext y6) rfl rfl rfl,ua (o:=0) (ha.ext y6) rfl rfl rfl,ua (o:=3) (hb.ext y6) rfl rfl rfl,(c9 b.2 i w6).bj λw8 x8=> ?_⟩;have y8:=y6.tr x8;refine ⟨_,rfl,ua (o:=0) (hb.ext y8) rfl rfl rfl,ua (o:=0) (ha.ext y8) rfl rfl rfl,(c9 a.1 i w8).bj λcp dz=> ?_⟩;have y16:=y8.tr dz;refine ⟨_,rfl,ua (o:=0) (hb.ext y16) rfl rfl rfl,(c9 b.1 i cp).bj λdN de=> ?_⟩;exact ⟨_,rfl,rfl,y16.tr de⟩
def axP(a b:eJ):Int:=if R9 a.box b.box 0>R9 a.box b.box 2 then 2 else 0
def nP(a b:eJ):Int:=if 4096<R9 a.box b.box (axP a b) then 4096 else R9 a.box b.box (axP a b)
def sP(a b:eJ):Int:=if dK a.au (axP a b)<=dK b.au (axP a b) then aC (0-nP a b) else nP a b
def jO(a b:eJ):Ce × Ce:=if vq a.box b.box=true then (gd (0,0,0) (axP a b) (sP a b),gd (0,0,0) (axP a b) (aC (0-sP a b))) else ((0,0,0),(0,0,0))
def ZK(a b:eJ)(hwa:cT a.wd)(hwb:cT b.wd)(w:World):
  eU 143 #[IB a,IB b] w (Value.tuple #[gg (jO a b).1,gg (jO a b).2]):=by
 apply YN.vc;intro w0 e0 w1 e1 w2 e2 w3 e3;have x0:=aV e0;have z0:=zA e0;have r0:Row w0 w (pk a) DM:=Row.nw e0;have x1:=aV e1;have z1:=zA e1;have r1:Row w1 w0 (pk b) DM:=Row.nw e1;have x2:=aV e2;have z2:=zA e2;have x3:=aV e3;have z3:=zA e3;have x03:=x0.tr (x1.tr (x2.tr x3));have ra:=r0.ext (x1.tr (x2.tr x3));have rb:=r1.ext (x2.tr x3);refine ⟨λp q wj=>∃gX gY:Nat,p=some ⟨gX,0,none⟩/\q=some ⟨gY,0,none⟩/\Row wj gX (pL a.box) fX/\Row wj gY (pL b.box) fX/\Ext w3 wj,?_,?_⟩
 ·have X:=Ext.dr w3;have zd:=oa w3;have hA:=λw=>kB a hwa w
  have hB:=λw=>kB b hwb w
  generalize a.box=A at hA ⊢;generalize b.box=B at hB ⊢
  repeat' first
   |(with_reducible refine (hA _).mono ?_;rintro e v ⟨rfl,xn⟩;have zn:=xn.size;refine ⟨_,_,_,_,_,_,rfl,?_⟩;(repeat (refine ⟨xn.heap aa,?_⟩));refine ⟨Lo.wv (r1.ext (x2.tr (x3.tr (X.tr xn)))),?_⟩;have X:=X.tr xn;(try have rX:=rX.ext xn);(try have rY:=rY.ext xn);clear xn)
   |(with_reducible refine (hB _).mono ?_;rintro e v ⟨rfl,xn⟩;have zn:=xn.size;refine ⟨_,_,_,_,_,_,rfl,?_⟩;(repeat (refine ⟨xn.heap aa,?_⟩));have X:=X.tr xn;(try have rX:=rX.ext xn);(try have rY:=rY.ext xn);clear xn)
   |(intro v en;have rn:Row v _ [ai,ai,ai,ai,ai,ai] fX:=rN en;have xn:=(aV en);have zn:=zA en;have X:=X.tr xn;(try have rY:=rX.ext xn);have rX:=rn;clear xn en rn)
   |(intro ws es wt et;have zs:=zR es;have zt:=zR et;have q1:Row ws _ (pL A) fX:=rS rX es;have q2:=rY.so es;have q3:Row wt _ (pL B) fX:=rS q2 et;have q1:=q1.so et;exact ⟨rfl,rfl,rfl,rfl,_,_,rfl,rfl,q1,q3,(X.af es aa).af et aa⟩)
   |(intro ws es wt et;have zs:=zR es;have zt:=zR et;have q1:Row ws _ (pL A) fX:=rS rY es;have q2:=rX.so es;have q3:Row wt _ (pL B) fX:=rS q2 et;have q1:=q1.so et;exact ⟨rfl,rfl,rfl,rfl,_,_,rfl,rfl,q1,q3,(X.af es aa).af et aa⟩)
   |refine And.intro ?_ ?_
 ·rintro us p q wj ⟨gX,gY,rfl,rfl,rX,rY,xj⟩;have zj:=xj.size;refine ⟨_,_,_,_,_,_,Lo.wv rX,_,_,_,_,_,_,Lo.wv rY,(AX a.box b.box wj).bj λTn CI=> ?_⟩;have aHw:=CI.size;have rX5:=rX.ext CI;have rY5:=rY.ext CI;have xw:=x03.tr (xj.tr CI);unfold jO;refine ⟨_,rfl,CI.heap aa,CI.heap aa,CI.heap aa,CI.heap aa,Br.mk (λhc arC aAu arD aAv=>⟨?_,(xw.af aAu aa).af aAv aa⟩) (λhc=> ?_)⟩
  ·have hc:vq a.box b.box=false:=by simpa using hc
   rw [hc];rfl
  ·have hc:vq a.box b.box=true:=by simpa using hc
   rw [if_pos hc];refine ⟨λx wr=>x=axP a b/\Ext Tn wr,?_,?_⟩
   ·refine (yg a.box b.box 0 rX5 rY5).bj λajw Ov=> ?_
    have aHx:=Ov.size;refine ⟨_,rfl,Ov.heap aa,Ov.heap aa,Ov.heap aa,Ov.heap aa,(yg a.box b.box 2 (rX5.ext Ov) (rY5.ext Ov)).bj λajx WB=> ?_⟩;have aHy:=WB.size;unfold axP;refine ⟨_,rfl,WB.heap aa,WB.heap aa,WB.heap aa,WB.heap aa,Br.mk (λq=>⟨rfl,rfl,rfl,rfl,?_,Ov.tr WB⟩) (λq=>⟨rfl,rfl,rfl,rfl,?_,Ov.tr WB⟩)⟩
    ·rw [if_pos (by simpa using q)]
    ·rw [if_neg (by simpa using q)]
   ·rintro us x wr ⟨rfl,xr⟩;have zr:=xr.size;refine ⟨λx wr=>x=nP a b/\Ext Tn wr,?_,?_⟩
    ·refine (yg a.box b.box (axP a b) (rX5.ext xr) (rY5.ext xr)).bj λTe Tg=> ?_
     have aHz:=Tg.size;exact ⟨_,rfl,Tg.heap aa,Tg.heap aa,Tg.heap aa,Tg.heap aa,rfl,rfl,rfl,rfl,rfl,xr.tr Tg⟩
    ·rintro us x wr ⟨rfl,xr⟩;have zr:=xr.size;have xd:=Ext.dr wr;have zd:=oa wr;have yd:=xj.tr (CI.tr (xr.tr xd));refine ⟨λx wr=>x=sP a b/\Ext Tn wr,?_,?_⟩
     ·refine (c9 a.au (axP a b) wr.drew).bj λabt EA=> ?_
      have aHA:=EA.size;refine ⟨_,rfl,EA.heap aa,EA.heap aa,EA.heap aa,EA.heap aa,ua (o:=0) (rb.ext (yd.tr EA)) rfl rfl rfl,(c9 b.au (axP a b) abt).bj λTf pT=> ?_⟩;have aAk:=pT.size;unfold sP;refine ⟨_,rfl,pT.heap aa,pT.heap aa,pT.heap aa,pT.heap aa,Br.mk (λq=>⟨rfl,rfl,rfl,rfl,?_,xr.tr (xd.tr (EA.tr pT))⟩) (λq=>⟨rfl,rfl,rfl,rfl,?_,xr.tr (xd.tr (EA.tr pT))⟩)⟩
      ·rw [if_pos (by simpa using q)]
      ·rw [if_neg (by simpa using q)]
     ·rintro us x ws ⟨rfl,xs⟩;have zs:=xs.size;refine (jo (0,0,0) (axP a b) (sP a b) ws).bj λagd abK=> ?_
      have aHB:=abK.size;refine ⟨_,_,_,rfl,abK.heap aa,abK.heap aa,abK.heap aa,abK.heap aa,(jo (0,0,0) (axP a b) (aC (0-sP a b)) agd).bj λaof On=> ?_⟩;have aHC:=On.size;exact ⟨_,_,_,rfl,On.heap aa,On.heap aa,On.heap aa,On.heap aa,λarH aAw arI aAx=>⟨rfl,((xw.tr (xs.tr (abK.tr On))).af aAw aa).af aAx aa⟩⟩
def okB(m:Int)(b:eJ):Prop:=da b.au m/\(0<=b.wd/\b.wd<=1000000)/\(0<=b.ht/\b.ht<=1000000)/\-1000000<=b.speed.2.1/\b.speed.2.1<=1000000
def okB.up{b:eJ}{m n:Int}(h:okB m b)(hn:m<=n):okB n b:=⟨h.1.up hn,h.2⟩
def okB.wdi{b:eJ}{m:Int}(h:okB m b):cT b.wd:=by unfold cT;have:=h.2.1;omega
def okB.zF{b:eJ}{m:Int}(h:okB m b)(hm:m<=99970000000000):bW b.box (m+1000000):=Uv h.1 h.2.1 h.2.2.1 aa
def QM{V:Ce->Int}{b:eJ}{d:Ce}{m:Int}(h:okB m b)(hm:m<=99970000000000):okB (m+12582912) (jr V b d):=by
 have hn:=h.zF hm;have h1:=Md (V:=V) (p:=aD) (d:=jE b.au d) hn aa;have h2:=FX (V:=V) (p:=aD) (d:=jE b.au d) hn aa;have hm0:0<=m:=by have:=h.1;unfold da at this;omega
 exact ⟨PK h.1 (da.up hn.lo aa) h1.lo h2 aa aa aa,h.2⟩
def aic(h:Ht)(v:Ce)(hv: -1000000<=v.2.1/\v.2.1<=1000000): -1000000<=(u7 h v).2.1/\(u7 h v).2.1<=1000000:=by
 have e:(u7 h v).2.1=if h.2.1=true then dG 0 else v.2.1:=by
  unfold u7
  cases h.1<;>cases h.2.1<;>cases h.2.2<;>rfl
 rw [e];have c0:dG 0=0:=by decide
 rw [c0];split<;>omega
def aid{V:Ce->Int}{b:eJ}{m:Int}(h:okB m b)(hm:m<=99970000000000):okB (m+16777216) (GG V b):=by
 have hn:=h.zF hm;have h1:=PJ (V:=V) (p:=aD) (d:=jE b.au b.speed) (up:=32768) hn aa;have hm0:0<=m:=by have:=h.1;unfold da at this;omega
 exact ⟨PK h.1 (da.up hn.lo aa) h1.2.lo h1.1 aa aa aa,h.2.1,h.2.2.1,aic _ _ h.2.2.2⟩
def MJ{n jump less least:Int}{j:Bool}(hn: -1000000<=n/\n<=1000000)(hj: -1000000<=jump/\jump<=1000000)(hl:0<=less)(ht:0<=least/\least<=1000000): -1000000<=wQ n jump less least j/\wQ n jump less least j<=1000000:=by unfold wQ;split<;>omega
def aie{V:Ce->Int}{b:eJ}{i:QN}{m:Int}(h:okB m b):okB m (tE V b i):=by
 unfold tE;split
 ·exact ⟨h.1,h.2.1,h.2.2.1,MJ h.2.2.2 aw aw aw⟩
 ·split
  ·exact ⟨h.1,h.2.1,h.2.2.1,MJ h.2.2.2 aw aw aw⟩
  ·exact ⟨h.1,h.2.1,h.2.2.1,MJ h.2.2.2 aw aw aw⟩
def aif{V:Ce->Int}{b:eJ}{i:QN}{m:Int}(h:okB m b)(hm:m<=99970000000000):okB (m+16777216) (zS V b i):=aid (aie (b:=tF b i) h) hm
def Kc(V:Ce->Int)(i k:Nat)(l:List eJ):List eJ:=
 match l[i]?,l[k]? with
 |some a,some b=>(l.set i (jr V a (jO a b).1)).set k (jr V b (jO a b).2)
 |_,_=>l
def U8(V:Ce->Int)(i:Nat):Nat->Nat->List eJ->List eJ
 |_,0,l=>l
 |k,n+1,l=>U8 V i (k+1) n (Kc V i k l)
def crB(V:Ce->Int):Nat->Nat->List eJ->List eJ
 |_,0,l=>l
 |i,n+1,l=>crB V (i+1) n (U8 V i (i+1) (l.length-(i+1)) l)
def vb(V:Ce->Int)(l:List eJ):List eJ:=crB V 0 l.length l
def Mu(b:eJ):One (pk b):=by intro u hu;simp at hu;rcases hu with rfl|rfl|rfl|rfl|rfl|rfl|rfl|rfl|rfl<;>rfl
def adU(l:List eJ):∀r ∈ l.map pk,r.length=9:=by intro r hr;obtain ⟨b,-,rfl⟩:=bf.1 hr;rfl
def aih(l:List eJ):∀r ∈ l.map pk,One r:=by intro r hr;obtain ⟨b,-,rfl⟩:=bf.1 hr;exact Mu b
def QO{B:Nat}{w:World}{s:Sl}{l:List eJ}(ho:ar B DM 9 w s (l.map pk))(hl:l.length<=5000):
  ae 142 #[s] w λe w'=>∃s':Sl,e=s'/\ar w DM 9 w' s' (l.map pk)/\Ext w w':=by
 apply zE.vc;have hn:s.n=l.length:=by rw [(ho.rd aw).n,aJ]
 apply Br.mk<;>intro h
 ·rcases ho.form aw with ⟨hs,Ep⟩|⟨g0,cs,ha,-⟩
  ·exact ⟨⟨none,0,0⟩,rfl,by rw [Ep];exact ar.nil,Ext.bU _⟩
  ·rw [ha] at h;cases h
 ·intro w0 e0;have x0:=aV e0;have Fc:=fE e0;have hr0:Row w0 w [] DM:=by rw [e0];exact Row.new _ _ _
  have lM:ar w DM 9 w0 ⟨aB w.heap.size,0,0⟩ []:=ar.jU (ak _) hr0 bo (ak _) rfl bo;obtain ⟨hp,hr⟩:=lM.FC (bytes:=72) (more:=l.map pk) x0.size (adU _) (aih _) smo smo;rw [aJ,<-hn] at hp hr;refine ⟨(l.map pk).flatten,((ho.ext x0).rd aw).flat aw,hp,λs2 w3 bq=> ?_⟩;obtain ⟨h1,h2,h3,h4,h5⟩:=hr s2 w3 bq;refine ⟨qh bq (by rw [bQ (adU _),aJ,hn]) aa,s2,rfl,h1,x0.trans h3⟩
def adV{B:Nat}{w:World}{s:Sl}{l:List eJ}(ho:ar B DM 9 w s (l.map pk)){i:Nat}(hi:i<l.length)(x:eJ):
  (ab s.a (i*9)).isSome=true/\Wr w (ab s.a (i*9)) 9/\∀w',w'=bC w (ab s.a (i*9)) (pk x)->ar B DM 9 w' s ((l.set i x).map pk)/\Below B w w'/\Mod (λb=>s.aX=some b) w w':=by
 obtain ⟨h1,h2,h3,h4,h5⟩:=ho.put (i:=i) (r:=pk x) (by simpa using hi) aw rfl (Mu x);refine ⟨h1,h2,λw' e=> ?_⟩;subst e;exact ⟨by rw [pW];exact h3,h4,h4.os,h4.tape,h4.output,h4.size,λj _ hn=>h5 j hn⟩
def UY{v:Value}{V:Ce->Int}{w:World}(hV:Tl v V w)(hv:kr v=[]){B:Nat}{s:Sl}{l:List eJ}(ho:ar B DM 9 w s (l.map pk))(hl:l.length<=16){m:Int}(hok:∀b ∈ l,okB m b)(hm0:0<=m)(hm:m<=99960000000000):
  ae 82 #[v,s] w λe w'=>∃s':Sl,e=s'/\ar w DM 9 w' s' ((vb V l).map pk)/\Ext w w'/\(∀b ∈ vb V l,okB (m+16*16*12582912) b)/\(vb V l).length=l.length:=by
 apply UA.vc;refine (QO ho aa).mono ?_;rintro e w0 ⟨s1,rfl,h1,x1⟩;have hn1:s1.n=l.length:=by rw [(h1.rd aw).n,aJ]
 refine ⟨s1,rfl,λn x wr=>∃(i:Nat)(cur:List eJ),x=i/\i+n=l.length/\cur.length=l.length/\ar w DM 9 wr s1 (cur.map pk)/\Ext w wr/\(∀b ∈ cur,okB (m+16*i*12582912) b)/\vb V l=crB V i n cur,⟨l.length,0,l,rfl,aa,rfl,h1,x1,λb hb=>(hok b hb).up aa,rfl⟩,?_⟩;rintro n us x w6 ⟨i,cur,rfl,pE,db,hO,xr,hb,Tz⟩;apply Br.mk<;>intro hc
 ·have hc:i<l.length:=by
   have:(i:Int)<s1.n:=by simpa using hc
   omega
  obtain ⟨n,rfl⟩:∃n',n=n'+1:=⟨n-1,aa⟩;have wk:=nJ (j:=i);rw [wk];refine ⟨λn8 x bO=>∃(k:Nat)(cur:List eJ),x=k/\k+n8=l.length/\i<k/\cur.length=l.length/\ar w DM 9 bO s1 (cur.map pk)/\Ext w bO/\(∀b ∈ cur,okB (m+(16*i+k)*12582912) b)/\vb V l=crB V (i+1) n (U8 V i k n8 cur),⟨n,i+1,cur,rfl,aa,aa,db,hO,xr,λb hb'=>(hb b hb').up aa,?_⟩,?_⟩
  ·rw [Tz];show crB V (i+1) n (U8 V i (i+1) (cur.length-(i+1)) cur)=_;rw [show cur.length-(i+1)=n from by omega]
  rintro n8 us x bO ⟨k,cur,rfl,X2,hik,db,hO,xr,hb,Tz⟩;apply Br.mk<;>intro nG
  ·have nG:k<l.length:=by
    have:(k:Int)<s1.n:=by simpa using nG
    omega
   obtain ⟨n8,rfl⟩:∃n',n8=n'+1:=⟨n8-1,aa⟩;have ha:cur[i]? =some (cur[i]'aa):=cO aa;have yx:cur[k]? =some (cur[k]'aa):=cO aa;have oka:=hb _ (List.getElem_mem (l:=cur) (n:=i) aa);have okb:=hb _ (List.getElem_mem (l:=cur) (n:=k) aa);generalize cur[i]'aa=a at ha oka;generalize cur[k]'aa=b at yx okb;have Tz:vb V l=crB V (i+1) n (U8 V i (k+1) n8 ((cur.set i (jr V a (jO a b).1)).set k (jr V b (jO a b).2))):=by rw [Tz];show crB V (i+1) n (U8 V i (k+1) n8 (Kc V i k cur))=_;rw [show Kc V i k cur=(cur.set i (jr V a (jO a b).1)).set k (jr V b (jO a b).2) from by unfold Kc;rw [ha,yx]]
   have hwa:=oka.wdi;have hwb:=okb.wdi;have gl:=(hO.ext (Ext.dr bO)).rd aw;have Ye:(cur.map pk)[i]? =some (pk a):=by rw [aZ,ha];rfl
   have hrk:(cur.map pk)[k]? =some (pk b):=by rw [aZ,yx];rfl
   have ib:∀j:Nat,j<l.length->gJ s1.a (j:Int) s1.n:=λj hj=>gl.j2 aw aa aa
   have fA:cur.map pk≠ []:=λh=>by rw [h] at Ye;cases Ye
   have iN:∀g,s1.aX=some g->g<bO.heap.size:=λg hg=>gl.L5 aw fA hg
   have hX0:16*(i:Int)+k<=256:=by omega
   refine ⟨λp q wj=>∃gX gY:Nat,p=aB gX/\q=aB gY/\Row wj gX (eZ (jO a b).1) iz/\Row wj gY (eZ (jO a b).2) iz/\Ext bO wj/\bO.heap.size<=gY,⟨ib i hc,_,_,_,_,_,_,_,_,_,gl.bK Ye,ib k nG,_,_,_,_,_,_,_,_,_,gl.bK hrk,?_⟩,?_⟩
   ·have X:=Ext.dr bO;have zd:=oa bO
    repeat' first
     |(refine (ZK a b hwa hwb _).mono ?_;rintro e v ⟨rfl,xn⟩;have zn:=xn.size;refine ⟨_,_,_,_,_,_,rfl,?_⟩;(repeat (refine ⟨xn.heap aa,?_⟩));have X:=X.tr xn;(try have rX:=rX.ext xn);(try have rY:=rY.ext xn);clear xn)
     |(intro v en;have rn:Row v _ [ai,ai,ai] iz:=rN en;have xn:=(aV en);have zn:=zA en;have X:=X.tr xn;(try have rY:=rX.ext xn);have rX:=rn;clear xn en rn)
     |(intro ws es wt et;have zs:=zR es;have zt:=zR et;have q1:Row ws _ (eZ (jO a b).1) iz:=rS rX es;have q2:=rY.so es;have q3:Row wt _ (eZ (jO a b).2) iz:=rS q2 et;have q1:=q1.so et;exact ⟨_,_,rfl,rfl,q1,q3,(X.af es aa).af et aa,aa⟩)
     |(intro ws es wt et;have zs:=zR es;have zt:=zR et;have q1:Row ws _ (eZ (jO a b).1) iz:=rS rY es;have q2:=rX.so es;have q3:Row wt _ (eZ (jO a b).2) iz:=rS q2 et;have q1:=q1.so et;exact ⟨_,_,rfl,rfl,q1,q3,(X.af es aa).af et aa,aa⟩)
     |refine And.intro ?_ ?_
   ·rintro us p q wj ⟨gX,gY,rfl,rfl,rX,rY,xj,hgY⟩;have xd:=Ext.dr wj;have hOj:=hO.ext (xj.tr xd);refine ⟨λw'=>ar w DM 9 w' s1 ((cur.set i (jr V a (jO a b).1)).map pk)/\Row w' gY (eZ (jO a b).2) iz/\Ext w w',⟨ib i hc,_,_,_,_,_,_,_,_,_,(hOj.rd aw).bK Ye,_,_,_,Lo.wv (rX.ext xd),(GH (hV.ext (xr.tr (xj.tr xd))) hv a hwa (oka.zF aa) aa (jO a b).1).mono ?_⟩,?_⟩
    ·rintro e HY ⟨rfl,Ew⟩;have hO7:=hOj.ext Ew;obtain ⟨q1,q2,q3⟩:=adV hO7 (i:=i) aa (jr V a (jO a b).1);refine ⟨_,_,_,_,_,_,_,_,_,rfl,ib i hc,⟨q1,q2⟩,λWh ay0=> ?_⟩;obtain ⟨p1,p2,p3⟩:=q3 Wh ay0;have rY7:=rY.ext (xd.tr Ew);exact ⟨p1,rY7.same (p3.same _ rY7.lt (λh=>by have:=iN _ h;omega)),(xr.tr (xj.tr (xd.tr Ew))).trans p2⟩
    ·rintro us Jm ⟨asQ,rY9,agb⟩;have xd9:=Ext.dr Jm;have hrd9:=(asQ.ext xd9).rd aw;have hrk9:((cur.set i (jr V a (jO a b).1)).map pk)[k]? =some (pk b):=by rw [aZ,GJ aa,yx];rfl
     refine ⟨ib k nG,_,_,_,_,_,_,_,_,_,hrd9.bK hrk9,_,_,_,Lo.wv (rY9.ext xd9),(GH (hV.ext (agb.tr xd9)) hv b hwb (okb.zF aa) aa (jO a b).2).bj λTi asS=> ?_⟩;obtain ⟨q1,q2,q3⟩:=adV ((asQ.ext xd9).ext asS) (i:=k) (by rw [lU];omega) (jr V b (jO a b).2);refine ⟨_,_,_,_,_,_,_,_,_,rfl,ib k nG,⟨q1,q2⟩,λrG ay1=> ?_⟩;obtain ⟨p1,p2,p3⟩:=q3 rG ay1;refine ⟨n8,aa,k+1,_,?_,aa,aa,by rw [lU,lU];exact db,p1,(agb.tr (xd9.tr asS)).trans p2,λy hy=> ?_,Tz⟩
     ·rw [wI];omega
     ·rcases qk hy with hy|rfl
      ·rcases qk hy with hy|rfl
       ·exact (hb y hy).up aa
       ·exact (QM oka aa).up aa
      ·exact (QM okb aa).up aa
  ·have nG:¬k<l.length:=λh=>by
    have:¬(k:Int)<s1.n:=by simpa using nG
    omega
   have:n8=0:=by omega
   subst this;exact ⟨n,aa,i+1,cur,rfl,aa,db,hO,xr,λb hb'=>(hb b hb').up aa,Tz⟩
 ·have hc:¬i<l.length:=λh=>by
   have:¬(i:Int)<s1.n:=by simpa using hc
   omega
  have:n=0:=by omega
  subst this;have Tz:vb V l=cur:=Tz;refine ⟨s1,rfl,by rw [Tz];exact hO,xr,λb hb'=> ?_,by rw [Tz];exact db⟩;rw [Tz] at hb';exact (hb b hb').up aa
variable {R:eWp} {w:World} {a0 a1 a2 a3 aM aL aR cV cZ du iO iF gG aG aH aS gu gw fB:Int}
def ah7.vc(h:
 Aw w #[aM,aL,aR] 73 λw0=>
 Aw w0 #[ai,ai,ai] 73 λw1=>
 ae 266 #[.agg #[aM,aL,aR],.func (.func 353) #[] #[]] w1 (mh λx3 x4 x5 w2=>K2 w w0 w1 w2 (
 Sw w2 w0 #[x3,x4,x5] λw6=>
 R (tZ #[x3,x4,x5]) w6))):ae 310 #[.agg #[aM,aL,aR]] w R:=
 cq bD func310 h
def Zt.vc(h:
 ae 257 #[a1] w (gk λx1 w0=>R x1 w0)):ae 353 #[a0,a1] w R:=
 cq bD func353 h
def ah8.vc(h:
 Aw w #[aM,aL,aR] 73 λw0=>
 Aw w0 #[ai,ai,ai] 73 λw1=>
 ae 354 #[aM] w1.drew (Ri λx3 w2=>K2 w w0 w1.drew w2 (
 ah w2 (jS w 2) 0 [aR]/\ah w2 (jS w 1) 0 [aL]/\ae 354 #[aL] w2 (Ri λx5 w4=>K2 w w0 w2 w4 (
 ah w4 (jS w 2) 0 [aR]/\ae 354 #[aR] w4 (Ri λx7 w6=>K2 w w0 w4 w6 (
 Sw w6 w0 #[x3,x5,x7] λw8=>
 R (tZ #[x3,x5,x7]) w8))))))):ae 311 #[.agg #[aM,aL,aR]] w R:=
 cq bD func311 h
def Zu.vc(h:(λA=>
 R (Value.int .i64 (if 1048576<A then 1048576 else A)) w) (if (-1048576)>a0 then (-1048576) else a0)):ae 354 #[a0] w R:=
 cq bD func354 h
def U1.vc(h:
 Aw w #[aM,aL] 341 λw0=>
 Aw w0 #[aG,aH] 341 λw1=>(λAa=>
 Br (aL==0)
 Aa
 (Br (aH==0)
 Aa
 (R (Ix (decide (((aC (aM*aH)):Int)<(aC (aG*aL))))) w1))) (R (Ix (decide (aL>0))) w1)):ae 315 #[.agg #[aM,aL],.agg #[aG,aH]] w R:=
 cq bD func315 h
def Zv.vc(h:(λA B C=>
 Aw w #[aM,aL,aR] 73 λw0=>
 Aw w0 #[aG,aH,aS] 73 λw1=>
 Aw w1 B 342 λw2=>(λAa=>
 Aw w2 B 342 λw3=>
 uo (λI4 n5=>aP C/\aP A/\I4 n5 (0) w3) λI4 n5 us6 x7 w8=>(λAb Ac=>
 Br (x7<3)
 (ae 210 #[.agg #[aM,aL,aR],x7] w8.drew (Ri λbR bc=>K2 w w0 w8.drew bc (
 ah bc (aB w0) 0 A/\ae 210 #[.agg #[aG,aH,aS],x7] bc (Ri λcN bO=>K2 w w0 bc bO (
 ae 355 #[bR] bO (Ri λdm cu=>K2 w w0 bO cu (
 (0:Int)<=x7/\x7<((3:Nat):Int)/\(true=true/\Wr cu Ab 2)/\bN Ab≠some w.heap.size/\bN Ab≠some w0.heap.size/\(Pw cu Ab [dm,(aC (0-cN))] λcp=>
 Br (cN>0)
 (ae 355 #[bR] cp (Ri λde cM=>K2 w w0 cp cM (
 (0:Int)<=x7/\x7<((3:Nat):Int)/\(true=true/\Wr cM Ab 2)/\bN Ab≠some w.heap.size/\bN Ab≠some w0.heap.size/\(Pw cM Ab [(aC (65536-de)),cN] λeQ=>
 ∃n9,n9<n5/\aP C/\aP A/\I4 n9 Ac eQ))))
 (∃n9,n9<n5/\aP C/\aP A/\I4 n9 Ac cp)))))))))
 (CZ w8 Aa λfk fj gI im jR gM=>
 Wt w8 ⟨w1,0,none⟩ 6/\Nb w1 w/\Nb w1 w0/\(Pw w8 (aB w1) [fk,fj,gI,im,jR,gM] λlQ=>
 CZ lQ (aB w1) λjH rI kK tM oU mR=>
 R (tZ #[jH,rI,kK,tM,oU,mR]) lQ))) (ab Aa ((x7:Int).toNat*2)) ((aC (x7+1)))) (aB w2)) [aG,aH,aS] #[ai,ai,ai,ai,ai,ai] [aM,aL,aR]):ae 313 #[.agg #[aM,aL,aR],.agg #[aG,aH,aS]] w R:=
 cq (Oy 3 9) func313 h
def U2.vc(h:
 Aw w #[aM,aL,aR] 23 λw0=>
 Aw w0 #[aG,aH,aS] 23 λw1=>
 Aw w1 #[a2] 3 λw2=>
 ae 356 #[aM,aG,.pointer (aB w1)] w2 (Rb λb4 w3=>K2 w w0 w2 w3 (
 Br b4
 (ae 356 #[aL,aH,.pointer (aB w1)] w3 (Rb λb6 w5=>K2 w w0 w3 w5 (
 Br b6
 (ae 356 #[aR,aS,.pointer (aB w1)] w5 (Rb λb8 w7=>K2 w w0 w5 w7 (
 R b8 w7)))
 (R false w5))))
 (R false w3)))):ae 314 #[.agg #[aM,aL,aR],.agg #[aG,aH,aS],a2] w R:=
 cq bD func314 h
def My.vc{c0:Addr}(h:
 jV w (some c0) λx0=>
 Br (decide (((aC (a0-a1)):Int)<=x0))
 (jV w (some c0) λx1=>
 R (Ix (decide (((aC (a1-a0)):Int)<=x1))) w)
 (R false w)):ae 356 #[a0,a1,c0] w R:=
 cq bD func356 h
def Zw.vc(h:
 ae 258 #[a0] w (ahK λx1 b2 w0=>(λAa=>ae 258 #[a1] w0 (ahK λx4 b5 w3=>Br (x4==0)
 (R (eV #[ai,(1:Int)]) w3)
 (aN (nzC x4) (aN (nzC x4) (ae 260 #[.int .u64 (fJ (Int.tdiv Aa x4)),.bool (((Int.tmod Aa x4):Int) !=0),.bool (!(b2==b5))] w3.drew (gk λx7 w6=>R (eV #[x7,ai]) w6)))))) (fJ (x1*2 ^(min (16:Int).toNat 64))))):ae 316 #[a0,a1] w R:=
 cq bD func316 h
def QF.vc{a0:Value}{c0:Addr}{c1:Addr}{c2:Addr}(h:(λA B=>
 ia w (some c0) λx0 x1 x2=>
 ia w (some c1) λx3 x4 x5=>
 ae 313 #[.agg #[x0,x1,x2],.agg #[x3,x4,x5]] w (ame λx7 x8 x9 bM bR cw w6=>(λAa=>Aw w6 B 342 λbw=>
 (Pt bw ⟨w6,0,none⟩ 6 [x7,x8,x9,bM,bR,cw] λcu=>
 ia cu (some c0) λdm dz dS=>
 ae 138 #[.agg #[dm,dz,dS]] cu (zJ λdR fk fj dN=>(λAb=>Aw dN B 184 λdt=>
 Sw dt dN #[dR,fk,fj,ai,(-1:Int),ai] λje=>(λAc=>
 Aw je #[ai,ai,ai] 23 λiH=>
 Sw iH je #[dR,fk,fj] λdL=>
 ∃Yc:Nat->Int->Int->Int->Int->Int->Int->wPp,
 (∃n27,aP Ab/\Yc n27 dR fk fj (0) ((-1)) (0) dL)/\
 ∀(n27:Nat)(arN:Nat->Value)(kK tM oU mR gO j0:Int)(iI:World),Yc n27 kK tM oU mR gO j0 iI->
 jV iI (some c2) λmQ=>
 ae 314 #[.agg #[dR,fk,fj],.agg #[kK,tM,oU],mQ] iI (Rb λb39 tN=>Ac iI tN (
 Br b39
 (bu Tryz.prog a0 [.agg #[kK,tM,oU,mR,gO,j0]] tN (Rb λb41 nV=>Ac tN nV (
 Br (!b41)
 (R pH nV)
 (qH (λI42 n43=>aP [kK,tM,oU,mR,gO,j0]/\aP Ab/\I42 n43 (0) (0) nV) λI42 n43 aFZ yO pQ oK=>(λAd Ae Af Ag=>
 Br (yO<3)
 ((0:Int)<=yO/\yO<A/\lY oK.drew (ab Aa ((yO:Int).toNat*2)) λTS Fb=>
 (0:Int)<=pQ/\pQ<A/\lY oK.drew Ad λyK wm=>
 ae 315 #[.agg #[TS,Fb],.agg #[yK,wm]] oK.drew (Rb λb54 w53=>Ac oK.drew w53 (
 Br b54
 (∃n48,n48<n43/\aP [kK,tM,oU,mR,gO,j0]/\aP Ab/\I42 n48 Ag yO w53)
 (∃n48,n48<n43/\aP [kK,tM,oU,mR,gO,j0]/\aP Ab/\I42 n48 Ag pQ w53))))
 ((0:Int)<=pQ/\pQ<A/\jV oK (ab Ad 1) λvR=>
 Br (vR==0)
 (R pH oK)
 ((0:Int)<=pQ/\pQ<A/\jV oK.drew (ab Ad 0) λOP=>
 (0:Int)<=pQ/\pQ<A/\jV oK.drew (ab Ad 1) λJk=>
 ae 316 #[OP,Jk] oK.drew (ah9 λIe rM CD=>Ac oK.drew CD (
 (0:Int)<=pQ/\pQ<A/\jV CD (ab Ad 0) λKS=>
 (0:Int)<=pQ/\pQ<A/\(true=true/\Wr CD (ab Ad 0) 1)/\bN (ab Ad 0)≠some dN.heap.size/\bN (ab Ad 0)≠some je.heap.size/\(Pw CD (ab Ad 0) [(aC (KS+65536))] λkz=>
 ia kz (some c1) λBj KX A8=>
 ae 210 #[.agg #[Bj,KX,A8],pQ] kz (Ri λyt yy=>Ac kz yy (
 Br (yt>0)
 (ae 221 #[.agg #[kK,tM,oU]] yy (P7 λA9 Es Ba Dw KU OS KY OT x77 x78 x79 Oj HX Et OR TR x85 x86 OO=>Ac yy OO (
 ((0:Int)<=Ae/\(Ae:Int)<((6:Nat):Int))/\∃(xf x88 x89:Int),(([A9,Es,Ba,Dw,KU,OS,KY,OT,x77,x78,x79,Oj,HX,Et,OR,TR,x85,x86]:LV).drop ((Ae:Int).toNat*3)).take 3=[.int .i64 xf,.int .i64 x88,.int .i64 x89]/\
 Sw OO dN #[xf,x88,x89,ai,(aC (Ae-1)),Ie] λrL=>
 ∃n36,n36<n27/\aP Ab/\Yc n36 xf x88 x89 (0) ((aC (Ae-1))) Ie rL)))
 (ae 221 #[.agg #[kK,tM,oU]] yy (P7 λTa Wa x94 Wb Wc KW x98 Yb Be pU Bb Eu We Ev Ji Ew Th rF w91=>Ac yy w91 (
 ((0:Int)<=Af/\(Af:Int)<((6:Nat):Int))/\∃(lR yA lS:Int),(([Ta,Wa,x94,Wb,Wc,KW,x98,Yb,Be,pU,Bb,Eu,We,Ev,Ji,Ew,Th,rF]:LV).drop ((Af:Int).toNat*3)).take 3=[.int .i64 lR,.int .i64 yA,.int .i64 lS]/\
 Sw w91 dN #[lR,yA,lS,ai,(aC (Ae-0)),Ie] λWp=>
 ∃n36,n36<n27/\aP Ab/\Yc n36 lR yA lS (0) ((aC (Ae-0))) Ie Wp))))))))))) (ab Aa ((pQ:Int).toNat*2)) (aC ((aC (2*pQ))+1)) (aC ((aC (2*pQ))+0)) ((aC (yO+1)))))))
 (R pH tN)))) (K2 dN je)) [dR,fk,fj]))) (aB w6))) ((3:Nat):Int) #[ai,ai,ai,ai,ai,ai]):ae 312 #[a0,c0,c1,c2] w R:=
 cq ⟨[(7,⟨[(30,.int .i64),(8,.int .i64)],[],[]⟩),(3,⟨[],[(0,[.int .i64,.int .i64,.int .i64,.int .i64,.int .i64,.int .i64])],[]⟩)],[],[]⟩ func312 h
def Zx.vc(h:(λA=>
 Aw w #[aM,aL,aR] 73 λw0=>
 Aw w0 #[aG,aH,aS] 73 λw1=>(λAa Ab=>
 Aw w1 #[a2] 3 λw2=>
 ae 310 #[.agg #[aM,aL,aR]] w2.drew (mh λx4 x5 x6 w3=>Ab w2.drew w3 (
 ah w3 Aa 0 [a2]/\ah w3 (aB w0) 0 [aG,aH,aS]/\ae 311 #[.agg #[aG,aH,aS]] w3 (mh λx8 x9 bM w7=>Ab w3 w7 (
 ah w7 Aa 0 [a2]/\Sw w7 w #[x4,x5,x6] λbB=>
 ah bB Aa 0 [a2]/\Sw bB w0 #[x8,x9,bM] λbO=>
 ah bO Aa 0 [a2]/\Sw bO w1 #[.int .i64 (if 64<A then 64 else A)] λbw=>
 R (Value.func (.func 312) #[] #[w,.pointer (aB w0),.pointer Aa]) bw))))) (aB w1) (K3 w w0 w1)) (if 0>a2 then 0 else a2)):ae 252 #[.agg #[aM,aL,aR],.agg #[aG,aH,aS],a2] w R:=
 cq bD func252 h
def adE.vc{a0:Value}(h:(λA B C D=>
 aN (kr a0) (
 Aw w #[a0] 95 λw0=>
 Aw w0 #[aG,aH,aS] 73 λw1=>
 Aw w1 #[gu,gw,fB] 73 λw2=>
 Aw w2 A 184 λw3=>(λAa=>
 Aw w3 #[false] 4 λw4=>
 ae 252 #[.agg #[aG,aH,aS],.agg #[gu,gw,fB],a3] w4 (Rv λv6 w5=>K5 w w0 w1 w2 w3 w4 w5 (
 ∃(xs7:List (LV))(Rd8 F9:Nat->Prop)(EG:Nat->(Nat->Prop)->Int->Int->Int->Int->Int->Int->Bool->wPp)(X11:Option Nat->(Nat->Prop)->Int->Int->Int->Int->Int->Int->Bool->wPp),
 (∀x ∈ xs7,∃(cw cN cY dm dz dS:Int),x=[.agg #[.int .i64 cw,.int .i64 cN,.int .i64 cY,.int .i64 dm,.int .i64 dz,.int .i64 dS]])/\
 (∀(n18:Nat)(F19:Nat->Prop)(fk fj gI im jR gM:Int)(V9:Bool)(gN jI:World),EG n18 F19 fk fj gI im jR gM V9 gN->Below w5 gN jI->(∀i,F19 i->jI.heap[i]? =gN.heap[i]?)->EG n18 F19 fk fj gI im jR gM V9 jI)/\
 (∀(n29:Option Nat)(F30:Nat->Prop)(oU mR gO j0 pG pP:Int)(b37:Bool)(tN lN:World),X11 n29 F30 oU mR gO j0 pG pP b37 tN->Below w5 tN lN->(∀i,F30 i->lN.heap[i]? =tN.heap[i]?)->X11 n29 F30 oU mR gO j0 pG pP b37 lN)/\
 (∀(n40:Nat)(F41:Nat->Prop)(yP vS rE yO pQ Fa:Int)(b48:Bool)(nH:World),EG n40 F41 yP vS rE yO pQ Fa b48 nH->∀i,F41 i->i<nH.heap.size/\i≠w5.heap.size/\i≠w5.heap.size+1)/\
 (∀(n50:Option Nat)(F51:Nat->Prop)(wm nZ CF vR OP Jk:Int)(b58:Bool)(pR:World),X11 n50 F51 wm nZ CF vR OP Jk b58 pR->∀i,F51 i->i<pR.heap.size/\i≠w5.heap.size/\i≠w5.heap.size+1)/\
 (∀i,Rd8 i->i<w5.heap.size/\¬F9 i/\i≠w.heap.size/\i≠w0.heap.size/\i≠w1.heap.size/\i≠w2.heap.size/\i≠w3.heap.size/\True)/\
 (∀nX:World,PM w5 w5 nX->Iter Tryz.prog (v6) nX Rd8 xs7/\aP [a0]/\aP C/\aP D/\EG 0 F9 (0) (0) (0) (0) (0) (0) false nX)/\
 (∀(n61:Nat)(F62:Nat->Prop)(aF1:Nat->Value)(KX A8 rO yt yz A9:Int)(b70:Bool)(Ba Dw KU OS KY OT:Int)(uk:World),xs7[n61]? =some [.agg #[.int .i64 Ba,.int .i64 Dw,.int .i64 KU,.int .i64 OS,.int .i64 KY,.int .i64 OT]]->EG n61 F62 KX A8 rO yt yz A9 b70 uk->
 Aw uk A 184 λKV=>
 Sw KV uk #[Ba,Dw,KU,OS,KY,OT] λJh=>
 Below uk uk Jh/\∀wu:World,Rec (w5.heap.size+1) Jh wu->EG n61 F62 KX A8 rO yt yz A9 b70 wu->
 bu Tryz.prog a0 [.agg #[Ba,Dw,KU]] wu (Ri λEt wx=>K6 w w0 w1 w2 w3 uk wu wx (
 ae 253 #[Et] wx (Rb λb84 w83=>K6 w w0 w1 w2 w3 uk wx w83 (
 Br (!b84)
 (Sw w83 uk #[Ba,Dw,KU,Et,KY,OT] λw85=>
 Sw w85 w2 #[Ba,Dw,KU,Et,KY,OT] λw86=>
 Sw w86 w3 #[true] λIh=>
 true=true/\∃F88:Nat->Prop,(aP [a0]/\aP C/\aP D/\X11 none F88 Ba Dw KU Et KY OT true Ih)/\Step (λi=>(F62 i\/i ∈ Aa)\/uk.heap.size<=i) (λi=>F88 i\/i ∈ Aa) wu Ih)
 (∃F89:Nat->Prop,(aP [a0]/\aP C/\aP D/\EG (n61+1) F89 KX A8 rO yt yz A9 b70 w83)/\Step (λi=>(F62 i\/i ∈ Aa)\/uk.heap.size<=i) (λi=>F89 i\/i ∈ Aa) wu w83))))))/\
 (∀(F90:Nat->Prop)(ax1:Nat->Value)(Ta Wa x94 Wb Wc KW:Int)(b98:Bool)(Ic:World),EG xs7.length F90 Ta Wa x94 Wb Wc KW b98 Ic->Ic.heap[w5.heap.size]? =some B->
 Sw Ic w2 A λtg=>
 Sw tg w3 #[false] λJj=>
 Jj.heap[w5.heap.size]? =some B/\∀aoP:World,Rec w5 Jj aoP->
 R (eV #[.agg A,false]) aoP)/\
 (∀(ayO:Nat->Prop)(aCT:Nat->Value)(Ev Ji Ew Th rF lR:Int)(asM:Bool)(Bc:World),X11 none ayO Ev Ji Ew Th rF lR asM Bc->Bc.heap[w5.heap.size]? =some B->
 Bc.heap[w5.heap.size]? =some B/\∀Wp:World,Rec w5 Bc Wp->
 R (eV #[.agg #[Ev,Ji,Ew,Th,rF,lR],asM]) Wp)))) ([w.heap.size,w0.heap.size,w1.heap.size,w2.heap.size,w3.heap.size]:List Nat))) #[ai,ai,ai,ai,ai,ai] (.deferred (some [])) [aG,aH,aS] [gu,gw,fB]):ae 191 #[a0,.agg #[aG,aH,aS],.agg #[gu,gw,fB],a3] w R:=
 cq ⟨[],[],[(3,⟨[],[(3,[.int .i64,.int .i64,.int .i64,.int .i64,.int .i64,.int .i64]),(4,[.bool])],[]⟩,[.agg [.int .i64,.int .i64,.int .i64,.int .i64,.int .i64,.int .i64]])]⟩ func191 h
def U3.vc(h:(λA=>
 Aw w #[aM,aL,aR,cV,cZ,du] 184 λw0=>
 Aw w0 A 23 λw1=>
 Br (cZ<0)
 (Sw w1 w0 A λw2=>
 R (eV #[.agg A,false]) w2)
 (Br (cZ>=6)
 (Sw w1 w0 A λw3=>
 R (eV #[.agg A,false]) w3)
 (ae 221 #[.agg #[aM,aL,aR]] w1.drew (P7 λx5 x6 x7 x8 x9 bM bR cw cN cY dm dz dS de dR fk fj gI w4=>K2 w w0 w1.drew w4 (
 ah w4 (jS w 4) 0 [cZ]/\((0:Int)<=cZ/\cZ<((6:Nat):Int))/\∃(im jR gM:Int),(([x5,x6,x7,x8,x9,bM,bR,cw,cN,cY,dm,dz,dS,de,dR,fk,fj,gI]:LV).drop ((cZ:Int).toNat*3)).take 3=[.int .i64 im,.int .i64 jR,.int .i64 gM]/\
 Sw w4 w0 #[im,jR,gM] λlQ=>
 R (eV #[.agg #[im,jR,gM],true]) lQ))))) #[ai,ai,ai]):ae 190 #[.agg #[aM,aL,aR,cV,cZ,du]] w R:=
 cq bD func190 h
def IP.vc{gG:Bool}(h:
 Aw w #[aM,aL,aR,cV,cZ,du,iO,iF,gG] 75 λw0=>
 Aw w0 #[ai,ai,ai] 73 λw1=>
 ae 206 #[.agg #[aM,aL,aR],.agg #[ai,(aC (Int.tdiv (aC (iF*4)) 5)),ai]] w1 (mh λx3 x4 x5 w2=>K2 w w0 w1 w2 (
 Sw w2 w0 #[x3,x4,x5] λw6=>
 R (tZ #[x3,x4,x5]) w6))):ae 192 #[.agg #[aM,aL,aR,cV,cZ,du,iO,iF,gG]] w R:=
 cq bD func192 h
def adF.vc(h:(λ(A:Array Value)(B:Array Value) C=>
 Aw w #[aM,aL,aR] 23 λw0=>(λAa=>
 Aw w0 #[ai,ai,ai,ai,ai,ai] 202 λw1=>
 (ae 213 #[aM] w1.drew (Ri λx3 w2=>Aa w1.drew w2 (
 ah w2 C 0 [aR]/\ah w2 (jS w 1) 0 [aL]/\(ae 213 #[aL] w2 (Ri λx5 w4=>Aa w2 w4 (
 ah w4 C 0 [aR]/\(ae 213 #[aR] w4 (Ri λx7 w6=>(λ(Ab:Array Value) Ac=>Aa w4 w6 (
 (Aw w6 B 73 λw8=>
 Sw w8 w6 #[x3,x5,x7] λw9=>
 ae 206 Ab w9.drew (mh λbR cw cN bc=>Ac w9.drew bc (
 ah bc (aB w6) 0 [x3,x5,x7]/\Sw bc w0 #[x3,x5,x7,bR,cw,cN] λcu=>
 R (tZ #[x3,x5,x7,bR,cw,cN]) cu)))/\(Aw w6 B 73 λdj=>
 Sw dj w6 #[x3,x5,x7] λcp=>
 ae 206 Ab cp.drew (mh λde dR fk cM=>Ac cp.drew cM (
 ah cM (aB w6) 0 [x3,x5,x7]/\Sw cM w0 #[x3,x5,x7,de,dR,fk] λcX=>
 R (tZ #[x3,x5,x7,de,dR,fk]) cX))))) #[.agg #[x3,x5,x7],.agg A] (K3 w w0 w6)))/\(Aw w4 B 73 λdt=>
 ae 213 #[aR] dt (Ri λjR je=>K3 w w0 w4 dt je (
 Sw je w4 #[x3,x5,jR] λdL=>
 ae 206 #[.agg #[x3,x5,jR],.agg A] dL.drew (mh λjH rI kK lQ=>K3 w w0 w4 dL.drew lQ (
 ah lQ (aB w4) 0 [x3,x5,jR]/\Sw lQ w0 #[x3,x5,jR,jH,rI,kK] λpN=>
 R (tZ #[x3,x5,jR,jH,rI,kK]) pN))))))))/\(Aw w2 B 73 λik=>
 ae 213 #[aL] ik (Ri λgO uu=>K3 w w0 w2 ik uu (
 ah uu C 0 [aR]/\ae 213 #[aR] uu (Ri λpG ky=>K3 w w0 w2 uu ky (
 Sw ky w2 #[x3,gO,pG] λox=>
 ae 206 #[.agg #[x3,gO,pG],.agg A] ox.drew (mh λnI rD rK jJ=>K3 w w0 w2 ox.drew jJ (
 ah jJ (aB w2) 0 [x3,gO,pG]/\Sw jJ w0 #[x3,gO,pG,nI,rD,rK] λkN=>
 R (tZ #[x3,gO,pG,nI,rD,rK]) kN))))))))))/\(Aw w1.drew B 73 λpF=>
 ae 213 #[aM] pF (Ri λrE iS=>Aa pF iS (
 oC w1 pF iS/\
 ah iS C 0 [aR]/\ah iS (jS w 1) 0 [aL]/\ae 213 #[aL] iS (Ri λpQ yI=>Aa iS yI (
 oC w1 iS yI/\
 ah yI C 0 [aR]/\ae 213 #[aR] yI (Ri λKQ oK=>Aa yI oK (
 oC w1 yI oK/\
 Sw oK w1.drew.heap.size #[rE,pQ,KQ] λnH=>
 ae 206 #[.agg #[rE,pQ,KQ],.agg A] nH.drew (mh λyK wm nZ yL=>Aa nH.drew yL (
 yL.heap[w1.drew.heap.size]? =nH.drew.heap[w1.drew.heap.size]?/\
 ah yL (aB w1.drew.heap.size) 0 [rE,pQ,KQ]/\Sw yL w0 #[rE,pQ,KQ,yK,wm,nZ] λw54=>
 R (tZ #[rE,pQ,KQ,yK,wm,nZ]) w54)))))))))) (K2 w w0)) #[(65536:Int),(65536:Int),(65536:Int)] #[ai,ai,ai] (jS w 2)):ae 145 #[.agg #[aM,aL,aR]] w R:=
 cq bD func145 h
def uY.vc{a0:Addr}{c0:Addr}(h:
 jW w.drew (ab (some a0) 0) λx0 x1 x2 x3 x4 x5 x6 x7 b8=>
 CZ w.drew (some c0) λx9 bM bR cw cN cY=>
 ae 149 #[.agg #[x0,x1,x2,x3,x4,x5,x6,x7,b8]] w.drew (ame λdz dS de dR fk fj dj=>ah dj (some c0) 0 [x9,bM,bR,cw,cN,cY]/\ae 148 #[.agg #[dz,dS,de,dR,fk,fj],.agg #[x9,bM,bR,cw,cN,cY]] dj (CP λb23 dt=>R b23 dt))):ae 147 #[a0,c0] w R:=
 cq bD func147 h
def qG.vc{a0:Sl}{a1:Value}(h:
 ae 214 #[a0,a1] w (gk λx1 w0=>R (Ix (decide (x1>=0))) w0)):ae 146 #[a0,a1] w R:=
 cq bD func146 h
def xD.vc{a0:Addr}(h:
 Aw w #[aG,aH,aS] 23 λw0=>
 ae 145 #[.agg #[aG,aH,aS]] w0 (CY λx2 x3 x4 x5 x6 x7 w1=>Kp w w0 w1/\
 Aw w1 #[ai,ai,ai,ai,ai,ai] 202 λw8=>
 Sw w8 w1 #[x2,x3,x4,x5,x6,x7] λw9=>
 ae 146 #[.slice (aE (ab (some a0) 1) (0) (16) 1) (16-0) (16-0),.func (.func 147) #[] #[.pointer (aB w1)]] w9 (Rb λb11 bc=>Kp w w9 bc/\
 R b11 bc))):ae 84 #[a0,.agg #[aG,aH,aS]] w R:=
 cq bD func84 h
def xM.vc{a0:Addr}(h:(λ(A:Array Value)(B:LV)(C:Array Value) D E G=>
 Aw w C 73 λw0=>(λAa=>
 Aw w0 A 184 λw1=>
 ae 76 #[a0,a1] w1 (tR λp3 w2=>Aa w1 w2 (
 Br (p3).isNone
 (Sw w2 w0 A λw4=>
 R (eV #[.agg A,(6:Int)]) w4)
 (aN (eI p3) (aN (eI p3) (jW w2.drew (ab p3 0) λx5 x6 x7 x8 x9 bM bR cw KO=>(λ(Ab:Array Value)(Ac:LV)=>
 (ae 81 #[a0] w2.drew (Rv λv15 cu=>Aa w2.drew cu (
 ah cu w 0 B/\ah cu (ab p3 0) 0 Ac/\(ae 192 Ab cu (mh λdS de dR cp=>(λ(Ad:Array Value)=>Aa cu cp (
 ah cp w 0 B/\(ae 191 Ad cp (Mh λfj gI im jR gM nY X9 fw=>(λ(Ae:Array Value)=>Aa cp fw (
 Aw fw A 184 λjI=>
 Sw jI fw Ae λgz=>
 Br (!X9)
 (Sw gz w0 A λpN=>
 R (eV #[.agg A,D]) pN)
 (Br (jR==(-1))
 (Sw gz w0 A λik=>
 R (eV #[.agg A,E]) ik)
 (Sw gz w0 Ae λuu=>
 R (eV #[.agg Ae,G]) uu)))) #[fj,gI,im,jR,gM,nY]))/\(Aw cp A 184 λjZ=>
 ae 191 Ad jZ (Mh λpG pP mQ nI rD rK b41 ky=>(λ(Af:Array Value)=>K3 w w0 cp jZ ky (
 Sw ky cp Af λpF=>
 Br (!b41)
 (Sw pF w0 A λiS=>
 R (eV #[.agg A,D]) iS)
 (Br (nI==(-1))
 (Sw pF w0 A λkh=>
 R (eV #[.agg A,E]) kh)
 (Sw pF w0 Af λyI=>
 R (eV #[.agg Af,G]) yI)))) #[pG,pP,mQ,nI,rD,rK])))) #[v15,.agg #[dS,de,dR],.agg C,(5:Int)]))/\(Aw cu A 184 λIg=>
 ae 192 Ab Ig (mh λKQ TS Fb oK=>K3 w w0 cu Ig oK (
 ah oK w 0 B/\ae 191 #[v15,.agg #[KQ,TS,Fb],.agg C,(5:Int)] oK (Mh λwm nZ CF vR OP Jk b58 w51=>(λ(Ag:Array Value)=>K3 w w0 cu oK w51 (
 Sw w51 cu Ag λpR=>
 Br (!b58)
 (Sw pR w0 A λnX=>
 R (eV #[.agg A,D]) nX)
 (Br (vR==(-1))
 (Sw pR w0 A λvv=>
 R (eV #[.agg A,E]) vv)
 (Sw pR w0 Ag λkz=>
 R (eV #[.agg Ag,G]) kz)))) #[wm,nZ,CF,vR,OP,Jk])))))))/\(Aw w2.drew A 184 λOg=>
 ae 81 #[a0] Og (Rv λv65 Js=>Aa Og Js (
 oC w2 Og Js/\
 ah Js w 0 B/\ah Js (ab p3 0) 0 Ac/\ae 192 Ab Js (mh λyt yz A9 yy=>Aa Js yy (
 oC w2 Js yy/\
 ah yy w 0 B/\ae 191 #[v65,.agg #[yt,yz,A9],.agg C,(5:Int)] yy (Mh λBa Dw KU OS KY OT b77 yM=>(λ(Ah:Array Value)=>Aa yy yM (
 oC w2 yy yM/\
 Sw yM w2.drew.heap.size Ah λwu=>
 Br (!b77)
 (Sw wu w0 A λKV=>
 R (eV #[.agg A,D]) KV)
 (Br (OS==(-1))
 (Sw wu w0 A λJh=>
 R (eV #[.agg A,E]) Jh)
 (Sw wu w0 Ah λwx=>
 R (eV #[.agg Ah,G]) wx)))) #[Ba,Dw,KU,OS,KY,OT]))))))) #[.agg #[x5,x6,x7,x8,x9,bM,bR,cw,KO]] [x5,x6,x7,x8,x9,bM,bR,cw,KO])))))) (K2 w w0)) #[ai,ai,ai,ai,ai,ai] [gu,gw,fB] #[gu,gw,fB] (13:Int) (11:Int) (0:Int)):ae 131 #[a0,a1,.agg #[gu,gw,fB]] w R:=
 cq bD func131 h
def xN.vc{a0:Addr}(h:(λA B=>
 Aw w A 23 λw0=>
 ae 187 #[a2] w0 (Rb λb2 w1=>Kp w w0 w1/\
 Br b2
 (ae 84 #[a0,.agg A] w1 (Rb λb4 w3=>Kp w w1 w3/\
 Br b4
 (R (12:Int) w3)
 (fu w3.drew B λp5=>
 ae 188 #[p5,.agg A,a2] w3.drew (Ri λx7 w6=>Kp w w3.drew w6/\
 R x7 w6))))
 (fu w1.drew B λp8=>
 ae 188 #[p8,.agg A,a2] w1.drew (Ri λbM w9=>Kp w w1.drew w9/\
 R bM w9)))) #[aG,aH,aS] (ab (some a0) 0)):ae 126 #[a0,.agg #[aG,aH,aS],a2] w R:=
 cq bD func126 h
def vY.vc{a0:Addr}(h:
 Aw w #[gu,gw,fB] 73 λw0=>
 ae 131 #[a0,a1,.agg #[gu,gw,fB]] w0 (aia λx2 x3 x4 x5 x6 x7 x8 w1=>Kp w w0 w1/\
 Aw w1 #[ai,ai,ai,ai,ai,ai] 184 λw9=>
 Sw w9 w1 #[x2,x3,x4,x5,x6,x7] λbc=>
 Br (x8==6)
 (R x8 bc)
 (ae 189 #[a3] bc (Rb λb12 bB=>K2 w w1 bc bB (
 Br (!b12)
 (R (1:Int) bB)
 (Br (a3==0)
 (R (1:Int) bB)
 (Br (x8 !=0)
 (R x8 bB)
 (ae 190 #[.agg #[x2,x3,x4,x5,x6,x7]] bB (al8 λcY dm dz b17 bw=>K2 w w1 bB bw (
 Aw bw #[ai,ai,ai] 23 λdN=>
 Sw dN bw #[cY,dm,dz] λeQ=>
 Br (!b17)
 (R (12:Int) eQ)
 (ae 126 #[a0,.agg #[cY,dm,dz],a3] eQ (Ri λfj fw=>K3 w w1 bw eQ fw (
 R fj fw))))))))))))):ae 127 #[a0,a1,.agg #[gu,gw,fB],a3] w R:=
 cq bD func127 h
def vZ.vc{a0:Addr}(h:
 Aw w #[gu,gw,fB] 73 λw0=>
 ae 131 #[a0,a1,.agg #[gu,gw,fB]] w0 (aia λx2 x3 x4 x5 x6 x7 x8 w1=>Kp w w0 w1/\
 Aw w1 #[ai,ai,ai,ai,ai,ai] 184 λw9=>
 Sw w9 w1 #[x2,x3,x4,x5,x6,x7] λbc=>
 Br (x8==0)
 (ae 126 #[a0,.agg #[x2,x3,x4],(0:Int)] bc (Ri λcw bB=>K2 w w1 bc bB (
 Br (cw !=0)
 (R (eV #[ai,cw]) bB)
 (R (eV #[x5,ai]) bB))))
 (Br (x8 !=0)
 (R (eV #[ai,x8]) bc)
 (R (eV #[x5,ai]) bc)))):ae 129 #[a0,a1,.agg #[gu,gw,fB]] w R:=
 cq bD func129 h
def xO.vc{a0:Addr}{fB:Bool}(h:
 Aw w #[gu,gw,fB] 101 λw0=>
 ae 76 #[a0,a1] w0 (tR λp2 w1=>(λAa=>Kp w w0 w1/\
 Br (p2).isNone
 (R (6:Int) w1)
 (aN (eI p2) (aN (eI p2) (((Aa).isSome=true/\Wr w1 Aa 3)/\bN Aa≠some w.heap.size/\(Pw w1 Aa [gu,gw,fB] λw3=>
 R (0:Int) w3))))) (ab p2 9))):ae 133 #[a0,a1,.agg #[gu,gw,fB]] w R:=
 cq bD func133 h
def xP.vc{a0:Addr}(h:(λA=>
 Aw w A 75 λw0=>
 ae 76 #[a0,a1] w0 (tR λp2 w1=>Kp w w0 w1/\
 Br (p2).isNone
 (Sw w1 w A λw3=>
 R (eV #[.agg A,false]) w3)
 (aN (eI p2) (aN (eI p2) (jW w1 (ab p2 0) λx4 x5 x6 x7 x8 x9 bM bR b12=>(λAa=>
 Sw w1 w Aa λbw=>
 R (eV #[.agg Aa,true]) bw) #[x4,x5,x6,x7,x8,x9,bM,bR,b12]))))) #[ai,ai,ai,ai,ai,ai,ai,ai,false]):ae 47 #[a0,a1] w R:=
 cq bD func47 h
def xK.vc{a0:Addr}(h:(λA=>
 ∃(p0 p1 p2 p3 p4 p5 p6 p7 p8 p9 Jt Ik yE p13 Tw p15:Option Addr),ah w (ab (some a0) 1) 0 [.pointer p0,p1,p2,p3,p4,p5,p6,p7,p8,p9,Jt,Ik,yE,p13,Tw,p15]/\
 po (λI16 n17=>I16 n17 (0) ⟨none,0,0⟩ w) λI16 n17 ayP dR xg cX=>(λAa=>
 Br (dR<16)
 (((0:Int)<=dR/\dR<((16:Nat):Int))/\∃(Tu:Option Addr),([.pointer p0,p1,p2,p3,p4,p5,p6,p7,p8,p9,Jt,Ik,yE,p13,Tw,p15]:LV)[(dR:Int).toNat*1]? =some (.pointer Tu)/\
 Br (!(Tu).isNone)
 (aN (eI Tu) (aN (eI Tu) (jW cX (ab Tu 0) λjR gM nY jH rI kK tM oU b32=>
 ae 79 #[a0,.agg #[jR,gM,nY,jH,rI,kK,tM,oU,b32]] cX (CP λb34 jZ=>Br b34
 (Aw jZ #[Tu] 61 λiI=>
 aY 8 1 iI xg 1 [.pointer Tu]/\∀(s36:Sl)(jJ:World),aT 61 1 iI xg 1 [.pointer Tu] s36 jJ->Kp jZ iI jJ/\
 ∃n22,n22<n17/\I16 n22 Aa s36 jJ)
 (∃n22,n22<n17/\I16 n22 Aa xg jZ)))))
 (∃n22,n22<n17/\I16 n22 Aa xg cX))
 (po (λI38 n39=>I38 n39 (0) ⟨none,0,0⟩ cX) λI38 n39 aF5 lO s42 iS=>
 Br (decide (lO<((xg.n:Nat):Int)))
 (gJ xg.a lO xg.n/\fu iS (ab xg.a ((lO:Int).toNat*1)) λp45=>
 aN (eI p45) (aN (eI p45) (jW iS.drew (ab p45 0) λpQ Fa KQ TS Fb yK wm nZ b54=>
 aN (eI p45) (aN (eI p45) (∃(vR OP:Int)(b57:Bool),ah iS.drew (ab p45 9) 0 [vR,OP,b57]/\
 ae 81 #[a0] iS.drew (II λv59 CD=>ah CD (ab p45 9) 0 [vR,OP,b57]/\ah CD (ab p45 0) 0 [pQ,Fa,KQ,TS,Fb,yK,wm,nZ,b54]/\ae 80 #[.agg #[pQ,Fa,KQ,TS,Fb,yK,wm,nZ,b54],v59,.agg #[vR,OP,b57]] CD (ahL λKS rJ Bj KX A8 rO yt yz b69 nX=>(λAb=>Aw nX #[KS,rJ,Bj,KX,A8,rO,yt,yz,b69] 75 λyM=>
 aY 72 9 yM s42 1 Ab/\∀(s71:Sl)(w72:World),aT 75 9 yM s42 1 Ab s71 w72->Kp nX yM w72/\
 ∃n44,n44<n39/\I38 n44 ((aC (lO+1))) s71 w72) [KS,rJ,Bj,KX,A8,rO,yt,yz,b69])))))))
 (ae 81 #[a0] iS (II λv74 Jl=>ae 82 #[v74,s42] Jl (rZ λs76 ur=>uo (λI77 n78=>I77 n78 (0) ur) λI77 n78 ayT Oj wx=>
 Br (decide (Oj<((s76.n:Nat):Int)))
 (gJ s76.a Oj s76.n/\jW wx (ab s76.a ((Oj:Int).toNat*9)) λOR TR x85 x86 xf x88 x89 x90 b91=>
 Aw wx #[ai,ai,ai,ai,ai,ai,ai,ai,false] 75 λw92=>
 Sw w92 wx #[OR,TR,x85,x86,xf,x88,x89,x90,b91] λKZ=>
 gJ xg.a Oj xg.n/\fu KZ.drew (ab xg.a ((Oj:Int).toNat*1)) λp94=>(λAc=>
 aN (eI p94) (aN (eI p94) (((Ac).isSome=true/\Wr KZ.drew Ac 9)/\bN Ac≠some wx.heap.size/\(Pw KZ.drew Ac [OR,TR,x85,x86,xf,x88,x89,x90,b91] λw95=>
 ∃n82,n82<n78/\I77 n82 ((aC (Oj+1))) w95)))) (ab p94 0))
 (fu wx A λp96=>
 ae 83 #[p96,.func (.func 84) #[a0] #[]] wx (Rt λw97=>fu w97 A λp98=>
 ae 85 #[p98] w97 (gk λBe Ic=>R Be Ic)))))))) ((aC (dR+1)))) (ab (some a0) 0)):ae 50 #[a0] w R:=
 cq ⟨[(15,⟨[(59,.int .i64)],[],[]⟩),(10,⟨[(35,.int .i64),(4,.slice)],[],[]⟩),(4,⟨[(15,.int .i64),(3,.slice)],[],[]⟩)],[],[]⟩ func50 h
def eP(v:Ce):Ce:=Gh (λ_ n=>dG n) v
def aaC(v:Ce)(w:World):eU 310 #[gg v] w ((gg (eP v))):=by
 apply ah7.vc;intro w0 e0 w1 e1;have x0:=aV e0;have z0:=zA e0;have x1:=aV e1;have z1:=zA e1;refine (vP (λ_ n=>dG n) v (.func (.func 353) #[] #[]) w1 λw' x' i x _ _=>bV (by kernel_rfl) rfl (Zt.vc ((ic x w').mono ?_))).mono ?_
 ·rintro e w2 ⟨rfl,rfl⟩;exact ⟨_,rfl,rfl,Ext.bU _⟩
 rintro e w2 ⟨rfl,x2⟩;have z2:=x2.size;exact ⟨_,_,_,rfl,x2.heap aa,x2.heap aa,λw6 e6=>⟨rfl,(x0.tr (x1.tr x2)).af e6 aa⟩⟩
def wT(n:Int):Int:=min (max n (-1048576)) 1048576
def amW(n:Int):(if 1048576<(if (-1048576)>n then (-1048576) else n) then 1048576 else (if (-1048576)>n then (-1048576) else n))=wT n:=by
 unfold wT
 repeat' split
 all_goals omega
def ym(n:Int)(w:World):kT 354 #[n] w (Value.int .i64 (wT n)):=by apply Zu.vc;exact ⟨by rw [amW],rfl⟩
def kf(v:Ce):Ce:=(wT v.1,wT v.2.1,wT v.2.2)
def aaD(v:Ce)(w:World):eU 311 #[gg v] w ((gg (kf v))):=by apply ah8.vc;intro w0 e0 w1 e1;have x0:=aV e0;have z0:=zA e0;have r0:Row w0 w (eZ v) iz:=Row.nw e0;have x1:Ext w0 w1.drew:=(aV e1).drew;have r1:=r0.ext x1;refine (ym v.1 w1.drew).gK ?_;refine ⟨_,rfl,rfl,rfl,xB r1 rfl,xB r1 rfl,(ym v.2.1 w1.drew).gK ?_⟩;refine ⟨_,rfl,rfl,rfl,xB r1 rfl,(ym v.2.2 w1.drew).gK ?_⟩;exact ⟨_,rfl,rfl,rfl,λw8 e8=>⟨rfl,(x0.tr x1).af e8 aa⟩⟩
abbrev Sd:=Int × Int
def RT(a b:Sd):Bool:=if a.2=0\/b.2=0 then decide (0<a.2) else decide (aC (a.1*b.2)<aC (b.1*a.2))
def RU(a b:Sd)(w:World):eU 315 #[.agg #[a.1,a.2],.agg #[b.1,b.2]] w (Value.bool (RT a b)):=by
 apply U1.vc;intro w0 e0 w1 e1;have x1:Ext w w1:=(aV e0).ba e1;unfold RT;refine Br.mk (λh=>⟨?_,x1⟩) (λh=>Br.mk (λh2=>⟨?_,x1⟩) (λh2=>⟨?_,x1⟩))
 ·rw [if_pos (Or.inl (by simpa using h))]
 ·rw [if_pos (Or.inr (by simpa using h2))]
 ·rw [if_neg (by
   have h1:=fC h;have h3:=fC h2;rintro (h|h)
   ·exact h1 h
   ·exact h3 h)]
def sZ(a b r:Int):Bool:=decide (aC (a-b)<=r) && decide (aC (b-a)<=r)
def yn(a b r:Int){g:Nat}{τ:TypeId}{w:World}(hr:Row w g [r] τ):kT 356 #[a,b,g] w (Value.bool (sZ a b r)):=by apply My.vc;unfold sZ;refine ⟨r,hr.at 0 rfl,Br.mk (λh=>⟨r,hr.at 0 rfl,by rw [h,oZ],rfl⟩) (λh=>⟨by rw [h,C5],rfl⟩)⟩
def mL(a b:Ce)(r:Int):Bool:=sZ a.1 b.1 r &&(sZ a.2.1 b.2.1 r && sZ a.2.2 b.2.2 r)
def Ns(a b:Ce)(r:Int)(w:World):eU 314 #[gg a,gg b,r] w (Value.bool (mL a b r)):=by apply U2.vc;intro w0 e0 w1 e1 w2 e2;have x2:Ext w w2:=((aV e0).ba e1).ba e2;have r2:∃τ,Row w2 w1 [r] τ:=⟨_,by rw [e2];exact Row.new w1 [_] _⟩;obtain ⟨τ,r2⟩:=r2;unfold mL;refine (yn a.1 b.1 r r2).gK ?_;refine ⟨_,rfl,rfl,rfl,Br.mk (λh=>(yn a.2.1 b.2.1 r r2).mono ?_) (λh=>⟨by rw [h,C5],x2⟩)⟩;rintro e w5 ⟨rfl,rfl⟩;refine ⟨_,rfl,rfl,rfl,Br.mk (λh2=>(yn a.2.2 b.2.2 r r2).mono ?_) (λh2=>⟨by rw [h,h2];rfl,x2⟩)⟩;rintro e w7 ⟨rfl,rfl⟩;exact ⟨_,rfl,rfl,rfl,by rw [h,h2,oZ,oZ],x2⟩
def aeD(a b:Int)(ha:0<=a/\a<=1000000000)(hb:0<b/\b<=1048576)(w:World):eU 316 #[a,b] w (Value.tuple #[.int .i64 (a*65536 / b),ai]):=by
 apply Zw.vc;refine (vI a w).mono ?_;rintro e w0 ⟨rfl,rfl⟩;have ca:dG a=a:=oE aa;have cb:dG b=b:=oE aa;rw [ca];refine ⟨_,_,rfl,(vI b w0).mono ?_⟩;rintro e w3 ⟨rfl,rfl⟩;rw [cb];have aBg:(2 ^(min (16:Int).toNat 64):Int)=65536:=by decide
 have ma:max a (-a)=a:=by omega
 have mb:max b (-b)=b:=by omega
 rw [ma,mb];have na:decide (a<0)=false:=by simpa using ha.1
 have nb:decide (b<0)=false:=by simpa using Int.le_of_lt hb.1
 refine ⟨_,_,rfl,Br.mk (λh=>absurd (by simpa using h:b=0) aa) (λh=> ?_)⟩;have hn0:∀q ∈ nzC b,q:=λq hq=>by
  unfold nzC at hq;rw [if_neg aa] at hq
  cases hq
 rw [aBg,xE (n:=a*65536) aa,na,nb];have hd:Int.tdiv (a*65536) b=a*65536 / b:=uO aa;have h1:0<=a*65536 / b:=Int.ediv_nonneg aa aa;have h2:a*65536 / b<=a*65536:=Int.ediv_le_self _ aa;rw [hd,xE (n:=a*65536 / b) aa];refine bT.2 ⟨hn0,bT.2 ⟨hn0,(Gl (a*65536 / b) aa _ _ w3.drew).mono ?_⟩⟩;rintro e w6 ⟨rfl,x6⟩;exact ⟨_,rfl,rfl,(Ext.dr _).tr x6⟩
def aii{w:World}{g:Nat}{cs:LV}{E:TypeId}(hr:Row w g cs E){j:Nat}{a b:Value}(hj:j+2<=cs.length)(ha:a.oneCell'=true)(hb:b.oneCell'=true):
  Wr w (ab (aB g) j) 2/\∀w',w'=Vc.bC w (ab (aB g) j) [a,b]->Row w' g ((cs.set j a).set (j+1) b) E/\Mod (λi=>i=g) w w':=by
 rw [aF,eK];have h1:One [a,b]:=by
  intro u hu;simp at hu;rcases hu with rfl|rfl
  ·exact ha
  ·exact hb
 refine ⟨hr.wr hj,λw' e=> ?_⟩;rw [hr.bC (by simpa using hj) h1] at e;subst e;exact ⟨hr.set _,rfl,rfl,rfl,by rw [setRow_size];exact ak _,λi _ hn=>setRow_other _ _ _ _ hn⟩
abbrev S3:=Sd × Sd × Sd
abbrev Eh(s:S3):LV:=[.int .i64 s.1.1,.int .i64 s.1.2,.int .i64 s.2.1.1,.int .i64 s.2.1.2,.int .i64 s.2.2.1,.int .i64 s.2.2.2]
abbrev TK:TypeId:=342
def aeC(s:S3):One (Eh s):=by intro v hv;simp at hv;rcases hv with rfl|rfl|rfl|rfl|rfl|rfl<;>rfl
def yH(f d:Ce)(i:Int):Sd:=if dK d i>0 then (aC (65536-uR (dK f i)),dK d i) else (uR (dK f i),aC (0-dK d i))
def sd3(f d:Ce):Nat->S3
 |0=>((0,0),(0,0),(0,0))
 |1=>(yH f d 0,(0,0),(0,0))
 |2=>(yH f d 0,yH f d 1,(0,0))
 |_=>(yH f d 0,yH f d 1,yH f d 2)
def VF(f d:Ce)(w:World):eU 313 #[gg f,gg d] w (Value.agg (Eh (sd3 f d 3)).toArray):=by
 apply Zv.vc;intro w0 e0 w1 e1 w2 e2 w3 e3;have x0:=aV e0;have z0:=zA e0;have x1:=aV e1;have z1:=zA e1;have r1:Row w1 w0 (eZ d) iz:=Row.nw e1;have x2:=aV e2;have z2:=zA e2;have r2:Row w2 w1 (Eh ((0,0),(0,0),(0,0))) TK:=Row.nw e2;have x3:=aV e3;have z3:=zA e3;have r3:Row w3 w2 (Eh ((0,0),(0,0),(0,0))) TK:=Row.nw e3;have x03:=x0.tr (x1.tr (x2.tr x3));refine ⟨λn x wr=>∃k:Nat,x=k/\k+n=3/\Row wr w2 (Eh (sd3 f d k)) TK/\Row wr w1 (Eh ((0,0),(0,0),(0,0))) TK/\Row wr w0 (eZ d) iz/\Ext w wr,⟨3,rfl,rfl,0,rfl,rfl,r3,r2.ext x3,r1.ext (x2.tr x3),x03⟩,?_⟩;rintro n us x w8 ⟨k,rfl,hk,rl,ro,rd,xr⟩;have zl:=rl.lt;apply Br.mk<;>intro hc
 ·have hc:=fC hc;have HV:k=0\/k=1\/k=2:=by omega
  have wk:=nJ (j:=k);have xd:=Ext.dr w8;have zd:=oa w8;refine (c9 f k w8.drew).bj λbc bM=> ?_
  have z10:=bM.size;refine ⟨_,rfl,bM.heap aa,bM.heap aa,Lo.wv (rd.ext (xd.tr bM)),(c9 d k bc).bj λbO cw=> ?_⟩;have z12:=cw.size;have Wy:=xd.tr (bM.tr cw);refine ⟨_,rfl,cw.heap aa,cw.heap aa,(BG (dK f k) bO).gK ?_⟩;obtain ⟨p1,p2⟩:=aii (rl.ext Wy) (j:=(k:Int).toNat*2) (a:=.int .i64 (uR (dK f k))) (b:=.int .i64 (aC (0-dK d k))) (by show _<=6;omega) rfl rfl;refine ⟨_,rfl,rfl,rfl,aa,aa,⟨rfl,p1⟩,qE aa,qE aa,λcp CE=> ?_⟩;obtain ⟨q1,q2⟩:=p2 cp CE;have z16:=q2.size;have atQ:Ext w cp:=q2.ext (xr.tr Wy) λi hi=>by omega
  have apm:=(ro.ext Wy).same (q2.same _ (ro.ext Wy).lt aa);have Oq:=(rd.ext Wy).same (q2.same _ (rd.ext Wy).lt aa);refine Br.mk (λhq=>(BG (dK f k) cp).mono ?_) (λhq=>⟨n-1,aa,rfl,rfl,k+1,wk,aa,?_,apm,Oq,atQ⟩)
  ·rintro e cM ⟨rfl,rfl⟩;obtain ⟨p3,p4⟩:=aii q1 (j:=(k:Int).toNat*2) (a:=.int .i64 (aC (65536-uR (dK f k)))) (b:=.int .i64 (dK d k)) (by rw [lU,lU];show _<=6;omega) rfl rfl;refine ⟨_,rfl,rfl,rfl,aa,aa,⟨rfl,p3⟩,qE aa,qE aa,λeQ S8=> ?_⟩;obtain ⟨q3,q4⟩:=p4 eQ S8;have hq:=fC hq;have hs:yH f d k=(aC (65536-uR (dK f k)),dK d k):=by unfold yH;rw [if_pos hq]
   refine ⟨n-1,aa,rfl,rfl,k+1,wk,aa,?_,apm.same (q4.same _ apm.lt aa),Oq.same (q4.same _ Oq.lt aa),q4.ext atQ λi hi=>by omega⟩;rcases HV with rfl|rfl|rfl
   ·have hs:yH f d 0=_:=hs;show Row eQ _ (Eh (yH f d 0,(0,0),(0,0))) TK;rw [hs];exact q3
   ·have hs:yH f d 1=_:=hs;show Row eQ _ (Eh (yH f d 0,yH f d 1,(0,0))) TK;rw [hs];exact q3
   ·have hs:yH f d 2=_:=hs;show Row eQ _ (Eh (yH f d 0,yH f d 1,yH f d 2)) TK;rw [hs];exact q3
  ·have hq:=fC hq;have hs:yH f d k=(uR (dK f k),aC (0-dK d k)):=by unfold yH;rw [if_neg hq]
   rcases HV with rfl|rfl|rfl
   ·have hs:yH f d 0=_:=hs;show Row cp _ (Eh (yH f d 0,(0,0),(0,0))) TK;rw [hs];exact q1
   ·have hs:yH f d 1=_:=hs;show Row cp _ (Eh (yH f d 0,yH f d 1,(0,0))) TK;rw [hs];exact q1
   ·have hs:yH f d 2=_:=hs;show Row cp _ (Eh (yH f d 0,yH f d 1,yH f d 2)) TK;rw [hs];exact q1
 ·have hc:=fC hc;have HV:k=3:=by omega
  subst HV;refine ⟨_,_,_,_,_,_,Lo.wv rl,⟨rfl,ro.wr bo⟩,pK aa,pK aa,λlQ Tx=> ?_⟩;rw [ro.bC (vs:=Eh (sd3 f d 3)) bo (aeC (sd3 f d 3)),dE bo] at Tx;have r26:Row lQ w1 (Eh (sd3 f d 3)) TK:=ro.st Tx;exact ⟨_,_,_,_,_,_,Lo.wv r26,rfl,xr.af Tx aa⟩
end Go.Proofs.YtjcnjlaelhdjeaaGreatDoor
