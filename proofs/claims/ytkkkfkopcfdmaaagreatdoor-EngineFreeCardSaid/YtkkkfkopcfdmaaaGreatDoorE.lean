import Derived.Test.YtkkkfkopcfdmaaaGreatDoorD
import Derived.Test.YtkkkfkopcfdmaaaGreatDoorC
set_option linter.all false
namespace Go.Proofs.YtkkkfkopcfdmaaaGreatDoor
open Go Go.Vc Go.RowKit Go.Proofs Go.dm
abbrev pv(p:Po):Value:=.agg #[p.1,p.2]
abbrev eg(c:Ce):Value:=.agg #[c.1,c.2.1,c.2.2]
abbrev qD:TypeId:=41
abbrev ZQ:TypeId:=40
def vm(a b:Int)(ha:bT a)(hb:0<b)(w:World):ah 192 #[a,b] w λe w'=>e=Value.int .i64 (a / b)/\w'=w:=by
 apply aaB.vc;obtain ⟨h1,h2,h3,h4⟩:=tdm (a:=a) hb;have hq:=UA ha hb;have ht:=UB ha hb;refine Br.mk (λh=> ?_) (λ_=>bD.2 ⟨rM.2 ab,bD.2 ⟨rM.2 ab,Br.mk (λh=> ?_) (λh=> ?_)⟩⟩)
 ·simp only [cX] at h;omega
 ·replace h:=nG h;rw [aM ht,<-(h1 h).1,aM hq];exact ⟨rfl,rfl⟩
 ·replace h:=nT h;rw [aM ht,<-(h2 ab).1];exact ⟨rfl,rfl⟩
def vo(a b:Int)(hb:0<b)(hb':b<=1000000)(w:World):ah 282 #[a,b] w λe w'=>e=Value.int .i64 (a % b)/\w'=w:=by
 apply aaC.vc;obtain ⟨h1,h2,h3,h4⟩:=tdm (a:=a) hb;refine Br.mk (λh=> ?_) (λ_=>bD.2 ⟨rM.2 ab,Br.mk (λh=> ?_) (λh=> ?_)⟩)
 ·simp only [cX] at h;omega
 ·replace h:=nG h;rw [wI,<-(h1 h).2];exact ⟨rfl,rfl⟩
 ·replace h:=nT h;rw [<-(h2 ab).2];exact ⟨rfl,rfl⟩
def Fg(a b:Int)(ha:bT a)(hb:0<b)(w:World):ah 86 #[a,b] w λe w'=>e=Value.int .i64 (a / b)/\w'=w:=by
 apply Wc.vc;obtain ⟨h1,h2,h3,h4⟩:=tdm (a:=a) hb;have hq:=UA ha hb;have ht:=UB ha hb;have hm:b*a.tdiv b+a.tmod b=a:=Int.mul_tdiv_add_tmod a b;have hsg:(0<=a->0<=a.tmod b)/\(a<=0->a.tmod b<=0):=by refine ⟨λh=>Int.tmod_nonneg b h,λh=> ?_⟩;have:=Int.tmod_nonneg (a:= -a) b ab;rw [Int.neg_tmod] at this;omega
 have anL:a.tdiv b*b=a-a.tmod b:=by rw [Int.mul_comm];omega
 have lr:bT (a.tdiv b*b):=by
  rw [anL];unfold bT at*;rcases sX a 0 with h|h
  ·have:=hsg.2 ab;have:=(tdm (a:=a) hb);have hle:a-a.tmod b<=0:=by
    rcases sX 0 (a-a.tmod b) with h5|h5
    ·exfalso;rw [<-anL] at h5;have h6:a.tdiv b<=0:=by have:=Int.tdiv_nonneg (a:= -a) (b:=b) ab ab;rw [Int.neg_tdiv] at this;omega
     have:=Int.mul_nonpos_of_nonpos_of_nonneg h6 (by omega:0<=b);omega
    ·exact h5
   omega
  ·have:=hsg.1 h;have h6:0<=a.tdiv b:=Int.tdiv_nonneg h ab;have:=Fh h6 (by omega:0<=b);omega
 rw [aM ht,aM lr];refine bD.2 ⟨rM.2 ab,Br.mk (λh=> ?_) (λh=> ?_)⟩
 ·simp only [cX,gt_iff_lt] at h;rw [<-(h1 ab).1,aM hq];exact ⟨rfl,rfl⟩
 ·simp only [fk,gt_iff_lt] at h;rw [<-(h2 ab).1];exact ⟨rfl,rfl⟩
def qC(c:Ce):Prop:=bT c.1/\bT c.2.1/\bT c.2.2
def CD(c:Ce)(w:World):ah 255 #[eg c] w λe w'=>(∃i b,e=Value.tuple #[.int .i64 i,.bool b]/\((b=true/\Eo c/\i=idx c)\/(b=false/\¬Eo c/\i=0)))/\Ext w w':=by
 apply RB.vc;intro w0 e0;have x0:=aT e0;have hb:Row w0 w [c.1,c.2.1,c.2.2] qD:=Row.nw e0;have yt:=hb.ext (Ext.dr w0);refine Br.mk (λh=> ?_) (λh=>Br.mk (λh2=> ?_) (λh2=> ?_))<;>simp only [cX,fk] at*
 ·exact ⟨⟨_,_,rfl,.inr ⟨rfl,by unfold Eo;omega,rfl⟩⟩,x0⟩
 ·exact ⟨⟨_,_,rfl,.inr ⟨rfl,by unfold Eo;omega,rfl⟩⟩,x0⟩
 ·refine (vo c.2.2 16 aG aG w0.drew).mono ?_;rintro e w1 ⟨rfl,rfl⟩;refine ⟨_,rfl,rfl,yt.cg (λj hj=>by simp at hj;subst hj;rfl),yt.cg (λj hj=>by simp at hj;subst hj;rfl),(vo c.1 16 aG aG _).mono ?_⟩;rintro e w1 ⟨rfl,rfl⟩;have e1:ak (c.2.1*16)=c.2.1*16:=wI;have e2:ak (c.2.1*16+c.2.2 % 16)=c.2.1*16+c.2.2 % 16:=wI;have e3:ak ((c.2.1*16+c.2.2 % 16)*16)=(c.2.1*16+c.2.2 % 16)*16:=wI;have e4:ak ((c.2.1*16+c.2.2 % 16)*16+c.1 % 16)=idx c:=wI;refine ⟨_,rfl,rfl,yt.cg (λj hj=>by simp at hj;subst hj;rfl),?_,x0.drew⟩;rw [e1,e2,e3,e4];exact ⟨_,_,rfl,.inl ⟨rfl,by unfold Eo;omega,rfl⟩⟩
def pY(c:Ce)(hc:qC c)(w:World):ah 139 #[eg c] w λe w'=>e=(pv (pos c))/\Ext w w':=by apply RC.vc;intro w0 e0 w1 e1;have x1:Ext w w1.drew:=((aT e0).bg e1).drew;have z0:=eN e0;have hb:Row w1.drew w [c.1,c.2.1,c.2.2] qD:=((by rw [e0];exact Row.new w [_,_,_] _:Row w0 w [c.1,c.2.1,c.2.2] qD).ext (aT e1)).ext (Ext.dr _);refine (vm c.1 16 hc.1 aG w1.drew).mono ?_;rintro e w2 ⟨rfl,rfl⟩;refine ⟨_,rfl,rfl,rfl,hb.cg (λj hj=>by simp at hj;subst hj;rfl),(vm c.2.2 16 hc.2.2 aG _).mono ?_⟩;rintro e w2 ⟨rfl,rfl⟩;refine ⟨_,rfl,rfl,rfl,λw6 e6=>⟨rfl,x1.ag e6 ab⟩⟩
def V9(p:Po):Prop:=(-1099511627776<=p.1/\p.1<=1099511627776)/\(-1099511627776<=p.2/\p.2<=1099511627776)
def RD(p:Po)(hp:V9 p)(i:Int)(hi:0<=i/\i<8192)(w:World):ah 249 #[pv p,i] w λe w'=>e=Value.tuple #[eg (cellAt p i),true]/\Ext w w':=by apply We.vc;obtain ⟨⟨p1,p2⟩,p3,p4⟩:=hp;intro w0 e0 w1 e1;have z0:=eN e0;have x1:Ext w w1:=(aT e0).bg e1;have t1:Int.tmod i 16=i % 16:=CE hi.1;have t2:Int.tdiv i 256=i / 256:=qT hi.1;have t3:Int.tdiv i 16=i / 16:=qT hi.1;have t4:Int.tmod (i / 16) 16=i / 16 % 16:=CE ab;have w1':ak (i / 16)=i / 16:=wI;have w2':ak (i / 256)=i / 256:=wI;have w3':ak (p.1*16)=p.1*16:=wI;have w4':ak (p.2*16)=p.2*16:=wI;have w5':ak (p.1*16+i % 16)=p.1*16+i % 16:=wI;have w6':ak (p.2*16+i / 16 % 16)=p.2*16+i / 16 % 16:=wI;rw [t1,t2,t3,w1',w2',w3',w4',t4,w5',w6'];refine Br.mk (λh=> ?_) (λ_=>Br.mk (λh=> ?_) (λ_ w4 e4=>⟨rfl,x1.ag e4 ab⟩))<;>simp only [cX] at h<;>omega
def RS(s x z:Int)(w:World):ah 284 #[s,x,z] w λe w'=>e=Value.int .u64 (hash s x z)/\w'=w:=by apply aaI.vc;rw [asq,asr];exact ⟨rfl,rfl⟩
def afl(s x z:Int):ak (Int.tmod (hash s x z) 9)=ia s x z:=by rw [CE (afm s x z)];exact wI
def og(s x z Bm:Int)(hn:0<=Bm/\Bm<=64){b:Nat}{w:World}(hb:Row w b [s] KT):ah 283 #[x,z,Bm,b] w λe w'=>e=Value.int .i64 (ia s x z*Bm)/\w'=w:=by apply KU.vc;refine ⟨s,by rw [hb.ld];rfl,(RS s x z w).mono ?_⟩;rintro e w1 ⟨rfl,rfl⟩;refine ⟨_,rfl,?_⟩;rw [afl];have hc:=jr s x z;have h1:0<=ia s x z*Bm:=Fh hc.1 hn.1;have h2:ia s x z*Bm<=8*64:=Int.mul_le_mul hc.2 hn.2 hn.1 aG;rw [wI];exact ⟨rfl,rfl⟩
def KV(s x z:Int)(hx:bT x)(hz:bT z)(w:World):ah 250 #[s,x,z] w λe w'=>e=Value.int .i64 (ground s x z)/\Ext w w':=by
 apply RT.vc;intro w0 e0;have x0:=aT e0;have hb:Row w0 w [s] KT:=Row.nw e0;refine (vm x 8 hx aG w0).mono ?_;rintro e w1 ⟨rfl,rfl⟩;refine ⟨_,rfl,rfl,(vm z 8 hz aG w1).mono ?_⟩;rintro e w1 ⟨rfl,rfl⟩;refine ⟨_,rfl,rfl,(vo x 8 aG aG w1).mono ?_⟩;rintro e w1 ⟨rfl,rfl⟩;refine ⟨_,rfl,rfl,(vo z 8 aG aG w1).mono ?_⟩;rintro e w1 ⟨rfl,rfl⟩;refine ⟨_,rfl,rfl,?_⟩;have hdx:bT (x / 8+1):=by unfold bT at*;omega
 have hdz:bT (z / 8+1):=by unfold bT at*;omega
 have a:=uz (jr s (x / 8) (z / 8)) (u:=8-x % 8) (v:=8-z % 8) ab ab;have b:=uz (jr s (x / 8+1) (z / 8)) (u:=x % 8) (v:=8-z % 8) ab ab;have c:=uz (jr s (x / 8) (z / 8+1)) (u:=8-x % 8) (v:=z % 8) ab ab;have d:=uz (jr s (x / 8+1) (z / 8+1)) (u:=x % 8) (v:=z % 8) ab ab;have q1:ak (8-x % 8)=8-x % 8:=wI;have q2:ak (8-z % 8)=8-z % 8:=wI;rw [q1,q2,aM hdx,aM hdz,aM (n:=(8-x % 8)*(8-z % 8)) (by unfold bT;omega),aM (n:=x % 8*(8-z % 8)) (by unfold bT;omega),aM (n:=(8-x % 8)*(z % 8)) (by unfold bT;omega),aM (n:=x % 8*(z % 8)) (by unfold bT;omega)];refine (og s _ _ _ ⟨a.1,a.2.1⟩ hb).mono ?_;rintro e w1 ⟨rfl,rfl⟩;refine ⟨_,rfl,(og s _ _ _ ⟨b.1,b.2.1⟩ hb).mono ?_⟩;rintro e w1 ⟨rfl,rfl⟩;refine ⟨_,rfl,(og s _ _ _ ⟨c.1,c.2.1⟩ hb).mono ?_⟩;rintro e w1 ⟨rfl,rfl⟩;refine ⟨_,rfl,(og s _ _ _ ⟨d.1,d.2.1⟩ hb).mono ?_⟩;rintro e w1 ⟨rfl,rfl⟩;refine ⟨_,rfl,?_,x0⟩;have hg:=Jn s x z;have e1:ground s x z=6+(ia s (x / 8) (z / 8)*((8-x % 8)*(8-z % 8))+ia s (x / 8+1) (z / 8)*(x % 8*(8-z % 8))+ia s (x / 8) (z / 8+1)*((8-x % 8)*(z % 8))+ia s (x / 8+1) (z / 8+1)*(x % 8*(z % 8))) / 64:=rfl;generalize ia s (x / 8) (z / 8)*((8-x % 8)*(8-z % 8))=A at*;generalize ia s (x / 8+1) (z / 8)*(x % 8*(8-z % 8))=B at*;generalize ia s (x / 8) (z / 8+1)*((8-x % 8)*(z % 8))=C at*;generalize ia s (x / 8+1) (z / 8+1)*(x % 8*(z % 8))=D at*;rw [aM (n:=A+B) (by unfold bT;omega),aM (n:=A+B+C) (by unfold bT;omega),aM (n:=A+B+C+D) (by unfold bT;omega),qT ab,aM (n:=(A+B+C+D) / 64) (by unfold bT;omega),<-e1,wI]
def aaJ(y g:Int)(hg:6<=g/\g<=100)(w:World):ah 251 #[y,g] w λe w'=>e=Value.int .i64 (RU y g)/\w'=w:=by
 apply ajh.vc;have q1:ak (g-3)=g-3:=wI;have q2:ak (g-1)=g-1:=wI;rw [q1,q2];have fin:∀{v:Int},RU y g=v->(Ending.returned v=Value.int .i64 (RU y g)/\w=w):=λh=>⟨by rw [h],rfl⟩
 refine Br.mk (λh1=>fin ?_) (λh1=>Br.mk (λh2=>fin ?_) (λh2=>Br.mk (λh3=>fin ?_) (λh3=>Br.mk (λh4=>fin ?_) (λh4=>Br.mk (λh5=>fin ?_) (λh5=>Br.mk (λh6=>Br.mk (λh7=>fin ?_) (λh7=>Br.mk (λh8=>fin ?_) (λh8=>Br.mk (λh9=>fin ?_) (λh9=>fin ?_)))) (λh6=>Br.mk (λh8=>fin ?_) (λh8=>Br.mk (λh9=>fin ?_) (λh9=>fin ?_))))))))
 all_goals simp only [cX,fk,beq_iff_eq,beq_eq_false_iff_ne,ne_eq] at*
 all_goals unfold RU
 all_goals (repeat' split)<;>omega
open Go.aZ
def abL(ai:Int)(p:Po){k:Nat}(hk:k<8192):(made ai p)[k]? =some (RU (cellAt p k).2.1 (ground ai (cellAt p k).1 (cellAt p k).2.2)):=by unfold made;rw [aV,I9 hk];rfl
def ajN{p:Po}(hp:V9 p)(i:Int)(hi:0<=i/\i<8192):qC (cellAt p i):=by obtain ⟨⟨p1,p2⟩,p3,p4⟩:=hp;unfold qC cellAt bT;simp only;omega
def Yk(ai:Int)(p:Po)(k:Nat):LV:=(List.range 256).map λi:Nat=> .int .i64 (if i<k then ground ai (cellAt p i).1 (cellAt p i).2.2 else 0)
def Ax(ai:Int)(p:Po)(k:Nat):(Yk ai p k).length=256:=by simp [Yk]
def Ew(ai:Int)(p:Po)(k:Nat){i:Nat}(hi:i<256):(Yk ai p k)[i]? =some (.int .i64 (if i<k then ground ai (cellAt p i).1 (cellAt p i).2.2 else 0)):=by unfold Yk;rw [aV,I9 hi];rfl
def aga(ai:Int)(p:Po){k:Nat}(hk:k<256):(Yk ai p k).set k (.int .i64 (ground ai (cellAt p k).1 (cellAt p k).2.2))=Yk ai p (k+1):=by
 apply jB;intro i;rw [jW];rcases jA i 256 with h|h
 ·rw [Ew _ _ (k+1) h];split
  ·rename_i e;subst e;rw [if_pos (by rw [Ax];exact h),if_pos ab]
  ·rename_i e;rw [Ew _ _ k h];congr 3;exact propext ⟨λh=>by omega,λh=>by omega⟩
 ·rw [jX (by rw [Ax];exact h),jX (by rw [Ax];exact h),if_neg ab]
def acr(ai:Int)(p:Po):Yk ai p 0=List.replicate 256 (.int .i64 0):=by
 apply List.ext_getElem?;intro i;rcases Nat.lt_or_ge i 256 with h|h
 ·rw [Ew _ _ 0 h,List.getElem?_replicate,if_pos h,if_neg (by omega)]
 ·rw [List.getElem?_eq_none (by rw [Ax];exact h),List.getElem?_eq_none (by rw [List.length_replicate];exact h)]
def Fx(ai:Int)(p:Po):List (LV):=(made ai p).map λb=> [.int .i64 b]
def Jl(ai:Int)(p:Po):(Fx ai p).length=8192:=by unfold Fx;rw [aN,qV]
def agb(ai:Int)(p:Po){k:Nat}(hk:k<8192):(made ai p)[k]? =some (RU ((k:Int) / 256) (ground ai (cellAt p ((k % 256:Nat):Int)).1 (cellAt p ((k % 256:Nat):Int)).2.2)):=by
 rw [abL ai p hk];have e1:(cellAt p ((k % 256:Nat):Int)).1=(cellAt p k).1:=by unfold cellAt;simp only;omega
 have e2:(cellAt p ((k % 256:Nat):Int)).2.2=(cellAt p k).2.2:=by unfold cellAt;simp only;omega
 rw [e1,e2];rfl
abbrev UG(bp bs:Nat):Nat->Prop:=λi=>i=bp\/i=bs
abbrev ah3(bp bs:Nat):Value:=.func (.func 248) #[] #[bp,bs]
attribute [local irreducible] made Yk in
set_option maxRecDepth 100000 in
def Fy(ai:Int)(p:Po)(hp:V9 p)(bp bs:Nat)(W0:World)(hbp:Row W0 bp [p.1,p.2] ZQ)(hbs:Row W0 bs [ai] KT):
  Iter Tryz.prog (ah3 bp bs) W0 (UG bp bs) (Fx ai p):=by
 refine ⟨⟨_,_,_,rfl,by kernel_rfl⟩,?_⟩;intro y B J Jx F0 W hB hsJ hsX yt hRd hround h0;refine c9 (by kernel_rfl) (by rfl) ?_;apply Nu.vc;have same:∀{w:World} {F:Nat->Prop},(∀i,UG bp bs i->¬F i/\i<w.heap.size/\w.heap[i]? =W0.heap[i]?)->Row w bp [p.1,p.2] ZQ/\Row w bs [ai] KT:=λ{w F} h=>
  ⟨hbp.same (h bp (.inl rfl)).2.2,hbs.same (h bs (.inr rfl)).2.2⟩
 intro w0 e0;have x0:Ext W w0:=(Ext.cu W).bg e0;have z0:=eN e0;have hg0:Row w0 W.heap.size (Yk ai p 0) 311:=by rw [e0,acr];exact Row.new W (List.replicate 256 (0:Int)) _
 clear e0;have hF0:=yt _ _ _ h0;have bel:∀{w:World},Ext W w->J 0 F0 w/\∀i,UG bp bs i->¬F0 i/\i<w.heap.size/\w.heap[i]? =W0.heap[i]? :=λ{w} x=>
  ⟨hsJ _ _ _ _ h0 (Below.mono x hB) λi hi=>x.heap (hF0 i hi),λi hi=>by obtain ⟨h1,h2,h3⟩:=hRd i hi;exact ⟨h1,by have:=x.size;omega,(x.heap h2).trans h3⟩⟩
 refine ⟨λn x wr=>Ext W wr/\W.heap.size<wr.heap.size/\∃k:Nat,x=k/\k+n=256/\Row wr W.heap.size (Yk ai p k) 311,⟨256,x0,by omega,0,rfl,by omega,hg0⟩,?_⟩;rintro n us x wr ⟨xr,zr,k,rfl,hk,hg⟩;refine Br.mk (λhc=> ?_) (λhc=> ?_)
 ·replace hc:=nG hc;obtain ⟨IN,j8⟩:=same (bel xr).2;refine ⟨p.1,p.2,IN.cg (λj hj=>by rw [Nat.zero_add]),(RD p hp k (by omega) wr).mono ?_⟩;rintro e w9 ⟨rfl,x9⟩;refine ⟨_,_,_,_,rfl,?_⟩;intro bJ vE eu pQ;have cD:Ext w9 eu:=((Ext.cu _).bg vE).ag pQ (Nat.le_refl _);have z15:eu.heap.size=w9.heap.size+1:=by rw [pQ,setRow_size,vE];simp
  have z9:=x9.size;have awq:=j8.ext (x9.tr cD);refine ⟨ai,by rw [awq.ld];rfl,?_⟩;have bq:=ajN hp k ⟨by omega,by omega⟩;refine (KV ai _ _ bq.1 bq.2.2 eu).mono ?_;rintro e cJ ⟨rfl,cZ⟩;have z17:=cZ.size;have awr:=hg.ext ((x9.tr cD).tr cZ);have Qh:((k:Int).toNat*1)=k:=by omega
  rw [Qh];obtain ⟨p1,p2⟩:=awr.jm (j:=k) (v:=.int .i64 (ground ai (cellAt p k).1 (cellAt p k).2.2)) (by rw [Ax];omega) rfl;refine ⟨_,rfl,cZ.k,by omega,by omega,⟨rfl,p1⟩,?_,λgn e19=> ?_⟩
  ·rw [de];intro e;have:W.heap.size=w9.heap.size:=by simpa [bt] using e
   omega
  ·obtain ⟨q1,q2⟩:=p2 gn e19;have VL:IntKind.wrap .i64 ((k:Int)+1)=((k+1:Nat):Int):=by rw [wI];omega
   have aws:aW (Yk ai p k) k [.int .i64 (ground ai (cellAt p k).1 (cellAt p k).2.2)]=Yk ai p (k+1):=by rw [<-aga ai p (by omega)];rfl
   rw [aws] at q1;exact ⟨n-1,by omega,q2.ext (xr.tr ((x9.tr cD).tr cZ)) (λi hi=>by omega),by have:=q2.size;omega,k+1,VL,by omega,q1⟩
 ·replace hc:=nT hc;have apX:k=256:=by omega
  subst apX;obtain ⟨hJr,hKr⟩:=bel xr;refine ⟨λn x wr=>∃(k:Nat)(F:Nat->Prop),x=k/\k+n=8192/\B<=wr.heap.size/\W.heap.size<wr.heap.size/\¬F W.heap.size/\J k F wr/\Row wr W.heap.size (Yk ai p 256) 311,
   ⟨8192,0,F0,rfl,by omega,by omega,zr,λhf=>by have:=hF0 _ hf;omega,hJr,hg⟩,?_⟩
  rintro n us x wq ⟨k,F,rfl,hk,hBq,hzq,hnF,hJq,hgq⟩;refine Br.mk (λhc=> ?_) (λhc=> ?_)
  ·replace hc:=nG hc;have t1:Int.tmod (k:Int) 256=((k % 256:Nat):Int):=by rw [Int.tmod_eq_emod_of_nonneg (by omega)];omega
   have t2:IntKind.wrap .i64 (Int.tdiv (k:Int) 256)=(k:Int) / 256:=by rw [Int.tdiv_eq_ediv_of_nonneg (by omega),wI]
   rw [t1,t2];have Qh:(((k % 256:Nat):Int).toNat*1)=k % 256:=by omega
   rw [Qh];have fL:=Ew ai p 256 (i:=k % 256) (by omega);rw [if_pos (by omega)] at fL;refine ⟨by omega,by omega,_,hgq.at _ fL,(aaJ _ _ (Jn _ _ _) wq).mono ?_⟩;rintro e eB ⟨rfl,rfl⟩;refine ⟨_,rfl,?_⟩;have hx:(Fx ai p)[k]? =some [.int .i64 (RU ((k:Int) / 256) (ground ai (cellAt p ((k % 256:Nat):Int)).1 (cellAt p ((k % 256:Nat):Int)).2.2))]:=by unfold Fx;rw [List.getElem?_map,agb ai p (by omega)];rfl
   refine dG (hround _ _ _ _ hx hJq) ?_;have VL:IntKind.wrap .i64 ((k:Int)+1)=((k+1:Nat):Int):=by rw [wI];omega
   rintro e dX (⟨rfl,F2,Ul,g7⟩|⟨rfl,F2,Ul,g7⟩)
   ·refine ⟨true,rfl,Br.mk (λh=>by cases h) (λ_=>⟨n-1,by omega,k+1,F2,VL,by omega,by have:=g7.size;omega,by have:=g7.size;omega,λhf=> ?_,Ul,hgq.same (g7.same _ hzq hnF)⟩)⟩;rcases g7.sub _ hf with hf|hf
    ·exact hnF hf
    ·omega
   ·exact ⟨false,rfl,Br.mk (λ_=>⟨⟨_,rfl⟩,.inr ⟨F2,Ul⟩⟩) (λh=>by cases h)⟩
  ·replace hc:=nT hc;have Hh:k=8192:=by omega
   subst Hh;exact ⟨⟨_,rfl⟩,.inl ⟨F,by rw [Jl];exact hJq⟩⟩
def Ft(ai:Int)(p:Po)(w:World):ah 187 #[ai,pv p] w λe w'=>e=(ah3 (w.heap.size+1) w.heap.size)/\Row w' (w.heap.size+1) [p.1,p.2] ZQ/\Row w' w [ai] KT/\Ext w w':=by apply WM.vc;intro w0 e0 w1 e1;have z0:=eN e0;have x1:=aT e1;have hb:Row w0 w [ai] KT:=Row.nw e0;refine ⟨by rw [z0],?_,hb.ext x1,(aT e0).tr x1⟩;rw [<-z0,e1];exact Row.new w0 [_,_] _
def Wh(s:Sl)(c:List Int)(w:World)(hs:OwC 0 w s c):ah 189 #[s] w λe w'=>(∃s':Sl,e=s'/\RL w s' c)/\w'=w:=by
 apply Df.vc;have hn:=RL.len hs.rdc;have Zb:s.n<=s.c:=by
  rcases aF.form hs aG with ⟨h,-⟩|⟨g0,cs,ha,hg0,hr,hc,Ql,-⟩
  ·rw [h];exact aD _
  ·exact Ql
 have:=RdK.cut hs.rdc (m:=s.n) (c':=s.n) (c'':=s.n) (by rw [aN];omega);rw [fz (by rw [aN];omega)] at this;exact ⟨by omega,by omega,by omega,by omega,⟨⟨aJ s.a 0 s.n 1,s.n,s.n⟩,rfl,this⟩,rfl⟩
attribute [local irreducible] made in
set_option maxRecDepth 100000 in
def CI(ai:Int)(p:Po)(hp:V9 p)(w:World):ah 136 #[ai,pv p] w λe w'=>∃s':Sl,e=s'/\wG w w' s' (gz (made ai p))/\Ext w w':=by
 apply Wi.vc;intro w0 e0 w1 e1;have z0:=eN e0;have z1:w1.heap.size=w.heap.size+2:=by rw [e1];simp [z0]
 have kG:Ext w w1:=(aT e0).bg e1;refine (Ft ai p w1).mono ?_;rintro e w2 ⟨rfl,hbp,hbs,x2⟩;have iS:=hbp.lt;have xx:=kG.tr x2;have zz:=xx.size;refine ⟨_,rfl,x2.heap ab,x2.heap ab,?_⟩;refine ⟨Fx ai p,UG (w1.heap.size+1) w1.heap.size,λ_=>False,λn F s w'=>(∀i,F i ↔ s.bj=some i)/\OwC (w2.heap.size+2) w' s ((made ai p).take n)/\Ext w w'/\w2.heap.size+2<=w'.heap.size,λ_ _ _ _=>False,
  ?_,?_,λ_ _ _ _ _ h=>h.elim,?_,λ_ _ _ _ h=>h.elim,λi hi=>⟨by rcases hi with h|h<;>omega,id,by rcases hi with h|h<;>omega,by rcases hi with h|h<;>omega,trivial⟩,?_,?_,?_,trivial⟩
 ·intro x hx;obtain ⟨b,_,rfl⟩:=aY.1 hx;exact ⟨b,rfl⟩
 ·rintro n F s w3 w4 ⟨hF,ho,lL,hz⟩ hbl2 hsame;exact ⟨hF,aF.dc ho λi hi=>hsame i ((hF i).2 hi),lL.trans (Below.mono hbl2 zz),by have:=hbl2.size;omega⟩
 ·rintro n F s w3 ⟨hF,ho,lL,hz⟩ i hi;have:=ho.own.lt ((hF i).1 hi);omega
 ·intro w3 yF;have akB:Below w2 w2 w3:=yF.ext;refine ⟨Fy ai p hp _ _ w3 (hbp.ext akB) (hbs.ext akB),rfl,?_,?_,xx.trans (Below.mono akB zz),by have:=yF.size;omega⟩
  ·intro i;simp [Sl.bj]
  ·rw [CA];exact aF.nil
 ·rintro n F us o y w3 hx hI;have hy:(made ai p)[n]? =some y:=by
   unfold Fx at hx;rw [aV,CJ] at hx;obtain ⟨b,hb,e⟩:=hx;have:b=y:=by simpa using e
   rw [<-this];exact hb
  refine ⟨Below.refl _ _,λw4 gR hI3=> ?_⟩;obtain ⟨hF,ho,lL,hz⟩:=hI3;intro w5 e5;have x5:=aT e5;have z5:=eN e5;have Zg:n<8192:=by have:=(cK.1 hy).1;rw [qV] at this;exact this
  have hon:=RL.len ho.rdc;rw [dI,qV] at hon;obtain ⟨hp1,bu⟩:=(aF.ext ho x5).append (bytes:=8) (news:=iv y) ab rfl (sW _ _) ab ab;refine ⟨hp1,λs5 w6 hr=> ?_⟩;obtain ⟨ho5,hn5,xb,QW,iQ⟩:=bu s5 w6 hr;have ZZ:∀i,o.bj=some i->w2.heap.size+2<=i/\i<w4.heap.size:=λi hi=>ho.own.lt hi
  have hz6:=xb.size;refine ⟨QW _ (λhb=>by have:=ZZ _ hb;omega) ab,QW _ (λhb=>by have:=ZZ _ hb;omega) ab,QW _ (λhb=>by have:=ZZ _ hb;omega) ab,?_⟩;intro w7 hw7;have e7:∀i,i≠w0.heap.size->w7.heap[i]? =w6.heap[i]? :=λi hi=>by rw [hw7];exact setRow_other _ _ _ _ hi
  have z7:w7.heap.size=w6.heap.size:=by rw [hw7,setRow_size]
  have hb5:∀i,s5.bj=some i->w2.heap.size+2<=i:=λi hi=>by
   rcases iQ with h|h
   ·exact (ZZ i (by rw [<-h];exact hi)).1
   ·rw [h] at hi;simp at hi;omega
  refine ⟨λi=>s5.bj=some i,⟨rfl,λi=>Iff.rfl,?_,?_,by omega⟩,Step.late ⟨?_,by omega,?_⟩⟩
  ·have e:(made ai p).take (n+1)=(made ai p).take n++ [y]:=by rw [dP,hy];rfl
   rw [e];have h5:OwC (w2.heap.size+2) w6 s5 ((made ai p).take n++ [y]):=by show aF _ _ 1 _ _ (((made ai p).take n++ [y]).map iv);rw [bX];exact ho5
   exact aF.dc h5 λi hi=>e7 i (by have:=hb5 i hi;omega)
  ·have h5:Ext w w6:=(lL.tr x5).trans (Below.mono xb ab);rw [hw7];exact h5.setRow ab _
  ·rintro i (hi|hi)
   ·rcases iQ with h|h
    ·exact .inl (.inl ((hF i).2 (by rw [<-h];exact hi)))
    ·rw [h] at hi;simp at hi;exact .inr ab
   ·exact .inl (.inr hi)
  ·intro i hi hni;have h1:i≠w0.heap.size:=λe=>hni (.inr (by simp [e]))
   rw [e7 i h1,QW i (λhb=>hni (.inl ((hF i).2 hb))) ab];exact x5.heap hi
 ·rintro F us o w3 ⟨hF,ho,lL,hz⟩ hD;rw [Jl,fz (by rw [qV];exact aD _)] at ho;refine (Wh o (made ai p) w3 (aF.low ho (iI _))).mono ?_;rintro e w4 ⟨⟨s4,rfl,hs4⟩,rfl⟩;refine ⟨s4,rfl,rfl,rfl,(KN s4 (made ai p) w4 hs4 (by rw [qV];decide)).mono ?_⟩;rintro e w5 ⟨s5,rfl,ho5,x5⟩;refine ⟨s5,rfl,x5.heap ab,x5.heap ab,(x5.heap ab).trans hD,λw6 gR=> ?_⟩;have hz5:=x5.size;have ho6:wG w w6 s5 (gz (made ai p)):=aF.low (aF.dc ho5 λi hi=>gR.same i (by have:=(ho5.own.lt hi).1;omega)) ab;exact ⟨s5,rfl,ho6,(lL.tr x5).trans (Below.mono (gR.below (aD _)) ab)⟩
abbrev xQ:TypeId:=175
structure H7(w:World)(g:Nat)(s:Sl)(p:Po)(C:List Int):Prop where
 row:Row w g [p.1,p.2,s] xQ
 own:wG 0 w s (gz C)
 len:C.length=8192
 may:∀b ∈ C,cO b=true
def H7.dc{w w':World}{g:Nat}{s:Sl}{p:Po}{C:List Int}(h:H7 w g s p C){F:Nat->Prop}(hm:Mod F w w')(hg:¬F g)(hs:∀b,s.bj=some b->¬F b):H7 w' g s p C:=
 ⟨hm.row h.row hg,hm.iC h.own hs,h.len,h.may⟩
def H7.ext{w w':World}{g:Nat}{s:Sl}{p:Po}{C:List Int}(h:H7 w g s p C)(x:Ext w w'):H7 w' g s p C:=⟨h.row.ext x,aF.ext h.own x,h.len,h.may⟩
def H7.bd{w:World}{g:Nat}{s:Sl}{p:Po}{C:List Int}(h:H7 w g s p C):Bd C.length:=by rw [h.len];decide
def Kf(p:Po)(c:Ce):Bool:=decide (0<=c.2.1) && decide (c.2.1<32) &&(pos c==p)
def oh(p:Po)(c:Ce):Kf p c=true ↔ Eo c/\pos c=p:=by unfold Kf Eo;simp only [fy,cX,beq_iff_eq]
def Ge(p:Po)(C:List Int)(c:Ce):Int:=if Kf p c then atC C (idx c) else 0
def kx(p:Po)(C:List Int)(c:Ce)(b:Int):List Int × Int:=if Kf p c=false then (C,5) else if cO b=false then (C,1) else (C.set (idx c).toNat b,0)
def G8(p:Po)(c:Ce)(hc:qC c)(w:World):ah 193 #[pv p,eg c] w λe w'=>(∃i,e=Value.tuple #[.int .i64 i,.bool (Kf p c)]/\(Kf p c=true->i=idx c))/\Ext w w':=by
 apply zE.vc;intro w0 e0 w1 e1;have z0:=eN e0;have z1:w1.heap.size=w.heap.size+2:=by rw [e1];simp [z0]
 have x1:Ext w w1:=(aT e0).bg e1;have hb:Row w1 w [p.1,p.2] 172:=(by rw [e0];exact Row.new w [_,_] _:Row w0 w [p.1,p.2] 172).ext (aT e1);refine (CD c w1).mono ?_;rintro e w2 ⟨⟨i,b,rfl,hi⟩,x2⟩;have z2:=x2.size;refine ⟨i,b,rfl,x2.heap ab,x2.heap ab,Br.mk (λhbb=> ?_) (λhbb=> ?_)⟩
 ·rcases hi with ⟨-,hy,rfl⟩|⟨h,-⟩
  ·refine (pY c hc w2.drew).mono ?_;rintro e w5 ⟨rfl,x5⟩;refine ⟨_,_,rfl,x5.heap (show w.heap.size<w2 by omega),x5.heap (show w0.heap.size<w2 by omega),((hb.ext x2).ext (Ext.dr _)|>.ext x5).cg (λj hj=>by rw [eD]),?_,(x1.tr x2).tr ((Ext.dr _).tr x5)⟩;refine ⟨_,?_,λ_=>rfl⟩;have:Kf p c=(((pos c).1==p.1) &&((pos c).2==p.2)):=by unfold Kf;unfold Eo at hy;rw [decide_eq_true hy.1,decide_eq_true hy.2];rfl
   rw [this]
  ·rw [h] at hbb;cases hbb
 ·rcases hi with ⟨h,-⟩|⟨-,hy,rfl⟩
  ·rw [h] at hbb;cases hbb
  ·have:Kf p c=false:=by
    cases hk:Kf p c with
    |false=>rfl
    |true=>exact absurd ((oh p c).1 hk).1 hy
   rw [this];exact ⟨⟨_,rfl,λh=>by cases h⟩,(x1.tr x2).drew⟩
def agn(y g:Int):cO (RU y g)=true:=by rcases Xq y g with h|h|h|h|h<;>rw [h]<;>decide+kernel
def acI(ai:Int)(p:Po):∀b ∈ made ai p,cO b=true:=by intro b hb;unfold made at hb;obtain ⟨i,_,rfl⟩:=aY.1 hb;exact agn _ _
def Sh(ai:Int)(p:Po)(hp:V9 p)(w:World):ah 78 #[ai,pv p] w λe w'=>∃g s,e=Value.pointer (aB g)/\H7 w' g s p (made ai p)/\Ext w w'/\w.heap.size<=g/\∀b,s.bj=some b->w.heap.size<=b:=by
 apply Sc.vc;intro w0 e0;have x0:=aT e0;have z0:=eN e0;have hb:Row w0 w [p.1,p.2] ZQ:=Row.nw e0;have fin:∀{w1 w3:World} {s:Sl},Ext w0.drew w1->wG w0.drew.heap.size w1 s (gz (made ai p))->w3=w1.alloc (.cells #[p.1,p.2,.slice s.a s.n s.c] xQ)->H7 w3 w1 s p (made ai p)/\Ext w w3/\w.heap.size<=w1/\∀b,s.bj=some b->w.heap.size<=b:=λ{w1 w3 s} x1 ho e3=>by have x3:=aT e3;refine ⟨⟨by rw [e3];exact Row.new w1 [_,_,_] _,(aF.low ho (iI _)).ext x3,qV _ _,acI _ _⟩,((x0.drew).tr x1).tr x3,(x0.drew.tr x1).size,λb hb=>gD x0.drew.size (ho.own.lt hb).1⟩
 refine ⟨(CI ai p hp w0.drew).mono ?_,(CI ai p hp w0.drew).mono ?_⟩
 ·rintro e w1 ⟨s,rfl,ho,x1⟩;refine ⟨s,rfl,x1.heap (show w.heap.size<w0 by omega),λw3 e3=>⟨_,s,rfl,fin x1 ho e3⟩⟩
 ·rintro e w1 ⟨s,rfl,ho,x1⟩;refine ⟨s,rfl,x1.heap (show w.heap.size<w0 by omega),((hb.ext (Ext.dr _)).ext x1).cg (λj hj=>by rw [eD]),λw3 e3=>⟨_,s,rfl,fin x1 ho e3⟩⟩
def H7.pos{w:World}{g:Nat}{s:Sl}{p:Po}{C:List Int}(h:H7 w g s p C):af w (ae (aB g) 0) 0 [p.1,p.2]:=by
 rw [bo];exact h.row.cg (λj hj=>by
  simp at hj;rcases j with _|_|j
  ·rfl
  ·rfl
  ·omega)
def YZ{C:List Int}(h:C.length=8192):(∀r ∈ gz C,0<=r.1)/\bF (gz C)<=1099511627776/\Bd (gz C).length:=by refine ⟨λr hr=>by have:=(mF hr).1;omega,by rw [mX,h];decide,?_⟩;have:=sb C;show (gz C).length<=1099511627776;omega
def Eu{w:World}{g:Nat}{s:Sl}{p:Po}{C:List Int}(h:H7 w g s p C)(c:Ce)(hc:qC c):ah 140 #[g,eg c] w λe w'=>e=Value.tuple #[(Ge p C c),.bool (Kf p c)]/\Ext w w':=by
 apply FO.vc;intro w0 e0;have x0:Ext w w0.drew:=(Ext.cu w|>.bg e0).drew;have z0:=eN e0;have h0:=h.ext x0;refine ⟨p.1,p.2,h0.pos,(G8 p c hc w0.drew).mono ?_⟩;rintro e w3 ⟨⟨i,rfl,hi⟩,x3⟩;have h3:=h0.ext x3;have z3:=x3.size;refine ⟨i,_,rfl,x3.heap (show w.heap.size<w0 by omega),Br.mk (λhb=> ?_) (λhb=> ?_)⟩
 ·have hf:Kf p c=false:=by simpa using hb
  refine ⟨?_,x0.tr x3⟩;unfold Ge;rw [hf];rfl
 ·have hk:Kf p c=true:=by simpa using hb
  have hie:=hi hk;subst hie;have jw:=xV ((oh p c).1 hk).1;obtain ⟨q1,q2,q3⟩:=YZ h.len;refine ⟨s,h3.row.at 2 rfl,(LL s (gz C) (idx c) w3 (wG.HJ h3.own) q3 q1 q2 (by unfold bT;omega)).mono ?_⟩;rintro e w7 ⟨rfl,x7⟩;refine ⟨_,rfl,x7.heap (kB (show w.heap.size<w0 by omega) z3),?_,(x0.tr x3).tr x7⟩;rw [me];unfold Ge;rw [hk];rfl
def UO{p:Po}{C:List Int}(hl:C.length=8192)(hm:∀b ∈ C,cO b=true)(c:Ce)(b:Int):(kx p C c b).1.length=8192/\∀x ∈(kx p C c b).1,cO x=true:=by grind [kx]
def abu{w:World}{g:Nat}{s:Sl}{p:Po}{C:List Int}(h:H7 w g s p C)(c:Ce)(hc:qC c)(b:Int):
  ah 268 #[g,eg c,b] w λe w'=>e=Value.int .i64 (kx p C c b).2/\∃s',H7 w' g s' p (kx p C c b).1/\Mod (λi=>i=g) w w'/\(∀i,s'.bj=some i->s.bj=some i\/w.heap.size<=i):=by
 apply Ds.vc;intro w0 e0;have x0:Ext w w0.drew:=(Ext.cu w|>.bg e0).drew;have z0:=eN e0;have hgl:=h.row.lt;have h0:=h.ext x0;refine ⟨p.1,p.2,h0.pos,(G8 p c hc w0.drew).mono ?_⟩;rintro e w3 ⟨⟨i,rfl,hi⟩,x3⟩;have h3:=h0.ext x3;have z3:=x3.size;have z3':w.heap.size<w3:=kB (show w.heap.size<w0 by omega) z3;refine ⟨i,_,rfl,x3.heap (show w.heap.size<w0 by omega),Br.mk (λhb=> ?_) (λhb=> ?_)⟩
 ·have hf:Kf p c=false:=by simpa using hb
  have e:kx p C c b=(C,5):=by unfold kx;rw [if_pos hf]
  rw [e];exact ⟨rfl,s,h3,Mod.aH (x0.tr x3),λi hi=> .inl hi⟩
 ·have hk:Kf p c=true:=by simpa using hb
  have hie:=hi hk;subst hie;have jw:=xV ((oh p c).1 hk).1;refine (gO b w3).mono ?_;rintro e w6 ⟨rfl,x6⟩;have h6:=h3.ext x6;have z6:=x6.size;refine ⟨_,rfl,x6.heap z3',Br.mk (λj8=> ?_) (λj8=> ?_)⟩
  ·have hf:cO b=false:=by simpa using j8
   have e:kx p C c b=(C,1):=by unfold kx;rw [if_neg (by simp [hk]),if_pos hf]
   rw [e];exact ⟨rfl,s,h6,Mod.aH ((x0.tr x3).tr x6),λi hi=> .inl hi⟩
  ·have hm:cO b=true:=by simpa using j8
   have e:kx p C c b=(C.set (idx c).toNat b,0):=by unfold kx;rw [if_neg (by simp [hk]),if_neg (by simp [hm])]
   refine ⟨s,h6.row.at 2 rfl,(Il s C (idx c) b w6 (wG.HJ h6.own) h.bd (by unfold bT;omega)).mono ?_⟩;rintro e9 w9 ⟨yN,rfl,ho,x9⟩;have hs:YJ C (idx c) b=C.set (idx c).toNat b:=by unfold YJ;rw [if_pos ⟨hm,jw.1,by rw [h.len];omega⟩]
   rw [hs] at ho;obtain ⟨p1,p2⟩:=(h6.row.ext x9).jm (j:=2) (v:=.slice yN.a yN.n yN.c) cj rfl;refine ⟨yN,rfl,x9.heap ab,⟨rfl,p1⟩,?_,λbc Da=> ?_⟩
   ·rw [de];intro e;have:g=w.heap.size:=by simpa [bt] using e
    omega
   ·obtain ⟨q1,q2⟩:=p2 bc Da;have bq:=UO (p:=p) h.len h.may c b;rw [e] at bq ⊢;refine ⟨rfl,yN,⟨q1,q2.iC (aF.low ho (iI _)) λi hi hf=> ?_,bq.1,bq.2⟩,(Mod.aH (((x0.tr x3).tr x6).tr x9)).trans q2,λi hi=> .inr ?_⟩
    ·obtain ⟨cs,hr⟩:=bh ho aG hi;exact hr.ne (h6.row.ext x9) aG hf
    ·have:=(ho.own.lt hi).1;have:=(x0.tr x3).size;omega
def xq(p:Po)(w:World):ah 95 #[pv p] w λe w'=>e=(pv p)/\Ext w w':=by apply zD.vc;intro w0 e0 w1 e1 w2 e2;have z0:=eN e0;exact ⟨rfl,((aT e0).bg e1).ag e2 ab⟩
open Go.Code
def acR(w:World)(p:Po)(l:List Rn)(e:Ending)(w':World):Prop:=
 (sj cO l 8192=true/\∃g sg,e=Value.tuple #[.pointer (aB g),aa]/\H7 w' g sg p (cH l)/\w.heap.size<=g/\∀b,sg.bj=some b->w.heap.size<=b)\/
 (sj cO l 8192=false/\e=Value.tuple #[.pointer none,(1:Int)])
def Ga(p:Po)(s:Sl)(l:List Rn)(w:World)(hs:lj w s l)(hn:Bd l.length):ah 135 #[pv p,s] w λe w'=>acR w p l e w'/\Ext w w':=by
 apply WJ.vc;intro w0 e0;have z0:=eN e0;have x0:=aT e0;have VH:Row w0 w [p.1,p.2] ZQ:=Row.nw e0;refine (wU s l 8192 w0 (RdK.ext hs x0) hn (by unfold bT;omega)).mono ?_;rintro e w1 ⟨rfl,x1⟩;have z1:=x1.size;have zd:=mN w1;refine ⟨_,rfl,x1.heap ab,Br.mk (λhb=> ?_) (λhb=> ?_)⟩
 ·have hf:sj cO l 8192=false:=by simpa using hb
  exact ⟨.inr ⟨hf,rfl⟩,x0.tr x1⟩
 ·have ht:sj cO l 8192=true:=by simpa using hb
  obtain ⟨i1,i2,i3⟩:=Pw ht;have xd:=(x0.tr x1).drew;have fin:∀{w3 w5:World} {s4:Sl},Ext w1.drew w3->wG w1.drew.heap.size w3 s4 l->w5=w3.alloc (.cells #[p.1,p.2,s4] xQ)->acR w p l (.returned (.tuple #[w3,aa])) w5/\Ext w w5:=λ{w3 w5 s4} x3 ho e5=>by have x5:=aT e5;have z3:=x3.size;refine ⟨.inl ⟨ht,_,s4,rfl,⟨by rw [e5];exact Row.new w3 [_,_,_] _,?_,by omega,i2⟩,by omega,λb hb=>by have:=(ho.own.lt hb).1;omega⟩,xd.tr (x3.tr x5)⟩;rw [i1];exact (aF.low ho (iI _)).ext x5
  refine ⟨(mh s l w1.drew (RdK.ext hs xd) hn).mono ?_,(mh s l w1.drew (RdK.ext hs xd) hn).mono ?_⟩
  ·rintro e w3 ⟨s4,rfl,ho,x3⟩;exact ⟨s4,rfl,x3.heap ab,λw5 e5=>fin x3 ho e5⟩
  ·rintro e w3 ⟨s4,rfl,ho,x3⟩;exact ⟨s4,rfl,x3.heap ab,((VH.ext x1.drew).ext x3).cg (λj hj=>by rw [eD]),λw5 e5=>fin x3 ho e5⟩
def agv(w:World)(p:Po)(b:List Int)(e:Ending)(w':World):Prop:=
 ((jC cO b 8192).2=0/\∃g sg,e=Value.tuple #[.pointer (aB g),aa]/\H7 w' g sg p (cH (jC cO b 8192).1)/\w.heap.size<=g/\gz (cH (jC cO b 8192).1)=(jC cO b 8192).1/\∀b,sg.bj=some b->w.heap.size<=b)\/
 ((jC cO b 8192).2≠0/\e=Value.tuple #[.pointer none,.int .i64 (jC cO b 8192).2])
def WZ(p:Po)(s:Sl)(b:List Int)(w:World)(hs:jF w s b)(hb:InY b)(hc:s.n<=s.c)(hl:b.length<=1099511627776):ah 77 #[pv p,s] w λe w'=>agv w p b e w'/\Ext w w':=by
 apply Sb.vc;intro w0 e0;have z0:=eN e0;have x0:=aT e0;refine (G6 s b 8192 w0 (RdK.ext hs x0) hb hc hl aG (by unfold bT;omega)).mono ?_;rintro e w1 ⟨⟨s2,rfl,ho⟩,x1⟩;have z1:=x1.size;have dD:=Yy (may:=cO) b 8192;have hag:=P4 (b:=b) (n:=8192) hb aG;refine ⟨s2,_,rfl,x1.heap ab,Br.mk (λgy=> ?_) (λgy=> ?_)⟩
 ·exact ⟨.inr ⟨by simpa using gy,rfl⟩,x0.tr x1⟩
 ·have h0:=dn gy;obtain ⟨f1,f2,f3⟩:=hag h0;have hm:sj cO (jC cO b 8192).1 8192=true:=by have:=f2.sj ab;rw [f3] at this;exact this
  refine (Ga p s2 _ w1 (wG.HJ ho) (by show _<=_;omega)).mono ?_;rintro e w4 ⟨hr,x4⟩;rcases hr with ⟨-,g,sg,rfl,hk,hg,hgb⟩|⟨hf,-⟩
  ·exact ⟨_,_,rfl,x4.heap ab,.inl ⟨h0,g,sg,rfl,hk,by omega,(Pw hm).1,λb hb=>by have:=hgb b hb;omega⟩,x0.tr (x1.tr x4)⟩
  ·rw [hm] at hf;cases hf
def vw{C:List Int}(hl:C.length=8192)(hm:∀b ∈ C,cO b=true):okW cO (gz C)=true/\gz C≠ []/\ie cO (-1) (gz C)/\bF (gz C)=8192:=by
 have hs:bF (gz C)=8192:=by rw [mX,hl];rfl
 have gy:gz C≠ []:=by
  intro e;rw [e] at hs
  cases hs
 have hc:∀r ∈ gz C,cO r.2=true:=λr hr=>by refine hm _ ?_;have:=W9 hr (mF hr).1;rwa [me] at this
 refine ⟨ajk (FY C) hc ab gy,gy,?_,hs⟩;refine ie.of (λr hr=> ?_) (FY C).next (λr hr=> ?_)
 ·have h1:=mF hr;have h2:=hc r hr;have h3:=h2;unfold cO at h3;simp only [fy,cX] at h3;exact ⟨h1.1,by omega,by omega,by omega,h2⟩
 ·have h2:=hc r (List.mem_of_mem_head? hr);unfold cO at h2;simp only [fy,cX] at h2;omega
def Xa{C:List Int}(hl:C.length=8192)(hm:∀b ∈ C,cO b=true):∀r ∈ gz C,bT r.1/\bT r.2:=Xb (vw hl hm).2.2.1
def RK{w:World}{g:Nat}{s:Sl}{p:Po}{C:List Int}(h:H7 w g s p C):ah 137 #[g] w λe w'=>∃s':Sl,e=s'/\nA w w' s' (lM (gz C))/\Ext w w':=by apply zF.vc;have dD:=sb C;have hl:=h.len;refine ⟨s,h.row.at 2 rfl,(Dy s (gz C) w (wG.HJ h.own) ab (Xa h.len h.may)).mono ?_⟩;rintro e w1 ⟨⟨s2,rfl,ho⟩,x1⟩;rw [if_pos (vw h.len h.may).1] at ho;exact ⟨s2,_,rfl,s2,rfl,ho,x1⟩
abbrev uy:TypeId:=277
abbrev BF:TypeId:=217
abbrev BG:TypeId:=143
abbrev cQ:TypeId:=150
abbrev tPI:TypeId:=137
def CG{a:Addr}{K:Prop}(h:K):aS (dK (some a)) K:=h
def UF(p:Po)(w:World):ah 72 #[pv p] w λe w'=>e=Value.tuple #[(pd p),.bool (decide (oE p))]/\Ext w w':=by
 apply aa2.vc;intro w0 e0;have x0:=aT e0;have no:¬oE p->Ending.returned (.tuple #[aa,false])=Ending.returned (.tuple #[(pd p),.bool (decide (oE p))])/\Ext w w0:=λh=>⟨by rw [UC h,decide_eq_false h],x0⟩
 refine Br.mk (λh=>no ?_) (λh=>Br.mk (λh2=>no ?_) (λh2=>Br.mk (λh3=>no ?_) (λh3=>Br.mk (λh4=>no ?_) (λh4=> ?_))))<;>simp only [cX,fk] at*
 ·unfold oE;omega
 ·unfold oE;omega
 ·unfold oE;omega
 ·unfold oE;omega
 ·have lr:oE p:=by unfold oE;omega
  refine ⟨?_,x0⟩;rw [decide_eq_true lr,aM (n:=p.1+524288) (by unfold bT;omega),aM (n:=(p.1+524288)*2) (by unfold bT;omega),aM (n:=(p.1+524288)*2*524288) (by unfold bT;omega),aM (n:=(p.1+524288)*2*524288+p.2) (by unfold bT;omega),aM (n:=(p.1+524288)*2*524288+p.2+524288) (by unfold bT;omega),aM (n:=(p.1+524288)*2*524288+p.2+524288+1) (by unfold bT;omega)];unfold pd;rw [if_pos lr,show (p.1+524288)*2*524288+p.2+524288+1=(p.1+524288)*1048576+(p.2+524288)+1 by omega]
def wX(p:Po):Po:=(cM p.1 5-2,cM p.2 5-2)
def VU(p:Po)(hp:bT p.1/\bT p.2)(w:World):ah 51 #[pv p] w λe w'=>e=(pv (wX p))/\Ext w w':=by apply WU.vc;have h1:=db p.1 5 aG;have h2:=db p.2 5 aG;intro w0 e0 w1 e1;have z0:=eN e0;have x1:Ext w w1.drew:=((aT e0).bg e1).drew;have hb:Row w1.drew w [p.1,p.2] ZQ:=((by rw [e0];exact Row.new w [_,_] _:Row w0 w [p.1,p.2] ZQ).ext (aT e1)).ext (Ext.dr _);refine (gS p.1 5 w1.drew hp.1 aG (by unfold bT;omega)).mono ?_;rintro e w2 ⟨rfl,rfl⟩;refine ⟨_,rfl,rfl,rfl,hb.cg (λj hj=>by simp at hj;subst hj;rfl),(gS p.2 5 w1.drew hp.2 aG (by unfold bT;omega)).mono ?_⟩;rintro e w2 ⟨rfl,rfl⟩;refine ⟨_,rfl,rfl,rfl,λw6 e6=>⟨?_,x1.ag e6 ab⟩⟩;have q1:ak (cM p.1 5-2)=cM p.1 5-2:=wI;have q2:ak (cM p.2 5-2)=cM p.2 5-2:=wI;rw [q1,q2];rfl
def GI(v:Value):Prop:=∃n:Int,v=.int .i64 n
def Li:je Tryz.prog KT GI:=by
 refine ⟨?_,?_,?_⟩
 ·rintro x y ⟨a,rfl⟩ ⟨b,rfl⟩;refine ⟨a==b,by kernel_rfl,?_⟩;simp
 ·rintro x ⟨a,rfl⟩ b w;kernel_rfl
 ·rintro x ⟨a,rfl⟩;simp [Instr.sameBits]
def X0{P:Program}{w:World}{r:Nat}{es:Array MapEntry}{clock:Nat}(t:TypeId)(hb:w.heap[r]? =some (.map es clock)):
  (Extern.MapsClone.clone #[.iface t (.map (some r))]).run P w=.ok (.iface t (.map (some w.heap.size))) (w.alloc (.map es clock)):=by
 have e:Extern.MapsClone.clone #[.iface t (.map (some r))]=(getObj r>>=λo=>match o with
   | .map entries clock=>(newObj (.map entries clock)>>=λn=>pure (.iface t (.map (some n))))
   |_=>stuck "maps.clone: a map expected"):=rfl
 rw [e];simp [px hb,km,Result.andThen,Sem.run_bind]
def F7{w:World}{r:Nat}{kvs:List (Value × Value)}(hm:cG GI w (some r) kvs):ah 272 #[.map (some r)] w λe w'=>e=Value.map (some w.heap.size)/\cG GI w' (some w.heap.size) kvs/\Ext w w':=by apply Du.vc;refine Br.mk (λh=>by cases h) (λ_=> ?_);obtain ⟨es,clock,hb,h2⟩:=hm;refine ⟨Extern.MapsClone.clone,⟨_,Tryz.func298,by kernel_rfl,by kernel_rfl,by kernel_rfl⟩,_,_,X0 _ hb,_,rfl,_,rfl,rfl,⟨es,clock,World.alloc_heap_new w _,h2⟩,Ext.al w _⟩
set_option maxRecDepth 100000
set_option maxHeartbeats 8000000
set_option linter.unusedVariables false
variable {R:Ending->World->Prop} {w:World} {a0 a1 a2 a3 a4 a5 a6 a7 a8 a9 aw ao au aP aQ aR bM bH bI DV aq ar aA bz bR bQ fe fg eM DW bE bO bC yu yw vV vW yx yy yz DX DY DZ D3 D4 D5 D6 D7 D8 D9:Int}
def BE.vc{a0:Addr}(h:
 ∃(x0:Int),ld w (ae (some a0) 2)=some (.int .i64 x0)/\
 Br (x0>0)
 (∃(x1:Int),ld w (ae (some a0) 2)=some (.int .i64 x1)/\
 (true=true/\Wr w (ae (some a0) 2) 1)/\(∀w2,w2=aK w (ae (some a0) 2) [(ak (x1-1))]->
 R false w2))
 (∃(x3:Int),ld w (ae (some a0) 1)=some (.int .i64 x3)/\
 Br (x3>0)
 (∃(x4:Int),ld w (ae (some a0) 1)=some (.int .i64 x4)/\
 (true=true/\Wr w (ae (some a0) 1) 1)/\(∀w5,w5=aK w (ae (some a0) 1) [(ak (x4-1))]->
 R (Value.bool (decide (x3>0))) w5))
 (R (Value.bool (decide (x3>0))) w))):ah 227 #[a0] w R:=
 cq bU Tryz.func227 h
def Ia.vc{a0:Addr}{a2:Sl}(h:
 ah 227 #[a0] w (λe w0=>∃(b1:Bool),e=b1/\
 Br b1
 (R (9:Int) w0)
 (ah 228 #[a0] w0 (λe w2=>∃(m3:Option Nat),e=Value.map m3/\
 ∃(x4:Int),ld w2.drew (ae (some a0) 0)=some (.int .i64 x4)/\
 (ah 229 #[.map m3] w2.drew (λe w5=>∃(x6:Int),e=x6/\
 af w5 (ae (some a0) 0) 0 [x4]/\∃(G7:Value->Prop)(kvs8:List (Value × Value)),je Tryz.prog 3 G7/\cG G7 w5 m3 kvs8/\G7 a1/\∃(s9:Sl),∃b10:Bool,H5 kvs8 a1 (.slice none 0 0) s9 b10/\
 af w5 (ae (some a0) 0) 0 [x4]/\Br (decide (((ak (x6-((s9.n:Nat):Int))):Int)>(ak (x4-((a2.n:Nat):Int)))))
 (R (8:Int) w5)
 (∃(Cb:Sl),ld w5.drew (ae (some a0) 4)=some (.slice Cb.a Cb.n Cb.c)/\
 ah 230 #[a2] w5.drew (λe cU=>∃(yE:Sl),e=yE/\
 af cU (ae (some a0) 4) 0 [Cb]/\Aw cU #[a1,yE] 279 λbJ=>
 ba 32 2 bJ Cb 1 [a1,yE]/\∀(mA:Sl)(cP:World),aX 279 2 bJ Cb 1 [a1,yE] mA cP->Kp cU bJ cP/\
 (true=true/\Wr cP (ae (some a0) 4) 1)/\bt (ae (some a0) 4)≠some cU.heap.size/\(∀cJ,cJ=aK cP (ae (some a0) 4) [mA]->
 R (0:Int) cJ)))))/\(∃(G18:Value->Prop)(kvs19:List (Value × Value)),je Tryz.prog 3 G18/\cG G18 w2.drew m3 kvs19/\G18 a1/\∃(vH:Sl),∃Mh:Bool,H5 kvs19 a1 (.slice none 0 0) vH Mh/\
 af w2.drew (ae (some a0) 0) 0 [x4]/\ah 229 #[.map m3] w2.drew (λe ey=>∃(dA:Int),e=dA/\
 af ey (ae (some a0) 0) 0 [x4]/\Br (decide (((ak (dA-((vH.n:Nat):Int))):Int)>(ak (x4-((a2.n:Nat):Int)))))
 (R (8:Int) ey)
 (∃(tR:Sl),ld ey.drew (ae (some a0) 4)=some (.slice tR.a tR.n tR.c)/\
 ah 230 #[a2] ey.drew (λe cV=>∃(Q7:Sl),e=Q7/\
 af cV (ae (some a0) 4) 0 [tR]/\Aw cV #[a1,Q7] 279 λeB=>
 ba 32 2 eB tR 1 [a1,Q7]/\∀(Q2:Sl)(dX:World),aX 279 2 eB tR 1 [a1,Q7] Q2 dX->Kp cV eB dX/\
 (true=true/\Wr dX (ae (some a0) 4) 1)/\bt (ae (some a0) 4)≠some cV.heap.size/\(∀fw,fw=aK dX (ae (some a0) 4) [Q2]->
 R (0:Int) fw))))))))):ah 164 #[a0,a1,a2] w R:=
 cq bU Tryz.func164 h
def Gp.vc{a0:Addr}(h:
 ah 227 #[a0] w (λe w0=>∃(b1:Bool),e=b1/\
 Br b1
 (R (9:Int) w0)
 (ah 228 #[a0] w0 (λe w2=>∃(m3:Option Nat),e=Value.map m3/\
 (true=true/\Wr w2 (ae (some a0) 3) 1)/\(∀w4,w4=aK w2 (ae (some a0) 3) [.map m3]->
 (true=true/\Wr w4 (ae (some a0) 4) 1)/\(∀w5,w5=aK w4 (ae (some a0) 4) [.slice none 0 0]->
 R (0:Int) w5)))))):ah 165 #[a0] w R:=
 cq bU Tryz.func165 h
def Xy.vc{a0:Sl}(h:
 ∃I0:Nat->Int->Sl->World->Prop,
 (∃n1,I0 n1 ((ak (a2-1))) a0 w)/\
 ∀(n1:Nat)(wg:Nat->Value)(x3:Int)(s4:Sl)(w5:World),I0 n1 x3 s4 w5->
 Br (x3>=0)
 (aS (ngC (ak (8*x3))) (Aw w5 #[.int .u8 (fi ((a1:Int).fdiv (2 ^(min ((ak (8*x3)):Int).toNat 64))))] 5 λw7=>
 ba 1 1 w7 s4 1 [.int .u8 (fi ((a1:Int).fdiv (2 ^(min ((ak (8*x3)):Int).toNat 64))))]/\∀(s8:Sl)(w9:World),aX 5 1 w7 s4 1 [.int .u8 (fi ((a1:Int).fdiv (2 ^(min ((ak (8*x3)):Int).toNat 64))))] s8 w9->Kp w5 w7 w9/\
 ∃n6,n6<n1/\I0 n6 ((ak (x3-1))) s8 w9))
 (R s4 w5)):ah 224 #[a0,a1,a2] w R:=
 cq ⟨[(2,⟨[(7,.int .i64),(0,.slice)],[],[]⟩)],[],[]⟩ Tryz.func224 h
def SU.vc{a0:Sl}(h:
 ∃I0:Nat->Int->Int->World->Prop,
 (∃n1,I0 n1 (0) (0) w)/\
 ∀(n1:Nat)(wg:Nat->Value)(x3 x4:Int)(w5:World),I0 n1 x3 x4 w5->
 Br (decide (x3<((a0.n:Nat):Int)))
 (ez a0.a x3 a0.n/\∃(x7:Int),ld w5 (ae a0.a ((x3:Int).toNat*1))=some (.int .u8 x7)/\
 ∃n6,n6<n1/\I0 n6 ((ak (x3+1))) ((Mx .i64 (ak (x4*2 ^(min (8:Int).toNat 64))) (ak x7))) w5)
 (R x4 w5)):ah 247 #[a0] w R:=
 cq ⟨[(3,⟨[(8,.int .i64),(3,.int .i64)],[],[]⟩)],[],[]⟩ Tryz.func247 h
def O2.vc{a1:Sl}(h:
 Br (a0<1)
 (R (Value.tuple #[.slice none 0 0,(1:Int)]) w)
 (Br (a0>1073741824)
 (R (Value.tuple #[.slice none 0 0,(1:Int)]) w)
 (Br (decide ((((a1.n:Nat):Int):Int)>65536))
 (R (Value.tuple #[.slice none 0 0,(1:Int)]) w)
 (ah 224 #[.slice none 0 0,a0,(4:Int)] w (λe w0=>∃(s1:Sl),e=s1/\
 ah 224 #[s1,((a1.n:Nat):Int),(3:Int)] w0 (λe w2=>∃(s3:Sl),e=s3/\
 Aw w2 #[s3,a1] 62 λw4=>
 ah 226 #[.slice (aB w2) 2 2] w4 (λe w5=>∃(s6:Sl),e=s6/\
 ah 225 #[s6] w5 (λe w7=>∃(s8:Sl),e=s8/\
 R (Value.tuple #[s8,aa]) w7)))))))):ah 163 #[a0,a1] w R:=
 cq bU Tryz.func163 h
def BQ.vc{a0:Addr}{a2:Sl}(h:
 ah 132 #[a1] w (λe w0=>∃(b1:Bool),e=b1/\
 Br (!b1)
 (R (1:Int) w0)
 (ah 133 #[a0,a1] w0 (λe w2=>∃(x3 x4:Int)(s5:Sl),e=Value.agg #[x3,x4,s5]/\
 Aw w2 #[aa,aa,.slice none 0 0] 202 λw6=>
 Sw w6 w2 #[x3,x4,s5] λw7=>
 ah 163 #[(ak (x4+1)),a2] w7 (λe w8=>∃(s9:Sl)(bk:Int),e=Value.tuple #[s9,bk]/\Kp w2 w7 w8/\
 Br (bk !=0)
 (R bk w8)
 (∃(ZC:Option Addr),ld w8.drew (ae (ae (some a0) 0) 0)=some (.pointer ZC)/\
 ah 164 #[ZC,(lD .i64 x3 1),s9] w8.drew (Ri λcn cU=>Kp w2 w8.drew cU/\
 af cU (aB w2) 0 [x3]/\Br (cn !=0)
 (R cn cU)
 (∃(p14:Option Addr),ld cU (ae (ae (some a0) 0) 0)=some (.pointer p14)/\
 ah 165 #[p14] cU (Ri λcp eu=>Kp w2 cU eu/\
 R cp eu))))))))):ah 115 #[a0,a1,a2] w R:=
 cq bU Tryz.func115 h
def DF.vc{a0:Addr}(h:
 Aw w #[aa,aa,.slice none 0 0] 202 λw0=>
 Aw w0 #[aa,aa,.slice none 0 0] 202 λw1=>
 Sw w1 w0 #[(ak ((ak (2*a1))+1)),aa,.slice none 0 0] λw2=>
 ∃I3:Nat->Int->Int->Int->Sl->World->Prop,
 (∃n4,aL [aa,aa,.slice none 0 0]/\I3 n4 (0) ((ak ((ak (2*a1))+1))) (0) ⟨none,0,0⟩ w2)/\
 ∀(n4:Nat)(us5:Nat->Value)(x6 x7 x8:Int)(s9:Sl)(bN:World),I3 n4 x6 x7 x8 s9 bN->
 Br (x6<2)
 (((0:Int)<=x6/\x6<((2:Nat):Int))/\∃(bS:Int),([(ak (2*a1)),(ak ((ak (2*a1))+1))]:LV)[(x6:Int).toNat*1]? =some (.int .i64 bS)/\
 ∃(QK:Option Addr),ld bN (ae (ae (some a0) 0) 0)=some (.pointer QK)/\
 ah 182 #[QK,bS] bN (λe bJ=>∃(mA:Sl)(b16:Bool),e=Value.tuple #[mA,b16]/\K2 w w0 bN bJ (
 ah 183 #[mA] bJ (λe cJ=>∃(cA:Int)(Y8:Sl)(cW:Int),e=Value.tuple #[cA,Y8,cW]/\K2 w w0 bJ cJ (
 Br (cW==0)
 (Br (cA>x8)
 (Sw cJ w0 #[bS,cA,Y8] λeU=>
 ∃tj,tj<n4/\aL [aa,aa,.slice none 0 0]/\I3 tj ((ak (x6+1))) bS cA Y8 eU)
 (∃tj,tj<n4/\aL [aa,aa,.slice none 0 0]/\I3 tj ((ak (x6+1))) x7 x8 s9 cJ))
 (∃tj,tj<n4/\aL [aa,aa,.slice none 0 0]/\I3 tj ((ak (x6+1))) x7 x8 s9 cJ))))))
 (Sw bN w #[x7,x8,s9] λey=>
 R (Value.agg #[x7,x8,s9]) ey)):ah 133 #[a0,a1] w R:=
 cq ⟨[(3,⟨[(23,.int .i64)],[(1,[.int .i64,.int .i64,.slice])],[]⟩)],[],[]⟩ Tryz.func133 h
def afc.vc{a0:Sl}(h:
 ah 269 #[a0] w (λe w0=>∃(x1:Int),e=Value.int .u16 x1/\
 ah 270 #[.int .u16 x1] w0 (λe w2=>∃(x3 x4:Int),e=Value.agg #[.int .u8 x3,.int .u8 x4]/\
 Aw w2 #[.int .u8 0,.int .u8 0] 321 λw5=>
 Wt w5 ⟨w2,0,none⟩ 2/\(∀w6,w6=aK w5 (aB w2) [.int .u8 x3,.int .u8 x4]->
 Aw w6 #[a0,.slice (aJ (aB w2) (0) (2) 1) (2-0) (2-0)] 62 λw7=>
 ah 226 #[.slice (aB w6) 2 2] w7 (λe w8=>∃(s9:Sl),e=s9/\
 R s9 w8))))):ah 225 #[a0] w R:=
 cq bU Tryz.func225 h
def abH.vc{a0:Sl}(h:
 Br (decide ((((a0.n:Nat):Int):Int)>=2))
 (ah 269 #[a0] w (λe w0=>∃(x1:Int),e=Value.int .u16 x1/\
 R (Value.bool (x1==0)) w0))
 (R false w)):ah 281 #[a0] w R:=
 cq bU Tryz.func281 h
def ajI.vc{a0:Sl}(h:
 ah 296 #[] w (λe w0=>∃(x1:Int),e=Value.int .u16 x1/\
 ah 297 #[.int .u16 x1,a0] w0 (λe w2=>∃(x3:Int),e=Value.int .u16 x3/\
 R (Value.int .u16 x3) w2))):ah 269 #[a0] w R:=
 cq bU Tryz.func269 h
def DG.vc(h:
 Aw w #[.int .u8 0,.int .u8 0] 321 λw0=>
 Wt w0 ⟨w,0,none⟩ 2/\(∀w1,w1=aK w0 w [.int .u8 (fi ((a0:Int).fdiv (2 ^(min (8:Int).toNat 16)))),.int .u8 (fi a0)]->
 ∃(x2 x3:Int),af w1 w 0 [.int .u8 x2,.int .u8 x3]/\
 R (Value.agg #[.int .u8 x2,.int .u8 x3]) w1)):ah 270 #[.int .u16 a0] w R:=
 cq bU Tryz.func270 h
def Xz.vc(h:
 R (Value.int .u16 65535) w):ah 296 #[] w R:=
 cq bU Tryz.func296 h
def Gq.vc{a1:Sl}(h:
 ah 310 #[] w (λe w0=>∃(x1 x2 x3 x4 x5 x6 x7 x8 x9 bk bA bS cn bW cD cp:Int),e=Value.agg #[.int .u16 x1,.int .u16 x2,.int .u16 x3,.int .u16 x4,.int .u16 x5,.int .u16 x6,.int .u16 x7,.int .u16 x8,.int .u16 x9,.int .u16 bk,.int .u16 bA,.int .u16 bS,.int .u16 cn,.int .u16 bW,.int .u16 cD,.int .u16 cp]/\
 Aw w0 #[.int .u16 0,.int .u16 0,.int .u16 0,.int .u16 0,.int .u16 0,.int .u16 0,.int .u16 0,.int .u16 0,.int .u16 0,.int .u16 0,.int .u16 0,.int .u16 0,.int .u16 0,.int .u16 0,.int .u16 0,.int .u16 0] 358 λcJ=>
 Wt cJ ⟨w0,0,none⟩ 16/\(∀du,du=aK cJ (aB w0) [.int .u16 x1,.int .u16 x2,.int .u16 x3,.int .u16 x4,.int .u16 x5,.int .u16 x6,.int .u16 x7,.int .u16 x8,.int .u16 x9,.int .u16 bk,.int .u16 bA,.int .u16 bS,.int .u16 cn,.int .u16 bW,.int .u16 cD,.int .u16 cp]->
 ∃I19:Nat->Int->Int->World->Prop,
 (∃TX,I19 TX (0) a0 du)/\
 ∀(TX:Nat)(avn:Nat->Value)(dJ dA:Int)(gC:World),I19 TX dJ dA gC->
 Br (decide (dJ<((a1.n:Nat):Int)))
 (ez a1.a dJ a1.n/\∃(fE:Int),ld gC (ae a1.a ((dJ:Int).toNat*1))=some (.int .u8 fE)/\
 (0:Int)<=(lD .u16 ((dA:Int).fdiv (2 ^(min (12:Int).toNat 16))) (nv ((fE:Int).fdiv (2 ^(min (4:Int).toNat 8)))))/\((lD .u16 ((dA:Int).fdiv (2 ^(min (12:Int).toNat 16))) (nv ((fE:Int).fdiv (2 ^(min (4:Int).toNat 8))))):Int)<((16:Nat):Int)/\∃(fD:Int),ld gC (ae (aB w0) (((lD .u16 ((dA:Int).fdiv (2 ^(min (12:Int).toNat 16))) (nv ((fE:Int).fdiv (2 ^(min (4:Int).toNat 8))))):Int).toNat*1))=some (.int .u16 fD)/\
 (0:Int)<=(lD .u16 (((lD .u16 (nv (dA*2 ^(min (4:Int).toNat 16))) fD):Int).fdiv (2 ^(min (12:Int).toNat 16))) (nv (oU .u8 fE 15)))/\((lD .u16 (((lD .u16 (nv (dA*2 ^(min (4:Int).toNat 16))) fD):Int).fdiv (2 ^(min (12:Int).toNat 16))) (nv (oU .u8 fE 15))):Int)<((16:Nat):Int)/\∃(ik:Int),ld gC (ae (aB w0) (((lD .u16 (((lD .u16 (nv (dA*2 ^(min (4:Int).toNat 16))) fD):Int).fdiv (2 ^(min (12:Int).toNat 16))) (nv (oU .u8 fE 15))):Int).toNat*1))=some (.int .u16 ik)/\
 ∃n25,n25<TX/\I19 n25 ((ak (dJ+1))) ((lD .u16 (nv ((lD .u16 (nv (dA*2 ^(min (4:Int).toNat 16))) fD)*2 ^(min (4:Int).toNat 16))) ik)) gC)
 (R (Value.int .u16 dA) gC)))):ah 297 #[.int .u16 a0,a1] w R:=
 cq ⟨[(3,⟨[(11,.int .i64),(0,.int .u16)],[],[]⟩)],[],[]⟩ Tryz.func297 h
def XA.vc(h:
 Aw w #[.int .u16 0,.int .u16 0,.int .u16 0,.int .u16 0,.int .u16 0,.int .u16 0,.int .u16 0,.int .u16 0,.int .u16 0,.int .u16 0,.int .u16 0,.int .u16 0,.int .u16 0,.int .u16 0,.int .u16 0,.int .u16 0] 358 λw0=>
 Aw w0 #[.int .u16 0,.int .u16 0,.int .u16 0,.int .u16 0,.int .u16 0,.int .u16 0,.int .u16 0,.int .u16 0,.int .u16 0,.int .u16 0,.int .u16 0,.int .u16 0,.int .u16 0,.int .u16 0,.int .u16 0,.int .u16 0] 358 λw1=>
 ∃I2:Nat->Int->World->Prop,
 (∃n3,I2 n3 (0) w1)/\
 ∀(n3:Nat)(us4:Nat->Value)(x5:Int)(w6:World),I2 n3 x5 w6->
 Br (x5<16)
 (∃I8:Nat->Int->Int->World->Prop,
 (∃n9,I8 n9 (0) ((nv ((nv x5)*2 ^(min (12:Int).toNat 16)))) w6)/\
 ∀(n9:Nat)(Zx:Nat->Value)(bA bS:Int)(bG:World),I8 n9 bA bS bG->
 Br (bA<4)
 (ah 321 #[.int .u16 bS] bG (λe eu=>∃(cp:Int),e=Value.int .u16 cp/\
 ∃Cc,Cc<n9/\I8 Cc ((ak (bA+1))) cp eu))
 ((0:Int)<=x5/\x5<((16:Nat):Int)/\(true=true/\Wr bG (ae (aB w0) ((x5:Int).toNat*1)) 1)/\(∀cJ,cJ=aK bG (ae (aB w0) ((x5:Int).toNat*1)) [.int .u16 bS]->
 ∃n7,n7<n3/\I2 n7 ((ak (x5+1))) cJ)))
 (∃(cA cr cW dh dJ dA eG dT fE fD ik gr iM iB il eF:Int),af w6 (aB w0) 0 [.int .u16 cA,.int .u16 cr,.int .u16 cW,.int .u16 dh,.int .u16 dJ,.int .u16 dA,.int .u16 eG,.int .u16 dT,.int .u16 fE,.int .u16 fD,.int .u16 ik,.int .u16 gr,.int .u16 iM,.int .u16 iB,.int .u16 il,.int .u16 eF]/\
 Wt w6 ⟨w,0,none⟩ 16/\(∀iq,iq=aK w6 w [.int .u16 cA,.int .u16 cr,.int .u16 cW,.int .u16 dh,.int .u16 dJ,.int .u16 dA,.int .u16 eG,.int .u16 dT,.int .u16 fE,.int .u16 fD,.int .u16 ik,.int .u16 gr,.int .u16 iM,.int .u16 iB,.int .u16 il,.int .u16 eF]->
 ∃(jT lJ gx gd kH lu kJ ow qw lK pH g8 qF yL HN vh:Int),af iq w 0 [.int .u16 jT,.int .u16 lJ,.int .u16 gx,.int .u16 gd,.int .u16 kH,.int .u16 lu,.int .u16 kJ,.int .u16 ow,.int .u16 qw,.int .u16 lK,.int .u16 pH,.int .u16 g8,.int .u16 qF,.int .u16 yL,.int .u16 HN,.int .u16 vh]/\
 R (Value.agg #[.int .u16 jT,.int .u16 lJ,.int .u16 gx,.int .u16 gd,.int .u16 kH,.int .u16 lu,.int .u16 kJ,.int .u16 ow,.int .u16 qw,.int .u16 lK,.int .u16 pH,.int .u16 g8,.int .u16 qF,.int .u16 yL,.int .u16 HN,.int .u16 vh]) iq))):ah 310 #[] w R:=
 cq ⟨[(8,⟨[(11,.int .i64),(4,.int .u16)],[],[]⟩),(4,⟨[(5,.int .i64)],[],[]⟩)],[],[]⟩ Tryz.func310 h
def O3.vc(h:
 Br (((oU .u16 a0 32768):Int) !=0)
 (R (Value.int .u16 (lD .u16 (nv (a0*2 ^(min (1:Int).toNat 16))) 4129)) w)
 (R (Value.int .u16 (nv (a0*2 ^(min (1:Int).toNat 16)))) w)):ah 321 #[.int .u16 a0] w R:=
 cq bU Tryz.func321 h
def xh.vc{a0:Sl}(h:
 ∃I0:Nat->Int->Int->World->Prop,
 (∃n1,I0 n1 (0) (0) w)/\
 ∀(n1:Nat)(wg:Nat->Value)(x3 x4:Int)(w5:World),I0 n1 x3 x4 w5->
 Br (decide (x3<((a0.n:Nat):Int)))
 (ez a0.a x3 a0.n/\∃(s7:Sl),ld w5 (ae a0.a ((x3:Int).toNat*1))=some (.slice s7.a s7.n s7.c)/\
 Br (decide (((ak (x4+((s7.n:Nat):Int))):Int)<0))
 (False)
 (∃n6,n6<n1/\I0 n6 ((ak (x3+1))) ((ak (x4+((s7.n:Nat):Int)))) w5))
 (ah 271 #[.slice none 0 0,x4] w5 (λe w8=>∃(s9:Sl),e=s9/\
 ∃Eg:Nat->Int->Sl->World->Prop,
 (∃tj,Eg tj (0) s9 w8)/\
 ∀(tj:Nat)(akp:Nat->Value)(cn:Int)(s14:Sl)(eu:World),Eg tj cn s14 eu->
 Br (decide (cn<((a0.n:Nat):Int)))
 (ez a0.a cn a0.n/\∃(AX:Sl),ld eu (ae a0.a ((cn:Int).toNat*1))=some (.slice AX.a AX.n AX.c)/\
 ∃l18:LV,Rd eu AX.a l18/\ba 1 1 eu s14 AX.n l18/\∀(Y8:Sl)(ef:World),aX 5 1 eu s14 AX.n l18 Y8 ef->
 ∃Mk,Mk<tj/\Eg Mk ((ak (cn+1))) Y8 ef)
 (R s14 eu)))):ah 226 #[a0] w R:=
 cq ⟨[(11,⟨[(27,.int .i64),(6,.slice)],[],[]⟩),(3,⟨[(11,.int .i64),(3,.int .i64)],[],[]⟩)],[],[]⟩ Tryz.func226 h
def Ba.vc{a0:Sl}(h:
 Br (a1<0)
 (False)
 (Br (decide (((ak (a1-(ak (((a0.c:Nat):Int)-((a0.n:Nat):Int))))):Int)>0))
 ((0:Int)<=((a0.c:Nat):Int)/\((a0.c:Nat):Int)<=((a0.c:Nat):Int)/\((0:Int)<=(ak (a1-(ak (((a0.c:Nat):Int)-((a0.n:Nat):Int)))))/\ak (ak (a1-(ak (((a0.c:Nat):Int)-((a0.n:Nat):Int)))))=(ak (a1-(ak (((a0.c:Nat):Int)-((a0.n:Nat):Int)))))/\((ak (a1-(ak (((a0.c:Nat):Int)-((a0.n:Nat):Int))))):Int)*1<=281474976710656)/\ba 1 1 w ⟨(aJ a0.a (0) (a0.c) 1),((((a0.c:Nat):Int):Int).toNat-0),(a0.c-0)⟩ ((ak (a1-(ak (((a0.c:Nat):Int)-((a0.n:Nat):Int))))):Int).toNat (br [.int .u8 0] ((ak (a1-(ak (((a0.c:Nat):Int)-((a0.n:Nat):Int))))):Int).toNat)/\∀(s0:Sl)(w1:World),aX 5 1 w ⟨(aJ a0.a (0) (a0.c) 1),((((a0.c:Nat):Int):Int).toNat-0),(a0.c-0)⟩ ((ak (a1-(ak (((a0.c:Nat):Int)-((a0.n:Nat):Int))))):Int).toNat (br [.int .u8 0] ((ak (a1-(ak (((a0.c:Nat):Int)-((a0.n:Nat):Int))))):Int).toNat) s0 w1->
 (0:Int)<=((a0.n:Nat):Int)/\((a0.n:Nat):Int)<=((s0.c:Nat):Int)/\R (Value.slice (aJ s0.a (0) (s0.c) 1) ((((a0.n:Nat):Int):Int).toNat-0) (s0.c-0)) w1)
 (R a0 w))):ah 271 #[a0,a1] w R:=
 cq bU Tryz.func271 h
def uJ.vc{a0:Addr}(h:
 ∃(s0:Sl),ld w (ae (some a0) 3)=some (.slice s0.a s0.n s0.c)/\
 ∃I1:Nat->Int->Int->World->Prop,
 (∃n2,I1 n2 (0) (0) w)/\
 ∀(n2:Nat)(us3:Nat->Value)(x4 x5:Int)(w6:World),I1 n2 x4 x5 w6->
 Br (decide (x4<((s0.n:Nat):Int)))
 (ez s0.a x4 s0.n/\∃(p8:Option Addr),ld w6 (ae s0.a ((x4:Int).toNat*1))=some (.pointer p8)/\
 aS (dK p8) (aS (dK p8) (∃(b9:Bool),ld w6 (ae p8 1)=some (.bool b9)/\
 ah 79 #[a0,p8] w6 (λe bN=>∃(bA:Int),e=bA/\
 Br (bA !=0)
 (R (Value.tuple #[x5,bA]) bN)
 (Br b9
 (∃n7,n7<n2/\I1 n7 ((ak (x4+1))) ((ak (x5+1))) bN)
 (∃n7,n7<n2/\I1 n7 ((ak (x4+1))) x5 bN))))))
 (R (Value.tuple #[x5,aa]) w6)):ah 22 #[a0] w R:=
 cq ⟨[(3,⟨[(14,.int .i64),(4,.int .i64)],[],[]⟩)],[],[]⟩ Tryz.func22 h
def BH.vc{a0:Addr}{a1:Sl}(h:
 ∃(p0:Option Addr),ld w (ae (some a0) 0)=some (.pointer p0)/\
 ah 115 #[p0,aa,a1] w (λe w1=>∃(x2:Int),e=x2/\
 R x2 w1)):ah 61 #[a0,a1] w R:=
 cq bU Tryz.func61 h
end Go.Proofs.YtkkkfkopcfdmaaaGreatDoor
