import Derived.Test.YtkkkfkopcfdmaaaGreatDoorD
import Derived.Test.YtkkkfkopcfdmaaaGreatDoorC
set_option linter.all false
namespace Go.Proofs.YtkkkfkopcfdmaaaGreatDoor
open Go Go.Vc Go.RowKit Go.Proofs Go.cg
set_option maxRecDepth 100000
set_option maxHeartbeats 8000000
abbrev pv(p:Po):Value:=.agg #[p.1,p.2]
abbrev eg(c:Ce):Value:=.agg #[c.1,c.2.1,c.2.2]
abbrev rF:TypeId:=41
abbrev tPo:TypeId:=40
def wh(a b:Int)(ha:dJ a)(hb:0<b)(w:World):ae 192 #[a,b] w λe w'=>e=Value.int .i64 (a / b)/\w'=w:=by
 apply acF.vc;obtain ⟨h1,h2,h3,h4⟩:=tdm (a:=a) hb;have hq:=Ww ha hb;have ht:=Wx ha hb;refine Br.mk (λh=> ?_) (λ_=>bz.2 ⟨sT.2 aa,bz.2 ⟨sT.2 aa,Br.mk (λh=> ?_) (λh=> ?_)⟩⟩)
 ·simp only [cJ] at h;omega
 ·replace h:=nh h;rw [aK ht,<-(h1 h).1,aK hq];exact ⟨rfl,rfl⟩
 ·replace h:=nC h;rw [aK ht,<-(h2 aa).1];exact ⟨rfl,rfl⟩
def wi(a b:Int)(hb:0<b)(hb':b<=1000000)(w:World):ae 282 #[a,b] w λe w'=>e=Value.int .i64 (a % b)/\w'=w:=by
 apply acG.vc;obtain ⟨h1,h2,h3,h4⟩:=tdm (a:=a) hb;refine Br.mk (λh=> ?_) (λ_=>bz.2 ⟨sT.2 aa,Br.mk (λh=> ?_) (λh=> ?_)⟩)
 ·simp only [cJ] at h;omega
 ·replace h:=nh h;rw [wI,<-(h1 h).2];exact ⟨rfl,rfl⟩
 ·replace h:=nC h;rw [<-(h2 aa).2];exact ⟨rfl,rfl⟩
def GM(a b:Int)(ha:dJ a)(hb:0<b)(w:World):ae 86 #[a,b] w λe w'=>e=Value.int .i64 (a / b)/\w'=w:=by
 apply X7.vc;obtain ⟨h1,h2,h3,h4⟩:=tdm (a:=a) hb;have hq:=Ww ha hb;have ht:=Wx ha hb;have hm:b*a.tdiv b+a.tmod b=a:=Int.mul_tdiv_add_tmod a b;have hsg:(0<=a->0<=a.tmod b)/\(a<=0->a.tmod b<=0):=by refine ⟨λh=>Int.tmod_nonneg b h,λh=> ?_⟩;have:=Int.tmod_nonneg (a:= -a) b aa;rw [Int.neg_tmod] at this;omega
 have aq4:a.tdiv b*b=a-a.tmod b:=by rw [Int.mul_comm];omega
 have oh:dJ (a.tdiv b*b):=by
  rw [aq4];unfold dJ at*;rcases tX a 0 with h|h
  ·have:=hsg.2 aa;have:=(tdm (a:=a) hb);have hle:a-a.tmod b<=0:=by
    rcases tX 0 (a-a.tmod b) with h5|h5
    ·exfalso;rw [<-aq4] at h5;have h6:a.tdiv b<=0:=by have:=Int.tdiv_nonneg (a:= -a) (b:=b) aa aa;rw [Int.neg_tdiv] at this;omega
     have:=Int.mul_nonpos_of_nonpos_of_nonneg h6 (by omega:0<=b);omega
    ·exact h5
   omega
  ·have:=hsg.1 h;have h6:0<=a.tdiv b:=Int.tdiv_nonneg h aa;have:=GN h6 (by omega:0<=b);omega
 rw [aK ht,aK oh];refine bz.2 ⟨sT.2 aa,Br.mk (λh=> ?_) (λh=> ?_)⟩
 ·simp only [cJ,gt_iff_lt] at h;rw [<-(h1 aa).1,aK hq];exact ⟨rfl,rfl⟩
 ·simp only [fA,gt_iff_lt] at h;rw [<-(h2 aa).1];exact ⟨rfl,rfl⟩
def rT(c:Ce):Prop:=dJ c.1/\dJ c.2.1/\dJ c.2.2
def DG(c:Ce)(w:World):ae 255 #[eg c] w λe w'=>(∃i b,e=Value.tuple #[.int .i64 i,.bool b]/\((b=true/\FH c/\i=idx c)\/(b=false/\¬FH c/\i=0)))/\Ext w w':=by
 apply TG.vc;intro w0 e0;have x0:=aQ e0;have hb:Row w0 w [c.1,c.2.1,c.2.2] rF:=Row.nw e0;have zo:=hb.ext (Ext.dr w0);refine Br.mk (λh=> ?_) (λh=>Br.mk (λh2=> ?_) (λh2=> ?_))<;>simp only [cJ,fA] at*
 ·exact ⟨⟨_,_,rfl,.inr ⟨rfl,by unfold FH;omega,rfl⟩⟩,x0⟩
 ·exact ⟨⟨_,_,rfl,.inr ⟨rfl,by unfold FH;omega,rfl⟩⟩,x0⟩
 ·refine (wi c.2.2 16 aA aA w0.drew).mono ?_;rintro e w1 ⟨rfl,rfl⟩;refine ⟨_,rfl,rfl,zo.bI (λj hj=>by simp at hj;subst hj;rfl),zo.bI (λj hj=>by simp at hj;subst hj;rfl),(wi c.1 16 aA aA _).mono ?_⟩;rintro e w1 ⟨rfl,rfl⟩;have e1:aw (c.2.1*16)=c.2.1*16:=wI;have e2:aw (c.2.1*16+c.2.2 % 16)=c.2.1*16+c.2.2 % 16:=wI;have e3:aw ((c.2.1*16+c.2.2 % 16)*16)=(c.2.1*16+c.2.2 % 16)*16:=wI;have e4:aw ((c.2.1*16+c.2.2 % 16)*16+c.1 % 16)=idx c:=wI;refine ⟨_,rfl,rfl,zo.bI (λj hj=>by simp at hj;subst hj;rfl),?_,x0.drew⟩;rw [e1,e2,e3,e4];exact ⟨_,_,rfl,.inl ⟨rfl,by unfold FH;omega,rfl⟩⟩
def qJ(c:Ce)(hc:rT c)(w:World):ae 139 #[eg c] w λe w'=>e=(pv (pos c))/\Ext w w':=by apply TH.vc;intro w0 e0 w1 e1;have x1:Ext w w1.drew:=((aQ e0).br e1).drew;have z0:=fj e0;have hb:Row w1.drew w [c.1,c.2.1,c.2.2] rF:=((by rw [e0];exact Row.new w [_,_,_] _:Row w0 w [c.1,c.2.1,c.2.2] rF).ext (aQ e1)).ext (Ext.dr _);refine (wh c.1 16 hc.1 aA w1.drew).mono ?_;rintro e w2 ⟨rfl,rfl⟩;refine ⟨_,rfl,rfl,rfl,hb.bI (λj hj=>by simp at hj;subst hj;rfl),(wh c.2.2 16 hc.2.2 aA _).mono ?_⟩;rintro e w2 ⟨rfl,rfl⟩;refine ⟨_,rfl,rfl,rfl,λw6 e6=>⟨rfl,x1.ab e6 aa⟩⟩
def X2(p:Po):Prop:=(-1099511627776<=p.1/\p.1<=1099511627776)/\(-1099511627776<=p.2/\p.2<=1099511627776)
def TI(p:Po)(hp:X2 p)(i:Int)(hi:0<=i/\i<8192)(w:World):ae 249 #[pv p,i] w λe w'=>e=Value.tuple #[eg (cellAt p i),true]/\Ext w w':=by apply X9.vc;obtain ⟨⟨p1,p2⟩,p3,p4⟩:=hp;intro w0 e0 w1 e1;have z0:=fj e0;have x1:Ext w w1:=(aQ e0).br e1;have t1:Int.tmod i 16=i % 16:=DH hi.1;have t2:Int.tdiv i 256=i / 256:=sa hi.1;have t3:Int.tdiv i 16=i / 16:=sa hi.1;have t4:Int.tmod (i / 16) 16=i / 16 % 16:=DH aa;have w1':aw (i / 16)=i / 16:=wI;have w2':aw (i / 256)=i / 256:=wI;have w3':aw (p.1*16)=p.1*16:=wI;have w4':aw (p.2*16)=p.2*16:=wI;have w5':aw (p.1*16+i % 16)=p.1*16+i % 16:=wI;have w6':aw (p.2*16+i / 16 % 16)=p.2*16+i / 16 % 16:=wI;rw [t1,t2,t3,w1',w2',w3',w4',t4,w5',w6'];refine Br.mk (λh=> ?_) (λ_=>Br.mk (λh=> ?_) (λ_ w4 e4=>⟨rfl,x1.ab e4 aa⟩))<;>simp only [cJ] at h<;>omega
def T0(s x z:Int)(w:World):ae 284 #[s,x,z] w λe w'=>e=Value.int .u64 (hash s x z)/\w'=w:=by apply acT.vc;rw [awa,awb];exact ⟨rfl,rfl⟩
def ag9(s x z:Int):aw (Int.tmod (hash s x z) 9)=iL s x z:=by rw [DH (aha s x z)];exact wI
def pa(s x z Co:Int)(hn:0<=Co/\Co<=64){b:Nat}{w:World}(hb:Row w b [s] My):ae 283 #[x,z,Co,b] w λe w'=>e=Value.int .i64 (iL s x z*Co)/\w'=w:=by apply Mz.vc;refine ⟨s,by rw [hb.ld];rfl,(T0 s x z w).mono ?_⟩;rintro e w1 ⟨rfl,rfl⟩;refine ⟨_,rfl,?_⟩;rw [ag9];have hc:=jR s x z;have h1:0<=iL s x z*Co:=GN hc.1 hn.1;have h2:iL s x z*Co<=8*64:=Int.mul_le_mul hc.2 hn.2 hn.1 aA;rw [wI];exact ⟨rfl,rfl⟩
def MA(s x z:Int)(hx:dJ x)(hz:dJ z)(w:World):ae 250 #[s,x,z] w λe w'=>e=Value.int .i64 (ground s x z)/\Ext w w':=by
 apply T3.vc;intro w0 e0;have x0:=aQ e0;have hb:Row w0 w [s] My:=Row.nw e0;refine (wh x 8 hx aA w0).mono ?_;rintro e w1 ⟨rfl,rfl⟩;refine ⟨_,rfl,rfl,(wh z 8 hz aA w1).mono ?_⟩;rintro e w1 ⟨rfl,rfl⟩;refine ⟨_,rfl,rfl,(wi x 8 aA aA w1).mono ?_⟩;rintro e w1 ⟨rfl,rfl⟩;refine ⟨_,rfl,rfl,(wi z 8 aA aA w1).mono ?_⟩;rintro e w1 ⟨rfl,rfl⟩;refine ⟨_,rfl,rfl,?_⟩;have hdx:dJ (x / 8+1):=by unfold dJ at*;omega
 have hdz:dJ (z / 8+1):=by unfold dJ at*;omega
 have a:=vl (jR s (x / 8) (z / 8)) (u:=8-x % 8) (v:=8-z % 8) aa aa;have b:=vl (jR s (x / 8+1) (z / 8)) (u:=x % 8) (v:=8-z % 8) aa aa;have c:=vl (jR s (x / 8) (z / 8+1)) (u:=8-x % 8) (v:=z % 8) aa aa;have d:=vl (jR s (x / 8+1) (z / 8+1)) (u:=x % 8) (v:=z % 8) aa aa;have q1:aw (8-x % 8)=8-x % 8:=wI;have q2:aw (8-z % 8)=8-z % 8:=wI;rw [q1,q2,aK hdx,aK hdz,aK (n:=(8-x % 8)*(8-z % 8)) gA,aK (n:=x % 8*(8-z % 8)) gA,aK (n:=(8-x % 8)*(z % 8)) gA,aK (n:=x % 8*(z % 8)) gA];refine (pa s _ _ _ ⟨a.1,a.2.1⟩ hb).mono ?_;rintro e w1 ⟨rfl,rfl⟩;refine ⟨_,rfl,(pa s _ _ _ ⟨b.1,b.2.1⟩ hb).mono ?_⟩;rintro e w1 ⟨rfl,rfl⟩;refine ⟨_,rfl,(pa s _ _ _ ⟨c.1,c.2.1⟩ hb).mono ?_⟩;rintro e w1 ⟨rfl,rfl⟩;refine ⟨_,rfl,(pa s _ _ _ ⟨d.1,d.2.1⟩ hb).mono ?_⟩;rintro e w1 ⟨rfl,rfl⟩;refine ⟨_,rfl,?_,x0⟩;have hg:=KN s x z;have e1:ground s x z=6+(iL s (x / 8) (z / 8)*((8-x % 8)*(8-z % 8))+iL s (x / 8+1) (z / 8)*(x % 8*(8-z % 8))+iL s (x / 8) (z / 8+1)*((8-x % 8)*(z % 8))+iL s (x / 8+1) (z / 8+1)*(x % 8*(z % 8))) / 64:=rfl;generalize iL s (x / 8) (z / 8)*((8-x % 8)*(8-z % 8))=A at*;generalize iL s (x / 8+1) (z / 8)*(x % 8*(8-z % 8))=B at*;generalize iL s (x / 8) (z / 8+1)*((8-x % 8)*(z % 8))=C at*;generalize iL s (x / 8+1) (z / 8+1)*(x % 8*(z % 8))=D at*;rw [aK (n:=A+B) gA,aK (n:=A+B+C) gA,aK (n:=A+B+C+D) gA,sa aa,aK (n:=(A+B+C+D) / 64) gA,<-e1,wI]
def acU(y g:Int)(hg:6<=g/\g<=100)(w:World):ae 251 #[y,g] w λe w'=>e=Value.int .i64 (T4 y g)/\w'=w:=by
 apply alb.vc;have q1:aw (g-3)=g-3:=wI;have q2:aw (g-1)=g-1:=wI;rw [q1,q2];have fin:∀{v:Int},T4 y g=v->(Ending.returned v=Value.int .i64 (T4 y g)/\w=w):=λh=>⟨by rw [h],rfl⟩
 refine Br.mk (λh1=>fin ?_) (λh1=>Br.mk (λh2=>fin ?_) (λh2=>Br.mk (λh3=>fin ?_) (λh3=>Br.mk (λh4=>fin ?_) (λh4=>Br.mk (λh5=>fin ?_) (λh5=>Br.mk (λh6=>Br.mk (λh7=>fin ?_) (λh7=>Br.mk (λh8=>fin ?_) (λh8=>Br.mk (λh9=>fin ?_) (λh9=>fin ?_)))) (λh6=>Br.mk (λh8=>fin ?_) (λh8=>Br.mk (λh9=>fin ?_) (λh9=>fin ?_))))))))
 all_goals simp only [cJ,fA,beq_iff_eq,beq_eq_false_iff_ne,ne_eq] at*
 all_goals unfold T4
 all_goals (repeat' split)<;>omega
open Go.aR
def adW(ag:Int)(p:Po){k:Nat}(hk:k<8192):(made ag p)[k]? =some (T4 (cellAt p k).2.1 (ground ag (cellAt p k).1 (cellAt p k).2.2)):=by unfold made;rw [aS,Gl hk];rfl
def alQ{p:Po}(hp:X2 p)(i:Int)(hi:0<=i/\i<8192):rT (cellAt p i):=by obtain ⟨⟨p1,p2⟩,p3,p4⟩:=hp;unfold rT cellAt dJ;simp only;omega
def grV(ag:Int)(p:Po)(k:Nat):LV:=(List.range 256).map λi:Nat=> .int .i64 (if i<k then ground ag (cellAt p i).1 (cellAt p i).2.2 else 0)
def Bw(ag:Int)(p:Po)(k:Nat):(grV ag p k).length=256:=by simp [grV]
def FP(ag:Int)(p:Po)(k:Nat){i:Nat}(hi:i<256):(grV ag p k)[i]? =some (.int .i64 (if i<k then ground ag (cellAt p i).1 (cellAt p i).2.2 else 0)):=by unfold grV;rw [aS,Gl hi];rfl
def ah3(ag:Int)(p:Po){k:Nat}(hk:k<256):(grV ag p k).set k (.int .i64 (ground ag (cellAt p k).1 (cellAt p k).2.2))=grV ag p (k+1):=by
 apply jt;intro i;rw [iD];rcases jq i 256 with h|h
 ·rw [FP _ _ (k+1) h];split
  ·rename_i e;subst e;rw [if_pos (by rw [Bw];exact h),if_pos aa]
  ·rename_i e;rw [FP _ _ k h];congr 3;exact propext ⟨λh=>by omega,λh=>by omega⟩
 ·rw [jv (by rw [Bw];exact h),jv (by rw [Bw];exact h),if_neg aa]
def aez(ag:Int)(p:Po):grV ag p 0=List.replicate 256 (.int .i64 0):=by
 apply List.ext_getElem?;intro i;rcases Nat.lt_or_ge i 256 with h|h
 ·rw [FP _ _ 0 h,List.getElem?_replicate,if_pos h,if_neg (by omega)]
 ·rw [List.getElem?_eq_none (by rw [Bw];exact h),List.getElem?_eq_none (by rw [List.length_replicate];exact h)]
def GZ(ag:Int)(p:Po):List (LV):=(made ag p).map λb=> [.int .i64 b]
def KL(ag:Int)(p:Po):(GZ ag p).length=8192:=by unfold GZ;rw [aL,si]
def ah4(ag:Int)(p:Po){k:Nat}(hk:k<8192):(made ag p)[k]? =some (T4 ((k:Int) / 256) (ground ag (cellAt p ((k % 256:Nat):Int)).1 (cellAt p ((k % 256:Nat):Int)).2.2)):=by
 rw [adW ag p hk];have e1:(cellAt p ((k % 256:Nat):Int)).1=(cellAt p k).1:=by unfold cellAt;simp only;omega
 have e2:(cellAt p ((k % 256:Nat):Int)).2.2=(cellAt p k).2.2:=by unfold cellAt;simp only;omega
 rw [e1,e2];rfl
abbrev WG(bp bs:Nat):Nat->Prop:=λi=>i=bp\/i=bs
abbrev aj1(bp bs:Nat):Value:=.func (.func 248) #[] #[bp,bs]
attribute [local irreducible] made grV in
def G0(ag:Int)(p:Po)(hp:X2 p)(bp bs:Nat)(W0:World)(hbp:Row W0 bp [p.1,p.2] tPo)(hbs:Row W0 bs [ag] My):
  Iter Tryz.prog (aj1 bp bs) W0 (WG bp bs) (GZ ag p):=by
 refine ⟨⟨_,_,_,rfl,by kernel_rfl⟩,?_⟩;intro y B J Jx F0 W hB hsJ hsX zo hRd hround h0;refine cH (by kernel_rfl) (by rfl) ?_;apply P2.vc;have same:∀{w:World} {F:Nat->Prop},(∀i,WG bp bs i->¬F i/\i<w.heap.size/\w.heap[i]? =W0.heap[i]?)->Row w bp [p.1,p.2] tPo/\Row w bs [ag] My:=λ{w F} h=>
  ⟨hbp.same (h bp (.inl rfl)).2.2,hbs.same (h bs (.inr rfl)).2.2⟩
 intro w0 e0;have x0:Ext W w0:=(Ext.cG W).br e0;have z0:=fj e0;have hg0:Row w0 W.heap.size (grV ag p 0) 311:=by rw [e0,aez];exact Row.new W (List.replicate 256 (0:Int)) _
 clear e0;have hF0:=zo _ _ _ h0;have bel:∀{w:World},Ext W w->J 0 F0 w/\∀i,WG bp bs i->¬F0 i/\i<w.heap.size/\w.heap[i]? =W0.heap[i]? :=λ{w} x=>
  ⟨hsJ _ _ _ _ h0 (Below.mono x hB) λi hi=>x.heap (hF0 i hi),λi hi=>by obtain ⟨h1,h2,h3⟩:=hRd i hi;exact ⟨h1,by have:=x.size;omega,(x.heap h2).trans h3⟩⟩
 refine ⟨λn x wr=>Ext W wr/\W.heap.size<wr.heap.size/\∃k:Nat,x=k/\k+n=256/\Row wr W.heap.size (grV ag p k) 311,⟨256,x0,aa,0,rfl,aa,hg0⟩,?_⟩;rintro n us x wr ⟨xr,zr,k,rfl,hk,hg⟩;refine Br.mk (λhc=> ?_) (λhc=> ?_)
 ·replace hc:=nh hc;obtain ⟨Ks,j8⟩:=same (bel xr).2;refine ⟨p.1,p.2,Ks.bI (λj hj=>by rw [Nat.zero_add]),(TI p hp k (by omega) wr).mono ?_⟩;rintro e w9 ⟨rfl,x9⟩;refine ⟨_,_,_,_,rfl,?_⟩;intro bH uU ee qu;have cW:Ext w9 ee:=((Ext.cG _).br uU).ab qu (Nat.le_refl _);have z15:ee.heap.size=w9.heap.size+1:=by rw [qu,setRow_size,uU];simp
  have z9:=x9.size;have aA2:=j8.ext (x9.tr cW);refine ⟨ag,by rw [aA2.ld];rfl,?_⟩;have bc:=alQ hp k ⟨aa,aa⟩;refine (MA ag _ _ bc.1 bc.2.2 ee).mono ?_;rintro e cL ⟨rfl,dH⟩;have z17:=dH.size;have aA3:=hg.ext ((x9.tr cW).tr dH);have Jd:((k:Int).toNat*1)=k:=by omega
  rw [Jd];obtain ⟨p1,p2⟩:=aA3.ic (j:=k) (v:=.int .i64 (ground ag (cellAt p k).1 (cellAt p k).2.2)) (by rw [Bw];omega) rfl;refine ⟨_,rfl,dH.k,aa,aa,⟨rfl,p1⟩,?_,λfK e19=> ?_⟩
  ·rw [cP];intro e;have:W.heap.size=w9.heap.size:=by simpa [bk] using e
   omega
  ·obtain ⟨q1,q2⟩:=p2 fK e19;have Tq:IntKind.wrap .i64 ((k:Int)+1)=((k+1:Nat):Int):=by rw [wI];omega
   have aiE:aP (grV ag p k) k [.int .i64 (ground ag (cellAt p k).1 (cellAt p k).2.2)]=grV ag p (k+1):=by rw [<-ah3 ag p (by omega)];rfl
   rw [aiE] at q1;exact ⟨n-1,aa,q2.ext (xr.tr ((x9.tr cW).tr dH)) (λi hi=>by omega),by have:=q2.size;omega,k+1,Tq,aa,q1⟩
 ·replace hc:=nC hc;have atN:k=256:=by omega
  subst atN;obtain ⟨hJr,hKr⟩:=bel xr;refine ⟨λn x wr=>∃(k:Nat)(F:Nat->Prop),x=k/\k+n=8192/\B<=wr.heap.size/\W.heap.size<wr.heap.size/\¬F W.heap.size/\J k F wr/\Row wr W.heap.size (grV ag p 256) 311,
   ⟨8192,0,F0,rfl,aa,aa,zr,λhf=>by have:=hF0 _ hf;omega,hJr,hg⟩,?_⟩
  rintro n us x wq ⟨k,F,rfl,hk,hBq,hzq,hnF,hJq,hgq⟩;refine Br.mk (λhc=> ?_) (λhc=> ?_)
  ·replace hc:=nh hc;have t1:Int.tmod (k:Int) 256=((k % 256:Nat):Int):=by rw [Int.tmod_eq_emod_of_nonneg (by omega)];omega
   have t2:IntKind.wrap .i64 (Int.tdiv (k:Int) 256)=(k:Int) / 256:=by rw [Int.tdiv_eq_ediv_of_nonneg (by omega),wI]
   rw [t1,t2];have Jd:(((k % 256:Nat):Int).toNat*1)=k % 256:=by omega
   rw [Jd];have eI:=FP ag p 256 (i:=k % 256) (by omega);rw [if_pos (by omega)] at eI;refine ⟨aa,aa,_,hgq.at _ eI,(acU _ _ (KN _ _ _) wq).mono ?_⟩;rintro e fy ⟨rfl,rfl⟩;refine ⟨_,rfl,?_⟩;have hx:(GZ ag p)[k]? =some [.int .i64 (T4 ((k:Int) / 256) (ground ag (cellAt p ((k % 256:Nat):Int)).1 (cellAt p ((k % 256:Nat):Int)).2.2))]:=by unfold GZ;rw [List.getElem?_map,ah4 ag p (by omega)];rfl
   refine bV (hround _ _ _ _ hx hJq) ?_;have Tq:IntKind.wrap .i64 ((k:Int)+1)=((k+1:Nat):Int):=by rw [wI];omega
   rintro e eG (⟨rfl,F2,Wb,iC⟩|⟨rfl,F2,Wb,iC⟩)
   ·refine ⟨true,rfl,Br.mk (λh=>by cases h) (λ_=>⟨n-1,aa,k+1,F2,Tq,aa,by have:=iC.size;omega,by have:=iC.size;omega,λhf=> ?_,Wb,hgq.same (iC.same _ hzq hnF)⟩)⟩;rcases iC.sub _ hf with hf|hf
    ·exact hnF hf
    ·omega
   ·exact ⟨false,rfl,Br.mk (λ_=>⟨⟨_,rfl⟩,.inr ⟨F2,Wb⟩⟩) (λh=>by cases h)⟩
  ·replace hc:=nC hc;have LX:k=8192:=by omega
   subst LX;exact ⟨⟨_,rfl⟩,.inl ⟨F,by rw [KL];exact hJq⟩⟩
def GY(ag:Int)(p:Po)(w:World):ae 187 #[ag,pv p] w λe w'=>e=(aj1 (w.heap.size+1) w.heap.size)/\Row w' (w.heap.size+1) [p.1,p.2] tPo/\Row w' w [ag] My/\Ext w w':=by apply YL.vc;intro w0 e0 w1 e1;have z0:=fj e0;have x1:=aQ e1;have hb:Row w0 w [ag] My:=Row.nw e0;refine ⟨by rw [z0],?_,hb.ext x1,(aQ e0).tr x1⟩;rw [<-z0,e1];exact Row.new w0 [_,_] _
def Yf(s:Sl)(c:List Int)(w:World)(hs:OwC 0 w s c):ae 189 #[s] w λe w'=>(∃s':Sl,e=s'/\TT w s' c)/\w'=w:=by
 apply EC.vc;have hn:=TT.len hs.rdc;have aa3:s.n<=s.c:=by
  rcases ar.form hs aA with ⟨h,-⟩|⟨g0,cs,ha,hg0,hr,hc,LU,-⟩
  ·rw [h];exact ak _
  ·exact LU
 have:=RdK.cut hs.rdc (m:=s.n) (c':=s.n) (c'':=s.n) (by rw [aL];omega);rw [fl (by rw [aL];omega)] at this;exact ⟨aa,aa,aa,aa,⟨⟨aI s.a 0 s.n 1,s.n,s.n⟩,rfl,this⟩,rfl⟩
attribute [local irreducible] made in
def DL(ag:Int)(p:Po)(hp:X2 p)(w:World):ae 136 #[ag,pv p] w λe w'=>∃s':Sl,e=s'/\xD w w' s' (gP (made ag p))/\Ext w w':=by
 apply Yg.vc;intro w0 e0 w1 e1;have z0:=fj e0;have z1:w1.heap.size=w.heap.size+2:=by rw [e1];simp [z0]
 have lg:Ext w w1:=(aQ e0).br e1;refine (GY ag p w1).mono ?_;rintro e w2 ⟨rfl,hbp,hbs,x2⟩;have iQ:=hbp.lt;have xx:=lg.tr x2;have zz:=xx.size;refine ⟨_,rfl,x2.heap aa,x2.heap aa,?_⟩;refine ⟨GZ ag p,WG (w1.heap.size+1) w1.heap.size,λ_=>False,λn F s w'=>(∀i,F i ↔ s.aZ=some i)/\OwC (w2.heap.size+2) w' s ((made ag p).take n)/\Ext w w'/\w2.heap.size+2<=w'.heap.size,λ_ _ _ _=>False,
  ?_,?_,λ_ _ _ _ _ h=>h.elim,?_,λ_ _ _ _ h=>h.elim,λi hi=>⟨by rcases hi with h|h<;>omega,id,by rcases hi with h|h<;>omega,by rcases hi with h|h<;>omega,trivial⟩,?_,?_,?_,trivial⟩
 ·intro x hx;obtain ⟨b,_,rfl⟩:=aU.1 hx;exact ⟨b,rfl⟩
 ·rintro n F s w3 w4 ⟨hF,ho,lj,hz⟩ hbl2 hsame;exact ⟨hF,ar.aW ho λi hi=>hsame i ((hF i).2 hi),lj.trans (Below.mono hbl2 zz),by have:=hbl2.size;omega⟩
 ·rintro n F s w3 ⟨hF,ho,lj,hz⟩ i hi;have:=ho.own.lt ((hF i).1 hi);omega
 ·intro w3 zy;have amy:Below w2 w2 w3:=zy.ext;refine ⟨G0 ag p hp _ _ w3 (hbp.ext amy) (hbs.ext amy),rfl,?_,?_,xx.trans (Below.mono amy zz),by have:=zy.size;omega⟩
  ·intro i;simp [Sl.aZ]
  ·rw [DB];exact ar.nil
 ·rintro n F us o y w3 hx hI;have hy:(made ag p)[n]? =some y:=by
   unfold GZ at hx;rw [aS,xE] at hx;obtain ⟨b,hb,e⟩:=hx;have:b=y:=by simpa using e
   rw [<-this];exact hb
  refine ⟨Below.refl _ _,λw4 g8 hI3=> ?_⟩;obtain ⟨hF,ho,lj,hz⟩:=hI3;intro w5 e5;have x5:=aQ e5;have z5:=fj e5;have hnl:n<8192:=by have:=(bZ.1 hy).1;rw [si] at this;exact this
  have hon:=TT.len ho.rdc;rw [cY,si] at hon;obtain ⟨hp1,bf⟩:=(ar.ext ho x5).append (bytes:=8) (news:=iv y) aa rfl (vd _ _) aa aa;refine ⟨hp1,λs5 w6 hr=> ?_⟩;obtain ⟨ho5,hn5,xb,Om,iX⟩:=bf s5 w6 hr;have hob:∀i,o.aZ=some i->w2.heap.size+2<=i/\i<w4.heap.size:=λi hi=>ho.own.lt hi
  have hz6:=xb.size;refine ⟨Om _ (λhb=>by have:=hob _ hb;omega) aa,Om _ (λhb=>by have:=hob _ hb;omega) aa,Om _ (λhb=>by have:=hob _ hb;omega) aa,?_⟩;intro w7 hw7;have e7:∀i,i≠w0.heap.size->w7.heap[i]? =w6.heap[i]? :=λi hi=>by rw [hw7];exact setRow_other _ _ _ _ hi
  have z7:w7.heap.size=w6.heap.size:=by rw [hw7,setRow_size]
  have hb5:∀i,s5.aZ=some i->w2.heap.size+2<=i:=λi hi=>by
   rcases iX with h|h
   ·exact (hob i (by rw [<-h];exact hi)).1
   ·rw [h] at hi;simp at hi;omega
  refine ⟨λi=>s5.aZ=some i,⟨rfl,λi=>Iff.rfl,?_,?_,aa⟩,Step.late ⟨?_,aa,?_⟩⟩
  ·have e:(made ag p).take (n+1)=(made ag p).take n++ [y]:=by rw [dy,hy];rfl
   rw [e];have h5:OwC (w2.heap.size+2) w6 s5 ((made ag p).take n++ [y]):=by show ar _ _ 1 _ _ (((made ag p).take n++ [y]).map iv);rw [bJ];exact ho5
   exact ar.aW h5 λi hi=>e7 i (by have:=hb5 i hi;omega)
  ·have h5:Ext w w6:=(lj.tr x5).trans (Below.mono xb aa);rw [hw7];exact h5.setRow aa _
  ·rintro i (hi|hi)
   ·rcases iX with h|h
    ·exact .inl (.inl ((hF i).2 (by rw [<-h];exact hi)))
    ·rw [h] at hi;simp at hi;exact .inr aa
   ·exact .inl (.inr hi)
  ·intro i hi hni;have h1:i≠w0.heap.size:=λe=>hni (.inr (by simp [e]))
   rw [e7 i h1,Om i (λhb=>hni (.inl ((hF i).2 hb))) aa];exact x5.heap hi
 ·rintro F us o w3 ⟨hF,ho,lj,hz⟩ hD;rw [KL,fl (by rw [si];exact ak _)] at ho;refine (Yf o (made ag p) w3 (ar.low ho (gV _))).mono ?_;rintro e w4 ⟨⟨s4,rfl,hs4⟩,rfl⟩;refine ⟨s4,rfl,rfl,rfl,(Ms s4 (made ag p) w4 hs4 (by rw [si];decide)).mono ?_⟩;rintro e w5 ⟨s5,rfl,ho5,x5⟩;refine ⟨s5,rfl,x5.heap aa,x5.heap aa,(x5.heap aa).trans hD,λw6 g8=> ?_⟩;have hz5:=x5.size;have ho6:xD w w6 s5 (gP (made ag p)):=ar.low (ar.aW ho5 λi hi=>g8.same i (by have:=(ho5.own.lt hi).1;omega)) aa;exact ⟨s5,rfl,ho6,(lj.tr x5).trans (Below.mono (g8.below (ak _)) aa)⟩
abbrev yG:TypeId:=175
structure JI(w:World)(g:Nat)(s:Sl)(p:Po)(C:List Int):Prop where
 row:Row w g [p.1,p.2,s] yG
 own:xD 0 w s (gP C)
 len:C.length=8192
 may:∀b ∈ C,cE b=true
def JI.aW{w w':World}{g:Nat}{s:Sl}{p:Po}{C:List Int}(h:JI w g s p C){F:Nat->Prop}(hm:Mod F w w')(hg:¬F g)(hs:∀b,s.aZ=some b->¬F b):JI w' g s p C:=
 ⟨hm.row h.row hg,hm.gU h.own hs,h.len,h.may⟩
def JI.ext{w w':World}{g:Nat}{s:Sl}{p:Po}{C:List Int}(h:JI w g s p C)(x:Ext w w'):JI w' g s p C:=⟨h.row.ext x,ar.ext h.own x,h.len,h.may⟩
def JI.bd{w:World}{g:Nat}{s:Sl}{p:Po}{C:List Int}(h:JI w g s p C):Bd C.length:=by rw [h.len];decide
def LN(p:Po)(c:Ce):Bool:=decide (0<=c.2.1) && decide (c.2.1<32) &&(pos c==p)
def pd(p:Po)(c:Ce):LN p c=true ↔ FH c/\pos c=p:=by unfold LN FH;simp only [fk,cJ,beq_iff_eq]
def HG(p:Po)(C:List Int)(c:Ce):Int:=if LN p c then atC C (idx c) else 0
def kO(p:Po)(C:List Int)(c:Ce)(b:Int):List Int × Int:=if LN p c=false then (C,5) else if cE b=false then (C,1) else (C.set (idx c).toNat b,0)
def Iz(p:Po)(c:Ce)(hc:rT c)(w:World):ae 193 #[pv p,eg c] w λe w'=>(∃i,e=Value.tuple #[.int .i64 i,.bool (LN p c)]/\(LN p c=true->i=idx c))/\Ext w w':=by
 apply AK.vc;intro w0 e0 w1 e1;have z0:=fj e0;have z1:w1.heap.size=w.heap.size+2:=by rw [e1];simp [z0]
 have x1:Ext w w1:=(aQ e0).br e1;have hb:Row w1 w [p.1,p.2] 172:=(by rw [e0];exact Row.new w [_,_] _:Row w0 w [p.1,p.2] 172).ext (aQ e1);refine (DG c w1).mono ?_;rintro e w2 ⟨⟨i,b,rfl,hi⟩,x2⟩;have z2:=x2.size;refine ⟨i,b,rfl,x2.heap aa,x2.heap aa,Br.mk (λhbb=> ?_) (λhbb=> ?_)⟩
 ·rcases hi with ⟨-,hy,rfl⟩|⟨h,-⟩
  ·refine (qJ c hc w2.drew).mono ?_;rintro e w5 ⟨rfl,x5⟩;refine ⟨_,_,rfl,x5.heap (show w.heap.size<w2 by omega),x5.heap (show w0.heap.size<w2 by omega),((hb.ext x2).ext (Ext.dr _)|>.ext x5).bI (λj hj=>by rw [eC]),?_,(x1.tr x2).tr ((Ext.dr _).tr x5)⟩;refine ⟨_,?_,λ_=>rfl⟩;have:LN p c=(((pos c).1==p.1) &&((pos c).2==p.2)):=by unfold LN;unfold FH at hy;rw [decide_eq_true hy.1,decide_eq_true hy.2];rfl
   rw [this]
  ·rw [h] at hbb;cases hbb
 ·rcases hi with ⟨h,-⟩|⟨-,hy,rfl⟩
  ·rw [h] at hbb;cases hbb
  ·have:LN p c=false:=by
    cases hk:LN p c with
    |false=>rfl
    |true=>exact absurd ((pd p c).1 hk).1 hy
   rw [this];exact ⟨⟨_,rfl,λh=>by cases h⟩,(x1.tr x2).drew⟩
def aii(y g:Int):cE (T4 y g)=true:=by rcases Zt y g with h|h|h|h|h<;>rw [h]<;>decide+kernel
def aeO(ag:Int)(p:Po):∀b ∈ made ag p,cE b=true:=by intro b hb;unfold made at hb;obtain ⟨i,_,rfl⟩:=aU.1 hb;exact aii _ _
def Uu(ag:Int)(p:Po)(hp:X2 p)(w:World):ae 78 #[ag,pv p] w λe w'=>∃g s,e=Value.pointer (aD g)/\JI w' g s p (made ag p)/\Ext w w'/\w.heap.size<=g/\∀b,s.aZ=some b->w.heap.size<=b:=by
 apply Uo.vc;intro w0 e0;have x0:=aQ e0;have z0:=fj e0;have hb:Row w0 w [p.1,p.2] tPo:=Row.nw e0;have fin:∀{w1 w3:World} {s:Sl},Ext w0.drew w1->xD w0.drew.heap.size w1 s (gP (made ag p))->w3=w1.alloc (.cells #[p.1,p.2,.slice s.a s.n s.c] yG)->JI w3 w1 s p (made ag p)/\Ext w w3/\w.heap.size<=w1/\∀b,s.aZ=some b->w.heap.size<=b:=λ{w1 w3 s} x1 ho e3=>by have x3:=aQ e3;refine ⟨⟨by rw [e3];exact Row.new w1 [_,_,_] _,(ar.low ho (gV _)).ext x3,si _ _,aeO _ _⟩,((x0.drew).tr x1).tr x3,(x0.drew.tr x1).size,λb hb=>gG x0.drew.size (ho.own.lt hb).1⟩
 refine ⟨(DL ag p hp w0.drew).mono ?_,(DL ag p hp w0.drew).mono ?_⟩
 ·rintro e w1 ⟨s,rfl,ho,x1⟩;refine ⟨s,rfl,x1.heap (show w.heap.size<w0 by omega),λw3 e3=>⟨_,s,rfl,fin x1 ho e3⟩⟩
 ·rintro e w1 ⟨s,rfl,ho,x1⟩;refine ⟨s,rfl,x1.heap (show w.heap.size<w0 by omega),((hb.ext (Ext.dr _)).ext x1).bI (λj hj=>by rw [eC]),λw3 e3=>⟨_,s,rfl,fin x1 ho e3⟩⟩
def JI.pos{w:World}{g:Nat}{s:Sl}{p:Po}{C:List Int}(h:JI w g s p C):ah w (af (aD g) 0) 0 [p.1,p.2]:=by
 rw [aV];exact h.row.bI (λj hj=>by
  simp at hj;rcases j with _|_|j
  ·rfl
  ·rfl
  ·omega)
def aaZ{C:List Int}(h:C.length=8192):(∀r ∈ gP C,0<=r.1)/\bt (gP C)<=1099511627776/\Bd (gP C).length:=by refine ⟨λr hr=>by have:=(np hr).1;omega,by rw [nS,h];decide,?_⟩;have:=te C;show (gP C).length<=1099511627776;omega
def FN{w:World}{g:Nat}{s:Sl}{p:Po}{C:List Int}(h:JI w g s p C)(c:Ce)(hc:rT c):ae 140 #[g,eg c] w λe w'=>e=Value.tuple #[(HG p C c),.bool (LN p c)]/\Ext w w':=by
 apply Hh.vc;intro w0 e0;have x0:Ext w w0.drew:=(Ext.cG w|>.br e0).drew;have z0:=fj e0;have h0:=h.ext x0;refine ⟨p.1,p.2,h0.pos,(Iz p c hc w0.drew).mono ?_⟩;rintro e w3 ⟨⟨i,rfl,hi⟩,x3⟩;have h3:=h0.ext x3;have z3:=x3.size;refine ⟨i,_,rfl,x3.heap (show w.heap.size<w0 by omega),Br.mk (λhb=> ?_) (λhb=> ?_)⟩
 ·have hf:LN p c=false:=by simpa using hb
  refine ⟨?_,x0.tr x3⟩;unfold HG;rw [hf];rfl
 ·have hk:LN p c=true:=by simpa using hb
  have hie:=hi hk;subst hie;have jV:=yK ((pd p c).1 hk).1;obtain ⟨q1,q2,q3⟩:=aaZ h.len;refine ⟨s,h3.row.at 2 rfl,(Ns s (gP C) (idx c) w3 (xD.Jb h3.own) q3 q1 q2 gA).mono ?_⟩;rintro e w7 ⟨rfl,x7⟩;refine ⟨_,rfl,x7.heap (kr (show w.heap.size<w0 by omega) z3),?_,(x0.tr x3).tr x7⟩;rw [mS];unfold HG;rw [hk];rfl
def WO{p:Po}{C:List Int}(hl:C.length=8192)(hm:∀b ∈ C,cE b=true)(c:Ce)(b:Int):(kO p C c b).1.length=8192/\∀x ∈(kO p C c b).1,cE x=true:=by
 unfold kO;split
 ·exact ⟨hl,hm⟩
 ·split
  ·exact ⟨hl,hm⟩
  ·rename_i h;refine ⟨by rw [iE];exact hl,λx hx=> ?_⟩;rcases iV hx with h1|h1
   ·exact hm x h1
   ·subst h1;simpa using h
def adE{w:World}{g:Nat}{s:Sl}{p:Po}{C:List Int}(h:JI w g s p C)(c:Ce)(hc:rT c)(b:Int):
  ae 268 #[g,eg c,b] w λe w'=>e=Value.int .i64 (kO p C c b).2/\∃s',JI w' g s' p (kO p C c b).1/\Mod (λi=>i=g) w w'/\(∀i,s'.aZ=some i->s.aZ=some i\/w.heap.size<=i):=by
 apply EO.vc;intro w0 e0;have x0:Ext w w0.drew:=(Ext.cG w|>.br e0).drew;have z0:=fj e0;have hgl:=h.row.lt;have h0:=h.ext x0;refine ⟨p.1,p.2,h0.pos,(Iz p c hc w0.drew).mono ?_⟩;rintro e w3 ⟨⟨i,rfl,hi⟩,x3⟩;have h3:=h0.ext x3;have z3:=x3.size;have z3':w.heap.size<w3:=kr (show w.heap.size<w0 by omega) z3;refine ⟨i,_,rfl,x3.heap (show w.heap.size<w0 by omega),Br.mk (λhb=> ?_) (λhb=> ?_)⟩
 ·have hf:LN p c=false:=by simpa using hb
  have e:kO p C c b=(C,5):=by unfold kO;rw [if_pos hf]
  rw [e];exact ⟨rfl,s,h3,Mod.aC (x0.tr x3),λi hi=> .inl hi⟩
 ·have hk:LN p c=true:=by simpa using hb
  have hie:=hi hk;subst hie;have jV:=yK ((pd p c).1 hk).1;refine (iu b w3).mono ?_;rintro e w6 ⟨rfl,x6⟩;have h6:=h3.ext x6;have z6:=x6.size;refine ⟨_,rfl,x6.heap z3',Br.mk (λj8=> ?_) (λj8=> ?_)⟩
  ·have hf:cE b=false:=by simpa using j8
   have e:kO p C c b=(C,1):=by unfold kO;rw [if_neg (by simp [hk]),if_pos hf]
   rw [e];exact ⟨rfl,s,h6,Mod.aC ((x0.tr x3).tr x6),λi hi=> .inl hi⟩
  ·have hm:cE b=true:=by simpa using j8
   have e:kO p C c b=(C.set (idx c).toNat b,0):=by unfold kO;rw [if_neg (by simp [hk]),if_neg (by simp [hm])]
   refine ⟨s,h6.row.at 2 rfl,(JX s C (idx c) b w6 (xD.Jb h6.own) h.bd gA).mono ?_⟩;rintro e9 w9 ⟨IJ,rfl,ho,x9⟩;have hs:aaJ C (idx c) b=C.set (idx c).toNat b:=by unfold aaJ;rw [if_pos ⟨hm,jV.1,by rw [h.len];omega⟩]
   rw [hs] at ho;obtain ⟨p1,p2⟩:=(h6.row.ext x9).ic (j:=2) (v:=.slice IJ.a IJ.n IJ.c) bg rfl;refine ⟨IJ,rfl,x9.heap aa,⟨rfl,p1⟩,?_,λbw BG=> ?_⟩
   ·rw [cP];intro e;have:g=w.heap.size:=by simpa [bk] using e
    omega
   ·obtain ⟨q1,q2⟩:=p2 bw BG;have bc:=WO (p:=p) h.len h.may c b;rw [e] at bc ⊢;refine ⟨rfl,IJ,⟨q1,q2.gU (ar.low ho (gV _)) λi hi hf=> ?_,bc.1,bc.2⟩,(Mod.aC (((x0.tr x3).tr x6).tr x9)).trans q2,λi hi=> .inr ?_⟩
    ·obtain ⟨cs,hr⟩:=aY ho aA hi;exact hr.ne (h6.row.ext x9) aA hf
    ·have:=(ho.own.lt hi).1;have:=(x0.tr x3).size;omega
def yl(p:Po)(w:World):ae 95 #[pv p] w λe w'=>e=(pv p)/\Ext w w':=by apply AJ.vc;intro w0 e0 w1 e1 w2 e2;have z0:=fj e0;exact ⟨rfl,((aQ e0).br e1).ab e2 aa⟩
open Go.Code
def aeX(w:World)(p:Po)(l:List Rn)(e:Ending)(w':World):Prop:=
 (tk cE l 8192=true/\∃g sg,e=Value.tuple #[.pointer (aD g),ai]/\JI w' g sg p (cn l)/\w.heap.size<=g/\∀b,sg.aZ=some b->w.heap.size<=b)\/
 (tk cE l 8192=false/\e=Value.tuple #[.pointer none,(1:Int)])
def AA(p:Po)(s:Sl)(l:List Rn)(w:World)(hs:lX w s l)(hn:Bd l.length):ae 135 #[pv p,s] w λe w'=>aeX w p l e w'/\Ext w w':=by
 apply YI.vc;intro w0 e0;have z0:=fj e0;have x0:=aQ e0;have F7:Row w0 w [p.1,p.2] tPo:=Row.nw e0;refine (xS s l 8192 w0 (RdK.ext hs x0) hn gA).mono ?_;rintro e w1 ⟨rfl,x1⟩;have z1:=x1.size;have zd:=m7 w1;refine ⟨_,rfl,x1.heap aa,Br.mk (λhb=> ?_) (λhb=> ?_)⟩
 ·have hf:tk cE l 8192=false:=by simpa using hb
  exact ⟨.inr ⟨hf,rfl⟩,x0.tr x1⟩
 ·have ht:tk cE l 8192=true:=by simpa using hb
  obtain ⟨i1,i2,i3⟩:=Rp ht;have xd:=(x0.tr x1).drew;have fin:∀{w3 w5:World} {s4:Sl},Ext w1.drew w3->xD w1.drew.heap.size w3 s4 l->w5=w3.alloc (.cells #[p.1,p.2,s4] yG)->aeX w p l (.returned (.tuple #[w3,ai])) w5/\Ext w w5:=λ{w3 w5 s4} x3 ho e5=>by have x5:=aQ e5;have z3:=x3.size;refine ⟨.inl ⟨ht,_,s4,rfl,⟨by rw [e5];exact Row.new w3 [_,_,_] _,?_,aa,i2⟩,aa,λb hb=>by have:=(ho.own.lt hb).1;omega⟩,xd.tr (x3.tr x5)⟩;rw [i1];exact (ar.low ho (gV _)).ext x5
  refine ⟨(mV s l w1.drew (RdK.ext hs xd) hn).mono ?_,(mV s l w1.drew (RdK.ext hs xd) hn).mono ?_⟩
  ·rintro e w3 ⟨s4,rfl,ho,x3⟩;exact ⟨s4,rfl,x3.heap aa,λw5 e5=>fin x3 ho e5⟩
  ·rintro e w3 ⟨s4,rfl,ho,x3⟩;exact ⟨s4,rfl,x3.heap aa,((F7.ext x1.drew).ext x3).bI (λj hj=>by rw [eC]),λw5 e5=>fin x3 ho e5⟩
def air(w:World)(p:Po)(b:List Int)(e:Ending)(w':World):Prop:=
 ((jZ cE b 8192).2=0/\∃g sg,e=Value.tuple #[.pointer (aD g),ai]/\JI w' g sg p (cn (jZ cE b 8192).1)/\w.heap.size<=g/\gP (cn (jZ cE b 8192).1)=(jZ cE b 8192).1/\∀b,sg.aZ=some b->w.heap.size<=b)\/
 ((jZ cE b 8192).2≠0/\e=Value.tuple #[.pointer none,.int .i64 (jZ cE b 8192).2])
def YZ(p:Po)(s:Sl)(b:List Int)(w:World)(hs:iA w s b)(hb:InY b)(hc:s.n<=s.c)(hl:b.length<=1099511627776):ae 77 #[pv p,s] w λe w'=>air w p b e w'/\Ext w w':=by
 apply Un.vc;intro w0 e0;have z0:=fj e0;have x0:=aQ e0;refine (Iy s b 8192 w0 (RdK.ext hs x0) hb hc hl aA gA).mono ?_;rintro e w1 ⟨⟨s2,rfl,ho⟩,x1⟩;have z1:=x1.size;have dp:=aaE (may:=cE) b 8192;have hag:=R1 (b:=b) (n:=8192) hb aA;refine ⟨s2,_,rfl,x1.heap aa,Br.mk (λhZ=> ?_) (λhZ=> ?_)⟩
 ·exact ⟨.inr ⟨by simpa using hZ,rfl⟩,x0.tr x1⟩
 ·have h0:=cS hZ;obtain ⟨f1,f2,f3⟩:=hag h0;have hm:tk cE (jZ cE b 8192).1 8192=true:=by have:=f2.tk aa;rw [f3] at this;exact this
  refine (AA p s2 _ w1 (xD.Jb ho) (by show _<=_;omega)).mono ?_;rintro e w4 ⟨hr,x4⟩;rcases hr with ⟨-,g,sg,rfl,hk,hg,hgb⟩|⟨hf,-⟩
  ·exact ⟨_,_,rfl,x4.heap aa,.inl ⟨h0,g,sg,rfl,hk,aa,(Rp hm).1,λb hb=>by have:=hgb b hb;omega⟩,x0.tr (x1.tr x4)⟩
  ·rw [hm] at hf;cases hf
def wC{C:List Int}(hl:C.length=8192)(hm:∀b ∈ C,cE b=true):okW cE (gP C)=true/\gP C≠ []/\iO cE (-1) (gP C)/\bt (gP C)=8192:=by
 have hs:bt (gP C)=8192:=by rw [nS,hl];rfl
 have hZ:gP C≠ []:=by
  intro e;rw [e] at hs
  cases hs
 have hc:∀r ∈ gP C,cE r.2=true:=λr hr=>by refine hm _ ?_;have:=Y9 hr (np hr).1;rwa [mS] at this
 refine ⟨ale (Hv C) hc aa hZ,hZ,?_,hs⟩;refine iO.of (λr hr=> ?_) (Hv C).next (λr hr=> ?_)
 ·have h1:=np hr;have h2:=hc r hr;have h3:=h2;unfold cE at h3;simp only [fk,cJ] at h3;exact ⟨h1.1,aa,aa,aa,h2⟩
 ·have h2:=hc r (List.mem_of_mem_head? hr);unfold cE at h2;simp only [fk,cJ] at h2;omega
def Za{C:List Int}(hl:C.length=8192)(hm:∀b ∈ C,cE b=true):∀r ∈ gP C,dJ r.1/\dJ r.2:=Zb (wC hl hm).2.2.1
def TS{w:World}{g:Nat}{s:Sl}{p:Po}{C:List Int}(h:JI w g s p C):ae 137 #[g] w λe w'=>∃s':Sl,e=s'/\mh w w' s' (lP (gP C))/\Ext w w':=by apply AL.vc;have dp:=te C;have hl:=h.len;refine ⟨s,h.row.at 2 rfl,(EV s (gP C) w (xD.Jb h.own) aa (Za h.len h.may)).mono ?_⟩;rintro e w1 ⟨⟨s2,rfl,ho⟩,x1⟩;rw [if_pos (wC h.len h.may).1] at ho;exact ⟨s2,_,rfl,s2,rfl,ho,x1⟩
abbrev tZ:TypeId:=277
abbrev CI:TypeId:=217
abbrev CJ:TypeId:=143
abbrev cF:TypeId:=150
abbrev tPI:TypeId:=137
def Az{a:Addr}{K:Prop}(h:K):aT (fq (some a)) K:=h
def WE(p:Po)(w:World):ae 72 #[pv p] w λe w'=>e=Value.tuple #[(lO p),.bool (decide (oN p))]/\Ext w w':=by
 apply adg.vc;intro w0 e0;have x0:=aQ e0;have no:¬oN p->Ending.returned (.tuple #[ai,false])=Ending.returned (.tuple #[(lO p),.bool (decide (oN p))])/\Ext w w0:=λh=>⟨by rw [Wy h,decide_eq_false h],x0⟩
 refine Br.mk (λh=>no ?_) (λh=>Br.mk (λh2=>no ?_) (λh2=>Br.mk (λh3=>no ?_) (λh3=>Br.mk (λh4=>no ?_) (λh4=> ?_))))<;>simp only [cJ,fA] at*
 ·unfold oN;omega
 ·unfold oN;omega
 ·unfold oN;omega
 ·unfold oN;omega
 ·have oh:oN p:=by unfold oN;omega
  refine ⟨?_,x0⟩;rw [decide_eq_true oh,aK (n:=p.1+524288) gA,aK (n:=(p.1+524288)*2) gA,aK (n:=(p.1+524288)*2*524288) gA,aK (n:=(p.1+524288)*2*524288+p.2) gA,aK (n:=(p.1+524288)*2*524288+p.2+524288) gA,aK (n:=(p.1+524288)*2*524288+p.2+524288+1) gA];unfold lO;rw [if_pos oh,show (p.1+524288)*2*524288+p.2+524288+1=(p.1+524288)*1048576+(p.2+524288)+1 by omega]
def oB(p:Po):Po:=(cu p.1 5-2,cu p.2 5-2)
def MR(p:Po):(-2<=(oB p).1/\(oB p).1<=2)/\-2<=(oB p).2/\(oB p).2<=2:=by have h1:=cK p.1 5 aA;have h2:=cK p.2 5 aA;unfold oB;simp only;omega
def ZN(p:Po)(hp:dJ p.1/\dJ p.2)(w:World):ae 51 #[pv p] w λe w'=>e=(pv (oB p))/\Ext w w':=by apply YS.vc;have h1:=cK p.1 5 aA;have h2:=cK p.2 5 aA;intro w0 e0 w1 e1;have z0:=fj e0;have x1:Ext w w1.drew:=((aQ e0).br e1).drew;have hb:Row w1.drew w [p.1,p.2] tPo:=((by rw [e0];exact Row.new w [_,_] _:Row w0 w [p.1,p.2] tPo).ext (aQ e1)).ext (Ext.dr _);refine (iG p.1 5 w1.drew hp.1 aA gA).mono ?_;rintro e w2 ⟨rfl,rfl⟩;refine ⟨_,rfl,rfl,rfl,hb.bI (λj hj=>by simp at hj;subst hj;rfl),(iG p.2 5 w1.drew hp.2 aA gA).mono ?_⟩;rintro e w2 ⟨rfl,rfl⟩;refine ⟨_,rfl,rfl,rfl,λw6 e6=>⟨?_,x1.ab e6 aa⟩⟩;have q1:aw (cu p.1 5-2)=cu p.1 5-2:=wI;have q2:aw (cu p.2 5-2)=cu p.2 5-2:=wI;rw [q1,q2];rfl
def GI(v:Value):Prop:=∃n:Int,v=.int .i64 n
def Hy:jh Tryz.prog My GI:=by
 refine ⟨?_,?_,?_⟩
 ·rintro x y ⟨a,rfl⟩ ⟨b,rfl⟩;refine ⟨a==b,by kernel_rfl,?_⟩;simp
 ·rintro x ⟨a,rfl⟩ b w;kernel_rfl
 ·rintro x ⟨a,rfl⟩;simp [Instr.sameBits]
def Z5{P:Program}{w:World}{r:Nat}{es:Array MapEntry}{clock:Nat}(t:TypeId)(hb:w.heap[r]? =some (.map es clock)):
  (Extern.MapsClone.clone #[.iface t (.map (some r))]).run P w=.ok (.iface t (.map (some w.heap.size))) (w.alloc (.map es clock)):=by
 have e:Extern.MapsClone.clone #[.iface t (.map (some r))]=(getObj r>>=λo=>match o with
   | .map entries clock=>(newObj (.map entries clock)>>=λn=>pure (.iface t (.map (some n))))
   |_=>stuck "maps.clone: a map expected"):=rfl
 rw [e];simp [qh hb,kI,Result.andThen,Sem.run_bind]
def Hx{w:World}{r:Nat}{kvs:List (Value × Value)}(hm:bS GI w (some r) kvs):ae 272 #[.map (some r)] w λe w'=>e=Value.map (some w.heap.size)/\bS GI w' (some w.heap.size) kvs/\Ext w w':=by apply ER.vc;refine Br.mk (λh=>by cases h) (λ_=> ?_);obtain ⟨es,clock,hb,h2⟩:=hm;refine ⟨Extern.MapsClone.clone,⟨_,Tryz.func298,by kernel_rfl,by kernel_rfl,by kernel_rfl⟩,_,_,Z5 _ hb,_,rfl,_,rfl,rfl,⟨es,clock,World.alloc_heap_new w _,h2⟩,Ext.al w _⟩
open Tryz
variable {R:Ending->World->Prop} {w:World} {a0 a1 a2:Int}
def CG.vc{a0:Addr}(h:(λA=>
 kW w (af A 2) λx0=>
 Br (x0>0)
 (kW w (af A 2) λx1=>
 (Pv w (af A 2) 1 [(aw (x1-1))] λw2=>
 R false w2))
 (kW w (af A 1) λx3=>(λAa=>
 Br (x3>0)
 (kW w (af A 1) λx4=>
 (Pv w (af A 1) 1 [(aw (x4-1))] λw5=>
 R Aa w5))
 (R Aa w)) (Value.bool (decide (x3>0))))) (some a0)):ae 227 #[a0] w R:=
 cq bG func227 h
def JN.vc{a0:Addr}{a2:Sl}(h:(λA B C=>
 ae 227 #[a0] w (EK λb1 w0=>Br b1
 (R (9:Int) w0)
 (ae 228 #[a0] w0 (Rx8 λm3 w2=>kW w2.drew B λx4=>(λAa=>
 (ae 229 #[.map m3] w2.drew (kX λx6 w5=>ah w5 B 0 [x4]/\∃(G7:Value->Prop)(kvs8:List (Value × Value)),jh Tryz.prog 3 G7/\bS G7 w5 m3 kvs8/\G7 a1/\∃(s9:Sl),∃b10:Bool,JD kvs8 a1 C s9 b10/\
 ah w5 B 0 [x4]/\Br (decide (((aw (x6-((s9.n:Nat):Int))):Int)>Aa))
 (R (8:Int) w5)
 (kB w5.drew A λSS=>
 ae 230 #[a2] w5.drew (ua λpn cC=>ah cC A 0 [SS]/\Aw cC #[a1,pn] 279 λbH=>
 ba 32 2 bH SS 1 [a1,pn]/\∀(pr:Sl)(cD:World),aX 279 2 bH SS 1 [a1,pn] pr cD->Kp cC bH cD/\
 (true=true/\Wr cD A 1)/\bk A≠some cC.heap.size/\(Pw cD A [pr] λcL=>
 R (0:Int) cL)))))/\(∃(G18:Value->Prop)(kvs19:List (Value × Value)),jh Tryz.prog 3 G18/\bS G18 w2.drew m3 kvs19/\G18 a1/\∃(xZ:Sl),∃Th:Bool,JD kvs19 a1 C xZ Th/\
 ah w2.drew B 0 [x4]/\ae 229 #[.map m3] w2.drew (kX λfC dm=>ah dm B 0 [x4]/\Br (decide (((aw (fC-((xZ.n:Nat):Int))):Int)>Aa))
 (R (8:Int) dm)
 (kB dm.drew A λzM=>
 ae 230 #[a2] dm.drew (ua λV4 cZ=>ah cZ A 0 [zM]/\Aw cZ #[a1,V4] 279 λfy=>
 ba 32 2 fy zM 1 [a1,V4]/\∀(s28:Sl)(eG:World),aX 279 2 fy zM 1 [a1,V4] s28 eG->Kp cZ fy eG/\
 (true=true/\Wr eG A 1)/\bk A≠some cZ.heap.size/\(Pw eG A [s28] λgR=>
 R (0:Int) gR)))))) (aw (x4-((a2.n:Nat):Int))))))) (af (some a0) 4) (af (some a0) 0) (.slice none 0 0)):ae 164 #[a0,a1,a2] w R:=
 cq bG func164 h
def HR.vc{a0:Addr}(h:
 ae 227 #[a0] w (EK λb1 w0=>Br b1
 (R (9:Int) w0)
 (ae 228 #[a0] w0 (Rx8 λm3 w2=>(Pv w2 (af (some a0) 3) 1 [.map m3] λw4=>
 (Pv w4 (af (some a0) 4) 1 [.slice none 0 0] λw5=>
 R (0:Int) w5)))))):ae 165 #[a0] w R:=
 cq bG func165 h
def ZA.vc{a0:Sl}(h:
 oz (λI0 n1=>I0 n1 ((aw (a2-1))) a0 w) λI0 n1 zF x3 s4 w5=>(λAa=>
 Br (x3>=0)
 (aT (ngC (aw (8*x3))) (Aw w5 #[.int .u8 Aa] 5 λw7=>
 ba 1 1 w7 s4 1 [.int .u8 Aa]/\∀(s8:Sl)(w9:World),aX 5 1 w7 s4 1 [.int .u8 Aa] s8 w9->Kp w5 w7 w9/\
 ∃n6,n6<n1/\I0 n6 ((aw (x3-1))) s8 w9))
 (R s4 w5)) (jn ((a1:Int).fdiv (2 ^(min ((aw (8*x3)):Int).toNat 64))))):ae 224 #[a0,a1,a2] w R:=
 cq (anS 2 7 0) func224 h
def UP.vc{a0:Sl}(h:
 se (λI0 n1=>I0 n1 (0) (0) w) λI0 n1 zF x3 x4 w5=>
 Br (decide (x3<((a0.n:Nat):Int)))
 (eL a0.a x3 a0.n/\∃(x7:Int),ld w5 (af a0.a ((x3:Int).toNat*1))=some (.int .u8 x7)/\
 ∃n6,n6<n1/\I0 n6 ((aw (x3+1))) ((S7 .i64 (aw (x4*2 ^(min (8:Int).toNat 64))) (aw x7))) w5)
 (R x4 w5)):ae 247 #[a0] w R:=
 cq (Yc 3 8 3) func247 h
def QT.vc{a1:Sl}(h:(λA B=>
 Br (a0<1)
 A
 (Br (a0>1073741824)
 A
 (Br (decide ((B:Int)>65536))
 A
 (ae 224 #[.slice none 0 0,a0,(4:Int)] w (ua λs1 w0=>ae 224 #[s1,B,(3:Int)] w0 (ua λs3 w2=>Aw w2 #[s3,a1] 62 λw4=>
 ae 226 #[.slice (aD w2) 2 2] w4 (ua λs6 w5=>ae 225 #[s6] w5 (ua λs8 w7=>R (dS #[s8,ai]) w7)))))))) (R (dS #[.slice none 0 0,(1:Int)]) w) ((a1.n:Nat):Int)):ae 163 #[a0,a1] w R:=
 cq bG func163 h
def CW.vc{a0:Addr}{a2:Sl}(h:(λA=>
 ae 132 #[a1] w (EK λb1 w0=>Br (!b1)
 (R (1:Int) w0)
 (ae 133 #[a0,a1] w0 (λe w2=>∃(x3 x4:Int)(s5:Sl),e=Value.agg #[x3,x4,s5]/\
 Aw w2 #[ai,ai,.slice none 0 0] 202 λw6=>
 Sw w6 w2 #[x3,x4,s5] λw7=>
 ae 163 #[(aw (x4+1)),a2] w7 (Rx7 λs9 bE w8=>Kp w2 w7 w8/\
 Br (bE !=0)
 (R bE w8)
 (gZ w8.drew A λTo=>
 ae 164 #[To,(mf .i64 x3 1),s9] w8.drew (Ri λcR cC=>Kp w2 w8.drew cC/\
 ah cC (aD w2) 0 [x3]/\Br (cR !=0)
 (R cR cC)
 (gZ cC A λp14=>
 ae 165 #[p14] cC (Ri λdu ee=>Kp w2 cC ee/\
 R du ee))))))))) (af (af (some a0) 0) 0)):ae 115 #[a0,a1,a2] w R:=
 cq bG func115 h
def E4.vc{a0:Addr}(h:
 Aw w #[ai,ai,.slice none 0 0] 202 λw0=>
 Aw w0 #[ai,ai,.slice none 0 0] 202 λw1=>
 Sw w1 w0 #[(aw ((aw (2*a1))+1)),ai,.slice none 0 0] λw2=>
 ∃I3:Nat->Int->Int->Int->Sl->World->Prop,
 (∃n4,aN [ai,ai,.slice none 0 0]/\I3 n4 (0) ((aw ((aw (2*a1))+1))) (0) ⟨none,0,0⟩ w2)/\
 ∀(n4:Nat)(us5:Nat->Value)(x6 x7 x8:Int)(s9:Sl)(bo:World),I3 n4 x6 x7 x8 s9 bo->
 Br (x6<2)
 (((0:Int)<=x6/\x6<((2:Nat):Int))/\∃(bW:Int),([(aw (2*a1)),(aw ((aw (2*a1))+1))]:LV)[(x6:Int).toNat*1]? =some (.int .i64 bW)/\
 gZ bo (af (af (some a0) 0) 0) λSU=>
 ae 182 #[SU,bW] bo (λe bH=>∃(pr:Sl)(b16:Bool),e=Value.tuple #[pr,b16]/\K2 w w0 bo bH (
 ae 183 #[pr] bH (λe cL=>∃(dc:Int)(s19:Sl)(dN:Int),e=Value.tuple #[dc,s19,dN]/\K2 w w0 bH cL (
 Br (dN==0)
 (Br (dc>x8)
 (Sw cL w0 #[bW,dc,s19] λdU=>
 ∃tN,tN<n4/\aN [ai,ai,.slice none 0 0]/\I3 tN ((aw (x6+1))) bW dc s19 dU)
 (∃tN,tN<n4/\aN [ai,ai,.slice none 0 0]/\I3 tN ((aw (x6+1))) x7 x8 s9 cL))
 (∃tN,tN<n4/\aN [ai,ai,.slice none 0 0]/\I3 tN ((aw (x6+1))) x7 x8 s9 cL))))))
 (Sw bo w #[x7,x8,s9] λdm=>
 R (qY #[x7,x8,s9]) dm)):ae 133 #[a0,a1] w R:=
 cq ⟨[(3,⟨[(23,.int .i64)],[(1,[.int .i64,.int .i64,.slice])],[]⟩)],[],[]⟩ func133 h
def agZ.vc{a0:Sl}(h:
 ae 269 #[a0] w (adR λx1 w0=>ae 270 #[.int .u16 x1] w0 (λe w2=>∃(x3 x4:Int),e=Value.agg #[.int .u8 x3,.int .u8 x4]/\
 Aw w2 #[.int .u8 0,.int .u8 0] 321 λw5=>
 (Pt w5 ⟨w2,0,none⟩ 2 [.int .u8 x3,.int .u8 x4] λw6=>
 Aw w6 #[a0,.slice (aI (aD w2) (0) (2) 1) (2-0) (2-0)] 62 λw7=>
 ae 226 #[.slice (aD w6) 2 2] w7 (ua λs9 w8=>R s9 w8))))):ae 225 #[a0] w R:=
 cq bG func225 h
def adS.vc{a0:Sl}(h:
 Br (decide ((((a0.n:Nat):Int):Int)>=2))
 (ae 269 #[a0] w (adR λx1 w0=>R (uD (x1==0)) w0))
 (R false w)):ae 281 #[a0] w R:=
 cq bG func281 h
def alL.vc{a0:Sl}(h:
 ae 296 #[] w (adR λx1 w0=>ae 297 #[.int .u16 x1,a0] w0 (adR λx3 w2=>R (Value.int .u16 x3) w2))):ae 269 #[a0] w R:=
 cq bG func269 h
def E5.vc(h:
 Aw w #[.int .u8 0,.int .u8 0] 321 λw0=>
 (Pt w0 ⟨w,0,none⟩ 2 [.int .u8 (jn ((a0:Int).fdiv (2 ^(min (8:Int).toNat 16)))),.int .u8 (jn a0)] λw1=>
 ∃(x2 x3:Int),ah w1 w 0 [.int .u8 x2,.int .u8 x3]/\
 R (qY #[.int .u8 x2,.int .u8 x3]) w1)):ae 270 #[.int .u16 a0] w R:=
 cq bG func270 h
def ZB.vc(h:
 R (Value.int .u16 65535) w):ae 296 #[] w R:=
 cq bG func296 h
def HS.vc{a1:Sl}(h:(λA B C=>
 ae 310 #[] w (λe w0=>∃(x1 x2 x3 x4 x5 x6 x7 x8 x9 bE bK bW cR cB cW du:Int),e=Value.agg #[.int .u16 x1,.int .u16 x2,.int .u16 x3,.int .u16 x4,.int .u16 x5,.int .u16 x6,.int .u16 x7,.int .u16 x8,.int .u16 x9,.int .u16 bE,.int .u16 bK,.int .u16 bW,.int .u16 cR,.int .u16 cB,.int .u16 cW,.int .u16 du]/\
 Aw w0 #[.int .u16 0,.int .u16 0,.int .u16 0,.int .u16 0,.int .u16 0,.int .u16 0,.int .u16 0,.int .u16 0,.int .u16 0,.int .u16 0,.int .u16 0,.int .u16 0,.int .u16 0,.int .u16 0,.int .u16 0,.int .u16 0] 358 λcL=>
 (Pt cL ⟨w0,0,none⟩ 16 [.int .u16 x1,.int .u16 x2,.int .u16 x3,.int .u16 x4,.int .u16 x5,.int .u16 x6,.int .u16 x7,.int .u16 x8,.int .u16 x9,.int .u16 bE,.int .u16 bK,.int .u16 bW,.int .u16 cR,.int .u16 cB,.int .u16 cW,.int .u16 du] λdI=>
 se (λI19 n20=>I19 n20 (0) a0 dI) λI19 n20 az4 fN fC gC=>(λAa Ab=>
 Br (decide (fN<((a1.n:Nat):Int)))
 (eL a1.a fN a1.n/\∃(jN:Int),ld gC (af a1.a ((fN:Int).toNat*1))=some (.int .u8 jN)/\
 (0:Int)<=(mf .u16 Ab (qW ((jN:Int).fdiv B)))/\((mf .u16 Ab (qW ((jN:Int).fdiv B))):Int)<((16:Nat):Int)/\∃(jm:Int),ld gC (af (aD w0) (((mf .u16 Ab (qW ((jN:Int).fdiv B))):Int).toNat*1))=some (.int .u16 jm)/\
 (0:Int)<=(mf .u16 (((mf .u16 Aa jm):Int).fdiv A) (qW (uy .u8 jN 15)))/\((mf .u16 (((mf .u16 Aa jm):Int).fdiv A) (qW (uy .u8 jN 15))):Int)<((16:Nat):Int)/\∃(nv:Int),ld gC (af (aD w0) (((mf .u16 (((mf .u16 Aa jm):Int).fdiv A) (qW (uy .u8 jN 15))):Int).toNat*1))=some (.int .u16 nv)/\
 ∃n25,n25<n20/\I19 n25 ((aw (fN+1))) ((mf .u16 (qW ((mf .u16 Aa jm)*2 ^ C)) nv)) gC)
 (R (Value.int .u16 fC) gC)) (qW (fC*2 ^ C)) ((fC:Int).fdiv A)))) (2 ^(min (12:Int).toNat 16)) (2 ^(min (4:Int).toNat 8)) (min (4:Int).toNat 16)):ae 297 #[.int .u16 a0,a1] w R:=
 cq ⟨[(3,⟨[(11,.int .i64),(0,.int .u16)],[],[]⟩)],[],[]⟩ func297 h
def ZC.vc(h:(λA=>
 Aw w A 358 λw0=>
 Aw w0 A 358 λw1=>
 sN (λI2 n3=>I2 n3 (0) w1) λI2 n3 us4 x5 w6=>
 Br (x5<16)
 (se (λI8 n9=>I8 n9 (0) ((qW ((qW x5)*2 ^(min (12:Int).toNat 16)))) w6) λI8 n9 abr bK bW bP=>
 Br (bK<4)
 (ae 321 #[.int .u16 bW] bP (adR λdu ee=>∃Tm,Tm<n9/\I8 Tm ((aw (bK+1))) du ee))
 ((0:Int)<=x5/\x5<((16:Nat):Int)/\(Pv bP (af (aD w0) ((x5:Int).toNat*1)) 1 [.int .u16 bW] λcL=>
 ∃n7,n7<n3/\I2 n7 ((aw (x5+1))) cL)))
 (∃(dc db dN eO fN fC gW eZ jN jm nv jk nu lp lr fD:Int),ah w6 (aD w0) 0 [.int .u16 dc,.int .u16 db,.int .u16 dN,.int .u16 eO,.int .u16 fN,.int .u16 fC,.int .u16 gW,.int .u16 eZ,.int .u16 jN,.int .u16 jm,.int .u16 nv,.int .u16 jk,.int .u16 nu,.int .u16 lp,.int .u16 lr,.int .u16 fD]/\
 (Pt w6 ⟨w,0,none⟩ 16 [.int .u16 dc,.int .u16 db,.int .u16 dN,.int .u16 eO,.int .u16 fN,.int .u16 fC,.int .u16 gW,.int .u16 eZ,.int .u16 jN,.int .u16 jm,.int .u16 nv,.int .u16 jk,.int .u16 nu,.int .u16 lp,.int .u16 lr,.int .u16 fD] λlq=>
 ∃(oV oW lh km qv pF om qU zp pk uN oH xl Dd Ot sS:Int),ah lq w 0 [.int .u16 oV,.int .u16 oW,.int .u16 lh,.int .u16 km,.int .u16 qv,.int .u16 pF,.int .u16 om,.int .u16 qU,.int .u16 zp,.int .u16 pk,.int .u16 uN,.int .u16 oH,.int .u16 xl,.int .u16 Dd,.int .u16 Ot,.int .u16 sS]/\
 R (qY #[.int .u16 oV,.int .u16 oW,.int .u16 lh,.int .u16 km,.int .u16 qv,.int .u16 pF,.int .u16 om,.int .u16 qU,.int .u16 zp,.int .u16 pk,.int .u16 uN,.int .u16 oH,.int .u16 xl,.int .u16 Dd,.int .u16 Ot,.int .u16 sS]) lq))) #[.int .u16 0,.int .u16 0,.int .u16 0,.int .u16 0,.int .u16 0,.int .u16 0,.int .u16 0,.int .u16 0,.int .u16 0,.int .u16 0,.int .u16 0,.int .u16 0,.int .u16 0,.int .u16 0,.int .u16 0,.int .u16 0]):ae 310 #[] w R:=
 cq ⟨[(8,⟨[(11,.int .i64),(4,.int .u16)],[],[]⟩),(4,⟨[(5,.int .i64)],[],[]⟩)],[],[]⟩ func310 h
def QU.vc(h:(λA=>
 Br (((uy .u16 a0 32768):Int) !=0)
 (R (Value.int .u16 (mf .u16 A 4129)) w)
 (R (Value.int .u16 A) w)) (qW (a0*2 ^(min (1:Int).toNat 16)))):ae 321 #[.int .u16 a0] w R:=
 cq bG func321 h
def yc.vc{a0:Sl}(h:(λA=>
 se (λI0 n1=>I0 n1 (0) (0) w) λI0 n1 zF x3 x4 w5=>
 Br (decide (x3<A))
 (eL a0.a x3 a0.n/\kB w5 (af a0.a ((x3:Int).toNat*1)) λs7=>(λAa=>
 Br (decide ((Aa:Int)<0))
 (False)
 (∃n6,n6<n1/\I0 n6 ((aw (x3+1))) (Aa) w5)) (aw (x4+((s7.n:Nat):Int))))
 (ae 271 #[.slice none 0 0,x4] w5 (λe w8=>∃(s9:Sl),e=s9/\
 oz (λFz tN=>Fz tN (0) s9 w8) λFz tN amk cR s14 ee=>
 Br (decide (cR<A))
 (eL a0.a cR a0.n/\kB ee (af a0.a ((cR:Int).toNat*1)) λs17=>
 ∃l18:LV,Rd ee s17.a l18/\ba 1 1 ee s14 s17.n l18/\∀(s19:Sl)(fx:World),aX 5 1 ee s14 s17.n l18 s19 fx->
 ∃Tk,Tk<tN/\Fz Tk ((aw (cR+1))) s19 fx)
 (R s14 ee)))) ((a0.n:Nat):Int)):ae 226 #[a0] w R:=
 cq ⟨[(11,⟨[(27,.int .i64),(6,.slice)],[],[]⟩),(3,⟨[(11,.int .i64),(3,.int .i64)],[],[]⟩)],[],[]⟩ func226 h
def B8.vc{a0:Sl}(h:(λA B C D=>
 Br (a1<0)
 (False)
 (Br (decide ((A:Int)>0))
 ((0:Int)<=B/\B<=B/\((0:Int)<=A/\aw A=A/\(A:Int)*1<=281474976710656)/\ba 1 1 w ⟨D,((B:Int).toNat-0),(a0.c-0)⟩ (A:Int).toNat (bh [.int .u8 0] (A:Int).toNat)/\∀(s0:Sl)(w1:World),aX 5 1 w ⟨D,((B:Int).toNat-0),(a0.c-0)⟩ (A:Int).toNat (bh [.int .u8 0] (A:Int).toNat) s0 w1->
 (0:Int)<=C/\C<=((s0.c:Nat):Int)/\R (Value.slice (aI s0.a (0) (s0.c) 1) ((C:Int).toNat-0) (s0.c-0)) w1)
 (R a0 w))) (aw (a1-(aw (((a0.c:Nat):Int)-((a0.n:Nat):Int))))) ((a0.c:Nat):Int) ((a0.n:Nat):Int) (aI a0.a (0) (a0.c) 1)):ae 271 #[a0,a1] w R:=
 cq bG func271 h
def HT.vc{a0:Addr}(h:
 kB w (af (some a0) 4) λs0=>
 se (λI1 n2=>I1 n2 (0) (0) w) λI1 n2 us3 x4 x5 w6=>
 Br (decide (x4<((s0.n:Nat):Int)))
 (eL s0.a x4 s0.n/\∃(x8:Int)(s9:Sl),ah w6 (af s0.a ((x4:Int).toNat*2)) 0 [x8,s9]/\
 Aw w6 #[ai,.slice none 0 0] 279 λbo=>
 Sw bo w6 #[x8,s9] λbw=>
 ∃n7,n7<n2/\I1 n7 ((aw (x4+1))) ((aw (x5+((s9.n:Nat):Int)))) bw)
 (R x5 w6)):ae 206 #[a0] w R:=
 cq (Yc 3 11 3) func206 h
def E6.vc{a0:Addr}(h:(λA B C=>
 ae 206 #[a0] w (kX λx1 w0=>(λAa=>ae 206 #[a0] w0 (kX λx3 w2=>kB w2 (af A 4) λs4=>
 se (λI5 n6=>I5 n6 (0) (Aa) w2) λI5 n6 us7 x8 x9 bo=>
 Br (decide (x8<((s4.n:Nat):Int)))
 (eL s4.a x8 s4.n/\∃(bW:Int)(pn:Sl),ah bo (af s4.a ((x8:Int).toNat*2)) 0 [bW,pn]/\
 Aw bo #[ai,.slice none 0 0] 279 λbH=>
 Sw bH bo #[bW,pn] λee=>
 Lxm ee.drew (af A 3) λm16=>
 (0:Int)<=(if x9<((pn.n:Nat):Int) then x9 else ((pn.n:Nat):Int))/\(if x9<((pn.n:Nat):Int) then x9 else ((pn.n:Nat):Int))<=((pn.c:Nat):Int)/\∃(G17:Value->Prop)(kvs18:List (Value × Value)),jh Tryz.prog 3 G17/\(m16:Option Nat).isSome=true/\bS G17 ee.drew m16 kvs18/\G17 bW/\∀fK:World,Rec ((m16:Option Nat).getD 0) ee.drew fK->bS G17 fK m16 (vo kvs18 bW (.slice (aI pn.a (0) (pn.c) 1) (((if x9<((pn.n:Nat):Int) then x9 else ((pn.n:Nat):Int)):Int).toNat-0) (pn.c-0)))->
 Br (decide (((if x9<((pn.n:Nat):Int) then x9 else ((pn.n:Nat):Int)):Int)<((pn.n:Nat):Int)))
 ((true=true/\Wr fK (af A 4) 1)/\bk (af A 4)≠some bo.heap.size/\(Pw fK (af A 4) C λfx=>
 (true=true/\Wr fx (af A 1) 1)/\bk (af A 1)≠some bo.heap.size/\(Pw fx (af A 1) [ai] λdU=>
 (true=true/\Wr dU (af A 2) 1)/\bk (af A 2)≠some bo.heap.size/\(Pw dU (af A 2) [ai] λdm=>
 R ((aw (x3-Aa))) dm))))
 (∃tN,tN<n6/\I5 tN ((aw (x8+1))) ((aw (x9-(if x9<((pn.n:Nat):Int) then x9 else ((pn.n:Nat):Int))))) fK))
 ((Pv bo (af A 4) 1 C λfQ=>
 (Pv fQ (af A 1) 1 [ai] λgC=>
 (Pv gC (af A 2) 1 [ai] λcZ=>
 R ((aw (x3-Aa))) cZ)))))) (if x1<B then x1 else B))) (some a0) (if 0>a1 then 0 else a1) [.slice none 0 0]):ae 146 #[a0,a1] w R:=
 cq (Yc 4 23 1) func146 h
def vE.vc{a0:Addr}(h:
 kB w (af (some a0) 3) λs0=>
 se (λI1 n2=>I1 n2 (0) (0) w) λI1 n2 us3 x4 x5 w6=>
 Br (decide (x4<((s0.n:Nat):Int)))
 (eL s0.a x4 s0.n/\gZ w6 (af s0.a ((x4:Int).toNat*1)) λp8=>
 aT (fq p8) (aT (fq p8) (DJ w6 (af p8 1) λb9=>
 ae 79 #[a0,p8] w6 (kX λbK bo=>Br (bK !=0)
 (R (dS #[x5,bK]) bo)
 (Br b9
 (∃n7,n7<n2/\I1 n7 ((aw (x4+1))) ((aw (x5+1))) bo)
 (∃n7,n7<n2/\I1 n7 ((aw (x4+1))) x5 bo))))))
 (R (dS #[x5,ai]) w6)):ae 22 #[a0] w R:=
 cq (Yc 3 14 4) func22 h
def A7.vc{a0:Addr}(h:
 (Pv w (af (some a0) 3) 1 [.slice none 0 0] λw0=>
 gZ w0 (af (some a0) 0) λp1=>
 aT (fq p1) (aT (fq p1) (aT (fq (af p1 0)) (gZ w0 (af (af p1 0) 0) λp2=>
 ae 146 #[p2,a1] w0 (kX λx4 w3=>R x4 w3)))))):ae 91 #[a0,a1] w R:=
 cq bG func91 h
def CK.vc{a0:Addr}{a1:Sl}(h:
 gZ w (af (some a0) 0) λp0=>
 ae 115 #[p0,ai,a1] w (kX λx2 w1=>R x2 w1)):ae 61 #[a0,a1] w R:=
 cq bG func61 h
def CL.vc{a0:Addr}(h:
 gZ w (af (some a0) 0) λp0=>
 ae 76 #[p0,ai] w (λe w1=>∃(s2:Sl)(x3:Int)(b4:Bool),e=Value.tuple #[s2,x3,b4]/\
 R (dS #[s2,b4]) w1)):ae 92 #[a0] w R:=
 cq bG func92 h
end Go.Proofs.YtkkkfkopcfdmaaaGreatDoor
