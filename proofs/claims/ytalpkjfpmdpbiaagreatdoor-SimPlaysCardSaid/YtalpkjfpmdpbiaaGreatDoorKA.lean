import Derived.Test.YtalpkjfpmdpbiaaGreatDoorR
import Derived.Test.YtalpkjfpmdpbiaaGreatDoorP
import Derived.Test.YtalpkjfpmdpbiaaGreatDoorQ
set_option linter.all false
namespace Go.Proofs.YtalpkjfpmdpbiaaGreatDoor
open Go Go.Vc Go.RowKit Go.Proofs Go.dS
abbrev pv(p:Po):Value:=.agg #[p.1,p.2]
abbrev iG(c:Ce):Value:=.agg #[c.1,c.2.1,c.2.2]
abbrev gz:TypeId:=23
abbrev QH:TypeId:=89
def qB(a b:Int)(ha:inI a)(hb:0<b)(w:World):ah 128 #[a,b] w λe w'=>e=Value.int .i64 (a / b)/\w'=w:=by
 apply Rm.vc;obtain ⟨h1,h2,h3,h4⟩:=tdm (a:=a) hb;have hq:=MQ ha hb;have ht:=MR ha hb;refine Br.mk (λh=> ?_) (λ_=>bn.2 ⟨mh.2 aa,bn.2 ⟨mh.2 aa,Br.mk (λh=> ?_) (λh=> ?_)⟩⟩)
 ·simp only [bA] at h;omega
 ·replace h:=fe h;rw [az ht,<-(h1 h).1,az hq];exact ⟨rfl,rfl⟩
 ·replace h:=eX h;rw [az ht,<-(h2 aa).1];exact ⟨rfl,rfl⟩
def qC(a b:Int)(hb:0<b)(hb':b<=1000000)(w:World):ah 148 #[a,b] w λe w'=>e=Value.int .i64 (a % b)/\w'=w:=by
 apply Ro.vc;obtain ⟨h1,h2,h3,h4⟩:=tdm (a:=a) hb;refine Br.mk (λh=> ?_) (λ_=>bn.2 ⟨mh.2 aa,Br.mk (λh=> ?_) (λh=> ?_)⟩)
 ·simp only [bA] at h;omega
 ·replace h:=fe h;rw [wI,<-(h1 h).2];exact ⟨rfl,rfl⟩
 ·replace h:=eX h;rw [<-(h2 aa).2];exact ⟨rfl,rfl⟩
def iZ(a b:Int)(hb:0<b)(hb':b<=1000000)(w:World):ah 44 #[a,b] w λe w'=>e=Value.int .i64 (a % b)/\w'=w:=by
 apply N6.vc;obtain ⟨h1,h2,h3,h4⟩:=tdm (a:=a) hb;refine Br.mk (λh=> ?_) (λ_=>bn.2 ⟨mh.2 aa,Br.mk (λh=> ?_) (λh=> ?_)⟩)
 ·simp only [bA] at h;omega
 ·replace h:=fe h;rw [wI,<-(h1 h).2];exact ⟨rfl,rfl⟩
 ·replace h:=eX h;rw [<-(h2 aa).2];exact ⟨rfl,rfl⟩
def Kl(a b:Int)(ha:inI a)(hb:0<b)(w:World):ah 144 #[a,b] w λe w'=>e=Value.int .i64 (a / b)/\w'=w:=by
 apply N7.vc;obtain ⟨h1,h2,h3,h4⟩:=tdm (a:=a) hb;have hq:=MQ ha hb;have ht:=MR ha hb;have hm:b*a.tdiv b+a.tmod b=a:=Int.mul_tdiv_add_tmod a b;have hsg:(0<=a->0<=a.tmod b)/\(a<=0->a.tmod b<=0):=by refine ⟨λh=>Int.tmod_nonneg b h,λh=> ?_⟩;have:=Int.tmod_nonneg (a:= -a) b aa;rw [Int.neg_tmod] at this;omega
 have aea:a.tdiv b*b=a-a.tmod b:=by rw [Int.mul_comm];omega
 have cX:inI (a.tdiv b*b):=by
  rw [aea];unfold inI at*;rcases oF a 0 with h|h
  ·have:=hsg.2 aa;have:=(tdm (a:=a) hb);have hle:a-a.tmod b<=0:=by
    rcases oF 0 (a-a.tmod b) with h5|h5
    ·exfalso;rw [<-aea] at h5;have h6:a.tdiv b<=0:=by have:=Int.tdiv_nonneg (a:= -a) (b:=b) aa aa;rw [Int.neg_tdiv] at this;omega
     have:=Int.mul_nonpos_of_nonpos_of_nonneg h6 (by omega:0<=b);omega
    ·exact h5
   omega
  ·have:=hsg.1 h;have h6:0<=a.tdiv b:=Int.tdiv_nonneg h aa;have:=oG h6 (by omega:0<=b);omega
 rw [az ht,az cX];refine bn.2 ⟨mh.2 aa,Br.mk (λh=> ?_) (λh=> ?_)⟩
 ·simp only [bA,gt_iff_lt] at h;rw [<-(h1 aa).1,az hq];exact ⟨rfl,rfl⟩
 ·simp only [bV,gt_iff_lt] at h;rw [<-(h2 aa).1];exact ⟨rfl,rfl⟩
def qD(a b:Int)(ha:inI a)(hb:0<b)(w:World):ah 96 #[a,b] w λe w'=>e=Value.int .i64 (a / b)/\w'=w:=by
 apply N8.vc;refine Br.mk (λh=> ?_) (λ_=>(Kl a b ha hb w).mono ?_)
 ·simp only [bA] at h;omega
 ·rintro e w0 ⟨rfl,rfl⟩;exact ⟨_,rfl,rfl,rfl⟩
def lY(c:Ce):Prop:=inI c.1/\inI c.2.1/\inI c.2.2
def wP(c:Ce)(w:World):ah 104 #[iG c] w λe w'=>(∃i b,e=Value.tuple #[.int .i64 i,.bool b]/\((b=true/\k8 c/\i=idx c)\/(b=false/\¬k8 c/\i=0)))/\Ext w w':=by
 apply Km.vc;intro w0 e0;have x0:=bo e0;have hb:Row w0 w [c.1,c.2.1,c.2.2] gz:=Row.nw e0;have uI:=hb.ext (Ext.dr w0);refine Br.mk (λh=> ?_) (λh=>Br.mk (λh2=> ?_) (λh2=> ?_))<;>simp only [bA,bV] at*
 ·exact ⟨⟨_,_,rfl,.inr ⟨rfl,by unfold k8;omega,rfl⟩⟩,x0⟩
 ·exact ⟨⟨_,_,rfl,.inr ⟨rfl,by unfold k8;omega,rfl⟩⟩,x0⟩
 ·refine (qC c.2.2 16 aC aC w0.drew).mono ?_;rintro e w1 ⟨rfl,rfl⟩;refine ⟨_,rfl,rfl,uI.aY (λj hj=>by simp at hj;subst hj;rfl),uI.aY (λj hj=>by simp at hj;subst hj;rfl),(qC c.1 16 aC aC _).mono ?_⟩;rintro e w1 ⟨rfl,rfl⟩;have e1:ai (c.2.1*16)=c.2.1*16:=wI;have e2:ai (c.2.1*16+c.2.2 % 16)=c.2.1*16+c.2.2 % 16:=wI;have e3:ai ((c.2.1*16+c.2.2 % 16)*16)=(c.2.1*16+c.2.2 % 16)*16:=wI;have e4:ai ((c.2.1*16+c.2.2 % 16)*16+c.1 % 16)=idx c:=wI;refine ⟨_,rfl,rfl,uI.aY (λj hj=>by simp at hj;subst hj;rfl),?_,x0.drew⟩;rw [e1,e2,e3,e4];exact ⟨_,_,rfl,.inl ⟨rfl,by unfold k8;omega,rfl⟩⟩
def Eg(c:Ce)(w:World):ah 145 #[iG c] w λe w'=>(∃i b,e=Value.tuple #[.int .i64 i,.bool b]/\((b=true/\k8 c/\i=idx c)\/(b=false/\¬k8 c/\i=0)))/\Ext w w':=by
 apply GL.vc;intro w0 e0;have x0:=bo e0;have hb:Row w0 w [c.1,c.2.1,c.2.2] gz:=Row.nw e0;have uI:=hb.ext (Ext.dr w0);refine Br.mk (λh=> ?_) (λh=>Br.mk (λh2=> ?_) (λh2=> ?_))<;>simp only [bA,bV] at*
 ·exact ⟨⟨_,_,rfl,.inr ⟨rfl,by unfold k8;omega,rfl⟩⟩,x0⟩
 ·exact ⟨⟨_,_,rfl,.inr ⟨rfl,by unfold k8;omega,rfl⟩⟩,x0⟩
 ·refine (iZ c.2.2 16 aC aC w0.drew).mono ?_;rintro e w1 ⟨rfl,rfl⟩;refine ⟨_,rfl,rfl,uI.aY (λj hj=>by simp at hj;subst hj;rfl),uI.aY (λj hj=>by simp at hj;subst hj;rfl),(iZ c.1 16 aC aC _).mono ?_⟩;rintro e w1 ⟨rfl,rfl⟩;have e1:ai (c.2.1*256)=c.2.1*256:=wI;have e2:ai (c.2.2 % 16*16)=c.2.2 % 16*16:=wI;have e3:ai (c.2.1*256+c.2.2 % 16*16)=c.2.1*256+c.2.2 % 16*16:=wI;have e4:ai (c.2.1*256+c.2.2 % 16*16+c.1 % 16)=idx c:=by rw [wI];unfold idx;omega
  refine ⟨_,rfl,rfl,uI.aY (λj hj=>by simp at hj;subst hj;rfl),?_,x0.drew⟩;rw [e1,e2,e3,e4];exact ⟨_,_,rfl,.inl ⟨rfl,by unfold k8;omega,rfl⟩⟩
def ml(c:Ce)(hc:lY c)(w:World):ah 85 #[iG c] w λe w'=>e=(pv (pos c))/\Ext w w':=by apply Kn.vc;intro w0 e0 w1 e1;have x1:Ext w w1.drew:=((bo e0).ay e1).drew;have z0:=dt e0;have hb:Row w1.drew w [c.1,c.2.1,c.2.2] gz:=((by rw [e0];exact Row.new w [_,_,_] _:Row w0 w [c.1,c.2.1,c.2.2] gz).ext (bo e1)).ext (Ext.dr _);refine (qB c.1 16 hc.1 aC w1.drew).mono ?_;rintro e w2 ⟨rfl,rfl⟩;refine ⟨_,rfl,rfl,rfl,hb.aY (λj hj=>by simp at hj;subst hj;rfl),(qB c.2.2 16 hc.2.2 aC _).mono ?_⟩;rintro e w2 ⟨rfl,rfl⟩;refine ⟨_,rfl,rfl,rfl,λw6 e6=>⟨rfl,x1.ab e6 aa⟩⟩
def k9(c:Ce)(hc:lY c)(w:World):ah 50 #[iG c] w λe w'=>e=(pv (pos c))/\Ext w w':=by apply GM.vc;intro w0 e0 w1 e1;have x1:Ext w w1.drew:=((bo e0).ay e1).drew;have z0:=dt e0;have hb:Row w1.drew w [c.1,c.2.1,c.2.2] gz:=((by rw [e0];exact Row.new w [_,_,_] _:Row w0 w [c.1,c.2.1,c.2.2] gz).ext (bo e1)).ext (Ext.dr _);refine (qD c.1 16 hc.1 aC w1.drew).mono ?_;rintro e w2 ⟨rfl,rfl⟩;refine ⟨_,rfl,rfl,rfl,hb.aY (λj hj=>by simp at hj;subst hj;rfl),(qD c.2.2 16 hc.2.2 aC _).mono ?_⟩;rintro e w2 ⟨rfl,rfl⟩;refine ⟨_,rfl,rfl,rfl,λw6 e6=>⟨rfl,x1.ab e6 aa⟩⟩
def FZ(p:Po):Prop:=(-1099511627776<=p.1/\p.1<=1099511627776)/\(-1099511627776<=p.2/\p.2<=1099511627776)
def Ko(p:Po)(hp:FZ p)(i:Int)(hi:0<=i/\i<8192)(w:World):ah 207 #[pv p,i] w λe w'=>e=Value.tuple #[iG (cellAt p i),true]/\Ext w w':=by apply N9.vc;obtain ⟨⟨p1,p2⟩,p3,p4⟩:=hp;intro w0 e0 w1 e1;have z0:=dt e0;have x1:Ext w w1:=(bo e0).ay e1;have t1:Int.tmod i 16=i % 16:=ri hi.1;have t2:Int.tdiv i 256=i / 256:=oH hi.1;have t3:Int.tdiv i 16=i / 16:=oH hi.1;have t4:Int.tmod (i / 16) 16=i / 16 % 16:=ri aa;have Ub:ai (i / 16)=i / 16:=wI;have w2':ai (i / 256)=i / 256:=wI;have w3':ai (p.1*16)=p.1*16:=wI;have w4':ai (p.2*16)=p.2*16:=wI;have w5':ai (p.1*16+i % 16)=p.1*16+i % 16:=wI;have w6':ai (p.2*16+i / 16 % 16)=p.2*16+i / 16 % 16:=wI;rw [t1,t2,t3,Ub,w2',w3',w4',t4,w5',w6'];refine Br.mk (λh=> ?_) (λ_=>Br.mk (λh=> ?_) (λ_ w4 e4=>⟨rfl,x1.ab e4 aa⟩))<;>simp only [bA] at h<;>omega
def Kq(p:Po)(hp:FZ p)(i:Int)(hi:0<=i/\i<8192)(w:World):ah 174 #[pv p,i] w λe w'=>e=Value.tuple #[iG (cellAt p i),true]/\Ext w w':=by
 apply Kr.vc;obtain ⟨⟨p1,p2⟩,p3,p4⟩:=hp;intro w0 e0 w1 e1;have z0:=dt e0;have x1:Ext w w1:=(bo e0).ay e1;have t1:Int.tmod i 16=i % 16:=ri hi.1;have t2:Int.tdiv i 256=i / 256:=oH hi.1;have t3:Int.tmod i 256=i % 256:=ri hi.1;have t4:Int.tdiv (i % 256) 16=i / 16 % 16:=by rw [oH aa];omega
 have Ub:ai (i / 16 % 16)=i / 16 % 16:=wI;have w2':ai (i / 256)=i / 256:=wI;have w3':ai (p.1*16)=p.1*16:=wI;have w4':ai (p.2*16)=p.2*16:=wI;have w5':ai (p.1*16+i % 16)=p.1*16+i % 16:=wI;have w6':ai (p.2*16+i / 16 % 16)=p.2*16+i / 16 % 16:=wI;rw [t1,t2,t3,t4,Ub,w2',w3',w4',w5',w6'];refine Br.mk (λh=> ?_) (λ_=>Br.mk (λh=> ?_) (λ_ w4 e4=>⟨rfl,x1.ab e4 aa⟩))<;>simp only [bA] at h<;>omega
end Go.Proofs.YtalpkjfpmdpbiaaGreatDoor
namespace Go.Proofs.YtalpkjfpmdpbiaaGreatDoor
open Go Go.Vc Go.RowKit Go.Proofs Go.dS
def Kz(s x z:Int)(w:World):ah 239 #[s,x,z] w λe w'=>e=Value.int .u64 (hash s x z)/\w'=w:=by apply Rz.vc;rw [aho,ahp];exact ⟨rfl,rfl⟩
def KA(s x z:Int)(w:World):ah 241 #[s,x,z] w λe w'=>e=Value.int .u64 (hash s x z)/\w'=w:=by apply KC.vc;rw [ahq,ahr];exact ⟨rfl,rfl⟩
def MX(s x z:Int):ai (Int.tmod (hash s x z) 9)=bI s x z:=by rw [ri (We s x z)];exact wI
def lf(s x z zQ:Int)(hn:0<=zQ/\zQ<=64){b:Nat}{w:World}(hb:Row w b [s] qT):ah 238 #[x,z,zQ,b] w λe w'=>e=Value.int .i64 (bI s x z*zQ)/\w'=w:=by apply Ek.vc;refine ⟨s,by rw [hb.ld];rfl,(Kz s x z w).mono ?_⟩;rintro e w1 ⟨rfl,rfl⟩;refine ⟨_,rfl,?_⟩;rw [MX];have hc:=dm s x z;have h1:0<=bI s x z*zQ:=oG hc.1 hn.1;have h2:bI s x z*zQ<=8*64:=Int.mul_le_mul hc.2 hn.2 hn.1 aC;rw [wI];exact ⟨rfl,rfl⟩
def El(s x z:Int)(hx:inI x)(hz:inI z)(w:World):ah 208 #[s,x,z] w λe w'=>e=Value.int .i64 (ground s x z)/\Ext w w':=by
 apply KD.vc;intro w0 e0;have x0:=bo e0;have hb:Row w0 w [s] qT:=Row.nw e0;refine (qB x 8 hx aC w0).mono ?_;rintro e w1 ⟨rfl,rfl⟩;refine ⟨_,rfl,rfl,(qB z 8 hz aC w1).mono ?_⟩;rintro e w1 ⟨rfl,rfl⟩;refine ⟨_,rfl,rfl,(qC x 8 aC aC w1).mono ?_⟩;rintro e w1 ⟨rfl,rfl⟩;refine ⟨_,rfl,rfl,(qC z 8 aC aC w1).mono ?_⟩;rintro e w1 ⟨rfl,rfl⟩;refine ⟨_,rfl,rfl,?_⟩;have hdx:inI (x / 8+1):=by unfold inI at*;omega
 have hdz:inI (z / 8+1):=by unfold inI at*;omega
 have a:=kL (dm s (x / 8) (z / 8)) (u:=8-x % 8) (v:=8-z % 8) aa aa;have b:=kL (dm s (x / 8+1) (z / 8)) (u:=x % 8) (v:=8-z % 8) aa aa;have c:=kL (dm s (x / 8) (z / 8+1)) (u:=8-x % 8) (v:=z % 8) aa aa;have d:=kL (dm s (x / 8+1) (z / 8+1)) (u:=x % 8) (v:=z % 8) aa aa;have q1:ai (8-x % 8)=8-x % 8:=wI;have q2:ai (8-z % 8)=8-z % 8:=wI;rw [q1,q2,az hdx,az hdz,az (n:=(8-x % 8)*(8-z % 8)) (by unfold inI;omega),az (n:=x % 8*(8-z % 8)) (by unfold inI;omega),az (n:=(8-x % 8)*(z % 8)) (by unfold inI;omega),az (n:=x % 8*(z % 8)) (by unfold inI;omega)];refine (lf s _ _ _ ⟨a.1,a.2.1⟩ hb).mono ?_;rintro e w1 ⟨rfl,rfl⟩;refine ⟨_,rfl,(lf s _ _ _ ⟨b.1,b.2.1⟩ hb).mono ?_⟩;rintro e w1 ⟨rfl,rfl⟩;refine ⟨_,rfl,(lf s _ _ _ ⟨c.1,c.2.1⟩ hb).mono ?_⟩;rintro e w1 ⟨rfl,rfl⟩;refine ⟨_,rfl,(lf s _ _ _ ⟨d.1,d.2.1⟩ hb).mono ?_⟩;rintro e w1 ⟨rfl,rfl⟩;refine ⟨_,rfl,?_,x0⟩;have hg:=m8 s x z;have e1:ground s x z=6+(bI s (x / 8) (z / 8)*((8-x % 8)*(8-z % 8))+bI s (x / 8+1) (z / 8)*(x % 8*(8-z % 8))+bI s (x / 8) (z / 8+1)*((8-x % 8)*(z % 8))+bI s (x / 8+1) (z / 8+1)*(x % 8*(z % 8))) / 64:=rfl;generalize bI s (x / 8) (z / 8)*((8-x % 8)*(8-z % 8))=A at*;generalize bI s (x / 8+1) (z / 8)*(x % 8*(8-z % 8))=B at*;generalize bI s (x / 8) (z / 8+1)*((8-x % 8)*(z % 8))=C at*;generalize bI s (x / 8+1) (z / 8+1)*(x % 8*(z % 8))=D at*;rw [az (n:=A+B) (by unfold inI;omega),az (n:=A+B+C) (by unfold inI;omega),az (n:=A+B+C+D) (by unfold inI;omega),oH aa,az (n:=(A+B+C+D) / 64) (by unfold inI;omega),<-e1,wI]
def RP(y g:Int)(hg:6<=g/\g<=100)(w:World):ah 209 #[y,g] w λe w'=>e=Value.int .i64 (BL y g)/\w'=w:=by
 apply ZU.vc;have q1:ai (g-3)=g-3:=wI;have q2:ai (g-1)=g-1:=wI;rw [q1,q2];have fin:∀{v:Int},BL y g=v->(Ending.returned v=Value.int .i64 (BL y g)/\w=w):=λh=>⟨by rw [h],rfl⟩
 refine Br.mk (λh1=>fin ?_) (λh1=>Br.mk (λh2=>fin ?_) (λh2=>Br.mk (λh3=>fin ?_) (λh3=>Br.mk (λh4=>fin ?_) (λh4=>Br.mk (λh5=>fin ?_) (λh5=>Br.mk (λh6=>Br.mk (λh7=>fin ?_) (λh7=>Br.mk (λh8=>fin ?_) (λh8=>Br.mk (λh9=>fin ?_) (λh9=>fin ?_)))) (λh6=>Br.mk (λh8=>fin ?_) (λh8=>Br.mk (λh9=>fin ?_) (λh9=>fin ?_))))))))
 all_goals simp only [bA,bV,beq_iff_eq,beq_eq_false_iff_ne,ne_eq] at*
 all_goals unfold BL
 all_goals (repeat' split)<;>omega
def Em(s x z:Int)(hx:inI x)(hz:inI z)(w:World):ah 219 #[s,x,z] w λe w'=>e=Value.int .i64 (ground s x z)/\Ext w w':=by
 apply Eo.vc;have hdx:inI (x / 8+1)/\inI (x / 8):=by unfold inI at*;omega
 have hdz:inI (z / 8+1)/\inI (z / 8):=by unfold inI at*;omega
 have a:=kL (dm s (x / 8) (z / 8)) (u:=8-x % 8) (v:=8-z % 8) aa aa;have b:=kL (dm s (x / 8+1) (z / 8)) (u:=x % 8) (v:=8-z % 8) aa aa;have c:=kL (dm s (x / 8) (z / 8+1)) (u:=8-x % 8) (v:=z % 8) aa aa;have d:=kL (dm s (x / 8+1) (z / 8+1)) (u:=x % 8) (v:=z % 8) aa aa;have q1:ai (8-x % 8)=8-x % 8:=wI;have q2:ai (8-z % 8)=8-z % 8:=wI;have hg:=m8 s x z;have e1:ground s x z=6+(bI s (x / 8) (z / 8)*((8-x % 8)*(8-z % 8))+bI s (x / 8+1) (z / 8)*(x % 8*(8-z % 8))+bI s (x / 8) (z / 8+1)*((8-x % 8)*(z % 8))+bI s (x / 8+1) (z / 8+1)*(x % 8*(z % 8))) / 64:=rfl;have m1:ai ((8-x % 8)*(8-z % 8))=(8-x % 8)*(8-z % 8):=wI;have m2:ai (x % 8*(8-z % 8))=x % 8*(8-z % 8):=wI;have m3:ai ((8-x % 8)*(z % 8))=(8-x % 8)*(z % 8):=wI;have m4:ai (x % 8*(z % 8))=x % 8*(z % 8):=wI;have k1:=Int.mul_comm (bI s (x / 8) (z / 8)) ((8-x % 8)*(8-z % 8));have k2:=Int.mul_comm (bI s (x / 8+1) (z / 8)) (x % 8*(8-z % 8));have k3:=Int.mul_comm (bI s (x / 8) (z / 8+1)) ((8-x % 8)*(z % 8));have k4:=Int.mul_comm (bI s (x / 8+1) (z / 8+1)) (x % 8*(z % 8));refine ⟨λn i t wr=>w=wr/\((i=0/\t=0/\n=2)\/(i=1/\t=bI s (x / 8) (z / 8)*((8-x % 8)*(8-z % 8))+bI s (x / 8) (z / 8+1)*((8-x % 8)*(z % 8))/\n=1)\/(i=2/\t=bI s (x / 8) (z / 8)*((8-x % 8)*(8-z % 8))+bI s (x / 8) (z / 8+1)*((8-x % 8)*(z % 8))+bI s (x / 8+1) (z / 8)*(x % 8*(8-z % 8))+bI s (x / 8+1) (z / 8+1)*(x % 8*(z % 8))/\n=0)),⟨2,rfl,.inl ⟨rfl,rfl,rfl⟩⟩,?_⟩;rintro n us i t wr ⟨rfl,hi⟩;apply Br.mk<;>intro hc
 ·replace hc:=fe hc;refine ⟨λn' k t' wr=>w=wr/\((k=0/\t'=t/\n'=2)\/(k=1/\n'=1/\t'=t+(if i=0 then bI s (x / 8) (z / 8)*((8-x % 8)*(8-z % 8)) else bI s (x / 8+1) (z / 8)*(x % 8*(8-z % 8))))\/(k=2/\n'=0/\t'=t+(if i=0 then bI s (x / 8) (z / 8)*((8-x % 8)*(8-z % 8)) else bI s (x / 8+1) (z / 8)*(x % 8*(8-z % 8)))+(if i=0 then bI s (x / 8) (z / 8+1)*((8-x % 8)*(z % 8)) else bI s (x / 8+1) (z / 8+1)*(x % 8*(z % 8))))),⟨2,rfl,.inl ⟨rfl,rfl,rfl⟩⟩,?_⟩;rintro n2 us k t' wr ⟨rfl,hk⟩;have ain:i=0\/i=1:=by omega
  apply Br.mk<;>intro jH
  ·replace jH:=fe jH;refine (iZ x 8 aC aC w).mono ?_;rintro e w1 ⟨rfl,rfl⟩;refine ⟨_,rfl,(iZ z 8 aC aC w1).mono ?_⟩;rintro e w1 ⟨rfl,rfl⟩;refine ⟨_,rfl,?_⟩;rw [q1,q2,m1,m2,m3,m4];have ao7:k=0\/k=1:=by omega
   refine Br.mk (λBm=>Br.mk (λeF=> ?_) (λeF=> ?_)) (λBm=>Br.mk (λeF=> ?_) (λeF=> ?_))
   all_goals
    simp only [beq_iff_eq,beq_eq_false_iff_ne,ne_eq] at Bm eF
    refine (qD x 8 hx aC w1).mono ?_
    rintro e w1 ⟨rfl,rfl⟩
    refine ⟨_,rfl,(qD z 8 hz aC w1).mono ?_⟩
    rintro e w1 ⟨rfl,rfl⟩
    refine ⟨_,rfl,(KA _ _ _ w1).mono ?_⟩
    rintro e w1 ⟨rfl,rfl⟩
    refine ⟨_,rfl,?_⟩
    rw [MX]
   ·have hi0:i=0:=Bm;have hk0:k=0:=eF;subst hi0;subst hk0;rw [Int.add_zero,Int.add_zero,az hdx.2,az hdz.2,<-k1,az (n:=bI s (x / 8) (z / 8)*((8-x % 8)*(8-z % 8))) (by unfold inI;omega)];have ht:t'=0:=by omega
    subst ht;refine ⟨1,by omega,rfl,.inr (.inl ⟨by decide,rfl,?_⟩)⟩;rw [wI,if_pos rfl];omega
   ·have hi0:i=0:=Bm;have hk0:k=1:=by omega
    subst hi0;subst hk0;rw [Int.add_zero,az hdx.2,az hdz.1,<-k3,az (n:=bI s (x / 8) (z / 8+1)*((8-x % 8)*(z % 8))) (by unfold inI;omega)];rcases hk with hk|hk|hk
    ·omega
    ·obtain ⟨-,Ga,ht⟩:=hk;rw [if_pos rfl] at ht;have ht0:t=0:=by omega
     subst ht0;refine ⟨0,by omega,rfl,.inr (.inr ⟨by decide,rfl,?_⟩)⟩;rw [wI,if_pos rfl,if_pos rfl];omega
    ·omega
   ·have hi0:i=1:=by omega
    have hk0:k=0:=eF;subst hi0;subst hk0;rw [Int.add_zero,az hdx.1,az hdz.2,<-k2,az (n:=bI s (x / 8+1) (z / 8)*(x % 8*(8-z % 8))) (by unfold inI;omega)];rcases hk with hk|hk|hk
    ·obtain ⟨-,ht,Ga⟩:=hk;refine ⟨1,by omega,rfl,.inr (.inl ⟨by decide,rfl,?_⟩)⟩;rw [wI,if_neg aC];omega
    ·omega
    ·omega
   ·have hi0:i=1:=by omega
    have hk0:k=1:=by omega
    subst hi0;subst hk0;rw [az hdx.1,az hdz.1,<-k4,az (n:=bI s (x / 8+1) (z / 8+1)*(x % 8*(z % 8))) (by unfold inI;omega)];rcases hk with hk|hk|hk
    ·omega
    ·obtain ⟨-,Ga,ht⟩:=hk;rw [if_neg aC] at ht;refine ⟨0,by omega,rfl,.inr (.inr ⟨by decide,rfl,?_⟩)⟩;rw [wI,if_neg aC,if_neg aC];omega
    ·omega
  ·replace jH:=eX jH;rcases hk with hk|hk|hk
   ·omega
   ·omega
   ·obtain ⟨-,Ga,ht⟩:=hk;rcases ain with h|h
    ·subst h;rw [if_pos rfl,if_pos rfl] at ht;refine ⟨1,by omega,rfl,.inr (.inl ⟨by decide,by omega,rfl⟩)⟩
    ·subst h;rw [if_neg aC,if_neg aC] at ht;refine ⟨0,by omega,rfl,.inr (.inr ⟨by decide,by omega,rfl⟩)⟩
 ·replace hc:=eX hc;rcases hi with hi|hi|hi
  ·omega
  ·omega
  ·obtain ⟨-,ht,-⟩:=hi;refine ⟨?_,Ext.bX _⟩;have:t=bI s (x / 8) (z / 8)*((8-x % 8)*(8-z % 8))+bI s (x / 8+1) (z / 8)*(x % 8*(8-z % 8))+bI s (x / 8) (z / 8+1)*((8-x % 8)*(z % 8))+bI s (x / 8+1) (z / 8+1)*(x % 8*(z % 8)):=by omega
   rw [<-this] at e1;rw [oH aa,az (n:=t / 64) (by unfold inI;omega),<-e1,wI]
def GV(s:Int)(c:Ce)(hc:lY c)(w:World):ah 175 #[s,iG c] w λe w'=>e=Value.int .i64 (BL c.2.1 (ground s c.1 c.2.2))/\Ext w w':=by
 apply GY.vc;intro w0 e0;have x0:=bo e0;have z0:=dt e0;refine (Em s c.1 c.2.2 hc.1 hc.2.2 w0).mono ?_;rintro e w1 ⟨rfl,x1⟩;refine ⟨_,rfl,x1.heap aa,?_⟩;have hg:=m8 s c.1 c.2.2;generalize ground s c.1 c.2.2=g at hg;generalize c.2.1=y;have q1:ai (g-3)=g-3:=wI;have q2:ai (g-1)=g-1:=wI;rw [q1,q2];have fin:∀{v:Int},BL y g=v->(Ending.returned v=Value.int .i64 (BL y g)/\Ext w w1):=λh=>⟨by rw [h],x0.tr x1⟩
 refine Br.mk (λh1=>fin ?_) (λh1=>Br.mk (λh2=>fin ?_) (λh2=>Br.mk (λh3=>fin ?_) (λh3=>Br.mk (λh4=>fin ?_) (λh4=>Br.mk (λh5=>fin ?_) (λh5=>Br.mk (λh6=>Br.mk (λh7=>fin ?_) (λh7=>fin ?_)) (λh6=>Br.mk (λh9=>fin ?_) (λh9=>fin ?_)))))))
 all_goals simp only [bA,bV,beq_iff_eq,beq_eq_false_iff_ne,ne_eq] at*
 all_goals unfold BL
 all_goals (repeat' split)<;>omega
end Go.Proofs.YtalpkjfpmdpbiaaGreatDoor
namespace Go.Proofs.YtalpkjfpmdpbiaaGreatDoor
open Go Go.Vc Go.RowKit Go.Proofs Go.dS Go.bh
def Ao(ag:Int)(p:Po){k:Nat}(hk:k<8192):(made ag p)[k]? =some (BL (cellAt p k).2.1 (ground ag (cellAt p k).1 (cellAt p k).2.2)):=by unfold made;rw [aV,Gr hk];rfl
def S8{p:Po}(hp:FZ p)(i:Int)(hi:0<=i/\i<8192):lY (cellAt p i):=by obtain ⟨⟨p1,p2⟩,p3,p4⟩:=hp;unfold lY cellAt inI;simp only;omega
attribute [local irreducible] made in
set_option maxRecDepth 100000 in
def Cp(ag:Int)(p:Po)(hp:FZ p)(w:World):ah 127 #[ag,pv p] w λe w'=>∃s':Sl,e=s'/\lS w w' s' (cM (made ag p))/\Ext w w':=by
 apply Hf.vc;intro w0 e0;have x0:=bo e0;have z0:=dt e0;refine ⟨λn x s wr=>Ext w0 wr/\∃k:Nat,x=k/\k+n=8192/\Vk w0 wr s ((made ag p).take k),⟨8192,rfl,Ext.bX _,0,rfl,by omega,by rw [MP];exact aj.nil⟩,?_⟩;rintro n us x s wr ⟨xr,k,rfl,hk,ho⟩;have zr:=xr.size;apply Br.mk<;>intro hc
 ·replace hc:=fe hc;have hi:0<=(k:Int)/\(k:Int)<8192:=by omega
  refine (Kq p hp k hi wr).mono ?_;rintro e w8 ⟨rfl,x8⟩;refine ⟨_,_,_,_,rfl,x8.heap aa,?_⟩;have z8:=x8.size;intro cC qX bY mB;have bW:Ext w8 bY:=(bo qX).ab mB (ax _);have Vx:bY.heap.size=w8.heap.size+1:=by rw [mB,setRow_size,qX];simp
  refine (GV ag (cellAt p k) (S8 hp k hi) bY).mono ?_;rintro e cU ⟨rfl,bw⟩;have z15:=bw.size;refine ⟨_,rfl,bw.heap aa,bw.heap aa,?_⟩;intro cE qk;have cR:=bo qk;have z17:=dt qk;have xall:Ext wr cE:=((x8.tr bW).tr bw).tr cR;have ed:s.n=k:=by rw [xI.len ho.Vl,bF,gO];omega
  obtain ⟨c1,c2⟩:=(aj.ext ho xall).append (bytes:=8) (news:=iv (BL (cellAt p k).2.1 (ground ag (cellAt p k).1 (cellAt p k).2.2))) aa rfl (lF _ _) aa aa;refine ⟨c1,λY0 ft aR=> ?_⟩;obtain ⟨d1,d2,d3,d4,d5⟩:=c2 Y0 ft aR;have Ft:∀j,wr.heap.size<=j->s.bj≠some j:=λj hj e=>by have:=(ho.own.lt e).2;omega
  have Qk:s.bj≠some w.heap.size:=λe=>by have:=(ho.own.lt e).1;omega
  have BR:=kK (j:=k);refine ⟨d4 _ Qk aa,d4 _ (Ft _ aa) aa,d4 _ (Ft _ aa) aa,n-1,by omega,rfl,(xr.tr xall).trans d3,k+1,BR,by omega,?_⟩;rw [cm,Ao ag p aa];show aj _ _ _ _ _ _;rw [aT];exact d1
 ·replace hc:=eX hc;have:k=8192:=by omega
  subst this;rw [cZ (by rw [gO];exact ax _)] at ho;refine (mF s (made ag p) wr ho.Vl (by rw [gO];decide)).mono ?_;rintro e dY ⟨s',rfl,ho',x'⟩;exact ⟨s',rfl,x'.heap aa,s',rfl,aj.low ho' aa,(x0.tr xr).tr x'⟩
end Go.Proofs.YtalpkjfpmdpbiaaGreatDoor
namespace Go.Proofs.YtalpkjfpmdpbiaaGreatDoor
open Go Go.Vc Go.RowKit Go.Proofs Go.dS Go.bh
def PO(ag:Int)(p:Po)(k:Nat):LV:=(List.range 256).map λi:Nat=> .int .i64 (if i<k then ground ag (cellAt p i).1 (cellAt p i).2.2 else 0)
def uA(ag:Int)(p:Po)(k:Nat):(PO ag p k).length=256:=by simp [PO]
def yT(ag:Int)(p:Po)(k:Nat){i:Nat}(hi:i<256):(PO ag p k)[i]? =some (.int .i64 (if i<k then ground ag (cellAt p i).1 (cellAt p i).2.2 else 0)):=by unfold PO;rw [aV,Gr hi];rfl
def WS(ag:Int)(p:Po){k:Nat}(hk:k<256):(PO ag p k).set k (.int .i64 (ground ag (cellAt p k).1 (cellAt p k).2.2))=PO ag p (k+1):=by
 apply im;intro i;rw [il];rcases fz i 256 with h|h
 ·rw [yT _ _ (k+1) h];split
  ·rename_i e;subst e;rw [if_pos (by rw [uA];exact h),if_pos aa]
  ·rename_i e;rw [yT _ _ k h];congr 3;exact propext ⟨λh=>by omega,λh=>by omega⟩
 ·rw [iq (by rw [uA];exact h),iq (by rw [uA];exact h),if_neg aa]
def TK(ag:Int)(p:Po):PO ag p 0=List.replicate 256 (.int .i64 0):=by
 apply List.ext_getElem?;intro i;rcases Nat.lt_or_ge i 256 with h|h
 ·rw [yT _ _ 0 h,List.getElem?_replicate,if_pos h,if_neg (by omega)]
 ·rw [List.getElem?_eq_none (by rw [uA];exact h),List.getElem?_eq_none (by rw [List.length_replicate];exact h)]
def zN(ag:Int)(p:Po):List (LV):=(made ag p).map λb=> [.int .i64 b]
def Db(ag:Int)(p:Po):(zN ag p).length=8192:=by unfold zN;rw [aB,gO]
def WT(ag:Int)(p:Po){k:Nat}(hk:k<8192):(made ag p)[k]? =some (BL ((k:Int) / 256) (ground ag (cellAt p ((k % 256:Nat):Int)).1 (cellAt p ((k % 256:Nat):Int)).2.2)):=by
 rw [Ao ag p hk];have e1:(cellAt p ((k % 256:Nat):Int)).1=(cellAt p k).1:=by unfold cellAt;simp only;omega
 have e2:(cellAt p ((k % 256:Nat):Int)).2.2=(cellAt p k).2.2:=by unfold cellAt;simp only;omega
 rw [e1,e2];rfl
abbrev MW(bp bs:Nat):Nat->Prop:=λi=>i=bp\/i=bs
abbrev Ys(bp bs:Nat):Value:=.func (.func 206) #[] #[bp,bs]
attribute [local irreducible] made PO in
set_option maxRecDepth 100000 in
def zO(ag:Int)(p:Po)(hp:FZ p)(bp bs:Nat)(W0:World)(hbp:Row W0 bp [p.1,p.2] QH)(hbs:Row W0 bs [ag] qT):
  Iter Tryz.prog (Ys bp bs) W0 (MW bp bs) (zN ag p):=by
 refine ⟨⟨_,_,_,rfl,by kernel_rfl⟩,?_⟩;intro y B J Jx F0 W hB hsJ hsX uI hRd hround h0;refine iA (by kernel_rfl) (by rfl) ?_;apply Hk.vc;have same:∀{w:World} {F:Nat->Prop},(∀i,MW bp bs i->¬F i/\i<w.heap.size/\w.heap[i]? =W0.heap[i]?)->Row w bp [p.1,p.2] QH/\Row w bs [ag] qT:=λ{w F} h=>
  ⟨hbp.same (h bp (.inl rfl)).2.2,hbs.same (h bs (.inr rfl)).2.2⟩
 intro w0 e0;have x0:Ext W w0:=(Ext.bX W).ay e0;have z0:=dt e0;have Ua:Row w0 W.heap.size (PO ag p 0) 267:=by rw [e0,TK];exact Row.new W (List.replicate 256 (0:Int)) _
 clear e0;have VT:=uI _ _ _ h0;have bel:∀{w:World},Ext W w->J 0 F0 w/\∀i,MW bp bs i->¬F0 i/\i<w.heap.size/\w.heap[i]? =W0.heap[i]? :=λ{w} x=>
  ⟨hsJ _ _ _ _ h0 (Below.mono x hB) λi hi=>x.heap (VT i hi),λi hi=>by obtain ⟨h1,h2,h3⟩:=hRd i hi;exact ⟨h1,by have:=x.size;omega,(x.heap h2).trans h3⟩⟩
 refine ⟨λn x wr=>Ext W wr/\W.heap.size<wr.heap.size/\∃k:Nat,x=k/\k+n=256/\Row wr W.heap.size (PO ag p k) 267,⟨256,x0,by omega,0,rfl,by omega,Ua⟩,?_⟩;rintro n us x wr ⟨xr,zr,k,rfl,hk,hg⟩;refine Br.mk (λhc=> ?_) (λhc=> ?_)
 ·replace hc:=fe hc;obtain ⟨Bm,eF⟩:=same (bel xr).2;refine ⟨p.1,p.2,Bm.aY (λj hj=>by rw [Nat.zero_add]),(Ko p hp k (by omega) wr).mono ?_⟩;rintro e w9 ⟨rfl,x9⟩;refine ⟨_,_,_,_,rfl,?_⟩;intro bY mB cU Bo;have bw:Ext w9 cU:=((Ext.bX _).ay mB).ab Bo (Nat.le_refl _);have z15:cU.heap.size=w9.heap.size+1:=by rw [Bo,setRow_size,mB];simp
  have z9:=x9.size;have ak7:=eF.ext (x9.tr bw);refine ⟨ag,by rw [ak7.ld];rfl,?_⟩;have aU:=S8 hp k ⟨by omega,by omega⟩;refine (El ag _ _ aU.1 aU.2.2 cU).mono ?_;rintro e cE ⟨rfl,cR⟩;have z17:=cR.size;have ak8:=hg.ext ((x9.tr bw).tr cR);have XL:((k:Int).toNat*1)=k:=by omega
  rw [XL];obtain ⟨p1,p2⟩:=ak8.jR (j:=k) (v:=.int .i64 (ground ag (cellAt p k).1 (cellAt p k).2.2)) (by rw [uA];omega) rfl;refine ⟨_,rfl,cR.k,by omega,by omega,⟨rfl,p1⟩,?_,λft uR=> ?_⟩
  ·rw [dj];intro e;have:W.heap.size=w9.heap.size:=by simpa [cS] using e
   omega
  ·obtain ⟨q1,q2⟩:=p2 ft uR;have BR:IntKind.wrap .i64 ((k:Int)+1)=((k+1:Nat):Int):=by rw [wI];omega
   have ak9:aW (PO ag p k) k [.int .i64 (ground ag (cellAt p k).1 (cellAt p k).2.2)]=PO ag p (k+1):=by rw [<-WS ag p (by omega)];rfl
   rw [ak9] at q1;exact ⟨n-1,by omega,q2.ext (xr.tr ((x9.tr bw).tr cR)) (λi hi=>by omega),by have:=q2.size;omega,k+1,BR,by omega,q1⟩
 ·replace hc:=eX hc;have afw:k=256:=by omega
  subst afw;obtain ⟨hJr,hKr⟩:=bel xr;refine ⟨λn x wr=>∃(k:Nat)(F:Nat->Prop),x=k/\k+n=8192/\B<=wr.heap.size/\W.heap.size<wr.heap.size/\¬F W.heap.size/\J k F wr/\Row wr W.heap.size (PO ag p 256) 267,
   ⟨8192,0,F0,rfl,by omega,by omega,zr,λhf=>by have:=VT _ hf;omega,hJr,hg⟩,?_⟩
  rintro n us x wq ⟨k,F,rfl,hk,hBq,hzq,hnF,hJq,hgq⟩;refine Br.mk (λhc=> ?_) (λhc=> ?_)
  ·replace hc:=fe hc;have t1:Int.tmod (k:Int) 256=((k % 256:Nat):Int):=by rw [Int.tmod_eq_emod_of_nonneg (by omega)];omega
   have t2:IntKind.wrap .i64 (Int.tdiv (k:Int) 256)=(k:Int) / 256:=by rw [Int.tdiv_eq_ediv_of_nonneg (by omega),wI]
   rw [t1,t2];have XL:(((k % 256:Nat):Int).toNat*1)=k % 256:=by omega
   rw [XL];have dC:=yT ag p 256 (i:=k % 256) (by omega);rw [if_pos (by omega)] at dC;refine ⟨by omega,by omega,_,hgq.at _ dC,(RP _ _ (m8 _ _ _) wq).mono ?_⟩;rintro e jf ⟨rfl,rfl⟩;refine ⟨_,rfl,?_⟩;have hx:(zN ag p)[k]? =some [.int .i64 (BL ((k:Int) / 256) (ground ag (cellAt p ((k % 256:Nat):Int)).1 (cellAt p ((k % 256:Nat):Int)).2.2))]:=by unfold zN;rw [List.getElem?_map,WT ag p (by omega)];rfl
   refine sw (hround _ _ _ _ hx hJq) ?_;have BR:IntKind.wrap .i64 ((k:Int)+1)=((k+1:Nat):Int):=by rw [wI];omega
   rintro e fP (⟨rfl,F2,hJ2,lT⟩|⟨rfl,F2,hJ2,lT⟩)
   ·refine ⟨true,rfl,Br.mk (λh=>by cases h) (λ_=>⟨n-1,by omega,k+1,F2,BR,by omega,by have:=lT.size;omega,by have:=lT.size;omega,λhf=> ?_,hJ2,hgq.same (lT.same _ hzq hnF)⟩)⟩;rcases lT.sub _ hf with hf|hf
    ·exact hnF hf
    ·omega
   ·exact ⟨false,rfl,Br.mk (λ_=>⟨⟨_,rfl⟩,.inr ⟨F2,hJ2⟩⟩) (λh=>by cases h)⟩
  ·replace hc:=eX hc;have Vz:k=8192:=by omega
   subst Vz;exact ⟨⟨_,rfl⟩,.inl ⟨F,by rw [Db];exact hJq⟩⟩
def zM(ag:Int)(p:Po)(w:World):ah 163 #[ag,pv p] w λe w'=>e=(Ys (w.heap.size+1) w.heap.size)/\Row w' (w.heap.size+1) [p.1,p.2] QH/\Row w' w [ag] qT/\Ext w w':=by apply Ox.vc;intro w0 e0 w1 e1;have z0:=dt e0;have x1:=bo e1;have hb:Row w0 w [ag] qT:=Row.nw e0;refine ⟨by rw [z0],?_,hb.ext x1,(bo e0).tr x1⟩;rw [<-z0,e1];exact Row.new w0 [_,_] _
end Go.Proofs.YtalpkjfpmdpbiaaGreatDoor
namespace Go.Proofs.YtalpkjfpmdpbiaaGreatDoor
open Go Go.Vc Go.RowKit Go.Proofs Go.dS Go.bh
def Od(s:Sl)(c:List Int)(w:World)(hs:Vk 0 w s c):ah 165 #[s] w λe w'=>(∃s':Sl,e=s'/\xI w s' c)/\w'=w:=by
 apply xJ.vc;have hn:=xI.len hs.Vl;have uH:s.n<=s.c:=by
  rcases aj.form hs aC with ⟨h,-⟩|⟨g0,cs,ha,Ua,hr,hc,Gb,-⟩
  ·rw [h];exact ax _
  ·exact Gb
 have:=RdK.cut hs.Vl (m:=s.n) (c':=s.n) (c'':=s.n) (by rw [aB];omega);rw [cZ (by rw [aB];omega)] at this;exact ⟨by omega,by omega,by omega,by omega,⟨⟨aA s.a 0 s.n 1,s.n,s.n⟩,rfl,this⟩,rfl⟩
attribute [local irreducible] made in
set_option maxRecDepth 100000 in
def wR(ag:Int)(p:Po)(hp:FZ p)(w:World):ah 121 #[ag,pv p] w λe w'=>∃s':Sl,e=s'/\lS w w' s' (cM (made ag p))/\Ext w w':=by
 apply Oe.vc;intro w0 e0 w1 e1;have z0:=dt e0;have z1:w1.heap.size=w.heap.size+2:=by rw [e1];simp [z0]
 have oU:Ext w w1:=(bo e0).ay e1;refine (zM ag p w1).mono ?_;rintro e w2 ⟨rfl,hbp,hbs,x2⟩;have fH:=hbp.lt;have xx:=oU.tr x2;have zz:=xx.size;refine ⟨_,rfl,x2.heap aa,x2.heap aa,?_⟩;refine ⟨zN ag p,MW (w1.heap.size+1) w1.heap.size,λ_=>False,λn F s w'=>(∀i,F i ↔ s.bj=some i)/\Vk (w2.heap.size+2) w' s ((made ag p).take n)/\Ext w w'/\w2.heap.size+2<=w'.heap.size,λ_ _ _ _=>False,
  ?_,?_,λ_ _ _ _ _ h=>h.elim,?_,λ_ _ _ _ h=>h.elim,λi hi=>⟨by rcases hi with h|h<;>omega,id,by rcases hi with h|h<;>omega,by rcases hi with h|h<;>omega,trivial⟩,?_,?_,?_,trivial⟩
 ·intro x hx;obtain ⟨b,_,rfl⟩:=aS.1 hx;exact ⟨b,rfl⟩
 ·rintro n F s w3 w4 ⟨hF,ho,uM,hz⟩ hbl2 hsame;exact ⟨hF,aj.bM ho λi hi=>hsame i ((hF i).2 hi),uM.trans (Below.mono hbl2 zz),by have:=hbl2.size;omega⟩
 ·rintro n F s w3 ⟨hF,ho,uM,hz⟩ i hi;have:=ho.own.lt ((hF i).1 hi);omega
 ·intro w3 aec;have aaK:Below w2 w2 w3:=aec.ext;refine ⟨zO ag p hp _ _ w3 (hbp.ext aaK) (hbs.ext aaK),rfl,?_,?_,xx.trans (Below.mono aaK zz),by have:=aec.size;omega⟩
  ·intro i;simp [Sl.bj]
  ·rw [MP];exact aj.nil
 ·rintro n F us o y w3 hx hI;have hy:(made ag p)[n]? =some y:=by
   unfold zN at hx;rw [aV,Da] at hx;obtain ⟨b,hb,e⟩:=hx;have:b=y:=by simpa using e
   rw [<-this];exact hb
  refine ⟨Below.refl _ _,λw4 j3 hI3=> ?_⟩;obtain ⟨hF,ho,uM,hz⟩:=hI3;intro w5 e5;have x5:=bo e5;have z5:=dt e5;have Jl:n<8192:=by have:=(bH.1 hy).1;rw [gO] at this;exact this
  have BO:=xI.len ho.Vl;rw [bF,gO] at BO;obtain ⟨hp1,aR⟩:=(aj.ext ho x5).append (bytes:=8) (news:=iv y) aa rfl (lF _ _) aa aa;refine ⟨hp1,λs5 w6 hr=> ?_⟩;obtain ⟨u9,hn5,xb,JV,hM⟩:=aR s5 w6 hr;have JW:∀i,o.bj=some i->w2.heap.size+2<=i/\i<w4.heap.size:=λi hi=>ho.own.lt hi
  have hz6:=xb.size;refine ⟨JV _ (λhb=>by have:=JW _ hb;omega) aa,JV _ (λhb=>by have:=JW _ hb;omega) aa,JV _ (λhb=>by have:=JW _ hb;omega) aa,?_⟩;intro w7 hw7;have e7:∀i,i≠w0.heap.size->w7.heap[i]? =w6.heap[i]? :=λi hi=>by rw [hw7];exact setRow_other _ _ _ _ hi
  have z7:w7.heap.size=w6.heap.size:=by rw [hw7,setRow_size]
  have hb5:∀i,s5.bj=some i->w2.heap.size+2<=i:=λi hi=>by
   rcases hM with h|h
   ·exact (JW i (by rw [<-h];exact hi)).1
   ·rw [h] at hi;simp at hi;omega
  refine ⟨λi=>s5.bj=some i,⟨rfl,λi=>Iff.rfl,?_,?_,by omega⟩,Step.late ⟨?_,by omega,?_⟩⟩
  ·have e:(made ag p).take (n+1)=(made ag p).take n++ [y]:=by rw [cm,hy];rfl
   rw [e];have h5:Vk (w2.heap.size+2) w6 s5 ((made ag p).take n++ [y]):=by show aj _ _ 1 _ _ (((made ag p).take n++ [y]).map iv);rw [aT];exact u9
   exact aj.bM h5 λi hi=>e7 i (by have:=hb5 i hi;omega)
  ·have h5:Ext w w6:=(uM.tr x5).trans (Below.mono xb aa);rw [hw7];exact h5.setRow aa _
  ·rintro i (hi|hi)
   ·rcases hM with h|h
    ·exact .inl (.inl ((hF i).2 (by rw [<-h];exact hi)))
    ·rw [h] at hi;simp at hi;exact .inr aa
   ·exact .inl (.inr hi)
  ·intro i hi hni;have h1:i≠w0.heap.size:=λe=>hni (.inr (by simp [e]))
   rw [e7 i h1,JV i (λhb=>hni (.inl ((hF i).2 hb))) aa];exact x5.heap hi
 ·rintro F us o w3 ⟨hF,ho,uM,hz⟩ hD;rw [Db,cZ (by rw [gO];exact ax _)] at ho;refine (Od o (made ag p) w3 (aj.low ho (eC _))).mono ?_;rintro e w4 ⟨⟨s4,rfl,hs4⟩,rfl⟩;refine ⟨s4,rfl,rfl,rfl,(Ej s4 (made ag p) w4 hs4 (by rw [gO];decide)).mono ?_⟩;rintro e w5 ⟨s5,rfl,u9,x5⟩;refine ⟨s5,rfl,x5.heap aa,x5.heap aa,(x5.heap aa).trans hD,λw6 j3=> ?_⟩;have hz5:=x5.size;have ho6:lS w w6 s5 (cM (made ag p)):=aj.low (aj.bM u9 λi hi=>j3.same i (by have:=(u9.own.lt hi).1;omega)) aa;exact ⟨s5,rfl,ho6,(uM.tr x5).trans (Below.mono (j3.below (ax _)) aa)⟩
end Go.Proofs.YtalpkjfpmdpbiaaGreatDoor
namespace Go.Proofs.YtalpkjfpmdpbiaaGreatDoor
open Go Go.Vc Go.RowKit Go.Proofs Go.dS Go.bh
abbrev sk:TypeId:=183
structure B7(w:World)(g:Nat)(s:Sl)(p:Po)(C:List Int):Prop where
 row:Row w g [p.1,p.2,s] sk
 own:lS 0 w s (cM C)
 len:C.length=8192
 may:∀b ∈ C,ba b=true
def B7.bM{w w':World}{g:Nat}{s:Sl}{p:Po}{C:List Int}(h:B7 w g s p C){F:Nat->Prop}(hm:Mod F w w')(hg:¬F g)(hs:∀b,s.bj=some b->¬F b):B7 w' g s p C:=
 ⟨hm.row h.row hg,hm.gK h.own hs,h.len,h.may⟩
def B7.ext{w w':World}{g:Nat}{s:Sl}{p:Po}{C:List Int}(h:B7 w g s p C)(x:Ext w w'):B7 w' g s p C:=⟨h.row.ext x,aj.ext h.own x,h.len,h.may⟩
def B7.bd{w:World}{g:Nat}{s:Sl}{p:Po}{C:List Int}(h:B7 w g s p C):Bd C.length:=by rw [h.len];decide
def pJ(p:Po)(c:Ce):Bool:=decide (0<=c.2.1) && decide (c.2.1<32) &&(pos c==p)
def eT(p:Po)(c:Ce):pJ p c=true ↔ k8 c/\pos c=p:=by unfold pJ k8;simp only [gr,bA,beq_iff_eq]
def rZ(p:Po)(C:List Int)(c:Ce):Int:=if pJ p c then OF C (idx c) else 0
def fL(p:Po)(C:List Int)(c:Ce)(b:Int):List Int × Int:=if pJ p c=false then (C,5) else if ba b=false then (C,1) else (C.set (idx c).toNat b,0)
def A8(p:Po)(c:Ce)(hc:lY c)(w:World):ah 129 #[pv p,iG c] w λe w'=>(∃i,e=Value.tuple #[.int .i64 i,.bool (pJ p c)]/\(pJ p c=true->i=idx c))/\Ext w w':=by
 apply tN.vc;intro w0 e0 w1 e1;have z0:=dt e0;have z1:w1.heap.size=w.heap.size+2:=by rw [e1];simp [z0]
 have x1:Ext w w1:=(bo e0).ay e1;have hb:Row w1 w [p.1,p.2] 181:=(by rw [e0];exact Row.new w [_,_] _:Row w0 w [p.1,p.2] 181).ext (bo e1);refine (wP c w1).mono ?_;rintro e w2 ⟨⟨i,b,rfl,hi⟩,x2⟩;have z2:=x2.size;refine ⟨i,b,rfl,x2.heap aa,x2.heap aa,Br.mk (λGj=> ?_) (λGj=> ?_)⟩
 ·rcases hi with ⟨-,hy,rfl⟩|⟨h,-⟩
  ·refine (ml c hc w2.drew).mono ?_;rintro e w5 ⟨rfl,x5⟩;refine ⟨_,_,rfl,x5.heap (show w.heap.size<w2 by omega),x5.heap (show w0.heap.size<w2 by omega),((hb.ext x2).ext (Ext.dr _)|>.ext x5).aY (λj hj=>by rw [cP]),?_,(x1.tr x2).tr ((Ext.dr _).tr x5)⟩;refine ⟨_,?_,λ_=>rfl⟩;have:pJ p c=(((pos c).1==p.1) &&((pos c).2==p.2)):=by unfold pJ;unfold k8 at hy;rw [decide_eq_true hy.1,decide_eq_true hy.2];rfl
   rw [this]
  ·rw [h] at Gj;cases Gj
 ·rcases hi with ⟨h,-⟩|⟨-,hy,rfl⟩
  ·rw [h] at Gj;cases Gj
  ·have:pJ p c=false:=by
    cases hk:pJ p c with
    |false=>rfl
    |true=>exact absurd ((eT p c).1 hk).1 hy
   rw [this];exact ⟨⟨_,rfl,λh=>by cases h⟩,(x1.tr x2).drew⟩
def WW(y g:Int):ba (BL y g)=true:=by rcases Pe y g with h|h|h|h|h<;>rw [h]<;>decide+kernel
def HN(ag:Int)(p:Po):∀b ∈ made ag p,ba b=true:=by intro b hb;unfold made at hb;obtain ⟨i,_,rfl⟩:=aS.1 hb;exact WW _ _
def KS(ag:Int)(p:Po)(hp:FZ p)(w:World):ah 75 #[ag,pv p] w λe w'=>∃g s,e=Value.pointer (bu g)/\B7 w' g s p (made ag p)/\Ext w w'/\w.heap.size<=g/\∀b,s.bj=some b->w.heap.size<=b:=by
 apply KP.vc;intro w0 e0;have x0:=bo e0;have z0:=dt e0;have hb:Row w0 w [p.1,p.2] QH:=Row.nw e0;have fin:∀{w1 w3:World} {s:Sl},Ext w0.drew w1->lS w0.drew.heap.size w1 s (cM (made ag p))->w3=w1.alloc (.cells #[p.1,p.2,.slice s.a s.n s.c] sk)->B7 w3 w1 s p (made ag p)/\Ext w w3/\w.heap.size<=w1/\∀b,s.bj=some b->w.heap.size<=b:=λ{w1 w3 s} x1 ho e3=>by have x3:=bo e3;refine ⟨⟨by rw [e3];exact Row.new w1 [_,_,_] _,(aj.low ho (eC _)).ext x3,gO _ _,HN _ _⟩,((x0.drew).tr x1).tr x3,(x0.drew.tr x1).size,λb hb=>fA x0.drew.size (ho.own.lt hb).1⟩
 refine ⟨(wR ag p hp w0.drew).mono ?_,(wR ag p hp w0.drew).mono ?_⟩
 ·rintro e w1 ⟨s,rfl,ho,x1⟩;refine ⟨s,rfl,x1.heap (show w.heap.size<w0 by omega),λw3 e3=>⟨_,s,rfl,fin x1 ho e3⟩⟩
 ·rintro e w1 ⟨s,rfl,ho,x1⟩;refine ⟨s,rfl,x1.heap (show w.heap.size<w0 by omega),((hb.ext (Ext.dr _)).ext x1).aY (λj hj=>by rw [cP]),λw3 e3=>⟨_,s,rfl,fin x1 ho e3⟩⟩
end Go.Proofs.YtalpkjfpmdpbiaaGreatDoor
namespace Go.Proofs.YtalpkjfpmdpbiaaGreatDoor
open Go Go.Vc Go.RowKit Go.Proofs Go.dS Go.bh
def B7.pos{w:World}{g:Nat}{s:Sl}{p:Po}{C:List Int}(h:B7 w g s p C):au w (ae (bu g) 0) 0 [p.1,p.2]:=by
 rw [bZ];exact h.row.aY (λj hj=>by
  simp at hj;rcases j with _|_|j
  ·rfl
  ·rfl
  ·omega)
def Dd{C:List Int}(h:C.length=8192):(∀r ∈ cM C,0<=r.1)/\bg (cM C)<=1099511627776/\Bd (cM C).length:=by refine ⟨λr hr=>by have:=(iK hr).1;omega,by rw [iB,h];decide,?_⟩;have:=j7 C;show (cM C).length<=1099511627776;omega
def yS{w:World}{g:Nat}{s:Sl}{p:Po}{C:List Int}(h:B7 w g s p C)(c:Ce)(hc:lY c):ah 86 #[g,iG c] w λe w'=>e=Value.tuple #[(rZ p C c),.bool (pJ p c)]/\Ext w w':=by
 apply zY.vc;intro w0 e0;have x0:Ext w w0.drew:=(Ext.bX w|>.ay e0).drew;have z0:=dt e0;have h0:=h.ext x0;refine ⟨p.1,p.2,h0.pos,(A8 p c hc w0.drew).mono ?_⟩;rintro e w3 ⟨⟨i,rfl,hi⟩,x3⟩;have h3:=h0.ext x3;have z3:=x3.size;refine ⟨i,_,rfl,x3.heap (show w.heap.size<w0 by omega),Br.mk (λhb=> ?_) (λhb=> ?_)⟩
 ·have hf:pJ p c=false:=by simpa using hb
  refine ⟨?_,x0.tr x3⟩;unfold rZ;rw [hf];rfl
 ·have hk:pJ p c=true:=by simpa using hb
  have hie:=hi hk;subst hie;have fS:=nV ((eT p c).1 hk).1;obtain ⟨q1,q2,q3⟩:=Dd h.len;refine ⟨s,h3.row.at 2 rfl,(Fj s (cM C) (idx c) w3 (lS.rS h3.own) q3 q1 q2 (by unfold inI;omega)).mono ?_⟩;rintro e w7 ⟨rfl,x7⟩;refine ⟨_,rfl,x7.heap (kR (show w.heap.size<w0 by omega) z3),?_,(x0.tr x3).tr x7⟩;rw [jb];unfold rZ;rw [hk];rfl
def M3{p:Po}{C:List Int}(hl:C.length=8192)(hm:∀b ∈ C,ba b=true)(c:Ce)(b:Int):(fL p C c b).1.length=8192/\∀x ∈(fL p C c b).1,ba x=true:=by
 unfold fL;split
 ·exact ⟨hl,hm⟩
 ·split
  ·exact ⟨hl,hm⟩
  ·rename_i h;refine ⟨by rw [MO];exact hl,λx hx=> ?_⟩;rcases C8 hx with h1|h1
   ·exact hm x h1
   ·subst h1;simpa using h
def Sx{w:World}{g:Nat}{s:Sl}{p:Po}{C:List Int}(h:B7 w g s p C)(c:Ce)(hc:lY c)(b:Int):
  ah 106 #[g,iG c,b] w λe w'=>e=Value.int .i64 (fL p C c b).2/\∃s',B7 w' g s' p (fL p C c b).1/\Mod (λi=>i=g) w w'/\(∀i,s'.bj=some i->s.bj=some i\/w.heap.size<=i):=by
 apply xL.vc;intro w0 e0;have x0:Ext w w0.drew:=(Ext.bX w|>.ay e0).drew;have z0:=dt e0;have hgl:=h.row.lt;have h0:=h.ext x0;refine ⟨p.1,p.2,h0.pos,(A8 p c hc w0.drew).mono ?_⟩;rintro e w3 ⟨⟨i,rfl,hi⟩,x3⟩;have h3:=h0.ext x3;have z3:=x3.size;have z3':w.heap.size<w3:=kR (show w.heap.size<w0 by omega) z3;refine ⟨i,_,rfl,x3.heap (show w.heap.size<w0 by omega),Br.mk (λhb=> ?_) (λhb=> ?_)⟩
 ·have hf:pJ p c=false:=by simpa using hb
  have e:fL p C c b=(C,5):=by unfold fL;rw [if_pos hf]
  rw [e];exact ⟨rfl,s,h3,Mod.aN (x0.tr x3),λi hi=> .inl hi⟩
 ·have hk:pJ p c=true:=by simpa using hb
  have hie:=hi hk;subst hie;have fS:=nV ((eT p c).1 hk).1;refine (gX b w3).mono ?_;rintro e w6 ⟨rfl,x6⟩;have h6:=h3.ext x6;have z6:=x6.size;refine ⟨_,rfl,x6.heap z3',Br.mk (λeF=> ?_) (λeF=> ?_)⟩
  ·have hf:ba b=false:=by simpa using eF
   have e:fL p C c b=(C,1):=by unfold fL;rw [if_neg (by simp [hk]),if_pos hf]
   rw [e];exact ⟨rfl,s,h6,Mod.aN ((x0.tr x3).tr x6),λi hi=> .inl hi⟩
  ·have hm:ba b=true:=by simpa using eF
   have e:fL p C c b=(C.set (idx c).toNat b,0):=by unfold fL;rw [if_neg (by simp [hk]),if_neg (by simp [hm])]
   refine ⟨s,h6.row.at 2 rfl,(Cu s C (idx c) b w6 (lS.rS h6.own) h.bd (by unfold inI;omega)).mono ?_⟩;rintro e9 w9 ⟨cO,rfl,ho,x9⟩;have hs:rT C (idx c) b=C.set (idx c).toNat b:=by unfold rT;rw [if_pos ⟨hm,fS.1,by rw [h.len];omega⟩]
   rw [hs] at ho;obtain ⟨p1,p2⟩:=(h6.row.ext x9).jR (j:=2) (v:=.slice cO.a cO.n cO.c) cx rfl;refine ⟨cO,rfl,x9.heap aa,⟨rfl,p1⟩,?_,λcB yl=> ?_⟩
   ·rw [dj];intro e;have:g=w.heap.size:=by simpa [cS] using e
    omega
   ·obtain ⟨q1,q2⟩:=p2 cB yl;have aU:=M3 (p:=p) h.len h.may c b;rw [e] at aU ⊢;refine ⟨rfl,cO,⟨q1,q2.gK (aj.low ho (eC _)) λi hi hf=> ?_,aU.1,aU.2⟩,(Mod.aN (((x0.tr x3).tr x6).tr x9)).trans q2,λi hi=> .inr ?_⟩
    ·obtain ⟨cs,hr⟩:=aM ho aC hi;exact hr.ne (h6.row.ext x9) aC hf
    ·have:=(ho.own.lt hi).1;have:=(x0.tr x3).size;omega
def rR(p:Po)(w:World):ah 115 #[pv p] w λe w'=>e=(pv p)/\Ext w w':=by apply tM.vc;intro w0 e0 w1 e1 w2 e2;have z0:=dt e0;exact ⟨rfl,((bo e0).ay e1).ab e2 aa⟩
end Go.Proofs.YtalpkjfpmdpbiaaGreatDoor
namespace Go.Proofs.YtalpkjfpmdpbiaaGreatDoor
open Go Go.Vc Go.RowKit Go.Proofs Go.dS Go.bh
end Go.Proofs.YtalpkjfpmdpbiaaGreatDoor
namespace Go.Proofs.YtalpkjfpmdpbiaaGreatDoor
open Go Go.Vc Go.RowKit Go.Proofs Go.dS Go.bh
end Go.Proofs.YtalpkjfpmdpbiaaGreatDoor
namespace Go.Proofs.YtalpkjfpmdpbiaaGreatDoor
open Go Go.Vc Go.RowKit Go.Proofs Go.dS Go.bh
abbrev kv(p:Po)(s:Sl):Value:=.agg #[p.1,p.2,s]
abbrev tK:TypeId:=108
def wT(p:Po)(s:Sl)(c:Ce)(hc:lY c)(w:World):ah 97 #[kv p s,iG c] w λe w'=>e=Value.int .i64 (if pJ p c then idx c else -1)/\Ext w w':=by
 apply Hn.vc;intro w0 e0 w1 e1;have z0:=dt e0;have z1:w1.heap.size=w.heap.size+2:=by rw [e1];simp [z0]
 have x1:Ext w w1:=(bo e0).ay e1;have hb:Row w1 w [p.1,p.2,s] tK:=(by rw [e0];exact Row.new w [_,_,_] _:Row w0 w [p.1,p.2,s] tK).ext (bo e1);refine (Eg c w1).mono ?_;rintro e w2 ⟨⟨i,b,rfl,hi⟩,x2⟩;have z2:=x2.size;refine ⟨i,b,rfl,x2.heap aa,x2.heap aa,Br.mk (λGj=> ?_) (λGj=> ?_)⟩
 ·rcases hi with ⟨h,-⟩|⟨-,hy,-⟩
  ·rw [h] at Gj;cases Gj
  ·have:pJ p c=false:=by
    cases hk:pJ p c with
    |false=>rfl
    |true=>exact absurd ((eT p c).1 hk).1 hy
   rw [this];exact ⟨rfl,(x1.tr x2).drew⟩
 ·rcases hi with ⟨-,hy,rfl⟩|⟨h,-⟩
  ·refine (k9 c hc w2.drew).mono ?_;rintro e w5 ⟨rfl,x5⟩;have xx:Ext w w5:=(x1.tr x2).tr ((Ext.dr _).tr x5);have hb5:=(hb.ext x2).ext (Ext.dr _)|>.ext x5;refine ⟨_,_,rfl,x5.heap (show w.heap.size<w2 by omega),x5.heap (show w0.heap.size<w2 by omega),hb5.aY (λj hj=>by
    simp at hj;rcases j with _|_|j
    ·rfl
    ·rfl
    ·omega),Br.mk (λhq=> ?_) (λhq=> ?_)⟩
   ·have:pJ p c=false:=by
     cases hk:pJ p c with
     |false=>rfl
     |true=>
      have he:=((eT p c).1 hk).2;rw [<-he] at hq;simp at hq
    rw [this];exact ⟨rfl,xx⟩
   ·have:pJ p c=true:=by refine (eT p c).2 ⟨hy,?_⟩;simp only [Bool.not_eq_false',gr,beq_iff_eq] at hq;exact Prod.ext hq.1 hq.2
    rw [this];exact ⟨rfl,xx⟩
  ·rw [h] at Gj;cases Gj
end Go.Proofs.YtalpkjfpmdpbiaaGreatDoor
namespace Go.Proofs.YtalpkjfpmdpbiaaGreatDoor
open Go Go.Vc Go.RowKit Go.Proofs Go.dS Go.bh
end Go.Proofs.YtalpkjfpmdpbiaaGreatDoor
namespace Go.Proofs.YtalpkjfpmdpbiaaGreatDoor
open Go Go.Vc Go.RowKit Go.Proofs Go.dS Go.bh
def si(ag:Int)(p:Po)(hp:FZ p)(w:World):ah 82 #[ag,pv p] w λe w'=>∃s,e=(kv p s)/\lS w w' s (cM (made ag p))/\Ext w w':=by
 apply KR.vc;intro w0 e0 w1 e1;have z0:=dt e0;have z1:w1.heap.size=w.heap.size+2:=by rw [e1];simp [z0]
 have x1:Ext w w1.drew:=((bo e0).ay e1).drew;have hb:Row w1.drew w [p.1,p.2] QH:=((by rw [e0];exact Row.new w [_,_] _:Row w0 w [p.1,p.2] QH).ext (bo e1)).ext (Ext.dr _);refine (Cp ag p hp w1.drew).mono ?_;rintro e w2 ⟨s,rfl,ho,x2⟩;have zd:=kQ w1;refine ⟨s,rfl,x2.heap aa,x2.heap aa,(hb.ext x2).aY (λj hj=>by rw [cP]),λw4 e4=> ?_⟩;refine ⟨s,rfl,?_,(x1.tr x2).ab e4 aa⟩;have:=aj.bM ho (w':=w4) λb hb=>by rw [e4];exact setRow_other _ _ _ _ (by have:=(ho.own.lt hb).1;omega)
 exact aj.low this aa
end Go.Proofs.YtalpkjfpmdpbiaaGreatDoor
namespace Go.Proofs.YtalpkjfpmdpbiaaGreatDoor
open Go Go.Vc Go.RowKit Go.Proofs Go.dS Go.bh
def OE(p:Po)(C:List Int)(c:Ce):Int:=if pJ p c then OF C (idx c) else -1
def Ho{w:World}{s:Sl}{p:Po}{C:List Int}(hs:ep w s (cM C))(hl:C.length=8192)(c:Ce)(hc:lY c):
  ah 51 #[kv p s,iG c] w λe w'=>e=Value.int .i64 (OE p C c)/\Ext w w':=by
 apply R7.vc;obtain ⟨q1,q2,q3⟩:=Dd hl;have hn:=ep.len hs;intro w0 e0 w1 e1;have z0:=dt e0;have z1:w1.heap.size=w.heap.size+2:=by rw [e1];simp [z0]
 have x1:Ext w w1:=(bo e0).ay e1;refine (wT p s c hc w1).mono ?_;rintro e w2 ⟨rfl,x2⟩;have DP:=x1.tr x2;refine ⟨_,rfl,x2.heap aa,x2.heap aa,?_⟩;unfold OE
 cases hk:pJ p c with
 |false=>exact Br.mk (λ_=>⟨rfl,DP⟩) (λh=>by simp at h)
 |true=>
  have fS:=nV ((eT p c).1 hk).1;have jE:ep w2 s (cM C):=RdK.ext hs DP;simp only [if_true];generalize hii:idx c=ii at fS;refine Br.mk (λh=>by simp at h;omega) (λ_=> ?_);unfold Bd at q3;have Bk:bg (cM C)=8192:=by rw [iB,hl];rfl
  refine ⟨λn r t wr=>w2=wr/\∃k:Nat,r=k/\k+n=(cM C).length/\t=bg ((cM C).take k)/\t<=ii,⟨(cM C).length,trivial,trivial,rfl,0,rfl,by omega,rfl,fS.1⟩,?_⟩;rintro n us r t wr ⟨rfl,k,rfl,Fq,rfl,hle⟩;apply Br.mk<;>intro jH
  ·replace jH:=fe jH;obtain ⟨rr,hr⟩:=aZ (l:=cM C) (i:=k) aa;have Xo:=gR hr;have hle1:=fk q1 (k+1);have hle0:=fk q1 k;have lA:=ep.some jE (i:=k) aa;have cX:=ep.fp jE (i:=k) aa;have NM:=q1 rr (bf hr);refine ⟨cX,bn.2 ⟨gq.2 lA,rr.1,ep.c0 jE (i:=k) hr,?_⟩⟩;have e1:=az (n:=bg ((cM C).take k)+rr.1) (by unfold inI;omega);have e2:=az (n:=(k:Int)+1) (by unfold inI;omega);rw [e1,e2];apply Br.mk<;>intro hb
   ·replace hb:=fe hb;refine ⟨cX,bn.2 ⟨gq.2 lA,rr.2,ep.c1 jE (i:=k) hr,?_,DP⟩⟩;have ed:((aX ((cM C).take k)).length:Int)=bg ((cM C).take k):=(dz λq hq=>q1 q (kq hq)).symm;have hcell:=Sa hr (j:=(ii-bg ((cM C).take k)).toNat) aa;rw [jb,show (aX ((cM C).take k)).length+(ii-bg ((cM C).take k)).toNat=ii.toNat by omega] at hcell;have:OF C ii=rr.2:=by unfold OF;rw [if_neg aa,dh,hcell];rfl
    rw [this]
   ·replace hb:=eX hb;exact ⟨n-1,by omega,trivial,trivial,rfl,k+1,by omega,by omega,Xo.symm,by omega⟩
  ·replace jH:=eX jH;have:k=(cM C).length:=by omega
   subst this;rw [ko,Bk] at hle;omega
end Go.Proofs.YtalpkjfpmdpbiaaGreatDoor
namespace Go.Proofs.YtalpkjfpmdpbiaaGreatDoor
open Go Go.Vc Go.RowKit Go.Proofs Go.dS Go.bh Go.Code
def T9(w:World)(p:Po)(l:List Rn)(e:Ending)(w':World):Prop:=
 (ju ba l 8192=true/\∃g sg,e=Value.tuple #[.pointer (bu g),af]/\B7 w' g sg p (aX l)/\w.heap.size<=g/\∀b,sg.bj=some b->w.heap.size<=b)\/
 (ju ba l 8192=false/\e=Value.tuple #[.pointer none,(1:Int)])
def Al(p:Po)(s:Sl)(l:List Rn)(w:World)(hs:ep w s l)(hn:Bd l.length):ah 120 #[pv p,s] w λe w'=>T9 w p l e w'/\Ext w w':=by
 apply Ot.vc;intro w0 e0;have z0:=dt e0;have x0:=bo e0;have hb0:Row w0 w [p.1,p.2] QH:=Row.nw e0;refine (rC s l 8192 w0 (RdK.ext hs x0) hn (by unfold inI;omega)).mono ?_;rintro e w1 ⟨rfl,x1⟩;have z1:=x1.size;have zd:=kQ w1;refine ⟨_,rfl,x1.heap aa,Br.mk (λhb=> ?_) (λhb=> ?_)⟩
 ·have hf:ju ba l 8192=false:=by simpa using hb
  exact ⟨.inr ⟨hf,rfl⟩,x0.tr x1⟩
 ·have ht:ju ba l 8192=true:=by simpa using hb
  obtain ⟨i1,i2,i3⟩:=ud ht;have xd:=(x0.tr x1).drew;have fin:∀{w3 w5:World} {s4:Sl},Ext w1.drew w3->lS w1.drew.heap.size w3 s4 l->w5=w3.alloc (.cells #[p.1,p.2,s4] sk)->T9 w p l (.returned (.tuple #[w3,af])) w5/\Ext w w5:=λ{w3 w5 s4} x3 ho e5=>by have x5:=bo e5;have z3:=x3.size;refine ⟨.inl ⟨ht,_,s4,rfl,⟨by rw [e5];exact Row.new w3 [_,_,_] _,?_,by omega,i2⟩,by omega,λb hb=>by have:=(ho.own.lt hb).1;omega⟩,xd.tr (x3.tr x5)⟩;rw [i1];exact (aj.low ho (eC _)).ext x5
  refine ⟨(jY s l w1.drew (RdK.ext hs xd) hn).mono ?_,(jY s l w1.drew (RdK.ext hs xd) hn).mono ?_⟩
  ·rintro e w3 ⟨s4,rfl,ho,x3⟩;exact ⟨s4,rfl,x3.heap aa,λw5 e5=>fin x3 ho e5⟩
  ·rintro e w3 ⟨s4,rfl,ho,x3⟩;exact ⟨s4,rfl,x3.heap aa,((hb0.ext x1.drew).ext x3).aY (λj hj=>by rw [cP]),λw5 e5=>fin x3 ho e5⟩
def Xb(w:World)(p:Po)(b:List Int)(e:Ending)(w':World):Prop:=
 ((cL ba b 8192).2=0/\∃g sg,e=Value.tuple #[.pointer (bu g),af]/\B7 w' g sg p (aX (cL ba b 8192).1)/\w.heap.size<=g/\cM (aX (cL ba b 8192).1)=(cL ba b 8192).1/\∀b,sg.bj=some b->w.heap.size<=b)\/
 ((cL ba b 8192).2≠0/\e=Value.tuple #[.pointer none,.int .i64 (cL ba b 8192).2])
def OI(p:Po)(s:Sl)(b:List Int)(w:World)(hs:eZ w s b)(hb:Vq b)(hc:s.n<=s.c)(hl:b.length<=1099511627776):ah 74 #[pv p,s] w λe w'=>Xb w p b e w'/\Ext w w':=by
 apply KO.vc;intro w0 e0;have z0:=dt e0;have x0:=bo e0;refine (A7 s b 8192 w0 (RdK.ext hs x0) hb hc hl aC (by unfold inI;omega)).mono ?_;rintro e w1 ⟨⟨s2,rfl,ho⟩,x1⟩;have z1:=x1.size;have ed:=PS (may:=ba) b 8192;have hag:=pP (b:=b) (n:=8192) hb aC;refine ⟨s2,_,rfl,x1.heap aa,Br.mk (λdN=> ?_) (λdN=> ?_)⟩
 ·exact ⟨.inr ⟨by simpa using dN,rfl⟩,x0.tr x1⟩
 ·have h0:=kX dN;obtain ⟨f1,f2,f3⟩:=hag h0;have hm:ju ba (cL ba b 8192).1 8192=true:=by have:=f2.ju aa;rw [f3] at this;exact this
  refine (Al p s2 _ w1 (lS.rS ho) (by show _<=_;omega)).mono ?_;rintro e w4 ⟨hr,x4⟩;rcases hr with ⟨-,g,sg,rfl,hk,hg,Y1⟩|⟨hf,-⟩
  ·exact ⟨_,_,rfl,x4.heap aa,.inl ⟨h0,g,sg,rfl,hk,by omega,(ud hm).1,λb hb=>by have:=Y1 b hb;omega⟩,x0.tr (x1.tr x4)⟩
  ·rw [hm] at hf;cases hf
end Go.Proofs.YtalpkjfpmdpbiaaGreatDoor
namespace Go.Proofs.YtalpkjfpmdpbiaaGreatDoor
open Go Go.Vc Go.RowKit Go.Proofs Go.dS Go.bh Go.Code
def qJ{C:List Int}(hl:C.length=8192)(hm:∀b ∈ C,ba b=true):okW ba (cM C)=true/\cM C≠ []/\gU ba (-1) (cM C)/\bg (cM C)=8192:=by
 have hs:bg (cM C)=8192:=by rw [iB,hl];rfl
 have dN:cM C≠ []:=by
  intro e;rw [e] at hs
  cases hs
 have hc:∀r ∈ cM C,ba r.2=true:=λr hr=>by refine hm _ ?_;have:=OP hr (iK hr).1;rwa [jb] at this
 refine ⟨ZX (Ag C) hc aa dN,dN,?_,hs⟩;refine gU.of (λr hr=> ?_) (Ag C).next (λr hr=> ?_)
 ·have h1:=iK hr;have h2:=hc r hr;have h3:=h2;unfold ba at h3;simp only [gr,bA] at h3;exact ⟨h1.1,by omega,by omega,by omega,h2⟩
 ·have h2:=hc r (List.mem_of_mem_head? hr);unfold ba at h2;simp only [gr,bA] at h2;omega
def Dg{C:List Int}(hl:C.length=8192)(hm:∀b ∈ C,ba b=true):∀r ∈ cM C,inI r.1/\inI r.2:=OQ (qJ hl hm).2.2.1
def Ky{w:World}{g:Nat}{s:Sl}{p:Po}{C:List Int}(h:B7 w g s p C):ah 152 #[g] w λe w'=>∃s':Sl,e=s'/\iP w w' s' (kD (cM C))/\Ext w w':=by apply tO.vc;have ed:=j7 C;have hl:=h.len;refine ⟨s,h.row.at 2 rfl,(xQ s (cM C) w (lS.rS h.own) aa (Dg h.len h.may)).mono ?_⟩;rintro e w1 ⟨⟨s2,rfl,ho⟩,x1⟩;rw [if_pos (qJ h.len h.may).1] at ho;exact ⟨s2,_,rfl,s2,rfl,ho,x1⟩
end Go.Proofs.YtalpkjfpmdpbiaaGreatDoor
