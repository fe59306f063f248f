import Derived.Test.YtalpkjfpmdpbiaaGreatDoorR
import Derived.Test.YtalpkjfpmdpbiaaGreatDoorP
import Derived.Test.YtalpkjfpmdpbiaaGreatDoorQ
set_option linter.all false
namespace Go.Proofs.YtalpkjfpmdpbiaaGreatDoor
open Go Go.Vc Go.RowKit Go.Proofs Go.dQ
abbrev pv(p:Po):Value:=.agg #[p.1,p.2]
abbrev iS(c:Ce):Value:=.agg #[c.1,c.2.1,c.2.2]
abbrev iE:TypeId:=23
abbrev Qc:TypeId:=89
def qi(a b:Int)(ha:inI a)(hb:0<b)(w:World):ah 128 #[a,b] w λe w'=>e=Value.int .i64 (a / b)/\w'=w:=by
 apply QN.vc;obtain ⟨h1,h2,h3,h4⟩:=tdm (a:=a) hb;have hq:=L8 ha hb;have ht:=L9 ha hb;refine Br.mk (λh=> ?_) (λ_=>bj.2 ⟨mf.2 aa,bj.2 ⟨mf.2 aa,Br.mk (λh=> ?_) (λh=> ?_)⟩⟩)
 ·simp only [bB] at h;omega
 ·replace h:=fj h;rw [az ht,<-(h1 h).1,az hq];exact ⟨rfl,rfl⟩
 ·replace h:=fh h;rw [az ht,<-(h2 aa).1];exact ⟨rfl,rfl⟩
def qk(a b:Int)(hb:0<b)(hb':b<=1000000)(w:World):ah 148 #[a,b] w λe w'=>e=Value.int .i64 (a % b)/\w'=w:=by
 apply QO.vc;obtain ⟨h1,h2,h3,h4⟩:=tdm (a:=a) hb;refine Br.mk (λh=> ?_) (λ_=>bj.2 ⟨mf.2 aa,Br.mk (λh=> ?_) (λh=> ?_)⟩)
 ·simp only [bB] at h;omega
 ·replace h:=fj h;rw [wI,<-(h1 h).2];exact ⟨rfl,rfl⟩
 ·replace h:=fh h;rw [<-(h2 aa).2];exact ⟨rfl,rfl⟩
def iV(a b:Int)(hb:0<b)(hb':b<=1000000)(w:World):ah 44 #[a,b] w λe w'=>e=Value.int .i64 (a % b)/\w'=w:=by
 apply Np.vc;obtain ⟨h1,h2,h3,h4⟩:=tdm (a:=a) hb;refine Br.mk (λh=> ?_) (λ_=>bj.2 ⟨mf.2 aa,Br.mk (λh=> ?_) (λh=> ?_)⟩)
 ·simp only [bB] at h;omega
 ·replace h:=fj h;rw [wI,<-(h1 h).2];exact ⟨rfl,rfl⟩
 ·replace h:=fh h;rw [<-(h2 aa).2];exact ⟨rfl,rfl⟩
def JK(a b:Int)(ha:inI a)(hb:0<b)(w:World):ah 144 #[a,b] w λe w'=>e=Value.int .i64 (a / b)/\w'=w:=by
 apply Nr.vc;obtain ⟨h1,h2,h3,h4⟩:=tdm (a:=a) hb;have hq:=L8 ha hb;have ht:=L9 ha hb;have hm:b*a.tdiv b+a.tmod b=a:=Int.mul_tdiv_add_tmod a b;have hsg:(0<=a->0<=a.tmod b)/\(a<=0->a.tmod b<=0):=by refine ⟨λh=>Int.tmod_nonneg b h,λh=> ?_⟩;have:=Int.tmod_nonneg (a:= -a) b aa;rw [Int.neg_tmod] at this;omega
 have adp:a.tdiv b*b=a-a.tmod b:=by rw [Int.mul_comm];omega
 have cV:inI (a.tdiv b*b):=by
  rw [adp];unfold inI at*;rcases ox a 0 with h|h
  ·have:=hsg.2 aa;have:=(tdm (a:=a) hb);have hle:a-a.tmod b<=0:=by
    rcases ox 0 (a-a.tmod b) with h5|h5
    ·exfalso;rw [<-adp] at h5;have h6:a.tdiv b<=0:=by have:=Int.tdiv_nonneg (a:= -a) (b:=b) aa aa;rw [Int.neg_tdiv] at this;omega
     have:=Int.mul_nonpos_of_nonpos_of_nonneg h6 (by omega:0<=b);omega
    ·exact h5
   omega
  ·have:=hsg.1 h;have h6:0<=a.tdiv b:=Int.tdiv_nonneg h aa;have:=oy h6 (by omega:0<=b);omega
 rw [az ht,az cV];refine bj.2 ⟨mf.2 aa,Br.mk (λh=> ?_) (λh=> ?_)⟩
 ·simp only [bB,gt_iff_lt] at h;rw [<-(h1 aa).1,az hq];exact ⟨rfl,rfl⟩
 ·simp only [bQ,gt_iff_lt] at h;rw [<-(h2 aa).1];exact ⟨rfl,rfl⟩
def ql(a b:Int)(ha:inI a)(hb:0<b)(w:World):ah 96 #[a,b] w λe w'=>e=Value.int .i64 (a / b)/\w'=w:=by
 apply Ns.vc;refine Br.mk (λh=> ?_) (λ_=>(JK a b ha hb w).mono ?_)
 ·simp only [bB] at h;omega
 ·rintro e w0 ⟨rfl,rfl⟩;exact ⟨_,rfl,rfl,rfl⟩
def mA(c:Ce):Prop:=inI c.1/\inI c.2.1/\inI c.2.2
def v8(c:Ce)(w:World):ah 104 #[iS c] w λe w'=>(∃i b,e=Value.tuple #[.int .i64 i,.bool b]/\((b=true/\kX c/\i=idx c)\/(b=false/\¬kX c/\i=0)))/\Ext w w':=by
 apply JL.vc;intro w0 e0;have x0:=bq e0;have hb:Row w0 w [c.1,c.2.1,c.2.2] iE:=Row.nw e0;have uf:=hb.ext (Ext.dr w0);refine Br.mk (λh=> ?_) (λh=>Br.mk (λh2=> ?_) (λh2=> ?_))<;>simp only [bB,bQ] at*
 ·exact ⟨⟨_,_,rfl,.inr ⟨rfl,by unfold kX;omega,rfl⟩⟩,x0⟩
 ·exact ⟨⟨_,_,rfl,.inr ⟨rfl,by unfold kX;omega,rfl⟩⟩,x0⟩
 ·refine (qk c.2.2 16 aE aE w0.drew).mono ?_;rintro e w1 ⟨rfl,rfl⟩;refine ⟨_,rfl,rfl,uf.bk (λj hj=>by simp at hj;subst hj;rfl),uf.bk (λj hj=>by simp at hj;subst hj;rfl),(qk c.1 16 aE aE _).mono ?_⟩;rintro e w1 ⟨rfl,rfl⟩;have e1:ai (c.2.1*16)=c.2.1*16:=wI;have e2:ai (c.2.1*16+c.2.2 % 16)=c.2.1*16+c.2.2 % 16:=wI;have e3:ai ((c.2.1*16+c.2.2 % 16)*16)=(c.2.1*16+c.2.2 % 16)*16:=wI;have e4:ai ((c.2.1*16+c.2.2 % 16)*16+c.1 % 16)=idx c:=wI;refine ⟨_,rfl,rfl,uf.bk (λj hj=>by simp at hj;subst hj;rfl),?_,x0.drew⟩;rw [e1,e2,e3,e4];exact ⟨_,_,rfl,.inl ⟨rfl,by unfold kX;omega,rfl⟩⟩
def DN(c:Ce)(w:World):ah 145 #[iS c] w λe w'=>(∃i b,e=Value.tuple #[.int .i64 i,.bool b]/\((b=true/\kX c/\i=idx c)\/(b=false/\¬kX c/\i=0)))/\Ext w w':=by
 apply Gb.vc;intro w0 e0;have x0:=bq e0;have hb:Row w0 w [c.1,c.2.1,c.2.2] iE:=Row.nw e0;have uf:=hb.ext (Ext.dr w0);refine Br.mk (λh=> ?_) (λh=>Br.mk (λh2=> ?_) (λh2=> ?_))<;>simp only [bB,bQ] at*
 ·exact ⟨⟨_,_,rfl,.inr ⟨rfl,by unfold kX;omega,rfl⟩⟩,x0⟩
 ·exact ⟨⟨_,_,rfl,.inr ⟨rfl,by unfold kX;omega,rfl⟩⟩,x0⟩
 ·refine (iV c.2.2 16 aE aE w0.drew).mono ?_;rintro e w1 ⟨rfl,rfl⟩;refine ⟨_,rfl,rfl,uf.bk (λj hj=>by simp at hj;subst hj;rfl),uf.bk (λj hj=>by simp at hj;subst hj;rfl),(iV c.1 16 aE aE _).mono ?_⟩;rintro e w1 ⟨rfl,rfl⟩;have e1:ai (c.2.1*256)=c.2.1*256:=wI;have e2:ai (c.2.2 % 16*16)=c.2.2 % 16*16:=wI;have e3:ai (c.2.1*256+c.2.2 % 16*16)=c.2.1*256+c.2.2 % 16*16:=wI;have e4:ai (c.2.1*256+c.2.2 % 16*16+c.1 % 16)=idx c:=by rw [wI];unfold idx;omega
  refine ⟨_,rfl,rfl,uf.bk (λj hj=>by simp at hj;subst hj;rfl),?_,x0.drew⟩;rw [e1,e2,e3,e4];exact ⟨_,_,rfl,.inl ⟨rfl,by unfold kX;omega,rfl⟩⟩
def mi(c:Ce)(hc:mA c)(w:World):ah 85 #[iS c] w λe w'=>e=(pv (pos c))/\Ext w w':=by apply JM.vc;intro w0 e0 w1 e1;have x1:Ext w w1.drew:=((bq e0).ay e1).drew;have z0:=du e0;have hb:Row w1.drew w [c.1,c.2.1,c.2.2] iE:=((by rw [e0];exact Row.new w [_,_,_] _:Row w0 w [c.1,c.2.1,c.2.2] iE).ext (bq e1)).ext (Ext.dr _);refine (qi c.1 16 hc.1 aE w1.drew).mono ?_;rintro e w2 ⟨rfl,rfl⟩;refine ⟨_,rfl,rfl,rfl,hb.bk (λj hj=>by simp at hj;subst hj;rfl),(qi c.2.2 16 hc.2.2 aE _).mono ?_⟩;rintro e w2 ⟨rfl,rfl⟩;refine ⟨_,rfl,rfl,rfl,λw6 e6=>⟨rfl,x1.ab e6 aa⟩⟩
def kY(c:Ce)(hc:mA c)(w:World):ah 50 #[iS c] w λe w'=>e=(pv (pos c))/\Ext w w':=by apply Gc.vc;intro w0 e0 w1 e1;have x1:Ext w w1.drew:=((bq e0).ay e1).drew;have z0:=du e0;have hb:Row w1.drew w [c.1,c.2.1,c.2.2] iE:=((by rw [e0];exact Row.new w [_,_,_] _:Row w0 w [c.1,c.2.1,c.2.2] iE).ext (bq e1)).ext (Ext.dr _);refine (ql c.1 16 hc.1 aE w1.drew).mono ?_;rintro e w2 ⟨rfl,rfl⟩;refine ⟨_,rfl,rfl,rfl,hb.bk (λj hj=>by simp at hj;subst hj;rfl),(ql c.2.2 16 hc.2.2 aE _).mono ?_⟩;rintro e w2 ⟨rfl,rfl⟩;refine ⟨_,rfl,rfl,rfl,λw6 e6=>⟨rfl,x1.ab e6 aa⟩⟩
def Fm(p:Po):Prop:=(-1099511627776<=p.1/\p.1<=1099511627776)/\(-1099511627776<=p.2/\p.2<=1099511627776)
def JN(p:Po)(hp:Fm p)(i:Int)(hi:0<=i/\i<8192)(w:World):ah 207 #[pv p,i] w λe w'=>e=Value.tuple #[iS (cellAt p i),true]/\Ext w w':=by apply Nt.vc;obtain ⟨⟨p1,p2⟩,p3,p4⟩:=hp;intro w0 e0 w1 e1;have z0:=du e0;have x1:Ext w w1:=(bq e0).ay e1;have t1:Int.tmod i 16=i % 16:=qQ hi.1;have t2:Int.tdiv i 256=i / 256:=oz hi.1;have t3:Int.tdiv i 16=i / 16:=oz hi.1;have t4:Int.tmod (i / 16) 16=i / 16 % 16:=qQ aa;have TB:ai (i / 16)=i / 16:=wI;have w2':ai (i / 256)=i / 256:=wI;have w3':ai (p.1*16)=p.1*16:=wI;have w4':ai (p.2*16)=p.2*16:=wI;have w5':ai (p.1*16+i % 16)=p.1*16+i % 16:=wI;have w6':ai (p.2*16+i / 16 % 16)=p.2*16+i / 16 % 16:=wI;rw [t1,t2,t3,TB,w2',w3',w4',t4,w5',w6'];refine Br.mk (λh=> ?_) (λ_=>Br.mk (λh=> ?_) (λ_ w4 e4=>⟨rfl,x1.ab e4 aa⟩))<;>simp only [bB] at h<;>omega
def JO(p:Po)(hp:Fm p)(i:Int)(hi:0<=i/\i<8192)(w:World):ah 174 #[pv p,i] w λe w'=>e=Value.tuple #[iS (cellAt p i),true]/\Ext w w':=by
 apply JP.vc;obtain ⟨⟨p1,p2⟩,p3,p4⟩:=hp;intro w0 e0 w1 e1;have z0:=du e0;have x1:Ext w w1:=(bq e0).ay e1;have t1:Int.tmod i 16=i % 16:=qQ hi.1;have t2:Int.tdiv i 256=i / 256:=oz hi.1;have t3:Int.tmod i 256=i % 256:=qQ hi.1;have t4:Int.tdiv (i % 256) 16=i / 16 % 16:=by rw [oz aa];omega
 have TB:ai (i / 16 % 16)=i / 16 % 16:=wI;have w2':ai (i / 256)=i / 256:=wI;have w3':ai (p.1*16)=p.1*16:=wI;have w4':ai (p.2*16)=p.2*16:=wI;have w5':ai (p.1*16+i % 16)=p.1*16+i % 16:=wI;have w6':ai (p.2*16+i / 16 % 16)=p.2*16+i / 16 % 16:=wI;rw [t1,t2,t3,t4,TB,w2',w3',w4',w5',w6'];refine Br.mk (λh=> ?_) (λ_=>Br.mk (λh=> ?_) (λ_ w4 e4=>⟨rfl,x1.ab e4 aa⟩))<;>simp only [bB] at h<;>omega
end Go.Proofs.YtalpkjfpmdpbiaaGreatDoor
namespace Go.Proofs.YtalpkjfpmdpbiaaGreatDoor
open Go Go.Vc Go.RowKit Go.Proofs Go.dQ
def JX(s x z:Int)(w:World):ah 239 #[s,x,z] w λe w'=>e=Value.int .u64 (hash s x z)/\w'=w:=by apply QX.vc;rw [agO,agP];exact ⟨rfl,rfl⟩
def JY(s x z:Int)(w:World):ah 241 #[s,x,z] w λe w'=>e=Value.int .u64 (hash s x z)/\w'=w:=by apply JZ.vc;rw [agQ,agR];exact ⟨rfl,rfl⟩
def Mf(s x z:Int):ai (Int.tmod (hash s x z) 9)=bH s x z:=by rw [qQ (Vy s x z)];exact wI
def kZ(s x z zt:Int)(hn:0<=zt/\zt<=64){b:Nat}{w:World}(hb:Row w b [s] qC):ah 238 #[x,z,zt,b] w λe w'=>e=Value.int .i64 (bH s x z*zt)/\w'=w:=by apply DS.vc;refine ⟨s,by rw [hb.ld];rfl,(JX s x z w).mono ?_⟩;rintro e w1 ⟨rfl,rfl⟩;refine ⟨_,rfl,?_⟩;rw [Mf];have hc:=db s x z;have h1:0<=bH s x z*zt:=oy hc.1 hn.1;have h2:bH s x z*zt<=8*64:=Int.mul_le_mul hc.2 hn.2 hn.1 aE;rw [wI];exact ⟨rfl,rfl⟩
def DT(s x z:Int)(hx:inI x)(hz:inI z)(w:World):ah 208 #[s,x,z] w λe w'=>e=Value.int .i64 (ground s x z)/\Ext w w':=by
 apply J0.vc;intro w0 e0;have x0:=bq e0;have hb:Row w0 w [s] qC:=Row.nw e0;refine (qi x 8 hx aE w0).mono ?_;rintro e w1 ⟨rfl,rfl⟩;refine ⟨_,rfl,rfl,(qi z 8 hz aE w1).mono ?_⟩;rintro e w1 ⟨rfl,rfl⟩;refine ⟨_,rfl,rfl,(qk x 8 aE aE w1).mono ?_⟩;rintro e w1 ⟨rfl,rfl⟩;refine ⟨_,rfl,rfl,(qk z 8 aE aE w1).mono ?_⟩;rintro e w1 ⟨rfl,rfl⟩;refine ⟨_,rfl,rfl,?_⟩;have hdx:inI (x / 8+1):=by unfold inI at*;omega
 have hdz:inI (z / 8+1):=by unfold inI at*;omega
 have a:=kF (db s (x / 8) (z / 8)) (u:=8-x % 8) (v:=8-z % 8) aa aa;have b:=kF (db s (x / 8+1) (z / 8)) (u:=x % 8) (v:=8-z % 8) aa aa;have c:=kF (db s (x / 8) (z / 8+1)) (u:=8-x % 8) (v:=z % 8) aa aa;have d:=kF (db s (x / 8+1) (z / 8+1)) (u:=x % 8) (v:=z % 8) aa aa;have q1:ai (8-x % 8)=8-x % 8:=wI;have q2:ai (8-z % 8)=8-z % 8:=wI;rw [q1,q2,az hdx,az hdz,az (n:=(8-x % 8)*(8-z % 8)) (by unfold inI;omega),az (n:=x % 8*(8-z % 8)) (by unfold inI;omega),az (n:=(8-x % 8)*(z % 8)) (by unfold inI;omega),az (n:=x % 8*(z % 8)) (by unfold inI;omega)];refine (kZ s _ _ _ ⟨a.1,a.2.1⟩ hb).mono ?_;rintro e w1 ⟨rfl,rfl⟩;refine ⟨_,rfl,(kZ s _ _ _ ⟨b.1,b.2.1⟩ hb).mono ?_⟩;rintro e w1 ⟨rfl,rfl⟩;refine ⟨_,rfl,(kZ s _ _ _ ⟨c.1,c.2.1⟩ hb).mono ?_⟩;rintro e w1 ⟨rfl,rfl⟩;refine ⟨_,rfl,(kZ s _ _ _ ⟨d.1,d.2.1⟩ hb).mono ?_⟩;rintro e w1 ⟨rfl,rfl⟩;refine ⟨_,rfl,?_,x0⟩;have hg:=mX s x z;have e1:ground s x z=6+(bH s (x / 8) (z / 8)*((8-x % 8)*(8-z % 8))+bH s (x / 8+1) (z / 8)*(x % 8*(8-z % 8))+bH s (x / 8) (z / 8+1)*((8-x % 8)*(z % 8))+bH s (x / 8+1) (z / 8+1)*(x % 8*(z % 8))) / 64:=rfl;generalize bH s (x / 8) (z / 8)*((8-x % 8)*(8-z % 8))=A at*;generalize bH s (x / 8+1) (z / 8)*(x % 8*(8-z % 8))=B at*;generalize bH s (x / 8) (z / 8+1)*((8-x % 8)*(z % 8))=C at*;generalize bH s (x / 8+1) (z / 8+1)*(x % 8*(z % 8))=D at*;rw [az (n:=A+B) (by unfold inI;omega),az (n:=A+B+C) (by unfold inI;omega),az (n:=A+B+C+D) (by unfold inI;omega),oz aa,az (n:=(A+B+C+D) / 64) (by unfold inI;omega),<-e1,wI]
def QY(y g:Int)(hg:6<=g/\g<=100)(w:World):ah 209 #[y,g] w λe w'=>e=Value.int .i64 (Bi y g)/\w'=w:=by
 apply Za.vc;have q1:ai (g-3)=g-3:=wI;have q2:ai (g-1)=g-1:=wI;rw [q1,q2];have fin:∀{v:Int},Bi y g=v->(Ending.returned v=Value.int .i64 (Bi y g)/\w=w):=λh=>⟨by rw [h],rfl⟩
 refine Br.mk (λh1=>fin ?_) (λh1=>Br.mk (λh2=>fin ?_) (λh2=>Br.mk (λh3=>fin ?_) (λh3=>Br.mk (λh4=>fin ?_) (λh4=>Br.mk (λh5=>fin ?_) (λh5=>Br.mk (λh6=>Br.mk (λh7=>fin ?_) (λh7=>Br.mk (λh8=>fin ?_) (λh8=>Br.mk (λh9=>fin ?_) (λh9=>fin ?_)))) (λh6=>Br.mk (λh8=>fin ?_) (λh8=>Br.mk (λh9=>fin ?_) (λh9=>fin ?_))))))))
 all_goals simp only [bB,bQ,beq_iff_eq,beq_eq_false_iff_ne,ne_eq] at*
 all_goals unfold Bi
 all_goals (repeat' split)<;>omega
def DU(s x z:Int)(hx:inI x)(hz:inI z)(w:World):ah 219 #[s,x,z] w λe w'=>e=Value.int .i64 (ground s x z)/\Ext w w':=by
 apply DV.vc;have hdx:inI (x / 8+1)/\inI (x / 8):=by unfold inI at*;omega
 have hdz:inI (z / 8+1)/\inI (z / 8):=by unfold inI at*;omega
 have a:=kF (db s (x / 8) (z / 8)) (u:=8-x % 8) (v:=8-z % 8) aa aa;have b:=kF (db s (x / 8+1) (z / 8)) (u:=x % 8) (v:=8-z % 8) aa aa;have c:=kF (db s (x / 8) (z / 8+1)) (u:=8-x % 8) (v:=z % 8) aa aa;have d:=kF (db s (x / 8+1) (z / 8+1)) (u:=x % 8) (v:=z % 8) aa aa;have q1:ai (8-x % 8)=8-x % 8:=wI;have q2:ai (8-z % 8)=8-z % 8:=wI;have hg:=mX s x z;have e1:ground s x z=6+(bH s (x / 8) (z / 8)*((8-x % 8)*(8-z % 8))+bH s (x / 8+1) (z / 8)*(x % 8*(8-z % 8))+bH s (x / 8) (z / 8+1)*((8-x % 8)*(z % 8))+bH s (x / 8+1) (z / 8+1)*(x % 8*(z % 8))) / 64:=rfl;have m1:ai ((8-x % 8)*(8-z % 8))=(8-x % 8)*(8-z % 8):=wI;have m2:ai (x % 8*(8-z % 8))=x % 8*(8-z % 8):=wI;have m3:ai ((8-x % 8)*(z % 8))=(8-x % 8)*(z % 8):=wI;have m4:ai (x % 8*(z % 8))=x % 8*(z % 8):=wI;have k1:=Int.mul_comm (bH s (x / 8) (z / 8)) ((8-x % 8)*(8-z % 8));have k2:=Int.mul_comm (bH s (x / 8+1) (z / 8)) (x % 8*(8-z % 8));have k3:=Int.mul_comm (bH s (x / 8) (z / 8+1)) ((8-x % 8)*(z % 8));have k4:=Int.mul_comm (bH s (x / 8+1) (z / 8+1)) (x % 8*(z % 8));refine ⟨λn i t wr=>w=wr/\((i=0/\t=0/\n=2)\/(i=1/\t=bH s (x / 8) (z / 8)*((8-x % 8)*(8-z % 8))+bH s (x / 8) (z / 8+1)*((8-x % 8)*(z % 8))/\n=1)\/(i=2/\t=bH s (x / 8) (z / 8)*((8-x % 8)*(8-z % 8))+bH s (x / 8) (z / 8+1)*((8-x % 8)*(z % 8))+bH s (x / 8+1) (z / 8)*(x % 8*(8-z % 8))+bH s (x / 8+1) (z / 8+1)*(x % 8*(z % 8))/\n=0)),⟨2,rfl,.inl ⟨rfl,rfl,rfl⟩⟩,?_⟩;rintro n us i t wr ⟨rfl,hi⟩;apply Br.mk<;>intro hc
 ·replace hc:=fj hc;refine ⟨λn' k t' wr=>w=wr/\((k=0/\t'=t/\n'=2)\/(k=1/\n'=1/\t'=t+(if i=0 then bH s (x / 8) (z / 8)*((8-x % 8)*(8-z % 8)) else bH s (x / 8+1) (z / 8)*(x % 8*(8-z % 8))))\/(k=2/\n'=0/\t'=t+(if i=0 then bH s (x / 8) (z / 8)*((8-x % 8)*(8-z % 8)) else bH s (x / 8+1) (z / 8)*(x % 8*(8-z % 8)))+(if i=0 then bH s (x / 8) (z / 8+1)*((8-x % 8)*(z % 8)) else bH s (x / 8+1) (z / 8+1)*(x % 8*(z % 8))))),⟨2,rfl,.inl ⟨rfl,rfl,rfl⟩⟩,?_⟩;rintro n2 us k t' wr ⟨rfl,hk⟩;have ahK:i=0\/i=1:=by omega
  apply Br.mk<;>intro jE
  ·replace jE:=fj jE;refine (iV x 8 aE aE w).mono ?_;rintro e w1 ⟨rfl,rfl⟩;refine ⟨_,rfl,(iV z 8 aE aE w1).mono ?_⟩;rintro e w1 ⟨rfl,rfl⟩;refine ⟨_,rfl,?_⟩;rw [q1,q2,m1,m2,m3,m4];have aoq:k=0\/k=1:=by omega
   refine Br.mk (λFz=>Br.mk (λfi=> ?_) (λfi=> ?_)) (λFz=>Br.mk (λfi=> ?_) (λfi=> ?_))
   all_goals
    simp only [beq_iff_eq,beq_eq_false_iff_ne,ne_eq] at Fz fi
    refine (ql x 8 hx aE w1).mono ?_
    rintro e w1 ⟨rfl,rfl⟩
    refine ⟨_,rfl,(ql z 8 hz aE w1).mono ?_⟩
    rintro e w1 ⟨rfl,rfl⟩
    refine ⟨_,rfl,(JY _ _ _ w1).mono ?_⟩
    rintro e w1 ⟨rfl,rfl⟩
    refine ⟨_,rfl,?_⟩
    rw [Mf]
   ·have hi0:i=0:=Fz;have hk0:k=0:=fi;subst hi0;subst hk0;rw [Int.add_zero,Int.add_zero,az hdx.2,az hdz.2,<-k1,az (n:=bH s (x / 8) (z / 8)*((8-x % 8)*(8-z % 8))) (by unfold inI;omega)];have ht:t'=0:=by omega
    subst ht;refine ⟨1,by omega,rfl,.inr (.inl ⟨by decide,rfl,?_⟩)⟩;rw [wI,if_pos rfl];omega
   ·have hi0:i=0:=Fz;have hk0:k=1:=by omega
    subst hi0;subst hk0;rw [Int.add_zero,az hdx.2,az hdz.1,<-k3,az (n:=bH s (x / 8) (z / 8+1)*((8-x % 8)*(z % 8))) (by unfold inI;omega)];rcases hk with hk|hk|hk
    ·omega
    ·obtain ⟨-,Fu,ht⟩:=hk;rw [if_pos rfl] at ht;have ht0:t=0:=by omega
     subst ht0;refine ⟨0,by omega,rfl,.inr (.inr ⟨by decide,rfl,?_⟩)⟩;rw [wI,if_pos rfl,if_pos rfl];omega
    ·omega
   ·have hi0:i=1:=by omega
    have hk0:k=0:=fi;subst hi0;subst hk0;rw [Int.add_zero,az hdx.1,az hdz.2,<-k2,az (n:=bH s (x / 8+1) (z / 8)*(x % 8*(8-z % 8))) (by unfold inI;omega)];rcases hk with hk|hk|hk
    ·obtain ⟨-,ht,Fu⟩:=hk;refine ⟨1,by omega,rfl,.inr (.inl ⟨by decide,rfl,?_⟩)⟩;rw [wI,if_neg aE];omega
    ·omega
    ·omega
   ·have hi0:i=1:=by omega
    have hk0:k=1:=by omega
    subst hi0;subst hk0;rw [az hdx.1,az hdz.1,<-k4,az (n:=bH s (x / 8+1) (z / 8+1)*(x % 8*(z % 8))) (by unfold inI;omega)];rcases hk with hk|hk|hk
    ·omega
    ·obtain ⟨-,Fu,ht⟩:=hk;rw [if_neg aE] at ht;refine ⟨0,by omega,rfl,.inr (.inr ⟨by decide,rfl,?_⟩)⟩;rw [wI,if_neg aE,if_neg aE];omega
    ·omega
  ·replace jE:=fh jE;rcases hk with hk|hk|hk
   ·omega
   ·omega
   ·obtain ⟨-,Fu,ht⟩:=hk;rcases ahK with h|h
    ·subst h;rw [if_pos rfl,if_pos rfl] at ht;refine ⟨1,by omega,rfl,.inr (.inl ⟨by decide,by omega,rfl⟩)⟩
    ·subst h;rw [if_neg aE,if_neg aE] at ht;refine ⟨0,by omega,rfl,.inr (.inr ⟨by decide,by omega,rfl⟩)⟩
 ·replace hc:=fh hc;rcases hi with hi|hi|hi
  ·omega
  ·omega
  ·obtain ⟨-,ht,-⟩:=hi;refine ⟨?_,Ext.ck _⟩;have:t=bH s (x / 8) (z / 8)*((8-x % 8)*(8-z % 8))+bH s (x / 8+1) (z / 8)*(x % 8*(8-z % 8))+bH s (x / 8) (z / 8+1)*((8-x % 8)*(z % 8))+bH s (x / 8+1) (z / 8+1)*(x % 8*(z % 8)):=by omega
   rw [<-this] at e1;rw [oz aa,az (n:=t / 64) (by unfold inI;omega),<-e1,wI]
def Gi(s:Int)(c:Ce)(hc:mA c)(w:World):ah 175 #[s,iS c] w λe w'=>e=Value.int .i64 (Bi c.2.1 (ground s c.1 c.2.2))/\Ext w w':=by
 apply Gj.vc;intro w0 e0;have x0:=bq e0;have z0:=du e0;refine (DU s c.1 c.2.2 hc.1 hc.2.2 w0).mono ?_;rintro e w1 ⟨rfl,x1⟩;refine ⟨_,rfl,x1.heap aa,?_⟩;have hg:=mX s c.1 c.2.2;generalize ground s c.1 c.2.2=g at hg;generalize c.2.1=y;have q1:ai (g-3)=g-3:=wI;have q2:ai (g-1)=g-1:=wI;rw [q1,q2];have fin:∀{v:Int},Bi y g=v->(Ending.returned v=Value.int .i64 (Bi y g)/\Ext w w1):=λh=>⟨by rw [h],x0.tr x1⟩
 refine Br.mk (λh1=>fin ?_) (λh1=>Br.mk (λh2=>fin ?_) (λh2=>Br.mk (λh3=>fin ?_) (λh3=>Br.mk (λh4=>fin ?_) (λh4=>Br.mk (λh5=>fin ?_) (λh5=>Br.mk (λh6=>Br.mk (λh7=>fin ?_) (λh7=>fin ?_)) (λh6=>Br.mk (λh9=>fin ?_) (λh9=>fin ?_)))))))
 all_goals simp only [bB,bQ,beq_iff_eq,beq_eq_false_iff_ne,ne_eq] at*
 all_goals unfold Bi
 all_goals (repeat' split)<;>omega
end Go.Proofs.YtalpkjfpmdpbiaaGreatDoor
namespace Go.Proofs.YtalpkjfpmdpbiaaGreatDoor
open Go Go.Vc Go.RowKit Go.Proofs Go.dQ Go.bf
def zS(ag:Int)(p:Po){k:Nat}(hk:k<8192):(made ag p)[k]? =some (Bi (cellAt p k).2.1 (ground ag (cellAt p k).1 (cellAt p k).2.2)):=by unfold made;rw [aX,FP hk];rfl
def Si{p:Po}(hp:Fm p)(i:Int)(hi:0<=i/\i<8192):mA (cellAt p i):=by obtain ⟨⟨p1,p2⟩,p3,p4⟩:=hp;unfold mA cellAt inI;simp only;omega
attribute [local irreducible] made in
set_option maxRecDepth 100000 in
def BV(ag:Int)(p:Po)(hp:Fm p)(w:World):ah 127 #[ag,pv p] w λe w'=>∃s':Sl,e=s'/\lS w w' s' (cK (made ag p))/\Ext w w':=by
 apply Gy.vc;intro w0 e0;have x0:=bq e0;have z0:=du e0;refine ⟨λn x s wr=>Ext w0 wr/\∃k:Nat,x=k/\k+n=8192/\UG w0 wr s ((made ag p).take k),⟨8192,rfl,Ext.ck _,0,rfl,by omega,by rw [L7];exact ak.nil⟩,?_⟩;rintro n us x s wr ⟨xr,k,rfl,hk,ho⟩;have zr:=xr.size;apply Br.mk<;>intro hc
 ·replace hc:=fj hc;have hi:0<=(k:Int)/\(k:Int)<8192:=by omega
  refine (JO p hp k hi wr).mono ?_;rintro e w8 ⟨rfl,x8⟩;refine ⟨_,_,_,_,rfl,x8.heap aa,?_⟩;have z8:=x8.size;intro cA ud cm nu;have cl:Ext w8 cm:=(bq ud).ab nu (ax _);have Wx:cm.heap.size=w8.heap.size+1:=by rw [nu,setRow_size,ud];simp
  refine (Gi ag (cellAt p k) (Si hp k hi) cm).mono ?_;rintro e cS ⟨rfl,bA⟩;have z15:=bA.size;refine ⟨_,rfl,bA.heap aa,bA.heap aa,?_⟩;intro cC pX;have cP:=bq pX;have z17:=du pX;have xall:Ext wr cC:=((x8.tr cl).tr bA).tr cP;have dY:s.n=k:=by rw [xk.len ho.UH,bG,gD];omega
  obtain ⟨c1,c2⟩:=(ak.ext ho xall).append (bytes:=8) (news:=iv (Bi (cellAt p k).2.1 (ground ag (cellAt p k).1 (cellAt p k).2.2))) aa rfl (lG _ _) aa aa;refine ⟨c1,λX9 fD aS=> ?_⟩;obtain ⟨d1,d2,d3,d4,d5⟩:=c2 X9 fD aS;have EX:∀j,wr.heap.size<=j->s.bg≠some j:=λj hj e=>by have:=(ho.own.lt e).2;omega
  have Qk:s.bg≠some w.heap.size:=λe=>by have:=(ho.own.lt e).1;omega
  have Bp:=lD (j:=k);refine ⟨d4 _ Qk aa,d4 _ (EX _ aa) aa,d4 _ (EX _ aa) aa,n-1,by omega,rfl,(xr.tr xall).trans d3,k+1,Bp,by omega,?_⟩;rw [cu,zS ag p aa];show ak _ _ _ _ _ _;rw [aT];exact d1
 ·replace hc:=fh hc;have:k=8192:=by omega
  subst this;rw [dn (by rw [gD];exact ax _)] at ho;refine (mB s (made ag p) wr ho.UH (by rw [gD];decide)).mono ?_;rintro e eC ⟨s',rfl,ho',x'⟩;exact ⟨s',rfl,x'.heap aa,s',rfl,ak.low ho' aa,(x0.tr xr).tr x'⟩
end Go.Proofs.YtalpkjfpmdpbiaaGreatDoor
namespace Go.Proofs.YtalpkjfpmdpbiaaGreatDoor
open Go Go.Vc Go.RowKit Go.Proofs Go.dQ Go.bf
def O7(ag:Int)(p:Po)(k:Nat):LV:=(List.range 256).map λi:Nat=> .int .i64 (if i<k then ground ag (cellAt p i).1 (cellAt p i).2.2 else 0)
def tU(ag:Int)(p:Po)(k:Nat):(O7 ag p k).length=256:=by simp [O7]
def yB(ag:Int)(p:Po)(k:Nat){i:Nat}(hi:i<256):(O7 ag p k)[i]? =some (.int .i64 (if i<k then ground ag (cellAt p i).1 (cellAt p i).2.2 else 0)):=by unfold O7;rw [aX,FP hi];rfl
def V6(ag:Int)(p:Po){k:Nat}(hk:k<256):(O7 ag p k).set k (.int .i64 (ground ag (cellAt p k).1 (cellAt p k).2.2))=O7 ag p (k+1):=by
 apply ik;intro i;rw [ij];rcases fx i 256 with h|h
 ·rw [yB _ _ (k+1) h];split
  ·rename_i e;subst e;rw [if_pos (by rw [tU];exact h),if_pos aa]
  ·rename_i e;rw [yB _ _ k h];congr 3;exact propext ⟨λh=>by omega,λh=>by omega⟩
 ·rw [il (by rw [tU];exact h),il (by rw [tU];exact h),if_neg aa]
def Te(ag:Int)(p:Po):O7 ag p 0=List.replicate 256 (.int .i64 0):=by
 apply List.ext_getElem?;intro i;rcases Nat.lt_or_ge i 256 with h|h
 ·rw [yB _ _ 0 h,List.getElem?_replicate,if_pos h,if_neg (by omega)]
 ·rw [List.getElem?_eq_none (by rw [tU];exact h),List.getElem?_eq_none (by rw [List.length_replicate];exact h)]
def zo(ag:Int)(p:Po):List (LV):=(made ag p).map λb=> [.int .i64 b]
def CJ(ag:Int)(p:Po):(zo ag p).length=8192:=by unfold zo;rw [aB,gD]
def V7(ag:Int)(p:Po){k:Nat}(hk:k<8192):(made ag p)[k]? =some (Bi ((k:Int) / 256) (ground ag (cellAt p ((k % 256:Nat):Int)).1 (cellAt p ((k % 256:Nat):Int)).2.2)):=by
 rw [zS ag p hk];have e1:(cellAt p ((k % 256:Nat):Int)).1=(cellAt p k).1:=by unfold cellAt;simp only;omega
 have e2:(cellAt p ((k % 256:Nat):Int)).2.2=(cellAt p k).2.2:=by unfold cellAt;simp only;omega
 rw [e1,e2];rfl
abbrev Me(bp bs:Nat):Nat->Prop:=λi=>i=bp\/i=bs
abbrev XR(bp bs:Nat):Value:=.func (.func 206) #[] #[bp,bs]
attribute [local irreducible] made O7 in
set_option maxRecDepth 100000 in
def zp(ag:Int)(p:Po)(hp:Fm p)(bp bs:Nat)(W0:World)(hbp:Row W0 bp [p.1,p.2] Qc)(hbs:Row W0 bs [ag] qC):
  Iter Tryz.prog (XR bp bs) W0 (Me bp bs) (zo ag p):=by
 refine ⟨⟨_,_,_,rfl,by kernel_rfl⟩,?_⟩;intro y B J Jx F0 W hB hsJ hsX uf hRd hround h0;refine jt (by kernel_rfl) (by rfl) ?_;apply GJ.vc;have same:∀{w:World} {F:Nat->Prop},(∀i,Me bp bs i->¬F i/\i<w.heap.size/\w.heap[i]? =W0.heap[i]?)->Row w bp [p.1,p.2] Qc/\Row w bs [ag] qC:=λ{w F} h=>
  ⟨hbp.same (h bp (.inl rfl)).2.2,hbs.same (h bs (.inr rfl)).2.2⟩
 intro w0 e0;have x0:Ext W w0:=(Ext.ck W).ay e0;have z0:=du e0;have TA:Row w0 W.heap.size (O7 ag p 0) 267:=by rw [e0,Te];exact Row.new W (List.replicate 256 (0:Int)) _
 clear e0;have hF0:=uf _ _ _ h0;have bel:∀{w:World},Ext W w->J 0 F0 w/\∀i,Me bp bs i->¬F0 i/\i<w.heap.size/\w.heap[i]? =W0.heap[i]? :=λ{w} x=>
  ⟨hsJ _ _ _ _ h0 (Below.mono x hB) λi hi=>x.heap (hF0 i hi),λi hi=>by obtain ⟨h1,h2,h3⟩:=hRd i hi;exact ⟨h1,by have:=x.size;omega,(x.heap h2).trans h3⟩⟩
 refine ⟨λn x wr=>Ext W wr/\W.heap.size<wr.heap.size/\∃k:Nat,x=k/\k+n=256/\Row wr W.heap.size (O7 ag p k) 267,⟨256,x0,by omega,0,rfl,by omega,TA⟩,?_⟩;rintro n us x wr ⟨xr,zr,k,rfl,hk,hg⟩;refine Br.mk (λhc=> ?_) (λhc=> ?_)
 ·replace hc:=fj hc;obtain ⟨Fz,fi⟩:=same (bel xr).2;refine ⟨p.1,p.2,Fz.bk (λj hj=>by rw [Nat.zero_add]),(JN p hp k (by omega) wr).mono ?_⟩;rintro e w9 ⟨rfl,x9⟩;refine ⟨_,_,_,_,rfl,?_⟩;intro cm nu cS A1;have bA:Ext w9 cS:=((Ext.ck _).ay nu).ab A1 (Nat.le_refl _);have z15:cS.heap.size=w9.heap.size+1:=by rw [A1,setRow_size,nu];simp
  have z9:=x9.size;have aku:=fi.ext (x9.tr bA);refine ⟨ag,by rw [aku.ld];rfl,?_⟩;have aU:=Si hp k ⟨by omega,by omega⟩;refine (DT ag _ _ aU.1 aU.2.2 cS).mono ?_;rintro e cC ⟨rfl,cP⟩;have z17:=cP.size;have akv:=hg.ext ((x9.tr bA).tr cP);have Xb:((k:Int).toNat*1)=k:=by omega
  rw [Xb];obtain ⟨p1,p2⟩:=akv.kE (j:=k) (v:=.int .i64 (ground ag (cellAt p k).1 (cellAt p k).2.2)) (by rw [tU];omega) rfl;refine ⟨_,rfl,cP.k,by omega,by omega,⟨rfl,p1⟩,?_,λfD yh=> ?_⟩
  ·rw [da];intro e;have:W.heap.size=w9.heap.size:=by simpa [cQ] using e
   omega
  ·obtain ⟨q1,q2⟩:=p2 fD yh;have Bp:IntKind.wrap .i64 ((k:Int)+1)=((k+1:Nat):Int):=by rw [wI];omega
   have akw:aV (O7 ag p k) k [.int .i64 (ground ag (cellAt p k).1 (cellAt p k).2.2)]=O7 ag p (k+1):=by rw [<-V6 ag p (by omega)];rfl
   rw [akw] at q1;exact ⟨n-1,by omega,q2.ext (xr.tr ((x9.tr bA).tr cP)) (λi hi=>by omega),by have:=q2.size;omega,k+1,Bp,by omega,q1⟩
 ·replace hc:=fh hc;have aeX:k=256:=by omega
  subst aeX;obtain ⟨hJr,hKr⟩:=bel xr;refine ⟨λn x wr=>∃(k:Nat)(F:Nat->Prop),x=k/\k+n=8192/\B<=wr.heap.size/\W.heap.size<wr.heap.size/\¬F W.heap.size/\J k F wr/\Row wr W.heap.size (O7 ag p 256) 267,
   ⟨8192,0,F0,rfl,by omega,by omega,zr,λhf=>by have:=hF0 _ hf;omega,hJr,hg⟩,?_⟩
  rintro n us x wq ⟨k,F,rfl,hk,hBq,hzq,hnF,hJq,hgq⟩;refine Br.mk (λhc=> ?_) (λhc=> ?_)
  ·replace hc:=fj hc;have t1:Int.tmod (k:Int) 256=((k % 256:Nat):Int):=by rw [Int.tmod_eq_emod_of_nonneg (by omega)];omega
   have t2:IntKind.wrap .i64 (Int.tdiv (k:Int) 256)=(k:Int) / 256:=by rw [Int.tdiv_eq_ediv_of_nonneg (by omega),wI]
   rw [t1,t2];have Xb:(((k % 256:Nat):Int).toNat*1)=k % 256:=by omega
   rw [Xb];have dw:=yB ag p 256 (i:=k % 256) (by omega);rw [if_pos (by omega)] at dw;refine ⟨by omega,by omega,_,hgq.at _ dw,(QY _ _ (mX _ _ _) wq).mono ?_⟩;rintro e jb ⟨rfl,rfl⟩;refine ⟨_,rfl,?_⟩;have hx:(zo ag p)[k]? =some [.int .i64 (Bi ((k:Int) / 256) (ground ag (cellAt p ((k % 256:Nat):Int)).1 (cellAt p ((k % 256:Nat):Int)).2.2))]:=by unfold zo;rw [List.getElem?_map,V7 ag p (by omega)];rfl
   refine rN (hround _ _ _ _ hx hJq) ?_;have Bp:IntKind.wrap .i64 ((k:Int)+1)=((k+1:Nat):Int):=by rw [wI];omega
   rintro e fJ (⟨rfl,F2,hJ2,lT⟩|⟨rfl,F2,hJ2,lT⟩)
   ·refine ⟨true,rfl,Br.mk (λh=>by cases h) (λ_=>⟨n-1,by omega,k+1,F2,Bp,by omega,by have:=lT.size;omega,by have:=lT.size;omega,λhf=> ?_,hJ2,hgq.same (lT.same _ hzq hnF)⟩)⟩;rcases lT.sub _ hf with hf|hf
    ·exact hnF hf
    ·omega
   ·exact ⟨false,rfl,Br.mk (λ_=>⟨⟨_,rfl⟩,.inr ⟨F2,hJ2⟩⟩) (λh=>by cases h)⟩
  ·replace hc:=fh hc;have UT:k=8192:=by omega
   subst UT;exact ⟨⟨_,rfl⟩,.inl ⟨F,by rw [CJ];exact hJq⟩⟩
def zn(ag:Int)(p:Po)(w:World):ah 163 #[ag,pv p] w λe w'=>e=(XR (w.heap.size+1) w.heap.size)/\Row w' (w.heap.size+1) [p.1,p.2] Qc/\Row w' w [ag] qC/\Ext w w':=by apply NN.vc;intro w0 e0 w1 e1;have z0:=du e0;have x1:=bq e1;have hb:Row w0 w [ag] qC:=Row.nw e0;refine ⟨by rw [z0],?_,hb.ext x1,(bq e0).tr x1⟩;rw [<-z0,e1];exact Row.new w0 [_,_] _
end Go.Proofs.YtalpkjfpmdpbiaaGreatDoor
namespace Go.Proofs.YtalpkjfpmdpbiaaGreatDoor
open Go Go.Vc Go.RowKit Go.Proofs Go.dQ Go.bf
def Nw(s:Sl)(c:List Int)(w:World)(hs:UG 0 w s c):ah 165 #[s] w λe w'=>(∃s':Sl,e=s'/\xk w s' c)/\w'=w:=by
 apply xl.vc;have hn:=xk.len hs.UH;have ue:s.n<=s.c:=by
  rcases ak.form hs aE with ⟨h,-⟩|⟨g0,cs,ha,TA,hr,hc,Fv,-⟩
  ·rw [h];exact ax _
  ·exact Fv
 have:=RdK.cut hs.UH (m:=s.n) (c':=s.n) (c'':=s.n) (by rw [aB];omega);rw [dn (by rw [aB];omega)] at this;exact ⟨by omega,by omega,by omega,by omega,⟨⟨aA s.a 0 s.n 1,s.n,s.n⟩,rfl,this⟩,rfl⟩
attribute [local irreducible] made in
set_option maxRecDepth 100000 in
def we(ag:Int)(p:Po)(hp:Fm p)(w:World):ah 121 #[ag,pv p] w λe w'=>∃s':Sl,e=s'/\lS w w' s' (cK (made ag p))/\Ext w w':=by
 apply Nx.vc;intro w0 e0 w1 e1;have z0:=du e0;have z1:w1.heap.size=w.heap.size+2:=by rw [e1];simp [z0]
 have oN:Ext w w1:=(bq e0).ay e1;refine (zn ag p w1).mono ?_;rintro e w2 ⟨rfl,hbp,hbs,x2⟩;have ft:=hbp.lt;have xx:=oN.tr x2;have zz:=xx.size;refine ⟨_,rfl,x2.heap aa,x2.heap aa,?_⟩;refine ⟨zo ag p,Me (w1.heap.size+1) w1.heap.size,λ_=>False,λn F s w'=>(∀i,F i ↔ s.bg=some i)/\UG (w2.heap.size+2) w' s ((made ag p).take n)/\Ext w w'/\w2.heap.size+2<=w'.heap.size,λ_ _ _ _=>False,
  ?_,?_,λ_ _ _ _ _ h=>h.elim,?_,λ_ _ _ _ h=>h.elim,λi hi=>⟨by rcases hi with h|h<;>omega,id,by rcases hi with h|h<;>omega,by rcases hi with h|h<;>omega,trivial⟩,?_,?_,?_,trivial⟩
 ·intro x hx;obtain ⟨b,_,rfl⟩:=aR.1 hx;exact ⟨b,rfl⟩
 ·rintro n F s w3 w4 ⟨hF,ho,vE,hz⟩ hbl2 hsame;exact ⟨hF,ak.bP ho λi hi=>hsame i ((hF i).2 hi),vE.trans (Below.mono hbl2 zz),by have:=hbl2.size;omega⟩
 ·rintro n F s w3 ⟨hF,ho,vE,hz⟩ i hi;have:=ho.own.lt ((hF i).1 hi);omega
 ·intro w3 ads;have aab:Below w2 w2 w3:=ads.ext;refine ⟨zp ag p hp _ _ w3 (hbp.ext aab) (hbs.ext aab),rfl,?_,?_,xx.trans (Below.mono aab zz),by have:=ads.size;omega⟩
  ·intro i;simp [Sl.bg]
  ·rw [L7];exact ak.nil
 ·rintro n F us o y w3 hx hI;have hy:(made ag p)[n]? =some y:=by
   unfold zo at hx;rw [aX,CI] at hx;obtain ⟨b,hb,e⟩:=hx;have:b=y:=by simpa using e
   rw [<-this];exact hb
  refine ⟨Below.refl _ _,λw4 jX hI3=> ?_⟩;obtain ⟨hF,ho,vE,hz⟩:=hI3;intro w5 e5;have x5:=bq e5;have z5:=du e5;have II:n<8192:=by have:=(bF.1 hy).1;rw [gD] at this;exact this
  have Bm:=xk.len ho.UH;rw [bG,gD] at Bm;obtain ⟨hp1,aS⟩:=(ak.ext ho x5).append (bytes:=8) (news:=iv y) aa rfl (lG _ _) aa aa;refine ⟨hp1,λs5 w6 hr=> ?_⟩;obtain ⟨uB,hn5,xb,Ji,gX⟩:=aS s5 w6 hr;have TD:∀i,o.bg=some i->w2.heap.size+2<=i/\i<w4.heap.size:=λi hi=>ho.own.lt hi
  have hz6:=xb.size;refine ⟨Ji _ (λhb=>by have:=TD _ hb;omega) aa,Ji _ (λhb=>by have:=TD _ hb;omega) aa,Ji _ (λhb=>by have:=TD _ hb;omega) aa,?_⟩;intro w7 hw7;have e7:∀i,i≠w0.heap.size->w7.heap[i]? =w6.heap[i]? :=λi hi=>by rw [hw7];exact setRow_other _ _ _ _ hi
  have z7:w7.heap.size=w6.heap.size:=by rw [hw7,setRow_size]
  have hb5:∀i,s5.bg=some i->w2.heap.size+2<=i:=λi hi=>by
   rcases gX with h|h
   ·exact (TD i (by rw [<-h];exact hi)).1
   ·rw [h] at hi;simp at hi;omega
  refine ⟨λi=>s5.bg=some i,⟨rfl,λi=>Iff.rfl,?_,?_,by omega⟩,Step.late ⟨?_,by omega,?_⟩⟩
  ·have e:(made ag p).take (n+1)=(made ag p).take n++ [y]:=by rw [cu,hy];rfl
   rw [e];have h5:UG (w2.heap.size+2) w6 s5 ((made ag p).take n++ [y]):=by show ak _ _ 1 _ _ (((made ag p).take n++ [y]).map iv);rw [aT];exact uB
   exact ak.bP h5 λi hi=>e7 i (by have:=hb5 i hi;omega)
  ·have h5:Ext w w6:=(vE.tr x5).trans (Below.mono xb aa);rw [hw7];exact h5.setRow aa _
  ·rintro i (hi|hi)
   ·rcases gX with h|h
    ·exact .inl (.inl ((hF i).2 (by rw [<-h];exact hi)))
    ·rw [h] at hi;simp at hi;exact .inr aa
   ·exact .inl (.inr hi)
  ·intro i hi hni;have h1:i≠w0.heap.size:=λe=>hni (.inr (by simp [e]))
   rw [e7 i h1,Ji i (λhb=>hni (.inl ((hF i).2 hb))) aa];exact x5.heap hi
 ·rintro F us o w3 ⟨hF,ho,vE,hz⟩ hD;rw [CJ,dn (by rw [gD];exact ax _)] at ho;refine (Nw o (made ag p) w3 (ak.low ho (fm _))).mono ?_;rintro e w4 ⟨⟨s4,rfl,hs4⟩,rfl⟩;refine ⟨s4,rfl,rfl,rfl,(DR s4 (made ag p) w4 hs4 (by rw [gD];decide)).mono ?_⟩;rintro e w5 ⟨s5,rfl,uB,x5⟩;refine ⟨s5,rfl,x5.heap aa,x5.heap aa,(x5.heap aa).trans hD,λw6 jX=> ?_⟩;have hz5:=x5.size;have ho6:lS w w6 s5 (cK (made ag p)):=ak.low (ak.bP uB λi hi=>jX.same i (by have:=(uB.own.lt hi).1;omega)) aa;exact ⟨s5,rfl,ho6,(vE.tr x5).trans (Below.mono (jX.below (ax _)) aa)⟩
end Go.Proofs.YtalpkjfpmdpbiaaGreatDoor
namespace Go.Proofs.YtalpkjfpmdpbiaaGreatDoor
open Go Go.Vc Go.RowKit Go.Proofs Go.dQ Go.bf
abbrev rL:TypeId:=183
structure BH(w:World)(g:Nat)(s:Sl)(p:Po)(C:List Int):Prop where
 row:Row w g [p.1,p.2,s] rL
 own:lS 0 w s (cK C)
 len:C.length=8192
 may:∀b ∈ C,aY b=true
def BH.bP{w w':World}{g:Nat}{s:Sl}{p:Po}{C:List Int}(h:BH w g s p C){F:Nat->Prop}(hm:Mod F w w')(hg:¬F g)(hs:∀b,s.bg=some b->¬F b):BH w' g s p C:=
 ⟨hm.row h.row hg,hm.gQ h.own hs,h.len,h.may⟩
def BH.ext{w w':World}{g:Nat}{s:Sl}{p:Po}{C:List Int}(h:BH w g s p C)(x:Ext w w'):BH w' g s p C:=⟨h.row.ext x,ak.ext h.own x,h.len,h.may⟩
def BH.bd{w:World}{g:Nat}{s:Sl}{p:Po}{C:List Int}(h:BH w g s p C):Bd C.length:=by rw [h.len];decide
def pC(p:Po)(c:Ce):Bool:=decide (0<=c.2.1) && decide (c.2.1<32) &&(pos c==p)
def eN(p:Po)(c:Ce):pC p c=true ↔ kX c/\pos c=p:=by unfold pC kX;simp only [gy,bB,beq_iff_eq]
def rG(p:Po)(C:List Int)(c:Ce):Int:=if pC p c then NV C (idx c) else 0
def fG(p:Po)(C:List Int)(c:Ce)(b:Int):List Int × Int:=if pC p c=false then (C,5) else if aY b=false then (C,1) else (C.set (idx c).toNat b,0)
def AN(p:Po)(c:Ce)(hc:mA c)(w:World):ah 129 #[pv p,iS c] w λe w'=>(∃i,e=Value.tuple #[.int .i64 i,.bool (pC p c)]/\(pC p c=true->i=idx c))/\Ext w w':=by
 apply te.vc;intro w0 e0 w1 e1;have z0:=du e0;have z1:w1.heap.size=w.heap.size+2:=by rw [e1];simp [z0]
 have x1:Ext w w1:=(bq e0).ay e1;have hb:Row w1 w [p.1,p.2] 181:=(by rw [e0];exact Row.new w [_,_] _:Row w0 w [p.1,p.2] 181).ext (bq e1);refine (v8 c w1).mono ?_;rintro e w2 ⟨⟨i,b,rfl,hi⟩,x2⟩;have z2:=x2.size;refine ⟨i,b,rfl,x2.heap aa,x2.heap aa,Br.mk (λFH=> ?_) (λFH=> ?_)⟩
 ·rcases hi with ⟨-,hy,rfl⟩|⟨h,-⟩
  ·refine (mi c hc w2.drew).mono ?_;rintro e w5 ⟨rfl,x5⟩;refine ⟨_,_,rfl,x5.heap (show w.heap.size<w2 by omega),x5.heap (show w0.heap.size<w2 by omega),((hb.ext x2).ext (Ext.dr _)|>.ext x5).bk (λj hj=>by rw [cO]),?_,(x1.tr x2).tr ((Ext.dr _).tr x5)⟩;refine ⟨_,?_,λ_=>rfl⟩;have:pC p c=(((pos c).1==p.1) &&((pos c).2==p.2)):=by unfold pC;unfold kX at hy;rw [decide_eq_true hy.1,decide_eq_true hy.2];rfl
   rw [this]
  ·rw [h] at FH;cases FH
 ·rcases hi with ⟨h,-⟩|⟨-,hy,rfl⟩
  ·rw [h] at FH;cases FH
  ·have:pC p c=false:=by
    cases hk:pC p c with
    |false=>rfl
    |true=>exact absurd ((eN p c).1 hk).1 hy
   rw [this];exact ⟨⟨_,rfl,λh=>by cases h⟩,(x1.tr x2).drew⟩
def Wa(y g:Int):aY (Bi y g)=true:=by rcases Oz y g with h|h|h|h|h<;>rw [h]<;>decide+kernel
def Hk(ag:Int)(p:Po):∀b ∈ made ag p,aY b=true:=by intro b hb;unfold made at hb;obtain ⟨i,_,rfl⟩:=aR.1 hb;exact Wa _ _
def Kh(ag:Int)(p:Po)(hp:Fm p)(w:World):ah 75 #[ag,pv p] w λe w'=>∃g s,e=Value.pointer (bu g)/\BH w' g s p (made ag p)/\Ext w w'/\w.heap.size<=g/\∀b,s.bg=some b->w.heap.size<=b:=by
 apply Ke.vc;intro w0 e0;have x0:=bq e0;have z0:=du e0;have hb:Row w0 w [p.1,p.2] Qc:=Row.nw e0;have fin:∀{w1 w3:World} {s:Sl},Ext w0.drew w1->lS w0.drew.heap.size w1 s (cK (made ag p))->w3=w1.alloc (.cells #[p.1,p.2,.slice s.a s.n s.c] rL)->BH w3 w1 s p (made ag p)/\Ext w w3/\w.heap.size<=w1/\∀b,s.bg=some b->w.heap.size<=b:=λ{w1 w3 s} x1 ho e3=>by have x3:=bq e3;refine ⟨⟨by rw [e3];exact Row.new w1 [_,_,_] _,(ak.low ho (fm _)).ext x3,gD _ _,Hk _ _⟩,((x0.drew).tr x1).tr x3,(x0.drew.tr x1).size,λb hb=>fy x0.drew.size (ho.own.lt hb).1⟩
 refine ⟨(we ag p hp w0.drew).mono ?_,(we ag p hp w0.drew).mono ?_⟩
 ·rintro e w1 ⟨s,rfl,ho,x1⟩;refine ⟨s,rfl,x1.heap (show w.heap.size<w0 by omega),λw3 e3=>⟨_,s,rfl,fin x1 ho e3⟩⟩
 ·rintro e w1 ⟨s,rfl,ho,x1⟩;refine ⟨s,rfl,x1.heap (show w.heap.size<w0 by omega),((hb.ext (Ext.dr _)).ext x1).bk (λj hj=>by rw [cO]),λw3 e3=>⟨_,s,rfl,fin x1 ho e3⟩⟩
end Go.Proofs.YtalpkjfpmdpbiaaGreatDoor
namespace Go.Proofs.YtalpkjfpmdpbiaaGreatDoor
open Go Go.Vc Go.RowKit Go.Proofs Go.dQ Go.bf
def BH.pos{w:World}{g:Nat}{s:Sl}{p:Po}{C:List Int}(h:BH w g s p C):av w (ae (bu g) 0) 0 [p.1,p.2]:=by
 rw [bW];exact h.row.bk (λj hj=>by
  simp at hj;rcases j with _|_|j
  ·rfl
  ·rfl
  ·omega)
def CL{C:List Int}(h:C.length=8192):(∀r ∈ cK C,0<=r.1)/\ba (cK C)<=1099511627776/\Bd (cK C).length:=by refine ⟨λr hr=>by have:=(iH hr).1;omega,by rw [iu,h];decide,?_⟩;have:=j1 C;show (cK C).length<=1099511627776;omega
def yz{w:World}{g:Nat}{s:Sl}{p:Po}{C:List Int}(h:BH w g s p C)(c:Ce)(hc:mA c):ah 86 #[g,iS c] w λe w'=>e=Value.tuple #[(rG p C c),.bool (pC p c)]/\Ext w w':=by
 apply zE.vc;intro w0 e0;have x0:Ext w w0.drew:=(Ext.ck w|>.ay e0).drew;have z0:=du e0;have h0:=h.ext x0;refine ⟨p.1,p.2,h0.pos,(AN p c hc w0.drew).mono ?_⟩;rintro e w3 ⟨⟨i,rfl,hi⟩,x3⟩;have h3:=h0.ext x3;have z3:=x3.size;refine ⟨i,_,rfl,x3.heap (show w.heap.size<w0 by omega),Br.mk (λhb=> ?_) (λhb=> ?_)⟩
 ·have hf:pC p c=false:=by simpa using hb
  refine ⟨?_,x0.tr x3⟩;unfold rG;rw [hf];rfl
 ·have hk:pC p c=true:=by simpa using hb
  have hie:=hi hk;subst hie;have fM:=nP ((eN p c).1 hk).1;obtain ⟨q1,q2,q3⟩:=CL h.len;refine ⟨s,h3.row.at 2 rfl,(ES s (cK C) (idx c) w3 (lS.rA h3.own) q3 q1 q2 (by unfold inI;omega)).mono ?_⟩;rintro e w7 ⟨rfl,x7⟩;refine ⟨_,rfl,x7.heap (kN (show w.heap.size<w0 by omega) z3),?_,(x0.tr x3).tr x7⟩;rw [iX];unfold rG;rw [hk];rfl
def Mj{p:Po}{C:List Int}(hl:C.length=8192)(hm:∀b ∈ C,aY b=true)(c:Ce)(b:Int):(fG p C c b).1.length=8192/\∀x ∈(fG p C c b).1,aY x=true:=by
 unfold fG;split
 ·exact ⟨hl,hm⟩
 ·split
  ·exact ⟨hl,hm⟩
  ·rename_i h;refine ⟨by rw [L6];exact hl,λx hx=> ?_⟩;rcases CG hx with h1|h1
   ·exact hm x h1
   ·subst h1;simpa using h
def RZ{w:World}{g:Nat}{s:Sl}{p:Po}{C:List Int}(h:BH w g s p C)(c:Ce)(hc:mA c)(b:Int):
  ah 106 #[g,iS c,b] w λe w'=>e=Value.int .i64 (fG p C c b).2/\∃s',BH w' g s' p (fG p C c b).1/\Mod (λi=>i=g) w w'/\(∀i,s'.bg=some i->s.bg=some i\/w.heap.size<=i):=by
 apply xn.vc;intro w0 e0;have x0:Ext w w0.drew:=(Ext.ck w|>.ay e0).drew;have z0:=du e0;have hgl:=h.row.lt;have h0:=h.ext x0;refine ⟨p.1,p.2,h0.pos,(AN p c hc w0.drew).mono ?_⟩;rintro e w3 ⟨⟨i,rfl,hi⟩,x3⟩;have h3:=h0.ext x3;have z3:=x3.size;have z3':w.heap.size<w3:=kN (show w.heap.size<w0 by omega) z3;refine ⟨i,_,rfl,x3.heap (show w.heap.size<w0 by omega),Br.mk (λhb=> ?_) (λhb=> ?_)⟩
 ·have hf:pC p c=false:=by simpa using hb
  have e:fG p C c b=(C,5):=by unfold fG;rw [if_pos hf]
  rw [e];exact ⟨rfl,s,h3,Mod.aM (x0.tr x3),λi hi=> .inl hi⟩
 ·have hk:pC p c=true:=by simpa using hb
  have hie:=hi hk;subst hie;have fM:=nP ((eN p c).1 hk).1;refine (gK b w3).mono ?_;rintro e w6 ⟨rfl,x6⟩;have h6:=h3.ext x6;have z6:=x6.size;refine ⟨_,rfl,x6.heap z3',Br.mk (λfi=> ?_) (λfi=> ?_)⟩
  ·have hf:aY b=false:=by simpa using fi
   have e:fG p C c b=(C,1):=by unfold fG;rw [if_neg (by simp [hk]),if_pos hf]
   rw [e];exact ⟨rfl,s,h6,Mod.aM ((x0.tr x3).tr x6),λi hi=> .inl hi⟩
  ·have hm:aY b=true:=by simpa using fi
   have e:fG p C c b=(C.set (idx c).toNat b,0):=by unfold fG;rw [if_neg (by simp [hk]),if_neg (by simp [hm])]
   refine ⟨s,h6.row.at 2 rfl,(B0 s C (idx c) b w6 (lS.rA h6.own) h.bd (by unfold inI;omega)).mono ?_⟩;rintro e9 w9 ⟨cL,rfl,ho,x9⟩;have hs:rB C (idx c) b=C.set (idx c).toNat b:=by unfold rB;rw [if_pos ⟨hm,fM.1,by rw [h.len];omega⟩]
   rw [hs] at ho;obtain ⟨p1,p2⟩:=(h6.row.ext x9).kE (j:=2) (v:=.slice cL.a cL.n cL.c) cy rfl;refine ⟨cL,rfl,x9.heap aa,⟨rfl,p1⟩,?_,λcH B2=> ?_⟩
   ·rw [da];intro e;have:g=w.heap.size:=by simpa [cQ] using e
    omega
   ·obtain ⟨q1,q2⟩:=p2 cH B2;have aU:=Mj (p:=p) h.len h.may c b;rw [e] at aU ⊢;refine ⟨rfl,cL,⟨q1,q2.gQ (ak.low ho (fm _)) λi hi hf=> ?_,aU.1,aU.2⟩,(Mod.aM (((x0.tr x3).tr x6).tr x9)).trans q2,λi hi=> .inr ?_⟩
    ·obtain ⟨cs,hr⟩:=aN ho aE hi;exact hr.ne (h6.row.ext x9) aE hf
    ·have:=(ho.own.lt hi).1;have:=(x0.tr x3).size;omega
def rz(p:Po)(w:World):ah 115 #[pv p] w λe w'=>e=(pv p)/\Ext w w':=by apply td.vc;intro w0 e0 w1 e1 w2 e2;have z0:=du e0;exact ⟨rfl,((bq e0).ay e1).ab e2 aa⟩
end Go.Proofs.YtalpkjfpmdpbiaaGreatDoor
namespace Go.Proofs.YtalpkjfpmdpbiaaGreatDoor
open Go Go.Vc Go.RowKit Go.Proofs Go.dQ Go.bf
end Go.Proofs.YtalpkjfpmdpbiaaGreatDoor
namespace Go.Proofs.YtalpkjfpmdpbiaaGreatDoor
open Go Go.Vc Go.RowKit Go.Proofs Go.dQ Go.bf
end Go.Proofs.YtalpkjfpmdpbiaaGreatDoor
namespace Go.Proofs.YtalpkjfpmdpbiaaGreatDoor
open Go Go.Vc Go.RowKit Go.Proofs Go.dQ Go.bf
abbrev kv(p:Po)(s:Sl):Value:=.agg #[p.1,p.2,s]
abbrev tK:TypeId:=108
def wh(p:Po)(s:Sl)(c:Ce)(hc:mA c)(w:World):ah 97 #[kv p s,iS c] w λe w'=>e=Value.int .i64 (if pC p c then idx c else -1)/\Ext w w':=by
 apply GM.vc;intro w0 e0 w1 e1;have z0:=du e0;have z1:w1.heap.size=w.heap.size+2:=by rw [e1];simp [z0]
 have x1:Ext w w1:=(bq e0).ay e1;have hb:Row w1 w [p.1,p.2,s] tK:=(by rw [e0];exact Row.new w [_,_,_] _:Row w0 w [p.1,p.2,s] tK).ext (bq e1);refine (DN c w1).mono ?_;rintro e w2 ⟨⟨i,b,rfl,hi⟩,x2⟩;have z2:=x2.size;refine ⟨i,b,rfl,x2.heap aa,x2.heap aa,Br.mk (λFH=> ?_) (λFH=> ?_)⟩
 ·rcases hi with ⟨h,-⟩|⟨-,hy,-⟩
  ·rw [h] at FH;cases FH
  ·have:pC p c=false:=by
    cases hk:pC p c with
    |false=>rfl
    |true=>exact absurd ((eN p c).1 hk).1 hy
   rw [this];exact ⟨rfl,(x1.tr x2).drew⟩
 ·rcases hi with ⟨-,hy,rfl⟩|⟨h,-⟩
  ·refine (kY c hc w2.drew).mono ?_;rintro e w5 ⟨rfl,x5⟩;have xx:Ext w w5:=(x1.tr x2).tr ((Ext.dr _).tr x5);have hb5:=(hb.ext x2).ext (Ext.dr _)|>.ext x5;refine ⟨_,_,rfl,x5.heap (show w.heap.size<w2 by omega),x5.heap (show w0.heap.size<w2 by omega),hb5.bk (λj hj=>by
    simp at hj;rcases j with _|_|j
    ·rfl
    ·rfl
    ·omega),Br.mk (λhq=> ?_) (λhq=> ?_)⟩
   ·have:pC p c=false:=by
     cases hk:pC p c with
     |false=>rfl
     |true=>
      have he:=((eN p c).1 hk).2;rw [<-he] at hq;simp at hq
    rw [this];exact ⟨rfl,xx⟩
   ·have:pC p c=true:=by refine (eN p c).2 ⟨hy,?_⟩;simp only [Bool.not_eq_false',gy,beq_iff_eq] at hq;exact Prod.ext hq.1 hq.2
    rw [this];exact ⟨rfl,xx⟩
  ·rw [h] at FH;cases FH
end Go.Proofs.YtalpkjfpmdpbiaaGreatDoor
namespace Go.Proofs.YtalpkjfpmdpbiaaGreatDoor
open Go Go.Vc Go.RowKit Go.Proofs Go.dQ Go.bf
end Go.Proofs.YtalpkjfpmdpbiaaGreatDoor
namespace Go.Proofs.YtalpkjfpmdpbiaaGreatDoor
open Go Go.Vc Go.RowKit Go.Proofs Go.dQ Go.bf
def rJ(ag:Int)(p:Po)(hp:Fm p)(w:World):ah 82 #[ag,pv p] w λe w'=>∃s,e=(kv p s)/\lS w w' s (cK (made ag p))/\Ext w w':=by
 apply Kg.vc;intro w0 e0 w1 e1;have z0:=du e0;have z1:w1.heap.size=w.heap.size+2:=by rw [e1];simp [z0]
 have x1:Ext w w1.drew:=((bq e0).ay e1).drew;have hb:Row w1.drew w [p.1,p.2] Qc:=((by rw [e0];exact Row.new w [_,_] _:Row w0 w [p.1,p.2] Qc).ext (bq e1)).ext (Ext.dr _);refine (BV ag p hp w1.drew).mono ?_;rintro e w2 ⟨s,rfl,ho,x2⟩;have zd:=lW w1;refine ⟨s,rfl,x2.heap aa,x2.heap aa,(hb.ext x2).bk (λj hj=>by rw [cO]),λw4 e4=> ?_⟩;refine ⟨s,rfl,?_,(x1.tr x2).ab e4 aa⟩;have:=ak.bP ho (w':=w4) λb hb=>by rw [e4];exact setRow_other _ _ _ _ (by have:=(ho.own.lt hb).1;omega)
 exact ak.low this aa
end Go.Proofs.YtalpkjfpmdpbiaaGreatDoor
namespace Go.Proofs.YtalpkjfpmdpbiaaGreatDoor
open Go Go.Vc Go.RowKit Go.Proofs Go.dQ Go.bf
def NU(p:Po)(C:List Int)(c:Ce):Int:=if pC p c then NV C (idx c) else -1
def GN{w:World}{s:Sl}{p:Po}{C:List Int}(hs:ei w s (cK C))(hl:C.length=8192)(c:Ce)(hc:mA c):
  ah 51 #[kv p s,iS c] w λe w'=>e=Value.int .i64 (NU p C c)/\Ext w w':=by
 apply Re.vc;obtain ⟨q1,q2,q3⟩:=CL hl;have hn:=ei.len hs;intro w0 e0 w1 e1;have z0:=du e0;have z1:w1.heap.size=w.heap.size+2:=by rw [e1];simp [z0]
 have x1:Ext w w1:=(bq e0).ay e1;refine (wh p s c hc w1).mono ?_;rintro e w2 ⟨rfl,x2⟩;have Dl:=x1.tr x2;refine ⟨_,rfl,x2.heap aa,x2.heap aa,?_⟩;unfold NU
 cases hk:pC p c with
 |false=>exact Br.mk (λ_=>⟨rfl,Dl⟩) (λh=>by simp at h)
 |true=>
  have fM:=nP ((eN p c).1 hk).1;have kC:ei w2 s (cK C):=RdK.ext hs Dl;simp only [if_true];generalize hii:idx c=ii at fM;refine Br.mk (λh=>by simp at h;omega) (λ_=> ?_);unfold Bd at q3;have AX:ba (cK C)=8192:=by rw [iu,hl];rfl
  refine ⟨λn r t wr=>w2=wr/\∃k:Nat,r=k/\k+n=(cK C).length/\t=ba ((cK C).take k)/\t<=ii,⟨(cK C).length,trivial,trivial,rfl,0,rfl,by omega,rfl,fM.1⟩,?_⟩;rintro n us r t wr ⟨rfl,k,rfl,Fq,rfl,hle⟩;apply Br.mk<;>intro jE
  ·replace jE:=fj jE;obtain ⟨rr,hr⟩:=bh (l:=cK C) (i:=k) aa;have WK:=gG hr;have hle1:=fg q1 (k+1);have hle0:=fg q1 k;have mz:=ei.some kC (i:=k) aa;have cV:=ei.fN kC (i:=k) aa;have WL:=q1 rr (bc hr);refine ⟨cV,bj.2 ⟨gj.2 mz,rr.1,ei.c0 kC (i:=k) hr,?_⟩⟩;have e1:=az (n:=ba ((cK C).take k)+rr.1) (by unfold inI;omega);have e2:=az (n:=(k:Int)+1) (by unfold inI;omega);rw [e1,e2];apply Br.mk<;>intro hb
   ·replace hb:=fj hb;refine ⟨cV,bj.2 ⟨gj.2 mz,rr.2,ei.c1 kC (i:=k) hr,?_,Dl⟩⟩;have dY:((aW ((cK C).take k)).length:Int)=ba ((cK C).take k):=(dq λq hq=>q1 q (kh hq)).symm;have hcell:=Rh hr (j:=(ii-ba ((cK C).take k)).toNat) aa;rw [iX,show (aW ((cK C).take k)).length+(ii-ba ((cK C).take k)).toNat=ii.toNat by omega] at hcell;have:NV C ii=rr.2:=by unfold NV;rw [if_neg aa,cZ,hcell];rfl
    rw [this]
   ·replace hb:=fh hb;exact ⟨n-1,by omega,trivial,trivial,rfl,k+1,by omega,by omega,WK.symm,by omega⟩
  ·replace jE:=fh jE;have:k=(cK C).length:=by omega
   subst this;rw [kg,AX] at hle;omega
end Go.Proofs.YtalpkjfpmdpbiaaGreatDoor
namespace Go.Proofs.YtalpkjfpmdpbiaaGreatDoor
open Go Go.Vc Go.RowKit Go.Proofs Go.dQ Go.bf Go.Code
def Tz(w:World)(p:Po)(l:List Rn)(e:Ending)(w':World):Prop:=
 (jv aY l 8192=true/\∃g sg,e=Value.tuple #[.pointer (bu g),af]/\BH w' g sg p (aW l)/\w.heap.size<=g/\∀b,sg.bg=some b->w.heap.size<=b)\/
 (jv aY l 8192=false/\e=Value.tuple #[.pointer none,(1:Int)])
def zQ(p:Po)(s:Sl)(l:List Rn)(w:World)(hs:ei w s l)(hn:Bd l.length):ah 120 #[pv p,s] w λe w'=>Tz w p l e w'/\Ext w w':=by
 apply NJ.vc;intro w0 e0;have z0:=du e0;have x0:=bq e0;have hb0:Row w0 w [p.1,p.2] Qc:=Row.nw e0;refine (q6 s l 8192 w0 (RdK.ext hs x0) hn (by unfold inI;omega)).mono ?_;rintro e w1 ⟨rfl,x1⟩;have z1:=x1.size;have zd:=lW w1;refine ⟨_,rfl,x1.heap aa,Br.mk (λhb=> ?_) (λhb=> ?_)⟩
 ·have hf:jv aY l 8192=false:=by simpa using hb
  exact ⟨.inr ⟨hf,rfl⟩,x0.tr x1⟩
 ·have ht:jv aY l 8192=true:=by simpa using hb
  obtain ⟨i1,i2,i3⟩:=tA ht;have xd:=(x0.tr x1).drew;have fin:∀{w3 w5:World} {s4:Sl},Ext w1.drew w3->lS w1.drew.heap.size w3 s4 l->w5=w3.alloc (.cells #[p.1,p.2,s4] rL)->Tz w p l (.returned (.tuple #[w3,af])) w5/\Ext w w5:=λ{w3 w5 s4} x3 ho e5=>by have x5:=bq e5;have z3:=x3.size;refine ⟨.inl ⟨ht,_,s4,rfl,⟨by rw [e5];exact Row.new w3 [_,_,_] _,?_,by omega,i2⟩,by omega,λb hb=>by have:=(ho.own.lt hb).1;omega⟩,xd.tr (x3.tr x5)⟩;rw [i1];exact (ak.low ho (fm _)).ext x5
  refine ⟨(jU s l w1.drew (RdK.ext hs xd) hn).mono ?_,(jU s l w1.drew (RdK.ext hs xd) hn).mono ?_⟩
  ·rintro e w3 ⟨s4,rfl,ho,x3⟩;exact ⟨s4,rfl,x3.heap aa,λw5 e5=>fin x3 ho e5⟩
  ·rintro e w3 ⟨s4,rfl,ho,x3⟩;exact ⟨s4,rfl,x3.heap aa,((hb0.ext x1.drew).ext x3).bk (λj hj=>by rw [cO]),λw5 e5=>fin x3 ho e5⟩
def Wp(w:World)(p:Po)(b:List Int)(e:Ending)(w':World):Prop:=
 ((cJ aY b 8192).2=0/\∃g sg,e=Value.tuple #[.pointer (bu g),af]/\BH w' g sg p (aW (cJ aY b 8192).1)/\w.heap.size<=g/\cK (aW (cJ aY b 8192).1)=(cJ aY b 8192).1/\∀b,sg.bg=some b->w.heap.size<=b)\/
 ((cJ aY b 8192).2≠0/\e=Value.tuple #[.pointer none,.int .i64 (cJ aY b 8192).2])
def NY(p:Po)(s:Sl)(b:List Int)(w:World)(hs:eU w s b)(hb:UL b)(hc:s.n<=s.c)(hl:b.length<=1099511627776):ah 74 #[pv p,s] w λe w'=>Wp w p b e w'/\Ext w w':=by
 apply Kd.vc;intro w0 e0;have z0:=du e0;have x0:=bq e0;refine (AM s b 8192 w0 (RdK.ext hs x0) hb hc hl aE (by unfold inI;omega)).mono ?_;rintro e w1 ⟨⟨s2,rfl,ho⟩,x1⟩;have z1:=x1.size;have dY:=O8 (may:=aY) b 8192;have hag:=pH (b:=b) (n:=8192) hb aE;refine ⟨s2,_,rfl,x1.heap aa,Br.mk (λdI=> ?_) (λdI=> ?_)⟩
 ·exact ⟨.inr ⟨by simpa using dI,rfl⟩,x0.tr x1⟩
 ·have h0:=kB dI;obtain ⟨f1,f2,f3⟩:=hag h0;have hm:jv aY (cJ aY b 8192).1 8192=true:=by have:=f2.jv aa;rw [f3] at this;exact this
  refine (zQ p s2 _ w1 (lS.rA ho) (by show _<=_;omega)).mono ?_;rintro e w4 ⟨hr,x4⟩;rcases hr with ⟨-,g,sg,rfl,hk,hg,hgb⟩|⟨hf,-⟩
  ·exact ⟨_,_,rfl,x4.heap aa,.inl ⟨h0,g,sg,rfl,hk,by omega,(tA hm).1,λb hb=>by have:=hgb b hb;omega⟩,x0.tr (x1.tr x4)⟩
  ·rw [hm] at hf;cases hf
end Go.Proofs.YtalpkjfpmdpbiaaGreatDoor
namespace Go.Proofs.YtalpkjfpmdpbiaaGreatDoor
open Go Go.Vc Go.RowKit Go.Proofs Go.dQ Go.bf Go.Code
def qq{C:List Int}(hl:C.length=8192)(hm:∀b ∈ C,aY b=true):okW aY (cK C)=true/\cK C≠ []/\gI aY (-1) (cK C)/\ba (cK C)=8192:=by
 have hs:ba (cK C)=8192:=by rw [iu,hl];rfl
 have dI:cK C≠ []:=by
  intro e;rw [e] at hs
  cases hs
 have hc:∀r ∈ cK C,aY r.2=true:=λr hr=>by refine hm _ ?_;have:=N5 hr (iH hr).1;rwa [iX] at this
 refine ⟨Zd (zL C) hc aa dI,dI,?_,hs⟩;refine gI.of (λr hr=> ?_) (zL C).next (λr hr=> ?_)
 ·have h1:=iH hr;have h2:=hc r hr;have h3:=h2;unfold aY at h3;simp only [gy,bB] at h3;exact ⟨h1.1,by omega,by omega,by omega,h2⟩
 ·have h2:=hc r (List.mem_of_mem_head? hr);unfold aY at h2;simp only [gy,bB] at h2;omega
def CO{C:List Int}(hl:C.length=8192)(hm:∀b ∈ C,aY b=true):∀r ∈ cK C,inI r.1/\inI r.2:=N6 (qq hl hm).2.2.1
def JW{w:World}{g:Nat}{s:Sl}{p:Po}{C:List Int}(h:BH w g s p C):ah 152 #[g] w λe w'=>∃s':Sl,e=s'/\iM w w' s' (ku (cK C))/\Ext w w':=by apply tf.vc;have dY:=j1 C;have hl:=h.len;refine ⟨s,h.row.at 2 rfl,(xu s (cK C) w (lS.rA h.own) aa (CO h.len h.may)).mono ?_⟩;rintro e w1 ⟨⟨s2,rfl,ho⟩,x1⟩;rw [if_pos (qq h.len h.may).1] at ho;exact ⟨s2,_,rfl,s2,rfl,ho,x1⟩
end Go.Proofs.YtalpkjfpmdpbiaaGreatDoor
