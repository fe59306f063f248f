import Derived.Test.YtkkkfkopcfdmaaaGreatDoorD
import Derived.Test.YtkkkfkopcfdmaaaGreatDoorC
set_option linter.all false
namespace Go.Proofs.YtkkkfkopcfdmaaaGreatDoor
open Go Go.Vc Go.RowKit Go.Proofs Go.dK
abbrev pv (p:Po):Value:=.agg #[p.1,p.2]
abbrev ea (c:Ce):Value:=.agg #[c.1,c.2.1,c.2.2]
abbrev pr:TypeId:=41
abbrev Wx:TypeId:=40
theorem ud (a b:Int) (ha:bS a) (hb:0<b) (w:World):ah 192 #[a,b] w λe w'=>e=Value.int .i64 (a / b)/\w'=w:=by
 apply Xq.vc;obtain ⟨h1,h2,h3,h4⟩:=tdm (a:=a) hb;have hq:=RD ha hb;have ht:=RE ha hb;refine Br.mk (λh=> ?_) (λ_=>bA.2 ⟨qx.2 aa,bA.2 ⟨qx.2 aa,Br.mk (λh=> ?_) (λh=> ?_)⟩⟩)
 ·simp only [cS] at h;omega
 ·replace h:=lY h;rw [aK ht,<-(h1 h).1,aK hq];exact ⟨rfl,rfl⟩
 ·replace h:=mg h;rw [aK ht,<-(h2 aa).1];exact ⟨rfl,rfl⟩
theorem ue (a b:Int) (hb:0<b) (hb':b<=1000000) (w:World):ah 282 #[a,b] w λe w'=>e=Value.int .i64 (a % b)/\w'=w:=by
 apply Xs.vc;obtain ⟨h1,h2,h3,h4⟩:=tdm (a:=a) hb;refine Br.mk (λh=> ?_) (λ_=>bA.2 ⟨qx.2 aa,Br.mk (λh=> ?_) (λh=> ?_)⟩)
 ·simp only [cS] at h;omega
 ·replace h:=lY h;rw [wI,<-(h1 h).2];exact ⟨rfl,rfl⟩
 ·replace h:=mg h;rw [<-(h2 aa).2];exact ⟨rfl,rfl⟩
theorem Dd (a b:Int) (ha:bS a) (hb:0<b) (w:World):ah 86 #[a,b] w λe w'=>e=Value.int .i64 (a / b)/\w'=w:=by
 apply To.vc;obtain ⟨h1,h2,h3,h4⟩:=tdm (a:=a) hb;have hq:=RD ha hb;have ht:=RE ha hb;have hm:b*a.tdiv b+a.tmod b=a:=Int.mul_tdiv_add_tmod a b;have hsg:(0<=a->0<=a.tmod b)/\(a<=0->a.tmod b<=0):=by refine ⟨λh=>Int.tmod_nonneg b h,λh=> ?_⟩;have:=Int.tmod_nonneg (a:= -a) b aa;rw [Int.neg_tmod] at this;omega
 have ajM:a.tdiv b*b=a-a.tmod b:=by rw [Int.mul_comm];omega
 have mW:bS (a.tdiv b*b):=by
  rw [ajM];unfold bS at*;rcases Int.lt_or_le a 0 with h|h
  ·have:=hsg.2 aa;have:=(tdm (a:=a) hb);have hle:a-a.tmod b<=0:=by
    rcases Int.lt_or_le 0 (a-a.tmod b) with h5|h5
    ·exfalso;rw [<-ajM] at h5;have h6:a.tdiv b<=0:=by have:=Int.tdiv_nonneg (a:= -a) (b:=b) aa aa;rw [Int.neg_tdiv] at this;omega
     have:=Int.mul_nonpos_of_nonpos_of_nonneg h6 (by omega:0<=b);omega
    ·exact h5
   omega
  ·have:=hsg.1 h;have h6:0<=a.tdiv b:=Int.tdiv_nonneg h aa;have:=Int.mul_nonneg h6 (by omega:0<=b);omega
 rw [aK ht,aK mW];refine bA.2 ⟨qx.2 aa,Br.mk (λh=> ?_) (λh=> ?_)⟩
 ·simp only [cS,gt_iff_lt] at h;rw [<-(h1 aa).1,aK hq];exact ⟨rfl,rfl⟩
 ·simp only [eW,gt_iff_lt] at h;rw [<-(h2 aa).1];exact ⟨rfl,rfl⟩
def oM (c:Ce):Prop:=bS c.1/\bS c.2.1/\bS c.2.2
theorem AT (c:Ce) (w:World):ah 255 #[ea c] w λe w'=>(∃i b,e=Value.tuple #[.int .i64 i,.bool b]/\((b=true/\KC c/\i=idx c)\/(b=false/\¬KC c/\i=0)))/\Ext w w':=by
 apply Oq.vc;intro w0 e0;have x0:=aL e0;have hb:Row w0 w [c.1,c.2.1,c.2.2] pr:=Row.nw e0;have uR:=hb.ext (Ext.dr w0);refine Br.mk (λh=> ?_) (λh=>Br.mk (λh2=> ?_) (λh2=> ?_))<;>simp only [cS,eW] at*
 ·exact ⟨⟨_,_,rfl,.inr ⟨rfl,by unfold KC;omega,rfl⟩⟩,x0⟩
 ·exact ⟨⟨_,_,rfl,.inr ⟨rfl,by unfold KC;omega,rfl⟩⟩,x0⟩
 ·refine (ue c.2.2 16 aE aE w0.drew).mono ?_;rintro e w1 ⟨rfl,rfl⟩;refine ⟨_,rfl,rfl,uR.bY (λj hj=>by simp at hj;subst hj;rfl),uR.bY (λj hj=>by simp at hj;subst hj;rfl),(ue c.1 16 aE aE _).mono ?_⟩;rintro e w1 ⟨rfl,rfl⟩;have e1:aj (c.2.1*16)=c.2.1*16:=wI;have e2:aj (c.2.1*16+c.2.2 % 16)=c.2.1*16+c.2.2 % 16:=wI;have e3:aj ((c.2.1*16+c.2.2 % 16)*16)=(c.2.1*16+c.2.2 % 16)*16:=wI;have e4:aj ((c.2.1*16+c.2.2 % 16)*16+c.1 % 16)=idx c:=wI;refine ⟨_,rfl,rfl,uR.bY (λj hj=>by simp at hj;subst hj;rfl),?_,x0.drew⟩;rw [e1,e2,e3,e4];exact ⟨_,_,rfl,.inl ⟨rfl,by unfold KC;omega,rfl⟩⟩
theorem oN (c:Ce) (hc:oM c) (w:World):ah 139 #[ea c] w λe w'=>e=(pv (pos c))/\Ext w w':=by apply Ot.vc;intro w0 e0 w1 e1;have x1:Ext w w1.drew:=((aL e0).bB e1).drew;have z0:=eN e0;have hb:Row w1.drew w [c.1,c.2.1,c.2.2] pr:=((by rw [e0];exact Row.new w [_,_,_] _:Row w0 w [c.1,c.2.1,c.2.2] pr).ext (aL e1)).ext (Ext.dr _);refine (ud c.1 16 hc.1 aE w1.drew).mono ?_;rintro e w2 ⟨rfl,rfl⟩;refine ⟨_,rfl,rfl,rfl,hb.bY (λj hj=>by simp at hj;subst hj;rfl),(ud c.2.2 16 hc.2.2 aE _).mono ?_⟩;rintro e w2 ⟨rfl,rfl⟩;refine ⟨_,rfl,rfl,rfl,λw6 e6=>⟨rfl,x1.af e6 aa⟩⟩
def Tk (p:Po):Prop:=(-1099511627776<=p.1/\p.1<=1099511627776)/\(-1099511627776<=p.2/\p.2<=1099511627776)
theorem Ou (p:Po) (hp:Tk p) (i:Int) (hi:0<=i/\i<8192) (w:World):ah 249 #[pv p,i] w λe w'=>e=Value.tuple #[ea (cellAt p i),true]/\Ext w w':=by apply Tp.vc;obtain ⟨⟨p1,p2⟩,p3,p4⟩:=hp;intro w0 e0 w1 e1;have z0:=eN e0;have x1:Ext w w1:=(aL e0).bB e1;have t1:Int.tmod i 16=i % 16:=Int.tmod_eq_emod_of_nonneg hi.1;have t2:Int.tdiv i 256=i / 256:=pK hi.1;have t3:Int.tdiv i 16=i / 16:=pK hi.1;have t4:Int.tmod (i / 16) 16=i / 16 % 16:=Int.tmod_eq_emod_of_nonneg aa;have w1':aj (i / 16)=i / 16:=wI;have w2':aj (i / 256)=i / 256:=wI;have w3':aj (p.1*16)=p.1*16:=wI;have w4':aj (p.2*16)=p.2*16:=wI;have w5':aj (p.1*16+i % 16)=p.1*16+i % 16:=wI;have w6':aj (p.2*16+i / 16 % 16)=p.2*16+i / 16 % 16:=wI;rw [t1,t2,t3,w1',w2',w3',w4',t4,w5',w6'];refine Br.mk (λh=> ?_) (λ_=>Br.mk (λh=> ?_) (λ_ w4 e4=>⟨rfl,x1.af e4 aa⟩))<;>simp only [cS] at h<;>omega
theorem Pa (s x z:Int) (w:World):ah 284 #[s,x,z] w λe w'=>e=Value.int .u64 (hash s x z)/\w'=w:=by apply Xy.vc;rw [aoh,aoi];exact ⟨rfl,rfl⟩
theorem abZ (s x z:Int):aj (Int.tmod (hash s x z) 9)=gF s x z:=by rw [Int.tmod_eq_emod_of_nonneg (ab0 s x z)];exact wI
theorem mQ (s x z zE:Int) (hn:0<=zE/\zE<=64) {b:Nat} {w:World} (hb:Row w b [s] IC):ah 283 #[x,z,zE,b] w λe w'=>e=Value.int .i64 (gF s x z*zE)/\w'=w:=by apply ID.vc;refine ⟨s,by rw [hb.ld];rfl,(Pa s x z w).mono ?_⟩;rintro e w1 ⟨rfl,rfl⟩;refine ⟨_,rfl,?_⟩;rw [abZ];have hc:=iR s x z;have h1:0<=gF s x z*zE:=Int.mul_nonneg hc.1 hn.1;have h2:gF s x z*zE<=8*64:=Int.mul_le_mul hc.2 hn.2 hn.1 aE;rw [wI];exact ⟨rfl,rfl⟩
theorem IE (s x z:Int) (hx:bS x) (hz:bS z) (w:World):ah 250 #[s,x,z] w λe w'=>e=Value.int .i64 (ground s x z)/\Ext w w':=by
 apply Pb.vc;intro w0 e0;have x0:=aL e0;have hb:Row w0 w [s] IC:=Row.nw e0;refine (ud x 8 hx aE w0).mono ?_;rintro e w1 ⟨rfl,rfl⟩;refine ⟨_,rfl,rfl,(ud z 8 hz aE w1).mono ?_⟩;rintro e w1 ⟨rfl,rfl⟩;refine ⟨_,rfl,rfl,(ue x 8 aE aE w1).mono ?_⟩;rintro e w1 ⟨rfl,rfl⟩;refine ⟨_,rfl,rfl,(ue z 8 aE aE w1).mono ?_⟩;rintro e w1 ⟨rfl,rfl⟩;refine ⟨_,rfl,rfl,?_⟩;have hdx:bS (x / 8+1):=by unfold bS at*;omega
 have hdz:bS (z / 8+1):=by unfold bS at*;omega
 have a:=tq (iR s (x / 8) (z / 8)) (u:=8-x % 8) (v:=8-z % 8) aa aa;have b:=tq (iR s (x / 8+1) (z / 8)) (u:=x % 8) (v:=8-z % 8) aa aa;have c:=tq (iR s (x / 8) (z / 8+1)) (u:=8-x % 8) (v:=z % 8) aa aa;have d:=tq (iR s (x / 8+1) (z / 8+1)) (u:=x % 8) (v:=z % 8) aa aa;have q1:aj (8-x % 8)=8-x % 8:=wI;have q2:aj (8-z % 8)=8-z % 8:=wI;rw [q1,q2,aK hdx,aK hdz,aK (n:=(8-x % 8)*(8-z % 8)) (by unfold bS;omega),aK (n:=x % 8*(8-z % 8)) (by unfold bS;omega),aK (n:=(8-x % 8)*(z % 8)) (by unfold bS;omega),aK (n:=x % 8*(z % 8)) (by unfold bS;omega)];refine (mQ s _ _ _ ⟨a.1,a.2.1⟩ hb).mono ?_;rintro e w1 ⟨rfl,rfl⟩;refine ⟨_,rfl,(mQ s _ _ _ ⟨b.1,b.2.1⟩ hb).mono ?_⟩;rintro e w1 ⟨rfl,rfl⟩;refine ⟨_,rfl,(mQ s _ _ _ ⟨c.1,c.2.1⟩ hb).mono ?_⟩;rintro e w1 ⟨rfl,rfl⟩;refine ⟨_,rfl,(mQ s _ _ _ ⟨d.1,d.2.1⟩ hb).mono ?_⟩;rintro e w1 ⟨rfl,rfl⟩;refine ⟨_,rfl,?_,x0⟩;have hg:=Hf s x z;have e1:ground s x z=6+(gF s (x / 8) (z / 8)*((8-x % 8)*(8-z % 8))+gF s (x / 8+1) (z / 8)*(x % 8*(8-z % 8))+gF s (x / 8) (z / 8+1)*((8-x % 8)*(z % 8))+gF s (x / 8+1) (z / 8+1)*(x % 8*(z % 8))) / 64:=rfl;generalize gF s (x / 8) (z / 8)*((8-x % 8)*(8-z % 8))=A at*;generalize gF s (x / 8+1) (z / 8)*(x % 8*(8-z % 8))=B at*;generalize gF s (x / 8) (z / 8+1)*((8-x % 8)*(z % 8))=C at*;generalize gF s (x / 8+1) (z / 8+1)*(x % 8*(z % 8))=D at*;rw [aK (n:=A+B) (by unfold bS;omega),aK (n:=A+B+C) (by unfold bS;omega),aK (n:=A+B+C+D) (by unfold bS;omega),pK aa,aK (n:=(A+B+C+D) / 64) (by unfold bS;omega),<-e1,wI]
theorem Xz (y g:Int) (hg:6<=g/\g<=100) (w:World):ah 251 #[y,g] w λe w'=>e=Value.int .i64 (Pc y g)/\w'=w:=by
 apply afx.vc;have q1:aj (g-3)=g-3:=wI;have q2:aj (g-1)=g-1:=wI;rw [q1,q2];have fin:∀{v:Int},Pc y g=v->(Ending.returned v=Value.int .i64 (Pc y g)/\w=w):=λh=>⟨by rw [h],rfl⟩
 refine Br.mk (λh1=>fin ?_) (λh1=>Br.mk (λh2=>fin ?_) (λh2=>Br.mk (λh3=>fin ?_) (λh3=>Br.mk (λh4=>fin ?_) (λh4=>Br.mk (λh5=>fin ?_) (λh5=>Br.mk (λh6=>Br.mk (λh7=>fin ?_) (λh7=>Br.mk (λh8=>fin ?_) (λh8=>Br.mk (λh9=>fin ?_) (λh9=>fin ?_)))) (λh6=>Br.mk (λh8=>fin ?_) (λh8=>Br.mk (λh9=>fin ?_) (λh9=>fin ?_))))))))
 all_goals simp only [cS,eW,beq_iff_eq,beq_eq_false_iff_ne,ne_eq] at*
 all_goals unfold Pc
 all_goals (repeat' split)<;>omega
open Go.bf
theorem Yz (ar:Int) (p:Po) {k:Nat} (hk:k<8192):(made ar p)[k]? =some (Pc (cellAt p k).2.1 (ground ar (cellAt p k).1 (cellAt p k).2.2)):=by unfold made;rw [aS,List.getElem?_range hk];rfl
theorem afW {p:Po} (hp:Tk p) (i:Int) (hi:0<=i/\i<8192):oM (cellAt p i):=by obtain ⟨⟨p1,p2⟩,p3,p4⟩:=hp;unfold oM cellAt bS;simp only;omega
def Vj (ar:Int) (p:Po) (k:Nat):LV:=(List.range 256).map λi:Nat=> .int .i64 (if i<k then ground ar (cellAt p i).1 (cellAt p i).2.2 else 0)
theorem yq (ar:Int) (p:Po) (k:Nat):(Vj ar p k).length=256:=by simp [Vj]
theorem Cw (ar:Int) (p:Po) (k:Nat) {i:Nat} (hi:i<256):(Vj ar p k)[i]? =some (.int .i64 (if i<k then ground ar (cellAt p i).1 (cellAt p i).2.2 else 0)):=by unfold Vj;rw [aS,List.getElem?_range hi];rfl
theorem acQ (ar:Int) (p:Po) {k:Nat} (hk:k<256):(Vj ar p k).set k (.int .i64 (ground ar (cellAt p k).1 (cellAt p k).2.2))=Vj ar p (k+1):=by
 apply iX;intro i;rw [kG];rcases Nat.lt_or_ge i 256 with h|h
 ·rw [Cw _ _ (k+1) h];split
  ·rename_i e;subst e;rw [if_pos (by rw [yq];exact h),if_pos aa]
  ·rename_i e;rw [Cw _ _ k h];congr 3;exact propext ⟨λh=>by omega,λh=>by omega⟩
 ·rw [jt (by rw [yq];exact h),jt (by rw [yq];exact h),if_neg aa]
theorem Zi (ar:Int) (p:Po):Vj ar p 0=List.replicate 256 (.int .i64 0):=by
 apply List.ext_getElem?;intro i;rcases Nat.lt_or_ge i 256 with h|h
 ·rw [Cw _ _ 0 h,List.getElem?_replicate,if_pos h,if_neg (by omega)]
 ·rw [List.getElem?_eq_none (by rw [yq];exact h),List.getElem?_eq_none (by rw [List.length_replicate];exact h)]
def Dl (ar:Int) (p:Po):List (LV):=(made ar p).map λb=> [.int .i64 b]
theorem Hd (ar:Int) (p:Po):(Dl ar p).length=8192:=by unfold Dl;rw [aM,pM]
theorem acR (ar:Int) (p:Po) {k:Nat} (hk:k<8192):(made ar p)[k]? =some (Pc ((k:Int) / 256) (ground ar (cellAt p ((k % 256:Nat):Int)).1 (cellAt p ((k % 256:Nat):Int)).2.2)):=by
 rw [Yz ar p hk];have e1:(cellAt p ((k % 256:Nat):Int)).1=(cellAt p k).1:=by unfold cellAt;simp only;omega
 have e2:(cellAt p ((k % 256:Nat):Int)).2.2=(cellAt p k).2.2:=by unfold cellAt;simp only;omega
 rw [e1,e2];rfl
abbrev RI (bp bs:Nat):Nat->Prop:=λi=>i=bp\/i=bs
abbrev aer (bp bs:Nat):Value:=.func (.func 248) #[] #[bp,bs]
attribute [local irreducible] made Vj in
set_option maxRecDepth 100000 in
theorem Dn (ar:Int) (p:Po) (hp:Tk p) (bp bs:Nat) (W0:World) (hbp:Row W0 bp [p.1,p.2] Wx) (hbs:Row W0 bs [ar] IC):
  Iter Tryz.prog (aer bp bs) W0 (RI bp bs) (Dl ar p):=by
 refine ⟨⟨_,_,_,rfl,by kernel_rfl⟩,?_⟩;intro y B J Jx F0 W hB hsJ hsX uR hRd hround h0;refine cU (by kernel_rfl) (by rfl) ?_;apply Lc.vc;have same:∀{w:World} {F:Nat->Prop},(∀i,RI bp bs i->¬F i/\i<w.heap.size/\w.heap[i]? =W0.heap[i]?)->Row w bp [p.1,p.2] Wx/\Row w bs [ar] IC:=λ{w F} h=>
  ⟨hbp.same (h bp (.inl rfl)).2.2,hbs.same (h bs (.inr rfl)).2.2⟩
 intro w0 e0;have x0:Ext W w0:=(Ext.cQ W).bB e0;have z0:=eN e0;have hg0:Row w0 W.heap.size (Vj ar p 0) 311:=by rw [e0,Zi];exact Row.new W (List.replicate 256 (0:Int)) _
 clear e0;have hF0:=uR _ _ _ h0;have bel:∀{w:World},Ext W w->J 0 F0 w/\∀i,RI bp bs i->¬F0 i/\i<w.heap.size/\w.heap[i]? =W0.heap[i]? :=λ{w} x=>
  ⟨hsJ _ _ _ _ h0 (Below.mono x hB) λi hi=>x.heap (hF0 i hi),λi hi=>by obtain ⟨h1,h2,h3⟩:=hRd i hi;exact ⟨h1,by have:=x.size;omega,(x.heap h2).trans h3⟩⟩
 refine ⟨λn x wr=>Ext W wr/\W.heap.size<wr.heap.size/\∃k:Nat,x=k/\k+n=256/\Row wr W.heap.size (Vj ar p k) 311,⟨256,x0,by omega,0,rfl,by omega,hg0⟩,?_⟩;rintro n us x wr ⟨xr,zr,k,rfl,hk,hg⟩;refine Br.mk (λhc=> ?_) (λhc=> ?_)
 ·replace hc:=lY hc;obtain ⟨GP,jU⟩:=same (bel xr).2;refine ⟨p.1,p.2,GP.bY (λj hj=>by rw [Nat.zero_add]),(Ou p hp k (by omega) wr).mono ?_⟩;rintro e w9 ⟨rfl,x9⟩;refine ⟨_,_,_,_,rfl,?_⟩;intro bK uy dY oE;have cm:Ext w9 dY:=((Ext.cQ _).bB uy).af oE (Nat.le_refl _);have z15:dY.heap.size=w9.heap.size+1:=by rw [oE,setRow_size,uy];simp
  have z9:=x9.size;have ar0:=jU.ext (x9.tr cm);refine ⟨ar,by rw [ar0.ld];rfl,?_⟩;have bk:=afW hp k ⟨by omega,by omega⟩;refine (IE ar _ _ bk.1 bk.2.2 dY).mono ?_;rintro e cE ⟨rfl,cT⟩;have z17:=cT.size;have ar1:=hg.ext ((x9.tr cm).tr cT);have MO:((k:Int).toNat*1)=k:=by omega
  rw [MO];obtain ⟨p1,p2⟩:=ar1.je (j:=k) (v:=.int .i64 (ground ar (cellAt p k).1 (cellAt p k).2.2)) (by rw [yq];omega) rfl;refine ⟨_,rfl,cT.k,by omega,by omega,⟨rfl,p1⟩,?_,λfy e19=> ?_⟩
  ·rw [cY];intro e;have:W.heap.size=w9.heap.size:=by simpa [bC] using e
   omega
  ·obtain ⟨q1,q2⟩:=p2 fy e19;have SX:IntKind.wrap .i64 ((k:Int)+1)=((k+1:Nat):Int):=by rw [wI];omega
   have ar2:aR (Vj ar p k) k [.int .i64 (ground ar (cellAt p k).1 (cellAt p k).2.2)]=Vj ar p (k+1):=by rw [<-acQ ar p (by omega)];rfl
   rw [ar2] at q1;exact ⟨n-1,by omega,q2.ext (xr.tr ((x9.tr cm).tr cT)) (λi hi=>by omega),by have:=q2.size;omega,k+1,SX,by omega,q1⟩
 ·replace hc:=mg hc;have alW:k=256:=by omega
  subst alW;obtain ⟨hJr,hKr⟩:=bel xr;refine ⟨λn x wr=>∃(k:Nat) (F:Nat->Prop),x=k/\k+n=8192/\B<=wr.heap.size/\W.heap.size<wr.heap.size/\¬F W.heap.size/\J k F wr/\Row wr W.heap.size (Vj ar p 256) 311,
   ⟨8192,0,F0,rfl,by omega,by omega,zr,λhf=>by have:=hF0 _ hf;omega,hJr,hg⟩,?_⟩
  rintro n us x wq ⟨k,F,rfl,hk,hBq,hzq,hnF,hJq,hgq⟩;refine Br.mk (λhc=> ?_) (λhc=> ?_)
  ·replace hc:=lY hc;have t1:Int.tmod (k:Int) 256=((k % 256:Nat):Int):=by rw [Int.tmod_eq_emod_of_nonneg (by omega)];omega
   have t2:IntKind.wrap .i64 (Int.tdiv (k:Int) 256)=(k:Int) / 256:=by rw [Int.tdiv_eq_ediv_of_nonneg (by omega),wI]
   rw [t1,t2];have MO:(((k % 256:Nat):Int).toNat*1)=k % 256:=by omega
   rw [MO];have eP:=Cw ar p 256 (i:=k % 256) (by omega);rw [if_pos (by omega)] at eP;refine ⟨by omega,by omega,_,hgq.at _ eP,(Xz _ _ (Hf _ _ _) wq).mono ?_⟩;rintro e eo ⟨rfl,rfl⟩;refine ⟨_,rfl,?_⟩;have hx:(Dl ar p)[k]? =some [.int .i64 (Pc ((k:Int) / 256) (ground ar (cellAt p ((k % 256:Nat):Int)).1 (cellAt p ((k % 256:Nat):Int)).2.2))]:=by unfold Dl;rw [List.getElem?_map,acR ar p (by omega)];rfl
   refine dq (hround _ _ _ _ hx hJq) ?_;have SX:IntKind.wrap .i64 ((k:Int)+1)=((k+1:Nat):Int):=by rw [wI];omega
   rintro e dH (⟨rfl,F2,Rk,gC⟩|⟨rfl,F2,Rk,gC⟩)
   ·refine ⟨true,rfl,Br.mk (λh=>by cases h) (λ_=>⟨n-1,by omega,k+1,F2,SX,by omega,by have:=gC.size;omega,by have:=gC.size;omega,λhf=> ?_,Rk,hgq.same (gC.same _ hzq hnF)⟩)⟩;rcases gC.sub _ hf with hf|hf
    ·exact hnF hf
    ·omega
   ·exact ⟨false,rfl,Br.mk (λ_=>⟨⟨_,rfl⟩,.inr ⟨F2,Rk⟩⟩) (λh=>by cases h)⟩
  ·replace hc:=mg hc;have ER:k=8192:=by omega
   subst ER;exact ⟨⟨_,rfl⟩,.inl ⟨F,by rw [Hd];exact hJq⟩⟩
theorem Dj (ar:Int) (p:Po) (w:World):ah 187 #[ar,pv p] w λe w'=>e=(aer (w.heap.size+1) w.heap.size)/\Row w' (w.heap.size+1) [p.1,p.2] Wx/\Row w' w [ar] IC/\Ext w w':=by apply TX.vc;intro w0 e0 w1 e1;have z0:=eN e0;have x1:=aL e1;have hb:Row w0 w [ar] IC:=Row.nw e0;refine ⟨by rw [z0],?_,hb.ext x1,(aL e0).tr x1⟩;rw [<-z0,e1];exact Row.new w0 [_,_] _
theorem Tt (s:Sl) (c:List Int) (w:World) (hs:OwC 0 w s c):ah 189 #[s] w λe w'=>(∃s':Sl,e=s'/\O3 w s' c)/\w'=w:=by
 apply Bz.vc;have hn:=O3.len hs.rdc;have VU:s.n<=s.c:=by
  rcases aC.form hs aE with ⟨h,-⟩|⟨g0,cs,ha,hg0,hr,hc,MQ,-⟩
  ·rw [h];exact aB _
  ·exact MQ
 have:=RdK.cut hs.rdc (m:=s.n) (c':=s.n) (c'':=s.n) (by rw [aM];omega);rw [fB (by rw [aM];omega)] at this;exact ⟨by omega,by omega,by omega,by omega,⟨⟨aJ s.a 0 s.n 1,s.n,s.n⟩,rfl,this⟩,rfl⟩
attribute [local irreducible] made in
set_option maxRecDepth 100000 in
theorem AX (ar:Int) (p:Po) (hp:Tk p) (w:World):ah 136 #[ar,pv p] w λe w'=>∃s':Sl,e=s'/\uY w w' s' (gK (made ar p))/\Ext w w':=by
 apply Tu.vc;intro w0 e0 w1 e1;have z0:=eN e0;have z1:w1.heap.size=w.heap.size+2:=by rw [e1];simp [z0]
 have jC:Ext w w1:=(aL e0).bB e1;refine (Dj ar p w1).mono ?_;rintro e w2 ⟨rfl,hbp,hbs,x2⟩;have gW:=hbp.lt;have xx:=jC.tr x2;have zz:=xx.size;refine ⟨_,rfl,x2.heap aa,x2.heap aa,?_⟩;refine ⟨Dl ar p,RI (w1.heap.size+1) w1.heap.size,λ_=>False,λn F s w'=>(∀i,F i ↔ s.aY=some i)/\OwC (w2.heap.size+2) w' s ((made ar p).take n)/\Ext w w'/\w2.heap.size+2<=w'.heap.size,λ_ _ _ _=>False,
  ?_,?_,λ_ _ _ _ _ h=>h.elim,?_,λ_ _ _ _ h=>h.elim,λi hi=>⟨by rcases hi with h|h<;>omega,id,by rcases hi with h|h<;>omega,by rcases hi with h|h<;>omega,trivial⟩,?_,?_,?_,trivial⟩
 ·intro x hx;obtain ⟨b,_,rfl⟩:=bg.1 hx;exact ⟨b,rfl⟩
 ·rintro n F s w3 w4 ⟨hF,ho,kF,hz⟩ hbl2 hsame;exact ⟨hF,aC.c9 ho λi hi=>hsame i ((hF i).2 hi),kF.trans (Below.mono hbl2 zz),by have:=hbl2.size;omega⟩
 ·rintro n F s w3 ⟨hF,ho,kF,hz⟩ i hi;have:=ho.own.lt ((hF i).1 hi);omega
 ·intro w3 wJ;have agD:Below w2 w2 w3:=wJ.ext;refine ⟨Dn ar p hp _ _ w3 (hbp.ext agD) (hbs.ext agD),rfl,?_,?_,xx.trans (Below.mono agD zz),by have:=wJ.size;omega⟩
  ·intro i;simp [Sl.aY]
  ·rw [AR];exact aC.nil
 ·rintro n F us o y w3 hx hI;have hy:(made ar p)[n]? =some y:=by
   unfold Dl at hx;rw [aS,Option.map_eq_some_iff] at hx;obtain ⟨b,hb,e⟩:=hx;have:b=y:=by simpa using e
   rw [<-this];exact hb
  refine ⟨Below.refl _ _,λw4 fN hI3=> ?_⟩;obtain ⟨hF,ho,kF,hz⟩:=hI3;intro w5 e5;have x5:=aL e5;have z5:=eN e5;have hnl:n<8192:=by have:=(cR.1 hy).1;rw [pM] at this;exact this
  have ZG:=O3.len ho.rdc;rw [dC,pM] at ZG;obtain ⟨hp1,bo⟩:=(aC.ext ho x5).append (bytes:=8) (news:=iv y) aa rfl (te _ _) aa aa;refine ⟨hp1,λs5 w6 hr=> ?_⟩;obtain ⟨ho5,hn5,xb,Nt,ij⟩:=bo s5 w6 hr;have WK:∀i,o.aY=some i->w2.heap.size+2<=i/\i<w4.heap.size:=λi hi=>ho.own.lt hi
  have hz6:=xb.size;refine ⟨Nt _ (λhb=>by have:=WK _ hb;omega) aa,Nt _ (λhb=>by have:=WK _ hb;omega) aa,Nt _ (λhb=>by have:=WK _ hb;omega) aa,?_⟩;intro w7 hw7;have e7:∀i,i≠w0.heap.size->w7.heap[i]? =w6.heap[i]? :=λi hi=>by rw [hw7];exact setRow_other _ _ _ _ hi
  have z7:w7.heap.size=w6.heap.size:=by rw [hw7,setRow_size]
  have hb5:∀i,s5.aY=some i->w2.heap.size+2<=i:=λi hi=>by
   rcases ij with h|h
   ·exact (WK i (by rw [<-h];exact hi)).1
   ·rw [h] at hi;simp at hi;omega
  refine ⟨λi=>s5.aY=some i,⟨rfl,λi=>Iff.rfl,?_,?_,by omega⟩,Step.late ⟨?_,by omega,?_⟩⟩
  ·have e:(made ar p).take (n+1)=(made ar p).take n++ [y]:=by rw [dE,hy];rfl
   rw [e];have h5:OwC (w2.heap.size+2) w6 s5 ((made ar p).take n++ [y]):=by show aC _ _ 1 _ _ (((made ar p).take n++ [y]).map iv);rw [bZ];exact ho5
   exact aC.c9 h5 λi hi=>e7 i (by have:=hb5 i hi;omega)
  ·have h5:Ext w w6:=(kF.tr x5).trans (Below.mono xb aa);rw [hw7];exact h5.setRow aa _
  ·rintro i (hi|hi)
   ·rcases ij with h|h
    ·exact .inl (.inl ((hF i).2 (by rw [<-h];exact hi)))
    ·rw [h] at hi;simp at hi;exact .inr aa
   ·exact .inl (.inr hi)
  ·intro i hi hni;have h1:i≠w0.heap.size:=λe=>hni (.inr (by simp [e]))
   rw [e7 i h1,Nt i (λhb=>hni (.inl ((hF i).2 hb))) aa];exact x5.heap hi
 ·rintro F us o w3 ⟨hF,ho,kF,hz⟩ hD;rw [Hd,fB (by rw [pM];exact aB _)] at ho;refine (Tt o (made ar p) w3 (aC.low ho (Nat.zero_le _))).mono ?_;rintro e w4 ⟨⟨s4,rfl,hs4⟩,rfl⟩;refine ⟨s4,rfl,rfl,rfl,(Ix s4 (made ar p) w4 hs4 (by rw [pM];decide)).mono ?_⟩;rintro e w5 ⟨s5,rfl,ho5,x5⟩;refine ⟨s5,rfl,x5.heap aa,x5.heap aa,(x5.heap aa).trans hD,λw6 fN=> ?_⟩;have hz5:=x5.size;have ho6:uY w w6 s5 (gK (made ar p)):=aC.low (aC.c9 ho5 λi hi=>fN.same i (by have:=(ho5.own.lt hi).1;omega)) aa;exact ⟨s5,rfl,ho6,(kF.tr x5).trans (Below.mono (fN.below (aB _)) aa)⟩
abbrev vU:TypeId:=175
structure Ga (w:World) (g:Nat) (s:Sl) (p:Po) (C:List Int):Prop where
 row:Row w g [p.1,p.2,s] vU
 own:uY 0 w s (gK C)
 len:C.length=8192
 may:∀b ∈ C,cX b=true
theorem Ga.c9 {w w':World} {g:Nat} {s:Sl} {p:Po} {C:List Int} (h:Ga w g s p C) {F:Nat->Prop} (hm:Mod F w w') (hg:¬F g) (hs:∀b,s.aY=some b->¬F b):Ga w' g s p C:=
 ⟨hm.row h.row hg,hm.fm h.own hs,h.len,h.may⟩
theorem Ga.ext {w w':World} {g:Nat} {s:Sl} {p:Po} {C:List Int} (h:Ga w g s p C) (x:Ext w w'):Ga w' g s p C:=⟨h.row.ext x,aC.ext h.own x,h.len,h.may⟩
theorem Ga.bd {w:World} {g:Nat} {s:Sl} {p:Po} {C:List Int} (h:Ga w g s p C):Bd C.length:=by rw [h.len];decide
def QB (p:Po) (c:Ce):Bool:=decide (0<=c.2.1) && decide (c.2.1<32) &&(pos c==p)
theorem Cu (p:Po) (c:Ce):QB p c=true ↔ KC c/\pos c=p:=by unfold QB KC;simp only [fq,cS,beq_iff_eq]
def kAt (p:Po) (C:List Int) (c:Ce):Int:=if QB p c then atC C (idx c) else 0
def sD (p:Po) (C:List Int) (c:Ce) (b:Int):List Int × Int:=if QB p c=false then (C,5) else if cX b=false then (C,1) else (C.set (idx c).toNat b,0)
theorem EH (p:Po) (c:Ce) (hc:oM c) (w:World):ah 193 #[pv p,ea c] w λe w'=>(∃i,e=Value.tuple #[.int .i64 i,.bool (QB p c)]/\(QB p c=true->i=idx c))/\Ext w w':=by
 apply xE.vc;intro w0 e0 w1 e1;have z0:=eN e0;have z1:w1.heap.size=w.heap.size+2:=by rw [e1];simp [z0]
 have x1:Ext w w1:=(aL e0).bB e1;have hb:Row w1 w [p.1,p.2] 172:=(by rw [e0];exact Row.new w [_,_] _:Row w0 w [p.1,p.2] 172).ext (aL e1);refine (AT c w1).mono ?_;rintro e w2 ⟨⟨i,b,rfl,hi⟩,x2⟩;have z2:=x2.size;refine ⟨i,b,rfl,x2.heap aa,x2.heap aa,Br.mk (λhbb=> ?_) (λhbb=> ?_)⟩
 ·rcases hi with ⟨-,hy,rfl⟩|⟨h,-⟩
  ·refine (oN c hc w2.drew).mono ?_;rintro e w5 ⟨rfl,x5⟩;refine ⟨_,_,rfl,x5.heap (show w.heap.size<w2 by omega),x5.heap (show w0.heap.size<w2 by omega),((hb.ext x2).ext (Ext.dr _)|>.ext x5).bY (λj hj=>by rw [eB]),?_,(x1.tr x2).tr ((Ext.dr _).tr x5)⟩;refine ⟨_,?_,λ_=>rfl⟩;have:QB p c=(((pos c).1==p.1) &&((pos c).2==p.2)):=by unfold QB;unfold KC at hy;rw [decide_eq_true hy.1,decide_eq_true hy.2];rfl
   rw [this]
  ·rw [h] at hbb;cases hbb
 ·rcases hi with ⟨h,-⟩|⟨-,hy,rfl⟩
  ·rw [h] at hbb;cases hbb
  ·have:QB p c=false:=by
    cases hk:QB p c with
    |false=>rfl
    |true=>exact absurd ((Cu p c).1 hk).1 hy
   rw [this];exact ⟨⟨_,rfl,λh=>by cases h⟩,(x1.tr x2).drew⟩
theorem acX (y g:Int):cX (Pc y g)=true:=by rcases Uy y g with h|h|h|h|h<;>rw [h]<;>decide+kernel
theorem Zv (ar:Int) (p:Po):∀b ∈ made ar p,cX b=true:=by intro b hb;unfold made at hb;obtain ⟨i,_,rfl⟩:=bg.1 hb;exact acX _ _
theorem PC (ar:Int) (p:Po) (hp:Tk p) (w:World):ah 78 #[ar,pv p] w λe w'=>∃g s,e=Value.pointer (some ⟨g,0,none⟩)/\Ga w' g s p (made ar p)/\Ext w w'/\w.heap.size<=g/\∀b,s.aY=some b->w.heap.size<=b:=by
 apply Px.vc;intro w0 e0;have x0:=aL e0;have z0:=eN e0;have hb:Row w0 w [p.1,p.2] Wx:=Row.nw e0;have fin:∀{w1 w3:World} {s:Sl},Ext w0.drew w1->uY w0.drew.heap.size w1 s (gK (made ar p))->w3=w1.alloc (.cells #[p.1,p.2,.slice s.a s.n s.c] vU)->Ga w3 w1 s p (made ar p)/\Ext w w3/\w.heap.size<=w1/\∀b,s.aY=some b->w.heap.size<=b:=λ{w1 w3 s} x1 ho e3=>by have x3:=aL e3;refine ⟨⟨by rw [e3];exact Row.new w1 [_,_,_] _,(aC.low ho (Nat.zero_le _)).ext x3,pM _ _,Zv _ _⟩,((x0.drew).tr x1).tr x3,(x0.drew.tr x1).size,λb hb=>fY x0.drew.size (ho.own.lt hb).1⟩
 refine ⟨(AX ar p hp w0.drew).mono ?_,(AX ar p hp w0.drew).mono ?_⟩
 ·rintro e w1 ⟨s,rfl,ho,x1⟩;refine ⟨s,rfl,x1.heap (show w.heap.size<w0 by omega),λw3 e3=>⟨_,s,rfl,fin x1 ho e3⟩⟩
 ·rintro e w1 ⟨s,rfl,ho,x1⟩;refine ⟨s,rfl,x1.heap (show w.heap.size<w0 by omega),((hb.ext (Ext.dr _)).ext x1).bY (λj hj=>by rw [eB]),λw3 e3=>⟨_,s,rfl,fin x1 ho e3⟩⟩
theorem Ga.pos {w:World} {g:Nat} {s:Sl} {p:Po} {C:List Int} (h:Ga w g s p C):ag w (ae (some ⟨g,0,none⟩) 0) 0 [p.1,p.2]:=by
 rw [bh];exact h.row.bY (λj hj=>by
  simp at hj;rcases j with _|_|j
  ·rfl
  ·rfl
  ·omega)
theorem VL {C:List Int} (h:C.length=8192):(∀r ∈ gK C,0<=r.1)/\bQ (gK C)<=1099511627776/\Bd (gK C).length:=by refine ⟨λr hr=>by have:=(mR hr).1;omega,by rw [lN,h];decide,?_⟩;have:=qJ C;show (gK C).length<=1099511627776;omega
theorem Ct {w:World} {g:Nat} {s:Sl} {p:Po} {C:List Int} (h:Ga w g s p C) (c:Ce) (hc:oM c):ah 140 #[g,ea c] w λe w'=>e=Value.tuple #[(kAt p C c),.bool (QB p c)]/\Ext w w':=by
 apply DD.vc;intro w0 e0;have x0:Ext w w0.drew:=(Ext.cQ w|>.bB e0).drew;have z0:=eN e0;have h0:=h.ext x0;refine ⟨p.1,p.2,h0.pos,(EH p c hc w0.drew).mono ?_⟩;rintro e w3 ⟨⟨i,rfl,hi⟩,x3⟩;have h3:=h0.ext x3;have z3:=x3.size;refine ⟨i,_,rfl,x3.heap (show w.heap.size<w0 by omega),Br.mk (λhb=> ?_) (λhb=> ?_)⟩
 ·have hf:QB p c=false:=by simpa using hb
  refine ⟨?_,x0.tr x3⟩;unfold kAt;rw [hf];rfl
 ·have hk:QB p c=true:=by simpa using hb
  have hie:=hi hk;subst hie;have iU:=Yr ((Cu p c).1 hk).1;obtain ⟨q1,q2,q3⟩:=VL h.len;refine ⟨s,h3.row.at 2 rfl,(Jw s (gK C) (idx c) w3 (uY.Fy h3.own) q3 q1 q2 (by unfold bS;omega)).mono ?_⟩;rintro e w7 ⟨rfl,x7⟩;refine ⟨_,rfl,x7.heap (j9 (show w.heap.size<w0 by omega) z3),?_,(x0.tr x3).tr x7⟩;rw [nk];unfold kAt;rw [hk];rfl
theorem ac6 {p:Po} {C:List Int} (hl:C.length=8192) (hm:∀b ∈ C,cX b=true) (c:Ce) (b:Int):(sD p C c b).1.length=8192/\∀x ∈(sD p C c b).1,cX x=true:=by
 unfold sD;split
 ·exact ⟨hl,hm⟩
 ·split
  ·exact ⟨hl,hm⟩
  ·rename_i h;refine ⟨by rw [ir];exact hl,λx hx=> ?_⟩;rcases kJ hx with h1|h1
   ·exact hm x h1
   ·subst h1;simpa using h
theorem Yk {w:World} {g:Nat} {s:Sl} {p:Po} {C:List Int} (h:Ga w g s p C) (c:Ce) (hc:oM c) (b:Int):
  ah 268 #[g,ea c,b] w λe w'=>e=Value.int .i64 (sD p C c b).2/\∃s',Ga w' g s' p (sD p C c b).1/\Mod (λi=>i=g) w w'/\(∀i,s'.aY=some i->s.aY=some i\/w.heap.size<=i):=by
 apply BJ.vc;intro w0 e0;have x0:Ext w w0.drew:=(Ext.cQ w|>.bB e0).drew;have z0:=eN e0;have hgl:=h.row.lt;have h0:=h.ext x0;refine ⟨p.1,p.2,h0.pos,(EH p c hc w0.drew).mono ?_⟩;rintro e w3 ⟨⟨i,rfl,hi⟩,x3⟩;have h3:=h0.ext x3;have z3:=x3.size;have z3':w.heap.size<w3:=j9 (show w.heap.size<w0 by omega) z3;refine ⟨i,_,rfl,x3.heap (show w.heap.size<w0 by omega),Br.mk (λhb=> ?_) (λhb=> ?_)⟩
 ·have hf:QB p c=false:=by simpa using hb
  have e:sD p C c b=(C,5):=by unfold sD;rw [if_pos hf]
  rw [e];exact ⟨rfl,s,h3,Mod.aD (x0.tr x3),λi hi=> .inl hi⟩
 ·have hk:QB p c=true:=by simpa using hb
  have hie:=hi hk;subst hie;have iU:=Yr ((Cu p c).1 hk).1;refine (gl b w3).mono ?_;rintro e w6 ⟨rfl,x6⟩;have h6:=h3.ext x6;have z6:=x6.size;refine ⟨_,rfl,x6.heap z3',Br.mk (λjU=> ?_) (λjU=> ?_)⟩
  ·have hf:cX b=false:=by simpa using jU
   have e:sD p C c b=(C,1):=by unfold sD;rw [if_neg (by simp [hk]),if_pos hf]
   rw [e];exact ⟨rfl,s,h6,Mod.aD ((x0.tr x3).tr x6),λi hi=> .inl hi⟩
  ·have hm:cX b=true:=by simpa using jU
   have e:sD p C c b=(C.set (idx c).toNat b,0):=by unfold sD;rw [if_neg (by simp [hk]),if_neg (by simp [hm])]
   refine ⟨s,h6.row.at 2 rfl,(Gm s C (idx c) b w6 (uY.Fy h6.own) h.bd (by unfold bS;omega)).mono ?_⟩;rintro e9 w9 ⟨wT,rfl,ho,x9⟩;have hs:Vy C (idx c) b=C.set (idx c).toNat b:=by unfold Vy;rw [if_pos ⟨hm,iU.1,by rw [h.len];omega⟩]
   rw [hs] at ho;obtain ⟨p1,p2⟩:=(h6.row.ext x9).je (j:=2) (v:=.slice wT.a wT.n wT.c) bt rfl;refine ⟨wT,rfl,x9.heap aa,⟨rfl,p1⟩,?_,λaW FA=> ?_⟩
   ·rw [cY];intro e;have:g=w.heap.size:=by simpa [bC] using e
    omega
   ·obtain ⟨q1,q2⟩:=p2 aW FA;have bk:=ac6 (p:=p) h.len h.may c b;rw [e] at bk ⊢;refine ⟨rfl,wT,⟨q1,q2.fm (aC.low ho (Nat.zero_le _)) λi hi hf=> ?_,bk.1,bk.2⟩,(Mod.aD (((x0.tr x3).tr x6).tr x9)).trans q2,λi hi=> .inr ?_⟩
    ·obtain ⟨cs,hr⟩:=bc ho aE hi;exact hr.ne (h6.row.ext x9) aE hf
    ·have:=(ho.own.lt hi).1;have:=(x0.tr x3).size;omega
theorem vB (p:Po) (w:World):ah 95 #[pv p] w λe w'=>e=(pv p)/\Ext w w':=by apply xD.vc;intro w0 e0 w1 e1 w2 e2;have z0:=eN e0;exact ⟨rfl,((aL e0).bB e1).af e2 aa⟩
open Go.Code
def ZD (w:World) (p:Po) (l:List Rn) (e:Ending) (w':World):Prop:=
 (qN cX l 8192=true/\∃g sg,e=Value.tuple #[.pointer (some ⟨g,0,none⟩),ab]/\Ga w' g sg p (cA l)/\w.heap.size<=g/\∀b,sg.aY=some b->w.heap.size<=b)\/
 (qN cX l 8192=false/\e=Value.tuple #[.pointer none,(1:Int)])
theorem DS (p:Po) (s:Sl) (l:List Rn) (w:World) (hs:kl w s l) (hn:Bd l.length):ah 135 #[pv p,s] w λe w'=>ZD w p l e w'/\Ext w w':=by
 apply TU.vc;intro w0 e0;have z0:=eN e0;have x0:=aL e0;have SR:Row w0 w [p.1,p.2] Wx:=Row.nw e0;refine (vj s l 8192 w0 (RdK.ext hs x0) hn (by unfold bS;omega)).mono ?_;rintro e w1 ⟨rfl,x1⟩;have z1:=x1.size;have zd:=lv w1;refine ⟨_,rfl,x1.heap aa,Br.mk (λhb=> ?_) (λhb=> ?_)⟩
 ·have hf:qN cX l 8192=false:=by simpa using hb
  exact ⟨.inr ⟨hf,rfl⟩,x0.tr x1⟩
 ·have ht:qN cX l 8192=true:=by simpa using hb
  obtain ⟨i1,i2,i3⟩:=Ma ht;have xd:=(x0.tr x1).drew;have fin:∀{w3 w5:World} {s4:Sl},Ext w1.drew w3->uY w1.drew.heap.size w3 s4 l->w5=w3.alloc (.cells #[p.1,p.2,s4] vU)->ZD w p l (.returned (.tuple #[w3,ab])) w5/\Ext w w5:=λ{w3 w5 s4} x3 ho e5=>by have x5:=aL e5;have z3:=x3.size;refine ⟨.inl ⟨ht,_,s4,rfl,⟨by rw [e5];exact Row.new w3 [_,_,_] _,?_,by omega,i2⟩,by omega,λb hb=>by have:=(ho.own.lt hb).1;omega⟩,xd.tr (x3.tr x5)⟩;rw [i1];exact (aC.low ho (Nat.zero_le _)).ext x5
  refine ⟨(kZ s l w1.drew (RdK.ext hs xd) hn).mono ?_,(kZ s l w1.drew (RdK.ext hs xd) hn).mono ?_⟩
  ·rintro e w3 ⟨s4,rfl,ho,x3⟩;exact ⟨s4,rfl,x3.heap aa,λw5 e5=>fin x3 ho e5⟩
  ·rintro e w3 ⟨s4,rfl,ho,x3⟩;exact ⟨s4,rfl,x3.heap aa,((SR.ext x1.drew).ext x3).bY (λj hj=>by rw [eB]),λw5 e5=>fin x3 ho e5⟩
def ac3 (w:World) (p:Po) (b:List Int) (e:Ending) (w':World):Prop:=
 ((iZ cX b 8192).2=0/\∃g sg,e=Value.tuple #[.pointer (some ⟨g,0,none⟩),ab]/\Ga w' g sg p (cA (iZ cX b 8192).1)/\w.heap.size<=g/\gK (cA (iZ cX b 8192).1)=(iZ cX b 8192).1/\∀b,sg.aY=some b->w.heap.size<=b)\/
 ((iZ cX b 8192).2≠0/\e=Value.tuple #[.pointer none,.int .i64 (iZ cX b 8192).2])
theorem Ua (p:Po) (s:Sl) (b:List Int) (w:World) (hs:gS w s b) (hb:Yp b) (hc:s.n<=s.c) (hl:b.length<=1099511627776):ah 77 #[pv p,s] w λe w'=>ac3 w p b e w'/\Ext w w':=by
 apply Pw.vc;intro w0 e0;have z0:=eN e0;have x0:=aL e0;refine (EG s b 8192 w0 (RdK.ext hs x0) hb hc hl aE (by unfold bS;omega)).mono ?_;rintro e w1 ⟨⟨s2,rfl,ho⟩,x1⟩;have z1:=x1.size;have dG:=Vv (may:=cX) b 8192;have hag:=MD (b:=b) (n:=8192) hb aE;refine ⟨s2,_,rfl,x1.heap aa,Br.mk (λjb=> ?_) (λjb=> ?_)⟩
 ·exact ⟨.inr ⟨by simpa using jb,rfl⟩,x0.tr x1⟩
 ·have h0:(iZ cX b 8192).2=0:=by simpa using jb
  obtain ⟨f1,f2,f3⟩:=hag h0;have hm:qN cX (iZ cX b 8192).1 8192=true:=by have:=f2.qN aa;rw [f3] at this;exact this
  refine (DS p s2 _ w1 (uY.Fy ho) (by show _<=_;omega)).mono ?_;rintro e w4 ⟨hr,x4⟩;rcases hr with ⟨-,g,sg,rfl,hk,hg,hgb⟩|⟨hf,-⟩
  ·exact ⟨_,_,rfl,x4.heap aa,.inl ⟨h0,g,sg,rfl,hk,by omega,(Ma hm).1,λb hb=>by have:=hgb b hb;omega⟩,x0.tr (x1.tr x4)⟩
  ·rw [hm] at hf;cases hf
theorem Hn {C:List Int} (hl:C.length=8192) (hm:∀b ∈ C,cX b=true):okW cX (gK C)=true/\gK C≠ []/\iF cX (-1) (gK C)/\bQ (gK C)=8192:=by
 have hs:bQ (gK C)=8192:=by rw [lN,hl];rfl
 have jb:gK C≠ []:=by
  intro e;rw [e] at hs
  cases hs
 have hc:∀r ∈ gK C,cX r.2=true:=λr hr=>by refine hm _ ?_;have:=Ui hr (mR hr).1;rwa [nk] at this
 refine ⟨afA (DM C) hc aa jb,jb,?_,hs⟩;refine iF.of (λr hr=> ?_) (DM C).next (λr hr=> ?_)
 ·have h1:=mR hr;have h2:=hc r hr;have h3:=h2;unfold cX at h3;simp only [fq,cS] at h3;exact ⟨h1.1,by omega,by omega,by omega,h2⟩
 ·have h2:=hc r (List.mem_of_mem_head? hr);unfold cX at h2;simp only [fq,cS] at h2;omega
theorem Uj {C:List Int} (hl:C.length=8192) (hm:∀b ∈ C,cX b=true):∀r ∈ gK C,bS r.1/\bS r.2:=Uk (Hn hl hm).2.2.1
theorem O2 {w:World} {g:Nat} {s:Sl} {p:Po} {C:List Int} (h:Ga w g s p C):ah 137 #[g] w λe w'=>∃s':Sl,e=s'/\mi w w' s' (qI (gK C))/\Ext w w':=by apply xF.vc;have dG:=qJ C;have hl:=h.len;refine ⟨s,h.row.at 2 rfl,(BP s (gK C) w (uY.Fy h.own) aa (Uj h.len h.may)).mono ?_⟩;rintro e w1 ⟨⟨s2,rfl,ho⟩,x1⟩;rw [if_pos (Hn h.len h.may).1] at ho;exact ⟨s2,_,rfl,s2,rfl,ho,x1⟩
abbrev tp:TypeId:=277
abbrev zX:TypeId:=217
abbrev zY:TypeId:=143
abbrev cC:TypeId:=150
abbrev XZ:TypeId:=137
theorem AV {a:Addr} {K:Prop} (h:K):aP (dB (some a)) K:=h
theorem RH (p:Po) (w:World):ah 72 #[pv p] w λe w'=>e=Value.tuple #[(Bw p),.bool (decide (sN p))]/\Ext w w':=by
 apply XT.vc;intro w0 e0;have x0:=aL e0;have no:¬sN p->Ending.returned (.tuple #[ab,false])=Ending.returned (.tuple #[(Bw p),.bool (decide (sN p))])/\Ext w w0:=λh=>⟨by rw [abT h,decide_eq_false h],x0⟩
 refine Br.mk (λh=>no ?_) (λh=>Br.mk (λh2=>no ?_) (λh2=>Br.mk (λh3=>no ?_) (λh3=>Br.mk (λh4=>no ?_) (λh4=> ?_))))<;>simp only [cS,eW] at*
 ·unfold sN;omega
 ·unfold sN;omega
 ·unfold sN;omega
 ·unfold sN;omega
 ·have mW:sN p:=by unfold sN;omega
  refine ⟨?_,x0⟩;rw [decide_eq_true mW,aK (n:=p.1+524288) (by unfold bS;omega),aK (n:=(p.1+524288)*2) (by unfold bS;omega),aK (n:=(p.1+524288)*2*524288) (by unfold bS;omega),aK (n:=(p.1+524288)*2*524288+p.2) (by unfold bS;omega),aK (n:=(p.1+524288)*2*524288+p.2+524288) (by unfold bS;omega),aK (n:=(p.1+524288)*2*524288+p.2+524288+1) (by unfold bS;omega)];unfold Bw;rw [if_pos mW,show (p.1+524288)*2*524288+p.2+524288+1=(p.1+524288)*1048576+(p.2+524288)+1 by omega]
def yW (p:Po):Po:=(cG p.1 5-2,cG p.2 5-2)
theorem S6 (p:Po) (hp:bS p.1/\bS p.2) (w:World):ah 51 #[pv p] w λe w'=>e=(pv (yW p))/\Ext w w':=by apply T6.vc;have h1:=cJ p.1 5 aE;have h2:=cJ p.2 5 aE;intro w0 e0 w1 e1;have z0:=eN e0;have x1:Ext w w1.drew:=((aL e0).bB e1).drew;have hb:Row w1.drew w [p.1,p.2] Wx:=((by rw [e0];exact Row.new w [_,_] _:Row w0 w [p.1,p.2] Wx).ext (aL e1)).ext (Ext.dr _);refine (gz p.1 5 w1.drew hp.1 aE (by unfold bS;omega)).mono ?_;rintro e w2 ⟨rfl,rfl⟩;refine ⟨_,rfl,rfl,rfl,hb.bY (λj hj=>by simp at hj;subst hj;rfl),(gz p.2 5 w1.drew hp.2 aE (by unfold bS;omega)).mono ?_⟩;rintro e w2 ⟨rfl,rfl⟩;refine ⟨_,rfl,rfl,rfl,λw6 e6=>⟨?_,x1.af e6 aa⟩⟩;have q1:aj (cG p.1 5-2)=cG p.1 5-2:=wI;have q2:aj (cG p.2 5-2)=cG p.2 5-2:=wI;rw [q1,q2];rfl
def GI (v:Value):Prop:=∃n:Int,v=.int .i64 n
theorem IX:iE Tryz.prog IC GI:=by
 refine ⟨?_,?_,?_⟩
 ·rintro x y ⟨a,rfl⟩ ⟨b,rfl⟩;refine ⟨a==b,by kernel_rfl,?_⟩;simp
 ·rintro x ⟨a,rfl⟩ b w;kernel_rfl
 ·rintro x ⟨a,rfl⟩;simp [Instr.sameBits]
theorem U0 {P:Program} {w:World} {r:Nat} {es:Array MapEntry} {clock:Nat} (t:TypeId) (hb:w.heap[r]? =some (.map es clock)):
  (Extern.MapsClone.clone #[.iface t (.map (some r))]).run P w=.ok (.iface t (.map (some w.heap.size))) (w.alloc (.map es clock)):=by
 have e:Extern.MapsClone.clone #[.iface t (.map (some r))]=(getObj r>>=λo=>match o with
   | .map entries clock=>(newObj (.map entries clock)>>=λn=>pure (.iface t (.map (some n))))
   |_=>stuck "maps.clone: a map expected"):=rfl
 rw [e];simp [nY hb,jL,Result.andThen,Sem.run_bind]
theorem DP {w:World} {r:Nat} {kvs:List (Value × Value)} (hm:cj GI w (some r) kvs):ah 272 #[.map (some r)] w λe w'=>e=Value.map (some w.heap.size)/\cj GI w' (some w.heap.size) kvs/\Ext w w':=by apply BL.vc;refine Br.mk (λh=>by cases h) (λ_=> ?_);obtain ⟨es,clock,hb,h2⟩:=hm;refine ⟨Extern.MapsClone.clone,⟨_,Tryz.func298,by kernel_rfl,by kernel_rfl,by kernel_rfl⟩,_,_,U0 _ hb,_,rfl,_,rfl,rfl,⟨es,clock,World.alloc_heap_new w _,h2⟩,Ext.al w _⟩
set_option maxRecDepth 100000
set_option maxHeartbeats 8000000
set_option linter.unusedVariables false
variable {R:Ending->World->Prop} {w:World} {a0 a1 a2 a3 a4 a5 a6 a7 a8 a9 aA aq au aT aU aX bN bI bJ EU ak ao aw bw bR bP eZ fa eL EV br bG bq yC yD wC wD yE yF yG EW EX EY EZ E0 E1 E2 E3 E4 E5:Int}
theorem zV.vc {a0:Addr} (h:
 ∃(x0:Int),ld w (ae (some a0) 2)=some (.int .i64 x0)/\
 Br (x0>0)
 (∃(x1:Int),ld w (ae (some a0) 2)=some (.int .i64 x1)/\
 (true=true/\Wr w (ae (some a0) 2) 1)/\(∀w2,w2=aG w (ae (some a0) 2) [(aj (x1-1))]->
 R false w2))
 (∃(x3:Int),ld w (ae (some a0) 1)=some (.int .i64 x3)/\
 Br (x3>0)
 (∃(x4:Int),ld w (ae (some a0) 1)=some (.int .i64 x4)/\
 (true=true/\Wr w (ae (some a0) 1) 1)/\(∀w5,w5=aG w (ae (some a0) 1) [(aj (x4-1))]->
 R (Value.bool (decide (x3>0))) w5))
 (R (Value.bool (decide (x3>0))) w))):ah 227 #[a0] w R:=
 cq bT Tryz.func227 h
theorem Ge.vc {a0:Addr} {a2:Sl} (h:
 ah 227 #[a0] w (λe w0=>∃(b1:Bool),e=b1/\
 Br b1
 (R (9:Int) w0)
 (ah 228 #[a0] w0 (λe w2=>∃(m3:Option Nat),e=Value.map m3/\
 ∃(x4:Int),ld w2.drew (ae (some a0) 0)=some (.int .i64 x4)/\
 (ah 229 #[.map m3] w2.drew (λe w5=>∃(x6:Int),e=x6/\
 ag w5 (ae (some a0) 0) 0 [x4]/\∃(G7:Value->Prop) (kvs8:List (Value × Value)),iE Tryz.prog 3 G7/\cj G7 w5 m3 kvs8/\G7 a1/\∃(s9:Sl),∃b10:Bool,F7 kvs8 a1 (.slice none 0 0) s9 b10/\
 ag w5 (ae (some a0) 0) 0 [x4]/\Br (decide (((aj (x6-((s9.n:Nat):Int))):Int)>(aj (x4-((a2.n:Nat):Int)))))
 (R (8:Int) w5)
 (∃(Az:Sl),ld w5.drew (ae (some a0) 4)=some (.slice Az.a Az.n Az.c)/\
 ah 230 #[a2] w5.drew (λe cM=>∃(wH:Sl),e=wH/\
 ag cM (ae (some a0) 4) 0 [Az]/\∀bK,bK=cM.alloc (.cells #[a1,wH] 279)->
 ba 32 2 bK Az 1 [a1,wH]/\∀(lg:Sl) (cB:World),aV 279 2 bK Az 1 [a1,wH] lg cB->Kp cM bK cB/\
 (true=true/\Wr cB (ae (some a0) 4) 1)/\bC (ae (some a0) 4)≠some cM.heap.size/\(∀cE,cE=aG cB (ae (some a0) 4) [lg]->
 R (0:Int) cE)))))/\(∃(G18:Value->Prop) (kvs19:List (Value × Value)),iE Tryz.prog 3 G18/\cj G18 w2.drew m3 kvs19/\G18 a1/\∃(uB:Sl),∃J3:Bool,F7 kvs19 a1 (.slice none 0 0) uB J3/\
 ag w2.drew (ae (some a0) 0) 0 [x4]/\ah 229 #[.map m3] w2.drew (λe cL=>∃(dz:Int),e=dz/\
 ag cL (ae (some a0) 0) 0 [x4]/\Br (decide (((aj (dz-((uB.n:Nat):Int))):Int)>(aj (x4-((a2.n:Nat):Int)))))
 (R (8:Int) cL)
 (∃(rE:Sl),ld cL.drew (ae (some a0) 4)=some (.slice rE.a rE.n rE.c)/\
 ah 230 #[a2] cL.drew (λe cP=>∃(N5:Sl),e=N5/\
 ag cP (ae (some a0) 4) 0 [rE]/\∀eo,eo=cP.alloc (.cells #[a1,N5] 279)->
 ba 32 2 eo rE 1 [a1,N5]/\∀(NI:Sl) (dH:World),aV 279 2 eo rE 1 [a1,N5] NI dH->Kp cP eo dH/\
 (true=true/\Wr dH (ae (some a0) 4) 1)/\bC (ae (some a0) 4)≠some cP.heap.size/\(∀eY,eY=aG dH (ae (some a0) 4) [NI]->
 R (0:Int) eY))))))))):ah 164 #[a0,a1,a2] w R:=
 cq bT Tryz.func164 h
theorem D9.vc {a0:Addr} (h:
 ah 227 #[a0] w (λe w0=>∃(b1:Bool),e=b1/\
 Br b1
 (R (9:Int) w0)
 (ah 228 #[a0] w0 (λe w2=>∃(m3:Option Nat),e=Value.map m3/\
 (true=true/\Wr w2 (ae (some a0) 3) 1)/\(∀w4,w4=aG w2 (ae (some a0) 3) [.map m3]->
 (true=true/\Wr w4 (ae (some a0) 4) 1)/\(∀w5,w5=aG w4 (ae (some a0) 4) [.slice none 0 0]->
 R (0:Int) w5)))))):ah 165 #[a0] w R:=
 cq bT Tryz.func165 h
theorem UD.vc {a0:Sl} (h:
 ∃I0:Nat->Int->Sl->World->Prop,
 (∃n1,I0 n1 ((aj (a2-1))) a0 w)/\
 ∀(n1:Nat) (wM:Nat->Value) (x3:Int) (s4:Sl) (w5:World),I0 n1 x3 s4 w5->
 Br (x3>=0)
 (aP (ngC (aj (8*x3))) (∀w7,w7=w5.alloc (.cells #[.int .u8 (eV ((a1:Int).fdiv (2 ^(min ((aj (8*x3)):Int).toNat 64))))] 5)->
 ba 1 1 w7 s4 1 [.int .u8 (eV ((a1:Int).fdiv (2 ^(min ((aj (8*x3)):Int).toNat 64))))]/\∀(s8:Sl) (w9:World),aV 5 1 w7 s4 1 [.int .u8 (eV ((a1:Int).fdiv (2 ^(min ((aj (8*x3)):Int).toNat 64))))] s8 w9->Kp w5 w7 w9/\
 ∃n6,n6<n1/\I0 n6 ((aj (x3-1))) s8 w9))
 (R s4 w5)):ah 224 #[a0,a1,a2] w R:=
 cq ⟨[(2,⟨[(7,.int .i64),(0,.slice)],[],[]⟩)],[],[]⟩ Tryz.func224 h
theorem PU.vc {a0:Sl} (h:
 ∃I0:Nat->Int->Int->World->Prop,
 (∃n1,I0 n1 (0) (0) w)/\
 ∀(n1:Nat) (wM:Nat->Value) (x3 x4:Int) (w5:World),I0 n1 x3 x4 w5->
 Br (decide (x3<((a0.n:Nat):Int)))
 (ee a0.a x3 a0.n/\∃(x7:Int),ld w5 (ae a0.a ((x3:Int).toNat*1))=some (.int .u8 x7)/\
 ∃n6,n6<n1/\I0 n6 ((aj (x3+1))) ((Kl .i64 (aj (x4*2 ^(min (8:Int).toNat 64))) (aj x7))) w5)
 (R x4 w5)):ah 247 #[a0] w R:=
 cq ⟨[(3,⟨[(8,.int .i64),(3,.int .i64)],[],[]⟩)],[],[]⟩ Tryz.func247 h
theorem LP.vc {a1:Sl} (h:
 Br (a0<1)
 (R (Value.tuple #[.slice none 0 0,(1:Int)]) w)
 (Br (a0>1073741824)
 (R (Value.tuple #[.slice none 0 0,(1:Int)]) w)
 (Br (decide ((((a1.n:Nat):Int):Int)>65536))
 (R (Value.tuple #[.slice none 0 0,(1:Int)]) w)
 (ah 224 #[.slice none 0 0,a0,(4:Int)] w (λe w0=>∃(s1:Sl),e=s1/\
 ah 224 #[s1,((a1.n:Nat):Int),(3:Int)] w0 (λe w2=>∃(s3:Sl),e=s3/\
 ∀w4,w4=w2.alloc (.cells #[s3,a1] 62)->
 ah 226 #[.slice (some ⟨w2,0,none⟩) 2 2] w4 (λe w5=>∃(s6:Sl),e=s6/\
 ah 225 #[s6] w5 (λe w7=>∃(s8:Sl),e=s8/\
 R (Value.tuple #[s8,ab]) w7)))))))):ah 163 #[a0,a1] w R:=
 cq bT Tryz.func163 h
theorem Ai.vc {a0:Addr} {a2:Sl} (h:
 ah 132 #[a1] w (λe w0=>∃(b1:Bool),e=b1/\
 Br (!b1)
 (R (1:Int) w0)
 (ah 133 #[a0,a1] w0 (λe w2=>∃(x3 x4:Int) (s5:Sl),e=Value.agg #[x3,x4,s5]/\
 ∀w6,w6=w2.alloc (.cells #[ab,ab,.slice none 0 0] 202)->
 ∀w7,w7=w6.setRow w2 #[x3,x4,s5]->
 ah 163 #[(aj (x4+1)),a2] w7 (λe w8=>∃(s9:Sl) (bj:Int),e=Value.tuple #[s9,bj]/\Kp w2 w7 w8/\
 Br (bj !=0)
 (R bj w8)
 (∃(Wh:Option Addr),ld w8.drew (ae (ae (some a0) 0) 0)=some (.pointer Wh)/\
 ah 164 #[Wh,(kz .i64 x3 1),s9] w8.drew (Ri λcc cM=>Kp w2 w8.drew cM/\
 ag cM (some ⟨w2,0,none⟩) 0 [x3]/\Br (cc !=0)
 (R cc cM)
 (∃(p14:Option Addr),ld cM (ae (ae (some a0) 0) 0)=some (.pointer p14)/\
 ah 165 #[p14] cM (Ri λcp dY=>Kp w2 cM dY/\
 R cp dY))))))))):ah 115 #[a0,a1,a2] w R:=
 cq bT Tryz.func115 h
theorem BV.vc {a0:Addr} (h:
 ∀w0,w0=w.alloc (.cells #[ab,ab,.slice none 0 0] 202)->
 ∀w1,w1=w0.alloc (.cells #[ab,ab,.slice none 0 0] 202)->
 ∀w2,w2=w1.setRow w0 #[(aj ((aj (2*a1))+1)),ab,.slice none 0 0]->
 ∃I3:Nat->Int->Int->Int->Sl->World->Prop,
 (∃n4,aO [ab,ab,.slice none 0 0]/\I3 n4 (0) ((aj ((aj (2*a1))+1))) (0) ⟨none,0,0⟩ w2)/\
 ∀(n4:Nat) (us5:Nat->Value) (x6 x7 x8:Int) (s9:Sl) (bD:World),I3 n4 x6 x7 x8 s9 bD->
 Br (x6<2)
 (((0:Int)<=x6/\x6<((2:Nat):Int))/\∃(bU:Int),([(aj (2*a1)),(aj ((aj (2*a1))+1))]:LV)[(x6:Int).toNat*1]? =some (.int .i64 bU)/\
 ∃(Ng:Option Addr),ld bD (ae (ae (some a0) 0) 0)=some (.pointer Ng)/\
 ah 182 #[Ng,bU] bD (λe bK=>∃(lg:Sl) (b16:Bool),e=Value.tuple #[lg,b16]/\K2 w w0 bD bK (
 ah 183 #[lg] bK (λe cE=>∃(cg:Int) (VT:Sl) (cZ:Int),e=Value.tuple #[cg,VT,cZ]/\K2 w w0 bK cE (
 Br (cZ==0)
 (Br (cg>x8)
 (∀ed,ed=cE.setRow w0 #[bU,cg,VT]->
 ∃rU,rU<n4/\aO [ab,ab,.slice none 0 0]/\I3 rU ((aj (x6+1))) bU cg VT ed)
 (∃rU,rU<n4/\aO [ab,ab,.slice none 0 0]/\I3 rU ((aj (x6+1))) x7 x8 s9 cE))
 (∃rU,rU<n4/\aO [ab,ab,.slice none 0 0]/\I3 rU ((aj (x6+1))) x7 x8 s9 cE))))))
 (∀cL,cL=bD.setRow w #[x7,x8,s9]->
 R (Value.agg #[x7,x8,s9]) cL)):ah 133 #[a0,a1] w R:=
 cq ⟨[(3,⟨[(23,.int .i64)],[(1,[.int .i64,.int .i64,.slice])],[]⟩)],[],[]⟩ Tryz.func133 h
theorem abQ.vc {a0:Sl} (h:
 ah 269 #[a0] w (λe w0=>∃(x1:Int),e=Value.int .u16 x1/\
 ah 270 #[.int .u16 x1] w0 (λe w2=>∃(x3 x4:Int),e=Value.agg #[.int .u8 x3,.int .u8 x4]/\
 ∀w5,w5=w2.alloc (.cells #[.int .u8 0,.int .u8 0] 321)->
 Wt w5 ⟨w2,0,none⟩ 2/\(∀w6,w6=aG w5 (some ⟨w2,0,none⟩) [.int .u8 x3,.int .u8 x4]->
 ∀w7,w7=w6.alloc (.cells #[a0,.slice (aJ (some ⟨w2,0,none⟩) (0) (2) 1) (2-0) (2-0)] 62)->
 ah 226 #[.slice (some ⟨w6,0,none⟩) 2 2] w7 (λe w8=>∃(s9:Sl),e=s9/\
 R s9 w8))))):ah 225 #[a0] w R:=
 cq bT Tryz.func225 h
theorem Yw.vc {a0:Sl} (h:
 Br (decide ((((a0.n:Nat):Int):Int)>=2))
 (ah 269 #[a0] w (λe w0=>∃(x1:Int),e=Value.int .u16 x1/\
 R (Value.bool (x1==0)) w0))
 (R false w)):ah 281 #[a0] w R:=
 cq bT Tryz.func281 h
theorem afV.vc {a0:Sl} (h:
 ah 296 #[] w (λe w0=>∃(x1:Int),e=Value.int .u16 x1/\
 ah 297 #[.int .u16 x1,a0] w0 (λe w2=>∃(x3:Int),e=Value.int .u16 x3/\
 R (Value.int .u16 x3) w2))):ah 269 #[a0] w R:=
 cq bT Tryz.func269 h
theorem BW.vc (h:
 ∀w0,w0=w.alloc (.cells #[.int .u8 0,.int .u8 0] 321)->
 Wt w0 ⟨w,0,none⟩ 2/\(∀w1,w1=aG w0 w [.int .u8 (eV ((a0:Int).fdiv (2 ^(min (8:Int).toNat 16)))),.int .u8 (eV a0)]->
 ∃(x2 x3:Int),ag w1 w 0 [.int .u8 x2,.int .u8 x3]/\
 R (Value.agg #[.int .u8 x2,.int .u8 x3]) w1)):ah 270 #[.int .u16 a0] w R:=
 cq bT Tryz.func270 h
theorem UE.vc (h:
 R (Value.int .u16 65535) w):ah 296 #[] w R:=
 cq bT Tryz.func296 h
theorem Ea.vc {a1:Sl} (h:
 ah 310 #[] w (λe w0=>∃(x1 x2 x3 x4 x5 x6 x7 x8 x9 bj bz bU cc bW cm cp:Int),e=Value.agg #[.int .u16 x1,.int .u16 x2,.int .u16 x3,.int .u16 x4,.int .u16 x5,.int .u16 x6,.int .u16 x7,.int .u16 x8,.int .u16 x9,.int .u16 bj,.int .u16 bz,.int .u16 bU,.int .u16 cc,.int .u16 bW,.int .u16 cm,.int .u16 cp]/\
 ∀cE,cE=w0.alloc (.cells #[.int .u16 0,.int .u16 0,.int .u16 0,.int .u16 0,.int .u16 0,.int .u16 0,.int .u16 0,.int .u16 0,.int .u16 0,.int .u16 0,.int .u16 0,.int .u16 0,.int .u16 0,.int .u16 0,.int .u16 0,.int .u16 0] 358)->
 Wt cE ⟨w0,0,none⟩ 16/\(∀dA,dA=aG cE (some ⟨w0,0,none⟩) [.int .u16 x1,.int .u16 x2,.int .u16 x3,.int .u16 x4,.int .u16 x5,.int .u16 x6,.int .u16 x7,.int .u16 x8,.int .u16 x9,.int .u16 bj,.int .u16 bz,.int .u16 bU,.int .u16 cc,.int .u16 bW,.int .u16 cm,.int .u16 cp]->
 ∃I19:Nat->Int->Int->World->Prop,
 (∃QN,I19 QN (0) a0 dA)/\
 ∀(QN:Nat) (aq3:Nat->Value) (dI dz:Int) (fH:World),I19 QN dI dz fH->
 Br (decide (dI<((a1.n:Nat):Int)))
 (ee a1.a dI a1.n/\∃(fk:Int),ld fH (ae a1.a ((dI:Int).toNat*1))=some (.int .u8 fk)/\
 (0:Int)<=(kz .u16 ((dz:Int).fdiv (2 ^(min (12:Int).toNat 16))) (mf ((fk:Int).fdiv (2 ^(min (4:Int).toNat 8)))))/\((kz .u16 ((dz:Int).fdiv (2 ^(min (12:Int).toNat 16))) (mf ((fk:Int).fdiv (2 ^(min (4:Int).toNat 8))))):Int)<((16:Nat):Int)/\∃(fw:Int),ld fH (ae (some ⟨w0,0,none⟩) (((kz .u16 ((dz:Int).fdiv (2 ^(min (12:Int).toNat 16))) (mf ((fk:Int).fdiv (2 ^(min (4:Int).toNat 8))))):Int).toNat*1))=some (.int .u16 fw)/\
 (0:Int)<=(kz .u16 (((kz .u16 (mf (dz*2 ^(min (4:Int).toNat 16))) fw):Int).fdiv (2 ^(min (12:Int).toNat 16))) (mf (nB .u8 fk 15)))/\((kz .u16 (((kz .u16 (mf (dz*2 ^(min (4:Int).toNat 16))) fw):Int).fdiv (2 ^(min (12:Int).toNat 16))) (mf (nB .u8 fk 15))):Int)<((16:Nat):Int)/\∃(gy:Int),ld fH (ae (some ⟨w0,0,none⟩) (((kz .u16 (((kz .u16 (mf (dz*2 ^(min (4:Int).toNat 16))) fw):Int).fdiv (2 ^(min (12:Int).toNat 16))) (mf (nB .u8 fk 15))):Int).toNat*1))=some (.int .u16 gy)/\
 ∃n25,n25<QN/\I19 n25 ((aj (dI+1))) ((kz .u16 (mf ((kz .u16 (mf (dz*2 ^(min (4:Int).toNat 16))) fw)*2 ^(min (4:Int).toNat 16))) gy)) fH)
 (R (Value.int .u16 dz) fH)))):ah 297 #[.int .u16 a0,a1] w R:=
 cq ⟨[(3,⟨[(11,.int .i64),(0,.int .u16)],[],[]⟩)],[],[]⟩ Tryz.func297 h
theorem UF.vc (h:
 ∀w0,w0=w.alloc (.cells #[.int .u16 0,.int .u16 0,.int .u16 0,.int .u16 0,.int .u16 0,.int .u16 0,.int .u16 0,.int .u16 0,.int .u16 0,.int .u16 0,.int .u16 0,.int .u16 0,.int .u16 0,.int .u16 0,.int .u16 0,.int .u16 0] 358)->
 ∀w1,w1=w0.alloc (.cells #[.int .u16 0,.int .u16 0,.int .u16 0,.int .u16 0,.int .u16 0,.int .u16 0,.int .u16 0,.int .u16 0,.int .u16 0,.int .u16 0,.int .u16 0,.int .u16 0,.int .u16 0,.int .u16 0,.int .u16 0,.int .u16 0] 358)->
 ∃I2:Nat->Int->World->Prop,
 (∃n3,I2 n3 (0) w1)/\
 ∀(n3:Nat) (us4:Nat->Value) (x5:Int) (w6:World),I2 n3 x5 w6->
 Br (x5<16)
 (∃I8:Nat->Int->Int->World->Prop,
 (∃n9,I8 n9 (0) ((mf ((mf x5)*2 ^(min (12:Int).toNat 16)))) w6)/\
 ∀(n9:Nat) (Wb:Nat->Value) (bz bU:Int) (bF:World),I8 n9 bz bU bF->
 Br (bz<4)
 (ah 321 #[.int .u16 bU] bF (λe dY=>∃(cp:Int),e=Value.int .u16 cp/\
 ∃FD,FD<n9/\I8 FD ((aj (bz+1))) cp dY))
 ((0:Int)<=x5/\x5<((16:Nat):Int)/\(true=true/\Wr bF (ae (some ⟨w0,0,none⟩) ((x5:Int).toNat*1)) 1)/\(∀cE,cE=aG bF (ae (some ⟨w0,0,none⟩) ((x5:Int).toNat*1)) [.int .u16 bU]->
 ∃n7,n7<n3/\I2 n7 ((aj (x5+1))) cE)))
 (∃(cg cr cZ dm dI dz eH dQ fk fw gy fI iK gI gQ ey:Int),ag w6 (some ⟨w0,0,none⟩) 0 [.int .u16 cg,.int .u16 cr,.int .u16 cZ,.int .u16 dm,.int .u16 dI,.int .u16 dz,.int .u16 eH,.int .u16 dQ,.int .u16 fk,.int .u16 fw,.int .u16 gy,.int .u16 fI,.int .u16 iK,.int .u16 gI,.int .u16 gQ,.int .u16 ey]/\
 Wt w6 ⟨w,0,none⟩ 16/\(∀iL,iL=aG w6 w [.int .u16 cg,.int .u16 cr,.int .u16 cZ,.int .u16 dm,.int .u16 dI,.int .u16 dz,.int .u16 eH,.int .u16 dQ,.int .u16 fk,.int .u16 fw,.int .u16 gy,.int .u16 fI,.int .u16 iK,.int .u16 gI,.int .u16 gQ,.int .u16 ey]->
 ∃(jX m4 gu fX mG lW kq lZ pj kD pk gM rV uS Cc sa:Int),ag iL w 0 [.int .u16 jX,.int .u16 m4,.int .u16 gu,.int .u16 fX,.int .u16 mG,.int .u16 lW,.int .u16 kq,.int .u16 lZ,.int .u16 pj,.int .u16 kD,.int .u16 pk,.int .u16 gM,.int .u16 rV,.int .u16 uS,.int .u16 Cc,.int .u16 sa]/\
 R (Value.agg #[.int .u16 jX,.int .u16 m4,.int .u16 gu,.int .u16 fX,.int .u16 mG,.int .u16 lW,.int .u16 kq,.int .u16 lZ,.int .u16 pj,.int .u16 kD,.int .u16 pk,.int .u16 gM,.int .u16 rV,.int .u16 uS,.int .u16 Cc,.int .u16 sa]) iL))):ah 310 #[] w R:=
 cq ⟨[(8,⟨[(11,.int .i64),(4,.int .u16)],[],[]⟩),(4,⟨[(5,.int .i64)],[],[]⟩)],[],[]⟩ Tryz.func310 h
theorem LQ.vc (h:
 Br (((nB .u16 a0 32768):Int) !=0)
 (R (Value.int .u16 (kz .u16 (mf (a0*2 ^(min (1:Int).toNat 16))) 4129)) w)
 (R (Value.int .u16 (mf (a0*2 ^(min (1:Int).toNat 16)))) w)):ah 321 #[.int .u16 a0] w R:=
 cq bT Tryz.func321 h
theorem vt.vc {a0:Sl} (h:
 ∃I0:Nat->Int->Int->World->Prop,
 (∃n1,I0 n1 (0) (0) w)/\
 ∀(n1:Nat) (wM:Nat->Value) (x3 x4:Int) (w5:World),I0 n1 x3 x4 w5->
 Br (decide (x3<((a0.n:Nat):Int)))
 (ee a0.a x3 a0.n/\∃(s7:Sl),ld w5 (ae a0.a ((x3:Int).toNat*1))=some (.slice s7.a s7.n s7.c)/\
 Br (decide (((aj (x4+((s7.n:Nat):Int))):Int)<0))
 (False)
 (∃n6,n6<n1/\I0 n6 ((aj (x3+1))) ((aj (x4+((s7.n:Nat):Int)))) w5))
 (ah 271 #[.slice none 0 0,x4] w5 (λe w8=>∃(s9:Sl),e=s9/\
 ∃Cj:Nat->Int->Sl->World->Prop,
 (∃rU,Cj rU (0) s9 w8)/\
 ∀(rU:Nat) (agu:Nat->Value) (cc:Int) (ZF:Sl) (dY:World),Cj rU cc ZF dY->
 Br (decide (cc<((a0.n:Nat):Int)))
 (ee a0.a cc a0.n/\∃(E9:Sl),ld dY (ae a0.a ((cc:Int).toNat*1))=some (.slice E9.a E9.n E9.c)/\
 ∃l18:LV,Rd dY E9.a l18/\ba 1 1 dY ZF E9.n l18/\∀(VT:Sl) (fh:World),aV 5 1 dY ZF E9.n l18 VT fh->
 ∃J7,J7<rU/\Cj J7 ((aj (cc+1))) VT fh)
 (R ZF dY)))):ah 226 #[a0] w R:=
 cq ⟨[(11,⟨[(27,.int .i64),(6,.slice)],[],[]⟩),(3,⟨[(11,.int .i64),(3,.int .i64)],[],[]⟩)],[],[]⟩ Tryz.func226 h
theorem zg.vc {a0:Sl} (h:
 Br (a1<0)
 (False)
 (Br (decide (((aj (a1-(aj (((a0.c:Nat):Int)-((a0.n:Nat):Int))))):Int)>0))
 ((0:Int)<=((a0.c:Nat):Int)/\((a0.c:Nat):Int)<=((a0.c:Nat):Int)/\((0:Int)<=(aj (a1-(aj (((a0.c:Nat):Int)-((a0.n:Nat):Int)))))/\aj (aj (a1-(aj (((a0.c:Nat):Int)-((a0.n:Nat):Int)))))=(aj (a1-(aj (((a0.c:Nat):Int)-((a0.n:Nat):Int)))))/\((aj (a1-(aj (((a0.c:Nat):Int)-((a0.n:Nat):Int))))):Int)*1<=281474976710656)/\ba 1 1 w ⟨(aJ a0.a (0) (a0.c) 1),((((a0.c:Nat):Int):Int).toNat-0),(a0.c-0)⟩ ((aj (a1-(aj (((a0.c:Nat):Int)-((a0.n:Nat):Int))))):Int).toNat (bn [.int .u8 0] ((aj (a1-(aj (((a0.c:Nat):Int)-((a0.n:Nat):Int))))):Int).toNat)/\∀(s0:Sl) (w1:World),aV 5 1 w ⟨(aJ a0.a (0) (a0.c) 1),((((a0.c:Nat):Int):Int).toNat-0),(a0.c-0)⟩ ((aj (a1-(aj (((a0.c:Nat):Int)-((a0.n:Nat):Int))))):Int).toNat (bn [.int .u8 0] ((aj (a1-(aj (((a0.c:Nat):Int)-((a0.n:Nat):Int))))):Int).toNat) s0 w1->
 (0:Int)<=((a0.n:Nat):Int)/\((a0.n:Nat):Int)<=((s0.c:Nat):Int)/\R (Value.slice (aJ s0.a (0) (s0.c) 1) ((((a0.n:Nat):Int):Int).toNat-0) (s0.c-0)) w1)
 (R a0 w))):ah 271 #[a0,a1] w R:=
 cq bT Tryz.func271 h
theorem tC.vc {a0:Addr} (h:
 ∃(s0:Sl),ld w (ae (some a0) 3)=some (.slice s0.a s0.n s0.c)/\
 ∃I1:Nat->Int->Int->World->Prop,
 (∃n2,I1 n2 (0) (0) w)/\
 ∀(n2:Nat) (us3:Nat->Value) (x4 x5:Int) (w6:World),I1 n2 x4 x5 w6->
 Br (decide (x4<((s0.n:Nat):Int)))
 (ee s0.a x4 s0.n/\∃(p8:Option Addr),ld w6 (ae s0.a ((x4:Int).toNat*1))=some (.pointer p8)/\
 aP (dB p8) (aP (dB p8) (∃(b9:Bool),ld w6 (ae p8 1)=some (.bool b9)/\
 ah 79 #[a0,p8] w6 (λe bD=>∃(bz:Int),e=bz/\
 Br (bz !=0)
 (R (Value.tuple #[x5,bz]) bD)
 (Br b9
 (∃n7,n7<n2/\I1 n7 ((aj (x4+1))) ((aj (x5+1))) bD)
 (∃n7,n7<n2/\I1 n7 ((aj (x4+1))) x5 bD))))))
 (R (Value.tuple #[x5,ab]) w6)):ah 22 #[a0] w R:=
 cq ⟨[(3,⟨[(14,.int .i64),(4,.int .i64)],[],[]⟩)],[],[]⟩ Tryz.func22 h
theorem Aa.vc {a0:Addr} {a1:Sl} (h:
 ∃(p0:Option Addr),ld w (ae (some a0) 0)=some (.pointer p0)/\
 ah 115 #[p0,ab,a1] w (λe w1=>∃(x2:Int),e=x2/\
 R x2 w1)):ah 61 #[a0,a1] w R:=
 cq bT Tryz.func61 h
end Go.Proofs.YtkkkfkopcfdmaaaGreatDoor
