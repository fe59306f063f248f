import Derived.Test.YtalpkjfpmdpbiaaGreatDoorKU
import Derived.Test.YtalpkjfpmdpbiaaGreatDoorGR
set_option linter.all false
namespace Go.Proofs.YtalpkjfpmdpbiaaGreatDoor
open Go Go.Vc Go.RowKit Go.Proofs Go.dS Go.bh Go.Code
abbrev Fw(P:Nat->Prop)(w:World):Prop:=∀i,w.heap.size<=i->P i
def Fw.ext{P:Nat->Prop}{w w':World}(h:Fw P w)(x:Ext w w'):Fw P w':=λi hi=>h i (fA x.size hi)
structure RY(P:Nat->Prop)(w:World)(s:Sl)(b:List Int):Prop where
 r:eZ w s b
 y:lR b
 p:b≠ []->∀g,s.bj=some g->P g
 c:s.n<=s.c
def RY.ext{P:Nat->Prop}{w w':World}{s:Sl}{b:List Int}(h:RY P w s b)(x:Ext w w'):RY P w' s b:=⟨RdK.ext h.r x,h.y,h.p,h.c⟩
def RY.nil{P:Nat->Prop}{w:World}:RY P w ⟨none,0,0⟩ []:=⟨⟨rfl,(λr hr=>by cases hr),λi r hi=>by simp at hi⟩,(λc hc=>by cases hc),λh=>absurd rfl h,ax _⟩
def RY.len{P:Nat->Prop}{w:World}{s:Sl}{b:List Int}(h:RY P w s b):s.n=b.length:=eZ.n h.r
def RY.same{P P':Nat->Prop}{w w':World}{s:Sl}{b:List Int}(h:RY P w s b)(hk:∀i,P i->i<w.heap.size->w'.heap[i]? =w.heap[i]?/\P' i):RY P' w' s b:=by
 have hb:b.map yv≠ []->b≠ []:=λq e=>q (by rw [e];rfl)
 have hb':b≠ []->b.map yv≠ []:=λq e=>q (by simpa using e)
 refine ⟨RdK.AB h.r λdN g hg=>(hk g (h.p (hb dN) g hg) (RdK.jX h.r aC dN hg)).1,h.y,λdN g hg=>(hk g (h.p dN g hg) (RdK.jX h.r aC (hb' dN) hg)).2,h.c⟩
def RY.own{P:Nat->Prop}{w:World}{B:Nat}{s:Sl}{b:List Int}(h:iP B w s b)(hb:lR b)(hP:∀i,B<=i->P i):RY P w s b:=⟨iP.rM h,hb,λ_ g hg=>hP g (h.own.lt hg).1,aj.le h⟩
def AX{s:Sl}{l m k n c:Nat}{g:Nat}(h:Sl.bj ⟨aA s.a l m k,n,c⟩=some g):s.bj=some g:=by
 obtain ⟨a,n',c'⟩:=s
 cases a with
 |none=>simp [Sl.bj,aA] at h
 |some a=>
  simp only [Sl.bj,aA] at h ⊢;split at h
  ·exact h
  ·simp at h ⊢;rw [<-h];unfold Addr.add;split<;>rfl
def RY.cut{P:Nat->Prop}{w:World}{s:Sl}{b:List Int}(h:RY P w s b){m c' c'':Nat}(hm:m<=b.length)(hc:m<=c''):RY P w ⟨aA s.a 0 c' 1,m,c''⟩ (b.take m):=by have h1:=RdK.cut (c':=c') (c'':=c'') h.r (m:=m) (by rw [aB];exact hm);rw [<-List.map_take] at h1;exact ⟨h1,λc hc=>h.y c (kq hc),λdN g hg=>h.p (λe=>dN (by rw [e];exact List.take_nil)) g (AX hg),hc⟩
def stN:Nat->jh->jh
 |0,c=>c
 |n+1,c=>E9 (stN n c)
def aaC(n:Nat)(c:jh):0<=cI (stN n c)/\cI (stN n c)<65536:=oS _
def P5(s:Sl)(b:List Int)(v:jh)(w:World)(hs:eZ w s b)(hb:lR b)(hn:b.length<=1099511627776):ah 248 #[(cI v),s] w λe w'=>e=Value.int .i64 (cI (qW v b))/\w'=w:=by
 apply (O1.vc (a1:=s));have kf:=eZ.n hs;refine ⟨λn i c wr=>∃k:Nat,i=k/\k+n=b.length/\c=cI (qW v (b.take k))/\wr=w,⟨b.length,0,rfl,by omega,rfl,rfl⟩,?_⟩;rintro n us i c wr ⟨k,rfl,hk,rfl,rfl⟩;apply Br.mk<;>intro hc
 ·replace hc:=fe hc;obtain ⟨x,hx⟩:=aZ (l:=b) (i:=k) aa;have XX:=hb x (bf hx);have hm:(b.map yv)[k]? =some [.int .u8 x]:=by rw [aV,hx];rfl
  have mA:=hs.at hm (j:=0) rfl;rw [ck] at mA;have wk:=kK (j:=k);have e1:ai ((ai x)*256)=cI (ke x<<<8):=by rw [az (n:=x) (by unfold inI;omega),wI,Mc,Fa ⟨XX.1,by omega⟩];have e:(2:Int) ^ 8=256:=rfl;rw [e];omega
  refine ⟨hs.fp aa,x,mA,?_⟩;rw [e1,T7];refine ⟨λn i c Vw=>∃j:Nat,i=j/\j+n=8/\c=cI (stN j (qW v (b.take k) ^^^(ke x<<<8)))/\Vw=wr,⟨8,0,rfl,rfl,rfl,rfl⟩,?_⟩;rintro n9 Xm i c cC ⟨j,rfl,hj,rfl,rfl⟩;have uI:=aaC j (qW v (b.take k) ^^^(ke x<<<8));have lT:=W9 (stN j (qW v (b.take k) ^^^(ke x<<<8)));have wj:=kK (j:=j);have w2:ai (cI (stN j (qW v (b.take k) ^^^(ke x<<<8)))*2)=cI (stN j (qW v (b.take k) ^^^(ke x<<<8)))*2:=wI;rw [w2];apply Br.mk<;>intro hj8
  ·apply Br.mk<;>intro h
   ·simp only [ge_iff_le,bA] at h;rw [if_pos h] at lT;refine ⟨n9-1,by simp at hj8;omega,j+1,wj,by simp at hj8;omega,?_,rfl⟩;rw [wI];exact lT
   ·simp only [ge_iff_le,bV] at h;rw [if_neg h] at lT;exact ⟨n9-1,by simp at hj8;omega,j+1,wj,by simp at hj8;omega,lT,rfl⟩
  ·have hj8:j=8:=by simp at hj8;omega
   subst hj8;refine ⟨n-1,by omega,k+1,wk,by omega,?_,rfl⟩;rw [cm,hx];show _=cI (qW v (b.take k++ [x]));rw [qe];rfl
 ·replace hc:=eX hc;rw [cZ aa];exact ⟨rfl,rfl⟩
def IG(s:Sl)(b:List Int)(w:World)(hs:eZ w s b)(hb:lR b)(hn:b.length<=1099511627776):ah 240 #[s] w λe w'=>e=Value.int .i64 (cI (jg b))/\w'=w:=by apply (Sj.vc (a0:=s));refine (P5 s b 0xFFFF#16 w hs hb hn).mono ?_;rintro e w' ⟨rfl,rfl⟩;exact ⟨_,rfl,rfl,rfl⟩
def E6(s:Sl)(b:List Int)(w:World)(hs:eZ w s b)(hb:lR b)(hn:b.length<=1000000000):ah 212 #[s] w λe w'=>∃s':Sl,e=s'/\iP w w' s' (pC b)/\Ext w w':=by
 apply (OW.vc (a0:=s));have kf:=eZ.n hs;refine (IG s b w hs hb aa).mono ?_;rintro e w' ⟨rfl,rfl⟩;refine ⟨_,rfl,?_⟩;have uI:=oS (jg b);have h0:aj w'.heap.size fh 1 w' ⟨none,0,0⟩ []:=aj.nil;have ha:=h0.kl (bytes:=1) (more:=b.map yv) (ax _) wM (vp _) (by simp only [aB];omega) (by simp only [aB];omega);rw [aB,<-kf] at ha;obtain ⟨hp,hr⟩:=ha;refine ⟨(b.map yv).flatten,RdK.flat hs aa,hp,λs3 w4 aR=> ?_⟩;obtain ⟨VU,hn4,xb4,-,-⟩:=hr s3 w4 aR;have x4:Ext w' w4:=xb4;have e1:mg (ai (Int.tdiv (cI (jg b)) 256))=cI (jg b) / 256:=by have:Int.tdiv (cI (jg b)) 256=cI (jg b) / 256:=oH uI.1;rw [this,wI,wrap_u8];omega
 have e2:mg (Int.tmod (cI (jg b)) 256)=cI (jg b) % 256:=by have:Int.tmod (cI (jg b)) 256=cI (jg b) % 256:=ri uI.1;rw [this,wrap_u8];omega
 rw [e1,e2];intro w5 e5;have x5:=bo e5;have z5:=dt e5;have asg:s3.n=b.length:=by have:=aj.rd VU aC;have:=this.n;simpa using this
 have u9:=aj.ext VU x5;have hb5:=u9.kl (bytes:=1) (more:=(B1 b).map yv) (by have:=x4.size;omega) wM (vp _) (by simp only [aB,uB];omega) (by simp only [aB,uB];omega);rw [aB,uB] at hb5;obtain ⟨hp5,Y7⟩:=hb5;refine ⟨hp5,λs6 w7 hres7=> ?_⟩;obtain ⟨VD,hn7,xb7,JV,-⟩:=Y7 s6 w7 hres7;refine ⟨JV _ (λe=>by have:=(VU.own.lt e).2;omega) aa,s6,rfl,?_,Below.trans x4 (Below.trans (Below.mono x5 x4.size) xb7)⟩;show aj _ _ _ _ _ _;unfold pC;rw [aT];simpa using VD
end Go.Proofs.YtalpkjfpmdpbiaaGreatDoor
namespace Go.Proofs.YtalpkjfpmdpbiaaGreatDoor
open Go Go.Vc Go.RowKit Go.Proofs Go.dS Go.bh Go.Code
def LW{P:Nat->Prop}(s:Sl)(b:List Int)(w:World)(h:RY P w s b)(hn:b.length<=1000000000):ah 217 #[s] w λe w'=>∃s':Sl,e=Value.tuple #[s',.int .i64 (kV b).2]/\RY P w' s' (kV b).1/\Ext w w':=by
 apply (Lf.vc (a0:=s));have kf:=h.len;apply Br.mk<;>intro hc
 ·replace hc:=fe hc;rw [wI] at hc;have e:kV b=([],3):=by unfold kV;rw [if_pos aa]
  rw [e];exact ⟨⟨none,0,0⟩,rfl,RY.nil,Ext.bX _⟩
 ·replace hc:=eX hc;rw [wI] at hc;obtain ⟨m,hm⟩:∃m,b.length=m+2:=⟨b.length-2,by omega⟩;have wk:ai (((s.n:Nat):Int)-2)=((m:Nat):Int):=by rw [wI];omega
  have wk1:=kK (j:=m);rw [wk,wk1];have hd:=h.ext (Ext.dr w);obtain ⟨x0,Zf⟩:=aZ (l:=b) (i:=m) aa;obtain ⟨x1,hx1⟩:=aZ (l:=b) (i:=m+1) aa;have b0:=h.y x0 (bf Zf);have b1:=h.y x1 (bf hx1);have ld0:ld w.drew (ae s.a (((m:Nat):Int).toNat*1))=some (.int .u8 x0):=by have:=hd.r.at (show (b.map yv)[m]? =some [.int .u8 x0] by rw [aV,Zf];rfl) (j:=0) rfl;rwa [ck] at this
  have ld1:ld w.drew (ae s.a (((m+1:Nat):Int).toNat*1))=some (.int .u8 x1):=by have:=hd.r.at (show (b.map yv)[m+1]? =some [.int .u8 x1] by rw [aV,hx1];rfl) (j:=0) rfl;rwa [ck] at this
  have e:b=b.take m++ [x0,x1]:=by
   conv=>lhs;rw [<-jK m b]
   congr 1;rw [kW aa,kW aa,List.drop_eq_nil_of_le aa];obtain ⟨_,q0⟩:=bH.1 Zf;obtain ⟨_,q1⟩:=bH.1 hx1;rw [q0,q1]
  have ht:=aao e b0 b1;have jF:RY P w.drew ⟨aA s.a 0 s.c 1,((m:Nat):Int).toNat-0,s.c-0⟩ (b.take m):=by have:=hd.cut (m:=m) (c':=s.c) (c'':=s.c-0) aa (by have:=h.c;omega);exact this
  have VW:=h.c;refine ⟨h.r.fp aa,x0,ld0,h.r.fp aa,x1,ld1,by omega,by omega,(IG ⟨aA s.a 0 s.c 1,((m:Nat):Int).toNat-0,s.c-0⟩ (b.take m) w.drew jF.r jF.y (by rw [bF];omega)).mono ?_⟩;rintro e2 w2 ⟨rfl,rfl⟩;have e3:ai (ai (ai x0*256)+ai x1)=x0*256+x1:=by rw [az (n:=x0) (by unfold inI;omega),az (n:=x1) (by unfold inI;omega),az (n:=x0*256) (by unfold inI;omega),wI]
  rw [e3];refine ⟨_,rfl,tD ld1,tD ld0,Br.mk (λhq=> ?_) (λhq=> ?_)⟩
  ·rw [if_neg (by simpa using hq)] at ht;rw [ht];exact ⟨⟨none,0,0⟩,rfl,RY.nil,Ext.dr w⟩
  ·rw [if_pos (by simpa using hq)] at ht;rw [ht];exact ⟨by omega,by omega,_,rfl,jF,Ext.dr w⟩
def uz(n:Int)(m:Nat)(hn:0<=n/\n<=1099511627776)(hm:1<=m/\m<=4)(w:World):
  Calls Tryz.prog 211 #[.int .i64 n,.int .i64 m] w λe w'=>∃s':Sl,e=.returned (.slice s'.a s'.n s'.c)/\iP w.heap.size w' s' (be m n)/\Ext w w':=by
 apply EB.vc;have pw:∀k:Nat,k<=3->(256:Int) ^ k=1\/(256:Int) ^ k=256\/(256:Int) ^ k=65536\/(256:Int) ^ k=16777216:=λk hk=>by
  match k,hk with
  |0,_=>exact .inl rfl
  |1,_=>exact .inr (.inl rfl)
  |2,_=>exact .inr (.inr (.inl rfl))
  |3,_=>exact .inr (.inr (.inr rfl))
 refine ⟨λl i u wr=>∃k:Nat,i=(k:Int)+1/\k+1+l=m/\u=256 ^ k/\wr=w,⟨m-1,0,rfl,by omega,rfl,rfl⟩,?_⟩;rintro l us i u w5 ⟨k,rfl,hk,rfl,rfl⟩;have hp:=pw k (by omega);refine Br.mk (λhc=> ?_) (λhc=> ?_)
 ·replace hc:=fe hc;refine ⟨l-1,by omega,k+1,?_,by omega,?_,rfl⟩
  ·rw [wI];omega
  ·rw [wI,Int.pow_succ]
 ·replace hc:=eX hc;have e1:(256:Int) ^ k=256 ^ m / 256:=by rw [show m=k+1 by omega,Int.pow_succ,Int.mul_ediv_cancel _ (by decide)]
  rw [e1];refine ⟨λl i o u wr=>∃(pre:List Int),i=((m-l:Nat):Int)/\l<=m/\u=256 ^ l / 256/\pre++be l n=be m n/\iP w5.heap.size wr o pre/\Ext w5 wr,⟨m,[],by simp,Nat.le_refl _,rfl,rfl,aj.nil,Ext.bX _⟩,?_⟩;rintro l2 oB i o u cC ⟨pre,rfl,hl,rfl,oC,ho,cz⟩;refine Br.mk (λjH=> ?_) (λjH=> ?_)
  ·replace jH:=fe jH;obtain ⟨j,rfl⟩:∃j,l2=j+1:=⟨l2-1,by omega⟩;have e2:(256:Int) ^(j+1) / 256=256 ^ j:=by rw [Int.pow_succ,Int.mul_ediv_cancel _ (by decide)]
   have hpj:=pw j (by omega);have e3:IntKind.wrap .u8 (Int.tmod (IntKind.wrap .i64 (Int.tdiv n (256 ^ j))) 256)=n / 256 ^ j % 256:=by have t1:Int.tdiv n (256 ^ j)=n / 256 ^ j:=Int.tdiv_eq_ediv_of_nonneg hn.1;have t2:0<=n / 256 ^ j:=Int.ediv_nonneg hn.1 (by omega);have t3:n / 256 ^ j<=n:=Int.ediv_le_self _ hn.1;rw [t1,wI,Int.tmod_eq_emod_of_nonneg t2,wrap_u8];omega
   have e4:IntKind.wrap .i64 (Int.tdiv (256 ^ j) 256)=256 ^ j / 256:=by have t1:Int.tdiv ((256:Int) ^ j) 256=256 ^ j / 256:=Int.tdiv_eq_ediv_of_nonneg (by omega);rw [t1,wI]
   have e5:IntKind.wrap .i64 (((m-(j+1):Nat):Int)+1)=((m-j:Nat):Int):=by rw [wI];omega
   rw [e2,e3,e4,e5];refine bn.2 ⟨mh.2 (by omega),λcU Bo=> ?_⟩;subst Bo;have ed:=congrArg List.length oC;rw [List.length_append,kM,kM] at ed;have BO:=eZ.n (iP.rM ho);obtain ⟨akQ,aR⟩:=aj.kJ ho (bytes:=1) (news:=yv (n / 256 ^ j % 256)) (.cells #[.int .u8 (n / 256 ^ j % 256)] fh) cz.size rfl (lF _ _) (by omega) (by omega);refine ⟨akQ,λkH cE hr=> ?_⟩;obtain ⟨f1,UC,ajG,xb,-,-⟩:=aR kH cE hr;refine ⟨f1,j,by omega,pre++ [n / 256 ^ j % 256],rfl,by omega,rfl,?_,?_,cz.trans xb⟩
   ·rw [<-oC,List.append_assoc];rfl
   ·show aj _ _ _ _ _ _;rw [List.map_append];exact UC
  ·replace jH:=eX jH;have h0:l2=0:=by omega
   subst h0;have hp':pre=be m n:=by simpa [be] using oC
   rw [hp'] at ho;exact ⟨o,rfl,ho,cz⟩
def DB(s:Sl)(b:List Int)(w:World)(hs:eZ w s b)(hb:lR b)(hn:b.length<=4):ah 218 #[s] w λe w'=>e=Value.int .i64 (dX b)/\w'=w:=by
 apply (O0.vc (a0:=s));have kf:=eZ.n hs;refine ⟨λl i n wr=>∃k:Nat,i=k/\k+l=b.length/\n=dX (b.take k)/\wr=w,⟨b.length,0,rfl,by omega,rfl,rfl⟩,?_⟩;rintro l us i n wr ⟨k,rfl,hk,rfl,rfl⟩;apply Br.mk<;>intro hc
 ·replace hc:=fe hc;obtain ⟨x,hx⟩:=aZ (l:=b) (i:=k) aa;have XX:=hb x (bf hx);have hm:(b.map yv)[k]? =some [.int .u8 x]:=by rw [aV,hx];rfl
  have mA:=hs.at hm (j:=0) rfl;rw [ck] at mA;have wk:=kK (j:=k);have rD:=AV hb (k:=k) aa;refine ⟨hs.fp aa,x,mA,l-1,by omega,k+1,wk,by omega,?_,rfl⟩;rw [cm,hx];show _=dX (b.take k++ [x]);rw [AW,az (n:=x) (by unfold inI;omega),az (n:=dX (b.take k)*256) (by unfold inI;omega),wI]
 ·replace hc:=eX hc;rw [cZ aa];exact ⟨rfl,rfl⟩
def Hy(s:Sl)(b:List Int)(v:Int)(w:World)(hs:eZ w s b)(hb:lR b)(hv:inI v):Calls Tryz.prog 168 #[.int .i64 v,.slice s.a s.n s.c] w λe w'=>∃s':Sl,e=.returned (.tuple #[.slice s'.a s'.n s'.c,.int .i64 (lZ v b).2])/\iP w.heap.size w' s' (lZ v b).1/\Ext w w':=by
 apply (HC.vc (a1:=s));have kf:=eZ.n hs;have bad:(v<1\/v>1073741824\/(b.length:Int)>65536)->∃s':Sl,Ending.returned (.tuple #[.slice none 0 0,.int .i64 1])=.returned (.tuple #[.slice s'.a s'.n s'.c,.int .i64 (lZ v b).2])/\iP w.heap.size w s' (lZ v b).1/\Ext w w:=λh=>by
  have e:lZ v b=([],1):=by unfold lZ;rw [if_pos h]
  rw [e];exact ⟨⟨none,0,0⟩,rfl,aj.nil,Ext.bX _⟩
 refine Br.mk (λh=>bad (.inl (by simpa using h))) (λh1=>Br.mk (λh=>bad (.inr (.inl (by simpa using h)))) (λh2=>Br.mk (λh=>bad (.inr (.inr (by simp at h;omega)))) (λh3=> ?_)));simp only [decide_eq_false_iff_not] at h1 h2 h3;have e:lZ v b=(pC (yc v b),0):=by unfold lZ;rw [if_neg (by omega)]
 rw [e];refine (uz v 4 (by omega) (by decide) w).mono ?_;rintro e w0 ⟨s1,rfl,ho1,x0⟩;refine ⟨s1,rfl,(uz ((s.n:Nat):Int) 3 (by omega) (by decide) w0).mono ?_⟩;rintro e w2 ⟨s3,rfl,ho3,x2⟩;refine ⟨s3,rfl,?_⟩;have hs3:=iP.rM ho3;have XN:=eZ.n hs3;rw [kM] at XN;have akR:=aj.ext ho1 x2;have hn1:=eZ.n (iP.rM ho1);rw [kM] at hn1;have a1:=akR.kl (bytes:=1) (more:=(be 3 ((s.n:Nat):Int)).map yv) (by have:=x0.size;have:=x2.size;omega) wM (vp _) (by simp only [List.length_map,kM];omega) (by simp only [List.length_map,kM];omega);rw [List.length_map,kM] at a1;obtain ⟨p1,r1⟩:=a1;refine ⟨((be 3 ((s.n:Nat):Int)).map yv).flatten,RdK.flat hs3 (by omega),by rw [XN];exact p1,λs5 w6 hr6=> ?_⟩;rw [XN] at hr6;obtain ⟨u9,hn5,xb6,-,-⟩:=r1 s5 w6 hr6;have vg:Ext w w6:=Below.trans (x0.tr x2) xb6;have hs6:=RdK.ext hs vg;have a2:=u9.kl (bytes:=1) (more:=b.map yv) vg.size wM (vp _) (by simp only [List.length_map];omega) (by simp only [List.length_map];omega);rw [List.length_map,<-kf] at a2;obtain ⟨p2,r2⟩:=a2;refine ⟨(b.map yv).flatten,RdK.flat hs6 (by omega),p2,λs8 w9 VR=> ?_⟩;obtain ⟨xt,hn8,xb9,-,-⟩:=r2 s8 w9 VR;have x09:Ext w w9:=Below.trans vg xb9;have j3:iP w.heap.size w9 s8 (yc v b):=by unfold yc;show aj _ _ _ _ _ _;rw [List.map_append,List.map_append,<-kf];exact xt
 refine (E6 s8 (yc v b) w9 (iP.rM j3) (E7 hb) (by rw [tU];omega)).mono ?_;rintro e bL ⟨eO,rfl,akS,bq⟩;exact ⟨eO,rfl,eO,rfl,aj.low akS x09.size,x09.tr bq⟩
def wW{P:Nat->Prop}(s:Sl)(b:List Int)(w:World)(h:RY P w s b)(hn:b.length<=1000000000):ah 172 #[s] w λe w'=>∃s':Sl,e=Value.tuple #[.int .i64 (iH b).1,s',.int .i64 (iH b).2.2]/\RY P w' s' (iH b).2.1/\Ext w w':=by
 apply (Le.vc (a0:=s));refine (LW s b w h hn).mono ?_;rintro e w0 ⟨s1,rfl,h1,x0⟩;have hl1:(kV b).1.length<=b.length:=by unfold kV;split<;>(try split)<;>simp [bF]<;>omega
 refine ⟨s1,_,rfl,Br.mk (λhq=> ?_) (λhq=> ?_)⟩
 ·have hq:=kX hq;have e:iH b=(0,[],(kV b).2):=by unfold iH;rw [if_pos hq]
  rw [e];exact ⟨⟨none,0,0⟩,rfl,RY.nil,x0⟩
 have hq:=kX hq;have dt:=h1.len;apply Br.mk<;>intro h7
 ·replace h7:=fe h7;have e:iH b=(0,[],3):=by unfold iH;rw [if_neg aa,if_pos aa]
  rw [e];exact ⟨⟨none,0,0⟩,rfl,RY.nil,x0⟩
 replace h7:=eX h7;have YV:=h1.c;have e0:iH b=if dX ((kV b).1.take 4)<1\/dX ((kV b).1.take 4)>1073741824\/dX (((kV b).1.drop 4).take 3)>65536\/dX (((kV b).1.drop 4).take 3)≠(((kV b).1.drop 7).length:Int) then (0,[],2) else (dX ((kV b).1.take 4),(kV b).1.drop 7,0):=by unfold iH;rw [if_neg aa,if_neg aa]
 generalize (kV b).1=a at*;have c4:RY P w0 ⟨aA s1.a 0 s1.c 1,(4:Int).toNat-0,s1.c-0⟩ (a.take 4):=h1.cut (m:=4) aa aa;have c7:eZ w0 ⟨aA s1.a ((4:Int).toNat) s1.c 1,(7:Int).toNat-(4:Int).toNat,s1.c-(4:Int).toNat⟩ ((a.drop 4).take 3):=by have q:=RdK.rest h1.r (l:=4) (m:=s1.c) (n':=a.length-4) (c':=s1.c-4) (by rw [aB]) (by rw [aB];omega);rw [<-List.map_drop] at q;have q2:=RdK.cut (c':=5) (c'':=s1.c-4) q (m:=3) (by rw [aB,iC];omega);rw [<-List.map_take,eJ] at q2;exact q2
 refine ⟨by omega,by omega,(DB _ _ w0 c4.r c4.y (by rw [bF];omega)).mono ?_⟩;rintro e w3 ⟨rfl,rfl⟩;refine ⟨_,rfl,by omega,by omega,by omega,by omega,(DB _ _ w3 c7 (λc hc=>h1.y c (oE (kq hc))) (by rw [bF];omega)).mono ?_⟩;rintro e w5 ⟨rfl,rfl⟩;refine ⟨_,rfl,?_⟩;have wk:ai (((s1.n:Nat):Int)-7)=((a.drop 7).length:Int):=by rw [wI,iC];omega
 rw [wk];have bad:(dX (a.take 4)<1\/dX (a.take 4)>1073741824\/dX ((a.drop 4).take 3)>65536\/dX ((a.drop 4).take 3)≠((a.drop 7).length:Int))->∃s':Sl,Ending.returned (.tuple #[af,.slice none 0 0,(2:Int)])=Value.tuple #[.int .i64 (iH b).1,s',.int .i64 (iH b).2.2]/\RY P w5 s' (iH b).2.1/\Ext w w5:=λq=>by rw [e0,if_pos q];exact ⟨⟨none,0,0⟩,rfl,RY.nil,x0⟩
 refine Br.mk (λq=>bad (.inl (by simpa using q))) (λq1=>Br.mk (λq=>bad (.inr (.inl (by simpa using q)))) (λq2=>Br.mk (λq=>bad (.inr (.inr (.inl (by simpa using q))))) (λq3=>Br.mk (λq=>bad (.inr (.inr (.inr (by simpa using q))))) (λq4=> ?_))));have q4:=kX q4;simp only [bV] at q1 q2 q3;rw [e0,if_neg (by rintro (q|q|q|q);exact q1 q;exact q2 q;exact q3 q;exact q q4)];have xd:=Ext.dr w5;refine ⟨by omega,by omega,⟨aA s1.a ((7:Int).toNat) s1.c 1,s1.n-(7:Int).toNat,s1.c-(7:Int).toNat⟩,rfl,?_,x0.tr xd⟩;have h1d:=h1.ext xd;refine ⟨?_,λc hc=>h1.y c (oE hc),λdN g hg=>h1.p (λe=>dN (by rw [e];exact List.drop_nil)) g (AX hg),by show s1.n-(7:Int).toNat<=s1.c-(7:Int).toNat;omega⟩;have q:=RdK.rest h1d.r (l:=7) (m:=s1.c) (n':=s1.n-7) (c':=s1.c-7) (by rw [aB];omega) (by rw [aB];omega);rw [<-List.map_drop] at q;exact q
end Go.Proofs.YtalpkjfpmdpbiaaGreatDoor
namespace Go.Proofs.YtalpkjfpmdpbiaaGreatDoor
open Go Go.Vc Go.RowKit Go.Proofs Go.dS Go.bh Go.Code
abbrev Wi:=Int × Sl × List Int
abbrev wv(y:Wi):LV:=[.int .i64 y.1,.slice y.2.1.a y.2.1.n y.2.1.c]
abbrev wm(y:Wi):kU:=(y.1,y.2.2)
abbrev Pj:TypeId:=274
structure xU(P:Nat->Prop)(w:World)(s:Sl)(its:List Wi):Prop where
 r:RdK w s 2 (its.map wv)
 y:∀y ∈ its,RY P w y.2.1 y.2.2
 p:its≠ []->∀g,s.bj=some g->P g
section
variable {P P':Nat->Prop} {w w':World} {s:Sl} {its:List Wi}
def xU.ext(h:xU P w s its)(x:Ext w w'):xU P w' s its:=⟨h.r.ext x,λy hy=>(h.y y hy).ext x,h.p⟩
def xU.same(h:xU P w s its)(hk:∀i,P i->i<w.heap.size->w'.heap[i]? =w.heap[i]?/\P' i):xU P' w' s its:=by
 have hb:its.map wv≠ []->its≠ []:=λq e=>q (by rw [e];rfl)
 have hb':its≠ []->its.map wv≠ []:=λq e=>q (by simpa using e)
 exact ⟨RdK.AB h.r λdN g hg=>(hk g (h.p (hb dN) g hg) (RdK.jX h.r aC dN hg)).1,λy hy=>(h.y y hy).same hk,λdN g hg=>(hk g (h.p dN g hg) (RdK.jX h.r aC (hb' dN) hg)).2⟩
def xU.nil:xU P w ⟨none,0,0⟩ []:=⟨⟨rfl,(λr hr=>by cases hr),λi r hi=>by simp at hi⟩,(λy hy=>by cases hy),λh=>absurd rfl h⟩
def xU.n(h:xU P w s its):s.n=its.length:=by have:=h.r.n;rwa [aB] at this
def xU.at(h:xU P w s its){k:Nat}{y:Wi}(hk:its[k]? =some y):cA s.a (k:Int) s.n/\(ae s.a (((k:Nat):Int).toNat*2)).isSome=true/\ld w (ae (ae s.a (((k:Nat):Int).toNat*2)) 0)=some (.int .i64 y.1)/\ld w (ae (ae s.a (((k:Nat):Int).toNat*2)) 1)=some (.slice y.2.1.a y.2.1.n y.2.1.c):=by
 have hl:=(bH.1 hk).1;have hn:=h.n;have cX:=RdK.fp h.r aC (i:=(k:Int)) aa aa;have hr:(its.map wv)[k]? =some (wv y):=by rw [aV,hk];rfl
 exact ⟨cX,by rw [ea];exact cX.1,h.r.at hr (j:=0) rfl,h.r.at hr (j:=1) rfl⟩
def xU.load(h:xU P w s its){k:Nat}{y:Wi}(hk:its[k]? =some y):au w (ae s.a (((k:Nat):Int).toNat*2)) 0 [y.1,.slice y.2.1.a y.2.1.n y.2.1.c]:=by
 obtain ⟨-,-,h0,h1⟩:=h.at hk;refine ga λj v hj=> ?_
 rw [cP]
 match j,hj with
 |0,hj=>cases hj;exact h0
 |1,hj=>cases hj;exact h1
def xU.own{B:Nat}(h:aj B Pj 2 w s (its.map wv))(hy:∀y ∈ its,RY P w y.2.1 y.2.2)(hP:∀i,B<=i->P i):xU P w s its:=⟨aj.rd h aC,hy,λ_ g hg=>hP g (h.own.lt hg).1⟩
end
def jZ:Bool->List Wi->Wi->List Wi
 |done,[],w=>if done then [] else [w]
 |done,x::t,w=>(if done=false/\x.1>=w.1 then [w] else [])++(if x.1≠w.1 then [x] else [])++jZ (done||decide (x.1>=w.1)) t w
def HX:∀(b:Bool)(t:List Wi)(w:Wi),(jZ b t w).map wm=Pt b (t.map wm) (wm w)
 |b,[],w=>by cases b<;>rfl
 |b,x::t,w=>by
  show List.map wm (_++_++_)=(_++_++_)
  rw [aT,aT,HX]
  congr 1
  congr 1
  ·split<;>rfl
  ·split<;>rfl
def Ia:∀(b:Bool)(t:List Wi)(w y:Wi),y ∈ jZ b t w->y=w\/y ∈ t
 |b,[],w,y,h=>by cases b<;>simp [jZ] at h;exact .inl h
 |b,x::t,w,y,h=>by
  unfold jZ at h
  rcases cu.1 h with h|h
  ·rcases cu.1 h with h|h
   ·split at h
    ·exact .inl (by simpa using h)
    ·cases h
   ·split at h
    ·exact .inr (by simp at h;rw [h];exact .head _)
    ·cases h
  ·rcases Ia _ t w y h with h|h
   ·exact .inl h
   ·exact .inr (.tail _ h)
def Ib:∀(b:Bool)(t:List Wi)(w:Wi),(jZ b t w).length<=t.length+(if b then 0 else 1)
 |b,[],w=>by cases b<;>simp [jZ]
 |b,x::t,w=>by
  have h:=Ib (b||decide (x.1>=w.1)) t w
  unfold jZ
  simp only [eP,fX]
  cases b with
  |true=>
   rw [if_neg cx]
   simp only [Bool.true_or] at h ⊢
   have:(if x.1≠w.1 then [x] else []).length<=1:=by split<;>simp
   generalize (if x.1≠w.1 then [x] else [])=z at*;simp at h ⊢;omega
  |false=>
   have:(if x.1≠w.1 then [x] else []).length<=1:=by split<;>simp
   generalize (if x.1≠w.1 then [x] else [])=z at*;by_cases q:x.1>=w.1
   ·rw [if_pos ⟨rfl,q⟩];simp [q] at h ⊢;omega
   ·rw [if_neg (λe=>q e.2)];simp [q] at h ⊢;omega
def Ph{P:Nat->Prop}(s:Sl)(its:List Wi)(w:World)(h:xU P w s its)(hn:fK (its.map wm)<=1099511627776)(hi:its.length<=1099511627776):ah 214 #[s] w λe w'=>e=Value.int .i64 (fK (its.map wm))/\w'=w:=by
 apply (OX.vc (a0:=s));have kf:=h.n;have le:∀k,fK ((its.take k).map wm)<=fK (its.map wm):=λk=>by have:=Ic ((its.take k).map wm) ((its.drop k).map wm);rw [<-aT,jK] at this;omega
 refine ⟨λl i n wr=>∃k:Nat,i=k/\k+l=its.length/\n=fK ((its.take k).map wm)/\wr=w,⟨its.length,0,rfl,by omega,rfl,rfl⟩,?_⟩;rintro l us i n wr ⟨k,rfl,hk,rfl,rfl⟩;apply Br.mk<;>intro hc
 ·replace hc:=fe hc;obtain ⟨y,hy⟩:=aZ (l:=its) (i:=k) aa;obtain ⟨cX,lA,-,h1⟩:=h.at hy;have hyl:=(h.y y (bf hy)).len;have l1:=le k;have l2:=le (k+1);have e:fK ((its.take (k+1)).map wm)=fK ((its.take k).map wm)+y.2.2.length:=by rw [cm,hy];show fK ((its.take k++ [y]).map wm)=_;rw [aT,Ic];rfl
  have wk:=kK (j:=k);refine ⟨cX,BM lA ⟨y.2.1,h1,l-1,by omega,k+1,wk,by omega,?_,rfl⟩⟩;rw [wI];omega
 ·replace hc:=eX hc;rw [cZ aa];exact ⟨rfl,rfl⟩
set_option maxRecDepth 100000 in
def Pg{P:Nat->Prop}(s:Sl)(its:List Wi)(y:Wi)(w:World)(h:xU P w s its)(hy:RY P w y.2.1 y.2.2)(hP:Fw P w)(hi:its.length<=1000000000):
  ah 215 #[s,.agg #[y.1,.slice y.2.1.a y.2.1.n y.2.1.c]] w λe w'=>∃s':Sl,e=Value.slice s'.a s'.n s'.c/\xU P w' s' (jZ false its y)/\Ext w w':=by
 apply (OY.vc (a0:=s) (ak:=y.2.1));have kf:=h.n;intro w0 e0;have x0:=bo e0;have z0:=dt e0;have ed:=Ib false its y;simp only [Bool.false_eq_true,if_false] at ed;have u7:=Ia false its y;have push:∀{wr:World} {so:Sl} {o:List Wi} (y':Wi),Ext w0 wr->aj w0 Pj 2 wr so (o.map wv)->o.length<=its.length+1->
   ∀wz,wz=wr.alloc (.cells #[y'.1,.slice y'.2.1.a y'.2.1.n y'.2.1.c] 274)->aF 32 2 wz ⟨so.a,so.n,so.c⟩ 1 [y'.1,.slice y'.2.1.a y'.2.1.n y'.2.1.c]/\
   ∀(s':Sl)(w':World),aE 274 2 wz ⟨so.a,so.n,so.c⟩ 1 [y'.1,.slice y'.2.1.a y'.2.1.n y'.2.1.c] s' w'->w'.heap[w.heap.size]? =wz.heap[w.heap.size]?/\w'.heap[wr.heap.size]? =wz.heap[wr.heap.size]?/\aj w0 Pj 2 w' s' ((o++ [y']).map wv)/\Ext w0 w'/\
    (∀j,so.bj≠some j->j<wr.heap.size->w'.heap[j]? =wz.heap[j]?)/\(s'.bj=so.bj\/s'.bj=some (wr.heap.size+1)):=by
  intro wr so o y' xr ho yk wz ez;subst ez;have BO:=aj.rd ho aC;have BO:=BO.n;rw [aB] at BO;obtain ⟨hp,aR⟩:=ho.kJ (bytes:=32) (news:=wv y') (.cells #[y'.1,.slice y'.2.1.a y'.2.1.n y'.2.1.c] 274) xr.size rfl (Ap _ _ _ _) aa aa;refine ⟨hp,λs' w' hr=> ?_⟩;obtain ⟨f1,ho',hn',xb,hk,uM⟩:=aR s' w' hr;have zr:=xr.size;have xa:=Ext.al wr (.cells #[y'.1,.slice y'.2.1.a y'.2.1.n y'.2.1.c] 274);refine ⟨?_,f1,by rw [aT];exact ho',xr.trans xb,λj hj NG=> ?_,uM⟩
  ·rw [xb.block _ aa,xa.heap aa]
  ·rw [hk j hj NG,xa.heap NG]
 refine ⟨λn i b so wr=>∃(k:Nat)(o:List Wi),i=k/\k+n=its.length/\aj w0 Pj 2 wr so (o.map wv)/\o++jZ b (its.drop k) y=jZ false its y/\Ext w0 wr,⟨its.length,rfl,0,[],rfl,by omega,aj.nil,rfl,Ext.bX _⟩,?_⟩;rintro n us i b so wr ⟨k,o,rfl,hk,ho,hl,xr⟩;have yk:o.length<=its.length+1:=by have:=congrArg List.length hl;rw [eP] at this;omega
 apply Br.mk<;>intro hc
 ·replace hc:=fe hc;obtain ⟨x,hx⟩:=aZ (l:=its) (i:=k) aa;have hdr:its.drop k=x::its.drop (k+1):=by obtain ⟨rF,q⟩:=bH.1 hx;rw [kW rF,q]
  rw [hdr] at hl;have wk:=kK (j:=k);have rd:∀{v:World},Ext w0 v->xU P v s its:=λx'=>h.ext (x0.tr x')
  have xd:=Ext.dr wr;have xdd:=xd.tr (Ext.dr wr.drew);have skip:(b=true\/¬x.1>=y.1)->∀n',n'<n->k+1+n'=its.length->(x.1=y.1->∀v,Ext w0 v->aj w0 Pj 2 v so (o.map wv)->∃(k':Nat)(o':List Wi),ai ((k:Int)+1)=k'/\k'+n'=its.length/\aj w0 Pj 2 v so (o'.map wv)/\o'++jZ b (its.drop k') y=jZ false its y/\Ext w0 v)/\
    (x.1≠y.1->∀v sv,Ext w0 v->aj w0 Pj 2 v sv ((o++ [x]).map wv)->∃(k':Nat)(o':List Wi),ai ((k:Int)+1)=k'/\k'+n'=its.length/\aj w0 Pj 2 v sv (o'.map wv)/\o'++jZ b (its.drop k') y=jZ false its y/\Ext w0 v):=by
   intro hb n' hn' Fq;have hstep:jZ b (x::its.drop (k+1)) y=(if x.1≠y.1 then [x] else [])++jZ b (its.drop (k+1)) y:=by
    show (if b=false/\x.1>=y.1 then [y] else [])++_++_=_;have e1:¬(b=false/\x.1>=y.1):=by rintro ⟨q1,q2⟩;rcases hb with q|q;exact absurd (q.symm.trans q1) aC;exact q q2
    have e2:(b||decide (x.1>=y.1))=b:=by
     rcases hb with q|q
     ·rw [q];rfl
     ·rw [show decide (x.1>=y.1)=false by simpa using q];simp
    rw [if_neg e1,e2];rfl
   rw [hstep] at hl;refine ⟨λq v xv hv=> ?_,λq v sv xv hv=> ?_⟩
   ·rw [if_neg (by simpa using q)] at hl;exact ⟨k+1,o,wk,by omega,hv,hl,xv⟩
   ·rw [if_pos q,<-mX] at hl;exact ⟨k+1,o++ [x],wk,by omega,hv,hl,xv⟩
  have low:(b=true\/¬x.1>=y.1)->cA s.a (k:Int) s.n/\bk (eV (ae s.a (((k:Int)).toNat*2))) (∃(da:Int),ld wr.drew.drew (ae (ae s.a (((k:Int)).toNat*2)) 0)=some (.int .i64 da)/\
    Br ((da:Int) !=y.1)
    (cA s.a (k:Int) s.n/\∃(dZ:Int)(lW:Sl),au wr.drew.drew (ae s.a (((k:Int)).toNat*2)) 0 [dZ,lW]/\
    ∀eN:World,eN=wr.drew.drew.alloc (.cells #[dZ,lW] 274)->
    aF 32 2 eN ⟨so.a,so.n,so.c⟩ 1 [dZ,lW]/\∀(mf:Sl)(ia:World),aE 274 2 eN ⟨so.a,so.n,so.c⟩ 1 [dZ,lW] mf ia->ia.heap[w.heap.size]? =eN.heap[w.heap.size]?/\ia.heap[wr.drew.drew.heap.size]? =eN.heap[wr.drew.drew.heap.size]?/\
    ∃n8,n8<n/\aP [y.1,.slice y.2.1.a y.2.1.n y.2.1.c]/\∃(k':Nat)(o':List Wi),ai ((k:Int)+1)=k'/\k'+n8=its.length/\aj w0 Pj 2 ia ⟨mf.a,mf.n,mf.c⟩ (o'.map wv)/\o'++jZ b (its.drop k') y=jZ false its y/\Ext w0 ia)
    (∃n8,n8<n/\aP [y.1,.slice y.2.1.a y.2.1.n y.2.1.c]/\∃(k':Nat)(o':List Wi),ai ((k:Int)+1)=k'/\k'+n8=its.length/\aj w0 Pj 2 wr.drew.drew ⟨so.a,so.n,so.c⟩ (o'.map wv)/\o'++jZ b (its.drop k') y=jZ false its y/\Ext w0 wr.drew.drew)):=by
   intro hb;have rdd:=rd (xr.tr xdd);obtain ⟨cX,lA,h0,-⟩:=rdd.at hx;obtain ⟨k1,k2⟩:=skip hb (n-1) aa aa;refine ⟨cX,BM lA ⟨x.1,h0,Br.mk (λq=> ?_) (λq=> ?_)⟩⟩
   ·refine ⟨cX,x.1,x.2.1,rdd.load hx,λwz ez=> ?_⟩;obtain ⟨hp,aR⟩:=push x (xr.tr xdd) (aj.ext ho xdd) yk wz ez;refine ⟨hp,λs' w' hr=> ?_⟩;obtain ⟨f1,f2,ho',x',-,-⟩:=aR s' w' hr;exact ⟨f1,f2,n-1,by omega,rfl,k2 (by simpa using q) w' s' x' ho'⟩
   ·exact ⟨n-1,by omega,rfl,k1 (by simpa using q) _ (xr.tr xdd) (aj.ext ho xdd)⟩
  cases hb:b with
  |true=>subst hb;exact Br.mk (λq=>by simp at q) (λ_=>low (.inl rfl))
  |false=>
   subst hb;refine Br.mk (λ_=> ?_) (λq=>by simp at q);have rdd:=rd (xr.tr xd);obtain ⟨cX,lA,h0,-⟩:=rdd.at hx;refine ⟨cX,BM lA ⟨x.1,h0,Br.mk (λq=> ?_) (λq=>low (.inr (by simpa using q)))⟩⟩;have q:=kX q;intro bL wA;obtain ⟨hp,aR⟩:=push y (xr.tr xd) (aj.ext ho xd) yk bL wA;refine ⟨hp,λeO bS hr=> ?_⟩;obtain ⟨f1,f2,Qy,bU,aqv,aku⟩:=aR eO bS hr;have hstep:jZ false (x::its.drop (k+1)) y=[y]++(if x.1≠y.1 then [x] else [])++jZ true (its.drop (k+1)) y:=by show (if false=false/\x.1>=y.1 then [y] else [])++_++jZ (false||decide (x.1>=y.1)) _ _=_;rw [if_pos ⟨rfl,q⟩,show decide (x.1>=y.1)=true by simpa using q];rfl
   rw [hstep] at hl;have XR:=Ext.dr bS;have afe:=rd (bU.tr XR);obtain ⟨hin2,hso2,h02,-⟩:=afe.at hx;have ho12d:=aj.ext Qy XR;have r10:Row bL wr.drew.heap.size [y.1,.slice y.2.1.a y.2.1.n y.2.1.c] 274:=Row.nw wA;have VA:wr.drew.heap.size<bS:=(r10.same f2).lt;refine ⟨f1,f2,hin2,BM hso2 ⟨x.1,h02,Br.mk (λq2=> ?_) (λq2=> ?_)⟩⟩
   ·have q2:=kX q2;rw [if_pos q2] at hl;refine ⟨hin2,x.1,x.2.1,afe.load hx,λcY yZ=> ?_⟩;have hol2:(o++ [y]).length<=its.length+1:=by have:=congrArg List.length hl;simp only [eP] at this ⊢;omega
    obtain ⟨akv,hres16⟩:=push x (bU.tr XR) ho12d hol2 cY yZ;refine ⟨akv,λgF dA akw=> ?_⟩;obtain ⟨g1,g2,XS,cf,XH,-⟩:=hres16 gF dA akw;refine ⟨g1,XH _ (λe=> ?_) VA,g2,n-1,by omega,rfl,k+1,o++ [y]++ [x],wk,by omega,XS,?_,cf⟩
    ·rcases aku with e'|e'
     ·have:=(ho.own.lt (e'.symm.trans e)).2;have hz:=kQ wr;omega
     ·have:=Option.some.inj (e'.symm.trans e);omega
    ·rw [<-hl];simp
   ·have q2:=kX q2;rw [if_neg (by simpa using q2)] at hl;exact ⟨n-1,by omega,rfl,k+1,o++ [y],wk,by omega,ho12d,by rw [<-hl];simp,bU.tr XR⟩
 ·replace hc:=eX hc;have hd:its.drop k=[]:=List.drop_eq_nil_of_le aa;rw [hd] at hl;have fin:∀{v:World} {sv:Sl},Ext w0 v->aj w0 Pj 2 v sv ((jZ false its y).map wv)->∃s':Sl,Ending.returned (.slice sv.a sv.n sv.c)=Value.slice s'.a s'.n s'.c/\xU P v s' (jZ false its y)/\Ext w v:=λ{v sv} xv hv=>by
   refine ⟨sv,rfl,xU.own hv (λz hz=> ?_) (λi hi=>hP i aa),x0.tr xv⟩;rcases u7 z hz with rfl|hz
   ·exact hy.ext (x0.tr xv)
   ·exact (h.y z hz).ext (x0.tr xv)
  cases hb:b with
  |true=>
   subst hb;refine Br.mk (λq=>by simp at q) (λ_=>fin xr ?_);rw [<-hl];simpa [jZ] using ho
  |false=>
   subst hb;refine Br.mk (λ_=>λwz ez=> ?_) (λq=>by simp at q);obtain ⟨hp,aR⟩:=push y xr ho yk wz ez;refine ⟨hp,λs' w' hr=> ?_⟩;obtain ⟨f1,f2,ho',x',-,-⟩:=aR s' w' hr;refine ⟨f1,f2,fin x' ?_⟩;rw [<-hl];exact ho'
end Go.Proofs.YtalpkjfpmdpbiaaGreatDoor
namespace Go.Proofs.YtalpkjfpmdpbiaaGreatDoor
open Go Go.Vc Go.RowKit Go.Proofs Go.dS Go.bh Go.Code
def RW(P:Nat->Prop)(w:World)(s:Sl)(l:List kU):Prop:=∃its,xU P w s its/\its.map wm=l
abbrev dv(d:Dk)(s1 s2:Sl):Value:=.agg #[d.room,d.c9,d.wait,s1,s2]
structure wU(P:Nat->Prop)(w:World)(d:Dk)(s1 s2:Sl):Prop where
 s:RW P w s1 d.safe
 l:RW P w s2 d.l
section
variable {P P':Nat->Prop} {w w':World} {s s1 s2:Sl} {l:List kU} {d:Dk}
def RW.ext(h:RW P w s l)(x:Ext w w'):RW P w' s l:=by obtain ⟨its,h1,h2⟩:=h;exact ⟨its,h1.ext x,h2⟩
def RW.same(h:RW P w s l)(hk:∀i,P i->i<w.heap.size->w'.heap[i]? =w.heap[i]?/\P' i):RW P' w' s l:=by obtain ⟨its,h1,h2⟩:=h;exact ⟨its,h1.same hk,h2⟩
def RW.nil:RW P w ⟨none,0,0⟩ []:=⟨[],xU.nil,rfl⟩
def wU.ext(h:wU P w d s1 s2)(x:Ext w w'):wU P w' d s1 s2:=⟨h.s.ext x,h.l.ext x⟩
def wU.same(h:wU P w d s1 s2)(hk:∀i,P i->i<w.heap.size->w'.heap[i]? =w.heap[i]?/\P' i):wU P' w' d s1 s2:=⟨h.s.same hk,h.l.same hk⟩
def Nd(l:List kU)(y:kU):(lay l y).length<=l.length+1:=by have h1:=(pA l y).length_eq;have h2:=C7 (λx:kU=>decide (x.1≠y.1)) l;simp only [fX] at h1;omega
def ku:∀(t l:List kU),(t.foldl lay l).length<=l.length+t.length
 | [],l=>by simp
 |y::t,l=>by
  have h1:=ku t (lay l y)
  have h2:=Nd l y
  simp only [jL,fX];omega
def AD(y:Wi)(h:RW P w s l)(hy:RY P w y.2.1 y.2.2)(hP:Fw P w)(hi:l.length<=1000000000):
  ah 215 #[s,.agg #[y.1,.slice y.2.1.a y.2.1.n y.2.1.c]] w λe w'=>∃s':Sl,e=s'/\RW P w' s' (lay l (wm y))/\Ext w w':=by
 obtain ⟨its,h1,rfl⟩:=h;refine (Pg s its y w h1 hy hP (by simpa using hi)).mono ?_;rintro e w' ⟨s',rfl,h',x'⟩;exact ⟨s',rfl,⟨_,h',HX false its y⟩,x'⟩
def vW(h:wU P w d s1 s2)(hP:Fw P w)(hi:d.safe.length<=100000000/\d.l.length<=100000000):
  ah 216 #[dv d s1 s2] w λe w'=>∃s':Sl,e=s'/\RW P w' s' (gd d)/\Ext w w':=by
 apply (OZ.vc (aI:=s1) (aJ:=s2));intro w0 e0;have x0:=bo e0;have z0:=dt e0;obtain ⟨its,hl,hle⟩:=h.l;have hln:its.length=d.l.length:=by rw [<-hle,aB]
 have kf:=hl.n;refine ⟨λn i so wr=>∃k:Nat,i=k/\k+n=its.length/\RW P wr so ((d.l.take k).foldl lay d.safe)/\Ext w0 wr,⟨its.length,rfl,0,rfl,by omega,h.s.ext x0,Ext.bX _⟩,?_⟩;rintro n us i so wr ⟨k,rfl,hk,ho,xr⟩;apply Br.mk<;>intro hc
 ·replace hc:=fe hc;obtain ⟨y,hy⟩:=aZ (l:=its) (i:=k) aa;have hr:=hl.ext (x0.tr xr);have hfl:=ku (d.l.take k) d.safe;have htl:(d.l.take k).length<=d.l.length:=by rw [bF];omega
  refine ⟨(hr.at hy).1,y.1,y.2.1,hr.load hy,(AD y ho (hr.y y (bf hy)) (hP.ext (x0.tr xr)) aa).mono ?_⟩;rintro e bL ⟨eO,rfl,h11,bR⟩;have zr:=xr.size;refine ⟨eO,rfl,bR.heap aa,n-1,by omega,rfl,k+1,by rw [wI];omega,by omega,?_,xr.tr bR⟩;have:d.l[k]? =some (wm y):=by rw [<-hle,aV,hy];rfl
  rw [cm,this];show RW P bL eO ((d.l.take k++ [wm y]).foldl lay d.safe);rw [jc];exact h11
 ·replace hc:=eX hc;rw [cZ aa] at ho;exact ⟨so,rfl,ho,x0.tr xr⟩
def xk(d:Dk)(s1 s2:Sl)(hd:iu d)(w:World):
  ah 213 #[dv d s1 s2] w λe w'=>e=Value.tuple #[dv (eg d).1 s1 s2,.bool (eg d).2]/\Ext w w':=by
 apply (HD.vc (aI:=s1) (aJ:=s2));intro w0 e0 w1 e1;have x1:Ext w w1:=(bo e0).ay e1;have z0:=dt e0;have hf:=hd.f;refine Br.mk (λhc=> ?_) (λhc=>Br.mk (λjH=> ?_) (λjH=> ?_))
 ·intro w2 e2 w3 e3;have e:eg d=({d with wait:=0},false):=by unfold eg;rw [if_pos (by simpa using hc)]
  rw [e];exact ⟨rfl,(x1.ab e2 (ax _)).ab e3 aa⟩
 ·intro w2 e2 w3 e3;have jH:=kX jH;have e:eg d=({d with c9:=d.c9-1},true):=by unfold eg;rw [if_neg (by simpa using hc),if_pos jH]
  have ew:ai (d.c9-1)=d.c9-1:=wI;rw [ew] at e2 e3 ⊢;rw [e];exact ⟨rfl,(x1.ab e2 (ax _)).ab e3 aa⟩
 ·intro w2 e2;have e:eg d=(d,false):=by unfold eg;rw [if_neg (by simpa using hc),if_neg (by simpa using jH)]
  rw [e];exact ⟨rfl,x1.ab e2 aa⟩
abbrev Hx(P:Nat->Prop)(w:World)(D:Dk × Int)(e:Ending)(w':World):Prop:=∃Jm FA:Sl,e=Value.tuple #[dv D.1 Jm FA,D.2]/\wU P w' D.1 Jm FA/\Ext w w'
def OM(h:wU P w d s1 s2)(hP:Fw P w)(hd:iu d)(hi:d.safe.length<=10000000/\d.l.length<=10000000)(k:Int)(s:Sl)(b:List Int)(hb:RY P w s b)(uM:b.length<=1000000000):
  ah 169 #[dv d s1 s2,k,s] w (Hx P w (fZ d k b)):=by
 apply (OU.vc (aI:=s1) (aJ:=s2) (a2:=s));intro w0 e0 w1 e1;have x1:Ext w w1:=(bo e0).ay e1;have z0:=dt e0;have z1:w1.heap.size=w.heap.size+2:=by rw [e1];simp [z0]
 have r1:Row w1 w [d.room,d.c9,d.wait,s1,s2] 27:=(by rw [e0];exact Row.new w [_,_,_,_,_] _:Row w0 w _ 27).ext (bo e1);refine (xk d s1 s2 hd w1).mono ?_;rintro e w2 ⟨rfl,x2⟩;have z2:=x2.size;obtain ⟨Y9,Za,as3⟩:=fE d;have hE:∀{v},Ext w v->wU P v (eg d).1 s1 s2:=λx=>⟨by rw [Y9];exact h.s.ext x,by rw [Za];exact h.l.ext x⟩
 have hn9:gd (eg d).1=gd d:=by unfold gd;rw [Y9,Za]
 refine ⟨_,_,_,s1,s2,_,rfl,x2.heap aa,x2.heap aa,λw9 e9=> ?_⟩;have x9:Ext w w9:=(x1.tr x2).ab e9 (ax _);have z9:=mC e9;have r9:Row w9 w [.int .i64 (eg d).1.room,.int .i64 (eg d).1.c9,.int .i64 (eg d).1.wait,s1,s2] 27:=by rw [e9];exact Row.set (r1.ext x2) _
 apply Br.mk<;>intro hq
 ·intro bL wA;have e:fZ d k b=((eg d).1,9):=by unfold fZ;rw [if_pos hq]
  have bq:=x9.ab wA aa;rw [e];exact ⟨s1,s2,rfl,hE bq,bq⟩
 intro cB yl bS BW;have bU:Ext w9 bS:=(bo yl).ab BW (ax _);have r12:Row bS w9 [k,s] 274:=by rw [BW];exact Row.set (by rw [yl];exact Row.new w9 [_,_] _) _
 have x12d:=bU.tr (Ext.dr bS);have x12w:=x9.tr x12d;have hDk:=hE x12w;refine (vW hDk (hP.ext x12w) (by rw [Y9,Za];omega)).mono ?_;rintro e cC ⟨sX,rfl,YF,cz⟩;rw [hn9] at YF;have Y4:=(r9.ext x12d).ext cz;have ae3:=(r12.ext (Ext.dr bS)).ext cz;have z13:=Y4.lt;have ap1:=ae3.lt;have x13w:=x12w.tr cz;have ap2:w9.heap.size<bS.drew.heap.size:=(r12.ext (Ext.dr bS)).lt;have hfl:=ku d.l d.safe;refine ⟨sX,rfl,cz.heap aa,cz.heap aa,cz.heap aa,Y4.aY (λj hj=>by simp at hj;subst hj;rfl),ae3.aY (λj hj=>by rw [cP]),(AD (k,s,b) YF (hb.ext x13w) (hP.ext x13w) (by show (gd d).length<=_;unfold gd;omega)).mono ?_⟩;rintro e cU ⟨kH,rfl,h16,bw⟩;have z15:=bw.size;obtain ⟨its,kP,hitsm⟩:=h16;have NU:=Nd (gd d) (k,b);have hlb:=HR hd.now (k,b);have Jl:=hd.So;have hrm:=hd.r;have aj4:(gd d).length<=d.safe.length+d.l.length:=hfl;have ap4:its.length=(lay (gd d) (k,b)).length:=by rw [<-aB (f:=wm),hitsm]
 refine ⟨kH,rfl,bw.heap aa,bw.heap aa,bw.heap aa,(Y4.ext bw).aY (λj hj=>by simp at hj;subst hj;rfl),(Ph kH its cU kP (by rw [hitsm];show fK (lay (gd d) (k,b))<=_;simp only at hlb;omega) aa).mono ?_⟩;rintro e cE ⟨rfl,hw⟩;subst hw;have r17:=Y4.ext bw;have x17w:=x13w.tr bw;have he:fK (its.map wm)=fK (lay (gd d) (k,b)):=by rw [hitsm]
 rw [he];refine ⟨_,rfl,rfl,rfl,rfl,r17.aY (λj hj=>by simp at hj;subst hj;rfl),Br.mk (λhr=> ?_) (λhr=> ?_)⟩
 ·intro ft uR;have cK:=x17w.ab uR aa;have hr:(fK (lay (gd d) (k,b)):Int)>d.room:=by rw [<-as3];simpa using hr
  have e:fZ d k b=((eg d).1,8):=by unfold fZ;rw [if_neg (by rw [hq];decide),if_pos hr]
  rw [e];exact ⟨s1,s2,rfl,hE cK,cK⟩
 ·have hr:¬(fK (lay (gd d) (k,b)):Int)>d.room:=by rw [<-as3];simpa using hr
  have e:fZ d k b=({(eg d).1 with l:=d.l++ [(k,b)]},0):=by unfold fZ;rw [if_neg (by rw [hq];decide),if_neg hr]
  obtain ⟨its2,FQ,hl2m⟩:=h.l;have aj5:=FQ.ext x17w;have Ga:=FQ.n;have hln2:its2.length=d.l.length:=by rw [<-hl2m,aB]
  have h0:aj cE Pj 2 cE ⟨none,0,0⟩ []:=aj.nil;have ha:=h0.kl (bytes:=32) (more:=its2.map wv) (ax _) (λr hr=>by obtain ⟨y,-,rfl⟩:=aS.1 hr;rfl) (λr hr=>by obtain ⟨y,-,rfl⟩:=aS.1 hr;exact Ap _ _ _ _) (by simp only [aB];omega) (by simp only [aB];omega);rw [aB,<-Ga] at ha;obtain ⟨hp,aR⟩:=ha;refine ⟨(its2.map wv).flatten,RdK.flat aj5.r aC,hp,λjk ct abQ=> ?_⟩;obtain ⟨ae4,ap5,eK,-,-⟩:=aR jk ct abQ;have eK:Ext cE ct:=eK;have z22:=eK.size;refine ⟨eK.heap aa,eK.heap aa,eK.heap aa,λgp JY=> ?_⟩;subst JY;have ap6:jk.n=its2.length:=by have:=(aj.rd ae4 aC).n;simpa using this
  obtain ⟨aj6,hres23⟩:=ae4.kJ (bytes:=32) (news:=[.int .i64 k,.slice s.a s.n s.c]) (.cells #[k,s] 274) z22 rfl (Ap _ _ _ _) aa aa;refine ⟨aj6,λkO eh Qh=> ?_⟩;obtain ⟨f25,uQ,ae5,da,-,-⟩:=hres23 kO eh Qh;have xa:=Ext.al ct (.cells #[k,s] 274);have x25w:Ext w eh:=Below.trans x17w (Below.trans (Below.mono eK x17w.size) (Below.mono da x17w.size));have kp:∀j,j<cE.heap.size->eh.heap[j]? =(ct.alloc (.cells #[k,s] 274)).heap[j]? :=λj hj=>by rw [da.block j hj,xa.heap aa]
  refine ⟨kp _ aa,kp _ aa,kp _ aa,f25,λhZ Jo jf yF=> ?_⟩;have dp:=(x25w.ab Jo (ax _)).ab yF aa;have aj7:aj cE Pj 2 jf kO ((its2++ [(k,s,b)]).map wv):=by
   refine aj.bM (rows:=(its2++ [(k,s,b)]).map wv) (by rw [aT];simpa using uQ) λj hj=> ?_
   have hjB:=(uQ.own.lt hj).1;rw [yF,setRow_other _ _ _ _ aa,Jo,setRow_other _ _ _ _ aa]
  rw [e];refine ⟨s1,kO,rfl,⟨(hE dp).s,its2++ [(k,s,b)],xU.own aj7 (λy hy=> ?_) (λi hi=>hP i (by have:=x17w.size;omega)),by rw [aT,hl2m];rfl⟩,dp⟩;rcases cu.1 hy with hy|hy
  ·exact (FQ.y y hy).ext dp
  ·simp only [fB] at hy;subst hy;exact hb.ext dp
def Df(h:wU P w d s1 s2)(hP:Fw P w)(hi:d.safe.length<=10000000/\d.l.length<=10000000)(k:Int):
  ah 171 #[dv d s1 s2,k] w λe w'=>∃(s:Sl)(q:Bool),e=Value.tuple #[s,q]/\RY P w' s (getD d k)/\Ext w w':=by
 apply (OV.vc (aI:=s1) (aJ:=s2));intro w0 e0;have x0:=bo e0;have z0:=dt e0;refine (vW (h.ext x0) (hP.ext x0) aa).mono ?_;rintro e w1 ⟨FA,rfl,⟨its,kP,hm⟩,x1⟩;have hn:=kP.n;have hfl:=ku d.l d.safe;have wg:its.length=(gd d).length:=by rw [<-hm,aB]
 have aj4:(gd d).length<=d.safe.length+d.l.length:=hfl;have hg:getD d k=((its.find? λy=>y.1==k).map (·.2.2)).getD []:=by unfold getD lg;rw [<-hm,List.find?_map];show ((Option.map wm (its.find? λy=>y.1==k)).map (·.2)).getD []=_;rw [Option.map_map];rfl
 rw [hg];refine ⟨FA,rfl,x1.heap aa,λn i wr=>∃j:Nat,i=j/\j+n=its.length/\(∀m,m<j->∀y,its[m]? =some y->y.1≠k)/\wr=w1,⟨its.length,rfl,0,rfl,by omega,(λm hm=>absurd hm (Nat.not_lt_zero m)),rfl⟩,?_⟩;rintro n us i wr ⟨j,rfl,hj,lk,rfl⟩;apply Br.mk<;>intro hc
 ·replace hc:=fe hc;obtain ⟨y,hy⟩:=aZ (l:=its) (i:=j) aa;obtain ⟨cX,lA,h0,h1⟩:=kP.at hy;refine ⟨cX,BM lA ⟨y.1,h0,Br.mk (λhq=> ?_) (λhq=> ?_)⟩⟩
  ·refine ⟨cX,BM lA ⟨y.2.1,h1,y.2.1,true,rfl,?_,x0.tr x1⟩⟩;have:its.find? (λy=>y.1==k)=some y:=by obtain ⟨NG,q⟩:=bH.1 hy;rw [List.find?_eq_some_iff_getElem];refine ⟨hq,j,NG,q,λm hm=> ?_⟩;have:=lk m hm _ (cy aa);simpa using this
   rw [this];exact kP.y y (bf hy)
  ·refine ⟨n-1,by omega,rfl,j+1,by rw [wI];omega,by omega,λm hm y' hy'=> ?_,rfl⟩;rcases fz m j with q|q
   ·exact lk m q y' hy'
   ·have:m=j:=by omega
    subst this;rw [hy] at hy';cases hy';simpa using hq
 ·replace hc:=eX hc;have:its.find? (λy=>y.1==k)=none:=by rw [SS];intro y hy;obtain ⟨m,hm⟩:=mR hy;have hml:=(bH.1 hm).1;simpa using lk m aa y hm
  rw [this];exact ⟨⟨none,0,0⟩,false,rfl,RY.nil,x0.tr x1⟩
def KX(h:wU P w d s1 s2)(hP:Fw P w)(hd:iu d)(hi:d.safe.length<=10000000/\d.l.length<=10000000):
  ah 170 #[dv d s1 s2] w (Hx P w (iX d)):=by
 apply (Ld.vc (aI:=s1) (aJ:=s2));intro w0 e0 w1 e1;have x1:Ext w w1:=(bo e0).ay e1;have z0:=dt e0;have z1:w1.heap.size=w.heap.size+2:=by rw [e1];simp [z0]
 refine (xk d s1 s2 hd w1).mono ?_;rintro e w2 ⟨rfl,x2⟩;have z2:=x2.size;obtain ⟨Y9,Za,as3⟩:=fE d;have hE:∀{v},Ext w v->wU P v (eg d).1 s1 s2:=λx=>⟨by rw [Y9];exact h.s.ext x,by rw [Za];exact h.l.ext x⟩
 have hn9:gd (eg d).1=gd d:=by unfold gd;rw [Y9,Za]
 refine ⟨_,_,_,s1,s2,_,rfl,x2.heap aa,x2.heap aa,λw9 e9=> ?_⟩;have x9:Ext w w9:=(x1.tr x2).ab e9 (ax _);have z9:=mC e9;apply Br.mk<;>intro hq
 ·intro bL wA;have e:iX d=((eg d).1,9):=by unfold iX;rw [if_pos hq]
  have bq:=x9.ab wA aa;rw [e];exact ⟨s1,s2,rfl,hE bq,bq⟩
 have hE9:wU (λi=>P i/\i≠w.heap.size/\i≠w0.heap.size) w9 (eg d).1 s1 s2:=by
  have:=h.same (w':=w9) (P':=λi=>P i/\i≠w.heap.size/\i≠w0.heap.size) λi hp hi=>⟨x9.heap hi,hp,by omega,by omega⟩
  exact ⟨by rw [Y9];exact this.s,by rw [Za];exact this.l⟩
 refine (vW hE9 (λi hi=>⟨hP i aa,by omega,by omega⟩) (by rw [Y9,Za];omega)).mono ?_;rintro e cB ⟨eM,rfl,nE,bR⟩;rw [hn9] at nE;refine ⟨eM,rfl,bR.heap aa,bR.heap aa,λcC qX bY mB cU Bo=> ?_⟩;have bw:=(((x9.tr bR).ab qX (ax _)).ab mB (ax _)).ab Bo aa;have e:iX d=({(eg d).1 with safe:=gd d,l:=[]},0):=by unfold iX;rw [if_neg (by rw [hq];decide),]
 rw [e];refine ⟨eM,⟨none,0,0⟩,rfl,⟨nE.same λi hp hi=>⟨?_,hp.1⟩,RW.nil⟩,bw⟩;rw [Bo,setRow_other _ _ _ _ (λq=>hp.2.2 q),mB,setRow_other _ _ _ _ (λq=>hp.2.1 q),qX,setRow_other _ _ _ _ (λq=>hp.2.1 q)]
def K1(room:Int)(w:World):ah 112 #[room] w λe w'=>e=(dv (gy room) ⟨none,0,0⟩ ⟨none,0,0⟩)/\wU P w' (gy room) ⟨none,0,0⟩ ⟨none,0,0⟩/\Ext w w':=by
 apply OS.vc;intro w0 e0 w1 e1;have x1:Ext w w1:=(bo e0).ab e1 (ax _);have ew:(if 1048576<(if 0>room then 0 else room) then 1048576 else (if 0>room then 0 else room))=min (max room 0) 1048576:=by split<;>split<;>omega
 rw [ew];exact ⟨rfl,⟨RW.nil,RW.nil⟩,x1⟩
end
end Go.Proofs.YtalpkjfpmdpbiaaGreatDoor
namespace Go.Proofs.YtalpkjfpmdpbiaaGreatDoor
open Go Go.Vc Go.RowKit Go.Proofs Go.dS Go.bh Go.Code
def M6(D:Dk)(id:Int):fU D id=
  if (iH (getD D (2*id))).2.2≠0 then (if (iH (getD D (2*id+1))).2.2≠0 then (2*id+1,0,[]) else (2*id+1,(iH (getD D (2*id+1))).1,(iH (getD D (2*id+1))).2.1))
  else if (iH (getD D (2*id+1))).2.2≠0 then (2*id,(iH (getD D (2*id))).1,(iH (getD D (2*id))).2.1)
  else if (iH (getD D (2*id))).1>=(iH (getD D (2*id+1))).1 then (2*id,(iH (getD D (2*id))).1,(iH (getD D (2*id))).2.1) else (2*id+1,(iH (getD D (2*id+1))).1,(iH (getD D (2*id+1))).2.1):=by
 unfold fU;have ha:= @Rf (getD D (2*id));have hb:= @Rf (getD D (2*id+1));generalize iH (getD D (2*id))=a at*;generalize iH (getD D (2*id+1))=b at*;by_cases qa:a.2.2=0
 ·have ha:=ha qa;have e1:fD (2*id+1,0,[]) (2*id) a=(2*id,a.1,a.2.1):=by unfold fD;rw [if_pos ⟨qa,by simp only;omega⟩]
  rw [e1,if_neg (by simpa using qa)];by_cases qb:b.2.2=0
  ·rw [if_neg (by simpa using qb)];by_cases q:a.1>=b.1
   ·rw [if_pos q];unfold fD;rw [if_neg (by simp only;omega)]
   ·rw [if_neg q];unfold fD;rw [if_pos ⟨qb,by simp only;omega⟩]
  ·rw [if_pos qb];unfold fD;rw [if_neg (λh=>qb h.1)]
 ·have e1:fD (2*id+1,0,[]) (2*id) a=(2*id+1,0,[]):=by unfold fD;rw [if_neg (λh=>qa h.1)]
  rw [e1,if_pos qa];by_cases qb:b.2.2=0
  ·have hb:=hb qb;rw [if_neg (by simpa using qb)];unfold fD;rw [if_pos ⟨qb,by simp only;omega⟩]
  ·rw [if_pos qb];unfold fD;rw [if_neg (λh=>qb h.1)]
section
variable {P P':Nat->Prop} {w w':World} {s1 s2:Sl} {d:Dk}
abbrev OL(d:Dk)(n:Nat):Prop:=d.safe.length<=n/\d.l.length<=n
def De(h:wU P w d s1 s2)(hP:Fw P w)(hd:iu d)(hi:OL d 10000000){id:Int}(hid:0<=id/\id<=1099511627776):
  ah 125 #[dv d s1 s2,id] w λe w'=>∃s:Sl,e=Value.tuple #[.int .i64 (fU d id).1,.int .i64 (fU d id).2.1,s]/\RY P w' s (fU d id).2.2/\Ext w w':=by
 apply (Sd.vc (aI:=s1) (aJ:=s2));intro w0 e0;have x0:=bo e0;have z0:=dt e0;have q1:ai (2*id)=2*id:=wI;have q2:ai (2*id+1)=2*id+1:=wI;rw [q1,q2];refine (Df (h.ext x0) (hP.ext x0) hi (2*id)).mono ?_;rintro e w1 ⟨sa,qa,rfl,ha,x1⟩;have z1:=x1.size;refine ⟨sa,qa,rfl,x1.heap aa,(Df (h.ext (x0.tr x1)) (hP.ext (x0.tr x1)) hi (2*id+1)).mono ?_⟩;rintro e w4 ⟨sb,qb,rfl,hb,x4⟩;have z4:=x4.size;have la:=yR hd (2*id);have lb:=yR hd (2*id+1);refine ⟨sb,qb,rfl,x4.heap aa,(wW sa _ w4 (ha.ext x4) aa).mono ?_⟩;rintro e w7 ⟨s9,rfl,h9,x7⟩;have z7:=x7.size;refine ⟨_,s9,_,rfl,x7.heap aa,(wW sb _ w7 (hb.ext x7) aa).mono ?_⟩;rintro e cB ⟨gl,rfl,h13,bR⟩;have h9:=h9.ext bR;have xx:=x0.tr (x1.tr (x4.tr (x7.tr bR)));rw [M6];refine ⟨_,gl,_,rfl,bR.heap aa,?_⟩;generalize iH (getD d (2*id))=a at*;generalize iH (getD d (2*id+1))=b at*;apply Br.mk<;>intro c1
 ·have c1:=kX c1;rw [if_pos c1];refine Br.mk (λc2=> ?_) (λc2=>Br.mk (λc3=>by rw [c3] at c2;cases c2) (λ_=>Br.mk (λc3=>absurd (by simpa using c3) c1) (λ_=> ?_)))
  ·rw [if_pos (by simpa using c2)];exact ⟨⟨none,0,0⟩,rfl,RY.nil,xx⟩
  ·rw [if_neg (by simpa using c2)];exact ⟨gl,rfl,h13,xx⟩
 ·have c1:=kX c1;rw [if_neg (by simpa using c1)];refine Br.mk (λc2=> ?_) (λc2=>Br.mk (λ_=>Br.mk (λc4=> ?_) (λc4=> ?_)) (λc3=>absurd c1 (by simpa using c3)))
  ·rw [if_pos (by simpa using c2)];exact ⟨s9,rfl,h9,xx⟩
  ·rw [if_neg (by simpa using c2),if_pos (by simpa using c4)];exact ⟨s9,rfl,h9,xx⟩
  ·rw [if_neg (by simpa using c2),if_neg (by simpa using c4)];exact ⟨gl,rfl,h13,xx⟩
def pL(h:wU P w d s1 s2)(hP:Fw P w)(hd:iu d)(hi:OL d 10000000)(id:Int):
  ah 80 #[dv d s1 s2,id] w λe w'=>∃s:Sl,e=Value.tuple #[s,.int .i64 (qA d id).2.1,.bool (qA d id).2.2]/\RY P w' s (qA d id).1/\Ext w w':=by
 apply (KV.vc (aI:=s1) (aJ:=s2));intro w0 e0;have x0:=bo e0;have z0:=dt e0;have bad:nN id=false->∃s:Sl,Ending.returned (.tuple #[.slice none 0 0,af,false])=Value.tuple #[s,.int .i64 (qA d id).2.1,.bool (qA d id).2.2]/\RY P w0 s (qA d id).1/\Ext w w0:=λq=>by
  have e:qA d id=([],0,false):=by unfold qA;rw [if_neg (by rw [q];decide)]
  rw [e];exact ⟨⟨none,0,0⟩,rfl,RY.nil,x0⟩
 refine Br.mk (λc=>bad (by unfold nN;simp at c ⊢;omega)) (λc=>Br.mk (λc2=>bad (by unfold nN;simp at c2 ⊢;omega)) (λc2=> ?_));simp only [bV] at c c2;refine (De (h.ext x0) (hP.ext x0) hd hi (id:=id) aa).mono ?_;rintro e w1 ⟨s,rfl,hs,x1⟩;have e:qA d id=((fU d id).2.2,(fU d id).2.1,decide ((fU d id).2.1>0)):=by unfold qA;rw [if_pos (by unfold nN;simp;omega)]
 rw [e];exact ⟨_,_,s,rfl,x1.heap aa,s,rfl,hs,x0.tr x1⟩
def Hv(D:Dk)(k:Int)(b:List Int):(fZ D k b).1.safe=D.safe:=by
 have:=(fE D).1;unfold fZ;split
 ·exact this
 ·split
  ·exact this
  ·exact this
def Hw(h:wU P w d s1 s2)(hP:Fw P w)(hd:iu d)(hi:OL d 1000000)(id:Int)(s:Sl)(b:List Int)(hb:RY P w s b)(uM:b.length<=1000000):
  ah 123 #[dv d s1 s2,id,s] w (Hx P w (oD d id b)):=by
 apply (KW.vc (aI:=s1) (aJ:=s2) (a2:=s));intro w0 e0 w1 e1;have x1:Ext w w1:=(bo e0).ay e1;have z0:=dt e0;have z1:w1.heap.size=w.heap.size+2:=by rw [e1];simp [z0]
 have bad:nN id=false->∀w2,w2=w1.setRow w0 #[d.room,d.c9,d.wait,s1,s2]->Hx P w (oD d id b) (.returned (.tuple #[dv d s1 s2,(1:Int)])) w2:=λq w2 e2=>by
  have e:oD d id b=(d,1):=by unfold oD;rw [if_neg (by rw [q];decide)]
  have x2:=x1.ab e2 aa;rw [e];exact ⟨s1,s2,rfl,h.ext x2,x2⟩
 refine Br.mk (λc=>bad (by unfold nN;simp at c ⊢;omega)) (λc=>Br.mk (λc2=>bad (by unfold nN;simp at c2 ⊢;omega)) (λc2=> ?_));simp only [bV] at c c2;have hm:nN id=true:=by unfold nN;simp;omega
 refine (De (h.ext x1) (hP.ext x1) hd ⟨by omega,by omega⟩ (id:=id) aa).mono ?_;rintro e w4 ⟨s7,rfl,h7,x4⟩;have z4:=x4.size;have hv:=X3 d id;have j1:=Gz d id;have e6:ai ((fU d id).2.1+1)=(fU d id).2.1+1:=wI;have e5:ai (ai (ai (4*id)+1)-(fU d id).1)=4*id+1-(fU d id).1:=by rw [az (n:=4*id) (by unfold inI;omega),az (n:=4*id+1) (by unfold inI;omega),wI]
 have bW:=x1.tr x4;refine ⟨_,_,s7,rfl,x4.heap aa,x4.heap aa,?_⟩;rw [e6,e5];refine (Hy s b _ w4 (hb.ext bW).r hb.y (by unfold inI;omega)).mono ?_;rintro e w8 ⟨s9,rfl,h9,x8⟩;have z8:=x8.size;have cf:=bW.tr x8;refine ⟨s9,_,rfl,x8.heap aa,x8.heap aa,Br.mk (λq=> ?_) (λq=> ?_)⟩
 ·intro cB yl;have q:(lZ ((fU d id).2.1+1) b).2≠0:=by simpa using q
  have e:oD d id b=(d,(lZ ((fU d id).2.1+1) b).2):=by unfold oD;rw [if_pos hm,if_pos q]
  have bR:=cf.ab yl aa;rw [e];exact ⟨s1,s2,rfl,h.ext bR,bR⟩
 have q:¬(lZ ((fU d id).2.1+1) b).2≠0:=by simpa using q
 have hw9:RY (λi=>P i/\i≠w0.heap.size) w8 s9 (lZ ((fU d id).2.1+1) b).1:=RY.own h9 (Se hb.y) λi hi=>⟨hP i (by have:=bW.size;omega),by omega⟩
 have h18:wU (λi=>P i/\i≠w0.heap.size) w8 d s1 s2:=h.same λi hp hi=>⟨cf.heap hi,hp,by omega⟩
 have hwl:(lZ ((fU d id).2.1+1) b).1.length<=1000000000:=by
  unfold lZ;split
  ·simp
  ·rw [vr,tU];omega
 have e:oD d id b=if (fZ d (4*id+1-(fU d id).1) (lZ ((fU d id).2.1+1) b).1).2≠0 then fZ d (4*id+1-(fU d id).1) (lZ ((fU d id).2.1+1) b).1 else iX (fZ d (4*id+1-(fU d id).1) (lZ ((fU d id).2.1+1) b).1).1:=by unfold oD;rw [if_pos hm,if_neg q]
 rw [e];have aU:=hd.put (4*id+1-(fU d id).1) (lZ ((fU d id).2.1+1) b).1;have hpl:=GA d (4*id+1-(fU d id).1) (lZ ((fU d id).2.1+1) b).1;have hps:=Hv d (4*id+1-(fU d id).1) (lZ ((fU d id).2.1+1) b).1;refine (OM h18 (λi hi=>⟨hP i aa,by omega⟩) hd ⟨by omega,by omega⟩ _ s9 _ hw9 hwl).mono ?_;rintro e bS ⟨kH,gF,rfl,nE,bU⟩;have VA:=bU.size;generalize fZ d (4*id+1-(fU d id).1) (lZ ((fU d id).2.1+1) b).1=R at*;refine ⟨_,_,_,kH,gF,_,rfl,bU.heap aa,bU.heap aa,λft uR dY BU=> ?_⟩;have du:Ext bS dY:=(bo uR).ab BU (ax _);have z20:=jE uR BU;have CB:=cf.tr (bU.tr du);have h20:=nE.ext du;apply Br.mk<;>intro q2
 ·intro ef uP;rw [if_pos (by simpa using q2)];have fT:=CB.ab uP aa;exact ⟨kH,gF,rfl,h20.same λi hp hi=>⟨by rw [uP,setRow_other _ _ _ _ (λq=>hp.2 q)],hp.1⟩,fT⟩
 ·rw [if_neg (by simpa using q2)];refine (KX h20 (λi hi=>⟨hP i aa,by omega⟩) aU ⟨by rw [hps];omega,by omega⟩).mono ?_;rintro e ct ⟨wu,lW,rfl,h22,eK⟩;refine ⟨_,_,_,wu,lW,_,rfl,eK.heap aa,eK.heap aa,eK.heap aa,λfP NF=> ?_⟩;have iO:=(CB.tr eK).ab NF aa;exact ⟨wu,lW,rfl,h22.same λi hp hi=>⟨by rw [NF,setRow_other _ _ _ _ (λq=>hp.2 q)],hp.1⟩,iO⟩
end
end Go.Proofs.YtalpkjfpmdpbiaaGreatDoor
