import Derived.Test.YtalpkjfpmdpbiaaGreatDoorKU
import Derived.Test.YtalpkjfpmdpbiaaGreatDoorGR
set_option linter.all false
namespace Go.Proofs.YtalpkjfpmdpbiaaGreatDoor
open Go Go.Vc Go.RowKit Go.Proofs Go.dQ Go.bf Go.Code
abbrev Fw(P:Nat->Prop)(w:World):Prop:=∀i,w.heap.size<=i->P i
def Fw.ext{P:Nat->Prop}{w w':World}(h:Fw P w)(x:Ext w w'):Fw P w':=λi hi=>h i (fy x.size hi)
structure RY(P:Nat->Prop)(w:World)(s:Sl)(b:List Int):Prop where
 r:eU w s b
 y:lR b
 p:b≠ []->∀g,s.bg=some g->P g
 c:s.n<=s.c
def RY.ext{P:Nat->Prop}{w w':World}{s:Sl}{b:List Int}(h:RY P w s b)(x:Ext w w'):RY P w' s b:=⟨RdK.ext h.r x,h.y,h.p,h.c⟩
def RY.nil{P:Nat->Prop}{w:World}:RY P w ⟨none,0,0⟩ []:=⟨⟨rfl,(λr hr=>by cases hr),λi r hi=>by simp at hi⟩,(λc hc=>by cases hc),λh=>absurd rfl h,ax _⟩
def RY.len{P:Nat->Prop}{w:World}{s:Sl}{b:List Int}(h:RY P w s b):s.n=b.length:=eU.n h.r
def RY.same{P P':Nat->Prop}{w w':World}{s:Sl}{b:List Int}(h:RY P w s b)(hk:∀i,P i->i<w.heap.size->w'.heap[i]? =w.heap[i]?/\P' i):RY P' w' s b:=by
 have hb:b.map yv≠ []->b≠ []:=λq e=>q (by rw [e];rfl)
 have hb':b≠ []->b.map yv≠ []:=λq e=>q (by simpa using e)
 refine ⟨RdK.Ae h.r λdI g hg=>(hk g (h.p (hb dI) g hg) (RdK.jT h.r aE dI hg)).1,h.y,λdI g hg=>(hk g (h.p dI g hg) (RdK.jT h.r aE (hb' dI) hg)).2,h.c⟩
def RY.own{P:Nat->Prop}{w:World}{B:Nat}{s:Sl}{b:List Int}(h:iM B w s b)(hb:lR b)(hP:∀i,B<=i->P i):RY P w s b:=⟨iM.rk h,hb,λ_ g hg=>hP g (h.own.lt hg).1,ak.le h⟩
def AA{s:Sl}{l m k n c:Nat}{g:Nat}(h:Sl.bg ⟨aA s.a l m k,n,c⟩=some g):s.bg=some g:=by
 obtain ⟨a,n',c'⟩:=s
 cases a with
 |none=>simp [Sl.bg,aA] at h
 |some a=>
  simp only [Sl.bg,aA] at h ⊢;split at h
  ·exact h
  ·simp at h ⊢;rw [<-h];unfold Addr.add;split<;>rfl
def RY.cut{P:Nat->Prop}{w:World}{s:Sl}{b:List Int}(h:RY P w s b){m c' c'':Nat}(hm:m<=b.length)(hc:m<=c''):RY P w ⟨aA s.a 0 c' 1,m,c''⟩ (b.take m):=by have h1:=RdK.cut (c':=c') (c'':=c'') h.r (m:=m) (by rw [aB];exact hm);rw [<-List.map_take] at h1;exact ⟨h1,λc hc=>h.y c (kh hc),λdI g hg=>h.p (λe=>dI (by rw [e];exact List.take_nil)) g (AA hg),hc⟩
def Z2:Nat->jf->jf
 |0,c=>c
 |n+1,c=>EK (Z2 n c)
def Z3(n:Nat)(c:jf):0<=cI (Z2 n c)/\cI (Z2 n c)<65536:=oK _
def Pm(s:Sl)(b:List Int)(v:jf)(w:World)(hs:eU w s b)(hb:lR b)(hn:b.length<=1099511627776):ah 248 #[(cI v),s] w λe w'=>e=Value.int .i64 (cI (qF v b))/\w'=w:=by
 apply (Oi.vc (a1:=s));have j6:=eU.n hs;refine ⟨λn i c wr=>∃k:Nat,i=k/\k+n=b.length/\c=cI (qF v (b.take k))/\wr=w,⟨b.length,0,rfl,by omega,rfl,rfl⟩,?_⟩;rintro n us i c wr ⟨k,rfl,hk,rfl,rfl⟩;apply Br.mk<;>intro hc
 ·replace hc:=fj hc;obtain ⟨x,hx⟩:=bh (l:=b) (i:=k) aa;have Xm:=hb x (bc hx);have hm:(b.map yv)[k]? =some [.int .u8 x]:=by rw [aX,hx];rfl
  have mH:=hs.at hm (j:=0) rfl;rw [bZ] at mH;have wk:=lD (j:=k);have e1:ai ((ai x)*256)=cI (j5 x<<<8):=by rw [az (n:=x) (by unfold inI;omega),wI,Lt,EL ⟨Xm.1,by omega⟩];have e:(2:Int) ^ 8=256:=rfl;rw [e];omega
  refine ⟨hs.fN aa,x,mH,?_⟩;rw [e1,Tw];refine ⟨λn i c UR=>∃j:Nat,i=j/\j+n=8/\c=cI (Z2 j (qF v (b.take k) ^^^(j5 x<<<8)))/\UR=wr,⟨8,0,rfl,rfl,rfl,rfl⟩,?_⟩;rintro n9 WI i c cA ⟨j,rfl,hj,rfl,rfl⟩;have uf:=Z3 j (qF v (b.take k) ^^^(j5 x<<<8));have lT:=Wn (Z2 j (qF v (b.take k) ^^^(j5 x<<<8)));have wj:=lD (j:=j);have w2:ai (cI (Z2 j (qF v (b.take k) ^^^(j5 x<<<8)))*2)=cI (Z2 j (qF v (b.take k) ^^^(j5 x<<<8)))*2:=wI;rw [w2];apply Br.mk<;>intro hj8
  ·apply Br.mk<;>intro h
   ·simp only [ge_iff_le,bB] at h;rw [if_pos h] at lT;refine ⟨n9-1,by simp at hj8;omega,j+1,wj,by simp at hj8;omega,?_,rfl⟩;rw [wI];exact lT
   ·simp only [ge_iff_le,bQ] at h;rw [if_neg h] at lT;exact ⟨n9-1,by simp at hj8;omega,j+1,wj,by simp at hj8;omega,lT,rfl⟩
  ·have hj8:j=8:=by simp at hj8;omega
   subst hj8;refine ⟨n-1,by omega,k+1,wk,by omega,?_,rfl⟩;rw [cu,hx];show _=cI (qF v (b.take k++ [x]));rw [pT];rfl
 ·replace hc:=fh hc;rw [dn aa];exact ⟨rfl,rfl⟩
def Ib(s:Sl)(b:List Int)(w:World)(hs:eU w s b)(hb:lR b)(hn:b.length<=1099511627776):ah 240 #[s] w λe w'=>e=Value.int .i64 (cI (jc b))/\w'=w:=by apply (Ru.vc (a0:=s));refine (Pm s b 0xFFFF#16 w hs hb hn).mono ?_;rintro e w' ⟨rfl,rfl⟩;exact ⟨_,rfl,rfl,rfl⟩
def EH(s:Sl)(b:List Int)(w:World)(hs:eU w s b)(hb:lR b)(hn:b.length<=1000000000):ah 212 #[s] w λe w'=>∃s':Sl,e=s'/\iM w w' s' (pq b)/\Ext w w':=by
 apply (Od.vc (a0:=s));have j6:=eU.n hs;refine (Ib s b w hs hb aa).mono ?_;rintro e w' ⟨rfl,rfl⟩;refine ⟨_,rfl,?_⟩;have uf:=oK (jc b);have h0:ak w'.heap.size fb 1 w' ⟨none,0,0⟩ []:=ak.nil;have ha:=h0.ke (bytes:=1) (more:=b.map yv) (ax _) vZ (uO _) (by simp only [aB];omega) (by simp only [aB];omega);rw [aB,<-j6] at ha;obtain ⟨hp,hr⟩:=ha;refine ⟨(b.map yv).flatten,RdK.flat hs aa,hp,λs3 w4 aS=> ?_⟩;obtain ⟨Vi,hn4,xb4,-,-⟩:=hr s3 w4 aS;have x4:Ext w' w4:=xb4;have e1:me (ai (Int.tdiv (cI (jc b)) 256))=cI (jc b) / 256:=by have:Int.tdiv (cI (jc b)) 256=cI (jc b) / 256:=oz uf.1;rw [this,wI,wrap_u8];omega
 have e2:me (Int.tmod (cI (jc b)) 256)=cI (jc b) % 256:=by have:Int.tmod (cI (jc b)) 256=cI (jc b) % 256:=qQ uf.1;rw [this,wrap_u8];omega
 rw [e1,e2];intro w5 e5;have x5:=bq e5;have z5:=du e5;have arB:s3.n=b.length:=by have:=ak.rd Vi aE;have:=this.n;simpa using this
 have uB:=ak.ext Vi x5;have hb5:=uB.ke (bytes:=1) (more:=(BB b).map yv) (by have:=x4.size;omega) vZ (uO _) (by simp only [aB,tV];omega) (by simp only [aB,tV];omega);rw [aB,tV] at hb5;obtain ⟨hp5,Yk⟩:=hb5;refine ⟨hp5,λs6 w7 hres7=> ?_⟩;obtain ⟨UY,hn7,xb7,Ji,-⟩:=Yk s6 w7 hres7;refine ⟨Ji _ (λe=>by have:=(Vi.own.lt e).2;omega) aa,s6,rfl,?_,Below.trans x4 (Below.trans (Below.mono x5 x4.size) xb7)⟩;show ak _ _ _ _ _ _;unfold pq;rw [aT];simpa using UY
end Go.Proofs.YtalpkjfpmdpbiaaGreatDoor
namespace Go.Proofs.YtalpkjfpmdpbiaaGreatDoor
open Go Go.Vc Go.RowKit Go.Proofs Go.dQ Go.bf Go.Code
def Lc{P:Nat->Prop}(s:Sl)(b:List Int)(w:World)(h:RY P w s b)(hn:b.length<=1000000000):ah 217 #[s] w λe w'=>∃s':Sl,e=Value.tuple #[s',.int .i64 (kR b).2]/\RY P w' s' (kR b).1/\Ext w w':=by
 apply (Ky.vc (a0:=s));have j6:=h.len;apply Br.mk<;>intro hc
 ·replace hc:=fj hc;rw [wI] at hc;have e:kR b=([],3):=by unfold kR;rw [if_pos aa]
  rw [e];exact ⟨⟨none,0,0⟩,rfl,RY.nil,Ext.ck _⟩
 ·replace hc:=fh hc;rw [wI] at hc;obtain ⟨m,hm⟩:∃m,b.length=m+2:=⟨b.length-2,by omega⟩;have wk:ai (((s.n:Nat):Int)-2)=((m:Nat):Int):=by rw [wI];omega
  have wk1:=lD (j:=m);rw [wk,wk1];have hd:=h.ext (Ext.dr w);obtain ⟨x0,Ys⟩:=bh (l:=b) (i:=m) aa;obtain ⟨x1,hx1⟩:=bh (l:=b) (i:=m+1) aa;have b0:=h.y x0 (bc Ys);have b1:=h.y x1 (bc hx1);have ld0:ld w.drew (ae s.a (((m:Nat):Int).toNat*1))=some (.int .u8 x0):=by have:=hd.r.at (show (b.map yv)[m]? =some [.int .u8 x0] by rw [aX,Ys];rfl) (j:=0) rfl;rwa [bZ] at this
  have ld1:ld w.drew (ae s.a (((m+1:Nat):Int).toNat*1))=some (.int .u8 x1):=by have:=hd.r.at (show (b.map yv)[m+1]? =some [.int .u8 x1] by rw [aX,hx1];rfl) (j:=0) rfl;rwa [bZ] at this
  have e:b=b.take m++ [x0,x1]:=by
   conv=>lhs;rw [<-kf m b]
   congr 1;rw [kT aa,kT aa,List.drop_eq_nil_of_le aa];obtain ⟨_,q0⟩:=bF.1 Ys;obtain ⟨_,q1⟩:=bF.1 hx1;rw [q0,q1]
  have ht:=ZD e b0 b1;have jC:RY P w.drew ⟨aA s.a 0 s.c 1,((m:Nat):Int).toNat-0,s.c-0⟩ (b.take m):=by have:=hd.cut (m:=m) (c':=s.c) (c'':=s.c-0) aa (by have:=h.c;omega);exact this
  have Vj:=h.c;refine ⟨h.r.fN aa,x0,ld0,h.r.fN aa,x1,ld1,by omega,by omega,(Ib ⟨aA s.a 0 s.c 1,((m:Nat):Int).toNat-0,s.c-0⟩ (b.take m) w.drew jC.r jC.y (by rw [bG];omega)).mono ?_⟩;rintro e2 w2 ⟨rfl,rfl⟩;have e3:ai (ai (ai x0*256)+ai x1)=x0*256+x1:=by rw [az (n:=x0) (by unfold inI;omega),az (n:=x1) (by unfold inI;omega),az (n:=x0*256) (by unfold inI;omega),wI]
  rw [e3];refine ⟨_,rfl,sT ld1,sT ld0,Br.mk (λhq=> ?_) (λhq=> ?_)⟩
  ·rw [if_neg (by simpa using hq)] at ht;rw [ht];exact ⟨⟨none,0,0⟩,rfl,RY.nil,Ext.dr w⟩
  ·rw [if_pos (by simpa using hq)] at ht;rw [ht];exact ⟨by omega,by omega,_,rfl,jC,Ext.dr w⟩
def tR(n:Int)(m:Nat)(hn:0<=n/\n<=1099511627776)(hm:1<=m/\m<=4)(w:World):
  Calls Tryz.prog 211 #[.int .i64 n,.int .i64 m] w λe w'=>∃s':Sl,e=.returned (.slice s'.a s'.n s'.c)/\iM w.heap.size w' s' (be m n)/\Ext w w':=by
 apply Ea.vc;have pw:∀k:Nat,k<=3->(256:Int) ^ k=1\/(256:Int) ^ k=256\/(256:Int) ^ k=65536\/(256:Int) ^ k=16777216:=λk hk=>by
  match k,hk with
  |0,_=>exact .inl rfl
  |1,_=>exact .inr (.inl rfl)
  |2,_=>exact .inr (.inr (.inl rfl))
  |3,_=>exact .inr (.inr (.inr rfl))
 refine ⟨λl i u wr=>∃k:Nat,i=(k:Int)+1/\k+1+l=m/\u=256 ^ k/\wr=w,⟨m-1,0,rfl,by omega,rfl,rfl⟩,?_⟩;rintro l us i u w5 ⟨k,rfl,hk,rfl,rfl⟩;have hp:=pw k (by omega);refine Br.mk (λhc=> ?_) (λhc=> ?_)
 ·replace hc:=fj hc;refine ⟨l-1,by omega,k+1,?_,by omega,?_,rfl⟩
  ·rw [wI];omega
  ·rw [wI,Int.pow_succ]
 ·replace hc:=fh hc;have e1:(256:Int) ^ k=256 ^ m / 256:=by rw [show m=k+1 by omega,Int.pow_succ,Int.mul_ediv_cancel _ (by decide)]
  rw [e1];refine ⟨λl i o u wr=>∃(pre:List Int),i=((m-l:Nat):Int)/\l<=m/\u=256 ^ l / 256/\pre++be l n=be m n/\iM w5.heap.size wr o pre/\Ext w5 wr,⟨m,[],by simp,Nat.le_refl _,rfl,rfl,ak.nil,Ext.ck _⟩,?_⟩;rintro l2 oX i o u cA ⟨pre,rfl,hl,rfl,lh,ho,cD⟩;refine Br.mk (λjE=> ?_) (λjE=> ?_)
  ·replace jE:=fj jE;obtain ⟨j,rfl⟩:∃j,l2=j+1:=⟨l2-1,by omega⟩;have e2:(256:Int) ^(j+1) / 256=256 ^ j:=by rw [Int.pow_succ,Int.mul_ediv_cancel _ (by decide)]
   have hpj:=pw j (by omega);have e3:IntKind.wrap .u8 (Int.tmod (IntKind.wrap .i64 (Int.tdiv n (256 ^ j))) 256)=n / 256 ^ j % 256:=by have t1:Int.tdiv n (256 ^ j)=n / 256 ^ j:=Int.tdiv_eq_ediv_of_nonneg hn.1;have t2:0<=n / 256 ^ j:=Int.ediv_nonneg hn.1 (by omega);have t3:n / 256 ^ j<=n:=Int.ediv_le_self _ hn.1;rw [t1,wI,Int.tmod_eq_emod_of_nonneg t2,wrap_u8];omega
   have e4:IntKind.wrap .i64 (Int.tdiv (256 ^ j) 256)=256 ^ j / 256:=by have t1:Int.tdiv ((256:Int) ^ j) 256=256 ^ j / 256:=Int.tdiv_eq_ediv_of_nonneg (by omega);rw [t1,wI]
   have e5:IntKind.wrap .i64 (((m-(j+1):Nat):Int)+1)=((m-j:Nat):Int):=by rw [wI];omega
   rw [e2,e3,e4,e5];refine bj.2 ⟨mf.2 (by omega),λcS A1=> ?_⟩;subst A1;have dY:=congrArg List.length lh;rw [List.length_append,kG,kG] at dY;have Bm:=eU.n (iM.rk ho);obtain ⟨akb,aS⟩:=ak.kD ho (bytes:=1) (news:=yv (n / 256 ^ j % 256)) (.cells #[.int .u8 (n / 256 ^ j % 256)] fb) cD.size rfl (lG _ _) (by omega) (by omega);refine ⟨akb,λkz cC hr=> ?_⟩;obtain ⟨f1,aaU,aiZ,xb,-,-⟩:=aS kz cC hr;refine ⟨f1,j,by omega,pre++ [n / 256 ^ j % 256],rfl,by omega,rfl,?_,?_,cD.trans xb⟩
   ·rw [<-lh,List.append_assoc];rfl
   ·show ak _ _ _ _ _ _;rw [List.map_append];exact aaU
  ·replace jE:=fh jE;have h0:l2=0:=by omega
   subst h0;have hp':pre=be m n:=by simpa [be] using lh
   rw [hp'] at ho;exact ⟨o,rfl,ho,cD⟩
def C7(s:Sl)(b:List Int)(w:World)(hs:eU w s b)(hb:lR b)(hn:b.length<=4):ah 218 #[s] w λe w'=>e=Value.int .i64 (dT b)/\w'=w:=by
 apply (Oh.vc (a0:=s));have j6:=eU.n hs;refine ⟨λl i n wr=>∃k:Nat,i=k/\k+l=b.length/\n=dT (b.take k)/\wr=w,⟨b.length,0,rfl,by omega,rfl,rfl⟩,?_⟩;rintro l us i n wr ⟨k,rfl,hk,rfl,rfl⟩;apply Br.mk<;>intro hc
 ·replace hc:=fj hc;obtain ⟨x,hx⟩:=bh (l:=b) (i:=k) aa;have Xm:=hb x (bc hx);have hm:(b.map yv)[k]? =some [.int .u8 x]:=by rw [aX,hx];rfl
  have mH:=hs.at hm (j:=0) rfl;rw [bZ] at mH;have wk:=lD (j:=k);have q7:=Ay hb (k:=k) aa;refine ⟨hs.fN aa,x,mH,l-1,by omega,k+1,wk,by omega,?_,rfl⟩;rw [cu,hx];show _=dT (b.take k++ [x]);rw [Az,az (n:=x) (by unfold inI;omega),az (n:=dT (b.take k)*256) (by unfold inI;omega),wI]
 ·replace hc:=fh hc;rw [dn aa];exact ⟨rfl,rfl⟩
def G1(s:Sl)(b:List Int)(v:Int)(w:World)(hs:eU w s b)(hb:lR b)(hv:inI v):Calls Tryz.prog 168 #[.int .i64 v,.slice s.a s.n s.c] w λe w'=>∃s':Sl,e=.returned (.tuple #[.slice s'.a s'.n s'.c,.int .i64 (lX v b).2])/\iM w.heap.size w' s' (lX v b).1/\Ext w w':=by
 apply (G6.vc (a1:=s));have j6:=eU.n hs;have bad:(v<1\/v>1073741824\/(b.length:Int)>65536)->∃s':Sl,Ending.returned (.tuple #[.slice none 0 0,.int .i64 1])=.returned (.tuple #[.slice s'.a s'.n s'.c,.int .i64 (lX v b).2])/\iM w.heap.size w s' (lX v b).1/\Ext w w:=λh=>by
  have e:lX v b=([],1):=by unfold lX;rw [if_pos h]
  rw [e];exact ⟨⟨none,0,0⟩,rfl,ak.nil,Ext.ck _⟩
 refine Br.mk (λh=>bad (.inl (by simpa using h))) (λh1=>Br.mk (λh=>bad (.inr (.inl (by simpa using h)))) (λh2=>Br.mk (λh=>bad (.inr (.inr (by simp at h;omega)))) (λh3=> ?_)));simp only [decide_eq_false_iff_not] at h1 h2 h3;have e:lX v b=(pq (xH v b),0):=by unfold lX;rw [if_neg (by omega)]
 rw [e];refine (tR v 4 (by omega) (by decide) w).mono ?_;rintro e w0 ⟨s1,rfl,ho1,x0⟩;refine ⟨s1,rfl,(tR ((s.n:Nat):Int) 3 (by omega) (by decide) w0).mono ?_⟩;rintro e w2 ⟨s3,rfl,ho3,x2⟩;refine ⟨s3,rfl,?_⟩;have hs3:=iM.rk ho3;have Xc:=eU.n hs3;rw [kG] at Xc;have akc:=ak.ext ho1 x2;have hn1:=eU.n (iM.rk ho1);rw [kG] at hn1;have a1:=akc.ke (bytes:=1) (more:=(be 3 ((s.n:Nat):Int)).map yv) (by have:=x0.size;have:=x2.size;omega) vZ (uO _) (by simp only [List.length_map,kG];omega) (by simp only [List.length_map,kG];omega);rw [List.length_map,kG] at a1;obtain ⟨p1,r1⟩:=a1;refine ⟨((be 3 ((s.n:Nat):Int)).map yv).flatten,RdK.flat hs3 (by omega),by rw [Xc];exact p1,λs5 w6 hr6=> ?_⟩;rw [Xc] at hr6;obtain ⟨uB,hn5,xb6,-,-⟩:=r1 s5 w6 hr6;have uF:Ext w w6:=Below.trans (x0.tr x2) xb6;have hs6:=RdK.ext hs uF;have a2:=uB.ke (bytes:=1) (more:=b.map yv) uF.size vZ (uO _) (by simp only [List.length_map];omega) (by simp only [List.length_map];omega);rw [List.length_map,<-j6] at a2;obtain ⟨p2,r2⟩:=a2;refine ⟨(b.map yv).flatten,RdK.flat hs6 (by omega),p2,λs8 w9 Vf=> ?_⟩;obtain ⟨wO,hn8,xb9,-,-⟩:=r2 s8 w9 Vf;have x09:Ext w w9:=Below.trans uF xb9;have jX:iM w.heap.size w9 s8 (xH v b):=by unfold xH;show ak _ _ _ _ _ _;rw [List.map_append,List.map_append,<-j6];exact wO
 refine (EH s8 (xH v b) w9 (iM.rk jX) (EI hb) (by rw [tk];omega)).mono ?_;rintro e bL ⟨eJ,rfl,akd,br⟩;exact ⟨eJ,rfl,eJ,rfl,ak.low akd x09.size,x09.tr br⟩
def wu{P:Nat->Prop}(s:Sl)(b:List Int)(w:World)(h:RY P w s b)(hn:b.length<=1000000000):ah 172 #[s] w λe w'=>∃s':Sl,e=Value.tuple #[.int .i64 (iD b).1,s',.int .i64 (iD b).2.2]/\RY P w' s' (iD b).2.1/\Ext w w':=by
 apply (Kx.vc (a0:=s));refine (Lc s b w h hn).mono ?_;rintro e w0 ⟨s1,rfl,h1,x0⟩;have hl1:(kR b).1.length<=b.length:=by unfold kR;split<;>(try split)<;>simp [bG]<;>omega
 refine ⟨s1,_,rfl,Br.mk (λhq=> ?_) (λhq=> ?_)⟩
 ·have hq:=kB hq;have e:iD b=(0,[],(kR b).2):=by unfold iD;rw [if_pos hq]
  rw [e];exact ⟨⟨none,0,0⟩,rfl,RY.nil,x0⟩
 have hq:=kB hq;have du:=h1.len;apply Br.mk<;>intro h7
 ·replace h7:=fj h7;have e:iD b=(0,[],3):=by unfold iD;rw [if_neg aa,if_pos aa]
  rw [e];exact ⟨⟨none,0,0⟩,rfl,RY.nil,x0⟩
 replace h7:=fh h7;have X4:=h1.c;have e0:iD b=if dT ((kR b).1.take 4)<1\/dT ((kR b).1.take 4)>1073741824\/dT (((kR b).1.drop 4).take 3)>65536\/dT (((kR b).1.drop 4).take 3)≠(((kR b).1.drop 7).length:Int) then (0,[],2) else (dT ((kR b).1.take 4),(kR b).1.drop 7,0):=by unfold iD;rw [if_neg aa,if_neg aa]
 generalize (kR b).1=a at*;have c4:RY P w0 ⟨aA s1.a 0 s1.c 1,(4:Int).toNat-0,s1.c-0⟩ (a.take 4):=h1.cut (m:=4) aa aa;have c7:eU w0 ⟨aA s1.a ((4:Int).toNat) s1.c 1,(7:Int).toNat-(4:Int).toNat,s1.c-(4:Int).toNat⟩ ((a.drop 4).take 3):=by have q:=RdK.rest h1.r (l:=4) (m:=s1.c) (n':=a.length-4) (c':=s1.c-4) (by rw [aB]) (by rw [aB];omega);rw [<-List.map_drop] at q;have q2:=RdK.cut (c':=5) (c'':=s1.c-4) q (m:=3) (by rw [aB,iw];omega);rw [<-List.map_take,eE] at q2;exact q2
 refine ⟨by omega,by omega,(C7 _ _ w0 c4.r c4.y (by rw [bG];omega)).mono ?_⟩;rintro e w3 ⟨rfl,rfl⟩;refine ⟨_,rfl,by omega,by omega,by omega,by omega,(C7 _ _ w3 c7 (λc hc=>h1.y c (ow (kh hc))) (by rw [bG];omega)).mono ?_⟩;rintro e w5 ⟨rfl,rfl⟩;refine ⟨_,rfl,?_⟩;have wk:ai (((s1.n:Nat):Int)-7)=((a.drop 7).length:Int):=by rw [wI,iw];omega
 rw [wk];have bad:(dT (a.take 4)<1\/dT (a.take 4)>1073741824\/dT ((a.drop 4).take 3)>65536\/dT ((a.drop 4).take 3)≠((a.drop 7).length:Int))->∃s':Sl,Ending.returned (.tuple #[af,.slice none 0 0,(2:Int)])=Value.tuple #[.int .i64 (iD b).1,s',.int .i64 (iD b).2.2]/\RY P w5 s' (iD b).2.1/\Ext w w5:=λq=>by rw [e0,if_pos q];exact ⟨⟨none,0,0⟩,rfl,RY.nil,x0⟩
 refine Br.mk (λq=>bad (.inl (by simpa using q))) (λq1=>Br.mk (λq=>bad (.inr (.inl (by simpa using q)))) (λq2=>Br.mk (λq=>bad (.inr (.inr (.inl (by simpa using q))))) (λq3=>Br.mk (λq=>bad (.inr (.inr (.inr (by simpa using q))))) (λq4=> ?_))));have q4:=kB q4;simp only [bQ] at q1 q2 q3;rw [e0,if_neg (by rintro (q|q|q|q);exact q1 q;exact q2 q;exact q3 q;exact q q4)];have xd:=Ext.dr w5;refine ⟨by omega,by omega,⟨aA s1.a ((7:Int).toNat) s1.c 1,s1.n-(7:Int).toNat,s1.c-(7:Int).toNat⟩,rfl,?_,x0.tr xd⟩;have h1d:=h1.ext xd;refine ⟨?_,λc hc=>h1.y c (ow hc),λdI g hg=>h1.p (λe=>dI (by rw [e];exact List.drop_nil)) g (AA hg),by show s1.n-(7:Int).toNat<=s1.c-(7:Int).toNat;omega⟩;have q:=RdK.rest h1d.r (l:=7) (m:=s1.c) (n':=s1.n-7) (c':=s1.c-7) (by rw [aB];omega) (by rw [aB];omega);rw [<-List.map_drop] at q;exact q
end Go.Proofs.YtalpkjfpmdpbiaaGreatDoor
namespace Go.Proofs.YtalpkjfpmdpbiaaGreatDoor
open Go Go.Vc Go.RowKit Go.Proofs Go.dQ Go.bf Go.Code
abbrev Wi:=Int × Sl × List Int
abbrev wv(y:Wi):LV:=[.int .i64 y.1,.slice y.2.1.a y.2.1.n y.2.1.c]
abbrev wm(y:Wi):kQ:=(y.1,y.2.2)
abbrev OE:TypeId:=274
structure xz(P:Nat->Prop)(w:World)(s:Sl)(its:List Wi):Prop where
 r:RdK w s 2 (its.map wv)
 y:∀y ∈ its,RY P w y.2.1 y.2.2
 p:its≠ []->∀g,s.bg=some g->P g
section
variable {P P':Nat->Prop} {w w':World} {s:Sl} {its:List Wi}
def xz.ext(h:xz P w s its)(x:Ext w w'):xz P w' s its:=⟨h.r.ext x,λy hy=>(h.y y hy).ext x,h.p⟩
def xz.same(h:xz P w s its)(hk:∀i,P i->i<w.heap.size->w'.heap[i]? =w.heap[i]?/\P' i):xz P' w' s its:=by
 have hb:its.map wv≠ []->its≠ []:=λq e=>q (by rw [e];rfl)
 have hb':its≠ []->its.map wv≠ []:=λq e=>q (by simpa using e)
 exact ⟨RdK.Ae h.r λdI g hg=>(hk g (h.p (hb dI) g hg) (RdK.jT h.r aE dI hg)).1,λy hy=>(h.y y hy).same hk,λdI g hg=>(hk g (h.p dI g hg) (RdK.jT h.r aE (hb' dI) hg)).2⟩
def xz.nil:xz P w ⟨none,0,0⟩ []:=⟨⟨rfl,(λr hr=>by cases hr),λi r hi=>by simp at hi⟩,(λy hy=>by cases hy),λh=>absurd rfl h⟩
def xz.n(h:xz P w s its):s.n=its.length:=by have:=h.r.n;rwa [aB] at this
def xz.at(h:xz P w s its){k:Nat}{y:Wi}(hk:its[k]? =some y):cB s.a (k:Int) s.n/\(ae s.a (((k:Nat):Int).toNat*2)).isSome=true/\ld w (ae (ae s.a (((k:Nat):Int).toNat*2)) 0)=some (.int .i64 y.1)/\ld w (ae (ae s.a (((k:Nat):Int).toNat*2)) 1)=some (.slice y.2.1.a y.2.1.n y.2.1.c):=by
 have hl:=(bF.1 hk).1;have hn:=h.n;have cV:=RdK.fN h.r aE (i:=(k:Int)) aa aa;have hr:(its.map wv)[k]? =some (wv y):=by rw [aX,hk];rfl
 exact ⟨cV,by rw [dX];exact cV.1,h.r.at hr (j:=0) rfl,h.r.at hr (j:=1) rfl⟩
def xz.load(h:xz P w s its){k:Nat}{y:Wi}(hk:its[k]? =some y):av w (ae s.a (((k:Nat):Int).toNat*2)) 0 [y.1,.slice y.2.1.a y.2.1.n y.2.1.c]:=by
 obtain ⟨-,-,h0,h1⟩:=h.at hk;refine gC λj v hj=> ?_
 rw [cO]
 match j,hj with
 |0,hj=>cases hj;exact h0
 |1,hj=>cases hj;exact h1
def xz.own{B:Nat}(h:ak B OE 2 w s (its.map wv))(hy:∀y ∈ its,RY P w y.2.1 y.2.2)(hP:∀i,B<=i->P i):xz P w s its:=⟨ak.rd h aE,hy,λ_ g hg=>hP g (h.own.lt hg).1⟩
end
def jV:Bool->List Wi->Wi->List Wi
 |done,[],w=>if done then [] else [w]
 |done,x::t,w=>(if done=false/\x.1>=w.1 then [w] else [])++(if x.1≠w.1 then [x] else [])++jV (done||decide (x.1>=w.1)) t w
def Hy:∀(b:Bool)(t:List Wi)(w:Wi),(jV b t w).map wm=OM b (t.map wm) (wm w)
 |b,[],w=>by cases b<;>rfl
 |b,x::t,w=>by
  show List.map wm (_++_++_)=(_++_++_)
  rw [aT,aT,Hy]
  congr 1
  congr 1
  ·split<;>rfl
  ·split<;>rfl
def HJ:∀(b:Bool)(t:List Wi)(w y:Wi),y ∈ jV b t w->y=w\/y ∈ t
 |b,[],w,y,h=>by cases b<;>simp [jV] at h;exact .inl h
 |b,x::t,w,y,h=>by
  unfold jV at h
  rcases ct.1 h with h|h
  ·rcases ct.1 h with h|h
   ·split at h
    ·exact .inl (by simpa using h)
    ·cases h
   ·split at h
    ·exact .inr (by simp at h;rw [h];exact .head _)
    ·cases h
  ·rcases HJ _ t w y h with h|h
   ·exact .inl h
   ·exact .inr (.tail _ h)
def HK:∀(b:Bool)(t:List Wi)(w:Wi),(jV b t w).length<=t.length+(if b then 0 else 1)
 |b,[],w=>by cases b<;>simp [jV]
 |b,x::t,w=>by
  have h:=HK (b||decide (x.1>=w.1)) t w
  unfold jV
  simp only [eK,fR]
  cases b with
  |true=>
   rw [if_neg cy]
   simp only [Bool.true_or] at h ⊢
   have:(if x.1≠w.1 then [x] else []).length<=1:=by split<;>simp
   generalize (if x.1≠w.1 then [x] else [])=z at*;simp at h ⊢;omega
  |false=>
   have:(if x.1≠w.1 then [x] else []).length<=1:=by split<;>simp
   generalize (if x.1≠w.1 then [x] else [])=z at*;by_cases q:x.1>=w.1
   ·rw [if_pos ⟨rfl,q⟩];simp [q] at h ⊢;omega
   ·rw [if_neg (λe=>q e.2)];simp [q] at h ⊢;omega
def OD{P:Nat->Prop}(s:Sl)(its:List Wi)(w:World)(h:xz P w s its)(hn:fE (its.map wm)<=1099511627776)(hi:its.length<=1099511627776):ah 214 #[s] w λe w'=>e=Value.int .i64 (fE (its.map wm))/\w'=w:=by
 apply (Oe.vc (a0:=s));have j6:=h.n;have le:∀k,fE ((its.take k).map wm)<=fE (its.map wm):=λk=>by have:=HL ((its.take k).map wm) ((its.drop k).map wm);rw [<-aT,kf] at this;omega
 refine ⟨λl i n wr=>∃k:Nat,i=k/\k+l=its.length/\n=fE ((its.take k).map wm)/\wr=w,⟨its.length,0,rfl,by omega,rfl,rfl⟩,?_⟩;rintro l us i n wr ⟨k,rfl,hk,rfl,rfl⟩;apply Br.mk<;>intro hc
 ·replace hc:=fj hc;obtain ⟨y,hy⟩:=bh (l:=its) (i:=k) aa;obtain ⟨cV,mz,-,h1⟩:=h.at hy;have hyl:=(h.y y (bc hy)).len;have l1:=le k;have l2:=le (k+1);have e:fE ((its.take (k+1)).map wm)=fE ((its.take k).map wm)+y.2.2.length:=by rw [cu,hy];show fE ((its.take k++ [y]).map wm)=_;rw [aT,HL];rfl
  have wk:=lD (j:=k);refine ⟨cV,Bj mz ⟨y.2.1,h1,l-1,by omega,k+1,wk,by omega,?_,rfl⟩⟩;rw [wI];omega
 ·replace hc:=fh hc;rw [dn aa];exact ⟨rfl,rfl⟩
set_option maxRecDepth 100000 in
def OC{P:Nat->Prop}(s:Sl)(its:List Wi)(y:Wi)(w:World)(h:xz P w s its)(hy:RY P w y.2.1 y.2.2)(hP:Fw P w)(hi:its.length<=1000000000):
  ah 215 #[s,.agg #[y.1,.slice y.2.1.a y.2.1.n y.2.1.c]] w λe w'=>∃s':Sl,e=Value.slice s'.a s'.n s'.c/\xz P w' s' (jV false its y)/\Ext w w':=by
 apply (Of.vc (a0:=s) (aj:=y.2.1));have j6:=h.n;intro w0 e0;have x0:=bq e0;have z0:=du e0;have dY:=HK false its y;simp only [Bool.false_eq_true,if_false] at dY;have uA:=HJ false its y;have push:∀{wr:World} {so:Sl} {o:List Wi} (y':Wi),Ext w0 wr->ak w0 OE 2 wr so (o.map wv)->o.length<=its.length+1->
   ∀wz,wz=wr.alloc (.cells #[y'.1,.slice y'.2.1.a y'.2.1.n y'.2.1.c] 274)->aF 32 2 wz ⟨so.a,so.n,so.c⟩ 1 [y'.1,.slice y'.2.1.a y'.2.1.n y'.2.1.c]/\
   ∀(s':Sl)(w':World),aD 274 2 wz ⟨so.a,so.n,so.c⟩ 1 [y'.1,.slice y'.2.1.a y'.2.1.n y'.2.1.c] s' w'->w'.heap[w.heap.size]? =wz.heap[w.heap.size]?/\w'.heap[wr.heap.size]? =wz.heap[wr.heap.size]?/\ak w0 OE 2 w' s' ((o++ [y']).map wv)/\Ext w0 w'/\
    (∀j,so.bg≠some j->j<wr.heap.size->w'.heap[j]? =wz.heap[j]?)/\(s'.bg=so.bg\/s'.bg=some (wr.heap.size+1)):=by
  intro wr so o y' xr ho xN wz ez;subst ez;have Bm:=ak.rd ho aE;have Bm:=Bm.n;rw [aB] at Bm;obtain ⟨hp,aS⟩:=ho.kD (bytes:=32) (news:=wv y') (.cells #[y'.1,.slice y'.2.1.a y'.2.1.n y'.2.1.c] 274) xr.size rfl (zT _ _ _ _) aa aa;refine ⟨hp,λs' w' hr=> ?_⟩;obtain ⟨f1,ho',hn',xb,hk,vE⟩:=aS s' w' hr;have zr:=xr.size;have xa:=Ext.al wr (.cells #[y'.1,.slice y'.2.1.a y'.2.1.n y'.2.1.c] 274);refine ⟨?_,f1,by rw [aT];exact ho',xr.trans xb,λj hj Pw=> ?_,vE⟩
  ·rw [xb.block _ aa,xa.heap aa]
  ·rw [hk j hj Pw,xa.heap Pw]
 refine ⟨λn i b so wr=>∃(k:Nat)(o:List Wi),i=k/\k+n=its.length/\ak w0 OE 2 wr so (o.map wv)/\o++jV b (its.drop k) y=jV false its y/\Ext w0 wr,⟨its.length,rfl,0,[],rfl,by omega,ak.nil,rfl,Ext.ck _⟩,?_⟩;rintro n us i b so wr ⟨k,o,rfl,hk,ho,hl,xr⟩;have xN:o.length<=its.length+1:=by have:=congrArg List.length hl;rw [eK] at this;omega
 apply Br.mk<;>intro hc
 ·replace hc:=fj hc;obtain ⟨x,hx⟩:=bh (l:=its) (i:=k) aa;have hdr:its.drop k=x::its.drop (k+1):=by obtain ⟨q9,q⟩:=bF.1 hx;rw [kT q9,q]
  rw [hdr] at hl;have wk:=lD (j:=k);have rd:∀{v:World},Ext w0 v->xz P v s its:=λx'=>h.ext (x0.tr x')
  have xd:=Ext.dr wr;have xdd:=xd.tr (Ext.dr wr.drew);have skip:(b=true\/¬x.1>=y.1)->∀n',n'<n->k+1+n'=its.length->(x.1=y.1->∀v,Ext w0 v->ak w0 OE 2 v so (o.map wv)->∃(k':Nat)(o':List Wi),ai ((k:Int)+1)=k'/\k'+n'=its.length/\ak w0 OE 2 v so (o'.map wv)/\o'++jV b (its.drop k') y=jV false its y/\Ext w0 v)/\
    (x.1≠y.1->∀v sv,Ext w0 v->ak w0 OE 2 v sv ((o++ [x]).map wv)->∃(k':Nat)(o':List Wi),ai ((k:Int)+1)=k'/\k'+n'=its.length/\ak w0 OE 2 v sv (o'.map wv)/\o'++jV b (its.drop k') y=jV false its y/\Ext w0 v):=by
   intro hb n' hn' Fq;have hstep:jV b (x::its.drop (k+1)) y=(if x.1≠y.1 then [x] else [])++jV b (its.drop (k+1)) y:=by
    show (if b=false/\x.1>=y.1 then [y] else [])++_++_=_;have e1:¬(b=false/\x.1>=y.1):=by rintro ⟨q1,q2⟩;rcases hb with q|q;exact absurd (q.symm.trans q1) aE;exact q q2
    have e2:(b||decide (x.1>=y.1))=b:=by
     rcases hb with q|q
     ·rw [q];rfl
     ·rw [show decide (x.1>=y.1)=false by simpa using q];simp
    rw [if_neg e1,e2];rfl
   rw [hstep] at hl;refine ⟨λq v xv hv=> ?_,λq v sv xv hv=> ?_⟩
   ·rw [if_neg (by simpa using q)] at hl;exact ⟨k+1,o,wk,by omega,hv,hl,xv⟩
   ·rw [if_pos q,<-mU] at hl;exact ⟨k+1,o++ [x],wk,by omega,hv,hl,xv⟩
  have low:(b=true\/¬x.1>=y.1)->cB s.a (k:Int) s.n/\bn (eQ (ae s.a (((k:Int)).toNat*2))) (∃(cW:Int),ld wr.drew.drew (ae (ae s.a (((k:Int)).toNat*2)) 0)=some (.int .i64 cW)/\
    Br ((cW:Int) !=y.1)
    (cB s.a (k:Int) s.n/\∃(dV:Int)(lV:Sl),av wr.drew.drew (ae s.a (((k:Int)).toNat*2)) 0 [dV,lV]/\
    ∀eI:World,eI=wr.drew.drew.alloc (.cells #[dV,lV] 274)->
    aF 32 2 eI ⟨so.a,so.n,so.c⟩ 1 [dV,lV]/\∀(mc:Sl)(g8:World),aD 274 2 eI ⟨so.a,so.n,so.c⟩ 1 [dV,lV] mc g8->g8.heap[w.heap.size]? =eI.heap[w.heap.size]?/\g8.heap[wr.drew.drew.heap.size]? =eI.heap[wr.drew.drew.heap.size]?/\
    ∃n8,n8<n/\aP [y.1,.slice y.2.1.a y.2.1.n y.2.1.c]/\∃(k':Nat)(o':List Wi),ai ((k:Int)+1)=k'/\k'+n8=its.length/\ak w0 OE 2 g8 ⟨mc.a,mc.n,mc.c⟩ (o'.map wv)/\o'++jV b (its.drop k') y=jV false its y/\Ext w0 g8)
    (∃n8,n8<n/\aP [y.1,.slice y.2.1.a y.2.1.n y.2.1.c]/\∃(k':Nat)(o':List Wi),ai ((k:Int)+1)=k'/\k'+n8=its.length/\ak w0 OE 2 wr.drew.drew ⟨so.a,so.n,so.c⟩ (o'.map wv)/\o'++jV b (its.drop k') y=jV false its y/\Ext w0 wr.drew.drew)):=by
   intro hb;have rdd:=rd (xr.tr xdd);obtain ⟨cV,mz,h0,-⟩:=rdd.at hx;obtain ⟨k1,k2⟩:=skip hb (n-1) aa aa;refine ⟨cV,Bj mz ⟨x.1,h0,Br.mk (λq=> ?_) (λq=> ?_)⟩⟩
   ·refine ⟨cV,x.1,x.2.1,rdd.load hx,λwz ez=> ?_⟩;obtain ⟨hp,aS⟩:=push x (xr.tr xdd) (ak.ext ho xdd) xN wz ez;refine ⟨hp,λs' w' hr=> ?_⟩;obtain ⟨f1,f2,ho',x',-,-⟩:=aS s' w' hr;exact ⟨f1,f2,n-1,by omega,rfl,k2 (by simpa using q) w' s' x' ho'⟩
   ·exact ⟨n-1,by omega,rfl,k1 (by simpa using q) _ (xr.tr xdd) (ak.ext ho xdd)⟩
  cases hb:b with
  |true=>subst hb;exact Br.mk (λq=>by simp at q) (λ_=>low (.inl rfl))
  |false=>
   subst hb;refine Br.mk (λ_=> ?_) (λq=>by simp at q);have rdd:=rd (xr.tr xd);obtain ⟨cV,mz,h0,-⟩:=rdd.at hx;refine ⟨cV,Bj mz ⟨x.1,h0,Br.mk (λq=> ?_) (λq=>low (.inr (by simpa using q)))⟩⟩;have q:=kB q;intro bL A4;obtain ⟨hp,aS⟩:=push y (xr.tr xd) (ak.ext ho xd) xN bL A4;refine ⟨hp,λeJ bR hr=> ?_⟩;obtain ⟨f1,f2,PY,bT,apX,ajP⟩:=aS eJ bR hr;have hstep:jV false (x::its.drop (k+1)) y=[y]++(if x.1≠y.1 then [x] else [])++jV true (its.drop (k+1)) y:=by show (if false=false/\x.1>=y.1 then [y] else [])++_++jV (false||decide (x.1>=y.1)) _ _=_;rw [if_pos ⟨rfl,q⟩,show decide (x.1>=y.1)=true by simpa using q];rfl
   rw [hstep] at hl;have Xg:=Ext.dr bR;have aeD:=rd (bT.tr Xg);obtain ⟨hin2,hso2,h02,-⟩:=aeD.at hx;have ho12d:=ak.ext PY Xg;have r10:Row bL wr.drew.heap.size [y.1,.slice y.2.1.a y.2.1.n y.2.1.c] 274:=Row.nw A4;have UU:wr.drew.heap.size<bR:=(r10.same f2).lt;refine ⟨f1,f2,hin2,Bj hso2 ⟨x.1,h02,Br.mk (λq2=> ?_) (λq2=> ?_)⟩⟩
   ·have q2:=kB q2;rw [if_pos q2] at hl;refine ⟨hin2,x.1,x.2.1,aeD.load hx,λdy yH=> ?_⟩;have hol2:(o++ [y]).length<=its.length+1:=by have:=congrArg List.length hl;simp only [eK] at this ⊢;omega
    obtain ⟨ajQ,hres16⟩:=push x (bT.tr Xg) ho12d hol2 dy yH;refine ⟨ajQ,λgZ dJ ajR=> ?_⟩;obtain ⟨g1,g2,Xh,cn,W7,-⟩:=hres16 gZ dJ ajR;refine ⟨g1,W7 _ (λe=> ?_) UU,g2,n-1,by omega,rfl,k+1,o++ [y]++ [x],wk,by omega,Xh,?_,cn⟩
    ·rcases ajP with e'|e'
     ·have:=(ho.own.lt (e'.symm.trans e)).2;have hz:=lW wr;omega
     ·have:=Option.some.inj (e'.symm.trans e);omega
    ·rw [<-hl];simp
   ·have q2:=kB q2;rw [if_neg (by simpa using q2)] at hl;exact ⟨n-1,by omega,rfl,k+1,o++ [y],wk,by omega,ho12d,by rw [<-hl];simp,bT.tr Xg⟩
 ·replace hc:=fh hc;have hd:its.drop k=[]:=List.drop_eq_nil_of_le aa;rw [hd] at hl;have fin:∀{v:World} {sv:Sl},Ext w0 v->ak w0 OE 2 v sv ((jV false its y).map wv)->∃s':Sl,Ending.returned (.slice sv.a sv.n sv.c)=Value.slice s'.a s'.n s'.c/\xz P v s' (jV false its y)/\Ext w v:=λ{v sv} xv hv=>by
   refine ⟨sv,rfl,xz.own hv (λz hz=> ?_) (λi hi=>hP i aa),x0.tr xv⟩;rcases uA z hz with rfl|hz
   ·exact hy.ext (x0.tr xv)
   ·exact (h.y z hz).ext (x0.tr xv)
  cases hb:b with
  |true=>
   subst hb;refine Br.mk (λq=>by simp at q) (λ_=>fin xr ?_);rw [<-hl];simpa [jV] using ho
  |false=>
   subst hb;refine Br.mk (λ_=>λwz ez=> ?_) (λq=>by simp at q);obtain ⟨hp,aS⟩:=push y xr ho xN wz ez;refine ⟨hp,λs' w' hr=> ?_⟩;obtain ⟨f1,f2,ho',x',-,-⟩:=aS s' w' hr;refine ⟨f1,f2,fin x' ?_⟩;rw [<-hl];exact ho'
end Go.Proofs.YtalpkjfpmdpbiaaGreatDoor
namespace Go.Proofs.YtalpkjfpmdpbiaaGreatDoor
open Go Go.Vc Go.RowKit Go.Proofs Go.dQ Go.bf Go.Code
def RW(P:Nat->Prop)(w:World)(s:Sl)(l:List kQ):Prop:=∃its,xz P w s its/\its.map wm=l
abbrev dv(d:Dk)(s1 s2:Sl):Value:=.agg #[d.room,d.dt,d.wait,s1,s2]
structure wo(P:Nat->Prop)(w:World)(d:Dk)(s1 s2:Sl):Prop where
 s:RW P w s1 d.safe
 l:RW P w s2 d.l
section
variable {P P':Nat->Prop} {w w':World} {s s1 s2:Sl} {l:List kQ} {d:Dk}
def RW.ext(h:RW P w s l)(x:Ext w w'):RW P w' s l:=by obtain ⟨its,h1,h2⟩:=h;exact ⟨its,h1.ext x,h2⟩
def RW.same(h:RW P w s l)(hk:∀i,P i->i<w.heap.size->w'.heap[i]? =w.heap[i]?/\P' i):RW P' w' s l:=by obtain ⟨its,h1,h2⟩:=h;exact ⟨its,h1.same hk,h2⟩
def RW.nil:RW P w ⟨none,0,0⟩ []:=⟨[],xz.nil,rfl⟩
def wo.ext(h:wo P w d s1 s2)(x:Ext w w'):wo P w' d s1 s2:=⟨h.s.ext x,h.l.ext x⟩
def wo.same(h:wo P w d s1 s2)(hk:∀i,P i->i<w.heap.size->w'.heap[i]? =w.heap[i]?/\P' i):wo P' w' d s1 s2:=⟨h.s.same hk,h.l.same hk⟩
def Mr(l:List kQ)(y:kQ):(lay l y).length<=l.length+1:=by have h1:=(pn l y).length_eq;have h2:=CF (λx:kQ=>decide (x.1≠y.1)) l;simp only [fR] at h1;omega
def kj:∀(t l:List kQ),(t.foldl lay l).length<=l.length+t.length
 | [],l=>by simp
 |y::t,l=>by
  have h1:=kj t (lay l y)
  have h2:=Mr l y
  simp only [jI,fR];omega
def Af(y:Wi)(h:RW P w s l)(hy:RY P w y.2.1 y.2.2)(hP:Fw P w)(hi:l.length<=1000000000):
  ah 215 #[s,.agg #[y.1,.slice y.2.1.a y.2.1.n y.2.1.c]] w λe w'=>∃s':Sl,e=s'/\RW P w' s' (lay l (wm y))/\Ext w w':=by
 obtain ⟨its,h1,rfl⟩:=h;refine (OC s its y w h1 hy hP (by simpa using hi)).mono ?_;rintro e w' ⟨s',rfl,h',x'⟩;exact ⟨s',rfl,⟨_,h',Hy false its y⟩,x'⟩
def vt(h:wo P w d s1 s2)(hP:Fw P w)(hi:d.safe.length<=100000000/\d.l.length<=100000000):
  ah 216 #[dv d s1 s2] w λe w'=>∃s':Sl,e=s'/\RW P w' s' (fV d)/\Ext w w':=by
 apply (Og.vc (aI:=s1) (aJ:=s2));intro w0 e0;have x0:=bq e0;have z0:=du e0;obtain ⟨its,hl,hle⟩:=h.l;have hln:its.length=d.l.length:=by rw [<-hle,aB]
 have j6:=hl.n;refine ⟨λn i so wr=>∃k:Nat,i=k/\k+n=its.length/\RW P wr so ((d.l.take k).foldl lay d.safe)/\Ext w0 wr,⟨its.length,rfl,0,rfl,by omega,h.s.ext x0,Ext.ck _⟩,?_⟩;rintro n us i so wr ⟨k,rfl,hk,ho,xr⟩;apply Br.mk<;>intro hc
 ·replace hc:=fj hc;obtain ⟨y,hy⟩:=bh (l:=its) (i:=k) aa;have hr:=hl.ext (x0.tr xr);have hfl:=kj (d.l.take k) d.safe;have htl:(d.l.take k).length<=d.l.length:=by rw [bG];omega
  refine ⟨(hr.at hy).1,y.1,y.2.1,hr.load hy,(Af y ho (hr.y y (bc hy)) (hP.ext (x0.tr xr)) aa).mono ?_⟩;rintro e bL ⟨eJ,rfl,h11,bV⟩;have zr:=xr.size;refine ⟨eJ,rfl,bV.heap aa,n-1,by omega,rfl,k+1,by rw [wI];omega,by omega,?_,xr.tr bV⟩;have:d.l[k]? =some (wm y):=by rw [<-hle,aX,hy];rfl
  rw [cu,this];show RW P bL eJ ((d.l.take k++ [wm y]).foldl lay d.safe);rw [iY];exact h11
 ·replace hc:=fh hc;rw [dn aa] at ho;exact ⟨so,rfl,ho,x0.tr xr⟩
def wG(d:Dk)(s1 s2:Sl)(hd:iq d)(w:World):
  ah 213 #[dv d s1 s2] w λe w'=>e=Value.tuple #[dv (ed d).1 s1 s2,.bool (ed d).2]/\Ext w w':=by
 apply (G8.vc (aI:=s1) (aJ:=s2));intro w0 e0 w1 e1;have x1:Ext w w1:=(bq e0).ay e1;have z0:=du e0;have hf:=hd.f;refine Br.mk (λhc=> ?_) (λhc=>Br.mk (λjE=> ?_) (λjE=> ?_))
 ·intro w2 e2 w3 e3;have e:ed d=({d with wait:=0},false):=by unfold ed;rw [if_pos (by simpa using hc)]
  rw [e];exact ⟨rfl,(x1.ab e2 (ax _)).ab e3 aa⟩
 ·intro w2 e2 w3 e3;have jE:=kB jE;have e:ed d=({d with dt:=d.dt-1},true):=by unfold ed;rw [if_neg (by simpa using hc),if_pos jE]
  have ew:ai (d.dt-1)=d.dt-1:=wI;rw [ew] at e2 e3 ⊢;rw [e];exact ⟨rfl,(x1.ab e2 (ax _)).ab e3 aa⟩
 ·intro w2 e2;have e:ed d=(d,false):=by unfold ed;rw [if_neg (by simpa using hc),if_neg (by simpa using jE)]
  rw [e];exact ⟨rfl,x1.ab e2 aa⟩
abbrev G0(P:Nat->Prop)(w:World)(D:Dk × Int)(e:Ending)(w':World):Prop:=∃IJ E1:Sl,e=Value.tuple #[dv D.1 IJ E1,D.2]/\wo P w' D.1 IJ E1/\Ext w w'
def N2(h:wo P w d s1 s2)(hP:Fw P w)(hd:iq d)(hi:d.safe.length<=10000000/\d.l.length<=10000000)(k:Int)(s:Sl)(b:List Int)(hb:RY P w s b)(vE:b.length<=1000000000):
  ah 169 #[dv d s1 s2,k,s] w (G0 P w (fT d k b)):=by
 apply (Oa.vc (aI:=s1) (aJ:=s2) (a2:=s));intro w0 e0 w1 e1;have x1:Ext w w1:=(bq e0).ay e1;have z0:=du e0;have z1:w1.heap.size=w.heap.size+2:=by rw [e1];simp [z0]
 have r1:Row w1 w [d.room,d.dt,d.wait,s1,s2] 27:=(by rw [e0];exact Row.new w [_,_,_,_,_] _:Row w0 w _ 27).ext (bq e1);refine (wG d s1 s2 hd w1).mono ?_;rintro e w2 ⟨rfl,x2⟩;have z2:=x2.size;obtain ⟨Ym,Yn,as3⟩:=fB d;have hE:∀{v},Ext w v->wo P v (ed d).1 s1 s2:=λx=>⟨by rw [Ym];exact h.s.ext x,by rw [Yn];exact h.l.ext x⟩
 have hn9:fV (ed d).1=fV d:=by unfold fV;rw [Ym,Yn]
 refine ⟨_,_,_,s1,s2,_,rfl,x2.heap aa,x2.heap aa,λw9 e9=> ?_⟩;have x9:Ext w w9:=(x1.tr x2).ab e9 (ax _);have z9:=mL e9;have r9:Row w9 w [.int .i64 (ed d).1.room,.int .i64 (ed d).1.dt,.int .i64 (ed d).1.wait,s1,s2] 27:=by rw [e9];exact Row.set (r1.ext x2) _
 apply Br.mk<;>intro hq
 ·intro bL A4;have e:fT d k b=((ed d).1,9):=by unfold fT;rw [if_pos hq]
  have br:=x9.ab A4 aa;rw [e];exact ⟨s1,s2,rfl,hE br,br⟩
 intro cH B2 bR Bv;have bT:Ext w9 bR:=(bq B2).ab Bv (ax _);have r12:Row bR w9 [k,s] 274:=by rw [Bv];exact Row.set (by rw [B2];exact Row.new w9 [_,_] _) _
 have x12d:=bT.tr (Ext.dr bR);have x12w:=x9.tr x12d;have hDk:=hE x12w;refine (vt hDk (hP.ext x12w) (by rw [Ym,Yn];omega)).mono ?_;rintro e cA ⟨sw,rfl,XY,cD⟩;rw [hn9] at XY;have Ye:=(r9.ext x12d).ext cD;have aer:=(r12.ext (Ext.dr bR)).ext cD;have z13:=Ye.lt;have aps:=aer.lt;have x13w:=x12w.tr cD;have apt:w9.heap.size<bR.drew.heap.size:=(r12.ext (Ext.dr bR)).lt;have hfl:=kj d.l d.safe;refine ⟨sw,rfl,cD.heap aa,cD.heap aa,cD.heap aa,Ye.bk (λj hj=>by simp at hj;subst hj;rfl),aer.bk (λj hj=>by rw [cO]),(Af (k,s,b) XY (hb.ext x13w) (hP.ext x13w) (by show (fV d).length<=_;unfold fV;omega)).mono ?_⟩;rintro e cS ⟨kz,rfl,h16,bA⟩;have z15:=bA.size;obtain ⟨its,kM,hitsm⟩:=h16;have M6:=Mr (fV d) (k,b);have hlb:=Ho hd.now (k,b);have II:=hd.Ry;have hrm:=hd.r;have ajp:(fV d).length<=d.safe.length+d.l.length:=hfl;have apv:its.length=(lay (fV d) (k,b)).length:=by rw [<-aB (f:=wm),hitsm]
 refine ⟨kz,rfl,bA.heap aa,bA.heap aa,bA.heap aa,(Ye.ext bA).bk (λj hj=>by simp at hj;subst hj;rfl),(OD kz its cS kM (by rw [hitsm];show fE (lay (fV d) (k,b))<=_;simp only at hlb;omega) aa).mono ?_⟩;rintro e cC ⟨rfl,hw⟩;subst hw;have r17:=Ye.ext bA;have x17w:=x13w.tr bA;have he:fE (its.map wm)=fE (lay (fV d) (k,b)):=by rw [hitsm]
 rw [he];refine ⟨_,rfl,rfl,rfl,rfl,r17.bk (λj hj=>by simp at hj;subst hj;rfl),Br.mk (λhr=> ?_) (λhr=> ?_)⟩
 ·intro fD yh;have cN:=x17w.ab yh aa;have hr:(fE (lay (fV d) (k,b)):Int)>d.room:=by rw [<-as3];simpa using hr
  have e:fT d k b=((ed d).1,8):=by unfold fT;rw [if_neg (by rw [hq];decide),if_pos hr]
  rw [e];exact ⟨s1,s2,rfl,hE cN,cN⟩
 ·have hr:¬(fE (lay (fV d) (k,b)):Int)>d.room:=by rw [<-as3];simpa using hr
  have e:fT d k b=({(ed d).1 with l:=d.l++ [(k,b)]},0):=by unfold fT;rw [if_neg (by rw [hq];decide),if_neg hr]
  obtain ⟨its2,Fe,hl2m⟩:=h.l;have ajq:=Fe.ext x17w;have Fu:=Fe.n;have hln2:its2.length=d.l.length:=by rw [<-hl2m,aB]
  have h0:ak cC OE 2 cC ⟨none,0,0⟩ []:=ak.nil;have ha:=h0.ke (bytes:=32) (more:=its2.map wv) (ax _) (λr hr=>by obtain ⟨y,-,rfl⟩:=aR.1 hr;rfl) (λr hr=>by obtain ⟨y,-,rfl⟩:=aR.1 hr;exact zT _ _ _ _) (by simp only [aB];omega) (by simp only [aB];omega);rw [aB,<-Fu] at ha;obtain ⟨hp,aS⟩:=ha;refine ⟨(its2.map wv).flatten,RdK.flat ajq.r aE,hp,λjk cx aa7=> ?_⟩;obtain ⟨aes,apw,eY,-,-⟩:=aS jk cx aa7;have eY:Ext cC cx:=eY;have z22:=eY.size;refine ⟨eY.heap aa,eY.heap aa,eY.heap aa,λgi Jk=> ?_⟩;subst Jk;have apx:jk.n=its2.length:=by have:=(ak.rd aes aE).n;simpa using this
  obtain ⟨ajr,hres23⟩:=aes.kD (bytes:=32) (news:=[.int .i64 k,.slice s.a s.n s.c]) (.cells #[k,s] 274) z22 rfl (zT _ _ _ _) aa aa;refine ⟨ajr,λkL eg PD=> ?_⟩;obtain ⟨f25,ur,aet,cW,-,-⟩:=hres23 kL eg PD;have xa:=Ext.al cx (.cells #[k,s] 274);have x25w:Ext w eg:=Below.trans x17w (Below.trans (Below.mono eY x17w.size) (Below.mono cW x17w.size));have kp:∀j,j<cC.heap.size->eg.heap[j]? =(cx.alloc (.cells #[k,s] 274)).heap[j]? :=λj hj=>by rw [cW.block j hj,xa.heap aa]
  refine ⟨kp _ aa,kp _ aa,kp _ aa,f25,λg7 IL jb yf=> ?_⟩;have dc:=(x25w.ab IL (ax _)).ab yf aa;have ajs:ak cC OE 2 jb kL ((its2++ [(k,s,b)]).map wv):=by
   refine ak.bP (rows:=(its2++ [(k,s,b)]).map wv) (by rw [aT];simpa using ur) λj hj=> ?_
   have hjB:=(ur.own.lt hj).1;rw [yf,setRow_other _ _ _ _ aa,IL,setRow_other _ _ _ _ aa]
  rw [e];refine ⟨s1,kL,rfl,⟨(hE dc).s,its2++ [(k,s,b)],xz.own ajs (λy hy=> ?_) (λi hi=>hP i (by have:=x17w.size;omega)),by rw [aT,hl2m];rfl⟩,dc⟩;rcases ct.1 hy with hy|hy
  ·exact (Fe.y y hy).ext dc
  ·simp only [fH] at hy;subst hy;exact hb.ext dc
def CN(h:wo P w d s1 s2)(hP:Fw P w)(hi:d.safe.length<=10000000/\d.l.length<=10000000)(k:Int):
  ah 171 #[dv d s1 s2,k] w λe w'=>∃(s:Sl)(q:Bool),e=Value.tuple #[s,q]/\RY P w' s (getD d k)/\Ext w w':=by
 apply (Ob.vc (aI:=s1) (aJ:=s2));intro w0 e0;have x0:=bq e0;have z0:=du e0;refine (vt (h.ext x0) (hP.ext x0) aa).mono ?_;rintro e w1 ⟨E1,rfl,⟨its,kM,hm⟩,x1⟩;have hn:=kM.n;have hfl:=kj d.l d.safe;have vD:its.length=(fV d).length:=by rw [<-hm,aB]
 have ajp:(fV d).length<=d.safe.length+d.l.length:=hfl;have hg:getD d k=((its.find? λy=>y.1==k).map (·.2.2)).getD []:=by unfold getD k8;rw [<-hm,List.find?_map];show ((Option.map wm (its.find? λy=>y.1==k)).map (·.2)).getD []=_;rw [Option.map_map];rfl
 rw [hg];refine ⟨E1,rfl,x1.heap aa,λn i wr=>∃j:Nat,i=j/\j+n=its.length/\(∀m,m<j->∀y,its[m]? =some y->y.1≠k)/\wr=w1,⟨its.length,rfl,0,rfl,by omega,(λm hm=>absurd hm (Nat.not_lt_zero m)),rfl⟩,?_⟩;rintro n us i wr ⟨j,rfl,hj,my,rfl⟩;apply Br.mk<;>intro hc
 ·replace hc:=fj hc;obtain ⟨y,hy⟩:=bh (l:=its) (i:=j) aa;obtain ⟨cV,mz,h0,h1⟩:=kM.at hy;refine ⟨cV,Bj mz ⟨y.1,h0,Br.mk (λhq=> ?_) (λhq=> ?_)⟩⟩
  ·refine ⟨cV,Bj mz ⟨y.2.1,h1,y.2.1,true,rfl,?_,x0.tr x1⟩⟩;have:its.find? (λy=>y.1==k)=some y:=by obtain ⟨Pw,q⟩:=bF.1 hy;rw [List.find?_eq_some_iff_getElem];refine ⟨hq,j,Pw,q,λm hm=> ?_⟩;have:=my m hm _ (cr aa);simpa using this
   rw [this];exact kM.y y (bc hy)
  ·refine ⟨n-1,by omega,rfl,j+1,by rw [wI];omega,by omega,λm hm y' hy'=> ?_,rfl⟩;rcases fx m j with q|q
   ·exact my m q y' hy'
   ·have:m=j:=by omega
    subst this;rw [hy] at hy';cases hy';simpa using hq
 ·replace hc:=fh hc;have:its.find? (λy=>y.1==k)=none:=by rw [R3];intro y hy;obtain ⟨m,hm⟩:=mO hy;have hml:=(bF.1 hm).1;simpa using my m aa y hm
  rw [this];exact ⟨⟨none,0,0⟩,false,rfl,RY.nil,x0.tr x1⟩
def Km(h:wo P w d s1 s2)(hP:Fw P w)(hd:iq d)(hi:d.safe.length<=10000000/\d.l.length<=10000000):
  ah 170 #[dv d s1 s2] w (G0 P w (iT d)):=by
 apply (Kw.vc (aI:=s1) (aJ:=s2));intro w0 e0 w1 e1;have x1:Ext w w1:=(bq e0).ay e1;have z0:=du e0;have z1:w1.heap.size=w.heap.size+2:=by rw [e1];simp [z0]
 refine (wG d s1 s2 hd w1).mono ?_;rintro e w2 ⟨rfl,x2⟩;have z2:=x2.size;obtain ⟨Ym,Yn,as3⟩:=fB d;have hE:∀{v},Ext w v->wo P v (ed d).1 s1 s2:=λx=>⟨by rw [Ym];exact h.s.ext x,by rw [Yn];exact h.l.ext x⟩
 have hn9:fV (ed d).1=fV d:=by unfold fV;rw [Ym,Yn]
 refine ⟨_,_,_,s1,s2,_,rfl,x2.heap aa,x2.heap aa,λw9 e9=> ?_⟩;have x9:Ext w w9:=(x1.tr x2).ab e9 (ax _);have z9:=mL e9;apply Br.mk<;>intro hq
 ·intro bL A4;have e:iT d=((ed d).1,9):=by unfold iT;rw [if_pos hq]
  have br:=x9.ab A4 aa;rw [e];exact ⟨s1,s2,rfl,hE br,br⟩
 have hE9:wo (λi=>P i/\i≠w.heap.size/\i≠w0.heap.size) w9 (ed d).1 s1 s2:=by
  have:=h.same (w':=w9) (P':=λi=>P i/\i≠w.heap.size/\i≠w0.heap.size) λi hp hi=>⟨x9.heap hi,hp,by omega,by omega⟩
  exact ⟨by rw [Ym];exact this.s,by rw [Yn];exact this.l⟩
 refine (vt hE9 (λi hi=>⟨hP i aa,by omega,by omega⟩) (by rw [Ym,Yn];omega)).mono ?_;rintro e cH ⟨eH,rfl,ny,bV⟩;rw [hn9] at ny;refine ⟨eH,rfl,bV.heap aa,bV.heap aa,λcA ud cm nu cS A1=> ?_⟩;have bA:=(((x9.tr bV).ab ud (ax _)).ab nu (ax _)).ab A1 aa;have e:iT d=({(ed d).1 with safe:=fV d,l:=[]},0):=by unfold iT;rw [if_neg (by rw [hq];decide),]
 rw [e];refine ⟨eH,⟨none,0,0⟩,rfl,⟨ny.same λi hp hi=>⟨?_,hp.1⟩,RW.nil⟩,bA⟩;rw [A1,setRow_other _ _ _ _ (λq=>hp.2.2 q),nu,setRow_other _ _ _ _ (λq=>hp.2.1 q),ud,setRow_other _ _ _ _ (λq=>hp.2.1 q)]
def Kr(room:Int)(w:World):ah 112 #[room] w λe w'=>e=(dv (jN room) ⟨none,0,0⟩ ⟨none,0,0⟩)/\wo P w' (jN room) ⟨none,0,0⟩ ⟨none,0,0⟩/\Ext w w':=by
 apply N8.vc;intro w0 e0 w1 e1;have x1:Ext w w1:=(bq e0).ab e1 (ax _);have ew:(if 1048576<(if 0>room then 0 else room) then 1048576 else (if 0>room then 0 else room))=min (max room 0) 1048576:=by split<;>split<;>omega
 rw [ew];exact ⟨rfl,⟨RW.nil,RW.nil⟩,x1⟩
end
end Go.Proofs.YtalpkjfpmdpbiaaGreatDoor
namespace Go.Proofs.YtalpkjfpmdpbiaaGreatDoor
open Go Go.Vc Go.RowKit Go.Proofs Go.dQ Go.bf Go.Code
def Ml(D:Dk)(id:Int):fO D id=
  if (iD (getD D (2*id))).2.2≠0 then (if (iD (getD D (2*id+1))).2.2≠0 then (2*id+1,0,[]) else (2*id+1,(iD (getD D (2*id+1))).1,(iD (getD D (2*id+1))).2.1))
  else if (iD (getD D (2*id+1))).2.2≠0 then (2*id,(iD (getD D (2*id))).1,(iD (getD D (2*id))).2.1)
  else if (iD (getD D (2*id))).1>=(iD (getD D (2*id+1))).1 then (2*id,(iD (getD D (2*id))).1,(iD (getD D (2*id))).2.1) else (2*id+1,(iD (getD D (2*id+1))).1,(iD (getD D (2*id+1))).2.1):=by
 unfold fO;have ha:= @QH (getD D (2*id));have hb:= @QH (getD D (2*id+1));generalize iD (getD D (2*id))=a at*;generalize iD (getD D (2*id+1))=b at*;by_cases qa:a.2.2=0
 ·have ha:=ha qa;have e1:fA (2*id+1,0,[]) (2*id) a=(2*id,a.1,a.2.1):=by unfold fA;rw [if_pos ⟨qa,by simp only;omega⟩]
  rw [e1,if_neg (by simpa using qa)];by_cases qb:b.2.2=0
  ·rw [if_neg (by simpa using qb)];by_cases q:a.1>=b.1
   ·rw [if_pos q];unfold fA;rw [if_neg (by simp only;omega)]
   ·rw [if_neg q];unfold fA;rw [if_pos ⟨qb,by simp only;omega⟩]
  ·rw [if_pos qb];unfold fA;rw [if_neg (λh=>qb h.1)]
 ·have e1:fA (2*id+1,0,[]) (2*id) a=(2*id+1,0,[]):=by unfold fA;rw [if_neg (λh=>qa h.1)]
  rw [e1,if_pos qa];by_cases qb:b.2.2=0
  ·have hb:=hb qb;rw [if_neg (by simpa using qb)];unfold fA;rw [if_pos ⟨qb,by simp only;omega⟩]
  ·rw [if_pos qb];unfold fA;rw [if_neg (λh=>qb h.1)]
section
variable {P P':Nat->Prop} {w w':World} {s1 s2:Sl} {d:Dk}
abbrev N1(d:Dk)(n:Nat):Prop:=d.safe.length<=n/\d.l.length<=n
def CM(h:wo P w d s1 s2)(hP:Fw P w)(hd:iq d)(hi:N1 d 10000000){id:Int}(hid:0<=id/\id<=1099511627776):
  ah 125 #[dv d s1 s2,id] w λe w'=>∃s:Sl,e=Value.tuple #[.int .i64 (fO d id).1,.int .i64 (fO d id).2.1,s]/\RY P w' s (fO d id).2.2/\Ext w w':=by
 apply (Rl.vc (aI:=s1) (aJ:=s2));intro w0 e0;have x0:=bq e0;have z0:=du e0;have q1:ai (2*id)=2*id:=wI;have q2:ai (2*id+1)=2*id+1:=wI;rw [q1,q2];refine (CN (h.ext x0) (hP.ext x0) hi (2*id)).mono ?_;rintro e w1 ⟨sa,qa,rfl,ha,x1⟩;have z1:=x1.size;refine ⟨sa,qa,rfl,x1.heap aa,(CN (h.ext (x0.tr x1)) (hP.ext (x0.tr x1)) hi (2*id+1)).mono ?_⟩;rintro e w4 ⟨sb,qb,rfl,hb,x4⟩;have z4:=x4.size;have la:=yy hd (2*id);have lb:=yy hd (2*id+1);refine ⟨sb,qb,rfl,x4.heap aa,(wu sa _ w4 (ha.ext x4) aa).mono ?_⟩;rintro e w7 ⟨s9,rfl,h9,x7⟩;have z7:=x7.size;refine ⟨_,s9,_,rfl,x7.heap aa,(wu sb _ w7 (hb.ext x7) aa).mono ?_⟩;rintro e cH ⟨gf,rfl,h13,bV⟩;have h9:=h9.ext bV;have xx:=x0.tr (x1.tr (x4.tr (x7.tr bV)));rw [Ml];refine ⟨_,gf,_,rfl,bV.heap aa,?_⟩;generalize iD (getD d (2*id))=a at*;generalize iD (getD d (2*id+1))=b at*;apply Br.mk<;>intro c1
 ·have c1:=kB c1;rw [if_pos c1];refine Br.mk (λc2=> ?_) (λc2=>Br.mk (λc3=>by rw [c3] at c2;cases c2) (λ_=>Br.mk (λc3=>absurd (by simpa using c3) c1) (λ_=> ?_)))
  ·rw [if_pos (by simpa using c2)];exact ⟨⟨none,0,0⟩,rfl,RY.nil,xx⟩
  ·rw [if_neg (by simpa using c2)];exact ⟨gf,rfl,h13,xx⟩
 ·have c1:=kB c1;rw [if_neg (by simpa using c1)];refine Br.mk (λc2=> ?_) (λc2=>Br.mk (λ_=>Br.mk (λc4=> ?_) (λc4=> ?_)) (λc3=>absurd c1 (by simpa using c3)))
  ·rw [if_pos (by simpa using c2)];exact ⟨s9,rfl,h9,xx⟩
  ·rw [if_neg (by simpa using c2),if_pos (by simpa using c4)];exact ⟨s9,rfl,h9,xx⟩
  ·rw [if_neg (by simpa using c2),if_neg (by simpa using c4)];exact ⟨gf,rfl,h13,xx⟩
def pE(h:wo P w d s1 s2)(hP:Fw P w)(hd:iq d)(hi:N1 d 10000000)(id:Int):
  ah 80 #[dv d s1 s2,id] w λe w'=>∃s:Sl,e=Value.tuple #[s,.int .i64 (qh d id).2.1,.bool (qh d id).2.2]/\RY P w' s (qh d id).1/\Ext w w':=by
 apply (Kk.vc (aI:=s1) (aJ:=s2));intro w0 e0;have x0:=bq e0;have z0:=du e0;have bad:nH id=false->∃s:Sl,Ending.returned (.tuple #[.slice none 0 0,af,false])=Value.tuple #[s,.int .i64 (qh d id).2.1,.bool (qh d id).2.2]/\RY P w0 s (qh d id).1/\Ext w w0:=λq=>by
  have e:qh d id=([],0,false):=by unfold qh;rw [if_neg (by rw [q];decide)]
  rw [e];exact ⟨⟨none,0,0⟩,rfl,RY.nil,x0⟩
 refine Br.mk (λc=>bad (by unfold nH;simp at c ⊢;omega)) (λc=>Br.mk (λc2=>bad (by unfold nH;simp at c2 ⊢;omega)) (λc2=> ?_));simp only [bQ] at c c2;refine (CM (h.ext x0) (hP.ext x0) hd hi (id:=id) aa).mono ?_;rintro e w1 ⟨s,rfl,hs,x1⟩;have e:qh d id=((fO d id).2.2,(fO d id).2.1,decide ((fO d id).2.1>0)):=by unfold qh;rw [if_pos (by unfold nH;simp;omega)]
 rw [e];exact ⟨_,_,s,rfl,x1.heap aa,s,rfl,hs,x0.tr x1⟩
def GY(D:Dk)(k:Int)(b:List Int):(fT D k b).1.safe=D.safe:=by
 have:=(fB D).1;unfold fT;split
 ·exact this
 ·split
  ·exact this
  ·exact this
def GZ(h:wo P w d s1 s2)(hP:Fw P w)(hd:iq d)(hi:N1 d 1000000)(id:Int)(s:Sl)(b:List Int)(hb:RY P w s b)(vE:b.length<=1000000):
  ah 123 #[dv d s1 s2,id,s] w (G0 P w (ov d id b)):=by
 apply (Kl.vc (aI:=s1) (aJ:=s2) (a2:=s));intro w0 e0 w1 e1;have x1:Ext w w1:=(bq e0).ay e1;have z0:=du e0;have z1:w1.heap.size=w.heap.size+2:=by rw [e1];simp [z0]
 have bad:nH id=false->∀w2,w2=w1.setRow w0 #[d.room,d.dt,d.wait,s1,s2]->G0 P w (ov d id b) (.returned (.tuple #[dv d s1 s2,(1:Int)])) w2:=λq w2 e2=>by
  have e:ov d id b=(d,1):=by unfold ov;rw [if_neg (by rw [q];decide)]
  have x2:=x1.ab e2 aa;rw [e];exact ⟨s1,s2,rfl,h.ext x2,x2⟩
 refine Br.mk (λc=>bad (by unfold nH;simp at c ⊢;omega)) (λc=>Br.mk (λc2=>bad (by unfold nH;simp at c2 ⊢;omega)) (λc2=> ?_));simp only [bQ] at c c2;have hm:nH id=true:=by unfold nH;simp;omega
 refine (CM (h.ext x1) (hP.ext x1) hd ⟨by omega,by omega⟩ (id:=id) aa).mono ?_;rintro e w4 ⟨s7,rfl,h7,x4⟩;have z4:=x4.size;have hv:=Xv d id;have kI:=FY d id;have e6:ai ((fO d id).2.1+1)=(fO d id).2.1+1:=wI;have e5:ai (ai (ai (4*id)+1)-(fO d id).1)=4*id+1-(fO d id).1:=by rw [az (n:=4*id) (by unfold inI;omega),az (n:=4*id+1) (by unfold inI;omega),wI]
 have cl:=x1.tr x4;refine ⟨_,_,s7,rfl,x4.heap aa,x4.heap aa,?_⟩;rw [e6,e5];refine (G1 s b _ w4 (hb.ext cl).r hb.y (by unfold inI;omega)).mono ?_;rintro e w8 ⟨s9,rfl,h9,x8⟩;have z8:=x8.size;have cn:=cl.tr x8;refine ⟨s9,_,rfl,x8.heap aa,x8.heap aa,Br.mk (λq=> ?_) (λq=> ?_)⟩
 ·intro cH B2;have q:(lX ((fO d id).2.1+1) b).2≠0:=by simpa using q
  have e:ov d id b=(d,(lX ((fO d id).2.1+1) b).2):=by unfold ov;rw [if_pos hm,if_pos q]
  have bV:=cn.ab B2 aa;rw [e];exact ⟨s1,s2,rfl,h.ext bV,bV⟩
 have q:¬(lX ((fO d id).2.1+1) b).2≠0:=by simpa using q
 have hw9:RY (λi=>P i/\i≠w0.heap.size) w8 s9 (lX ((fO d id).2.1+1) b).1:=RY.own h9 (Rm hb.y) λi hi=>⟨hP i (by have:=cl.size;omega),by omega⟩
 have h18:wo (λi=>P i/\i≠w0.heap.size) w8 d s1 s2:=h.same λi hp hi=>⟨cn.heap hi,hp,by omega⟩
 have hwl:(lX ((fO d id).2.1+1) b).1.length<=1000000000:=by
  unfold lX;split
  ·simp
  ·rw [uQ,tk];omega
 have e:ov d id b=if (fT d (4*id+1-(fO d id).1) (lX ((fO d id).2.1+1) b).1).2≠0 then fT d (4*id+1-(fO d id).1) (lX ((fO d id).2.1+1) b).1 else iT (fT d (4*id+1-(fO d id).1) (lX ((fO d id).2.1+1) b).1).1:=by unfold ov;rw [if_pos hm,if_neg q]
 rw [e];have aU:=hd.put (4*id+1-(fO d id).1) (lX ((fO d id).2.1+1) b).1;have hpl:=FZ d (4*id+1-(fO d id).1) (lX ((fO d id).2.1+1) b).1;have hps:=GY d (4*id+1-(fO d id).1) (lX ((fO d id).2.1+1) b).1;refine (N2 h18 (λi hi=>⟨hP i aa,by omega⟩) hd ⟨by omega,by omega⟩ _ s9 _ hw9 hwl).mono ?_;rintro e bR ⟨kz,gZ,rfl,ny,bT⟩;have UU:=bT.size;generalize fT d (4*id+1-(fO d id).1) (lX ((fO d id).2.1+1) b).1=R at*;refine ⟨_,_,_,kz,gZ,_,rfl,bT.heap aa,bT.heap aa,λfD yh eC Bs=> ?_⟩;have dK:Ext bR eC:=(bq yh).ab Bs (ax _);have z20:=kC yh Bs;have PG:=cn.tr (bT.tr dK);have h20:=ny.ext dK;apply Br.mk<;>intro q2
 ·intro ea uq;rw [if_pos (by simpa using q2)];have fW:=PG.ab uq aa;exact ⟨kz,gZ,rfl,h20.same λi hp hi=>⟨by rw [uq,setRow_other _ _ _ _ (λq=>hp.2 q)],hp.1⟩,fW⟩
 ·rw [if_neg (by simpa using q2)];refine (Km h20 (λi hi=>⟨hP i aa,by omega⟩) aU ⟨by rw [hps];omega,by omega⟩).mono ?_;rintro e cx ⟨vH,lV,rfl,h22,eY⟩;refine ⟨_,_,_,vH,lV,_,rfl,eY.heap aa,eY.heap aa,eY.heap aa,λfJ MQ=> ?_⟩;have iL:=(PG.tr eY).ab MQ aa;exact ⟨vH,lV,rfl,h22.same λi hp hi=>⟨by rw [MQ,setRow_other _ _ _ _ (λq=>hp.2 q)],hp.1⟩,iL⟩
end
end Go.Proofs.YtalpkjfpmdpbiaaGreatDoor
