import Derived.Test.YtjcnjlaelhdjeaaGreatDoorE
import Derived.Test.YtjcnjlaelhdjeaaGreatDoorD
import Derived.Laws.IdiomRangeMap
import Derived.LoopTactic
set_option linter.all false
namespace Go.Proofs.YtjcnjlaelhdjeaaGreatDoor.Q
open Go Go.Vc Go.RowKit Go.Proofs Go.fi
set_option maxRecDepth 100000
set_option maxHeartbeats 8000000
abbrev zh:TypeId:=23
abbrev cl:TypeId:=106
abbrev nR:TypeId:=192
def GC(v:Value):Prop:=∃c:Cl,v=cv c
def AA:gR Tryz.prog zh GC:=by
 refine ⟨?_,?_,?_⟩
 ·rintro x y ⟨a,rfl⟩ ⟨b,rfl⟩;refine ⟨a.1==b.1 &&(a.2.1==b.2.1 && a.2.2==b.2.2),by kernel_rfl,?_⟩;simp only [gP,beq_iff_eq];constructor
  ·rintro ⟨h1,h2,h3⟩;unfold cv;rw [h1,h2,h3]
  ·intro h;rw [G0 h];simp
 ·rintro x ⟨a,rfl⟩ b w;kernel_rfl
 ·rintro x ⟨a,rfl⟩;simp [cv,Instr.sameBits]
def HG(a:Int)(w:World):kT 361 #[a] w false:=by apply cmp_isNaN_int.vc;simp
def NI(a b:Int)(w:World):kT 326 #[a,b] w (Value.int .i64 (if a<b then -1 else if b<a then 1 else 0)):=by
 apply Ek.vc;refine (HG a w).mono ?_;rintro e w1 ⟨rfl,rfl⟩;refine ⟨_,rfl,(HG b w1).mono ?_⟩;rintro e w2 ⟨rfl,rfl⟩;refine ⟨_,rfl,Br.mk (λh=>by cases h) (λ_=>Br.mk (λh=>by cases h) (λ_=>Br.mk (λh=> ?_) (λh=>Br.mk (λh2=> ?_) (λh2=> ?_))))⟩
 ·replace h:=lT h;rw [if_pos h];exact ⟨rfl,rfl⟩
 ·simp only [cL,fm] at h h2;rw [if_neg h,if_pos h2];exact ⟨rfl,rfl⟩
 ·simp only [fm] at h h2;rw [if_neg h,if_neg h2];exact ⟨rfl,rfl⟩
def aeT(a b:Int)(g:Nat)(w:World)(hr:Row w g [a,b] 3):
  kT 325 #[.slice (aB g) 2 2] w (Value.int .i64 (if a=0 then b else a)):=by
 apply (VP.vc (a0:=⟨aB g,2,2⟩));refine ⟨λn x wr=>wr=w/\∃k:Nat,x=k/\k+n=2/\(1<=k->a=0)/\(2<=k->b=0),⟨2,rfl,0,rfl,rfl,aa,aa⟩,?_⟩;rintro n us x wr ⟨rfl,k,rfl,hk,h1,h2⟩;have hw:=aK (n:=(k:Int)+1) inO;rw [hw];apply Br.mk<;>intro h<;>simp only [cL,fm] at h
 ·refine ⟨⟨rfl,aa,aa⟩,if k=0 then a else b,?_,Br.mk (λh3=> ?_) (λh3=> ?_)⟩
  ·show ld wr (ab (aB g) _)=_;rw [aF,hr.ld];have:k=0\/k=1:=by simp at h;omega
   rcases this with rfl|rfl<;>rfl
  ·simp only [bne_iff_ne,ne_eq] at h3;have:k=0\/k=1:=by simp at h;omega
   rcases this with rfl|rfl
   ·rw [if_pos rfl] at h3 ⊢;rw [if_neg h3];exact ⟨rfl,rfl⟩
   ·rw [if_neg (show ¬((1:Nat)=0) by omega)] at h3 ⊢;rw [if_pos (h1 aa)];exact ⟨rfl,rfl⟩
  ·simp only [bne_eq_false_iff_eq] at h3;have:k=0\/k=1:=by simp at h;omega
   rcases this with rfl|rfl
   ·rw [if_pos rfl] at h3;exact ⟨n-1,aa,rfl,1,aa,aa,λ_=>h3,aa⟩
   ·rw [if_neg (show ¬((1:Nat)=0) by omega)] at h3;exact ⟨n-1,aa,rfl,2,aa,aa,λ_=>h1 aa,λ_=>h3⟩
 ·have:k=2:=by simp at h;omega
  subst this;rw [if_pos (h1 aa),h2 aa];exact ⟨rfl,rfl⟩
def HF(x y:It)(w:World):ae 324 #[.agg (fR x).toArray,.agg (fR y).toArray] w λe w'=>(∃z:Int,e=z/\(z<0 ↔ x.1<=y.1))/\Ext w w':=by
 apply yi.vc;intro w0 e0 w1 e1;have x1:Ext w w1:=by rw [e1,e0];exact (Ext.al _ _).tr (Ext.al _ _)
 refine (NI x.1 y.1 _).mono ?_;intro e w2 hh;obtain ⟨rfl,ew⟩:=hh;have x2:Ext w w2:=by rw [ew];exact x1
 refine ⟨_,rfl,by rw [ew],by rw [ew],?_⟩;intro w4 e4;have x4:Ext w w4:=x2.ba e4;have dh:Row w4 w2 [.int .i64 (if x.1<y.1 then -1 else if y.1<x.1 then 1 else 0),(-1:Int)] 3:=by rw [e4];exact Row.new w2 [_,_] _
 refine (aeT _ _ _ _ dh).mono ?_;intro e w5 hh;obtain ⟨rfl,ew5⟩:=hh;refine ⟨_,rfl,by rw [ew5],by rw [ew5],⟨_,rfl,?_⟩,by rw [ew5];exact x4⟩;by_cases h1:x.1<y.1
 ·rw [if_pos h1];simp;omega
 ·by_cases h2:y.1<x.1
  ·rw [if_neg h1,if_pos h2];simp;omega
  ·rw [if_neg h1,if_neg h2];simp;omega
def fT(l:List It):∀r ∈ l.map fR,r.length=4:=by intro r hr;obtain ⟨x,_,rfl⟩:=bf.1 hr;rfl
def kY(l:List It):∀r ∈ l.map fR,One r:=by intro r hr;obtain ⟨x,_,rfl⟩:=bf.1 hr;intro u hu;simp at hu;rcases hu with rfl|rfl|rfl|rfl<;>rfl
def sa(x:It):One (fR x):=by intro u hu;simp at hu;rcases hu with rfl|rfl|rfl|rfl<;>rfl
def JE(l:List It)(i:Nat):(l.map fR).flatten.take (i*4)=((l.take i).map fR).flatten:=by
 have hw:=fT (l.take i);rcases iW i l.length with h|h
 ·conv=>lhs;rw [<-tn i l,bS,zi]
  rw [FJ (by rw [bQ hw];simp;omega)]
 ·rw [dI h,dI];rw [bQ (fT l)];simp;omega
def JG(l:List It)(i:Nat):(l.map fR).flatten.drop (i*4)=((l.drop i).map fR).flatten:=by
 rcases iW i l.length with h|h
 ·conv=>lhs;rw [<-tn i l,bS,zi]
  rw [List.drop_left' (by rw [bQ (fT _)];simp;omega)]
 ·rw [wD h,wD]
  ·rfl
  ·rw [bQ (fT l)];simp;omega
def FL{cs:LV}{l:List It}{n:Nat}(ht:cs.take (n*4)=(l.map fR).flatten)(hn:n=l.length)(i j:Nat)(hj:j<((l.drop i).map fR).flatten.length):cs[i*4+j]? =((l.drop i).map fR).flatten[j]? :=by rw [<-JG,yW,<-ht,qS,if_pos];rw [bQ (fT _)] at hj;simp at hj;omega
def IV{w:World}{g g':Nat}{x cs:LV}(hx:Row w g x cl)(hr:Row w g' cs cl)(fA:g≠g')(hc:cs.length≠0)(o:Nat)(la ca lb cb:Nat){R:eWp}(h:R (.returned (.bool false)) w):
  ads Tryz.prog 362 [.slice (aB g) la ca,.slice (jS g' o) lb cb] w R:=by
 refine ⟨_,⟨_,rfl,by kernel_rfl,by kernel_rfl,by kernel_rfl⟩,_,_,Lib.run_overlaps_apart w 71 0 cl (by kernel_rfl) 4 (λw=>by kernel_rfl) ⟨g,0,none⟩ ⟨g',o,none⟩ la ca lb cb fA cl cl x.length cs.length ?_ ?_ hc ?_ ?_,h⟩
 ·simp [World.shape?,show w.heap[g]? =_ from hx]
 ·simp [World.shape?,show w.heap[g']? =_ from hr]
 ·simp [World.frozen?,show w.heap[g]? =_ from hx]
 ·simp [World.frozen?,show w.heap[g]? =_ from hx]
def GX{w:World}{g g':Nat}{x cs:LV}(hx:Row w g x cl)(hr:Row w g' cs cl)(fA:g≠g')(hc:cs.length≠0){p:Option Addr}{o:Nat}(hp:p=some ⟨g',o,none⟩)(la ca lb cb:Nat){R:eWp}(h:R (.returned (.bool false)) w):
  ads Tryz.prog 362 [.slice (aB g) la ca,.slice p lb cb] w R:=by
 subst hp;exact IV hx hr fA hc o la ca lb cb h
def CT(n:Nat):bF [ai,ai,ai,ai] n=((List.replicate n ((0,0,0,0):It)).map fR).flatten:=by unfold bF;simp
def QV{w:World}{s:Sl}{l:List It}{i g:Nat}{x:It}(ho:ar 0 cl 4 w s (l.map fR))(hx:Row w g (fR x) cl)(hi:i<=l.length)(hl:l.length<=5000)(fA:s.aX≠some g):
  ae 327 #[s,(i:Int),.slice (aB g) 1 1] w λe w'=>∃s':Sl,e=Value.slice s'.a s'.n s'.c/\ar 0 cl 4 w' s' ((l.take i++x::l.drop i).map fR)/\Mod (λb=>s.aX=some b) w w'/\(∀b,s'.aX=some b->s.aX=some b\/w.heap.size<=b):=by
 have hn:s.n=l.length:=by rw [(ho.rd aw).n,aJ]
 apply yk.vc (a2:=⟨aB g,1,1⟩);have S7:aC (((s.n:Nat):Int)+((1:Nat):Int))=((s.n+1:Nat):Int):=by rw [wI];omega
 have yu:aC ((i:Int)+((1:Nat):Int))=((i+1:Nat):Int):=by rw [wI];omega
 have H2:aC (((s.n+1:Nat):Int)-(i:Int))=((s.n+1-i:Nat):Int):=by rw [wI];omega
 have hw4:aC ((s.n+1-i:Nat):Int)=((s.n+1-i:Nat):Int):=wI;have hrx:Rd w (aB g) (fR x):=hx.rd0 λj hj=>rfl
 dsimp only;rw [S7,yu,H2,hw4];simp only [gZ,Nat.sub_zero,dw];refine ⟨aa,aa,Br.mk (λh=>by cases h) (λ_=>Br.mk (λh=> ?_) (λh=> ?_))⟩
 ·
  have he:i=l.length:=by simp at h;omega
  obtain ⟨hp,hr⟩:=ho.append (bytes:=32) (news:=fR x) (dU _) rfl (sa x) aa aa;refine ⟨fR x,hrx,hp,λs' w' bq=> ?_⟩;obtain ⟨h1,h2,h3,h4,h5⟩:=hr s' w' bq;refine ⟨s',rfl,?_,Mod.xi h3 h4,?_⟩
  ·rw [he,kA,List.drop_length,bS];exact h1
  ·intro b hb;rcases h5 with h5|h5
   ·exact .inl (h5▸hb)
   ·rw [h5] at hb;cases hb;exact .inr (ak _)
 ·have fD:i<l.length:=by
   have:i≠l.length:=λe=>by subst e;simp [hn] at h
   omega
  rcases ho.form aw with ⟨hs,Ep⟩|⟨g0,cs,ha,hg0,hr,hc,Ib,ht,hn'⟩
  ·have:l=[]:=by simpa using Ep
   subst this;simp at fD
  have aj8:g0≠g:=λe=>fA (by unfold Sl.aX;rw [ha,e];rfl)
  have iN:s.aX=some g0:=by unfold Sl.aX;rw [ha];rfl
  have xc:cs.take (i*4)=((l.take i).map fR).flatten:=by rw [<-JE,<-ht,List.take_take,Nat.min_eq_left aa]
  rw [ha];apply Br.mk<;>intro h2
  ·
   replace h2:=lT h2;have hpre:ar 0 cl 4 w ⟨aB g0,i,s.c⟩ ((l.take i).map fR):=ar.jU (dU _) hr hc aa xc (fT _);obtain ⟨hp,-⟩:=hpre.FC (bytes:=32) (more:=(List.replicate (s.n+1-i) ((0,0,0,0):It)).map fR) (dU _) (fT _) (kY _) smo smo;have db:((List.replicate (s.n+1-i) ((0,0,0,0):It)).map fR).length=s.n+1-i:=by simp
   rw [db] at hp;rw [CT];refine ⟨aa,aa,⟨aa,trivial,aa⟩,hp,λs3 w4 bq=> ?_⟩;generalize hz:((List.replicate (s.n+1-i) ((0,0,0,0):It)).map fR).flatten=zs at bq;have TM:zs.length=(s.n+1-i)*4:=by rw [<-hz,bQ (fT _)];simp
   cases bq with
   |fits hf=>simp only at hf;omega
   |grows hg fV rest cap q1 q2 q3 q4=>
    simp only at q1 q2 q3;have HT:fV=cs.take (i*4):=by
     refine YO q2 (hr.rd0 (vs:=cs.take (i*4)) λj hj=> ?_) ?_
     ·rw [cK] at hj;rw [qS,if_pos aa]
     ·rw [q1,cK];omega
    have hR:Row (w.drew.alloc (.cells (fV++zs++rest).toArray cl)) w.heap.size (fV++zs++rest) cl:=Row.new w.drew _ _;generalize aBs:w.drew.alloc (.cells (fV++zs++rest).toArray cl)=w4 at hR;have x4:Ext w w4:=by rw [<-aBs];exact (Ext.dr w).tr (Ext.al _ _)
    have hr4:=hr.ext x4;have hlt0:=hr.lt;have hn3:i+(s.n+1-i)=s.n+1:=by omega
    have hCl:(s.n+1)*4<=(fV++zs++rest).length:=by rw [q4];exact qW _ aa
    dsimp only;rw [hn3];have hx4:=hx.ext x4;have mP:((l.drop i).map fR).flatten.length=(s.n-i)*4:=by rw [bQ (fT _)];simp;omega
    have hm1:min 1 (s.n+1-i)*4=4:=by
     have:min 1 (s.n+1-i)=1:=by omega
     rw [this]
    have Er:min (s.n-i) (s.n+1-(i+1))=s.n-i:=by omega
    obtain ⟨p1,p2,p3⟩:=hR.acE (vs:=fR x) (l:=i) (m:=cap) (size:=4) (by intro e;omega) smo (sa x);refine ⟨aa,aa,fR x,⟨hm1.symm,hx4.rd0 λj hj=>rfl,sa x,p1⟩,?_⟩;intro w6 e6;rw [<-e6] at p2 p3;have hr6:Row w6.drew g0 cs cl:=(p3.row hr4 aa).ext (Ext.dr _);have p2':Row w6.drew w _ cl:=p2.ext (Ext.dr _);obtain ⟨u1,u2,u3⟩:=p2'.acE (vs:=((l.drop i).map fR).flatten) (l:=i+1) (m:=cap) (size:=4) (by intro e;rw [wD aa];rfl) (by rw [mP,Go.Vc.dc];omega) (gD (kY _));refine ⟨aa,aa,aa,aa,((l.drop i).map fR).flatten,⟨by rw [Er,mP],hr6.alU (by intro e;rw [wD aa];rfl) (FL ht hn i),gD (kY _),u1⟩,?_⟩;intro w8 e8;rw [<-e8] at u2 u3;refine ⟨⟨aB w.heap.size,s.n+1,cap⟩,rfl,ar.jU (dU _) u2 (by rw [Go.Vc.dc,Go.Vc.dc,q4];exact ak _) aa ?_ (fT _),?_,?_⟩
    ·rw [aeP smo (by rw [mP];omega) hCl,fY,fY,FJ (by rw [q1]),HT,xc];simp
    ·refine ((Mod.aq x4).tr p3 (λb hb=> .inr aa)).tr (F':=λb=>b=w.heap.size) ?_ (λb hb=> .inr aa);exact (Mod.aq (Ext.dr _)).trans u3
    ·intro b hb;have:w.heap.size=b:=by simpa [Sl.aX] using hb
     exact .inr aa
  ·
   replace h2:=l6 h2;have hCl:(s.n+1)*4<=cs.length:=c8 (qW _ aa) hc;have mP:((l.drop i).map fR).flatten.length=(s.n-i)*4:=by rw [bQ (fT _)];simp;omega
   refine ⟨aa,aa,aa,aa,?_⟩;refine GX hx hr (Ne.symm aj8) aa (by rw [sC,if_neg aa]) _ _ _ _ ⟨_,rfl,Br.mk (λ_=> ?_) (λh=>by cases h)⟩;have Er:min (s.n+1-i) (s.n+1-(i+1))=s.n-i:=by omega
   have hm1:min 1 (s.n+1-i)*4=4:=by
    have:min 1 (s.n+1-i)=1:=by omega
    rw [this]
   have hr':=hr.ext (Ext.dr w);obtain ⟨u1,u2,u3⟩:=hr'.acE (vs:=((l.drop i).map fR).flatten) (l:=i+1) (m:=s.c) (size:=4) (by intro e;omega) (by rw [mP];omega) (gD (kY _));refine ⟨aa,aa,aa,aa,((l.drop i).map fR).flatten,⟨by rw [Er,mP],hr'.alU (by intro e;omega) (FL ht hn i),gD (kY _),u1⟩,?_⟩;intro bO uv;rw [<-uv] at u2 u3;obtain ⟨p1,p2,p3⟩:=u2.acE (vs:=fR x) (l:=i) (m:=s.c) (size:=4) (by intro e;omega) (by rw [Go.Vc.dc];simp;omega) (sa x);have aBt:Row bO g (fR x) cl:=u3.row (hx.ext (Ext.dr w)) (Ne.symm aj8);refine ⟨aa,aa,fR x,⟨hm1.symm,aBt.rd0 λj hj=>rfl,sa x,p1⟩,?_⟩;intro cu yw;rw [<-yw] at p2 p3;refine ⟨⟨aB g0,s.n+1,s.c⟩,rfl,ar.jU (dU _) p2 (by rw [Go.Vc.dc,Go.Vc.dc];exact hc) aa ?_ (fT _),?_,?_⟩
   ·rw [aaE smo (by rw [mP];omega) hCl,xc];simp
   ·refine (((Mod.aq (Ext.dr w)).trans u3).trans p3).mono λb _ hb=> ?_
    rw [iN,hb]
   ·intro b hb;exact .inl (iN.trans hb)
def dB.item{w:World}{s:Sl}{l:List It}(h:dB w s 4 (l.map fR)){i:Nat}{x:It}(hi:l[i]? =some x):ah w (ab s.a (i*4)) 0 (fR x):=
 h.bK (by rw [aZ,hi];rfl)
def ad3{w:World}{s:Sl}{l:List It}(x:It)(h:dB w s 4 (l.map fR))(hs:l.Pairwise λa b=>a.1<=b.1)(hl:l.length<=5000):
  ae 323 #[s,.agg (fR x).toArray,.func (.func 324) #[] #[]] w λe w'=>(∃b,e=Value.tuple #[.int .i64 ((l.takeWhile λy=>y.1<=x.1).length:Nat),.bool b])/\Ext w w':=by
 have hn:s.n=l.length:=by rw [h.n,aJ]
 apply nU.vc;intro w0 e0;have x0:=aV e0;have Fc:w0.heap.size=w.heap.size+1:=by rw [e0];simp [World.alloc_eq]
 have hk:(l.takeWhile λy=>decide (y.1<=x.1)).length<=l.length:=(List.takeWhile_sublist _).length_le;generalize hkk:(l.takeWhile λy=>decide (y.1<=x.1)).length=k at hk;have Ia:∀{i:Nat} {y:It},l[i]? =some y->(i<k ↔ y.1<=x.1):=λhi=>by rw [<-hkk];exact AD hs x.1 hi
 refine ⟨λn a b wr=>Ext w0 wr/\∃lo hi:Nat,a=lo/\b=hi/\lo<=k/\k<=hi/\hi<=l.length/\n=hi-lo,⟨_,rfl,Ext.bU _,0,s.n,rfl,rfl,dU _,aa,aa,rfl⟩,?_⟩;rintro n us a b wr ⟨xr,lo,hi,rfl,rfl,h1,h2,h3,rfl⟩;refine Br.mk (λfD=> ?_) (λOK=> ?_)<;>simp only [cL,fm] at*
 ·rw [amJ aa];have atK:(lo+hi) / 2<l.length:=by omega
  have gm:l[(lo+hi) / 2]? =some l[(lo+hi) / 2]:=cO atK;generalize l[(lo+hi) / 2]=y at gm;have hr:=(h.ext (x0.tr xr)).ext (Ext.dr wr);have nE:=xr.size;refine ⟨⟨?_,aa,aa⟩,y.1,y.2.1,y.2.2.1,y.2.2.2,dB.item hr gm,?_⟩
  ·exact h.isSome aw (i:=(lo+hi) / 2) (by simpa using atK)
  refine bV (by kernel_rfl) rfl ((HF y x _).mono ?_);rintro e w2 ⟨⟨z,rfl,hz⟩,x2⟩;have hz':=(Ia gm).trans hz.symm;have x3:=(xr.tr (Ext.dr wr)).tr x2;refine ⟨z,rfl,(x2.heap ?_),Br.mk (λhb=> ?_) (λhb=> ?_)⟩
  ·show w.heap.size<wr.heap.size;omega
  ·replace hb:=lT hb;have:=hz'.2 hb;have hw:aC ((((lo+hi) / 2:Nat):Int)+1)=(((lo+hi) / 2+1:Nat):Int):=by rw [wI];omega
   rw [hw];exact ⟨_,aa,trivial,x3,(lo+hi) / 2+1,hi,rfl,rfl,aa,h2,h3,rfl⟩
  ·replace hb:=l6 hb;have:¬(lo+hi) / 2<k:=λh=>hb (hz'.1 h)
   exact ⟨_,aa,trivial,x3,lo,(lo+hi) / 2,rfl,rfl,h1,aa,aa,rfl⟩
 ·have:lo=k:=by omega
  subst this;have hr:=(h.ext (x0.tr xr)).ext (Ext.dr wr);have nE:=xr.size;refine Br.mk (λhb=> ?_) (λhb=>⟨⟨_,rfl⟩,x0.tr (xr.tr (Ext.dr _))⟩);replace hb:=lT hb;have gm:l[lo]? =some (l[lo]'aa):=cO aa;generalize l[lo]'aa=y at gm;refine ⟨⟨h.isSome aw (i:=lo) smo,aa,aa⟩,y.1,y.2.1,y.2.2.1,y.2.2.2,dB.item hr gm,?_⟩;refine bV (by kernel_rfl) rfl ((HF y x _).mono ?_);rintro e w2 ⟨⟨z,rfl,hz⟩,x2⟩;refine ⟨z,rfl,x2.heap (show w.heap.size<wr by omega),⟨_,rfl⟩,(x0.tr (xr.tr (Ext.dr wr))).tr x2⟩
def FK(x:It){b:Nat}{c:Cl}{w:World}(hb:Row w b (eZ c) zh):eU 322 #[.agg (fR x).toArray,b] w (Value.bool (x.2==c)):=by apply yh.vc;intro w0 e0;have x0:=aV e0;exact ⟨c.1,c.2.1,c.2.2,(hb.ext x0).bK (λj hj=>by rw [eK]),rfl,x0⟩
def xm{w:World}{s:Sl}{l:List It}{b:Nat}{c:Cl}(h:dB w s 4 (l.map fR))(hb:Row w b (eZ c) zh)(hl:l.length<=5000):
  ae 360 #[s,.func (.func 322) #[] #[b]] w λe w'=>(∃i:Int,e=i/\((i= -1/\∀x ∈ l,x.2≠c)\/∃k:Nat,i=k/\k<l.length/\(∀x ∈ l.take k,x.2≠c)/\∀x,l[k]? =some x->x.2=c))/\Ext w w':=by
 have hn:s.n=l.length:=by rw [h.n,aJ]
 apply uh.vc;refine ⟨λn a wr=>Ext w wr/\∃k:Nat,a=k/\k+n=l.length/\(∀x ∈ l.take k,x.2≠c),⟨l.length,Ext.bU _,0,rfl,aa,bo⟩,?_⟩;rintro n us a wr ⟨xr,k,rfl,h1,h2⟩;refine Br.mk (λfD=> ?_) (λOK=> ?_)<;>simp only [cL,fm] at*
 ·have gm:l[k]? =some (l[k]'aa):=cO aa;generalize l[k]'aa=y at gm;refine ⟨⟨h.isSome aw (i:=k) smo,aa,aa⟩,y.1,y.2.1,y.2.2.1,y.2.2.2,dB.item (h.ext xr) gm,?_⟩;refine bV (by kernel_rfl) rfl ((FK y (hb.ext xr)).bj λw2 x2=> ?_);refine ⟨_,rfl,Br.mk (λhb=> ?_) (λhb=> ?_)⟩
  ·refine ⟨⟨_,rfl,.inr ⟨k,rfl,aa,h2,λx hx=> ?_⟩⟩,xr.tr x2⟩;rw [gm] at hx;cases hx;simpa using hb
  ·have hw:=nJ (j:=k);rw [hw];refine ⟨n-1,aa,xr.tr x2,k+1,rfl,aa,λx hx=> ?_⟩;rw [dq,gm] at hx;rcases dp.1 hx with hx|hx
   ·exact h2 x hx
   ·simp at hx;subst hx;simpa using hb
 ·refine ⟨⟨_,rfl,.inl ⟨rfl,?_⟩⟩,xr⟩;rw [dI aa] at h2;exact h2
def FI{w:World}{s:Sl}{l:List It}(ho:ar 0 cl 4 w s (l.map fR)){i:Nat}(hi:i<=l.length):
  Wr w (aE s.a i s.c 4) ((s.n-i)*4)/\∀w',w'=bC w (aE s.a i s.c 4) (bF [ai,ai,ai,ai] (s.n-i))->
   ar 0 cl 4 w' ⟨s.a,i,s.c⟩ ((l.take i).map fR)/\Mod (λb=>s.aX=some b) w w':=by
 have hn:s.n=l.length:=by rw [(ho.rd aw).n,aJ]
 rw [CT];rcases ho.form aw with ⟨hs,Ep⟩|⟨g0,cs,ha,hg0,hr,hc,Ib,ht,hn'⟩
 ·have:l=[]:=by simpa using Ep
  subst this;have:i=0:=by simpa using hi
  subst this;subst hs;refine ⟨λj hj=>by simp at hj,λw' e=> ?_⟩;have:w'=w:=by rw [e];rfl
  subst this;exact ⟨ar.nil,Mod.refl _ _⟩
 ·have iN:s.aX=some g0:=by unfold Sl.aX;rw [ha];rfl
  have TM:((List.replicate (s.n-i) ((0,0,0,0):It)).map fR).flatten.length=(s.n-i)*4:=by rw [bQ (fT _)];simp
  have hcl:s.n*4<=cs.length:=c8 (qW _ Ib) hc;rw [ha];have hz0:s.c=i->((List.replicate (s.n-i) ((0,0,0,0):It)).map fR).flatten=[]:=λe=>by
   have:s.n-i=0:=by omega
   rw [this];rfl
  obtain ⟨p1,p2,p3⟩:=hr.acE (l:=i) (m:=s.c) (size:=4) hz0 (by rw [TM];omega) (gD (kY _));rw [TM] at p1;refine ⟨p1,λw' e=> ?_⟩;rw [<-e] at p2 p3;refine ⟨ar.jU (dU _) p2 (by rw [Go.Vc.dc];exact hc) aa ?_ (fT _),p3.mono λb _ hb=>by rw [iN,hb]⟩;rw [ed _ _ _ (by rw [TM];omega),fY,FJ (by rw [cK];omega),<-JE,<-ht,List.take_take,Nat.min_eq_left aa]
def acF{w:World}{s:Sl}{l:List It}(ho:ar 0 cl 4 w s (l.map fR)){i:Nat}(hi:i<l.length)(x:It):
  (ab s.a (i*4)).isSome=true/\Wr w (ab s.a (i*4)) 4/\∀w',w'=bC w (ab s.a (i*4)) (fR x)->ar 0 cl 4 w' s ((l.set i x).map fR)/\Mod (λb=>s.aX=some b) w w':=by
 obtain ⟨h1,h2,h3,h4,h5⟩:=ho.put (i:=i) (r:=fR x) (by simpa using hi) aw rfl (sa x);refine ⟨h1,h2,λw' e=> ?_⟩;subst e;exact ⟨by rw [pW];exact h3,h4.os,h4.tape,h4.output,h4.size,λj _ hn=>h5 j hn⟩
def DC{w:World}{s:Sl}{l:List It}{b:Nat}{c:Cl}(ho:ar 0 cl 4 w s (l.map fR))(hb:Row w b (eZ c) zh)(hl:l.length<=5000):
  ae 321 #[s,.func (.func 322) #[] #[.pointer (some ⟨b,0,none⟩)]] w λe w'=>∃s':Sl,e=s'/\ar 0 cl 4 w' s' ((iL l c).map fR)/\Mod (λb=>s.aX=some b) w w'/\s'.aX=s.aX:=by
 have hn:s.n=l.length:=by rw [(ho.rd aw).n,aJ]
 have TN:s.aX≠some b:=λe=>by
  rcases ho.form aw with ⟨hs,Ep⟩|⟨g0,cs,ha,hg0,hr,hc,Ib,ht,hn'⟩
  ·rw [hs] at e;cases e
  ·have:g0=b:=by unfold Sl.aX at e;rw [ha] at e;simpa using e
   exact hr.ne hb aw this
 apply sb.vc;refine (xm (ho.rd aw) hb hl).mono ?_;rintro e w1 ⟨⟨i,rfl,hi⟩,x1⟩;refine ⟨i,rfl,Br.mk (λh=> ?_) (λh=> ?_)⟩
 ·have hm:i= -1:=by simpa using h
  rcases hi with ⟨-,CA⟩|⟨k,hk,-⟩
  ·refine ⟨s,rfl,?_,Mod.aq x1,rfl⟩;have:iL l c=l:=by unfold iL;rw [O9];intro x hx;simpa using CA x hx
   rw [this];exact ho.ext x1
  ·omega
 ·have hm:i≠-1:=by simpa using h
  rcases hi with ⟨hi,-⟩|⟨k,rfl,hk,awy,hkc⟩
  ·exact absurd hi hm
  have hw:=nJ (j:=k);have hq:iL (l.take (k+1)) c=l.take k:=by
   unfold iL;rw [dq,wC];have e1:(l.take k).filter (λx=>x.2 !=c)=l.take k:=by rw [O9];intro x hx;simpa using awy x hx
   have gm:l[k]? =some (l[k]'hk):=cO hk;have:=hkc _ gm;rw [e1,gm];simp [this]
  refine ⟨λn a d wr=>Mod (λb=>s.aX=some b) w wr/\∃(j m:Nat)(l':List It),a=j/\d=m/\j+n=l.length/\m<j/\m=(iL (l.take j) c).length/\ar 0 cl 4 wr s (l'.map fR)/\l'.length=l.length/\l'.take m=iL (l.take j) c/\l'.drop j=l.drop j,⟨l.length-(k+1),Mod.aq x1,k+1,k,l,hw,rfl,aa,aa,?_,ho.ext x1,rfl,hq.symm,rfl⟩,?_⟩
  ·rw [hq,cK];omega
  rintro n us a d wr ⟨uj,j,m,l',rfl,rfl,h1,h2,h3,ho',h4,h5,h6⟩;have hbr:Row wr b (eZ c) zh:=uj.row hb TN;refine Br.mk (λfD=> ?_) (λOK=> ?_)
  ·replace fD:=lT fD;have gm:l[j]? =some (l[j]'aa):=cO aa;generalize l[j]'aa=y at gm;have aq9:l'[j]? =some y:=by have:=congrArg (λq:List It=>q[0]?) h6;simpa [yW,gm] using this
   refine ⟨⟨(ho'.rd aw).isSome aw (i:=j) smo,aa,aa⟩,y.1,y.2.1,y.2.2.1,y.2.2.2,dB.item (ho'.rd aw) aq9,?_⟩;intro bw Dv cu yw;have cY:Ext wr cu:=(Ext.bU wr|>.ba Dv).af yw (ak _);have ana:wr.heap.size<cu:=by rw [yw,setRow_size,Dv];simp
   refine bV (by kernel_rfl) rfl ((FK y (hbr.ext cY)).bj λw2 x2=> ?_);have x3:=cY.tr x2;have hwj:=nJ (j:=j);have hwm:=nJ (j:=m);have hqj:iL (l.take (j+1)) c=iL (l.take j) c++(if y.2=c then [] else [y]):=by unfold iL;rw [dq,gm,wC];congr 1;by_cases hy:y.2=c<;>simp [hy]
   refine ⟨_,rfl,x2.heap ana,Br.mk (λlK=> ?_) (λlK=> ?_)⟩
   ·have hy:y.2≠c:=by simpa using lK
    obtain ⟨p1,p2,p3⟩:=acF (ho'.ext x3) (i:=m) aa y;refine ⟨⟨(ho'.rd aw).isSome aw (i:=m) smo,aa,aa⟩,⟨p1,p2⟩,?_,?_⟩
    ·rw [cB];intro e;have:=ho'.own.lt (g:=wr.heap.size) e;omega
    ·intro cM uq;obtain ⟨q1,q2⟩:=p3 cM uq;rw [hwj,hwm];refine ⟨n-1,aa,(uj.trans (Mod.aq x3)).trans q2,j+1,m+1,l'.set m y,rfl,rfl,aa,aa,?_,q1,by rw [lU,h4],?_,?_⟩
     ·rw [hqj,if_neg hy,bY,<-h3];rfl
     ·rw [hqj,if_neg hy,<-h5,dq,List.take_set_of_le (ak _),uH aa];rfl
     ·rw [List.drop_set_of_lt aa];have:=congrArg (List.drop 1) h6;simpa [List.drop_drop] using this
   ·have hy:y.2=c:=by simpa using lK
    rw [hwj];refine ⟨n-1,aa,uj.trans (Mod.aq x3),j+1,m,l',rfl,rfl,aa,aa,?_,ho'.ext x3,h4,?_,?_⟩
    ·rw [hqj,if_pos hy,mX];exact h3
    ·rw [hqj,if_pos hy,mX];exact h5
    ·have:=congrArg (List.drop 1) h6;simpa [List.drop_drop] using this
  ·replace OK:=l6 OK;have hj:j=l.length:=by omega
   have afy:=(ho'.form aw);have Ib:s.n<=s.c:=by
    rcases afy with ⟨hs,-⟩|⟨g0,cs,ha,hg0,hr,hc,Ib,ht,hn'⟩
    ·rw [hs];exact ak _
    ·exact Ib
   obtain ⟨p1,p2⟩:=FI ho' (i:=m) aa;refine ⟨aa,aa,p1,λdN Od=> ?_⟩;obtain ⟨q1,q2⟩:=p2 dN Od;refine ⟨aa,aa,⟨s.a,m,s.c⟩,?_,?_,uj.trans q2,rfl⟩
   ·rw [dw];rfl
   ·rw [h5,hj,kA] at q1;exact q1
def Pn{w:World}{s:Sl}{l:List It}{n:Nat}(ho:ar 0 cl 4 w s (l.map fR))(hi:n<=l.length)(hl:l.length<=5000):
  ae 218 #[s,ai,(n:Int)] w λe w'=>∃s':Sl,e=s'/\ar 0 cl 4 w' s' ((l.drop n).map fR)/\Mod (λb=>s.aX=some b) w w'/\s'.aX=s.aX:=by
 have hn:s.n=l.length:=by rw [(ho.rd aw).n,aJ]
 have Ib:s.n<=s.c:=by
  rcases ho.form aw with ⟨hs,-⟩|⟨g0,cs,ha,hg0,hr,hc,Ib,ht,hn'⟩
  ·rw [hs];exact ak _
  ·exact Ib
 apply xp.vc;refine ⟨aa,aa,aa,aa,aa,aa,Br.mk (λh=> ?_) (λh=> ?_)⟩
 ·have:n=0:=by
   have:(0:Int)=n:=by simpa using h
   omega
  subst this;exact ⟨s,rfl,ho,Mod.refl _ _,rfl⟩
 ·have CC:0<n:=by
   have:(0:Int)≠n:=by simpa using h
   omega
  rcases ho.form aw with ⟨hs,Ep⟩|⟨g0,cs,ha,hg0,hr,hc,Ib,ht,hn'⟩
  ·have:l=[]:=by simpa using Ep
   subst this;simp at hi;omega
  have iN:s.aX=some g0:=by unfold Sl.aX;rw [ha];rfl
  have mP:((l.drop n).map fR).flatten.length=(s.n-n)*4:=by rw [bQ (fT _)];simp;omega
  have hcl:s.n*4<=cs.length:=c8 (qW _ Ib) hc;have hr':=hr.ext (Ext.dr w);simp only [gZ,Nat.sub_zero,dw,Int.toNat_zero];rw [ha];refine ⟨aa,aa,aa,aa,((l.drop n).map fR).flatten,?_,?_,?_⟩
  ·exact hr'.alU (by intro e;rw [wD aa];rfl) (FL ht hn n)
  ·refine ⟨λ_=> ?_,λh=> ?_,λh=> ?_,mP,gD (kY _)⟩
   ·show Wr _ (ab (aB g0) (0*4)) _;rw [aF];exact hr'.wr (by rw [mP];omega)
   ·simp only at h;omega
   ·simp only at h;omega
  ·intro s1 w2 bq
   cases bq with
   |grows hg=>simp only at hg;omega
   |fits hf=>
    dsimp only;have e0:ab (some (⟨g0,0,none⟩:Addr)) (0*4)=aB g0:=by rw [aF]
    rw [e0];have oJ:=hr'.bC (o:=0) (vs:=((l.drop n).map fR).flatten) (by rw [mP];omega) (gD (kY _));have jY:Row (Go.Vc.bC w.drew (aB g0) ((l.drop n).map fR).flatten) g0 (putCells cs 0 ((l.drop n).map fR).flatten) cl:=by rw [oJ];exact hr'.set _
    have Er:Mod (λi=>i=g0) w (Go.Vc.bC w.drew (aB g0) ((l.drop n).map fR).flatten):=by rw [oJ];exact (Mod.aq (Ext.dr w)).trans ⟨rfl,rfl,rfl,by rw [setRow_size];exact ak _,λi _ hn=>setRow_other _ _ _ _ hn⟩
    generalize Go.Vc.bC w.drew (aB g0) ((l.drop n).map fR).flatten=w2 at jY Er;have hz:0+(s.n-n)=s.n-n:=by omega
    rw [hz];have lM:ar 0 cl 4 w2 ⟨aB g0,s.n,s.c⟩ ((l.drop n++l.drop (l.length-n)).map fR):=by refine ar.jU (dU _) jY (by rw [Go.Vc.dc];exact hc) Ib ?_ (fT _);rw [ed _ _ _ (by rw [mP];omega),bS,zi,JF,Pp];rw [List.take_append,dI (by rw [mP];omega),mP,eK,<-JG l (l.length-n),<-ht];congr 1;rw [List.drop_take,hn]
    obtain ⟨p1,p2⟩:=FI lM (i:=s.n-n) smo;have hnn:((s.n:Nat):Int).toNat-(((s.n-n:Nat):Nat):Int).toNat=s.n-(s.n-n):=by omega
    refine ⟨aa,aa,aa,aa,p1,λw3 e3=> ?_⟩;obtain ⟨q1,q2⟩:=p2 w3 e3;refine ⟨⟨aB g0,s.n-n,s.c⟩,rfl,?_,?_,iN.symm⟩
    ·rw [FJ smo] at q1;exact q1
    ·refine (Er.mono λb _ hb=>by rw [iN,hb]).trans (q2.mono λb _ hb=> ?_);have:g0=b:=by simpa [Sl.aX] using hb
     rw [iN,this]
def gS(g m:Nat)(s:Sl):Nat->Prop:=λi=>i=g\/i=m\/s.aX=some i
abbrev B2(q:QS)(s:Sl)(m:Nat):LV:=[.int .i64 q.room,.int .i64 q.lost,.slice s.a s.n s.c,.map (some m)]
def qw(kvs:List (Value × Value))(l:List It):Prop:=(∀c t,(cv c,tv t) ∈ kvs ↔(t,c) ∈ l)/\∀e ∈ kvs,∃c t,e=(cv c,tv t)
structure uf(w:World)(g m:Nat)(s:Sl)(q:QS):Prop where
 row:Row w g (B2 q s m) nR
 own:ar 0 cl 4 w s (q.l.map fR)
 map:∃kvs,bH GC w (some m) kvs/\qw kvs q.l
def uf.dT{w:World}{g m:Nat}{s:Sl}{q:QS}(h:uf w g m s q){b:Nat}{cs:LV}{E:TypeId}(hb:Row w b cs E)(h1:E≠nR)(h2:E≠cl):¬gS g m s b:=by
 rintro (rfl|rfl|e)
 ·exact hb.ne h.row h1 rfl
 ·obtain ⟨kvs,hm,-⟩:=h.map;exact hb.fN hm rfl
 ·obtain ⟨cs',hr⟩:=aU h.own aw e;exact hb.ne hr h2 rfl
def uf.aei{w:World}{g m:Nat}{s:Sl}{q:QS}(h:uf w g m s q){B E k:Nat}{s':Sl}{rows:List (LV)}(ho:ar B E k w s' rows)(hk:0<k)(h1:E≠nR)(h2:E≠cl):∀b,s'.aX=some b->¬gS g m s b:=λb hb=>by
 obtain ⟨cs,hr⟩:=aU ho hk hb
 exact h.dT hr h1 h2
def uf.lt{w:World}{g m:Nat}{s:Sl}{q:QS}(h:uf w g m s q):∀i,gS g m s i->i<w.heap.size:=by
 rintro i (rfl|rfl|e)
 ·exact h.row.lt
 ·obtain ⟨kvs,hm,-⟩:=h.map;exact hm.lt
 ·exact (h.own.own.lt e).2
def uf.aW{w w':World}{g m:Nat}{s:Sl}{q:QS}(h:uf w g m s q){F:Nat->Prop}(hm:Mod F w w')(hn:∀i,gS g m s i->¬F i):uf w' g m s q:=by obtain ⟨kvs,h1,h2⟩:=h.map;exact ⟨hm.row h.row (hn g (.inl rfl)),hm.dX h.own λb hb=>hn b (.inr (.inr hb)),kvs,hm.map h1 (hn m (.inr (.inl rfl))),h2⟩
def uf.ext{w w':World}{g m:Nat}{s:Sl}{q:QS}(h:uf w g m s q)(x:Ext w w'):uf w' g m s q:=
 h.aW (F:=λ_=>False) ⟨x.os,x.tape,x.output,x.size,λi hi _=>x.heap hi⟩ λ_ _ hf=>hf
def uf.xS{w:World}{g m:Nat}{s:Sl}{q:QS}(h:uf w g m s q):g≠m:=by obtain ⟨kvs,hm,-⟩:=h.map;exact h.row.fN hm
def uf.B3{w:World}{g m:Nat}{s:Sl}{q:QS}(h:uf w g m s q):s.aX≠some m:=λe=>by
 obtain ⟨kvs,hm,-⟩:=h.map
 obtain ⟨cs,hr⟩:=aU h.own aw e
 exact hr.fN hm rfl
def uf.ML{w:World}{g m:Nat}{s:Sl}{q:QS}(h:uf w g m s q):s.aX≠some g:=λe=>by
 obtain ⟨cs,hr⟩:=aU h.own aw e
 exact hr.ne h.row aw rfl
def qw.look{kvs:List (Value × Value)}{l:List It}(h:qw kvs l)(hn:(l.map (·.2)).Nodup)(c:Cl):Gn kvs (cv c) (tv 0) (tv ((nr l c).getD 0)) (nr l c).isSome:=by
 cases hq:nr l c with
 |some t=>exact .inl ⟨rfl,(h.1 c t).2 (xV hq)⟩
 |none=>
  refine .inr ⟨rfl,rfl,λe he hk=> ?_⟩;obtain ⟨c',t,rfl⟩:=h.2 e he;exact sO hq (t,c') ((h.1 _ _).1 he) (G0 hk)
open Classical in
def qw.del{kvs:List (Value × Value)}{l:List It}(h:qw kvs l)(c:Cl):qw (Hm kvs (cv c)) (iL l c):=by
 refine ⟨λc' t=> ?_,λe he=>h.2 e (j3.1 he).1⟩;unfold Hm iL;rw [j3,j3,h.1];refine and_congr_right λ_=> ?_
 rw [bne_iff_ne];refine decide_eq_true_iff.trans ?_;exact not_congr ⟨λe=>G0 e,λe=>by rw [show c'=c from e]⟩
def qw.ins{kvs:List (Value × Value)}{l:List It}(h:qw kvs l){x:It}(hx:∀y ∈ l,y.2≠x.2):qw (pf kvs (cv x.2) (tv x.1)) (ug l x):=by
 unfold pf;rw [if_neg]
 ·refine ⟨λc t=> ?_,λe he=> ?_⟩
  ·rw [dp,h.1,G3,gU];constructor
   ·rintro (h1|h1)
    ·exact .inr h1
    ·obtain ⟨e1,e2⟩:=Prod.mk.inj h1;have:=G0 e1;have h2:t=x.1:=by unfold tv at e2;injection e2
     left;rw [this,h2]
   ·rintro (h1|h1)
    ·right;rw [<-h1]
    ·exact .inl h1
  ·rcases dp.1 he with he|he
   ·exact h.2 e he
   ·rw [gU] at he;exact ⟨_,_,he⟩
 ·rintro ⟨e,he,hk⟩;obtain ⟨c',t,rfl⟩:=h.2 e he;exact hx (t,c') ((h.1 _ _).1 he) (G0 hk)
def qw.perm{kvs:List (Value × Value)}{l l':List It}(h:qw kvs l)(hl:∀x,x ∈ l ↔ x ∈ l'):qw kvs l':=⟨λc t=>(h.1 c t).trans (hl _),h.2⟩
def Ar(room:Int)(w:World):ae 174 #[room] w λe w'=>∃g m,e=Value.pointer (aB g)/\uf w' g m ⟨none,0,0⟩ ⟨min (max room 1) 4096,0,[]⟩/\Ext w w'/\w.heap.size<=g/\w.heap.size<=m:=by
 apply aae.vc;intro w0 e0 w1 e1;have hm:bH GC w0 (some w.heap.size) []:=by rw [e0];exact bH.new
 have x1:=aV e1;refine ⟨w0.heap.size,w.heap.size,rfl,⟨?_,ar.nil,[],?_,by simp [qw]⟩,(aV e0).tr x1,?_,ak _⟩
 ·have:(min (max room 1) 4096)=(if 4096<(if 1>room then 1 else room) then 4096 else (if 1>room then 1 else room)):=by split<;>split<;>omega
  rw [e1,this];exact Row.new w0 [_,_,_,_] _
 ·exact hm.same (x1.heap hm.lt)
 ·rw [e0];simp
def EY{w:World}{g m:Nat}{s:Sl}{q:QS}(h:uf w g m s q)(hq:yF q)(c:Cl):eU 273 #[g,cv c] w (Value.tuple #[.int .i64 ((nr q.l c).getD 0),.bool (nr q.l c).isSome]):=by apply Hn.vc;intro w0 e0;have x0:Ext w w0.drew:=(Ext.bU w|>.ba e0).drew;have h0:=h.ext x0;obtain ⟨kvs,hm,ht⟩:=h0.map;exact ⟨some m,h0.row.at 3 rfl,GC,kvs,AA,hm,⟨c,rfl⟩,_,_,ht.look hq.nodup c,rfl,x0⟩
def gS.ve{g m:Nat}{s s':Sl}{w w':World}(hm:Mod (gS g m s) w w')(hs:∀b,s'.aX=some b->s.aX=some b\/w.heap.size<=b):aI (gS g m s) (gS g m s') w w':=
 ⟨hm,λi hi=>by
  rcases hi with h|h|h
  ·exact .inl (.inl h)
  ·exact .inl (.inr (.inl h))
  ·rcases hs i h with h|h
   ·exact .inl (.inr (.inr h))
   ·exact .inr h⟩
def Kg{w:World}{g m:Nat}{s:Sl}{q:QS}(h:uf w g m s q)(hsort:q.l.Pairwise λa b=>a.1<=b.1)(hl:q.l.length<=4998){x:It}(hx:∀y ∈ q.l,y.2≠x.2):
  ae 275 #[g,.agg (fR x).toArray] w λe w'=>e=pH/\∃s',uf w' g m s' {q with l:=ug q.l x}/\aI (gS g m s) (gS g m s') w w':=by
 apply B1.vc;intro w0 e0;have x0:=aV e0;have Fc:=fE e0;have h0:=h.ext (x0.drew);refine ⟨s,h0.row.at 2 rfl,?_⟩;refine (ad3 x (h0.own.rd aw) hsort aa).mono ?_;rintro e w2 ⟨⟨b,rfl⟩,x2⟩;refine ⟨_,b,rfl,x2.heap (show w.heap.size<w0 by omega),?_⟩;have h2:=(h0.ext x2).ext (Ext.dr _);refine ⟨s,h2.row.at 2 rfl,?_⟩;intro w6 e6;have x6:=aV e6;have h6:=h2.ext x6;have dh:Row w6 w2.drew.heap.size (fR x) cl:=by rw [e6];exact Row.new _ _ _
 have Il:=x2.size;have nE:w.heap.size<w2.drew.heap.size:=gA (show w.heap.size<w0 by omega) Il;have hk:=(List.takeWhile_sublist (λy:It=>decide (y.1<=x.1)) (l:=q.l)).length_le;have TN:s.aX≠some w2.drew.heap.size:=λe=>by have:=h2.lt _ (.inr (.inr e));omega
 refine (QV h6.own dh hk aa TN).mono ?_;rintro e w7 ⟨s8,rfl,KT,hm8,hs8⟩;have azi:s.aX≠some w.heap.size:=λe=>by have:=h.lt _ (.inr (.inr e));omega
 have x06:Ext w w6:=((x0.drew).tr x2).tr ((Ext.dr _).tr x6);refine ⟨s8,rfl,hm8.same _ (by have:=x6.size;omega) azi,?_⟩;have hr7:Row w7 g (B2 q s m) nR:=hm8.row h6.row h6.ML;obtain ⟨p1,p2⟩:=hr7.fF (j:=2) (v:=.slice s8.a s8.n s8.c) bo rfl;refine ⟨⟨rfl,p1⟩,?_,?_⟩
 ·rw [cB];intro e;have:=h.row.lt;have:g=w.heap.size:=by simpa [bN] using e
  omega
 intro w9 e9;obtain ⟨q1,q2⟩:=p2 w9 e9;have x9:=Ext.dr w9;have hr9:=q1.ext x9;refine ⟨some m,hr9.at 3 rfl,?_⟩;obtain ⟨kvs,agC,ht⟩:=h6.map;have hmap9:bH GC w9.drew (some m) kvs:=(Mod.aq (F:=λ_=>False) x9).map (q2.map (hm8.map agC h6.B3) (Ne.symm h.xS)) bo;refine ⟨GC,kvs,AA,rfl,hmap9,⟨x.2,rfl⟩,?_⟩;intro bw fQ hmap13;have aoV:=Mod.pd fQ;refine ⟨rfl,s8,⟨?_,?_,_,hmap13,ht.ins hx⟩,gS.ve ?_ ?_⟩
 ·exact aoV.row hr9 h.xS
 ·have he:=aik q.l x;rw [he] at KT;have hrow8:=λb hb=>aU KT aw (b:=b) hb
  refine aoV.dX ((q2.dX KT λb hb hf=> ?_).ext x9) λb hb hf=> ?_
  ·obtain ⟨cs,hr⟩:=hrow8 b hb;exact hr.ne hr7 aw hf
  ·obtain ⟨cs,hr⟩:=hrow8 b hb;exact hr.fN (hm8.map agC h6.B3) hf
 ·refine ((((Mod.aq x06).trans (hm8.mono λb _ hb=> .inr (.inr hb))).trans (q2.mono λb _ hb=> .inl hb)).trans (Mod.aq x9)).trans (aoV.mono λb _ hb=> .inr (.inl hb))
 ·intro b hb;rcases hs8 b hb with h1|h1
  ·exact .inl h1
  ·exact .inr (c8 x06.size h1)
def ZS{w:World}{g m:Nat}{s:Sl}{q:QS}(h:uf w g m s q)(hq:yF q)(c:Cl):
  ae 274 #[g,cv c] w λe w'=>e=Value.bool (nr q.l c).isSome/\∃s',uf w' g m s' {q with l:=iL q.l c}/\aI (gS g m s) (gS g m s') w w':=by
 apply B4.vc;intro w0 e0;have x0:=aV e0;have hbox0:Row w0 w (eZ c) zh:=by rw [e0];exact Row.new _ _ _
 have h0:=h.ext x0.drew;obtain ⟨kvs,hm,ht⟩:=h0.map;refine ⟨some m,h0.row.at 3 rfl,GC,kvs,AA,hm,⟨c,rfl⟩,_,_,ht.look hq.nodup c,Br.mk (λhb=> ?_) (λhb=> ?_)⟩
 ·have hn:nr q.l c=none:=by simpa using hb
  refine ⟨by rw [hn];rfl,s,?_,aI.aq x0.drew⟩;have:iL q.l c=q.l:=by unfold iL;rw [O9];intro y hy;simpa using sO hn y hy
  rw [this];exact h0
 ·have hsome:(nr q.l c).isSome=true:=by simpa using hb
  have h1:=h0.ext (Ext.dr _);refine ⟨some m,h1.row.at 3 rfl,GC,kvs,AA,rfl,(Mod.aq (F:=λ_=>False) (Ext.dr _)).map hm bo,⟨c,rfl⟩,?_⟩;intro w9 fQ hmap9;have hm9:=Mod.pd fQ;have hr9:Row w9 g (B2 q s m) nR:=hm9.row h1.row h.xS;refine ⟨s,hr9.at 2 rfl,?_⟩;have db:=hq.len;have hroom:=hq.room;have hbox9:Row w9 w (eZ c) zh:=hm9.row (hbox0.ext (Ext.dr _|>.tr (Ext.dr _))) (λe=>by have:w.heap.size=m:=e;have:=h.lt m (.inr (.inl rfl));omega);have ho9:ar 0 cl 4 w9 s (q.l.map fR):=hm9.dX h1.own λb hb hf=>h1.B3 (by rw [hb];exact congrArg some hf)
  refine (DC ho9 hbox9 aa).mono ?_;rintro e bB ⟨nC,rfl,ajV,aoW,agt⟩;have hsm:s.aX≠some m:=h.B3;have as1:Row bB g (B2 q s m) nR:=aoW.row hr9 h.ML;obtain ⟨p1,p2⟩:=as1.fF (j:=2) (v:=.slice nC.a nC.n nC.c) bo rfl;refine ⟨nC,rfl,⟨rfl,p1⟩,λbw Dv=> ?_⟩;obtain ⟨q1,q2⟩:=p2 bw Dv;refine ⟨by rw [hsome],nC,⟨q1,?_,_,q2.map (aoW.map hmap9 hsm) (Ne.symm h.xS),ht.del c⟩,gS.ve ?_ ?_⟩
  ·refine q2.dX ajV λb hb hf=> ?_
   obtain ⟨cs,hr⟩:=aU ajV aw hb;exact hr.ne as1 aw hf
  ·exact (((Mod.aq (x0.drew.drew)).trans (hm9.mono λb _ hb=> .inr (.inl hb))).trans (aoW.mono λb _ hb=> .inr (.inr hb))).trans (q2.mono λb _ hb=> .inl hb)
  ·intro b hb;exact .inl (agt▸hb)
def GO{w:World}{g m:Nat}{s:Sl}{q:QS}(h:uf w g m s q)(hq:yF q)(hl:0<=q.lost/\q.lost<=1000000000)(c:Cl)(t:Int):
  ae 219 #[g,cv c,t] w λe w'=>e=Value.bool (lJ q c t).2/\∃s',uf w' g m s' (lJ q c t).1/\aI (gS g m s) (gS g m s') w w':=by
 apply Ei.vc;intro w0 e0;have x0:=aV e0;have Fc:=fE e0;have h0:=h.ext x0;have hn:s.n=q.l.length:=by rw [(h.own.rd aw).n,aJ]
 have db:=hq.len;have hroom:=hq.room;have hbg:g<w:=h.row.lt;have hbf:∀{s':Sl} {w1 w':World},w.heap.size<w1->aI (gS g m s) (gS g m s') w1 w'->w'.heap[w.heap.size]? =w1.heap[w.heap.size]? :=λfD ht=>
  ht.mod.same _ fD λhf=>by have:=h.lt _ hf;omega
 refine (EY h0 hq c).bj λw1 x1=> ?_
 have h1:=h0.ext x1;have lE:=x0.tr x1;have hz1:w.heap.size<w1:=by have:=x1.size;omega
 refine ⟨_,_,rfl,x1.heap (show w.heap.size<w0 by omega),Br.mk (λhb=> ?_) (λhb=> ?_)⟩
 ·obtain ⟨was,hw⟩:=qO.1 hb;have hg:(nr q.l c).getD 0=was:=by rw [hw];rfl
  rw [hg];refine Br.mk (λhc=> ?_) (λhc=>Br.mk (λ_=> ?_) (λhn=>by rw [hb] at hn;cases hn))
  ·replace hc:=lT hc;have e:lJ q c t=(q,false):=by unfold lJ;rw [hw];simp [hc]
   rw [e];exact ⟨rfl,s,h1,aI.aq lE⟩
  ·replace hc:=l6 hc;have e:lJ q c t=({q with l:=ug (iL q.l c) (t,c)},true):=by unfold lJ;rw [hw];simp [hc]
   rw [e];refine (ZS h1 hq c).mono ?_;rintro e w4 ⟨rfl,s4,h4,t4⟩;refine ⟨_,rfl,hbf hz1 t4,?_⟩;have hq4:=hq.drop c;have hl4:=hq4.len;have hz4:=t4.mod.size;refine (Kg (x:=(t,c)) h4 hq4.sorted (by simp only at hl4 ⊢;omega) (λy hy=>by have:=(j3.1 hy).2;simpa using this)).mono ?_;rintro e w6 ⟨rfl,s6,h6,t6⟩;refine ⟨rfl,t6.mod.same _ aa (λhf=> ?_),rfl,s6,h6,((aI.aq lE).trans t4).trans t6⟩;rcases t4.sub _ hf with hf|hf
   ·have:=h.lt _ hf;omega
   ·omega
 ·refine Br.mk (λhb'=>by rw [hb] at hb';cases hb') (λ_=> ?_);have hw:nr q.l c=none:=by simpa using hb
  have h1d:=h1.ext (Ext.dr w1);refine ⟨s,h1d.row.at 2 rfl,q.room,h1d.row.at 0 rfl,?_⟩;rw [hn];apply Br.mk<;>intro hc
  ·have hc':((q.l.length:Nat):Int)=q.room:=by simpa using hc
   have e:lJ q c t=({q with lost:=q.lost+1},false):=by unfold lJ;rw [hw];simp [hc']
   rw [e];obtain ⟨p1,p2⟩:=h1d.row.fF (j:=1) (v:=.int .i64 (aC (q.lost+1))) bo rfl;refine ⟨q.lost,h1d.row.at 1 rfl,⟨rfl,p1⟩,?_,λbc vy=> ?_⟩
   ·rw [cB];intro e;have:g=w.heap.size:=by simpa [bN] using e
    omega
   ·obtain ⟨q1,q2⟩:=p2 bc vy;rw [wI] at q1;obtain ⟨kvs,hm,ht⟩:=h1d.map;refine ⟨rfl,s,⟨q1,q2.dX h1d.own λb hb hf=>h.ML (by rw [hb];exact congrArg some hf),kvs,q2.map hm (Ne.symm h.xS),ht⟩,(aI.aq lE.drew).trans (gS.ve (q2.mono λb _ hb=> .inl hb) λb hb=> .inl hb)⟩
  ·have hc':((q.l.length:Nat):Int)≠q.room:=by simpa using hc
   have e:lJ q c t=({q with l:=ug q.l (t,c)},true):=by
    unfold lJ;rw [hw];have:¬(q.l.length:Int)>=q.room:=by omega
    simp only;rw [if_neg this]
   rw [e];refine (Kg (x:=(t,c)) h1d hq.sorted aa (sO hw)).mono ?_;rintro e w6 ⟨rfl,s6,h6,t6⟩;exact ⟨rfl,hbf hz1 t6,rfl,s6,h6,(aI.aq lE.drew).trans t6⟩
def aeE{w:World}{g m:Nat}{s a:Sl}{q:QS}{xs:List It}(h:uf w g m s q)(hq:yF q)(hl:0<=q.lost/\q.lost+xs.length<=1000000000)(ha:dB w a 4 (xs.map fR))(fD:∀b,a.aX=some b->b<w.heap.size)(hd:∀b,a.aX=some b->¬gS g m s b):
  ae 249 #[g,a] w λe w'=>e=Value.int .i64 (D7 q xs).2/\∃s',uf w' g m s' (D7 q xs).1/\aI (gS g m s) (gS g m s') w w':=by
 have hn:a.n=xs.length:=by rw [ha.n,aJ]
 apply Ej.vc;refine ⟨λn x y wr=>∃(j k:Nat)(sr:Sl)(qr:QS),x=j/\y=k/\j+n=xs.length/\k<=j/\uf wr g m sr qr/\yF qr/\aI (gS g m s) (gS g m sr) w wr/\0<=qr.lost/\qr.lost<=q.lost+j/\(D7 qr (xs.drop j)).1=(D7 q xs).1/\k+(D7 qr (xs.drop j)).2=(D7 q xs).2,
  ⟨xs.length,0,0,s,q,rfl,rfl,aa,ak _,h,hq,aI.refl _ _,hl.1,aa,rfl,bo⟩,?_⟩
 rintro n us x y wr ⟨j,k,sr,qr,rfl,rfl,h1,h2,hqr,hok,ht,h3,h4,h5,h6⟩;have har:dB wr a 4 (xs.map fR):=ht.mod.rdK aw ha λ_ b hb=>hd b hb
 apply Br.mk<;>intro hc
 ·replace hc:=lT hc;have gm:xs[j]? =some (xs[j]'aa):=cO aa;have hdrop:xs.drop j=xs[j]'aa::xs.drop (j+1):=wN aa;generalize xs[j]'aa=z at gm hdrop;refine ⟨⟨har.isSome aw (i:=j) smo,aa,aa⟩,z.1,z.2.1,z.2.2.1,z.2.2.2,dB.item har gm,?_⟩;intro bB yr bO uv;have cw:Ext wr bO:=(Ext.bU wr|>.ba yr).af uv (ak _);have agt:wr.heap.size<bO:=by rw [uv,setRow_size,yr];simp
  refine (GO (hqr.ext cw) hok ⟨h3,aa⟩ z.2 z.1).mono ?_;rintro e bw ⟨rfl,kO,h13,t13⟩;have hlo:=BW qr z.2 z.1;have hwj:=nJ (j:=j);have TV:=nJ (j:=k);rw [hdrop] at h5 h6;simp only [D7] at h5 h6;have ht':=(ht.trans (aI.aq cw)).trans t13;refine ⟨_,rfl,t13.mod.same _ agt (λhf=> ?_),Br.mk (λhb=> ?_) (λhb=> ?_)⟩
  ·have:=hqr.lt _ hf;omega
  ·rw [hb] at h6;simp only [if_true] at h6;rw [hwj,TV];exact ⟨n-1,aa,j+1,k+1,kO,_,rfl,rfl,aa,aa,h13,hok.add _ _,ht',aa,aa,h5,aa⟩
  ·rw [hb] at h6;simp only [Bool.false_eq_true,if_false] at h6;rw [hwj];exact ⟨n-1,aa,j+1,k,kO,_,rfl,rfl,aa,aa,h13,hok.add _ _,ht',aa,aa,h5,aa⟩
 ·replace hc:=l6 hc;have hj:j=xs.length:=by omega
  rw [hj,List.drop_length] at h5 h6;simp only [D7] at h5 h6;refine ⟨by rw [<-h6];rfl,sr,?_,ht⟩;rw [<-h5];exact hqr
def Vo{w:World}{s:Sl}{l:List It}(ho:ar 0 cl 4 w s (l.map fR))(hl:l.length<=5000):
  ae 135 #[s] w λe w'=>∃s':Sl,e=s'/\ar w cl 4 w' s' (l.map fR)/\Ext w w':=by
 apply AL.vc;have hn:s.n=l.length:=by rw [(ho.rd aw).n,aJ]
 apply Br.mk<;>intro h
 ·rcases ho.form aw with ⟨hs,Ep⟩|⟨g0,cs,ha,-⟩
  ·exact ⟨⟨none,0,0⟩,rfl,by rw [Ep];exact ar.nil,Ext.bU _⟩
  ·rw [ha] at h;cases h
 ·intro w0 e0;have x0:=aV e0;have Fc:=fE e0;have hr0:Row w0 w [] cl:=by rw [e0];exact Row.new _ _ _
  have lM:ar w cl 4 w0 ⟨aB w.heap.size,0,0⟩ []:=ar.jU (ak _) hr0 bo (ak _) rfl bo;obtain ⟨hp,hr⟩:=lM.FC (bytes:=32) (more:=l.map fR) x0.size (fT _) (kY _) smo smo;rw [aJ,<-hn] at hp hr;refine ⟨(l.map fR).flatten,((ho.ext x0).rd aw).flat aw,hp,λs2 w3 bq=> ?_⟩;obtain ⟨h1,h2,h3,h4,h5⟩:=hr s2 w3 bq;refine ⟨qh bq (by rw [bQ (fT _),aJ,hn]) aa,s2,rfl,h1,x0.trans h3⟩
def adY{w:World}{g m:Nat}{s:Sl}{q:QS}(h:uf w g m s q)(hq:yF q):ae 75 #[g] w λe w'=>∃s':Sl,e=s'/\ar w cl 4 w' s' (q.l.map fR)/\Ext w w':=by apply Ea.vc;have:=hq.len;have:=hq.room;refine ⟨s,h.row.at 2 rfl,(Vo h.own aa).mono ?_⟩;rintro e w1 ⟨s',rfl,h1,x1⟩;exact ⟨s',rfl,s',rfl,h1,x1⟩
def late{F G M:Prop}(main:(F->G)->M)(fin:F->G):M:=main fin
def aed{w:World}{g m:Nat}{s:Sl}{q:QS}(h:uf w g m s q)(hq:yF q)(now many:Int):
  ae 150 #[g,now,many] w λe w'=>∃so:Sl,e=Value.slice so.a so.n so.c/\∃s',ar w zh 3 w' so ((MK q now many).2.map eZ)/\uf w' g m s' (MK q now many).1/\aI (gS g m s) (gS g m s') w w':=by
 have hn:s.n=q.l.length:=by rw [(h.own.rd aw).n,aJ]
 have db:=hq.len;have hroom:=hq.room;have afy:s.n<=s.c:=by
  rcases h.own.form aw with ⟨hs,-⟩|⟨g0,cs,ha,hg0,hr,hc,Ib,-⟩
  ·rw [hs];exact ak _
  ·exact Ib
 have hql:=ZX q.l now many;apply Eb.vc;refine ⟨λn x wr=>w=wr/\∃k:Nat,x=k/\k+n=iV q.l now many,⟨iV q.l now many,rfl,0,rfl,aa⟩,?_⟩;rintro n0 us x wr ⟨rfl,k,rfl,hk⟩;have hkl:k<=q.l.length:=by omega
 apply late (F:=k=iV q.l now many)
 ·intro fin;refine ⟨s,h.row.at 2 rfl,Br.mk (λhc=> ?_) (λhc=> ?_)⟩
  ·replace hc:=lT hc;have gm:q.l[k]? =some (q.l[k]'aa):=cO aa;have Ia:=ZW hq now many gm;generalize q.l[k]'aa=y at gm Ia;apply Br.mk<;>intro nG
   ·replace nG:=lT nG;have gl:=h.own.rd aw;refine ⟨s,h.row.at 2 rfl,⟨gl.isSome aw (i:=k) smo,aa,aa⟩,?_⟩;have hsm:(ab s.a ((k:Int).toNat*4)).isSome=true:=by rw [De];exact gl.isSome aw (i:=k) smo
    refine bT.2 ⟨rR.2 hsm,y.1,?_,Br.mk (λK9=> ?_) (λK9=> ?_)⟩
    ·exact gl.at (i:=k) (r:=fR y) (by rw [aZ,gm];rfl) rfl
    ·replace K9:=lT K9;have:=Ia.2 ⟨nG,K9⟩;have hw:=nJ (j:=k);exact ⟨n0-1,aa,rfl,k+1,hw,aa⟩
    ·replace K9:=l6 K9;have hkq:k=iV q.l now many:=by
      have:¬k<iV q.l now many:=λfD=>K9 (Ia.1 fD).2
      omega
     exact fin hkq
   ·replace nG:=l6 nG;have hkq:k=iV q.l now many:=by
     have:¬k<iV q.l now many:=λfD=>nG (Ia.1 fD).1
     omega
    exact fin hkq
  ·replace hc:=l6 hc;have hkq:k=iV q.l now many:=by omega
   exact fin hkq
 ·intro hkq;refine ⟨s,h.row.at 2 rfl,aa,aa,aa,aa,λn x so wr=>∃j:Nat,x=j/\j+n=k/\Go.Vc.Mod (λi=>i=m) w wr/\ar w zh 3 wr so ((q.l.take j).map λy=>eZ y.2)/\∃kvs,bH GC wr (some m) kvs/\qw kvs (q.l.drop j),⟨k,0,rfl,aa,Go.Vc.Mod.refl _ _,ar.nil,by simpa using h.map⟩,?_⟩;rintro n us x so wr ⟨j,rfl,hj,uj,wA,kvs,agC,xc⟩;have dh:Row wr g (B2 q s m) nR:=uj.row h.row h.xS;have lM:ar 0 cl 4 wr s (q.l.map fR):=uj.dX h.own λb hb hf=>h.B3 (by rw [hb];exact congrArg some hf)
  apply Br.mk<;>intro hc
  ·replace hc:=lT hc;have hjl:j<q.l.length:=by omega
   have gm:q.l[j]? =some (q.l[j]'hjl):=cO hjl;generalize q.l[j]'hjl=y at gm;have gl:=lM.rd aw;refine ⟨⟨?_,aa,aa⟩,y.1,y.2.1,y.2.2.1,y.2.2.2,?_,?_⟩
   ·have:=gl.isSome aw (i:=j) smo;unfold aE;split<;>simpa using this
   ·rw [uK];exact dB.item gl gm
   intro cX vu dt Du je e23;have fj:=aV vu;have gI:Ext wr dt:=fj.af Du (ak _);have im:Ext wr je:=gI.ba e23;have aGM:dt.heap.size=wr.heap.size+1:=by rw [Du,setRow_size,vu];simp
   have aGN:=fE e23;have hon:so.n=j:=by rw [(wA.rd aw).n,aJ,cK];omega
   have hzw:=uj.size;obtain ⟨hp,hr⟩:=(wA.ext im).append (bytes:=24) (news:=eZ y.2) aa rfl (by intro u hu;simp at hu;rcases hu with rfl|rfl|rfl<;>rfl) aa aa;refine ⟨hp,λyQ dL bq=> ?_⟩;obtain ⟨h1,h2,h3,h4,h5⟩:=hr yQ dL bq;have TN:∀b,so.aX=some b->b<wr.heap.size:=λb hb=>(wA.own.lt hb).2
   have azJ:Go.Vc.Mod (λi=>so.aX=some i) je dL:=⟨h3.os,h3.tape,h3.output,h3.size,λi hi hn=>h4 i hn hi⟩;have hsm:so.aX≠some m:=λe=>by have h1:=(wA.own.lt e).1;have h2:=h.lt m (.inr (.inl rfl));omega
   refine ⟨h4 _ (λe=>by have:=TN _ e;omega) aa,h4 _ (λe=>by have:=TN _ e;omega) aa,?_⟩;have Er:Go.Vc.Mod (λi=>so.aX=some i) wr dL.drew:=((Go.Vc.Mod.aq im).trans azJ).trans (Go.Vc.Mod.aq (Ext.dr _));have hsg:so.aX≠some g:=λe=>by have h1:=(wA.own.lt e).1;have h2:=h.lt g (.inl rfl);omega
   refine ⟨some m,(Er.row dh hsg).at 3 rfl,GC,kvs,AA,rfl,Er.map agC hsm,⟨y.2,rfl⟩,?_⟩;intro gz fQ hmap29;have atf:=Go.Vc.Mod.pd fQ;have hwj:=nJ (j:=j);rw [hwj];refine ⟨n-1,aa,j+1,rfl,aa,(uj.tr Er (λi hi=> .inr (wA.own.lt hi).1)).trans atf,?_,_,hmap29,?_⟩
   ·have e:(q.l.take (j+1)).map (λy=>eZ y.2)=(q.l.take j).map (λy=>eZ y.2)++ [eZ y.2]:=by rw [dq,gm,bS];rfl
    rw [e];refine atf.dX (h1.ext (Ext.dr _)) λb hb hf=> ?_
    have hb':yQ.aX=some m:=by rw [hb];exact congrArg some hf
    have:=h.lt m (.inr (.inl rfl));rcases h5 with h5|h5
    ·exact hsm (h5▸hb')
    ·rw [h5] at hb';have:je.heap.size=m:=by simpa using hb'
     omega
   ·have hd:=xc.del y.2;refine hd.perm λz=> ?_
    have hcons:q.l.drop j=y::q.l.drop (j+1):=by obtain ⟨fD,he⟩:=cP.1 gm;rw [wN fD,he]
    have hnd:((y::q.l.drop (j+1)).map (·.2)).Nodup:=by rw [<-hcons];exact ((List.drop_sublist j q.l).map _).nodup hq.nodup
    rw [hcons];unfold iL;rw [eL,uB] at hnd;constructor
    ·intro hz;obtain ⟨hz1,Il⟩:=j3.1 hz;rcases cj.1 hz1 with rfl|hz1
     ·simp at Il
     ·exact hz1
    ·intro hz;refine j3.2 ⟨qY _ hz,?_⟩;have:z.2≠y.2:=λe=>hnd.1 (e▸List.mem_map_of_mem hz)
     simpa using this
  ·replace hc:=l6 hc;have hjk:j=k:=by omega
   subst hjk;refine ⟨s,dh.at 2 rfl,(Pn lM hkl aa).mono ?_⟩;rintro e ik ⟨Ts,rfl,atg,ajZ,azK⟩;have ath:Row ik g (B2 q s m) nR:=ajZ.row dh h.ML;obtain ⟨p1,p2⟩:=ath.fF (j:=2) (v:=.slice Ts.a Ts.n Ts.c) bo rfl;refine ⟨Ts,rfl,⟨rfl,p1⟩,λjZ e33=> ?_⟩;obtain ⟨q1,q2⟩:=p2 jZ e33;have hso:∀b,so.aX=some b->w.heap.size<=b:=λb hb=>(wA.own.lt hb).1
   refine ⟨so,rfl,Ts,?_,?_,?_⟩
   ·unfold MK;rw [<-hkq,pa];refine q2.dX (ajZ.dX wA λb hb hf=> ?_) λb hb hf=> ?_
    ·have:=hso b hb;have:=h.lt b (.inr (.inr hf));omega
    ·have:=hso b hb;have:=h.lt b (.inl hf);omega
   ·unfold MK;rw [<-hkq];refine ⟨q1,q2.dX atg λb hb hf=> ?_,kvs,q2.map (ajZ.map agC h.B3) (Ne.symm h.xS),xc⟩;obtain ⟨cs,hr⟩:=aU atg aw hb;exact hr.ne ath aw hf
   ·refine gS.ve (((uj.mono λb _ hb=> .inr (.inl hb)).trans (ajZ.mono λb _ hb=> .inr (.inr hb))).trans (q2.mono λb _ hb=> .inl hb)) λb hb=> .inl (azK▸hb)
end Go.Proofs.YtjcnjlaelhdjeaaGreatDoor.Q
namespace Go.Proofs.YtjcnjlaelhdjeaaGreatDoor
open Go Go.Vc Go.RowKit Go.Proofs Go.cC Go.aO Go.Code
set_option maxRecDepth 100000
set_option maxHeartbeats 8000000
def Nz(v:mN)(w:World):kT 398 #[.int .u16 (cI v)] w (Value.int .u16 (cI (TL v))):=by
 apply Rh.vc;have e1:qB (cI v*2 ^(min (1:Int).toNat 16))=cI (v<<<1):=XQ v 1;have e2:tP .u16 (cI v) 32768=cI (v &&& 0x8000#16):=amF v 0x8000#16;have e3:lF .u16 (cI (v<<<1)) 4129=cI ((v<<<1) ^^^ 0x1021#16):=HD _ 0x1021#16;apply Br.mk<;>intro h
 ·rw [e2] at h;have hm:v.msb=true:=by
   cases q:v.msb with
   |true=>rfl
   |false=>rw [(XR v).2 q] at h;simp at h
  rw [e1,e3];unfold TL;rw [if_pos hm];exact ⟨rfl,rfl⟩
 ·rw [e2] at h;have hm:v.msb=false:=(XR v).1 (by simpa using h);rw [e1];unfold TL;rw [hm];exact ⟨rfl,rfl⟩
abbrev R7:TypeId:=417
abbrev tA2:TypeId:=396
def itS:Nat->mN->mN
 |0,v=>v
 |k+1,v=>TL (itS k v)
def IY(w:World):eU 394 #[] w (Value.agg tS.toArray):=by
 apply aab.vc;intro w0 e0 w1 e1;have z0:=fE e0;have x1:Ext w w1:=(aV e0).ba e1;have ha:Row w1 w (tT 0) R7:=(by rw [e0];exact Row.new w (tT 0) _:Row w0 w (tT 0) R7).ext (aV e1);have hb:Row w1 w0 (tT 0) R7:=by rw [e1];exact Row.new w0 (tT 0) _
 refine ⟨λn i wr=>∃k:Nat,i=k/\k+n=16/\Row wr w (tT 0) R7/\Row wr w0 (tT k) R7/\Ext w wr,⟨16,0,rfl,rfl,ha,hb,x1⟩,?_⟩;rintro n3 us4 x5 w6 ⟨k,rfl,hk,ha6,hb6,x6⟩;apply Br.mk<;>intro hc
 ·replace hc:=lT hc;have ek:qB (qB (k:Int)*2 ^(min (12:Int).toNat 16))=cI (oT (k:Int)<<<12):=by
   have:qB (k:Int)=cI (oT (k:Int)):=by rw [VG aa,wrap_u16];omega
   rw [this];exact XQ _ 12
  rw [ek];refine ⟨λn j c wr=>∃m:Nat,j=m/\m+n=4/\c=cI (itS m (oT (k:Int)<<<12))/\wr=w6,⟨4,0,rfl,rfl,rfl,rfl⟩,?_⟩;rintro n9 agf bR cw bw ⟨m,rfl,hm,rfl,rfl⟩;apply Br.mk<;>intro nG
  ·replace nG:=lT nG;have wk:=nJ (j:=m);refine (Nz _ _).bj λdj hw=> ?_
   exact ⟨_,rfl,n9-1,aa,m+1,wk,aa,rfl,hw⟩
  ·replace nG:=l6 nG;have hm4:m=4:=by omega
   subst hm4;have wk:=nJ (j:=k);have db:(tT k).length=16:=by unfold tT;rw [bY,cK,Hf];simp [tS];omega
   obtain ⟨p1,p2⟩:=hb6.fF (j:=k) (v:=tv k) aa rfl;have hj:((k:Int)).toNat*1=k:=by omega
   rw [hj];refine ⟨aa,aa,⟨rfl,p1⟩,λcM uq=> ?_⟩;obtain ⟨q1,q2⟩:=p2 cM uq;rw [show putCells (tT k) k [tv k]=(tT k).set k (tv k) from rfl,amG aa] at q1;exact ⟨n3-1,aa,k+1,wk,aa,q2.row ha6 (by have:=x1.size;omega),q1,q2.ext x6 (by intro i hi;omega)⟩
 ·replace hc:=l6 hc;have:k=16:=by omega
  subst this;have hl:ah w6 (aB w0.heap.size) 0 tS:=hb6.bK λj hj=>by rw [eK];rfl
  have hs:=ha6.bC (o:=0) (vs:=tS) aw (by intro v hv;simp only [tS,cj,iY,or_false] at hv;rcases hv with rfl|rfl|rfl|rfl|rfl|rfl|rfl|rfl|rfl|rfl|rfl|rfl|rfl|rfl|rfl|rfl<;>rfl);refine ⟨_,_,_,_,_,_,_,_,_,_,_,_,_,_,_,_,hl,⟨rfl,ha6.wr (o:=0) (n:=16) aw⟩,λky e34=> ?_⟩;have atA:ky=w6.setRow w tS.toArray:=e34.trans hs;have hr:Row ky w tS R7:=by rw [atA];exact ha6.set tS
  have TB:ah ky (aB w.heap.size) 0 tS:=hr.bK λj hj=>by rw [eK]
  exact ⟨_,_,_,_,_,_,_,_,_,_,_,_,_,_,_,_,TB,rfl,x6.af atA (ak _)⟩
def NH(v:mN)(s:Sl)(b:List Int)(w:World)(hs:ji w s b)(hb:mK b)(hn:(b.length:Int)<=1099511627776):eU 388 #[.int .u16 (cI v),s] w (Value.int .u16 (cI (R8 v b))):=by
 apply (Hj.vc (a1:=s));refine (IY w).bj λw0 x0=> ?_
 refine ⟨_,_,_,_,_,_,_,_,_,_,_,_,_,_,_,_,rfl,λcM uq=> ?_⟩;have agz:Row cM w0 (tT 0) R7:=by rw [uq];exact Row.new w0 (tT 0) _
 have hS:=agz.bC (o:=0) (vs:=tS) aw (by intro v hv;simp only [tS,cj,iY,or_false] at hv;rcases hv with rfl|rfl|rfl|rfl|rfl|rfl|rfl|rfl|rfl|rfl|rfl|rfl|rfl|rfl|rfl|rfl<;>rfl);refine ⟨⟨rfl,agz.wr (o:=0) (n:=16) aw⟩,λdN Od=> ?_⟩;have atB:dN=cM.setRow w0 tS.toArray:=Od.trans hS;have hr:Row dN w0 tS R7:=by rw [atB];exact agz.set tS
 have de:Ext w dN:=x0.tr ((aV uq).af atB (ak _));have atD:=hs.ext de;have tL:=hs.n;rw [aJ] at tL;refine ⟨λn i c wr=>∃k:Nat,i=k/\k+n=b.length/\c=cI (R8 v (b.take k))/\wr=dN,⟨b.length,0,rfl,aa,rfl,rfl⟩,?_⟩;rintro n us i c wr ⟨k,rfl,hk,rfl,rfl⟩;apply Br.mk<;>intro hc
 ·replace hc:=lT hc;obtain ⟨x,hx⟩:=bZ (l:=b) (i:=k) aa;have hxb:=hb x (aQ hx);have hm:(b.map yv)[k]? =some [.int .u8 x]:=by rw [aZ,hx];rfl
  have pO:=atD.at hm (j:=0) rfl;rw [fG] at pO;have wk:=nJ (j:=k);have ht:b.take (k+1)=b.take k++ [x]:=by rw [dq,hx];rfl
  generalize hu:R8 v (b.take k)=u;refine ⟨atD.j2 aw aa hc,x,pO,?_⟩;have m1:(min (12:Int).toNat 16)=12:=rfl;have m2:(min (4:Int).toNat 8)=4:=rfl;have m3:(min (4:Int).toNat 16)=4:=rfl;rw [m1,m2,m3,aeM,av7 hxb,HD,av8 hxb,XQ];have l1:=aeN (aeO u) (akK hxb);have g1:=akL l1;have c1:=AW ((u>>>12) ^^^(oT x>>>4));have c1':cI ((u>>>12) ^^^(oT x>>>4))<16:=by unfold cI;omega
  refine ⟨aa,aa,_,(by rw [aF,eK,hr.ld,zm];exact g1),?_⟩;rw [HD,aeM,HD,XQ];have l2:=aeN (aeO ((u<<<4) ^^^ IZ (((u>>>12) ^^^(oT x>>>4))<<<12))) (akM (oT x));have g2:=akL l2;have c2:=AW ((((u<<<4) ^^^ IZ (((u>>>12) ^^^(oT x>>>4))<<<12))>>>12) ^^^(oT x &&& 15#16));have c2':cI ((((u<<<4) ^^^ IZ (((u>>>12) ^^^(oT x>>>4))<<<12))>>>12) ^^^(oT x &&& 15#16))<16:=by unfold cI;omega
  refine ⟨aa,aa,_,(by rw [aF,eK,hr.ld,zm];exact g2),n-1,aa,k+1,wk,aa,?_,rfl⟩;rw [HD,aaA u hxb,ht,Di,hu];rfl
 ·replace hc:=l6 hc;rw [dI aa];exact ⟨rfl,de⟩
def FE(s:Sl)(b:List Int)(w:World)(hs:ji w s b)(hb:mK b)(hn:(b.length:Int)<=1099511627776):eU 373 #[s] w (Value.int .u16 (cI (qV b))):=by
 apply (amp.vc (a0:=s));have st:kT 387 #[] w (Value.int .u16 (cI 0xFFFF#16)):=by apply aaa.vc;exact ⟨rfl,rfl⟩
 refine st.mono ?_;rintro e w0 ⟨rfl,rfl⟩;refine ⟨_,rfl,(NH _ s b w0 hs hb hn).mono ?_⟩;rintro e w2 ⟨rfl,x2⟩;exact ⟨_,rfl,rfl,x2⟩
def Ln(s:Sl)(b:List Int)(w:World)(hs:ji w s b)(hb:mK b)(hn:(b.length:Int)<=1099511627776):ae 370 #[s] w λe w'=>e=Value.bool (decide (2<=b.length/\qV b=0#16))/\Ext w w':=by
 apply (aef.vc (a0:=s));have tL:=hs.n;rw [aJ] at tL;apply Br.mk<;>intro h
 ·simp only [ge_iff_le,cL] at h;refine (FE s b w hs hb hn).bj λw0 x0=> ?_
  refine ⟨_,rfl,?_,x0⟩;have:(cI (qV b)==0)=decide (2<=b.length/\qV b=0#16):=by
   rw [Bool.eq_iff_iff];simp only [beq_iff_eq,cL];constructor
   ·intro q;exact ⟨aa,VH.1 (q.trans rfl)⟩
   ·rintro ⟨-,q⟩;rw [q];rfl
  rw [this]
 ·simp only [ge_iff_le,fm] at h;rw [decide_eq_false aa];exact ⟨rfl,Ext.bU _⟩
def Iq(v:mN)(w:World):eU 374 #[.int .u16 (cI v)] w (Value.agg #[.int .u8 (cI v / 256),.int .u8 (cI v % 256)]):=by
 apply Ed.vc;intro w0 e0;have hb:=AW v;have h0:Row w0 w [.int .u8 0,.int .u8 0] tA2:=Row.nw e0;have e1:tO ((cI v).fdiv (2 ^(min (8:Int).toNat 16)))=cI v / 256:=by show tO ((cI v).fdiv (2 ^ 8))=_;rw [aeM,VI,wrap_u8];simp only [show (2:Int) ^ 8=256 from rfl];omega
 have e2:tO (cI v)=cI v % 256:=wrap_u8 _;rw [e1,e2];have hS:=h0.bC (o:=0) (vs:=[.int .u8 (cI v / 256),.int .u8 (cI v % 256)]) (ak 2) (BA _ _ _ _);refine ⟨⟨rfl,h0.wr (o:=0) (n:=2) aw⟩,λw1 e1=> ?_⟩;have e1':w1=w0.setRow w #[.int .u8 (cI v / 256),.int .u8 (cI v % 256)]:=e1.trans hS;have h1:Row w1 w [.int .u8 (cI v / 256),.int .u8 (cI v % 256)] tA2:=by rw [e1'];exact h0.set _
 exact ⟨_,_,h1.bK (λj hj=>by rw [eK]),rfl,(aV e0).af e1' (ak _)⟩
abbrev tSB:TypeId:=43
def ji.n{w:World}{s:Sl}{b:List Int}(h:ji w s b):s.n=b.length:=by have:=dB.n h;rwa [aJ] at this
def WO{b:List Int}:∀r ∈ b.map yv,r.length=1:=λr hr=>by obtain ⟨x,_,rfl⟩:=bf.1 hr;rfl
def qg(s:Sl)(b:List Int)(w:World)(hs:ji w s b)(hn:b.length<=1099511627776):
  ae 334 #[s] w λe w'=>∃s':Sl,e=s'/\oe w w' s' b/\Ext w w':=by
 have tL:=ji.n hs;apply (ze.vc (a0:=s));apply Br.mk<;>intro h
 ·have:b=[]:=by
   rcases Fq b.length with h0|h0
   ·exact CR h0
   ·have:=dB.isSome hs aa (i:=0) (by simpa using h0)
    cases hsa:s.a<;>simp [hsa] at h this
  subst this;exact ⟨⟨none,0,0⟩,rfl,ar.nil,Ext.bU w⟩
 ·rintro w0 rfl;have xa:=Ext.al w (.cells #[] jL);have hz:ar w jL 1 (w.alloc (.cells #[] jL)) ⟨aB w.heap.size,0,0⟩ []:=ar.jU (ak _) (Row.new w [] jL) bo (ak _) rfl (λr hr=>by cases hr);have hb:=hz.FC (bytes:=1) (more:=b.map yv) xa.size WO (acA _) (by simp only [aJ];omega) (by simp only [aJ];omega);rw [aJ,<-tL] at hb;obtain ⟨hp,hr⟩:=hb;refine ⟨(b.map yv).flatten,dB.flat (hs.ext xa) aa,hp,λs2 w3 bq=> ?_⟩;obtain ⟨ho,hn2,xb,_,_⟩:=hr s2 w3 bq;exact ⟨qh bq (by rw [bQ WO,aJ,tL]) bo,s2,rfl,ho,xa.trans xb⟩
def Lk(n:Nat)(w:World)(hn:n<=1099511627776):Calls Tryz.prog 375 #[.slice none 0 0,.int .i64 n] w λe w'=>∃s':Sl,e=.returned (.slice s'.a s'.n s'.c)/\oe w.heap.size w' s' []/\Ext w w':=by
 apply (Bz.vc (a0:=⟨none,0,0⟩));have e1:IntKind.wrap .i64 ((n:Int)-IntKind.wrap .i64 (((0:Nat):Int)-((0:Nat):Int)))=n:=by rw [aK (n:=((0:Nat):Int)-((0:Nat):Int)) inO,wI];omega
 refine Br.mk (λh=>by simp at h;omega) (λ_=> ?_);rw [e1];refine Br.mk (λh=> ?_) (λh=> ?_)
 ·have h0:ar w.heap.size jL 1 w ⟨none,0,0⟩ []:=ar.nil;have hb:=h0.FC (bytes:=1) (more:=(List.replicate n (yv 0))) (Nat.le_refl _) (λr hr=>by rw [(List.mem_replicate.1 hr).2];rfl) (λr hr=>by rw [(List.mem_replicate.1 hr).2];exact wB _ _) (by simp only [List.length_replicate];omega) (by simp only [List.length_replicate];omega);rw [List.length_replicate] at hb;obtain ⟨hp,hr⟩:=hb;refine ⟨aa,aa,⟨aa,wI,aa⟩,hp,λs0 w1 bq=> ?_⟩;obtain ⟨ho,hn2,xb,_,_⟩:=hr s0 w1 bq;have hle:=ar.le ho;refine ⟨aa,aa,⟨s0.a,0,s0.c⟩,by rw [dw];rfl,?_,xb⟩;rcases ho.form (by decide) with ⟨rfl,-⟩|⟨g,cs,ha,hg,dh,hc,hnn,ht,hl⟩
  ·exact ar.nil
  ·rw [ha];exact ar.jU hg dh hc (Nat.zero_le _) (by simp) (λr hr=>by cases hr)
 ·exact ⟨⟨none,0,0⟩,rfl,ar.nil,Ext.bU _⟩
abbrev tU(xs:List (Sl × List Int)):List Int:=xs.flatMap (·.2)
def JD(xs:List (Sl × List Int)){k:Nat}{x:Sl × List Int}(h:xs[k]? =some x):tU (xs.take (k+1))=tU (xs.take k)++x.2:=by rw [dq,h];simp [tU]
def WR(xs:List (Sl × List Int))(k:Nat):(tU (xs.take k)).length<=(tU xs).length:=by have e:=congrArg (λl=>(tU l).length) (tn k xs);simp only [List.flatMap_append,bY] at e;have h1:(tU (xs.take k)).length=(List.flatMap (λx=>x.2) (xs.take k)).length:=rfl;have h2:(tU xs).length=(List.flatMap (λx=>x.2) xs).length:=rfl;omega
def CS(s:Sl)(xs:List (Sl × List Int))(w:World)(hs:dB w s 1 (xs.map λx=> [.slice x.1.a x.1.n x.1.c]))(hr:∀x ∈ xs,ji w x.1 x.2)(hl:xs.length<=1000)(hn:(tU xs).length<=1099511627776):
  Calls Tryz.prog 344 #[.slice s.a s.n s.c] w λe w'=>∃s':Sl,e=.returned (.slice s'.a s'.n s'.c)/\oe w.heap.size w' s' (tU xs)/\Ext w w':=by
 apply (xk.vc (a0:=s));have tL:=hs.n;rw [List.length_map] at tL;have row:∀{k:Nat} {w':World},Ext w w'->k<xs.length->∃x,xs[k]? =some x/\gJ s.a (k:Int) s.n/\ld w' (ab s.a (((k:Nat):Int).toNat*1))=some (.slice x.1.a x.1.n x.1.c)/\ji w' x.1 x.2:=λ{k w'} x' hk=>by
  obtain ⟨x,hx⟩:=bZ (l:=xs) (i:=k) hk;have hs':=hs.ext x';have hm:(xs.map λx=> [Value.slice x.1.a x.1.n x.1.c])[k]? =some [.slice x.1.a x.1.n x.1.c]:=by rw [List.getElem?_map,hx];rfl
  have pO:=hs'.at hm (j:=0) rfl;rw [fG] at pO;exact ⟨x,hx,hs'.j2 (by decide) (by omega) (by omega),pO,(hr x (List.mem_of_getElem? hx)).ext x'⟩
 refine ⟨λn i z wr=>∃k:Nat,i=k/\k+n=xs.length/\z=((tU (xs.take k)).length:Nat)/\wr=w,⟨xs.length,0,rfl,aa,rfl,rfl⟩,?_⟩;rintro n us i z wr ⟨k,rfl,hk,rfl,rfl⟩;refine Br.mk (λhc=> ?_) (λhc=> ?_)
 ·replace hc:=lT hc;obtain ⟨x,hx,pE,pO,hrx⟩:=row (k:=k) (Ext.bU _) (by omega);have h1:=WR xs (k+1);have ht:=JD xs hx;have hxn:=ji.n hrx;have wz:IntKind.wrap .i64 (((tU (xs.take k)).length:Int)+((x.1.n:Nat):Int))=((tU (xs.take (k+1))).length:Nat):=by rw [ht,List.length_append];rw [ht,List.length_append] at h1;rw [wI];omega
  have wk:IntKind.wrap .i64 ((k:Int)+1)=((k+1:Nat):Int):=by rw [wI];omega
  refine ⟨pE,x.1,pO,?_⟩;dsimp only;rw [wz];refine Br.mk (λh=>by simp at h;omega) (λ_=>⟨n-1,aa,k+1,wk,aa,rfl,rfl⟩)
 ·replace hc:=l6 hc;rw [List.take_of_length_le (by omega)];refine (Lk _ _ hn).mono ?_;rintro e w8 ⟨s9,rfl,ho,x8⟩;refine ⟨s9,rfl,λn i s X3=>∃k:Nat,i=k/\k+n=xs.length/\oe wr.heap.size X3 s (tU (xs.take k))/\Ext wr X3,⟨xs.length,0,rfl,aa,ho,x8⟩,?_⟩;rintro n11 am6 i s14 dj ⟨k2,rfl,X4,S4,dm⟩;refine Br.mk (λnG=> ?_) (λnG=> ?_)
  ·replace nG:=lT nG;obtain ⟨x,hx,pE,pO,hrx⟩:=row (k:=k2) dm (by omega);have h1:=WR xs (k2+1);have ht:=JD xs hx;have hxn:=ji.n hrx;have hon:=ji.n (oe.FD S4);rw [ht,List.length_append] at h1;have wk:IntKind.wrap .i64 ((k2:Int)+1)=((k2+1:Nat):Int):=by rw [wI];omega
   have hb:=ar.FC S4 (bytes:=1) (more:=x.2.map yv) dm.size WO (acA _) (by simp only [List.length_map];omega) (by simp only [List.length_map];omega);rw [List.length_map,<-hxn] at hb;obtain ⟨hp,bq⟩:=hb;refine ⟨pE,x.1,pO,(x.2.map yv).flatten,dB.flat hrx (by omega),hp,λs19 fw awv=> ?_⟩;obtain ⟨aww,_,xb,_,_⟩:=bq s19 fw awv;refine ⟨n11-1,aa,k2+1,wk,aa,?_,dm.trans xb⟩;rw [ht];show ar _ _ _ _ _ _;rw [List.map_append];exact aww
  ·replace nG:=l6 nG;rw [List.take_of_length_le (by omega)] at S4;exact ⟨s14,rfl,S4,dm⟩
def Pg(s:Sl)(b:List Int)(w:World)(hs:ji w s b)(hb:mK b)(hn:b.length+2<=1099511627776):ae 343 #[s] w λe w'=>∃s':Sl,e=s'/\oe w w' s' (gQ b)/\Ext w w':=by
 apply (ahy.vc (a0:=s));refine (FE s b w hs hb aa).bj λw0 x0=> ?_
 refine ⟨_,rfl,(Iq _ w0).bj λw2 x2=> ?_⟩;refine ⟨_,_,rfl,λw5 e5=> ?_⟩;have h5:Row w5 w2 [.int .u8 0,.int .u8 0] tA2:=Row.nw e5;have hS:=h5.bC (o:=0) (vs:=[.int .u8 (cI (qV b) / 256),.int .u8 (cI (qV b) % 256)]) (ak 2) (BA _ _ _ _);refine ⟨⟨rfl,h5.wr (o:=0) (n:=2) aw⟩,λw6 e6 w7 e7=> ?_⟩;have e6':w6=w5.setRow w2 #[.int .u8 (cI (qV b) / 256),.int .u8 (cI (qV b) % 256)]:=e6.trans hS;have h6:Row w6 w2 [.int .u8 (cI (qV b) / 256),.int .u8 (cI (qV b) % 256)] tA2:=by rw [e6'];exact h5.set _
 have jH:Ext w2 w6:=(aV e5).af e6' (ak _);have yt:=aV e7;have x7:=x0.tr (x2.tr (jH.tr yt));have hc:ji w7 ⟨aB w2.heap.size,2,2⟩ (Ll b):=by
  refine ⟨rfl,WO,λi r hi j v hj=> ?_⟩;have h7:=h6.ext yt;rw [aF,eK,h7.ld]
  match i,hi with
  |0,hi=>cases hi;match j,hj with
   |0,hj=>cases hj;rfl
  |1,hi=>cases hi;match j,hj with
   |0,hj=>cases hj;rfl
  |i+2,hi=>simp [Ll] at hi
 have hl:dB w7 ⟨aB w6.heap.size,2,2⟩ 1 ([(s,b),(⟨aB w2.heap.size,2,2⟩,Ll b)].map λx=> [.slice x.1.a x.1.n x.1.c]):=by
  have h7:Row w7 w6 [s,.slice (aB w2.heap.size) 2 2] tSB:=by rw [e7,dw];exact Row.new w6 [_,_] _
  refine ⟨rfl,λr hr=>by simp at hr;rcases hr with rfl|rfl<;>rfl,λi r hi j v hj=> ?_⟩;rw [aF,eK,h7.ld]
  match i,hi with
  |0,hi=>cases hi;match j,hj with
   |0,hj=>cases hj;rfl
  |1,hi=>cases hi;match j,hj with
   |0,hj=>cases hj;rfl
  |i+2,hi=>simp at hi
 have afw:tU [(s,b),(⟨aB w2.heap.size,2,2⟩,Ll b)]=gQ b:=by simp [tU,gQ]
 refine (CS ⟨aB w6.heap.size,2,2⟩ [(s,b),(⟨aB w2.heap.size,2,2⟩,Ll b)] w7 hl (λx hx=>by
  simp at hx;rcases hx with rfl|rfl
  ·exact hs.ext x7
  ·exact hc) (show 2<=1000 by decide) (by rw [afw,BB];exact hn)).mono ?_
 rintro e w8 ⟨s9,rfl,ho,x8⟩;rw [afw] at ho;exact ⟨s9,rfl,s9,rfl,ar.low ho x7.size,x7.tr x8⟩
def Lm(s:Sl)(b:List Int)(w:World)(hs:ji w s b)(hb:mK b)(hc:s.n<=s.c)(hn:b.length<=1099511627776):ae 335 #[s] w λe w'=>∃s':Sl,e=Value.tuple #[s',.int .i64 (tp b).2]/\oe w w' s' (tp b).1/\Ext w w':=by
 apply (acB.vc (a0:=s));have tL:=ji.n hs;apply Br.mk<;>intro h
 ·replace h:=lT h;have e:tp b=([],3):=by unfold tp;rw [if_pos aa]
  rw [e];exact ⟨⟨none,0,0⟩,rfl,ar.nil,Ext.bU _⟩
 ·replace h:=l6 h;refine (Ln s b w hs hb aa).bj λw0 x0=> ?_
  refine ⟨_,rfl,Br.mk (λh2=> ?_) (λh2=> ?_)⟩
  ·have e:tp b=([],4):=by unfold tp;rw [if_neg aa,if_neg];intro q;rw [decide_eq_true ⟨aa,q⟩] at h2;cases h2
   rw [e];exact ⟨⟨none,0,0⟩,rfl,ar.nil,x0⟩
  ·have q:qV b=0#16:=by simp at h2;exact h2.2
   have e:tp b=(b.take (b.length-2),0):=by unfold tp;rw [if_neg aa,if_pos q]
   have wk:aC (((s.n:Nat):Int)-2)=((b.length-2:Nat):Int):=by rw [wI];omega
   rw [wk,e];have mH:ji w0 ⟨aE s.a 0 s.c 1,b.length-2,s.c-0⟩ (b.take (b.length-2)):=by have:=(hs.ext x0).cut (m:=b.length-2) (c':=s.c) (c'':=s.c-0) (by rw [aJ];omega);rw [<-List.map_take] at this;exact this
   refine ⟨aa,aa,(qg ⟨aE s.a 0 s.c 1,b.length-2,s.c-0⟩ _ w0 mH (by rw [cK];omega)).mono ?_⟩;rintro e w2 ⟨s3,rfl,ho,x2⟩;exact ⟨s3,rfl,s3,rfl,ar.low ho x0.size,x0.tr x2⟩
def av9(n:Int){k:Nat}(hk:k<=4):n.fdiv (2 ^(min ((8*(k:Int))).toNat 64))=n / 256 ^ k:=by
 have e:(2:Int) ^(min ((8*(k:Int))).toNat 64)=256 ^ k:=by
  rcases k with _|_|_|_|_|k
  ·rfl
  ·rfl
  ·rfl
  ·rfl
  ·rfl
  ·omega
 rw [e,tB];exact Int.le_of_lt (Int.pow_pos aw)
def Sb(B:Nat)(s:Sl)(b:List Int)(n:Int)(m:Nat)(hm:m<=4)(w:World)(hB:B<=w.heap.size)(ho:oe B w s b)(hb:b.length<=1000):
  Calls Tryz.prog 342 #[.slice s.a s.n s.c,.int .i64 n,.int .i64 m] w λe w'=>∃s':Sl,e=.returned (.slice s'.a s'.n s'.c)/\oe B w' s' (b++be m n)/\Below B w w':=by
 apply (Z9.vc (a0:=s));have w1:IntKind.wrap .i64 ((m:Int)-1)=(m:Int)-1:=wI;refine ⟨λl x o wr=>∃k:Nat,l=k/\x=(k:Int)-1/\k<=m/\∃pre,pre++be k n=be m n/\oe B wr o (b++pre)/\Below B w wr,⟨m,m,rfl,w1,Nat.le_refl _,[],rfl,by rw [List.append_nil];exact ho,Below.refl _ _⟩,?_⟩;rintro k us x s4 w5 ⟨k',rfl,rfl,hk,pre,hp,ho5,x5⟩;have db:=congrArg List.length hp;rw [List.length_append,td,td] at db;have hon:=ji.n (oe.FD ho5);rw [List.length_append] at hon;refine Br.mk (λhc=> ?_) (λhc=> ?_)
 ·simp only [ge_iff_le,decide_eq_true_eq] at hc;obtain ⟨j,rfl⟩:∃j,k=j+1:=⟨k-1,aa⟩;have e8:IntKind.wrap .i64 (8*(((j+1:Nat):Int)-1))=8*(j:Int):=by rw [wI];omega
  rw [e8,av9 n (by omega),wrap_u8];refine bT.2 ⟨EJ.2 (by omega),λw7 e7=> ?_⟩;subst e7;obtain ⟨hpre,bq⟩:=ar.kU ho5 (bytes:=1) (news:=yv (n / 256 ^ j % 256)) (.cells #[.int .u8 (n / 256 ^ j % 256)] jL) (by have:=x5.size;omega) rfl (wB _ _) (by omega) (by omega);refine ⟨hpre,λs8 w9 hr=> ?_⟩;obtain ⟨f1,ho9,hn9,xb,-,-⟩:=bq s8 w9 hr;refine ⟨f1,j,aa,j,rfl,by rw [wI];omega,aa,pre++ [n / 256 ^ j % 256],?_,?_,x5.trans xb⟩
  ·rw [<-hp,List.append_assoc];rfl
  ·rw [<-List.append_assoc];show ar _ _ _ _ _ _;rw [List.map_append];exact ho9
 ·simp only [ge_iff_le,decide_eq_false_iff_not] at hc;have:k=0:=by omega
  subst this;have hp':pre=be m n:=by simpa [be] using hp
  rw [hp'] at ho5;exact ⟨s4,rfl,ho5,x5⟩
def Kz(s:Sl)(b:List Int)(w:World)(hs:ji w s b)(hb:mK b)(hn:b.length<=4):kT 336 #[s] w (Value.int .i64 (eC b)):=by
 apply (Vp.vc (a0:=s));have tL:=ji.n hs;refine ⟨λl i n wr=>∃k:Nat,i=k/\k+l=b.length/\n=eC (b.take k)/\wr=w,⟨b.length,0,rfl,aa,rfl,rfl⟩,?_⟩;rintro l us i n wr ⟨k,rfl,hk,rfl,rfl⟩;apply Br.mk<;>intro hc
 ·replace hc:=lT hc;obtain ⟨x,hx⟩:=bZ (l:=b) (i:=k) aa;have hxb:=hb x (aQ hx);have hm:(b.map yv)[k]? =some [.int .u8 x]:=by rw [aZ,hx];rfl
  have pO:=hs.at hm (j:=0) rfl;rw [fG] at pO;have wk:=nJ (j:=k);have hsm:=VM hb (k:=k) aa;have ht:b.take (k+1)=b.take k++ [x]:=by rw [dq,hx];rfl
  refine ⟨dB.j2 hs aw aa hc,x,pO,l-1,aa,k+1,wk,aa,?_,rfl⟩;have e1:aC (eC (b.take k)*2 ^(min (8:Int).toNat 64))=eC (b.take k)*256:=by show aC (eC (b.take k)*256)=_;exact wI
  have e2:aC x=x:=wI;rw [e1,e2,Sc aa hxb,ht,HE]
 ·replace hc:=l6 hc;rw [dI aa];exact ⟨rfl,rfl⟩
def Se(v:Int)(s:Sl)(b:List Int)(w:World)(hs:ji w s b)(hb:mK b)(hn:b.length<=1099511627776):
  Calls Tryz.prog 292 #[.int .i64 v,.slice s.a s.n s.c] w λe w'=>∃s':Sl,e=.returned (.tuple #[.slice s'.a s'.n s'.c,.int .i64 (zb v b).2])/\oe w.heap.size w' s' (zb v b).1/\Ext w w':=by
 apply (Rg.vc (a1:=s));have tL:=ji.n hs;have no:(v<1\/v>1073741824\/(b.length:Int)>65536)->∃s':Sl,Ending.returned (.tuple #[.slice none 0 0,.int .i64 1])=.returned (.tuple #[.slice s'.a s'.n s'.c,.int .i64 (zb v b).2])/\oe w.heap.size w s' (zb v b).1/\Ext w w:=λh=>by
  have e:zb v b=([],1):=by unfold zb;rw [if_pos h]
  rw [e];exact ⟨⟨none,0,0⟩,rfl,ar.nil,Ext.bU _⟩
 refine Br.mk (λh=> ?_) (λh1=>Br.mk (λh=> ?_) (λh2=>Br.mk (λh=> ?_) (λh3=> ?_)))
 ·simp only [decide_eq_true_eq] at h;exact no (.inl h)
 ·simp only [gt_iff_lt,decide_eq_true_eq] at h;exact no (.inr (.inl h))
 ·simp only [gt_iff_lt,decide_eq_true_eq] at h;exact no (.inr (.inr (by omega)))
 ·simp only [gt_iff_lt,decide_eq_false_iff_not] at h1 h2 h3;have e:zb v b=(gQ (dA v b),0):=by unfold zb;rw [if_neg (by omega)]
  rw [e];have p4:=Sb w.heap.size ⟨none,0,0⟩ [] v 4 (by decide) w (Nat.le_refl _) ar.nil (by simp);refine p4.mono ?_;rintro e w0 ⟨s1,rfl,o1,x0⟩;have p3:=Sb w.heap.size s1 ([]++be 4 v) ((s.n:Nat):Int) 3 (by decide) w0 x0.size o1 (by simp [td]);refine ⟨s1,rfl,p3.mono ?_⟩;rintro e w2 ⟨s3,rfl,o3,x2⟩;refine ⟨s3,rfl,λw4 e4=> ?_⟩;have yq:Ext w w2:=x0.trans x2;have jR:Ext w2 w4:=(Ext.bU _).ba e4;have x4:=yq.tr jR;have r4:Row w4 w2.heap.size [.slice s3.a s3.n s3.c,.slice s.a s.n s.c] tSB:=by rw [e4];exact Row.new w2 [_,_] _
  have hl:dB w4 ⟨some ⟨w2.heap.size,0,none⟩,2,2⟩ 1 ([(s3,[]++be 4 v++be 3 ((s.n:Nat):Int)),(s,b)].map λx=> [.slice x.1.a x.1.n x.1.c]):=by
   refine ⟨rfl,λr hr=>by simp at hr;rcases hr with rfl|rfl<;>rfl,λi r hi j v hj=> ?_⟩;rw [aF,Nat.zero_add,r4.ld]
   match i,hi with
   |0,hi=>cases hi;match j,hj with
    |0,hj=>cases hj;rfl
   |1,hi=>cases hi;match j,hj with
    |0,hj=>cases hj;rfl
   |i+2,hi=>simp at hi
  have afw:tU [(s3,[]++be 4 v++be 3 ((s.n:Nat):Int)),(s,b)]=dA v b:=by simp [tU,dA,tL]
  have hrl:=rA v b;refine (CS ⟨some ⟨w2.heap.size,0,none⟩,2,2⟩ [(s3,[]++be 4 v++be 3 ((s.n:Nat):Int)),(s,b)] w4 hl (λx hx=>by
   simp only [List.mem_cons,List.not_mem_nil,or_false] at hx;rcases hx with rfl|rfl
   ·exact dB.ext (oe.FD o3) jR
   ·exact hs.ext x4) (show 2<=1000 by decide) (by rw [afw];omega)).mono ?_
  rintro e w5 ⟨s6,rfl,o6,x5⟩;rw [afw] at o6;refine ⟨s6,rfl,(Pg s6 (dA v b) w5 (oe.FD o6) (XT hb) (by omega)).mono ?_⟩;rintro e w7 ⟨s8,rfl,o8,x7⟩;have yO:=x4.tr x5;exact ⟨s8,rfl,s8,rfl,ar.low o8 yO.size,yO.tr x7⟩
def aeQ{b:List Int}(h:mK b):mK (tp b).1:=by
 unfold tp;split
 ·intro c hc;cases hc
 ·split
  ·exact λc hc=>h c (og hc)
  ·intro c hc;cases hc
def aeR(b:List Int):(tp b).1.length<=b.length:=by
 unfold tp;split
 ·simp
 ·split
  ·simp only [cK];omega
  ·simp
def amK{b:List Int}(h:mK b):mK (qc b).2.1:=by
 unfold qc;split
 ·intro c hc;cases hc
 ·split
  ·intro c hc;cases hc
  ·split
   ·intro c hc;cases hc
   ·exact λc hc=>aeQ h c (zk hc)
def amL(b:List Int):(qc b).2.1.length<=b.length:=by
 have:=aeR b;unfold qc;split
 ·simp
 ·split
  ·simp
  ·split
   ·simp
   ·simp only [qe];omega
def VN(s:Sl)(b:List Int)(w:World)(hs:ji w s b)(hb:mK b)(hc:s.n<=s.c)(hn:b.length<=1099511627776):
  ae 285 #[s] w λe w'=>∃s':Sl,e=Value.tuple #[.int .i64 (qc b).1,s',.int .i64 (qc b).2.2]/\ji w' s' (qc b).2.1/\s'.n<=s'.c/\(∀g,s'.aX=some g->w.heap.size<=g)/\Ext w w':=by
 apply (US.vc (a0:=s));refine (Lm s b w hs hb hc hn).mono ?_;rintro e w0 ⟨s1,rfl,o1,x0⟩;have hi:=aeQ hb;have hle:=aeR b;have nil:ji w0 ⟨none,0,0⟩ []:=oe.FD (ar.nil (B:=0));have h1:qc b=if (tp b).2≠0 then (0,[],(tp b).2) else if (tp b).1.length<7 then (0,[],3) else if eC ((tp b).1.take 4)<1\/eC ((tp b).1.take 4)>1073741824\/eC (((tp b).1.drop 4).take 3)>65536\/eC (((tp b).1.drop 4).take 3)≠(((tp b).1.drop 7).length:Int) then (0,[],2) else (eC ((tp b).1.take 4),(tp b).1.drop 7,0):=rfl;rw [h1];generalize tp b=t at*;obtain ⟨t1,t2⟩:=t;simp only at*;have hon:=ji.n (oe.FD o1);have hoc:=ar.le o1;refine ⟨s1,_,rfl,Br.mk (λh=> ?_) (λh=> ?_)⟩
 ·have:t2≠0:=by simpa using h
  rw [if_pos this];exact ⟨⟨none,0,0⟩,rfl,nil,ak _,(λg hg=>by cases hg),x0⟩
 ·have:t2=0:=by simpa using h
  subst this;rw [if_neg bo];apply Br.mk<;>intro h
  ·replace h:=lT h;rw [if_pos aa];exact ⟨⟨none,0,0⟩,rfl,nil,ak _,(λg hg=>by cases hg),x0⟩
  ·replace h:=l6 h;rw [if_neg aa];have rd:=dB.ext (oe.FD o1) (Ext.dr w0);have c4:ji w0.drew ⟨aE s1.a 0 s1.c 1,4-0,s1.c-0⟩ (t1.take 4):=by have:=dB.cut rd (m:=4) (c':=s1.c) (c'':=s1.c-0) (by rw [aJ];omega);rw [<-List.map_take] at this;exact this
   have c3:ji w0.drew ⟨aE s1.a 4 s1.c 1,7-4,s1.c-4⟩ ((t1.drop 4).take 3):=by have r4:=dB.rest rd (l:=4) (m:=s1.c) (n':=t1.length-4) (c':=s1.c-4) (by rw [aJ]) (by rw [aJ];omega);have:=dB.cut r4 (m:=3) (c':=7) (c'':=s1.c-4) (by rw [qe,aJ];omega);rw [dw,<-List.map_drop,<-List.map_take] at this;exact this
   have c7:∀w',Ext w0 w'->ji w' ⟨aE s1.a 7 s1.c 1,s1.n-7,s1.c-7⟩ (t1.drop 7):=λw' x'=>by have:=dB.rest (dB.ext (oe.FD o1) x') (l:=7) (m:=s1.c) (n':=s1.n-7) (c':=s1.c-7) (by rw [aJ];omega) (by rw [aJ];omega);rw [<-List.map_drop] at this;exact this
   refine ⟨aa,aa,aa,aa,aa,aa,aa,aa,(Kz ⟨aE s1.a 0 s1.c 1,4-0,s1.c-0⟩ _ w0.drew c4 (λc hc=>hi c (og hc)) (by rw [cK];omega)).bj λw3 hw=> ?_⟩;subst hw;refine ⟨_,rfl,(Kz ⟨aE s1.a 4 s1.c 1,7-4,s1.c-4⟩ _ w0.drew c3 (λc hc=>hi c (zk (og hc))) (by rw [cK];omega)).bj λw5 hw=> ?_⟩;subst hw;have yx:∀g,(Sl.mk (aE s1.a 7 s1.c 1) (s1.n-7) (s1.c-7)).aX=some g->w.heap.size<=g:=λg hg=>by
    have:s1.aX=some g:=by
     unfold Sl.aX at hg ⊢;simp only [aE] at hg;split at hg
     ·exact hg
     ·cases ha:s1.a with
      |none=>rw [ha] at hg;cases hg
      |some a=>
       rw [ha] at hg;simp only [mV,Option.some.injEq,Addr.add] at hg ⊢;rw [<-hg];split<;>rfl
    exact (o1.own.lt this).1
   have xd:=x0.tr (Ext.dr w0);have nil':ji w0.drew ⟨none,0,0⟩ []:=oe.FD (ar.nil (B:=0));have hdl:(t1.drop 7).length=s1.n-7:=by rw [qe];omega
   have no:(eC (t1.take 4)<1\/eC (t1.take 4)>1073741824\/eC ((t1.drop 4).take 3)>65536\/eC ((t1.drop 4).take 3)≠((t1.drop 7).length:Int))->∃s':Sl,Ending.returned (.tuple #[ai,.slice none 0 0,(2:Int)])=Value.tuple #[.int .i64 (if eC (t1.take 4)<1\/eC (t1.take 4)>1073741824\/eC ((t1.drop 4).take 3)>65536\/eC ((t1.drop 4).take 3)≠((t1.drop 7).length:Int) then ((0:Int),([]:List Int),(2:Int)) else (eC (t1.take 4),t1.drop 7,0)).1,s',.int .i64 (if eC (t1.take 4)<1\/eC (t1.take 4)>1073741824\/eC ((t1.drop 4).take 3)>65536\/eC ((t1.drop 4).take 3)≠((t1.drop 7).length:Int) then ((0:Int),([]:List Int),(2:Int)) else (eC (t1.take 4),t1.drop 7,0)).2.2]/\
     ji w0.drew s' (if eC (t1.take 4)<1\/eC (t1.take 4)>1073741824\/eC ((t1.drop 4).take 3)>65536\/eC ((t1.drop 4).take 3)≠((t1.drop 7).length:Int) then ((0:Int),([]:List Int),(2:Int)) else (eC (t1.take 4),t1.drop 7,0)).2.1/\s'.n<=s'.c/\(∀g,s'.aX=some g->w.heap.size<=g)/\Ext w w0.drew:=λh=>by
    rw [if_pos h];exact ⟨⟨none,0,0⟩,rfl,nil',ak _,(λg hg=>by cases hg),xd⟩
   refine ⟨_,rfl,Br.mk (λh=>no ?_) (λq1=>Br.mk (λh=>no ?_) (λq2=>Br.mk (λh=>no ?_) (λq3=>Br.mk (λh=>no ?_) (λq4=> ?_))))⟩
   ·exact .inl (by simpa using h)
   ·exact .inr (.inl (by simpa using h))
   ·exact .inr (.inr (.inl (by simpa using h)))
   ·refine .inr (.inr (.inr ?_));rw [hdl];simpa using h
   ·simp only [gt_iff_lt,fm,bne_eq_false_iff_eq] at q1 q2 q3 q4;rw [if_neg (by
     rw [hdl];simp only [not_or];exact ⟨q1,q2,q3,by rw [q4];simp⟩)]
    exact ⟨_,rfl,c7 _ (Ext.dr w0),by simp only;omega,yx,xd⟩
def ZB{P:Program}{m since c0 clock r:Nat}{seen:Array Nat}{es:Array MapEntry}{w:World}{ty:TypeId}{v:Value}{w':World}(hr:w.heap[r]? =some (.mapIter (some m) since seen c0))(hm:w.heap[m]? =some (.map es clock))
  (h:(Instr.next (.pointer (aB r)) false ty).run P w=.ok v w'):w'.tape=w.tape:=by
 simp only [Instr.next,getObj,Sem.run_bind,Sem.run,hr,hm,Result.andThen] at h;split at h
 ·cases h
 ·generalize (Array.filter (λe=> !seen.contains e.born) es)=L at h;generalize (if (Array.filter (λx=>decide (x.born<since)) L).isEmpty=true then #[none] else #[])++Array.map some (Array.filter (λx=>decide (x.born<since)) L++Array.filter (λx=>decide (x.born>=since)) L)=C at h;have hch:∀j w1,(choose (Question.mapNext C.size)).run P w=.ok j w1->w1.tape=w.tape:=λj w1 h1=>by
   by_cases hf:C.size<=1
   ·simp only [choose,Sem.run,Question.forced,cL,hf,if_true] at h1
    cases h1;rfl
   ·simp only [choose,Sem.run,Question.forced,cL,hf,if_false,Question.cut] at h1
    cases h1;rfl
  rw [Sem.run_bind] at h
  cases hc:(choose (Question.mapNext C.size)).run P w with
  |ok j w1=>
   have ht:=hch j w1 hc;rw [hc] at h;simp only [Result.andThen] at h;split at h
   ·rw [Sem.run_bind] at h;simp only [setObj,Sem.run] at h;split at h
    all_goals first
     |(simp [Result.andThen] at h;done)
     |(simp only [Result.andThen,Sem.run_pure] at h;cases h;exact ht)
   ·rw [Sem.run_pure] at h;cases h;exact ht
   ·cases h
  |_=>rw [hc] at h;cases h
def nOf:Value->Int| .slice _ n _=>(n:Int)|_=>0
def eh:List MapEntry->Array Nat->Int
 | [],_=>0
 |x::l,seen=>(if seen.contains x.born then nOf x.val else 0)+eh l seen
def wP(seen:Array Nat)(b:Nat):∀(es:List MapEntry),b ∉ es.map (·.born)->eh es (seen.push b)=eh es seen
 | [],_=>rfl
 |x::l,h=>by
  have hx:(x.born==b)=false:=by
   cases hc:x.born==b with
   |false=>rfl
   |true=>exact absurd (cj.2 (Or.inl (beq_iff_eq.1 hc).symm)) h
  have ih:=wP seen b l (λe=>h (cj.2 (Or.inr e)));simp only [eh,contains_push,hx,Bool.or_false,ih]
def An(seen:Array Nat)(e:MapEntry)(hs:seen.contains e.born=false):∀(es:List MapEntry),(es.map (·.born)).Nodup->e ∈ es->eh es (seen.push e.born)=eh es seen+nOf e.val
 |x::l,hn,he=>by
  have hn':x.born ∉ l.map (·.born)/\(l.map (·.born)).Nodup:=uB.1 hn
  rcases cj.1 he with rfl|h
  ·rw [eh,eh,wP seen _ l hn'.1,contains_push,beq_self_eq_true,Bool.or_true,hs]
   simp;omega
  ·have hx:(x.born==e.born)=false:=by
    cases hc:x.born==e.born with
    |false=>rfl
    |true=>exact absurd (bf.2 ⟨e,h,(beq_iff_eq.1 hc).symm⟩) hn'.1
   rw [eh,eh,An seen e hs l hn'.2 h,contains_push,hx,Bool.or_false];omega
def Ao:∀es:List MapEntry,eh es #[]=0
 | []=>rfl
 |x::l=>by rw [eh,Ao l];simp
def U6{es:List MapEntry}(hv:∀x ∈ es,0<=nOf x.val)(seen:Array Nat):0<=eh es seen/\eh es seen<=(es.map λx=>nOf x.val).sum:=by
 induction es with
 |nil=>exact ⟨jN _,jN _⟩
 |cons x l ih=>
  have h1:=ih λy hy=>hv y (.tail _ hy)
  have h2:=hv x (.head _);rw [eh,eL,List.sum_cons];split<;>omega
def QH(es:Array MapEntry)(seen:Array Nat)(h:(leftOf es seen).size=0):eh es.toList seen=(es.toList.map λx=>nOf x.val).sum:=by
 have CA:∀x ∈ es.toList,seen.contains x.born=true:=by
  intro x hx
  cases hc:seen.contains x.born with
  |true=>rfl
  |false=>
   have:x ∈ leftOf es seen:=Array.mem_filter.2 ⟨Array.mem_toList_iff.1 hx,by rw [hc];rfl⟩;have h0:=Array.eq_empty_of_size_eq_zero h;rw [h0] at this;simp at this
 generalize es.toList=l at CA
 induction l with
 |nil=>rfl
 |cons x l ih=>
  rw [eh,CA x (.head _),eL,List.sum_cons,ih λy hy=>CA y (.tail _ hy)];simp
set_option maxRecDepth 1000000 in
def U7(bm:Nat)(es:Array MapEntry)(clock:Nat)(w:World)(hb:w.heap[bm]? =some (.map es clock))(gy:MapKept.Stamped es clock)(hv:∀x ∈ es.toList,∃a n c,x.val=.slice a n c)(hs:(es.toList.map λx=>nOf x.val).sum<=1099511627776):
  ae 346 #[.map (some bm)] w λe w'=>e=Value.int .i64 ((es.toList.map λx=>nOf x.val).sum)/\∃(w1:World)(seen:Array Nat),w1.Alike w/\w1.tape=w.tape/\w'=w1.alloc (.mapIter (some bm) clock seen clock):=by
 have hrg:=run_range_map (P:=Tryz.prog) w 234 Mj 43 bm es clock Tryz.underlying234 hb;have hnn:∀x ∈ es.toList,0<=nOf x.val:=λx hx=>by obtain ⟨a,n,c,e⟩:=hv x hx;rw [e];exact Int.natCast_nonneg n
 go_enter Tryz.func346,Tryz.ntmps346;go_wp2;go_loopw [3] (λs w'=>∃(w1:World)(seen:Array Nat),w1.Alike w/\w1.tape=w.tape/\w'=w1.alloc (.mapIter (some bm) clock seen clock)/\s=.int .i64 (eh es.toList seen)) (λ_ w'=>(leftOf es (w'.iterSeen w)).size)
 case atStart=>exact ⟨w,#[],⟨rfl,rfl,rfl⟩,rfl,rfl,by rw [Ao]⟩
 case round=>
  obtain ⟨w1,seen,hal,htp,rfl,rfl⟩:=hrel;have nE:w1.heap.size=w.heap.size:=by rw [hal.1]
  have Yg:w1.heap[bm]? =some (.map es clock):=by rw [hal.1];exact hb
  have law:=run_next_map (P:=Tryz.prog) w1 0 bm clock clock seen es clock Yg gy.1 (ak _);rw [nE] at law;rcases law with ⟨h0,tf⟩|⟨e,he,w2,hal2,tf⟩
  ·have hnx:∀ty,(Instr.next (.pointer (aB w.heap.size)) false ty).run Tryz.prog (w1.alloc (.mapIter (some bm) clock seen clock))=_:=λ_=>tf
   go_wp2;go_ret;rw [QH es seen h0];exact ⟨rfl,w1,seen,hal,htp,rfl⟩
  ·obtain ⟨va,vn,vc,hval⟩:=hv e (mem_left he).1;have hr1:(w1.alloc (.mapIter (some bm) clock seen clock)).heap[w.heap.size]? =some (.mapIter (some bm) clock seen clock):=by rw [<-nE];exact heap_alloc_new w1 _
   have hm1:(w1.alloc (.mapIter (some bm) clock seen clock)).heap[bm]? =some (.map es clock):=by rw [heap_alloc_old w1 _ (by have:=(oV.1 Yg).1;omega)];exact Yg
   have htp2:w2.tape=w1.tape:=by have:=ZB hr1 hm1 tf;exact this
   rw [hval] at tf;have hnx:∀ty,(Instr.next (.pointer (aB w.heap.size)) false ty).run Tryz.prog (w1.alloc (.mapIter (some bm) clock seen clock))=_:=λ_=>tf
   have hsz2:w2.heap.size=w.heap.size:=by rw [hal2.1,hal.1]
   have lK:w2.heap[bm]? =some (.map es clock):=by rw [hal2.1];exact Yg
   have hen:=run_entry_map (P:=Tryz.prog) w2 bm clock seen es clock e lK (mem_left he).1 gy.2.1;rw [hsz2,hval] at hen;go_wp2;go_roundw
   case rel=>
    refine ⟨w2,seen.push e.born,⟨hal2.1.trans hal.1,hal2.2.1.trans hal.2.1,hal2.2.2.trans hal.2.2⟩,htp2.trans htp,rfl,?_⟩;have hp:=An seen e (mem_left he).2 es.toList gy.2.1 (mem_left he).1;have yJ:=U6 hnn (seen.push e.born);rw [hval] at hp;have hp:eh es.toList (seen.push e.born)=eh es.toList seen+(vn:Int):=hp;have hw:Go.RowKit.wrap64 (eh es.toList seen+(vn:Int))=eh es.toList (seen.push e.born):=by unfold Go.RowKit.wrap64;omega
    exact congrArg _ hw
   case measure=>
    rw [<-hsz2,World.iterSeen_alloc,hsz2,<-nE,World.iterSeen_alloc];exact left_shrinks es seen e he
abbrev tW:TypeId:=337
abbrev Bl:=Int × Sl × List Int
def my(x:Bl):Value × Value:=(x.1,.slice x.2.1.a x.2.1.n x.2.1.c)
abbrev wV(x:Bl):LV:=[.int .i64 x.1,.slice x.2.1.a x.2.1.n x.2.1.c]
abbrev kb(x:Bl):kj:=(x.1,x.2.2)
structure D4(w:World)(x:Bl):Prop where
 o:oe 0 w x.2.1 x.2.2
 b:mK x.2.2
structure Dm where
 r:Nat
 ls:Sl
 E:List Bl
 W:List Bl
structure DO(w:World)(d:Nat)(m:Dm)(D:Dk):Prop where
 rd:Row w d [D.room,D.lk,D.wait,.map (some m.r),.slice m.ls.a m.ls.n m.ls.c] tq
 rm:bH GI w (some m.r) (m.E.map my)
 ol:ar 0 tW 2 w m.ls (m.W.map wV)
 sf:(m.E.map kb).Perm D.safe
 sl:m.W.map kb=D.l
 bl:∀x ∈ m.E++m.W,D4 w x
 ok:nT D
def dF(d:Nat)(m:Dm)(i:Nat):Prop:=i=d\/i=m.r\/m.ls.aX=some i\/∃x ∈ m.E++m.W,x.2.1.aX=some i
def DO.lt{w:World}{d:Nat}{m:Dm}{D:Dk}(h:DO w d m D){i:Nat}(hi:dF d m i):i<w:=by
 rcases hi with rfl|rfl|e|⟨x,hx,e⟩
 ·exact h.rd.lt
 ·exact h.rm.lt
 ·exact (h.ol.own.lt e).2
 ·exact ((h.bl x hx).o.own.lt e).2
def DO.same{w w':World}{d:Nat}{m:Dm}{D:Dk}(h:DO w d m D)(hs:∀i,dF d m i->w'.heap[i]? =w.heap[i]?):DO w' d m D:=
 ⟨h.rd.same (hs _ (.inl rfl)),h.rm.same (hs _ (.inr (.inl rfl))),ar.aW h.ol λb hb=>hs b (.inr (.inr (.inl hb))),h.sf,h.sl,λx hx=>⟨ar.aW (h.bl x hx).o λb hb=>hs b (.inr (.inr (.inr ⟨x,hx,hb⟩))),(h.bl x hx).b⟩,h.ok⟩
def DO.ext{w w':World}{d:Nat}{m:Dm}{D:Dk}(h:DO w d m D)(x:Ext w w'):DO w' d m D:=h.same λi hi=>x.heap (h.lt hi)
def DO.nW{w:World}{d:Nat}{m:Dm}{D:Dk}(h:DO w d m D):m.ls.n=m.W.length/\m.W.length=D.l.length:=by have h1:=(h.ol.rd aw).n;rw [aJ] at h1;exact ⟨h1,by rw [<-h.sl,aJ]⟩
def DO.kind{w:World}{d:Nat}{m:Dm}{D:Dk}(h:DO w d m D){i:Nat}(hi:dF d m i):bH GI w (some i) (m.E.map my)\/∃cs τ,Row w i cs τ/\(τ=tq\/τ=tW\/τ=jL):=by
 rcases hi with e|e|e|⟨x,hx,e⟩
 ·exact .inr ⟨_,_,e▸h.rd,.inl rfl⟩
 ·exact .inl (e▸h.rm)
 ·obtain ⟨cs,hr⟩:=aU h.ol aw e;exact .inr ⟨_,_,hr,.inr (.inl rfl)⟩
 ·obtain ⟨cs,hr⟩:=aU (h.bl x hx).o aw e;exact .inr ⟨_,_,hr,.inr (.inr rfl)⟩
def QJ(E:List Bl)(x:Bl):pf (E.map my) (x.1) (.slice x.2.1.a x.2.1.n x.2.1.c)=(Dy (λy:Bl=>y.1) E x).map my:=by
 have key:∀y:Bl,(my y).1=.int .i64 x.1 ↔ y.1=x.1:=λy=>by unfold my;simp
 have ex:(∃e ∈ E.map my,e.1=Value.int .i64 x.1) ↔ ∃y ∈ E,y.1=x.1:=by
  constructor
  ·rintro ⟨e,he,q⟩;obtain ⟨y,hy,rfl⟩:=bf.1 he;exact ⟨y,hy,(key y).1 q⟩
  ·rintro ⟨y,hy,q⟩;exact ⟨_,bf.2 ⟨y,hy,rfl⟩,(key y).2 q⟩
 unfold pf Dy;by_cases h:∃y ∈ E,y.1=x.1
 ·rw [if_pos (ex.2 h),if_pos h,pa,pa];refine yV λy _=> ?_
  simp only [Function.comp];by_cases q:y.1=x.1
  ·rw [if_pos ((key y).2 q),if_pos q];unfold my;rw [q]
  ·rw [if_neg λq'=>q ((key y).1 q'),if_neg q]
 ·rw [if_neg λq=>h (ex.1 q),if_neg h,bS];rfl
def Gz{l s:List kj}{k:Nat}{x:kj}(h:l[k]? =some x):(l.take (k+1)).foldl lay s=lay ((l.take k).foldl lay s) x:=by rw [dq,h,nk];rfl
def BS{w:World}{d:Nat}{m:Dm}{D:Dk}(h:DO w d m D)(hW:D.l.length<=1000000000):ae 333 #[d] w λe w'=>∃(r':Nat)(E':List Bl),e=Value.map (some r')/\bH GI w' (some r') (E'.map my)/\(E'.map kb).Perm (ud D)/\(∀x ∈ E',x ∈ m.E++m.W)/\Ext w w'/\w.heap.size<=r':=by
 apply IH.vc;obtain ⟨n1,n2⟩:=h.nW;refine ⟨some m.r,h.rd.at 3 rfl,(GA h.rm).mono ?_⟩;rintro e w1 ⟨rfl,hm,x1⟩;refine ⟨_,rfl,m.ls,(h.ext x1).rd.at 4 rfl,λn i wr=>∃(k:Nat)(E':List Bl),i=k/\k+n=m.W.length/\bH GI wr (some w.heap.size) (E'.map my)/\(E'.map kb).Perm ((D.l.take k).foldl lay D.safe)/\(∀x ∈ E',x ∈ m.E++m.W)/\Ext w wr,
  ⟨m.W.length,0,m.E,rfl,aa,hm,h.sf,λx hx=>dp.2 (.inl hx),x1⟩,?_⟩
 rintro n us i wr ⟨k,E',rfl,hk,hm,hp,dP,xr⟩;apply Br.mk<;>intro hc
 ·replace hc:=lT hc;obtain ⟨x,hx⟩:=bZ (l:=m.W) (i:=k) aa;have hr:=(h.ext xr).ol.rd (show 0<2 by decide);have Er:(m.W.map wV)[k]? =some (wV x):=by rw [aZ,hx];rfl
  have wk:=nJ (j:=k);have hl:D.l[k]? =some (kb x):=by rw [<-h.sl,aZ,hx];rfl
  refine ⟨dB.j2 hr aw aa hc,x.1,x.2.1,dB.bK hr Er,λbO uv bw Dv=> ?_⟩;have cN:Ext wr bw:=(aV uv).af Dv (ak _);refine ⟨GI,E'.map my,GD,rfl,hm.same (cN.heap hm.lt),⟨_,rfl⟩,λcp fQ asP=> ?_⟩;rw [QJ] at asP;refine ⟨n-1,aa,k+1,_,wk,aa,asP,?_,λy hy=> ?_,(Mod.pd fQ).ext (xr.tr cN) λi hi=>by rw [hi];exact ak _⟩
  ·rw [Gz hl];exact Pb (f:=λy:Bl=>y.1) (g:=λy:Bl=>y.2.2) x hp (u6 _ h.ok.nd)
  ·rcases Pa hy with rfl|hy
   ·exact dp.2 (.inr (aQ hx))
   ·exact dP y hy
 ·replace hc:=l6 hc;rw [dI aa] at hp;exact ⟨w.heap.size,E',rfl,hm,hp,dP,xr,ak _⟩
def adT(E:List Bl):((eA (E.map kb):Nat):Int)=(E.map λx=>(x.2.2.length:Int)).sum:=by
 induction E with
 |nil=>rfl
 |cons x t ih=>
  rw [eL,mw,eL,List.sum_cons,<-ih];have:(kb x).2.length=x.2.2.length:=rfl;omega
def QK{w:World}{r:Nat}{E:List Bl}(hm:bH GI w (some r) (E.map my))(hb:∀x ∈ E,D4 w x)(hn:eA (E.map kb)<=1099511627776):eU 346 #[.map (some r)] w (Value.int .i64 (eA (E.map kb):Nat)):=by
 obtain ⟨es,clock,h1,h2,h3,h4,h5,h6⟩:=hm;have hk:es.toList.map (·.key)=(E.map my).map (·.1):=by rw [<-h2,pa];rfl
 have hv:∀x ∈ es.toList,∃y ∈ E,x.val=.slice y.2.1.a y.2.1.n y.2.1.c:=λx hx=>by
  have:(x.key,x.val) ∈ E.map my:=by rw [<-h2];exact bf.2 ⟨x,hx,rfl⟩
  obtain ⟨y,hy,e⟩:=bf.1 this;refine ⟨y,hy,?_⟩;have:=congrArg Prod.snd e;exact this.symm
 have hs:(es.toList.map λx=>nOf x.val).sum=(eA (E.map kb):Nat):=by
  rw [adT];have e1:(es.toList.map λx=>nOf x.val)=(E.map my).map λe=>nOf e.2:=by rw [<-h2,pa];rfl
  rw [e1,pa];congr 1;refine yV λx hx=> ?_
  show ((x.2.1.n:Nat):Int)=_;rw [ji.n (oe.FD (hb x hx).o)]
 have gy:MapKept.Stamped es clock:=⟨h6,h5.imp λh=>Nat.ne_of_lt h,by rw [hk];exact h4⟩;refine (U7 r es clock w h1 gy (λx hx=>by obtain ⟨y,_,e⟩:=hv x hx;exact ⟨_,_,_,e⟩) (by rw [hs];omega)).mono ?_;rintro e w' ⟨rfl,w1,seen,⟨a1,a2,a3⟩,a4,rfl⟩;refine ⟨by rw [hs],?_⟩;have x1:Ext w w1:=⟨a2,a4,a3,by rw [a1];exact ak _,λi _=>by rw [a1]⟩;exact x1.ba rfl
def QL{E:List Bl}{s:List kj}(hp:(E.map kb).Perm s)(hn:(gW s).Nodup)(k:Int)(w:World)(hb:∀x ∈ E,D4 w x):∃(t:Sl)(b:Bool),Gn (E.map my) (k) (.slice none 0 0) (t) b/\oe 0 w t ((pr s k).getD [])/\mK ((pr s k).getD [])/\b=(pr s k).isSome:=by
 have fA:(gW (E.map kb)).Nodup:=(hp.map λx:kj=>x.1).nodup_iff.2 hn;rw [<-ZI hp fA]
 cases q:pr (E.map kb) k with
 |none=>
  refine ⟨⟨none,0,0⟩,false,.inr ⟨rfl,rfl,λe he=> ?_⟩,ar.nil,(λc hc=>by cases hc),rfl⟩;obtain ⟨x,hx,rfl⟩:=bf.1 he;have:=BT.1 q (kb x) (bf.2 ⟨x,hx,rfl⟩);unfold my;simpa using this
 |some b=>
  obtain ⟨x,hx,e⟩:=bf.1 ((BU fA).1 q);have e1:x.1=k:=congrArg Prod.fst e;have e2:x.2.2=b:=congrArg Prod.snd e;refine ⟨x.2.1,true,.inl ⟨rfl,bf.2 ⟨x,hx,by unfold my;rw [e1]⟩⟩,?_,?_,rfl⟩
  ·have:=(hb x hx).o;rw [e2] at this;exact this
  ·have:=(hb x hx).b;rw [e2] at this;exact this
def Xt{s:List kj}(hn:(gW s).Nodup)(k:Int):((pr s k).getD []).length<=eA s:=by have:=C9 hn k;omega
def ZJ{w:World}{d:Nat}{m:Dm}{D:Dk}(h:DO w d m D)(hW:D.l.length<=1000000000)(k:Int):ae 284 #[d,k] w λe w'=>∃(s:Sl)(b:Bool),e=Value.tuple #[s,b]/\oe w w' s (getD D k)/\mK (getD D k)/\(getD D k).length<=1048576/\Ext w w':=by
 apply IG.vc;refine (BS h hW).mono ?_;rintro e w0 ⟨r',E',rfl,hm,hp,dP,x0,hr⟩;have hb:∀x ∈ E',D4 w0 x:=λx hx=>(h.ext x0).bl x (dP x hx)
 obtain ⟨t,b,hl,ho,Wv,-⟩:=QL hp h.ok.now k w0 hb;have hle:=Xt h.ok.now k;have hnl:=h.ok.amh;have hrm:=h.ok.r;refine ⟨_,rfl,GI,_,GD,hm,⟨k,rfl⟩,t,b,hl,(qg t _ w0 (oe.FD ho) aa).mono ?_⟩;rintro e w6 ⟨s7,rfl,o7,x6⟩;refine ⟨s7,rfl,s7,b,rfl,ar.low o7 x0.size,Wv,?_,x0.tr x6⟩;show ((pr (ud D) k).getD []).length<=_;omega
def DO.row{w w':World}{d:Nat}{m:Dm}{D:Dk}(h:DO w d m D){F W:Int}(hm:Mod (λi=>i=d) w w')(hr:Row w' d [D.room,F,W,.map (some m.r),.slice m.ls.a m.ls.n m.ls.c] tq)(hok:nT {D with lk:=F,wait:=W}):DO w' d m {D with lk:=F,wait:=W}:=by
 refine ⟨hr,hm.map h.rm λe=>h.rd.fN h.rm e.symm,hm.dX h.ol λb hb e=> ?_,h.sf,h.sl,λx hx=>⟨hm.dX (h.bl x hx).o λb hb e=> ?_,(h.bl x hx).b⟩,hok⟩
 ·obtain ⟨cs,hr'⟩:=aU h.ol aw hb;exact hr'.ne h.rd aw e
 ·obtain ⟨cs,hr'⟩:=aU (h.bl x hx).o aw hb;exact hr'.ne h.rd aw e
def Da{w:World}{d:Nat}{m:Dm}{D:Dk}(h:DO w d m D):ae 345 #[d] w λe w'=>e=Value.bool (jT D).2/\DO w' d m (jT D).1/\Mod (λi=>i=d) w w':=by
 apply BV.vc;have hok:=h.ok.ask;have hw:=h.ok.w;have hf:=h.ok.f;refine ⟨D.wait,h.rd.at 2 rfl,Br.mk (λhc=> ?_) (λhc=> ?_)⟩
 ·simp only [gt_iff_lt,cL] at hc;have e:jT D=({D with wait:=0},false):=by unfold jT;rw [if_pos hc]
  have e1:aC (D.wait-1)=0:=by rw [wI];omega
  rw [e] at hok ⊢;obtain ⟨p1,p2⟩:=h.rd.fF (j:=2) (v:=.int .i64 0) bo rfl;refine ⟨_,h.rd.at 2 rfl,?_⟩;dsimp only;rw [e1];refine ⟨⟨rfl,p1⟩,λw2 e2=>⟨rfl,?_⟩⟩;obtain ⟨q1,q2⟩:=p2 w2 e2;exact ⟨h.row q2 q1 hok,q2⟩
 ·simp only [gt_iff_lt,fm] at hc;refine ⟨D.lk,h.rd.at 1 rfl,Br.mk (λnG=> ?_) (λnG=> ?_)⟩
  ·simp only [gt_iff_lt,cL] at nG;have e:jT D=({D with lk:=D.lk-1},true):=by unfold jT;rw [if_neg hc,if_pos nG]
   rw [e] at hok ⊢;obtain ⟨p1,p2⟩:=h.rd.fF (j:=1) (v:=.int .i64 (aC (D.lk-1))) bo rfl;refine ⟨_,h.rd.at 1 rfl,⟨rfl,p1⟩,λw2 e2=>⟨by rw [decide_eq_true nG],?_⟩⟩;obtain ⟨q1,q2⟩:=p2 w2 e2;have e1:aC (D.lk-1)=D.lk-1:=wI;rw [e1] at q1;exact ⟨h.row q2 q1 hok,q2⟩
  ·simp only [gt_iff_lt,fm] at nG;have e:jT D=(D,false):=by unfold jT;rw [if_neg hc,if_neg nG]
   rw [e];exact ⟨by rw [decide_eq_false nG],h,Mod.refl _ _⟩
def FT{w:World}{p:Option Addr}{v:Value}(h:ld w p=some v):ah w p 0 [v]:=by show ld w (ab p 0)=_;rw [fG];exact h
def ad7(k:Int)(a:Option Addr)(n c:Nat):One [Value.int .i64 k,Value.slice a n c]:=by intro v hv;simp at hv;rcases hv with rfl|rfl<;>rfl
def Xv(D:Dk):ud (jT D).1=ud D:=by obtain ⟨e1,e2,-⟩:=jw D;unfold ud;rw [e1,e2]
def DO.aky{w:World}{d:Nat}{m:Dm}{D:Dk}(h:DO w d m D):∀b,m.ls.aX=some b->b≠d:=λb hb=>by
 obtain ⟨cs,hr⟩:=aU h.ol aw hb
 exact hr.ne h.rd aw
def amj(w:World)(d:Nat)(m:Dm)(D:Dk)(w':World):Prop:=∃m',DO w' d m' D/\Mod (λi=>i=d\/m.ls.aX=some i) w w'/\(∀i,dF d m' i->dF d m i\/w.heap.size<=i)/\∀i,m'.ls.aX=some i->m.ls.aX=some i\/w.heap.size<=i
def ZU{w:World}{d:Nat}{m:Dm}{D:Dk}(h:DO w d m D)(hW:D.l.length<=1000000000)(key:Int)(s:Sl)(b:List Int)(hs:ji w s b)(hb:mK b)(hn:b.length<=1099511627776)(hsd:s.aX≠some d):
  ae 293 #[d,key,s] w λe w'=>e=Value.int .i64 (kV D key b).2/\amj w d m (kV D key b).1 w':=by
 apply (IU.vc (a2:=s));have tL:=ji.n hs;refine (Da h).mono ?_;rintro e w0 ⟨rfl,h0,m0⟩;have z0:=m0.size;have m0':Mod (λi=>i=d\/m.ls.aX=some i) w w0:=m0.mono λi _ hi=> .inl hi
 refine ⟨_,rfl,Br.mk (λhf=> ?_) (λhf=> ?_)⟩
 ·have e:kV D key b=((jT D).1,9):=by unfold kV;rw [if_pos hf]
  rw [e];exact ⟨rfl,m,h0,m0',λi hi=> .inl hi,λi hi=> .inl hi⟩
 obtain ⟨e1,e2,e3⟩:=jw D;have Fc:ji w0 s b:=m0.rdK aw hs λ_ g hg e=>hsd (e▸hg)
 refine (BS h0 (by rw [e2];exact hW)).mono ?_;rintro e w2 ⟨r',E',rfl,Er,hp,dP,x2,hr'⟩;rw [Xv] at hp;have hnd:=h.ok.now;have hnl:=h.ok.amh;have hrm:=h.ok.r;have hbE:∀x ∈ E',D4 w2.drew x:=λx hx=>(h0.ext (x2.tr (Ext.dr w2))).bl x (dP x hx)
 have ajW:bH GI w2.drew (some r') (E'.map my):=Er.same ((Ext.dr w2).heap Er.lt);obtain ⟨t,tb,hl,hto,htb,-⟩:=QL hp hnd key w2.drew hbE;have htn:=ji.n (oe.FD hto);have hll:=GW hnd (key,b);have hlE:eA (E'.map kb)=eA (ud D):=B6 hp;simp only at hll;have hg:((pr (ud D) key).getD []).length<=eA (ud D):=Xt hnd key;rw [<-htn] at hll hg;have wl:aC (((eA (E'.map kb):Nat):Int)-((t.n:Nat):Int))=((eA (ud D):Nat):Int)-t.n:=by rw [hlE,wI]
 have wr:aC (D.room-((s.n:Nat):Int))=D.room-s.n:=wI;have hd0:∀{v:World},Ext w0 v->ld v (ab (aB d) 0)=some (.int .i64 D.room):=λx=>by have:=(h0.ext x).rd.at 0 rfl;rw [e3] at this;exact this
 have x2d:=x2.tr (Ext.dr w2);have Wv:=QK (w:=w2.drew) ajW hbE (by rw [hlE];omega);refine ⟨_,rfl,D.room,hd0 x2d,?_,?_⟩
 ·refine Wv.bj λv xv=> ?_
  have xv0:=x2d.tr xv;refine ⟨_,rfl,FT (hd0 xv0),GI,_,GD,ajW.same (xv.heap ajW.lt),⟨key,rfl⟩,t,tb,hl,FT (hd0 xv0),?_⟩;rw [wl,wr];apply Br.mk<;>intro hc
  ·simp only [gt_iff_lt,cL] at hc;have e:kV D key b=((jT D).1,8):=by unfold kV;rw [if_neg (by rw [hf];decide),if_pos aa]
   rw [e];have zv:=xv0.size;exact ⟨rfl,m,h0.ext xv0,m0'.trans (Mod.aq xv0),λi hi=> .inl hi,λi hi=> .inl hi⟩
  ·simp only [gt_iff_lt,fm] at hc;have e:kV D key b=({(jT D).1 with l:=D.l++ [(key,b)]},0):=by unfold kV;rw [if_neg (by rw [hf];decide),if_neg aa]
   have hok:=h.ok.put key b;rw [e] at hok ⊢;have xvd:=xv0.tr (Ext.dr v);refine ⟨m.ls,(h0.ext xvd).rd.at 4 rfl,(qg s b v.drew (Fc.ext xvd) hn).mono ?_⟩;rintro e bO ⟨kO,rfl,o13,cw⟩;have HW:=xvd.tr cw;have wo:=h0.ext HW;obtain ⟨n1,n2⟩:=wo.nW;rw [e2] at n2;refine ⟨kO,rfl,FT (wo.rd.at 4 rfl),λcu yw=> ?_⟩;subst yw;obtain ⟨Ww,bq⟩:=ar.kU wo.ol (bytes:=32) (news:=wV (key,kO,b)) (.cells #[key,kO] tW) (dU _) rfl (ad7 _ _ _ _) aa aa;refine ⟨Ww,λoI cp hr=> ?_⟩;obtain ⟨f1,agE,azl,xb,EE,iN⟩:=bq oI cp hr;have m16:Mod (λj=>m.ls.aX=some j) bO cp:=Mod.xi xb EE;have Oq:=m16.row wo.rd λq=>wo.aky _ q rfl
   obtain ⟨p1,p2⟩:=Oq.fF (j:=4) (v:=.slice oI.a oI.n oI.c) bo rfl;have z12:=HW.size;have hdl:=h.rd.lt;refine ⟨f1,⟨rfl,p1⟩,λq=> ?_,λcM uq=>⟨rfl,{m with ls:=oI,W:=m.W++ [(key,kO,b)]},?_,?_,?_,?_⟩⟩
   ·rw [cB] at q;have:d=bO.heap.size:=by simpa [bN] using q
    omega
   ·obtain ⟨q1,q2⟩:=p2 cM uq;have mm:Mod (λj=>j=d\/m.ls.aX=some j) bO cM:=(m16.mono λi _ hi=> .inr hi).trans (q2.mono λi _ hi=> .inl hi);have off:∀{g:Nat} {cs:LV} {τ:TypeId},Row bO g cs τ->τ≠tq->τ≠tW->¬(g=d\/m.ls.aX=some g):=λhr' t1 t2 q=>by
     rcases q with q|q
     ·exact hr'.ne wo.rd t1 q
     ·obtain ⟨cs',jY⟩:=aU wo.ol aw q;exact hr'.ne jY t2 rfl
    refine ⟨q1,mm.map wo.rm λq=> ?_,?_,wo.sf,?_,λx hx=> ?_,hok⟩
    ·rcases q with q|q
     ·exact wo.rd.fN wo.rm q.symm
     ·obtain ⟨cs',jY⟩:=aU wo.ol aw q;exact jY.fN wo.rm rfl
    ·show ar 0 tW 2 cM oI ((m.W++ [(key,kO,b)]).map wV);rw [bS];refine q2.dX agE λg hg=> ?_
     obtain ⟨cs',jY⟩:=aU agE aw hg;exact jY.ne Oq aw
    ·show (m.W++ [(key,kO,b)]).map kb=D.l++ [(key,b)];rw [bS,h.sl];rfl
    ·have hx:x ∈ m.E++m.W\/x=(key,kO,b):=by
      simp only [dp,cj,iY,or_false] at hx ⊢;rcases hx with hx|hx|hx
      ·exact .inl (.inl hx)
      ·exact .inl (.inr hx)
      ·exact .inr hx
     have EH:D4 bO x:=by
      rcases hx with hx|rfl
      ·exact wo.bl x hx
      ·exact ⟨ar.low o13 (dU _),hb⟩
     refine ⟨mm.dX EH.o λg hg=> ?_,EH.b⟩;obtain ⟨cs',jY⟩:=aU EH.o aw hg;exact off jY aw aw
   ·obtain ⟨q1,q2⟩:=p2 cM uq;refine (m0'.trans (Mod.aq HW)).trans ((m16.mono λi _ hi=> .inr hi).trans (q2.mono λi _ hi=> .inl hi))
   ·rintro i (q|q|q|⟨x,hx,q⟩)
    ·exact .inl (.inl q)
    ·exact .inl (.inr (.inl q))
    ·rcases iN with q'|q'
     ·exact .inl (.inr (.inr (.inl (by rw [<-q'];exact q))))
     ·rw [q'] at q;cases q;exact .inr aa
    ·simp only [dp,cj,iY,or_false] at hx;rcases hx with hx|hx|rfl
     ·exact .inl (.inr (.inr (.inr ⟨x,dp.2 (.inl hx),q⟩)))
     ·exact .inl (.inr (.inr (.inr ⟨x,dp.2 (.inr hx),q⟩)))
     ·have:=(o13.own.lt q).1;have zv:=xvd.size;exact .inr aa
   ·intro i q;rcases iN with q'|q'
    ·exact .inl (by rw [<-q'];exact q)
    ·have q:oI.aX=some i:=q;rw [q'] at q;cases q;exact .inr aa
 ·refine ⟨GI,_,GD,ajW,⟨key,rfl⟩,t,tb,hl,FT (hd0 x2d),Wv.bj λv xv=> ?_⟩;have xv0:=x2d.tr xv;refine ⟨_,rfl,FT (hd0 xv0),?_⟩;rw [wl,wr];apply Br.mk<;>intro hc
  ·simp only [gt_iff_lt,cL] at hc;have e:kV D key b=((jT D).1,8):=by unfold kV;rw [if_neg (by rw [hf];decide),if_pos aa]
   rw [e];have zv:=xv0.size;exact ⟨rfl,m,h0.ext xv0,m0'.trans (Mod.aq xv0),λi hi=> .inl hi,λi hi=> .inl hi⟩
  ·simp only [gt_iff_lt,fm] at hc;have e:kV D key b=({(jT D).1 with l:=D.l++ [(key,b)]},0):=by unfold kV;rw [if_neg (by rw [hf];decide),if_neg aa]
   have hok:=h.ok.put key b;rw [e] at hok ⊢;have xvd:=xv0.tr (Ext.dr v);refine ⟨m.ls,(h0.ext xvd).rd.at 4 rfl,(qg s b v.drew (Fc.ext xvd) hn).mono ?_⟩;rintro e bO ⟨kO,rfl,o13,cw⟩;have HW:=xvd.tr cw;have wo:=h0.ext HW;obtain ⟨n1,n2⟩:=wo.nW;rw [e2] at n2;refine ⟨kO,rfl,FT (wo.rd.at 4 rfl),λcu yw=> ?_⟩;subst yw;obtain ⟨Ww,bq⟩:=ar.kU wo.ol (bytes:=32) (news:=wV (key,kO,b)) (.cells #[key,kO] tW) (dU _) rfl (ad7 _ _ _ _) aa aa;refine ⟨Ww,λoI cp hr=> ?_⟩;obtain ⟨f1,agE,azl,xb,EE,iN⟩:=bq oI cp hr;have m16:Mod (λj=>m.ls.aX=some j) bO cp:=Mod.xi xb EE;have Oq:=m16.row wo.rd λq=>wo.aky _ q rfl
   obtain ⟨p1,p2⟩:=Oq.fF (j:=4) (v:=.slice oI.a oI.n oI.c) bo rfl;have z12:=HW.size;have hdl:=h.rd.lt;refine ⟨f1,⟨rfl,p1⟩,λq=> ?_,λcM uq=>⟨rfl,{m with ls:=oI,W:=m.W++ [(key,kO,b)]},?_,?_,?_,?_⟩⟩
   ·rw [cB] at q;have:d=bO.heap.size:=by simpa [bN] using q
    omega
   ·obtain ⟨q1,q2⟩:=p2 cM uq;have mm:Mod (λj=>j=d\/m.ls.aX=some j) bO cM:=(m16.mono λi _ hi=> .inr hi).trans (q2.mono λi _ hi=> .inl hi);have off:∀{g:Nat} {cs:LV} {τ:TypeId},Row bO g cs τ->τ≠tq->τ≠tW->¬(g=d\/m.ls.aX=some g):=λhr' t1 t2 q=>by
     rcases q with q|q
     ·exact hr'.ne wo.rd t1 q
     ·obtain ⟨cs',jY⟩:=aU wo.ol aw q;exact hr'.ne jY t2 rfl
    refine ⟨q1,mm.map wo.rm λq=> ?_,?_,wo.sf,?_,λx hx=> ?_,hok⟩
    ·rcases q with q|q
     ·exact wo.rd.fN wo.rm q.symm
     ·obtain ⟨cs',jY⟩:=aU wo.ol aw q;exact jY.fN wo.rm rfl
    ·show ar 0 tW 2 cM oI ((m.W++ [(key,kO,b)]).map wV);rw [bS];refine q2.dX agE λg hg=> ?_
     obtain ⟨cs',jY⟩:=aU agE aw hg;exact jY.ne Oq aw
    ·show (m.W++ [(key,kO,b)]).map kb=D.l++ [(key,b)];rw [bS,h.sl];rfl
    ·have hx:x ∈ m.E++m.W\/x=(key,kO,b):=by
      simp only [dp,cj,iY,or_false] at hx ⊢;rcases hx with hx|hx|hx
      ·exact .inl (.inl hx)
      ·exact .inl (.inr hx)
      ·exact .inr hx
     have EH:D4 bO x:=by
      rcases hx with hx|rfl
      ·exact wo.bl x hx
      ·exact ⟨ar.low o13 (dU _),hb⟩
     refine ⟨mm.dX EH.o λg hg=> ?_,EH.b⟩;obtain ⟨cs',jY⟩:=aU EH.o aw hg;exact off jY aw aw
   ·obtain ⟨q1,q2⟩:=p2 cM uq;refine (m0'.trans (Mod.aq HW)).trans ((m16.mono λi _ hi=> .inr hi).trans (q2.mono λi _ hi=> .inl hi))
   ·rintro i (q|q|q|⟨x,hx,q⟩)
    ·exact .inl (.inl q)
    ·exact .inl (.inr (.inl q))
    ·rcases iN with q'|q'
     ·exact .inl (.inr (.inr (.inl (by rw [<-q'];exact q))))
     ·rw [q'] at q;cases q;exact .inr aa
    ·simp only [dp,cj,iY,or_false] at hx;rcases hx with hx|hx|rfl
     ·exact .inl (.inr (.inr (.inr ⟨x,dp.2 (.inl hx),q⟩)))
     ·exact .inl (.inr (.inr (.inr ⟨x,dp.2 (.inr hx),q⟩)))
     ·have:=(o13.own.lt q).1;have zv:=xvd.size;exact .inr aa
   ·intro i q;rcases iN with q'|q'
    ·exact .inl (by rw [<-q'];exact q)
    ·have q:oI.aX=some i:=q;rw [q'] at q;cases q;exact .inr aa
def VY{w:World}{d:Nat}{m:Dm}{D:Dk}(h:DO w d m D)(hW:D.l.length<=1000000000):
  ae 294 #[d] w λe w'=>e=Value.int .i64 (od D).2/\amj w d m (od D).1 w':=by
 apply Hh.vc;refine (Da h).mono ?_;rintro e w0 ⟨rfl,h0,m0⟩;have z0:=m0.size;have m0':Mod (λi=>i=d\/m.ls.aX=some i) w w0:=m0.mono λi _ hi=> .inl hi
 have hok:=h.ok.sync;obtain ⟨e1,e2,e3⟩:=jw D;refine ⟨_,rfl,Br.mk (λhf=> ?_) (λhf=> ?_)⟩
 ·have e:od D=((jT D).1,9):=by unfold od;rw [if_pos hf]
  rw [e];exact ⟨rfl,m,h0,m0',λi hi=> .inl hi,λi hi=> .inl hi⟩
 ·have e:od D=({(jT D).1 with safe:=ud D,l:=[]},0):=by unfold od;rw [if_neg (by rw [hf];decide)]
  rw [e] at hok ⊢;refine (BS h0 (by rw [e2];exact hW)).mono ?_;rintro e w2 ⟨r',E',rfl,Er,hp,dP,x2,hr'⟩;rw [Xv] at hp;have h2:=h0.ext x2;have z2:=x2.size;have hdl:=h.rd.lt;obtain ⟨p1,p2⟩:=h2.rd.fF (j:=3) (v:=.map (some r')) bo rfl;refine ⟨_,rfl,⟨rfl,p1⟩,λw4 e4=> ?_⟩;obtain ⟨q1,q2⟩:=p2 w4 e4;obtain ⟨p3,p4⟩:=q1.fF (j:=4) (v:=.slice none 0 0) (show 4<5 by decide) rfl;refine ⟨⟨rfl,p3⟩,λw5 e5=>⟨rfl,⟨r',⟨none,0,0⟩,E',[]⟩,?_,?_,?_,λi q=>by cases q⟩⟩
  ·obtain ⟨q3,q4⟩:=p4 w5 e5;have mm:=q2.trans q4;refine ⟨q3,mm.map Er λq=>h2.rd.fN Er q.symm,ar.nil,hp,rfl,λx hx=> ?_,hok⟩;have hx':x ∈ E':=by simpa using hx
   have EH:=h2.bl x (dP x hx');refine ⟨mm.dX EH.o λg hg=> ?_,EH.b⟩;obtain ⟨cs',jY⟩:=aU EH.o aw hg;exact jY.ne h2.rd aw
  ·obtain ⟨q3,q4⟩:=p4 w5 e5;exact (m0'.trans (Mod.aq x2)).trans ((q2.trans q4).mono λi _ hi=> .inl hi)
  ·rintro i (q|q|q|⟨x,hx,q⟩)
   ·exact .inl (.inl q)
   ·exact .inr (by rw [q];show _<=r';omega)
   ·cases q
   ·have hx':x ∈ E':=by simpa using hx
    exact .inl (.inr (.inr (.inr ⟨x,dP x hx',q⟩)))
def Vf{w:World}{d:Nat}{m:Dm}{D:Dk}(h:DO w d m D){n:Int}(hn:cT n):
  ae 122 #[d,n] w λe w'=>e=pH/\DO w' d m (ov D n)/\Mod (λi=>i=d) w w':=by
 apply Hl.vc;have hok:=h.ok.fail hn;obtain ⟨p1,p2⟩:=h.rd.fF (j:=1) (v:=.int .i64 n) bo rfl;refine ⟨⟨rfl,p1⟩,λw0 e0=> ?_⟩;obtain ⟨q1,q2⟩:=p2 w0 e0;obtain ⟨p3,p4⟩:=q1.fF (j:=2) (v:=.int .i64 0) (show 2<5 by decide) rfl;refine ⟨⟨rfl,p3⟩,λw1 e1=> ?_⟩;obtain ⟨q3,q4⟩:=p4 w1 e1;have m1:=q2.trans q4;unfold cT at hn;apply Br.mk<;>intro hc
 ·replace hc:=lT hc;have e:ov D n={D with lk:=min (-n) 1048576,wait:=1}:=by unfold ov;rw [if_pos hc]
  have e2:aC (0-(if (-1048576)>n then (-1048576) else n))=min (-n) 1048576:=by rw [aK (by unfold cT;split<;>omega)];split<;>omega
  rw [e2];rw [e] at hok ⊢;obtain ⟨p5,p6⟩:=q3.fF (j:=1) (v:=.int .i64 (min (-n) 1048576)) (show 1<5 by decide) rfl;refine ⟨⟨rfl,p5⟩,λw2 e2=> ?_⟩;obtain ⟨q5,q6⟩:=p6 w2 e2;obtain ⟨p7,p8⟩:=q5.fF (j:=2) (v:=.int .i64 1) (show 2<5 by decide) rfl;refine ⟨⟨rfl,p7⟩,λw3 e3=> ?_⟩;obtain ⟨q7,q8⟩:=p8 w3 e3;have m3:=m1.trans (q6.trans q8);exact ⟨rfl,h.row m3 q7 hok,m3⟩
 ·replace hc:=l6 hc;have e:ov D n={D with lk:=n,wait:=0}:=by unfold ov;rw [if_neg hc]
  rw [e] at hok ⊢;exact ⟨rfl,h.row m1 q3 hok,m1⟩
def N2(l:List kj)(k:Nat):eA (l.take k)<=eA l:=by have:=Sr (l.take k) (l.drop k);rw [tn] at this;omega
def aaY{l:List kj}{k:Nat}{x:kj}(h:l[k]? =some x):eA (l.take (k+1))=eA (l.take k)+x.2.length:=by rw [dq,h,Sr];rfl
def HK{w:World}{d:Nat}{m:Dm}{D:Dk}(h:DO w d m D)(hW:D.l.length<=1000000000)(hL:eA D.l<=1099511627776):
  eU 303 #[d] w (Value.int .i64 (eA D.l:Nat)):=by
 apply Hk.vc;obtain ⟨n1,n2⟩:=h.nW;refine ⟨m.ls,h.rd.at 4 rfl,λn i c wr=>∃k:Nat,i=k/\k+n=m.W.length/\c=(eA (D.l.take k):Nat)/\Ext w wr,⟨m.W.length,0,rfl,aa,rfl,Ext.bU _⟩,?_⟩;rintro n us i c wr ⟨k,rfl,hk,rfl,xr⟩;apply Br.mk<;>intro hc
 ·replace hc:=lT hc;obtain ⟨x,hx⟩:=bZ (l:=m.W) (i:=k) aa;have hr:=(h.ext xr).ol.rd (show 0<2 by decide);have Er:(m.W.map wV)[k]? =some (wV x):=by rw [aZ,hx];rfl
  have wk:=nJ (j:=k);have hl:D.l[k]? =some (kb x):=by rw [<-h.sl,aZ,hx];rfl
  have hxn:=ji.n (oe.FD (h.bl x (dp.2 (.inr (aQ hx)))).o);have gy:=aaY hl;have hle:=N2 D.l (k+1);have e2:(kb x).2.length=x.2.2.length:=rfl;refine ⟨dB.j2 hr aw aa hc,x.1,x.2.1,dB.bK hr Er,λbO uv bw Dv=> ?_⟩;have cN:Ext wr bw:=(aV uv).af Dv (ak _);refine ⟨n-1,aa,k+1,wk,aa,?_,xr.tr cN⟩;rw [wI];omega
 ·replace hc:=l6 hc;rw [dI aa];exact ⟨rfl,xr⟩
def ar.awc{B E k:Nat}{w:World}{s:Sl}{rows:List (LV)}(h:ar B E k w s rows)(hk:0<k){m:Nat}(hm:m<=rows.length)(c':Nat):ar B E k w ⟨aE s.a 0 c' k,m,s.c⟩ (rows.take m):=by
 rw [dw];rcases h.form hk with ⟨rfl,rfl⟩|⟨g,cs,ha,hg,hr,hc,hn,ht,hl⟩
 ·have:m=0:=by simpa using hm
  subst this;exact .nil
 ·rw [ha];have h1:m*k<=s.n*k:=qW _ aa;refine ar.jU hg hr hc aa ?_ (λr hr=>h.wd r (og hr));have e1:cs.take (m*k)=(cs.take (s.n*k)).take (m*k):=by rw [List.take_take,Nat.min_eq_left h1]
  rw [e1,ht,sD m h.wd]
def VZ{n:Int}{s:List kj}{l:List kj}{k:Nat}{x:kj}(h:l[k]? =some x):mD n s (l.drop k)=if (x.2.length:Int)<=n then mD (n-x.2.length) (lay s x) (l.drop (k+1)) else lay s (x.1,x.2.take n.toNat):=by have hk:=(cP.1 h);rw [wN hk.1,hk.2];rfl
def QU{w:World}{d:Nat}{m:Dm}{D:Dk}(h:DO w d m D)(hW:D.l.length<=1000000000)(hL:eA D.l<=1099511627776)(aW:Int):
  ae 247 #[d,aW] w λe w'=>e=Value.int .i64 (cA D aW).2/\∃m',DO w' d m' (cA D aW).1/\Mod (λi=>i=d\/i=m.r) w w'/\(∀i,dF d m' i->dF d m i\/w.heap.size<=i):=by
 apply Ee.vc;have hok:=h.ok.Dj aW;refine (HK h hW hL).bj λw0 x0=> ?_
 refine ⟨_,rfl,(HK (h.ext x0) hW hL).bj λw2 x2=> ?_⟩;have yq:=x0.tr x2;have h2:=h.ext yq;obtain ⟨n1,n2⟩:=h.nW;have TP:(if ((eA D.l:Nat):Int)<(if 0>aW then 0 else aW) then ((eA D.l:Nat):Int) else (if 0>aW then 0 else aW))=nu D aW:=by unfold nu;split<;>split<;>omega
 have hk0:0<=nu D aW/\nu D aW<=eA D.l:=by unfold nu;omega
 have hlost:aC (((eA D.l:Nat):Int)-nu D aW)=(cA D aW).2:=by unfold cA;rw [wI]
 have hdl:=h.rd.lt;have hrl:=h.rm.lt;have gl:m.r≠d:=λq=>h.rd.fN h.rm q.symm
 refine ⟨_,rfl,m.ls,h2.rd.at 4 rfl,?_⟩;rw [TP,hlost];refine ⟨λn i c wr=>∃(k:Nat)(E':List Bl)(s:List kj),i=k/\k+n=m.W.length/\0<=c/\c<=eA D.l/\bH GI wr (some m.r) (E'.map my)/\(E'.map kb).Perm s/\(gW s).Nodup/\mD c s (D.l.drop k)=mD (nu D aW) D.safe D.l/\
  (∀x ∈ E',D4 wr x/\∀b,x.2.1.aX=some b->∃y ∈ m.E++m.W,y.2.1.aX=some b)/\Mod (λi=>i=m.r) w2 wr,
  ⟨m.W.length,0,m.E,D.safe,rfl,aa,hk0.1,hk0.2,h2.rm,h.sf,h.ok.nd,by rw [List.drop_zero],λx hx=>⟨h2.bl x (dp.2 (.inl hx)),λb hb=>⟨x,dp.2 (.inl hx),hb⟩⟩,Mod.refl _ _⟩,?_⟩
 rintro n6 us i c bc ⟨k,E',s,rfl,hk,Eo,hcl,hm,hp,hnd,Tz,kE,mr⟩;have z2:=yq.size;have z10:=mr.size;have off:∀{u v:World} {g:Nat} {cs:LV} {τ:TypeId},bH GI u (some m.r) (E'.map my)->Row u g cs τ->¬g=m.r:=λhm' hr' q=>hr'.fN hm' q
 have aAY:=mr.row h2.rd (λq=>gl q.symm);have aAZ:∀b,m.ls.aX=some b->¬b=m.r:=λb hb q=>by obtain ⟨cs',jY⟩:=aU h.ol aw hb;exact jY.fN h.rm q
 have aA0:ar 0 tW 2 bc m.ls (m.W.map wV):=mr.dX h2.ol aAZ;have fin:∀{u:World} {E1:List Bl} {s1:List kj},Mod (λi=>i=m.r) w2 u->bH GI u (some m.r) (E1.map my)->(E1.map kb).Perm s1->s1=mD (nu D aW) D.safe D.l->(∀x ∈ E1,D4 u x/\∀b,x.2.1.aX=some b->∃y ∈ m.E++m.W,y.2.1.aX=some b)->
   Wr u (ab (aB d) 4) 1/\∀u1,u1=bC u (ab (aB d) 4) [.slice none 0 0]->Wr u1 (ab (aB d) 1) 1/\∀u2,u2=bC u1 (ab (aB d) 1) [ai]->Wr u2 (ab (aB d) 2) 1/\∀u3,u3=bC u2 (ab (aB d) 2) [ai]->
    Ending.returned (.int .i64 (cA D aW).2)=Value.int .i64 (cA D aW).2/\∃m',DO u3 d m' (cA D aW).1/\Mod (λi=>i=d\/i=m.r) w u3/\(∀i,dF d m' i->dF d m i\/w.heap.size<=i):=by
  intro u E1 s1 mu hmu hpu hsu hbu;have rdu:=mu.row h2.rd (λq=>gl q.symm);obtain ⟨p1,p2⟩:=rdu.fF (j:=4) (v:=.slice none 0 0) bo rfl;refine ⟨p1,λu1 eu1=> ?_⟩;obtain ⟨q1,q2⟩:=p2 u1 eu1;obtain ⟨p3,p4⟩:=q1.fF (j:=1) (v:=.int .i64 0) (show 1<5 by decide) rfl;refine ⟨p3,λu2 eu2=> ?_⟩;obtain ⟨q3,q4⟩:=p4 u2 eu2;obtain ⟨p5,p6⟩:=q3.fF (j:=2) (v:=.int .i64 0) (show 2<5 by decide) rfl;refine ⟨p5,λu3 eu3=>⟨rfl,⟨m.r,⟨none,0,0⟩,E1,[]⟩,?_,?_,?_⟩⟩
  ·obtain ⟨q5,q6⟩:=p6 u3 eu3;have mm:=(q2.trans q4).trans q6;refine ⟨q5,mm.map hmu gl,ar.nil,(by rw [hsu] at hpu;exact hpu),rfl,λx hx=> ?_,hok⟩;have hx':x ∈ E1:=by simpa using hx
   have EH:=(hbu x hx').1;refine ⟨mm.dX EH.o λg hg=> ?_,EH.b⟩;obtain ⟨cs',jY⟩:=aU EH.o aw hg;exact jY.ne rdu aw
  ·obtain ⟨q5,q6⟩:=p6 u3 eu3;exact ((Mod.aq yq).trans (mu.mono λi _ hi=> .inr hi)).trans (((q2.trans q4).trans q6).mono λi _ hi=> .inl hi)
  ·rintro i (q|q|q|⟨x,hx,q⟩)
   ·exact .inl (.inl q)
   ·exact .inl (.inr (.inl q))
   ·cases q
   ·have hx':x ∈ E1:=by simpa using hx
    obtain ⟨y,hy,qy⟩:=(hbu x hx').2 i q;exact .inl (.inr (.inr (.inr ⟨y,hy,qy⟩)))
 apply Br.mk<;>intro hc
 ·replace hc:=lT hc;obtain ⟨x,hx⟩:=bZ (l:=m.W) (i:=k) aa;have hr:=aA0.rd (show 0<2 by decide);have Er:(m.W.map wV)[k]? =some (wV x):=by rw [aZ,hx];rfl
  have wk:=nJ (j:=k);have hl:D.l[k]? =some (kb x):=by rw [<-h.sl,aZ,hx];rfl
  have hxm:x ∈ m.E++m.W:=dp.2 (.inr (aQ hx));have EH:=h2.bl x hxm;have hbx10:oe 0 bc x.2.1 x.2.2:=mr.dX EH.o λb hb q=>by obtain ⟨cs',jY⟩:=aU EH.o aw hb;exact jY.fN h2.rm q
  have hxn:=ji.n (oe.FD EH.o);have hxc:=ar.le EH.o;have ti:=VZ (n:=c) (s:=s) hl;have e2:(kb x).2=x.2.2:=rfl;have e3:(kb x).1=x.1:=rfl;rw [e2,e3] at ti;refine ⟨dB.j2 hr aw aa hc,x.1,x.2.1,dB.bK hr Er,λcu yw dj pJ=> ?_⟩;have dm:Ext bc dj.drew:=((aV yw).af pJ (ak _)).drew;have atV:=hm.same (dm.heap hm.lt);have hbl15:∀y ∈ E',D4 dj.drew y/\∀b,y.2.1.aX=some b->∃z ∈ m.E++m.W,z.2.1.aX=some b:=λy hy=>⟨⟨(kE y hy).1.o.ext dm,(kE y hy).1.b⟩,(kE y hy).2⟩
  have aA1:=mr.trans (Mod.aq dm:Mod (λi=>i=m.r) bc dj.drew);obtain ⟨q,hq,hqn⟩:∃q:Nat,(if c<((x.2.1.n:Nat):Int) then c else ((x.2.1.n:Nat):Int))=q/\q=min c.toNat x.2.2.length:=by refine ⟨min c.toNat x.2.2.length,?_,rfl⟩;split<;>omega
  rw [hq];refine ⟨_,(aAY.ext dm).at 3 rfl,aa,aa,GI,E'.map my,GD,rfl,atV,⟨_,rfl⟩,λeQ fQ agS=> ?_⟩;have ecut:(Value.slice (aE x.2.1.a 0 x.2.1.c 1) (((q:Nat):Int).toNat-0) (x.2.1.c-0))=.slice (aE x.2.1.a 0 x.2.1.c 1) q x.2.1.c:=rfl;rw [ecut] at agS;have hE:pf (E'.map my) (.int .i64 x.1) (.slice (aE x.2.1.a 0 x.2.1.c 1) q x.2.1.c)=(Dy (λy:Bl=>y.1) E' (x.1,⟨aE x.2.1.a 0 x.2.1.c 1,q,x.2.1.c⟩,x.2.2.take q)).map my:=QJ E' (x.1,⟨aE x.2.1.a 0 x.2.1.c 1,q,x.2.1.c⟩,x.2.2.take q);rw [hE] at agS;have m19:Mod (λi=>i=m.r) dj.drew eQ:=Mod.pd fQ;have atW:=aA1.trans m19
  have apn:((Dy (λy:Bl=>y.1) E' (x.1,⟨aE x.2.1.a 0 x.2.1.c 1,q,x.2.1.c⟩,x.2.2.take q)).map kb).Perm (lay s (x.1,x.2.2.take q)):=
   Pb (f:=λy:Bl=>y.1) (g:=λy:Bl=>y.2.2) (x.1,⟨aE x.2.1.a 0 x.2.1.c 1,q,x.2.1.c⟩,x.2.2.take q) hp hnd
  have iN:(Sl.mk (aE x.2.1.a 0 x.2.1.c 1) q x.2.1.c).aX=x.2.1.aX:=by rw [dw];rfl
  have hbl19:∀y ∈ Dy (λy:Bl=>y.1) E' (x.1,⟨aE x.2.1.a 0 x.2.1.c 1,q,x.2.1.c⟩,x.2.2.take q),D4 eQ y/\∀b,y.2.1.aX=some b->∃z ∈ m.E++m.W,z.2.1.aX=some b:=λy hy=>by
   have aj7:D4 dj.drew y/\∀b,y.2.1.aX=some b->∃z ∈ m.E++m.W,z.2.1.aX=some b:=by
    rcases Pa hy with rfl|hy
    ·refine ⟨⟨?_,λc hc=>EH.b c (og hc)⟩,λb hb=>⟨x,hxm,by rw [<-iN];exact hb⟩⟩;have:=ar.awc (hbx10.ext dm) aw (m:=q) (by rw [aJ];omega) x.2.1.c;rw [<-List.map_take] at this;exact this
    ·exact hbl15 y hy
   refine ⟨⟨m19.dX aj7.1.o λb hb e=> ?_,aj7.1.b⟩,aj7.2⟩;obtain ⟨cs',jY⟩:=aU aj7.1.o aw hb;exact jY.fN atV e
  have pb:∀j,bN (ab (aB d) j)≠some bc.heap.size:=λj q=>by
   rw [cB] at q;have:d=bc.heap.size:=by simpa [bN] using q
   omega
  apply Br.mk<;>intro hb
  ·replace hb:=lT hb;rw [if_neg aa] at ti;have hqc:q=c.toNat:=by omega
   obtain ⟨f1,f2⟩:=fin atW agS apn (by rw [hqc,<-Tz,ti]) hbl19;refine ⟨⟨rfl,f1⟩,pb _,λfw wi=> ?_⟩;obtain ⟨f3,f4⟩:=f2 fw wi;refine ⟨⟨rfl,f3⟩,pb _,λcX vu=> ?_⟩;obtain ⟨f5,f6⟩:=f4 cX vu;exact ⟨⟨rfl,f5⟩,pb _,λdt Du=>f6 dt Du⟩
  ·replace hb:=l6 hb;rw [if_pos aa] at ti;have hqx:x.2.2.take q=x.2.2:=dI aa;have hqx2:q=x.2.2.length:=by omega
   rw [hqx] at apn hbl19 agS;refine ⟨n6-1,aa,k+1,_,lay s (kb x),wk,aa,?_,?_,agS,apn,vQ hnd,?_,hbl19,atW⟩
   ·rw [wI];omega
   ·rw [wI];omega
   ·rw [wI,hqx2,<-Tz,ti]
 ·replace hc:=l6 hc;have X4:k=m.W.length:=by omega
  have hcr2:s=mD (nu D aW) D.safe D.l:=by rw [<-Tz,wD aa];rfl
  obtain ⟨f1,f2⟩:=fin mr hm hp hcr2 kE;refine ⟨⟨rfl,f1⟩,λfw wi=> ?_⟩;obtain ⟨f3,f4⟩:=f2 fw wi;refine ⟨⟨rfl,f3⟩,λcX vu=> ?_⟩;obtain ⟨f5,f6⟩:=f4 cX vu;exact ⟨⟨rfl,f5⟩,λdt Du=>f6 dt Du⟩
abbrev aqV:TypeId:=276
structure SO(w:World)(st d:Nat)(m:Dm)(D:Dk):Prop where
 rs:Row w st [d] BX
 dk:DO w d m D
def sF(st d:Nat)(m:Dm)(i:Nat):Prop:=i=st\/dF d m i
def SO.lt{w:World}{st d:Nat}{m:Dm}{D:Dk}(h:SO w st d m D){i:Nat}(hi:sF st d m i):i<w:=by
 rcases hi with rfl|hi
 ·exact h.rs.lt
 ·exact h.dk.lt hi
def SO.same{w w':World}{st d:Nat}{m:Dm}{D:Dk}(h:SO w st d m D)(hs:∀i,sF st d m i->w'.heap[i]? =w.heap[i]?):SO w' st d m D:=⟨h.rs.same (hs _ (.inl rfl)),h.dk.same λi hi=>hs i (.inr hi)⟩
def SO.ext{w w':World}{st d:Nat}{m:Dm}{D:Dk}(h:SO w st d m D)(x:Ext w w'):SO w' st d m D:=h.same λi hi=>x.heap (h.lt hi)
def SO.ptr{w:World}{st d:Nat}{m:Dm}{D:Dk}(h:SO w st d m D):ld w (ab (ab (aB st) 0) 0)=some (.pointer (aB d)):=by rw [aF,aF,h.rs.ld];rfl
def aa6(room:Int)(w:World):ae 297 #[room] w λe w'=>∃d m,e=Value.pointer (aB d)/\DO w' d m ⟨min (max room 0) 1048576,0,0,[],[]⟩/\Ext w w'/\∀i,dF d m i->w.heap.size<=i:=by
 apply adn.vc;intro w0 e0 w1 e1;have z0:=fE e0;have x1:=aV e1;have hm:bH GI w0 (some w.heap.size) []:=by rw [e0];exact bH.new
 have er:(if 1048576<(if 0>room then 0 else room) then 1048576 else (if 0>room then 0 else room))=min (max room 0) 1048576:=by split<;>split<;>omega
 rw [er] at e1;refine ⟨w0.heap.size,⟨w.heap.size,⟨none,0,0⟩,[],[]⟩,rfl,⟨by rw [e1];exact Row.new w0 [_,_,_,_,_] _,hm.same (x1.heap hm.lt),ar.nil,.refl _,rfl,(λx hx=>by cases hx),⟨List.nodup_nil,λk=>by simp [eA];omega,bo,bo,by simp only;omega⟩⟩,(aV e0).tr x1,λi hi=> ?_⟩;rcases hi with q|q|q|⟨x,hx,-⟩
 ·omega
 ·rw [q];exact ak _
 ·cases q
 ·cases hx
def aa5(room:Int)(w:World):ae 242 #[room] w λe w'=>∃st d m,e=Value.pointer (aB st)/\SO w' st d m ⟨min (max room 0) 1048576,0,0,[],[]⟩/\Ext w w'/\∀i,sF st d m i->w.heap.size<=i:=by
 apply Y8.vc;refine (aa6 room w).mono ?_;rintro e w0 ⟨d,m,rfl,hd,x0,hf⟩;refine ⟨_,rfl,λw2 e2=> ?_⟩;have x2:=aV e2;have z:=x0.size;refine ⟨_,d,m,rfl,⟨by rw [e2];exact Row.new w0 [_] _,hd.ext x2⟩,x0.tr x2,λi hi=> ?_⟩;rcases hi with q|q
 ·omega
 ·exact hf i q
def SS{w:World}{st d:Nat}{m:Dm}{D:Dk}(h:SO w st d m D)(hW:D.l.length<=1000000000){id:Int}(hid:0<=id/\id<=1099511627776):
  ae 231 #[st,id] w λe w'=>∃s:Sl,e=Value.agg #[.int .i64 (kL D id).1,.int .i64 (kL D id).2.1,.slice s.a s.n s.c]/\ji w' s (kL D id).2.2/\mK (kL D id).2.2/\(kL D id).2.2.length<=1048576/\s.n<=s.c/\(∀g,s.aX=some g->w.heap.size<=g)/\Ext w w':=by
 apply Ec.vc;intro w0 e0 w1 e1 w2 e2;have z0:=fE e0;have z1:w1.heap.size=w.heap.size+2:=by rw [e1];simp [z0]
 have z2:w2.heap.size=w.heap.size+2:=by rw [e2,setRow_size,z1]
 have x2:Ext w w2:=((aV e0).ba e1).af e2 aa;have k0:aC (2*id)=2*id:=wI;have k1:aC (2*id+1)=2*id+1:=wI;rw [k0,k1];obtain ⟨best,hbest⟩:∃best:Nat->Rc,best=λk=>if k=0 then (2*id+1,0,[]) else if k=1 then j6 (2*id+1,0,[]) (2*id) (qc (getD D (2*id))) else kL D id:=⟨_,rfl⟩
 have b0:best 0=(2*id+1,0,[]):=by rw [hbest];rfl
 have b1:best 1=j6 (best 0) (2*id) (qc (getD D (2*id))):=by rw [b0,hbest];rfl
 have b2:best 2=j6 (best 1) (2*id+1) (qc (getD D (2*id+1))):=by rw [b1,b0,hbest];rfl
 have b3:best 2=kL D id:=by rw [hbest];rfl
 refine ⟨λn i sl v s wr=>∃k:Nat,i=k/\k+n=2/\sl=(best k).1/\v=(best k).2.1/\ji wr s (best k).2.2/\mK (best k).2.2/\(best k).2.2.length<=1048576/\s.n<=s.c/\(∀g,s.aX=some g->w2.heap.size<=g)/\Ext w wr/\w2.heap.size<=wr,
  ⟨2,rfl,0,rfl,rfl,by rw [b0],by rw [b0],by rw [b0];exact oe.FD (ar.nil (B:=0)),by rw [b0];exact (λc hc=>by cases hc),by rw [b0];simp,ak _,(λg hg=>by cases hg),x2,ak _⟩,?_⟩
 rintro n4 us i sl v s bc ⟨k,rfl,hk,rfl,rfl,hs,TN,mP,hsc,hsf,bM,z10⟩;apply Br.mk<;>intro hc
 ·replace hc:=lT hc;have TV:=nJ (j:=k);obtain ⟨slot,hslot,hnext⟩:∃slot,([.int .i64 (2*id),.int .i64 (2*id+1)]:LV)[((k:Nat):Int).toNat*1]? =some (.int .i64 slot)/\best (k+1)=j6 (best k) slot (qc (getD D slot)):=by
   rcases k with _|_|k
   ·exact ⟨_,rfl,b1⟩
   ·exact ⟨_,rfl,b2⟩
   ·omega
  have h10:=h.ext bM;refine ⟨⟨aa,aa⟩,slot,hslot,_,h10.ptr,(ZJ h10.dk hW slot).mono ?_⟩;rintro e cu ⟨t,tb,rfl,ot,Wv,hle,cY⟩;have z14:=cY.size;refine ⟨t,tb,rfl,cY.heap aa,cY.heap aa,(VN t (getD D slot) cu (oe.FD ot) Wv (ar.le ot) aa).mono ?_⟩;rintro e cM ⟨u,rfl,hu,huc,hub,dS⟩;have z17:=dS.size;have agT:=cY.tr dS;have hui:=amK Wv;have hul:=amL (getD D slot);have aW:j6 (best k) slot (qc (getD D slot))=best k->∃n11,n11<n4/\aP [ai,ai,.slice none 0 0]/\∃k':Nat,aC ((k:Int)+1)=(k':Int)/\k'+n11=2/\(best k).1=(best k').1/\(best k).2.1=(best k').2.1/\ji cM s (best k').2.2/\mK (best k').2.2/\(best k').2.2.length<=1048576/\s.n<=s.c/\(∀g,s.aX=some g->w2.heap.size<=g)/\Ext w cM/\w2.heap.size<=cM:=λq=>by rw [q] at hnext;exact ⟨n4-1,aa,rfl,k+1,TV,aa,by rw [hnext],by rw [hnext],by rw [hnext];exact hs.ext agT,by rw [hnext];exact TN,by rw [hnext];exact mP,hsc,hsf,bM.tr agT,aa⟩
  refine ⟨_,u,_,rfl,dS.heap aa,dS.heap aa,Br.mk (λhb=>Br.mk (λlK=> ?_) (λlK=> ?_)) (λhb=> ?_)⟩
  ·have q1:=fC hb;have q2:=fC lK;have e:j6 (best k) slot (qc (getD D slot))=(slot,(qc (getD D slot)).1,(qc (getD D slot)).2.1):=by unfold j6;rw [if_pos ⟨q1,q2⟩]
   rw [e] at hnext;intro cX vu;have fj:Ext w cX:=(bM.tr agT).af vu aa;have aBb:ji cX u (qc (getD D slot)).2.1:=hu.same λg hg=>by rw [vu];exact setRow_other _ _ _ _ (by have:=hub g hg;omega)
   have z21:cX.heap.size=cM.heap.size:=by rw [vu,setRow_size]
   exact ⟨n4-1,aa,rfl,k+1,TV,aa,by rw [hnext],by rw [hnext],by rw [hnext];exact aBb,by rw [hnext];exact hui,by rw [hnext];simp only;omega,huc,(λg hg=>by have:=hub g hg;omega),fj,aa⟩
  ·have q2:=fC lK;exact aW (by unfold j6;rw [if_neg λq=>q2 q.2])
  ·have q1:=fC hb;exact aW (by unfold j6;rw [if_neg λq=>q1 q.1])
 ·replace hc:=l6 hc;have X4:k=2:=by omega
  subst X4;rw [b3] at hs TN mP ⊢;intro dt Du;refine ⟨s,rfl,hs.same λg hg=> ?_,TN,mP,hsc,λg hg=>by have:=hsf g hg;omega,bM.af Du (ak _)⟩;rw [Du];exact setRow_other _ _ _ _ (by have:=hsf g hg;omega)
def KL(id:Int)(w:World):kT 230 #[id] w (Value.bool (Ip id)):=by
 apply Y9.vc;unfold Ip;apply Br.mk<;>intro h
 ·simp only [ge_iff_le,cL] at h;rw [decide_eq_true h];exact ⟨rfl,rfl⟩
 ·simp only [ge_iff_le,fm] at h;rw [decide_eq_false h];exact ⟨rfl,rfl⟩
def SU{id:Int}:Ip id=true ↔ 0<=id/\id<=1099511627776:=by unfold Ip;simp
def C7{w:World}{st d:Nat}{m:Dm}{D:Dk}(h:SO w st d m D)(hW:D.l.length<=1000000000)(id:Int):
  ae 161 #[st,id] w λe w'=>∃s:Sl,e=Value.tuple #[s,.int .i64 (qd D id).2.1,.bool (qd D id).2.2]/\ji w' s (qd D id).1/\mK (qd D id).1/\(qd D id).1.length<=1048576/\s.n<=s.c/\(∀g,s.aX=some g->w.heap.size<=g)/\Ext w w':=by
 apply BQ.vc;refine (KL id w).gK ?_;refine ⟨_,rfl,Br.mk (λhb=> ?_) (λhb=> ?_)⟩
 ·have q:¬Ip id=true:=by simpa using hb
  have e:qd D id=([],0,false):=by unfold qd;rw [if_neg q]
  rw [e];exact ⟨⟨none,0,0⟩,rfl,oe.FD (ar.nil (B:=0)),(λc hc=>by cases hc),bo,ak _,(λg hg=>by cases hg),Ext.bU _⟩
 ·have q:Ip id=true:=by simpa using hb
  have e:qd D id=((kL D id).2.2,(kL D id).2.1,decide ((kL D id).2.1>0)):=by unfold qd;rw [if_pos q]
  rw [e];refine (SS h hW (SU.1 q)).mono ?_;rintro e w2 ⟨s,rfl,hs,TN,mP,hsc,hsf,x2⟩;refine ⟨_,_,s,rfl,λw6 e6 w7 e7=> ?_⟩;have x7:Ext w2 w7.drew:=((aV e6).af e7 (ak _)).drew;exact ⟨s,rfl,hs.ext x7,TN,mP,hsc,hsf,x2.tr x7⟩
def El(w:World)(st d:Nat)(m:Dm)(D:Dk)(w':World):Prop:=∃m',SO w' st d m' D/\Mod (λi=>i=d\/m.ls.aX=some i) w w'/\(∀i,dF d m' i->dF d m i\/w.heap.size<=i)/\∀i,m'.ls.aX=some i->m.ls.aX=some i\/w.heap.size<=i
def SO.off{w:World}{st d:Nat}{m:Dm}{D:Dk}(h:SO w st d m D):¬(st=d\/m.ls.aX=some st):=by
 rintro (q|q)
 ·exact h.rs.ne h.dk.rd aw q
 ·obtain ⟨cs',jY⟩:=aU h.dk.ol aw q;exact h.rs.ne jY aw rfl
def SO.res{w w':World}{st d:Nat}{m:Dm}{D D':Dk}(h:SO w st d m D)(hr:amj w d m D' w'):El w st d m D' w':=by obtain ⟨m',h1,h2,h3,h4⟩:=hr;exact ⟨m',⟨h2.row h.rs h.off,h1⟩,h2,h3,h4⟩
def El.aq{w0 w w':World}{st d:Nat}{m:Dm}{D':Dk}(x:Ext w0 w)(hr:El w st d m D' w'):El w0 st d m D' w':=by obtain ⟨m',h1,h2,h3,h4⟩:=hr;have z:=x.size;exact ⟨m',h1,(Mod.aq x).trans h2,λi hi=>(h3 i hi).imp id λq=>by omega,λi hi=>(h4 i hi).imp id λq=>by omega⟩
def El.trans{w w1 w2:World}{st d:Nat}{m m1:Dm}{D1 D2:Dk}(h1:SO w1 st d m1 D1/\Mod (λi=>i=d\/m.ls.aX=some i) w w1/\(∀i,dF d m1 i->dF d m i\/w.heap.size<=i)/\∀i,m1.ls.aX=some i->m.ls.aX=some i\/w.heap.size<=i)(h2:El w1 st d m1 D2 w2):El w st d m D2 w2:=by
 obtain ⟨a1,a2,a3,a4⟩:=h1;obtain ⟨m2,b1,b2,b3,b4⟩:=h2;have z:=a2.size;refine ⟨m2,b1,a2.tr b2 λi hi=> ?_,λi hi=> ?_,λi hi=> ?_⟩
 ·rcases hi with q|q
  ·exact .inl (.inl q)
  ·exact (a4 i q).imp .inr id
 ·rcases b3 i hi with q|q
  ·exact a3 i q
  ·exact .inr aa
 ·rcases b4 i hi with q|q
  ·exact a4 i q
  ·exact .inr aa
def CW{w:World}{st d:Nat}{m:Dm}{D:Dk}(h:SO w st d m D)(hW:D.l.length<=1000000)(id:Int)(s:Sl)(b:List Int)(hs:ji w s b)(hb:mK b)(hn:b.length<=1099511627776):
  ae 235 #[st,id,s] w λe w'=>e=Value.int .i64 (tQ D id b).2/\El w st d m (tQ D id b).1 w':=by
 apply (Cm.vc (a2:=s));have same:∀{w':World},Ext w w'->El w st d m D w':=λx=>⟨m,h.ext x,Mod.aq x,λi hi=> .inl hi,λi hi=> .inl hi⟩
 refine (KL id w).gK ?_;refine ⟨_,rfl,Br.mk (λYg=> ?_) (λYg=> ?_)⟩
 ·have q:¬Ip id=true:=by simpa using Yg
  have e:tQ D id b=(D,1):=by unfold tQ;rw [if_neg q]
  rw [e];exact ⟨rfl,same (Ext.bU _)⟩
 ·have q:Ip id=true:=by simpa using Yg
  have hid:=SU.1 q;refine (SS h aa hid).mono ?_;rintro e w2 ⟨s5,rfl,-,-,-,-,-,x2⟩;refine ⟨_,_,s5,rfl,λw6 e6 w7 e7=> ?_⟩;have r7:Row w7 w2 [.int .i64 (kL D id).1,.int .i64 (kL D id).2.1,s5] aqV:=by rw [e7];exact Row.set (by rw [e6];exact Row.new w2 [_,_,_] _) _
  have jH:Ext w2 w7:=(aV e6).af e7 (ak _);have x7:=x2.tr jH;have hv:=akf D id;have wv:aC ((kL D id).2.1+1)=(kL D id).2.1+1:=wI;rw [wv];have mP:=Pc D id;have hto:lF .i64 (kL D id).1 1=4*id+1-(kL D id).1:=by
   obtain ⟨t1,t2⟩:=acu hid;rcases mP with q|q
   ·rw [q,t1];omega
   ·rw [q,t2];omega
  rw [hto];have hsv:tQ D id b=if (zb ((kL D id).2.1+1) b).2≠0 then (D,(zb ((kL D id).2.1+1) b).2)
   else if (kV D (4*id+1-(kL D id).1) (zb ((kL D id).2.1+1) b).1).2≠0 then kV D (4*id+1-(kL D id).1) (zb ((kL D id).2.1+1) b).1
   else od (kV D (4*id+1-(kL D id).1) (zb ((kL D id).2.1+1) b).1).1:=by unfold tQ;rw [if_pos q]
  rw [hsv];refine (Se ((kL D id).2.1+1) s b w7 (hs.ext x7) hb hn).mono ?_;rintro e w8 ⟨s9,rfl,o9,x8⟩;have hwb:mK (zb ((kL D id).2.1+1) b).1:=amU hb;have hwn:(zb ((kL D id).2.1+1) b).1.length<=1099511627776:=by
   unfold zb;split
   ·simp
   ·rename_i q3;rw [BB,rA];omega
  generalize zb ((kL D id).2.1+1) b=wr at*;generalize 4*id+1-(kL D id).1=slot at*;have z8:=x8.size;have z2:=jH.size;have hlt7:=r7.lt;refine ⟨s9,_,rfl,x8.heap hlt7,Br.mk (λlK=> ?_) (λlK=> ?_)⟩
  ·have q2:wr.2≠0:=by simpa using lK
   rw [if_pos q2];exact ⟨rfl,same (x7.tr x8)⟩
  ·have q2:wr.2=0:=by simpa using lK
   rw [if_neg (by rw [q2];simp)];have x8d:=(x7.tr x8).tr (Ext.dr w8);have h8:=h.ext x8d;have hdl:=h.dk.rd.lt;have z7:=x7.size;refine ⟨_,h8.ptr,(ZU h8.dk aa slot s9 wr.1 (dB.ext (oe.FD o9) (Ext.dr w8)) hwb hwn λhg=>by have:=(o9.own.lt hg).1;omega).bj λbO aBc=> ?_⟩;have at7:=h8.res aBc;have yx:∀{v:World},Mod (λi=>i=d\/m.ls.aX=some i) w8.drew v->v.heap[w2.heap.size]? =w8.drew.heap[w2.heap.size]? :=λhm=>hm.same _ (by show w2.heap.size<w8.heap.size;omega) (by
    have:=x2.size;rintro (q|q)
    ·omega
    ·have:=(h.dk.ol.own.lt q).2;omega)
   obtain ⟨m1,g1,g2,g3,g4⟩:=at7;have r12:Row bO w2 [.int .i64 (kL D id).1,.int .i64 (kL D id).2.1,s5] aqV:=((r7.ext x8).ext (Ext.dr w8)).same (yx g2);refine ⟨_,rfl,yx g2,r12.bK (λj hj=>by simp at hj;subst hj;rfl),Br.mk (λhb3=> ?_) (λhb3=> ?_)⟩
   ·have q3:(kV D slot wr.1).2≠0:=by simpa using hb3
    rw [if_pos q3];exact ⟨rfl,El.aq x8d ⟨m1,g1,g2,g3,g4⟩⟩
   ·have q3:(kV D slot wr.1).2=0:=by simpa using hb3
    rw [if_neg (by rw [q3];simp)];have Ob:=acw D slot wr.1;refine ⟨_,g1.ptr,(VY g1.dk aa).bj λdj at8=> ?_⟩;have at9:=g1.res at8;have bq:=El.trans ⟨g1,g2,g3,g4⟩ at9;have z12:=g2.size;obtain ⟨m2,f1,f2,f3,f4⟩:=at8;refine ⟨_,rfl,f2.same _ r12.lt ?_,rfl,El.aq x8d bq⟩;rintro (q|q)
    ·have:=x2.size;omega
    ·obtain ⟨cs',jY⟩:=aU g1.dk.ol aw q;exact r12.ne jY aw rfl
structure It where
 x:Nat
 g:Nat
 s:Sl
 p:Po
 C:List Int
 ph:Bool
 pins:Int
structure tX(w:World)(i:It):Prop where
 r:Row w i.x [.pointer (aB i.g),.bool i.ph,i.pins] cl
 k:IN w i.g i.s i.p i.C
def tX.ext{w w':World}{i:It}(h:tX w i)(x:Ext w w'):tX w' i:=⟨h.r.ext x,h.k.ext x⟩
def tX.aW{w w':World}{i:It}(h:tX w i){F:Nat->Prop}(hm:Mod F w w')(h1:¬F i.x)(h2:¬F i.g)(h3:∀b,i.s.aX=some b->¬F b):tX w' i:=⟨hm.row h.r h1,h.k.aW hm h2 h3⟩
abbrev DE(its:List It):List (LV):=its.map λi=> [.pointer (aB i.x)]
structure TO(w:World)(t st d:Nat)(r:Dm)(sl:Sl)(D:Dk)(aj limit:Int)(its:List It):Prop where
 rt:Row w t [st,aj,limit,sl] BY
 so:SO w st d r D
 ol:ar 0 tPI 1 w sl (DE its)
 it:∀i ∈ its,tX w i
 dx:(its.map (·.x)).Nodup
 dg:(its.map (·.g)).Nodup
 WY:1<=limit/\limit<=16
 len:(its.length:Int)<=limit
def dM(m:Dm)(i:Nat):Prop:=i=m.r\/m.ls.aX=some i\/∃x ∈ m.E++m.W,x.2.1.aX=some i
def au(t st d:Nat)(r:Dm)(sl:Sl)(its:List It)(i:Nat):Prop:=i=t\/i=st\/i=d\/dM r i\/sl.aX=some i\/∃y ∈ its,i=y.x\/i=y.g\/y.s.aX=some i
def TO.lt{w:World}{t st d:Nat}{r:Dm}{sl:Sl}{D:Dk}{aj limit:Int}{its:List It}(h:TO w t st d r sl D aj limit its){i:Nat}(hi:au t st d r sl its i):i<w:=by
 rcases hi with rfl|e|e|e|e|⟨y,hy,e|e|e⟩
 ·exact h.rt.lt
 ·exact h.so.lt (.inl e)
 ·exact h.so.lt (.inr (.inl e))
 ·exact h.so.lt (.inr (.inr e))
 ·exact (h.ol.own.lt e).2
 ·exact e▸(h.it y hy).r.lt
 ·exact e▸(h.it y hy).k.row.lt
 ·exact ((h.it y hy).k.own.own.lt e).2
def TO.same{w w':World}{t st d:Nat}{r:Dm}{sl:Sl}{D:Dk}{aj limit:Int}{its:List It}(h:TO w t st d r sl D aj limit its)(hs:∀i,au t st d r sl its i->w'.heap[i]? =w.heap[i]?):TO w' t st d r sl D aj limit its:=by
 refine ⟨h.rt.same (hs _ (.inl rfl)),h.so.same λi hi=>hs i ?_,ar.aW h.ol λb hb=>hs b (.inr (.inr (.inr (.inr (.inl hb))))),λy hy=> ?_,h.dx,h.dg,h.WY,h.len⟩
 ·rcases hi with e|e|e
  ·exact .inr (.inl e)
  ·exact .inr (.inr (.inl e))
  ·exact .inr (.inr (.inr (.inl e)))
 ·have f:∀i,(i=y.x\/i=y.g\/y.s.aX=some i)->w'.heap[i]? =w.heap[i]? :=λi hi=>hs i (.inr (.inr (.inr (.inr (.inr ⟨y,hy,hi⟩)))))
  have hi:=h.it y hy;exact ⟨hi.r.same (f _ (.inl rfl)),hi.k.row.same (f _ (.inr (.inl rfl))),ar.aW hi.k.own λb hb=>f b (.inr (.inr hb)),hi.k.len,hi.k.may⟩
def TO.ext{w w':World}{t st d:Nat}{r:Dm}{sl:Sl}{D:Dk}{aj limit:Int}{its:List It}(h:TO w t st d r sl D aj limit its)(x:Ext w w'):TO w' t st d r sl D aj limit its:=h.same λi hi=>x.heap (h.lt hi)
def TO.kind{w:World}{t st d:Nat}{r:Dm}{sl:Sl}{D:Dk}{aj limit:Int}{its:List It}(h:TO w t st d r sl D aj limit its){i:Nat}(hi:au t st d r sl its i):
  bH GI w (some i) (r.E.map my)\/∃cs τ,Row w i cs τ/\(τ=BY\/τ=BX\/τ=tq\/τ=tPI\/τ=cl\/τ=xR\/τ=il\/τ=tW\/τ=jL):=by
 rcases hi with e|e|e|e|e|⟨y,hy,e|e|e⟩
 ·exact .inr ⟨_,_,e▸h.rt,.inl rfl⟩
 ·exact .inr ⟨_,_,e▸h.so.rs,.inr (.inl rfl)⟩
 ·exact .inr ⟨_,_,e▸h.so.dk.rd,.inr (.inr (.inl rfl))⟩
 ·rcases h.so.dk.kind (.inr e) with q|⟨cs,τ,q1,q2⟩
  ·exact .inl q
  ·refine .inr ⟨cs,τ,q1,?_⟩;rcases q2 with rfl|rfl|rfl
   ·exact .inr (.inr (.inl rfl))
   ·exact .inr (.inr (.inr (.inr (.inr (.inr (.inr (.inl rfl)))))))
   ·exact .inr (.inr (.inr (.inr (.inr (.inr (.inr (.inr rfl)))))))
 ·obtain ⟨cs,hr⟩:=aU h.ol aw e;exact .inr ⟨_,_,hr,.inr (.inr (.inr (.inl rfl)))⟩
 ·exact .inr ⟨_,_,e▸(h.it y hy).r,.inr (.inr (.inr (.inr (.inl rfl))))⟩
 ·exact .inr ⟨_,_,e▸(h.it y hy).k.row,.inr (.inr (.inr (.inr (.inr (.inl rfl)))))⟩
 ·obtain ⟨cs,hr⟩:=aU (h.it y hy).k.own aw e;exact .inr ⟨_,_,hr,.inr (.inr (.inr (.inr (.inr (.inr (.inl rfl))))))⟩
def TO.dT{w:World}{t st d:Nat}{r:Dm}{sl:Sl}{D:Dk}{aj limit:Int}{its:List It}(h:TO w t st d r sl D aj limit its){j:Nat}{cs:LV}{τ:TypeId}(hr:Row w j cs τ)(hτ:τ≠BY/\τ≠BX/\τ≠tq/\τ≠tPI/\τ≠cl/\τ≠xR/\τ≠il/\τ≠tW/\τ≠jL):¬au t st d r sl its j:=λhf=>by
 rcases h.kind hf with hm|⟨cs',τ',hr',ht⟩
 ·exact hr.fN hm rfl
 ·obtain ⟨h1,h2,h3,h4,h5,h6,h7,h8,h9⟩:=hτ
  rcases ht with rfl|rfl|rfl|rfl|rfl|rfl|rfl|rfl|rfl
  ·exact hr.ne hr' h1 rfl
  ·exact hr.ne hr' h2 rfl
  ·exact hr.ne hr' h3 rfl
  ·exact hr.ne hr' h4 rfl
  ·exact hr.ne hr' h5 rfl
  ·exact hr.ne hr' h6 rfl
  ·exact hr.ne hr' h7 rfl
  ·exact hr.ne hr' h8 rfl
  ·exact hr.ne hr' h9 rfl
def TO.n{w:World}{t st d:Nat}{r:Dm}{sl:Sl}{D:Dk}{aj limit:Int}{its:List It}(h:TO w t st d r sl D aj limit its):sl.n=its.length:=by have:=(h.ol.rd aw).n;rwa [aJ] at this
def TO.at{w:World}{t st d:Nat}{r:Dm}{sl:Sl}{D:Dk}{aj limit:Int}{its:List It}(h:TO w t st d r sl D aj limit its){i:Nat}{y:It}(hi:its[i]? =some y):gJ sl.a (i:Int) sl.n/\ld w (ab sl.a (((i:Nat):Int).toNat*1))=some (.pointer (aB y.x)):=by have fD:=(cP.1 hi).1;have gl:=h.ol.rd (show 0<1 by decide);refine ⟨dB.j2 gl aw aa (by rw [h.n];omega),?_⟩;have:=gl.rd i [.pointer (aB y.x)] (by rw [aZ,hi];rfl) 0 _ rfl;exact this
def T6(room:Int):Dk:=⟨min (max room 0) 1048576,0,0,[],[]⟩
def aa4(aj limit room:Int)(w:World):ae 176 #[aj,limit,room] w λe w'=>∃t st d r,e=Value.pointer (aB t)/\TO w' t st d r ⟨none,0,0⟩ (T6 room) aj (min (max limit 1) 16) []/\Ext w w'/\∀i,au t st d r ⟨none,0,0⟩ [] i->w.heap.size<=i:=by
 apply Zi.vc;refine (aa5 room w).mono ?_;rintro e w0 ⟨st,d,m,rfl,hs,x0,hf⟩;refine ⟨_,rfl,λw2 e2=> ?_⟩;have x2:=aV e2;have z0:=x0.size;have hl:(if 16<(if 1>limit then 1 else limit) then 16 else (if 1>limit then 1 else limit))=min (max limit 1) 16:=by split<;>split<;>omega
 rw [hl] at e2;refine ⟨_,st,d,m,rfl,⟨by rw [e2];exact Row.new w0 [_,_,_,_] _,hs.ext x2,ar.nil,bo,bo,bo,aa,by simp;omega⟩,x0.tr x2,λi hi=> ?_⟩;rcases hi with rfl|e|e|e|e|⟨y,hy,-⟩
 ·exact z0
 ·exact hf i (.inl e)
 ·exact hf i (.inr (.inl e))
 ·exact hf i (.inr (.inr e))
 ·cases e
 ·cases hy
def uW{α:Type}(s:Sl)(l:List α)(ad:α->Nat)(fv:Value)(q:α->Bool)(w:World)(hs:dB w s 1 (l.map λi=> [.pointer (some ⟨ad i,0,none⟩)]))(hb:l.length<=1000)
  (hf:∀i ∈ l,∀w',Ext w w'->bu Tryz.prog fv [.pointer (some ⟨ad i,0,none⟩)] w' λe w''=>e=Value.bool (q i)/\Ext w' w''):
  eU 227 #[s,fv] w (Value.int .i64 (bL q l)):=by
 apply uc.vc;have hn:s.n=l.length:=by have:=hs.n;rwa [aJ] at this
 refine ⟨λn i wr=>∃k:Nat,i=k/\k+n=l.length/\Ext w wr/\∀j,j<k->∀y,l[j]? =some y->q y=false,⟨l.length,0,rfl,aa,Ext.bU _,λj hj=>by omega⟩,?_⟩;rintro n us i wr ⟨k,rfl,hk,xr,lD⟩;have TV:=nJ (j:=k);apply Br.mk<;>intro hc
 ·replace hc:=lT hc;obtain ⟨y,hy⟩:=bZ (l:=l) (i:=k) aa;have hsr:=dB.ext hs xr;have pO:=hsr.rd k [.pointer (some ⟨ad y,0,none⟩)] (by rw [aZ,hy];rfl) 0 _ rfl;refine ⟨dB.j2 hsr aw aa aa,_,pO,bJ (hf y (aQ hy) wr xr) ?_⟩;rintro e w7 ⟨rfl,x7⟩;refine ⟨_,rfl,Br.mk (λh=> ?_) (λh=> ?_)⟩
  ·exact ⟨by rw [vC hy h lD],xr.tr x7⟩
  ·refine ⟨n-1,aa,k+1,TV,aa,xr.tr x7,λj hj z hz=> ?_⟩;by_cases e:j=k
   ·subst e;rw [hy] at hz;cases hz;exact h
   ·exact lD j aa z hz
 ·replace hc:=l6 hc;refine ⟨?_,xr⟩;rw [mZ];intro y hy;obtain ⟨j,hj⟩:=yU hy;exact lD j (by have:=(cP.1 hj).1;omega) y hj
def find_spec{w:World}{t st d:Nat}{r:Dm}{sl:Sl}{D:Dk}{aj limit:Int}{its:List It}(h:TO w t st d r sl D aj limit its)(p:Po):
  eU 158 #[t,pv p] w (Value.int .i64 (bL (λi=>i.p==p) its)):=by
 apply BO.vc;intro w0 e0;have x0:=aV e0;have hb:Row w0 w [p.1,p.2] tPo:=Row.nw e0;have h0:=h.ext x0;have db:=h.len;have agr:=h.WY;refine ⟨sl,h0.rt.at 3 rfl,(uW sl its (·.x) _ (λi=>i.p==p) w0 (h0.ol.rd aw) aa ?_).mono ?_⟩
 ·intro y hy w' x';refine bV (by kernel_rfl) (by rfl) ?_;apply xG.vc;have hy':=((h0.it y hy).ext x').ext (Ext.dr w');have hb':=(hb.ext x').ext (Ext.dr w');refine ⟨_,by rw [aF,hy'.r.ld];rfl,sy (sy ⟨_,_,hy'.k.pos,_,_,hb'.bK (λj hj=>by rw [eK]),(xA y.p w'.drew).bj λw5 x5=> ?_⟩)⟩;refine ⟨_,_,rfl,(hb'.ext x5).bK (λj hj=>by rw [eK]),?_,rfl,(Ext.dr w').tr x5⟩;rw [aF];exact (hy'.ext x5).r.bK (λj hj=>by simp at hj;subst hj;rfl)
 ·rintro e w2 ⟨rfl,x2⟩;exact ⟨_,rfl,rfl,x0.tr x2⟩
def SO.kind{w:World}{st d:Nat}{m:Dm}{D:Dk}(h:SO w st d m D){i:Nat}(hi:sF st d m i):bH GI w (some i) (m.E.map my)\/∃cs τ,Row w i cs τ/\(τ=BX\/τ=tq\/τ=tW\/τ=jL):=by
 rcases hi with e|hi
 ·exact .inr ⟨_,_,e▸h.rs,.inl rfl⟩
 ·rcases h.dk.kind hi with q|⟨cs,τ,q1,q2⟩
  ·exact .inl q
  ·exact .inr ⟨cs,τ,q1,.inr q2⟩
def SO.aW{w w':World}{st d:Nat}{m:Dm}{D:Dk}(h:SO w st d m D){F:Nat->Prop}(hm:Mod F w w')(hr:∀{j:Nat} {cs:LV} {τ:TypeId},Row w j cs τ->(τ=BX\/τ=tq\/τ=tW\/τ=jL)->¬F j)(hmp:∀{j:Nat} {kvs:List (Value × Value)},bH GI w (some j) kvs->¬F j):SO w' st d m D:=
 h.same λi hi=>hm.same i (h.lt hi) (by
  rcases h.kind hi with q|⟨cs,τ,q1,q2⟩
  ·exact hmp q
  ·exact hr q1 q2)
abbrev slF(t:Nat)(sl:Sl):Nat->Prop:=λj=>j=t\/sl.aX=some j
def TO.off{w:World}{t st d:Nat}{r:Dm}{sl:Sl}{D:Dk}{aj limit:Int}{its:List It}(h:TO w t st d r sl D aj limit its){j:Nat}{cs:LV}{τ:TypeId}(hr:Row w j cs τ)(h1:τ≠BY)(h2:τ≠tPI):¬slF t sl j:=by
 rintro (e|e)
 ·exact hr.ne h.rt h1 e
 ·obtain ⟨cs',hr'⟩:=aU h.ol aw e;exact hr.ne hr' h2 rfl
def TO.item{w w':World}{t st d:Nat}{r:Dm}{sl:Sl}{D:Dk}{aj limit:Int}{its:List It}(h:TO w t st d r sl D aj limit its)(hm:Mod (slF t sl) w w'){y:It}(hy:tX w y):tX w' y:=
 hy.aW hm (h.off hy.r aw aw) (h.off hy.k.row aw aw) (λb hb=>by obtain ⟨cs',hr'⟩:=aU hy.k.own aw hb;exact h.off hr' aw aw)
def TO.ad0{w w':World}{t st d:Nat}{r:Dm}{sl sl':Sl}{D:Dk}{aj limit:Int}{its its':List It}(h:TO w t st d r sl D aj limit its)(hm:Mod (slF t sl) w w')
  (rt:Row w' t [st,aj,limit,sl'] BY)(ol:ar 0 tPI 1 w' sl' (DE its'))(hit:∀y ∈ its',y ∈ its\/tX w y)
  (dx:(its'.map (·.x)).Nodup)(dg:(its'.map (·.g)).Nodup)(len:(its'.length:Int)<=limit):TO w' t st d r sl' D aj limit its':=by
 refine ⟨rt,h.so.aW hm (λhr hτ=> ?_) (λhmp=> ?_),ol,λy hy=>h.item hm ?_,dx,dg,h.WY,len⟩
 ·rcases hτ with rfl|rfl|rfl|rfl<;>exact h.off hr aw aw
 ·rintro (e|e)
  ·exact h.rt.fN hmp e.symm
  ·obtain ⟨cs',hr'⟩:=aU h.ol aw e;exact hr'.fN hmp rfl
 ·rcases hit y hy with h1|h1
  ·exact h.it y h1
  ·exact h1
def Gt{w:World}{t st d:Nat}{r:Dm}{sl sl':Sl}{its its':List It}(hb:∀b,sl'.aX=some b->sl.aX=some b\/w.heap.size<=b)(hi:∀y ∈ its',y ∈ its\/(w.heap.size<=y.x/\w.heap.size<=y.g/\∀b,y.s.aX=some b->w.heap.size<=b)):
  ∀i,au t st d r sl' its' i->au t st d r sl its i\/w.heap.size<=i:=by
 rintro i (e|e|e|e|e|⟨y,hy,e⟩)
 ·exact .inl (.inl e)
 ·exact .inl (.inr (.inl e))
 ·exact .inl (.inr (.inr (.inl e)))
 ·exact .inl (.inr (.inr (.inr (.inl e))))
 ·rcases hb i e with h|h
  ·exact .inl (.inr (.inr (.inr (.inr (.inl h)))))
  ·exact .inr h
 ·rcases hi y hy with h|⟨h1,h2,h3⟩
  ·exact .inl (.inr (.inr (.inr (.inr (.inr ⟨y,h,e⟩)))))
  ·rcases e with e|e|e
   ·exact .inr aa
   ·exact .inr aa
   ·exact .inr (h3 i e)
def zV{t st d:Nat}{r:Dm}{sl:Sl}{its:List It}:∀i,slF t sl i->au t st d r sl its i:=by
 rintro i (e|e)
 ·exact .inl e
 ·exact .inr (.inr (.inr (.inr (.inl e))))
def akw(a:Addr):One [Value.pointer (some a)]:=by intro v hv;simp at hv;subst hv;rfl
def TO.push{w:World}{t st d:Nat}{r:Dm}{sl:Sl}{D:Dk}{aj limit:Int}{its:List It}(h:TO w t st d r sl D aj limit its)(y:It)(hy:tX w y)(hx:y.x ∉ its.map (·.x))(hg:y.g ∉ its.map (·.g))(hl:(its.length:Int)+1<=limit):
  aY 8 1 w sl 1 [.pointer (aB y.x)]/\∀(s4:Sl)(w5:World),aT tPI 1 w sl 1 [.pointer (aB y.x)] s4 w5->
   Mod (λj=>sl.aX=some j) w w5/\Wr w5 (ab (aB t) 3) 1/\∀w6,w6=bC w5 (ab (aB t) 3) [.slice s4.a s4.n s4.c]->
    TO w6 t st d r s4 D aj limit (its++ [y])/\Mod (slF t sl) w w6/\∀b,s4.aX=some b->sl.aX=some b\/w.heap.size<=b:=by
 have hn:=h.n;have agr:=h.WY;obtain ⟨hp,hr⟩:=h.ol.append (bytes:=8) (news:=[.pointer (aB y.x)]) (dU _) rfl (akw _) aa aa;refine ⟨hp,λs4 w5 bq=> ?_⟩;obtain ⟨ho,hn4,kE,hk,iN⟩:=hr s4 w5 bq;have hm5:Mod (λj=>sl.aX=some j) w w5:=Mod.xi kE hk;have hnt:¬sl.aX=some t:=λe=>by obtain ⟨cs',hr'⟩:=aU h.ol aw e;exact hr'.ne h.rt aw rfl
 have rt5:=hm5.row h.rt hnt;obtain ⟨p1,p2⟩:=rt5.fF (j:=3) (v:=.slice s4.a s4.n s4.c) bo rfl;refine ⟨hm5,p1,λw6 e6=> ?_⟩;obtain ⟨q1,q2⟩:=p2 w6 e6;have hm6:Mod (slF t sl) w w6:=(hm5.mono λi _ hi=> .inr hi).trans (q2.mono λi _ hi=> .inl hi);have h4t:∀b,s4.aX=some b->b≠t:=λb hb=>by obtain ⟨cs',hr'⟩:=aU ho aw hb;exact hr'.ne rt5 aw
 refine ⟨h.ad0 hm6 q1 ?_ (λz hz=> ?_) ?_ ?_ smo,hm6,λb hb=> ?_⟩
 ·have:=q2.dX ho h4t;show ar 0 tPI 1 w6 s4 ((its++ [y]).map _);rw [bS];exact this
 ·rcases dp.1 hz with hz|hz
  ·exact .inl hz
  ·simp at hz;subst hz;exact .inr hy
 ·rw [bS];refine GP.2 ⟨h.dx,bo,?_⟩;intro a ha b hb e;simp at hb;subst hb;subst e;exact hx ha
 ·rw [bS];refine GP.2 ⟨h.dg,bo,?_⟩;intro a ha b hb e;simp at hb;subst hb;subst e;exact hg ha
 ·rcases iN with e|e
  ·exact .inl (by rw [<-e];exact hb)
  ·rw [e] at hb;cases hb;exact .inr (ak _)
def Gu{w:World}{t st d:Nat}{r:Dm}{sl:Sl}{D:Dk}{aj limit:Int}{its:List It}(h:TO w t st d r sl D aj limit its){i:Nat}{y:It}(hi:its[i]? =some y):
  ae 165 #[t,.int .i64 (i:Nat)] w λe w'=>e=Value.pointer (aB y.x)/\∃sl',TO w' t st d r sl' D aj limit (its.eraseIdx i)/\Mod (slF t sl) w w'/\∀b,sl'.aX=some b->sl.aX=some b\/w.heap.size<=b:=by
 apply DU.vc;have hn:=h.n;have agr:=h.WY;have db:=h.len;have OL:=(cP.1 hi).1;obtain ⟨a1,a2⟩:=h.at hi;have hd:=h.ext (Ext.dr w);have hle:=ar.le h.ol;have w1:=nJ (j:=i);refine ⟨sl,h.rt.at 3 rfl,a1,_,a2,sl,hd.rt.at 3 rfl,aa,aa,aa,aa,sl,hd.rt.at 3 rfl,?_⟩;rw [w1];have mH:=hd.ol.cut aw (m:=i) (by rw [aJ];omega);have hrest:=dB.rest (hd.ol.rd aw) (l:=i+1) (m:=sl.c) (n':=sl.n-(i+1)) (c':=sl.c-(i+1)) (by rw [aJ];omega) (by rw [aJ];omega);have hml:((DE its).drop (i+1)).length=sl.n-(i+1):=by rw [qe,aJ];omega
 have hwd:∀q ∈(DE its).drop (i+1),q.length=1/\One q:=λq hq=>by obtain ⟨z,_,rfl⟩:=bf.1 (zk hq);exact ⟨rfl,akw _⟩
 obtain ⟨hp,bq⟩:=mH.FC (bytes:=8) (more:=(DE its).drop (i+1)) (dU _) (λq hq=>(hwd q hq).1) (λq hq=>(hwd q hq).2) (by rw [hml];show (i+_)*8<=_;omega) (by rw [hml];show i+_<=_;omega);rw [hml] at hp bq;refine ⟨aa,aa,((DE its).drop (i+1)).flatten,hrest.flat aw,hp,λs5 w6 hr=> ?_⟩;obtain ⟨ho,hn5,kE,hk,iN⟩:=bq s5 w6 hr;have TN:(Sl.mk (aE sl.a 0 i 1) i i).aX=sl.aX:=by rw [dw];rfl
 rw [TN] at hk iN;have hm6:Mod (λj=>sl.aX=some j) w w6:=(Mod.aq (Ext.dr w)).trans (Mod.xi kE hk);have hnt:¬sl.aX=some t:=λe=>by obtain ⟨cs',hr'⟩:=aU h.ol aw e;exact hr'.ne h.rt aw rfl
 have rt6:=hm6.row h.rt hnt;obtain ⟨p1,p2⟩:=rt6.fF (j:=3) (v:=.slice s5.a s5.n s5.c) bo rfl;have pO:ah w6 (ab (aB t) 3) 0 [sl]:=by show ld w6 (ab _ 0)=_;rw [fG];exact rt6.at 3 rfl
 refine ⟨pO,pO,⟨rfl,p1⟩,λw7 e7=>⟨rfl,s5,?_⟩⟩;obtain ⟨q1,q2⟩:=p2 w7 e7;have hm7:Mod (slF t sl) w w7:=(hm6.mono λi _ hi=> .inr hi).trans (q2.mono λi _ hi=> .inl hi);have h5t:∀b,s5.aX=some b->b≠t:=λb hb=>by obtain ⟨cs',hr'⟩:=aU ho aw hb;exact hr'.ne rt6 aw
 have dP:List.Sublist (its.eraseIdx i) its:=Gv ..;refine ⟨h.ad0 hm7 q1 ?_ (λz hz=> .inl (dP.subset hz)) (h.dx.sublist (dP.map _)) (h.dg.sublist (dP.map _)) ?_,hm7,λb hb=> ?_⟩
 ·have:=q2.dX ho h5t;show ar 0 tPI 1 w7 s5 ((its.eraseIdx i).map _);rw [WZ,bS,List.map_take,List.map_drop];exact this
 ·have:=dP.length_le;omega
 ·rcases iN with e|e
  ·exact .inl (by rw [<-e];exact hb)
  ·rw [e] at hb;cases hb;exact .inr (ak _)
def Kf{α:Type}{f:α->Nat}{l:List α}{i:Nat}{y:α}(hd:(l.map f).Nodup)(hi:l[i]? =some y):f y ∉(l.eraseIdx i).map f:=by
 rw [WZ,bS];have e:l=l.take i++y::l.drop (i+1):=by have:=tn i l;rw [wN (cP.1 hi).1] at this;rw [<-(cP.1 hi).2];exact this.symm
 rw [e,bS,eL] at hd;obtain ⟨h1,h2,h3⟩:=GP.1 hd;intro hm;rcases dp.1 hm with hm|hm
 ·exact h3 _ hm _ (.head _) rfl
 ·exact (uB.1 h2).1 hm
def Gw{w:World}{t st d:Nat}{r:Dm}{sl:Sl}{D:Dk}{aj limit:Int}{its:List It}(h:TO w t st d r sl D aj limit its){i:Nat}{y:It}(hi:its[i]? =some y):
  ae 159 #[t,.int .i64 (i:Nat)] w λe w'=>e=Value.pointer (aB y.x)/\∃sl',TO w' t st d r sl' D aj limit (its.eraseIdx i++ [y])/\aI (au t st d r sl its) (au t st d r sl' (its.eraseIdx i++ [y])) w w':=by
 apply zO.vc;have OL:=(cP.1 hi).1;have Jg:y ∈ its:=aQ hi;have db:=h.len;refine (Gu h hi).mono ?_;rintro e w0 ⟨rfl,sl0,h0,m0,b0⟩;have hy0:=h.item m0 (h.it y Jg);refine ⟨_,rfl,sl0,h0.rt.at 3 rfl,λw3 e3=> ?_⟩;have x3:=aV e3;have h3:=h0.ext x3;have dP:List.Sublist (its.eraseIdx i) its:=Gv ..;have ju:(its.eraseIdx i).length=its.length-1:=by rw [List.length_eraseIdx,if_pos OL]
 obtain ⟨hp,hr⟩:=h3.push y (hy0.ext x3) (Kf h.dx hi) (Kf h.dg hi) aa;refine ⟨hp,λs4 w5 bq=> ?_⟩;obtain ⟨m5,p1,p2⟩:=hr s4 w5 bq;have ht0:=h0.rt.lt;have z3:=fE e3;refine ⟨m5.same _ aa λe=>by have:=(h0.ol.own.lt e).2;omega,⟨rfl,p1⟩,λe=> ?_,λw6 e6=>⟨rfl,s4,?_⟩⟩
 ·rw [cB] at e;have:t=w0.heap.size:=by simpa [bN] using e
  omega
 ·obtain ⟨q1,q2,q3⟩:=p2 w6 e6;have z0:=m0.size;refine ⟨q1,⟨?_,?_⟩⟩
  ·have a1:Mod (au t st d r sl its) w w3:=(m0.mono λi _ hi=>zV i hi).trans (Mod.aq x3);refine a1.tr q2 λj hj=> ?_
   rcases hj with e|e
   ·exact .inl (.inl e)
   ·rcases b0 j e with e|e
    ·exact .inl (.inr (.inr (.inr (.inr (.inl e)))))
    ·exact .inr e
  ·refine Gt (w:=w) (λb hb=> ?_) (λz hz=> .inl ?_)
   ·rcases q3 b hb with e|e
    ·exact b0 b e
    ·exact .inr aa
   ·rcases dp.1 hz with hz|hz
    ·exact dP.subset hz
    ·simp at hz;subst hz;exact Jg
def TO.put{w w':World}{t st d:Nat}{r:Dm}{sl:Sl}{D:Dk}{aj limit:Int}{its:List It}(h:TO w t st d r sl D aj limit its){i:Nat}{y y':It}(hi:its[i]? =some y)(hx:y'.x=y.x)(hg:y'.g=y.g)(hm:Mod (λj=>j=y.x) w w')(hy:tX w' y'):TO w' t st d r sl D aj limit (its.set i y'):=by
 have OL:=(cP.1 hi).1;have hr:=(h.it y (aQ hi)).r;have off:∀{j:Nat} {cs:LV} {τ:TypeId},Row w j cs τ->τ≠cl->¬j=y.x:=λhr' ht e=>hr'.ne hr ht e
 have hpx:DE (its.set i y')=DE its:=by
  unfold DE;rw [pW,hx];apply jK;intro j;rw [iX];split
  ·rename_i e;subst e;rw [if_pos (by rw [aJ];exact OL),aZ,hi];rfl
  ·rfl
 have hmx:(its.set i y').map (·.x)=its.map (·.x):=by
  rw [pW,hx];apply jK;intro j;rw [iX];split
  ·rename_i e;subst e;rw [if_pos (by rw [aJ];exact OL),aZ,hi];rfl
  ·rfl
 have hmg:(its.set i y').map (·.g)=its.map (·.g):=by
  rw [pW,hg];apply jK;intro j;rw [iX];split
  ·rename_i e;subst e;rw [if_pos (by rw [aJ];exact OL),aZ,hi];rfl
  ·rfl
 refine ⟨hm.row h.rt (off h.rt aw),h.so.aW hm (λhr' hτ=>by rcases hτ with rfl|rfl|rfl|rfl<;>exact off hr' aw) (λhmp e=>hr.fN hmp e.symm),?_,λz hz=> ?_,by rw [hmx];exact h.dx,by rw [hmg];exact h.dg,h.WY,by rw [lU];exact h.len⟩
 ·rw [hpx];exact hm.dX h.ol λb hb=>by obtain ⟨cs',hr'⟩:=aU h.ol aw hb;exact off hr' aw
 ·obtain ⟨j,hj⟩:=yU hz;rw [iX] at hj;split at hj
  ·cases hj;exact hy
  ·rename_i fA;have hzj:=h.it z (aQ hj);refine hzj.aW hm (λe=> ?_) (off hzj.k.row aw) (λb hb=> ?_)
   ·
    have h1:(its.map (·.x))[i]? =some y.x:=by rw [aZ,hi];rfl
    have h2:(its.map (·.x))[j]? =some z.x:=by rw [aZ,hj];rfl
    have hjl:=(cP.1 hj).1;rw [e,<-h1] at h2;exact fA ((List.getElem?_inj (by rw [aJ];exact hjl) h.dx).1 h2).symm
   ·obtain ⟨cs',hr'⟩:=aU hzj.k.own aw hb;exact off hr' aw
def FQ{t st d:Nat}{r:Dm}{sl:Sl}{its:List It}{i:Nat}{y y':It}(hi:its[i]? =some y)(hx:y'.x=y.x)(hg:y'.g=y.g)(hs:y'.s=y.s):∀j,au t st d r sl (its.set i y') j->au t st d r sl its j:=by
 rintro j (e|e|e|e|e|⟨z,hz,e⟩)
 ·exact .inl e
 ·exact .inr (.inl e)
 ·exact .inr (.inr (.inl e))
 ·exact .inr (.inr (.inr (.inl e)))
 ·exact .inr (.inr (.inr (.inr (.inl e))))
 ·rcases qk hz with hz|hz
  ·exact .inr (.inr (.inr (.inr (.inr ⟨z,hz,e⟩))))
  ·subst hz;rw [hx,hg,hs] at e;exact .inr (.inr (.inr (.inr (.inr ⟨y,aQ hi,e⟩))))
abbrev En:=Po × List Int × Bool × Int
def It.ob(i:It):En:=(i.p,i.C,i.ph,i.pins)
abbrev eE(its:List It):List En:=its.map It.ob
def vD(its:List It)(i:Nat):eE (its.eraseIdx i)=(eE its).eraseIdx i:=by unfold eE;rw [WZ,WZ,bS,List.map_take,List.map_drop]
def nh(its:List It)(p:Po):bL (λe:En=>e.1==p) (eE its)=bL (λi:It=>i.p==p) its:=mf It.ob _ its
def W3{its:List It}{i:Nat}{y y':It}(hi:its[i]? =some y){f:En->En}(hf:y'.ob=f y.ob):eE (its.set i y')=(eE its).modify i f:=by
 unfold eE;rw [pW];apply jK;intro j;rw [iX,CK,aJ];have OL:=(cP.1 hi).1;split
 ·rename_i e;subst e;rw [aZ,hi];simp [hf]
 ·rename_i e;rw [aZ]
  cases its[j]? with
  |none=>rfl
  |some z=>simp [e]
abbrev Tb:=Dk × List En
def cE(D:Dk)(e:En):Dk × En × Int:=
 if e.2.2.1=true then ((tQ D (Bi e.1) (su (iG e.2.1))).1,(e.1,e.2.1,decide ((tQ D (Bi e.1) (su (iG e.2.1))).2≠0),e.2.2.2),(tQ D (Bi e.1) (su (iG e.2.1))).2) else (D,e,0)
def goE(D:Dk)(l:List En)(i:Nat):Tb × Int:=
 match l[i]? with
 |none=>((D,l),0)
 |some e=>if (cE D e).2.2=0 then (((cE D e).1,l.eraseIdx i),0) else (((cE D e).1,l.set i (cE D e).2.1),(cE D e).2.2)
def fZ(limit:Int)(D:Dk)(l:List En):Tb × Int:=
 if (l.length:Int)<limit then ((D,l),0) else if bL (λe:En=>e.2.2.2==0) l<0 then ((D,l),8) else goE D l (bL (λe:En=>e.2.2.2==0) l).toNat
def TO.acS{w:World}{t st d:Nat}{r:Dm}{sl:Sl}{D:Dk}{aj limit:Int}{its:List It}(h:TO w t st d r sl D aj limit its){j:Nat}{cs:LV}{τ:TypeId}(hr:Row w j cs τ)(h1:τ≠tq)(h2:τ≠tW):¬(j=d\/r.ls.aX=some j):=by
 rintro (e|e)
 ·exact hr.ne h.so.dk.rd h1 e
 ·obtain ⟨cs',hr'⟩:=aU h.so.dk.ol aw e;exact hr.ne hr' h2 rfl
def TO.store{w w':World}{t st d:Nat}{r r':Dm}{sl:Sl}{D D':Dk}{aj limit:Int}{its:List It}(h:TO w t st d r sl D aj limit its)(hm:Mod (λi=>i=d\/r.ls.aX=some i) w w')(hs:SO w' st d r' D'):TO w' t st d r' sl D' aj limit its:=by
 refine ⟨hm.row h.rt (h.acS h.rt aw aw),hs,hm.dX h.ol λb hb=> ?_,λy hy=> ?_,h.dx,h.dg,h.WY,h.len⟩
 ·obtain ⟨cs',hr'⟩:=aU h.ol aw hb;exact h.acS hr' aw aw
 ·have hy':=h.it y hy;refine hy'.aW hm (h.acS hy'.r aw aw) (h.acS hy'.k.row aw aw) λb hb=> ?_
  obtain ⟨cs',hr'⟩:=aU hy'.k.own aw hb;exact h.acS hr' aw aw
def FR{n:Nat}{t st d:Nat}{r r':Dm}{sl:Sl}{its:List It}(hs:∀i,dF d r' i->dF d r i\/n<=i):∀i,au t st d r' sl its i->au t st d r sl its i\/n<=i:=by
 rintro i (e|e|e|e|e|e)
 ·exact .inl (.inl e)
 ·exact .inl (.inr (.inl e))
 ·exact .inl (.inr (.inr (.inl e)))
 ·rcases hs i (.inr e) with q|q
  ·rcases q with q|q
   ·exact .inl (.inr (.inr (.inl q)))
   ·exact .inl (.inr (.inr (.inr (.inl q))))
  ·exact .inr q
 ·exact .inl (.inr (.inr (.inr (.inr (.inl e)))))
 ·exact .inl (.inr (.inr (.inr (.inr (.inr e)))))
def L9{t st d:Nat}{r:Dm}{sl:Sl}{its:List It}:∀i,(i=d\/r.ls.aX=some i)->au t st d r sl its i:=by
 rintro i (e|e)
 ·exact .inr (.inr (.inl e))
 ·exact .inr (.inr (.inr (.inl (.inr (.inl e)))))
def ahI{C:List Int}:mK (su (iG C)):=alY _
def alZ{C:List Int}(hl:C.length=8192):(su (iG C)).length<=65536:=by have h1:=W4 (iG C);have h2:=sw C;omega
def vE{w:World}{t st d:Nat}{r:Dm}{sl:Sl}{D:Dk}{aj limit:Int}{its:List It}(h:TO w t st d r sl D aj limit its)(hW:D.l.length<=1000000){i:Nat}{y:It}(hi:its[i]? =some y):
  ae 164 #[t,.pointer (some ⟨y.x,0,none⟩)] w λe w'=>e=Value.int .i64 (cE D y.ob).2.2/\∃r' y',TO w' t st d r' sl (cE D y.ob).1 aj limit (its.set i y')/\y'.ob=(cE D y.ob).2.1/\aI (au t st d r sl its) (au t st d r' sl (its.set i y')) w w':=by
 apply BD.vc;have Jg:=aQ hi;have hy:=h.it y Jg;have oJ:its.set i y=its:=by obtain ⟨hl,he⟩:=cP.1 hi;rw [<-he];exact List.set_getElem_self hl
 refine ⟨_,hy.r.at 1 rfl,Br.mk (λhb=> ?_) (λhb=> ?_)⟩
 ·have hd:y.ph=false:=by simpa using hb
  have e:cE D y.ob=(D,y.ob,0):=by unfold cE;rw [if_neg (by show ¬y.ph=true;rw [hd];decide)]
  rw [e];exact ⟨rfl,r,y,by rw [oJ];exact h,rfl,by rw [oJ];exact aI.refl _ _⟩
 ·have hd:y.ph=true:=by simpa using hb
  have e:cE D y.ob=((tQ D (Bi y.p) (su (iG y.C))).1,(y.p,y.C,decide ((tQ D (Bi y.p) (su (iG y.C))).2≠0),y.pins),(tQ D (Bi y.p) (su (iG y.C))).2):=by unfold cE;rw [if_pos (by show y.ph=true;exact hd)];rfl
  rw [e];refine ⟨_,hy.r.at 0 rfl,sy (sy ⟨_,_,hy.k.pos,(xA y.p w).bj λw4 x4=> ?_⟩)⟩;refine ⟨_,_,rfl,(W5 y.p w4).bj λw7 x7=> ?_⟩;have x07:=(x4.tr x7).tr (Ext.dr w7);have h7:=h.ext x07;have hy7:=h7.it y Jg;refine ⟨_,_,rfl,_,h7.rt.at 0 rfl,_,hy7.r.at 0 rfl,(Ur hy7.k).mono ?_⟩;rintro e bO ⟨kO,rfl,o13,cw⟩;have HW:=x07.tr cw;have wo:=h.ext HW;have hk:=hy.k;refine ⟨kO,rfl,FT (wo.rt.at 0 rfl),(CW wo.so hW (Bi y.p) kO (su (iG y.C)) (oe.FD o13) ahI (c8 (alZ hk.len) aw)).mono ?_⟩;rintro e cu ⟨rfl,r',ana,m14,f14,-⟩;have h14:=wo.store m14 ana;have A7:=h14.it y Jg;obtain ⟨p1,p2⟩:=A7.r.fF (j:=1) (v:=.bool ((tQ D (Bi y.p) (su (iG y.C))).2 !=0)) bo rfl;refine ⟨_,rfl,⟨rfl,p1⟩,λcp CE=> ?_⟩;obtain ⟨q1,q2⟩:=p2 cp CE;have yJ:((tQ D (Bi y.p) (su (iG y.C))).2 !=0)=decide ((tQ D (Bi y.p) (su (iG y.C))).2≠0):=by rw [Bool.eq_iff_iff];simp
  rw [yJ] at q1;have hy':tX cp {y with ph:=decide ((tQ D (Bi y.p) (su (iG y.C))).2≠0)}:=⟨q1,A7.k.aW q2 (λe=>A7.k.row.ne A7.r aw e) λb hb=>by obtain ⟨cs',hr'⟩:=aU A7.k.own aw hb;exact hr'.ne A7.r aw⟩;have z12:=HW.size;have z14:=m14.size;refine ⟨rfl,r',{y with ph:=decide ((tQ D (Bi y.p) (su (iG y.C))).2≠0)},h14.put hi rfl rfl q2 hy',rfl,?_⟩;have t1:aI (au t st d r sl its) (au t st d r' sl its) bO cu:=⟨m14.mono λi _ hi=>L9 i hi,FR f14⟩;have t2:aI (au t st d r' sl its) (au t st d r' sl (its.set i {y with ph:=decide ((tQ D (Bi y.p) (su (iG y.C))).2≠0)})) cu cp:=⟨q2.mono λj _ hj=> .inr (.inr (.inr (.inr (.inr ⟨y,Jg,.inl hj⟩)))),λj hj=> .inl (FQ (y':={y with ph:=decide ((tQ D (Bi y.p) (su (iG y.C))).2≠0)}) hi rfl rfl rfl j hj)⟩;exact (aI.aq HW).trans (t1.trans t2)
abbrev qp(w:World)(t st d:Nat)(r:Dm)(sl:Sl)(aj limit:Int)(its:List It)(T:Tb)(w':World):Prop:=
 ∃r' sl' its',TO w' t st d r' sl' T.1 aj limit its'/\eE its'=T.2/\aI (au t st d r sl its) (au t st d r' sl' its') w w'
def Mw{its:List It}{i:Nat}{y:It}(h:its[i]? =some y):(eE its)[i]? =some y.ob:=by rw [aZ,h];rfl
def EW{its:List It}{i:Nat}{y':It}{e:En}(h:y'.ob=e):eE (its.set i y')=(eE its).set i e:=by unfold eE;rw [pW,h]
def adB{D:Dk}{l:List En}{i:Nat}{e:En}(h:l[i]? =some e):goE D l i=if (cE D e).2.2=0 then (((cE D e).1,l.eraseIdx i),0) else (((cE D e).1,l.set i (cE D e).2.1),(cE D e).2.2):=by unfold goE;rw [h]
def QC{w w':World}{t st d:Nat}{r:Dm}{sl sl':Sl}{its its':List It}(hm:Mod (slF t sl) w w')(hb:∀b,sl'.aX=some b->sl.aX=some b\/w.heap.size<=b)(hs:∀y ∈ its',y ∈ its):aI (au t st d r sl its) (au t st d r sl' its') w w':=
 ⟨hm.mono λi _ hi=>zV i hi,Gt hb λy hy=> .inl (hs y hy)⟩
def Zo{w:World}{t st d:Nat}{r:Dm}{sl:Sl}{D:Dk}{aj limit:Int}{its:List It}(h:TO w t st d r sl D aj limit its)(hW:D.l.length<=1000000):
  ae 160 #[t] w λe w'=>e=Value.int .i64 (fZ limit D (eE its)).2/\qp w t st d r sl aj limit its (fZ limit D (eE its)).1 w'/\((fZ limit D (eE its)).2=0->((fZ limit D (eE its)).1.2.length:Int)+1<=limit):=by
 apply BP.vc;have hd:=h.ext (Ext.dr w);have hn:=h.n;have hol:(eE its).length=its.length:=by rw [aJ]
 have db:=h.len;have agr:=h.WY;refine ⟨sl,hd.rt.at 3 rfl,limit,hd.rt.at 2 rfl,Br.mk (λhb=> ?_) (λhb=> ?_)⟩
 ·replace hb:=lT hb;have e:fZ limit D (eE its)=((D,eE its),0):=by unfold fZ;rw [if_pos aa]
  rw [e];exact ⟨rfl,⟨r,sl,its,hd,rfl,aI.aq (Ext.dr w)⟩,λ_=>by simp only;omega⟩
 ·replace hb:=l6 hb;refine ⟨sl,hd.rt.at 3 rfl,(uW sl its (·.x) _ (λi=>i.pins==0) w.drew (hd.ol.rd aw) aa ?_).mono ?_⟩
  ·intro y hy w' x';refine bV (by kernel_rfl) (by rfl) ?_;apply xH.vc;have hy':=(hd.it y hy).ext x';exact ⟨_,hy'.r.at 2 rfl,rfl,Ext.bU _⟩
  ·rintro e w3 ⟨rfl,x3⟩;have h3:=hd.ext x3;have hfm:bL (λe:En=>e.2.2.2==0) (eE its)=bL (λi:It=>i.pins==0) its:=mf It.ob _ its;have x03:Ext w w3:=(Ext.dr w).tr x3;refine ⟨_,rfl,Br.mk (λlK=> ?_) (λlK=> ?_)⟩
   ·replace lK:=lT lK;have e:fZ limit D (eE its)=((D,eE its),8):=by unfold fZ;rw [if_neg aa,if_pos aa]
    rw [e];exact ⟨rfl,⟨r,sl,its,h3,rfl,aI.aq x03⟩,λh=>by simp at h⟩
   ·replace lK:=l6 lK;rcases di (λi:It=>i.pins==0) its with ⟨h1,-⟩|⟨k,y,hk,-,hfk,-⟩
    ·omega
    ·have e:fZ limit D (eE its)=goE D (eE its) k:=by unfold fZ;rw [if_neg aa,if_neg aa,hfm,hfk];rfl
     rw [hfk,e,adB (Mw hk)];obtain ⟨a1,a2⟩:=h3.at hk;have hkl:=(cP.1 hk).1;refine ⟨sl,h3.rt.at 3 rfl,a1,_,a2,(vE h3 hW hk).mono ?_⟩;rintro e w7 ⟨rfl,r',y',h7,Oh,t7⟩;refine ⟨_,rfl,Br.mk (λhz=> ?_) (λhz=> ?_)⟩
     ·have hz:=fC hz;have hk':(its.set k y')[k]? =some y':=uH hkl;refine (Gu h7 hk').mono ?_;rintro e w9 ⟨rfl,sl',h9,m9,b9⟩;rw [List.eraseIdx_set_eq] at h9;refine ⟨_,rfl,?_⟩;rw [if_pos hz];refine ⟨by rw [hz],⟨r',sl',_,h9,vD _ _,(aI.aq x03).trans (t7.trans (QC m9 b9 λz hz=> ?_))⟩,λ_=> ?_⟩
      ·rw [<-List.eraseIdx_set_eq (l:=its) (i:=k) (a:=y')] at hz;exact (Gv ..).subset hz
      ·simp only [List.length_eraseIdx];split<;>omega
     ·have hz:=fC hz;rw [if_neg hz];exact ⟨rfl,⟨r',sl,_,h7,EW Oh,(aI.aq x03).trans t7⟩,λq=>absurd q hz⟩
def zX(D:Dk)(e:En):(cE D e).1.l.length<=D.l.length+1:=by
 unfold cE;split
 ·exact acx _ _ _
 ·exact kW _
def aqw(D:Dk)(l:List En)(i:Nat):(goE D l i).1.1.l.length<=D.l.length+1:=by
 unfold goE;split
 ·exact kW _
 ·split<;>exact zX _ _
def ah3(limit:Int)(D:Dk)(l:List En):(fZ limit D l).1.1.l.length<=D.l.length+1:=by
 unfold fZ;split
 ·exact kW _
 ·split
  ·exact kW _
  ·exact aqw _ _ _
def ah4{p:Po}(h:EP p):Yq p:=by unfold EP at h;unfold Yq;omega
def xL(aj:Int)(p:Po)(b:List Int):List Int:=if (j9 cR b 8192).2=0 then cr (j9 cR b 8192).1 else made aj p
def Bh(aj limit:Int)(D:Dk)(l:List En)(p:Po):Tb × Int:=
 if ¬EP p then ((D,l),5)
 else if 0<=bL (λe:En=>e.1==p) l then ((D,l.eraseIdx (bL (λe:En=>e.1==p) l).toNat++l[(bL (λe:En=>e.1==p) l).toNat]?.toList),0)
 else if (fZ limit D l).2≠0 then fZ limit D l
 else (((fZ limit D l).1.1,(fZ limit D l).1.2++ [(p,xL aj p (qd (fZ limit D l).1.1 (Bi p)).1,false,0)]),0)
def ie{w v:World}{t st d:Nat}{r:Dm}{sl:Sl}{D:Dk}{aj limit:Int}{its:List It}(h:TO v t st d r sl D aj limit its)(hw:w.heap.size<v.heap.size)(hwf:¬au t st d r sl its w)(htw:t<w)(hr:(its.length:Int)+1<=limit){g:Nat}{s:Sl}{p:Po}{C:List Int}(hk:IN v g s p C)(hg:g ∉ its.map (·.g))(u:World)(hn:u.heap.size<=v.heap.size)(hgn:u.heap.size<=g)(tL:∀b,s.aX=some b->u.heap.size<=b)
  {K:wPp}(hK:∀w',(∃s' y,TO w' t st d r s' D aj limit (its++ [y])/\y.ob=(p,C,false,0)/\(∀i,au t st d r s' (its++ [y]) i->au t st d r sl its i\/u.heap.size<=i)/\Mod (au t st d r sl its) v w')->K w'):
  ∃(Tt:Sl),ld v (ab (aB t) 3)=some (.slice Tt.a Tt.n Tt.c)/\
   ∀dt:World,dt=v.alloc (.cells #[g,false,ai] cl)->
   ∀je:World,je=dt.alloc (.cells #[v] tPI)->
   aY 8 1 je ⟨Tt.a,Tt.n,Tt.c⟩ 1 [v]/\∀(yQ:Sl)(dL:World),aT tPI 1 je ⟨Tt.a,Tt.n,Tt.c⟩ 1 [v] yQ dL->dL.heap[w.heap.size]? =je.heap[w.heap.size]?/\dL.heap[dt.heap.size]? =je.heap[dt.heap.size]?/\
    (true=true/\Wr dL (ab (aB t) 3) 1)/\bN (ab (aB t) 3)≠some w.heap.size/\bN (ab (aB t) 3)≠some dt.heap.size/\(∀lQ:World,lQ=bC dL (ab (aB t) 3) [.slice yQ.a yQ.n yQ.c]->K lQ):=by
 refine ⟨sl,h.rt.at 3 rfl,λdt Du je e23=> ?_⟩;have gI:=aV Du;have im:=aV e23;have z22:=fE Du;have z23:je.heap.size=v.heap.size+2:=by rw [e23];simp [z22]
 have hy:tX je ⟨v.heap.size,g,s,p,C,false,0⟩:=⟨(by rw [Du];exact Row.new v [_,_,_] _:Row dt v.heap.size [g,false,ai] cl).ext im,(hk.ext gI).ext im⟩;have h23:=(h.ext gI).ext im;have hxn:v.heap.size ∉ its.map (·.x):=λhm=>by obtain ⟨z,hz,e⟩:=bf.1 hm;have:=(h.it z hz).r.lt;omega
 obtain ⟨hp,bq⟩:=h23.push _ hy hxn hg hr;refine ⟨hp,λyQ dL ajI=> ?_⟩;obtain ⟨m25,p1,p2⟩:=bq yQ dL ajI;have pb:∀j:Nat,t<j->bN (ab (aB t) 3)≠some j:=λj hj e=>by
  rw [cB] at e;have:t=j:=by simpa [bN] using e
  omega
 have htl:=h.rt.lt;refine ⟨m25.same _ aa λe=>hwf (.inr (.inr (.inr (.inr (.inl e))))),m25.same _ aa λe=>by have:=(h.ol.own.lt e).2;omega,⟨rfl,p1⟩,pb _ htw,pb _ aa,λlQ Tx=>hK lQ ⟨yQ,⟨v.heap.size,g,s,p,C,false,0⟩,?_,rfl,?_,?_⟩⟩
 ·exact (p2 lQ Tx).1
 ·obtain ⟨-,q2,q3⟩:=p2 lQ Tx;rintro i hi;exact Gt (w:=u) (sl:=sl) (its:=its) (λb hb=>(q3 b hb).imp id λe=>by omega) (λz hz=>by
   rcases dp.1 hz with hz|hz
   ·exact .inl hz
   ·simp at hz;subst hz;exact .inr ⟨hn,hgn,tL⟩) i hi
 ·obtain ⟨-,q2,q3⟩:=p2 lQ Tx;exact (Mod.aq (gI.tr im)).trans (q2.mono λi _ hi=>zV i hi)
def Zp{w:World}{t st d:Nat}{r:Dm}{sl:Sl}{D:Dk}{aj limit:Int}{its:List It}(h:TO w t st d r sl D aj limit its)(hW:D.l.length<=1000000)(p:Po):
  ae 88 #[t,pv p] w λe w'=>e=Value.int .i64 (Bh aj limit D (eE its) p).2/\qp w t st d r sl aj limit its (Bh aj limit D (eE its) p).1 w':=by
 apply BN.vc;intro w0 e0;have z0:=fE e0;have x0:=aV e0;refine (W5 p w0).bj λw1 x1=> ?_
 have z1:=x1.size;have lE:=x0.tr x1;refine ⟨_,_,rfl,x1.heap aa,?_⟩;by_cases pE:EP p
 ·rw [decide_eq_true pE];refine Br.mk (λh=>by cases h) (λ_=> ?_);have h1:=h.ext lE;refine (find_spec h1 p).bj λw4 x4=> ?_
  have z4:=x4.size;have E9:=lE.tr x4;have h4:=h.ext E9;have hfm:bL (λe:En=>e.1==p) (eE its)=bL (λi:It=>i.p==p) its:=mf It.ob _ its;have bx:¬au t st d r sl its w:=λhf=>by have:=h.lt hf;omega
  refine ⟨_,rfl,x4.heap aa,?_⟩;rcases di (λi:It=>i.p==p) its with ⟨hf,-⟩|⟨k,y,hk,-,hf,-⟩
  ·rw [hf];refine Br.mk (λh=>by simp at h) (λ_=> ?_);have hE:Bh aj limit D (eE its) p=if (fZ limit D (eE its)).2≠0 then fZ limit D (eE its) else (((fZ limit D (eE its)).1.1,(fZ limit D (eE its)).1.2++ [(p,xL aj p (qd (fZ limit D (eE its)).1.1 (Bi p)).1,false,0)]),0):=by unfold Bh;rw [if_neg (by simpa using pE),hfm,hf,if_neg aw]
   rw [hE];refine (Zo h4 hW).mono ?_;rintro e w8 ⟨rfl,⟨r8,sl8,its8,h8,KT,t8⟩,hl8⟩;have hWl:((fZ limit D (eE its)).1.1).l.length<=1000001:=by have:=ah3 limit D (eE its);omega
   generalize fZ limit D (eE its)=R at*;have z8:=t8.mod.size;have t08:aI (au t st d r sl its) (au t st d r8 sl8 its8) w w8:=(aI.aq E9).trans t8;refine ⟨_,rfl,t8.mod.same _ aa bx,Br.mk (λhb=> ?_) (λhb=> ?_)⟩
   ·have fA:=fC hb;rw [if_pos fA];exact ⟨rfl,r8,sl8,its8,h8,KT,t08⟩
   ·have he:=fC hb;rw [if_neg (by rw [he];decide)];have hroom:=hl8 he;rw [<-KT,aJ] at hroom;refine ⟨_,h8.rt.at 0 rfl,(C7 h8.so aa _).mono ?_⟩;rintro e bB ⟨nC,rfl,agt,Wv,kE,hsc,-,bR⟩;have z11:=bR.size;have bx8:¬au t st d r8 sl8 its8 w:=λhf=>by
     rcases t8.sub _ hf with q|q
     ·exact bx q
     ·have:=E9.size;omega
    refine ⟨nC,_,_,rfl,bR.heap aa,?_⟩;refine (Zq p nC (qd R.1.1 (Bi p)).1 bB agt Wv hsc aa).mono ?_;rintro e dj ⟨bq,dm⟩;have z15:=dm.size;have htw:=h.rt.lt;have fin:∀{w' v:World} {C:List Int},Ext w8 v->(∃s' y,TO w' t st d r8 s' R.1.1 aj limit (its8++ [y])/\y.ob=(p,C,false,0)/\(∀i,au t st d r8 s' (its8++ [y]) i->au t st d r8 sl8 its8 i\/w8.heap.size<=i)/\Mod (au t st d r8 sl8 its8) v w')->C=xL aj p (qd R.1.1 (Bi p)).1->
      Ending.returned (0:Int)=(0:Int)/\qp w t st d r sl aj limit its (R.1.1,R.1.2++ [(p,xL aj p (qd R.1.1 (Bi p)).1,false,0)]) w':=by
     rintro w' v C xv ⟨s',y,hT,Oh,dP,hm⟩ rfl;refine ⟨rfl,r8,s',_,hT,?_,t08.trans ⟨(Mod.aq xv).trans hm,dP⟩⟩;unfold eE;rw [bS];change eE its8++ [y.ob]=_;rw [KT,Oh]
    rcases bq with ⟨hz,g,sg,rfl,hk,hg,-,hgb⟩|⟨hz,rfl⟩
    ·refine ⟨_,_,rfl,dm.heap aa,Br.mk (λq=>by simp at q) (λ_=> ?_)⟩;have agu:=bR.tr dm;have h15:=h8.ext agu;have hgn:g ∉ its8.map (·.g):=λhm=>by obtain ⟨z,hz,e⟩:=bf.1 hm;have:=(h8.it z hz).k.row.lt;omega
     refine ie (w:=w) h15 aa bx8 htw hroom hk hgn w8 aa aa (λb hb=>by have:=hgb b hb;omega) λw' hw'=>fin agu hw' ?_
     unfold xL;rw [if_pos hz]
    ·refine ⟨_,_,rfl,dm.heap aa,Br.mk (λ_=> ?_) (λq=>by simp at q;exact absurd q hz)⟩;have agu:=bR.tr dm.drew;have h15:=h8.ext agu;refine ⟨aj,h15.rt.at 1 rfl,(U0 aj p (ah4 pE) dj.drew).mono ?_⟩;rintro e eQ ⟨g,sg,rfl,hk,dR,hg,TN⟩;have z19:=dR.size;have zd:=oa dj;have h19:=h15.ext dR;have hgn:g ∉ its8.map (·.g):=λhm=>by obtain ⟨z,hz,e⟩:=bf.1 hm;have:=(h15.it z hz).k.row.lt;omega
     refine ⟨_,rfl,dR.heap aa,ie (w:=w) h19 aa bx8 htw hroom hk hgn w8 aa aa (λb hb=>by have:=TN b hb;omega) λw' hw'=>fin (agu.tr dR) hw' ?_⟩;unfold xL;rw [if_neg hz]
  ·rw [hf];refine Br.mk (λ_=> ?_) (λh=>by simp at h);have hE:Bh aj limit D (eE its) p=((D,(eE its).eraseIdx k++ [y.ob]),0):=by unfold Bh;rw [if_neg (by simpa using pE),hfm,hf,if_pos aa,gZ,aZ,hk];rfl
   rw [hE];refine (Gw h4 hk).mono ?_;rintro e w6 ⟨rfl,sl6,h6,t6⟩;have z6:=t6.mod.size;refine ⟨_,rfl,t6.mod.same _ aa bx,rfl,r,sl6,_,h6,?_,(aI.aq E9).trans t6⟩;unfold eE;rw [bS];change eE _++_=_;rw [vD];rfl
 ·rw [decide_eq_false pE];refine Br.mk (λ_=> ?_) (λh=>by cases h);have hE:Bh aj limit D (eE its) p=((D,eE its),5):=by unfold Bh;rw [if_pos pE]
  rw [hE];exact ⟨rfl,r,sl,its,h.ext lE,rfl,aI.aq lE⟩
end Go.Proofs.YtjcnjlaelhdjeaaGreatDoor
