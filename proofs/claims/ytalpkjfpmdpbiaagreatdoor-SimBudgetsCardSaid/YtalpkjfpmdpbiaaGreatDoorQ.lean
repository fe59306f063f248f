import Derived.Test.YtalpkjfpmdpbiaaGreatDoorR
import Derived.Test.YtalpkjfpmdpbiaaGreatDoorP
set_option linter.all false
namespace Go.Proofs.YtalpkjfpmdpbiaaGreatDoor
open Go Go.Vc Go.RowKit Go.Proofs Go.bf Go.Code
abbrev fb:TypeId:=5
abbrev yv(b:Int):LV:=[.int .u8 b]
abbrev eU(w:World)(s:Sl)(b:List Int):Prop:=RdK w s 1 (b.map yv)
abbrev iM(B:Nat)(w:World)(s:Sl)(b:List Int):Prop:=ak B fb 1 w s (b.map yv)
abbrev UL(b:List Int):Prop:=∀c ∈ b,0<=c/\c<256
def iM.rk{B:Nat}{w:World}{s:Sl}{c:List Int}(h:iM B w s c):eU w s c:=ak.rd h aa
def eU.len{w:World}{s:Sl}{c:List Int}(h:eU w s c):s.n=c.length:=by have:=h.n;simpa using this
def eU.c0{w:World}{s:Sl}{l:List Int}(h:eU w s l){i:Nat}{b:Int}(hi:l[i]? =some b):ld w (ae s.a (i*1))=some (.int .u8 b):=by have:=h.rd i (yv b) (by rw [aX,hi];rfl) 0 _ rfl;simpa using this
def eU.fN{w:World}{s:Sl}{l:List Int}(h:eU w s l){i:Nat}(hi:i<l.length):cB s.a (i:Int) s.n:=RdK.fN h aa aa (by have:=eU.len h;omega)
def vz(n:Int)(w:World)(hi:inI n):
  ah 234 #[n] w λe w'=>∃s:Sl,e=s/\iM w w' s (ia n)/\Ext w w':=by
 apply GK.vc;refine Br.mk (λh=> ?_) (λh=>Br.mk (λh2=> ?_) (λh2=> ?_))<;>simp only [bB,bQ] at*
 ·exact ⟨⟨none,0,0⟩,rfl,by unfold ia;rw [if_pos (.inl h)];exact ak.nil,Ext.ck w⟩
 ·exact ⟨⟨none,0,0⟩,rfl,by unfold ia;rw [if_pos (.inr h2)];exact ak.nil,Ext.ck w⟩
 have e0:ia n=lY 3 n:=by unfold ia;rw [if_neg aa]
 rw [e0];refine ⟨λm x o wr=>∃(k:Nat)(b:List Int),k=m/\1<=k/\k<=3/\0<=x/\x<128 ^ k/\b.length+k=3/\Ext w wr/\iM w wr o b/\b++lY k x=lY 3 n,⟨3,3,[],rfl,by omega,by omega,by omega,by omega,rfl,Ext.ck w,ak.nil,rfl⟩,?_⟩;rintro m us x o wr ⟨k,b,rfl,k1,k3,Ys,hx,IG,xr,ho,heq⟩;have Bm:=eU.len (iM.rk ho);apply Br.mk<;>intro h3<;>simp only [bB,bQ] at h3
 ·obtain ⟨j,rfl⟩:∃j,k=j+1:=⟨k-1,by omega⟩;rintro w7 rfl;rw [acU x Ys];obtain ⟨hp,aS⟩:=ak.kD ho (bytes:=1) (news:=yv (128+x % 128)) (.cells #[.int .u8 (128+x % 128)] fb) xr.size rfl (lG _ _) aa aa;refine ⟨hp,λgZ dJ hr'=> ?_⟩;obtain ⟨k1',ho',_,xb,_,_⟩:=aS gZ dJ hr';have aj7:x.fdiv (2 ^(min (7:Int).toNat 64))=x / 128:=by rw [show ((2:Int) ^(min (7:Int).toNat 64))=128 from by decide];exact Ac _ aa
  rw [aj7];have hj:1<=j:=by
   rcases sJ j with rfl|h
   ·simp at hx;omega
   ·exact h
  refine ⟨k1',j,by omega,j,b++ [128+x % 128],rfl,hj,by omega,by omega,?_,by simp;omega,xr.trans xb,?_,?_⟩
  ·rw [Int.pow_succ] at hx;omega
  ·show ak _ _ 1 _ _ ((b++ [128+x % 128]).map yv);rw [aT];exact ho'
  ·rw [<-heq];show _=b++(if x<128 then [x] else (128+x % 128)::lY j (x / 128));rw [if_neg aa];simp
 ·rintro w7 rfl;have Qg:me x=x:=by rw [wrap_u8];omega
  rw [Qg];obtain ⟨hp,aS⟩:=ak.kD ho (bytes:=1) (news:=yv x) (.cells #[.int .u8 x] fb) xr.size rfl (lG _ _) aa aa;refine ⟨hp,λgZ dJ hr'=> ?_⟩;obtain ⟨k1',ho',_,xb,_,_⟩:=aS gZ dJ hr';refine ⟨k1',gZ,rfl,?_,xr.trans xb⟩;rw [<-heq];obtain ⟨j,rfl⟩:∃j,k=j+1:=⟨k-1,by omega⟩;show ak _ _ 1 _ _ ((b++(if x<128 then [x] else (128+x % 128)::lY j (x / 128))).map yv);rw [if_pos aa,aT];exact ho'
def tP(n:Int)(w:World)(hi:inI n):
  ah 167 #[n] w λe w'=>∃s:Sl,e=s/\iM w w' s (ia n)/\Ext w w':=by
 apply D3.vc;refine Br.mk (λh=> ?_) (λh=>Br.mk (λh2=> ?_) (λh2=> ?_))<;>simp only [bB,bQ] at*
 ·exact ⟨⟨none,0,0⟩,rfl,by unfold ia;rw [if_pos (.inl h)];exact ak.nil,Ext.ck w⟩
 ·exact ⟨⟨none,0,0⟩,rfl,by unfold ia;rw [if_pos (.inr h2)];exact ak.nil,Ext.ck w⟩
 have e0:ia n=lY 3 n:=by unfold ia;rw [if_neg aa]
 rw [e0];refine ⟨λm i x o wr=>∃(k:Nat)(b:List Int),k=m/\1<=k/\k<=3/\i=3-(k:Int)/\0<=x/\x<128 ^ k/\x<=1048576/\b.length+k=3/\Ext w wr/\iM w wr o b/\b++lY k x=lY 3 n,⟨3,3,[],rfl,by omega,by omega,by omega,by omega,by omega,by omega,rfl,Ext.ck w,ak.nil,rfl⟩,?_⟩;rintro m us i x o wr ⟨k,b,rfl,k1,k3,rfl,Ys,hx,hxm,IG,xr,ho,heq⟩;have Bm:=eU.len (iM.rk ho);obtain ⟨j,rfl⟩:∃j,k=j+1:=⟨k-1,by omega⟩;have hj:¬x<128->1<=j:=by
  intro hh;rcases sJ j with rfl|h
  ·simp at hx;omega
  ·exact h
 refine Br.mk (λh3=>Br.mk (λh4=> ?_) (λh4=> ?_)) (λh3=> ?_)<;>simp only [bB,bQ] at*
 ·rintro w7 rfl;have Qg:me x=x:=by rw [wrap_u8];omega
  rw [Qg];obtain ⟨hp,aS⟩:=ak.kD ho (bytes:=1) (news:=yv x) (.cells #[.int .u8 x] fb) xr.size rfl (lG _ _) aa aa;refine ⟨hp,λgZ dJ hr'=> ?_⟩;obtain ⟨k1',ho',_,xb,_,_⟩:=aS gZ dJ hr';refine ⟨k1',gZ,rfl,?_,xr.trans xb⟩;rw [<-heq];show ak _ _ 1 _ _ ((b++(if x<128 then [x] else (128+x % 128)::lY j (x / 128))).map yv);rw [if_pos h4,aT];exact ho'
 ·rintro w7 rfl;have htm:Int.tmod x 128=x % 128:=qQ Ys;have htd:Int.tdiv x 128=x / 128:=oz Ys;have WK:=az (n:=128+x % 128) (by unfold inI;omega);have yd:=az (n:=x / 128) (by unfold inI;omega);have Jo:=az (n:=3-((j+1:Nat):Int)+1) (by unfold inI;omega);rw [htm,htd,WK,yd,Jo];have Qg:me (128+x % 128)=128+x % 128:=by rw [wrap_u8];omega
  rw [Qg];obtain ⟨hp,aS⟩:=ak.kD ho (bytes:=1) (news:=yv (128+x % 128)) (.cells #[.int .u8 (128+x % 128)] fb) xr.size rfl (lG _ _) aa aa;refine ⟨hp,λgZ dJ hr'=> ?_⟩;obtain ⟨k1',ho',_,xb,_,_⟩:=aS gZ dJ hr';have:=hj h4;refine ⟨k1',j,by omega,j,b++ [128+x % 128],rfl,this,by omega,by omega,by omega,?_,by omega,by simp;omega,xr.trans xb,?_,?_⟩
  ·rw [Int.pow_succ] at hx;omega
  ·show ak _ _ 1 _ _ ((b++ [128+x % 128]).map yv);rw [aT];exact ho'
  ·rw [<-heq];show _=b++(if x<128 then [x] else (128+x % 128)::lY j (x / 128));rw [if_neg h4];simp
 ·omega
end Go.Proofs.YtalpkjfpmdpbiaaGreatDoor
namespace Go.Proofs.YtalpkjfpmdpbiaaGreatDoor
open Go Go.Vc Go.RowKit Go.Proofs Go.bf Go.Code
def drop_cons{α:Type}{l:List α}{k:Nat}{c:α}(h:l[k]? =some c):l.drop k=c::l.drop (k+1):=by obtain ⟨h1,h2⟩:=bF.1 h;rw [kT h1,h2]
def vr(s:Sl)(b:List Int)(w:World)(hs:eU w s b)(hb:UL b)(hc:s.n<=s.c):
  ah 160 #[s] w λe w'=>e=Value.tuple #[.int .i64 (dL b).1,.int .i64 (dL b).2.1,.int .i64 (dL b).2.2]/\w'=w:=by
 have hn:=eU.len hs;apply GA.vc;have em:(if 3<((s.n:Nat):Int) then 3 else ((s.n:Nat):Int))=((min 3 s.n:Nat):Int):=by split<;>omega
 rw [em];refine ⟨by omega,by omega,?_⟩;refine ⟨λn x y wr=>∃k:Nat,x=k/\k+n=min 3 s.n/\wr=w/\0<=y/\y<128 ^ k/\mC (3-k) k y (b.drop k)=dL b,⟨min 3 s.n,0,rfl,by omega,rfl,by omega,by omega,rfl⟩,?_⟩;rintro n us x y wr ⟨k,rfl,hk,rfl,y0,y1,heq⟩;have hw:=az (n:=(k:Int)+1) (by unfold inI;omega);apply Br.mk<;>intro h<;>simp only [bB,bQ] at h
 ·obtain ⟨c,TE⟩:=bh (l:=b) (i:=k) aa;have hci:=hb c (bc TE);rw [drop_cons TE,show 3-k=(2-k)+1 from by omega,qp] at heq;have cV:=eU.fN hs (i:=k) aa;obtain ⟨o1,o2⟩:=Zc k aa y c y0 y1 hci.1 hci.2;have hp:=Gk k y c y1;have hp0:0<=(128:Int) ^ k:=Int.pow_nonneg aa;have hm0:0<=c % 128*128 ^ k:=oy aa hp0;refine ⟨⟨?_,by omega,by omega⟩,c,?_,?_⟩
  ·have:=cV.1;unfold aA;split
   ·exact this
   ·rw [Option.isSome_map];exact this
  ·rw [pz];exact eU.c0 hs TE
  ·rw [o1,hw];refine Vm.2 ⟨o2,?_⟩;apply Br.mk<;>intro h1<;>simp only [bB,bQ] at h1
   ·rw [if_pos h1] at heq;exact ⟨n-1,by omega,k+1,by omega,by omega,rfl,by omega,hp,by rw [show 3-(k+1)=2-k from by omega];exact heq⟩
   ·rw [if_neg h1] at heq;refine Br.mk (λh2=>Br.mk (λh3=> ?_) (λh3=>Br.mk (λh4=> ?_) (λh4=> ?_))) (λh2=>Br.mk (λh4=> ?_) (λh4=> ?_))<;>simp only [bB,bQ,beq_iff_eq,beq_eq_false_iff_ne] at*
    ·rw [if_pos (.inl ⟨h2,by omega⟩)] at heq;exact ⟨by rw [<-heq],by first|rfl|trivial⟩
    ·rw [if_pos (.inr h4)] at heq;exact ⟨by rw [<-heq],by first|rfl|trivial⟩
    ·rw [if_neg aa] at heq;exact ⟨by rw [<-heq],by first|rfl|trivial⟩
    ·rw [if_pos (.inr h4)] at heq;exact ⟨by rw [<-heq],by first|rfl|trivial⟩
    ·rw [if_neg aa] at heq;exact ⟨by rw [<-heq],by first|rfl|trivial⟩
 ·have hkm:k=min 3 s.n:=by omega
  apply Br.mk<;>intro h2<;>simp only [bB,bQ] at h2
  ·have:b.drop k=[]:=List.drop_eq_nil_of_le aa;rw [this,show 3-k=(2-k)+1 from by omega] at heq;exact ⟨by rw [<-heq];rfl,by first|rfl|trivial⟩
  ·rw [show 3-k=0 from by omega] at heq;exact ⟨by rw [<-heq];rfl,by first|rfl|trivial⟩
def mr(s:Sl)(b:List Int)(w:World)(hs:eU w s b)(hb:UL b):
  ah 173 #[s] w λe w'=>e=Value.tuple #[.int .i64 (dL b).1,.int .i64 (dL b).2.1,.int .i64 (dL b).2.2]/\w'=w:=by
 have hn:=eU.len hs;apply D4.vc;refine ⟨λn x y z wr=>∃k:Nat,x=k/\k+n=3/\wr=w/\0<=y/\y<128 ^ k/\z=128 ^ k/\mC (3-k) k y (b.drop k)=dL b,⟨3,0,rfl,by omega,rfl,by omega,by omega,rfl,rfl⟩,?_⟩;rintro n us x y z wr ⟨k,rfl,hk,rfl,y0,y1,rfl,heq⟩;have hw:=az (n:=(k:Int)+1) (by unfold inI;omega);refine Br.mk (λh=>Br.mk (λh0=> ?_) (λh0=> ?_)) (λh=> ?_)<;>simp only [bB,bQ] at*
 ·have:b.drop k=[]:=List.drop_eq_nil_of_le aa;rw [this,show 3-k=(2-k)+1 from by omega] at heq;exact ⟨by rw [<-heq];rfl,by first|rfl|trivial⟩
 ·obtain ⟨c,TE⟩:=bh (l:=b) (i:=k) aa;have hci:=hb c (bc TE);rw [drop_cons TE,show 3-k=(2-k)+1 from by omega,qp] at heq;have cV:=eU.fN hs (i:=k) aa;have hp:=Gk k y c y1;have hp0:1<=(128:Int) ^ k/\(128:Int) ^ k<=16384:=by
   have:k=0\/k=1\/k=2:=by omega
   rcases this with rfl|rfl|rfl<;>decide
  have hm0:0<=c % 128*128 ^ k:=oy aa aa;have Vg:(128:Int) ^(k+1)<=2097152:=by rw [Int.pow_succ];omega
  have w1:=az (n:=c) (by unfold inI;omega);have htm:Int.tmod c 128=c % 128:=qQ hci.1;have w2:=az (n:=c % 128*128 ^ k) (by unfold inI;omega);have w3:=az (n:=y+c % 128*128 ^ k) (by unfold inI;omega);have w4:=az (n:=(128:Int) ^ k*128) (by unfold inI;omega);refine ⟨cV,c,eU.c0 hs TE,?_⟩;rw [w1,htm,w2,w3,hw,w4];apply Br.mk<;>intro h1<;>simp only [bB,bQ] at h1
  ·rw [if_pos h1] at heq;exact ⟨n-1,by omega,k+1,by omega,by omega,(by first|rfl|trivial),by omega,hp,(Int.pow_succ _ _).symm,by rw [show 3-(k+1)=2-k from by omega];exact heq⟩
  ·rw [if_neg h1] at heq;refine Br.mk (λh2=>Br.mk (λh3=> ?_) (λh3=>Br.mk (λh4=> ?_) (λh4=> ?_))) (λh2=>Br.mk (λh4=> ?_) (λh4=> ?_))<;>simp only [bB,bQ,beq_iff_eq,beq_eq_false_iff_ne] at*
   ·rw [if_pos (.inl ⟨h2,by omega⟩)] at heq;exact ⟨by rw [<-heq],by first|rfl|trivial⟩
   ·rw [if_pos (.inr h4)] at heq;exact ⟨by rw [<-heq],by first|rfl|trivial⟩
   ·rw [if_neg aa] at heq;exact ⟨by rw [<-heq],by first|rfl|trivial⟩
   ·rw [if_pos (.inr h4)] at heq;exact ⟨by rw [<-heq],by first|rfl|trivial⟩
   ·rw [if_neg aa] at heq;exact ⟨by rw [<-heq],by first|rfl|trivial⟩
 ·rw [show 3-k=0 from by omega] at heq;exact ⟨by rw [<-heq];rfl,by first|rfl|trivial⟩
end Go.Proofs.YtalpkjfpmdpbiaaGreatDoor
namespace Go.Proofs.YtalpkjfpmdpbiaaGreatDoor
open Go Go.Vc Go.RowKit Go.Proofs Go.bf Go.Code
abbrev MK(B:Nat)(l:List Rn)(e:Ending)(w':World):Prop:=
 ∃s:Sl,e=Value.tuple #[s,.int .i64 (if okW aY l then 0 else 1)]/\iM B w' s (if okW aY l then ku l else [])
def Db(left:Int)(r:Rn)(t:List Rn):sX left (r::t)=if r.1<1\/r.1>left then false else sX (left-r.1) t:=rfl
def vB(s:Sl)(l:List Rn)(w:World)(hs:ei w s l)(hb:l.length<=2000000)(hl:∀r ∈ l,inI r.1/\inI r.2):
  ah 122 #[s] w λe w'=>MK w l e w'/\Ext w w':=by
 have j6:=ei.len hs;apply Gx.vc;refine ⟨λn x y wr=>∃k:Nat,x=k/\k+n=l.length/\Ext w wr/\0<=y/\y<=1048576/\y=ba (l.take k)/\sX (1048576-y) (l.drop k)=sX 1048576 l,⟨l.length,0,rfl,by omega,Ext.ck w,by omega,by omega,rfl,rfl⟩,?_⟩;rintro n us x y wr ⟨k,rfl,hk,xr,y0,y1,rfl,heq⟩;have hw:=az (n:=(k:Int)+1) (by unfold inI;omega);apply Br.mk<;>intro h<;>simp only [bB,bQ] at h
 ·obtain ⟨r,hr⟩:=bh (l:=l) (i:=k) aa;have hd:=drop_cons hr;rw [hd,Db] at heq;have cV:=ei.fN hs (i:=k) aa;have q7:=ei.some hs (i:=k) aa;have hc:=ei.c0 (hs.ext xr) hr;have yd:=az (n:=1048576-ba (l.take k)) (by unfold inI;omega);have bad:(r.1<1\/r.1>1048576-ba (l.take k))->MK w l (.returned (.tuple #[.slice none 0 0,(1:Int)])) wr/\Ext w wr:=by
   intro hh;rw [if_pos hh] at heq;have:okW aY l=false:=by unfold okW;rw [<-heq];rfl
   refine ⟨⟨⟨none,0,0⟩,by rw [this];rfl,by rw [this];exact ak.nil⟩,xr⟩
  rw [yd];refine ⟨cV,dS.2 ⟨q7,_,hc,Br.mk (λh1=> ?_) (λh1=>⟨cV,dS.2 ⟨q7,_,hc,Br.mk (λh2=> ?_) (λh2=>⟨cV,dS.2 ⟨q7,_,hc,?_⟩⟩)⟩⟩)⟩⟩<;>simp only [bB,bQ] at h1
  ·exact bad (.inl h1)
  ·replace h2:=fj h2;exact bad (.inr h2)
  ·replace h2:=fh h2;have Jo:=az (n:=ba (l.take k)+r.1) (by unfold inI;omega);rw [if_neg aa] at heq;have e:=gG hr;refine ⟨n-1,by omega,k+1,by omega,by omega,xr,by omega,by omega,by omega,?_⟩;rw [<-heq,Jo,<-Int.sub_sub]
 ·have q9:k=l.length:=by omega
  subst q9;rw [List.drop_length] at heq;rw [kg] at y0 y1 ⊢;have Uz:sX 1048576 l=true:=by rw [<-heq];rfl
  have LB:=(zu Uz).1;refine (AJ s l (ba l) wr (hs.ext xr) (by unfold Bd;omega) (by unfold inI;omega)).mono ?_;rintro e w1 ⟨rfl,x1⟩;have aU:okW aY l=jv aY l (ba l):=by unfold okW;rw [Uz];rfl
  have oN:=xr.tr x1;refine ⟨_,rfl,Br.mk (λh2=> ?_) (λh2=> ?_)⟩
  ·have:okW aY l=false:=by rw [aU];simpa using h2
   exact ⟨⟨⟨none,0,0⟩,by rw [this];rfl,by rw [this];exact ak.nil⟩,oN⟩
  ·have UA:okW aY l=true:=by rw [aU];simpa using h2
   refine ⟨λn x o wr=>∃k:Nat,x=k/\k+n=l.length/\Ext w wr/\iM w wr o (ku (l.take k)),⟨l.length,0,rfl,by omega,oN,ak.nil⟩,?_⟩;rintro n2 oX x2 o w2 ⟨j,rfl,hj,x2,ho⟩;have Wv:=az (n:=(j:Int)+1) (by unfold inI;omega);apply Br.mk<;>intro h<;>simp only [bB,bQ] at h
   ·obtain ⟨r,hr⟩:=bh (l:=l) (i:=j) aa;have hri:=hl r (bc hr);have cV:=ei.fN hs (i:=j) aa;have q7:=ei.some hs (i:=j) aa;have Bm:=eU.len (iM.rk ho);have xN:=DQ (l.take j);rw [bG] at xN;refine ⟨cV,dS.2 ⟨q7,_,ei.c1 (hs.ext x2) hr,?_⟩⟩;rintro eC rfl;rw [wrap_u8];obtain ⟨hp,aS⟩:=ak.kD ho (bytes:=1) (news:=yv (r.2 % 256)) (.cells #[.int .u8 (r.2 % 256)] fb) x2.size rfl (lG _ _) aa aa;refine ⟨hp,λjk cx hr'=> ?_⟩;obtain ⟨k1,ho',hn',xb,_,IG⟩:=aS jk cx hr';have eY:Ext w cx:=x2.trans xb;have ft:w2.heap.size<cx:=by have e:(w2.alloc (.cells #[.int .u8 (r.2 % 256)] fb)).heap[w2.heap.size]? =some (.cells #[.int .u8 (r.2 % 256)] fb (0,0)):=Row.new w2 [.int .u8 (r.2 % 256)] fb;rw [<-k1] at e;exact (mN.1 e).1
    refine ⟨k1,cV,dS.2 ⟨q7,_,ei.c0 (hs.ext eY) hr,(tP r.1 cx hri.1).mono ?_⟩⟩;rintro e fu ⟨sn,rfl,on,di⟩;have UQ:=eU.len (iM.rk on);have II:=sY r.1;refine ⟨sn,rfl,di.heap ft,((ia r.1).map yv).flatten,RdK.flat (iM.rk on) aa,?_⟩;have ho3:ak w fb 1 fu jk _:=ak.ext ho' di;obtain ⟨Vg,hres2⟩:=ak.ke ho3 (bytes:=1) (more:=(ia r.1).map yv) (eY.tr di).size cy (by intro q hq;obtain ⟨c,_,rfl⟩:=aR.1 hq;exact lG _ _) (by simp;omega) (by simp;omega);rw [aB] at Vg hres2;rw [UQ];refine ⟨Vg,λlV eI mK=> ?_⟩;obtain ⟨Vi,_,xb2,Bk,_⟩:=hres2 lV eI mK;have dI:jk.bg≠some w2.heap.size:=by
     rcases IG with h|h
     ·rw [h];intro hb;exact absurd (ho.own.lt hb).2 (sQ _)
     ·rw [h];intro hb;simp at hb
    refine ⟨Bk _ dI (kN ft di.size),n2-1,by omega,j+1,by omega,by omega,(eY.tr di).trans xb2,?_⟩;rw [Gl hr];show ak _ _ 1 _ _ ((ku (l.take j)++(r.2 % 256::ia r.1)).map yv);rw [aT,dE];have:=Vi;rw [mU] at this;exact this
   ·have:j=l.length:=by omega
    subst this;rw [kg] at ho;exact ⟨⟨o,by rw [UA];rfl,by rw [UA];exact ho⟩,x2⟩
end Go.Proofs.YtalpkjfpmdpbiaaGreatDoor
namespace Go.Proofs.YtalpkjfpmdpbiaaGreatDoor
open Go Go.Vc Go.RowKit Go.Proofs Go.bf Go.Code
def xu(s:Sl)(l:List Rn)(w:World)(hs:ei w s l)(hb:l.length<=2000000)(hl:∀r ∈ l,inI r.1/\inI r.2):
  ah 196 #[s] w λe w'=>MK w l e w'/\Ext w w':=by
 have j6:=ei.len hs;apply Ka.vc;refine ⟨λn x y wr=>∃k:Nat,x=k/\k+n=l.length/\Ext w wr/\0<=y/\y<=1048576/\y=1048576-ba (l.take k)/\sX y (l.drop k)=sX 1048576 l,⟨l.length,0,rfl,by omega,Ext.ck w,by omega,by omega,rfl,rfl⟩,?_⟩;rintro n us x y wr ⟨k,rfl,hk,xr,y0,y1,hy,heq⟩;have hw:=az (n:=(k:Int)+1) (by unfold inI;omega);apply Br.mk<;>intro h<;>simp only [bB,bQ] at h
 ·obtain ⟨r,hr⟩:=bh (l:=l) (i:=k) aa;have hd:=drop_cons hr;rw [hd,Db] at heq;refine ⟨ei.fN hs aa,_,_,ei.ll (hs.ext xr) hr,?_⟩;rintro w9 rfl bL rfl;have br:=((xr.tr (Ext.al _ (.cells #[af,af] eW))).setRow xr.size #[.int .i64 r.1,.int .i64 r.2]);have bad:∀w',Ext w w'->(r.1<1\/r.1>y)->MK w l (.returned (.tuple #[.slice none 0 0,(1:Int)])) w'/\Ext w w':=by
   intro w' x' hh;rw [if_pos hh] at heq;have:okW aY l=false:=by unfold okW;rw [<-heq];rfl
   exact ⟨⟨⟨none,0,0⟩,by rw [this];rfl,by rw [this];exact ak.nil⟩,x'⟩
  refine Br.mk (λh1=> ?_) (λh1=>Br.mk (λh2=> ?_) (λh2=> ?_))<;>simp only [bB,bQ] at h1
  ·exact bad _ br (.inl h1)
  ·replace h2:=fj h2;have hri:=hl r (bc hr);unfold inI at hri;have yd:=az (n:=y-r.1) (by unfold inI;omega);exact bad _ br (.inr aa)
  ·replace h2:=fh h2;have hri:=hl r (bc hr);unfold inI at hri;have yd:=az (n:=y-r.1) (by unfold inI;omega);rw [if_neg aa] at heq;have e:=gG hr;refine ⟨n-1,by omega,k+1,by omega,by omega,br,by omega,by omega,by omega,?_⟩;rw [<-heq,yd]
 ·have q9:k=l.length:=by omega
  subst q9;rw [List.drop_length] at heq;rw [kg] at hy;have Uz:sX 1048576 l=true:=by rw [<-heq];rfl
  have LB:=(zu Uz).1;refine (mG s l wr (hs.ext xr) (by unfold Bd;omega) (λr hr=>by have:=LB r hr;omega) aa).mono ?_;rintro e w0 ⟨rfl,x0⟩;refine ⟨_,rfl,(q6 s l (ba l) w0 ((hs.ext xr).ext x0) (by unfold Bd;omega) (by unfold inI;omega)).mono ?_⟩;rintro e w1 ⟨rfl,x1⟩;have aU:okW aY l=jv aY l (ba l):=by unfold okW;rw [Uz];rfl
  have oN:=(xr.tr x0).tr x1;refine ⟨_,rfl,Br.mk (λh2=> ?_) (λh2=> ?_)⟩
  ·have:okW aY l=false:=by rw [aU];simpa using h2
   exact ⟨⟨⟨none,0,0⟩,by rw [this];rfl,by rw [this];exact ak.nil⟩,oN⟩
  ·have UA:okW aY l=true:=by rw [aU];simpa using h2
   refine ⟨λn x o wr=>∃k:Nat,x=k/\k+n=l.length/\Ext w wr/\iM w wr o (ku (l.take k)),⟨l.length,0,rfl,by omega,oN,ak.nil⟩,?_⟩;rintro n2 oX x2 o w2 ⟨j,rfl,hj,x2,ho⟩;have Wv:=az (n:=(j:Int)+1) (by unfold inI;omega);apply Br.mk<;>intro h<;>simp only [bB,bQ] at h
   ·obtain ⟨r,hr⟩:=bh (l:=l) (i:=j) aa;have hri:=hl r (bc hr);have Bm:=eU.len (iM.rk ho);have xN:=DQ (l.take j);rw [bG] at xN;refine ⟨ei.fN hs aa,_,_,ei.ll (hs.ext x2) hr,?_⟩;rintro fu rfl eg abM g7 rfl;have cW:Ext w eg:=by rw [abM];exact ((x2.tr (Ext.al _ (.cells #[af,af] eW))).setRow x2.size #[.int .i64 r.1,.int .i64 r.2])
    have jx:Row eg w2 [.int .i64 r.1,.int .i64 r.2] eW:=by rw [abM];exact (Row.new w2 [af,af] eW).set [.int .i64 r.1,.int .i64 r.2]
    have ur:iM w eg.drew o (ku (l.take j)):=by refine ak.ext (ak.bP ho (w':=eg) ?_) (Ext.dr _);intro g hg;have:=(ho.own.lt hg).2;rw [abM,setRow_other _ _ _ _ aa];exact (Ext.al _ _).heap this
    have hlt25:=jx.lt;have xd:=cW.drew;have hrowd:=jx.ext (Ext.dr eg);have hz:=lW eg;rw [wrap_u8];obtain ⟨hp,aS⟩:=ak.kD ur (bytes:=1) (news:=yv (r.2 % 256)) (.cells #[.int .u8 (r.2 % 256)] fb) xd.size rfl (lG _ _) aa aa;refine ⟨hp,λlV eI hr'=> ?_⟩;obtain ⟨k1,ho',hn',xb,Ji,IG⟩:=aS lV eI hr';have eM:Ext w eI:=xd.trans xb;have B1:o.bg≠some w2.heap.size:=λhb=>absurd (ho.own.lt hb).2 (sQ _)
    have aft:eI.heap[w2.heap.size]? =eg.drew.heap[w2.heap.size]? :=Ji _ B1 aa;have hrow28:=hrowd.same aft;have hlt28:=hrow28.lt;have hlt28':eg.drew.heap.size<eI:=by have e:(eg.drew.alloc (.cells #[.int .u8 (r.2 % 256)] fb)).heap[eg.drew.heap.size]? =some (.cells #[.int .u8 (r.2 % 256)] fb (0,0)):=Row.new eg.drew [.int .u8 (r.2 % 256)] fb;rw [<-k1] at e;exact (mN.1 e).1
    have ll0:∀{w'},Row w' w2 [.int .i64 r.1,.int .i64 r.2] eW->av w' (bu w2.heap.size) 0 [.int .i64 r.1]:=λhh=>hh.bk (o:=0) λj hj=>by
     have:j=0:=by simpa using hj
     subst this;rfl
    have ll1:∀{w'},Row w' w2 [.int .i64 r.1,.int .i64 r.2] eW->av w' (pd w2.heap.size 1) 0 [.int .i64 r.2]:=λhh=>hh.bk (o:=1) λj hj=>by
     have:j=0:=by simpa using hj
     subst this;rfl
    refine ⟨?_,k1,ll0 hrow28,ll1 hrow28,(vz r.1 eI hri.1).mono ?_⟩
    ·rw [aft];symm;exact (Ext.al _ _).heap aa
    rintro e fJ ⟨sn,rfl,on,iL⟩;have UQ:=eU.len (iM.rk on);have II:=sY r.1;have hrow29:=hrow28.ext iL;refine ⟨sn,rfl,iL.heap hlt28,iL.heap hlt28',ll1 hrow29,((ia r.1).map yv).flatten,RdK.flat (iM.rk on) aa,?_⟩;have ho3:ak w fb 1 fJ lV _:=ak.ext ho' iL;obtain ⟨Vg,hres2⟩:=ak.ke ho3 (bytes:=1) (more:=(ia r.1).map yv) (eM.tr iL).size cy (by intro q hq;obtain ⟨c,_,rfl⟩:=aR.1 hq;exact lG _ _) (by simp;omega) (by simp;omega);rw [aB] at Vg hres2;rw [UQ];refine ⟨Vg,λiR lz mK=> ?_⟩;obtain ⟨Vi,_,xb2,Bk,_⟩:=hres2 iR lz mK;have dI:lV.bg≠some w2.heap.size:=by
     rcases IG with h|h
     ·rw [h];exact B1
     ·rw [h];intro hb;simp at hb;omega
    have hne2:lV.bg≠some eg.drew.heap.size:=by
     rcases IG with h|h
     ·rw [h];intro hb;exact absurd (ur.own.lt hb).2 (sQ _)
     ·rw [h];intro hb;simp at hb
    have afu:=Bk _ dI (kN hlt28 iL.size);refine ⟨afu,Bk _ hne2 (kN hlt28' iL.size),ll1 (hrow29.same afu),n2-1,by omega,j+1,by omega,by omega,(eM.tr iL).trans xb2,?_⟩;rw [Gl hr];show ak _ _ 1 _ _ ((ku (l.take j)++(r.2 % 256::ia r.1)).map yv);rw [aT,dE];have:=Vi;rw [mU] at this;exact this
   ·have:j=l.length:=by omega
    subst this;rw [kg] at ho;exact ⟨⟨o,by rw [UA];rfl,by rw [UA];exact ho⟩,x2⟩
end Go.Proofs.YtalpkjfpmdpbiaaGreatDoor
namespace Go.Proofs.YtalpkjfpmdpbiaaGreatDoor
open Go Go.Vc Go.RowKit Go.Proofs Go.bf Go.Code
def uO(b:List Int):∀r ∈ b.map yv,One r:=by intro q hq;obtain ⟨c,_,rfl⟩:=aR.1 hq;exact lG _ _
end Go.Proofs.YtalpkjfpmdpbiaaGreatDoor
namespace Go.Proofs.YtalpkjfpmdpbiaaGreatDoor
open Go Go.Vc Go.RowKit Go.Proofs Go.bf Go.Code
end Go.Proofs.YtalpkjfpmdpbiaaGreatDoor
namespace Go.Proofs.YtalpkjfpmdpbiaaGreatDoor
open Go Go.Vc Go.RowKit Go.Proofs Go.bf Go.Code
end Go.Proofs.YtalpkjfpmdpbiaaGreatDoor
namespace Go.Proofs.YtalpkjfpmdpbiaaGreatDoor
open Go Go.Vc Go.RowKit Go.Proofs Go.bf Go.Code
abbrev Iw(B:Nat)(p:List Rn × Int)(e:Ending)(w':World):Prop:=
 ∃s:Sl,e=Value.tuple #[s,p.2]/\lS B w' s p.1
def oh(may:Int->Bool)(f:Nat)(c:Int)(t:List Int)(n last:Int)(acc:List Rn):ki may (f+1) (c::t) n last acc=
  if may c=false\/c=last then ([],2)
  else if (dL t).2.2≠0 then ([],(dL t).2.2)
  else if (dL t).1=0\/(dL t).1>n then ([],2)
  else if n-(dL t).1=0 then (if t.drop (dL t).2.1.toNat=[] then (acc++ [((dL t).1,c)],0) else ([],2))
  else ki may f (t.drop (dL t).2.1.toNat) (n-(dL t).1) c (acc++ [((dL t).1,c)]):=rfl
def Lr{B:Nat}{p:List Rn × Int}{q:Int}{w':World}(h:p=([],q)):Iw B p (.returned (.tuple #[.slice none 0 0,q])) w':=by subst h;exact ⟨⟨none,0,0⟩,rfl,ak.nil⟩
def om{may:Int->Bool}:∀(f g:Nat)(b:List Int) {n last:Int} {acc:List Rn} (_:b.length<f) (_:b.length<g),ki may f b n last acc=ki may g b n last acc
 |0,_,_,_,_,_,h,_=>by omega
 |_+1,0,_,_,_,_,_,h=>by omega
 |f+1,g+1,[],_,_,_,_,_=>rfl
 |f+1,g+1,c::t,n,last,acc,h1,h2=>by
  rw [oh,oh]
  have hd:=sZ 3 0 0 t aa
  rw [show mC 3 0 0 t=dL t from rfl] at hd
  simp only [fR] at h1 h2
  rw [om f g (t.drop (dL t).2.1.toNat) (by rw [iw];omega) (by rw [iw];omega)]
def AM(s:Sl)(b:List Int)(n:Int)(w:World)(hs:eU w s b)(hb:UL b)(hc:s.n<=s.c)(hl:b.length<=1099511627776)(hn:1<=n)(hn':inI n):
  ah 119 #[s,n] w λe w'=>Iw w (cJ aY b n) e w'/\Ext w w':=by
 unfold inI at hn';apply NI.vc;refine ⟨λm s3 last left o wr=>∃(b':List Int)(acc:List Rn),m=b'.length/\eU w s3 b'/\s3.n<=s3.c/\UL b'/\acc.length+b'.length<=b.length/\1<=left/\left<=n/\Ext w wr/\lS w wr o acc/\ki aY (b'.length+1) b' left last acc=cJ aY b n,⟨b.length,b,[],rfl,hs,hc,hb,by simp,hn,by omega,Ext.ck w,ak.nil,rfl⟩,?_⟩;rintro m us s3 last left o wr ⟨b',acc,rfl,h3,h3c,hb',ak7,hl1,Fe,xr,ho,heq⟩;have Xc:=eU.len h3;apply Br.mk<;>intro h<;>simp only [bB,bQ] at h
 ·obtain ⟨c,t,rfl⟩:∃c t,b'=c::t:=by
   cases b' with
   |nil=>simp at Xc;omega
   |cons c t=>exact ⟨c,t,rfl⟩
  have hci:=hb' c (.head _);have htI:UL t:=λq hq=>hb' q (.tail _ hq)
  simp only [fR] at Xc ak7;rw [oh] at heq;have hwc:=az (n:=c) (by unfold inI;omega);have hrt:eU wr ⟨aA s3.a 1 s3.n 1,s3.n-1,s3.n-1⟩ t:=by have:=RdK.rest (h3.ext xr) (l:=1) (m:=s3.n) (n':=s3.n-1) (c':=s3.n-1) (by rw [aB,fR];omega) (λe=>by rw [aB,fR];omega);exact this
  refine ⟨eU.fN h3 (i:=0) cy,c,eU.c0 (h3.ext xr) (i:=0) rfl,?_⟩;rw [hwc];rintro bL rfl cH abK;have bV:Ext w cH:=by rw [abK];exact ((xr.tr (Ext.al _ (.cells #[af,af] eW))).setRow xr.size #[af,.int .i64 c])
  have afn:Ext wr cH:=by rw [abK];exact ((Ext.al wr (.cells #[af,af] eW)).setRow (ax _) #[af,.int .i64 c])
  have jx:Row cH wr [af,.int .i64 c] eW:=by rw [abK];exact (Row.new wr [af,af] eW).set [af,.int .i64 c]
  have bad:∀{q:Int} {w':World},Ext w w'->cJ aY b n=([],q)->Iw w (cJ aY b n) (.returned (.tuple #[.slice none 0 0,.int .i64 q])) w'/\Ext w w':=λx' e=>⟨Lr e,x'⟩
  refine (gK c cH).mono ?_;rintro e bR ⟨rfl,bT⟩;have mJ:=bV.tr bT;have hrow12:=jx.ext bT;refine ⟨_,rfl,bT.heap jx.lt,Br.mk (λh1=> ?_) (λh1=>Br.mk (λh2=> ?_) (λh2=> ?_))⟩
  ·refine bad mJ ?_;rw [<-heq,if_pos (.inl (by simpa using h1))]
  ·refine bad mJ ?_;rw [<-heq,if_pos (.inr (by simpa using h2))]
  have hm:aY c=true:=by simpa using h1
  have hl':c≠last:=by simpa using h2
  rw [if_neg (by rw [hm];simp [hl'])] at heq;refine ⟨by omega,by omega,by omega,by omega,by omega,by omega,?_⟩;refine (vr ⟨aA s3.a 1 s3.n 1,s3.n-1,s3.n-1⟩ t bR ((hrt.ext afn).ext bT) htI (ax _)).mono ?_;rintro e cm ⟨rfl,rfl⟩;have Jc:=sZ 3 0 0 t aa;rw [show mC 3 0 0 t=dL t from rfl] at Jc;generalize dL t=d at*;obtain ⟨sz,kk,er⟩:=d;simp only at*;refine ⟨_,_,_,rfl,(by first|rfl|trivial),Br.mk (λXV=> ?_) (λXV=> ?_)⟩
  ·refine bad mJ ?_;rw [<-heq,if_pos (by simpa using XV)]
  have her:er=0:=by simpa using XV
  subst her;have hd:=Jc rfl;rw [if_neg cy] at heq;refine Br.mk (λh4=> ?_) (λh4=>Br.mk (λh5=> ?_) (λh5=> ?_))<;>simp only [beq_iff_eq,beq_eq_false_iff_ne,bB,bQ] at h4
  ·refine bad mJ ?_;rw [<-heq,if_pos (.inl h4)]
  ·replace h5:=fj h5;refine bad mJ ?_;rw [<-heq,if_pos (.inr h5)]
  replace h5:=fh h5;rw [if_neg aa] at heq;have hwl:=az (n:=left-sz) (by unfold inI;omega);have Bp:=az (n:=1+kk) (by unfold inI;omega);rw [hwl,Bp];rintro dJ abL;have cn:Ext w dJ:=by rw [abL];exact mJ.setRow xr.size _
  have PY:lS w cm o acc:=ak.ext ho (afn.tr bT);have Xh:lS w dJ.drew o acc:=by refine ak.ext (ak.bP PY (w':=dJ) ?_) (Ext.dr _);intro g hg;have:=(ho.own.lt hg).2;rw [abL,setRow_other _ _ _ _ aa]
  have hlt18:wr.heap.size<dJ:=by rw [abL,setRow_size];exact hrow12.lt
  have xd:=cn.drew;have hz:=lW dJ;have Bm:=ei.len Xh.rA;refine ⟨by omega,by omega,?_⟩;rintro fD rfl;obtain ⟨hp,aS⟩:=ak.kD Xh (bytes:=16) (news:=rv (sz,c)) (.cells #[sz,.int .i64 c] eW) xd.size rfl (nI _ _ _ _) aa aa;refine ⟨hp,λrZ ea hr'=> ?_⟩;obtain ⟨k1,ho',_,xb,Ji,_⟩:=aS rZ ea hr';have fW:Ext w ea:=xd.trans xb;have P5:lS w ea rZ (acc++ [(sz,c)]):=by show ak _ _ 2 _ _ ((acc++ [(sz,c)]).map rv);rw [aT];exact ho'
  have hkeep:ea.heap[wr.heap.size]? =(dJ.drew.alloc (.cells #[sz,.int .i64 c] eW)).heap[wr.heap.size]? :=by rw [Ji _ (λhb=>absurd (ho.own.lt hb).2 (sQ _)) aa];symm;exact (Ext.al _ _).heap aa
  have PE:(t.drop kk.toNat).length=t.length-kk.toNat:=iw;refine ⟨hkeep,k1,Br.mk (λh6=>Br.mk (λh7=> ?_) (λh7=>Br.mk (λh8=> ?_) (λh8=> ?_))) (λh6=> ?_)⟩<;>simp only [beq_iff_eq,beq_eq_false_iff_ne] at h6
  ·simp only [bB] at h7;omega
  ·replace h8:=fj h8;rw [if_pos h6,if_neg (by intro e;rw [e] at PE;simp at PE;omega)] at heq;exact bad fW heq.symm
  ·replace h8:=fh h8;rw [if_pos h6,if_pos (sN aa)] at heq;refine ⟨⟨rZ,by rw [<-heq],by rw [<-heq];exact P5⟩,fW⟩
  ·rw [if_neg h6] at heq;have hrest:=RdK.rest h3 (l:=(1+kk).toNat) (m:=s3.c) (n':=s3.n-(1+kk).toNat) (c':=s3.c-(1+kk).toNat) (by rw [aB,fR];omega) (λe=>by rw [aB,fR];omega);rw [show (1+kk).toNat=kk.toNat+1 from by omega,dE,List.drop_succ_cons,<-List.map_drop] at hrest;rw [show (1+kk).toNat=kk.toNat+1 from by omega];refine ⟨(t.drop kk.toNat).length,by simp only [fR];omega,t.drop kk.toNat,acc++ [(sz,c)],rfl,hrest,by show s3.n-(kk.toNat+1)<=s3.c-(kk.toNat+1);omega,λq hq=>htI q (ow hq),by simp only [eK,fR,MF];omega,by omega,by omega,fW,P5,?_⟩;rw [<-heq];exact om _ _ _ aa (by simp only [fR];omega)
 ·have:b'=[]:=sN aa;subst this;have e:cJ aY b n=([],3):=by rw [<-heq];show (if left>0 then ([],3) else (acc,0))=_;rw [if_pos aa]
  refine Br.mk (λ_=>⟨Lr e,xr⟩) (λh2=> ?_);replace h2:=fh h2;omega
end Go.Proofs.YtalpkjfpmdpbiaaGreatDoor
namespace Go.Proofs.YtalpkjfpmdpbiaaGreatDoor
open Go Go.Vc Go.RowKit Go.Proofs Go.bf Go.Code
def xJ(s:Sl)(b:List Int)(n:Int)(w:World)(hs:eU w s b)(hb:UL b)(hl:b.length<=1099511627776)(hsc:s.n<=s.c)(hn:1<=n)(hn':inI n):
  ah 126 #[s,n] w λe w'=>Iw w (cJ aY b n) e w'/\Ext w w':=by
 have j6:=eU.len hs;unfold inI at hn';apply J7.vc;refine ⟨λm left i o wr=>∃(k:Nat)(last:Int)(acc:List Rn),i=k/\k<=b.length/\m+k=b.length/\acc.length<=k/\0<=left/\left<=n/\Ext w wr/\lS w wr o acc/\
   (acc=[]->last= -1)/\(∀q,acc.getLast? =some q->q.2=last)/\
   (if left>0 then ki aY (b.length-k+1) (b.drop k) left last acc else if b.drop k=[] then (acc,0) else ([],2))=cJ aY b n,⟨b.length,0,-1,[],rfl,by omega,by omega,by simp,by omega,by omega,Ext.ck w,ak.nil,λ_=>rfl,by simp,by rw [if_pos aa];rfl⟩,?_⟩
 rintro m us left i o wr ⟨k,last,acc,rfl,XT,hmk,hak,hl0,hl1,xr,ho,hlast0,hlast,heq⟩;have bad:∀{q:Int} {w':World},Ext w w'->cJ aY b n=([],q)->Iw w (cJ aY b n) (.returned (.tuple #[.slice none 0 0,.int .i64 q])) w'/\Ext w w':=λx' e=>⟨Lr e,x'⟩
 refine Br.mk (λh=>Br.mk (λh2=> ?_) (λh2=> ?_)) (λh=>Br.mk (λh2=> ?_) (λh2=> ?_))<;>simp only [bB,bQ] at h h2
 ·have hd:b.drop k=[]:=List.drop_eq_nil_of_le aa;rw [if_pos h,hd,show b.length-k+1=(b.length-k)+1 from rfl] at heq;refine bad xr ?_;rw [<-heq];show (if left>0 then ([],3) else (acc,0))=_;rw [if_pos h]
 ·obtain ⟨c,hck⟩:=bh (l:=b) (i:=k) aa;have hci:=hb c (bc hck);have hd:=drop_cons hck;have hwc:=az (n:=c) (by unfold inI;omega);have Bp:=az (n:=(k:Int)+1) (by unfold inI;omega);rw [if_pos h,hd,oh] at heq;have cV:=eU.fN hs (i:=k) aa;refine ⟨cV,c,eU.c0 (hs.ext xr) hck,?_⟩;rw [hwc,Bp];refine (gE c wr).mono ?_;rintro e w9 ⟨rfl,rfl⟩;refine ⟨_,rfl,Br.mk (λh1=> ?_) (λh1=> ?_)⟩
  ·refine bad xr ?_;rw [<-heq,if_pos (.inl (by simpa using h1))]
  have hm:aY c=true:=by simpa using h1
  have htI:UL (b.drop (k+1)):=λq hq=>hb q (ow hq)
  have hrest:=RdK.rest (hs.ext xr) (l:=k+1) (m:=s.c) (n':=s.n-(k+1)) (c':=s.c-(k+1)) (by rw [aB];omega) (λe=>by rw [aB];omega);rw [<-List.map_drop] at hrest;have PE:(b.drop (k+1)).length=b.length-(k+1):=iw;rw [show ((k:Int)+1).toNat=k+1 from by omega];have Jc:=sZ 3 0 0 (b.drop (k+1)) aa;rw [show mC 3 0 0 (b.drop (k+1))=dL (b.drop (k+1)) from rfl] at Jc;have Bm:=ei.len ho.rA;have dI:Br (decide ((((o.n:Nat):Int):Int)>0)) (c=last\/c≠last) (c≠last):=by refine Br.mk (λ_=>Decidable.em _) (λh3=> ?_);replace h3:=fh h3;have:=hlast0 (sN aa);omega
  apply Br.mk<;>intro h3
  ·replace h3:=fj h3;have hwo:=az (n:=((o.n:Nat):Int)-1) (by unfold inI;omega);rw [hwo];rw [show (if 0>((o.n:Nat):Int)-1 then 0 else ((o.n:Nat):Int)-1)=((o.n-1:Nat):Int) from by split<;>omega];obtain ⟨q,hq⟩:=bh (l:=acc) (i:=o.n-1) aa;have hql:=hlast q (by rw [List.getLast?_eq_getElem?,<-Bm];exact hq);refine ⟨ei.fN ho.rA aa,dS.2 ⟨ei.some ho.rA (i:=o.n-1) aa,_,ei.c1 ho.rA hq,Br.mk (λh4=> ?_) (λh4=> ?_)⟩⟩<;>simp only [beq_iff_eq,beq_eq_false_iff_ne] at h4
   ·refine bad xr ?_;rw [<-heq,if_pos (.inr aa)]
   ·have Pp:c≠last:=by omega
    rw [if_neg (by rw [hm];simp [Pp])] at heq;refine ⟨by omega,by omega,?_⟩;refine (mr ⟨aA s.a (k+1) s.c 1,s.n-(k+1),s.c-(k+1)⟩ (b.drop (k+1)) _ hrest htI).mono ?_;rintro e bR ⟨rfl,rfl⟩;generalize dL (b.drop (k+1))=d at*;obtain ⟨sz,kk,er⟩:=d;simp only at heq Jc;refine ⟨_,_,_,rfl,Br.mk (λh5=> ?_) (λh5=> ?_)⟩
    ·refine bad xr ?_;rw [<-heq,if_pos (by simpa using h5)]
    have her:er=0:=by simpa using h5
    subst her;have Qn:=Jc rfl;rw [if_neg cy] at heq;refine Br.mk (λh6=> ?_) (λh6=>Br.mk (λh7=> ?_) (λh7=> ?_))<;>simp only [beq_iff_eq,beq_eq_false_iff_ne] at h6
    ·refine bad xr ?_;rw [<-heq,if_pos (.inl h6)]
    ·replace h7:=fj h7;refine bad xr ?_;rw [<-heq,if_pos (.inr h7)]
    replace h7:=fh h7;rw [if_neg aa] at heq;rintro dy rfl;obtain ⟨hp,aS⟩:=ak.kD ho (bytes:=16) (news:=rv (sz,c)) (.cells #[sz,c] eW) xr.size rfl (nI _ _ _ _) aa aa;refine ⟨hp,λgZ dJ hr'=> ?_⟩;obtain ⟨k1,ho',_,xb,_,_⟩:=aS gZ dJ hr';have P5:lS w dJ gZ (acc++ [(sz,c)]):=by show ak _ _ 2 _ _ ((acc++ [(sz,c)]).map rv);rw [aT];exact ho'
    have w1:=az (n:=left-sz) (by unfold inI;omega);have w2:=az (n:=(k:Int)+1+kk) (by unfold inI;omega);rw [w1,w2];refine ⟨k1,m-1-kk.toNat,by omega,k+1+kk.toNat,c,acc++ [(sz,c)],by omega,by omega,by omega,by simp;omega,by omega,by omega,xr.trans xb,P5,by simp,by intro q hq;simp at hq;subst hq;rfl,?_⟩;rw [<-heq,<-List.drop_drop];by_cases hz:left-sz=0
    ·rw [if_neg aa,if_pos hz]
    ·rw [if_pos aa,if_neg hz];exact om _ _ _ (by rw [iw];omega) (by rw [iw];omega)
  ·have Pp:c≠last:=Br.ff dI h3;rw [if_neg (by rw [hm];simp [Pp])] at heq;refine ⟨by omega,by omega,?_⟩;refine (mr ⟨aA s.a (k+1) s.c 1,s.n-(k+1),s.c-(k+1)⟩ (b.drop (k+1)) _ hrest htI).mono ?_;rintro e bR ⟨rfl,rfl⟩;generalize dL (b.drop (k+1))=d at*;obtain ⟨sz,kk,er⟩:=d;simp only at heq Jc;refine ⟨_,_,_,rfl,Br.mk (λh5=> ?_) (λh5=> ?_)⟩
   ·refine bad xr ?_;rw [<-heq,if_pos (by simpa using h5)]
   have her:er=0:=by simpa using h5
   subst her;have Qn:=Jc rfl;rw [if_neg cy] at heq;refine Br.mk (λh6=> ?_) (λh6=>Br.mk (λh7=> ?_) (λh7=> ?_))<;>simp only [beq_iff_eq,beq_eq_false_iff_ne] at h6
   ·refine bad xr ?_;rw [<-heq,if_pos (.inl h6)]
   ·replace h7:=fj h7;refine bad xr ?_;rw [<-heq,if_pos (.inr h7)]
   replace h7:=fh h7;rw [if_neg aa] at heq;rintro dy rfl;obtain ⟨hp,aS⟩:=ak.kD ho (bytes:=16) (news:=rv (sz,c)) (.cells #[sz,c] eW) xr.size rfl (nI _ _ _ _) aa aa;refine ⟨hp,λgZ dJ hr'=> ?_⟩;obtain ⟨k1,ho',_,xb,_,_⟩:=aS gZ dJ hr';have P5:lS w dJ gZ (acc++ [(sz,c)]):=by show ak _ _ 2 _ _ ((acc++ [(sz,c)]).map rv);rw [aT];exact ho'
   have w1:=az (n:=left-sz) (by unfold inI;omega);have w2:=az (n:=(k:Int)+1+kk) (by unfold inI;omega);rw [w1,w2];refine ⟨k1,m-1-kk.toNat,by omega,k+1+kk.toNat,c,acc++ [(sz,c)],by omega,by omega,by omega,by simp;omega,by omega,by omega,xr.trans xb,P5,by simp,by intro q hq;simp at hq;subst hq;rfl,?_⟩;rw [<-heq,<-List.drop_drop];by_cases hz:left-sz=0
   ·rw [if_neg aa,if_pos hz]
   ·rw [if_pos aa,if_neg hz];exact om _ _ _ (by rw [iw];omega) (by rw [iw];omega)
 ·rw [if_neg h,if_neg (by intro e;have:=congrArg List.length e;simp at this;omega)] at heq;exact bad xr heq.symm
 ·rw [if_neg h,if_pos (List.drop_eq_nil_of_le aa)] at heq;exact ⟨⟨o,by rw [<-heq],by rw [<-heq];exact ho⟩,xr⟩
end Go.Proofs.YtalpkjfpmdpbiaaGreatDoor
namespace Go.Proofs.YtalpkjfpmdpbiaaGreatDoor
open Go Go.Vc Go.RowKit Go.Proofs Go.bf Go.Code
def ak.le{B E k:Nat}{w:World}{s:Sl}{rows:List (LV)}(h:ak B E k w s rows):s.n<=s.c:=by
 have ho:=h.own;generalize rows.flatten=xs at ho
 cases ho with
 |nil=>exact ax _
 |row g n c cs hg hr hc hn=>exact hn
def pH{b:List Int}{n:Int}(hb:UL b)(hn:1<=n)(h:(cJ aY b n).2=0):ku (cJ aY b n).1=b/\gI aY (-1) (cJ aY b n).1/\ba (cJ aY b n).1=n:=by obtain ⟨l,e1,e2,e3,e4,_⟩:=wL (may:=aY) (b.length+1) b n (-1) [] hb hn h;rw [Xw] at e1;have e:cJ aY b n=ki aY (b.length+1) b n (-1) []:=rfl;rw [e,e1];exact ⟨e2,e3,e4⟩
def N6{l:List Rn}{last:Int}(h:gI aY last l):∀r ∈ l,inI r.1/\inI r.2:=by intro r hr;have:=h.mem r hr;unfold Go.Vc.inI;omega
end Go.Proofs.YtalpkjfpmdpbiaaGreatDoor
