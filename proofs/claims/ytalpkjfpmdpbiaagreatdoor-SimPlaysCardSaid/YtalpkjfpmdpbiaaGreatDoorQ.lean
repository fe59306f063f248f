import Derived.Test.YtalpkjfpmdpbiaaGreatDoorR
import Derived.Test.YtalpkjfpmdpbiaaGreatDoorP
set_option linter.all false
namespace Go.Proofs.YtalpkjfpmdpbiaaGreatDoor
open Go Go.Vc Go.RowKit Go.Proofs Go.bh Go.Code
abbrev fh:TypeId:=5
abbrev yv(b:Int):LV:=[.int .u8 b]
abbrev eZ(w:World)(s:Sl)(b:List Int):Prop:=RdK w s 1 (b.map yv)
abbrev iP(B:Nat)(w:World)(s:Sl)(b:List Int):Prop:=aj B fh 1 w s (b.map yv)
abbrev Vq(b:List Int):Prop:=∀c ∈ b,0<=c/\c<256
def iP.rM{B:Nat}{w:World}{s:Sl}{c:List Int}(h:iP B w s c):eZ w s c:=aj.rd h aa
def eZ.len{w:World}{s:Sl}{c:List Int}(h:eZ w s c):s.n=c.length:=by have:=h.n;simpa using this
def eZ.c0{w:World}{s:Sl}{l:List Int}(h:eZ w s l){i:Nat}{b:Int}(hi:l[i]? =some b):ld w (ae s.a (i*1))=some (.int .u8 b):=by have:=h.rd i (yv b) (by rw [aV,hi];rfl) 0 _ rfl;simpa using this
def eZ.fp{w:World}{s:Sl}{l:List Int}(h:eZ w s l){i:Nat}(hi:i<l.length):cA s.a (i:Int) s.n:=RdK.fp h aa aa (by have:=eZ.len h;omega)
def v9(n:Int)(w:World)(hi:inI n):
  ah 234 #[n] w λe w'=>∃s:Sl,e=s/\iP w w' s (ie n)/\Ext w w':=by
 apply Hl.vc;refine Br.mk (λh=> ?_) (λh=>Br.mk (λh2=> ?_) (λh2=> ?_))<;>simp only [bA,bV] at*
 ·exact ⟨⟨none,0,0⟩,rfl,by unfold ie;rw [if_pos (.inl h)];exact aj.nil,Ext.bX w⟩
 ·exact ⟨⟨none,0,0⟩,rfl,by unfold ie;rw [if_pos (.inr h2)];exact aj.nil,Ext.bX w⟩
 have e0:ie n=l8 3 n:=by unfold ie;rw [if_neg aa]
 rw [e0];refine ⟨λm x o wr=>∃(k:Nat)(b:List Int),k=m/\1<=k/\k<=3/\0<=x/\x<128 ^ k/\b.length+k=3/\Ext w wr/\iP w wr o b/\b++l8 k x=l8 3 n,⟨3,3,[],rfl,by omega,by omega,by omega,by omega,rfl,Ext.bX w,aj.nil,rfl⟩,?_⟩;rintro m us x o wr ⟨k,b,rfl,k1,k3,Zf,hx,Jj,xr,ho,heq⟩;have BO:=eZ.len (iP.rM ho);apply Br.mk<;>intro h3<;>simp only [bA,bV] at h3
 ·obtain ⟨j,rfl⟩:∃j,k=j+1:=⟨k-1,by omega⟩;rintro w7 rfl;rw [adI x Zf];obtain ⟨hp,aR⟩:=aj.kJ ho (bytes:=1) (news:=yv (128+x % 128)) (.cells #[.int .u8 (128+x % 128)] fh) xr.size rfl (lF _ _) aa aa;refine ⟨hp,λgF dA hr'=> ?_⟩;obtain ⟨k1',ho',_,xb,_,_⟩:=aR gF dA hr';have akM:x.fdiv (2 ^(min (7:Int).toNat 64))=x / 128:=by rw [show ((2:Int) ^(min (7:Int).toNat 64))=128 from by decide];exact Az _ aa
  rw [akM];have hj:1<=j:=by
   rcases tk j with rfl|h
   ·simp at hx;omega
   ·exact h
  refine ⟨k1',j,by omega,j,b++ [128+x % 128],rfl,hj,by omega,by omega,?_,by simp;omega,xr.trans xb,?_,?_⟩
  ·rw [Int.pow_succ] at hx;omega
  ·show aj _ _ 1 _ _ ((b++ [128+x % 128]).map yv);rw [aT];exact ho'
  ·rw [<-heq];show _=b++(if x<128 then [x] else (128+x % 128)::l8 j (x / 128));rw [if_neg aa];simp
 ·rintro w7 rfl;have QK:mg x=x:=by rw [wrap_u8];omega
  rw [QK];obtain ⟨hp,aR⟩:=aj.kJ ho (bytes:=1) (news:=yv x) (.cells #[.int .u8 x] fh) xr.size rfl (lF _ _) aa aa;refine ⟨hp,λgF dA hr'=> ?_⟩;obtain ⟨k1',ho',_,xb,_,_⟩:=aR gF dA hr';refine ⟨k1',gF,rfl,?_,xr.trans xb⟩;rw [<-heq];obtain ⟨j,rfl⟩:∃j,k=j+1:=⟨k-1,by omega⟩;show aj _ _ 1 _ _ ((b++(if x<128 then [x] else (128+x % 128)::l8 j (x / 128))).map yv);rw [if_pos aa,aT];exact ho'
def ux(n:Int)(w:World)(hi:inI n):
  ah 167 #[n] w λe w'=>∃s:Sl,e=s/\iP w w' s (ie n)/\Ext w w':=by
 apply Eu.vc;refine Br.mk (λh=> ?_) (λh=>Br.mk (λh2=> ?_) (λh2=> ?_))<;>simp only [bA,bV] at*
 ·exact ⟨⟨none,0,0⟩,rfl,by unfold ie;rw [if_pos (.inl h)];exact aj.nil,Ext.bX w⟩
 ·exact ⟨⟨none,0,0⟩,rfl,by unfold ie;rw [if_pos (.inr h2)];exact aj.nil,Ext.bX w⟩
 have e0:ie n=l8 3 n:=by unfold ie;rw [if_neg aa]
 rw [e0];refine ⟨λm i x o wr=>∃(k:Nat)(b:List Int),k=m/\1<=k/\k<=3/\i=3-(k:Int)/\0<=x/\x<128 ^ k/\x<=1048576/\b.length+k=3/\Ext w wr/\iP w wr o b/\b++l8 k x=l8 3 n,⟨3,3,[],rfl,by omega,by omega,by omega,by omega,by omega,by omega,rfl,Ext.bX w,aj.nil,rfl⟩,?_⟩;rintro m us i x o wr ⟨k,b,rfl,k1,k3,rfl,Zf,hx,hxm,Jj,xr,ho,heq⟩;have BO:=eZ.len (iP.rM ho);obtain ⟨j,rfl⟩:∃j,k=j+1:=⟨k-1,by omega⟩;have hj:¬x<128->1<=j:=by
  intro hh;rcases tk j with rfl|h
  ·simp at hx;omega
  ·exact h
 refine Br.mk (λh3=>Br.mk (λh4=> ?_) (λh4=> ?_)) (λh3=> ?_)<;>simp only [bA,bV] at*
 ·rintro w7 rfl;have QK:mg x=x:=by rw [wrap_u8];omega
  rw [QK];obtain ⟨hp,aR⟩:=aj.kJ ho (bytes:=1) (news:=yv x) (.cells #[.int .u8 x] fh) xr.size rfl (lF _ _) aa aa;refine ⟨hp,λgF dA hr'=> ?_⟩;obtain ⟨k1',ho',_,xb,_,_⟩:=aR gF dA hr';refine ⟨k1',gF,rfl,?_,xr.trans xb⟩;rw [<-heq];show aj _ _ 1 _ _ ((b++(if x<128 then [x] else (128+x % 128)::l8 j (x / 128))).map yv);rw [if_pos h4,aT];exact ho'
 ·rintro w7 rfl;have htm:Int.tmod x 128=x % 128:=ri Zf;have htd:Int.tdiv x 128=x / 128:=oH Zf;have Xo:=az (n:=128+x % 128) (by unfold inI;omega);have yE:=az (n:=x / 128) (by unfold inI;omega);have J1:=az (n:=3-((j+1:Nat):Int)+1) (by unfold inI;omega);rw [htm,htd,Xo,yE,J1];have QK:mg (128+x % 128)=128+x % 128:=by rw [wrap_u8];omega
  rw [QK];obtain ⟨hp,aR⟩:=aj.kJ ho (bytes:=1) (news:=yv (128+x % 128)) (.cells #[.int .u8 (128+x % 128)] fh) xr.size rfl (lF _ _) aa aa;refine ⟨hp,λgF dA hr'=> ?_⟩;obtain ⟨k1',ho',_,xb,_,_⟩:=aR gF dA hr';have:=hj h4;refine ⟨k1',j,by omega,j,b++ [128+x % 128],rfl,this,by omega,by omega,by omega,?_,by omega,by simp;omega,xr.trans xb,?_,?_⟩
  ·rw [Int.pow_succ] at hx;omega
  ·show aj _ _ 1 _ _ ((b++ [128+x % 128]).map yv);rw [aT];exact ho'
  ·rw [<-heq];show _=b++(if x<128 then [x] else (128+x % 128)::l8 j (x / 128));rw [if_neg h4];simp
 ·omega
end Go.Proofs.YtalpkjfpmdpbiaaGreatDoor
namespace Go.Proofs.YtalpkjfpmdpbiaaGreatDoor
open Go Go.Vc Go.RowKit Go.Proofs Go.bh Go.Code
def drop_cons{α:Type}{l:List α}{k:Nat}{c:α}(h:l[k]? =some c):l.drop k=c::l.drop (k+1):=by obtain ⟨h1,h2⟩:=bH.1 h;rw [kW h1,h2]
def vV(s:Sl)(b:List Int)(w:World)(hs:eZ w s b)(hb:Vq b)(hc:s.n<=s.c):
  ah 160 #[s] w λe w'=>e=Value.tuple #[.int .i64 (dT b).1,.int .i64 (dT b).2.1,.int .i64 (dT b).2.2]/\w'=w:=by
 have hn:=eZ.len hs;apply Hh.vc;have em:(if 3<((s.n:Nat):Int) then 3 else ((s.n:Nat):Int))=((min 3 s.n:Nat):Int):=by split<;>omega
 rw [em];refine ⟨by omega,by omega,?_⟩;refine ⟨λn x y wr=>∃k:Nat,x=k/\k+n=min 3 s.n/\wr=w/\0<=y/\y<128 ^ k/\mG (3-k) k y (b.drop k)=dT b,⟨min 3 s.n,0,rfl,by omega,rfl,by omega,by omega,rfl⟩,?_⟩;rintro n us x y wr ⟨k,rfl,hk,rfl,y0,y1,heq⟩;have hw:=az (n:=(k:Int)+1) (by unfold inI;omega);apply Br.mk<;>intro h<;>simp only [bA,bV] at h
 ·obtain ⟨c,Ud⟩:=aZ (l:=b) (i:=k) aa;have hci:=hb c (bf Ud);rw [drop_cons Ud,show 3-k=(2-k)+1 from by omega,qG] at heq;have cX:=eZ.fp hs (i:=k) aa;obtain ⟨o1,o2⟩:=ZW k aa y c y0 y1 hci.1 hci.2;have hp:=GZ k y c y1;have hp0:0<=(128:Int) ^ k:=Int.pow_nonneg aa;have hm0:0<=c % 128*128 ^ k:=oG aa hp0;refine ⟨⟨?_,by omega,by omega⟩,c,?_,?_⟩
  ·have:=cX.1;unfold aA;split
   ·exact this
   ·rw [Option.isSome_map];exact this
  ·rw [pG];exact eZ.c0 hs Ud
  ·rw [o1,hw];refine VZ.2 ⟨o2,?_⟩;apply Br.mk<;>intro h1<;>simp only [bA,bV] at h1
   ·rw [if_pos h1] at heq;exact ⟨n-1,by omega,k+1,by omega,by omega,rfl,by omega,hp,by rw [show 3-(k+1)=2-k from by omega];exact heq⟩
   ·rw [if_neg h1] at heq;refine Br.mk (λh2=>Br.mk (λh3=> ?_) (λh3=>Br.mk (λh4=> ?_) (λh4=> ?_))) (λh2=>Br.mk (λh4=> ?_) (λh4=> ?_))<;>simp only [bA,bV,beq_iff_eq,beq_eq_false_iff_ne] at*
    ·rw [if_pos (.inl ⟨h2,by omega⟩)] at heq;exact ⟨by rw [<-heq],by first|rfl|trivial⟩
    ·rw [if_pos (.inr h4)] at heq;exact ⟨by rw [<-heq],by first|rfl|trivial⟩
    ·rw [if_neg aa] at heq;exact ⟨by rw [<-heq],by first|rfl|trivial⟩
    ·rw [if_pos (.inr h4)] at heq;exact ⟨by rw [<-heq],by first|rfl|trivial⟩
    ·rw [if_neg aa] at heq;exact ⟨by rw [<-heq],by first|rfl|trivial⟩
 ·have hkm:k=min 3 s.n:=by omega
  apply Br.mk<;>intro h2<;>simp only [bA,bV] at h2
  ·have:b.drop k=[]:=List.drop_eq_nil_of_le aa;rw [this,show 3-k=(2-k)+1 from by omega] at heq;exact ⟨by rw [<-heq];rfl,by first|rfl|trivial⟩
  ·rw [show 3-k=0 from by omega] at heq;exact ⟨by rw [<-heq];rfl,by first|rfl|trivial⟩
def mv(s:Sl)(b:List Int)(w:World)(hs:eZ w s b)(hb:Vq b):
  ah 173 #[s] w λe w'=>e=Value.tuple #[.int .i64 (dT b).1,.int .i64 (dT b).2.1,.int .i64 (dT b).2.2]/\w'=w:=by
 have hn:=eZ.len hs;apply Ev.vc;refine ⟨λn x y z wr=>∃k:Nat,x=k/\k+n=3/\wr=w/\0<=y/\y<128 ^ k/\z=128 ^ k/\mG (3-k) k y (b.drop k)=dT b,⟨3,0,rfl,by omega,rfl,by omega,by omega,rfl,rfl⟩,?_⟩;rintro n us x y z wr ⟨k,rfl,hk,rfl,y0,y1,rfl,heq⟩;have hw:=az (n:=(k:Int)+1) (by unfold inI;omega);refine Br.mk (λh=>Br.mk (λh0=> ?_) (λh0=> ?_)) (λh=> ?_)<;>simp only [bA,bV] at*
 ·have:b.drop k=[]:=List.drop_eq_nil_of_le aa;rw [this,show 3-k=(2-k)+1 from by omega] at heq;exact ⟨by rw [<-heq];rfl,by first|rfl|trivial⟩
 ·obtain ⟨c,Ud⟩:=aZ (l:=b) (i:=k) aa;have hci:=hb c (bf Ud);rw [drop_cons Ud,show 3-k=(2-k)+1 from by omega,qG] at heq;have cX:=eZ.fp hs (i:=k) aa;have hp:=GZ k y c y1;have hp0:1<=(128:Int) ^ k/\(128:Int) ^ k<=16384:=by
   have:k=0\/k=1\/k=2:=by omega
   rcases this with rfl|rfl|rfl<;>decide
  have hm0:0<=c % 128*128 ^ k:=oG aa aa;have VS:(128:Int) ^(k+1)<=2097152:=by rw [Int.pow_succ];omega
  have w1:=az (n:=c) (by unfold inI;omega);have htm:Int.tmod c 128=c % 128:=ri hci.1;have w2:=az (n:=c % 128*128 ^ k) (by unfold inI;omega);have w3:=az (n:=y+c % 128*128 ^ k) (by unfold inI;omega);have w4:=az (n:=(128:Int) ^ k*128) (by unfold inI;omega);refine ⟨cX,c,eZ.c0 hs Ud,?_⟩;rw [w1,htm,w2,w3,hw,w4];apply Br.mk<;>intro h1<;>simp only [bA,bV] at h1
  ·rw [if_pos h1] at heq;exact ⟨n-1,by omega,k+1,by omega,by omega,(by first|rfl|trivial),by omega,hp,(Int.pow_succ _ _).symm,by rw [show 3-(k+1)=2-k from by omega];exact heq⟩
  ·rw [if_neg h1] at heq;refine Br.mk (λh2=>Br.mk (λh3=> ?_) (λh3=>Br.mk (λh4=> ?_) (λh4=> ?_))) (λh2=>Br.mk (λh4=> ?_) (λh4=> ?_))<;>simp only [bA,bV,beq_iff_eq,beq_eq_false_iff_ne] at*
   ·rw [if_pos (.inl ⟨h2,by omega⟩)] at heq;exact ⟨by rw [<-heq],by first|rfl|trivial⟩
   ·rw [if_pos (.inr h4)] at heq;exact ⟨by rw [<-heq],by first|rfl|trivial⟩
   ·rw [if_neg aa] at heq;exact ⟨by rw [<-heq],by first|rfl|trivial⟩
   ·rw [if_pos (.inr h4)] at heq;exact ⟨by rw [<-heq],by first|rfl|trivial⟩
   ·rw [if_neg aa] at heq;exact ⟨by rw [<-heq],by first|rfl|trivial⟩
 ·rw [show 3-k=0 from by omega] at heq;exact ⟨by rw [<-heq];rfl,by first|rfl|trivial⟩
end Go.Proofs.YtalpkjfpmdpbiaaGreatDoor
namespace Go.Proofs.YtalpkjfpmdpbiaaGreatDoor
open Go Go.Vc Go.RowKit Go.Proofs Go.bh Go.Code
abbrev Ny(B:Nat)(l:List Rn)(e:Ending)(w':World):Prop:=
 ∃s:Sl,e=Value.tuple #[s,.int .i64 (if okW ba l then 0 else 1)]/\iP B w' s (if okW ba l then kD l else [])
def DF(left:Int)(r:Rn)(t:List Rn):tI left (r::t)=if r.1<1\/r.1>left then false else tI (left-r.1) t:=rfl
def we(s:Sl)(l:List Rn)(w:World)(hs:ep w s l)(hb:l.length<=2000000)(hl:∀r ∈ l,inI r.1/\inI r.2):
  ah 122 #[s] w λe w'=>Ny w l e w'/\Ext w w':=by
 have kf:=ep.len hs;apply He.vc;refine ⟨λn x y wr=>∃k:Nat,x=k/\k+n=l.length/\Ext w wr/\0<=y/\y<=1048576/\y=bg (l.take k)/\tI (1048576-y) (l.drop k)=tI 1048576 l,⟨l.length,0,rfl,by omega,Ext.bX w,by omega,by omega,rfl,rfl⟩,?_⟩;rintro n us x y wr ⟨k,rfl,hk,xr,y0,y1,rfl,heq⟩;have hw:=az (n:=(k:Int)+1) (by unfold inI;omega);apply Br.mk<;>intro h<;>simp only [bA,bV] at h
 ·obtain ⟨r,hr⟩:=aZ (l:=l) (i:=k) aa;have hd:=drop_cons hr;rw [hd,DF] at heq;have cX:=ep.fp hs (i:=k) aa;have rD:=ep.some hs (i:=k) aa;have hc:=ep.c0 (hs.ext xr) hr;have yE:=az (n:=1048576-bg (l.take k)) (by unfold inI;omega);have bad:(r.1<1\/r.1>1048576-bg (l.take k))->Ny w l (.returned (.tuple #[.slice none 0 0,(1:Int)])) wr/\Ext w wr:=by
   intro hh;rw [if_pos hh] at heq;have:okW ba l=false:=by unfold okW;rw [<-heq];rfl
   refine ⟨⟨⟨none,0,0⟩,by rw [this];rfl,by rw [this];exact aj.nil⟩,xr⟩
  rw [yE];refine ⟨cX,dW.2 ⟨rD,_,hc,Br.mk (λh1=> ?_) (λh1=>⟨cX,dW.2 ⟨rD,_,hc,Br.mk (λh2=> ?_) (λh2=>⟨cX,dW.2 ⟨rD,_,hc,?_⟩⟩)⟩⟩)⟩⟩<;>simp only [bA,bV] at h1
  ·exact bad (.inl h1)
  ·replace h2:=fe h2;exact bad (.inr h2)
  ·replace h2:=eX h2;have J1:=az (n:=bg (l.take k)+r.1) (by unfold inI;omega);rw [if_neg aa] at heq;have e:=gR hr;refine ⟨n-1,by omega,k+1,by omega,by omega,xr,by omega,by omega,by omega,?_⟩;rw [<-heq,J1,<-Int.sub_sub]
 ·have rF:k=l.length:=by omega
  subst rF;rw [List.drop_length] at heq;rw [ko] at y0 y1 ⊢;have Ve:tI 1048576 l=true:=by rw [<-heq];rfl
  have Mj:=(zR Ve).1;refine (A5 s l (bg l) wr (hs.ext xr) (by unfold Bd;omega) (by unfold inI;omega)).mono ?_;rintro e w1 ⟨rfl,x1⟩;have aU:okW ba l=ju ba l (bg l):=by unfold okW;rw [Ve];rfl
  have oU:=xr.tr x1;refine ⟨_,rfl,Br.mk (λh2=> ?_) (λh2=> ?_)⟩
  ·have:okW ba l=false:=by rw [aU];simpa using h2
   exact ⟨⟨⟨none,0,0⟩,by rw [this];rfl,by rw [this];exact aj.nil⟩,oU⟩
  ·have Vf:okW ba l=true:=by rw [aU];simpa using h2
   refine ⟨λn x o wr=>∃k:Nat,x=k/\k+n=l.length/\Ext w wr/\iP w wr o (kD (l.take k)),⟨l.length,0,rfl,by omega,oU,aj.nil⟩,?_⟩;rintro n2 oB x2 o w2 ⟨j,rfl,hj,x2,ho⟩;have Xe:=az (n:=(j:Int)+1) (by unfold inI;omega);apply Br.mk<;>intro h<;>simp only [bA,bV] at h
   ·obtain ⟨r,hr⟩:=aZ (l:=l) (i:=j) aa;have hri:=hl r (bf hr);have cX:=ep.fp hs (i:=j) aa;have rD:=ep.some hs (i:=j) aa;have BO:=eZ.len (iP.rM ho);have yk:=Ei (l.take j);rw [bF] at yk;refine ⟨cX,dW.2 ⟨rD,_,ep.c1 (hs.ext x2) hr,?_⟩⟩;rintro dY rfl;rw [wrap_u8];obtain ⟨hp,aR⟩:=aj.kJ ho (bytes:=1) (news:=yv (r.2 % 256)) (.cells #[.int .u8 (r.2 % 256)] fh) x2.size rfl (lF _ _) aa aa;refine ⟨hp,λjk ct hr'=> ?_⟩;obtain ⟨k1,ho',hn',xb,_,Jj⟩:=aR jk ct hr';have eK:Ext w ct:=x2.trans xb;have fH:w2.heap.size<ct:=by have e:(w2.alloc (.cells #[.int .u8 (r.2 % 256)] fh)).heap[w2.heap.size]? =some (.cells #[.int .u8 (r.2 % 256)] fh (0,0)):=Row.new w2 [.int .u8 (r.2 % 256)] fh;rw [<-k1] at e;exact (mQ.1 e).1
    refine ⟨k1,cX,dW.2 ⟨rD,_,ep.c0 (hs.ext eK) hr,(ux r.1 ct hri.1).mono ?_⟩⟩;rintro e fy ⟨sn,rfl,on,de⟩;have Vv:=eZ.len (iP.rM on);have Jl:=tJ r.1;refine ⟨sn,rfl,de.heap fH,((ie r.1).map yv).flatten,RdK.flat (iP.rM on) aa,?_⟩;have ho3:aj w fh 1 fy jk _:=aj.ext ho' de;obtain ⟨VS,hres2⟩:=aj.kl ho3 (bytes:=1) (more:=(ie r.1).map yv) (eK.tr de).size cx (by intro q hq;obtain ⟨c,_,rfl⟩:=aS.1 hq;exact lF _ _) (by simp;omega) (by simp;omega);rw [aB] at VS hres2;rw [Vv];refine ⟨VS,λlW eN mM=> ?_⟩;obtain ⟨VU,_,xb2,BN,_⟩:=hres2 lW eN mM;have dN:jk.bj≠some w2.heap.size:=by
     rcases Jj with h|h
     ·rw [h];intro hb;exact absurd (ho.own.lt hb).2 (tA _)
     ·rw [h];intro hb;simp at hb
    refine ⟨BN _ dN (kR fH de.size),n2-1,by omega,j+1,by omega,by omega,(eK.tr de).trans xb2,?_⟩;rw [G0 hr];show aj _ _ 1 _ _ ((kD (l.take j)++(r.2 % 256::ie r.1)).map yv);rw [aT,dG];have:=VU;rw [mX] at this;exact this
   ·have:j=l.length:=by omega
    subst this;rw [ko] at ho;exact ⟨⟨o,by rw [Vf];rfl,by rw [Vf];exact ho⟩,x2⟩
end Go.Proofs.YtalpkjfpmdpbiaaGreatDoor
namespace Go.Proofs.YtalpkjfpmdpbiaaGreatDoor
open Go Go.Vc Go.RowKit Go.Proofs Go.bh Go.Code
def xQ(s:Sl)(l:List Rn)(w:World)(hs:ep w s l)(hb:l.length<=2000000)(hl:∀r ∈ l,inI r.1/\inI r.2):
  ah 196 #[s] w λe w'=>Ny w l e w'/\Ext w w':=by
 have kf:=ep.len hs;apply KL.vc;refine ⟨λn x y wr=>∃k:Nat,x=k/\k+n=l.length/\Ext w wr/\0<=y/\y<=1048576/\y=1048576-bg (l.take k)/\tI y (l.drop k)=tI 1048576 l,⟨l.length,0,rfl,by omega,Ext.bX w,by omega,by omega,rfl,rfl⟩,?_⟩;rintro n us x y wr ⟨k,rfl,hk,xr,y0,y1,hy,heq⟩;have hw:=az (n:=(k:Int)+1) (by unfold inI;omega);apply Br.mk<;>intro h<;>simp only [bA,bV] at h
 ·obtain ⟨r,hr⟩:=aZ (l:=l) (i:=k) aa;have hd:=drop_cons hr;rw [hd,DF] at heq;refine ⟨ep.fp hs aa,_,_,ep.ll (hs.ext xr) hr,?_⟩;rintro w9 rfl bL rfl;have bq:=((xr.tr (Ext.al _ (.cells #[af,af] fb))).setRow xr.size #[.int .i64 r.1,.int .i64 r.2]);have bad:∀w',Ext w w'->(r.1<1\/r.1>y)->Ny w l (.returned (.tuple #[.slice none 0 0,(1:Int)])) w'/\Ext w w':=by
   intro w' x' hh;rw [if_pos hh] at heq;have:okW ba l=false:=by unfold okW;rw [<-heq];rfl
   exact ⟨⟨⟨none,0,0⟩,by rw [this];rfl,by rw [this];exact aj.nil⟩,x'⟩
  refine Br.mk (λh1=> ?_) (λh1=>Br.mk (λh2=> ?_) (λh2=> ?_))<;>simp only [bA,bV] at h1
  ·exact bad _ bq (.inl h1)
  ·replace h2:=fe h2;have hri:=hl r (bf hr);unfold inI at hri;have yE:=az (n:=y-r.1) (by unfold inI;omega);exact bad _ bq (.inr aa)
  ·replace h2:=eX h2;have hri:=hl r (bf hr);unfold inI at hri;have yE:=az (n:=y-r.1) (by unfold inI;omega);rw [if_neg aa] at heq;have e:=gR hr;refine ⟨n-1,by omega,k+1,by omega,by omega,bq,by omega,by omega,by omega,?_⟩;rw [<-heq,yE]
 ·have rF:k=l.length:=by omega
  subst rF;rw [List.drop_length] at heq;rw [ko] at hy;have Ve:tI 1048576 l=true:=by rw [<-heq];rfl
  have Mj:=(zR Ve).1;refine (mK s l wr (hs.ext xr) (by unfold Bd;omega) (λr hr=>by have:=Mj r hr;omega) aa).mono ?_;rintro e w0 ⟨rfl,x0⟩;refine ⟨_,rfl,(rC s l (bg l) w0 ((hs.ext xr).ext x0) (by unfold Bd;omega) (by unfold inI;omega)).mono ?_⟩;rintro e w1 ⟨rfl,x1⟩;have aU:okW ba l=ju ba l (bg l):=by unfold okW;rw [Ve];rfl
  have oU:=(xr.tr x0).tr x1;refine ⟨_,rfl,Br.mk (λh2=> ?_) (λh2=> ?_)⟩
  ·have:okW ba l=false:=by rw [aU];simpa using h2
   exact ⟨⟨⟨none,0,0⟩,by rw [this];rfl,by rw [this];exact aj.nil⟩,oU⟩
  ·have Vf:okW ba l=true:=by rw [aU];simpa using h2
   refine ⟨λn x o wr=>∃k:Nat,x=k/\k+n=l.length/\Ext w wr/\iP w wr o (kD (l.take k)),⟨l.length,0,rfl,by omega,oU,aj.nil⟩,?_⟩;rintro n2 oB x2 o w2 ⟨j,rfl,hj,x2,ho⟩;have Xe:=az (n:=(j:Int)+1) (by unfold inI;omega);apply Br.mk<;>intro h<;>simp only [bA,bV] at h
   ·obtain ⟨r,hr⟩:=aZ (l:=l) (i:=j) aa;have hri:=hl r (bf hr);have BO:=eZ.len (iP.rM ho);have yk:=Ei (l.take j);rw [bF] at yk;refine ⟨ep.fp hs aa,_,_,ep.ll (hs.ext x2) hr,?_⟩;rintro fy rfl eh acy hZ rfl;have da:Ext w eh:=by rw [acy];exact ((x2.tr (Ext.al _ (.cells #[af,af] fb))).setRow x2.size #[.int .i64 r.1,.int .i64 r.2])
    have jx:Row eh w2 [.int .i64 r.1,.int .i64 r.2] fb:=by rw [acy];exact (Row.new w2 [af,af] fb).set [.int .i64 r.1,.int .i64 r.2]
    have uQ:iP w eh.drew o (kD (l.take j)):=by refine aj.ext (aj.bM ho (w':=eh) ?_) (Ext.dr _);intro g hg;have:=(ho.own.lt hg).2;rw [acy,setRow_other _ _ _ _ aa];exact (Ext.al _ _).heap this
    have hlt25:=jx.lt;have xd:=da.drew;have hrowd:=jx.ext (Ext.dr eh);have hz:=kQ eh;rw [wrap_u8];obtain ⟨hp,aR⟩:=aj.kJ uQ (bytes:=1) (news:=yv (r.2 % 256)) (.cells #[.int .u8 (r.2 % 256)] fh) xd.size rfl (lF _ _) aa aa;refine ⟨hp,λlW eN hr'=> ?_⟩;obtain ⟨k1,ho',hn',xb,JV,Jj⟩:=aR lW eN hr';have eS:Ext w eN:=xd.trans xb;have Cv:o.bj≠some w2.heap.size:=λhb=>absurd (ho.own.lt hb).2 (tA _)
    have afX:eN.heap[w2.heap.size]? =eh.drew.heap[w2.heap.size]? :=JV _ Cv aa;have hrow28:=hrowd.same afX;have hlt28:=hrow28.lt;have hlt28':eh.drew.heap.size<eN:=by have e:(eh.drew.alloc (.cells #[.int .u8 (r.2 % 256)] fh)).heap[eh.drew.heap.size]? =some (.cells #[.int .u8 (r.2 % 256)] fh (0,0)):=Row.new eh.drew [.int .u8 (r.2 % 256)] fh;rw [<-k1] at e;exact (mQ.1 e).1
    have ll0:∀{w'},Row w' w2 [.int .i64 r.1,.int .i64 r.2] fb->au w' (bu w2.heap.size) 0 [.int .i64 r.1]:=λhh=>hh.aY (o:=0) λj hj=>by
     have:j=0:=by simpa using hj
     subst this;rfl
    have ll1:∀{w'},Row w' w2 [.int .i64 r.1,.int .i64 r.2] fb->au w' (lX w2.heap.size 1) 0 [.int .i64 r.2]:=λhh=>hh.aY (o:=1) λj hj=>by
     have:j=0:=by simpa using hj
     subst this;rfl
    refine ⟨?_,k1,ll0 hrow28,ll1 hrow28,(v9 r.1 eN hri.1).mono ?_⟩
    ·rw [afX];symm;exact (Ext.al _ _).heap aa
    rintro e fP ⟨sn,rfl,on,iO⟩;have Vv:=eZ.len (iP.rM on);have Jl:=tJ r.1;have hrow29:=hrow28.ext iO;refine ⟨sn,rfl,iO.heap hlt28,iO.heap hlt28',ll1 hrow29,((ie r.1).map yv).flatten,RdK.flat (iP.rM on) aa,?_⟩;have ho3:aj w fh 1 fP lW _:=aj.ext ho' iO;obtain ⟨VS,hres2⟩:=aj.kl ho3 (bytes:=1) (more:=(ie r.1).map yv) (eS.tr iO).size cx (by intro q hq;obtain ⟨c,_,rfl⟩:=aS.1 hq;exact lF _ _) (by simp;omega) (by simp;omega);rw [aB] at VS hres2;rw [Vv];refine ⟨VS,λiW lz mM=> ?_⟩;obtain ⟨VU,_,xb2,BN,_⟩:=hres2 iW lz mM;have dN:lW.bj≠some w2.heap.size:=by
     rcases Jj with h|h
     ·rw [h];exact Cv
     ·rw [h];intro hb;simp at hb;omega
    have hne2:lW.bj≠some eh.drew.heap.size:=by
     rcases Jj with h|h
     ·rw [h];intro hb;exact absurd (uQ.own.lt hb).2 (tA _)
     ·rw [h];intro hb;simp at hb
    have afY:=BN _ dN (kR hlt28 iO.size);refine ⟨afY,BN _ hne2 (kR hlt28' iO.size),ll1 (hrow29.same afY),n2-1,by omega,j+1,by omega,by omega,(eS.tr iO).trans xb2,?_⟩;rw [G0 hr];show aj _ _ 1 _ _ ((kD (l.take j)++(r.2 % 256::ie r.1)).map yv);rw [aT,dG];have:=VU;rw [mX] at this;exact this
   ·have:j=l.length:=by omega
    subst this;rw [ko] at ho;exact ⟨⟨o,by rw [Vf];rfl,by rw [Vf];exact ho⟩,x2⟩
end Go.Proofs.YtalpkjfpmdpbiaaGreatDoor
namespace Go.Proofs.YtalpkjfpmdpbiaaGreatDoor
open Go Go.Vc Go.RowKit Go.Proofs Go.bh Go.Code
def vp(b:List Int):∀r ∈ b.map yv,One r:=by intro q hq;obtain ⟨c,_,rfl⟩:=aS.1 hq;exact lF _ _
end Go.Proofs.YtalpkjfpmdpbiaaGreatDoor
namespace Go.Proofs.YtalpkjfpmdpbiaaGreatDoor
open Go Go.Vc Go.RowKit Go.Proofs Go.bh Go.Code
end Go.Proofs.YtalpkjfpmdpbiaaGreatDoor
namespace Go.Proofs.YtalpkjfpmdpbiaaGreatDoor
open Go Go.Vc Go.RowKit Go.Proofs Go.bh Go.Code
end Go.Proofs.YtalpkjfpmdpbiaaGreatDoor
namespace Go.Proofs.YtalpkjfpmdpbiaaGreatDoor
open Go Go.Vc Go.RowKit Go.Proofs Go.bh Go.Code
abbrev IZ(B:Nat)(p:List Rn × Int)(e:Ending)(w':World):Prop:=
 ∃s:Sl,e=Value.tuple #[s,p.2]/\lS B w' s p.1
def oy(may:Int->Bool)(f:Nat)(c:Int)(t:List Int)(n last:Int)(acc:List Rn):ks may (f+1) (c::t) n last acc=
  if may c=false\/c=last then ([],2)
  else if (dT t).2.2≠0 then ([],(dT t).2.2)
  else if (dT t).1=0\/(dT t).1>n then ([],2)
  else if n-(dT t).1=0 then (if t.drop (dT t).2.1.toNat=[] then (acc++ [((dT t).1,c)],0) else ([],2))
  else ks may f (t.drop (dT t).2.1.toNat) (n-(dT t).1) c (acc++ [((dT t).1,c)]):=rfl
def Mb{B:Nat}{p:List Rn × Int}{q:Int}{w':World}(h:p=([],q)):IZ B p (.returned (.tuple #[.slice none 0 0,q])) w':=by subst h;exact ⟨⟨none,0,0⟩,rfl,aj.nil⟩
def oz{may:Int->Bool}:∀(f g:Nat)(b:List Int) {n last:Int} {acc:List Rn} (_:b.length<f) (_:b.length<g),ks may f b n last acc=ks may g b n last acc
 |0,_,_,_,_,_,h,_=>by omega
 |_+1,0,_,_,_,_,_,h=>by omega
 |f+1,g+1,[],_,_,_,_,_=>rfl
 |f+1,g+1,c::t,n,last,acc,h1,h2=>by
  rw [oy,oy]
  have hd:=tL 3 0 0 t aa
  rw [show mG 3 0 0 t=dT t from rfl] at hd
  simp only [fX] at h1 h2
  rw [oz f g (t.drop (dT t).2.1.toNat) (by rw [iC];omega) (by rw [iC];omega)]
def A7(s:Sl)(b:List Int)(n:Int)(w:World)(hs:eZ w s b)(hb:Vq b)(hc:s.n<=s.c)(hl:b.length<=1099511627776)(hn:1<=n)(hn':inI n):
  ah 119 #[s,n] w λe w'=>IZ w (cL ba b n) e w'/\Ext w w':=by
 unfold inI at hn';apply Oq.vc;refine ⟨λm s3 last left o wr=>∃(b':List Int)(acc:List Rn),m=b'.length/\eZ w s3 b'/\s3.n<=s3.c/\Vq b'/\acc.length+b'.length<=b.length/\1<=left/\left<=n/\Ext w wr/\lS w wr o acc/\ks ba (b'.length+1) b' left last acc=cL ba b n,⟨b.length,b,[],rfl,hs,hc,hb,by simp,hn,by omega,Ext.bX w,aj.nil,rfl⟩,?_⟩;rintro m us s3 last left o wr ⟨b',acc,rfl,h3,h3c,hb',alE,hl1,FQ,xr,ho,heq⟩;have XN:=eZ.len h3;apply Br.mk<;>intro h<;>simp only [bA,bV] at h
 ·obtain ⟨c,t,rfl⟩:∃c t,b'=c::t:=by
   cases b' with
   |nil=>simp at XN;omega
   |cons c t=>exact ⟨c,t,rfl⟩
  have hci:=hb' c (.head _);have htI:Vq t:=λq hq=>hb' q (.tail _ hq)
  simp only [fX] at XN alE;rw [oy] at heq;have hwc:=az (n:=c) (by unfold inI;omega);have hrt:eZ wr ⟨aA s3.a 1 s3.n 1,s3.n-1,s3.n-1⟩ t:=by have:=RdK.rest (h3.ext xr) (l:=1) (m:=s3.n) (n':=s3.n-1) (c':=s3.n-1) (by rw [aB,fX];omega) (λe=>by rw [aB,fX];omega);exact this
  refine ⟨eZ.fp h3 (i:=0) cx,c,eZ.c0 (h3.ext xr) (i:=0) rfl,?_⟩;rw [hwc];rintro bL rfl cB acw;have bR:Ext w cB:=by rw [acw];exact ((xr.tr (Ext.al _ (.cells #[af,af] fb))).setRow xr.size #[af,.int .i64 c])
  have afR:Ext wr cB:=by rw [acw];exact ((Ext.al wr (.cells #[af,af] fb)).setRow (ax _) #[af,.int .i64 c])
  have jx:Row cB wr [af,.int .i64 c] fb:=by rw [acw];exact (Row.new wr [af,af] fb).set [af,.int .i64 c]
  have bad:∀{q:Int} {w':World},Ext w w'->cL ba b n=([],q)->IZ w (cL ba b n) (.returned (.tuple #[.slice none 0 0,.int .i64 q])) w'/\Ext w w':=λx' e=>⟨Mb e,x'⟩
  refine (gX c cB).mono ?_;rintro e bS ⟨rfl,bU⟩;have qu:=bR.tr bU;have hrow12:=jx.ext bU;refine ⟨_,rfl,bU.heap jx.lt,Br.mk (λh1=> ?_) (λh1=>Br.mk (λh2=> ?_) (λh2=> ?_))⟩
  ·refine bad qu ?_;rw [<-heq,if_pos (.inl (by simpa using h1))]
  ·refine bad qu ?_;rw [<-heq,if_pos (.inr (by simpa using h2))]
  have hm:ba c=true:=by simpa using h1
  have hl':c≠last:=by simpa using h2
  rw [if_neg (by rw [hm];simp [hl'])] at heq;refine ⟨by omega,by omega,by omega,by omega,by omega,by omega,?_⟩;refine (vV ⟨aA s3.a 1 s3.n 1,s3.n-1,s3.n-1⟩ t bS ((hrt.ext afR).ext bU) htI (ax _)).mono ?_;rintro e bY ⟨rfl,rfl⟩;have JP:=tL 3 0 0 t aa;rw [show mG 3 0 0 t=dT t from rfl] at JP;generalize dT t=d at*;obtain ⟨sz,kk,er⟩:=d;simp only at*;refine ⟨_,_,_,rfl,(by first|rfl|trivial),Br.mk (λYx=> ?_) (λYx=> ?_)⟩
  ·refine bad qu ?_;rw [<-heq,if_pos (by simpa using Yx)]
  have her:er=0:=by simpa using Yx
  subst her;have hd:=JP rfl;rw [if_neg cx] at heq;refine Br.mk (λh4=> ?_) (λh4=>Br.mk (λh5=> ?_) (λh5=> ?_))<;>simp only [beq_iff_eq,beq_eq_false_iff_ne,bA,bV] at h4
  ·refine bad qu ?_;rw [<-heq,if_pos (.inl h4)]
  ·replace h5:=fe h5;refine bad qu ?_;rw [<-heq,if_pos (.inr h5)]
  replace h5:=eX h5;rw [if_neg aa] at heq;have hwl:=az (n:=left-sz) (by unfold inI;omega);have BR:=az (n:=1+kk) (by unfold inI;omega);rw [hwl,BR];rintro dA acx;have cf:Ext w dA:=by rw [acx];exact qu.setRow xr.size _
  have Qy:lS w bY o acc:=aj.ext ho (afR.tr bU);have XS:lS w dA.drew o acc:=by refine aj.ext (aj.bM Qy (w':=dA) ?_) (Ext.dr _);intro g hg;have:=(ho.own.lt hg).2;rw [acx,setRow_other _ _ _ _ aa]
  have hlt18:wr.heap.size<dA:=by rw [acx,setRow_size];exact hrow12.lt
  have xd:=cf.drew;have hz:=kQ dA;have BO:=ep.len XS.rS;refine ⟨by omega,by omega,?_⟩;rintro ft rfl;obtain ⟨hp,aR⟩:=aj.kJ XS (bytes:=16) (news:=rv (sz,c)) (.cells #[sz,.int .i64 c] fb) xd.size rfl (nO _ _ _ _) aa aa;refine ⟨hp,λsM ef hr'=> ?_⟩;obtain ⟨k1,ho',_,xb,JV,_⟩:=aR sM ef hr';have fT:Ext w ef:=xd.trans xb;have QE:lS w ef sM (acc++ [(sz,c)]):=by show aj _ _ 2 _ _ ((acc++ [(sz,c)]).map rv);rw [aT];exact ho'
  have hkeep:ef.heap[wr.heap.size]? =(dA.drew.alloc (.cells #[sz,.int .i64 c] fb)).heap[wr.heap.size]? :=by rw [JV _ (λhb=>absurd (ho.own.lt hb).2 (tA _)) aa];symm;exact (Ext.al _ _).heap aa
  have Qj:(t.drop kk.toNat).length=t.length-kk.toNat:=iC;refine ⟨hkeep,k1,Br.mk (λh6=>Br.mk (λh7=> ?_) (λh7=>Br.mk (λh8=> ?_) (λh8=> ?_))) (λh6=> ?_)⟩<;>simp only [beq_iff_eq,beq_eq_false_iff_ne] at h6
  ·simp only [bA] at h7;omega
  ·replace h8:=fe h8;rw [if_pos h6,if_neg (by intro e;rw [e] at Qj;simp at Qj;omega)] at heq;exact bad fT heq.symm
  ·replace h8:=eX h8;rw [if_pos h6,if_pos (tu aa)] at heq;refine ⟨⟨sM,by rw [<-heq],by rw [<-heq];exact QE⟩,fT⟩
  ·rw [if_neg h6] at heq;have hrest:=RdK.rest h3 (l:=(1+kk).toNat) (m:=s3.c) (n':=s3.n-(1+kk).toNat) (c':=s3.c-(1+kk).toNat) (by rw [aB,fX];omega) (λe=>by rw [aB,fX];omega);rw [show (1+kk).toNat=kk.toNat+1 from by omega,dG,List.drop_succ_cons,<-List.map_drop] at hrest;rw [show (1+kk).toNat=kk.toNat+1 from by omega];refine ⟨(t.drop kk.toNat).length,by simp only [fX];omega,t.drop kk.toNat,acc++ [(sz,c)],rfl,hrest,by show s3.n-(kk.toNat+1)<=s3.c-(kk.toNat+1);omega,λq hq=>htI q (oE hq),by simp only [eP,fX,Nu];omega,by omega,by omega,fT,QE,?_⟩;rw [<-heq];exact oz _ _ _ aa (by simp only [fX];omega)
 ·have:b'=[]:=tu aa;subst this;have e:cL ba b n=([],3):=by rw [<-heq];show (if left>0 then ([],3) else (acc,0))=_;rw [if_pos aa]
  refine Br.mk (λ_=>⟨Mb e,xr⟩) (λh2=> ?_);replace h2:=eX h2;omega
end Go.Proofs.YtalpkjfpmdpbiaaGreatDoor
namespace Go.Proofs.YtalpkjfpmdpbiaaGreatDoor
open Go Go.Vc Go.RowKit Go.Proofs Go.bh Go.Code
def yh(s:Sl)(b:List Int)(n:Int)(w:World)(hs:eZ w s b)(hb:Vq b)(hl:b.length<=1099511627776)(hsc:s.n<=s.c)(hn:1<=n)(hn':inI n):
  ah 126 #[s,n] w λe w'=>IZ w (cL ba b n) e w'/\Ext w w':=by
 have kf:=eZ.len hs;unfold inI at hn';apply KI.vc;refine ⟨λm left i o wr=>∃(k:Nat)(last:Int)(acc:List Rn),i=k/\k<=b.length/\m+k=b.length/\acc.length<=k/\0<=left/\left<=n/\Ext w wr/\lS w wr o acc/\
   (acc=[]->last= -1)/\(∀q,acc.getLast? =some q->q.2=last)/\
   (if left>0 then ks ba (b.length-k+1) (b.drop k) left last acc else if b.drop k=[] then (acc,0) else ([],2))=cL ba b n,⟨b.length,0,-1,[],rfl,by omega,by omega,by simp,by omega,by omega,Ext.bX w,aj.nil,λ_=>rfl,by simp,by rw [if_pos aa];rfl⟩,?_⟩
 rintro m us left i o wr ⟨k,last,acc,rfl,Yv,hmk,hak,hl0,hl1,xr,ho,hlast0,hlast,heq⟩;have bad:∀{q:Int} {w':World},Ext w w'->cL ba b n=([],q)->IZ w (cL ba b n) (.returned (.tuple #[.slice none 0 0,.int .i64 q])) w'/\Ext w w':=λx' e=>⟨Mb e,x'⟩
 refine Br.mk (λh=>Br.mk (λh2=> ?_) (λh2=> ?_)) (λh=>Br.mk (λh2=> ?_) (λh2=> ?_))<;>simp only [bA,bV] at h h2
 ·have hd:b.drop k=[]:=List.drop_eq_nil_of_le aa;rw [if_pos h,hd,show b.length-k+1=(b.length-k)+1 from rfl] at heq;refine bad xr ?_;rw [<-heq];show (if left>0 then ([],3) else (acc,0))=_;rw [if_pos h]
 ·obtain ⟨c,hck⟩:=aZ (l:=b) (i:=k) aa;have hci:=hb c (bf hck);have hd:=drop_cons hck;have hwc:=az (n:=c) (by unfold inI;omega);have BR:=az (n:=(k:Int)+1) (by unfold inI;omega);rw [if_pos h,hd,oy] at heq;have cX:=eZ.fp hs (i:=k) aa;refine ⟨cX,c,eZ.c0 (hs.ext xr) hck,?_⟩;rw [hwc,BR];refine (gP c wr).mono ?_;rintro e w9 ⟨rfl,rfl⟩;refine ⟨_,rfl,Br.mk (λh1=> ?_) (λh1=> ?_)⟩
  ·refine bad xr ?_;rw [<-heq,if_pos (.inl (by simpa using h1))]
  have hm:ba c=true:=by simpa using h1
  have htI:Vq (b.drop (k+1)):=λq hq=>hb q (oE hq)
  have hrest:=RdK.rest (hs.ext xr) (l:=k+1) (m:=s.c) (n':=s.n-(k+1)) (c':=s.c-(k+1)) (by rw [aB];omega) (λe=>by rw [aB];omega);rw [<-List.map_drop] at hrest;have Qj:(b.drop (k+1)).length=b.length-(k+1):=iC;rw [show ((k:Int)+1).toNat=k+1 from by omega];have JP:=tL 3 0 0 (b.drop (k+1)) aa;rw [show mG 3 0 0 (b.drop (k+1))=dT (b.drop (k+1)) from rfl] at JP;have BO:=ep.len ho.rS;have dN:Br (decide ((((o.n:Nat):Int):Int)>0)) (c=last\/c≠last) (c≠last):=by refine Br.mk (λ_=>Decidable.em _) (λh3=> ?_);replace h3:=eX h3;have:=hlast0 (tu aa);omega
  apply Br.mk<;>intro h3
  ·replace h3:=fe h3;have hwo:=az (n:=((o.n:Nat):Int)-1) (by unfold inI;omega);rw [hwo];rw [show (if 0>((o.n:Nat):Int)-1 then 0 else ((o.n:Nat):Int)-1)=((o.n-1:Nat):Int) from by split<;>omega];obtain ⟨q,hq⟩:=aZ (l:=acc) (i:=o.n-1) aa;have hql:=hlast q (by rw [List.getLast?_eq_getElem?,<-BO];exact hq);refine ⟨ep.fp ho.rS aa,dW.2 ⟨ep.some ho.rS (i:=o.n-1) aa,_,ep.c1 ho.rS hq,Br.mk (λh4=> ?_) (λh4=> ?_)⟩⟩<;>simp only [beq_iff_eq,beq_eq_false_iff_ne] at h4
   ·refine bad xr ?_;rw [<-heq,if_pos (.inr aa)]
   ·have P7:c≠last:=by omega
    rw [if_neg (by rw [hm];simp [P7])] at heq;refine ⟨by omega,by omega,?_⟩;refine (mv ⟨aA s.a (k+1) s.c 1,s.n-(k+1),s.c-(k+1)⟩ (b.drop (k+1)) _ hrest htI).mono ?_;rintro e bS ⟨rfl,rfl⟩;generalize dT (b.drop (k+1))=d at*;obtain ⟨sz,kk,er⟩:=d;simp only at heq JP;refine ⟨_,_,_,rfl,Br.mk (λh5=> ?_) (λh5=> ?_)⟩
    ·refine bad xr ?_;rw [<-heq,if_pos (by simpa using h5)]
    have her:er=0:=by simpa using h5
    subst her;have QR:=JP rfl;rw [if_neg cx] at heq;refine Br.mk (λh6=> ?_) (λh6=>Br.mk (λh7=> ?_) (λh7=> ?_))<;>simp only [beq_iff_eq,beq_eq_false_iff_ne] at h6
    ·refine bad xr ?_;rw [<-heq,if_pos (.inl h6)]
    ·replace h7:=fe h7;refine bad xr ?_;rw [<-heq,if_pos (.inr h7)]
    replace h7:=eX h7;rw [if_neg aa] at heq;rintro cY rfl;obtain ⟨hp,aR⟩:=aj.kJ ho (bytes:=16) (news:=rv (sz,c)) (.cells #[sz,c] fb) xr.size rfl (nO _ _ _ _) aa aa;refine ⟨hp,λgF dA hr'=> ?_⟩;obtain ⟨k1,ho',_,xb,_,_⟩:=aR gF dA hr';have QE:lS w dA gF (acc++ [(sz,c)]):=by show aj _ _ 2 _ _ ((acc++ [(sz,c)]).map rv);rw [aT];exact ho'
    have w1:=az (n:=left-sz) (by unfold inI;omega);have w2:=az (n:=(k:Int)+1+kk) (by unfold inI;omega);rw [w1,w2];refine ⟨k1,m-1-kk.toNat,by omega,k+1+kk.toNat,c,acc++ [(sz,c)],by omega,by omega,by omega,by simp;omega,by omega,by omega,xr.trans xb,QE,by simp,by intro q hq;simp at hq;subst hq;rfl,?_⟩;rw [<-heq,<-List.drop_drop];by_cases hz:left-sz=0
    ·rw [if_neg aa,if_pos hz]
    ·rw [if_pos aa,if_neg hz];exact oz _ _ _ (by rw [iC];omega) (by rw [iC];omega)
  ·have P7:c≠last:=Br.ff dN h3;rw [if_neg (by rw [hm];simp [P7])] at heq;refine ⟨by omega,by omega,?_⟩;refine (mv ⟨aA s.a (k+1) s.c 1,s.n-(k+1),s.c-(k+1)⟩ (b.drop (k+1)) _ hrest htI).mono ?_;rintro e bS ⟨rfl,rfl⟩;generalize dT (b.drop (k+1))=d at*;obtain ⟨sz,kk,er⟩:=d;simp only at heq JP;refine ⟨_,_,_,rfl,Br.mk (λh5=> ?_) (λh5=> ?_)⟩
   ·refine bad xr ?_;rw [<-heq,if_pos (by simpa using h5)]
   have her:er=0:=by simpa using h5
   subst her;have QR:=JP rfl;rw [if_neg cx] at heq;refine Br.mk (λh6=> ?_) (λh6=>Br.mk (λh7=> ?_) (λh7=> ?_))<;>simp only [beq_iff_eq,beq_eq_false_iff_ne] at h6
   ·refine bad xr ?_;rw [<-heq,if_pos (.inl h6)]
   ·replace h7:=fe h7;refine bad xr ?_;rw [<-heq,if_pos (.inr h7)]
   replace h7:=eX h7;rw [if_neg aa] at heq;rintro cY rfl;obtain ⟨hp,aR⟩:=aj.kJ ho (bytes:=16) (news:=rv (sz,c)) (.cells #[sz,c] fb) xr.size rfl (nO _ _ _ _) aa aa;refine ⟨hp,λgF dA hr'=> ?_⟩;obtain ⟨k1,ho',_,xb,_,_⟩:=aR gF dA hr';have QE:lS w dA gF (acc++ [(sz,c)]):=by show aj _ _ 2 _ _ ((acc++ [(sz,c)]).map rv);rw [aT];exact ho'
   have w1:=az (n:=left-sz) (by unfold inI;omega);have w2:=az (n:=(k:Int)+1+kk) (by unfold inI;omega);rw [w1,w2];refine ⟨k1,m-1-kk.toNat,by omega,k+1+kk.toNat,c,acc++ [(sz,c)],by omega,by omega,by omega,by simp;omega,by omega,by omega,xr.trans xb,QE,by simp,by intro q hq;simp at hq;subst hq;rfl,?_⟩;rw [<-heq,<-List.drop_drop];by_cases hz:left-sz=0
   ·rw [if_neg aa,if_pos hz]
   ·rw [if_pos aa,if_neg hz];exact oz _ _ _ (by rw [iC];omega) (by rw [iC];omega)
 ·rw [if_neg h,if_neg (by intro e;have:=congrArg List.length e;simp at this;omega)] at heq;exact bad xr heq.symm
 ·rw [if_neg h,if_pos (List.drop_eq_nil_of_le aa)] at heq;exact ⟨⟨o,by rw [<-heq],by rw [<-heq];exact ho⟩,xr⟩
end Go.Proofs.YtalpkjfpmdpbiaaGreatDoor
namespace Go.Proofs.YtalpkjfpmdpbiaaGreatDoor
open Go Go.Vc Go.RowKit Go.Proofs Go.bh Go.Code
def aj.le{B E k:Nat}{w:World}{s:Sl}{rows:List (LV)}(h:aj B E k w s rows):s.n<=s.c:=by
 have ho:=h.own;generalize rows.flatten=xs at ho
 cases ho with
 |nil=>exact ax _
 |row g n c cs hg hr hc hn=>exact hn
def pP{b:List Int}{n:Int}(hb:Vq b)(hn:1<=n)(h:(cL ba b n).2=0):kD (cL ba b n).1=b/\gU ba (-1) (cL ba b n).1/\bg (cL ba b n).1=n:=by obtain ⟨l,e1,e2,e3,e4,_⟩:=xp (may:=ba) (b.length+1) b n (-1) [] hb hn h;rw [X4] at e1;have e:cL ba b n=ks ba (b.length+1) b n (-1) []:=rfl;rw [e,e1];exact ⟨e2,e3,e4⟩
def OQ{l:List Rn}{last:Int}(h:gU ba last l):∀r ∈ l,inI r.1/\inI r.2:=by intro r hr;have:=h.mem r hr;unfold Go.Vc.inI;omega
end Go.Proofs.YtalpkjfpmdpbiaaGreatDoor
