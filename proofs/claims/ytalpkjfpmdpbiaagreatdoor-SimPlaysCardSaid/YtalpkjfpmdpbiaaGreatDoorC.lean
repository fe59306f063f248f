import Derived.Test.YtalpkjfpmdpbiaaGreatDoorG
set_option linter.all false
namespace Go.Proofs.YtalpkjfpmdpbiaaGreatDoor
open Go Go.Vc Go.RowKit Go.Proofs
def gZ(n m:Int):Int:=if n<0 then (-(n+1)) % m else n % m
def kz(n m:Int)(w:World)(hn:inI n)(hm:0<m)(hm':inI m):
  ah 19 #[n,m] w λe w'=>e=Value.int .i64 (gZ n m)/\w'=w:=by
 apply Ex.vc;unfold gZ;unfold inI at hn hm';apply Br.mk<;>intro h<;>simp at h
 ·have e1:ai (n+1)=n+1:=wI;have e2:ai (0-(n+1))= -(n+1):=by rw [wI];omega
  rw [e1,e2,if_pos h];refine MI.2 ⟨by omega,?_,rfl⟩;rw [ri aa]
 ·rw [if_neg aa];refine MI.2 ⟨by omega,?_,rfl⟩;rw [ri aa]
def jd(n m:Int)(hm:0<m):0<=gZ n m/\gZ n m<m:=by
 unfold gZ;split
 ·exact ⟨Int.emod_nonneg _ aa,Int.emod_lt_of_pos _ hm⟩
 ·exact ⟨Int.emod_nonneg _ aa,Int.emod_lt_of_pos _ hm⟩
def ba(b:Int):Bool:=decide (0<=b) && decide (b<=15) && b !=6 && b !=7
def Yu(n:Int):Int:=if gZ n 14>5 then gZ n 14+2 else gZ n 14
def nmT:List ByteArray:=[⟨#[97,105,114]⟩,⟨#[115,116,111,110,101]⟩,⟨#[100,105,114,116]⟩,⟨#[115,97,110,100]⟩,⟨#[108,97,100,100,101,114]⟩,⟨#[103,108,97,115,115]⟩,⟨#[]⟩,⟨#[]⟩,
 ⟨#[119,97,116,101,114,48]⟩,⟨#[119,97,116,101,114,49]⟩,⟨#[119,97,116,101,114,50]⟩,⟨#[119,97,116,101,114,51]⟩,⟨#[119,97,116,101,114,52]⟩,⟨#[119,97,116,101,114,53]⟩,⟨#[119,97,116,101,114,54]⟩,⟨#[119,97,116,101,114,55]⟩]
def uh(b:Int):ByteArray:=if b<0 then ⟨#[]⟩ else nmT.getD b.toNat ⟨#[]⟩
def gP(b:Int)(w:World):ah 146 #[b] w λe w'=>e=Value.bool (ba b)/\w'=w:=by apply Ov.vc;unfold ba;refine Br.mk (λh=>Br.mk (λh2=>Br.mk (λh3=> ?_) (λh3=> ?_)) (λh2=> ?_)) (λh=> ?_)<;>simp_all<;>omega
def yj(n:Int)(w:World)(hn:inI n):ah 53 #[n] w λe w'=>e=Value.int .i64 (Yu n)/\w'=w:=by
 apply KM.vc;unfold Yu;refine (kz n 14 w hn aa (by unfold inI;omega)).mono ?_;rintro e w' ⟨rfl,rfl⟩;have:=jd n 14 aa;refine ⟨_,rfl,Br.mk (λh=> ?_) (λh=> ?_)⟩<;>simp at h
 ·rw [if_pos h,wI];exact ⟨rfl,rfl⟩
 ·rw [if_neg aa];exact ⟨rfl,rfl⟩
def jT(n:Int)(w:World)(hn:inI n):ah 187 #[n] w λe w'=>e=Value.int .i64 (8+min (max n 0) 7)/\w'=w:=by apply Hi.vc;rw [az (by unfold inI;split<;>split<;>omega)];refine ⟨?_,rfl⟩;congr 2;split<;>split<;>omega
def ahJ:ByteArray:=⟨#[48,49,50,51,52,53,54,55,56,57,97,98,99,100,101,102,103,104,105,106,107,108,109,110,111,112,113,114,115,116,117,118,119,120,121,122]⟩
def KY(n:Int):ByteArray:=ahJ.extract n.toNat (n+1).toNat
def Md(n:Int)(w:World)(h0:0<=n)(h1:n<10):ah 253 #[n] w λe w'=>e=Value.string (KY n)/\w'=w:=by
 apply nU.vc;rw [wI];apply Br.mk<;>intro h<;>simp at h
 ·refine ⟨by omega,?_,by omega,by omega,rfl,rfl⟩;show n+1<=36;omega
 ·omega
set_option maxRecDepth 10000 in
def Bb(n:Int)(w:World)(h0:0<=n)(h1:n<10):ah 250 #[n,(10:Int)] w λe w'=>e=Value.string (KY n)/\w'=w:=by
 have h10:n<100:=by omega
 have hs:ah 253 #[n] w (λe w'=>e=Value.string (KY n)/\w'=w):=Md n w h0 h1;go_enter Tryz.func250,Tryz.ntmps250;go_wp2_with (go_at_call 253;refine hs.mono ?_;rintro e w' ⟨rfl,rfl⟩);go_ret;exact ⟨rfl,rfl⟩
def ON(n:Int)(w:World)(h0:0<=n)(h1:n<10):ah 225 #[n] w λe w'=>e=Value.string (KY n)/\w'=w:=by
 apply Ey.vc;refine Calls.mono (pa.vc (R:=λe w'=>e=Value.string (KY n)/\w'=w) ((Bb n w h0 h1).mono ?_)) ?_
 all_goals
  rintro e w' ⟨rfl,rfl⟩
  exact ⟨_,rfl,rfl,rfl⟩
end Go.Proofs.YtalpkjfpmdpbiaaGreatDoor
namespace Go.Proofs.YtalpkjfpmdpbiaaGreatDoor
open Go Go.Vc Go.RowKit Go.Proofs
def oN(x:Nat):LV:=(List.range 16).map λj=> .string (if j<8+x then nmT.getD j ⟨#[]⟩ else ⟨#[]⟩)
def Sf(x:Int)(h0:0<=x)(h1:x<8):(⟨#[119,97,116,101,114]⟩:ByteArray)++KY x=nmT.getD (8+x).toNat ⟨#[]⟩:=by
 have:x=0\/x=1\/x=2\/x=3\/x=4\/x=5\/x=6\/x=7:=by omega
 rcases this with rfl|rfl|rfl|rfl|rfl|rfl|rfl|rfl<;>decide
def Z2(x:Nat)(h1:x<8):aW (oN x) (8+x) [.string (nmT.getD (8+x) ⟨#[]⟩)]=oN (x+1):=by
 have:x=0\/x=1\/x=2\/x=3\/x=4\/x=5\/x=6\/x=7:=by omega
 rcases this with rfl|rfl|rfl|rfl|rfl|rfl|rfl|rfl<;>rfl
def tV(x:Nat):(oN x).length=16:=by simp [oN]
def adK:Value:=.agg (oN 8).toArray
abbrev nm0:LV:=List.replicate 16 (.string ⟨#[]⟩)
def vH(w:World):ah 190 #[] w λe w'=>e=adK/\Ext w w':=by
 apply Hj.vc;intro w0 hw0 w1 Xo;have r0:Row w0 w nm0 254:=by rw [hw0];exact Row.new w nm0 _
 have s0:w0.heap.size=w.heap.size+1:=by rw [hw0];simp
 have s1:w1.heap.size=w.heap.size+2:=by rw [Xo];simp [s0]
 have r1:Row w1 w0 nm0 254:=by rw [Xo];exact Row.new w0 nm0 254
 have x0:=bo hw0;have x1:=bo Xo;refine ⟨⟨rfl,r1.wr cx⟩,λw2 yE=> ?_⟩;rw [r1.bc cx (by intro u hu;simp at hu;rcases hu with rfl|rfl|rfl|rfl|rfl|rfl|rfl|rfl|rfl|rfl|rfl|rfl|rfl|rfl|rfl|rfl<;>rfl)] at yE;have r2:Row w2 w0 (oN 0) 254:=r1.st yE;have x2:Ext w w2:=(x0.tr x1).ab yE aa;have r20:Row w2 w nm0 254:=(r0.ext x1).same (by rw [yE];exact setRow_other _ _ _ _ aa);refine ⟨λn x wr=>∃k:Nat,x=k/\k+n=8/\Ext w wr/\Row wr w nm0 254/\Row wr w0 (oN k) 254,⟨8,0,rfl,rfl,x2,r20,r2⟩,?_⟩;rintro n us x wr ⟨k,rfl,hk,xr,q0,q1⟩;apply Br.mk<;>intro h<;>simp at h
 ·refine (ON k wr aa aa).mono ?_;rintro e w' ⟨rfl,rfl⟩;refine ⟨_,rfl,?_⟩;rw [az (n:=8+(k:Int)) (by unfold inI;omega),az (n:=(k:Int)+1) (by unfold inI;omega),Sf k aa aa];have fS:ae (bu w0.heap.size) ((8+(k:Int)).toNat*1)=some ⟨w0.heap.size,8+k,none⟩:=by rw [bZ];congr 2;omega
  rw [fS];refine ⟨?_,by omega,by omega,⟨rfl,q1.wr (by rw [tV];simp;omega)⟩,λw3 J1=> ?_⟩
  ·have:(KY k).size<=1:=by
    have:k=0\/k=1\/k=2\/k=3\/k=4\/k=5\/k=6\/k=7:=by omega
    rcases this with rfl|rfl|rfl|rfl|rfl|rfl|rfl|rfl<;>decide
   have h5:(⟨#[119,97,116,101,114]⟩:ByteArray).size=5:=rfl;rw [h5];have:IntKind.i64.max=9223372036854775807:=by decide
   omega
  ·have e8:(8+(k:Int)).toNat=8+k:=by omega
   rw [q1.bc (by rw [tV];simp;omega) (by intro u hu;simp at hu;subst hu;rfl),e8,Z2 k aa] at J1;refine ⟨n-1,by omega,k+1,by omega,by omega,xr.ab J1 aa,q0.same (by rw [J1];exact setRow_other _ _ _ _ aa),by rw [J1];exact q1.set _⟩
 ·obtain rfl:k=8:=by omega
  refine ⟨_,_,_,_,_,_,_,_,_,_,_,_,_,_,_,_,q1.aY (vs:=oN 8) (λj hj=>by simp),⟨rfl,q0.wr cx⟩,λw3 J1=> ?_⟩;rw [q0.bc cx (by intro u hu;simp at hu;rcases hu with rfl|rfl|rfl|rfl|rfl|rfl|rfl|rfl|rfl|rfl|rfl|rfl|rfl|rfl|rfl|rfl<;>rfl)] at J1;have q3:Row w3 w (oN 8) 254:=q0.st J1;exact ⟨_,_,_,_,_,_,_,_,_,_,_,_,_,_,_,_,q3.aY (vs:=oN 8) (λj hj=>by simp),rfl,xr.ab J1 aa⟩
end Go.Proofs.YtalpkjfpmdpbiaaGreatDoor
namespace Go.Proofs.YtalpkjfpmdpbiaaGreatDoor
open Go Go.Vc Go.RowKit Go.Proofs
def Pa(x y:ByteArray):q8 x y=true ↔ x=y:=by unfold q8;rw [ByteArray.toList_eq,ByteArray.toList_eq,beq_iff_eq];obtain ⟨⟨x⟩⟩:=x;obtain ⟨⟨y⟩⟩:=y;simp
def Z4(i:Int)(h0:0<=i)(h1:i<16):(oN 8)[i.toNat*1]? =some (.string (uh i)):=by
 have hk:i.toNat<16:=by omega
 have e:uh i=nmT.getD i.toNat ⟨#[]⟩:=by unfold uh;rw [if_neg aa]
 rw [e,M9];generalize i.toNat=k at hk;have:∀k,k<16->(oN 8)[k]? =some (.string (nmT.getD k ⟨#[]⟩)):=by
  intro k hk;have:k=0\/k=1\/k=2\/k=3\/k=4\/k=5\/k=6\/k=7\/k=8\/k=9\/k=10\/k=11\/k=12\/k=13\/k=14\/k=15:=by omega
  rcases this with rfl|rfl|rfl|rfl|rfl|rfl|rfl|rfl|rfl|rfl|rfl|rfl|rfl|rfl|rfl|rfl<;>rfl
 exact this k hk
def vT(b:Int)(h:b<0\/16<=b):uh b=⟨#[]⟩:=by
 unfold uh;rcases h with h|h
 ·rw [if_pos h]
 ·rw [if_neg aa];rw [dh,iq (by show 16<=b.toNat;omega)];rfl
def SR(b:Int):ba b=true ↔ uh b≠⟨#[]⟩:=by
 by_cases h:b<0\/16<=b
 ·rw [vT b h];unfold ba;simp;omega
 ·have:b=0\/b=1\/b=2\/b=3\/b=4\/b=5\/b=6\/b=7\/b=8\/b=9\/b=10\/b=11\/b=12\/b=13\/b=14\/b=15:=by omega
  rcases this with rfl|rfl|rfl|rfl|rfl|rfl|rfl|rfl|rfl|rfl|rfl|rfl|rfl|rfl|rfl|rfl<;>decide
def xS(b:Int)(w:World):ah 149 #[b] w λe w'=>e=Value.string (uh b)/\Ext w w':=by
 apply KJ.vc;refine Br.mk (λh=> ?_) (λh=>Br.mk (λh2=> ?_) (λh2=> ?_))<;>simp at h
 ·rw [vT b (.inl h)];exact ⟨rfl,Ext.bX w⟩
 ·simp at h2;rw [vT b (.inr h2)];exact ⟨rfl,Ext.bX w⟩
 ·simp at h2;refine (vH w).mono ?_;rintro e w' ⟨rfl,x⟩;exact ⟨_,_,_,_,_,_,_,_,_,_,_,_,_,_,_,_,rfl,⟨h,h2⟩,_,Z4 b h h2,rfl,x⟩
def gX(b:Int)(w:World):ah 105 #[b] w λe w'=>e=Value.bool (ba b)/\Ext w w':=by
 apply Om.vc;refine (xS b w).mono ?_;rintro e w' ⟨rfl,x⟩;refine ⟨_,rfl,?_,x⟩;congr 2;rw [Bool.eq_iff_iff,SR];have:=Pa (uh b) ⟨#[]⟩
 cases h:q8 (uh b) ⟨#[]⟩<;>simp_all
end Go.Proofs.YtalpkjfpmdpbiaaGreatDoor
