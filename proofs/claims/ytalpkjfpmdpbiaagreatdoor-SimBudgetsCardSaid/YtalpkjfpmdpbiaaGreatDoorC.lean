import Derived.Test.YtalpkjfpmdpbiaaGreatDoorG
set_option linter.all false
namespace Go.Proofs.YtalpkjfpmdpbiaaGreatDoor
open Go Go.Vc Go.RowKit Go.Proofs
def fL(n m:Int):Int:=if n<0 then (-(n+1)) % m else n % m
def iZ(n m:Int)(w:World)(hn:inI n)(hm:0<m)(hm':inI m):
  ah 19 #[n,m] w λe w'=>e=Value.int .i64 (fL n m)/\w'=w:=by
 apply D6.vc;unfold fL;unfold inI at hn hm';apply Br.mk<;>intro h<;>simp at h
 ·have e1:ai (n+1)=n+1:=wI;have e2:ai (0-(n+1))= -(n+1):=by rw [wI];omega
  rw [e1,e2,if_pos h];refine L0.2 ⟨by omega,?_,rfl⟩;rw [qQ aa]
 ·rw [if_neg aa];refine L0.2 ⟨by omega,?_,rfl⟩;rw [qQ aa]
def gW(n m:Int)(hm:0<m):0<=fL n m/\fL n m<m:=by
 unfold fL;split
 ·exact ⟨Int.emod_nonneg _ aa,Int.emod_lt_of_pos _ hm⟩
 ·exact ⟨Int.emod_nonneg _ aa,Int.emod_lt_of_pos _ hm⟩
def aY(b:Int):Bool:=decide (0<=b) && decide (b<=15) && b !=6 && b !=7
def XS(n:Int):Int:=if fL n 14>5 then fL n 14+2 else fL n 14
def nmT:List ByteArray:=[⟨#[97,105,114]⟩,⟨#[115,116,111,110,101]⟩,⟨#[100,105,114,116]⟩,⟨#[115,97,110,100]⟩,⟨#[108,97,100,100,101,114]⟩,⟨#[103,108,97,115,115]⟩,⟨#[]⟩,⟨#[]⟩,
 ⟨#[119,97,116,101,114,48]⟩,⟨#[119,97,116,101,114,49]⟩,⟨#[119,97,116,101,114,50]⟩,⟨#[119,97,116,101,114,51]⟩,⟨#[119,97,116,101,114,52]⟩,⟨#[119,97,116,101,114,53]⟩,⟨#[119,97,116,101,114,54]⟩,⟨#[119,97,116,101,114,55]⟩]
def tD(b:Int):ByteArray:=if b<0 then ⟨#[]⟩ else nmT.getD b.toNat ⟨#[]⟩
def gE(b:Int)(w:World):ah 146 #[b] w λe w'=>e=Value.bool (aY b)/\w'=w:=by apply NL.vc;unfold aY;refine Br.mk (λh=>Br.mk (λh2=>Br.mk (λh3=> ?_) (λh3=> ?_)) (λh2=> ?_)) (λh=> ?_)<;>simp_all<;>omega
def xL(n:Int)(w:World)(hn:inI n):ah 53 #[n] w λe w'=>e=Value.int .i64 (XS n)/\w'=w:=by
 apply Kb.vc;unfold XS;refine (iZ n 14 w hn aa (by unfold inI;omega)).mono ?_;rintro e w' ⟨rfl,rfl⟩;have:=gW n 14 aa;refine ⟨_,rfl,Br.mk (λh=> ?_) (λh=> ?_)⟩<;>simp at h
 ·rw [if_pos h,wI];exact ⟨rfl,rfl⟩
 ·rw [if_neg aa];exact ⟨rfl,rfl⟩
def jP(n:Int)(w:World)(hn:inI n):ah 187 #[n] w λe w'=>e=Value.int .i64 (8+min (max n 0) 7)/\w'=w:=by apply GG.vc;rw [az (by unfold inI;split<;>split<;>omega)];refine ⟨?_,rfl⟩;congr 2;split<;>split<;>omega
def ag7:ByteArray:=⟨#[48,49,50,51,52,53,54,55,56,57,97,98,99,100,101,102,103,104,105,106,107,108,109,110,111,112,113,114,115,116,117,118,119,120,121,122]⟩
def Kn(n:Int):ByteArray:=ag7.extract n.toNat (n+1).toNat
def Lu(n:Int)(w:World)(h0:0<=n)(h1:n<10):ah 253 #[n] w λe w'=>e=Value.string (Kn n)/\w'=w:=by
 apply nO.vc;rw [wI];apply Br.mk<;>intro h<;>simp at h
 ·refine ⟨by omega,?_,by omega,by omega,rfl,rfl⟩;show n+1<=36;omega
 ·omega
set_option maxRecDepth 10000 in
def AP(n:Int)(w:World)(h0:0<=n)(h1:n<10):ah 250 #[n,(10:Int)] w λe w'=>e=Value.string (Kn n)/\w'=w:=by
 have h10:n<100:=by omega
 have hs:ah 253 #[n] w (λe w'=>e=Value.string (Kn n)/\w'=w):=Lu n w h0 h1;go_enter Tryz.func250,Tryz.ntmps250;go_wp2_with (go_at_call 253;refine hs.mono ?_;rintro e w' ⟨rfl,rfl⟩);go_ret;exact ⟨rfl,rfl⟩
def N3(n:Int)(w:World)(h0:0<=n)(h1:n<10):ah 225 #[n] w λe w'=>e=Value.string (Kn n)/\w'=w:=by
 apply D7.vc;refine Calls.mono (oU.vc (R:=λe w'=>e=Value.string (Kn n)/\w'=w) ((AP n w h0 h1).mono ?_)) ?_
 all_goals
  rintro e w' ⟨rfl,rfl⟩
  exact ⟨_,rfl,rfl,rfl⟩
end Go.Proofs.YtalpkjfpmdpbiaaGreatDoor
namespace Go.Proofs.YtalpkjfpmdpbiaaGreatDoor
open Go Go.Vc Go.RowKit Go.Proofs
def oE(x:Nat):LV:=(List.range 16).map λj=> .string (if j<8+x then nmT.getD j ⟨#[]⟩ else ⟨#[]⟩)
def Ro(x:Int)(h0:0<=x)(h1:x<8):(⟨#[119,97,116,101,114]⟩:ByteArray)++Kn x=nmT.getD (8+x).toNat ⟨#[]⟩:=by
 have:x=0\/x=1\/x=2\/x=3\/x=4\/x=5\/x=6\/x=7:=by omega
 rcases this with rfl|rfl|rfl|rfl|rfl|rfl|rfl|rfl<;>decide
def Zi(x:Nat)(h1:x<8):aV (oE x) (8+x) [.string (nmT.getD (8+x) ⟨#[]⟩)]=oE (x+1):=by
 have:x=0\/x=1\/x=2\/x=3\/x=4\/x=5\/x=6\/x=7:=by omega
 rcases this with rfl|rfl|rfl|rfl|rfl|rfl|rfl|rfl<;>rfl
def tm(x:Nat):(oE x).length=16:=by simp [oE]
def acW:Value:=.agg (oE 8).toArray
abbrev nm0:LV:=List.replicate 16 (.string ⟨#[]⟩)
def u9(w:World):ah 190 #[] w λe w'=>e=acW/\Ext w w':=by
 apply GH.vc;intro w0 hw0 w1 WK;have r0:Row w0 w nm0 254:=by rw [hw0];exact Row.new w nm0 _
 have s0:w0.heap.size=w.heap.size+1:=by rw [hw0];simp
 have s1:w1.heap.size=w.heap.size+2:=by rw [WK];simp [s0]
 have r1:Row w1 w0 nm0 254:=by rw [WK];exact Row.new w0 nm0 254
 have x0:=bq hw0;have x1:=bq WK;refine ⟨⟨rfl,r1.wr cy⟩,λw2 yd=> ?_⟩;rw [r1.aZ cy (by intro u hu;simp at hu;rcases hu with rfl|rfl|rfl|rfl|rfl|rfl|rfl|rfl|rfl|rfl|rfl|rfl|rfl|rfl|rfl|rfl<;>rfl)] at yd;have r2:Row w2 w0 (oE 0) 254:=r1.st yd;have x2:Ext w w2:=(x0.tr x1).ab yd aa;have r20:Row w2 w nm0 254:=(r0.ext x1).same (by rw [yd];exact setRow_other _ _ _ _ aa);refine ⟨λn x wr=>∃k:Nat,x=k/\k+n=8/\Ext w wr/\Row wr w nm0 254/\Row wr w0 (oE k) 254,⟨8,0,rfl,rfl,x2,r20,r2⟩,?_⟩;rintro n us x wr ⟨k,rfl,hk,xr,q0,q1⟩;apply Br.mk<;>intro h<;>simp at h
 ·refine (N3 k wr aa aa).mono ?_;rintro e w' ⟨rfl,rfl⟩;refine ⟨_,rfl,?_⟩;rw [az (n:=8+(k:Int)) (by unfold inI;omega),az (n:=(k:Int)+1) (by unfold inI;omega),Ro k aa aa];have fM:ae (bu w0.heap.size) ((8+(k:Int)).toNat*1)=some ⟨w0.heap.size,8+k,none⟩:=by rw [bW];congr 2;omega
  rw [fM];refine ⟨?_,by omega,by omega,⟨rfl,q1.wr (by rw [tm];simp;omega)⟩,λw3 Jo=> ?_⟩
  ·have:(Kn k).size<=1:=by
    have:k=0\/k=1\/k=2\/k=3\/k=4\/k=5\/k=6\/k=7:=by omega
    rcases this with rfl|rfl|rfl|rfl|rfl|rfl|rfl|rfl<;>decide
   have h5:(⟨#[119,97,116,101,114]⟩:ByteArray).size=5:=rfl;rw [h5];have:IntKind.i64.max=9223372036854775807:=by decide
   omega
  ·have e8:(8+(k:Int)).toNat=8+k:=by omega
   rw [q1.aZ (by rw [tm];simp;omega) (by intro u hu;simp at hu;subst hu;rfl),e8,Zi k aa] at Jo;refine ⟨n-1,by omega,k+1,by omega,by omega,xr.ab Jo aa,q0.same (by rw [Jo];exact setRow_other _ _ _ _ aa),by rw [Jo];exact q1.set _⟩
 ·obtain rfl:k=8:=by omega
  refine ⟨_,_,_,_,_,_,_,_,_,_,_,_,_,_,_,_,q1.bk (vs:=oE 8) (λj hj=>by simp),⟨rfl,q0.wr cy⟩,λw3 Jo=> ?_⟩;rw [q0.aZ cy (by intro u hu;simp at hu;rcases hu with rfl|rfl|rfl|rfl|rfl|rfl|rfl|rfl|rfl|rfl|rfl|rfl|rfl|rfl|rfl|rfl<;>rfl)] at Jo;have q3:Row w3 w (oE 8) 254:=q0.st Jo;exact ⟨_,_,_,_,_,_,_,_,_,_,_,_,_,_,_,_,q3.bk (vs:=oE 8) (λj hj=>by simp),rfl,xr.ab Jo aa⟩
end Go.Proofs.YtalpkjfpmdpbiaaGreatDoor
namespace Go.Proofs.YtalpkjfpmdpbiaaGreatDoor
open Go Go.Vc Go.RowKit Go.Proofs
def Ov(x y:ByteArray):qM x y=true ↔ x=y:=by unfold qM;rw [ByteArray.toList_eq,ByteArray.toList_eq,beq_iff_eq];obtain ⟨⟨x⟩⟩:=x;obtain ⟨⟨y⟩⟩:=y;simp
def Zk(i:Int)(h0:0<=i)(h1:i<16):(oE 8)[i.toNat*1]? =some (.string (tD i)):=by
 have hk:i.toNat<16:=by omega
 have e:tD i=nmT.getD i.toNat ⟨#[]⟩:=by unfold tD;rw [if_neg aa]
 rw [e,Mo];generalize i.toNat=k at hk;have:∀k,k<16->(oE 8)[k]? =some (.string (nmT.getD k ⟨#[]⟩)):=by
  intro k hk;have:k=0\/k=1\/k=2\/k=3\/k=4\/k=5\/k=6\/k=7\/k=8\/k=9\/k=10\/k=11\/k=12\/k=13\/k=14\/k=15:=by omega
  rcases this with rfl|rfl|rfl|rfl|rfl|rfl|rfl|rfl|rfl|rfl|rfl|rfl|rfl|rfl|rfl|rfl<;>rfl
 exact this k hk
def vp(b:Int)(h:b<0\/16<=b):tD b=⟨#[]⟩:=by
 unfold tD;rcases h with h|h
 ·rw [if_pos h]
 ·rw [if_neg aa];rw [cZ,il (by show 16<=b.toNat;omega)];rfl
def R2(b:Int):aY b=true ↔ tD b≠⟨#[]⟩:=by
 by_cases h:b<0\/16<=b
 ·rw [vp b h];unfold aY;simp;omega
 ·have:b=0\/b=1\/b=2\/b=3\/b=4\/b=5\/b=6\/b=7\/b=8\/b=9\/b=10\/b=11\/b=12\/b=13\/b=14\/b=15:=by omega
  rcases this with rfl|rfl|rfl|rfl|rfl|rfl|rfl|rfl|rfl|rfl|rfl|rfl|rfl|rfl|rfl|rfl<;>decide
def xy(b:Int)(w:World):ah 149 #[b] w λe w'=>e=Value.string (tD b)/\Ext w w':=by
 apply J8.vc;refine Br.mk (λh=> ?_) (λh=>Br.mk (λh2=> ?_) (λh2=> ?_))<;>simp at h
 ·rw [vp b (.inl h)];exact ⟨rfl,Ext.ck w⟩
 ·simp at h2;rw [vp b (.inr h2)];exact ⟨rfl,Ext.ck w⟩
 ·simp at h2;refine (u9 w).mono ?_;rintro e w' ⟨rfl,x⟩;exact ⟨_,_,_,_,_,_,_,_,_,_,_,_,_,_,_,_,rfl,⟨h,h2⟩,_,Zk b h h2,rfl,x⟩
def gK(b:Int)(w:World):ah 105 #[b] w λe w'=>e=Value.bool (aY b)/\Ext w w':=by
 apply NF.vc;refine (xy b w).mono ?_;rintro e w' ⟨rfl,x⟩;refine ⟨_,rfl,?_,x⟩;congr 2;rw [Bool.eq_iff_iff,R2];have:=Ov (tD b) ⟨#[]⟩
 cases h:qM (tD b) ⟨#[]⟩<;>simp_all
end Go.Proofs.YtalpkjfpmdpbiaaGreatDoor
