import Derived.Test.YtalpkjfpmdpbiaaGreatDoorRF
import Derived.Test.YtalpkjfpmdpbiaaGreatDoorKU
set_option linter.all false
namespace Go.Proofs.YtalpkjfpmdpbiaaGreatDoor
open Go Go.Vc Go.RowKit Go.Proofs Go.dQ Go.bf Go.Code
def ZR(n:Nat)(l:List En):Prop:=∀e ∈ l,0<=e.2.2.2/\e.2.2.2<=n
structure Iv(m n:Nat)(T:Tb):Prop where
 m:mD T.1<=m
 p:ZR n T.2
 XP:je T.2
def Iv.mono{m n m' n':Nat}{T:Tb}(h:Iv m n T)(hm:m<=m')(hn:n<=n'):Iv m' n' T:=⟨fy h.m hm,(λe he=>by have:=h.p e he;omega),h.XP⟩
def S4{m n:Nat}{D:Dk}{l:List En}(h:Iv m n (D,l))(i:Nat):Iv m n (D,l.eraseIdx i):=⟨h.m,(λe he=>h.p e ((oC ..).subset he)),C8 h.XP i⟩
def VY{m n:Nat}{D:Dk}{l:List En}(h:Iv m n (D,l)){i:Nat}{e:En}(hi:l[i]? =some e):Iv (m+1) n ((dG D e).1,l.set i (dG D e).2.1):=by
 have h1:=Ig D e;have h2:=h.m;refine ⟨by simp only at h2 ⊢;omega,λx hx=> ?_,VZ h.XP hi (AD D e).1⟩;rcases CG hx with hx|rfl
 ·exact h.p x hx
 ·rw [(AD D e).2.2];exact h.p e (bc hi)
def XQ{m n:Nat}{D:Dk}{l:List En}(h:Iv m n (D,l))(i:Nat):Iv (m+1) n (JU D l i).1:=by
 cases hi:l[i]? with
 |none=>unfold JU;rw [hi];exact h.mono aa (ax _)
 |some e=>
  rw [zG hi];have:=VY h hi;split
  ·have:=S4 this i;simp only [List.eraseIdx_set_eq] at this;exact this
  ·exact this
def V2{m n:Nat}{D:Dk}{l:List En}(h:Iv m n (D,l))(limit:Int):Iv (m+1) n (cE limit D l).1:=by
 unfold cE;split
 ·exact h.mono aa (ax _)
 ·split
  ·exact h.mono aa (ax _)
  ·exact XQ h _
def S5{D:Dk}{l:List En}{i:Nat}{x:En}(hx:x ∈(JU D l i).1.2):oH l x.1:=by
 cases hi:l[i]? with
 |none=>unfold JU at hx;rw [hi] at hx;exact ⟨x,hx,rfl⟩
 |some e=>
  rw [zG hi] at hx;split at hx
  ·exact ⟨x,(oC ..).subset hx,rfl⟩
  ·rcases CG hx with hx|rfl
   ·exact ⟨x,hx,rfl⟩
   ·exact ⟨e,bc hi,(AD D e).1.symm⟩
def Ih{limit:Int}{D:Dk}{l:List En}{x:En}(hx:x ∈(cE limit D l).1.2):oH l x.1:=by
 unfold cE at hx;split at hx
 ·exact ⟨x,hx,rfl⟩
 ·split at hx
  ·exact ⟨x,hx,rfl⟩
  ·exact S5 hx
def Ii{l:List En}(hn:je l){k:Nat}{e e':En}(hk:l[k]? =some e)(h1:e'.1=e.1):je (l.eraseIdx k++ [e']):=Ij (C8 hn k) λ⟨x,hx,q⟩=>((mem_erase hn hk x).1 hx).2 (q.trans h1)
def ada{m n:Nat}{D:Dk}{l:List En}(h:Iv m n (D,l))(ag limit:Int)(p:Po):Iv (m+1) n (oD ag limit D l p).1:=by
 have hr:=V2 h limit;have eG:= @Ih limit D l;unfold oD;rcases cc (λe:En=>e.1==p) l with ⟨hf,my⟩|⟨k,e,hk,he,hf,-⟩
 ·rw [hf];split
  ·exact h.mono aa (ax _)
  ·rw [if_neg aE];split
   ·exact hr
   ·refine ⟨hr.m,λe he=> ?_,Ij hr.XP λ⟨x,hx,q⟩=> ?_⟩
    ·rcases ct.1 he with he|he
     ·exact hr.p e he
     ·simp only [fH] at he;subst he;exact ⟨oF 0,by simp only;omega⟩
    ·obtain ⟨y,hy,q2⟩:=eG hx;have:=my y hy;have q3:y.1=p:=q2.trans q;simp [q3] at this
 ·rw [hf];split
  ·exact h.mono aa (ax _)
  ·rw [if_pos aa,ju,hk];refine ⟨by have:=h.m;simp only at this ⊢;omega,λx hx=> ?_,Ii h.XP hk rfl⟩;rcases ct.1 hx with hx|hx
   ·exact h.p x ((oC ..).subset hx)
   ·have:x=e:=by simpa using hx
    subst this;exact h.p x (bc hk)
def V3{m n:Nat}{D:Dk}{l:List En}(h:Iv m n (D,l))(p:Po):Iv (m+1) n (fI D l p).1:=by
 unfold fI;split
 ·split
  ·exact h.mono aa (ax _)
  ·exact XQ h _
 ·exact h.mono aa (ax _)
def ZS{m n:Nat}{D:Dk}{l:List En}(h:Iv m n (D,l))(c:Ce)(b:Int):Iv m n (D,(cj l c b).1):=by
 have key:∀{l':List En},(∀x ∈ l',0<=x.2.2.2/\x.2.2.2<=n)->je l'->Iv m n (D,l'):=λh1 h2=>⟨h.m,h1,h2⟩
 unfold cj;rcases cc (λe:En=>e.1==pos c) l with ⟨hf,my⟩|⟨k,e,hk,he,hf,-⟩
 ·rw [hf,if_pos aE];exact h
 ·rw [hf,if_neg aa];split
  ·exact h
  ·split
   ·exact h
   ·rw [ju,hk];refine key (λx hx=> ?_) (Ii h.XP hk rfl);rcases ct.1 hx with hx|hx
    ·exact h.p x ((oC ..).subset hx)
    ·have:x=(e.1,(fG e.1 e.2.1 c b).1,e.2.2.1||(rG e.1 e.2.1 c !=b),e.2.2.2):=by simpa using hx
     subst this;exact h.p e (bc hk)
abbrev Nf(N F:Nat->Prop):Nat->Prop:=λi=>¬F i/\N i
section
variable {N F F':Nat->Prop} {w w' v v':World} {s1 s2 s3:Sl} {T T':Tb} {ag cap:Int} {t a b:Nat}
def TF.okt(h:TF F w t ag cap T){m n:Nat}(hi:Iv m n T)(hm:m<=400000):qS T:=by have h1:=h.len;exact ⟨h.ok,Eh (by have:=hi.m;omega),h.ag3,by omega⟩
end
end Go.Proofs.YtalpkjfpmdpbiaaGreatDoor
namespace Go.Proofs.YtalpkjfpmdpbiaaGreatDoor
open Go Go.Vc Go.RowKit Go.Proofs Go.dQ Go.bf Go.Code
end Go.Proofs.YtalpkjfpmdpbiaaGreatDoor
namespace Go.Proofs.YtalpkjfpmdpbiaaGreatDoor
open Go Go.Vc Go.RowKit Go.Proofs Go.dQ Go.bf Go.Code
end Go.Proofs.YtalpkjfpmdpbiaaGreatDoor
namespace Go.Proofs.YtalpkjfpmdpbiaaGreatDoor
open Go Go.Vc Go.RowKit Go.Proofs Go.dQ Go.bf Go.Code
end Go.Proofs.YtalpkjfpmdpbiaaGreatDoor
