import Derived.Test.YtalpkjfpmdpbiaaGreatDoorRF
import Derived.Test.YtalpkjfpmdpbiaaGreatDoorKU
set_option linter.all false
namespace Go.Proofs.YtalpkjfpmdpbiaaGreatDoor
open Go Go.Vc Go.RowKit Go.Proofs Go.dS Go.bh Go.Code
def aar(n:Nat)(l:List En):Prop:=∀e ∈ l,0<=e.2.2.2/\e.2.2.2<=n
structure Iv(m n:Nat)(T:Tb):Prop where
 m:mD T.1<=m
 p:aar n T.2
 Yq:iS T.2
def Iv.mono{m n m' n':Nat}{T:Tb}(h:Iv m n T)(hm:m<=m')(hn:n<=n'):Iv m' n' T:=⟨fA h.m hm,(λe he=>by have:=h.p e he;omega),h.Yq⟩
def TA{m n:Nat}{D:Dk}{l:List En}(h:Iv m n (D,l))(i:Nat):Iv m n (D,l.eraseIdx i):=⟨h.m,(λe he=>h.p e ((oK ..).subset he)),DC h.Yq i⟩
def WL{m n:Nat}{D:Dk}{l:List En}(h:Iv m n (D,l)){i:Nat}{e:En}(hi:l[i]? =some e):Iv (m+1) n ((dQ D e).1,l.set i (dQ D e).2.1):=by
 have h1:=IJ D e;have h2:=h.m;refine ⟨by simp only at h2 ⊢;omega,λx hx=> ?_,WM h.Yq hi (AZ D e).1⟩;rcases C8 hx with hx|rfl
 ·exact h.p x hx
 ·rw [(AZ D e).2.2];exact h.p e (bf hi)
def Yr{m n:Nat}{D:Dk}{l:List En}(h:Iv m n (D,l))(i:Nat):Iv (m+1) n (Kw D l i).1:=by
 cases hi:l[i]? with
 |none=>unfold Kw;rw [hi];exact h.mono aa (ax _)
 |some e=>
  rw [Aa hi];have:=WL h hi;split
  ·have:=TA this i;simp only [List.eraseIdx_set_eq] at this;exact this
  ·exact this
def WN{m n:Nat}{D:Dk}{l:List En}(h:Iv m n (D,l))(limit:Int):Iv (m+1) n (cG limit D l).1:=by
 unfold cG;split
 ·exact h.mono aa (ax _)
 ·split
  ·exact h.mono aa (ax _)
  ·exact Yr h _
def TB{D:Dk}{l:List En}{i:Nat}{x:En}(hx:x ∈(Kw D l i).1.2):oP l x.1:=by
 cases hi:l[i]? with
 |none=>unfold Kw at hx;rw [hi] at hx;exact ⟨x,hx,rfl⟩
 |some e=>
  rw [Aa hi] at hx;split at hx
  ·exact ⟨x,(oK ..).subset hx,rfl⟩
  ·rcases C8 hx with hx|rfl
   ·exact ⟨x,hx,rfl⟩
   ·exact ⟨e,bf hi,(AZ D e).1.symm⟩
def IK{limit:Int}{D:Dk}{l:List En}{x:En}(hx:x ∈(cG limit D l).1.2):oP l x.1:=by
 unfold cG at hx;split at hx
 ·exact ⟨x,hx,rfl⟩
 ·split at hx
  ·exact ⟨x,hx,rfl⟩
  ·exact TB hx
def IL{l:List En}(hn:iS l){k:Nat}{e e':En}(hk:l[k]? =some e)(h1:e'.1=e.1):iS (l.eraseIdx k++ [e']):=IM (DC hn k) λ⟨x,hx,q⟩=>((mem_erase hn hk x).1 hx).2 (q.trans h1)
def adX{m n:Nat}{D:Dk}{l:List En}(h:Iv m n (D,l))(ag limit:Int)(p:Po):Iv (m+1) n (oL ag limit D l p).1:=by
 have hr:=WN h limit;have eI:= @IK limit D l;unfold oL;rcases cl (λe:En=>e.1==p) l with ⟨hf,lk⟩|⟨k,e,hk,he,hf,-⟩
 ·rw [hf];split
  ·exact h.mono aa (ax _)
  ·rw [if_neg aC];split
   ·exact hr
   ·refine ⟨hr.m,λe he=> ?_,IM hr.Yq λ⟨x,hx,q⟩=> ?_⟩
    ·rcases cu.1 he with he|he
     ·exact hr.p e he
     ·simp only [fB] at he;subst he;exact ⟨mu 0,by simp only;omega⟩
    ·obtain ⟨y,hy,q2⟩:=eI hx;have:=lk y hy;have q3:y.1=p:=q2.trans q;simp [q3] at this
 ·rw [hf];split
  ·exact h.mono aa (ax _)
  ·rw [if_pos aa,jt,hk];refine ⟨by have:=h.m;simp only at this ⊢;omega,λx hx=> ?_,IL h.Yq hk rfl⟩;rcases cu.1 hx with hx|hx
   ·exact h.p x ((oK ..).subset hx)
   ·have:x=e:=by simpa using hx
    subst this;exact h.p x (bf hk)
def WO{m n:Nat}{D:Dk}{l:List En}(h:Iv m n (D,l))(p:Po):Iv (m+1) n (fO D l p).1:=by
 unfold fO;split
 ·split
  ·exact h.mono aa (ax _)
  ·exact Yr h _
 ·exact h.mono aa (ax _)
def aas{m n:Nat}{D:Dk}{l:List En}(h:Iv m n (D,l))(c:Ce)(b:Int):Iv m n (D,(cr l c b).1):=by
 have key:∀{l':List En},(∀x ∈ l',0<=x.2.2.2/\x.2.2.2<=n)->iS l'->Iv m n (D,l'):=λh1 h2=>⟨h.m,h1,h2⟩
 unfold cr;rcases cl (λe:En=>e.1==pos c) l with ⟨hf,lk⟩|⟨k,e,hk,he,hf,-⟩
 ·rw [hf,if_pos aC];exact h
 ·rw [hf,if_neg aa];split
  ·exact h
  ·split
   ·exact h
   ·rw [jt,hk];refine key (λx hx=> ?_) (IL h.Yq hk rfl);rcases cu.1 hx with hx|hx
    ·exact h.p x ((oK ..).subset hx)
    ·have:x=(e.1,(fL e.1 e.2.1 c b).1,e.2.2.1||(rZ e.1 e.2.1 c !=b),e.2.2.2):=by simpa using hx
     subst this;exact h.p e (bf hk)
abbrev Nf(N F:Nat->Prop):Nat->Prop:=λi=>¬F i/\N i
section
variable {N F F':Nat->Prop} {w w' v v':World} {s1 s2 s3:Sl} {T T':Tb} {ag cap:Int} {t a b:Nat}
def TF.Z7(h:TF F w t ag cap T){m n:Nat}(hi:Iv m n T)(hm:m<=400000):qH T:=by have h1:=h.len;exact ⟨h.ok,EH (by have:=hi.m;omega),h.ahF,by omega⟩
end
end Go.Proofs.YtalpkjfpmdpbiaaGreatDoor
namespace Go.Proofs.YtalpkjfpmdpbiaaGreatDoor
open Go Go.Vc Go.RowKit Go.Proofs Go.dS Go.bh Go.Code
end Go.Proofs.YtalpkjfpmdpbiaaGreatDoor
namespace Go.Proofs.YtalpkjfpmdpbiaaGreatDoor
open Go Go.Vc Go.RowKit Go.Proofs Go.dS Go.bh Go.Code
end Go.Proofs.YtalpkjfpmdpbiaaGreatDoor
namespace Go.Proofs.YtalpkjfpmdpbiaaGreatDoor
open Go Go.Vc Go.RowKit Go.Proofs Go.dS Go.bh Go.Code
end Go.Proofs.YtalpkjfpmdpbiaaGreatDoor
