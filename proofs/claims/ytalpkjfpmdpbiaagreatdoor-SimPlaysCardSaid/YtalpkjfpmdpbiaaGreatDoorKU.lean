import Derived.Test.YtalpkjfpmdpbiaaGreatDoorKT
import Derived.Test.YtalpkjfpmdpbiaaGreatDoorP
set_option linter.all false
namespace Go.Proofs.YtalpkjfpmdpbiaaGreatDoor
open Go Go.Vc Go.RowKit Go.Proofs Go.dS Go.bh Go.Code
def WR{l:List Rn}(h:∀r ∈ l,1<=r.1):((kD l).length:Int)<=2*bg l:=by
 induction l with
 |nil=>exact mu 0
 |cons r t ih=>
  have h1:=h r (.head _);have h2:=ih λq hq=>h q (.tail _ hq)
  have e1:(kD (r::t)).length=1+(ie r.1).length+(kD t).length:=by show (List.flatMap _ (r::t)).length=_;rw [List.flatMap_cons,eP,fX];show (ie r.1).length+1+(kD t).length=_;omega
  have e2:bg (r::t)=r.1+bg t:=by unfold bg;rw [dG,List.sum_cons]
  have h3:=tJ r.1;have h4:r.1<128->(ie r.1).length<=1:=λq=>by
   unfold ie;split
   ·simp
   ·unfold l8;rw [if_pos q];simp
  by_cases q:r.1<128
  ·have:=h4 q;omega
  ·omega
def TH{C:List Int}(hl:C.length=8192)(hm:∀b ∈ C,ba b=true):(kD (cM C)).length<=16384:=by
 obtain ⟨-,-,hf,hs⟩:=qJ hl hm;have h1:∀r ∈ cM C,1<=r.1:=λr hr=>(iK hr).1
 have:=WR h1;omega
def Lx(ag:Int)(p:Po):gT ag p []=made ag p:=rfl
def WM{l:List En}(hn:iS l){i:Nat}{e e':En}(hi:l[i]? =some e)(h1:e'.1=e.1):iS (l.set i e'):=by
 unfold iS;rw [mP,h1];have:(l.map (·.1)).set i e.1=l.map (·.1):=by
  have hk:(l.map (·.1))[i]? =some e.1:=by rw [aV,hi];rfl
  obtain ⟨hl,he⟩:=bH.1 hk;rw [<-he];exact List.set_getElem_self hl
 rw [this];exact hn
def L1{l:List En}{i:Nat}{e:En}(hd:iS l)(hi:l[i]? =some e):e.1 ∉(l.eraseIdx i).map (·.1):=by
 rw [tC,aT];have e1:l=l.take i++e::l.drop (i+1):=by have:=jK i l;rw [kW (bH.1 hi).1] at this;rw [<-(bH.1 hi).2];exact this.symm
 unfold iS at hd;rw [e1,aT,dG] at hd;obtain ⟨h1,h2,h3⟩:=lH.1 hd;intro hm;rcases cu.1 hm with hm|hm
 ·exact h3 _ hm _ (.head _) rfl
 ·exact (lE.1 h2).1 hm
def mem_erase{l:List En}(hn:iS l){i:Nat}{e:En}(hi:l[i]? =some e)(x:En):x ∈ l.eraseIdx i ↔ x ∈ l/\x.1≠e.1:=by
 have lk:e.1 ∉(l.eraseIdx i).map (·.1):=L1 hn hi;have wg:=bH.1 hi;have e1:l=l.take i++e::l.drop (i+1):=by have:=jK i l;rw [kW wg.1,wg.2] at this;exact this.symm
 have e2:x ∈ l ↔ x ∈ l.eraseIdx i\/x=e:=by
  rw [tC];conv=>lhs;rw [e1]
  simp only [cu,bJ];constructor
  ·rintro (h|h|h)
   ·exact .inl (.inl h)
   ·exact .inr h
   ·exact .inl (.inr h)
  ·rintro ((h|h)|h)
   ·exact .inl h
   ·exact .inr (.inr h)
   ·exact .inr (.inl h)
 constructor
 ·intro hx;exact ⟨e2.2 (.inl hx),λq=>lk (aS.2 ⟨x,hx,q⟩)⟩
 ·rintro ⟨hx,dN⟩;rcases e2.1 hx with h|h
  ·exact h
  ·exact absurd (by rw [h]) dN
def DC{l:List En}(hn:iS l)(i:Nat):iS (l.eraseIdx i):=hn.sublist ((oK ..).map _)
def IM{l:List En}(hn:iS l){e:En}(h:¬oP l e.1):iS (l++ [e]):=by unfold iS;rw [aT];refine lH.2 ⟨hn,by simp,?_⟩;intro a ha b hb q;simp at hb;obtain ⟨x,hx,rfl⟩:=aS.1 ha;exact h ⟨x,hx,q.trans hb⟩
end Go.Proofs.YtalpkjfpmdpbiaaGreatDoor
namespace Go.Proofs.YtalpkjfpmdpbiaaGreatDoor
open Go Go.Vc Go.RowKit Go.Proofs Go.dS Go.bh Go.Code
end Go.Proofs.YtalpkjfpmdpbiaaGreatDoor
namespace Go.Proofs.YtalpkjfpmdpbiaaGreatDoor
open Go Go.Vc Go.RowKit Go.Proofs Go.dS Go.bh Go.Code
def BM{p:Option Addr}{K:Prop}(hp:p.isSome=true)(h:K):bk (eV p) K:=bn.2 ⟨gq.2 hp,h⟩
def adR:oZ gz/\oZ QH:=by decide
end Go.Proofs.YtalpkjfpmdpbiaaGreatDoor
namespace Go.Proofs.YtalpkjfpmdpbiaaGreatDoor
open Go Go.Vc Go.RowKit Go.Proofs Go.dS Go.bh Go.Code
def Nx(c:Ce):Ce:=(gZ c.1 80-32,gZ c.2.1 34-1,gZ c.2.2 80-32)
def L2(c:Ce)(hc:lY c)(w:World):ah 62 #[iG c] w λe w'=>e=(iG (Nx c))/\Ext w w':=by
 apply KN.vc;have h1:=jd c.1 80 aC;have h2:=jd c.2.1 34 aC;have h3:=jd c.2.2 80 aC;intro w0 e0 w1 e1;have z0:=dt e0;have x1:Ext w w1.drew:=((bo e0).ay e1).drew;have hb:Row w1.drew w [c.1,c.2.1,c.2.2] gz:=((by rw [e0];exact Row.new w [_,_,_] _:Row w0 w [c.1,c.2.1,c.2.2] gz).ext (bo e1)).ext (Ext.dr _);have r1:au w1.drew (lX w.heap.size 1) 0 [c.2.1]:=hb.aY λj hj=>by simp at hj;subst hj;rfl
 have r2:au w1.drew (lX w.heap.size 2) 0 [c.2.2]:=hb.aY λj hj=>by simp at hj;subst hj;rfl
 refine (kz c.1 80 w1.drew hc.1 aC (by unfold inI;omega)).mono ?_;rintro e w2 ⟨rfl,hw⟩;subst hw;refine ⟨_,rfl,rfl,rfl,r2,r1,(kz c.2.1 34 w1.drew hc.2.1 aC (by unfold inI;omega)).mono ?_⟩;rintro e w2 ⟨rfl,hw⟩;subst hw;refine ⟨_,rfl,rfl,rfl,r2,(kz c.2.2 80 w1.drew hc.2.2 aC (by unfold inI;omega)).mono ?_⟩;rintro e w2 ⟨rfl,hw⟩;subst hw;refine ⟨_,rfl,rfl,rfl,λw6 e6=>⟨?_,x1.ab e6 aa⟩⟩;have q1:ai (gZ c.1 80-32)=gZ c.1 80-32:=wI;have q2:ai (gZ c.2.1 34-1)=gZ c.2.1 34-1:=wI;have q3:ai (gZ c.2.2 80-32)=gZ c.2.2 80-32:=wI;rw [q1,q2,q3];rfl
end Go.Proofs.YtalpkjfpmdpbiaaGreatDoor
namespace Go.Proofs.YtalpkjfpmdpbiaaGreatDoor
open Go Go.Vc Go.RowKit Go.Proofs Go.dS Go.bh Go.Code
def Gy{F:Nat->Prop}{w:World}{t:Nat}{ag cap:Int}{T:Tb}(h:TF F w t ag cap T):ah 135 #[t] w λe w'=>∃s':Sl,e=s'/\aj w QH 2 w' s' (T.2.map λe=> [.int .i64 e.1.1,.int .i64 e.1.2])/\Ext w w':=by obtain ⟨st,d,r,sl,its,g1,e,rfl⟩:=h;rw [<-e];exact O6 g1
end Go.Proofs.YtalpkjfpmdpbiaaGreatDoor
