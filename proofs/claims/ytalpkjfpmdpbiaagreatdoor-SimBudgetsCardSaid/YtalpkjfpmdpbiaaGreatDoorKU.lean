import Derived.Test.YtalpkjfpmdpbiaaGreatDoorKT
import Derived.Test.YtalpkjfpmdpbiaaGreatDoorP
set_option linter.all false
namespace Go.Proofs.YtalpkjfpmdpbiaaGreatDoor
open Go Go.Vc Go.RowKit Go.Proofs Go.dQ Go.bf Go.Code
def V4{l:List Rn}(h:∀r ∈ l,1<=r.1):((ku l).length:Int)<=2*ba l:=by
 induction l with
 |nil=>exact oF 0
 |cons r t ih=>
  have h1:=h r (.head _);have h2:=ih λq hq=>h q (.tail _ hq)
  have e1:(ku (r::t)).length=1+(ia r.1).length+(ku t).length:=by show (List.flatMap _ (r::t)).length=_;rw [List.flatMap_cons,eK,fR];show (ia r.1).length+1+(ku t).length=_;omega
  have e2:ba (r::t)=r.1+ba t:=by unfold ba;rw [dE,List.sum_cons]
  have h3:=sY r.1;have h4:r.1<128->(ia r.1).length<=1:=λq=>by
   unfold ia;split
   ·simp
   ·unfold lY;rw [if_pos q];simp
  by_cases q:r.1<128
  ·have:=h4 q;omega
  ·omega
def Ta{C:List Int}(hl:C.length=8192)(hm:∀b ∈ C,aY b=true):(ku (cK C)).length<=16384:=by
 obtain ⟨-,-,hf,hs⟩:=qq hl hm;have h1:∀r ∈ cK C,1<=r.1:=λr hr=>(iH hr).1
 have:=V4 h1;omega
def KM(ag:Int)(p:Po):gH ag p []=made ag p:=rfl
def VZ{l:List En}(hn:je l){i:Nat}{e e':En}(hi:l[i]? =some e)(h1:e'.1=e.1):je (l.set i e'):=by
 unfold je;rw [mM,h1];have:(l.map (·.1)).set i e.1=l.map (·.1):=by
  have hk:(l.map (·.1))[i]? =some e.1:=by rw [aX,hi];rfl
  obtain ⟨hl,he⟩:=bF.1 hk;rw [<-he];exact List.set_getElem_self hl
 rw [this];exact hn
def Lh{l:List En}{i:Nat}{e:En}(hd:je l)(hi:l[i]? =some e):e.1 ∉(l.eraseIdx i).map (·.1):=by
 rw [sS,aT];have e1:l=l.take i++e::l.drop (i+1):=by have:=kf i l;rw [kT (bF.1 hi).1] at this;rw [<-(bF.1 hi).2];exact this.symm
 unfold je at hd;rw [e1,aT,dE] at hd;obtain ⟨h1,h2,h3⟩:=mq.1 hd;intro hm;rcases ct.1 hm with hm|hm
 ·exact h3 _ hm _ (.head _) rfl
 ·exact (lF.1 h2).1 hm
def mem_erase{l:List En}(hn:je l){i:Nat}{e:En}(hi:l[i]? =some e)(x:En):x ∈ l.eraseIdx i ↔ x ∈ l/\x.1≠e.1:=by
 have my:e.1 ∉(l.eraseIdx i).map (·.1):=Lh hn hi;have vD:=bF.1 hi;have e1:l=l.take i++e::l.drop (i+1):=by have:=kf i l;rw [kT vD.1,vD.2] at this;exact this.symm
 have e2:x ∈ l ↔ x ∈ l.eraseIdx i\/x=e:=by
  rw [sS];conv=>lhs;rw [e1]
  simp only [ct,bI];constructor
  ·rintro (h|h|h)
   ·exact .inl (.inl h)
   ·exact .inr h
   ·exact .inl (.inr h)
  ·rintro ((h|h)|h)
   ·exact .inl h
   ·exact .inr (.inr h)
   ·exact .inr (.inl h)
 constructor
 ·intro hx;exact ⟨e2.2 (.inl hx),λq=>my (aR.2 ⟨x,hx,q⟩)⟩
 ·rintro ⟨hx,dI⟩;rcases e2.1 hx with h|h
  ·exact h
  ·exact absurd (by rw [h]) dI
def C8{l:List En}(hn:je l)(i:Nat):je (l.eraseIdx i):=hn.sublist ((oC ..).map _)
def Ij{l:List En}(hn:je l){e:En}(h:¬oH l e.1):je (l++ [e]):=by unfold je;rw [aT];refine mq.2 ⟨hn,by simp,?_⟩;intro a ha b hb q;simp at hb;obtain ⟨x,hx,rfl⟩:=aR.1 ha;exact h ⟨x,hx,q.trans hb⟩
end Go.Proofs.YtalpkjfpmdpbiaaGreatDoor
namespace Go.Proofs.YtalpkjfpmdpbiaaGreatDoor
open Go Go.Vc Go.RowKit Go.Proofs Go.dQ Go.bf Go.Code
end Go.Proofs.YtalpkjfpmdpbiaaGreatDoor
namespace Go.Proofs.YtalpkjfpmdpbiaaGreatDoor
open Go Go.Vc Go.RowKit Go.Proofs Go.dQ Go.bf Go.Code
def Bj{p:Option Addr}{K:Prop}(hp:p.isSome=true)(h:K):bn (eQ p) K:=bj.2 ⟨gj.2 hp,h⟩
def ac4:uK iE/\uK Qc:=by decide
end Go.Proofs.YtalpkjfpmdpbiaaGreatDoor
namespace Go.Proofs.YtalpkjfpmdpbiaaGreatDoor
open Go Go.Vc Go.RowKit Go.Proofs Go.dQ Go.bf Go.Code
def MJ(c:Ce):Ce:=(fL c.1 80-32,fL c.2.1 34-1,fL c.2.2 80-32)
def Li(c:Ce)(hc:mA c)(w:World):ah 62 #[iS c] w λe w'=>e=(iS (MJ c))/\Ext w w':=by
 apply Kc.vc;have h1:=gW c.1 80 aE;have h2:=gW c.2.1 34 aE;have h3:=gW c.2.2 80 aE;intro w0 e0 w1 e1;have z0:=du e0;have x1:Ext w w1.drew:=((bq e0).ay e1).drew;have hb:Row w1.drew w [c.1,c.2.1,c.2.2] iE:=((by rw [e0];exact Row.new w [_,_,_] _:Row w0 w [c.1,c.2.1,c.2.2] iE).ext (bq e1)).ext (Ext.dr _);have r1:av w1.drew (pd w.heap.size 1) 0 [c.2.1]:=hb.bk λj hj=>by simp at hj;subst hj;rfl
 have r2:av w1.drew (pd w.heap.size 2) 0 [c.2.2]:=hb.bk λj hj=>by simp at hj;subst hj;rfl
 refine (iZ c.1 80 w1.drew hc.1 aE (by unfold inI;omega)).mono ?_;rintro e w2 ⟨rfl,hw⟩;subst hw;refine ⟨_,rfl,rfl,rfl,r2,r1,(iZ c.2.1 34 w1.drew hc.2.1 aE (by unfold inI;omega)).mono ?_⟩;rintro e w2 ⟨rfl,hw⟩;subst hw;refine ⟨_,rfl,rfl,rfl,r2,(iZ c.2.2 80 w1.drew hc.2.2 aE (by unfold inI;omega)).mono ?_⟩;rintro e w2 ⟨rfl,hw⟩;subst hw;refine ⟨_,rfl,rfl,rfl,λw6 e6=>⟨?_,x1.ab e6 aa⟩⟩;have q1:ai (fL c.1 80-32)=fL c.1 80-32:=wI;have q2:ai (fL c.2.1 34-1)=fL c.2.1 34-1:=wI;have q3:ai (fL c.2.2 80-32)=fL c.2.2 80-32:=wI;rw [q1,q2,q3];rfl
end Go.Proofs.YtalpkjfpmdpbiaaGreatDoor
namespace Go.Proofs.YtalpkjfpmdpbiaaGreatDoor
open Go Go.Vc Go.RowKit Go.Proofs Go.dQ Go.bf Go.Code
def FX{F:Nat->Prop}{w:World}{t:Nat}{ag cap:Int}{T:Tb}(h:TF F w t ag cap T):ah 135 #[t] w λe w'=>∃s':Sl,e=s'/\ak w Qc 2 w' s' (T.2.map λe=> [.int .i64 e.1.1,.int .i64 e.1.2])/\Ext w w':=by obtain ⟨st,d,r,sl,its,g1,e,rfl⟩:=h;rw [<-e];exact Oo g1
end Go.Proofs.YtalpkjfpmdpbiaaGreatDoor
