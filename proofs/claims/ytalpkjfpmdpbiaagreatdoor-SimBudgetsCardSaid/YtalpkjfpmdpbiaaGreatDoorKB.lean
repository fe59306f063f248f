import Derived.Test.YtalpkjfpmdpbiaaGreatDoorKA
import Derived.Test.YtalpkjfpmdpbiaaGreatDoorP
set_option linter.all false
namespace Go.Proofs.YtalpkjfpmdpbiaaGreatDoor
open Go Go.Vc Go.RowKit Go.Proofs Go.dQ Go.bf
abbrev pA:TypeId:=262
abbrev vh:TypeId:=224
abbrev vi:TypeId:=137
abbrev bS:TypeId:=144
abbrev Rk:TypeId:=129
def yw{a:Addr}{K:Prop}(h:K):bn (eQ (some a)) K:=h
def Md(p:Po)(w:World):ah 69 #[pv p] w λe w'=>e=Value.tuple #[(jQ p),.bool (decide (oA p))]/\Ext w w':=by
 apply Rf.vc;intro w0 e0;have x0:=bq e0;have no:¬oA p->Ending.returned (.tuple #[af,false])=Ending.returned (.tuple #[(jQ p),.bool (decide (oA p))])/\Ext w w0:=λh=>⟨by rw [yu h,decide_eq_false h],x0⟩
 refine Br.mk (λh=>no ?_) (λh=>Br.mk (λh2=>no ?_) (λh2=>Br.mk (λh3=>no ?_) (λh3=>Br.mk (λh4=>no ?_) (λh4=> ?_))))<;>simp only [bB,bQ] at*
 ·unfold oA;omega
 ·unfold oA;omega
 ·unfold oA;omega
 ·unfold oA;omega
 ·have cV:oA p:=by unfold oA;omega
  refine ⟨?_,x0⟩;rw [decide_eq_true cV,az (n:=p.1+524288) (by unfold inI;omega),az (n:=(p.1+524288)*2) (by unfold inI;omega),az (n:=(p.1+524288)*2*524288) (by unfold inI;omega),az (n:=(p.1+524288)*2*524288+p.2) (by unfold inI;omega),az (n:=(p.1+524288)*2*524288+p.2+524288) (by unfold inI;omega),az (n:=(p.1+524288)*2*524288+p.2+524288+1) (by unfold inI;omega)];unfold jQ;rw [if_pos cV,show (p.1+524288)*2*524288+p.2+524288+1=(p.1+524288)*1048576+(p.2+524288)+1 by omega]
def tz(p:Po)(w:World):ah 76 #[pv p] w λe w'=>e=Value.int .i64 (jQ p)/\Ext w w':=by
 apply Rg.vc;intro w0 e0;have x0:=bq e0;have no:¬oA p->Ending.returned (0:Int)=Ending.returned (.int .i64 (jQ p))/\Ext w w0:=λh=>⟨by rw [yu h],x0⟩
 refine Br.mk (λh=>no ?_) (λh=>Br.mk (λh2=>no ?_) (λh2=>Br.mk (λh3=>no ?_) (λh3=>Br.mk (λh4=>no ?_) (λh4=> ?_))))<;>simp only [bB,bQ] at*
 ·unfold oA;omega
 ·unfold oA;omega
 ·unfold oA;omega
 ·unfold oA;omega
 ·have cV:oA p:=by unfold oA;omega
  refine ⟨?_,x0⟩;rw [az (n:=p.1+524288) (by unfold inI;omega),az (n:=(p.1+524288)*1048576) (by unfold inI;omega),az (n:=p.2+524288) (by unfold inI;omega),az (n:=(p.1+524288)*1048576+(p.2+524288)) (by unfold inI;omega),az (n:=(p.1+524288)*1048576+(p.2+524288)+1) (by unfold inI;omega)];unfold jQ;rw [if_pos cV]
def GI(v:Value):Prop:=∃n:Int,v=.int .i64 n
def Eb:gF Tryz.prog qC GI:=by
 refine ⟨?_,?_,?_⟩
 ·rintro x y ⟨a,rfl⟩ ⟨b,rfl⟩;refine ⟨a==b,by kernel_rfl,?_⟩;simp
 ·rintro x ⟨a,rfl⟩ b w;kernel_rfl
 ·rintro x ⟨a,rfl⟩;simp [Instr.sameBits]
def O3{P:Program}{w:World}{r:Nat}{es:Array MapEntry}{clock:Nat}(t:TypeId)(hb:w.heap[r]? =some (.map es clock)):
  (Extern.MapsClone.clone #[.iface t (.map (some r))]).run P w=.ok (.iface t (.map (some w.heap.size))) (w.alloc (.map es clock)):=by
 have e:Extern.MapsClone.clone #[.iface t (.map (some r))]=(getObj r>>=λo=>match o with
   | .map entries clock=>(newObj (.map entries clock)>>=λn=>pure (.iface t (.map (some n))))
   |_=>stuck "maps.clone: a map expected"):=rfl
 rw [e];simp [lK hb,gx,Result.andThen,Sem.run_bind]
def zP{w:World}{r:Nat}{kvs:List (Value × Value)}(hm:bK GI w (some r) kvs):ah 236 #[.map (some r)] w λe w'=>e=Value.map (some w.heap.size)/\bK GI w' (some w.heap.size) kvs/\Ext w w':=by apply xq.vc;refine Br.mk (λh=>by cases h) (λ_=> ?_);obtain ⟨es,clock,hb,h2⟩:=hm;refine ⟨Extern.MapsClone.clone,⟨_,Tryz.func247,by kernel_rfl,by kernel_rfl,by kernel_rfl⟩,_,_,O3 _ hb,_,rfl,_,rfl,rfl,⟨es,clock,World.alloc_heap_new w _,h2⟩,Ext.al w _⟩
end Go.Proofs.YtalpkjfpmdpbiaaGreatDoor
