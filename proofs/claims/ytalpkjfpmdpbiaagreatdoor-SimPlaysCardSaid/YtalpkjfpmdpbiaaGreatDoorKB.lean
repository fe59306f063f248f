import Derived.Test.YtalpkjfpmdpbiaaGreatDoorKA
import Derived.Test.YtalpkjfpmdpbiaaGreatDoorP
set_option linter.all false
namespace Go.Proofs.YtalpkjfpmdpbiaaGreatDoor
open Go Go.Vc Go.RowKit Go.Proofs Go.dS Go.bh
abbrev pH:TypeId:=262
abbrev vN:TypeId:=224
abbrev vO:TypeId:=137
abbrev bT:TypeId:=144
abbrev Sc:TypeId:=129
def yP{a:Addr}{K:Prop}(h:K):bk (eV (some a)) K:=h
def MV(p:Po)(w:World):ah 69 #[pv p] w λe w'=>e=Value.tuple #[(jU p),.bool (decide (oI p))]/\Ext w w':=by
 apply R8.vc;intro w0 e0;have x0:=bo e0;have no:¬oI p->Ending.returned (.tuple #[af,false])=Ending.returned (.tuple #[(jU p),.bool (decide (oI p))])/\Ext w w0:=λh=>⟨by rw [yO h,decide_eq_false h],x0⟩
 refine Br.mk (λh=>no ?_) (λh=>Br.mk (λh2=>no ?_) (λh2=>Br.mk (λh3=>no ?_) (λh3=>Br.mk (λh4=>no ?_) (λh4=> ?_))))<;>simp only [bA,bV] at*
 ·unfold oI;omega
 ·unfold oI;omega
 ·unfold oI;omega
 ·unfold oI;omega
 ·have cX:oI p:=by unfold oI;omega
  refine ⟨?_,x0⟩;rw [decide_eq_true cX,az (n:=p.1+524288) (by unfold inI;omega),az (n:=(p.1+524288)*2) (by unfold inI;omega),az (n:=(p.1+524288)*2*524288) (by unfold inI;omega),az (n:=(p.1+524288)*2*524288+p.2) (by unfold inI;omega),az (n:=(p.1+524288)*2*524288+p.2+524288) (by unfold inI;omega),az (n:=(p.1+524288)*2*524288+p.2+524288+1) (by unfold inI;omega)];unfold jU;rw [if_pos cX,show (p.1+524288)*2*524288+p.2+524288+1=(p.1+524288)*1048576+(p.2+524288)+1 by omega]
def uc(p:Po)(w:World):ah 76 #[pv p] w λe w'=>e=Value.int .i64 (jU p)/\Ext w w':=by
 apply R9.vc;intro w0 e0;have x0:=bo e0;have no:¬oI p->Ending.returned (0:Int)=Ending.returned (.int .i64 (jU p))/\Ext w w0:=λh=>⟨by rw [yO h],x0⟩
 refine Br.mk (λh=>no ?_) (λh=>Br.mk (λh2=>no ?_) (λh2=>Br.mk (λh3=>no ?_) (λh3=>Br.mk (λh4=>no ?_) (λh4=> ?_))))<;>simp only [bA,bV] at*
 ·unfold oI;omega
 ·unfold oI;omega
 ·unfold oI;omega
 ·unfold oI;omega
 ·have cX:oI p:=by unfold oI;omega
  refine ⟨?_,x0⟩;rw [az (n:=p.1+524288) (by unfold inI;omega),az (n:=(p.1+524288)*1048576) (by unfold inI;omega),az (n:=p.2+524288) (by unfold inI;omega),az (n:=(p.1+524288)*1048576+(p.2+524288)) (by unfold inI;omega),az (n:=(p.1+524288)*1048576+(p.2+524288)+1) (by unfold inI;omega)];unfold jU;rw [if_pos cX]
def GI(v:Value):Prop:=∃n:Int,v=.int .i64 n
def EC:gQ Tryz.prog qT GI:=by
 refine ⟨?_,?_,?_⟩
 ·rintro x y ⟨a,rfl⟩ ⟨b,rfl⟩;refine ⟨a==b,by kernel_rfl,?_⟩;simp
 ·rintro x ⟨a,rfl⟩ b w;kernel_rfl
 ·rintro x ⟨a,rfl⟩;simp [Instr.sameBits]
def PK{P:Program}{w:World}{r:Nat}{es:Array MapEntry}{clock:Nat}(t:TypeId)(hb:w.heap[r]? =some (.map es clock)):
  (Extern.MapsClone.clone #[.iface t (.map (some r))]).run P w=.ok (.iface t (.map (some w.heap.size))) (w.alloc (.map es clock)):=by
 have e:Extern.MapsClone.clone #[.iface t (.map (some r))]=(getObj r>>=λo=>match o with
   | .map entries clock=>(newObj (.map entries clock)>>=λn=>pure (.iface t (.map (some n))))
   |_=>stuck "maps.clone: a map expected"):=rfl
 rw [e];simp [lK hb,gJ,Result.andThen,Sem.run_bind]
def Ak{w:World}{r:Nat}{kvs:List (Value × Value)}(hm:bN GI w (some r) kvs):ah 236 #[.map (some r)] w λe w'=>e=Value.map (some w.heap.size)/\bN GI w' (some w.heap.size) kvs/\Ext w w':=by apply xO.vc;refine Br.mk (λh=>by cases h) (λ_=> ?_);obtain ⟨es,clock,hb,h2⟩:=hm;refine ⟨Extern.MapsClone.clone,⟨_,Tryz.func247,by kernel_rfl,by kernel_rfl,by kernel_rfl⟩,_,_,PK _ hb,_,rfl,_,rfl,rfl,⟨es,clock,World.alloc_heap_new w _,h2⟩,Ext.al w _⟩
end Go.Proofs.YtalpkjfpmdpbiaaGreatDoor
