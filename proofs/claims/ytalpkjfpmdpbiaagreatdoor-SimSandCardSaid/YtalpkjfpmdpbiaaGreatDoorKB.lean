import Derived.Test.YtalpkjfpmdpbiaaGreatDoorKA
import Derived.Test.YtalpkjfpmdpbiaaGreatDoorP
set_option linter.all false
namespace Go.Proofs.YtalpkjfpmdpbiaaGreatDoor
open Go Go.Vc Go.RowKit Go.Proofs Go.bQ Go.aB
abbrev mP:TypeId:=262
abbrev rY:TypeId:=224
abbrev rZ:TypeId:=137
abbrev aU:TypeId:=144
abbrev EA:TypeId:=129
theorem vD {a : Addr} {K : Prop} (h : K) : aV (ik (some a)) K := h
theorem BO (p : Po) (w : World) : Calls Tryz.prog lz #[pv p] w fun e w' => e = .returned (.tuple #[.int .i64 (l8 p), .bool (decide (ow p))]) ∧ Ext w w' := by
 apply uE.vc
 intro w0 e0
 have x0 : Ext w w0 := (Ext.aq w).ab e0
 have no : ¬ ow p → Ending.returned (.tuple #[(0:Int), .bool false]) = Ending.returned (.tuple #[.int .i64 (l8 p), .bool (decide (ow p))]) ∧ Ext w w0 := fun h => ⟨by rw [xL h, decide_eq_false h], x0⟩
 refine Br.mk (fun h => no ?_) (fun h => Br.mk (fun h2 => no ?_) (fun h2 => Br.mk (fun h3 => no ?_) (fun h3 => Br.mk (fun h4 => no ?_) (fun h4 => ?_)))) <;> simp only [decide_eq_true_eq, decide_eq_false_iff_not] at *
 ·unfold ow; omega
 ·unfold ow; omega
 ·unfold ow; omega
 ·unfold ow; omega
 ·have hin : ow p := by unfold ow; omega
  refine ⟨?_, x0⟩
  rw [decide_eq_true hin, ag (n := p.1 + 524288) (by unfold inI; omega), ag (n := (p.1 + 524288) * 2) (by unfold inI; omega), ag (n := (p.1 + 524288) * 2 * 524288) (by unfold inI; omega), ag (n := (p.1 + 524288) * 2 * 524288 + p.2) (by unfold inI; omega), ag (n := (p.1 + 524288) * 2 * 524288 + p.2 + 524288) (by unfold inI; omega), ag (n := (p.1 + 524288) * 2 * 524288 + p.2 + 524288 + 1) (by unfold inI; omega)]
  unfold l8
  rw [if_pos hin, show (p.1 + 524288) * 2 * 524288 + p.2 + 524288 + 1 = (p.1 + 524288) * 1048576 + (p.2 + 524288) + 1 by omega]
theorem EJ (p : Po) (w : World) : Calls Tryz.prog uy #[pv p] w fun e w' => e = .returned (.int .i64 (l8 p)) ∧ Ext w w' := by
 apply uF.vc
 intro w0 e0
 have x0 : Ext w w0 := (Ext.aq w).ab e0
 have no : ¬ ow p → Ending.returned (0:Int) = Ending.returned (.int .i64 (l8 p)) ∧ Ext w w0 := fun h => ⟨by rw [xL h], x0⟩
 refine Br.mk (fun h => no ?_) (fun h => Br.mk (fun h2 => no ?_) (fun h2 => Br.mk (fun h3 => no ?_) (fun h3 => Br.mk (fun h4 => no ?_) (fun h4 => ?_)))) <;> simp only [decide_eq_true_eq, decide_eq_false_iff_not] at *
 ·unfold ow; omega
 ·unfold ow; omega
 ·unfold ow; omega
 ·unfold ow; omega
 ·have hin : ow p := by unfold ow; omega
  refine ⟨?_, x0⟩
  rw [ag (n := p.1 + 524288) (by unfold inI; omega), ag (n := (p.1 + 524288) * 1048576) (by unfold inI; omega), ag (n := p.2 + 524288) (by unfold inI; omega), ag (n := (p.1 + 524288) * 1048576 + (p.2 + 524288)) (by unfold inI; omega), ag (n := (p.1 + 524288) * 1048576 + (p.2 + 524288) + 1) (by unfold inI; omega)]
  unfold l8
  rw [if_pos hin]
def GI (v:Value):Prop:=∃n:Int,v=.int .i64 n
theorem xY:dD Tryz.prog xN GI:=by
 refine ⟨?_,?_,?_⟩
 ·rintro x y ⟨a,rfl⟩ ⟨b,rfl⟩
  refine ⟨a==b,by kernel_rfl,?_⟩
  simp
 ·rintro x ⟨a,rfl⟩b w
  kernel_rfl
 ·rintro x ⟨a,rfl⟩
  simp [Instr.sameBits]
theorem Dt {P:Program} {w:World} {r:Nat} {es:Array MapEntry} {clock:Nat} (t:TypeId) (hb:w.heap[r]? =some (.map es clock)):
  (Extern.MapsClone.clone #[.iface t (.map (some r))]).run P w=.ok (.iface t (.map (some w.heap.size))) (w.alloc (.map es clock)):=by
 have e:Extern.MapsClone.clone #[.iface t (.map (some r))]=(getObj r>>=fun o=>match o with
   | .map entries clock=>(newObj (.map entries clock)>>=fun n=>pure (.iface t (.map (some n))))
   |_=>stuck "maps.clone: a map expected"):=rfl
 rw [e]
 simp [jo hb,ep,Result.andThen,Sem.run_bind]
theorem uN {w : World} {r : Nat} {kvs : List (Value × Value)} (hm : aJ GI w (some r) kvs) : Calls Tryz.prog fh #[.map (some r)] w fun e w' => e = .returned (.map (some w.heap.size)) ∧ aJ GI w' (some w.heap.size) kvs ∧ Ext w w' := by
 apply gX.vc
 refine Br.mk (fun h => by cases h) (fun _ => ?_)
 obtain ⟨es, clock, hb, h2⟩ := hm
 refine ⟨Extern.MapsClone.clone, ⟨_, Tryz.func247, by kernel_rfl, by kernel_rfl, by kernel_rfl⟩, _, _, Dt _ hb, _, rfl, _, rfl, rfl, ⟨es, clock, World.alloc_heap_new w _, h2⟩, Ext.al w _⟩
end Go.Proofs.YtalpkjfpmdpbiaaGreatDoor
