import Derived.Test.YtalpkjfpmdpbiaaGreatDoorKA
import Derived.Test.YtalpkjfpmdpbiaaGreatDoorP
set_option linter.all false
namespace Go.Proofs.YtalpkjfpmdpbiaaGreatDoor
open Go Go.Vc Go.RowKit Go.Proofs Go.bY Go.aD
abbrev nT:TypeId:=262
abbrev uk:TypeId:=224
abbrev um:TypeId:=137
abbrev aS:TypeId:=144
abbrev GG:TypeId:=129
theorem yh {a : Addr} {K : Prop} (h : K) : aK (ep (some a)) K := h
theorem DP (p : Po) (w : World) : Calls Tryz.prog mu #[pv p] w fun e w' => e = .returned (.tuple #[.int .i64 (mY p), .bool (decide (pJ p))]) ∧ Ext w w' := by
 apply wR.vc
 intro w0 e0
 have x0 : Ext w w0 := (Ext.ao w).aa e0
 have no : ¬ pJ p → Ending.returned (.tuple #[(0:Int), .bool false]) = Ending.returned (.tuple #[.int .i64 (mY p), .bool (decide (pJ p))]) ∧ Ext w w0 := fun h => ⟨by rw [Ab h, decide_eq_false h], x0⟩
 refine Br.mk (fun h => no ?_) (fun h => Br.mk (fun h2 => no ?_) (fun h2 => Br.mk (fun h3 => no ?_) (fun h3 => Br.mk (fun h4 => no ?_) (fun h4 => ?_)))) <;> simp only [decide_eq_true_eq, decide_eq_false_iff_not] at *
 ·unfold pJ; omega
 ·unfold pJ; omega
 ·unfold pJ; omega
 ·unfold pJ; omega
 ·have hin : pJ p := by unfold pJ; omega
  refine ⟨?_, x0⟩
  rw [decide_eq_true hin, aj (n := p.1 + 524288) (by unfold inI; omega), aj (n := (p.1 + 524288) * 2) (by unfold inI; omega), aj (n := (p.1 + 524288) * 2 * 524288) (by unfold inI; omega), aj (n := (p.1 + 524288) * 2 * 524288 + p.2) (by unfold inI; omega), aj (n := (p.1 + 524288) * 2 * 524288 + p.2 + 524288) (by unfold inI; omega), aj (n := (p.1 + 524288) * 2 * 524288 + p.2 + 524288 + 1) (by unfold inI; omega)]
  unfold mY
  rw [if_pos hin, show (p.1 + 524288) * 2 * 524288 + p.2 + 524288 + 1 = (p.1 + 524288) * 1048576 + (p.2 + 524288) + 1 by omega]
theorem GV (p : Po) (w : World) : Calls Tryz.prog wK #[pv p] w fun e w' => e = .returned (.int .i64 (mY p)) ∧ Ext w w' := by
 apply wS.vc
 intro w0 e0
 have x0 : Ext w w0 := (Ext.ao w).aa e0
 have no : ¬ pJ p → Ending.returned (0:Int) = Ending.returned (.int .i64 (mY p)) ∧ Ext w w0 := fun h => ⟨by rw [Ab h], x0⟩
 refine Br.mk (fun h => no ?_) (fun h => Br.mk (fun h2 => no ?_) (fun h2 => Br.mk (fun h3 => no ?_) (fun h3 => Br.mk (fun h4 => no ?_) (fun h4 => ?_)))) <;> simp only [decide_eq_true_eq, decide_eq_false_iff_not] at *
 ·unfold pJ; omega
 ·unfold pJ; omega
 ·unfold pJ; omega
 ·unfold pJ; omega
 ·have hin : pJ p := by unfold pJ; omega
  refine ⟨?_, x0⟩
  rw [aj (n := p.1 + 524288) (by unfold inI; omega), aj (n := (p.1 + 524288) * 1048576) (by unfold inI; omega), aj (n := p.2 + 524288) (by unfold inI; omega), aj (n := (p.1 + 524288) * 1048576 + (p.2 + 524288)) (by unfold inI; omega), aj (n := (p.1 + 524288) * 1048576 + (p.2 + 524288) + 1) (by unfold inI; omega)]
  unfold mY
  rw [if_pos hin]
def GI(v:Value):Prop:=∃n:Int,v=.int .i64 n
theorem Ao:dV Tryz.prog yq GI:=by
 refine⟨?_,?_,?_⟩
 ·rintro x y⟨a,rfl⟩⟨b,rfl⟩
  refine⟨a==b,by kernel_rfl,?_⟩
  simp
 ·rintro x⟨a,rfl⟩b w
  kernel_rfl
 ·rintro x⟨a,rfl⟩
  simp [Instr.sameBits]
theorem Fu {P : Program} {w : World} {r : Nat} {es : Array MapEntry} {clock : Nat} (t : TypeId) (hb : w.heap[r]? = some (.map es clock)) :
  (Extern.MapsClone.clone #[.iface t (.map (some r))]).run P w = .ok (.iface t (.map (some w.heap.size))) (w.alloc (.map es clock)) := by
 have e : Extern.MapsClone.clone #[.iface t (.map (some r))] = (getObj r >>= fun o => match o with
   | .map entries clock => (newObj (.map entries clock) >>= fun n => pure (.iface t (.map (some n))))
   | _ => stuck "maps.clone: a map expected") := rfl
 rw [e]
 simp [jU hb, eO, Result.andThen, Sem.run_bind]
theorem xf {w : World} {r : Nat} {kvs : List (Value × Value)} (hm : aO GI w (some r) kvs) : Calls Tryz.prog fL #[.map (some r)] w fun e w' => e = .returned (.map (some w.heap.size)) ∧ aO GI w' (some w.heap.size) kvs ∧ Ext w w' := by
 apply iD.vc
 refine Br.mk (fun h => by cases h) (fun _ => ?_)
 obtain ⟨es, clock, hb, h2⟩ := hm
 refine ⟨Extern.MapsClone.clone, ⟨_, Tryz.func247, by kernel_rfl, by kernel_rfl, by kernel_rfl⟩, _, _, Fu _ hb, _, rfl, _, rfl, rfl, ⟨es, clock, World.alloc_heap_new w _, h2⟩, Ext.al w _⟩
end Go.Proofs.YtalpkjfpmdpbiaaGreatDoor
