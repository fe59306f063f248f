import Derived.Test.YtkkkfkopcfdmaaaGreatDoorKA
import Derived.Test.YtkkkfkopcfdmaaaGreatDoorP
set_option linter.all false
namespace Go.Proofs.YtkkkfkopcfdmaaaGreatDoor
open Go Go.Vc Go.RowKit Go.Proofs Go.Chk Go.Runs
abbrev tDisk : TypeId := 277
abbrev tStore : TypeId := 217
abbrev tTable : TypeId := 143
abbrev tItem : TypeId := 150
abbrev tPI : TypeId := 137
theorem nnS {a : Addr} {K : Prop} (h : K) : AndL (nnC (some a)) K := h
theorem Id_spec (p : Po) (w : World) : Calls Tryz.prog n_table_Id #[pv p] w fun e w' => e = .returned (.tuple #[.int .i64 (idK p), .bool (decide (inT p))]) ∧ Ext w w' := by
 apply table_Id.vc
 intro w0 e0
 have x0 : Ext w w0 := (Ext.rfl' w).of_alloc e0
 have no : ¬ inT p → Ending.returned (.tuple #[.int .i64 0, .bool false]) = Ending.returned (.tuple #[.int .i64 (idK p), .bool (decide (inT p))]) ∧ Ext w w0 := fun h => ⟨by rw [idK_out h, decide_eq_false h], x0⟩
 refine Br.mk (fun h => no ?_) (fun h => Br.mk (fun h2 => no ?_) (fun h2 => Br.mk (fun h3 => no ?_) (fun h3 => Br.mk (fun h4 => no ?_) (fun h4 => ?_)))) <;> simp only [decide_eq_true_eq, decide_eq_false_iff_not] at *
 ·unfold inT; omega
 ·unfold inT; omega
 ·unfold inT; omega
 ·unfold inT; omega
 ·have hin : inT p := by unfold inT; omega
  refine ⟨?_, x0⟩
  rw [decide_eq_true hin, wrap_in (n := p.1 + 524288) (by unfold inI; omega), wrap_in (n := (p.1 + 524288) * 2) (by unfold inI; omega), wrap_in (n := (p.1 + 524288) * 2 * 524288) (by unfold inI; omega), wrap_in (n := (p.1 + 524288) * 2 * 524288 + p.2) (by unfold inI; omega), wrap_in (n := (p.1 + 524288) * 2 * 524288 + p.2 + 524288) (by unfold inI; omega), wrap_in (n := (p.1 + 524288) * 2 * 524288 + p.2 + 524288 + 1) (by unfold inI; omega)]
  unfold idK
  rw [if_pos hin, show (p.1 + 524288) * 2 * 524288 + p.2 + 524288 + 1 = (p.1 + 524288) * 1048576 + (p.2 + 524288) + 1 by omega]
def GI (v : Value) : Prop := ∃ n : Int, v = .int .i64 n
theorem intKey : KeyOk Tryz.prog tInt GI := by
 refine ⟨?_, ?_, ?_⟩
 ·rintro x y ⟨a, rfl⟩ ⟨b, rfl⟩
  refine ⟨a == b, by kernel_rfl, ?_⟩
  simp
 ·rintro x ⟨a, rfl⟩ b w
  kernel_rfl
 ·rintro x ⟨a, rfl⟩
  simp [Instr.sameBits]
theorem clone_run {P : Program} {w : World} {r : Nat} {es : Array MapEntry} {clock : Nat} (t : TypeId) (hb : w.heap[r]? = some (.map es clock)) :
  (Extern.MapsClone.clone #[.iface t (.map (some r))]).run P w = .ok (.iface t (.map (some w.heap.size))) (w.alloc (.map es clock)) := by
 have e : Extern.MapsClone.clone #[.iface t (.map (some r))] = (getObj r >>= fun o => match o with
   | .map entries clock => (newObj (.map entries clock) >>= fun n => pure (.iface t (.map (some n))))
   | _ => stuck "maps.clone: a map expected") := rfl
 rw [e]
 simp [getMap_run hb, newObj_run, Result.andThen, Sem.run_bind]
theorem mapsClone_spec {w : World} {r : Nat} {kvs : List (Value × Value)} (hm : MapIs GI w (some r) kvs) : Calls Tryz.prog n_maps_Clone_byte #[.map (some r)] w fun e w' => e = .returned (.map (some w.heap.size)) ∧ MapIs GI w' (some w.heap.size) kvs ∧ Ext w w' := by
 apply maps_Clone_byte.vc
 refine Br.mk (fun h => by cases h) (fun _ => ?_)
 obtain ⟨es, clock, hb, h2⟩ := hm
 refine ⟨Extern.MapsClone.clone, ⟨_, Tryz.func298, by kernel_rfl, by kernel_rfl, by kernel_rfl⟩, _, _, clone_run _ hb, _, rfl, _, rfl, rfl, ⟨es, clock, World.alloc_heap_new w _, h2⟩, Ext.al w _⟩
end Go.Proofs.YtkkkfkopcfdmaaaGreatDoor
