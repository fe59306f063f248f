import Derived.Test.YtbnmglonbhdcbaaGreatDoorKA
import Derived.Test.YtbnmglonbhdcbaaGreatDoorP
set_option linter.all false
namespace Go.Proofs.YtbnmglonbhdcbaaGreatDoor
open Go Go.Vc Go.RowKit Go.Proofs Go.Chk Go.Runs
abbrev tDisk : TypeId := 130
abbrev tStore : TypeId := 78
abbrev tTable : TypeId := 73
abbrev tItem : TypeId := 122
abbrev tPI : TypeId := 112
theorem nnS {a : Addr} {K : Prop} (h : K) : AndL (nnC (some a)) K := h
theorem Id_spec (p : Po) (w : World) : Calls Tryz.prog n_table_Id #[pv p] w fun e w' => e = .returned (.tuple #[.int .i64 (idK p), .bool (decide (inT p))]) ∧ Ext w w' := by
 apply table_Id.vc
 intro w0 e0
 have x0 : Ext w w0 := (Ext.rfl' w).of_alloc e0
 have no : ¬ inT p → Ending.returned (.tuple #[.int .i64 0, .bool false]) = Ending.returned (.tuple #[.int .i64 (idK p), .bool (decide (inT p))]) ∧ Ext w w0 := fun h => ⟨by rw [idK_out h, decide_eq_false h], x0⟩
 refine Br.mk (fun h => no ?_) (fun h => Br.mk (fun h2 => no ?_) (fun h2 => Br.mk (fun h3 => no ?_) (fun h3 => Br.mk (fun h4 => no ?_) (fun h4 => ?_)))) <;> simp only [decide_eq_true_eq, decide_eq_false_iff_not] at *
 ·unfold inT; omega
 ·unfold inT; omega
 ·unfold inT; omega
 ·unfold inT; omega
 ·have hin : inT p := by unfold inT; omega
  refine ⟨?_, x0⟩
  rw [decide_eq_true hin, wrap_in (n := p.1 + 524288) (by unfold inI; omega), wrap_in (n := (p.1 + 524288) * 2) (by unfold inI; omega), wrap_in (n := (p.1 + 524288) * 2 * 524288) (by unfold inI; omega), wrap_in (n := (p.1 + 524288) * 2 * 524288 + p.2) (by unfold inI; omega), wrap_in (n := (p.1 + 524288) * 2 * 524288 + p.2 + 524288) (by unfold inI; omega), wrap_in (n := (p.1 + 524288) * 2 * 524288 + p.2 + 524288 + 1) (by unfold inI; omega)]
  unfold idK
  rw [if_pos hin, show (p.1 + 524288) * 2 * 524288 + p.2 + 524288 + 1 = (p.1 + 524288) * 1048576 + (p.2 + 524288) + 1 by omega]
theorem rId_spec (p : Po) (w : World) : Calls Tryz.prog n_ref12_Id #[pv p] w fun e w' => e = .returned (.int .i64 (idK p)) ∧ Ext w w' := by
 apply ref12_Id.vc
 intro w0 e0
 have x0 : Ext w w0 := (Ext.rfl' w).of_alloc e0
 have no : ¬ inT p → Ending.returned (.int .i64 0) = Ending.returned (.int .i64 (idK p)) ∧ Ext w w0 := fun h => ⟨by rw [idK_out h], x0⟩
 refine Br.mk (fun h => no ?_) (fun h => Br.mk (fun h2 => no ?_) (fun h2 => Br.mk (fun h3 => no ?_) (fun h3 => Br.mk (fun h4 => no ?_) (fun h4 => ?_)))) <;> simp only [decide_eq_true_eq, decide_eq_false_iff_not] at *
 ·unfold inT; omega
 ·unfold inT; omega
 ·unfold inT; omega
 ·unfold inT; omega
 ·have hin : inT p := by unfold inT; omega
  refine ⟨?_, x0⟩
  rw [wrap_in (n := p.1 + 524288) (by unfold inI; omega), wrap_in (n := (p.1 + 524288) * 1048576) (by unfold inI; omega), wrap_in (n := p.2 + 524288) (by unfold inI; omega), wrap_in (n := (p.1 + 524288) * 1048576 + (p.2 + 524288)) (by unfold inI; omega), wrap_in (n := (p.1 + 524288) * 1048576 + (p.2 + 524288) + 1) (by unfold inI; omega)]
  unfold idK
  rw [if_pos hin]
def posK (p : Po) : Po := (around p.1 5 - 2, around p.2 5 - 2)
theorem rPos_spec (p : Po) (hp : inI p.1 ∧ inI p.2) (w : World) : Calls Tryz.prog n_ref12_Pos #[pv p] w fun e w' => e = .returned (pv (posK p)) ∧ Ext w w' := by
 apply ref12_Pos.vc
 have h1 := around_bd p.1 5 (by decide)
 have h2 := around_bd p.2 5 (by decide)
 intro w0 e0 w1 e1
 have z0 : w0.heap.size = w.heap.size + 1 := by rw [e0]; simp
 have x1 : Ext w w1.drew := (((Ext.rfl' w).of_alloc e0).of_alloc e1).drew
 have hb : Row w1.drew w.heap.size [.int .i64 p.1, .int .i64 p.2] tPo := ((by rw [e0]; exact Row.new w [_, _] _ : Row w0 w.heap.size [.int .i64 p.1, .int .i64 p.2] tPo).ext ((Ext.rfl' _).of_alloc e1)).ext (Ext.dr _)
 refine (around_spec p.1 5 w1.drew hp.1 (by decide) (by unfold inI; omega)).mono ?_
 rintro e w2 ⟨rfl, rfl⟩
 refine ⟨_, rfl, rfl, rfl, hb.loadL (fun j hj => by simp at hj; subst hj; rfl), (around_spec p.2 5 w1.drew hp.2 (by decide) (by unfold inI; omega)).mono ?_⟩
 rintro e w2 ⟨rfl, rfl⟩
 refine ⟨_, rfl, rfl, rfl, fun w6 e6 => ⟨?_, x1.of_setRow e6 (by omega)⟩⟩
 have q1 : IntKind.wrap .i64 (around p.1 5 - 2) = around p.1 5 - 2 := wrap_in (by unfold inI; omega)
 have q2 : IntKind.wrap .i64 (around p.2 5 - 2) = around p.2 5 - 2 := wrap_in (by unfold inI; omega)
 rw [q1, q2]
 rfl
def GI (v : Value) : Prop := ∃ n : Int, v = .int .i64 n
theorem intKey : KeyOk Tryz.prog tInt GI := by
 refine ⟨?_, ?_, ?_⟩
 ·rintro x y ⟨a, rfl⟩ ⟨b, rfl⟩
  refine ⟨a == b, by kernel_rfl, ?_⟩
  simp
 ·rintro x ⟨a, rfl⟩ b w
  kernel_rfl
 ·rintro x ⟨a, rfl⟩
  simp [Instr.sameBits]
theorem clone_run {P : Program} {w : World} {r : Nat} {es : Array MapEntry} {clock : Nat} (t : TypeId) (hb : w.heap[r]? = some (.map es clock)) :
  (Extern.MapsClone.clone #[.iface t (.map (some r))]).run P w = .ok (.iface t (.map (some w.heap.size))) (w.alloc (.map es clock)) := by
 have e : Extern.MapsClone.clone #[.iface t (.map (some r))] = (getObj r >>= fun o => match o with
   | .map entries clock => (newObj (.map entries clock) >>= fun n => pure (.iface t (.map (some n))))
   | _ => stuck "maps.clone: a map expected") := rfl
 rw [e]
 simp [getMap_run hb, newObj_run, Result.andThen, Sem.run_bind]
theorem mapsClone_spec {w : World} {r : Nat} {kvs : List (Value × Value)} (hm : MapIs GI w (some r) kvs) : Calls Tryz.prog n_maps_Clone_byte #[.map (some r)] w fun e w' => e = .returned (.map (some w.heap.size)) ∧ MapIs GI w' (some w.heap.size) kvs ∧ Ext w w' := by
 apply maps_Clone_byte.vc
 refine Br.mk (fun h => by cases h) (fun _ => ?_)
 obtain ⟨es, clock, hb, h2⟩ := hm
 refine ⟨Extern.MapsClone.clone, ⟨_, Tryz.func205, by kernel_rfl, by kernel_rfl, by kernel_rfl⟩, _, _, clone_run _ hb, _, rfl, _, rfl, rfl, ⟨es, clock, World.alloc_heap_new w _, h2⟩, Ext.al w _⟩
end Go.Proofs.YtbnmglonbhdcbaaGreatDoor
