import Derived.Test.YtbnmglonbhdcbaaGreatDoorKA
import Derived.Test.YtbnmglonbhdcbaaGreatDoorP
set_option linter.all false
namespace Go.Proofs.YtbnmglonbhdcbaaGreatDoor
open Go Go.Vc Go.RowKit Go.Proofs Go.Chk Go.Runs

abbrev tDisk : TypeId := 130
abbrev tStore : TypeId := 78
abbrev tTable : TypeId := 73
abbrev tItem : TypeId := 122
abbrev tPI : TypeId := 112
theorem nnS {a : Addr} {K : Prop} (h : K) : AndL (nnC (some a)) K := h
theorem Id_spec (p : Po) (w : World) : Calls Tryz.prog n_table_Id #[pv p] w fun e w' => e = .returned (.tuple #[.int .i64 (idK p), .bool (decide (inT p))]) ∧ Ext w w' := by
  apply table_Id.vc
  intro w0 e0
  have x0 : Ext w w0 := (Ext.rfl' w).of_alloc e0
  have no : ¬ inT p → Ending.returned (.tuple #[.int .i64 0, .bool false]) = Ending.returned (.tuple #[.int .i64 (idK p), .bool (decide (inT p))]) ∧ Ext w w0 := fun h => ⟨by rw [idK_out h, decide_eq_false h], x0⟩
  refine Br.mk (fun h => no ?_) (fun h => Br.mk (fun h2 => no ?_) (fun h2 => Br.mk (fun h3 => no ?_) (fun h3 => Br.mk (fun h4 => no ?_) (fun h4 => ?_)))) <;> simp only [decide_eq_true_eq, decide_eq_false_iff_not] at *
  · unfold inT; omega
  · unfold inT; omega
  · unfold inT; omega
  · unfold inT; omega
  · have hin : inT p := by unfold inT; omega
    refine ⟨?_, x0⟩
    rw [decide_eq_true hin, wrap_in (n := p.1 + 524288) (by unfold inI; omega), wrap_in (n := (p.1 + 524288) * 2) (by unfold inI; omega), wrap_in (n := (p.1 + 524288) * 2 * 524288) (by unfold inI; omega), wrap_in (n := (p.1 + 524288) * 2 * 524288 + p.2) (by unfold inI; omega), wrap_in (n := (p.1 + 524288) * 2 * 524288 + p.2 + 524288) (by unfold inI; omega), wrap_in (n := (p.1 + 524288) * 2 * 524288 + p.2 + 524288 + 1) (by unfold inI; omega)]
    unfold idK
    rw [if_pos hin, show (p.1 + 524288) * 2 * 524288 + p.2 + 524288 + 1 = (p.1 + 524288) * 1048576 + (p.2 + 524288) + 1 by omega]
theorem rId_spec (p : Po) (w : World) : Calls Tryz.prog n_ref12_Id #[pv p] w fun e w' => e = .returned (.int .i64 (idK p)) ∧ Ext w w' := by
  apply ref12_Id.vc
  intro w0 e0
  have x0 : Ext w w0 := (Ext.rfl' w).of_alloc e0
  have no : ¬ inT p → Ending.returned (.int .i64 0) = Ending.returned (.int .i64 (idK p)) ∧ Ext w w0 := fun h => ⟨by rw [idK_out h], x0⟩
  refine Br.mk (fun h => no ?_) (fun h => Br.mk (fun h2 => no ?_) (fun h2 => Br.mk (fun h3 => no ?_) (fun h3 => Br.mk (fun h4 => no ?_) (fun h4 => ?_)))) <;> simp only [decide_eq_true_eq, decide_eq_false_iff_not] at *
  · unfold inT; omega
  · unfold inT; omega
  · unfold inT; omega
  · unfold inT; omega
  · have hin : inT p := by unfold inT; omega
    refine ⟨?_, x0⟩
    rw [wrap_in (n := p.1 + 524288) (by unfold inI; omega), wrap_in (n := (p.1 + 524288) * 1048576) (by unfold inI; omega), wrap_in (n := p.2 + 524288) (by unfold inI; omega), wrap_in (n := (p.1 + 524288) * 1048576 + (p.2 + 524288)) (by unfold inI; omega), wrap_in (n := (p.1 + 524288) * 1048576 + (p.2 + 524288) + 1) (by unfold inI; omega)]
    unfold idK
    rw [if_pos hin]
def posK (p : Po) : Po := (around p.1 5 - 2, around p.2 5 - 2)
theorem posK_bd (p : Po) : (-2 ≤ (posK p).1 ∧ (posK p).1 ≤ 2) ∧ -2 ≤ (posK p).2 ∧ (posK p).2 ≤ 2 := by
  have h1 := around_bd p.1 5 (by decide)
  have h2 := around_bd p.2 5 (by decide)
  unfold posK; simp only; omega
theorem rPos_spec (p : Po) (hp : inI p.1 ∧ inI p.2) (w : World) : Calls Tryz.prog n_ref12_Pos #[pv p] w fun e w' => e = .returned (pv (posK p)) ∧ Ext w w' := by
  apply ref12_Pos.vc
  have h1 := around_bd p.1 5 (by decide)
  have h2 := around_bd p.2 5 (by decide)
  intro w0 e0 w1 e1
  have z0 : w0.heap.size = w.heap.size + 1 := by rw [e0]; simp
  have x1 : Ext w w1.drew := (((Ext.rfl' w).of_alloc e0).of_alloc e1).drew
  have hb : Row w1.drew w.heap.size [.int .i64 p.1, .int .i64 p.2] tPo := ((by rw [e0]; exact Row.new w [_, _] _ : Row w0 w.heap.size [.int .i64 p.1, .int .i64 p.2] tPo).ext ((Ext.rfl' _).of_alloc e1)).ext (Ext.dr _)
  refine (around_spec p.1 5 w1.drew hp.1 (by decide) (by unfold inI; omega)).mono ?_
  rintro e w2 ⟨rfl, rfl⟩
  refine ⟨_, rfl, rfl, rfl, hb.loadL (fun j hj => by simp at hj; subst hj; rfl), (around_spec p.2 5 w1.drew hp.2 (by decide) (by unfold inI; omega)).mono ?_⟩
  rintro e w2 ⟨rfl, rfl⟩
  refine ⟨_, rfl, rfl, rfl, fun w6 e6 => ⟨?_, x1.of_setRow e6 (by omega)⟩⟩
  have q1 : IntKind.wrap .i64 (around p.1 5 - 2) = around p.1 5 - 2 := wrap_in (by unfold inI; omega)
  have q2 : IntKind.wrap .i64 (around p.2 5 - 2) = around p.2 5 - 2 := wrap_in (by unfold inI; omega)
  rw [q1, q2]
  rfl

/-! ## A store without records -/
def GI (v : Value) : Prop := ∃ n : Int, v = .int .i64 n
theorem intKey : KeyOk Tryz.prog tInt GI := by
  refine ⟨?_, ?_, ?_⟩
  · rintro x y ⟨a, rfl⟩ ⟨b, rfl⟩
    refine ⟨a == b, by kernel_rfl, ?_⟩
    simp
  · rintro x ⟨a, rfl⟩ b w
    kernel_rfl
  · rintro x ⟨a, rfl⟩
    simp [Instr.sameBits]
structure Sto (w : World) (st d r : Nat) (room : Int) : Prop where
  rs : Row w st [.pointer (some ⟨d, 0, none⟩)] tStore
  rd : Row w d [.int .i64 room, .int .i64 0, .int .i64 0, .map (some r), .slice none 0 0] tDisk
  rm : MapIs GI w (some r) []
theorem Sto.same {w w' : World} {st d r : Nat} {room : Int} (h : Sto w st d r room) (hs : ∀ i, i = st ∨ i = d ∨ i = r → w'.heap[i]? = w.heap[i]?) : Sto w' st d r room :=
  ⟨h.rs.same (hs _ (.inl rfl)), h.rd.same (hs _ (.inr (.inl rfl))), h.rm.same (hs _ (.inr (.inr rfl)))⟩
theorem Sto.lt {w : World} {st d r : Nat} {room : Int} (h : Sto w st d r room) {i : Nat} (hi : i = st ∨ i = d ∨ i = r) : i < w.heap.size := by
  rcases hi with rfl | rfl | rfl
  · exact h.rs.lt
  · exact h.rd.lt
  · exact h.rm.lt
theorem Sto.ext {w w' : World} {st d r : Nat} {room : Int} (h : Sto w st d r room) (x : Ext w w') : Sto w' st d r room := h.same fun i hi => x.heap (h.lt hi)
theorem diskNew_spec (room : Int) (w : World) : Calls Tryz.prog n_disk_New #[.int .i64 room] w fun e w' => ∃ d r rm, e = .returned (.pointer (some ⟨d, 0, none⟩)) ∧ Row w' d [.int .i64 rm, .int .i64 0, .int .i64 0, .map (some r), .slice none 0 0] tDisk ∧ MapIs GI w' (some r) [] ∧ Ext w w' ∧ w.heap.size ≤ d ∧ w.heap.size ≤ r := by
  apply disk_New.vc
  intro w0 e0 w1 e1
  have z0 : w0.heap.size = w.heap.size + 1 := by rw [e0]; simp
  have x1 : Ext w0 w1 := (Ext.rfl' _).of_alloc e1
  have hm : MapIs GI w0 (some w.heap.size) [] := by rw [e0]; exact MapIs.new
  exact ⟨w0.heap.size, w.heap.size, _, rfl, by rw [e1]; exact Row.new w0 [_, _, _, _, _] _, hm.same (x1.heap hm.lt), ((Ext.rfl' w).of_alloc e0).tr x1, by omega, Nat.le_refl _⟩
theorem storeNew_spec (room : Int) (w : World) : Calls Tryz.prog n_store_New #[.int .i64 room] w fun e w' => ∃ st d r rm, e = .returned (.pointer (some ⟨st, 0, none⟩)) ∧ Sto w' st d r rm ∧ Ext w w' ∧ w.heap.size ≤ st ∧ w.heap.size ≤ d ∧ w.heap.size ≤ r := by
  apply store_New.vc
  refine (diskNew_spec room w).mono ?_
  rintro e w0 ⟨d, r, rm, rfl, hd, hm, x0, h1, h2⟩
  refine ⟨_, rfl, fun w2 e2 => ?_⟩
  have x2 : Ext w0 w2 := (Ext.rfl' _).of_alloc e2
  have z := x0.size
  exact ⟨_, d, r, rm, rfl, ⟨by rw [e2]; exact Row.new w0 [_] _, hd.ext x2, hm.same (x2.heap hm.lt)⟩, x0.tr x2, z, h1, h2⟩
theorem clone_run {P : Program} {w : World} {r : Nat} {es : Array MapEntry} {clock : Nat} (t : TypeId) (hb : w.heap[r]? = some (.map es clock)) :
    (Extern.MapsClone.clone #[.iface t (.map (some r))]).run P w = .ok (.iface t (.map (some w.heap.size))) (w.alloc (.map es clock)) := by
  have e : Extern.MapsClone.clone #[.iface t (.map (some r))] = (getObj r >>= fun o => match o with
      | .map entries clock => (newObj (.map entries clock) >>= fun n => pure (.iface t (.map (some n))))
      | _ => stuck "maps.clone: a map expected") := rfl
  rw [e]
  simp [getMap_run hb, newObj_run, Result.andThen, Sem.run_bind]
theorem mapsClone_spec {w : World} {r : Nat} {kvs : List (Value × Value)} (hm : MapIs GI w (some r) kvs) : Calls Tryz.prog n_maps_Clone_byte #[.map (some r)] w fun e w' => e = .returned (.map (some w.heap.size)) ∧ MapIs GI w' (some w.heap.size) kvs ∧ Ext w w' := by
  apply maps_Clone_byte.vc
  refine Br.mk (fun h => by cases h) (fun _ => ?_)
  obtain ⟨es, clock, hb, h2⟩ := hm
  refine ⟨Extern.MapsClone.clone, ⟨_, Tryz.func205, by kernel_rfl, by kernel_rfl, by kernel_rfl⟩, _, _, clone_run _ hb, _, rfl, _, rfl, rfl, ⟨es, clock, World.alloc_heap_new w _, h2⟩, Ext.al w _⟩
theorem now_spec {w : World} {st d r : Nat} {room : Int} (h : Sto w st d r room) : Calls Tryz.prog n_disk_Disk_now #[.pointer (some ⟨d, 0, none⟩)] w fun e w' => ∃ r', e = .returned (.map (some r')) ∧ MapIs GI w' (some r') [] ∧ Ext w w' := by
  apply disk_Disk_now.vc
  refine ⟨some r, h.rd.at 3 rfl, (mapsClone_spec h.rm).mono ?_⟩
  rintro e w1 ⟨rfl, hm, x1⟩
  refine ⟨_, rfl, ⟨none, 0, 0⟩, (h.ext x1).rd.at 4 rfl, fun n i wr => wr = w1 ∧ i = 0, ⟨0, rfl, rfl⟩, ?_⟩
  rintro n us i wr ⟨rfl, rfl⟩
  exact Br.mk (fun hc => by simp at hc) (fun _ => ⟨_, rfl, hm, x1⟩)
theorem cloneNil_spec (w : World) : Calls Tryz.prog n_slices_Clone_byte #[.slice none 0 0] w fun e w' => e = .returned (.slice none 0 0) ∧ w' = w := by
  apply (slices_Clone_byte.vc (a0 := ⟨none, 0, 0⟩))
  exact Br.mk (fun _ => ⟨rfl, rfl⟩) (fun h => by cases h)
theorem Get_spec {w : World} {st d r : Nat} {room : Int} (h : Sto w st d r room) (key : Int) : Calls Tryz.prog n_disk_Disk_Get #[.pointer (some ⟨d, 0, none⟩), .int .i64 key] w fun e w' => e = .returned (.tuple #[.slice none 0 0, .bool false]) ∧ Ext w w' := by
  apply disk_Disk_Get.vc
  refine (now_spec h).mono ?_
  rintro e w0 ⟨r', rfl, hm, x0⟩
  refine ⟨_, rfl, GI, [], intKey, hm, ⟨key, rfl⟩, ⟨none, 0, 0⟩, false, .inr ⟨rfl, rfl, by simp⟩, (cloneNil_spec w0).mono ?_⟩
  rintro e w6 ⟨rfl, rfl⟩
  exact ⟨⟨none, 0, 0⟩, rfl, rfl, x0⟩
theorem takeNil_spec (w : World) : Calls Tryz.prog n_crc_Take #[.slice none 0 0] w fun e w' => e = .returned (.tuple #[.slice none 0 0, .int .i64 3]) ∧ w' = w := by
  apply (crc_Take.vc (a0 := ⟨none, 0, 0⟩))
  exact Br.mk (fun _ => ⟨rfl, rfl⟩) (fun h => by simp at h)
theorem readNil_spec (w : World) : Calls Tryz.prog n_store_Read #[.slice none 0 0] w fun e w' => e = .returned (.tuple #[.int .i64 0, .slice none 0 0, .int .i64 3]) ∧ w' = w := by
  apply (store_Read.vc (a0 := ⟨none, 0, 0⟩))
  refine (takeNil_spec w).mono ?_
  rintro e w0 ⟨rfl, rfl⟩
  exact ⟨⟨none, 0, 0⟩, _, rfl, Br.mk (fun _ => ⟨rfl, rfl⟩) (fun h => by simp at h)⟩
theorem of_spec {w : World} {st d r : Nat} {room : Int} (h : Sto w st d r room) (id : Int) : Calls Tryz.prog n_store_Store_of #[.pointer (some ⟨st, 0, none⟩), .int .i64 id] w fun e w' => (∃ slot, e = .returned (.agg #[.int .i64 slot, .int .i64 0, .slice none 0 0])) ∧ Ext w w' := by
  apply store_Store_of.vc
  intro w0 e0 w1 e1 w2 e2
  have z0 : w0.heap.size = w.heap.size + 1 := by rw [e0]; simp
  have z1 : w1.heap.size = w.heap.size + 2 := by rw [e1]; simp [z0]
  have z2 : w2.heap.size = w.heap.size + 2 := by rw [e2, setRow_size, z1]
  have x2 : Ext w w2 := (((Ext.rfl' w).of_alloc e0).of_alloc e1).of_setRow e2 (by omega)
  clear e0 e1 e2
  refine ⟨fun n i wr => ∃ k : Nat, i = k ∧ k + n = 2 ∧ Ext w2 wr, ⟨2, rfl, rfl, 0, rfl, rfl, Ext.rfl' _⟩, ?_⟩
  rintro n us i wr ⟨k, rfl, hk, xr⟩
  have zr := xr.size
  refine Br.mk (fun hc => ?_) (fun hc => ?_)
  · simp only [decide_eq_true_eq] at hc
    have hwk : IntKind.wrap .i64 ((k : Int) + 1) = ((k + 1 : Nat) : Int) := by rw [wrap_in (by unfold inI; omega)]; omega
    have hr := h.ext (x2.tr xr)
    have hge : ∃ key, ([.int .i64 (IntKind.wrap .i64 (2 * id)), .int .i64 (IntKind.wrap .i64 ((IntKind.wrap .i64 (2 * id)) + 1))] : List Value)[((k : Nat) : Int).toNat * 1]? = some (.int .i64 key) := by
      rcases k with _ | _ | k
      · exact ⟨_, rfl⟩
      · exact ⟨_, rfl⟩
      · omega
    obtain ⟨key, hkey⟩ := hge
    refine ⟨⟨by omega, by omega⟩, key, hkey, some ⟨d, 0, none⟩, by rw [padd_row, padd_row, hr.rs.ld]; rfl, (Get_spec hr key).mono ?_⟩
    rintro e w11 ⟨rfl, x11⟩
    refine ⟨⟨none, 0, 0⟩, _, rfl, x11.heap (by omega), x11.heap (by omega), (readNil_spec w11).mono ?_⟩
    rintro e w14 ⟨rfl, rfl⟩
    refine ⟨_, ⟨none, 0, 0⟩, _, rfl, rfl, rfl, Br.mk (fun h => by simp at h) (fun _ => ?_)⟩
    exact ⟨n - 1, by omega, rfl, rfl, k + 1, hwk, by omega, xr.tr x11⟩
  · exact fun w19 e19 => ⟨⟨_, rfl⟩, (x2.tr xr).of_setRow e19 (Nat.le_refl _)⟩
theorem sLoad_spec {w : World} {st d r : Nat} {room : Int} (h : Sto w st d r room) (id : Int) : Calls Tryz.prog n_store_Store_Load #[.pointer (some ⟨st, 0, none⟩), .int .i64 id] w fun e w' => e = .returned (.tuple #[.slice none 0 0, .int .i64 0, .bool false]) ∧ Ext w w' := by
  apply store_Store_Load.vc
  have may : Calls Tryz.prog n_store_may #[.int .i64 id] w fun e w' => (∃ b, e = .returned (.bool b)) ∧ w' = w := by
    apply store_may.vc
    exact Br.mk (fun _ => ⟨⟨_, rfl⟩, rfl⟩) (fun _ => ⟨⟨_, rfl⟩, rfl⟩)
  refine may.mono ?_
  rintro e w0 ⟨⟨b, rfl⟩, rfl⟩
  refine ⟨b, rfl, Br.mk (fun _ => ⟨rfl, Ext.rfl' _⟩) (fun _ => (of_spec h id).mono ?_)⟩
  rintro e w2 ⟨⟨slot, rfl⟩, x2⟩
  exact ⟨_, _, ⟨none, 0, 0⟩, rfl, fun w6 e6 w7 e7 => ⟨rfl, x2.tr (((Ext.rfl' _).of_alloc e6).of_setRow e7 (Nat.le_refl _)).drew⟩⟩
end Go.Proofs.YtbnmglonbhdcbaaGreatDoor
