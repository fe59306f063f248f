import Derived.Test.YtbnmglonbhdcbaaGreatDoorKA
import Derived.Test.YtbnmglonbhdcbaaGreatDoorP
set_option linter.all false
namespace Go.Proofs.YtbnmglonbhdcbaaGreatDoor
open Go Go.Vc Go.RowKit Go.Proofs Go.Chk Go.Runs

abbrev tDisk : TypeId := 130
abbrev tStore : TypeId := 78
abbrev tTable : TypeId := 73
abbrev tItem : TypeId := 122
abbrev tPI : TypeId := 112
theorem nnS {a : Addr} {K : Prop} (h : K) : AndL (nnC (some a)) K := h
theorem Id_spec (p : Po) (w : World) : Calls Tryz.prog n_table_Id #[pv p] w fun e w' => e = .returned (.tuple #[.int .i64 (idK p), .bool (decide (inT p))]) ∧ Ext w w' := by
  apply table_Id.vc
  intro w0 e0
  have x0 : Ext w w0 := (Ext.rfl' w).of_alloc e0
  have no : ¬ inT p → Ending.returned (.tuple #[.int .i64 0, .bool false]) = Ending.returned (.tuple #[.int .i64 (idK p), .bool (decide (inT p))]) ∧ Ext w w0 := fun h => ⟨by rw [idK_out h, decide_eq_false h], x0⟩
  refine Br.mk (fun h => no ?_) (fun h => Br.mk (fun h2 => no ?_) (fun h2 => Br.mk (fun h3 => no ?_) (fun h3 => Br.mk (fun h4 => no ?_) (fun h4 => ?_)))) <;> simp only [decide_eq_true_eq, decide_eq_false_iff_not] at *
  · unfold inT; omega
  · unfold inT; omega
  · unfold inT; omega
  · unfold inT; omega
  · have hin : inT p := by unfold inT; omega
    refine ⟨?_, x0⟩
    rw [decide_eq_true hin, wrap_in (n := p.1 + 524288) (by unfold inI; omega), wrap_in (n := (p.1 + 524288) * 2) (by unfold inI; omega), wrap_in (n := (p.1 + 524288) * 2 * 524288) (by unfold inI; omega), wrap_in (n := (p.1 + 524288) * 2 * 524288 + p.2) (by unfold inI; omega), wrap_in (n := (p.1 + 524288) * 2 * 524288 + p.2 + 524288) (by unfold inI; omega), wrap_in (n := (p.1 + 524288) * 2 * 524288 + p.2 + 524288 + 1) (by unfold inI; omega)]
    unfold idK
    rw [if_pos hin, show (p.1 + 524288) * 2 * 524288 + p.2 + 524288 + 1 = (p.1 + 524288) * 1048576 + (p.2 + 524288) + 1 by omega]
theorem rId_spec (p : Po) (w : World) : Calls Tryz.prog n_ref12_Id #[pv p] w fun e w' => e = .returned (.int .i64 (idK p)) ∧ Ext w w' := by
  apply ref12_Id.vc
  intro w0 e0
  have x0 : Ext w w0 := (Ext.rfl' w).of_alloc e0
  have no : ¬ inT p → Ending.returned (.int .i64 0) = Ending.returned (.int .i64 (idK p)) ∧ Ext w w0 := fun h => ⟨by rw [idK_out h], x0⟩
  refine Br.mk (fun h => no ?_) (fun h => Br.mk (fun h2 => no ?_) (fun h2 => Br.mk (fun h3 => no ?_) (fun h3 => Br.mk (fun h4 => no ?_) (fun h4 => ?_)))) <;> simp only [decide_eq_true_eq, decide_eq_false_iff_not] at *
  · unfold inT; omega
  · unfold inT; omega
  · unfold inT; omega
  · unfold inT; omega
  · have hin : inT p := by unfold inT; omega
    refine ⟨?_, x0⟩
    rw [wrap_in (n := p.1 + 524288) (by unfold inI; omega), wrap_in (n := (p.1 + 524288) * 1048576) (by unfold inI; omega), wrap_in (n := p.2 + 524288) (by unfold inI; omega), wrap_in (n := (p.1 + 524288) * 1048576 + (p.2 + 524288)) (by unfold inI; omega), wrap_in (n := (p.1 + 524288) * 1048576 + (p.2 + 524288) + 1) (by unfold inI; omega)]
    unfold idK
    rw [if_pos hin]
def posK (p : Po) : Po := (around p.1 5 - 2, around p.2 5 - 2)
theorem posK_bd (p : Po) : (-2 ≤ (posK p).1 ∧ (posK p).1 ≤ 2) ∧ -2 ≤ (posK p).2 ∧ (posK p).2 ≤ 2 := by
  have h1 := around_bd p.1 5 (by decide)
  have h2 := around_bd p.2 5 (by decide)
  unfold posK; simp only; omega
theorem rPos_spec (p : Po) (hp : inI p.1 ∧ inI p.2) (w : World) : Calls Tryz.prog n_ref12_Pos #[pv p] w fun e w' => e = .returned (pv (posK p)) ∧ Ext w w' := by
  apply ref12_Pos.vc
  have h1 := around_bd p.1 5 (by decide)
  have h2 := around_bd p.2 5 (by decide)
  intro w0 e0 w1 e1
  have z0 : w0.heap.size = w.heap.size + 1 := by rw [e0]; simp
  have x1 : Ext w w1.drew := (((Ext.rfl' w).of_alloc e0).of_alloc e1).drew
  have hb : Row w1.drew w.heap.size [.int .i64 p.1, .int .i64 p.2] tPo := ((by rw [e0]; exact Row.new w [_, _] _ : Row w0 w.heap.size [.int .i64 p.1, .int .i64 p.2] tPo).ext ((Ext.rfl' _).of_alloc e1)).ext (Ext.dr _)
  refine (around_spec p.1 5 w1.drew hp.1 (by decide) (by unfold inI; omega)).mono ?_
  rintro e w2 ⟨rfl, rfl⟩
  refine ⟨_, rfl, rfl, rfl, hb.loadL (fun j hj => by simp at hj; subst hj; rfl), (around_spec p.2 5 w1.drew hp.2 (by decide) (by unfold inI; omega)).mono ?_⟩
  rintro e w2 ⟨rfl, rfl⟩
  refine ⟨_, rfl, rfl, rfl, fun w6 e6 => ⟨?_, x1.of_setRow e6 (by omega)⟩⟩
  have q1 : IntKind.wrap .i64 (around p.1 5 - 2) = around p.1 5 - 2 := wrap_in (by unfold inI; omega)
  have q2 : IntKind.wrap .i64 (around p.2 5 - 2) = around p.2 5 - 2 := wrap_in (by unfold inI; omega)
  rw [q1, q2]
  rfl

/-! ## A store without records -/
def GI (v : Value) : Prop := ∃ n : Int, v = .int .i64 n
theorem intKey : KeyOk Tryz.prog tInt GI := by
  refine ⟨?_, ?_, ?_⟩
  · rintro x y ⟨a, rfl⟩ ⟨b, rfl⟩
    refine ⟨a == b, by kernel_rfl, ?_⟩
    simp
  · rintro x ⟨a, rfl⟩ b w
    kernel_rfl
  · rintro x ⟨a, rfl⟩
    simp [Instr.sameBits]
structure Sto (w : World) (st d r : Nat) (room : Int) : Prop where
  rs : Row w st [.pointer (some ⟨d, 0, none⟩)] tStore
  rd : Row w d [.int .i64 room, .int .i64 0, .int .i64 0, .map (some r), .slice none 0 0] tDisk
  rm : MapIs GI w (some r) []
theorem Sto.same {w w' : World} {st d r : Nat} {room : Int} (h : Sto w st d r room) (hs : ∀ i, i = st ∨ i = d ∨ i = r → w'.heap[i]? = w.heap[i]?) : Sto w' st d r room :=
  ⟨h.rs.same (hs _ (.inl rfl)), h.rd.same (hs _ (.inr (.inl rfl))), h.rm.same (hs _ (.inr (.inr rfl)))⟩
theorem Sto.lt {w : World} {st d r : Nat} {room : Int} (h : Sto w st d r room) {i : Nat} (hi : i = st ∨ i = d ∨ i = r) : i < w.heap.size := by
  rcases hi with rfl | rfl | rfl
  · exact h.rs.lt
  · exact h.rd.lt
  · exact h.rm.lt
theorem Sto.ext {w w' : World} {st d r : Nat} {room : Int} (h : Sto w st d r room) (x : Ext w w') : Sto w' st d r room := h.same fun i hi => x.heap (h.lt hi)
theorem diskNew_spec (room : Int) (w : World) : Calls Tryz.prog n_disk_New #[.int .i64 room] w fun e w' => ∃ d r rm, e = .returned (.pointer (some ⟨d, 0, none⟩)) ∧ Row w' d [.int .i64 rm, .int .i64 0, .int .i64 0, .map (some r), .slice none 0 0] tDisk ∧ MapIs GI w' (some r) [] ∧ Ext w w' ∧ w.heap.size ≤ d ∧ w.heap.size ≤ r := by
  apply disk_New.vc
  intro w0 e0 w1 e1
  have z0 : w0.heap.size = w.heap.size + 1 := by rw [e0]; simp
  have x1 : Ext w0 w1 := (Ext.rfl' _).of_alloc e1
  have hm : MapIs GI w0 (some w.heap.size) [] := by rw [e0]; exact MapIs.new
  exact ⟨w0.heap.size, w.heap.size, _, rfl, by rw [e1]; exact Row.new w0 [_, _, _, _, _] _, hm.same (x1.heap hm.lt), ((Ext.rfl' w).of_alloc e0).tr x1, by omega, Nat.le_refl _⟩
theorem storeNew_spec (room : Int) (w : World) : Calls Tryz.prog n_store_New #[.int .i64 room] w fun e w' => ∃ st d r rm, e = .returned (.pointer (some ⟨st, 0, none⟩)) ∧ Sto w' st d r rm ∧ Ext w w' ∧ w.heap.size ≤ st ∧ w.heap.size ≤ d ∧ w.heap.size ≤ r := by
  apply store_New.vc
  refine (diskNew_spec room w).mono ?_
  rintro e w0 ⟨d, r, rm, rfl, hd, hm, x0, h1, h2⟩
  refine ⟨_, rfl, fun w2 e2 => ?_⟩
  have x2 : Ext w0 w2 := (Ext.rfl' _).of_alloc e2
  have z := x0.size
  exact ⟨_, d, r, rm, rfl, ⟨by rw [e2]; exact Row.new w0 [_] _, hd.ext x2, hm.same (x2.heap hm.lt)⟩, x0.tr x2, z, h1, h2⟩
theorem clone_run {P : Program} {w : World} {r : Nat} {es : Array MapEntry} {clock : Nat} (t : TypeId) (hb : w.heap[r]? = some (.map es clock)) :
    (Extern.MapsClone.clone #[.iface t (.map (some r))]).run P w = .ok (.iface t (.map (some w.heap.size))) (w.alloc (.map es clock)) := by
  have e : Extern.MapsClone.clone #[.iface t (.map (some r))] = (getObj r >>= fun o => match o with
      | .map entries clock => (newObj (.map entries clock) >>= fun n => pure (.iface t (.map (some n))))
      | _ => stuck "maps.clone: a map expected") := rfl
  rw [e]
  simp [getMap_run hb, newObj_run, Result.andThen, Sem.run_bind]
theorem mapsClone_spec {w : World} {r : Nat} {kvs : List (Value × Value)} (hm : MapIs GI w (some r) kvs) : Calls Tryz.prog n_maps_Clone_byte #[.map (some r)] w fun e w' => e = .returned (.map (some w.heap.size)) ∧ MapIs GI w' (some w.heap.size) kvs ∧ Ext w w' := by
  apply maps_Clone_byte.vc
  refine Br.mk (fun h => by cases h) (fun _ => ?_)
  obtain ⟨es, clock, hb, h2⟩ := hm
  refine ⟨Extern.MapsClone.clone, ⟨_, Tryz.func205, by kernel_rfl, by kernel_rfl, by kernel_rfl⟩, _, _, clone_run _ hb, _, rfl, _, rfl, rfl, ⟨es, clock, World.alloc_heap_new w _, h2⟩, Ext.al w _⟩
theorem now_spec {w : World} {st d r : Nat} {room : Int} (h : Sto w st d r room) : Calls Tryz.prog n_disk_Disk_now #[.pointer (some ⟨d, 0, none⟩)] w fun e w' => ∃ r', e = .returned (.map (some r')) ∧ MapIs GI w' (some r') [] ∧ Ext w w' := by
  apply disk_Disk_now.vc
  refine ⟨some r, h.rd.at 3 rfl, (mapsClone_spec h.rm).mono ?_⟩
  rintro e w1 ⟨rfl, hm, x1⟩
  refine ⟨_, rfl, ⟨none, 0, 0⟩, (h.ext x1).rd.at 4 rfl, fun n i wr => wr = w1 ∧ i = 0, ⟨0, rfl, rfl⟩, ?_⟩
  rintro n us i wr ⟨rfl, rfl⟩
  exact Br.mk (fun hc => by simp at hc) (fun _ => ⟨_, rfl, hm, x1⟩)
theorem cloneNil_spec (w : World) : Calls Tryz.prog n_slices_Clone_byte #[.slice none 0 0] w fun e w' => e = .returned (.slice none 0 0) ∧ w' = w := by
  apply (slices_Clone_byte.vc (a0 := ⟨none, 0, 0⟩))
  exact Br.mk (fun _ => ⟨rfl, rfl⟩) (fun h => by cases h)
theorem Get_spec {w : World} {st d r : Nat} {room : Int} (h : Sto w st d r room) (key : Int) : Calls Tryz.prog n_disk_Disk_Get #[.pointer (some ⟨d, 0, none⟩), .int .i64 key] w fun e w' => e = .returned (.tuple #[.slice none 0 0, .bool false]) ∧ Ext w w' := by
  apply disk_Disk_Get.vc
  refine (now_spec h).mono ?_
  rintro e w0 ⟨r', rfl, hm, x0⟩
  refine ⟨_, rfl, GI, [], intKey, hm, ⟨key, rfl⟩, ⟨none, 0, 0⟩, false, .inr ⟨rfl, rfl, by simp⟩, (cloneNil_spec w0).mono ?_⟩
  rintro e w6 ⟨rfl, rfl⟩
  exact ⟨⟨none, 0, 0⟩, rfl, rfl, x0⟩
theorem takeNil_spec (w : World) : Calls Tryz.prog n_crc_Take #[.slice none 0 0] w fun e w' => e = .returned (.tuple #[.slice none 0 0, .int .i64 3]) ∧ w' = w := by
  apply (crc_Take.vc (a0 := ⟨none, 0, 0⟩))
  exact Br.mk (fun _ => ⟨rfl, rfl⟩) (fun h => by simp at h)
theorem readNil_spec (w : World) : Calls Tryz.prog n_store_Read #[.slice none 0 0] w fun e w' => e = .returned (.tuple #[.int .i64 0, .slice none 0 0, .int .i64 3]) ∧ w' = w := by
  apply (store_Read.vc (a0 := ⟨none, 0, 0⟩))
  refine (takeNil_spec w).mono ?_
  rintro e w0 ⟨rfl, rfl⟩
  exact ⟨⟨none, 0, 0⟩, _, rfl, Br.mk (fun _ => ⟨rfl, rfl⟩) (fun h => by simp at h)⟩
theorem of_spec {w : World} {st d r : Nat} {room : Int} (h : Sto w st d r room) (id : Int) : Calls Tryz.prog n_store_Store_of #[.pointer (some ⟨st, 0, none⟩), .int .i64 id] w fun e w' => (∃ slot, e = .returned (.agg #[.int .i64 slot, .int .i64 0, .slice none 0 0])) ∧ Ext w w' := by
  apply store_Store_of.vc
  intro w0 e0 w1 e1 w2 e2
  have z0 : w0.heap.size = w.heap.size + 1 := by rw [e0]; simp
  have z1 : w1.heap.size = w.heap.size + 2 := by rw [e1]; simp [z0]
  have z2 : w2.heap.size = w.heap.size + 2 := by rw [e2, setRow_size, z1]
  have x2 : Ext w w2 := (((Ext.rfl' w).of_alloc e0).of_alloc e1).of_setRow e2 (by omega)
  clear e0 e1 e2
  refine ⟨fun n i wr => ∃ k : Nat, i = k ∧ k + n = 2 ∧ Ext w2 wr, ⟨2, rfl, rfl, 0, rfl, rfl, Ext.rfl' _⟩, ?_⟩
  rintro n us i wr ⟨k, rfl, hk, xr⟩
  have zr := xr.size
  refine Br.mk (fun hc => ?_) (fun hc => ?_)
  · simp only [decide_eq_true_eq] at hc
    have hwk : IntKind.wrap .i64 ((k : Int) + 1) = ((k + 1 : Nat) : Int) := by rw [wrap_in (by unfold inI; omega)]; omega
    have hr := h.ext (x2.tr xr)
    have hge : ∃ key, ([.int .i64 (IntKind.wrap .i64 (2 * id)), .int .i64 (IntKind.wrap .i64 ((IntKind.wrap .i64 (2 * id)) + 1))] : List Value)[((k : Nat) : Int).toNat * 1]? = some (.int .i64 key) := by
      rcases k with _ | _ | k
      · exact ⟨_, rfl⟩
      · exact ⟨_, rfl⟩
      · omega
    obtain ⟨key, hkey⟩ := hge
    refine ⟨⟨by omega, by omega⟩, key, hkey, some ⟨d, 0, none⟩, by rw [padd_row, padd_row, hr.rs.ld]; rfl, (Get_spec hr key).mono ?_⟩
    rintro e w11 ⟨rfl, x11⟩
    refine ⟨⟨none, 0, 0⟩, _, rfl, x11.heap (by omega), x11.heap (by omega), (readNil_spec w11).mono ?_⟩
    rintro e w14 ⟨rfl, rfl⟩
    refine ⟨_, ⟨none, 0, 0⟩, _, rfl, rfl, rfl, Br.mk (fun h => by simp at h) (fun _ => ?_)⟩
    exact ⟨n - 1, by omega, rfl, rfl, k + 1, hwk, by omega, xr.tr x11⟩
  · exact fun w19 e19 => ⟨⟨_, rfl⟩, (x2.tr xr).of_setRow e19 (Nat.le_refl _)⟩
theorem sLoad_spec {w : World} {st d r : Nat} {room : Int} (h : Sto w st d r room) (id : Int) : Calls Tryz.prog n_store_Store_Load #[.pointer (some ⟨st, 0, none⟩), .int .i64 id] w fun e w' => e = .returned (.tuple #[.slice none 0 0, .int .i64 0, .bool false]) ∧ Ext w w' := by
  apply store_Store_Load.vc
  have may : Calls Tryz.prog n_store_may #[.int .i64 id] w fun e w' => (∃ b, e = .returned (.bool b)) ∧ w' = w := by
    apply store_may.vc
    exact Br.mk (fun _ => ⟨⟨_, rfl⟩, rfl⟩) (fun _ => ⟨⟨_, rfl⟩, rfl⟩)
  refine may.mono ?_
  rintro e w0 ⟨⟨b, rfl⟩, rfl⟩
  refine ⟨b, rfl, Br.mk (fun _ => ⟨rfl, Ext.rfl' _⟩) (fun _ => (of_spec h id).mono ?_)⟩
  rintro e w2 ⟨⟨slot, rfl⟩, x2⟩
  exact ⟨_, _, ⟨none, 0, 0⟩, rfl, fun w6 e6 w7 e7 => ⟨rfl, x2.tr (((Ext.rfl' _).of_alloc e6).of_setRow e7 (Nat.le_refl _)).drew⟩⟩
end Go.Proofs.YtbnmglonbhdcbaaGreatDoor
namespace Go.Proofs.YtbnmglonbhdcbaaGreatDoor
open Go Go.Vc Go.RowKit Go.Proofs Go.Chk Go.Runs

/-- A chunk that is here: its item, its chunk, its runs' slice; its place, its cells, whether it is dirty, its pins. -/
structure It where
  x : Nat
  g : Nat
  s : Sl
  p : Po
  C : List Int
  dirty : Bool
  pins : Int
structure ItIs (w : World) (i : It) : Prop where
  r : Row w i.x [.pointer (some ⟨i.g, 0, none⟩), .bool i.dirty, .int .i64 i.pins] tItem
  k : KIs w i.g i.s i.p i.C
theorem ItIs.ext {w w' : World} {i : It} (h : ItIs w i) (x : Ext w w') : ItIs w' i := ⟨h.r.ext x, h.k.ext x⟩
theorem ItIs.keep {w w' : World} {i : It} (h : ItIs w i) {F : Nat → Prop} (hm : Mod F w w') (h1 : ¬ F i.x) (h2 : ¬ F i.g) (h3 : ∀ b, i.s.blk = some b → ¬ F b) : ItIs w' i := ⟨hm.row h.r h1, h.k.keep hm h2 h3⟩
/-- Of a turn of a block that is of another type. -/
theorem ItIs.off {w w' : World} {i : It} (h : ItIs w i) {j : Nat} {cs : List Value} {t : TypeId} (hm : Mod (fun i => i = j) w w') (hr : Row w j cs t) (ht : t ≠ tItem ∧ t ≠ tChunk ∧ t ≠ tRun) : ItIs w' i :=
  h.keep hm (fun e => h.r.ne hr ht.1.symm e) (fun e => h.k.row.ne hr ht.2.1.symm e) (fun b hb e => by
    obtain ⟨cs', hr'⟩ := own_row h.k.own (by decide) hb
    exact hr'.ne hr ht.2.2.symm e)
abbrev ptrs (its : List It) : List (List Value) := its.map fun i => [.pointer (some ⟨i.x, 0, none⟩)]
structure TO (w : World) (t st d r : Nat) (sl : Sl) (room seed limit : Int) (its : List It) : Prop where
  rt : Row w t [.pointer (some ⟨st, 0, none⟩), .int .i64 seed, .int .i64 limit, .slice sl.a sl.n sl.c] tTable
  so : Sto w st d r room
  ol : OwnK 0 tPI 1 w sl (ptrs its)
  it : ∀ i ∈ its, ItIs w i
  dx : (its.map (·.x)).Nodup
  dg : (its.map (·.g)).Nodup
  lim : 1 ≤ limit ∧ limit ≤ 16
  len : (its.length : Int) ≤ limit
/-- The blocks of a table. -/
def foot (t st d r : Nat) (sl : Sl) (its : List It) (i : Nat) : Prop := i = t ∨ i = st ∨ i = d ∨ i = r ∨ sl.blk = some i ∨ ∃ y ∈ its, i = y.x ∨ i = y.g ∨ y.s.blk = some i
theorem TO.lt {w : World} {t st d r : Nat} {sl : Sl} {room seed limit : Int} {its : List It} (h : TO w t st d r sl room seed limit its) {i : Nat} (hi : foot t st d r sl its i) : i < w.heap.size := by
  rcases hi with rfl | e | e | e | e | ⟨y, hy, e | e | e⟩
  · exact h.rt.lt
  · exact h.so.lt (.inl e)
  · exact h.so.lt (.inr (.inl e))
  · exact h.so.lt (.inr (.inr e))
  · exact (h.ol.own.lt e).2
  · exact e ▸ (h.it y hy).r.lt
  · exact e ▸ (h.it y hy).k.row.lt
  · exact ((h.it y hy).k.own.own.lt e).2
theorem TO.same {w w' : World} {t st d r : Nat} {sl : Sl} {room seed limit : Int} {its : List It} (h : TO w t st d r sl room seed limit its) (hs : ∀ i, foot t st d r sl its i → w'.heap[i]? = w.heap[i]?) : TO w' t st d r sl room seed limit its := by
  refine ⟨h.rt.same (hs _ (.inl rfl)), h.so.same fun i hi => hs i ?_, OwnK.keep h.ol fun b hb => hs b (.inr (.inr (.inr (.inr (.inl hb))))), fun y hy => ?_, h.dx, h.dg, h.lim, h.len⟩
  · rcases hi with e | e | e
    · exact .inr (.inl e)
    · exact .inr (.inr (.inl e))
    · exact .inr (.inr (.inr (.inl e)))
  · have f : ∀ i, (i = y.x ∨ i = y.g ∨ y.s.blk = some i) → w'.heap[i]? = w.heap[i]? := fun i hi => hs i (.inr (.inr (.inr (.inr (.inr ⟨y, hy, hi⟩)))))
    have hi := h.it y hy
    exact ⟨hi.r.same (f _ (.inl rfl)), hi.k.row.same (f _ (.inr (.inl rfl))), OwnK.keep hi.k.own fun b hb => f b (.inr (.inr hb)), hi.k.len, hi.k.may⟩
theorem TO.ext {w w' : World} {t st d r : Nat} {sl : Sl} {room seed limit : Int} {its : List It} (h : TO w t st d r sl room seed limit its) (x : Ext w w') : TO w' t st d r sl room seed limit its := h.same fun i hi => x.heap (h.lt hi)
theorem TO.keep {w w' : World} {t st d r : Nat} {sl : Sl} {room seed limit : Int} {its : List It} (h : TO w t st d r sl room seed limit its) {F : Nat → Prop} (hm : Mod F w w') (hn : ∀ i, foot t st d r sl its i → ¬ F i) : TO w' t st d r sl room seed limit its := h.same fun i hi => hm.same i (h.lt hi) (hn i hi)
/-- What a table's blocks are. -/
theorem TO.kind {w : World} {t st d r : Nat} {sl : Sl} {room seed limit : Int} {its : List It} (h : TO w t st d r sl room seed limit its) {i : Nat} (hi : foot t st d r sl its i) :
    MapIs GI w (some i) [] ∨ ∃ cs τ, Row w i cs τ ∧ (τ = tTable ∨ τ = tStore ∨ τ = tDisk ∨ τ = tPI ∨ τ = tItem ∨ τ = tChunk ∨ τ = tRun) := by
  rcases hi with e | e | e | e | e | ⟨y, hy, e | e | e⟩
  · exact .inr ⟨_, _, e ▸ h.rt, .inl rfl⟩
  · exact .inr ⟨_, _, e ▸ h.so.rs, .inr (.inl rfl)⟩
  · exact .inr ⟨_, _, e ▸ h.so.rd, .inr (.inr (.inl rfl))⟩
  · exact .inl (e ▸ h.so.rm)
  · obtain ⟨cs, hr⟩ := own_row h.ol (by decide) e
    exact .inr ⟨_, _, hr, .inr (.inr (.inr (.inl rfl)))⟩
  · exact .inr ⟨_, _, e ▸ (h.it y hy).r, .inr (.inr (.inr (.inr (.inl rfl))))⟩
  · exact .inr ⟨_, _, e ▸ (h.it y hy).k.row, .inr (.inr (.inr (.inr (.inr (.inl rfl)))))⟩
  · obtain ⟨cs, hr⟩ := own_row (h.it y hy).k.own (by decide) e
    exact .inr ⟨_, _, hr, .inr (.inr (.inr (.inr (.inr (.inr rfl)))))⟩
/-- A block of another type is none of a table's. -/
theorem TO.no_row {w : World} {t st d r : Nat} {sl : Sl} {room seed limit : Int} {its : List It} (h : TO w t st d r sl room seed limit its) {j : Nat} {cs : List Value} {τ : TypeId} (hr : Row w j cs τ) (hτ : τ ≠ tTable ∧ τ ≠ tStore ∧ τ ≠ tDisk ∧ τ ≠ tPI ∧ τ ≠ tItem ∧ τ ≠ tChunk ∧ τ ≠ tRun) : ¬ foot t st d r sl its j := fun hf => by
  rcases h.kind hf with hm | ⟨cs', τ', hr', ht⟩
  · exact hr.ne_map hm rfl
  · obtain ⟨h1, h2, h3, h4, h5, h6, h7⟩ := hτ
    rcases ht with rfl | rfl | rfl | rfl | rfl | rfl | rfl
    · exact hr.ne hr' h1 rfl
    · exact hr.ne hr' h2 rfl
    · exact hr.ne hr' h3 rfl
    · exact hr.ne hr' h4 rfl
    · exact hr.ne hr' h5 rfl
    · exact hr.ne hr' h6 rfl
    · exact hr.ne hr' h7 rfl
theorem TO.n {w : World} {t st d r : Nat} {sl : Sl} {room seed limit : Int} {its : List It} (h : TO w t st d r sl room seed limit its) : sl.n = its.length := by
  have := (h.ol.rd (by decide)).n
  rwa [List.length_map] at this
/-- The i-th item. -/
theorem TO.at {w : World} {t st d r : Nat} {sl : Sl} {room seed limit : Int} {its : List It} (h : TO w t st d r sl room seed limit its) {i : Nat} {y : It} (hi : its[i]? = some y) : InB sl.a (i : Int) sl.n ∧ ld w (padd sl.a (((i : Nat) : Int).toNat * 1)) = some (.pointer (some ⟨y.x, 0, none⟩)) := by
  have hlt := (List.getElem?_eq_some_iff.1 hi).1
  have hrd := h.ol.rd (show 0 < 1 by decide)
  refine ⟨RdK.inB hrd (by decide) (by omega) (by rw [h.n]; omega), ?_⟩
  have := hrd.rd i [.pointer (some ⟨y.x, 0, none⟩)] (by rw [List.getElem?_map, hi]; rfl) 0 _ rfl
  exact this
theorem tNew_spec (seed limit room : Int) (w : World) : Calls Tryz.prog n_table_New #[.int .i64 seed, .int .i64 limit, .int .i64 room] w fun e w' => ∃ t st d r rm, e = .returned (.pointer (some ⟨t, 0, none⟩)) ∧ TO w' t st d r ⟨none, 0, 0⟩ rm seed (min (max limit 1) 16) [] ∧ Ext w w' ∧ ∀ i, foot t st d r ⟨none, 0, 0⟩ [] i → w.heap.size ≤ i := by
  apply table_New.vc
  refine (storeNew_spec room w).mono ?_
  rintro e w0 ⟨st, d, r, rm, rfl, hs, x0, h1, h2, h3⟩
  refine ⟨_, rfl, fun w2 e2 => ?_⟩
  have x2 : Ext w0 w2 := (Ext.rfl' _).of_alloc e2
  have z0 := x0.size
  have hl : (if 16 < (if 1 > limit then 1 else limit) then 16 else (if 1 > limit then 1 else limit)) = min (max limit 1) 16 := by split <;> split <;> omega
  rw [hl] at e2
  refine ⟨_, st, d, r, rm, rfl, ⟨by rw [e2]; exact Row.new w0 [_, _, _, _] _, hs.ext x2, OwnK.nil, by simp, by simp, by simp, by omega, by simp; omega⟩, x0.tr x2, fun i hi => ?_⟩
  rcases hi with rfl | rfl | rfl | rfl | e | ⟨y, hy, -⟩
  · exact z0
  · exact h1
  · exact h2
  · exact h3
  · cases e
  · cases hy
/-- The place of the first of a slice of pointers that is such. -/
theorem indexFunc_spec {α : Type} (s : Sl) (l : List α) (ad : α → Nat) (fv : Value) (q : α → Bool) (w : World) (hs : RdK w s 1 (l.map fun i => [.pointer (some ⟨ad i, 0, none⟩)])) (hb : l.length ≤ 1000)
    (hf : ∀ i ∈ l, ∀ w', Ext w w' → callV Tryz.prog fv [.pointer (some ⟨ad i, 0, none⟩)] w' fun e w'' => e = .returned (.bool (q i)) ∧ Ext w' w'') :
    Calls Tryz.prog n_slices_IndexFunc_item #[.slice s.a s.n s.c, fv] w fun e w' => e = .returned (.int .i64 (firstI q l)) ∧ Ext w w' := by
  apply slices_IndexFunc_item.vc
  have hn : s.n = l.length := by have := hs.n; rwa [List.length_map] at this
  refine ⟨fun n i wr => ∃ k : Nat, i = k ∧ k + n = l.length ∧ Ext w wr ∧ ∀ j, j < k → ∀ y, l[j]? = some y → q y = false, ⟨l.length, 0, rfl, by omega, Ext.rfl' _, fun j hj => by omega⟩, ?_⟩
  rintro n us i wr ⟨k, rfl, hk, xr, hno⟩
  have hwk : IntKind.wrap .i64 ((k : Int) + 1) = ((k + 1 : Nat) : Int) := by rw [wrap_in (by unfold inI; omega)]; omega
  refine Br.mk (fun hc => ?_) (fun hc => ?_)
  · simp only [decide_eq_true_eq] at hc
    obtain ⟨y, hy⟩ := get_lt (l := l) (i := k) (by omega)
    have hsr := RdK.ext hs xr
    have hld := hsr.rd k [.pointer (some ⟨ad y, 0, none⟩)] (by rw [List.getElem?_map, hy]; rfl) 0 _ rfl
    refine ⟨RdK.inB hsr (by decide) (by omega) (by omega), _, hld, callV_mono (hf y (List.mem_of_getElem? hy) wr xr) ?_⟩
    rintro e w7 ⟨rfl, x7⟩
    refine ⟨_, rfl, Br.mk (fun h => ?_) (fun h => ?_)⟩
    · exact ⟨by rw [firstI_at hy h hno], xr.tr x7⟩
    · refine ⟨n - 1, by omega, k + 1, hwk, by omega, xr.tr x7, fun j hj z hz => ?_⟩
      by_cases e : j = k
      · subst e; rw [hy] at hz; cases hz; exact h
      · exact hno j (by omega) z hz
  · simp only [decide_eq_false_iff_not] at hc
    refine ⟨?_, xr⟩
    rw [firstI_none]
    intro y hy
    obtain ⟨j, hj⟩ := List.getElem?_of_mem hy
    exact hno j (by have := (List.getElem?_eq_some_iff.1 hj).1; omega) y hj
set_option maxRecDepth 100000 in
theorem find_spec {w : World} {t st d r : Nat} {sl : Sl} {room seed limit : Int} {its : List It} (h : TO w t st d r sl room seed limit its) (p : Po) :
    Calls Tryz.prog n_table_Table_find #[.pointer (some ⟨t, 0, none⟩), pv p] w fun e w' => e = .returned (.int .i64 (firstI (fun i => i.p == p) its)) ∧ Ext w w' := by
  apply table_Table_find.vc
  intro w0 e0
  have x0 : Ext w w0 := (Ext.rfl' w).of_alloc e0
  have hb : Row w0 w.heap.size [.int .i64 p.1, .int .i64 p.2] tPo := by rw [e0]; exact Row.new w [_, _] _
  have h0 := h.ext x0
  have hlen := h.len
  have hlim := h.lim
  refine ⟨sl, h0.rt.at 3 rfl, (indexFunc_spec sl its (·.x) _ (fun i => i.p == p) w0 (h0.ol.rd (by decide)) (by omega) ?_).mono ?_⟩
  · intro y hy w' x'
    refine callV_of (by kernel_rfl) (by rfl) ?_
    apply table_Table_find_1.vc
    have hy' := ((h0.it y hy).ext x').ext (Ext.dr w')
    have hb' := (hb.ext x').ext (Ext.dr w')
    refine ⟨_, by rw [padd_row, hy'.r.ld]; rfl, nnS (nnS ⟨_, _, hy'.k.pos, _, _, hb'.loadL (fun j hj => by rw [Nat.zero_add]), (Place_spec y.p w'.drew).mono ?_⟩)⟩
    rintro e w5 ⟨rfl, x5⟩
    refine ⟨_, _, rfl, (hb'.ext x5).loadL (fun j hj => by rw [Nat.zero_add]), ?_, rfl, (Ext.dr w').tr x5⟩
    rw [padd_row]
    exact (hy'.ext x5).r.loadL (fun j hj => by simp at hj; subst hj; rfl)
  · rintro e w2 ⟨rfl, x2⟩
    exact ⟨_, rfl, rfl, x0.tr x2⟩
end Go.Proofs.YtbnmglonbhdcbaaGreatDoor
namespace Go.Proofs.YtbnmglonbhdcbaaGreatDoor
open Go Go.Vc Go.RowKit Go.Proofs Go.Chk Go.Runs

/-- What a table turns of itself when its slice does. -/
abbrev slF (t : Nat) (sl : Sl) : Nat → Prop := fun j => j = t ∨ sl.blk = some j
theorem TO.off {w : World} {t st d r : Nat} {sl : Sl} {room seed limit : Int} {its : List It} (h : TO w t st d r sl room seed limit its) {j : Nat} {cs : List Value} {τ : TypeId} (hr : Row w j cs τ) (h1 : τ ≠ tTable) (h2 : τ ≠ tPI) : ¬ slF t sl j := by
  rintro (e | e)
  · exact hr.ne h.rt h1 e
  · obtain ⟨cs', hr'⟩ := own_row h.ol (by decide) e
    exact hr.ne hr' h2 rfl
theorem TO.item {w w' : World} {t st d r : Nat} {sl : Sl} {room seed limit : Int} {its : List It} (h : TO w t st d r sl room seed limit its) (hm : Mod (slF t sl) w w') {y : It} (hy : ItIs w y) : ItIs w' y :=
  hy.keep hm (h.off hy.r (by decide) (by decide)) (h.off hy.k.row (by decide) (by decide)) (fun b hb => by
    obtain ⟨cs', hr'⟩ := own_row hy.k.own (by decide) hb
    exact h.off hr' (by decide) (by decide))
theorem TO.turn {w w' : World} {t st d r : Nat} {sl sl' : Sl} {room seed limit : Int} {its its' : List It} (h : TO w t st d r sl room seed limit its) (hm : Mod (slF t sl) w w')
    (rt : Row w' t [.pointer (some ⟨st, 0, none⟩), .int .i64 seed, .int .i64 limit, .slice sl'.a sl'.n sl'.c] tTable) (ol : OwnK 0 tPI 1 w' sl' (ptrs its')) (hit : ∀ y ∈ its', y ∈ its ∨ ItIs w y)
    (dx : (its'.map (·.x)).Nodup) (dg : (its'.map (·.g)).Nodup) (len : (its'.length : Int) ≤ limit) : TO w' t st d r sl' room seed limit its' := by
  refine ⟨rt, ⟨hm.row h.so.rs (h.off h.so.rs (by decide) (by decide)), hm.row h.so.rd (h.off h.so.rd (by decide) (by decide)), hm.map h.so.rm ?_⟩, ol, fun y hy => h.item hm ?_, dx, dg, h.lim, len⟩
  · rintro (e | e)
    · exact h.rt.ne_map h.so.rm e.symm
    · obtain ⟨cs', hr'⟩ := own_row h.ol (by decide) e
      exact hr'.ne_map h.so.rm rfl
  · rcases hit y hy with h1 | h1
    · exact h.it y h1
    · exact h1
theorem foot_sub {w : World} {t st d r : Nat} {sl sl' : Sl} {its its' : List It} (hb : ∀ b, sl'.blk = some b → sl.blk = some b ∨ w.heap.size ≤ b) (hi : ∀ y ∈ its', y ∈ its ∨ (w.heap.size ≤ y.x ∧ w.heap.size ≤ y.g ∧ ∀ b, y.s.blk = some b → w.heap.size ≤ b)) :
    ∀ i, foot t st d r sl' its' i → foot t st d r sl its i ∨ w.heap.size ≤ i := by
  rintro i (e | e | e | e | e | ⟨y, hy, e⟩)
  · exact .inl (.inl e)
  · exact .inl (.inr (.inl e))
  · exact .inl (.inr (.inr (.inl e)))
  · exact .inl (.inr (.inr (.inr (.inl e))))
  · rcases hb i e with h | h
    · exact .inl (.inr (.inr (.inr (.inr (.inl h)))))
    · exact .inr h
  · rcases hi y hy with h | ⟨h1, h2, h3⟩
    · exact .inl (.inr (.inr (.inr (.inr (.inr ⟨y, h, e⟩)))))
    · rcases e with e | e | e
      · exact .inr (by omega)
      · exact .inr (by omega)
      · exact .inr (h3 i e)
theorem slF_foot {t st d r : Nat} {sl : Sl} {its : List It} : ∀ i, slF t sl i → foot t st d r sl its i := by
  rintro i (e | e)
  · exact .inl e
  · exact .inr (.inr (.inr (.inr (.inl e))))
theorem one_p (a : Addr) : One [Value.pointer (some a)] := by intro v hv; simp at hv; subst hv; rfl
/-- An item put behind all others. -/
theorem TO.push {w : World} {t st d r : Nat} {sl : Sl} {room seed limit : Int} {its : List It} (h : TO w t st d r sl room seed limit its) (y : It) (hy : ItIs w y) (hx : y.x ∉ its.map (·.x)) (hg : y.g ∉ its.map (·.g)) (hl : (its.length : Int) + 1 ≤ limit) :
    AppPre 8 1 w sl 1 [.pointer (some ⟨y.x, 0, none⟩)] ∧ ∀ (s4 : Sl) (w5 : World), AppRes tPI 1 w sl 1 [.pointer (some ⟨y.x, 0, none⟩)] s4 w5 →
      Mod (fun j => sl.blk = some j) w w5 ∧ Wr w5 (padd (some ⟨t, 0, none⟩) 3) 1 ∧ ∀ w6, w6 = setP w5 (padd (some ⟨t, 0, none⟩) 3) [.slice s4.a s4.n s4.c] →
        TO w6 t st d r s4 room seed limit (its ++ [y]) ∧ Mod (slF t sl) w w6 ∧ ∀ b, s4.blk = some b → sl.blk = some b ∨ w.heap.size ≤ b := by
  have hn := h.n
  have hlim := h.lim
  obtain ⟨hp, hr⟩ := h.ol.append (bytes := 8) (news := [.pointer (some ⟨y.x, 0, none⟩)]) (Nat.zero_le _) rfl (one_p _) (by omega) (by omega)
  refine ⟨hp, fun s4 w5 hres => ?_⟩
  obtain ⟨ho, hn4, hbl, hk, hblk⟩ := hr s4 w5 hres
  have hm5 : Mod (fun j => sl.blk = some j) w w5 := Mod.of_app hbl hk
  have hnt : ¬ sl.blk = some t := fun e => by
    obtain ⟨cs', hr'⟩ := own_row h.ol (by decide) e
    exact hr'.ne h.rt (by decide) rfl
  have rt5 := hm5.row h.rt hnt
  obtain ⟨p1, p2⟩ := rt5.put1 (j := 3) (v := .slice s4.a s4.n s4.c) (by simp) rfl
  refine ⟨hm5, p1, fun w6 e6 => ?_⟩
  obtain ⟨q1, q2⟩ := p2 w6 e6
  have hm6 : Mod (slF t sl) w w6 := (hm5.mono fun i _ hi => .inr hi).trans (q2.mono fun i _ hi => .inl hi)
  have h4t : ∀ b, s4.blk = some b → b ≠ t := fun b hb => by
    obtain ⟨cs', hr'⟩ := own_row ho (by decide) hb
    exact hr'.ne rt5 (by decide)
  refine ⟨h.turn hm6 q1 ?_ (fun z hz => ?_) ?_ ?_ (by simp; omega), hm6, fun b hb => ?_⟩
  · have := q2.ownK ho h4t
    show OwnK 0 tPI 1 w6 s4 ((its ++ [y]).map _)
    rw [List.map_append]; exact this
  · rcases List.mem_append.1 hz with hz | hz
    · exact .inl hz
    · simp at hz; subst hz; exact .inr hy
  · rw [List.map_append]
    refine List.nodup_append.2 ⟨h.dx, by simp, ?_⟩
    intro a ha b hb e
    simp at hb
    subst hb; subst e
    exact hx ha
  · rw [List.map_append]
    refine List.nodup_append.2 ⟨h.dg, by simp, ?_⟩
    intro a ha b hb e
    simp at hb
    subst hb; subst e
    exact hg ha
  · rcases hblk with e | e
    · exact .inl (by rw [← e]; exact hb)
    · rw [e] at hb; cases hb; exact .inr (Nat.le_refl _)
theorem out_spec {w : World} {t st d r : Nat} {sl : Sl} {room seed limit : Int} {its : List It} (h : TO w t st d r sl room seed limit its) {i : Nat} {y : It} (hi : its[i]? = some y) :
    Calls Tryz.prog n_table_Table_out #[.pointer (some ⟨t, 0, none⟩), .int .i64 (i : Nat)] w fun e w' => e = .returned (.pointer (some ⟨y.x, 0, none⟩)) ∧ ∃ sl', TO w' t st d r sl' room seed limit (its.eraseIdx i) ∧ Mod (slF t sl) w w' ∧ ∀ b, sl'.blk = some b → sl.blk = some b ∨ w.heap.size ≤ b := by
  apply table_Table_out.vc
  have hn := h.n
  have hlim := h.lim
  have hlen := h.len
  have hil := (List.getElem?_eq_some_iff.1 hi).1
  obtain ⟨a1, a2⟩ := h.at hi
  have hd := h.ext (Ext.dr w)
  have hle := OwnK.le h.ol
  have w1 : IntKind.wrap .i64 ((i : Int) + 1) = ((i + 1 : Nat) : Int) := by rw [wrap_in (by unfold inI; omega)]; omega
  refine ⟨sl, h.rt.at 3 rfl, a1, _, a2, sl, hd.rt.at 3 rfl, by omega, by omega, by omega, by omega, sl, hd.rt.at 3 rfl, ?_⟩
  rw [w1]
  have hcut := hd.ol.cut (by decide) (m := i) (by rw [List.length_map]; omega)
  have hrest := RdK.rest (hd.ol.rd (by decide)) (l := i + 1) (m := sl.c) (n' := sl.n - (i + 1)) (c' := sl.c - (i + 1)) (by rw [List.length_map]; omega) (by rw [List.length_map]; omega)
  have hml : ((ptrs its).drop (i + 1)).length = sl.n - (i + 1) := by rw [List.length_drop, List.length_map]; omega
  have hwd : ∀ q ∈ (ptrs its).drop (i + 1), q.length = 1 ∧ One q := fun q hq => by
    obtain ⟨z, _, rfl⟩ := List.mem_map.1 (List.mem_of_mem_drop hq)
    exact ⟨rfl, one_p _⟩
  obtain ⟨hp, hres⟩ := hcut.appN (bytes := 8) (more := (ptrs its).drop (i + 1)) (Nat.zero_le _) (fun q hq => (hwd q hq).1) (fun q hq => (hwd q hq).2) (by rw [hml]; show (i + _) * 8 ≤ _; omega) (by rw [hml]; show i + _ ≤ _; omega)
  rw [hml] at hp hres
  refine ⟨by omega, by omega, ((ptrs its).drop (i + 1)).flatten, hrest.flat (by decide), hp, fun s5 w6 hr => ?_⟩
  obtain ⟨ho, hn5, hbl, hk, hblk⟩ := hres s5 w6 hr
  have hsb : (Sl.mk (slBase sl.a 0 i 1) i i).blk = sl.blk := by rw [slBase_zero]; rfl
  rw [hsb] at hk hblk
  have hm6 : Mod (fun j => sl.blk = some j) w w6 := (Mod.of_ext (Ext.dr w)).trans (Mod.of_app hbl hk)
  have hnt : ¬ sl.blk = some t := fun e => by
    obtain ⟨cs', hr'⟩ := own_row h.ol (by decide) e
    exact hr'.ne h.rt (by decide) rfl
  have rt6 := hm6.row h.rt hnt
  obtain ⟨p1, p2⟩ := rt6.put1 (j := 3) (v := .slice s5.a s5.n s5.c) (by simp) rfl
  have hld : LoadL w6 (padd (some ⟨t, 0, none⟩) 3) 0 [.slice sl.a sl.n sl.c] := by
    show ld w6 (padd _ 0) = _
    rw [padd_zero]; exact rt6.at 3 rfl
  refine ⟨hld, hld, ⟨rfl, p1⟩, fun w7 e7 => ⟨rfl, s5, ?_⟩⟩
  obtain ⟨q1, q2⟩ := p2 w7 e7
  have hm7 : Mod (slF t sl) w w7 := (hm6.mono fun i _ hi => .inr hi).trans (q2.mono fun i _ hi => .inl hi)
  have h5t : ∀ b, s5.blk = some b → b ≠ t := fun b hb => by
    obtain ⟨cs', hr'⟩ := own_row ho (by decide) hb
    exact hr'.ne rt6 (by decide)
  have hsub : List.Sublist (its.eraseIdx i) its := List.eraseIdx_sublist ..
  refine ⟨h.turn hm7 q1 ?_ (fun z hz => .inl (hsub.subset hz)) (h.dx.sublist (hsub.map _)) (h.dg.sublist (hsub.map _)) ?_, hm7, fun b hb => ?_⟩
  · have := q2.ownK ho h5t
    show OwnK 0 tPI 1 w7 s5 ((its.eraseIdx i).map _)
    rw [List.eraseIdx_eq_take_drop_succ, List.map_append, List.map_take, List.map_drop]; exact this
  · have := hsub.length_le; omega
  · rcases hblk with e | e
    · exact .inl (by rw [← e]; exact hb)
    · rw [e] at hb; cases hb; exact .inr (Nat.le_refl _)
/-- The i-th one is none of the others. -/
theorem erase_not {α : Type} {f : α → Nat} {l : List α} {i : Nat} {y : α} (hd : (l.map f).Nodup) (hi : l[i]? = some y) : f y ∉ (l.eraseIdx i).map f := by
  rw [List.eraseIdx_eq_take_drop_succ, List.map_append]
  have e : l = l.take i ++ y :: l.drop (i + 1) := by
    have := List.take_append_drop i l
    rw [List.drop_eq_getElem_cons (List.getElem?_eq_some_iff.1 hi).1] at this
    rw [← (List.getElem?_eq_some_iff.1 hi).2]
    exact this.symm
  rw [e, List.map_append, List.map_cons] at hd
  obtain ⟨h1, h2, h3⟩ := List.nodup_append.1 hd
  intro hm
  rcases List.mem_append.1 hm with hm | hm
  · exact h3 _ hm _ (.head _) rfl
  · exact (List.nodup_cons.1 h2).1 hm
theorem touch_spec {w : World} {t st d r : Nat} {sl : Sl} {room seed limit : Int} {its : List It} (h : TO w t st d r sl room seed limit its) {i : Nat} {y : It} (hi : its[i]? = some y) :
    Calls Tryz.prog n_table_Table_touch #[.pointer (some ⟨t, 0, none⟩), .int .i64 (i : Nat)] w fun e w' => e = .returned (.pointer (some ⟨y.x, 0, none⟩)) ∧ ∃ sl', TO w' t st d r sl' room seed limit (its.eraseIdx i ++ [y]) ∧ Turned (foot t st d r sl its) (foot t st d r sl' (its.eraseIdx i ++ [y])) w w' := by
  apply table_Table_touch.vc
  have hil := (List.getElem?_eq_some_iff.1 hi).1
  have hym : y ∈ its := List.mem_of_getElem? hi
  have hlen := h.len
  refine (out_spec h hi).mono ?_
  rintro e w0 ⟨rfl, sl0, h0, m0, b0⟩
  have hy0 := h.item m0 (h.it y hym)
  refine ⟨_, rfl, sl0, h0.rt.at 3 rfl, fun w3 e3 => ?_⟩
  have x3 : Ext w0 w3 := (Ext.rfl' _).of_alloc e3
  have h3 := h0.ext x3
  have hsub : List.Sublist (its.eraseIdx i) its := List.eraseIdx_sublist ..
  have hel : (its.eraseIdx i).length = its.length - 1 := by rw [List.length_eraseIdx, if_pos hil]
  obtain ⟨hp, hr⟩ := h3.push y (hy0.ext x3) (erase_not h.dx hi) (erase_not h.dg hi) (by omega)
  refine ⟨hp, fun s4 w5 hres => ?_⟩
  obtain ⟨m5, p1, p2⟩ := hr s4 w5 hres
  have ht0 := h0.rt.lt
  have z3 : w3.heap.size = w0.heap.size + 1 := by rw [e3]; simp
  refine ⟨m5.same _ (by omega) fun e => by have := (h0.ol.own.lt e).2; omega, ⟨rfl, p1⟩, fun e => ?_, fun w6 e6 => ⟨rfl, s4, ?_⟩⟩
  · rw [pblk_padd] at e
    have : t = w0.heap.size := by simpa [pblk] using e
    omega
  · obtain ⟨q1, q2, q3⟩ := p2 w6 e6
    have z0 := m0.size
    refine ⟨q1, ⟨?_, ?_⟩⟩
    · have a1 : Mod (foot t st d r sl its) w w3 := (m0.mono fun i _ hi => slF_foot i hi).trans (Mod.of_ext x3)
      refine a1.tr q2 fun j hj => ?_
      rcases hj with e | e
      · exact .inl (.inl e)
      · rcases b0 j e with e | e
        · exact .inl (.inr (.inr (.inr (.inr (.inl e)))))
        · exact .inr e
    · refine foot_sub (w := w) (fun b hb => ?_) (fun z hz => .inl ?_)
      · rcases q3 b hb with e | e
        · exact b0 b e
        · exact .inr (by omega)
      · rcases List.mem_append.1 hz with hz | hz
        · exact hsub.subset hz
        · simp at hz; subst hz; exact hym
theorem save_clean {w : World} {y : It} (hy : ItIs w y) (hc : y.dirty = false) (t : Nat) : Calls Tryz.prog n_table_Table_save #[.pointer (some ⟨t, 0, none⟩), .pointer (some ⟨y.x, 0, none⟩)] w fun e w' => e = .returned (.int .i64 0) ∧ w' = w := by
  apply table_Table_save.vc
  exact ⟨_, hy.r.at 1 rfl, Br.mk (fun _ => ⟨rfl, rfl⟩) (fun h => by rw [hc] at h; cases h)⟩
end Go.Proofs.YtbnmglonbhdcbaaGreatDoor
namespace Go.Proofs.YtbnmglonbhdcbaaGreatDoor
open Go Go.Vc Go.RowKit Go.Proofs Go.Chk Go.Runs Go.Code

/-- What is told of a chunk that is here: its place, its cells, whether it is dirty, its pins. -/
abbrev En := Po × List Int × Bool × Int
def It.ob (i : It) : En := (i.p, i.C, i.dirty, i.pins)
abbrev obs (its : List It) : List En := its.map It.ob
def roomE (limit : Int) (l : List En) : List En × Int :=
  if (l.length : Int) < limit then (l, 0) else if firstI (fun e : En => e.2.2.2 == 0) l < 0 then (l, 8) else (l.eraseIdx (firstI (fun e : En => e.2.2.2 == 0) l).toNat, 0)
def ldE (seed limit : Int) (l : List En) (p : Po) : List En × Int :=
  if ¬ inT p then (l, 5)
  else if 0 ≤ firstI (fun e : En => e.1 == p) l then (l.eraseIdx (firstI (fun e : En => e.1 == p) l).toNat ++ l[(firstI (fun e : En => e.1 == p) l).toNat]?.toList, 0)
  else if (roomE limit l).2 ≠ 0 then roomE limit l else ((roomE limit l).1 ++ [(p, made seed p, false, 0)], 0)
theorem obs_erase (its : List It) (i : Nat) : obs (its.eraseIdx i) = (obs its).eraseIdx i := by
  unfold obs
  rw [List.eraseIdx_eq_take_drop_succ, List.eraseIdx_eq_take_drop_succ, List.map_append, List.map_take, List.map_drop]
set_option maxRecDepth 100000 in
theorem room_spec {w : World} {t st d r : Nat} {sl : Sl} {room seed limit : Int} {its : List It} (h : TO w t st d r sl room seed limit its) (hc : (∀ y ∈ its, y.dirty = false) ∨ (its.length : Int) < limit) :
    Calls Tryz.prog n_table_Table_room #[.pointer (some ⟨t, 0, none⟩)] w fun e w' => e = .returned (.int .i64 (roomE limit (obs its)).2) ∧ ∃ sl' its', TO w' t st d r sl' room seed limit its' ∧ obs its' = (roomE limit (obs its)).1 ∧ ((roomE limit (obs its)).2 = 0 → (its'.length : Int) + 1 ≤ limit) ∧ (∀ y ∈ its', y ∈ its) ∧ Mod (slF t sl) w w' ∧ ∀ b, sl'.blk = some b → sl.blk = some b ∨ w.heap.size ≤ b := by
  apply table_Table_room.vc
  have hd := h.ext (Ext.dr w)
  have hn := h.n
  have hol : (obs its).length = its.length := by rw [List.length_map]
  have hlen := h.len
  have hlim := h.lim
  refine ⟨sl, hd.rt.at 3 rfl, limit, hd.rt.at 2 rfl, Br.mk (fun hb => ?_) (fun hb => ?_)⟩
  · simp only [decide_eq_true_eq] at hb
    have e : roomE limit (obs its) = (obs its, 0) := by unfold roomE; rw [if_pos (by omega)]
    rw [e]
    exact ⟨rfl, sl, its, hd, rfl, fun _ => by omega, fun y hy => hy, Mod.of_ext (Ext.dr w), fun b hb => .inl hb⟩
  · simp only [decide_eq_false_iff_not] at hb
    have hcl : ∀ y ∈ its, y.dirty = false := by
      rcases hc with h1 | h1
      · exact h1
      · omega
    refine ⟨sl, hd.rt.at 3 rfl, (indexFunc_spec sl its (·.x) _ (fun i => i.pins == 0) w.drew (hd.ol.rd (by decide)) (by omega) ?_).mono ?_⟩
    · intro y hy w' x'
      refine callV_of (by kernel_rfl) (by rfl) ?_
      apply table_Table_room_1.vc
      have hy' := (hd.it y hy).ext x'
      exact ⟨_, hy'.r.at 2 rfl, rfl, Ext.rfl' _⟩
    · rintro e w3 ⟨rfl, x3⟩
      have h3 := hd.ext x3
      have hfm : firstI (fun e : En => e.2.2.2 == 0) (obs its) = firstI (fun i : It => i.pins == 0) its := firstI_map It.ob _ its
      have x03 : Ext w w3 := (Ext.dr w).tr x3
      refine ⟨_, rfl, Br.mk (fun hb2 => ?_) (fun hb2 => ?_)⟩
      · simp only [decide_eq_true_eq] at hb2
        have e : roomE limit (obs its) = (obs its, 8) := by unfold roomE; rw [if_neg (by omega), if_pos (by omega)]
        rw [e]
        exact ⟨rfl, sl, its, h3, rfl, (fun h => by simp at h), fun y hy => hy, Mod.of_ext x03, fun b hb => .inl hb⟩
      · simp only [decide_eq_false_iff_not] at hb2
        rcases firstI_cases (fun i : It => i.pins == 0) its with ⟨h1, -⟩ | ⟨k, y, hk, -, hfk, -⟩
        · omega
        · have e : roomE limit (obs its) = ((obs its).eraseIdx k, 0) := by
            unfold roomE
            rw [if_neg (by omega), if_neg (by omega), hfm, hfk]; rfl
          rw [hfk, e]
          obtain ⟨a1, a2⟩ := h3.at hk
          refine ⟨sl, h3.rt.at 3 rfl, a1, _, a2, (save_clean (h3.it y (List.mem_of_getElem? hk)) (hcl y (List.mem_of_getElem? hk)) t).mono ?_⟩
          rintro e w7 ⟨rfl, rfl⟩
          refine ⟨_, rfl, Br.mk (fun _ => (out_spec h3 hk).mono ?_) (fun h => by simp at h)⟩
          rintro e w9 ⟨rfl, sl', h9, m9, b9⟩
          have hel : (its.eraseIdx k).length = its.length - 1 := by rw [List.length_eraseIdx, if_pos (List.getElem?_eq_some_iff.1 hk).1]
          have hkl := (List.getElem?_eq_some_iff.1 hk).1
          have z3 := x03.size
          exact ⟨_, rfl, rfl, sl', _, h9, obs_erase _ _, fun _ => by omega, fun z hz => (List.eraseIdx_sublist ..).subset hz, (Mod.of_ext x03).trans m9, fun b hb => by
            rcases b9 b hb with h1 | h1
            · exact .inl h1
            · exact .inr (by omega)⟩
theorem inT_okP {p : Po} (h : inT p) : okP p := by unfold inT at h; unfold okP; omega
theorem readB_nil : readB bMay [] 8192 = ([], 3) := rfl
/-- What Load comes to. -/
abbrev LdRes (w : World) (t st d r : Nat) (sl : Sl) (room seed limit : Int) (its : List It) (l : List En) (w' : World) : Prop :=
  ∃ sl' its', TO w' t st d r sl' room seed limit its' ∧ obs its' = l ∧ Turned (foot t st d r sl its) (foot t st d r sl' its') w w'
set_option maxRecDepth 100000 in
theorem Load_spec {w : World} {t st d r : Nat} {sl : Sl} {room seed limit : Int} {its : List It} (h : TO w t st d r sl room seed limit its) (hc : (∀ y ∈ its, y.dirty = false) ∨ (its.length : Int) < limit) (p : Po) :
    Calls Tryz.prog n_table_Table_Load #[.pointer (some ⟨t, 0, none⟩), pv p] w fun e w' => e = .returned (.int .i64 (ldE seed limit (obs its) p).2) ∧ LdRes w t st d r sl room seed limit its (ldE seed limit (obs its) p).1 w' := by
  apply table_Table_Load.vc
  intro w0 e0
  have z0 : w0.heap.size = w.heap.size + 1 := by rw [e0]; simp
  have x0 : Ext w w0 := (Ext.rfl' w).of_alloc e0
  clear e0
  refine (Id_spec p w0).mono ?_
  rintro e w1 ⟨rfl, x1⟩
  have z1 := x1.size
  have x01 := x0.tr x1
  refine ⟨_, _, rfl, x1.heap (by omega), ?_⟩
  by_cases hin : inT p
  · rw [decide_eq_true hin]
    refine Br.mk (fun h => by cases h) (fun _ => ?_)
    have h1 := h.ext x01
    refine (find_spec h1 p).mono ?_
    rintro e w4 ⟨rfl, x4⟩
    have z4 := x4.size
    have x04 := x01.tr x4
    have h4 := h.ext x04
    have hfm : firstI (fun e : En => e.1 == p) (obs its) = firstI (fun i : It => i.p == p) its := firstI_map It.ob _ its
    refine ⟨_, rfl, x4.heap (by omega), ?_⟩
    rcases firstI_cases (fun i : It => i.p == p) its with ⟨hf, -⟩ | ⟨k, y, hk, -, hf, -⟩
    · rw [hf]
      refine Br.mk (fun h => by simp at h) (fun _ => ?_)
      have hE : ldE seed limit (obs its) p = if (roomE limit (obs its)).2 ≠ 0 then roomE limit (obs its) else ((roomE limit (obs its)).1 ++ [(p, made seed p, false, 0)], 0) := by
        unfold ldE
        rw [if_neg (by simpa using hin), hfm, hf, if_neg (by decide)]
      rw [hE]
      refine (room_spec h4 hc).mono ?_
      rintro e w8 ⟨rfl, sl8, its8, h8, ho8, hl8, hs8, m8, b8⟩
      have z8 := m8.size
      have bx : ¬ slF t sl w.heap.size := by
        rintro (e | e)
        · have := h.rt.lt; omega
        · have := (h.ol.own.lt e).2; omega
      have m08 : Mod (foot t st d r sl its) w w8 := (Mod.of_ext x04).trans (m8.mono fun i _ hi => slF_foot i hi)
      have t08 : Turned (foot t st d r sl its) (foot t st d r sl8 its8) w w8 := ⟨m08, foot_sub (fun b hb => by
        rcases b8 b hb with h1 | h1
        · exact .inl h1
        · exact .inr (by have := x04.size; omega)) (fun y hy => .inl (hs8 y hy))⟩
      refine ⟨_, rfl, m8.same _ (by omega) bx, Br.mk (fun hb => ?_) (fun hb => ?_)⟩
      · have hne : (roomE limit (obs its)).2 ≠ 0 := by simpa using hb
        rw [if_pos hne]
        exact ⟨rfl, sl8, its8, h8, ho8, t08⟩
      · have he : (roomE limit (obs its)).2 = 0 := by simpa using hb
        rw [if_neg (by rw [he]; decide)]
        have hroom := hl8 he
        refine ⟨_, h8.rt.at 0 rfl, (sLoad_spec h8.so _).mono ?_⟩
        rintro e w11 ⟨rfl, x11⟩
        have z11 := x11.size
        refine ⟨⟨none, 0, 0⟩, _, _, rfl, x11.heap (by omega), ?_⟩
        refine (Read_spec p ⟨none, 0, 0⟩ [] w11 ⟨rfl, (fun r hr => by simp at hr), fun i r hi => by simp at hi⟩ (fun c hc => by simp at hc) (Nat.le_refl _) (Nat.zero_le _)).mono ?_
        rintro e w15 ⟨hres, x15⟩
        have z15 := x15.size
        rcases hres with ⟨hz, -⟩ | ⟨-, rfl⟩
        · rw [readB_nil] at hz; cases hz
        · refine ⟨_, _, rfl, x15.heap (by omega), Br.mk (fun _ => ?_) (fun h => by rw [readB_nil] at h; simp at h)⟩
          have x815 := x11.tr x15.drew
          have h15 := h8.ext x815
          refine ⟨seed, h15.rt.at 1 rfl, (Make_spec' seed p (inT_okP hin) w15.drew).mono ?_⟩
          rintro e w19 ⟨g, s, rfl, hk, x19, hg, hsb⟩
          have z19 := x19.size
          have zd : w15.drew.heap.size = w15.heap.size := rfl
          have h19 := h15.ext x19
          refine ⟨_, rfl, x19.heap (by omega), sl8, h19.rt.at 3 rfl, fun w22 e22 w23 e23 => ?_⟩
          have x22 : Ext w19 w22 := (Ext.rfl' _).of_alloc e22
          have x23 : Ext w22 w23 := (Ext.rfl' _).of_alloc e23
          have z22 : w22.heap.size = w19.heap.size + 1 := by rw [e22]; simp
          have z23 : w23.heap.size = w19.heap.size + 2 := by rw [e23]; simp [z22]
          have hy : ItIs w23 ⟨w19.heap.size, g, s, p, made seed p, false, 0⟩ := ⟨(by rw [e22]; exact Row.new w19 [_, _, _] _ : Row w22 w19.heap.size [.pointer (some ⟨g, 0, none⟩), .bool false, .int .i64 0] tItem).ext x23, (hk.ext x22).ext x23⟩
          have h23 := (h19.ext x22).ext x23
          have hxn : w19.heap.size ∉ its8.map (·.x) := fun hm => by
            obtain ⟨z, hz, e⟩ := List.mem_map.1 hm
            have := (h19.it z hz).r.lt; omega
          have hgn : g ∉ its8.map (·.g) := fun hm => by
            obtain ⟨z, hz, e⟩ := List.mem_map.1 hm
            have := (h15.it z hz).k.row.lt; omega
          obtain ⟨hp, hr⟩ := h23.push _ hy hxn hgn hroom
          refine ⟨hp, fun s24 w25 hres => ?_⟩
          obtain ⟨m25, p1, p2⟩ := hr s24 w25 hres
          have hbl : ∀ b, sl8.blk = some b → b < w8.heap.size := fun b hb => (h8.ol.own.lt hb).2
          have hb0 : ∀ b, sl8.blk = some b → b ≠ w.heap.size := fun b hb e => by
            rcases b8 b hb with h1 | h1
            · have := (h.ol.own.lt h1).2; omega
            · have := x04.size; omega
          have htl := h.rt.lt
          have pb : ∀ j : Nat, t < j → pblk (padd (some ⟨t, 0, none⟩) 3) ≠ some j := fun j hj e => by
            rw [pblk_padd] at e
            have : t = j := by simpa [pblk] using e
            omega
          refine ⟨m25.same _ (by omega) fun e => hb0 _ e rfl, m25.same _ (by omega) fun e => by have := hbl _ e; omega, ⟨rfl, p1⟩, pb _ (by omega), pb _ (by omega), fun w26 e26 => ⟨rfl, s24, its8 ++ [⟨w19.heap.size, g, s, p, made seed p, false, 0⟩], ?_, ?_, ?_⟩⟩
          · exact (p2 w26 e26).1
          · unfold obs
            rw [List.map_append]
            change obs its8 ++ _ = _
            rw [ho8]; rfl
          · obtain ⟨-, q2, q3⟩ := p2 w26 e26
            have x823 : Ext w8 w23 := (x815.tr x19).tr (x22.tr x23)
            have m823 : Turned (foot t st d r sl8 its8) (foot t st d r sl8 its8) w8 w23 := Turned.of_ext x823
            have m2326 : Turned (foot t st d r sl8 its8) (foot t st d r s24 (its8 ++ [⟨w19.heap.size, g, s, p, made seed p, false, 0⟩])) w8 w26 := by
              refine ⟨(Mod.of_ext x823).trans (q2.mono fun i _ hi => slF_foot i hi), foot_sub (fun b hb => ?_) (fun z hz => ?_)⟩
              · rcases q3 b hb with h1 | h1
                · exact .inl h1
                · exact .inr (by omega)
              · rcases List.mem_append.1 hz with hz | hz
                · exact .inl hz
                · simp at hz; subst hz
                  refine .inr ⟨by show _ ≤ w19.heap.size; omega, by show _ ≤ g; omega, fun b hb => ?_⟩
                  have := hsb b hb; omega
            exact t08.trans m2326
    · rw [hf]
      refine Br.mk (fun _ => ?_) (fun h => by simp at h)
      have hE : ldE seed limit (obs its) p = ((obs its).eraseIdx k ++ [y.ob], 0) := by
        unfold ldE
        rw [if_neg (by simpa using hin), hfm, hf, if_pos (by omega), Int.toNat_natCast, List.getElem?_map, hk]; rfl
      rw [hE]
      refine (touch_spec h4 hk).mono ?_
      rintro e w6 ⟨rfl, sl6, h6, t6⟩
      have z6 := t6.mod.size
      have bx : ¬ foot t st d r sl its w.heap.size := fun hf => by have := h.lt hf; omega
      refine ⟨_, rfl, t6.mod.same _ (by omega) bx, rfl, sl6, _, h6, ?_, (Turned.of_ext x04).trans t6⟩
      unfold obs
      rw [List.map_append]
      change obs _ ++ _ = _
      rw [obs_erase]; rfl
  · rw [decide_eq_false hin]
    refine Br.mk (fun _ => ?_) (fun h => by cases h)
    have hE : ldE seed limit (obs its) p = (obs its, 5) := by unfold ldE; rw [if_pos hin]
    rw [hE]
    exact ⟨rfl, sl, its, h.ext x01, rfl, Turned.of_ext x01⟩
end Go.Proofs.YtbnmglonbhdcbaaGreatDoor
namespace Go.Proofs.YtbnmglonbhdcbaaGreatDoor
open Go Go.Vc Go.RowKit Go.Proofs Go.Chk Go.Runs Go.Code

theorem Cap_spec {w : World} {t st d r : Nat} {sl : Sl} {room seed limit : Int} {its : List It} (h : TO w t st d r sl room seed limit its) : Calls Tryz.prog n_table_Table_Cap #[.pointer (some ⟨t, 0, none⟩)] w fun e w' => e = .returned (.int .i64 limit) ∧ w' = w := by
  apply table_Table_Cap.vc
  exact ⟨limit, h.rt.at 2 rfl, rfl, rfl⟩
/-- An item of which the cells are others. -/
theorem TO.put {w w' : World} {t st d r : Nat} {sl : Sl} {room seed limit : Int} {its : List It} (h : TO w t st d r sl room seed limit its) {i : Nat} {y y' : It} (hi : its[i]? = some y) (hx : y'.x = y.x) (hg : y'.g = y.g) (hm : Mod (fun j => j = y.x) w w') (hy : ItIs w' y') : TO w' t st d r sl room seed limit (its.set i y') := by
  have hil := (List.getElem?_eq_some_iff.1 hi).1
  have hr := (h.it y (List.mem_of_getElem? hi)).r
  have off : ∀ {j : Nat} {cs : List Value} {τ : TypeId}, Row w j cs τ → τ ≠ tItem → ¬ j = y.x := fun hr' ht e => hr'.ne hr ht e
  have hpx : ptrs (its.set i y') = ptrs its := by
    unfold ptrs
    rw [List.map_set, hx]
    apply List.ext_getElem?
    intro j
    rw [List.getElem?_set]
    split
    · rename_i e; subst e
      rw [if_pos (by rw [List.length_map]; exact hil), List.getElem?_map, hi]; rfl
    · rfl
  have hmx : (its.set i y').map (·.x) = its.map (·.x) := by
    rw [List.map_set, hx]
    apply List.ext_getElem?
    intro j
    rw [List.getElem?_set]
    split
    · rename_i e; subst e
      rw [if_pos (by rw [List.length_map]; exact hil), List.getElem?_map, hi]; rfl
    · rfl
  have hmg : (its.set i y').map (·.g) = its.map (·.g) := by
    rw [List.map_set, hg]
    apply List.ext_getElem?
    intro j
    rw [List.getElem?_set]
    split
    · rename_i e; subst e
      rw [if_pos (by rw [List.length_map]; exact hil), List.getElem?_map, hi]; rfl
    · rfl
  refine ⟨hm.row h.rt (off h.rt (by decide)), ⟨hm.row h.so.rs (off h.so.rs (by decide)), hm.row h.so.rd (off h.so.rd (by decide)), hm.map h.so.rm fun e => hr.ne_map h.so.rm e.symm⟩, ?_, fun z hz => ?_, by rw [hmx]; exact h.dx, by rw [hmg]; exact h.dg, h.lim, by rw [List.length_set]; exact h.len⟩
  · rw [hpx]
    exact hm.ownK h.ol fun b hb => by
      obtain ⟨cs', hr'⟩ := own_row h.ol (by decide) hb
      exact off hr' (by decide)
  · obtain ⟨j, hj⟩ := List.getElem?_of_mem hz
    rw [List.getElem?_set] at hj
    split at hj
    · cases hj; exact hy
    · rename_i hne
      have hzj := h.it z (List.mem_of_getElem? hj)
      refine hzj.keep hm (fun e => ?_) (off hzj.k.row (by decide)) (fun b hb => ?_)
      · -- two items of one block are one
        have h1 : (its.map (·.x))[i]? = some y.x := by rw [List.getElem?_map, hi]; rfl
        have h2 : (its.map (·.x))[j]? = some z.x := by rw [List.getElem?_map, hj]; rfl
        have hjl := (List.getElem?_eq_some_iff.1 hj).1
        rw [e, ← h1] at h2
        exact hne ((List.getElem?_inj (by rw [List.length_map]; exact hjl) h.dx).1 h2).symm
      · obtain ⟨cs', hr'⟩ := own_row hzj.k.own (by decide) hb
        exact off hr' (by decide)
theorem foot_put {t st d r : Nat} {sl : Sl} {its : List It} {i : Nat} {y y' : It} (hi : its[i]? = some y) (hx : y'.x = y.x) (hg : y'.g = y.g) (hs : y'.s = y.s) : ∀ j, foot t st d r sl (its.set i y') j → foot t st d r sl its j := by
  rintro j (e | e | e | e | e | ⟨z, hz, e⟩)
  · exact .inl e
  · exact .inr (.inl e)
  · exact .inr (.inr (.inl e))
  · exact .inr (.inr (.inr (.inl e)))
  · exact .inr (.inr (.inr (.inr (.inl e))))
  · rcases List.mem_or_eq_of_mem_set hz with hz | hz
    · exact .inr (.inr (.inr (.inr (.inr ⟨z, hz, e⟩))))
    · subst hz
      rw [hx, hg, hs] at e
      exact .inr (.inr (.inr (.inr (.inr ⟨y, List.mem_of_getElem? hi, e⟩))))
/-- A chunk pinned once more (by 1), or once less. -/
def It.pin (y : It) (n : Int) : It := { y with pins := y.pins + n }
def pinE (l : List En) (p : Po) : List En × Int :=
  if 0 ≤ firstI (fun e : En => e.1 == p) l then (l.modify (firstI (fun e : En => e.1 == p) l).toNat fun e => (e.1, e.2.1, e.2.2.1, e.2.2.2 + 1), 0) else (l, 6)
def unpinE (l : List En) (p : Po) : List En × Int :=
  if 0 ≤ firstI (fun e : En => e.1 == p) l then
    (if (l[(firstI (fun e : En => e.1 == p) l).toNat]?.map (·.2.2.2)) = some 0 then (l, 1) else (l.modify (firstI (fun e : En => e.1 == p) l).toNat fun e => (e.1, e.2.1, e.2.2.1, e.2.2.2 - 1), 0)) else (l, 6)
def pinsE (l : List En) (p : Po) : Int :=
  if 0 ≤ firstI (fun e : En => e.1 == p) l then (l[(firstI (fun e : En => e.1 == p) l).toNat]?.map (·.2.2.2)).getD 0 else 0
def unldE (l : List En) (p : Po) : List En × Int :=
  if 0 ≤ firstI (fun e : En => e.1 == p) l then
    (if 0 < (l[(firstI (fun e : En => e.1 == p) l).toNat]?.map (·.2.2.2)).getD 0 then (l, 10) else (l.eraseIdx (firstI (fun e : En => e.1 == p) l).toNat, 0)) else (l, 6)
theorem first_ob (its : List It) (p : Po) : firstI (fun e : En => e.1 == p) (obs its) = firstI (fun i : It => i.p == p) its := firstI_map It.ob _ its
theorem obs_set {its : List It} {i : Nat} {y y' : It} (hi : its[i]? = some y) {f : En → En} (hf : y'.ob = f y.ob) : obs (its.set i y') = (obs its).modify i f := by
  unfold obs
  rw [List.map_set]
  apply List.ext_getElem?
  intro j
  rw [List.getElem?_set, List.getElem?_modify, List.length_map]
  have hil := (List.getElem?_eq_some_iff.1 hi).1
  split
  · rename_i e; subst e
    rw [List.getElem?_map, hi]
    simp [hf]
  · rename_i e
    rw [List.getElem?_map]
    cases its[j]? with
    | none => rfl
    | some z => simp [e]
theorem Pin_spec {w : World} {t st d r : Nat} {sl : Sl} {room seed limit : Int} {its : List It} (h : TO w t st d r sl room seed limit its) (hp : ∀ y ∈ its, -1000000000 ≤ y.pins ∧ y.pins ≤ 1000000000) (p : Po) :
    Calls Tryz.prog n_table_Table_Pin #[.pointer (some ⟨t, 0, none⟩), pv p] w fun e w' => e = .returned (.int .i64 (pinE (obs its) p).2) ∧ LdRes w t st d r sl room seed limit its (pinE (obs its) p).1 w' := by
  apply table_Table_Pin.vc
  intro w0 e0
  have z0 : w0.heap.size = w.heap.size + 1 := by rw [e0]; simp
  have x0 : Ext w w0 := (Ext.rfl' w).of_alloc e0
  clear e0
  have h0 := h.ext x0
  refine (find_spec h0 p).mono ?_
  rintro e w1 ⟨rfl, x1⟩
  have z1 := x1.size
  have x01 := x0.tr x1
  have h1 := h.ext x01
  refine ⟨_, rfl, x1.heap (by omega), ?_⟩
  rcases firstI_cases (fun i : It => i.p == p) its with ⟨hf, -⟩ | ⟨k, y, hk, -, hf, -⟩
  · have hE : pinE (obs its) p = (obs its, 6) := by unfold pinE; rw [first_ob, hf, if_neg (by decide)]
    rw [hf, hE]
    exact Br.mk (fun _ => ⟨rfl, sl, its, h1, rfl, Turned.of_ext x01⟩) (fun h => by simp at h)
  · have hE : pinE (obs its) p = ((obs its).modify k fun e => (e.1, e.2.1, e.2.2.1, e.2.2.2 + 1), 0) := by unfold pinE; rw [first_ob, hf, if_pos (by omega)]; rfl
    rw [hf, hE]
    refine Br.mk (fun h => by simp at h; omega) (fun _ => ?_)
    have hym := List.mem_of_getElem? hk
    have hy := h1.it y hym
    obtain ⟨a1, a2⟩ := h1.at hk
    have hpy := hp y hym
    have hwp := wrap_in (n := y.pins + 1) (by unfold inI; omega)
    obtain ⟨p1, p2⟩ := hy.r.put1 (j := 2) (v := .int .i64 (y.pins + 1)) (by simp) rfl
    refine ⟨sl, h1.rt.at 3 rfl, a1, _, a2, nnS (nnS ⟨y.pins, hy.r.at 2 rfl, nnS (nnS ⟨⟨by rw [padd_row]; rfl, p1⟩, ?_, fun w6 e6 => ?_⟩)⟩)⟩
    · intro e
      rw [pblk_padd] at e
      have : y.x = w.heap.size := by simpa [pblk] using e
      have := (h.it y hym).r.lt
      omega
    · rw [hwp] at e6
      obtain ⟨q1, q2⟩ := p2 w6 e6
      have hy' : ItIs w6 (y.pin 1) := ⟨q1, hy.k.keep q2 (fun e => hy.k.row.ne hy.r (by decide) e) fun b hb => by
        obtain ⟨cs', hr'⟩ := own_row hy.k.own (by decide) hb
        exact hr'.ne hy.r (by decide)⟩
      refine ⟨rfl, sl, its.set k (y.pin 1), h1.put hk rfl rfl q2 hy', obs_set hk rfl, ⟨?_, fun j hj => .inl (foot_put (y' := y.pin 1) hk rfl rfl rfl j hj)⟩⟩
      exact (Mod.of_ext x01).trans (q2.mono fun j _ hj => .inr (.inr (.inr (.inr (.inr ⟨y, hym, .inl hj⟩)))))
theorem Unpin_spec {w : World} {t st d r : Nat} {sl : Sl} {room seed limit : Int} {its : List It} (h : TO w t st d r sl room seed limit its) (hp : ∀ y ∈ its, -1000000000 ≤ y.pins ∧ y.pins ≤ 1000000000) (p : Po) :
    Calls Tryz.prog n_table_Table_Unpin #[.pointer (some ⟨t, 0, none⟩), pv p] w fun e w' => e = .returned (.int .i64 (unpinE (obs its) p).2) ∧ LdRes w t st d r sl room seed limit its (unpinE (obs its) p).1 w' := by
  apply table_Table_Unpin.vc
  intro w0 e0
  have z0 : w0.heap.size = w.heap.size + 1 := by rw [e0]; simp
  have x0 : Ext w w0 := (Ext.rfl' w).of_alloc e0
  clear e0
  have h0 := h.ext x0
  refine (find_spec h0 p).mono ?_
  rintro e w1 ⟨rfl, x1⟩
  have z1 := x1.size
  have x01 := x0.tr x1
  have h1 := h.ext x01
  refine ⟨_, rfl, x1.heap (by omega), ?_⟩
  rcases firstI_cases (fun i : It => i.p == p) its with ⟨hf, -⟩ | ⟨k, y, hk, -, hf, -⟩
  · have hE : unpinE (obs its) p = (obs its, 6) := by unfold unpinE; rw [first_ob, hf, if_neg (by decide)]
    rw [hf, hE]
    exact Br.mk (fun _ => ⟨rfl, sl, its, h1, rfl, Turned.of_ext x01⟩) (fun h => by simp at h)
  · have hob : (obs its)[k]?.map (·.2.2.2) = some y.pins := by rw [List.getElem?_map, hk]; rfl
    have hE : unpinE (obs its) p = if y.pins = 0 then (obs its, 1) else ((obs its).modify k fun e => (e.1, e.2.1, e.2.2.1, e.2.2.2 - 1), 0) := by
      unfold unpinE
      rw [first_ob, hf, if_pos (by omega), Int.toNat_natCast, hob]
      simp
    rw [hf, hE]
    refine Br.mk (fun h => by simp at h; omega) (fun _ => ?_)
    have hym := List.mem_of_getElem? hk
    have hy := h1.it y hym
    obtain ⟨a1, a2⟩ := h1.at hk
    have hpy := hp y hym
    refine ⟨sl, h1.rt.at 3 rfl, a1, _, a2, nnS (nnS ⟨y.pins, hy.r.at 2 rfl, Br.mk (fun hb => ?_) (fun hb => ?_)⟩)⟩
    · have hz : y.pins = 0 := by simpa using hb
      rw [if_pos hz]
      exact ⟨rfl, sl, its, h1, rfl, Turned.of_ext x01⟩
    · have hz : y.pins ≠ 0 := by simpa using hb
      have hwp := wrap_in (n := y.pins - 1) (by unfold inI; omega)
      rw [if_neg hz]
      obtain ⟨p1, p2⟩ := hy.r.put1 (j := 2) (v := .int .i64 (y.pins - 1)) (by simp) rfl
      refine ⟨sl, h1.rt.at 3 rfl, a1, _, a2, nnS (nnS ⟨y.pins, hy.r.at 2 rfl, nnS (nnS ⟨⟨by rw [padd_row]; rfl, p1⟩, ?_, fun w6 e6 => ?_⟩)⟩)⟩
      · intro e
        rw [pblk_padd] at e
        have : y.x = w.heap.size := by simpa [pblk] using e
        have := (h.it y hym).r.lt
        omega
      · rw [hwp] at e6
        obtain ⟨q1, q2⟩ := p2 w6 e6
        have hy' : ItIs w6 (y.pin (-1)) := ⟨q1, hy.k.keep q2 (fun e => hy.k.row.ne hy.r (by decide) e) fun b hb => by
          obtain ⟨cs', hr'⟩ := own_row hy.k.own (by decide) hb
          exact hr'.ne hy.r (by decide)⟩
        refine ⟨rfl, sl, its.set k (y.pin (-1)), h1.put hk rfl rfl q2 hy', obs_set hk rfl, ⟨?_, fun j hj => .inl (foot_put (y' := y.pin (-1)) hk rfl rfl rfl j hj)⟩⟩
        exact (Mod.of_ext x01).trans (q2.mono fun j _ hj => .inr (.inr (.inr (.inr (.inr ⟨y, hym, .inl hj⟩)))))
theorem Pins_spec {w : World} {t st d r : Nat} {sl : Sl} {room seed limit : Int} {its : List It} (h : TO w t st d r sl room seed limit its) (p : Po) :
    Calls Tryz.prog n_table_Table_Pins #[.pointer (some ⟨t, 0, none⟩), pv p] w fun e w' => e = .returned (.int .i64 (pinsE (obs its) p)) ∧ Ext w w' := by
  apply table_Table_Pins.vc
  intro w0 e0
  have z0 : w0.heap.size = w.heap.size + 1 := by rw [e0]; simp
  have x0 : Ext w w0 := (Ext.rfl' w).of_alloc e0
  clear e0
  have h0 := h.ext x0
  refine (find_spec h0 p).mono ?_
  rintro e w1 ⟨rfl, x1⟩
  have x01 := x0.tr x1
  have h1 := h.ext x01
  refine ⟨_, rfl, x1.heap (by omega), ?_⟩
  rcases firstI_cases (fun i : It => i.p == p) its with ⟨hf, -⟩ | ⟨k, y, hk, -, hf, -⟩
  · have hE : pinsE (obs its) p = 0 := by unfold pinsE; rw [first_ob, hf, if_neg (by decide)]
    rw [hf, hE]
    exact Br.mk (fun _ => ⟨rfl, x01⟩) (fun h => by simp at h)
  · have hob : (obs its)[k]?.map (·.2.2.2) = some y.pins := by rw [List.getElem?_map, hk]; rfl
    have hE : pinsE (obs its) p = y.pins := by
      unfold pinsE
      rw [first_ob, hf, if_pos (by omega), Int.toNat_natCast, hob]; rfl
    rw [hf, hE]
    refine Br.mk (fun h => by simp at h; omega) (fun _ => ?_)
    have hy := h1.it y (List.mem_of_getElem? hk)
    obtain ⟨a1, a2⟩ := h1.at hk
    exact ⟨sl, h1.rt.at 3 rfl, a1, _, a2, nnS (nnS ⟨y.pins, hy.r.at 2 rfl, rfl, x01⟩)⟩
theorem Unload_spec {w : World} {t st d r : Nat} {sl : Sl} {room seed limit : Int} {its : List It} (h : TO w t st d r sl room seed limit its) (p : Po) (hc : ∀ y ∈ its, y.p = p → y.dirty = false) :
    Calls Tryz.prog n_table_Table_Unload #[.pointer (some ⟨t, 0, none⟩), pv p] w fun e w' => e = .returned (.int .i64 (unldE (obs its) p).2) ∧ LdRes w t st d r sl room seed limit its (unldE (obs its) p).1 w' := by
  apply table_Table_Unload.vc
  intro w0 e0
  have z0 : w0.heap.size = w.heap.size + 1 := by rw [e0]; simp
  have x0 : Ext w w0 := (Ext.rfl' w).of_alloc e0
  clear e0
  have h0 := h.ext x0
  refine (find_spec h0 p).mono ?_
  rintro e w1 ⟨rfl, x1⟩
  have z1 := x1.size
  have x01 := x0.tr x1
  have h1 := h.ext x01
  refine ⟨_, rfl, x1.heap (by omega), ?_⟩
  rcases firstI_cases (fun i : It => i.p == p) its with ⟨hf, -⟩ | ⟨k, y, hk, hyp, hf, -⟩
  · have hE : unldE (obs its) p = (obs its, 6) := by unfold unldE; rw [first_ob, hf, if_neg (by decide)]
    rw [hf, hE]
    exact Br.mk (fun _ => ⟨rfl, sl, its, h1, rfl, Turned.of_ext x01⟩) (fun h => by simp at h)
  · have hob : (obs its)[k]?.map (·.2.2.2) = some y.pins := by rw [List.getElem?_map, hk]; rfl
    have hE : unldE (obs its) p = if 0 < y.pins then (obs its, 10) else ((obs its).eraseIdx k, 0) := by
      unfold unldE
      rw [first_ob, hf, if_pos (by omega), Int.toNat_natCast, hob]; rfl
    rw [hf, hE]
    refine Br.mk (fun h => by simp at h; omega) (fun _ => ?_)
    have hym := List.mem_of_getElem? hk
    have hy := h1.it y hym
    obtain ⟨a1, a2⟩ := h1.at hk
    refine ⟨sl, h1.rt.at 3 rfl, a1, _, a2, nnS (nnS ⟨y.pins, hy.r.at 2 rfl, Br.mk (fun hb => ?_) (fun hb => ?_)⟩)⟩
    · have hz : 0 < y.pins := by simpa using hb
      rw [if_pos hz]
      exact ⟨rfl, sl, its, h1, rfl, Turned.of_ext x01⟩
    · have hz : ¬ 0 < y.pins := by simpa using hb
      rw [if_neg hz]
      refine ⟨sl, h1.rt.at 3 rfl, a1, _, a2, (save_clean hy (hc y hym (by simpa using hyp)) t).mono ?_⟩
      rintro e w8 ⟨rfl, rfl⟩
      refine ⟨_, rfl, rfl, Br.mk (fun _ => (out_spec h1 hk).mono ?_) (fun h => by simp at h)⟩
      rintro e w9 ⟨rfl, sl', h9, m9, b9⟩
      have bx : ¬ slF t sl w.heap.size := by
        rintro (e | e)
        · have := h.rt.lt; omega
        · have := (h.ol.own.lt e).2; omega
      refine ⟨_, rfl, m9.same _ (by omega) bx, rfl, sl', _, h9, obs_erase _ _, ⟨(Mod.of_ext x01).trans (m9.mono fun i _ hi => slF_foot i hi), foot_sub (fun b hb => ?_) fun z hz => .inl ((List.eraseIdx_sublist ..).subset hz)⟩⟩
      rcases b9 b hb with h1 | h1
      · exact .inl h1
      · exact .inr (by omega)
theorem Here_spec {w : World} {t st d r : Nat} {sl : Sl} {room seed limit : Int} {its : List It} (h : TO w t st d r sl room seed limit its) :
    Calls Tryz.prog n_table_Table_Here #[.pointer (some ⟨t, 0, none⟩)] w fun e w' => ∃ s' : Sl, e = .returned (.slice s'.a s'.n s'.c) ∧ OwnK w.heap.size tPo 2 w' s' ((obs its).map fun e => [.int .i64 e.1.1, .int .i64 e.1.2]) ∧ Ext w w' := by
  apply table_Table_Here.vc
  have hn := h.n
  have hlen := h.len
  have hlim := h.lim
  refine ⟨sl, h.rt.at 3 rfl, fun n i so wr => ∃ k : Nat, i = k ∧ k + n = its.length ∧ Ext w wr ∧ OwnK w.heap.size tPo 2 wr so (((obs its).take k).map fun e => [.int .i64 e.1.1, .int .i64 e.1.2]), ⟨its.length, 0, rfl, by omega, Ext.rfl' _, OwnK.nil⟩, ?_⟩
  rintro n us i so wr ⟨k, rfl, hk, xr, ho⟩
  have hwk : IntKind.wrap .i64 ((k : Int) + 1) = ((k + 1 : Nat) : Int) := by rw [wrap_in (by unfold inI; omega)]; omega
  have hol : (obs its).length = its.length := by rw [List.length_map]
  refine Br.mk (fun hc => ?_) (fun hc => ?_)
  · simp only [decide_eq_true_eq] at hc
    obtain ⟨y, hy⟩ := get_lt (l := its) (i := k) (by omega)
    have hr := h.ext xr
    obtain ⟨a1, a2⟩ := hr.at hy
    have hyr := hr.it y (List.mem_of_getElem? hy)
    refine ⟨a1, _, a2, nnS (nnS ⟨_, hyr.r.at 0 rfl, nnS (nnS ⟨_, _, hyr.k.pos, (Place_spec y.p wr).mono ?_⟩)⟩)⟩
    rintro e w12 ⟨rfl, x12⟩
    refine ⟨_, _, rfl, fun w15 e15 => ?_⟩
    have x15 : Ext w12 w15 := (Ext.rfl' _).of_alloc e15
    have z12 := x12.size
    have zr := xr.size
    have z15 : w15.heap.size = w12.heap.size + 1 := by rw [e15]; simp
    have ho15 := (ho.ext x12).ext x15
    have hso := (ho.rd (show 0 < 2 by decide)).n
    rw [List.length_map, List.length_take] at hso
    obtain ⟨hp, hres⟩ := ho15.append (bytes := 16) (news := [.int .i64 y.p.1, .int .i64 y.p.2]) (by omega) rfl (one_ii _ _ _ _) (by omega) (by omega)
    refine ⟨hp, fun s16 w17 hr17 => ?_⟩
    obtain ⟨ho17, hn17, xb, hkp, -⟩ := hres s16 w17 hr17
    refine ⟨hkp _ (fun e => by have := (ho.own.lt e).2; omega) (by omega), n - 1, by omega, k + 1, hwk, by omega, (xr.tr (x12.tr x15)).trans xb, ?_⟩
    have : (obs its).take (k + 1) = (obs its).take k ++ [y.ob] := by rw [List.take_add_one, List.getElem?_map, hy]; rfl
    rw [this, List.map_append]
    exact ho17
  · simp only [decide_eq_false_iff_not] at hc
    rw [List.take_of_length_le (by omega)] at ho
    exact ⟨so, rfl, ho, xr⟩
end Go.Proofs.YtbnmglonbhdcbaaGreatDoor
namespace Go.Proofs.YtbnmglonbhdcbaaGreatDoor
open Go Go.Vc Go.RowKit Go.Proofs Go.Chk Go.Runs Go.Code

theorem yes {b : Bool} {A B : Prop} (hb : b = true) (h : A) : Br b A B := by subst hb; exact h
theorem nope {b : Bool} {A B : Prop} (hb : b = false) (h : B) : Br b A B := by subst hb; exact h
/-- A table, made since w0, of which this is told. -/
def TI (w0 w : World) (t : Nat) (seed limit : Int) (l : List En) : Prop :=
  ∃ st d r sl room its, TO w t st d r sl room seed limit its ∧ obs its = l ∧ Ext w0 w ∧ ∀ i, foot t st d r sl its i → w0.heap.size ≤ i
/-- Boxes of places stay. -/
def KP (w w' : World) : Prop := ∀ j cs, Row w j cs tPo → w'.heap[j]? = w.heap[j]?
theorem KP.of_ext {w w' : World} (x : Ext w w') : KP w w' := fun _ _ h => x.heap h.lt
theorem KP.row {w w' : World} (h : KP w w') {j : Nat} {cs : List Value} (hr : Row w j cs tPo) : Row w' j cs tPo := hr.same (h _ _ hr)
theorem KP.own {w w' : World} (h : KP w w') {B k : Nat} {s : Sl} {rows : List (List Value)} (hk : 0 < k) (ho : OwnK B tPo k w s rows) : OwnK B tPo k w' s rows := OwnK.keep ho fun b hb => by
  obtain ⟨cs, hr⟩ := own_row ho hk hb
  exact h _ _ hr
theorem TI.x {w0 w : World} {t : Nat} {seed limit : Int} {l : List En} (h : TI w0 w t seed limit l) : Ext w0 w := by
  obtain ⟨st, d, r, sl, room, its, h1, h2, h3, h4⟩ := h; exact h3
theorem TI.len {w0 w : World} {t : Nat} {seed limit : Int} {l : List En} (h : TI w0 w t seed limit l) : (l.length : Int) ≤ limit ∧ 1 ≤ limit ∧ limit ≤ 16 := by
  obtain ⟨st, d, r, sl, room, its, h1, rfl, h3, h4⟩ := h
  have := h1.len; have := h1.lim
  unfold obs
  rw [List.length_map]
  omega
theorem TI.ext {w0 w w' : World} {t : Nat} {seed limit : Int} {l : List En} (h : TI w0 w t seed limit l) (x : Ext w w') : TI w0 w' t seed limit l := by
  obtain ⟨st, d, r, sl, room, its, h1, h2, h3, h4⟩ := h
  exact ⟨st, d, r, sl, room, its, h1.ext x, h2, h3.tr x, h4⟩
theorem TI.app {w0 w w' : World} {t : Nat} {seed limit : Int} {l : List En} (h : TI w0 w t seed limit l) {b : Nat} {cs : List Value} (hr : ∀ j, b = j → Row w j cs tPo) (hb : Below w0.heap.size w w') (hk : ∀ j, j ≠ b → j < w.heap.size → w'.heap[j]? = w.heap[j]?) : TI w0 w' t seed limit l := by
  obtain ⟨st, d, r, sl, room, its, h1, h2, h3, h4⟩ := h
  refine ⟨st, d, r, sl, room, its, h1.same fun i hi => hk i ?_ (h1.lt hi), h2, h3.trans hb, h4⟩
  rintro rfl
  exact h1.no_row (hr i rfl) (by decide) hi
theorem ti_of {w0 w w' : World} {t st d r : Nat} {sl : Sl} {room seed limit : Int} {its : List It} {l : List En} (h : TO w t st d r sl room seed limit its) (x : Ext w0 w) (hf : ∀ i, foot t st d r sl its i → w0.heap.size ≤ i) (hl : LdRes w t st d r sl room seed limit its l w') : TI w0 w' t seed limit l ∧ KP w w' := by
  obtain ⟨sl', its', h', ho, ht⟩ := hl
  obtain ⟨x', f'⟩ := ht.fresh x hf
  exact ⟨⟨st, d, r, sl', room, its', h', ho, x', f'⟩, fun j cs hr => ht.mod.same j hr.lt (h.no_row hr (by decide))⟩
theorem tiNew_spec (seed limit room : Int) (w : World) : Calls Tryz.prog n_table_New #[.int .i64 seed, .int .i64 limit, .int .i64 room] w fun e w' => ∃ t, e = .returned (.pointer (some ⟨t, 0, none⟩)) ∧ TI w w' t seed (min (max limit 1) 16) [] := by
  refine (tNew_spec seed limit room w).mono ?_
  rintro e w' ⟨t, st, d, r, rm, rfl, h, x, hf⟩
  exact ⟨t, rfl, st, d, r, _, rm, [], h, rfl, x, hf⟩
theorem tiLoad_spec {w0 w : World} {t : Nat} {seed limit : Int} {l : List En} (h : TI w0 w t seed limit l) (hc : (∀ e ∈ l, e.2.2.1 = false) ∨ (l.length : Int) < limit) (p : Po) :
    Calls Tryz.prog n_table_Table_Load #[.pointer (some ⟨t, 0, none⟩), pv p] w fun e w' => e = .returned (.int .i64 (ldE seed limit l p).2) ∧ TI w0 w' t seed limit (ldE seed limit l p).1 ∧ KP w w' := by
  obtain ⟨st, d, r, sl, room, its, h1, rfl, h3, h4⟩ := h
  refine (Load_spec h1 ?_ p).mono ?_
  · rcases hc with h | h
    · exact .inl fun y hy => h _ (List.mem_map.2 ⟨y, hy, rfl⟩)
    · exact .inr (by unfold obs at h; rw [List.length_map] at h; exact h)
  · rintro e w' ⟨rfl, hl⟩
    exact ⟨rfl, ti_of h1 h3 h4 hl⟩
theorem pins_in {its : List It} (h : ∀ e ∈ obs its, -1000000000 ≤ e.2.2.2 ∧ e.2.2.2 ≤ 1000000000) : ∀ y ∈ its, -1000000000 ≤ y.pins ∧ y.pins ≤ 1000000000 := fun y hy => h _ (List.mem_map.2 ⟨y, hy, rfl⟩)
theorem tiPin_spec {w0 w : World} {t : Nat} {seed limit : Int} {l : List En} (h : TI w0 w t seed limit l) (hp : ∀ e ∈ l, -1000000000 ≤ e.2.2.2 ∧ e.2.2.2 ≤ 1000000000) (p : Po) :
    Calls Tryz.prog n_table_Table_Pin #[.pointer (some ⟨t, 0, none⟩), pv p] w fun e w' => e = .returned (.int .i64 (pinE l p).2) ∧ TI w0 w' t seed limit (pinE l p).1 ∧ KP w w' := by
  obtain ⟨st, d, r, sl, room, its, h1, rfl, h3, h4⟩ := h
  refine (Pin_spec h1 (pins_in hp) p).mono ?_
  rintro e w' ⟨rfl, hl⟩
  exact ⟨rfl, ti_of h1 h3 h4 hl⟩
theorem tiUnpin_spec {w0 w : World} {t : Nat} {seed limit : Int} {l : List En} (h : TI w0 w t seed limit l) (hp : ∀ e ∈ l, -1000000000 ≤ e.2.2.2 ∧ e.2.2.2 ≤ 1000000000) (p : Po) :
    Calls Tryz.prog n_table_Table_Unpin #[.pointer (some ⟨t, 0, none⟩), pv p] w fun e w' => e = .returned (.int .i64 (unpinE l p).2) ∧ TI w0 w' t seed limit (unpinE l p).1 ∧ KP w w' := by
  obtain ⟨st, d, r, sl, room, its, h1, rfl, h3, h4⟩ := h
  refine (Unpin_spec h1 (pins_in hp) p).mono ?_
  rintro e w' ⟨rfl, hl⟩
  exact ⟨rfl, ti_of h1 h3 h4 hl⟩
theorem tiUnload_spec {w0 w : World} {t : Nat} {seed limit : Int} {l : List En} (h : TI w0 w t seed limit l) (p : Po) (hc : ∀ e ∈ l, e.1 = p → e.2.2.1 = false) :
    Calls Tryz.prog n_table_Table_Unload #[.pointer (some ⟨t, 0, none⟩), pv p] w fun e w' => e = .returned (.int .i64 (unldE l p).2) ∧ TI w0 w' t seed limit (unldE l p).1 ∧ KP w w' := by
  obtain ⟨st, d, r, sl, room, its, h1, rfl, h3, h4⟩ := h
  refine (Unload_spec h1 p fun y hy e => hc _ (List.mem_map.2 ⟨y, hy, rfl⟩) e).mono ?_
  rintro e w' ⟨rfl, hl⟩
  exact ⟨rfl, ti_of h1 h3 h4 hl⟩
theorem tiPins_spec {w0 w : World} {t : Nat} {seed limit : Int} {l : List En} (h : TI w0 w t seed limit l) (p : Po) :
    Calls Tryz.prog n_table_Table_Pins #[.pointer (some ⟨t, 0, none⟩), pv p] w fun e w' => e = .returned (.int .i64 (pinsE l p)) ∧ TI w0 w' t seed limit l ∧ KP w w' := by
  have hh := h
  obtain ⟨st, d, r, sl, room, its, h1, rfl, h3, h4⟩ := h
  refine (Pins_spec h1 p).mono ?_
  rintro e w' ⟨rfl, x⟩
  exact ⟨rfl, hh.ext x, KP.of_ext x⟩
theorem tiCap_spec {w0 w : World} {t : Nat} {seed limit : Int} {l : List En} (h : TI w0 w t seed limit l) : Calls Tryz.prog n_table_Table_Cap #[.pointer (some ⟨t, 0, none⟩)] w fun e w' => e = .returned (.int .i64 limit) ∧ w' = w := by
  obtain ⟨st, d, r, sl, room, its, h1, rfl, h3, h4⟩ := h
  exact Cap_spec h1
theorem tiHere_spec {w0 w : World} {t : Nat} {seed limit : Int} {l : List En} (h : TI w0 w t seed limit l) : Calls Tryz.prog n_table_Table_Here #[.pointer (some ⟨t, 0, none⟩)] w fun e w' => ∃ s' : Sl, e = .returned (.slice s'.a s'.n s'.c) ∧ OwnK w.heap.size tPo 2 w' s' (l.map fun e => [.int .i64 e.1.1, .int .i64 e.1.2]) ∧ Ext w w' := by
  obtain ⟨st, d, r, sl, room, its, h1, rfl, h3, h4⟩ := h
  exact Here_spec h1
theorem lim1 : min (max (1 : Int) 1) 16 = 1 := by decide
theorem lives12_spec (w : World) : Calls Tryz.prog n_law12_lives #[] w fun e w' => e = .returned (.bool true) ∧ Ext w w' := by
  apply law12_lives.vc
  refine (tiNew_spec 0 1 0 w).mono ?_
  rintro e w0 ⟨t, rfl, h0⟩
  rw [lim1] at h0
  refine ⟨_, rfl, Br.mk (fun h => by cases h) (fun _ => ?_)⟩
  refine (tiLoad_spec h0 (.inl (by simp)) (0, 0)).mono ?_
  rintro e w2 ⟨rfl, h2, -⟩
  have e1 : ldE 0 1 [] (0, 0) = ([((0, 0), made 0 (0, 0), false, 0)], 0) := rfl
  rw [e1] at h2 ⊢
  generalize made 0 (0, 0) = M at *
  refine ⟨_, rfl, (tiPin_spec h2 (by simp) (0, 0)).mono ?_⟩
  rintro e w4 ⟨rfl, h4, -⟩
  have e2 : pinE [((0, 0), M, false, 0)] (0, 0) = ([((0, 0), M, false, 1)], 0) := rfl
  rw [e2] at h4 ⊢
  refine ⟨_, rfl, yes rfl (yes rfl ?_)⟩
  refine (tiLoad_spec h4 (.inl (by simp)) (0, 1)).mono ?_
  rintro e w6 ⟨rfl, h6, -⟩
  have e3 : (ldE 0 1 [((0, 0), M, false, 1)] (0, 1)).2 = 8 := rfl
  rw [e3]
  exact ⟨_, rfl, rfl, h6.x⟩
end Go.Proofs.YtbnmglonbhdcbaaGreatDoor
