import Derived.Test.YtjcnjlaelhdjeaaGreatDoorJ
import Derived.Test.YtjcnjlaelhdjeaaGreatDoorF
import Derived.Test.YtjcnjlaelhdjeaaGreatDoorD
import Derived.Test.YtjcnjlaelhdjeaaGreatDoorC
set_option linter.all false
namespace Go.Proofs.YtjcnjlaelhdjeaaGreatDoor
open Go Go.Vc Go.RowKit Go.Proofs Go.Chk Go.Runs Go.Code
abbrev tRec : TypeId := 276
structure SO (w : World) (st d : Nat) (m : Dm) (D : Dk) : Prop where
 rs : Row w st [.pointer (some ⟨d, 0, none⟩)] tStore
 dk : DO w d m D
def sF (st d : Nat) (m : Dm) (i : Nat) : Prop := i = st ∨ dF d m i
theorem SO.lt {w : World} {st d : Nat} {m : Dm} {D : Dk} (h : SO w st d m D) {i : Nat} (hi : sF st d m i) : i < w.heap.size := by
 rcases hi with rfl | hi
 ·exact h.rs.lt
 ·exact h.dk.lt hi
theorem SO.same {w w' : World} {st d : Nat} {m : Dm} {D : Dk} (h : SO w st d m D) (hs : ∀ i, sF st d m i → w'.heap[i]? = w.heap[i]?) : SO w' st d m D := ⟨h.rs.same (hs _ (.inl rfl)), h.dk.same fun i hi => hs i (.inr hi)⟩
theorem SO.ext {w w' : World} {st d : Nat} {m : Dm} {D : Dk} (h : SO w st d m D) (x : Ext w w') : SO w' st d m D := h.same fun i hi => x.heap (h.lt hi)
theorem SO.ptr {w : World} {st d : Nat} {m : Dm} {D : Dk} (h : SO w st d m D) : ld w (padd (padd (some ⟨st, 0, none⟩) 0) 0) = some (.pointer (some ⟨d, 0, none⟩)) := by
 rw [padd_row, padd_row, h.rs.ld]; rfl
theorem dNew_spec (room : Int) (w : World) : Calls Tryz.prog n_disk_New #[.int .i64 room] w fun e w' => ∃ d m, e = .returned (.pointer (some ⟨d, 0, none⟩)) ∧ DO w' d m ⟨min (max room 0) 1048576, 0, 0, [], []⟩ ∧ Ext w w' ∧ ∀ i, dF d m i → w.heap.size ≤ i := by
 apply disk_New.vc
 intro w0 e0 w1 e1
 have z0 : w0.heap.size = w.heap.size + 1 := by rw [e0]; simp
 have x1 : Ext w0 w1 := (Ext.rfl' _).of_alloc e1
 have hm : MapIs GI w0 (some w.heap.size) [] := by rw [e0]; exact MapIs.new
 have er : (if 1048576 < (if 0 > room then 0 else room) then 1048576 else (if 0 > room then 0 else room)) = min (max room 0) 1048576 := by split <;> split <;> omega
 rw [er] at e1
 refine ⟨w0.heap.size, ⟨w.heap.size, ⟨none, 0, 0⟩, [], []⟩, rfl, ⟨by rw [e1]; exact Row.new w0 [_, _, _, _, _] _, hm.same (x1.heap hm.lt), OwnK.nil, .refl _, rfl, (fun x hx => by cases hx), ⟨List.nodup_nil, fun k => by simp [lenB]; omega, by simp, by simp, by simp only; omega⟩⟩, ((Ext.rfl' w).of_alloc e0).tr x1, fun i hi => ?_⟩
 rcases hi with q | q | q | ⟨x, hx, -⟩
 ·omega
 ·rw [q]; exact Nat.le_refl _
 ·cases q
 ·cases hx
theorem sNew_spec (room : Int) (w : World) : Calls Tryz.prog n_store_New #[.int .i64 room] w fun e w' => ∃ st d m, e = .returned (.pointer (some ⟨st, 0, none⟩)) ∧ SO w' st d m ⟨min (max room 0) 1048576, 0, 0, [], []⟩ ∧ Ext w w' ∧ ∀ i, sF st d m i → w.heap.size ≤ i := by
 apply store_New.vc
 refine (dNew_spec room w).mono ?_
 rintro e w0 ⟨d, m, rfl, hd, x0, hf⟩
 refine ⟨_, rfl, fun w2 e2 => ?_⟩
 have x2 : Ext w0 w2 := (Ext.rfl' _).of_alloc e2
 have z := x0.size
 refine ⟨_, d, m, rfl, ⟨by rw [e2]; exact Row.new w0 [_] _, hd.ext x2⟩, x0.tr x2, fun i hi => ?_⟩
 rcases hi with q | q
 ·omega
 ·exact hf i q
set_option maxRecDepth 100000 in
theorem sOf_spec {w : World} {st d : Nat} {m : Dm} {D : Dk} (h : SO w st d m D) (hW : D.l.length ≤ 1000000000) {id : Int} (hid : 0 ≤ id ∧ id ≤ 1099511627776) :
  Calls Tryz.prog n_store_Store_of #[.pointer (some ⟨st, 0, none⟩), .int .i64 id] w fun e w' => ∃ s : Sl, e = .returned (.agg #[.int .i64 (ofS D id).1, .int .i64 (ofS D id).2.1, .slice s.a s.n s.c]) ∧ RdY w' s (ofS D id).2.2 ∧ Bys (ofS D id).2.2 ∧ (ofS D id).2.2.length ≤ 1048576 ∧ s.n ≤ s.c ∧ (∀ g, s.blk = some g → w.heap.size ≤ g) ∧ Ext w w' := by
 apply store_Store_ofb.vc
 intro w0 e0 w1 e1 w2 e2
 have z0 : w0.heap.size = w.heap.size + 1 := by rw [e0]; simp
 have z1 : w1.heap.size = w.heap.size + 2 := by rw [e1]; simp [z0]
 have z2 : w2.heap.size = w.heap.size + 2 := by rw [e2, setRow_size, z1]
 have x2 : Ext w w2 := (((Ext.rfl' w).of_alloc e0).of_alloc e1).of_setRow e2 (by omega)
 clear e0 e1 e2
 have k0 : IntKind.wrap .i64 (2 * id) = 2 * id := wrap_in (by unfold inI; omega)
 have k1 : IntKind.wrap .i64 (2 * id + 1) = 2 * id + 1 := wrap_in (by unfold inI; omega)
 rw [k0, k1]
 obtain ⟨best, hbest⟩ : ∃ best : Nat → Rc, best = fun k => if k = 0 then (2 * id + 1, 0, []) else if k = 1 then stepS (2 * id + 1, 0, []) (2 * id) (rdS (getD D (2 * id))) else ofS D id := ⟨_, rfl⟩
 have b0 : best 0 = (2 * id + 1, 0, []) := by rw [hbest]; rfl
 have b1 : best 1 = stepS (best 0) (2 * id) (rdS (getD D (2 * id))) := by rw [b0, hbest]; rfl
 have b2 : best 2 = stepS (best 1) (2 * id + 1) (rdS (getD D (2 * id + 1))) := by rw [b1, b0, hbest]; rfl
 have b3 : best 2 = ofS D id := by rw [hbest]; rfl
 clear hbest
 refine ⟨fun n i sl v s wr => ∃ k : Nat, i = k ∧ k + n = 2 ∧ sl = (best k).1 ∧ v = (best k).2.1 ∧ RdY wr s (best k).2.2 ∧ Bys (best k).2.2 ∧ (best k).2.2.length ≤ 1048576 ∧ s.n ≤ s.c ∧ (∀ g, s.blk = some g → w2.heap.size ≤ g) ∧ Ext w wr ∧ w2.heap.size ≤ wr.heap.size,
  ⟨2, rfl, 0, rfl, rfl, by rw [b0], by rw [b0], by rw [b0]; exact OwY.rdy (OwnK.nil (B := 0)), by rw [b0]; exact (fun c hc => by cases hc), by rw [b0]; simp, Nat.le_refl _, (fun g hg => by cases hg), x2, Nat.le_refl _⟩, ?_⟩
 rintro n4 us i sl v s w10 ⟨k, rfl, hk, rfl, rfl, hs, hsb, hsl, hsc, hsf, x10, z10⟩
 refine Br.mk (fun hc => ?_) (fun hc => ?_)
 ·simp only [decide_eq_true_eq] at hc
  have hwk : IntKind.wrap .i64 ((k : Int) + 1) = ((k + 1 : Nat) : Int) := by rw [wrap_in (by unfold inI; omega)]; omega
  obtain ⟨slot, hslot, hnext⟩ : ∃ slot, ([.int .i64 (2 * id), .int .i64 (2 * id + 1)] : List Value)[((k : Nat) : Int).toNat * 1]? = some (.int .i64 slot) ∧ best (k + 1) = stepS (best k) slot (rdS (getD D slot)) := by
   rcases k with _ | _ | k
   ·exact ⟨_, rfl, b1⟩
   ·exact ⟨_, rfl, b2⟩
   ·omega
  have h10 := h.ext x10
  refine ⟨⟨by omega, by omega⟩, slot, hslot, _, h10.ptr, (dGet_spec h10.dk hW slot).mono ?_⟩
  rintro e w14 ⟨t, tb, rfl, ot, hby, hle, x14⟩
  have z14 := x14.size
  refine ⟨t, tb, rfl, x14.heap (by omega), x14.heap (by omega), (sRead_spec t (getD D slot) w14 (OwY.rdy ot) hby (OwnK.le ot) (by omega)).mono ?_⟩
  rintro e w17 ⟨u, rfl, hu, huc, hub, x17⟩
  have z17 := x17.size
  have x1017 := x14.tr x17
  have hui := rdS_in hby
  have hul := rdS_le (getD D slot)
  have keep : stepS (best k) slot (rdS (getD D slot)) = best k → ∃ n11, n11 < n4 ∧ ([.int .i64 0, .int .i64 0, .slice none 0 0] : List Value) = [.int .i64 0, .int .i64 0, .slice none 0 0] ∧ ∃ k' : Nat, IntKind.wrap .i64 ((k : Int) + 1) = (k' : Int) ∧ k' + n11 = 2 ∧ (best k).1 = (best k').1 ∧ (best k).2.1 = (best k').2.1 ∧ RdY w17 s (best k').2.2 ∧ Bys (best k').2.2 ∧ (best k').2.2.length ≤ 1048576 ∧ s.n ≤ s.c ∧ (∀ g, s.blk = some g → w2.heap.size ≤ g) ∧ Ext w w17 ∧ w2.heap.size ≤ w17.heap.size := fun q => by
   rw [q] at hnext
   exact ⟨n4 - 1, by omega, rfl, k + 1, hwk, by omega, by rw [hnext], by rw [hnext], by rw [hnext]; exact hs.ext x1017, by rw [hnext]; exact hsb, by rw [hnext]; exact hsl, hsc, hsf, x10.tr x1017, by omega⟩
  refine ⟨_, u, _, rfl, x17.heap (by omega), x17.heap (by omega), Br.mk (fun hb => Br.mk (fun hb2 => ?_) (fun hb2 => ?_)) (fun hb => ?_)⟩
  ·have q1 : (rdS (getD D slot)).2.2 = 0 := by simpa using hb
   have q2 : (rdS (getD D slot)).1 > (best k).2.1 := by simpa using hb2
   have e : stepS (best k) slot (rdS (getD D slot)) = (slot, (rdS (getD D slot)).1, (rdS (getD D slot)).2.1) := by unfold stepS; rw [if_pos ⟨q1, q2⟩]
   rw [e] at hnext
   intro w21 e21
   have x21 : Ext w w21 := (x10.tr x1017).of_setRow e21 (by omega)
   have hu21 : RdY w21 u (rdS (getD D slot)).2.1 := hu.same fun g hg => by
    rw [e21]; exact setRow_other _ _ _ _ (by have := hub g hg; omega)
   have z21 : w21.heap.size = w17.heap.size := by rw [e21, setRow_size]
   exact ⟨n4 - 1, by omega, rfl, k + 1, hwk, by omega, by rw [hnext], by rw [hnext], by rw [hnext]; exact hu21, by rw [hnext]; exact hui, by rw [hnext]; simp only; omega, huc, (fun g hg => by have := hub g hg; omega), x21, by omega⟩
  ·have q2 : ¬ (rdS (getD D slot)).1 > (best k).2.1 := by simpa using hb2
   exact keep (by unfold stepS; rw [if_neg fun q => q2 q.2])
  ·have q1 : (rdS (getD D slot)).2.2 ≠ 0 := by simpa using hb
   exact keep (by unfold stepS; rw [if_neg fun q => q1 q.1])
 ·simp only [decide_eq_false_iff_not] at hc
  have hk2 : k = 2 := by omega
  subst hk2
  rw [b3] at hs hsb hsl ⊢
  intro w22 e22
  refine ⟨s, rfl, hs.same fun g hg => ?_, hsb, hsl, hsc, fun g hg => by have := hsf g hg; omega, x10.of_setRow e22 (Nat.le_refl _)⟩
  rw [e22]; exact setRow_other _ _ _ _ (by have := hsf g hg; omega)
theorem mayS_spec (id : Int) (w : World) : Calls Tryz.prog n_store_may #[.int .i64 id] w fun e w' => e = .returned (.bool (mayS id)) ∧ w' = w := by
 apply store_may.vc
 unfold mayS
 refine Br.mk (fun h => ?_) (fun h => ?_)
 ·simp only [ge_iff_le, decide_eq_true_eq] at h
  rw [decide_eq_true h]; exact ⟨rfl, rfl⟩
 ·simp only [ge_iff_le, decide_eq_false_iff_not] at h
  rw [decide_eq_false h]; exact ⟨rfl, rfl⟩
theorem mayS_iff {id : Int} : mayS id = true ↔ 0 ≤ id ∧ id ≤ 1099511627776 := by unfold mayS; simp
theorem stLoad_spec {w : World} {st d : Nat} {m : Dm} {D : Dk} (h : SO w st d m D) (hW : D.l.length ≤ 1000000000) (id : Int) :
  Calls Tryz.prog n_store_Store_Load #[.pointer (some ⟨st, 0, none⟩), .int .i64 id] w fun e w' => ∃ s : Sl, e = .returned (.tuple #[.slice s.a s.n s.c, .int .i64 (ldS D id).2.1, .bool (ldS D id).2.2]) ∧ RdY w' s (ldS D id).1 ∧ Bys (ldS D id).1 ∧ (ldS D id).1.length ≤ 1048576 ∧ s.n ≤ s.c ∧ (∀ g, s.blk = some g → w.heap.size ≤ g) ∧ Ext w w' := by
 apply store_Store_Load.vc
 refine (mayS_spec id w).mono ?_
 rintro e w0 ⟨rfl, rfl⟩
 refine ⟨_, rfl, Br.mk (fun hb => ?_) (fun hb => ?_)⟩
 ·have q : ¬ mayS id = true := by simpa using hb
  have e : ldS D id = ([], 0, false) := by unfold ldS; rw [if_neg q]
  rw [e]
  exact ⟨⟨none, 0, 0⟩, rfl, OwY.rdy (OwnK.nil (B := 0)), (fun c hc => by cases hc), by simp, Nat.le_refl _, (fun g hg => by cases hg), Ext.rfl' _⟩
 ·have q : mayS id = true := by simpa using hb
  have e : ldS D id = ((ofS D id).2.2, (ofS D id).2.1, decide ((ofS D id).2.1 > 0)) := by unfold ldS; rw [if_pos q]
  rw [e]
  refine (sOf_spec h hW (mayS_iff.1 q)).mono ?_
  rintro e w2 ⟨s, rfl, hs, hsb, hsl, hsc, hsf, x2⟩
  refine ⟨_, _, s, rfl, fun w6 e6 w7 e7 => ?_⟩
  have x7 : Ext w2 w7.drew := (((Ext.rfl' _).of_alloc e6).of_setRow e7 (Nat.le_refl _)).drew
  exact ⟨s, rfl, hs.ext x7, hsb, hsl, hsc, hsf, x2.tr x7⟩
def SRes (w : World) (st d : Nat) (m : Dm) (D : Dk) (w' : World) : Prop := ∃ m', SO w' st d m' D ∧ Mod (fun i => i = d ∨ m.ls.blk = some i) w w' ∧ (∀ i, dF d m' i → dF d m i ∨ w.heap.size ≤ i) ∧ ∀ i, m'.ls.blk = some i → m.ls.blk = some i ∨ w.heap.size ≤ i
theorem SO.off {w : World} {st d : Nat} {m : Dm} {D : Dk} (h : SO w st d m D) : ¬ (st = d ∨ m.ls.blk = some st) := by
 rintro (q | q)
 ·exact h.rs.ne h.dk.rd (by decide) q
 ·obtain ⟨cs', hr2⟩ := own_row h.dk.ol (by decide) q
  exact h.rs.ne hr2 (by decide) rfl
theorem SO.res {w w' : World} {st d : Nat} {m : Dm} {D D' : Dk} (h : SO w st d m D) (hr : DRes w d m D' w') : SRes w st d m D' w' := by
 obtain ⟨m', h1, h2, h3, h4⟩ := hr
 exact ⟨m', ⟨h2.row h.rs h.off, h1⟩, h2, h3, h4⟩
theorem SRes.of_ext {w0 w w' : World} {st d : Nat} {m : Dm} {D' : Dk} (x : Ext w0 w) (hr : SRes w st d m D' w') : SRes w0 st d m D' w' := by
 obtain ⟨m', h1, h2, h3, h4⟩ := hr
 have z := x.size
 exact ⟨m', h1, (Mod.of_ext x).trans h2, fun i hi => (h3 i hi).imp id fun q => by omega, fun i hi => (h4 i hi).imp id fun q => by omega⟩
theorem SRes.trans {w w1 w2 : World} {st d : Nat} {m m1 : Dm} {D1 D2 : Dk} (h1 : SO w1 st d m1 D1 ∧ Mod (fun i => i = d ∨ m.ls.blk = some i) w w1 ∧ (∀ i, dF d m1 i → dF d m i ∨ w.heap.size ≤ i) ∧ ∀ i, m1.ls.blk = some i → m.ls.blk = some i ∨ w.heap.size ≤ i) (h2 : SRes w1 st d m1 D2 w2) : SRes w st d m D2 w2 := by
 obtain ⟨a1, a2, a3, a4⟩ := h1
 obtain ⟨m2, b1, b2, b3, b4⟩ := h2
 have z := a2.size
 refine ⟨m2, b1, a2.tr b2 fun i hi => ?_, fun i hi => ?_, fun i hi => ?_⟩
 ·rcases hi with q | q
  ·exact .inl (.inl q)
  ·exact (a4 i q).imp .inr id
 ·rcases b3 i hi with q | q
  ·exact a3 i q
  ·exact .inr (by omega)
 ·rcases b4 i hi with q | q
  ·exact a4 i q
  ·exact .inr (by omega)
set_option maxRecDepth 100000 in
theorem stSave_spec {w : World} {st d : Nat} {m : Dm} {D : Dk} (h : SO w st d m D) (hW : D.l.length ≤ 1000000) (id : Int) (s : Sl) (b : List Int) (hs : RdY w s b) (hb : Bys b) (hn : b.length ≤ 1099511627776) :
  Calls Tryz.prog n_store_Store_Save #[.pointer (some ⟨st, 0, none⟩), .int .i64 id, .slice s.a s.n s.c] w fun e w' => e = .returned (.int .i64 (svS D id b).2) ∧ SRes w st d m (svS D id b).1 w' := by
 apply (store_Store_Save.vc (a2 := s))
 have same : ∀ {w' : World}, Ext w w' → SRes w st d m D w' := fun x => ⟨m, h.ext x, Mod.of_ext x, fun i hi => .inl hi, fun i hi => .inl hi⟩
 refine (mayS_spec id w).mono ?_
 rintro e w0 ⟨rfl, rfl⟩
 refine ⟨_, rfl, Br.mk (fun hb1 => ?_) (fun hb1 => ?_)⟩
 ·have q : ¬ mayS id = true := by simpa using hb1
  have e : svS D id b = (D, 1) := by unfold svS; rw [if_neg q]
  rw [e]
  exact ⟨rfl, same (Ext.rfl' _)⟩
 ·have q : mayS id = true := by simpa using hb1
  have hid := mayS_iff.1 q
  refine (sOf_spec h (by omega) hid).mono ?_
  rintro e w2 ⟨s5, rfl, -, -, -, -, -, x2⟩
  refine ⟨_, _, s5, rfl, fun w6 e6 w7 e7 => ?_⟩
  have r7 : Row w7 w2.heap.size [.int .i64 (ofS D id).1, .int .i64 (ofS D id).2.1, .slice s5.a s5.n s5.c] tRec := by rw [e7]; exact Row.set (by rw [e6]; exact Row.new w2 [_, _, _] _) _
  have x27 : Ext w2 w7 := ((Ext.rfl' _).of_alloc e6).of_setRow e7 (Nat.le_refl _)
  have x7 := x2.tr x27
  have hv := ofS_v D id
  have wv : IntKind.wrap .i64 ((ofS D id).2.1 + 1) = (ofS D id).2.1 + 1 := wrap_in (by unfold inI; omega)
  rw [wv]
  have hsl := ofS_slot D id
  have hto : bXor .i64 (ofS D id).1 1 = 4 * id + 1 - (ofS D id).1 := by
   obtain ⟨t1, t2⟩ := bXor_one hid
   rcases hsl with q | q
   ·rw [q, t1]; omega
   ·rw [q, t2]; omega
  rw [hto]
  have hsv : svS D id b = if (wrS ((ofS D id).2.1 + 1) b).2 ≠ 0 then (D, (wrS ((ofS D id).2.1 + 1) b).2)
   else if (putD D (4 * id + 1 - (ofS D id).1) (wrS ((ofS D id).2.1 + 1) b).1).2 ≠ 0 then putD D (4 * id + 1 - (ofS D id).1) (wrS ((ofS D id).2.1 + 1) b).1
   else syncD (putD D (4 * id + 1 - (ofS D id).1) (wrS ((ofS D id).2.1 + 1) b).1).1 := by unfold svS; rw [if_pos q]
  rw [hsv]
  refine (sWrite_spec ((ofS D id).2.1 + 1) s b w7 (hs.ext x7) hb hn).mono ?_
  rintro e w8 ⟨s9, rfl, o9, x8⟩
  have hwb : Bys (wrS ((ofS D id).2.1 + 1) b).1 := wrS_in hb
  have hwn : (wrS ((ofS D id).2.1 + 1) b).1.length ≤ 1099511627776 := by
   unfold wrS
   split
   ·simp
   ·rename_i q3
    rw [sealB_len, recB_len]
    omega
  generalize wrS ((ofS D id).2.1 + 1) b = wr at *
  generalize 4 * id + 1 - (ofS D id).1 = slot at *
  have z8 := x8.size
  have z2 := x27.size
  have hlt7 := r7.lt
  refine ⟨s9, _, rfl, x8.heap hlt7, Br.mk (fun hb2 => ?_) (fun hb2 => ?_)⟩
  ·have q2 : wr.2 ≠ 0 := by simpa using hb2
   rw [if_pos q2]
   exact ⟨rfl, same (x7.tr x8)⟩
  ·have q2 : wr.2 = 0 := by simpa using hb2
   rw [if_neg (by rw [q2]; simp)]
   have x8d := (x7.tr x8).tr (Ext.dr w8)
   have h8 := h.ext x8d
   have hdl := h.dk.rd.lt
   have z7 := x7.size
   refine ⟨_, h8.ptr, (dPut_spec h8.dk (by omega) slot s9 wr.1 (RdK.ext (OwY.rdy o9) (Ext.dr w8)) hwb hwn fun hg => by have := (o9.own.lt hg).1; omega).mono ?_⟩
   rintro e w12 ⟨rfl, hr12⟩
   have hr12' := h8.res hr12
   have hbk : ∀ {v : World}, Mod (fun i => i = d ∨ m.ls.blk = some i) w8.drew v → v.heap[w2.heap.size]? = w8.drew.heap[w2.heap.size]? := fun hm => hm.same _ (by show w2.heap.size < w8.heap.size; omega) (by
    have := x2.size
    rintro (q | q)
    ·omega
    ·have := (h.dk.ol.own.lt q).2; omega)
   obtain ⟨m1, g1, g2, g3, g4⟩ := hr12'
   have r12 : Row w12 w2.heap.size [.int .i64 (ofS D id).1, .int .i64 (ofS D id).2.1, .slice s5.a s5.n s5.c] tRec := ((r7.ext x8).ext (Ext.dr w8)).same (hbk g2)
   refine ⟨_, rfl, hbk g2, r12.loadL (fun j hj => by simp at hj; subst hj; rfl), Br.mk (fun hb3 => ?_) (fun hb3 => ?_)⟩
   ·have q3 : (putD D slot wr.1).2 ≠ 0 := by simpa using hb3
    rw [if_pos q3]
    exact ⟨rfl, SRes.of_ext x8d ⟨m1, g1, g2, g3, g4⟩⟩
   ·have q3 : (putD D slot wr.1).2 = 0 := by simpa using hb3
    rw [if_neg (by rw [q3]; simp)]
    have hpl := put_l D slot wr.1
    refine ⟨_, g1.ptr, (dSync_spec g1.dk (by omega)).mono ?_⟩
    rintro e w15 ⟨rfl, hr15⟩
    have hr15' := g1.res hr15
    have hres := SRes.trans ⟨g1, g2, g3, g4⟩ hr15'
    have z12 := g2.size
    obtain ⟨m2, f1, f2, f3, f4⟩ := hr15
    refine ⟨_, rfl, f2.same _ r12.lt ?_, rfl, SRes.of_ext x8d hres⟩
    rintro (q | q)
    ·have := x2.size; omega
    ·obtain ⟨cs', hr2⟩ := own_row g1.dk.ol (by decide) q
     exact r12.ne hr2 (by decide) rfl
end Go.Proofs.YtjcnjlaelhdjeaaGreatDoor
namespace Go.Proofs.YtjcnjlaelhdjeaaGreatDoor
open Go Go.Vc Go.RowKit Go.Proofs Go.Chk Go.Runs
structure It where
 x : Nat
 g : Nat
 s : Sl
 p : Po
 C : List Int
 dirty : Bool
 pins : Int
structure ItIs (w : World) (i : It) : Prop where
 r : Row w i.x [.pointer (some ⟨i.g, 0, none⟩), .bool i.dirty, .int .i64 i.pins] tItem
 k : KIs w i.g i.s i.p i.C
theorem ItIs.ext {w w' : World} {i : It} (h : ItIs w i) (x : Ext w w') : ItIs w' i := ⟨h.r.ext x, h.k.ext x⟩
theorem ItIs.keep {w w' : World} {i : It} (h : ItIs w i) {F : Nat → Prop} (hm : Mod F w w') (h1 : ¬ F i.x) (h2 : ¬ F i.g) (h3 : ∀ b, i.s.blk = some b → ¬ F b) : ItIs w' i := ⟨hm.row h.r h1, h.k.keep hm h2 h3⟩
abbrev ptrs (its : List It) : List (List Value) := its.map fun i => [.pointer (some ⟨i.x, 0, none⟩)]
structure TO (w : World) (t st d : Nat) (r : Dm) (sl : Sl) (D : Dk) (seed limit : Int) (its : List It) : Prop where
 rt : Row w t [.pointer (some ⟨st, 0, none⟩), .int .i64 seed, .int .i64 limit, .slice sl.a sl.n sl.c] tTable
 so : SO w st d r D
 ol : OwnK 0 tPI 1 w sl (ptrs its)
 it : ∀ i ∈ its, ItIs w i
 dx : (its.map (·.x)).Nodup
 dg : (its.map (·.g)).Nodup
 lim : 1 ≤ limit ∧ limit ≤ 16
 len : (its.length : Int) ≤ limit
def dM (m : Dm) (i : Nat) : Prop := i = m.r ∨ m.ls.blk = some i ∨ ∃ x ∈ m.E ++ m.W, x.2.1.blk = some i
def foot (t st d : Nat) (r : Dm) (sl : Sl) (its : List It) (i : Nat) : Prop := i = t ∨ i = st ∨ i = d ∨ dM r i ∨ sl.blk = some i ∨ ∃ y ∈ its, i = y.x ∨ i = y.g ∨ y.s.blk = some i
theorem TO.lt {w : World} {t st d : Nat} {r : Dm} {sl : Sl} {D : Dk} {seed limit : Int} {its : List It} (h : TO w t st d r sl D seed limit its) {i : Nat} (hi : foot t st d r sl its i) : i < w.heap.size := by
 rcases hi with rfl | e | e | e | e | ⟨y, hy, e | e | e⟩
 ·exact h.rt.lt
 ·exact h.so.lt (.inl e)
 ·exact h.so.lt (.inr (.inl e))
 ·exact h.so.lt (.inr (.inr e))
 ·exact (h.ol.own.lt e).2
 ·exact e ▸ (h.it y hy).r.lt
 ·exact e ▸ (h.it y hy).k.row.lt
 ·exact ((h.it y hy).k.own.own.lt e).2
theorem TO.same {w w' : World} {t st d : Nat} {r : Dm} {sl : Sl} {D : Dk} {seed limit : Int} {its : List It} (h : TO w t st d r sl D seed limit its) (hs : ∀ i, foot t st d r sl its i → w'.heap[i]? = w.heap[i]?) : TO w' t st d r sl D seed limit its := by
 refine ⟨h.rt.same (hs _ (.inl rfl)), h.so.same fun i hi => hs i ?_, OwnK.keep h.ol fun b hb => hs b (.inr (.inr (.inr (.inr (.inl hb))))), fun y hy => ?_, h.dx, h.dg, h.lim, h.len⟩
 ·rcases hi with e | e | e
  ·exact .inr (.inl e)
  ·exact .inr (.inr (.inl e))
  ·exact .inr (.inr (.inr (.inl e)))
 ·have f : ∀ i, (i = y.x ∨ i = y.g ∨ y.s.blk = some i) → w'.heap[i]? = w.heap[i]? := fun i hi => hs i (.inr (.inr (.inr (.inr (.inr ⟨y, hy, hi⟩)))))
  have hi := h.it y hy
  exact ⟨hi.r.same (f _ (.inl rfl)), hi.k.row.same (f _ (.inr (.inl rfl))), OwnK.keep hi.k.own fun b hb => f b (.inr (.inr hb)), hi.k.len, hi.k.may⟩
theorem TO.ext {w w' : World} {t st d : Nat} {r : Dm} {sl : Sl} {D : Dk} {seed limit : Int} {its : List It} (h : TO w t st d r sl D seed limit its) (x : Ext w w') : TO w' t st d r sl D seed limit its := h.same fun i hi => x.heap (h.lt hi)
theorem TO.kind {w : World} {t st d : Nat} {r : Dm} {sl : Sl} {D : Dk} {seed limit : Int} {its : List It} (h : TO w t st d r sl D seed limit its) {i : Nat} (hi : foot t st d r sl its i) :
  MapIs GI w (some i) (r.E.map entV) ∨ ∃ cs τ, Row w i cs τ ∧ (τ = tTable ∨ τ = tStore ∨ τ = tDisk ∨ τ = tPI ∨ τ = tItem ∨ τ = tChunk ∨ τ = tRun ∨ τ = tW ∨ τ = tByte) := by
 rcases hi with e | e | e | e | e | ⟨y, hy, e | e | e⟩
 ·exact .inr ⟨_, _, e ▸ h.rt, .inl rfl⟩
 ·exact .inr ⟨_, _, e ▸ h.so.rs, .inr (.inl rfl)⟩
 ·exact .inr ⟨_, _, e ▸ h.so.dk.rd, .inr (.inr (.inl rfl))⟩
 ·rcases h.so.dk.kind (.inr e) with q | ⟨cs, τ, q1, q2⟩
  ·exact .inl q
  ·refine .inr ⟨cs, τ, q1, ?_⟩
   rcases q2 with rfl | rfl | rfl
   ·exact .inr (.inr (.inl rfl))
   ·exact .inr (.inr (.inr (.inr (.inr (.inr (.inr (.inl rfl)))))))
   ·exact .inr (.inr (.inr (.inr (.inr (.inr (.inr (.inr rfl)))))))
 ·obtain ⟨cs, hr⟩ := own_row h.ol (by decide) e
  exact .inr ⟨_, _, hr, .inr (.inr (.inr (.inl rfl)))⟩
 ·exact .inr ⟨_, _, e ▸ (h.it y hy).r, .inr (.inr (.inr (.inr (.inl rfl))))⟩
 ·exact .inr ⟨_, _, e ▸ (h.it y hy).k.row, .inr (.inr (.inr (.inr (.inr (.inl rfl)))))⟩
 ·obtain ⟨cs, hr⟩ := own_row (h.it y hy).k.own (by decide) e
  exact .inr ⟨_, _, hr, .inr (.inr (.inr (.inr (.inr (.inr (.inl rfl))))))⟩
theorem TO.no_row {w : World} {t st d : Nat} {r : Dm} {sl : Sl} {D : Dk} {seed limit : Int} {its : List It} (h : TO w t st d r sl D seed limit its) {j : Nat} {cs : List Value} {τ : TypeId} (hr : Row w j cs τ) (hτ : τ ≠ tTable ∧ τ ≠ tStore ∧ τ ≠ tDisk ∧ τ ≠ tPI ∧ τ ≠ tItem ∧ τ ≠ tChunk ∧ τ ≠ tRun ∧ τ ≠ tW ∧ τ ≠ tByte) : ¬ foot t st d r sl its j := fun hf => by
 rcases h.kind hf with hm | ⟨cs', τ', hr', ht⟩
 ·exact hr.ne_map hm rfl
 ·obtain ⟨h1, h2, h3, h4, h5, h6, h7, h8, h9⟩ := hτ
  rcases ht with rfl | rfl | rfl | rfl | rfl | rfl | rfl | rfl | rfl
  ·exact hr.ne hr' h1 rfl
  ·exact hr.ne hr' h2 rfl
  ·exact hr.ne hr' h3 rfl
  ·exact hr.ne hr' h4 rfl
  ·exact hr.ne hr' h5 rfl
  ·exact hr.ne hr' h6 rfl
  ·exact hr.ne hr' h7 rfl
  ·exact hr.ne hr' h8 rfl
  ·exact hr.ne hr' h9 rfl
theorem TO.n {w : World} {t st d : Nat} {r : Dm} {sl : Sl} {D : Dk} {seed limit : Int} {its : List It} (h : TO w t st d r sl D seed limit its) : sl.n = its.length := by
 have := (h.ol.rd (by decide)).n
 rwa [List.length_map] at this
theorem TO.at {w : World} {t st d : Nat} {r : Dm} {sl : Sl} {D : Dk} {seed limit : Int} {its : List It} (h : TO w t st d r sl D seed limit its) {i : Nat} {y : It} (hi : its[i]? = some y) : InB sl.a (i : Int) sl.n ∧ ld w (padd sl.a (((i : Nat) : Int).toNat * 1)) = some (.pointer (some ⟨y.x, 0, none⟩)) := by
 have hlt := (List.getElem?_eq_some_iff.1 hi).1
 have hrd := h.ol.rd (show 0 < 1 by decide)
 refine ⟨RdK.inB hrd (by decide) (by omega) (by rw [h.n]; omega), ?_⟩
 have := hrd.rd i [.pointer (some ⟨y.x, 0, none⟩)] (by rw [List.getElem?_map, hi]; rfl) 0 _ rfl
 exact this
def dk0 (room : Int) : Dk := ⟨min (max room 0) 1048576, 0, 0, [], []⟩
theorem tNew_spec (seed limit room : Int) (w : World) : Calls Tryz.prog n_table_New #[.int .i64 seed, .int .i64 limit, .int .i64 room] w fun e w' => ∃ t st d r, e = .returned (.pointer (some ⟨t, 0, none⟩)) ∧ TO w' t st d r ⟨none, 0, 0⟩ (dk0 room) seed (min (max limit 1) 16) [] ∧ Ext w w' ∧ ∀ i, foot t st d r ⟨none, 0, 0⟩ [] i → w.heap.size ≤ i := by
 apply table_New.vc
 refine (sNew_spec room w).mono ?_
 rintro e w0 ⟨st, d, m, rfl, hs, x0, hf⟩
 refine ⟨_, rfl, fun w2 e2 => ?_⟩
 have x2 : Ext w0 w2 := (Ext.rfl' _).of_alloc e2
 have z0 := x0.size
 have hl : (if 16 < (if 1 > limit then 1 else limit) then 16 else (if 1 > limit then 1 else limit)) = min (max limit 1) 16 := by split <;> split <;> omega
 rw [hl] at e2
 refine ⟨_, st, d, m, rfl, ⟨by rw [e2]; exact Row.new w0 [_, _, _, _] _, hs.ext x2, OwnK.nil, by simp, by simp, by simp, by omega, by simp; omega⟩, x0.tr x2, fun i hi => ?_⟩
 rcases hi with rfl | e | e | e | e | ⟨y, hy, -⟩
 ·exact z0
 ·exact hf i (.inl e)
 ·exact hf i (.inr (.inl e))
 ·exact hf i (.inr (.inr e))
 ·cases e
 ·cases hy
theorem indexFunc_spec {α : Type} (s : Sl) (l : List α) (ad : α → Nat) (fv : Value) (q : α → Bool) (w : World) (hs : RdK w s 1 (l.map fun i => [.pointer (some ⟨ad i, 0, none⟩)])) (hb : l.length ≤ 1000)
  (hf : ∀ i ∈ l, ∀ w', Ext w w' → callV Tryz.prog fv [.pointer (some ⟨ad i, 0, none⟩)] w' fun e w'' => e = .returned (.bool (q i)) ∧ Ext w' w'') :
  Calls Tryz.prog n_slices_IndexFunc_item #[.slice s.a s.n s.c, fv] w fun e w' => e = .returned (.int .i64 (firstI q l)) ∧ Ext w w' := by
 apply slices_IndexFunc_item.vc
 have hn : s.n = l.length := by have := hs.n; rwa [List.length_map] at this
 refine ⟨fun n i wr => ∃ k : Nat, i = k ∧ k + n = l.length ∧ Ext w wr ∧ ∀ j, j < k → ∀ y, l[j]? = some y → q y = false, ⟨l.length, 0, rfl, by omega, Ext.rfl' _, fun j hj => by omega⟩, ?_⟩
 rintro n us i wr ⟨k, rfl, hk, xr, hno⟩
 have hwk : IntKind.wrap .i64 ((k : Int) + 1) = ((k + 1 : Nat) : Int) := by rw [wrap_in (by unfold inI; omega)]; omega
 refine Br.mk (fun hc => ?_) (fun hc => ?_)
 ·simp only [decide_eq_true_eq] at hc
  obtain ⟨y, hy⟩ := get_lt (l := l) (i := k) (by omega)
  have hsr := RdK.ext hs xr
  have hld := hsr.rd k [.pointer (some ⟨ad y, 0, none⟩)] (by rw [List.getElem?_map, hy]; rfl) 0 _ rfl
  refine ⟨RdK.inB hsr (by decide) (by omega) (by omega), _, hld, callV_mono (hf y (List.mem_of_getElem? hy) wr xr) ?_⟩
  rintro e w7 ⟨rfl, x7⟩
  refine ⟨_, rfl, Br.mk (fun h => ?_) (fun h => ?_)⟩
  ·exact ⟨by rw [firstI_at hy h hno], xr.tr x7⟩
  ·refine ⟨n - 1, by omega, k + 1, hwk, by omega, xr.tr x7, fun j hj z hz => ?_⟩
   by_cases e : j = k
   ·subst e; rw [hy] at hz; cases hz; exact h
   ·exact hno j (by omega) z hz
 ·simp only [decide_eq_false_iff_not] at hc
  refine ⟨?_, xr⟩
  rw [firstI_none]
  intro y hy
  obtain ⟨j, hj⟩ := List.getElem?_of_mem hy
  exact hno j (by have := (List.getElem?_eq_some_iff.1 hj).1; omega) y hj
set_option maxRecDepth 100000 in
theorem find_spec {w : World} {t st d : Nat} {r : Dm} {sl : Sl} {D : Dk} {seed limit : Int} {its : List It} (h : TO w t st d r sl D seed limit its) (p : Po) :
  Calls Tryz.prog n_table_Table_find #[.pointer (some ⟨t, 0, none⟩), pv p] w fun e w' => e = .returned (.int .i64 (firstI (fun i => i.p == p) its)) ∧ Ext w w' := by
 apply table_Table_find.vc
 intro w0 e0
 have x0 : Ext w w0 := (Ext.rfl' w).of_alloc e0
 have hb : Row w0 w.heap.size [.int .i64 p.1, .int .i64 p.2] tPo := by rw [e0]; exact Row.new w [_, _] _
 have h0 := h.ext x0
 have hlen := h.len
 have hlim := h.lim
 refine ⟨sl, h0.rt.at 3 rfl, (indexFunc_spec sl its (·.x) _ (fun i => i.p == p) w0 (h0.ol.rd (by decide)) (by omega) ?_).mono ?_⟩
 ·intro y hy w' x'
  refine callV_of (by kernel_rfl) (by rfl) ?_
  apply table_Table_find_1.vc
  have hy' := ((h0.it y hy).ext x').ext (Ext.dr w')
  have hb' := (hb.ext x').ext (Ext.dr w')
  refine ⟨_, by rw [padd_row, hy'.r.ld]; rfl, nnS (nnS ⟨_, _, hy'.k.pos, _, _, hb'.loadL (fun j hj => by rw [Nat.zero_add]), (Place_spec y.p w'.drew).mono ?_⟩)⟩
  rintro e w5 ⟨rfl, x5⟩
  refine ⟨_, _, rfl, (hb'.ext x5).loadL (fun j hj => by rw [Nat.zero_add]), ?_, rfl, (Ext.dr w').tr x5⟩
  rw [padd_row]
  exact (hy'.ext x5).r.loadL (fun j hj => by simp at hj; subst hj; rfl)
 ·rintro e w2 ⟨rfl, x2⟩
  exact ⟨_, rfl, rfl, x0.tr x2⟩
end Go.Proofs.YtjcnjlaelhdjeaaGreatDoor
namespace Go.Proofs.YtjcnjlaelhdjeaaGreatDoor
open Go Go.Vc Go.RowKit Go.Proofs Go.Chk Go.Runs
theorem SO.kind {w : World} {st d : Nat} {m : Dm} {D : Dk} (h : SO w st d m D) {i : Nat} (hi : sF st d m i) : MapIs GI w (some i) (m.E.map entV) ∨ ∃ cs τ, Row w i cs τ ∧ (τ = tStore ∨ τ = tDisk ∨ τ = tW ∨ τ = tByte) := by
 rcases hi with e | hi
 ·exact .inr ⟨_, _, e ▸ h.rs, .inl rfl⟩
 ·rcases h.dk.kind hi with q | ⟨cs, τ, q1, q2⟩
  ·exact .inl q
  ·exact .inr ⟨cs, τ, q1, .inr q2⟩
theorem SO.keep {w w' : World} {st d : Nat} {m : Dm} {D : Dk} (h : SO w st d m D) {F : Nat → Prop} (hm : Mod F w w') (hr : ∀ {j : Nat} {cs : List Value} {τ : TypeId}, Row w j cs τ → (τ = tStore ∨ τ = tDisk ∨ τ = tW ∨ τ = tByte) → ¬ F j) (hmp : ∀ {j : Nat} {kvs : List (Value × Value)}, MapIs GI w (some j) kvs → ¬ F j) : SO w' st d m D :=
 h.same fun i hi => hm.same i (h.lt hi) (by
  rcases h.kind hi with q | ⟨cs, τ, q1, q2⟩
  ·exact hmp q
  ·exact hr q1 q2)
abbrev slF (t : Nat) (sl : Sl) : Nat → Prop := fun j => j = t ∨ sl.blk = some j
theorem TO.off {w : World} {t st d : Nat} {r : Dm} {sl : Sl} {D : Dk} {seed limit : Int} {its : List It} (h : TO w t st d r sl D seed limit its) {j : Nat} {cs : List Value} {τ : TypeId} (hr : Row w j cs τ) (h1 : τ ≠ tTable) (h2 : τ ≠ tPI) : ¬ slF t sl j := by
 rintro (e | e)
 ·exact hr.ne h.rt h1 e
 ·obtain ⟨cs', hr'⟩ := own_row h.ol (by decide) e
  exact hr.ne hr' h2 rfl
theorem TO.item {w w' : World} {t st d : Nat} {r : Dm} {sl : Sl} {D : Dk} {seed limit : Int} {its : List It} (h : TO w t st d r sl D seed limit its) (hm : Mod (slF t sl) w w') {y : It} (hy : ItIs w y) : ItIs w' y :=
 hy.keep hm (h.off hy.r (by decide) (by decide)) (h.off hy.k.row (by decide) (by decide)) (fun b hb => by
  obtain ⟨cs', hr'⟩ := own_row hy.k.own (by decide) hb
  exact h.off hr' (by decide) (by decide))
theorem TO.turn {w w' : World} {t st d : Nat} {r : Dm} {sl sl' : Sl} {D : Dk} {seed limit : Int} {its its' : List It} (h : TO w t st d r sl D seed limit its) (hm : Mod (slF t sl) w w')
  (rt : Row w' t [.pointer (some ⟨st, 0, none⟩), .int .i64 seed, .int .i64 limit, .slice sl'.a sl'.n sl'.c] tTable) (ol : OwnK 0 tPI 1 w' sl' (ptrs its')) (hit : ∀ y ∈ its', y ∈ its ∨ ItIs w y)
  (dx : (its'.map (·.x)).Nodup) (dg : (its'.map (·.g)).Nodup) (len : (its'.length : Int) ≤ limit) : TO w' t st d r sl' D seed limit its' := by
 refine ⟨rt, h.so.keep hm (fun hr hτ => ?_) (fun hmp => ?_), ol, fun y hy => h.item hm ?_, dx, dg, h.lim, len⟩
 ·rcases hτ with rfl | rfl | rfl | rfl <;> exact h.off hr (by decide) (by decide)
 ·rintro (e | e)
  ·exact h.rt.ne_map hmp e.symm
  ·obtain ⟨cs', hr'⟩ := own_row h.ol (by decide) e
   exact hr'.ne_map hmp rfl
 ·rcases hit y hy with h1 | h1
  ·exact h.it y h1
  ·exact h1
theorem foot_sub {w : World} {t st d : Nat} {r : Dm} {sl sl' : Sl} {its its' : List It} (hb : ∀ b, sl'.blk = some b → sl.blk = some b ∨ w.heap.size ≤ b) (hi : ∀ y ∈ its', y ∈ its ∨ (w.heap.size ≤ y.x ∧ w.heap.size ≤ y.g ∧ ∀ b, y.s.blk = some b → w.heap.size ≤ b)) :
  ∀ i, foot t st d r sl' its' i → foot t st d r sl its i ∨ w.heap.size ≤ i := by
 rintro i (e | e | e | e | e | ⟨y, hy, e⟩)
 ·exact .inl (.inl e)
 ·exact .inl (.inr (.inl e))
 ·exact .inl (.inr (.inr (.inl e)))
 ·exact .inl (.inr (.inr (.inr (.inl e))))
 ·rcases hb i e with h | h
  ·exact .inl (.inr (.inr (.inr (.inr (.inl h)))))
  ·exact .inr h
 ·rcases hi y hy with h | ⟨h1, h2, h3⟩
  ·exact .inl (.inr (.inr (.inr (.inr (.inr ⟨y, h, e⟩)))))
  ·rcases e with e | e | e
   ·exact .inr (by omega)
   ·exact .inr (by omega)
   ·exact .inr (h3 i e)
theorem slF_foot {t st d : Nat} {r : Dm} {sl : Sl} {its : List It} : ∀ i, slF t sl i → foot t st d r sl its i := by
 rintro i (e | e)
 ·exact .inl e
 ·exact .inr (.inr (.inr (.inr (.inl e))))
theorem one_p (a : Addr) : One [Value.pointer (some a)] := by intro v hv; simp at hv; subst hv; rfl
theorem TO.push {w : World} {t st d : Nat} {r : Dm} {sl : Sl} {D : Dk} {seed limit : Int} {its : List It} (h : TO w t st d r sl D seed limit its) (y : It) (hy : ItIs w y) (hx : y.x ∉ its.map (·.x)) (hg : y.g ∉ its.map (·.g)) (hl : (its.length : Int) + 1 ≤ limit) :
  AppPre 8 1 w sl 1 [.pointer (some ⟨y.x, 0, none⟩)] ∧ ∀ (s4 : Sl) (w5 : World), AppRes tPI 1 w sl 1 [.pointer (some ⟨y.x, 0, none⟩)] s4 w5 →
   Mod (fun j => sl.blk = some j) w w5 ∧ Wr w5 (padd (some ⟨t, 0, none⟩) 3) 1 ∧ ∀ w6, w6 = setP w5 (padd (some ⟨t, 0, none⟩) 3) [.slice s4.a s4.n s4.c] →
    TO w6 t st d r s4 D seed limit (its ++ [y]) ∧ Mod (slF t sl) w w6 ∧ ∀ b, s4.blk = some b → sl.blk = some b ∨ w.heap.size ≤ b := by
 have hn := h.n
 have hlim := h.lim
 obtain ⟨hp, hr⟩ := h.ol.append (bytes := 8) (news := [.pointer (some ⟨y.x, 0, none⟩)]) (Nat.zero_le _) rfl (one_p _) (by omega) (by omega)
 refine ⟨hp, fun s4 w5 hres => ?_⟩
 obtain ⟨ho, hn4, hbl, hk, hblk⟩ := hr s4 w5 hres
 have hm5 : Mod (fun j => sl.blk = some j) w w5 := Mod.of_app hbl hk
 have hnt : ¬ sl.blk = some t := fun e => by
  obtain ⟨cs', hr'⟩ := own_row h.ol (by decide) e
  exact hr'.ne h.rt (by decide) rfl
 have rt5 := hm5.row h.rt hnt
 obtain ⟨p1, p2⟩ := rt5.put1 (j := 3) (v := .slice s4.a s4.n s4.c) (by simp) rfl
 refine ⟨hm5, p1, fun w6 e6 => ?_⟩
 obtain ⟨q1, q2⟩ := p2 w6 e6
 have hm6 : Mod (slF t sl) w w6 := (hm5.mono fun i _ hi => .inr hi).trans (q2.mono fun i _ hi => .inl hi)
 have h4t : ∀ b, s4.blk = some b → b ≠ t := fun b hb => by
  obtain ⟨cs', hr'⟩ := own_row ho (by decide) hb
  exact hr'.ne rt5 (by decide)
 refine ⟨h.turn hm6 q1 ?_ (fun z hz => ?_) ?_ ?_ (by simp; omega), hm6, fun b hb => ?_⟩
 ·have := q2.ownK ho h4t
  show OwnK 0 tPI 1 w6 s4 ((its ++ [y]).map _)
  rw [List.map_append]; exact this
 ·rcases List.mem_append.1 hz with hz | hz
  ·exact .inl hz
  ·simp at hz; subst hz; exact .inr hy
 ·rw [List.map_append]
  refine List.nodup_append.2 ⟨h.dx, by simp, ?_⟩
  intro a ha b hb e
  simp at hb
  subst hb; subst e
  exact hx ha
 ·rw [List.map_append]
  refine List.nodup_append.2 ⟨h.dg, by simp, ?_⟩
  intro a ha b hb e
  simp at hb
  subst hb; subst e
  exact hg ha
 ·rcases hblk with e | e
  ·exact .inl (by rw [← e]; exact hb)
  ·rw [e] at hb; cases hb; exact .inr (Nat.le_refl _)
theorem out_spec {w : World} {t st d : Nat} {r : Dm} {sl : Sl} {D : Dk} {seed limit : Int} {its : List It} (h : TO w t st d r sl D seed limit its) {i : Nat} {y : It} (hi : its[i]? = some y) :
  Calls Tryz.prog n_table_Table_out #[.pointer (some ⟨t, 0, none⟩), .int .i64 (i : Nat)] w fun e w' => e = .returned (.pointer (some ⟨y.x, 0, none⟩)) ∧ ∃ sl', TO w' t st d r sl' D seed limit (its.eraseIdx i) ∧ Mod (slF t sl) w w' ∧ ∀ b, sl'.blk = some b → sl.blk = some b ∨ w.heap.size ≤ b := by
 apply table_Table_out.vc
 have hn := h.n
 have hlim := h.lim
 have hlen := h.len
 have hil := (List.getElem?_eq_some_iff.1 hi).1
 obtain ⟨a1, a2⟩ := h.at hi
 have hd := h.ext (Ext.dr w)
 have hle := OwnK.le h.ol
 have w1 : IntKind.wrap .i64 ((i : Int) + 1) = ((i + 1 : Nat) : Int) := by rw [wrap_in (by unfold inI; omega)]; omega
 refine ⟨sl, h.rt.at 3 rfl, a1, _, a2, sl, hd.rt.at 3 rfl, by omega, by omega, by omega, by omega, sl, hd.rt.at 3 rfl, ?_⟩
 rw [w1]
 have hcut := hd.ol.cut (by decide) (m := i) (by rw [List.length_map]; omega)
 have hrest := RdK.rest (hd.ol.rd (by decide)) (l := i + 1) (m := sl.c) (n' := sl.n - (i + 1)) (c' := sl.c - (i + 1)) (by rw [List.length_map]; omega) (by rw [List.length_map]; omega)
 have hml : ((ptrs its).drop (i + 1)).length = sl.n - (i + 1) := by rw [List.length_drop, List.length_map]; omega
 have hwd : ∀ q ∈ (ptrs its).drop (i + 1), q.length = 1 ∧ One q := fun q hq => by
  obtain ⟨z, _, rfl⟩ := List.mem_map.1 (List.mem_of_mem_drop hq)
  exact ⟨rfl, one_p _⟩
 obtain ⟨hp, hres⟩ := hcut.appN (bytes := 8) (more := (ptrs its).drop (i + 1)) (Nat.zero_le _) (fun q hq => (hwd q hq).1) (fun q hq => (hwd q hq).2) (by rw [hml]; show (i + _) * 8 ≤ _; omega) (by rw [hml]; show i + _ ≤ _; omega)
 rw [hml] at hp hres
 refine ⟨by omega, by omega, ((ptrs its).drop (i + 1)).flatten, hrest.flat (by decide), hp, fun s5 w6 hr => ?_⟩
 obtain ⟨ho, hn5, hbl, hk, hblk⟩ := hres s5 w6 hr
 have hsb : (Sl.mk (slBase sl.a 0 i 1) i i).blk = sl.blk := by rw [slBase_zero]; rfl
 rw [hsb] at hk hblk
 have hm6 : Mod (fun j => sl.blk = some j) w w6 := (Mod.of_ext (Ext.dr w)).trans (Mod.of_app hbl hk)
 have hnt : ¬ sl.blk = some t := fun e => by
  obtain ⟨cs', hr'⟩ := own_row h.ol (by decide) e
  exact hr'.ne h.rt (by decide) rfl
 have rt6 := hm6.row h.rt hnt
 obtain ⟨p1, p2⟩ := rt6.put1 (j := 3) (v := .slice s5.a s5.n s5.c) (by simp) rfl
 have hld : LoadL w6 (padd (some ⟨t, 0, none⟩) 3) 0 [.slice sl.a sl.n sl.c] := by
  show ld w6 (padd _ 0) = _
  rw [padd_zero]; exact rt6.at 3 rfl
 refine ⟨hld, hld, ⟨rfl, p1⟩, fun w7 e7 => ⟨rfl, s5, ?_⟩⟩
 obtain ⟨q1, q2⟩ := p2 w7 e7
 have hm7 : Mod (slF t sl) w w7 := (hm6.mono fun i _ hi => .inr hi).trans (q2.mono fun i _ hi => .inl hi)
 have h5t : ∀ b, s5.blk = some b → b ≠ t := fun b hb => by
  obtain ⟨cs', hr'⟩ := own_row ho (by decide) hb
  exact hr'.ne rt6 (by decide)
 have hsub : List.Sublist (its.eraseIdx i) its := List.eraseIdx_sublist ..
 refine ⟨h.turn hm7 q1 ?_ (fun z hz => .inl (hsub.subset hz)) (h.dx.sublist (hsub.map _)) (h.dg.sublist (hsub.map _)) ?_, hm7, fun b hb => ?_⟩
 ·have := q2.ownK ho h5t
  show OwnK 0 tPI 1 w7 s5 ((its.eraseIdx i).map _)
  rw [List.eraseIdx_eq_take_drop_succ, List.map_append, List.map_take, List.map_drop]; exact this
 ·have := hsub.length_le; omega
 ·rcases hblk with e | e
  ·exact .inl (by rw [← e]; exact hb)
  ·rw [e] at hb; cases hb; exact .inr (Nat.le_refl _)
theorem erase_not {α : Type} {f : α → Nat} {l : List α} {i : Nat} {y : α} (hd : (l.map f).Nodup) (hi : l[i]? = some y) : f y ∉ (l.eraseIdx i).map f := by
 rw [List.eraseIdx_eq_take_drop_succ, List.map_append]
 have e : l = l.take i ++ y :: l.drop (i + 1) := by
  have := List.take_append_drop i l
  rw [List.drop_eq_getElem_cons (List.getElem?_eq_some_iff.1 hi).1] at this
  rw [← (List.getElem?_eq_some_iff.1 hi).2]
  exact this.symm
 rw [e, List.map_append, List.map_cons] at hd
 obtain ⟨h1, h2, h3⟩ := List.nodup_append.1 hd
 intro hm
 rcases List.mem_append.1 hm with hm | hm
 ·exact h3 _ hm _ (.head _) rfl
 ·exact (List.nodup_cons.1 h2).1 hm
theorem touch_spec {w : World} {t st d : Nat} {r : Dm} {sl : Sl} {D : Dk} {seed limit : Int} {its : List It} (h : TO w t st d r sl D seed limit its) {i : Nat} {y : It} (hi : its[i]? = some y) :
  Calls Tryz.prog n_table_Table_touch #[.pointer (some ⟨t, 0, none⟩), .int .i64 (i : Nat)] w fun e w' => e = .returned (.pointer (some ⟨y.x, 0, none⟩)) ∧ ∃ sl', TO w' t st d r sl' D seed limit (its.eraseIdx i ++ [y]) ∧ Turned (foot t st d r sl its) (foot t st d r sl' (its.eraseIdx i ++ [y])) w w' := by
 apply table_Table_touch.vc
 have hil := (List.getElem?_eq_some_iff.1 hi).1
 have hym : y ∈ its := List.mem_of_getElem? hi
 have hlen := h.len
 refine (out_spec h hi).mono ?_
 rintro e w0 ⟨rfl, sl0, h0, m0, b0⟩
 have hy0 := h.item m0 (h.it y hym)
 refine ⟨_, rfl, sl0, h0.rt.at 3 rfl, fun w3 e3 => ?_⟩
 have x3 : Ext w0 w3 := (Ext.rfl' _).of_alloc e3
 have h3 := h0.ext x3
 have hsub : List.Sublist (its.eraseIdx i) its := List.eraseIdx_sublist ..
 have hel : (its.eraseIdx i).length = its.length - 1 := by rw [List.length_eraseIdx, if_pos hil]
 obtain ⟨hp, hr⟩ := h3.push y (hy0.ext x3) (erase_not h.dx hi) (erase_not h.dg hi) (by omega)
 refine ⟨hp, fun s4 w5 hres => ?_⟩
 obtain ⟨m5, p1, p2⟩ := hr s4 w5 hres
 have ht0 := h0.rt.lt
 have z3 : w3.heap.size = w0.heap.size + 1 := by rw [e3]; simp
 refine ⟨m5.same _ (by omega) fun e => by have := (h0.ol.own.lt e).2; omega, ⟨rfl, p1⟩, fun e => ?_, fun w6 e6 => ⟨rfl, s4, ?_⟩⟩
 ·rw [pblk_padd] at e
  have : t = w0.heap.size := by simpa [pblk] using e
  omega
 ·obtain ⟨q1, q2, q3⟩ := p2 w6 e6
  have z0 := m0.size
  refine ⟨q1, ⟨?_, ?_⟩⟩
  ·have a1 : Mod (foot t st d r sl its) w w3 := (m0.mono fun i _ hi => slF_foot i hi).trans (Mod.of_ext x3)
   refine a1.tr q2 fun j hj => ?_
   rcases hj with e | e
   ·exact .inl (.inl e)
   ·rcases b0 j e with e | e
    ·exact .inl (.inr (.inr (.inr (.inr (.inl e)))))
    ·exact .inr e
  ·refine foot_sub (w := w) (fun b hb => ?_) (fun z hz => .inl ?_)
   ·rcases q3 b hb with e | e
    ·exact b0 b e
    ·exact .inr (by omega)
   ·rcases List.mem_append.1 hz with hz | hz
    ·exact hsub.subset hz
    ·simp at hz; subst hz; exact hym
end Go.Proofs.YtjcnjlaelhdjeaaGreatDoor
namespace Go.Proofs.YtjcnjlaelhdjeaaGreatDoor
open Go Go.Vc Go.RowKit Go.Proofs Go.Chk Go.Runs Go.Code
theorem TO.put {w w' : World} {t st d : Nat} {r : Dm} {sl : Sl} {D : Dk} {seed limit : Int} {its : List It} (h : TO w t st d r sl D seed limit its) {i : Nat} {y y' : It} (hi : its[i]? = some y) (hx : y'.x = y.x) (hg : y'.g = y.g) (hm : Mod (fun j => j = y.x) w w') (hy : ItIs w' y') : TO w' t st d r sl D seed limit (its.set i y') := by
 have hil := (List.getElem?_eq_some_iff.1 hi).1
 have hr := (h.it y (List.mem_of_getElem? hi)).r
 have off : ∀ {j : Nat} {cs : List Value} {τ : TypeId}, Row w j cs τ → τ ≠ tItem → ¬ j = y.x := fun hr' ht e => hr'.ne hr ht e
 have hpx : ptrs (its.set i y') = ptrs its := by
  unfold ptrs
  rw [List.map_set, hx]
  apply List.ext_getElem?
  intro j
  rw [List.getElem?_set]
  split
  ·rename_i e; subst e
   rw [if_pos (by rw [List.length_map]; exact hil), List.getElem?_map, hi]; rfl
  ·rfl
 have hmx : (its.set i y').map (·.x) = its.map (·.x) := by
  rw [List.map_set, hx]
  apply List.ext_getElem?
  intro j
  rw [List.getElem?_set]
  split
  ·rename_i e; subst e
   rw [if_pos (by rw [List.length_map]; exact hil), List.getElem?_map, hi]; rfl
  ·rfl
 have hmg : (its.set i y').map (·.g) = its.map (·.g) := by
  rw [List.map_set, hg]
  apply List.ext_getElem?
  intro j
  rw [List.getElem?_set]
  split
  ·rename_i e; subst e
   rw [if_pos (by rw [List.length_map]; exact hil), List.getElem?_map, hi]; rfl
  ·rfl
 refine ⟨hm.row h.rt (off h.rt (by decide)), h.so.keep hm (fun hr' hτ => by rcases hτ with rfl | rfl | rfl | rfl <;> exact off hr' (by decide)) (fun hmp e => hr.ne_map hmp e.symm), ?_, fun z hz => ?_, by rw [hmx]; exact h.dx, by rw [hmg]; exact h.dg, h.lim, by rw [List.length_set]; exact h.len⟩
 ·rw [hpx]
  exact hm.ownK h.ol fun b hb => by
   obtain ⟨cs', hr'⟩ := own_row h.ol (by decide) hb
   exact off hr' (by decide)
 ·obtain ⟨j, hj⟩ := List.getElem?_of_mem hz
  rw [List.getElem?_set] at hj
  split at hj
  ·cases hj; exact hy
  ·rename_i hne
   have hzj := h.it z (List.mem_of_getElem? hj)
   refine hzj.keep hm (fun e => ?_) (off hzj.k.row (by decide)) (fun b hb => ?_)
   ·
    have h1 : (its.map (·.x))[i]? = some y.x := by rw [List.getElem?_map, hi]; rfl
    have h2 : (its.map (·.x))[j]? = some z.x := by rw [List.getElem?_map, hj]; rfl
    have hjl := (List.getElem?_eq_some_iff.1 hj).1
    rw [e, ← h1] at h2
    exact hne ((List.getElem?_inj (by rw [List.length_map]; exact hjl) h.dx).1 h2).symm
   ·obtain ⟨cs', hr'⟩ := own_row hzj.k.own (by decide) hb
    exact off hr' (by decide)
theorem foot_put {t st d : Nat} {r : Dm} {sl : Sl} {its : List It} {i : Nat} {y y' : It} (hi : its[i]? = some y) (hx : y'.x = y.x) (hg : y'.g = y.g) (hs : y'.s = y.s) : ∀ j, foot t st d r sl (its.set i y') j → foot t st d r sl its j := by
 rintro j (e | e | e | e | e | ⟨z, hz, e⟩)
 ·exact .inl e
 ·exact .inr (.inl e)
 ·exact .inr (.inr (.inl e))
 ·exact .inr (.inr (.inr (.inl e)))
 ·exact .inr (.inr (.inr (.inr (.inl e))))
 ·rcases List.mem_or_eq_of_mem_set hz with hz | hz
  ·exact .inr (.inr (.inr (.inr (.inr ⟨z, hz, e⟩))))
  ·subst hz
   rw [hx, hg, hs] at e
   exact .inr (.inr (.inr (.inr (.inr ⟨y, List.mem_of_getElem? hi, e⟩))))
abbrev En := Po × List Int × Bool × Int
def It.ob (i : It) : En := (i.p, i.C, i.dirty, i.pins)
abbrev obs (its : List It) : List En := its.map It.ob
theorem obs_erase (its : List It) (i : Nat) : obs (its.eraseIdx i) = (obs its).eraseIdx i := by
 unfold obs
 rw [List.eraseIdx_eq_take_drop_succ, List.eraseIdx_eq_take_drop_succ, List.map_append, List.map_take, List.map_drop]
abbrev Tb := Dk × List En
def saveE (D : Dk) (e : En) : Dk × En × Int :=
 if e.2.2.1 = true then ((svS D (idK e.1) (wrB (ofC e.2.1))).1, (e.1, e.2.1, decide ((svS D (idK e.1) (wrB (ofC e.2.1))).2 ≠ 0), e.2.2.2), (svS D (idK e.1) (wrB (ofC e.2.1))).2) else (D, e, 0)
def goE (D : Dk) (l : List En) (i : Nat) : Tb × Int :=
 match l[i]? with
 | none => ((D, l), 0)
 | some e => if (saveE D e).2.2 = 0 then (((saveE D e).1, l.eraseIdx i), 0) else (((saveE D e).1, l.set i (saveE D e).2.1), (saveE D e).2.2)
def roomE (limit : Int) (D : Dk) (l : List En) : Tb × Int :=
 if (l.length : Int) < limit then ((D, l), 0) else if firstI (fun e : En => e.2.2.2 == 0) l < 0 then ((D, l), 8) else goE D l (firstI (fun e : En => e.2.2.2 == 0) l).toNat
theorem TO.dOff {w : World} {t st d : Nat} {r : Dm} {sl : Sl} {D : Dk} {seed limit : Int} {its : List It} (h : TO w t st d r sl D seed limit its) {j : Nat} {cs : List Value} {τ : TypeId} (hr : Row w j cs τ) (h1 : τ ≠ tDisk) (h2 : τ ≠ tW) : ¬ (j = d ∨ r.ls.blk = some j) := by
 rintro (e | e)
 ·exact hr.ne h.so.dk.rd h1 e
 ·obtain ⟨cs', hr'⟩ := own_row h.so.dk.ol (by decide) e
  exact hr.ne hr' h2 rfl
theorem TO.store {w w' : World} {t st d : Nat} {r r' : Dm} {sl : Sl} {D D' : Dk} {seed limit : Int} {its : List It} (h : TO w t st d r sl D seed limit its) (hm : Mod (fun i => i = d ∨ r.ls.blk = some i) w w') (hs : SO w' st d r' D') : TO w' t st d r' sl D' seed limit its := by
 refine ⟨hm.row h.rt (h.dOff h.rt (by decide) (by decide)), hs, hm.ownK h.ol fun b hb => ?_, fun y hy => ?_, h.dx, h.dg, h.lim, h.len⟩
 ·obtain ⟨cs', hr'⟩ := own_row h.ol (by decide) hb
  exact h.dOff hr' (by decide) (by decide)
 ·have hy' := h.it y hy
  refine hy'.keep hm (h.dOff hy'.r (by decide) (by decide)) (h.dOff hy'.k.row (by decide) (by decide)) fun b hb => ?_
  obtain ⟨cs', hr'⟩ := own_row hy'.k.own (by decide) hb
  exact h.dOff hr' (by decide) (by decide)
theorem foot_store {n : Nat} {t st d : Nat} {r r' : Dm} {sl : Sl} {its : List It} (hs : ∀ i, dF d r' i → dF d r i ∨ n ≤ i) : ∀ i, foot t st d r' sl its i → foot t st d r sl its i ∨ n ≤ i := by
 rintro i (e | e | e | e | e | e)
 ·exact .inl (.inl e)
 ·exact .inl (.inr (.inl e))
 ·exact .inl (.inr (.inr (.inl e)))
 ·rcases hs i (.inr e) with q | q
  ·rcases q with q | q
   ·exact .inl (.inr (.inr (.inl q)))
   ·exact .inl (.inr (.inr (.inr (.inl q))))
  ·exact .inr q
 ·exact .inl (.inr (.inr (.inr (.inr (.inl e)))))
 ·exact .inl (.inr (.inr (.inr (.inr (.inr e)))))
theorem dF_foot {t st d : Nat} {r : Dm} {sl : Sl} {its : List It} : ∀ i, (i = d ∨ r.ls.blk = some i) → foot t st d r sl its i := by
 rintro i (e | e)
 ·exact .inr (.inr (.inl e))
 ·exact .inr (.inr (.inr (.inl (.inr (.inl e)))))
theorem wrB_bys {C : List Int} : Bys (wrB (ofC C)) := wrB_in _
theorem wrB_le {C : List Int} (hl : C.length = 8192) : (wrB (ofC C)).length ≤ 65536 := by
 have h1 := wrB_len (ofC C)
 have h2 := ofC_len C
 omega
set_option maxRecDepth 100000 in
theorem save_spec {w : World} {t st d : Nat} {r : Dm} {sl : Sl} {D : Dk} {seed limit : Int} {its : List It} (h : TO w t st d r sl D seed limit its) (hW : D.l.length ≤ 1000000) {i : Nat} {y : It} (hi : its[i]? = some y) :
  Calls Tryz.prog n_table_Table_save #[.pointer (some ⟨t, 0, none⟩), .pointer (some ⟨y.x, 0, none⟩)] w fun e w' => e = .returned (.int .i64 (saveE D y.ob).2.2) ∧ ∃ r' y', TO w' t st d r' sl (saveE D y.ob).1 seed limit (its.set i y') ∧ y'.ob = (saveE D y.ob).2.1 ∧ Turned (foot t st d r sl its) (foot t st d r' sl (its.set i y')) w w' := by
 apply table_Table_save.vc
 have hym := List.mem_of_getElem? hi
 have hy := h.it y hym
 have hset : its.set i y = its := by
  obtain ⟨hl, he⟩ := List.getElem?_eq_some_iff.1 hi
  rw [← he]; exact List.set_getElem_self hl
 refine ⟨_, hy.r.at 1 rfl, Br.mk (fun hb => ?_) (fun hb => ?_)⟩
 ·have hd : y.dirty = false := by simpa using hb
  have e : saveE D y.ob = (D, y.ob, 0) := by unfold saveE; rw [if_neg (by show ¬ y.dirty = true; rw [hd]; decide)]
  rw [e]
  exact ⟨rfl, r, y, by rw [hset]; exact h, rfl, by rw [hset]; exact Turned.refl _ _⟩
 ·have hd : y.dirty = true := by simpa using hb
  have e : saveE D y.ob = ((svS D (idK y.p) (wrB (ofC y.C))).1, (y.p, y.C, decide ((svS D (idK y.p) (wrB (ofC y.C))).2 ≠ 0), y.pins), (svS D (idK y.p) (wrB (ofC y.C))).2) := by unfold saveE; rw [if_pos (by show y.dirty = true; exact hd)]; rfl
  rw [e]
  refine ⟨_, hy.r.at 0 rfl, nnS (nnS ⟨_, _, hy.k.pos, (Place_spec y.p w).mono ?_⟩)⟩
  rintro e w4 ⟨rfl, x4⟩
  refine ⟨_, _, rfl, (Id_spec y.p w4).mono ?_⟩
  rintro e w7 ⟨rfl, x7⟩
  have x07 := (x4.tr x7).tr (Ext.dr w7)
  have h7 := h.ext x07
  have hy7 := h7.it y hym
  refine ⟨_, _, rfl, _, h7.rt.at 0 rfl, _, hy7.r.at 0 rfl, (Bytes_spec hy7.k).mono ?_⟩
  rintro e w12 ⟨s13, rfl, o13, x12⟩
  have x012 := x07.tr x12
  have h12 := h.ext x012
  have hk := hy.k
  refine ⟨s13, rfl, ldOne (h12.rt.at 0 rfl), (stSave_spec h12.so hW (idK y.p) s13 (wrB (ofC y.C)) (OwY.rdy o13) wrB_bys (Nat.le_trans (wrB_le hk.len) (by decide))).mono ?_⟩
  rintro e w14 ⟨rfl, r', hs14, m14, f14, -⟩
  have h14 := h12.store m14 hs14
  have hy14 := h14.it y hym
  obtain ⟨p1, p2⟩ := hy14.r.put1 (j := 1) (v := .bool ((svS D (idK y.p) (wrB (ofC y.C))).2 != 0)) (by simp) rfl
  refine ⟨_, rfl, ⟨rfl, p1⟩, fun w16 e16 => ?_⟩
  obtain ⟨q1, q2⟩ := p2 w16 e16
  have hbd : ((svS D (idK y.p) (wrB (ofC y.C))).2 != 0) = decide ((svS D (idK y.p) (wrB (ofC y.C))).2 ≠ 0) := by
   rw [Bool.eq_iff_iff]; simp
  rw [hbd] at q1
  have hy' : ItIs w16 { y with dirty := decide ((svS D (idK y.p) (wrB (ofC y.C))).2 ≠ 0) } := ⟨q1, hy14.k.keep q2 (fun e => hy14.k.row.ne hy14.r (by decide) e) fun b hb => by
   obtain ⟨cs', hr'⟩ := own_row hy14.k.own (by decide) hb
   exact hr'.ne hy14.r (by decide)⟩
  have z12 := x012.size
  have z14 := m14.size
  refine ⟨rfl, r', { y with dirty := decide ((svS D (idK y.p) (wrB (ofC y.C))).2 ≠ 0) }, h14.put hi rfl rfl q2 hy', rfl, ?_⟩
  have t1 : Turned (foot t st d r sl its) (foot t st d r' sl its) w12 w14 := ⟨m14.mono fun i _ hi => dF_foot i hi, foot_store f14⟩
  have t2 : Turned (foot t st d r' sl its) (foot t st d r' sl (its.set i { y with dirty := decide ((svS D (idK y.p) (wrB (ofC y.C))).2 ≠ 0) })) w14 w16 := ⟨q2.mono fun j _ hj => .inr (.inr (.inr (.inr (.inr ⟨y, hym, .inl hj⟩)))), fun j hj => .inl (foot_put (y' := { y with dirty := decide ((svS D (idK y.p) (wrB (ofC y.C))).2 ≠ 0) }) hi rfl rfl rfl j hj)⟩
  exact (Turned.of_ext x012).trans (t1.trans t2)
end Go.Proofs.YtjcnjlaelhdjeaaGreatDoor
namespace Go.Proofs.YtjcnjlaelhdjeaaGreatDoor
open Go Go.Vc Go.RowKit Go.Proofs Go.Chk Go.Runs Go.Code
abbrev LdRes (w : World) (t st d : Nat) (r : Dm) (sl : Sl) (seed limit : Int) (its : List It) (T : Tb) (w' : World) : Prop :=
 ∃ r' sl' its', TO w' t st d r' sl' T.1 seed limit its' ∧ obs its' = T.2 ∧ Turned (foot t st d r sl its) (foot t st d r' sl' its') w w'
theorem obs_at {its : List It} {i : Nat} {y : It} (h : its[i]? = some y) : (obs its)[i]? = some y.ob := by rw [List.getElem?_map, h]; rfl
theorem obs_put {its : List It} {i : Nat} {y' : It} {e : En} (h : y'.ob = e) : obs (its.set i y') = (obs its).set i e := by unfold obs; rw [List.map_set, h]
theorem goE_at {D : Dk} {l : List En} {i : Nat} {e : En} (h : l[i]? = some e) : goE D l i = if (saveE D e).2.2 = 0 then (((saveE D e).1, l.eraseIdx i), 0) else (((saveE D e).1, l.set i (saveE D e).2.1), (saveE D e).2.2) := by unfold goE; rw [h]
theorem out_turn {w w' : World} {t st d : Nat} {r : Dm} {sl sl' : Sl} {its its' : List It} (hm : Mod (slF t sl) w w') (hb : ∀ b, sl'.blk = some b → sl.blk = some b ∨ w.heap.size ≤ b) (hs : ∀ y ∈ its', y ∈ its) : Turned (foot t st d r sl its) (foot t st d r sl' its') w w' :=
 ⟨hm.mono fun i _ hi => slF_foot i hi, foot_sub hb fun y hy => .inl (hs y hy)⟩
set_option maxRecDepth 100000 in
theorem room_spec {w : World} {t st d : Nat} {r : Dm} {sl : Sl} {D : Dk} {seed limit : Int} {its : List It} (h : TO w t st d r sl D seed limit its) (hW : D.l.length ≤ 1000000) :
  Calls Tryz.prog n_table_Table_room #[.pointer (some ⟨t, 0, none⟩)] w fun e w' => e = .returned (.int .i64 (roomE limit D (obs its)).2) ∧ LdRes w t st d r sl seed limit its (roomE limit D (obs its)).1 w' ∧ ((roomE limit D (obs its)).2 = 0 → ((roomE limit D (obs its)).1.2.length : Int) + 1 ≤ limit) := by
 apply table_Table_room.vc
 have hd := h.ext (Ext.dr w)
 have hn := h.n
 have hol : (obs its).length = its.length := by rw [List.length_map]
 have hlen := h.len
 have hlim := h.lim
 refine ⟨sl, hd.rt.at 3 rfl, limit, hd.rt.at 2 rfl, Br.mk (fun hb => ?_) (fun hb => ?_)⟩
 ·simp only [decide_eq_true_eq] at hb
  have e : roomE limit D (obs its) = ((D, obs its), 0) := by unfold roomE; rw [if_pos (by omega)]
  rw [e]
  exact ⟨rfl, ⟨r, sl, its, hd, rfl, Turned.of_ext (Ext.dr w)⟩, fun _ => by simp only; omega⟩
 ·simp only [decide_eq_false_iff_not] at hb
  refine ⟨sl, hd.rt.at 3 rfl, (indexFunc_spec sl its (·.x) _ (fun i => i.pins == 0) w.drew (hd.ol.rd (by decide)) (by omega) ?_).mono ?_⟩
  ·intro y hy w' x'
   refine callV_of (by kernel_rfl) (by rfl) ?_
   apply table_Table_room_1.vc
   have hy' := (hd.it y hy).ext x'
   exact ⟨_, hy'.r.at 2 rfl, rfl, Ext.rfl' _⟩
  ·rintro e w3 ⟨rfl, x3⟩
   have h3 := hd.ext x3
   have hfm : firstI (fun e : En => e.2.2.2 == 0) (obs its) = firstI (fun i : It => i.pins == 0) its := firstI_map It.ob _ its
   have x03 : Ext w w3 := (Ext.dr w).tr x3
   refine ⟨_, rfl, Br.mk (fun hb2 => ?_) (fun hb2 => ?_)⟩
   ·simp only [decide_eq_true_eq] at hb2
    have e : roomE limit D (obs its) = ((D, obs its), 8) := by unfold roomE; rw [if_neg (by omega), if_pos (by omega)]
    rw [e]
    exact ⟨rfl, ⟨r, sl, its, h3, rfl, Turned.of_ext x03⟩, fun h => by simp at h⟩
   ·simp only [decide_eq_false_iff_not] at hb2
    rcases firstI_cases (fun i : It => i.pins == 0) its with ⟨h1, -⟩ | ⟨k, y, hk, -, hfk, -⟩
    ·omega
    ·have e : roomE limit D (obs its) = goE D (obs its) k := by
      unfold roomE
      rw [if_neg (by omega), if_neg (by omega), hfm, hfk]; rfl
     rw [hfk, e, goE_at (obs_at hk)]
     obtain ⟨a1, a2⟩ := h3.at hk
     have hkl := (List.getElem?_eq_some_iff.1 hk).1
     refine ⟨sl, h3.rt.at 3 rfl, a1, _, a2, (save_spec h3 hW hk).mono ?_⟩
     rintro e w7 ⟨rfl, r', y', h7, hob, t7⟩
     refine ⟨_, rfl, Br.mk (fun hz => ?_) (fun hz => ?_)⟩
     ·have hz : (saveE D y.ob).2.2 = 0 := by simpa using hz
      have hk' : (its.set k y')[k]? = some y' := List.getElem?_set_self hkl
      refine (out_spec h7 hk').mono ?_
      rintro e w9 ⟨rfl, sl', h9, m9, b9⟩
      rw [List.eraseIdx_set_eq] at h9
      refine ⟨_, rfl, ?_⟩
      rw [if_pos hz]
      refine ⟨by rw [hz], ⟨r', sl', _, h9, obs_erase _ _, (Turned.of_ext x03).trans (t7.trans (out_turn m9 b9 fun z hz => ?_))⟩, fun _ => ?_⟩
      ·rw [← List.eraseIdx_set_eq (l := its) (i := k) (a := y')] at hz
       exact (List.eraseIdx_sublist ..).subset hz
      ·simp only [List.length_eraseIdx]; split <;> omega
     ·have hz : (saveE D y.ob).2.2 ≠ 0 := by simpa using hz
      rw [if_neg hz]
      exact ⟨rfl, ⟨r', sl, _, h7, obs_put hob, (Turned.of_ext x03).trans t7⟩, fun q => absurd q hz⟩
theorem saveE_l (D : Dk) (e : En) : (saveE D e).1.l.length ≤ D.l.length + 1 := by
 unfold saveE
 split
 ·exact save_l _ _ _
 ·exact Nat.le_succ _
theorem goE_l (D : Dk) (l : List En) (i : Nat) : (goE D l i).1.1.l.length ≤ D.l.length + 1 := by
 unfold goE
 split
 ·exact Nat.le_succ _
 ·split <;> exact saveE_l _ _
theorem roomE_l (limit : Int) (D : Dk) (l : List En) : (roomE limit D l).1.1.l.length ≤ D.l.length + 1 := by
 unfold roomE
 split
 ·exact Nat.le_succ _
 ·split
  ·exact Nat.le_succ _
  ·exact goE_l _ _ _
theorem inT_okP {p : Po} (h : inT p) : okP p := by unfold inT at h; unfold okP; omega
def cellsB (seed : Int) (p : Po) (b : List Int) : List Int := if (readB bMay b 8192).2 = 0 then cellsR (readB bMay b 8192).1 else made seed p
def ldE (seed limit : Int) (D : Dk) (l : List En) (p : Po) : Tb × Int :=
 if ¬ inT p then ((D, l), 5)
 else if 0 ≤ firstI (fun e : En => e.1 == p) l then ((D, l.eraseIdx (firstI (fun e : En => e.1 == p) l).toNat ++ l[(firstI (fun e : En => e.1 == p) l).toNat]?.toList), 0)
 else if (roomE limit D l).2 ≠ 0 then roomE limit D l
 else (((roomE limit D l).1.1, (roomE limit D l).1.2 ++ [(p, cellsB seed p (ldS (roomE limit D l).1.1 (idK p)).1, false, 0)]), 0)
set_option maxRecDepth 100000 in
theorem push_new {w v : World} {t st d : Nat} {r : Dm} {sl : Sl} {D : Dk} {seed limit : Int} {its : List It} (h : TO v t st d r sl D seed limit its) (hw : w.heap.size < v.heap.size) (hwf : ¬ foot t st d r sl its w.heap.size) (htw : t < w.heap.size) (hr : (its.length : Int) + 1 ≤ limit) {g : Nat} {s : Sl} {p : Po} {C : List Int} (hk : KIs v g s p C) (hg : g ∉ its.map (·.g)) (u : World) (hn : u.heap.size ≤ v.heap.size) (hgn : u.heap.size ≤ g) (hsn : ∀ b, s.blk = some b → u.heap.size ≤ b)
  {K : World → Prop} (hK : ∀ w', (∃ s' y, TO w' t st d r s' D seed limit (its ++ [y]) ∧ y.ob = (p, C, false, 0) ∧ (∀ i, foot t st d r s' (its ++ [y]) i → foot t st d r sl its i ∨ u.heap.size ≤ i) ∧ Mod (foot t st d r sl its) v w') → K w') :
  ∃ (s21 : Sl), ld v (padd (some ⟨t, 0, none⟩) 3) = some (.slice s21.a s21.n s21.c) ∧
   ∀ w22 : World, w22 = v.alloc (.cells #[.pointer (some ⟨g, 0, none⟩), .bool false, .int .i64 0] tItem) →
   ∀ w23 : World, w23 = w22.alloc (.cells #[.pointer (some ⟨v.heap.size, 0, none⟩)] tPI) →
   AppPre 8 1 w23 ⟨s21.a, s21.n, s21.c⟩ 1 [.pointer (some ⟨v.heap.size, 0, none⟩)] ∧ ∀ (s24 : Sl) (w25 : World), AppRes tPI 1 w23 ⟨s21.a, s21.n, s21.c⟩ 1 [.pointer (some ⟨v.heap.size, 0, none⟩)] s24 w25 → w25.heap[w.heap.size]? = w23.heap[w.heap.size]? ∧ w25.heap[w22.heap.size]? = w23.heap[w22.heap.size]? ∧
    (true = true ∧ Wr w25 (padd (some ⟨t, 0, none⟩) 3) 1) ∧ pblk (padd (some ⟨t, 0, none⟩) 3) ≠ some w.heap.size ∧ pblk (padd (some ⟨t, 0, none⟩) 3) ≠ some w22.heap.size ∧ (∀ w26 : World, w26 = setP w25 (padd (some ⟨t, 0, none⟩) 3) [.slice s24.a s24.n s24.c] → K w26) := by
 refine ⟨sl, h.rt.at 3 rfl, fun w22 e22 w23 e23 => ?_⟩
 have x22 : Ext v w22 := (Ext.rfl' _).of_alloc e22
 have x23 : Ext w22 w23 := (Ext.rfl' _).of_alloc e23
 have z22 : w22.heap.size = v.heap.size + 1 := by rw [e22]; simp
 have z23 : w23.heap.size = v.heap.size + 2 := by rw [e23]; simp [z22]
 have hy : ItIs w23 ⟨v.heap.size, g, s, p, C, false, 0⟩ := ⟨(by rw [e22]; exact Row.new v [_, _, _] _ : Row w22 v.heap.size [.pointer (some ⟨g, 0, none⟩), .bool false, .int .i64 0] tItem).ext x23, (hk.ext x22).ext x23⟩
 have h23 := (h.ext x22).ext x23
 have hxn : v.heap.size ∉ its.map (·.x) := fun hm => by
  obtain ⟨z, hz, e⟩ := List.mem_map.1 hm
  have := (h.it z hz).r.lt; omega
 obtain ⟨hp, hres⟩ := h23.push _ hy hxn hg hr
 refine ⟨hp, fun s24 w25 hr25 => ?_⟩
 obtain ⟨m25, p1, p2⟩ := hres s24 w25 hr25
 have pb : ∀ j : Nat, t < j → pblk (padd (some ⟨t, 0, none⟩) 3) ≠ some j := fun j hj e => by
  rw [pblk_padd] at e
  have : t = j := by simpa [pblk] using e
  omega
 have htl := h.rt.lt
 refine ⟨m25.same _ (by omega) fun e => hwf (.inr (.inr (.inr (.inr (.inl e))))), m25.same _ (by omega) fun e => by have := (h.ol.own.lt e).2; omega, ⟨rfl, p1⟩, pb _ htw, pb _ (by omega), fun w26 e26 => hK w26 ⟨s24, ⟨v.heap.size, g, s, p, C, false, 0⟩, ?_, rfl, ?_, ?_⟩⟩
 ·exact (p2 w26 e26).1
 ·obtain ⟨-, q2, q3⟩ := p2 w26 e26
  rintro i hi
  exact foot_sub (w := u) (sl := sl) (its := its) (fun b hb => (q3 b hb).imp id fun e => by omega) (fun z hz => by
   rcases List.mem_append.1 hz with hz | hz
   ·exact .inl hz
   ·simp at hz; subst hz
    exact .inr ⟨hn, hgn, hsn⟩) i hi
 ·obtain ⟨-, q2, q3⟩ := p2 w26 e26
  exact (Mod.of_ext (x22.tr x23)).trans (q2.mono fun i _ hi => slF_foot i hi)
set_option maxRecDepth 100000 in
theorem Load_spec {w : World} {t st d : Nat} {r : Dm} {sl : Sl} {D : Dk} {seed limit : Int} {its : List It} (h : TO w t st d r sl D seed limit its) (hW : D.l.length ≤ 1000000) (p : Po) :
  Calls Tryz.prog n_table_Table_Load #[.pointer (some ⟨t, 0, none⟩), pv p] w fun e w' => e = .returned (.int .i64 (ldE seed limit D (obs its) p).2) ∧ LdRes w t st d r sl seed limit its (ldE seed limit D (obs its) p).1 w' := by
 apply table_Table_Load.vc
 intro w0 e0
 have z0 : w0.heap.size = w.heap.size + 1 := by rw [e0]; simp
 have x0 : Ext w w0 := (Ext.rfl' w).of_alloc e0
 clear e0
 refine (Id_spec p w0).mono ?_
 rintro e w1 ⟨rfl, x1⟩
 have z1 := x1.size
 have x01 := x0.tr x1
 refine ⟨_, _, rfl, x1.heap (by omega), ?_⟩
 by_cases hin : inT p
 ·rw [decide_eq_true hin]
  refine Br.mk (fun h => by cases h) (fun _ => ?_)
  have h1 := h.ext x01
  refine (find_spec h1 p).mono ?_
  rintro e w4 ⟨rfl, x4⟩
  have z4 := x4.size
  have x04 := x01.tr x4
  have h4 := h.ext x04
  have hfm : firstI (fun e : En => e.1 == p) (obs its) = firstI (fun i : It => i.p == p) its := firstI_map It.ob _ its
  have bx : ¬ foot t st d r sl its w.heap.size := fun hf => by have := h.lt hf; omega
  refine ⟨_, rfl, x4.heap (by omega), ?_⟩
  rcases firstI_cases (fun i : It => i.p == p) its with ⟨hf, -⟩ | ⟨k, y, hk, -, hf, -⟩
  ·rw [hf]
   refine Br.mk (fun h => by simp at h) (fun _ => ?_)
   have hE : ldE seed limit D (obs its) p = if (roomE limit D (obs its)).2 ≠ 0 then roomE limit D (obs its) else (((roomE limit D (obs its)).1.1, (roomE limit D (obs its)).1.2 ++ [(p, cellsB seed p (ldS (roomE limit D (obs its)).1.1 (idK p)).1, false, 0)]), 0) := by
    unfold ldE
    rw [if_neg (by simpa using hin), hfm, hf, if_neg (by decide)]
   rw [hE]
   refine (room_spec h4 hW).mono ?_
   rintro e w8 ⟨rfl, ⟨r8, sl8, its8, h8, ho8, t8⟩, hl8⟩
   have hWl : ((roomE limit D (obs its)).1.1).l.length ≤ 1000001 := by
    have := roomE_l limit D (obs its)
    omega
   generalize roomE limit D (obs its) = R at *
   have z8 := t8.mod.size
   have t08 : Turned (foot t st d r sl its) (foot t st d r8 sl8 its8) w w8 := (Turned.of_ext x04).trans t8
   refine ⟨_, rfl, t8.mod.same _ (by omega) bx, Br.mk (fun hb => ?_) (fun hb => ?_)⟩
   ·have hne : R.2 ≠ 0 := by simpa using hb
    rw [if_pos hne]
    exact ⟨rfl, r8, sl8, its8, h8, ho8, t08⟩
   ·have he : R.2 = 0 := by simpa using hb
    rw [if_neg (by rw [he]; decide)]
    have hroom := hl8 he
    rw [← ho8, List.length_map] at hroom
    refine ⟨_, h8.rt.at 0 rfl, (stLoad_spec h8.so (by omega) _).mono ?_⟩
    rintro e w11 ⟨s12, rfl, hs12, hby, hbl, hsc, -, x11⟩
    have z11 := x11.size
    have bx8 : ¬ foot t st d r8 sl8 its8 w.heap.size := fun hf => by
     rcases t8.sub _ hf with q | q
     ·exact bx q
     ·have := x04.size; omega
    refine ⟨s12, _, _, rfl, x11.heap (by omega), ?_⟩
    refine (Read_spec p s12 (ldS R.1.1 (idK p)).1 w11 hs12 hby hsc (by omega)).mono ?_
    rintro e w15 ⟨hres, x15⟩
    have z15 := x15.size
    have htw := h.rt.lt
    have fin : ∀ {w' v : World} {C : List Int}, Ext w8 v → (∃ s' y, TO w' t st d r8 s' R.1.1 seed limit (its8 ++ [y]) ∧ y.ob = (p, C, false, 0) ∧ (∀ i, foot t st d r8 s' (its8 ++ [y]) i → foot t st d r8 sl8 its8 i ∨ w8.heap.size ≤ i) ∧ Mod (foot t st d r8 sl8 its8) v w') → C = cellsB seed p (ldS R.1.1 (idK p)).1 →
      Ending.returned (.int .i64 0) = .returned (.int .i64 0) ∧ LdRes w t st d r sl seed limit its (R.1.1, R.1.2 ++ [(p, cellsB seed p (ldS R.1.1 (idK p)).1, false, 0)]) w' := by
     rintro w' v C xv ⟨s', y, hT, hob, hsub, hm⟩ rfl
     refine ⟨rfl, r8, s', _, hT, ?_, t08.trans ⟨(Mod.of_ext xv).trans hm, hsub⟩⟩
     unfold obs
     rw [List.map_append]
     change obs its8 ++ [y.ob] = _
     rw [ho8, hob]
    rcases hres with ⟨hz, g, sg, rfl, hk, hg, -, hgb⟩ | ⟨hz, rfl⟩
    ·refine ⟨_, _, rfl, x15.heap (by omega), Br.mk (fun q => by simp at q) (fun _ => ?_)⟩
     have x815 := x11.tr x15
     have h15 := h8.ext x815
     have hgn : g ∉ its8.map (·.g) := fun hm => by
      obtain ⟨z, hz, e⟩ := List.mem_map.1 hm
      have := (h8.it z hz).k.row.lt; omega
     refine push_new (w := w) h15 (by omega) bx8 htw hroom hk hgn w8 (by omega) (by omega) (fun b hb => by have := hgb b hb; omega) fun w' hw' => fin x815 hw' ?_
     unfold cellsB; rw [if_pos hz]
    ·refine ⟨_, _, rfl, x15.heap (by omega), Br.mk (fun _ => ?_) (fun q => by simp at q; exact absurd q hz)⟩
     have x815 := x11.tr x15.drew
     have h15 := h8.ext x815
     refine ⟨seed, h15.rt.at 1 rfl, (Make_spec' seed p (inT_okP hin) w15.drew).mono ?_⟩
     rintro e w19 ⟨g, sg, rfl, hk, x19, hg, hsb⟩
     have z19 := x19.size
     have zd : w15.drew.heap.size = w15.heap.size := rfl
     have h19 := h15.ext x19
     have hgn : g ∉ its8.map (·.g) := fun hm => by
      obtain ⟨z, hz, e⟩ := List.mem_map.1 hm
      have := (h15.it z hz).k.row.lt; omega
     refine ⟨_, rfl, x19.heap (by omega), push_new (w := w) h19 (by omega) bx8 htw hroom hk hgn w8 (by omega) (by omega) (fun b hb => by have := hsb b hb; omega) fun w' hw' => fin (x815.tr x19) hw' ?_⟩
     unfold cellsB; rw [if_neg hz]
  ·rw [hf]
   refine Br.mk (fun _ => ?_) (fun h => by simp at h)
   have hE : ldE seed limit D (obs its) p = ((D, (obs its).eraseIdx k ++ [y.ob]), 0) := by
    unfold ldE
    rw [if_neg (by simpa using hin), hfm, hf, if_pos (by omega), Int.toNat_natCast, List.getElem?_map, hk]; rfl
   rw [hE]
   refine (touch_spec h4 hk).mono ?_
   rintro e w6 ⟨rfl, sl6, h6, t6⟩
   have z6 := t6.mod.size
   refine ⟨_, rfl, t6.mod.same _ (by omega) bx, rfl, r, sl6, _, h6, ?_, (Turned.of_ext x04).trans t6⟩
   unfold obs
   rw [List.map_append]
   change obs _ ++ _ = _
   rw [obs_erase]; rfl
 ·rw [decide_eq_false hin]
  refine Br.mk (fun _ => ?_) (fun h => by cases h)
  have hE : ldE seed limit D (obs its) p = ((D, obs its), 5) := by unfold ldE; rw [if_pos hin]
  rw [hE]
  exact ⟨rfl, r, sl, its, h.ext x01, rfl, Turned.of_ext x01⟩
end Go.Proofs.YtjcnjlaelhdjeaaGreatDoor
namespace Go.Proofs.YtjcnjlaelhdjeaaGreatDoor
open Go Go.Vc Go.RowKit Go.Proofs Go.Chk Go.Runs Go.Code
theorem yes {b : Bool} {A B : Prop} (hb : b = true) (h : A) : Br b A B := by subst hb; exact h
theorem nope {b : Bool} {A B : Prop} (hb : b = false) (h : B) : Br b A B := by subst hb; exact h
theorem Here_spec {w : World} {t st d : Nat} {r : Dm} {sl : Sl} {D : Dk} {seed limit : Int} {its : List It} (h : TO w t st d r sl D seed limit its) :
  Calls Tryz.prog n_table_Table_Here #[.pointer (some ⟨t, 0, none⟩)] w fun e w' => ∃ s' : Sl, e = .returned (.slice s'.a s'.n s'.c) ∧ OwnK w.heap.size tPo 2 w' s' ((obs its).map fun e => [.int .i64 e.1.1, .int .i64 e.1.2]) ∧ Ext w w' := by
 apply table_Table_Here.vc
 have hn := h.n
 have hlen := h.len
 have hlim := h.lim
 refine ⟨sl, h.rt.at 3 rfl, fun n i so wr => ∃ k : Nat, i = k ∧ k + n = its.length ∧ Ext w wr ∧ OwnK w.heap.size tPo 2 wr so (((obs its).take k).map fun e => [.int .i64 e.1.1, .int .i64 e.1.2]), ⟨its.length, 0, rfl, by omega, Ext.rfl' _, OwnK.nil⟩, ?_⟩
 rintro n us i so wr ⟨k, rfl, hk, xr, ho⟩
 have hwk : IntKind.wrap .i64 ((k : Int) + 1) = ((k + 1 : Nat) : Int) := by rw [wrap_in (by unfold inI; omega)]; omega
 have hol : (obs its).length = its.length := by rw [List.length_map]
 refine Br.mk (fun hc => ?_) (fun hc => ?_)
 ·simp only [decide_eq_true_eq] at hc
  obtain ⟨y, hy⟩ := get_lt (l := its) (i := k) (by omega)
  have hr := h.ext xr
  obtain ⟨a1, a2⟩ := hr.at hy
  have hyr := hr.it y (List.mem_of_getElem? hy)
  refine ⟨a1, _, a2, nnS (nnS ⟨_, hyr.r.at 0 rfl, nnS (nnS ⟨_, _, hyr.k.pos, (Place_spec y.p wr).mono ?_⟩)⟩)⟩
  rintro e w12 ⟨rfl, x12⟩
  refine ⟨_, _, rfl, fun w15 e15 => ?_⟩
  have x15 : Ext w12 w15 := (Ext.rfl' _).of_alloc e15
  have z12 := x12.size
  have zr := xr.size
  have z15 : w15.heap.size = w12.heap.size + 1 := by rw [e15]; simp
  have ho15 := (ho.ext x12).ext x15
  have hso := (ho.rd (show 0 < 2 by decide)).n
  rw [List.length_map, List.length_take] at hso
  obtain ⟨hp, hres⟩ := ho15.append (bytes := 16) (news := [.int .i64 y.p.1, .int .i64 y.p.2]) (by omega) rfl (one_ii _ _ _ _) (by omega) (by omega)
  refine ⟨hp, fun s16 w17 hr17 => ?_⟩
  obtain ⟨ho17, hn17, xb, hkp, -⟩ := hres s16 w17 hr17
  refine ⟨hkp _ (fun e => by have := (ho.own.lt e).2; omega) (by omega), n - 1, by omega, k + 1, hwk, by omega, (xr.tr (x12.tr x15)).trans xb, ?_⟩
  have : (obs its).take (k + 1) = (obs its).take k ++ [y.ob] := by rw [List.take_add_one, List.getElem?_map, hy]; rfl
  rw [this, List.map_append]
  exact ho17
 ·simp only [decide_eq_false_iff_not] at hc
  rw [List.take_of_length_le (by omega)] at ho
  exact ⟨so, rfl, ho, xr⟩
theorem loadL1 {w : World} {p : Option Addr} {v : Value} (h : ld w p = some v) : LoadL w p 0 [v] := by
 show ld w (padd p 0) = _
 rw [padd_zero]; exact h
theorem TO.put2 {w w' : World} {t st d : Nat} {r : Dm} {sl : Sl} {D : Dk} {seed limit : Int} {its : List It} (h : TO w t st d r sl D seed limit its) {i : Nat} {y y' : It} (hi : its[i]? = some y) (hx : y'.x = y.x) (hg : y'.g = y.g) (hm : Mod (fun j => j = y.x ∨ j = y.g) w w') (hy : ItIs w' y') : TO w' t st d r sl D seed limit (its.set i y') := by
 have hil := (List.getElem?_eq_some_iff.1 hi).1
 have hr := (h.it y (List.mem_of_getElem? hi)).r
 have hrg := (h.it y (List.mem_of_getElem? hi)).k.row
 have off : ∀ {j : Nat} {cs : List Value} {τ : TypeId}, Row w j cs τ → τ ≠ tItem → τ ≠ tChunk → ¬ (j = y.x ∨ j = y.g) := fun hr' ht hc e => by
  rcases e with e | e
  ·exact hr'.ne hr ht e
  ·exact hr'.ne hrg hc e
 have hpx : ptrs (its.set i y') = ptrs its := by
  unfold ptrs
  rw [List.map_set, hx]
  apply List.ext_getElem?
  intro j
  rw [List.getElem?_set]
  split
  ·rename_i e; subst e
   rw [if_pos (by rw [List.length_map]; exact hil), List.getElem?_map, hi]; rfl
  ·rfl
 have hmx : (its.set i y').map (·.x) = its.map (·.x) := by
  rw [List.map_set, hx]
  apply List.ext_getElem?
  intro j
  rw [List.getElem?_set]
  split
  ·rename_i e; subst e
   rw [if_pos (by rw [List.length_map]; exact hil), List.getElem?_map, hi]; rfl
  ·rfl
 have hmg : (its.set i y').map (·.g) = its.map (·.g) := by
  rw [List.map_set, hg]
  apply List.ext_getElem?
  intro j
  rw [List.getElem?_set]
  split
  ·rename_i e; subst e
   rw [if_pos (by rw [List.length_map]; exact hil), List.getElem?_map, hi]; rfl
  ·rfl
 refine ⟨hm.row h.rt (off h.rt (by decide) (by decide)), h.so.keep hm (fun hr' hτ => by rcases hτ with rfl | rfl | rfl | rfl <;> exact off hr' (by decide) (by decide)) (fun hmp e => by
   rcases e with e | e
   ·exact hr.ne_map hmp e.symm
   ·exact hrg.ne_map hmp e.symm), ?_, fun z hz => ?_, by rw [hmx]; exact h.dx, by rw [hmg]; exact h.dg, h.lim, by rw [List.length_set]; exact h.len⟩
 ·rw [hpx]
  exact hm.ownK h.ol fun b hb => by
   obtain ⟨cs', hr'⟩ := own_row h.ol (by decide) hb
   exact off hr' (by decide) (by decide)
 ·obtain ⟨j, hj⟩ := List.getElem?_of_mem hz
  rw [List.getElem?_set] at hj
  split at hj
  ·cases hj; exact hy
  ·rename_i hne
   have hzj := h.it z (List.mem_of_getElem? hj)
   have hjl := (List.getElem?_eq_some_iff.1 hj).1
   refine hzj.keep hm ?_ ?_ (fun b hb => ?_)
   ·rintro (e | e)
    ·have h1 : (its.map (·.x))[i]? = some y.x := by rw [List.getElem?_map, hi]; rfl
     have h2 : (its.map (·.x))[j]? = some z.x := by rw [List.getElem?_map, hj]; rfl
     rw [e, ← h1] at h2
     exact hne ((List.getElem?_inj (by rw [List.length_map]; exact hjl) h.dx).1 h2).symm
    ·exact hzj.r.ne hrg (by decide) e
   ·rintro (e | e)
    ·exact hzj.k.row.ne hr (by decide) e
    ·have h1 : (its.map (·.g))[i]? = some y.g := by rw [List.getElem?_map, hi]; rfl
     have h2 : (its.map (·.g))[j]? = some z.g := by rw [List.getElem?_map, hj]; rfl
     rw [e, ← h1] at h2
     exact hne ((List.getElem?_inj (by rw [List.length_map]; exact hjl) h.dg).1 h2).symm
   ·obtain ⟨cs', hr'⟩ := own_row hzj.k.own (by decide) hb
    exact off hr' (by decide) (by decide)
theorem foot_put2 {t st d : Nat} {r : Dm} {sl : Sl} {its : List It} {i n : Nat} {y y' : It} (hi : its[i]? = some y) (hx : y'.x = y.x) (hg : y'.g = y.g) (hs : ∀ b, y'.s.blk = some b → y.s.blk = some b ∨ n ≤ b) : ∀ j, foot t st d r sl (its.set i y') j → foot t st d r sl its j ∨ n ≤ j := by
 rintro j (e | e | e | e | e | ⟨z, hz, e⟩)
 ·exact .inl (.inl e)
 ·exact .inl (.inr (.inl e))
 ·exact .inl (.inr (.inr (.inl e)))
 ·exact .inl (.inr (.inr (.inr (.inl e))))
 ·exact .inl (.inr (.inr (.inr (.inr (.inl e)))))
 ·have hy : ∀ i, (i = y.x ∨ i = y.g ∨ y.s.blk = some i) → foot t st d r sl its i := fun i e => .inr (.inr (.inr (.inr (.inr ⟨y, List.mem_of_getElem? hi, e⟩))))
  rcases List.mem_or_eq_of_mem_set hz with hz | hz
  ·exact .inl (.inr (.inr (.inr (.inr (.inr ⟨z, hz, e⟩)))))
  ·subst hz
   rw [hx, hg] at e
   rcases e with e | e | e
   ·exact .inl (hy j (.inl e))
   ·exact .inl (hy j (.inr (.inl e)))
   ·rcases hs j e with e | e
    ·exact .inl (hy j (.inr (.inr e)))
    ·exact .inr e
instance (c : Ce) : Decidable (inY c) := by unfold inY; exact inferInstance
def atE (l : List En) (c : Ce) : Int :=
 if firstI (fun e : En => e.1 == pos c) l < 0 then -1 else if c.2.1 < 0 then 1 else ((l[(firstI (fun e : En => e.1 == pos c) l).toNat]?).map fun e => kAt e.1 e.2.1 c).getD 0
def setE (l : List En) (c : Ce) (b : Int) : List En × Int :=
 if firstI (fun e : En => e.1 == pos c) l < 0 then (l, 11) else if ¬ inY c then (l, 5) else if bMay b = false then (l, 1) else
  (l.eraseIdx (firstI (fun e : En => e.1 == pos c) l).toNat ++ ((l[(firstI (fun e : En => e.1 == pos c) l).toNat]?).map fun e => (e.1, (kSet e.1 e.2.1 c b).1, e.2.2.1 || (kAt e.1 e.2.1 c != b), e.2.2.2)).toList, 0)
theorem tAt_spec {w : World} {t st d : Nat} {r : Dm} {sl : Sl} {D : Dk} {seed limit : Int} {its : List It} (h : TO w t st d r sl D seed limit its) (c : Ce) (hc : okC c) :
  Calls Tryz.prog n_table_Table_At #[.pointer (some ⟨t, 0, none⟩), cev c] w fun e w' => e = .returned (.int .i64 (atE (obs its) c)) ∧ Ext w w' := by
 apply table_Table_At.vc
 intro w0 e0
 have z0 : w0.heap.size = w.heap.size + 1 := by rw [e0]; simp
 have x0 : Ext w w0 := (Ext.rfl' w).of_alloc e0
 clear e0
 refine (cChunk_spec c hc w0).mono ?_
 rintro e w1 ⟨rfl, x1⟩
 have x01 := x0.tr x1
 have z1 := x1.size
 refine ⟨_, _, rfl, x1.heap (by omega), (find_spec (h.ext x01) (pos c)).mono ?_⟩
 rintro e w4 ⟨rfl, x4⟩
 have z4 := x4.size
 have x04 := x01.tr x4
 have hfm : firstI (fun e : En => e.1 == pos c) (obs its) = firstI (fun i : It => i.p == pos c) its := firstI_map It.ob _ its
 refine ⟨_, rfl, x4.heap (by omega), ?_⟩
 rcases firstI_cases (fun i : It => i.p == pos c) its with ⟨hf, -⟩ | ⟨k, y, hk, hyp, hf, -⟩
 ·rw [hf]
  refine Br.mk (fun _ => ⟨?_, x04⟩) (fun h => by simp at h)
  unfold atE
  rw [hfm, hf, if_pos (by decide)]
 ·rw [hf]
  refine Br.mk (fun h => by simp at h; omega) (fun _ => Br.mk (fun hb => ?_) (fun hb => ?_))
  ·simp only [decide_eq_true_eq] at hb
   refine ⟨?_, x04⟩
   unfold atE
   rw [hfm, hf, if_neg (by omega), if_pos hb]
  ·simp only [decide_eq_false_iff_not] at hb
   have hd := (h.ext x04).ext (Ext.dr w4)
   obtain ⟨a1, a2⟩ := hd.at hk
   have hyr := hd.it y (List.mem_of_getElem? hk)
   refine ⟨sl, hd.rt.at 3 rfl, a1, _, a2, nnS (nnS ⟨_, hyr.r.at 0 rfl, (At_spec hyr.k c hc).mono ?_⟩)⟩
   rintro e w9 ⟨rfl, x9⟩
   have h9 := hd.ext x9
   obtain ⟨-, b2⟩ := h9.at hk
   refine ⟨_, _, rfl, x9.heap (show w.heap.size < w4.heap.size by omega), loadL1 b2, loadL1 (h9.rt.at 3 rfl), ?_, x04.tr ((Ext.dr _).tr x9)⟩
   unfold atE
   rw [hfm, hf, if_neg (by omega), if_neg hb, Int.toNat_natCast, List.getElem?_map, hk]; rfl
theorem kSet_in {p : Po} {C : List Int} {c : Ce} {b : Int} (hp : p = pos c) (hy : inY c) (hb : bMay b = true) : (kSet p C c b).2 = 0 := by
 unfold kSet
 rw [if_neg (by rw [(inK_iff p c).2 ⟨hy, hp.symm⟩]; decide), if_neg (by rw [hb]; decide)]
theorem tSet_spec {w : World} {t st d : Nat} {r : Dm} {sl : Sl} {D : Dk} {seed limit : Int} {its : List It} (h : TO w t st d r sl D seed limit its) (c : Ce) (hc : okC c) (b : Int) :
  Calls Tryz.prog n_table_Table_Set #[.pointer (some ⟨t, 0, none⟩), cev c, .int .i64 b] w fun e w' => e = .returned (.int .i64 (setE (obs its) c b).2) ∧ LdRes w t st d r sl seed limit its (D, (setE (obs its) c b).1) w' := by
 apply table_Table_Set.vc
 intro w0 e0
 have z0 : w0.heap.size = w.heap.size + 1 := by rw [e0]; simp
 have x0 : Ext w w0 := (Ext.rfl' w).of_alloc e0
 clear e0
 refine (cChunk_spec c hc w0).mono ?_
 rintro e w1 ⟨rfl, x1⟩
 have x01 := x0.tr x1
 have z1 := x1.size
 refine ⟨_, _, rfl, x1.heap (by omega), (find_spec (h.ext x01) (pos c)).mono ?_⟩
 rintro e w4 ⟨rfl, x4⟩
 have z4 := x4.size
 have x04 := x01.tr x4
 have hfm : firstI (fun e : En => e.1 == pos c) (obs its) = firstI (fun i : It => i.p == pos c) its := firstI_map It.ob _ its
 refine ⟨_, rfl, x4.heap (by omega), (cIndex_spec c w4).mono ?_⟩
 rintro e w6 ⟨⟨ix, iy, rfl, hiy⟩, x6⟩
 have z6 := x6.size
 have x06 := x04.tr x6
 have h6 := h.ext x06
 refine ⟨_, _, rfl, x6.heap (by omega), ?_⟩
 have same : ∀ {w'}, Ext w w' → LdRes w t st d r sl seed limit its (D, obs its) w' := fun x => ⟨r, sl, its, h.ext x, rfl, Turned.of_ext x⟩
 rcases firstI_cases (fun i : It => i.p == pos c) its with ⟨hf, -⟩ | ⟨k, y, hk, hyp, hf, -⟩
 ·rw [hf]
  refine Br.mk (fun _ => ?_) (fun h => by simp at h)
  have e : setE (obs its) c b = (obs its, 11) := by unfold setE; rw [hfm, hf, if_pos (by decide)]
  rw [e]
  exact ⟨rfl, same x06⟩
 ·rw [hf]
  have hyc : y.p = pos c := by simpa using hyp
  refine Br.mk (fun h => by simp at h; omega) (fun _ => ?_)
  rcases hiy with ⟨rfl, hY, -⟩ | ⟨rfl, hY, -⟩
  ·refine nope rfl ((block_May_spec b w6).mono ?_)
   rintro e w9 ⟨rfl, x9⟩
   have z9 := x9.size
   have x09 := x06.tr x9
   refine ⟨_, rfl, x9.heap (by omega), Br.mk (fun hb => ?_) (fun hb => ?_)⟩
   ·have hb' : bMay b = false := by simpa using hb
    have e : setE (obs its) c b = (obs its, 1) := by unfold setE; rw [hfm, hf, if_neg (by omega), if_neg (by simpa using hY), if_pos hb']
    rw [e]
    exact ⟨rfl, same x09⟩
   ·have hb' : bMay b = true := by simpa using hb
    have he : setE (obs its) c b = ((obs its).eraseIdx k ++ [(y.p, (kSet y.p y.C c b).1, y.dirty || (kAt y.p y.C c != b), y.pins)], 0) := by
     unfold setE
     rw [hfm, hf, if_neg (by omega), if_neg (by simpa using hY), if_neg (by rw [hb']; decide), Int.toNat_natCast, List.getElem?_map, hk]; rfl
    have h0 := kSet_in (C := y.C) hyc hY hb'
    rw [he]
    have h9 := h.ext x09
    refine (touch_spec h9 hk).mono ?_
    rintro e w11 ⟨rfl, sl11, h11, t11⟩
    have t011 := (Turned.of_ext x09).trans t11
    have z11 := t11.mod.size
    have bx : ∀ {F : Nat → Prop}, (∀ i, F i → foot t st d r sl its i) → ¬ F w.heap.size := fun hF hf => by have := h.lt (hF _ hf); omega
    have hi' : (its.eraseIdx k ++ [y])[(its.eraseIdx k).length]? = some y := by rw [List.getElem?_append_right (Nat.le_refl _), Nat.sub_self]; rfl
    have hd := h11.ext (Ext.dr w11)
    have hyd := hd.it y (List.mem_of_getElem? hi')
    have hxw : y.x < w.heap.size := (h.it y (List.mem_of_getElem? hk)).r.lt
    have hgw : y.g < w.heap.size := (h.it y (List.mem_of_getElem? hk)).k.row.lt
    refine ⟨_, rfl, t11.mod.same _ (by omega) (bx fun i hi => hi), nnS (nnS ⟨_, hyd.r.at 0 rfl, (At_spec hyd.k c hc).mono ?_⟩)⟩
    rintro e w14 ⟨rfl, x14⟩
    have x1114 : Ext w11 w14 := (Ext.dr _).tr x14
    have z14 := x1114.size
    have h14 := h11.ext x1114
    have hy14 := h14.it y (List.mem_of_getElem? hi')
    have pt : ∀ v : Bool, _ := fun v => hy14.r.put1 (j := 1) (v := .bool v) (by simp) rfl
    refine ⟨_, _, rfl, x14.heap (show w.heap.size < w11.heap.size by omega), nnS (nnS ⟨_, hy14.r.at 1 rfl, Br.mk (fun hb => nnS (nnS ⟨⟨rfl, (pt true).1⟩, fun e => ?_, fun w18 e18 => nnS (nnS ?_)⟩)) (fun hb => nnS (nnS ⟨⟨rfl, (pt true).1⟩, fun e => ?_, fun w18 e18 => nnS (nnS ?_)⟩))⟩)⟩
    case refine_1 | refine_3 =>
     rw [pblk_padd] at e
     have : y.x = w.heap.size := by simpa [pblk] using e
     omega
    all_goals
     obtain ⟨q1, q2⟩ := (pt _).2 w18 e18
     have z18 := q2.size
     have hk18 : KIs w18 y.g y.s y.p y.C := hy14.k.keep q2 (fun e => hy14.k.row.ne hy14.r (by decide) e) (fun b hb => by
      obtain ⟨cs', hr'⟩ := own_row hy14.k.own (by decide) hb
      exact hr'.ne hy14.r (by decide))
     refine ⟨_, (q1.ext (Ext.dr _)).at 0 rfl, (Set_spec (hk18.ext (Ext.dr w18)) c hc b).mono ?_⟩
     rintro e w20 ⟨rfl, s', hk20, m20, b20⟩
     have q1d := q1.ext (Ext.dr w18)
     refine ⟨_, rfl, m20.same _ (show w.heap.size < w18.heap.size by omega) (fun e => by omega), congrArg _ (congrArg _ h0), ?_⟩
     have hm : Mod (fun j => j = y.x ∨ j = y.g) w14 w20 := ((q2.mono fun i _ hi => .inl hi).trans (Mod.of_ext (Ext.dr _))).trans (m20.mono fun i _ hi => .inr hi)
     have hy20 : ItIs w20 ⟨y.x, y.g, s', y.p, (kSet y.p y.C c b).1, y.dirty || (kAt y.p y.C c != b), y.pins⟩ := by
      refine ⟨?_, hk20⟩
      have := m20.row q1d (fun e => q1d.ne (hk18.ext (Ext.dr w18)).row (by decide) e)
      rw [hb]
      exact this
     have h20 := h14.put2 hi' (y' := ⟨y.x, y.g, s', y.p, (kSet y.p y.C c b).1, y.dirty || (kAt y.p y.C c != b), y.pins⟩) rfl rfl hm hy20
     refine ⟨r, sl11, _, h20, ?_, t011.trans ⟨(Mod.of_ext x1114).trans (hm.mono fun i _ hi => ?_), fun j hj => ?_⟩⟩
     ·unfold obs
      rw [List.set_append_right _ _ (Nat.le_refl _), Nat.sub_self, List.map_append]
      have := obs_erase its k
      unfold obs at this
      rw [this]; rfl
     ·exact .inr (.inr (.inr (.inr (.inr ⟨y, List.mem_of_getElem? hi', hi.elim .inl fun e => .inr (.inl e)⟩))))
     ·exact foot_put2 (y' := ⟨y.x, y.g, s', y.p, (kSet y.p y.C c b).1, y.dirty || (kAt y.p y.C c != b), y.pins⟩) hi' rfl rfl (fun b hb => (b20 b hb).imp id fun e => Nat.le_trans (Nat.le_trans z14 z18) e) j hj
  ·have e : setE (obs its) c b = (obs its, 5) := by unfold setE; rw [hfm, hf, if_neg (by omega), if_pos hY]
   refine yes rfl ?_
   rw [e]
   exact ⟨rfl, same x06⟩
end Go.Proofs.YtjcnjlaelhdjeaaGreatDoor
namespace Go.Proofs.YtjcnjlaelhdjeaaGreatDoor
open Go Go.Vc Go.RowKit Go.Proofs Go.Chk Go.Runs Go.Code
def goodL (l : List En) : Prop := ∀ e ∈ l, e.2.1.length = 8192 ∧ ∀ b ∈ e.2.1, bMay b = true
theorem same_cell {c d : Ce} (hc : inY c) (hd : inY d) (hp : pos c = pos d) (hi : (idx c).toNat = (idx d).toNat) : c = d := by
 have h1 := idx_in hc
 have h2 := idx_in hd
 have hi' : idx c = idx d := by omega
 obtain ⟨a, b, e⟩ := c
 obtain ⟨a', b', e'⟩ := d
 unfold idx at hi'
 unfold pos at hp
 simp only [Prod.mk.injEq] at hp ⊢
 simp only at hi'
 omega
def here1 (l : List En) (p : Po) : Prop := ∃ e ∈ l, e.1 = p
def nodL (l : List En) : Prop := (l.map (·.1)).Nodup
theorem at_none {l : List En} {c : Ce} (h : ¬ here1 l (pos c)) : atE l c = -1 := by
 unfold atE
 rw [firstI_none fun y hy => ?_, if_pos (by decide)]
 cases hb : (y.1 == pos c) with
 | false => rfl
 | true => exact absurd ⟨y, hy, by simpa using hb⟩ h
theorem first_here {l : List En} (hn : nodL l) {e : En} (he : e ∈ l) : ∃ k : Nat, l[k]? = some e ∧ firstI (fun x : En => x.1 == e.1) l = k := by
 obtain ⟨k, hk⟩ := List.getElem?_of_mem he
 refine ⟨k, hk, firstI_at hk (by simp) fun j hj y hy => ?_⟩
 cases hb : (y.1 == e.1) with
 | false => rfl
 | true =>
   have h1 : (l.map (·.1))[k]? = some e.1 := by rw [List.getElem?_map, hk]; rfl
   have h2 : (l.map (·.1))[j]? = some e.1 := by rw [List.getElem?_map, hy]; simpa using hb
   have hkl := (List.getElem?_eq_some_iff.1 h1).1
   have := (List.getElem?_inj (show j < _ by omega) hn).1 (h2.trans h1.symm)
   omega
theorem at_here {l : List En} (hn : nodL l) {e : En} (he : e ∈ l) {c : Ce} (hp : e.1 = pos c) : atE l c = if c.2.1 < 0 then 1 else kAt e.1 e.2.1 c := by
 obtain ⟨k, hk, hf⟩ := first_here hn he
 unfold atE
 rw [← hp, hf, if_neg (by omega), Int.toNat_natCast, hk]; rfl
theorem kAt_kSet {p : Po} {C : List Int} (hl : C.length = 8192) {c : Ce} (hy : inY c) (hp : p = pos c) {b : Int} (hb : bMay b = true) (c' : Ce) (hp' : p = pos c') : kAt p (kSet p C c b).1 c' = if c' = c then b else kAt p C c' := by
 have e : (kSet p C c b).1 = C.set (idx c).toNat b := by
  unfold kSet
  rw [if_neg (by rw [(inK_iff p c).2 ⟨hy, hp.symm⟩]; decide), if_neg (by rw [hb]; decide)]
 rw [e]
 have hi := idx_in hy
 by_cases hcc : c' = c
 ·subst hcc
  rw [if_pos rfl]
  have hk : inK p c' = true := (inK_iff p c').2 ⟨hy, hp'.symm⟩
  unfold kAt
  rw [hk, if_pos rfl]
  unfold atC
  rw [if_neg (by omega), List.getD_eq_getElem?_getD, List.getElem?_set, if_pos rfl, if_pos (by omega)]; rfl
 ·rw [if_neg hcc]
  by_cases hy' : inY c'
  ·have hk : inK p c' = true := (inK_iff p c').2 ⟨hy', hp'.symm⟩
   have hi' := idx_in hy'
   have h0 : ¬ idx c' < 0 := by omega
   unfold kAt
   rw [hk, if_pos rfl, if_pos rfl]
   unfold atC
   rw [if_neg h0, if_neg h0, List.getD_eq_getElem?_getD, List.getD_eq_getElem?_getD, List.getElem?_set, if_neg (fun h => hcc (same_cell hy hy' (hp.symm.trans hp') h).symm)]
  ·have hk : inK p c' = false := by
    cases h : inK p c' with
    | false => rfl
    | true => exact absurd ((inK_iff p c').1 h).1 hy'
   unfold kAt
   rw [hk, if_neg (by decide), if_neg (by decide)]
theorem set_here {l : List En} (hn : nodL l) (hg : goodL l) {c : Ce} (hh : here1 l (pos c)) (hy : inY c) {b : Int} (hb : bMay b = true) :
  (setE l c b).2 = 0 ∧ nodL (setE l c b).1 ∧ (∀ p, here1 (setE l c b).1 p ↔ here1 l p) ∧ ∀ c', atE (setE l c b).1 c' = if c' = c then b else atE l c' := by
 obtain ⟨e, he, hp⟩ := hh
 obtain ⟨k, hk, hf⟩ := first_here hn he
 have hs : setE l c b = (l.eraseIdx k ++ [(e.1, (kSet e.1 e.2.1 c b).1, e.2.2.1 || (kAt e.1 e.2.1 c != b), e.2.2.2)], 0) := by
  unfold setE
  rw [← hp, hf, if_neg (by omega), if_neg (by simpa using hy), if_neg (by rw [hb]; decide), Int.toNat_natCast, hk]; rfl
 generalize hd : (e.2.2.1 || (kAt e.1 e.2.1 c != b)) = d at hs
 obtain ⟨A, B, hl2, hkA⟩ : ∃ A B, l = A ++ e :: B ∧ k = A.length := by
  obtain ⟨hkl, he⟩ := List.getElem?_eq_some_iff.1 hk
  exact ⟨l.take k, l.drop (k + 1), by rw [← he, ← List.drop_eq_getElem_cons hkl, List.take_append_drop], by rw [List.length_take]; omega⟩
 subst hkA
 rw [hl2, List.eraseIdx_append_of_length_le (Nat.le_refl _), Nat.sub_self] at hs
 have hs1 : setE l c b = (A ++ B ++ [(e.1, (kSet e.1 e.2.1 c b).1, d, e.2.2.2)], 0) := by rw [hl2]; exact hs
 rw [hs1]
 have hmem : ∀ x, x ∈ l ↔ x ∈ A ++ B ∨ x = e := fun x => by
  rw [hl2]
  simp only [List.mem_append, List.mem_cons]
  constructor
  ·rintro (h | h | h)
   ·exact .inl (.inl h)
   ·exact .inr h
   ·exact .inl (.inr h)
  ·rintro ((h | h) | h)
   ·exact .inl h
   ·exact .inr (.inr h)
   ·exact .inr (.inl h)
 have hn' : nodL (A ++ B ++ [(e.1, (kSet e.1 e.2.1 c b).1, d, e.2.2.2)]) := by
  have hnl : nodL (A ++ e :: B) := by rw [← hl2]; exact hn
  unfold nodL at hnl ⊢
  rw [List.map_append, List.map_cons] at hnl
  obtain ⟨n1, n2, n3⟩ := List.nodup_append.1 hnl
  obtain ⟨n4, n5⟩ := List.nodup_cons.1 n2
  rw [List.map_append, List.map_append]
  refine List.nodup_append.2 ⟨List.nodup_append.2 ⟨n1, n5, fun a ha b hb => n3 a ha b (.tail _ hb)⟩, by simp, fun a ha b hb => ?_⟩
  simp only [List.map_cons, List.map_nil, List.mem_singleton] at hb
  subst hb
  rcases List.mem_append.1 ha with ha | ha
  ·exact n3 a ha _ (.head _)
  ·exact fun h => n4 (h ▸ ha)
 have hone : ∀ x ∈ A ++ B, x.1 ≠ e.1 := fun x hx h => by
  have hnl : nodL (A ++ e :: B) := by rw [← hl2]; exact hn
  unfold nodL at hnl
  rw [List.map_append, List.map_cons] at hnl
  obtain ⟨n1, n2, n3⟩ := List.nodup_append.1 hnl
  obtain ⟨n4, n5⟩ := List.nodup_cons.1 n2
  rcases List.mem_append.1 hx with hx | hx
  ·exact n3 _ (List.mem_map.2 ⟨x, hx, rfl⟩) _ (.head _) h
  ·exact n4 (by rw [← h]; exact List.mem_map.2 ⟨x, hx, rfl⟩)
 refine ⟨rfl, hn', fun p => ⟨?_, ?_⟩, fun c' => ?_⟩
 ·rintro ⟨x, hx, hxp⟩
  rcases List.mem_append.1 hx with hx | hx
  ·exact ⟨x, (hmem x).2 (.inl hx), hxp⟩
  ·simp only [List.mem_singleton] at hx
   subst hx
   exact ⟨e, he, hxp⟩
 ·rintro ⟨x, hx, hxp⟩
  rcases (hmem x).1 hx with hx | hx
  ·exact ⟨x, List.mem_append_left _ hx, hxp⟩
  ·subst hx
   exact ⟨_, List.mem_append_right _ (.head _), hxp⟩
 ·show atE (A ++ B ++ [(e.1, (kSet e.1 e.2.1 c b).1, d, e.2.2.2)]) c' = _
  by_cases hpc : e.1 = pos c'
  ·rw [at_here hn' (List.mem_append_right _ (.head _)) (e := (e.1, (kSet e.1 e.2.1 c b).1, d, e.2.2.2)) hpc, at_here hn he hpc]
   show (if c'.2.1 < 0 then 1 else kAt e.1 (kSet e.1 e.2.1 c b).1 c') = _
   rw [kAt_kSet (hg e he).1 hy hp hb c' hpc]
   by_cases hcc : c' = c
   ·subst hcc
    rw [if_pos rfl, if_pos rfl, if_neg (by unfold inY at hy; omega)]
   ·rw [if_neg hcc, if_neg hcc]
  ·have hcc : c' ≠ c := fun h => hpc (by rw [h]; exact hp)
   rw [if_neg hcc]
   by_cases hx : ∃ x ∈ A ++ B, x.1 = pos c'
   ·obtain ⟨x, hx, hxp⟩ := hx
    rw [at_here hn' (List.mem_append_left _ hx) hxp, at_here hn ((hmem x).2 (.inl hx)) hxp]
   ·rw [at_none, at_none]
    ·rintro ⟨x, hx2, hxp⟩
     rcases (hmem x).1 hx2 with h | h
     ·exact hx ⟨x, h, hxp⟩
     ·subst h; exact hpc hxp
    ·rintro ⟨x, hx2, hxp⟩
     rcases List.mem_append.1 hx2 with h | h
     ·exact hx ⟨x, h, hxp⟩
     ·simp only [List.mem_singleton] at h
      subst h; exact hpc hxp
def TF (F : Nat → Prop) (w : World) (t : Nat) (seed limit : Int) (T : Tb) : Prop :=
 ∃ st d r sl its, TO w t st d r sl T.1 seed limit its ∧ obs its = T.2 ∧ F = foot t st d r sl its
theorem TF.lt {F : Nat → Prop} {w : World} {t : Nat} {seed limit : Int} {T : Tb} (h : TF F w t seed limit T) {i : Nat} (hi : F i) : i < w.heap.size := by
 obtain ⟨st, d, r, sl, its, h1, h2, rfl⟩ := h
 exact h1.lt hi
theorem TF.same {F : Nat → Prop} {w w' : World} {t : Nat} {seed limit : Int} {T : Tb} (h : TF F w t seed limit T) (hs : ∀ i, F i → w'.heap[i]? = w.heap[i]?) : TF F w' t seed limit T := by
 obtain ⟨st, d, r, sl, its, h1, h2, rfl⟩ := h
 exact ⟨st, d, r, sl, its, h1.same hs, h2, rfl⟩
theorem TF.ext {F : Nat → Prop} {w w' : World} {t : Nat} {seed limit : Int} {T : Tb} (h : TF F w t seed limit T) (x : Ext w w') : TF F w' t seed limit T := h.same fun _ hi => x.heap (h.lt hi)
theorem TF.keep {F G : Nat → Prop} {w w' : World} {t : Nat} {seed limit : Int} {T : Tb} (h : TF F w t seed limit T) (hm : Mod G w w') (hn : ∀ i, F i → ¬ G i) : TF F w' t seed limit T := h.same fun i hi => hm.same i (h.lt hi) (hn i hi)
abbrev offT (τ : TypeId) : Prop := τ ≠ tTable ∧ τ ≠ tStore ∧ τ ≠ tDisk ∧ τ ≠ tPI ∧ τ ≠ tItem ∧ τ ≠ tChunk ∧ τ ≠ tRun ∧ τ ≠ tW ∧ τ ≠ tByte
theorem TF.no_row {F : Nat → Prop} {w : World} {t : Nat} {seed limit : Int} {T : Tb} (h : TF F w t seed limit T) {j : Nat} {cs : List Value} {τ : TypeId} (hr : Row w j cs τ) (hτ : offT τ) : ¬ F j := by
 obtain ⟨st, d, r, sl, its, h1, h2, rfl⟩ := h
 exact h1.no_row hr hτ
abbrev TRes (F : Nat → Prop) (w : World) (t : Nat) (seed limit : Int) (T : Tb) (w' : World) : Prop := ∃ F', TF F' w' t seed limit T ∧ Turned F F' w w'
theorem tf_of {w w' : World} {t st d : Nat} {r : Dm} {sl : Sl} {seed limit : Int} {its : List It} {T : Tb} (hl : LdRes w t st d r sl seed limit its T w') : TRes (foot t st d r sl its) w t seed limit T w' := by
 obtain ⟨r', sl', its', h', ho, ht⟩ := hl
 exact ⟨_, ⟨st, d, r', sl', its', h', ho, rfl⟩, ht⟩
theorem tfNew_spec (seed limit room : Int) (w : World) : Calls Tryz.prog n_table_New #[.int .i64 seed, .int .i64 limit, .int .i64 room] w fun e w' => ∃ t F, e = .returned (.pointer (some ⟨t, 0, none⟩)) ∧ TF F w' t seed (min (max limit 1) 16) (dk0 room, []) ∧ Ext w w' ∧ ∀ i, F i → w.heap.size ≤ i := by
 refine (tNew_spec seed limit room w).mono ?_
 rintro e w' ⟨t, st, d, r, rfl, h, x, hf⟩
 exact ⟨t, _, rfl, ⟨st, d, r, _, [], h, rfl, rfl⟩, x, hf⟩
section
variable {F : Nat → Prop} {w : World} {t : Nat} {seed limit : Int} {T : Tb}
theorem tfLoad_spec (h : TF F w t seed limit T) (hW : T.1.l.length ≤ 1000000) (p : Po) :
  Calls Tryz.prog n_table_Table_Load #[.pointer (some ⟨t, 0, none⟩), pv p] w fun e w' => e = .returned (.int .i64 (ldE seed limit T.1 T.2 p).2) ∧ TRes F w t seed limit (ldE seed limit T.1 T.2 p).1 w' := by
 obtain ⟨st, d, r, sl, its, h1, e, rfl⟩ := h
 rw [← e]
 refine (Load_spec h1 hW p).mono ?_
 rintro e w' ⟨rfl, hl⟩
 exact ⟨rfl, tf_of hl⟩
theorem tfAt_spec (h : TF F w t seed limit T) (c : Ce) (hc : okC c) :
  Calls Tryz.prog n_table_Table_At #[.pointer (some ⟨t, 0, none⟩), cev c] w fun e w' => e = .returned (.int .i64 (atE T.2 c)) ∧ Ext w w' := by
 obtain ⟨st, d, r, sl, its, h1, e, rfl⟩ := h
 rw [← e]
 exact tAt_spec h1 c hc
theorem tfSet_spec (h : TF F w t seed limit T) (c : Ce) (hc : okC c) (b : Int) :
  Calls Tryz.prog n_table_Table_Set #[.pointer (some ⟨t, 0, none⟩), cev c, .int .i64 b] w fun e w' => e = .returned (.int .i64 (setE T.2 c b).2) ∧ TRes F w t seed limit (T.1, (setE T.2 c b).1) w' := by
 obtain ⟨st, d, r, sl, its, h1, e, rfl⟩ := h
 rw [← e]
 refine (tSet_spec h1 c hc b).mono ?_
 rintro e w' ⟨rfl, hl⟩
 exact ⟨rfl, tf_of hl⟩
end
end Go.Proofs.YtjcnjlaelhdjeaaGreatDoor
namespace Go.Proofs.YtjcnjlaelhdjeaaGreatDoor
open Go Go.Vc Go.RowKit Go.Proofs Go.Chk Go.Runs Go.Code Go.Flw
def wideC (c : Ce) : Prop := (-2000000000 ≤ c.1 ∧ c.1 ≤ 2000000000) ∧ (-2000000000 ≤ c.2.1 ∧ c.2.1 ≤ 2000000000) ∧ -2000000000 ≤ c.2.2 ∧ c.2.2 ≤ 2000000000
theorem wideC.ok {c : Ce} (h : wideC c) : okC c := by unfold wideC at h; unfold okC inI; omega
theorem nb_ok {c : Ce} (h : wideC c) {n : Ce} (hn : n ∈ nbK c) : okC n := by
 unfold wideC at h
 unfold nbK lowK overK at hn
 simp only [List.mem_cons, List.not_mem_nil, or_false] at hn
 rcases hn with rfl | rfl | rfl | rfl | rfl | rfl <;> (unfold okC inI; simp only; omega)
theorem cut_spec (n : Int) (h : -2147483648 ≤ n ∧ n ≤ 2147483648) (w : World) : Calls Tryz.prog n_cell_cut #[.int .i64 n] w fun e w' => e = .returned (.int .i64 n) ∧ w' = w := by
 apply cell_cut.vc
 unfold cell_cut.pre
 have e1 : (if (-2147483648) > n then (-2147483648) else n) = n := if_neg (by omega)
 rw [e1, if_neg (by omega)]
 exact ⟨rfl, rfl⟩
theorem Cut_spec (c : Ce) (h : (-2147483648 ≤ c.1 ∧ c.1 ≤ 2147483648) ∧ (-2147483648 ≤ c.2.1 ∧ c.2.1 ≤ 2147483648) ∧ -2147483648 ≤ c.2.2 ∧ c.2.2 ≤ 2147483648) (w : World) : Calls Tryz.prog n_cell_Cut #[cev c] w fun e w' => e = .returned (cev c) ∧ Ext w w' := by
 apply cell_Cut.vc
 intro w0 e0 w1 e1
 have x1 : Ext w w1 := ((Ext.rfl' _).of_alloc e0).of_alloc e1
 have z0 : w0.heap.size = w.heap.size + 1 := by rw [e0]; simp
 have r0 : Row w1 w.heap.size [.int .i64 c.1, .int .i64 c.2.1, .int .i64 c.2.2] tCe := (by rw [e0]; exact Row.new w [_, _, _] _ : Row w0 w.heap.size _ _).ext ((Ext.rfl' _).of_alloc e1)
 clear e0 e1
 have xd := Ext.dr w1
 have r1 := r0.ext xd
 refine (cut_spec c.1 h.1 w1.drew).mono ?_
 rintro e w2 ⟨rfl, rfl⟩
 refine ⟨_, rfl, rfl, rfl, r1.loadL (o := 2) (fun j hj => by
  match j, hj with
  | 0, _ => rfl), r1.loadL (o := 1) (fun j hj => by
  match j, hj with
  | 0, _ => rfl), (cut_spec c.2.1 h.2.1 w1.drew).mono ?_⟩
 rintro e w4 ⟨rfl, rfl⟩
 refine ⟨_, rfl, rfl, rfl, r1.loadL (o := 2) (fun j hj => by
  match j, hj with
  | 0, _ => rfl), (cut_spec c.2.2 h.2.2 w1.drew).mono ?_⟩
 rintro e w6 ⟨rfl, rfl⟩
 exact ⟨_, rfl, rfl, rfl, fun w8 e8 => ⟨rfl, (x1.tr xd).of_setRow e8 (by omega)⟩⟩
theorem Near1_spec (a b d : Int) (c c' : Ce) (he : c' = (c.1 + a, c.2.1 + b, c.2.2 + d)) (hc : wideC c) (ha : (-1 ≤ a ∧ a ≤ 1) ∧ (-1 ≤ b ∧ b ≤ 1) ∧ -1 ≤ d ∧ d ≤ 1) {g : Nat} {w : World} (hr : Row w g [.int .i64 c.1, .int .i64 c.2.1, .int .i64 c.2.2] tCe) :
  Calls Tryz.prog n_cell_Near_1 #[.int .i64 a, .int .i64 b, .int .i64 d, .pointer (some ⟨g, 0, none⟩)] w fun e w' => e = .returned (cev c') ∧ Ext w w' := by
 subst he
 apply cell_Near_1.vc
 obtain ⟨⟨h1, h2⟩, ⟨h3, h4⟩, h5, h6⟩ := id hc
 intro w0 e0
 have x0 : Ext w w0 := (Ext.rfl' _).of_alloc e0
 have z0 : w0.heap.size = w.heap.size + 1 := by rw [e0]; simp
 clear e0
 have xd := x0.tr (Ext.dr w0)
 have zd : w0.drew.heap.size = w0.heap.size := rfl
 have r1 := hr.ext xd
 have q1 : IntKind.wrap .i64 (c.1 + a) = c.1 + a := wrap_in (by unfold inI; omega)
 have q2 : IntKind.wrap .i64 (c.2.1 + b) = c.2.1 + b := wrap_in (by unfold inI; omega)
 have q3 : IntKind.wrap .i64 (c.2.2 + d) = c.2.2 + d := wrap_in (by unfold inI; omega)
 refine ⟨c.1, r1.at 0 rfl, c.2.1, r1.at 1 rfl, c.2.2, r1.at 2 rfl, (cut_spec c.1 (by omega) w0.drew).mono ?_⟩
 rintro e w4 ⟨rfl, rfl⟩
 refine ⟨_, rfl, rfl, loadL1 (r1.at 2 rfl), loadL1 (r1.at 1 rfl), (cut_spec c.2.1 (by omega) w0.drew).mono ?_⟩
 rintro e w6 ⟨rfl, rfl⟩
 refine ⟨_, rfl, rfl, loadL1 (r1.at 2 rfl), (cut_spec c.2.2 (by omega) w0.drew).mono ?_⟩
 rintro e w8 ⟨rfl, rfl⟩
 refine ⟨_, rfl, rfl, ?_⟩
 rw [q1, q2, q3]
 refine (Cut_spec (c.1 + a, c.2.1 + b, c.2.2 + d) (by simp only; omega) w0.drew).mono ?_
 rintro e w10 ⟨rfl, x10⟩
 exact ⟨_, _, _, rfl, x10.heap (by omega), fun w14 e14 => ⟨rfl, (xd.tr x10).of_setRow e14 (Nat.le_refl _)⟩⟩
abbrev clv (c : Ce) : List Value := [.int .i64 c.1, .int .i64 c.2.1, .int .i64 c.2.2]
theorem one_cl (c : Ce) : One (clv c) := by
 intro v hv; simp at hv; rcases hv with rfl | rfl | rfl <;> rfl
abbrev nbV (c : Ce) : List Value := [.int .i64 (c.1 - 1), .int .i64 c.2.1, .int .i64 c.2.2, .int .i64 (c.1 + 1), .int .i64 c.2.1, .int .i64 c.2.2, .int .i64 c.1, .int .i64 (c.2.1 - 1), .int .i64 c.2.2, .int .i64 c.1, .int .i64 (c.2.1 + 1), .int .i64 c.2.2, .int .i64 c.1, .int .i64 c.2.1, .int .i64 (c.2.2 - 1), .int .i64 c.1, .int .i64 c.2.1, .int .i64 (c.2.2 + 1)]
theorem one_nb (c : Ce) : One (nbV c) := by
 intro v hv
 simp only [nbV, List.mem_cons, List.not_mem_nil, or_false] at hv
 rcases hv with rfl | rfl | rfl | rfl | rfl | rfl | rfl | rfl | rfl | rfl | rfl | rfl | rfl | rfl | rfl | rfl | rfl | rfl <;> rfl
theorem nbV_rows (c : Ce) : nbV c = ((nbK c).map clv).flatten := rfl
theorem putCells_all {cs vs : List Value} (h : vs.length = cs.length) : putCells cs 0 vs = vs := by
 rw [putCells_eq _ _ _ (by omega)]
 simp [← h]
theorem ce_eq {a b c a' b' c' : Int} (h1 : a = a') (h2 : b = b') (h3 : c = c') : ((a, b, c) : Ce) = (a', b', c') := by rw [h1, h2, h3]
set_option maxRecDepth 100000 in
theorem Near_spec (c : Ce) (hc : wideC c) (w : World) : Calls Tryz.prog n_cell_Near #[cev c] w fun e w' => e = .returned (.agg (nbV c).toArray) ∧ Ext w w' := by
 apply cell_Near.vc
 intro w0 e0 w1 e1
 have x1 : Ext w w1 := ((Ext.rfl' _).of_alloc e0).of_alloc e1
 have z0 : w0.heap.size = w.heap.size + 1 := by rw [e0]; simp
 have r0 : Row w1 w.heap.size [.int .i64 c.1, .int .i64 c.2.1, .int .i64 c.2.2] tCe := (by rw [e0]; exact Row.new w [_, _, _] _ : Row w0 w.heap.size _ _).ext ((Ext.rfl' _).of_alloc e1)
 have rb : Row w1 w0.heap.size [.int .i64 0, .int .i64 0, .int .i64 0, .int .i64 0, .int .i64 0, .int .i64 0, .int .i64 0, .int .i64 0, .int .i64 0, .int .i64 0, .int .i64 0, .int .i64 0, .int .i64 0, .int .i64 0, .int .i64 0, .int .i64 0, .int .i64 0, .int .i64 0] 266 := by rw [e1]; exact Row.new w0 [_, _, _, _, _, _, _, _, _, _, _, _, _, _, _, _, _, _] _
 clear e0 e1
 refine (Near1_spec (-1) 0 0 c (c.1 - 1, c.2.1, c.2.2) (ce_eq (by omega) (by omega) (by omega)) hc (by decide) r0).mono ?_
 rintro e w2 ⟨rfl, x2⟩
 refine ⟨_, _, _, rfl, (Near1_spec 1 0 0 c (c.1 + 1, c.2.1, c.2.2) (ce_eq (by omega) (by omega) (by omega)) hc (by decide) (r0.ext x2)).mono ?_⟩
 rintro e w6 ⟨rfl, x6⟩
 have y6 := x2.tr x6
 refine ⟨_, _, _, rfl, (Near1_spec 0 (-1) 0 c (c.1, c.2.1 - 1, c.2.2) (ce_eq (by omega) (by omega) (by omega)) hc (by decide) (r0.ext y6)).mono ?_⟩
 rintro e w10 ⟨rfl, x10⟩
 have y10 := y6.tr x10
 refine ⟨_, _, _, rfl, (Near1_spec 0 1 0 c (c.1, c.2.1 + 1, c.2.2) (ce_eq (by omega) (by omega) (by omega)) hc (by decide) (r0.ext y10)).mono ?_⟩
 rintro e w14 ⟨rfl, x14⟩
 have y14 := y10.tr x14
 refine ⟨_, _, _, rfl, (Near1_spec 0 0 (-1) c (c.1, c.2.1, c.2.2 - 1) (ce_eq (by omega) (by omega) (by omega)) hc (by decide) (r0.ext y14)).mono ?_⟩
 rintro e w18 ⟨rfl, x18⟩
 have y18 := y14.tr x18
 refine ⟨_, _, _, rfl, (Near1_spec 0 0 1 c (c.1, c.2.1, c.2.2 + 1) (ce_eq (by omega) (by omega) (by omega)) hc (by decide) (r0.ext y18)).mono ?_⟩
 rintro e w22 ⟨rfl, x22⟩
 have y22 := y18.tr x22
 have r22 := rb.ext y22
 refine ⟨_, _, _, rfl, ⟨rfl, r22.wr (by simp)⟩, fun w26 e26 => ?_⟩
 have e26 : w26 = setP w22 (some ⟨w0.heap.size, 0, none⟩) (nbV c) := e26
 rw [r22.setP (vs := nbV c) (by simp) (one_nb c), putCells_all (by simp)] at e26
 have hr' : Row w26 w0.heap.size (nbV c) 266 := by rw [e26]; exact r22.set _
 exact ⟨_, _, _, _, _, _, _, _, _, _, _, _, _, _, _, _, _, _, hr'.loadL (fun j hj => by rw [Nat.zero_add]), rfl, (x1.tr y22).of_setRow e26 (by omega)⟩
theorem Falls_spec (b : Int) (w : World) : Calls Tryz.prog n_block_Falls #[.int .i64 b] w fun e w' => e = .returned (.bool (b == 3)) ∧ w' = w := by
 apply block_Falls.vc
 exact ⟨rfl, rfl⟩
theorem Wet_spec (b : Int) (w : World) : Calls Tryz.prog n_block_Wet #[.int .i64 b] w fun e w' => e = .returned (.bool (wetK b)) ∧ w' = w := by
 apply block_Wet.vc
 unfold wetK
 refine Br.mk (fun h => ⟨?_, rfl⟩) (fun h => ⟨?_, rfl⟩)
 ·have h1 : (8 : Int) ≤ b := by simpa using h
  rw [decide_eq_true h1, Bool.true_and]
 ·have h1 : ¬ (8 : Int) ≤ b := by simpa using h
  rw [decide_eq_false h1, Bool.false_and]
theorem Delay_spec (b : Int) (w : World) : Calls Tryz.prog n_flow_Delay #[.int .i64 b] w fun e w' => e = .returned (.int .i64 (delayK b)) ∧ w' = w := by
 apply flow_Delay.vc
 refine (Falls_spec b w).mono ?_
 rintro e w0 ⟨rfl, rfl⟩
 unfold delayK
 refine ⟨_, rfl, Br.mk (fun h => ?_) (fun h => (Wet_spec b w0).mono ?_)⟩
 ·rw [if_pos (by simpa using h)]; exact ⟨rfl, rfl⟩
 ·rintro e w2 ⟨rfl, rfl⟩
  rw [if_neg (by simpa using h)]
  refine ⟨_, rfl, Br.mk (fun h => ?_) (fun h => ?_)⟩
  ·rw [if_pos h]; exact ⟨rfl, rfl⟩
  ·rw [if_neg (by rw [h]; decide)]; exact ⟨rfl, rfl⟩
end Go.Proofs.YtjcnjlaelhdjeaaGreatDoor
namespace Go.Proofs.YtjcnjlaelhdjeaaGreatDoor
open Go Go.Vc Go.RowKit Go.Proofs Go.Chk Go.Runs Go.Code
theorem cellsB_nil (seed : Int) (p : Po) : cellsB seed p [] = made seed p := rfl
end Go.Proofs.YtjcnjlaelhdjeaaGreatDoor
namespace Go.Proofs.YtjcnjlaelhdjeaaGreatDoor
open Go Go.Vc Go.RowKit Go.Proofs Go.Chk Go.Runs Go.Code
section
variable {w0 w w' : World} {t : Nat} {seed limit : Int} {T : Tb}
end
end Go.Proofs.YtjcnjlaelhdjeaaGreatDoor
namespace Go.Proofs.YtjcnjlaelhdjeaaGreatDoor
open Go Go.Vc Go.RowKit Go.Proofs Go.Chk Go.Runs Go.Code
theorem nnP {p : Option Addr} {K : Prop} (hp : p.isSome = true) (h : K) : AndL (nnC p) K := AndL_iff.2 ⟨nnC_iff.2 hp, h⟩
end Go.Proofs.YtjcnjlaelhdjeaaGreatDoor
namespace Go.Proofs.YtjcnjlaelhdjeaaGreatDoor
open Go Go.Vc Go.RowKit Go.Proofs Go.Chk Go.Runs Go.Code
end Go.Proofs.YtjcnjlaelhdjeaaGreatDoor
namespace Go.Proofs.YtjcnjlaelhdjeaaGreatDoor
open Go Go.Vc Go.RowKit Go.Proofs Go.Chk Go.Runs Go.Code
theorem tfHere_spec {F : Nat → Prop} {w : World} {t : Nat} {seed cap : Int} {T : Tb} (h : TF F w t seed cap T) : Calls Tryz.prog n_table_Table_Here #[.pointer (some ⟨t, 0, none⟩)] w fun e w' => ∃ s' : Sl, e = .returned (.slice s'.a s'.n s'.c) ∧ OwnK w.heap.size tPo 2 w' s' (T.2.map fun e => [.int .i64 e.1.1, .int .i64 e.1.2]) ∧ Ext w w' := by
 obtain ⟨st, d, r, sl, its, g1, e, rfl⟩ := h
 rw [← e]
 exact Here_spec g1
end Go.Proofs.YtjcnjlaelhdjeaaGreatDoor
namespace Go.Proofs.YtjcnjlaelhdjeaaGreatDoor
open Go Go.Vc Go.RowKit Go.Proofs Go.Chk Go.Runs Go.Code
abbrev tWorld : TypeId := 132
abbrev tChg : TypeId := 269
abbrev Cg := Ce × Int
abbrev cgv (x : Cg) : List Value := [.int .i64 x.1.1, .int .i64 x.1.2.1, .int .i64 x.1.2.2, .int .i64 x.2]
def WF (F : Nat → Prop) (w : World) (o t : Nat) (seed limit : Int) (T : Tb) (ch : List Cg) : Prop :=
 ∃ F1 sc, TF F1 w t seed limit T ∧ Row w o [.pointer (some ⟨t, 0, none⟩), .slice sc.a sc.n sc.c] tWorld ∧ OwnK 0 tChg 4 w sc (ch.map cgv) ∧ F = fun i => F1 i ∨ i = o ∨ sc.blk = some i
theorem WF.lt {F : Nat → Prop} {w : World} {o t : Nat} {seed limit : Int} {T : Tb} {ch : List Cg} (h : WF F w o t seed limit T ch) {i : Nat} (hi : F i) : i < w.heap.size := by
 obtain ⟨F1, sc, h1, h2, h3, rfl⟩ := h
 rcases hi with hi | rfl | hi
 ·exact h1.lt hi
 ·exact h2.lt
 ·exact (h3.own.lt hi).2
theorem WF.same {F : Nat → Prop} {w w' : World} {o t : Nat} {seed limit : Int} {T : Tb} {ch : List Cg} (h : WF F w o t seed limit T ch) (hs : ∀ i, F i → w'.heap[i]? = w.heap[i]?) : WF F w' o t seed limit T ch := by
 obtain ⟨F1, sc, h1, h2, h3, rfl⟩ := h
 exact ⟨F1, sc, h1.same fun i hi => hs i (.inl hi), h2.same (hs o (.inr (.inl rfl))), OwnK.keep h3 fun b hb => hs b (.inr (.inr hb)), rfl⟩
theorem WF.ext {F : Nat → Prop} {w w' : World} {o t : Nat} {seed limit : Int} {T : Tb} {ch : List Cg} (h : WF F w o t seed limit T ch) (x : Ext w w') : WF F w' o t seed limit T ch := h.same fun _ hi => x.heap (h.lt hi)
theorem WF.keep {F G : Nat → Prop} {w w' : World} {o t : Nat} {seed limit : Int} {T : Tb} {ch : List Cg} (h : WF F w o t seed limit T ch) (hm : Mod G w w') (hn : ∀ i, F i → ¬ G i) : WF F w' o t seed limit T ch := h.same fun i hi => hm.same i (h.lt hi) (hn i hi)
theorem WF.no_row {F : Nat → Prop} {w : World} {o t : Nat} {seed limit : Int} {T : Tb} {ch : List Cg} (h : WF F w o t seed limit T ch) {j : Nat} {cs : List Value} {τ : TypeId} (hr : Row w j cs τ) (hτ : offT τ) (hw : τ ≠ tWorld) (hc : τ ≠ tChg) : ¬ F j := by
 obtain ⟨F1, sc, h1, h2, h3, rfl⟩ := h
 rintro (hi | rfl | hi)
 ·exact h1.no_row hr hτ hi
 ·exact hr.ne h2 hw rfl
 ·obtain ⟨cs', hr'⟩ := own_row h3 (by decide) hi
  exact hr.ne hr' hc rfl
abbrev WRes (F : Nat → Prop) (w : World) (o t : Nat) (seed limit : Int) (T : Tb) (ch : List Cg) (w' : World) : Prop := ∃ F', WF F' w' o t seed limit T ch ∧ Turned F F' w w'
theorem WF.table {F : Nat → Prop} {w : World} {o t : Nat} {seed limit : Int} {T : Tb} {ch : List Cg} (h : WF F w o t seed limit T ch) : ∃ F1, TF F1 w t seed limit T ∧ (∀ i, F1 i → F i) ∧ ∀ {w' : World} {T' : Tb}, TRes F1 w t seed limit T' w' → WRes F w o t seed limit T' ch w' := by
 obtain ⟨F1, sc, h1, h2, h3, rfl⟩ := h
 refine ⟨F1, h1, fun i hi => .inl hi, ?_⟩
 rintro w' T' ⟨F', h', ht⟩
 have n2 := h1.no_row h2 (by decide)
 have n3 : ∀ b, sc.blk = some b → ¬ F1 b := fun b hb => by
  obtain ⟨cs', hr'⟩ := own_row h3 (by decide) hb
  exact h1.no_row hr' (by decide)
 refine ⟨_, ⟨F', sc, h', ht.mod.row h2 n2, ht.mod.ownK h3 n3, rfl⟩, ht.mod.mono fun i _ hi => .inl hi, fun i hi => ?_⟩
 rcases hi with hi | hi | hi
 ·exact (ht.sub i hi).imp .inl id
 ·exact .inl (.inr (.inl hi))
 ·exact .inl (.inr (.inr hi))
theorem wNew_spec (seed limit room : Int) (w : World) : Calls Tryz.prog n_world_New #[.int .i64 seed, .int .i64 limit, .int .i64 room] w fun e w' => ∃ o t F, e = .returned (.pointer (some ⟨o, 0, none⟩)) ∧ WF F w' o t seed (min (max limit 1) 16) (dk0 room, []) [] ∧ Ext w w' ∧ ∀ i, F i → w.heap.size ≤ i := by
 apply world_New.vc
 refine (tfNew_spec seed limit room w).mono ?_
 rintro e w0 ⟨t, F1, rfl, h0, x0, f0⟩
 refine ⟨_, rfl, fun w2 e2 => ⟨w0.heap.size, t, _, rfl, ⟨F1, ⟨none, 0, 0⟩, h0.ext ((Ext.rfl' _).of_alloc e2), ?_, OwnK.nil, rfl⟩, x0.of_alloc e2, fun i hi => ?_⟩⟩
 ·rw [e2]; exact Row.new w0 [_, _] _
 ·rcases hi with hi | hi | hi
  ·exact f0 i hi
  ·have := x0.size; omega
  ·cases hi
theorem wTable_spec {F : Nat → Prop} {w : World} {o t : Nat} {seed limit : Int} {T : Tb} {ch : List Cg} (h : WF F w o t seed limit T ch) : Calls Tryz.prog n_world_World_Table #[.pointer (some ⟨o, 0, none⟩)] w fun e w' => e = .returned (.pointer (some ⟨t, 0, none⟩)) ∧ w' = w := by
 obtain ⟨F1, sc, h1, h2, h3, rfl⟩ := h
 apply world_World_Table.vc
 exact ⟨_, h2.at 0 rfl, rfl, rfl⟩
theorem wView_spec {F : Nat → Prop} {w : World} {o t : Nat} {seed limit : Int} {T : Tb} {ch : List Cg} (h : WF F w o t seed limit T ch) : Calls Tryz.prog n_world_World_View #[.pointer (some ⟨o, 0, none⟩)] w fun e w' => e = .returned (.func (.func n_table_Table_At) #[.pointer (some ⟨t, 0, none⟩)] #[]) ∧ w' = w := by
 obtain ⟨F1, sc, h1, h2, h3, rfl⟩ := h
 apply world_World_View.vc
 exact ⟨_, h2.at 0 rfl, rfl, rfl⟩
def wsC (l : List En) (ch : List Cg) (c : Ce) (b : Int) : List Cg := if (setE l c b).2 = 0 ∧ atE l c ≠ b then ch ++ [(c, b)] else ch
theorem one_4 (a b c d : Int) : One [Value.int .i64 a, .int .i64 b, .int .i64 c, .int .i64 d] := by
 intro v hv
 simp at hv
 rcases hv with rfl | rfl | rfl | rfl <;> rfl
theorem wSet_spec {F : Nat → Prop} {w : World} {o t : Nat} {seed limit : Int} {T : Tb} {ch : List Cg} (h : WF F w o t seed limit T ch) (c : Ce) (hc : okC c) (b : Int) (hn : ch.length ≤ 1000000) :
  Calls Tryz.prog n_world_World_Set #[.pointer (some ⟨o, 0, none⟩), cev c, .int .i64 b] w fun e w' => e = .returned (.int .i64 (setE T.2 c b).2) ∧ WRes F w o t seed limit (T.1, (setE T.2 c b).1) (wsC T.2 ch c b) w' := by
 have hF := fun {i} => h.lt (i := i)
 have hh := h
 obtain ⟨F1, sc, h1, h2, h3, rfl⟩ := h
 apply world_World_Set.vc
 intro w0 e0
 have z0 : w0.heap.size = w.heap.size + 1 := by rw [e0]; simp
 have x0 : Ext w w0.drew := ((Ext.rfl' w).of_alloc e0).drew
 clear e0
 have zd : w0.drew.heap.size = w0.heap.size := rfl
 refine ⟨_, (h2.ext x0).at 0 rfl, (tfAt_spec (h1.ext x0) c hc).mono ?_⟩
 rintro e w2 ⟨rfl, x2⟩
 have z2 := x2.size
 have x02 := (x0.tr x2).drew
 have zd2 : w2.drew.heap.size = w2.heap.size := rfl
 refine ⟨_, rfl, x2.heap (by omega), _, (h2.ext x02).at 0 rfl, (tfSet_spec (h1.ext x02) c hc b).mono ?_⟩
 rintro e w5 ⟨rfl, hT⟩
 obtain ⟨F', hF', ht'⟩ := hT
 have z5 := ht'.mod.size
 have n2 := (h1.ext x02).no_row (h2.ext x02) (by decide)
 have n3 : ∀ b, sc.blk = some b → ¬ F1 b := fun b hb => by
  obtain ⟨cs', hr'⟩ := own_row (h3.ext x02) (by decide) hb
  exact (h1.ext x02).no_row hr' (by decide)
 have h2' := ht'.mod.row (h2.ext x02) n2
 have h3' : OwnK 0 tChg 4 w5 sc (ch.map cgv) := ht'.mod.ownK (h3.ext x02) n3
 have nb : ¬ F1 w.heap.size := fun hf => by have := hF (.inl hf); omega
 have tt : Turned (fun i => F1 i ∨ i = o ∨ sc.blk = some i) (fun i => F' i ∨ i = o ∨ sc.blk = some i) w w5 := by
  refine (Turned.of_ext x02).trans ⟨ht'.mod.mono fun i _ hi => .inl hi, fun i hi => ?_⟩
  rcases hi with hi | hi | hi
  ·exact (ht'.sub i hi).imp .inl id
  ·exact .inl (.inr (.inl hi))
  ·exact .inl (.inr (.inr hi))
 refine ⟨_, rfl, ht'.mod.same _ (by omega) nb, Br.mk (fun hb => Br.mk (fun hb2 => ?_) (fun hb2 => ?_)) (fun hb => ?_)⟩
 ·simp only [beq_iff_eq] at hb
  simp only [bne_iff_ne] at hb2
  have ec : wsC T.2 ch c b = ch ++ [(c, b)] := by unfold wsC; rw [if_pos ⟨hb, hb2⟩]
  rw [ec]
  have h2d := h2'.ext (Ext.dr w5)
  have hsn : sc.n = ch.length := by have := (h3.rd (show 0 < 4 by decide)).n; rwa [List.length_map] at this
  refine ⟨sc, h2d.at 1 rfl, fun w8 e8 => ?_⟩
  subst e8
  obtain ⟨hp, hres⟩ := (h3'.ext (Ext.dr w5)).app1 (bytes := 32) (news := cgv (c, b)) (.cells #[.int .i64 c.1, .int .i64 c.2.1, .int .i64 c.2.2, .int .i64 b] tChg) (Nat.zero_le _) rfl (one_4 _ _ _ _) (by omega) (by omega)
  refine ⟨hp, fun s9 w10 hr => ?_⟩
  obtain ⟨f1, ho10, hn10, xb, hk10, hblk⟩ := hres s9 w10 hr
  have zd5 : w5.drew.heap.size = w5.heap.size := rfl
  have hol := h2.lt
  have hscb : ∀ b, sc.blk = some b → b < w.heap.size := fun b hb => (h3.own.lt hb).2
  have m10 : Mod (fun j => sc.blk = some j) w5 w10 := (Mod.of_ext (Ext.dr w5)).trans (Mod.of_app xb hk10)
  have no : ¬ sc.blk = some o := fun e => by
   obtain ⟨cs', hr'⟩ := own_row h3 (by decide) e
   exact hr'.ne h2 (by decide) rfl
  have h210 := m10.row h2' no
  obtain ⟨p1, p2⟩ := h210.put1 (j := 1) (v := .slice s9.a s9.n s9.c) (by simp) rfl
  have z10 := m10.size
  have pb : ∀ j : Nat, o < j → pblk (padd (some ⟨o, 0, none⟩) 1) ≠ some j := fun j hj e => by
   rw [pblk_padd] at e
   have : o = j := by simpa [pblk] using e
   omega
  refine ⟨(m10.same w.heap.size (by omega) (fun e => by have := hscb _ e; omega)).trans ((Ext.al w5.drew _).heap (show w.heap.size < w5.heap.size by omega)).symm, f1, ⟨rfl, p1⟩, pb _ (by omega), pb _ (show o < w5.heap.size by omega), fun w11 e11 => ⟨rfl, ?_⟩⟩
  obtain ⟨q1, q2⟩ := p2 w11 e11
  have ho9 : ∀ b, s9.blk = some b → b ≠ o := fun b hb => by
   obtain ⟨cs', hr'⟩ := own_row ho10 (by decide) hb
   exact hr'.ne h210 (by decide)
  have m11 : Mod (fun j => j = o ∨ sc.blk = some j) w5 w11 := (m10.mono fun i _ hi => .inr hi).trans (q2.mono fun i _ hi => .inl hi)
  have hF11 : TF F' w11 t seed limit (T.1, (setE T.2 c b).1) := hF'.keep m11 fun i hi e => by
   rcases e with e | e
   ·exact hF'.no_row h2' (by decide) (e ▸ hi)
   ·obtain ⟨cs', hr'⟩ := own_row h3' (by decide) e
    exact hF'.no_row hr' (by decide) hi
  refine ⟨_, ⟨F', s9, hF11, q1, ?_, rfl⟩, tt.trans ⟨m11.mono fun i _ hi => .inr hi, fun i hi => ?_⟩⟩
  ·rw [List.map_append]
   exact q2.ownK ho10 ho9
  ·rcases hi with hi | hi | hi
   ·exact .inl (.inl hi)
   ·exact .inl (.inr (.inl hi))
   ·rcases hblk with e | e
    ·exact .inl (.inr (.inr (by rw [← e]; exact hi)))
    ·rw [e] at hi; cases hi; exact .inr (show w5.heap.size ≤ w5.heap.size + 1 by omega)
 ·simp only [bne_eq_false_iff_eq] at hb2
  have ec : wsC T.2 ch c b = ch := by unfold wsC; rw [if_neg fun h => h.2 hb2]
  rw [ec]
  exact ⟨rfl, _, ⟨F', sc, hF', h2', h3', rfl⟩, tt⟩
 ·simp only [beq_eq_false_iff_ne] at hb
  have ec : wsC T.2 ch c b = ch := by unfold wsC; rw [if_neg fun h => hb h.1]
  rw [ec]
  exact ⟨rfl, _, ⟨F', sc, hF', h2', h3', rfl⟩, tt⟩
end Go.Proofs.YtjcnjlaelhdjeaaGreatDoor
namespace Go.Proofs.YtjcnjlaelhdjeaaGreatDoor
open Go Go.Vc Go.RowKit Go.Proofs Go.Chk Go.Runs Go.Code Go.Flw
def Tl (v : Value) (V : Ce → Int) (w : World) : Prop := ∃ D : Nat → Prop, (∀ i, D i → i < w.heap.size) ∧ ∀ w', (∀ i, D i → w'.heap[i]? = w.heap[i]?) → ∀ c, okC c → callV Tryz.prog v [cev c] w' fun e w'' => e = .returned (.int .i64 (V c)) ∧ Ext w' w''
theorem Tl.ext {v : Value} {V : Ce → Int} {w w' : World} (h : Tl v V w) (x : Ext w w') : Tl v V w' := by
 obtain ⟨D, h1, h2⟩ := h
 exact ⟨D, fun i hi => Nat.lt_of_lt_of_le (h1 i hi) x.size, fun w'' hk => h2 w'' fun i hi => (hk i hi).trans (x.heap (h1 i hi))⟩
theorem Tl.at {v : Value} {V : Ce → Int} {w : World} (h : Tl v V w) {c : Ce} (hc : okC c) : callV Tryz.prog v [cev c] w fun e w' => e = .returned (.int .i64 (V c)) ∧ Ext w w' := by
 obtain ⟨D, h1, h2⟩ := h
 exact h2 w (fun _ _ => rfl) c hc
theorem callV_mono' {v : Value} {l : List Value} {w : World} {R R' : Ending → World → Prop} (h : callV Tryz.prog v l w R) (k : ∀ e w', R e w' → R' e w') : callV Tryz.prog v l w R' := callV_mono h k
theorem app_grow {E k n : Nat} {w w' : World} {s s' : Sl} {news : List Value} (h : AppRes E k w s n news s' w') (hc : s.c < s.n + n) : Ext w w' := by
 cases h with
 | fits hf => omega
 | grows => exact (Ext.dr w).tr (Ext.al _ _)
set_option maxRecDepth 100000 in
theorem Wakes_spec {v : Value} {V : Ce → Int} {w : World} (hV : Tl v V w) (c : Ce) (hc : wideC c) :
  Calls Tryz.prog n_flow_Wakes #[v, cev c] w fun e w' => ∃ s : Sl, e = .returned (.slice s.a s.n s.c) ∧ OwnK w.heap.size tCe 3 w' s ((wakesK V c).map clv) ∧ Ext w w' := by
 apply flow_Wakes.vc
 intro w0 e0
 have x0 : Ext w w0 := (Ext.rfl' _).of_alloc e0
 have z0 : w0.heap.size = w.heap.size + 1 := by rw [e0]; simp
 clear e0
 refine (Near_spec c hc w0).mono ?_
 rintro e w1 ⟨rfl, x1⟩
 have z1 := x1.size
 refine ⟨_, _, _, _, _, _, _, _, _, _, _, _, _, _, _, _, _, _, rfl, x1.heap (by omega), fun w20 e20 => ?_⟩
 have x20 : Ext w1 w20 := (Ext.rfl' _).of_alloc e20
 have z20 : w20.heap.size = w1.heap.size + 1 := by rw [e20]; simp
 have hr : Row w20 w1.heap.size [.int .i64 0, .int .i64 0, .int .i64 0, .int .i64 0, .int .i64 0, .int .i64 0, .int .i64 0, .int .i64 0, .int .i64 0, .int .i64 0, .int .i64 0, .int .i64 0, .int .i64 0, .int .i64 0, .int .i64 0, .int .i64 0, .int .i64 0, .int .i64 0] 266 := by rw [e20]; exact Row.new w1 [_, _, _, _, _, _, _, _, _, _, _, _, _, _, _, _, _, _] _
 clear e20
 refine ⟨⟨rfl, hr.wr (by simp)⟩, fun e => by
  have : w1.heap.size = w.heap.size := by simpa [pblk] using e
  omega, fun w21 e21 w22 e22 => ?_⟩
 have e21 : w21 = setP w20 (some ⟨w1.heap.size, 0, none⟩) (nbV c) := e21
 rw [hr.setP (vs := nbV c) (by simp) (one_nb c), putCells_all (by simp)] at e21
 have hr2 : Row w21 w1.heap.size (nbV c) 266 := by rw [e21]; exact hr.set _
 have x21 : Ext w w21 := (x0.tr (x1.tr x20)).of_setRow e21 (by omega)
 have z21 : w21.heap.size = w20.heap.size := by rw [e21]; simp
 clear e21
 have xd := Ext.dr w21
 have zd : w21.drew.heap.size = w21.heap.size := rfl
 have x22 : Ext w21.drew w22 := (Ext.rfl' _).of_alloc e22
 have z22 : w22.heap.size = w21.heap.size + 1 := by rw [e22]; simp
 have hc22 : Row w22 w21.drew.heap.size (clv c) tCe := by rw [e22]; exact Row.new w21.drew [_, _, _] _
 clear e22
 have x022 := x21.tr (xd.tr x22)
 have hr22 := hr2.ext (xd.tr x22)
 have ho : OwnK w.heap.size tCe 3 w22 ⟨some ⟨w21.drew.heap.size, 0, none⟩, 1, 1⟩ [clv c] := OwnK.of_row (by omega) hc22 (by simp) (Nat.le_refl _) rfl (by simp)
 have ha := ho.appN (bytes := 24) (more := (nbK c).map clv) (by omega) (fun r hr => by obtain ⟨y, -, rfl⟩ := List.mem_map.1 hr; rfl) (fun r hr => by obtain ⟨y, -, rfl⟩ := List.mem_map.1 hr; exact one_cl y) (by simp [nbK]) (by simp [nbK])
 obtain ⟨hp, hres⟩ := ha
 refine ⟨((nbK c).map clv).flatten, ?_, hp, fun s24 w25 hr25 => ?_⟩
 ·rw [slBase_zero]
  intro i u hu
  exact hr22.at i (by rw [nbV_rows]; exact hu)
 obtain ⟨ho25, hn25, -, -, -⟩ := hres s24 w25 hr25
 have x25 : Ext w22 w25 := app_grow hr25 (show (1 : Nat) < 1 + (6 - 0) by decide)
 have z25 := x25.size
 have x025 : Ext w w25 := x022.tr x25
 have ho25 : OwnK w.heap.size tCe 3 w25 s24 ((c :: nbK c).map clv) := ho25
 have hrd := ho25.rd (show 0 < 3 by decide)
 have hn24 : s24.n = 7 := hrd.n
 refine ⟨x25.heap (by omega), x25.heap (by omega), fun n x s30 w31 => ∃ j : Nat, x = j ∧ j + n = 7 ∧ OwnK w25.heap.size tCe 3 w31 s30 ((((c :: nbK c).take j).filter fun n => decide (0 < delayK (V n))).map clv) ∧ Ext w25 w31, ⟨7, rfl, rfl, 0, rfl, rfl, OwnK.nil, Ext.rfl' _⟩, ?_⟩
 rintro n us x s30 w31 ⟨j, rfl, hj, ho31, x31⟩
 have z31 := x31.size
 refine Br.mk (fun hb => ?_) (fun hb => ?_)
 ·simp only [decide_eq_true_eq] at hb
  obtain ⟨y, hy⟩ := get_lt (l := c :: nbK c) (i := j) (by have : (c :: nbK c).length = 7 := rfl; omega)
  have hym : y ∈ c :: nbK c := List.mem_of_getElem? hy
  have oky : okC y := by
   rcases List.mem_cons.1 hym with rfl | h
   ·exact hc.ok
   ·exact nb_ok hc h
  have hy' : ((c :: nbK c).map clv)[j]? = some (clv y) := by rw [List.getElem?_map, hy]; rfl
  have htk : (c :: nbK c).take (j + 1) = (c :: nbK c).take j ++ [y] := by rw [List.take_add_one, hy]; rfl
  refine ⟨hrd.inB (i := (j : Int)) (by decide) (by omega) hb, _, _, _, (hrd.ext x31).loadL hy', fun w36 e36 w37 e37 => ?_⟩
  have x37 : Ext w31 w37 := ((Ext.rfl' _).of_alloc e36).of_setRow e37 (Nat.le_refl _)
  have z37 : w37.heap.size = w31.heap.size + 1 := by rw [e37, e36]; simp
  clear e36 e37
  refine callV_mono' ((hV.ext (x025.tr (x31.tr x37))).at oky) ?_
  rintro e w38 ⟨rfl, x38⟩
  have z38 := x38.size
  refine ⟨_, rfl, x38.heap (by omega), x38.heap (by omega), x38.heap (by omega), (Delay_spec (V y) w38).mono ?_⟩
  rintro e w40 ⟨rfl, rfl⟩
  have wk : IntKind.wrap .i64 ((j : Int) + 1) = ((j + 1 : Nat) : Int) := by rw [wrap_in (by unfold inI; omega)]; omega
  refine ⟨_, rfl, rfl, rfl, rfl, ?_⟩
  have ho40 := ho31.ext (x37.tr x38)
  refine Br.mk (fun hd => ?_) (fun hd => ?_)
  ·intro w42 e42
   subst e42
   have hn30 : s30.n ≤ 7 := by
    have h1 := (ho31.rd (show 0 < 3 by decide)).n
    have h2 := List.length_filter_le (fun n => decide (0 < delayK (V n))) ((c :: nbK c).take j)
    rw [List.length_map] at h1
    rw [List.length_take] at h2
    omega
   obtain ⟨hp8, hres8⟩ := ho40.app1 (bytes := 24) (news := clv y) (.cells #[.int .i64 y.1, .int .i64 y.2.1, .int .i64 y.2.2] tCe) (by omega) rfl (one_cl y) (by omega) (by omega)
   refine ⟨hp8, fun s43 w44 hr44 => ?_⟩
   obtain ⟨f8, ho8, hn8, x8, hk8, -⟩ := hres8 s43 w44 hr44
   have xa := Ext.al w40 (.cells #[.int .i64 y.1, .int .i64 y.2.1, .int .i64 y.2.2] tCe)
   have hb30 : ∀ b, s30.blk = some b → w25.heap.size ≤ b ∧ b < w31.heap.size := fun b hb => ho31.own.lt hb
   have kp : ∀ j, (j < w25.heap.size ∨ w31.heap.size ≤ j) → j < w40.heap.size → w44.heap[j]? = (w40.alloc (.cells #[.int .i64 y.1, .int .i64 y.2.1, .int .i64 y.2.2] tCe)).heap[j]? := fun j hj hj2 => by
    rw [hk8 j (fun hb => by have := hb30 j hb; omega) hj2, xa.heap hj2]
   refine ⟨kp _ (.inl (by omega)) (by omega), kp _ (.inl (by omega)) (by omega), kp _ (.inr (by omega)) (by omega), f8, n - 1, by omega, rfl, rfl, j + 1, wk, by omega, ?_, (Below.trans (x31.tr (x37.tr x38)) x8 : Below w25.heap.size w25 w44)⟩
   rw [htk, List.filter_append, List.map_append, List.filter_cons_of_pos (by simpa using hd)]
   exact ho8
  ·refine ⟨n - 1, by omega, rfl, rfl, j + 1, wk, by omega, ?_, x31.tr (x37.tr x38)⟩
   rw [htk, List.filter_append, List.map_append, List.filter_cons_of_neg (by simpa using hd)]
   simpa using ho40
 ·simp only [decide_eq_false_iff_not] at hb
  have hj7 : (c :: nbK c).take j = c :: nbK c := List.take_of_length_le (by have : (c :: nbK c).length = 7 := rfl; omega)
  rw [hj7] at ho31
  exact ⟨s30, rfl, ho31.low (by omega), x025.tr x31⟩
end Go.Proofs.YtjcnjlaelhdjeaaGreatDoor
namespace Go.Proofs.YtjcnjlaelhdjeaaGreatDoor
open Go Go.Vc Go.RowKit Go.Proofs Go.Chk Go.Runs Go.Code
section
variable {N F F' : Nat → Prop} {w w' v v' : World} {s1 s2 s3 s4 : Sl} {T T' : Tb} {ch ch' : List Cg} {seed cap limit : Int} {o t a b m n k : Nat}
theorem wfLoad_spec (h : WF F w o t seed limit T ch) (hW : T.1.l.length ≤ 1000000) (p : Po) :
  Calls Tryz.prog n_table_Table_Load #[.pointer (some ⟨t, 0, none⟩), pv p] w fun e w' => e = .returned (.int .i64 (ldE seed limit T.1 T.2 p).2) ∧ WRes F w o t seed limit (ldE seed limit T.1 T.2 p).1 ch w' := by
 obtain ⟨F1, hT, -, hres⟩ := h.table
 refine (tfLoad_spec hT hW p).mono ?_
 rintro e w' ⟨rfl, hr⟩
 exact ⟨rfl, hres hr⟩
theorem wfAt_spec (h : WF F w o t seed limit T ch) (c : Ce) (hc : okC c) :
  Calls Tryz.prog n_table_Table_At #[.pointer (some ⟨t, 0, none⟩), cev c] w fun e w' => e = .returned (.int .i64 (atE T.2 c)) ∧ Ext w w' := by
 obtain ⟨F1, hT, -⟩ := h.table
 exact tfAt_spec hT c hc
set_option maxRecDepth 100000 in
theorem WF.tells {F : Nat → Prop} {w : World} {T : Tb} {ch : List Cg} {seed limit : Int} {o t : Nat} (h : WF F w o t seed limit T ch) {w' : World} (hk : ∀ i, F i → w'.heap[i]? = w.heap[i]?) (c : Ce) (hc : okC c) :
  callV Tryz.prog (.func (.func n_table_Table_At) #[.pointer (some ⟨t, 0, none⟩)] #[]) [cev c] w' fun e w'' => e = .returned (.int .i64 (atE T.2 c)) ∧ Ext w' w'' :=
 callV_of (by kernel_rfl) rfl (wfAt_spec (h.same hk) c hc)
end
theorem Lo.wv {w : World} {g : Nat} {cs : List Value} {τ : TypeId} (h : Row w g cs τ) : LoadL w (some ⟨g, 0, none⟩) 0 cs := h.loadL (fun j hj => by rw [Nat.zero_add])
end Go.Proofs.YtjcnjlaelhdjeaaGreatDoor
