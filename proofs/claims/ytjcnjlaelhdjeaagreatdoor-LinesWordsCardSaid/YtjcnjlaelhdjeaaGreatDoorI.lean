import Derived.Test.YtjcnjlaelhdjeaaGreatDoorH
import Derived.Test.YtjcnjlaelhdjeaaGreatDoorE
import Derived.Test.YtjcnjlaelhdjeaaGreatDoorC
import Derived.Laws.IdiomRangeMap
import Derived.LoopTactic
set_option linter.all false
namespace Go.Proofs.YtjcnjlaelhdjeaaGreatDoor.Q
open Go Go.Vc Go.RowKit Go.Proofs Go.Que
set_option maxRecDepth 100000
def Foot (g m : Nat) (s : Sl) : Nat → Prop := fun i => i = g ∨ i = m ∨ s.blk = some i
abbrev qcells (q : QS) (s : Sl) (m : Nat) : List Value := [.int .i64 q.room, .int .i64 q.lost, .slice s.a s.n s.c, .map (some m)]
def Ticks (kvs : List (Value × Value)) (l : List It) : Prop := (∀ c t, (cv c, tv t) ∈ kvs ↔ (t, c) ∈ l) ∧ ∀ e ∈ kvs, ∃ c t, e = (cv c, tv t)
structure QIs (w : World) (g m : Nat) (s : Sl) (q : QS) : Prop where
 row : Row w g (qcells q s m) tQueue
 own : OwnK 0 tItem 4 w s (q.l.map itv)
 map : ∃ kvs, MapIs GC w (some m) kvs ∧ Ticks kvs q.l
theorem QIs.no_row {w : World} {g m : Nat} {s : Sl} {q : QS} (h : QIs w g m s q) {b : Nat} {cs : List Value} {E : TypeId} (hb : Row w b cs E) (h1 : E ≠ tQueue) (h2 : E ≠ tItem) : ¬ Foot g m s b := by
 rintro (rfl | rfl | e)
 ·exact hb.ne h.row h1 rfl
 ·obtain ⟨kvs, hm, -⟩ := h.map
  exact hb.ne_map hm rfl
 ·obtain ⟨cs', hr⟩ := own_row h.own (by decide) e
  exact hb.ne hr h2 rfl
theorem QIs.no_own {w : World} {g m : Nat} {s : Sl} {q : QS} (h : QIs w g m s q) {B E k : Nat} {s' : Sl} {rows : List (List Value)} (ho : OwnK B E k w s' rows) (hk : 0 < k) (h1 : E ≠ tQueue) (h2 : E ≠ tItem) : ∀ b, s'.blk = some b → ¬ Foot g m s b := fun b hb => by
 obtain ⟨cs, hr⟩ := own_row ho hk hb
 exact h.no_row hr h1 h2
theorem QIs.lt {w : World} {g m : Nat} {s : Sl} {q : QS} (h : QIs w g m s q) : ∀ i, Foot g m s i → i < w.heap.size := by
 rintro i (rfl | rfl | e)
 ·exact h.row.lt
 ·obtain ⟨kvs, hm, -⟩ := h.map
  exact hm.lt
 ·exact (h.own.own.lt e).2
theorem QIs.keep {w w' : World} {g m : Nat} {s : Sl} {q : QS} (h : QIs w g m s q) {F : Nat → Prop} (hm : Mod F w w') (hn : ∀ i, Foot g m s i → ¬ F i) : QIs w' g m s q := by
 obtain ⟨kvs, h1, h2⟩ := h.map
 exact ⟨hm.row h.row (hn g (.inl rfl)), hm.ownK h.own fun b hb => hn b (.inr (.inr hb)), kvs, hm.map h1 (hn m (.inr (.inl rfl))), h2⟩
theorem QIs.ext {w w' : World} {g m : Nat} {s : Sl} {q : QS} (h : QIs w g m s q) (x : Ext w w') : QIs w' g m s q :=
 h.keep (F := fun _ => False) ⟨x.os, x.tape, x.output, x.size, fun i hi _ => x.heap hi⟩ fun _ _ hf => hf
theorem New_spec (room : Int) (w : World) : Calls Tryz.prog n_queue_New #[.int .i64 room] w fun e w' => ∃ g m, e = .returned (.pointer (some ⟨g, 0, none⟩)) ∧ QIs w' g m ⟨none, 0, 0⟩ ⟨min (max room 1) 4096, 0, []⟩ ∧ Ext w w' ∧ w.heap.size ≤ g ∧ w.heap.size ≤ m := by
 apply queue_New.vc
 intro w0 e0 w1 e1
 have hm : MapIs GC w0 (some w.heap.size) [] := by rw [e0]; exact MapIs.new
 have x1 : Ext w0 w1 := (Ext.rfl' _).of_alloc e1
 refine ⟨w0.heap.size, w.heap.size, rfl, ⟨?_, OwnK.nil, [], ?_, by simp [Ticks]⟩, ((Ext.rfl' _).of_alloc e0).tr x1, ?_, Nat.le_refl _⟩
 ·have : (min (max room 1) 4096) = (if 4096 < (if 1 > room then 1 else room) then 4096 else (if 1 > room then 1 else room)) := by
   split <;> split <;> omega
  rw [e1, this]
  exact Row.new w0 [_, _, _, _] _
 ·exact hm.same (x1.heap hm.lt)
 ·rw [e0]; simp
end Go.Proofs.YtjcnjlaelhdjeaaGreatDoor.Q
namespace Go.Proofs.YtjcnjlaelhdjeaaGreatDoor.Q
open Go Go.Vc Go.RowKit Go.Proofs Go.Que
set_option maxRecDepth 100000
end Go.Proofs.YtjcnjlaelhdjeaaGreatDoor.Q
namespace Go.Proofs.YtjcnjlaelhdjeaaGreatDoor.Q
open Go Go.Vc Go.RowKit Go.Proofs Go.Que
set_option maxRecDepth 100000
end Go.Proofs.YtjcnjlaelhdjeaaGreatDoor.Q
namespace Go.Proofs.YtjcnjlaelhdjeaaGreatDoor.Q
open Go Go.Vc Go.RowKit Go.Proofs Go.Que
set_option maxRecDepth 100000
end Go.Proofs.YtjcnjlaelhdjeaaGreatDoor.Q
namespace Go.Proofs.YtjcnjlaelhdjeaaGreatDoor
open Go Go.Vc Go.RowKit Go.Proofs Go.Chk Go.Runs Go.Code
theorem crcStep_spec (v : W16) (w : World) : Calls Tryz.prog n_crc_steps_1 #[.int .u16 (cI v)] w fun e w' => e = .returned (.int .u16 (cI (st1 v))) ∧ w' = w := by
 apply crc_steps_1.vc
 have e1 : IntKind.wrap .u16 (cI v * 2 ^ (min (1 : Int).toNat 16)) = cI (v <<< 1) := w_shl v 1
 have e2 : bAnd .u16 (cI v) 32768 = cI (v &&& 0x8000#16) := bAnd16 v 0x8000#16
 have e3 : bXor .u16 (cI (v <<< 1)) 4129 = cI ((v <<< 1) ^^^ 0x1021#16) := bXor16 _ 0x1021#16
 refine Br.mk (fun h => ?_) (fun h => ?_)
 ·rw [e2] at h
  have hm : v.msb = true := by
   cases q : v.msb with
   | true => rfl
   | false => rw [(and_msb v).2 q] at h; simp at h
  rw [e1, e3]
  unfold st1
  rw [if_pos hm]; exact ⟨rfl, rfl⟩
 ·rw [e2] at h
  have hm : v.msb = false := (and_msb v).1 (by simpa using h)
  rw [e1]
  unfold st1
  rw [hm]; exact ⟨rfl, rfl⟩
abbrev tA16 : TypeId := 417
abbrev tA2 : TypeId := 396
def itS : Nat → W16 → W16
 | 0, v => v
 | k + 1, v => st1 (itS k v)
theorem crcSteps_spec (w : World) : Calls Tryz.prog n_crc_steps #[] w fun e w' => e = .returned (.agg tS.toArray) ∧ Ext w w' := by
 apply crc_steps.vc
 intro w0 e0 w1 e1
 have z0 : w0.heap.size = w.heap.size + 1 := by rw [e0]; simp
 have x1 : Ext w w1 := ((Ext.rfl' w).of_alloc e0).of_alloc e1
 have ha : Row w1 w.heap.size (tT 0) tA16 := (by rw [e0]; exact Row.new w (tT 0) _ : Row w0 w.heap.size (tT 0) tA16).ext ((Ext.rfl' _).of_alloc e1)
 have hb : Row w1 w0.heap.size (tT 0) tA16 := by rw [e1]; exact Row.new w0 (tT 0) _
 clear e0 e1
 refine ⟨fun n i wr => ∃ k : Nat, i = k ∧ k + n = 16 ∧ Row wr w.heap.size (tT 0) tA16 ∧ Row wr w0.heap.size (tT k) tA16 ∧ Ext w wr, ⟨16, 0, rfl, rfl, ha, hb, x1⟩, ?_⟩
 rintro n3 us4 x5 w6 ⟨k, rfl, hk, ha6, hb6, x6⟩
 refine Br.mk (fun hc => ?_) (fun hc => ?_)
 ·simp only [decide_eq_true_eq] at hc
  have ek : IntKind.wrap .u16 (IntKind.wrap .u16 (k : Int) * 2 ^ (min (12 : Int).toNat 16)) = cI (byW (k : Int) <<< 12) := by
   have : IntKind.wrap .u16 (k : Int) = cI (byW (k : Int)) := by rw [cI_byW (by omega), wrap_u16]; omega
   rw [this]; exact w_shl _ 12
  rw [ek]
  refine ⟨fun n j c wr => ∃ m : Nat, j = m ∧ m + n = 4 ∧ c = cI (itS m (byW (k : Int) <<< 12)) ∧ wr = w6, ⟨4, 0, rfl, rfl, rfl, rfl⟩, ?_⟩
  rintro n9 us10 x11 x12 w13 ⟨m, rfl, hm, rfl, rfl⟩
  refine Br.mk (fun hc2 => ?_) (fun hc2 => ?_)
  ·simp only [decide_eq_true_eq] at hc2
   have wk : IntKind.wrap .i64 ((m : Int) + 1) = ((m + 1 : Nat) : Int) := by rw [wrap_in (by unfold inI; omega)]; omega
   refine (crcStep_spec _ _).mono ?_
   rintro e w15 ⟨rfl, hw⟩
   exact ⟨_, rfl, n9 - 1, by omega, m + 1, wk, by omega, rfl, hw⟩
  ·simp only [decide_eq_false_iff_not] at hc2
   have hm4 : m = 4 := by omega
   subst hm4
   have wk : IntKind.wrap .i64 ((k : Int) + 1) = ((k + 1 : Nat) : Int) := by rw [wrap_in (by unfold inI; omega)]; omega
   have hlen : (tT k).length = 16 := by
    unfold tT; rw [List.length_append, List.length_take, List.length_replicate]; simp [tS]; omega
   obtain ⟨p1, p2⟩ := hb6.put1 (j := k) (v := tv k) (by omega) rfl
   have hj : ((k : Int)).toNat * 1 = k := by omega
   rw [hj]
   refine ⟨by omega, by omega, ⟨rfl, p1⟩, fun w17 e17 => ?_⟩
   obtain ⟨q1, q2⟩ := p2 w17 e17
   rw [show putCells (tT k) k [tv k] = (tT k).set k (tv k) from rfl, tT_set (by omega)] at q1
   exact ⟨n3 - 1, by omega, k + 1, wk, by omega, q2.row ha6 (by have := x1.size; omega), q1, q2.ext x6 (by intro i hi; omega)⟩
 ·simp only [decide_eq_false_iff_not] at hc
  have : k = 16 := by omega
  subst this
  have hl : LoadL w6 (some ⟨w0.heap.size, 0, none⟩) 0 tS := hb6.loadL fun j hj => by rw [Nat.zero_add]; rfl
  have hs := ha6.setP (o := 0) (vs := tS) (by decide) (by intro v hv; simp only [tS, List.mem_cons, List.not_mem_nil, or_false] at hv; rcases hv with rfl | rfl | rfl | rfl | rfl | rfl | rfl | rfl | rfl | rfl | rfl | rfl | rfl | rfl | rfl | rfl <;> rfl)
  refine ⟨_, _, _, _, _, _, _, _, _, _, _, _, _, _, _, _, hl, ⟨rfl, ha6.wr (o := 0) (n := 16) (by decide)⟩, fun w34 e34 => ?_⟩
  have e34' : w34 = w6.setRow w.heap.size tS.toArray := e34.trans hs
  have hr : Row w34 w.heap.size tS tA16 := by rw [e34']; exact ha6.set tS
  have hl2 : LoadL w34 (some ⟨w.heap.size, 0, none⟩) 0 tS := hr.loadL fun j hj => by rw [Nat.zero_add]
  exact ⟨_, _, _, _, _, _, _, _, _, _, _, _, _, _, _, _, hl2, rfl, x6.of_setRow e34' (Nat.le_refl _)⟩
theorem crcWith_spec (v : W16) (s : Sl) (b : List Int) (w : World) (hs : RdY w s b) (hb : Bys b) (hn : (b.length : Int) ≤ 1099511627776) : Calls Tryz.prog n_crc_Check_With #[.int .u16 (cI v), .slice s.a s.n s.c] w fun e w' => e = .returned (.int .u16 (cI (crcF v b))) ∧ Ext w w' := by
 apply (crc_Check_With.vc (a1 := s))
 refine (crcSteps_spec w).mono ?_
 rintro e w0 ⟨rfl, x0⟩
 refine ⟨_, _, _, _, _, _, _, _, _, _, _, _, _, _, _, _, rfl, fun w17 e17 => ?_⟩
 have hr17 : Row w17 w0.heap.size (tT 0) tA16 := by rw [e17]; exact Row.new w0 (tT 0) _
 have hS := hr17.setP (o := 0) (vs := tS) (by decide) (by intro v hv; simp only [tS, List.mem_cons, List.not_mem_nil, or_false] at hv; rcases hv with rfl | rfl | rfl | rfl | rfl | rfl | rfl | rfl | rfl | rfl | rfl | rfl | rfl | rfl | rfl | rfl <;> rfl)
 refine ⟨⟨rfl, hr17.wr (o := 0) (n := 16) (by decide)⟩, fun w18 e18 => ?_⟩
 have e18' : w18 = w17.setRow w0.heap.size tS.toArray := e18.trans hS
 have hr : Row w18 w0.heap.size tS tA16 := by rw [e18']; exact hr17.set tS
 have x18 : Ext w w18 := x0.tr (((Ext.rfl' _).of_alloc e17).of_setRow e18' (Nat.le_refl _))
 clear e18 e18' hS hr17 e17
 have hs18 := hs.ext x18
 have hsn := hs.n
 rw [List.length_map] at hsn
 refine ⟨fun n i c wr => ∃ k : Nat, i = k ∧ k + n = b.length ∧ c = cI (crcF v (b.take k)) ∧ wr = w18, ⟨b.length, 0, rfl, by omega, rfl, rfl⟩, ?_⟩
 rintro n us i c wr ⟨k, rfl, hk, rfl, rfl⟩
 refine Br.mk (fun hc => ?_) (fun hc => ?_)
 ·simp only [decide_eq_true_eq] at hc
  obtain ⟨x, hx⟩ := get_lt (l := b) (i := k) (by omega)
  have hxb := hb x (List.mem_of_getElem? hx)
  have hm : (b.map yv)[k]? = some [.int .u8 x] := by rw [List.getElem?_map, hx]; rfl
  have hld := hs18.at hm (j := 0) rfl
  rw [padd_zero] at hld
  have wk : IntKind.wrap .i64 ((k : Int) + 1) = ((k + 1 : Nat) : Int) := by rw [wrap_in (by unfold inI; omega)]; omega
  have ht : b.take (k + 1) = b.take k ++ [x] := by rw [List.take_add_one, hx]; rfl
  generalize hu : crcF v (b.take k) = u
  refine ⟨hs18.inB (by decide) (by omega) hc, x, hld, ?_⟩
  have m1 : (min (12 : Int).toNat 16) = 12 := rfl
  have m2 : (min (4 : Int).toNat 8) = 4 := rfl
  have m3 : (min (4 : Int).toNat 16) = 4 := rfl
  rw [m1, m2, m3, w_shr, w_hi hxb, bXor16, w_lo hxb, w_shl]
  have l1 := nib_lt (shr_lt u) (hi_lt hxb)
  have g1 := tS_at l1
  have c1 := cI_bd ((u >>> 12) ^^^ (byW x >>> 4))
  have c1' : cI ((u >>> 12) ^^^ (byW x >>> 4)) < 16 := by unfold cI; omega
  refine ⟨by omega, by omega, _, (by rw [padd_row, Nat.zero_add, hr.ld, Nat.mul_one]; exact g1), ?_⟩
  rw [bXor16, w_shr, bXor16, w_shl]
  have l2 := nib_lt (shr_lt ((u <<< 4) ^^^ st4 (((u >>> 12) ^^^ (byW x >>> 4)) <<< 12))) (lo_lt (byW x))
  have g2 := tS_at l2
  have c2 := cI_bd ((((u <<< 4) ^^^ st4 (((u >>> 12) ^^^ (byW x >>> 4)) <<< 12)) >>> 12) ^^^ (byW x &&& 15#16))
  have c2' : cI ((((u <<< 4) ^^^ st4 (((u >>> 12) ^^^ (byW x >>> 4)) <<< 12)) >>> 12) ^^^ (byW x &&& 15#16)) < 16 := by unfold cI; omega
  refine ⟨by omega, by omega, _, (by rw [padd_row, Nat.zero_add, hr.ld, Nat.mul_one]; exact g2), n - 1, by omega, k + 1, wk, by omega, ?_, rfl⟩
  rw [bXor16, with_byte u hxb, ht, crcF_append, hu]
  rfl
 ·simp only [decide_eq_false_iff_not] at hc
  rw [List.take_of_length_le (by omega)]
  exact ⟨rfl, x18⟩
theorem crcOf_spec (s : Sl) (b : List Int) (w : World) (hs : RdY w s b) (hb : Bys b) (hn : (b.length : Int) ≤ 1099511627776) : Calls Tryz.prog n_crc_Of #[.slice s.a s.n s.c] w fun e w' => e = .returned (.int .u16 (cI (crcB b))) ∧ Ext w w' := by
 apply (crc_Of.vc (a0 := s))
 have st : Calls Tryz.prog n_crc_Start #[] w fun e w' => e = .returned (.int .u16 (cI 0xFFFF#16)) ∧ w' = w := by
  apply crc_Start.vc
  exact ⟨rfl, rfl⟩
 refine st.mono ?_
 rintro e w0 ⟨rfl, rfl⟩
 refine ⟨_, rfl, (crcWith_spec _ s b w0 hs hb hn).mono ?_⟩
 rintro e w2 ⟨rfl, x2⟩
 exact ⟨_, rfl, rfl, x2⟩
theorem crcGood_spec (s : Sl) (b : List Int) (w : World) (hs : RdY w s b) (hb : Bys b) (hn : (b.length : Int) ≤ 1099511627776) : Calls Tryz.prog n_crc_Good #[.slice s.a s.n s.c] w fun e w' => e = .returned (.bool (decide (2 ≤ b.length ∧ crcB b = 0#16))) ∧ Ext w w' := by
 apply (crc_Good.vc (a0 := s))
 have hsn := hs.n
 rw [List.length_map] at hsn
 refine Br.mk (fun h => ?_) (fun h => ?_)
 ·simp only [ge_iff_le, decide_eq_true_eq] at h
  refine (crcOf_spec s b w hs hb hn).mono ?_
  rintro e w0 ⟨rfl, x0⟩
  refine ⟨_, rfl, ?_, x0⟩
  have : (cI (crcB b) == 0) = decide (2 ≤ b.length ∧ crcB b = 0#16) := by
   rw [Bool.eq_iff_iff]
   simp only [beq_iff_eq, decide_eq_true_eq]
   constructor
   ·intro q; exact ⟨by omega, cI_inj.1 (q.trans rfl)⟩
   ·rintro ⟨-, q⟩; rw [q]; rfl
  rw [this]
 ·simp only [ge_iff_le, decide_eq_false_iff_not] at h
  rw [decide_eq_false (by omega)]
  exact ⟨rfl, Ext.rfl' _⟩
theorem crcBytes_spec (v : W16) (w : World) : Calls Tryz.prog n_crc_Check_Bytes #[.int .u16 (cI v)] w fun e w' => e = .returned (.agg #[.int .u8 (cI v / 256), .int .u8 (cI v % 256)]) ∧ Ext w w' := by
 apply crc_Check_Bytes.vc
 intro w0 e0
 have hb := cI_bd v
 have h0 : Row w0 w.heap.size [.int .u8 0, .int .u8 0] tA2 := by rw [e0]; exact Row.new w [_, _] _
 have e1 : IntKind.wrap .u8 ((cI v).fdiv (2 ^ (min (8 : Int).toNat 16))) = cI v / 256 := by
  show IntKind.wrap .u8 ((cI v).fdiv (2 ^ 8)) = _
  rw [w_shr, cI_shr, wrap_u8]
  simp only [show (2 : Int) ^ 8 = 256 from rfl]; omega
 have e2 : IntKind.wrap .u8 (cI v) = cI v % 256 := wrap_u8 _
 rw [e1, e2]
 have hS := h0.setP (o := 0) (vs := [.int .u8 (cI v / 256), .int .u8 (cI v % 256)]) (Nat.le_refl 2) (one_ii _ _ _ _)
 refine ⟨⟨rfl, h0.wr (o := 0) (n := 2) (by decide)⟩, fun w1 e1 => ?_⟩
 have e1' : w1 = w0.setRow w.heap.size #[.int .u8 (cI v / 256), .int .u8 (cI v % 256)] := e1.trans hS
 have h1 : Row w1 w.heap.size [.int .u8 (cI v / 256), .int .u8 (cI v % 256)] tA2 := by rw [e1']; exact h0.set _
 exact ⟨_, _, h1.loadL (fun j hj => by rw [Nat.zero_add]), rfl, ((Ext.rfl' w).of_alloc e0).of_setRow e1' (Nat.le_refl _)⟩
end Go.Proofs.YtjcnjlaelhdjeaaGreatDoor
namespace Go.Proofs.YtjcnjlaelhdjeaaGreatDoor
open Go Go.Vc Go.RowKit Go.Proofs Go.Chk Go.Runs Go.Code
abbrev tSB : TypeId := 43
theorem RdY.n {w : World} {s : Sl} {b : List Int} (h : RdY w s b) : s.n = b.length := by have := RdK.n h; rwa [List.length_map] at this
theorem yv_wd {b : List Int} : ∀ r ∈ b.map yv, r.length = 1 := fun r hr => by obtain ⟨x, _, rfl⟩ := List.mem_map.1 hr; rfl
theorem cloneY_spec (s : Sl) (b : List Int) (w : World) (hs : RdY w s b) (hn : b.length ≤ 1099511627776) :
  Calls Tryz.prog n_slices_Clone_byte #[.slice s.a s.n s.c] w fun e w' => ∃ s' : Sl, e = .returned (.slice s'.a s'.n s'.c) ∧ OwY w.heap.size w' s' b ∧ Ext w w' := by
 have hsn := RdY.n hs
 apply (slices_Clone_byte.vc (a0 := s))
 refine Br.mk (fun h => ?_) (fun h => ?_)
 ·have : b = [] := by
   rcases Nat.eq_zero_or_pos b.length with h0 | h0
   ·exact List.eq_nil_of_length_eq_zero h0
   ·have := RdK.isSome hs (by omega) (i := 0) (by simpa using h0)
    cases hsa : s.a <;> simp [hsa] at h this
  subst this
  exact ⟨⟨none, 0, 0⟩, rfl, OwnK.nil, Ext.rfl' w⟩
 ·rintro w0 rfl
  have xa := Ext.al w (.cells #[] tByte)
  have hz : OwnK w.heap.size tByte 1 (w.alloc (.cells #[] tByte)) ⟨some ⟨w.heap.size, 0, none⟩, 0, 0⟩ [] := OwnK.of_row (Nat.le_refl _) (Row.new w [] tByte) (by simp) (Nat.le_refl _) rfl (fun r hr => by cases hr)
  have hb := hz.appN (bytes := 1) (more := b.map yv) xa.size yv_wd (yv_one _) (by simp only [List.length_map]; omega) (by simp only [List.length_map]; omega)
  rw [List.length_map, ← hsn] at hb
  obtain ⟨hp, hr⟩ := hb
  refine ⟨(b.map yv).flatten, RdK.flat (hs.ext xa) (by omega), hp, fun s2 w3 hres => ?_⟩
  obtain ⟨ho, hn2, xb, _, _⟩ := hr s2 w3 hres
  exact ⟨AppRes_zero hres (by rw [flatten_len yv_wd, List.length_map, hsn]) (by simp), s2, rfl, ho, xa.trans xb⟩
theorem growNil_spec (n : Nat) (w : World) (hn : n ≤ 1099511627776) : Calls Tryz.prog n_slices_Grow_byte #[.slice none 0 0, .int .i64 n] w fun e w' => ∃ s' : Sl, e = .returned (.slice s'.a s'.n s'.c) ∧ OwY w.heap.size w' s' [] ∧ Ext w w' := by
 apply (slices_Grow_byte.vc (a0 := ⟨none, 0, 0⟩))
 have e1 : IntKind.wrap .i64 ((n : Int) - IntKind.wrap .i64 (((0 : Nat) : Int) - ((0 : Nat) : Int))) = n := by
  rw [wrap_in (n := ((0 : Nat) : Int) - ((0 : Nat) : Int)) (by unfold inI; omega), wrap_in (by unfold inI; omega)]; omega
 refine Br.mk (fun h => by simp at h; omega) (fun _ => ?_)
 rw [e1]
 refine Br.mk (fun h => ?_) (fun h => ?_)
 ·have h0 : OwnK w.heap.size tByte 1 w ⟨none, 0, 0⟩ [] := OwnK.nil
  have hb := h0.appN (bytes := 1) (more := (List.replicate n (yv 0))) (Nat.le_refl _) (fun r hr => by rw [(List.mem_replicate.1 hr).2]; rfl) (fun r hr => by rw [(List.mem_replicate.1 hr).2]; exact one_i _ _) (by simp only [List.length_replicate]; omega) (by simp only [List.length_replicate]; omega)
  rw [List.length_replicate] at hb
  obtain ⟨hp, hr⟩ := hb
  refine ⟨by omega, by omega, ⟨by omega, wrap_in (by unfold inI; omega), by omega⟩, hp, fun s0 w1 hres => ?_⟩
  obtain ⟨ho, hn2, xb, _, _⟩ := hr s0 w1 hres
  have hle := OwnK.le ho
  refine ⟨by omega, by omega, ⟨s0.a, 0, s0.c⟩, by rw [slBase_zero]; rfl, ?_, xb⟩
  rcases ho.form (by decide) with ⟨rfl, -⟩ | ⟨g, cs, ha, hg, hrow, hc, hnn, ht, hl⟩
  ·exact OwnK.nil
  ·rw [ha]
   exact OwnK.of_row hg hrow hc (Nat.zero_le _) (by simp) (fun r hr => by cases hr)
 ·exact ⟨⟨none, 0, 0⟩, rfl, OwnK.nil, Ext.rfl' _⟩
abbrev catY (xs : List (Sl × List Int)) : List Int := xs.flatMap (·.2)
theorem catY_take (xs : List (Sl × List Int)) {k : Nat} {x : Sl × List Int} (h : xs[k]? = some x) : catY (xs.take (k + 1)) = catY (xs.take k) ++ x.2 := by
 rw [List.take_add_one, h]; simp [catY]
theorem catY_le (xs : List (Sl × List Int)) (k : Nat) : (catY (xs.take k)).length ≤ (catY xs).length := by
 have e := congrArg (fun l => (catY l).length) (List.take_append_drop k xs)
 simp only [List.flatMap_append, List.length_append] at e
 have h1 : (catY (xs.take k)).length = (List.flatMap (fun x => x.2) (xs.take k)).length := rfl
 have h2 : (catY xs).length = (List.flatMap (fun x => x.2) xs).length := rfl
 omega
theorem concat_spec (s : Sl) (xs : List (Sl × List Int)) (w : World) (hs : RdK w s 1 (xs.map fun x => [.slice x.1.a x.1.n x.1.c])) (hr : ∀ x ∈ xs, RdY w x.1 x.2) (hl : xs.length ≤ 1000) (hn : (catY xs).length ≤ 1099511627776) :
  Calls Tryz.prog n_slices_Concat_byte #[.slice s.a s.n s.c] w fun e w' => ∃ s' : Sl, e = .returned (.slice s'.a s'.n s'.c) ∧ OwY w.heap.size w' s' (catY xs) ∧ Ext w w' := by
 apply (slices_Concat_byte.vc (a0 := s))
 have hsn := hs.n
 rw [List.length_map] at hsn
 have row : ∀ {k : Nat} {w' : World}, Ext w w' → k < xs.length → ∃ x, xs[k]? = some x ∧ InB s.a (k : Int) s.n ∧ ld w' (padd s.a (((k : Nat) : Int).toNat * 1)) = some (.slice x.1.a x.1.n x.1.c) ∧ RdY w' x.1 x.2 := fun {k w'} x' hk => by
  obtain ⟨x, hx⟩ := get_lt (l := xs) (i := k) hk
  have hs' := hs.ext x'
  have hm : (xs.map fun x => [Value.slice x.1.a x.1.n x.1.c])[k]? = some [.slice x.1.a x.1.n x.1.c] := by rw [List.getElem?_map, hx]; rfl
  have hld := hs'.at hm (j := 0) rfl
  rw [padd_zero] at hld
  exact ⟨x, hx, hs'.inB (by decide) (by omega) (by omega), hld, (hr x (List.mem_of_getElem? hx)).ext x'⟩
 refine ⟨fun n i z wr => ∃ k : Nat, i = k ∧ k + n = xs.length ∧ z = ((catY (xs.take k)).length : Nat) ∧ wr = w, ⟨xs.length, 0, rfl, by omega, rfl, rfl⟩, ?_⟩
 rintro n us i z wr ⟨k, rfl, hk, rfl, rfl⟩
 refine Br.mk (fun hc => ?_) (fun hc => ?_)
 ·simp only [decide_eq_true_eq] at hc
  obtain ⟨x, hx, hin, hld, hrx⟩ := row (k := k) (Ext.rfl' _) (by omega)
  have h1 := catY_le xs (k + 1)
  have ht := catY_take xs hx
  have hxn := RdY.n hrx
  have wz : IntKind.wrap .i64 (((catY (xs.take k)).length : Int) + ((x.1.n : Nat) : Int)) = ((catY (xs.take (k + 1))).length : Nat) := by
   rw [ht, List.length_append]
   rw [ht, List.length_append] at h1
   rw [wrap_in (by unfold inI; omega)]; omega
  have wk : IntKind.wrap .i64 ((k : Int) + 1) = ((k + 1 : Nat) : Int) := by rw [wrap_in (by unfold inI; omega)]; omega
  refine ⟨hin, x.1, hld, ?_⟩
  rw [wz]
  refine Br.mk (fun h => by simp at h; omega) (fun _ => ⟨n - 1, by omega, k + 1, wk, by omega, rfl, rfl⟩)
 ·simp only [decide_eq_false_iff_not] at hc
  rw [List.take_of_length_le (by omega)]
  refine (growNil_spec _ _ hn).mono ?_
  rintro e w8 ⟨s9, rfl, ho, x8⟩
  refine ⟨s9, rfl, fun n i s wr2 => ∃ k : Nat, i = k ∧ k + n = xs.length ∧ OwY wr.heap.size wr2 s (catY (xs.take k)) ∧ Ext wr wr2, ⟨xs.length, 0, rfl, by omega, ho, x8⟩, ?_⟩
  rintro n11 us12 i s14 w15 ⟨k2, rfl, hk2, ho15, x15⟩
  refine Br.mk (fun hc2 => ?_) (fun hc2 => ?_)
  ·simp only [decide_eq_true_eq] at hc2
   obtain ⟨x, hx, hin, hld, hrx⟩ := row (k := k2) x15 (by omega)
   have h1 := catY_le xs (k2 + 1)
   have ht := catY_take xs hx
   have hxn := RdY.n hrx
   have hon := RdY.n (OwY.rdy ho15)
   rw [ht, List.length_append] at h1
   have wk : IntKind.wrap .i64 ((k2 : Int) + 1) = ((k2 + 1 : Nat) : Int) := by rw [wrap_in (by unfold inI; omega)]; omega
   have hb := OwnK.appN ho15 (bytes := 1) (more := x.2.map yv) x15.size yv_wd (yv_one _) (by simp only [List.length_map]; omega) (by simp only [List.length_map]; omega)
   rw [List.length_map, ← hxn] at hb
   obtain ⟨hp, hres⟩ := hb
   refine ⟨hin, x.1, hld, (x.2.map yv).flatten, RdK.flat hrx (by omega), hp, fun s19 w20 hr20 => ?_⟩
   obtain ⟨ho20, _, xb, _, _⟩ := hres s19 w20 hr20
   refine ⟨n11 - 1, by omega, k2 + 1, wk, by omega, ?_, x15.trans xb⟩
   rw [ht]
   show OwnK _ _ _ _ _ _
   rw [List.map_append]; exact ho20
  ·simp only [decide_eq_false_iff_not] at hc2
   rw [List.take_of_length_le (by omega)] at ho15
   exact ⟨s14, rfl, ho15, x15⟩
theorem crcPut_spec (s : Sl) (b : List Int) (w : World) (hs : RdY w s b) (hb : Bys b) (hn : b.length + 2 ≤ 1099511627776) : Calls Tryz.prog n_crc_Put #[.slice s.a s.n s.c] w fun e w' => ∃ s' : Sl, e = .returned (.slice s'.a s'.n s'.c) ∧ OwY w.heap.size w' s' (sealB b) ∧ Ext w w' := by
 apply (crc_Put.vc (a0 := s))
 refine (crcOf_spec s b w hs hb (by omega)).mono ?_
 rintro e w0 ⟨rfl, x0⟩
 refine ⟨_, rfl, (crcBytes_spec _ w0).mono ?_⟩
 rintro e w2 ⟨rfl, x2⟩
 refine ⟨_, _, rfl, fun w5 e5 => ?_⟩
 have h5 : Row w5 w2.heap.size [.int .u8 0, .int .u8 0] tA2 := by rw [e5]; exact Row.new w2 [_, _] _
 have hS := h5.setP (o := 0) (vs := [.int .u8 (cI (crcB b) / 256), .int .u8 (cI (crcB b) % 256)]) (Nat.le_refl 2) (one_ii _ _ _ _)
 refine ⟨⟨rfl, h5.wr (o := 0) (n := 2) (by decide)⟩, fun w6 e6 w7 e7 => ?_⟩
 have e6' : w6 = w5.setRow w2.heap.size #[.int .u8 (cI (crcB b) / 256), .int .u8 (cI (crcB b) % 256)] := e6.trans hS
 have h6 : Row w6 w2.heap.size [.int .u8 (cI (crcB b) / 256), .int .u8 (cI (crcB b) % 256)] tA2 := by rw [e6']; exact h5.set _
 have x27 : Ext w2 w6 := ((Ext.rfl' _).of_alloc e5).of_setRow e6' (Nat.le_refl _)
 have x67 : Ext w6 w7 := (Ext.rfl' _).of_alloc e7
 have x7 := x0.tr (x2.tr (x27.tr x67))
 have hc : RdY w7 ⟨some ⟨w2.heap.size, 0, none⟩, 2, 2⟩ (crcY b) := by
  refine ⟨rfl, yv_wd, fun i r hi j v hj => ?_⟩
  have h7 := h6.ext x67
  rw [padd_row, Nat.zero_add, h7.ld]
  match i, hi with
  | 0, hi => cases hi; match j, hj with
    | 0, hj => cases hj; rfl
  | 1, hi => cases hi; match j, hj with
    | 0, hj => cases hj; rfl
  | i + 2, hi => simp [crcY] at hi
 have hl : RdK w7 ⟨some ⟨w6.heap.size, 0, none⟩, 2, 2⟩ 1 ([(s, b), (⟨some ⟨w2.heap.size, 0, none⟩, 2, 2⟩, crcY b)].map fun x => [.slice x.1.a x.1.n x.1.c]) := by
  have h7 : Row w7 w6.heap.size [.slice s.a s.n s.c, .slice (some ⟨w2.heap.size, 0, none⟩) 2 2] tSB := by rw [e7, slBase_zero]; exact Row.new w6 [_, _] _
  refine ⟨rfl, fun r hr => by simp at hr; rcases hr with rfl | rfl <;> rfl, fun i r hi j v hj => ?_⟩
  rw [padd_row, Nat.zero_add, h7.ld]
  match i, hi with
  | 0, hi => cases hi; match j, hj with
    | 0, hj => cases hj; rfl
  | 1, hi => cases hi; match j, hj with
    | 0, hj => cases hj; rfl
  | i + 2, hi => simp at hi
 have hcat : catY [(s, b), (⟨some ⟨w2.heap.size, 0, none⟩, 2, 2⟩, crcY b)] = sealB b := by simp [catY, sealB]
 refine (concat_spec ⟨some ⟨w6.heap.size, 0, none⟩, 2, 2⟩ [(s, b), (⟨some ⟨w2.heap.size, 0, none⟩, 2, 2⟩, crcY b)] w7 hl (fun x hx => by
  simp at hx
  rcases hx with rfl | rfl
  ·exact hs.ext x7
  ·exact hc) (show 2 ≤ 1000 by decide) (by rw [hcat, sealB_len]; exact hn)).mono ?_
 rintro e w8 ⟨s9, rfl, ho, x8⟩
 rw [hcat] at ho
 exact ⟨s9, rfl, s9, rfl, OwnK.low ho x7.size, x7.tr x8⟩
theorem crcTake_spec (s : Sl) (b : List Int) (w : World) (hs : RdY w s b) (hb : Bys b) (hc : s.n ≤ s.c) (hn : b.length ≤ 1099511627776) : Calls Tryz.prog n_crc_Take #[.slice s.a s.n s.c] w fun e w' => ∃ s' : Sl, e = .returned (.tuple #[.slice s'.a s'.n s'.c, .int .i64 (tkS b).2]) ∧ OwY w.heap.size w' s' (tkS b).1 ∧ Ext w w' := by
 apply (crc_Take.vc (a0 := s))
 have hsn := RdY.n hs
 refine Br.mk (fun h => ?_) (fun h => ?_)
 ·simp only [decide_eq_true_eq] at h
  have e : tkS b = ([], 3) := by unfold tkS; rw [if_pos (by omega)]
  rw [e]
  exact ⟨⟨none, 0, 0⟩, rfl, OwnK.nil, Ext.rfl' _⟩
 ·simp only [decide_eq_false_iff_not] at h
  refine (crcGood_spec s b w hs hb (by omega)).mono ?_
  rintro e w0 ⟨rfl, x0⟩
  refine ⟨_, rfl, Br.mk (fun h2 => ?_) (fun h2 => ?_)⟩
  ·have e : tkS b = ([], 4) := by
    unfold tkS; rw [if_neg (by omega), if_neg]
    intro q
    rw [decide_eq_true ⟨by omega, q⟩] at h2; cases h2
   rw [e]
   exact ⟨⟨none, 0, 0⟩, rfl, OwnK.nil, x0⟩
  ·have q : crcB b = 0#16 := by
    simp at h2; exact h2.2
   have e : tkS b = (b.take (b.length - 2), 0) := by unfold tkS; rw [if_neg (by omega), if_pos q]
   have wk : IntKind.wrap .i64 (((s.n : Nat) : Int) - 2) = ((b.length - 2 : Nat) : Int) := by rw [wrap_in (by unfold inI; omega)]; omega
   rw [wk, e]
   have hcut : RdY w0 ⟨slBase s.a 0 s.c 1, b.length - 2, s.c - 0⟩ (b.take (b.length - 2)) := by
    have := (hs.ext x0).cut (m := b.length - 2) (c' := s.c) (c'' := s.c - 0) (by rw [List.length_map]; omega)
    rw [← List.map_take] at this
    exact this
   refine ⟨by omega, by omega, (cloneY_spec ⟨slBase s.a 0 s.c 1, b.length - 2, s.c - 0⟩ _ w0 hcut (by rw [List.length_take]; omega)).mono ?_⟩
   rintro e w2 ⟨s3, rfl, ho, x2⟩
   exact ⟨s3, rfl, s3, rfl, OwnK.low ho x0.size, x0.tr x2⟩
end Go.Proofs.YtjcnjlaelhdjeaaGreatDoor
namespace Go.Proofs.YtjcnjlaelhdjeaaGreatDoor
open Go Go.Vc Go.RowKit Go.Proofs Go.Chk Go.Runs Go.Code
theorem pow8 (n : Int) {k : Nat} (hk : k ≤ 4) : n.fdiv (2 ^ (min ((8 * (k : Int))).toNat 64)) = n / 256 ^ k := by
 have e : (2 : Int) ^ (min ((8 * (k : Int))).toNat 64) = 256 ^ k := by
  rcases k with _ | _ | _ | _ | _ | k
  ·rfl
  ·rfl
  ·rfl
  ·rfl
  ·rfl
  ·omega
 rw [e, Int.fdiv_eq_ediv_of_nonneg]
 exact Int.le_of_lt (Int.pow_pos (by decide))
theorem put_spec (B : Nat) (s : Sl) (b : List Int) (n : Int) (m : Nat) (hm : m ≤ 4) (w : World) (hB : B ≤ w.heap.size) (ho : OwY B w s b) (hb : b.length ≤ 1000) :
  Calls Tryz.prog n_store_put #[.slice s.a s.n s.c, .int .i64 n, .int .i64 m] w fun e w' => ∃ s' : Sl, e = .returned (.slice s'.a s'.n s'.c) ∧ OwY B w' s' (b ++ be m n) ∧ Below B w w' := by
 apply (store_put.vc (a0 := s))
 have w1 : IntKind.wrap .i64 ((m : Int) - 1) = (m : Int) - 1 := wrap_in (by unfold inI; omega)
 refine ⟨fun l x o wr => ∃ k : Nat, l = k ∧ x = (k : Int) - 1 ∧ k ≤ m ∧ ∃ pre, pre ++ be k n = be m n ∧ OwY B wr o (b ++ pre) ∧ Below B w wr, ⟨m, m, rfl, w1, Nat.le_refl _, [], rfl, by rw [List.append_nil]; exact ho, Below.refl _ _⟩, ?_⟩
 rintro k us x s4 w5 ⟨k', rfl, rfl, hk, pre, hp, ho5, x5⟩
 have hlen := congrArg List.length hp
 rw [List.length_append, be_len, be_len] at hlen
 have hon := RdY.n (OwY.rdy ho5)
 rw [List.length_append] at hon
 refine Br.mk (fun hc => ?_) (fun hc => ?_)
 ·simp only [ge_iff_le, decide_eq_true_eq] at hc
  obtain ⟨j, rfl⟩ : ∃ j, k = j + 1 := ⟨k - 1, by omega⟩
  have e8 : IntKind.wrap .i64 (8 * (((j + 1 : Nat) : Int) - 1)) = 8 * (j : Int) := by rw [wrap_in (by unfold inI; omega)]; omega
  rw [e8, pow8 n (by omega), wrap_u8]
  refine AndL_iff.2 ⟨ngC_iff.2 (by omega), fun w7 e7 => ?_⟩
  subst e7
  obtain ⟨hpre, hres⟩ := OwnK.app1 ho5 (bytes := 1) (news := yv (n / 256 ^ j % 256)) (.cells #[.int .u8 (n / 256 ^ j % 256)] tByte) (by have := x5.size; omega) rfl (one_i _ _) (by omega) (by omega)
  refine ⟨hpre, fun s8 w9 hr => ?_⟩
  obtain ⟨f1, ho9, hn9, xb, -, -⟩ := hres s8 w9 hr
  refine ⟨f1, j, by omega, j, rfl, by rw [wrap_in (by unfold inI; omega)]; omega, by omega, pre ++ [n / 256 ^ j % 256], ?_, ?_, x5.trans xb⟩
  ·rw [← hp, List.append_assoc]; rfl
  ·rw [← List.append_assoc]
   show OwnK _ _ _ _ _ _
   rw [List.map_append]; exact ho9
 ·simp only [ge_iff_le, decide_eq_false_iff_not] at hc
  have : k = 0 := by omega
  subst this
  have hp' : pre = be m n := by simpa [be] using hp
  rw [hp'] at ho5
  exact ⟨s4, rfl, ho5, x5⟩
theorem take_spec (s : Sl) (b : List Int) (w : World) (hs : RdY w s b) (hb : Bys b) (hn : b.length ≤ 4) : Calls Tryz.prog n_store_take #[.slice s.a s.n s.c] w fun e w' => e = .returned (.int .i64 (numY b)) ∧ w' = w := by
 apply (store_take.vc (a0 := s))
 have hsn := RdY.n hs
 refine ⟨fun l i n wr => ∃ k : Nat, i = k ∧ k + l = b.length ∧ n = numY (b.take k) ∧ wr = w, ⟨b.length, 0, rfl, by omega, rfl, rfl⟩, ?_⟩
 rintro l us i n wr ⟨k, rfl, hk, rfl, rfl⟩
 refine Br.mk (fun hc => ?_) (fun hc => ?_)
 ·simp only [decide_eq_true_eq] at hc
  obtain ⟨x, hx⟩ := get_lt (l := b) (i := k) (by omega)
  have hxb := hb x (List.mem_of_getElem? hx)
  have hm : (b.map yv)[k]? = some [.int .u8 x] := by rw [List.getElem?_map, hx]; rfl
  have hld := hs.at hm (j := 0) rfl
  rw [padd_zero] at hld
  have wk : IntKind.wrap .i64 ((k : Int) + 1) = ((k + 1 : Nat) : Int) := by rw [wrap_in (by unfold inI; omega)]; omega
  have hsm := numY_small hb (k := k) (by omega)
  have ht : b.take (k + 1) = b.take k ++ [x] := by rw [List.take_add_one, hx]; rfl
  refine ⟨RdK.inB hs (by decide) (by omega) hc, x, hld, l - 1, by omega, k + 1, wk, by omega, ?_, rfl⟩
  have e1 : IntKind.wrap .i64 (numY (b.take k) * 2 ^ (min (8 : Int).toNat 64)) = numY (b.take k) * 256 := by
   show IntKind.wrap .i64 (numY (b.take k) * 256) = _
   exact wrap_in (by unfold inI; omega)
  have e2 : IntKind.wrap .i64 x = x := wrap_in (by unfold inI; omega)
  rw [e1, e2, bOr_byte (by omega) hxb, ht, numY_app]
 ·simp only [decide_eq_false_iff_not] at hc
  rw [List.take_of_length_le (by omega)]
  exact ⟨rfl, rfl⟩
theorem sWrite_spec (v : Int) (s : Sl) (b : List Int) (w : World) (hs : RdY w s b) (hb : Bys b) (hn : b.length ≤ 1099511627776) :
  Calls Tryz.prog n_store_Write #[.int .i64 v, .slice s.a s.n s.c] w fun e w' => ∃ s' : Sl, e = .returned (.tuple #[.slice s'.a s'.n s'.c, .int .i64 (wrS v b).2]) ∧ OwY w.heap.size w' s' (wrS v b).1 ∧ Ext w w' := by
 apply (store_Write.vc (a1 := s))
 have hsn := RdY.n hs
 have no : (v < 1 ∨ v > 1073741824 ∨ (b.length : Int) > 65536) → ∃ s' : Sl, Ending.returned (.tuple #[.slice none 0 0, .int .i64 1]) = .returned (.tuple #[.slice s'.a s'.n s'.c, .int .i64 (wrS v b).2]) ∧ OwY w.heap.size w s' (wrS v b).1 ∧ Ext w w := fun h => by
  have e : wrS v b = ([], 1) := by unfold wrS; rw [if_pos h]
  rw [e]
  exact ⟨⟨none, 0, 0⟩, rfl, OwnK.nil, Ext.rfl' _⟩
 refine Br.mk (fun h => ?_) (fun h1 => Br.mk (fun h => ?_) (fun h2 => Br.mk (fun h => ?_) (fun h3 => ?_)))
 ·simp only [decide_eq_true_eq] at h; exact no (.inl h)
 ·simp only [gt_iff_lt, decide_eq_true_eq] at h; exact no (.inr (.inl h))
 ·simp only [gt_iff_lt, decide_eq_true_eq] at h; exact no (.inr (.inr (by omega)))
 ·simp only [gt_iff_lt, decide_eq_false_iff_not] at h1 h2 h3
  have e : wrS v b = (sealB (recB v b), 0) := by unfold wrS; rw [if_neg (by omega)]
  rw [e]
  have p4 := put_spec w.heap.size ⟨none, 0, 0⟩ [] v 4 (by decide) w (Nat.le_refl _) OwnK.nil (by simp)
  refine p4.mono ?_
  rintro e w0 ⟨s1, rfl, o1, x0⟩
  have p3 := put_spec w.heap.size s1 ([] ++ be 4 v) ((s.n : Nat) : Int) 3 (by decide) w0 x0.size o1 (by simp [be_len])
  refine ⟨s1, rfl, p3.mono ?_⟩
  rintro e w2 ⟨s3, rfl, o3, x2⟩
  refine ⟨s3, rfl, fun w4 e4 => ?_⟩
  have x02 : Ext w w2 := x0.trans x2
  have x24 : Ext w2 w4 := (Ext.rfl' _).of_alloc e4
  have x4 := x02.tr x24
  have r4 : Row w4 w2.heap.size [.slice s3.a s3.n s3.c, .slice s.a s.n s.c] tSB := by rw [e4]; exact Row.new w2 [_, _] _
  have hl : RdK w4 ⟨some ⟨w2.heap.size, 0, none⟩, 2, 2⟩ 1 ([(s3, [] ++ be 4 v ++ be 3 ((s.n : Nat) : Int)), (s, b)].map fun x => [.slice x.1.a x.1.n x.1.c]) := by
   refine ⟨rfl, fun r hr => by simp at hr; rcases hr with rfl | rfl <;> rfl, fun i r hi j v hj => ?_⟩
   rw [padd_row, Nat.zero_add, r4.ld]
   match i, hi with
   | 0, hi => cases hi; match j, hj with
     | 0, hj => cases hj; rfl
   | 1, hi => cases hi; match j, hj with
     | 0, hj => cases hj; rfl
   | i + 2, hi => simp at hi
  have hcat : catY [(s3, [] ++ be 4 v ++ be 3 ((s.n : Nat) : Int)), (s, b)] = recB v b := by simp [catY, recB, hsn]
  have hrl := recB_len v b
  refine (concat_spec ⟨some ⟨w2.heap.size, 0, none⟩, 2, 2⟩ [(s3, [] ++ be 4 v ++ be 3 ((s.n : Nat) : Int)), (s, b)] w4 hl (fun x hx => by
   simp only [List.mem_cons, List.not_mem_nil, or_false] at hx
   rcases hx with rfl | rfl
   ·exact RdK.ext (OwY.rdy o3) x24
   ·exact hs.ext x4) (show 2 ≤ 1000 by decide) (by rw [hcat]; omega)).mono ?_
  rintro e w5 ⟨s6, rfl, o6, x5⟩
  rw [hcat] at o6
  refine ⟨s6, rfl, (crcPut_spec s6 (recB v b) w5 (OwY.rdy o6) (recB_in hb) (by omega)).mono ?_⟩
  rintro e w7 ⟨s8, rfl, o8, x7⟩
  have x45 := x4.tr x5
  exact ⟨s8, rfl, s8, rfl, OwnK.low o8 x45.size, x45.tr x7⟩
theorem tkS_in {b : List Int} (h : Bys b) : Bys (tkS b).1 := by
 unfold tkS
 split
 ·intro c hc; cases hc
 ·split
  ·exact fun c hc => h c (List.mem_of_mem_take hc)
  ·intro c hc; cases hc
theorem tkS_le (b : List Int) : (tkS b).1.length ≤ b.length := by
 unfold tkS
 split
 ·simp
 ·split
  ·simp only [List.length_take]; omega
  ·simp
theorem rdS_in {b : List Int} (h : Bys b) : Bys (rdS b).2.1 := by
 unfold rdS
 split
 ·intro c hc; cases hc
 ·split
  ·intro c hc; cases hc
  ·split
   ·intro c hc; cases hc
   ·exact fun c hc => tkS_in h c (List.mem_of_mem_drop hc)
theorem rdS_le (b : List Int) : (rdS b).2.1.length ≤ b.length := by
 have := tkS_le b
 unfold rdS
 split
 ·simp
 ·split
  ·simp
  ·split
   ·simp
   ·simp only [List.length_drop]; omega
theorem sRead_spec (s : Sl) (b : List Int) (w : World) (hs : RdY w s b) (hb : Bys b) (hc : s.n ≤ s.c) (hn : b.length ≤ 1099511627776) :
  Calls Tryz.prog n_store_Read #[.slice s.a s.n s.c] w fun e w' => ∃ s' : Sl, e = .returned (.tuple #[.int .i64 (rdS b).1, .slice s'.a s'.n s'.c, .int .i64 (rdS b).2.2]) ∧ RdY w' s' (rdS b).2.1 ∧ s'.n ≤ s'.c ∧ (∀ g, s'.blk = some g → w.heap.size ≤ g) ∧ Ext w w' := by
 apply (store_Read.vc (a0 := s))
 refine (crcTake_spec s b w hs hb hc hn).mono ?_
 rintro e w0 ⟨s1, rfl, o1, x0⟩
 have hi := tkS_in hb
 have hle := tkS_le b
 have nil : RdY w0 ⟨none, 0, 0⟩ [] := OwY.rdy (OwnK.nil (B := 0))
 have h1 : rdS b = if (tkS b).2 ≠ 0 then (0, [], (tkS b).2) else if (tkS b).1.length < 7 then (0, [], 3) else if numY ((tkS b).1.take 4) < 1 ∨ numY ((tkS b).1.take 4) > 1073741824 ∨ numY (((tkS b).1.drop 4).take 3) > 65536 ∨ numY (((tkS b).1.drop 4).take 3) ≠ (((tkS b).1.drop 7).length : Int) then (0, [], 2) else (numY ((tkS b).1.take 4), (tkS b).1.drop 7, 0) := rfl
 rw [h1]
 generalize tkS b = t at *
 obtain ⟨t1, t2⟩ := t
 simp only at *
 have hon := RdY.n (OwY.rdy o1)
 have hoc := OwnK.le o1
 refine ⟨s1, _, rfl, Br.mk (fun h => ?_) (fun h => ?_)⟩
 ·have : t2 ≠ 0 := by simpa using h
  rw [if_pos this]
  exact ⟨⟨none, 0, 0⟩, rfl, nil, Nat.le_refl _, (fun g hg => by cases hg), x0⟩
 ·have : t2 = 0 := by simpa using h
  subst this
  rw [if_neg (by simp)]
  refine Br.mk (fun h => ?_) (fun h => ?_)
  ·simp only [decide_eq_true_eq] at h
   rw [if_pos (by omega)]
   exact ⟨⟨none, 0, 0⟩, rfl, nil, Nat.le_refl _, (fun g hg => by cases hg), x0⟩
  ·simp only [decide_eq_false_iff_not] at h
   rw [if_neg (by omega)]
   have rd := RdK.ext (OwY.rdy o1) (Ext.dr w0)
   have c4 : RdY w0.drew ⟨slBase s1.a 0 s1.c 1, 4 - 0, s1.c - 0⟩ (t1.take 4) := by
    have := RdK.cut rd (m := 4) (c' := s1.c) (c'' := s1.c - 0) (by rw [List.length_map]; omega)
    rw [← List.map_take] at this; exact this
   have c3 : RdY w0.drew ⟨slBase s1.a 4 s1.c 1, 7 - 4, s1.c - 4⟩ ((t1.drop 4).take 3) := by
    have r4 := RdK.rest rd (l := 4) (m := s1.c) (n' := t1.length - 4) (c' := s1.c - 4) (by rw [List.length_map]) (by rw [List.length_map]; omega)
    have := RdK.cut r4 (m := 3) (c' := 7) (c'' := s1.c - 4) (by rw [List.length_drop, List.length_map]; omega)
    rw [slBase_zero, ← List.map_drop, ← List.map_take] at this; exact this
   have c7 : ∀ w', Ext w0 w' → RdY w' ⟨slBase s1.a 7 s1.c 1, s1.n - 7, s1.c - 7⟩ (t1.drop 7) := fun w' x' => by
    have := RdK.rest (RdK.ext (OwY.rdy o1) x') (l := 7) (m := s1.c) (n' := s1.n - 7) (c' := s1.c - 7) (by rw [List.length_map]; omega) (by rw [List.length_map]; omega)
    rw [← List.map_drop] at this; exact this
   refine ⟨by omega, by omega, by omega, by omega, by omega, by omega, by omega, by omega, (take_spec ⟨slBase s1.a 0 s1.c 1, 4 - 0, s1.c - 0⟩ _ w0.drew c4 (fun c hc => hi c (List.mem_of_mem_take hc)) (by rw [List.length_take]; omega)).mono ?_⟩
   rintro e w3 ⟨rfl, hw⟩
   subst hw
   refine ⟨_, rfl, (take_spec ⟨slBase s1.a 4 s1.c 1, 7 - 4, s1.c - 4⟩ _ w0.drew c3 (fun c hc => hi c (List.mem_of_mem_drop (List.mem_of_mem_take hc))) (by rw [List.length_take]; omega)).mono ?_⟩
   rintro e w5 ⟨rfl, hw⟩
   subst hw
   have hbk : ∀ g, (Sl.mk (slBase s1.a 7 s1.c 1) (s1.n - 7) (s1.c - 7)).blk = some g → w.heap.size ≤ g := fun g hg => by
    have : s1.blk = some g := by
     unfold Sl.blk at hg ⊢
     simp only [slBase] at hg
     split at hg
     ·exact hg
     ·cases ha : s1.a with
      | none => rw [ha] at hg; cases hg
      | some a =>
        rw [ha] at hg
        simp only [Option.map_some, Option.some.injEq, Addr.add] at hg ⊢
        rw [← hg]; split <;> rfl
    exact (o1.own.lt this).1
   have xd := x0.tr (Ext.dr w0)
   have nil' : RdY w0.drew ⟨none, 0, 0⟩ [] := OwY.rdy (OwnK.nil (B := 0))
   have hdl : (t1.drop 7).length = s1.n - 7 := by rw [List.length_drop]; omega
   have no : (numY (t1.take 4) < 1 ∨ numY (t1.take 4) > 1073741824 ∨ numY ((t1.drop 4).take 3) > 65536 ∨ numY ((t1.drop 4).take 3) ≠ ((t1.drop 7).length : Int)) → ∃ s' : Sl, Ending.returned (.tuple #[.int .i64 0, .slice none 0 0, .int .i64 2]) = .returned (.tuple #[.int .i64 (if numY (t1.take 4) < 1 ∨ numY (t1.take 4) > 1073741824 ∨ numY ((t1.drop 4).take 3) > 65536 ∨ numY ((t1.drop 4).take 3) ≠ ((t1.drop 7).length : Int) then ((0 : Int), ([] : List Int), (2 : Int)) else (numY (t1.take 4), t1.drop 7, 0)).1, .slice s'.a s'.n s'.c, .int .i64 (if numY (t1.take 4) < 1 ∨ numY (t1.take 4) > 1073741824 ∨ numY ((t1.drop 4).take 3) > 65536 ∨ numY ((t1.drop 4).take 3) ≠ ((t1.drop 7).length : Int) then ((0 : Int), ([] : List Int), (2 : Int)) else (numY (t1.take 4), t1.drop 7, 0)).2.2]) ∧
     RdY w0.drew s' (if numY (t1.take 4) < 1 ∨ numY (t1.take 4) > 1073741824 ∨ numY ((t1.drop 4).take 3) > 65536 ∨ numY ((t1.drop 4).take 3) ≠ ((t1.drop 7).length : Int) then ((0 : Int), ([] : List Int), (2 : Int)) else (numY (t1.take 4), t1.drop 7, 0)).2.1 ∧ s'.n ≤ s'.c ∧ (∀ g, s'.blk = some g → w.heap.size ≤ g) ∧ Ext w w0.drew := fun h => by
    rw [if_pos h]
    exact ⟨⟨none, 0, 0⟩, rfl, nil', Nat.le_refl _, (fun g hg => by cases hg), xd⟩
   refine ⟨_, rfl, Br.mk (fun h => no ?_) (fun q1 => Br.mk (fun h => no ?_) (fun q2 => Br.mk (fun h => no ?_) (fun q3 => Br.mk (fun h => no ?_) (fun q4 => ?_))))⟩
   ·exact .inl (by simpa using h)
   ·exact .inr (.inl (by simpa using h))
   ·exact .inr (.inr (.inl (by simpa using h)))
   ·refine .inr (.inr (.inr ?_))
    rw [hdl]
    simpa using h
   ·simp only [gt_iff_lt, decide_eq_false_iff_not, bne_eq_false_iff_eq] at q1 q2 q3 q4
    rw [if_neg (by
     rw [hdl]
     simp only [not_or]
     exact ⟨q1, q2, q3, by rw [q4]; simp⟩)]
    exact ⟨_, rfl, c7 _ (Ext.dr w0), by simp only; omega, hbk, xd⟩
end Go.Proofs.YtjcnjlaelhdjeaaGreatDoor
namespace Go.Proofs.YtjcnjlaelhdjeaaGreatDoor
open Go Go.Vc Go.RowKit Go.Proofs Go.Chk Go.Runs Go.Code
theorem next_tape {P : Program} {m since c0 clock r : Nat} {seen : Array Nat} {es : Array MapEntry} {w : World} {ty : TypeId} {v : Value} {w' : World} (hr : w.heap[r]? = some (.mapIter (some m) since seen c0)) (hm : w.heap[m]? = some (.map es clock))
  (h : (Instr.next (.pointer (some ⟨r, 0, none⟩)) false ty).run P w = .ok v w') : w'.tape = w.tape := by
 simp only [Instr.next, getObj, Sem.run_bind, Sem.run, hr, hm, Result.andThen] at h
 split at h
 ·cases h
 ·generalize (Array.filter (fun e => !seen.contains e.born) es) = L at h
  generalize (if (Array.filter (fun x => decide (x.born < since)) L).isEmpty = true then #[none] else #[]) ++ Array.map some (Array.filter (fun x => decide (x.born < since)) L ++ Array.filter (fun x => decide (x.born ≥ since)) L) = C at h
  have hch : ∀ j w1, (choose (Question.mapNext C.size)).run P w = .ok j w1 → w1.tape = w.tape := fun j w1 h1 => by
   by_cases hf : C.size ≤ 1
   ·simp only [choose, Sem.run, Question.forced, decide_eq_true_eq, hf, if_true] at h1
    cases h1; rfl
   ·simp only [choose, Sem.run, Question.forced, decide_eq_true_eq, hf, if_false, Question.cut] at h1
    cases h1; rfl
  rw [Sem.run_bind] at h
  cases hc : (choose (Question.mapNext C.size)).run P w with
  | ok j w1 =>
    have ht := hch j w1 hc
    rw [hc] at h
    simp only [Result.andThen] at h
    split at h
    ·rw [Sem.run_bind] at h
     simp only [setObj, Sem.run] at h
     split at h
     all_goals first
      | (simp [Result.andThen] at h; done)
      | (simp only [Result.andThen, Sem.run_pure] at h; cases h; exact ht)
    ·rw [Sem.run_pure] at h; cases h; exact ht
    ·cases h
  | _ => rw [hc] at h; cases h
def nOf : Value → Int | .slice _ n _ => (n : Int) | _ => 0
def seenLen : List MapEntry → Array Nat → Int
 | [], _ => 0
 | x :: l, seen => (if seen.contains x.born then nOf x.val else 0) + seenLen l seen
theorem seenLen_other (seen : Array Nat) (b : Nat) : ∀ (es : List MapEntry), b ∉ es.map (·.born) → seenLen es (seen.push b) = seenLen es seen
 | [], _ => rfl
 | x :: l, h => by
   have hx : (x.born == b) = false := by
    cases hc : x.born == b with
    | false => rfl
    | true => exact absurd (List.mem_cons.2 (Or.inl (beq_iff_eq.1 hc).symm)) h
   have ih := seenLen_other seen b l (fun e => h (List.mem_cons.2 (Or.inr e)))
   simp only [seenLen, contains_push, hx, Bool.or_false, ih]
theorem seenLen_push (seen : Array Nat) (e : MapEntry) (hs : seen.contains e.born = false) : ∀ (es : List MapEntry), (es.map (·.born)).Nodup → e ∈ es → seenLen es (seen.push e.born) = seenLen es seen + nOf e.val
 | x :: l, hn, he => by
   have hn' : x.born ∉ l.map (·.born) ∧ (l.map (·.born)).Nodup := List.nodup_cons.1 hn
   rcases List.mem_cons.1 he with rfl | h
   ·rw [seenLen, seenLen, seenLen_other seen _ l hn'.1, contains_push, beq_self_eq_true, Bool.or_true, hs]
    simp; omega
   ·have hx : (x.born == e.born) = false := by
     cases hc : x.born == e.born with
     | false => rfl
     | true => exact absurd (List.mem_map.2 ⟨e, h, (beq_iff_eq.1 hc).symm⟩) hn'.1
    rw [seenLen, seenLen, seenLen_push seen e hs l hn'.2 h, contains_push, hx, Bool.or_false]
    omega
theorem seenLen_none : ∀ es : List MapEntry, seenLen es #[] = 0
 | [] => rfl
 | x :: l => by rw [seenLen, seenLen_none l]; simp
theorem seenLen_bd {es : List MapEntry} (hv : ∀ x ∈ es, 0 ≤ nOf x.val) (seen : Array Nat) : 0 ≤ seenLen es seen ∧ seenLen es seen ≤ (es.map fun x => nOf x.val).sum := by
 induction es with
 | nil => exact ⟨Int.le_refl _, Int.le_refl _⟩
 | cons x l ih =>
   have h1 := ih fun y hy => hv y (.tail _ hy)
   have h2 := hv x (.head _)
   rw [seenLen, List.map_cons, List.sum_cons]
   split <;> omega
theorem seenLen_all (es : Array MapEntry) (seen : Array Nat) (h : (leftOf es seen).size = 0) : seenLen es.toList seen = (es.toList.map fun x => nOf x.val).sum := by
 have hall : ∀ x ∈ es.toList, seen.contains x.born = true := by
  intro x hx
  cases hc : seen.contains x.born with
  | true => rfl
  | false =>
    have : x ∈ leftOf es seen := Array.mem_filter.2 ⟨Array.mem_toList_iff.1 hx, by rw [hc]; rfl⟩
    have h0 := Array.eq_empty_of_size_eq_zero h
    rw [h0] at this
    simp at this
 generalize es.toList = l at hall
 induction l with
 | nil => rfl
 | cons x l ih =>
   rw [seenLen, hall x (.head _), List.map_cons, List.sum_cons, ih fun y hy => hall y (.tail _ hy)]
   simp
set_option maxRecDepth 1000000 in
theorem bytes_walk (bm : Nat) (es : Array MapEntry) (clock : Nat) (w : World) (hb : w.heap[bm]? = some (.map es clock)) (hst : MapKept.Stamped es clock) (hv : ∀ x ∈ es.toList, ∃ a n c, x.val = .slice a n c) (hs : (es.toList.map fun x => nOf x.val).sum ≤ 1099511627776) :
  Calls Tryz.prog 346 #[.map (some bm)] w fun e w' => e = .returned (.int .i64 ((es.toList.map fun x => nOf x.val).sum)) ∧ ∃ (w1 : World) (seen : Array Nat), w1.Alike w ∧ w1.tape = w.tape ∧ w' = w1.alloc (.mapIter (some bm) clock seen clock) := by
 have hrg := run_range_map (P := Tryz.prog) w 234 tInt 43 bm es clock Tryz.underlying234 hb
 have hnn : ∀ x ∈ es.toList, 0 ≤ nOf x.val := fun x hx => by
  obtain ⟨a, n, c, e⟩ := hv x hx
  rw [e]; exact Int.natCast_nonneg n
 go_enter Tryz.func346, Tryz.ntmps346
 go_wp2
 go_loopw [3] (fun s w' => ∃ (w1 : World) (seen : Array Nat), w1.Alike w ∧ w1.tape = w.tape ∧ w' = w1.alloc (.mapIter (some bm) clock seen clock) ∧ s = .int .i64 (seenLen es.toList seen)) (fun _ w' => (leftOf es (w'.iterSeen w.heap.size)).size)
 case atStart => exact ⟨w, #[], ⟨rfl, rfl, rfl⟩, rfl, rfl, by rw [seenLen_none]⟩
 case round =>
  obtain ⟨w1, seen, hal, htp, rfl, rfl⟩ := hrel
  have hsz : w1.heap.size = w.heap.size := by rw [hal.1]
  have hb1 : w1.heap[bm]? = some (.map es clock) := by rw [hal.1]; exact hb
  have law := run_next_map (P := Tryz.prog) w1 0 bm clock clock seen es clock hb1 hst.1 (Nat.le_refl _)
  rw [hsz] at law
  rcases law with ⟨h0, hrun⟩ | ⟨e, he, w2, hal2, hrun⟩
  ·have hnx : ∀ ty, (Instr.next (.pointer (some ⟨w.heap.size, 0, none⟩)) false ty).run Tryz.prog (w1.alloc (.mapIter (some bm) clock seen clock)) = _ := fun _ => hrun
   go_wp2
   go_ret
   rw [seenLen_all es seen h0]
   exact ⟨rfl, w1, seen, hal, htp, rfl⟩
  ·obtain ⟨va, vn, vc, hval⟩ := hv e (mem_left he).1
   have hr1 : (w1.alloc (.mapIter (some bm) clock seen clock)).heap[w.heap.size]? = some (.mapIter (some bm) clock seen clock) := by rw [← hsz]; exact heap_alloc_new w1 _
   have hm1 : (w1.alloc (.mapIter (some bm) clock seen clock)).heap[bm]? = some (.map es clock) := by rw [heap_alloc_old w1 _ (by have := (Array.getElem?_eq_some_iff.1 hb1).1; omega)]; exact hb1
   have htp2 : w2.tape = w1.tape := by have := next_tape hr1 hm1 hrun; exact this
   rw [hval] at hrun
   have hnx : ∀ ty, (Instr.next (.pointer (some ⟨w.heap.size, 0, none⟩)) false ty).run Tryz.prog (w1.alloc (.mapIter (some bm) clock seen clock)) = _ := fun _ => hrun
   have hsz2 : w2.heap.size = w.heap.size := by rw [hal2.1, hal.1]
   have hb2 : w2.heap[bm]? = some (.map es clock) := by rw [hal2.1]; exact hb1
   have hen := run_entry_map (P := Tryz.prog) w2 bm clock seen es clock e hb2 (mem_left he).1 hst.2.1
   rw [hsz2, hval] at hen
   go_wp2
   go_roundw
   case rel =>
    refine ⟨w2, seen.push e.born, ⟨hal2.1.trans hal.1, hal2.2.1.trans hal.2.1, hal2.2.2.trans hal.2.2⟩, htp2.trans htp, rfl, ?_⟩
    have hp := seenLen_push seen e (mem_left he).2 es.toList hst.2.1 (mem_left he).1
    have hbd := seenLen_bd hnn (seen.push e.born)
    rw [hval] at hp
    have hp : seenLen es.toList (seen.push e.born) = seenLen es.toList seen + (vn : Int) := hp
    have hw : Go.RowKit.wrap64 (seenLen es.toList seen + (vn : Int)) = seenLen es.toList (seen.push e.born) := by
     unfold Go.RowKit.wrap64
     omega
    exact congrArg _ hw
   case measure =>
    rw [← hsz2, World.iterSeen_alloc, hsz2, ← hsz, World.iterSeen_alloc]
    exact left_shrinks es seen e he
end Go.Proofs.YtjcnjlaelhdjeaaGreatDoor
namespace Go.Proofs.YtjcnjlaelhdjeaaGreatDoor
open Go Go.Vc Go.RowKit Go.Proofs Go.Chk Go.Runs Go.Code
abbrev tW : TypeId := 337
abbrev Bl := Int × Sl × List Int
def entV (x : Bl) : Value × Value := (.int .i64 x.1, .slice x.2.1.a x.2.1.n x.2.1.c)
abbrev wV (x : Bl) : List Value := [.int .i64 x.1, .slice x.2.1.a x.2.1.n x.2.1.c]
abbrev kb (x : Bl) : Wr1 := (x.1, x.2.2)
structure BlOk (w : World) (x : Bl) : Prop where
 o : OwY 0 w x.2.1 x.2.2
 b : Bys x.2.2
structure Dm where
 r : Nat
 ls : Sl
 E : List Bl
 W : List Bl
structure DO (w : World) (d : Nat) (m : Dm) (D : Dk) : Prop where
 rd : Row w d [.int .i64 D.room, .int .i64 D.fails, .int .i64 D.wait, .map (some m.r), .slice m.ls.a m.ls.n m.ls.c] tDisk
 rm : MapIs GI w (some m.r) (m.E.map entV)
 ol : OwnK 0 tW 2 w m.ls (m.W.map wV)
 sf : (m.E.map kb).Perm D.safe
 sl : m.W.map kb = D.l
 bl : ∀ x ∈ m.E ++ m.W, BlOk w x
 ok : DkOk D
def dF (d : Nat) (m : Dm) (i : Nat) : Prop := i = d ∨ i = m.r ∨ m.ls.blk = some i ∨ ∃ x ∈ m.E ++ m.W, x.2.1.blk = some i
theorem DO.lt {w : World} {d : Nat} {m : Dm} {D : Dk} (h : DO w d m D) {i : Nat} (hi : dF d m i) : i < w.heap.size := by
 rcases hi with rfl | rfl | e | ⟨x, hx, e⟩
 ·exact h.rd.lt
 ·exact h.rm.lt
 ·exact (h.ol.own.lt e).2
 ·exact ((h.bl x hx).o.own.lt e).2
theorem DO.same {w w' : World} {d : Nat} {m : Dm} {D : Dk} (h : DO w d m D) (hs : ∀ i, dF d m i → w'.heap[i]? = w.heap[i]?) : DO w' d m D :=
 ⟨h.rd.same (hs _ (.inl rfl)), h.rm.same (hs _ (.inr (.inl rfl))), OwnK.keep h.ol fun b hb => hs b (.inr (.inr (.inl hb))), h.sf, h.sl, fun x hx => ⟨OwnK.keep (h.bl x hx).o fun b hb => hs b (.inr (.inr (.inr ⟨x, hx, hb⟩))), (h.bl x hx).b⟩, h.ok⟩
theorem DO.ext {w w' : World} {d : Nat} {m : Dm} {D : Dk} (h : DO w d m D) (x : Ext w w') : DO w' d m D := h.same fun i hi => x.heap (h.lt hi)
theorem DO.nW {w : World} {d : Nat} {m : Dm} {D : Dk} (h : DO w d m D) : m.ls.n = m.W.length ∧ m.W.length = D.l.length := by
 have h1 := (h.ol.rd (by decide)).n
 rw [List.length_map] at h1
 exact ⟨h1, by rw [← h.sl, List.length_map]⟩
theorem DO.kind {w : World} {d : Nat} {m : Dm} {D : Dk} (h : DO w d m D) {i : Nat} (hi : dF d m i) : MapIs GI w (some i) (m.E.map entV) ∨ ∃ cs τ, Row w i cs τ ∧ (τ = tDisk ∨ τ = tW ∨ τ = tByte) := by
 rcases hi with e | e | e | ⟨x, hx, e⟩
 ·exact .inr ⟨_, _, e ▸ h.rd, .inl rfl⟩
 ·exact .inl (e ▸ h.rm)
 ·obtain ⟨cs, hr⟩ := own_row h.ol (by decide) e
  exact .inr ⟨_, _, hr, .inr (.inl rfl)⟩
 ·obtain ⟨cs, hr⟩ := own_row (h.bl x hx).o (by decide) e
  exact .inr ⟨_, _, hr, .inr (.inr rfl)⟩
theorem insL_ent (E : List Bl) (x : Bl) : insL (E.map entV) (.int .i64 x.1) (.slice x.2.1.a x.2.1.n x.2.1.c) = (insE (fun y : Bl => y.1) E x).map entV := by
 have key : ∀ y : Bl, (entV y).1 = .int .i64 x.1 ↔ y.1 = x.1 := fun y => by unfold entV; simp
 have ex : (∃ e ∈ E.map entV, e.1 = Value.int .i64 x.1) ↔ ∃ y ∈ E, y.1 = x.1 := by
  constructor
  ·rintro ⟨e, he, q⟩
   obtain ⟨y, hy, rfl⟩ := List.mem_map.1 he
   exact ⟨y, hy, (key y).1 q⟩
  ·rintro ⟨y, hy, q⟩
   exact ⟨_, List.mem_map.2 ⟨y, hy, rfl⟩, (key y).2 q⟩
 unfold insL insE
 by_cases h : ∃ y ∈ E, y.1 = x.1
 ·rw [if_pos (ex.2 h), if_pos h, List.map_map, List.map_map]
  refine List.map_congr_left fun y _ => ?_
  simp only [Function.comp]
  by_cases q : y.1 = x.1
  ·rw [if_pos ((key y).2 q), if_pos q]; unfold entV; rw [q]
  ·rw [if_neg fun q' => q ((key y).1 q'), if_neg q]
 ·rw [if_neg fun q => h (ex.1 q), if_neg h, List.map_append]; rfl
theorem foldl_step {l s : List Wr1} {k : Nat} {x : Wr1} (h : l[k]? = some x) : (l.take (k + 1)).foldl lay s = lay ((l.take k).foldl lay s) x := by
 rw [List.take_add_one, h, List.foldl_append]; rfl
set_option maxRecDepth 100000 in
theorem dNow_spec {w : World} {d : Nat} {m : Dm} {D : Dk} (h : DO w d m D) (hW : D.l.length ≤ 1000000000) : Calls Tryz.prog n_disk_Disk_now #[.pointer (some ⟨d, 0, none⟩)] w fun e w' => ∃ (r' : Nat) (E' : List Bl), e = .returned (.map (some r')) ∧ MapIs GI w' (some r') (E'.map entV) ∧ (E'.map kb).Perm (nowD D) ∧ (∀ x ∈ E', x ∈ m.E ++ m.W) ∧ Ext w w' ∧ w.heap.size ≤ r' := by
 apply disk_Disk_now.vc
 obtain ⟨n1, n2⟩ := h.nW
 refine ⟨some m.r, h.rd.at 3 rfl, (mapsClone_spec h.rm).mono ?_⟩
 rintro e w1 ⟨rfl, hm, x1⟩
 refine ⟨_, rfl, m.ls, (h.ext x1).rd.at 4 rfl, fun n i wr => ∃ (k : Nat) (E' : List Bl), i = k ∧ k + n = m.W.length ∧ MapIs GI wr (some w.heap.size) (E'.map entV) ∧ (E'.map kb).Perm ((D.l.take k).foldl lay D.safe) ∧ (∀ x ∈ E', x ∈ m.E ++ m.W) ∧ Ext w wr,
  ⟨m.W.length, 0, m.E, rfl, by omega, hm, h.sf, fun x hx => List.mem_append.2 (.inl hx), x1⟩, ?_⟩
 rintro n us i wr ⟨k, E', rfl, hk, hm, hp, hsub, xr⟩
 refine Br.mk (fun hc => ?_) (fun hc => ?_)
 ·simp only [decide_eq_true_eq] at hc
  obtain ⟨x, hx⟩ := get_lt (l := m.W) (i := k) (by omega)
  have hr := (h.ext xr).ol.rd (show 0 < 2 by decide)
  have hm2 : (m.W.map wV)[k]? = some (wV x) := by rw [List.getElem?_map, hx]; rfl
  have wk : IntKind.wrap .i64 ((k : Int) + 1) = ((k + 1 : Nat) : Int) := by rw [wrap_in (by unfold inI; omega)]; omega
  have hl : D.l[k]? = some (kb x) := by rw [← h.sl, List.getElem?_map, hx]; rfl
  refine ⟨RdK.inB hr (by decide) (by omega) hc, x.1, x.2.1, RdK.loadL hr hm2, fun w12 e12 w13 e13 => ?_⟩
  have x13 : Ext wr w13 := ((Ext.rfl' _).of_alloc e12).of_setRow e13 (Nat.le_refl _)
  refine ⟨GI, E'.map entV, intKey, rfl, hm.same (x13.heap hm.lt), ⟨_, rfl⟩, fun w16 hrec hm16 => ?_⟩
  rw [insL_ent] at hm16
  refine ⟨n - 1, by omega, k + 1, _, wk, by omega, hm16, ?_, fun y hy => ?_, (Mod.of_rec hrec).ext (xr.tr x13) fun i hi => by rw [hi]; exact Nat.le_refl _⟩
  ·rw [foldl_step hl]
   exact insE_lay (f := fun y : Bl => y.1) (g := fun y : Bl => y.2.2) x hp (foldl_nodup _ h.ok.nd)
  ·rcases insE_mem hy with rfl | hy
   ·exact List.mem_append.2 (.inr (List.mem_of_getElem? hx))
   ·exact hsub y hy
 ·simp only [decide_eq_false_iff_not] at hc
  rw [List.take_of_length_le (by omega)] at hp
  exact ⟨w.heap.size, E', rfl, hm, hp, hsub, xr, Nat.le_refl _⟩
theorem lenB_sum (E : List Bl) : ((lenB (E.map kb) : Nat) : Int) = (E.map fun x => (x.2.2.length : Int)).sum := by
 induction E with
 | nil => rfl
 | cons x t ih =>
   rw [List.map_cons, lenB_cons, List.map_cons, List.sum_cons, ← ih]
   have : (kb x).2.length = x.2.2.length := rfl
   omega
theorem dBytes_spec {w : World} {r : Nat} {E : List Bl} (hm : MapIs GI w (some r) (E.map entV)) (hb : ∀ x ∈ E, BlOk w x) (hn : lenB (E.map kb) ≤ 1099511627776) : Calls Tryz.prog n_disk_bytes #[.map (some r)] w fun e w' => e = .returned (.int .i64 (lenB (E.map kb) : Nat)) ∧ Ext w w' := by
 obtain ⟨es, clock, h1, h2, h3, h4, h5, h6⟩ := hm
 have hk : es.toList.map (·.key) = (E.map entV).map (·.1) := by rw [← h2, List.map_map]; rfl
 have hv : ∀ x ∈ es.toList, ∃ y ∈ E, x.val = .slice y.2.1.a y.2.1.n y.2.1.c := fun x hx => by
  have : (x.key, x.val) ∈ E.map entV := by rw [← h2]; exact List.mem_map.2 ⟨x, hx, rfl⟩
  obtain ⟨y, hy, e⟩ := List.mem_map.1 this
  refine ⟨y, hy, ?_⟩
  have := congrArg Prod.snd e
  exact this.symm
 have hs : (es.toList.map fun x => nOf x.val).sum = (lenB (E.map kb) : Nat) := by
  rw [lenB_sum]
  have e1 : (es.toList.map fun x => nOf x.val) = (E.map entV).map fun e => nOf e.2 := by rw [← h2, List.map_map]; rfl
  rw [e1, List.map_map]
  congr 1
  refine List.map_congr_left fun x hx => ?_
  show ((x.2.1.n : Nat) : Int) = _
  rw [RdY.n (OwY.rdy (hb x hx).o)]
 have hst : MapKept.Stamped es clock := ⟨h6, h5.imp fun h => Nat.ne_of_lt h, by rw [hk]; exact h4⟩
 refine (bytes_walk r es clock w h1 hst (fun x hx => by obtain ⟨y, _, e⟩ := hv x hx; exact ⟨_, _, _, e⟩) (by rw [hs]; omega)).mono ?_
 rintro e w' ⟨rfl, w1, seen, ⟨a1, a2, a3⟩, a4, rfl⟩
 refine ⟨by rw [hs], ?_⟩
 have x1 : Ext w w1 := ⟨a2, a4, a3, by rw [a1]; exact Nat.le_refl _, fun i _ => by rw [a1]⟩
 exact x1.of_alloc rfl
theorem look_now {E : List Bl} {s : List Wr1} (hp : (E.map kb).Perm s) (hn : (keysOf s).Nodup) (k : Int) (w : World) (hb : ∀ x ∈ E, BlOk w x) : ∃ (t : Sl) (b : Bool), Look (E.map entV) (.int .i64 k) (.slice none 0 0) (.slice t.a t.n t.c) b ∧ OwY 0 w t ((getB s k).getD []) ∧ Bys ((getB s k).getD []) ∧ b = (getB s k).isSome := by
 have hne : (keysOf (E.map kb)).Nodup := (hp.map fun x : Wr1 => x.1).nodup_iff.2 hn
 rw [← getB_perm hp hne]
 cases q : getB (E.map kb) k with
 | none =>
   refine ⟨⟨none, 0, 0⟩, false, .inr ⟨rfl, rfl, fun e he => ?_⟩, OwnK.nil, (fun c hc => by cases hc), rfl⟩
   obtain ⟨x, hx, rfl⟩ := List.mem_map.1 he
   have := getB_none.1 q (kb x) (List.mem_map.2 ⟨x, hx, rfl⟩)
   unfold entV
   simpa using this
 | some b =>
   obtain ⟨x, hx, e⟩ := List.mem_map.1 ((getB_some hne).1 q)
   have e1 : x.1 = k := congrArg Prod.fst e
   have e2 : x.2.2 = b := congrArg Prod.snd e
   refine ⟨x.2.1, true, .inl ⟨rfl, List.mem_map.2 ⟨x, hx, by unfold entV; rw [e1]⟩⟩, ?_, ?_, rfl⟩
   ·have := (hb x hx).o
    rw [e2] at this; exact this
   ·have := (hb x hx).b
    rw [e2] at this; exact this
theorem getB_le {s : List Wr1} (hn : (keysOf s).Nodup) (k : Int) : ((getB s k).getD []).length ≤ lenB s := by
 have := lenB_filter hn k; omega
theorem dGet_spec {w : World} {d : Nat} {m : Dm} {D : Dk} (h : DO w d m D) (hW : D.l.length ≤ 1000000000) (k : Int) : Calls Tryz.prog n_disk_Disk_Get #[.pointer (some ⟨d, 0, none⟩), .int .i64 k] w fun e w' => ∃ (s : Sl) (b : Bool), e = .returned (.tuple #[.slice s.a s.n s.c, .bool b]) ∧ OwY w.heap.size w' s (getD D k) ∧ Bys (getD D k) ∧ (getD D k).length ≤ 1048576 ∧ Ext w w' := by
 apply disk_Disk_Get.vc
 refine (dNow_spec h hW).mono ?_
 rintro e w0 ⟨r', E', rfl, hm, hp, hsub, x0, hr⟩
 have hb : ∀ x ∈ E', BlOk w0 x := fun x hx => (h.ext x0).bl x (hsub x hx)
 obtain ⟨t, b, hl, ho, hby, -⟩ := look_now hp h.ok.now k w0 hb
 have hle := getB_le h.ok.now k
 have hnl := h.ok.nlen
 have hrm := h.ok.r
 refine ⟨_, rfl, GI, _, intKey, hm, ⟨k, rfl⟩, t, b, hl, (cloneY_spec t _ w0 (OwY.rdy ho) (by omega)).mono ?_⟩
 rintro e w6 ⟨s7, rfl, o7, x6⟩
 refine ⟨s7, rfl, s7, b, rfl, OwnK.low o7 x0.size, hby, ?_, x0.tr x6⟩
 show ((getB (nowD D) k).getD []).length ≤ _
 omega
theorem DO.row {w w' : World} {d : Nat} {m : Dm} {D : Dk} (h : DO w d m D) {F W : Int} (hm : Mod (fun i => i = d) w w') (hr : Row w' d [.int .i64 D.room, .int .i64 F, .int .i64 W, .map (some m.r), .slice m.ls.a m.ls.n m.ls.c] tDisk) (hok : DkOk { D with fails := F, wait := W }) : DO w' d m { D with fails := F, wait := W } := by
 refine ⟨hr, hm.map h.rm fun e => h.rd.ne_map h.rm e.symm, hm.ownK h.ol fun b hb e => ?_, h.sf, h.sl, fun x hx => ⟨hm.ownK (h.bl x hx).o fun b hb e => ?_, (h.bl x hx).b⟩, hok⟩
 ·obtain ⟨cs, hr'⟩ := own_row h.ol (by decide) hb
  exact hr'.ne h.rd (by decide) e
 ·obtain ⟨cs, hr'⟩ := own_row (h.bl x hx).o (by decide) hb
  exact hr'.ne h.rd (by decide) e
theorem failed_spec {w : World} {d : Nat} {m : Dm} {D : Dk} (h : DO w d m D) : Calls Tryz.prog n_disk_Disk_failed #[.pointer (some ⟨d, 0, none⟩)] w fun e w' => e = .returned (.bool (askD D).2) ∧ DO w' d m (askD D).1 ∧ Mod (fun i => i = d) w w' := by
 apply disk_Disk_failed.vc
 have hok := h.ok.ask
 have hw := h.ok.w
 have hf := h.ok.f
 refine ⟨D.wait, h.rd.at 2 rfl, Br.mk (fun hc => ?_) (fun hc => ?_)⟩
 ·simp only [gt_iff_lt, decide_eq_true_eq] at hc
  have e : askD D = ({ D with wait := 0 }, false) := by unfold askD; rw [if_pos hc]
  have e1 : IntKind.wrap .i64 (D.wait - 1) = 0 := by rw [wrap_in (by unfold inI; omega)]; omega
  rw [e] at hok ⊢
  obtain ⟨p1, p2⟩ := h.rd.put1 (j := 2) (v := .int .i64 0) (by simp) rfl
  refine ⟨_, h.rd.at 2 rfl, ?_⟩
  rw [e1]
  refine ⟨⟨rfl, p1⟩, fun w2 e2 => ⟨rfl, ?_⟩⟩
  obtain ⟨q1, q2⟩ := p2 w2 e2
  exact ⟨h.row q2 q1 hok, q2⟩
 ·simp only [gt_iff_lt, decide_eq_false_iff_not] at hc
  refine ⟨D.fails, h.rd.at 1 rfl, Br.mk (fun hc2 => ?_) (fun hc2 => ?_)⟩
  ·simp only [gt_iff_lt, decide_eq_true_eq] at hc2
   have e : askD D = ({ D with fails := D.fails - 1 }, true) := by unfold askD; rw [if_neg hc, if_pos hc2]
   rw [e] at hok ⊢
   obtain ⟨p1, p2⟩ := h.rd.put1 (j := 1) (v := .int .i64 (IntKind.wrap .i64 (D.fails - 1))) (by simp) rfl
   refine ⟨_, h.rd.at 1 rfl, ⟨rfl, p1⟩, fun w2 e2 => ⟨by rw [decide_eq_true hc2], ?_⟩⟩
   obtain ⟨q1, q2⟩ := p2 w2 e2
   have e1 : IntKind.wrap .i64 (D.fails - 1) = D.fails - 1 := wrap_in (by unfold inI; omega)
   rw [e1] at q1
   exact ⟨h.row q2 q1 hok, q2⟩
  ·simp only [gt_iff_lt, decide_eq_false_iff_not] at hc2
   have e : askD D = (D, false) := by unfold askD; rw [if_neg hc, if_neg hc2]
   rw [e]
   exact ⟨by rw [decide_eq_false hc2], h, Mod.refl _ _⟩
end Go.Proofs.YtjcnjlaelhdjeaaGreatDoor
namespace Go.Proofs.YtjcnjlaelhdjeaaGreatDoor
open Go Go.Vc Go.RowKit Go.Proofs Go.Chk Go.Runs Go.Code
theorem ldOne {w : World} {p : Option Addr} {v : Value} (h : ld w p = some v) : LoadL w p 0 [v] := by
 show ld w (padd p 0) = _
 rw [padd_zero]; exact h
theorem one_is (k : Int) (a : Option Addr) (n c : Nat) : One [Value.int .i64 k, Value.slice a n c] := by
 intro v hv
 simp at hv
 rcases hv with rfl | rfl <;> rfl
theorem now_ask (D : Dk) : nowD (askD D).1 = nowD D := by
 obtain ⟨e1, e2, -⟩ := askD_safe D
 unfold nowD; rw [e1, e2]
theorem DO.ls_ne {w : World} {d : Nat} {m : Dm} {D : Dk} (h : DO w d m D) : ∀ b, m.ls.blk = some b → b ≠ d := fun b hb => by
 obtain ⟨cs, hr⟩ := own_row h.ol (by decide) hb
 exact hr.ne h.rd (by decide)
def DRes (w : World) (d : Nat) (m : Dm) (D : Dk) (w' : World) : Prop := ∃ m', DO w' d m' D ∧ Mod (fun i => i = d ∨ m.ls.blk = some i) w w' ∧ (∀ i, dF d m' i → dF d m i ∨ w.heap.size ≤ i) ∧ ∀ i, m'.ls.blk = some i → m.ls.blk = some i ∨ w.heap.size ≤ i
set_option maxRecDepth 100000 in
theorem dPut_spec {w : World} {d : Nat} {m : Dm} {D : Dk} (h : DO w d m D) (hW : D.l.length ≤ 1000000000) (key : Int) (s : Sl) (b : List Int) (hs : RdY w s b) (hb : Bys b) (hn : b.length ≤ 1099511627776) (hsd : s.blk ≠ some d) :
  Calls Tryz.prog n_disk_Disk_Put #[.pointer (some ⟨d, 0, none⟩), .int .i64 key, .slice s.a s.n s.c] w fun e w' => e = .returned (.int .i64 (putD D key b).2) ∧ DRes w d m (putD D key b).1 w' := by
 apply (disk_Disk_Put.vc (a2 := s))
 have hsn := RdY.n hs
 refine (failed_spec h).mono ?_
 rintro e w0 ⟨rfl, h0, m0⟩
 have z0 := m0.size
 have m0' : Mod (fun i => i = d ∨ m.ls.blk = some i) w w0 := m0.mono fun i _ hi => .inl hi
 refine ⟨_, rfl, Br.mk (fun hf => ?_) (fun hf => ?_)⟩
 ·have e : putD D key b = ((askD D).1, 9) := by unfold putD; rw [if_pos hf]
  rw [e]
  exact ⟨rfl, m, h0, m0', fun i hi => .inl hi, fun i hi => .inl hi⟩
 obtain ⟨e1, e2, e3⟩ := askD_safe D
 have hs0 : RdY w0 s b := m0.rdK (by decide) hs fun _ g hg e => hsd (e ▸ hg)
 refine (dNow_spec h0 (by rw [e2]; exact hW)).mono ?_
 rintro e w2 ⟨r', E', rfl, hm2, hp, hsub, x2, hr'⟩
 rw [now_ask] at hp
 have hnd := h.ok.now
 have hnl := h.ok.nlen
 have hrm := h.ok.r
 have hbE : ∀ x ∈ E', BlOk w2.drew x := fun x hx => (h0.ext (x2.tr (Ext.dr w2))).bl x (hsub x hx)
 have hm2' : MapIs GI w2.drew (some r') (E'.map entV) := hm2.same ((Ext.dr w2).heap hm2.lt)
 obtain ⟨t, tb, hl, hto, htb, -⟩ := look_now hp hnd key w2.drew hbE
 have htn := RdY.n (OwY.rdy hto)
 have hll := lenB_lay hnd (key, b)
 have hlE : lenB (E'.map kb) = lenB (nowD D) := lenB_perm hp
 simp only at hll
 have hg : ((getB (nowD D) key).getD []).length ≤ lenB (nowD D) := getB_le hnd key
 rw [← htn] at hll hg
 have wl : IntKind.wrap .i64 (((lenB (E'.map kb) : Nat) : Int) - ((t.n : Nat) : Int)) = ((lenB (nowD D) : Nat) : Int) - t.n := by rw [hlE, wrap_in (by unfold inI; omega)]
 have wr : IntKind.wrap .i64 (D.room - ((s.n : Nat) : Int)) = D.room - s.n := wrap_in (by unfold inI; omega)
 have hd0 : ∀ {v : World}, Ext w0 v → ld v (padd (some ⟨d, 0, none⟩) 0) = some (.int .i64 D.room) := fun x => by
  have := (h0.ext x).rd.at 0 rfl
  rw [e3] at this; exact this
 have x2d := x2.tr (Ext.dr w2)
 have hby := dBytes_spec (w := w2.drew) hm2' hbE (by rw [hlE]; omega)
 refine ⟨_, rfl, D.room, hd0 x2d, ?_, ?_⟩
 ·refine hby.mono ?_
  rintro e v ⟨rfl, xv⟩
  have xv0 := x2d.tr xv
  refine ⟨_, rfl, ldOne (hd0 xv0), GI, _, intKey, hm2'.same (xv.heap hm2'.lt), ⟨key, rfl⟩, t, tb, hl, ldOne (hd0 xv0), ?_⟩
  rw [wl, wr]
  refine Br.mk (fun hc => ?_) (fun hc => ?_)
  ·simp only [gt_iff_lt, decide_eq_true_eq] at hc
   have e : putD D key b = ((askD D).1, 8) := by unfold putD; rw [if_neg (by rw [hf]; decide), if_pos (by omega)]
   rw [e]
   have zv := xv0.size
   exact ⟨rfl, m, h0.ext xv0, m0'.trans (Mod.of_ext xv0), fun i hi => .inl hi, fun i hi => .inl hi⟩
  ·simp only [gt_iff_lt, decide_eq_false_iff_not] at hc
   have e : putD D key b = ({ (askD D).1 with l := D.l ++ [(key, b)] }, 0) := by unfold putD; rw [if_neg (by rw [hf]; decide), if_neg (by omega)]
   have hok := h.ok.put key b
   rw [e] at hok ⊢
   have xvd := xv0.tr (Ext.dr v)
   refine ⟨m.ls, (h0.ext xvd).rd.at 4 rfl, (cloneY_spec s b v.drew (hs0.ext xvd) hn).mono ?_⟩
   rintro e w12 ⟨s13, rfl, o13, x12⟩
   have x012 := xvd.tr x12
   have h12 := h0.ext x012
   obtain ⟨n1, n2⟩ := h12.nW
   rw [e2] at n2
   refine ⟨s13, rfl, ldOne (h12.rd.at 4 rfl), fun w14 e14 => ?_⟩
   subst e14
   obtain ⟨hp2, hres⟩ := OwnK.app1 h12.ol (bytes := 32) (news := wV (key, s13, b)) (.cells #[.int .i64 key, .slice s13.a s13.n s13.c] tW) (Nat.zero_le _) rfl (one_is _ _ _ _) (by omega) (by omega)
   refine ⟨hp2, fun s15 w16 hr => ?_⟩
   obtain ⟨f1, ho16, hn16, xb, hk16, hblk⟩ := hres s15 w16 hr
   have m16 : Mod (fun j => m.ls.blk = some j) w12 w16 := Mod.of_app xb hk16
   have rd16 := m16.row h12.rd fun q => h12.ls_ne _ q rfl
   obtain ⟨p1, p2⟩ := rd16.put1 (j := 4) (v := .slice s15.a s15.n s15.c) (by simp) rfl
   have z12 := x012.size
   have hdl := h.rd.lt
   refine ⟨f1, ⟨rfl, p1⟩, fun q => ?_, fun w17 e17 => ⟨rfl, { m with ls := s15, W := m.W ++ [(key, s13, b)] }, ?_, ?_, ?_, ?_⟩⟩
   ·rw [pblk_padd] at q
    have : d = w12.heap.size := by simpa [pblk] using q
    omega
   ·obtain ⟨q1, q2⟩ := p2 w17 e17
    have mm : Mod (fun j => j = d ∨ m.ls.blk = some j) w12 w17 := (m16.mono fun i _ hi => .inr hi).trans (q2.mono fun i _ hi => .inl hi)
    have off : ∀ {g : Nat} {cs : List Value} {τ : TypeId}, Row w12 g cs τ → τ ≠ tDisk → τ ≠ tW → ¬ (g = d ∨ m.ls.blk = some g) := fun hr' t1 t2 q => by
     rcases q with q | q
     ·exact hr'.ne h12.rd t1 q
     ·obtain ⟨cs', hr2⟩ := own_row h12.ol (by decide) q
      exact hr'.ne hr2 t2 rfl
    refine ⟨q1, mm.map h12.rm fun q => ?_, ?_, h12.sf, ?_, fun x hx => ?_, hok⟩
    ·rcases q with q | q
     ·exact h12.rd.ne_map h12.rm q.symm
     ·obtain ⟨cs', hr2⟩ := own_row h12.ol (by decide) q
      exact hr2.ne_map h12.rm rfl
    ·show OwnK 0 tW 2 w17 s15 ((m.W ++ [(key, s13, b)]).map wV)
     rw [List.map_append]
     refine q2.ownK ho16 fun g hg => ?_
     obtain ⟨cs', hr2⟩ := own_row ho16 (by decide) hg
     exact hr2.ne rd16 (by decide)
    ·show (m.W ++ [(key, s13, b)]).map kb = D.l ++ [(key, b)]
     rw [List.map_append, h.sl]; rfl
    ·have hx : x ∈ m.E ++ m.W ∨ x = (key, s13, b) := by
      simp only [List.mem_append, List.mem_cons, List.not_mem_nil, or_false] at hx ⊢
      rcases hx with hx | hx | hx
      ·exact .inl (.inl hx)
      ·exact .inl (.inr hx)
      ·exact .inr hx
     have hbx : BlOk w12 x := by
      rcases hx with hx | rfl
      ·exact h12.bl x hx
      ·exact ⟨OwnK.low o13 (Nat.zero_le _), hb⟩
     refine ⟨mm.ownK hbx.o fun g hg => ?_, hbx.b⟩
     obtain ⟨cs', hr2⟩ := own_row hbx.o (by decide) hg
     exact off hr2 (by decide) (by decide)
   ·obtain ⟨q1, q2⟩ := p2 w17 e17
    refine (m0'.trans (Mod.of_ext x012)).trans ((m16.mono fun i _ hi => .inr hi).trans (q2.mono fun i _ hi => .inl hi))
   ·rintro i (q | q | q | ⟨x, hx, q⟩)
    ·exact .inl (.inl q)
    ·exact .inl (.inr (.inl q))
    ·rcases hblk with q' | q'
     ·exact .inl (.inr (.inr (.inl (by rw [← q']; exact q))))
     ·rw [q'] at q; cases q; exact .inr (by omega)
    ·simp only [List.mem_append, List.mem_cons, List.not_mem_nil, or_false] at hx
     rcases hx with hx | hx | rfl
     ·exact .inl (.inr (.inr (.inr ⟨x, List.mem_append.2 (.inl hx), q⟩)))
     ·exact .inl (.inr (.inr (.inr ⟨x, List.mem_append.2 (.inr hx), q⟩)))
     ·have := (o13.own.lt q).1
      have zv := xvd.size
      exact .inr (by omega)
   ·intro i q
    rcases hblk with q' | q'
    ·exact .inl (by rw [← q']; exact q)
    ·have q : s15.blk = some i := q
     rw [q'] at q; cases q; exact .inr (by omega)
 ·refine ⟨GI, _, intKey, hm2', ⟨key, rfl⟩, t, tb, hl, ldOne (hd0 x2d), hby.mono ?_⟩
  rintro e v ⟨rfl, xv⟩
  have xv0 := x2d.tr xv
  refine ⟨_, rfl, ldOne (hd0 xv0), ?_⟩
  rw [wl, wr]
  refine Br.mk (fun hc => ?_) (fun hc => ?_)
  ·simp only [gt_iff_lt, decide_eq_true_eq] at hc
   have e : putD D key b = ((askD D).1, 8) := by unfold putD; rw [if_neg (by rw [hf]; decide), if_pos (by omega)]
   rw [e]
   have zv := xv0.size
   exact ⟨rfl, m, h0.ext xv0, m0'.trans (Mod.of_ext xv0), fun i hi => .inl hi, fun i hi => .inl hi⟩
  ·simp only [gt_iff_lt, decide_eq_false_iff_not] at hc
   have e : putD D key b = ({ (askD D).1 with l := D.l ++ [(key, b)] }, 0) := by unfold putD; rw [if_neg (by rw [hf]; decide), if_neg (by omega)]
   have hok := h.ok.put key b
   rw [e] at hok ⊢
   have xvd := xv0.tr (Ext.dr v)
   refine ⟨m.ls, (h0.ext xvd).rd.at 4 rfl, (cloneY_spec s b v.drew (hs0.ext xvd) hn).mono ?_⟩
   rintro e w12 ⟨s13, rfl, o13, x12⟩
   have x012 := xvd.tr x12
   have h12 := h0.ext x012
   obtain ⟨n1, n2⟩ := h12.nW
   rw [e2] at n2
   refine ⟨s13, rfl, ldOne (h12.rd.at 4 rfl), fun w14 e14 => ?_⟩
   subst e14
   obtain ⟨hp2, hres⟩ := OwnK.app1 h12.ol (bytes := 32) (news := wV (key, s13, b)) (.cells #[.int .i64 key, .slice s13.a s13.n s13.c] tW) (Nat.zero_le _) rfl (one_is _ _ _ _) (by omega) (by omega)
   refine ⟨hp2, fun s15 w16 hr => ?_⟩
   obtain ⟨f1, ho16, hn16, xb, hk16, hblk⟩ := hres s15 w16 hr
   have m16 : Mod (fun j => m.ls.blk = some j) w12 w16 := Mod.of_app xb hk16
   have rd16 := m16.row h12.rd fun q => h12.ls_ne _ q rfl
   obtain ⟨p1, p2⟩ := rd16.put1 (j := 4) (v := .slice s15.a s15.n s15.c) (by simp) rfl
   have z12 := x012.size
   have hdl := h.rd.lt
   refine ⟨f1, ⟨rfl, p1⟩, fun q => ?_, fun w17 e17 => ⟨rfl, { m with ls := s15, W := m.W ++ [(key, s13, b)] }, ?_, ?_, ?_, ?_⟩⟩
   ·rw [pblk_padd] at q
    have : d = w12.heap.size := by simpa [pblk] using q
    omega
   ·obtain ⟨q1, q2⟩ := p2 w17 e17
    have mm : Mod (fun j => j = d ∨ m.ls.blk = some j) w12 w17 := (m16.mono fun i _ hi => .inr hi).trans (q2.mono fun i _ hi => .inl hi)
    have off : ∀ {g : Nat} {cs : List Value} {τ : TypeId}, Row w12 g cs τ → τ ≠ tDisk → τ ≠ tW → ¬ (g = d ∨ m.ls.blk = some g) := fun hr' t1 t2 q => by
     rcases q with q | q
     ·exact hr'.ne h12.rd t1 q
     ·obtain ⟨cs', hr2⟩ := own_row h12.ol (by decide) q
      exact hr'.ne hr2 t2 rfl
    refine ⟨q1, mm.map h12.rm fun q => ?_, ?_, h12.sf, ?_, fun x hx => ?_, hok⟩
    ·rcases q with q | q
     ·exact h12.rd.ne_map h12.rm q.symm
     ·obtain ⟨cs', hr2⟩ := own_row h12.ol (by decide) q
      exact hr2.ne_map h12.rm rfl
    ·show OwnK 0 tW 2 w17 s15 ((m.W ++ [(key, s13, b)]).map wV)
     rw [List.map_append]
     refine q2.ownK ho16 fun g hg => ?_
     obtain ⟨cs', hr2⟩ := own_row ho16 (by decide) hg
     exact hr2.ne rd16 (by decide)
    ·show (m.W ++ [(key, s13, b)]).map kb = D.l ++ [(key, b)]
     rw [List.map_append, h.sl]; rfl
    ·have hx : x ∈ m.E ++ m.W ∨ x = (key, s13, b) := by
      simp only [List.mem_append, List.mem_cons, List.not_mem_nil, or_false] at hx ⊢
      rcases hx with hx | hx | hx
      ·exact .inl (.inl hx)
      ·exact .inl (.inr hx)
      ·exact .inr hx
     have hbx : BlOk w12 x := by
      rcases hx with hx | rfl
      ·exact h12.bl x hx
      ·exact ⟨OwnK.low o13 (Nat.zero_le _), hb⟩
     refine ⟨mm.ownK hbx.o fun g hg => ?_, hbx.b⟩
     obtain ⟨cs', hr2⟩ := own_row hbx.o (by decide) hg
     exact off hr2 (by decide) (by decide)
   ·obtain ⟨q1, q2⟩ := p2 w17 e17
    refine (m0'.trans (Mod.of_ext x012)).trans ((m16.mono fun i _ hi => .inr hi).trans (q2.mono fun i _ hi => .inl hi))
   ·rintro i (q | q | q | ⟨x, hx, q⟩)
    ·exact .inl (.inl q)
    ·exact .inl (.inr (.inl q))
    ·rcases hblk with q' | q'
     ·exact .inl (.inr (.inr (.inl (by rw [← q']; exact q))))
     ·rw [q'] at q; cases q; exact .inr (by omega)
    ·simp only [List.mem_append, List.mem_cons, List.not_mem_nil, or_false] at hx
     rcases hx with hx | hx | rfl
     ·exact .inl (.inr (.inr (.inr ⟨x, List.mem_append.2 (.inl hx), q⟩)))
     ·exact .inl (.inr (.inr (.inr ⟨x, List.mem_append.2 (.inr hx), q⟩)))
     ·have := (o13.own.lt q).1
      have zv := xvd.size
      exact .inr (by omega)
   ·intro i q
    rcases hblk with q' | q'
    ·exact .inl (by rw [← q']; exact q)
    ·have q : s15.blk = some i := q
     rw [q'] at q; cases q; exact .inr (by omega)
end Go.Proofs.YtjcnjlaelhdjeaaGreatDoor
namespace Go.Proofs.YtjcnjlaelhdjeaaGreatDoor
open Go Go.Vc Go.RowKit Go.Proofs Go.Chk Go.Runs Go.Code
set_option maxRecDepth 100000 in
theorem dSync_spec {w : World} {d : Nat} {m : Dm} {D : Dk} (h : DO w d m D) (hW : D.l.length ≤ 1000000000) :
  Calls Tryz.prog n_disk_Disk_Sync #[.pointer (some ⟨d, 0, none⟩)] w fun e w' => e = .returned (.int .i64 (syncD D).2) ∧ DRes w d m (syncD D).1 w' := by
 apply disk_Disk_Sync.vc
 refine (failed_spec h).mono ?_
 rintro e w0 ⟨rfl, h0, m0⟩
 have z0 := m0.size
 have m0' : Mod (fun i => i = d ∨ m.ls.blk = some i) w w0 := m0.mono fun i _ hi => .inl hi
 have hok := h.ok.sync
 obtain ⟨e1, e2, e3⟩ := askD_safe D
 refine ⟨_, rfl, Br.mk (fun hf => ?_) (fun hf => ?_)⟩
 ·have e : syncD D = ((askD D).1, 9) := by unfold syncD; rw [if_pos hf]
  rw [e]
  exact ⟨rfl, m, h0, m0', fun i hi => .inl hi, fun i hi => .inl hi⟩
 ·have e : syncD D = ({ (askD D).1 with safe := nowD D, l := [] }, 0) := by unfold syncD; rw [if_neg (by rw [hf]; decide)]
  rw [e] at hok ⊢
  refine (dNow_spec h0 (by rw [e2]; exact hW)).mono ?_
  rintro e w2 ⟨r', E', rfl, hm2, hp, hsub, x2, hr'⟩
  rw [now_ask] at hp
  have h2 := h0.ext x2
  have z2 := x2.size
  have hdl := h.rd.lt
  obtain ⟨p1, p2⟩ := h2.rd.put1 (j := 3) (v := .map (some r')) (by simp) rfl
  refine ⟨_, rfl, ⟨rfl, p1⟩, fun w4 e4 => ?_⟩
  obtain ⟨q1, q2⟩ := p2 w4 e4
  obtain ⟨p3, p4⟩ := q1.put1 (j := 4) (v := .slice none 0 0) (show 4 < 5 by decide) rfl
  refine ⟨⟨rfl, p3⟩, fun w5 e5 => ⟨rfl, ⟨r', ⟨none, 0, 0⟩, E', []⟩, ?_, ?_, ?_, fun i q => by cases q⟩⟩
  ·obtain ⟨q3, q4⟩ := p4 w5 e5
   have mm := q2.trans q4
   refine ⟨q3, mm.map hm2 fun q => h2.rd.ne_map hm2 q.symm, OwnK.nil, hp, rfl, fun x hx => ?_, hok⟩
   have hx' : x ∈ E' := by simpa using hx
   have hbx := h2.bl x (hsub x hx')
   refine ⟨mm.ownK hbx.o fun g hg => ?_, hbx.b⟩
   obtain ⟨cs', hr2⟩ := own_row hbx.o (by decide) hg
   exact hr2.ne h2.rd (by decide)
  ·obtain ⟨q3, q4⟩ := p4 w5 e5
   exact (m0'.trans (Mod.of_ext x2)).trans ((q2.trans q4).mono fun i _ hi => .inl hi)
  ·rintro i (q | q | q | ⟨x, hx, q⟩)
   ·exact .inl (.inl q)
   ·exact .inr (by rw [q]; show _ ≤ r'; omega)
   ·cases q
   ·have hx' : x ∈ E' := by simpa using hx
    exact .inl (.inr (.inr (.inr ⟨x, hsub x hx', q⟩)))
end Go.Proofs.YtjcnjlaelhdjeaaGreatDoor
namespace Go.Proofs.YtjcnjlaelhdjeaaGreatDoor
open Go Go.Vc Go.RowKit Go.Proofs Go.Chk Go.Runs Go.Code
abbrev tRec : TypeId := 276
structure SO (w : World) (st d : Nat) (m : Dm) (D : Dk) : Prop where
 rs : Row w st [.pointer (some ⟨d, 0, none⟩)] tStore
 dk : DO w d m D
def sF (st d : Nat) (m : Dm) (i : Nat) : Prop := i = st ∨ dF d m i
theorem SO.lt {w : World} {st d : Nat} {m : Dm} {D : Dk} (h : SO w st d m D) {i : Nat} (hi : sF st d m i) : i < w.heap.size := by
 rcases hi with rfl | hi
 ·exact h.rs.lt
 ·exact h.dk.lt hi
theorem SO.same {w w' : World} {st d : Nat} {m : Dm} {D : Dk} (h : SO w st d m D) (hs : ∀ i, sF st d m i → w'.heap[i]? = w.heap[i]?) : SO w' st d m D := ⟨h.rs.same (hs _ (.inl rfl)), h.dk.same fun i hi => hs i (.inr hi)⟩
theorem SO.ext {w w' : World} {st d : Nat} {m : Dm} {D : Dk} (h : SO w st d m D) (x : Ext w w') : SO w' st d m D := h.same fun i hi => x.heap (h.lt hi)
theorem SO.ptr {w : World} {st d : Nat} {m : Dm} {D : Dk} (h : SO w st d m D) : ld w (padd (padd (some ⟨st, 0, none⟩) 0) 0) = some (.pointer (some ⟨d, 0, none⟩)) := by
 rw [padd_row, padd_row, h.rs.ld]; rfl
theorem dNew_spec (room : Int) (w : World) : Calls Tryz.prog n_disk_New #[.int .i64 room] w fun e w' => ∃ d m, e = .returned (.pointer (some ⟨d, 0, none⟩)) ∧ DO w' d m ⟨min (max room 0) 1048576, 0, 0, [], []⟩ ∧ Ext w w' ∧ ∀ i, dF d m i → w.heap.size ≤ i := by
 apply disk_New.vc
 intro w0 e0 w1 e1
 have z0 : w0.heap.size = w.heap.size + 1 := by rw [e0]; simp
 have x1 : Ext w0 w1 := (Ext.rfl' _).of_alloc e1
 have hm : MapIs GI w0 (some w.heap.size) [] := by rw [e0]; exact MapIs.new
 have er : (if 1048576 < (if 0 > room then 0 else room) then 1048576 else (if 0 > room then 0 else room)) = min (max room 0) 1048576 := by split <;> split <;> omega
 rw [er] at e1
 refine ⟨w0.heap.size, ⟨w.heap.size, ⟨none, 0, 0⟩, [], []⟩, rfl, ⟨by rw [e1]; exact Row.new w0 [_, _, _, _, _] _, hm.same (x1.heap hm.lt), OwnK.nil, .refl _, rfl, (fun x hx => by cases hx), ⟨List.nodup_nil, fun k => by simp [lenB]; omega, by simp, by simp, by simp only; omega⟩⟩, ((Ext.rfl' w).of_alloc e0).tr x1, fun i hi => ?_⟩
 rcases hi with q | q | q | ⟨x, hx, -⟩
 ·omega
 ·rw [q]; exact Nat.le_refl _
 ·cases q
 ·cases hx
theorem sNew_spec (room : Int) (w : World) : Calls Tryz.prog n_store_New #[.int .i64 room] w fun e w' => ∃ st d m, e = .returned (.pointer (some ⟨st, 0, none⟩)) ∧ SO w' st d m ⟨min (max room 0) 1048576, 0, 0, [], []⟩ ∧ Ext w w' ∧ ∀ i, sF st d m i → w.heap.size ≤ i := by
 apply store_New.vc
 refine (dNew_spec room w).mono ?_
 rintro e w0 ⟨d, m, rfl, hd, x0, hf⟩
 refine ⟨_, rfl, fun w2 e2 => ?_⟩
 have x2 : Ext w0 w2 := (Ext.rfl' _).of_alloc e2
 have z := x0.size
 refine ⟨_, d, m, rfl, ⟨by rw [e2]; exact Row.new w0 [_] _, hd.ext x2⟩, x0.tr x2, fun i hi => ?_⟩
 rcases hi with q | q
 ·omega
 ·exact hf i q
set_option maxRecDepth 100000 in
theorem sOf_spec {w : World} {st d : Nat} {m : Dm} {D : Dk} (h : SO w st d m D) (hW : D.l.length ≤ 1000000000) {id : Int} (hid : 0 ≤ id ∧ id ≤ 1099511627776) :
  Calls Tryz.prog n_store_Store_of #[.pointer (some ⟨st, 0, none⟩), .int .i64 id] w fun e w' => ∃ s : Sl, e = .returned (.agg #[.int .i64 (ofS D id).1, .int .i64 (ofS D id).2.1, .slice s.a s.n s.c]) ∧ RdY w' s (ofS D id).2.2 ∧ Bys (ofS D id).2.2 ∧ (ofS D id).2.2.length ≤ 1048576 ∧ s.n ≤ s.c ∧ (∀ g, s.blk = some g → w.heap.size ≤ g) ∧ Ext w w' := by
 apply store_Store_ofb.vc
 intro w0 e0 w1 e1 w2 e2
 have z0 : w0.heap.size = w.heap.size + 1 := by rw [e0]; simp
 have z1 : w1.heap.size = w.heap.size + 2 := by rw [e1]; simp [z0]
 have z2 : w2.heap.size = w.heap.size + 2 := by rw [e2, setRow_size, z1]
 have x2 : Ext w w2 := (((Ext.rfl' w).of_alloc e0).of_alloc e1).of_setRow e2 (by omega)
 clear e0 e1 e2
 have k0 : IntKind.wrap .i64 (2 * id) = 2 * id := wrap_in (by unfold inI; omega)
 have k1 : IntKind.wrap .i64 (2 * id + 1) = 2 * id + 1 := wrap_in (by unfold inI; omega)
 rw [k0, k1]
 obtain ⟨best, hbest⟩ : ∃ best : Nat → Rc, best = fun k => if k = 0 then (2 * id + 1, 0, []) else if k = 1 then stepS (2 * id + 1, 0, []) (2 * id) (rdS (getD D (2 * id))) else ofS D id := ⟨_, rfl⟩
 have b0 : best 0 = (2 * id + 1, 0, []) := by rw [hbest]; rfl
 have b1 : best 1 = stepS (best 0) (2 * id) (rdS (getD D (2 * id))) := by rw [b0, hbest]; rfl
 have b2 : best 2 = stepS (best 1) (2 * id + 1) (rdS (getD D (2 * id + 1))) := by rw [b1, b0, hbest]; rfl
 have b3 : best 2 = ofS D id := by rw [hbest]; rfl
 clear hbest
 refine ⟨fun n i sl v s wr => ∃ k : Nat, i = k ∧ k + n = 2 ∧ sl = (best k).1 ∧ v = (best k).2.1 ∧ RdY wr s (best k).2.2 ∧ Bys (best k).2.2 ∧ (best k).2.2.length ≤ 1048576 ∧ s.n ≤ s.c ∧ (∀ g, s.blk = some g → w2.heap.size ≤ g) ∧ Ext w wr ∧ w2.heap.size ≤ wr.heap.size,
  ⟨2, rfl, 0, rfl, rfl, by rw [b0], by rw [b0], by rw [b0]; exact OwY.rdy (OwnK.nil (B := 0)), by rw [b0]; exact (fun c hc => by cases hc), by rw [b0]; simp, Nat.le_refl _, (fun g hg => by cases hg), x2, Nat.le_refl _⟩, ?_⟩
 rintro n4 us i sl v s w10 ⟨k, rfl, hk, rfl, rfl, hs, hsb, hsl, hsc, hsf, x10, z10⟩
 refine Br.mk (fun hc => ?_) (fun hc => ?_)
 ·simp only [decide_eq_true_eq] at hc
  have hwk : IntKind.wrap .i64 ((k : Int) + 1) = ((k + 1 : Nat) : Int) := by rw [wrap_in (by unfold inI; omega)]; omega
  obtain ⟨slot, hslot, hnext⟩ : ∃ slot, ([.int .i64 (2 * id), .int .i64 (2 * id + 1)] : List Value)[((k : Nat) : Int).toNat * 1]? = some (.int .i64 slot) ∧ best (k + 1) = stepS (best k) slot (rdS (getD D slot)) := by
   rcases k with _ | _ | k
   ·exact ⟨_, rfl, b1⟩
   ·exact ⟨_, rfl, b2⟩
   ·omega
  have h10 := h.ext x10
  refine ⟨⟨by omega, by omega⟩, slot, hslot, _, h10.ptr, (dGet_spec h10.dk hW slot).mono ?_⟩
  rintro e w14 ⟨t, tb, rfl, ot, hby, hle, x14⟩
  have z14 := x14.size
  refine ⟨t, tb, rfl, x14.heap (by omega), x14.heap (by omega), (sRead_spec t (getD D slot) w14 (OwY.rdy ot) hby (OwnK.le ot) (by omega)).mono ?_⟩
  rintro e w17 ⟨u, rfl, hu, huc, hub, x17⟩
  have z17 := x17.size
  have x1017 := x14.tr x17
  have hui := rdS_in hby
  have hul := rdS_le (getD D slot)
  have keep : stepS (best k) slot (rdS (getD D slot)) = best k → ∃ n11, n11 < n4 ∧ ([.int .i64 0, .int .i64 0, .slice none 0 0] : List Value) = [.int .i64 0, .int .i64 0, .slice none 0 0] ∧ ∃ k' : Nat, IntKind.wrap .i64 ((k : Int) + 1) = (k' : Int) ∧ k' + n11 = 2 ∧ (best k).1 = (best k').1 ∧ (best k).2.1 = (best k').2.1 ∧ RdY w17 s (best k').2.2 ∧ Bys (best k').2.2 ∧ (best k').2.2.length ≤ 1048576 ∧ s.n ≤ s.c ∧ (∀ g, s.blk = some g → w2.heap.size ≤ g) ∧ Ext w w17 ∧ w2.heap.size ≤ w17.heap.size := fun q => by
   rw [q] at hnext
   exact ⟨n4 - 1, by omega, rfl, k + 1, hwk, by omega, by rw [hnext], by rw [hnext], by rw [hnext]; exact hs.ext x1017, by rw [hnext]; exact hsb, by rw [hnext]; exact hsl, hsc, hsf, x10.tr x1017, by omega⟩
  refine ⟨_, u, _, rfl, x17.heap (by omega), x17.heap (by omega), Br.mk (fun hb => Br.mk (fun hb2 => ?_) (fun hb2 => ?_)) (fun hb => ?_)⟩
  ·have q1 : (rdS (getD D slot)).2.2 = 0 := by simpa using hb
   have q2 : (rdS (getD D slot)).1 > (best k).2.1 := by simpa using hb2
   have e : stepS (best k) slot (rdS (getD D slot)) = (slot, (rdS (getD D slot)).1, (rdS (getD D slot)).2.1) := by unfold stepS; rw [if_pos ⟨q1, q2⟩]
   rw [e] at hnext
   intro w21 e21
   have x21 : Ext w w21 := (x10.tr x1017).of_setRow e21 (by omega)
   have hu21 : RdY w21 u (rdS (getD D slot)).2.1 := hu.same fun g hg => by
    rw [e21]; exact setRow_other _ _ _ _ (by have := hub g hg; omega)
   have z21 : w21.heap.size = w17.heap.size := by rw [e21, setRow_size]
   exact ⟨n4 - 1, by omega, rfl, k + 1, hwk, by omega, by rw [hnext], by rw [hnext], by rw [hnext]; exact hu21, by rw [hnext]; exact hui, by rw [hnext]; simp only; omega, huc, (fun g hg => by have := hub g hg; omega), x21, by omega⟩
  ·have q2 : ¬ (rdS (getD D slot)).1 > (best k).2.1 := by simpa using hb2
   exact keep (by unfold stepS; rw [if_neg fun q => q2 q.2])
  ·have q1 : (rdS (getD D slot)).2.2 ≠ 0 := by simpa using hb
   exact keep (by unfold stepS; rw [if_neg fun q => q1 q.1])
 ·simp only [decide_eq_false_iff_not] at hc
  have hk2 : k = 2 := by omega
  subst hk2
  rw [b3] at hs hsb hsl ⊢
  intro w22 e22
  refine ⟨s, rfl, hs.same fun g hg => ?_, hsb, hsl, hsc, fun g hg => by have := hsf g hg; omega, x10.of_setRow e22 (Nat.le_refl _)⟩
  rw [e22]; exact setRow_other _ _ _ _ (by have := hsf g hg; omega)
theorem mayS_spec (id : Int) (w : World) : Calls Tryz.prog n_store_may #[.int .i64 id] w fun e w' => e = .returned (.bool (mayS id)) ∧ w' = w := by
 apply store_may.vc
 unfold mayS
 refine Br.mk (fun h => ?_) (fun h => ?_)
 ·simp only [ge_iff_le, decide_eq_true_eq] at h
  rw [decide_eq_true h]; exact ⟨rfl, rfl⟩
 ·simp only [ge_iff_le, decide_eq_false_iff_not] at h
  rw [decide_eq_false h]; exact ⟨rfl, rfl⟩
theorem mayS_iff {id : Int} : mayS id = true ↔ 0 ≤ id ∧ id ≤ 1099511627776 := by unfold mayS; simp
theorem stLoad_spec {w : World} {st d : Nat} {m : Dm} {D : Dk} (h : SO w st d m D) (hW : D.l.length ≤ 1000000000) (id : Int) :
  Calls Tryz.prog n_store_Store_Load #[.pointer (some ⟨st, 0, none⟩), .int .i64 id] w fun e w' => ∃ s : Sl, e = .returned (.tuple #[.slice s.a s.n s.c, .int .i64 (ldS D id).2.1, .bool (ldS D id).2.2]) ∧ RdY w' s (ldS D id).1 ∧ Bys (ldS D id).1 ∧ (ldS D id).1.length ≤ 1048576 ∧ s.n ≤ s.c ∧ (∀ g, s.blk = some g → w.heap.size ≤ g) ∧ Ext w w' := by
 apply store_Store_Load.vc
 refine (mayS_spec id w).mono ?_
 rintro e w0 ⟨rfl, rfl⟩
 refine ⟨_, rfl, Br.mk (fun hb => ?_) (fun hb => ?_)⟩
 ·have q : ¬ mayS id = true := by simpa using hb
  have e : ldS D id = ([], 0, false) := by unfold ldS; rw [if_neg q]
  rw [e]
  exact ⟨⟨none, 0, 0⟩, rfl, OwY.rdy (OwnK.nil (B := 0)), (fun c hc => by cases hc), by simp, Nat.le_refl _, (fun g hg => by cases hg), Ext.rfl' _⟩
 ·have q : mayS id = true := by simpa using hb
  have e : ldS D id = ((ofS D id).2.2, (ofS D id).2.1, decide ((ofS D id).2.1 > 0)) := by unfold ldS; rw [if_pos q]
  rw [e]
  refine (sOf_spec h hW (mayS_iff.1 q)).mono ?_
  rintro e w2 ⟨s, rfl, hs, hsb, hsl, hsc, hsf, x2⟩
  refine ⟨_, _, s, rfl, fun w6 e6 w7 e7 => ?_⟩
  have x7 : Ext w2 w7.drew := (((Ext.rfl' _).of_alloc e6).of_setRow e7 (Nat.le_refl _)).drew
  exact ⟨s, rfl, hs.ext x7, hsb, hsl, hsc, hsf, x2.tr x7⟩
def SRes (w : World) (st d : Nat) (m : Dm) (D : Dk) (w' : World) : Prop := ∃ m', SO w' st d m' D ∧ Mod (fun i => i = d ∨ m.ls.blk = some i) w w' ∧ (∀ i, dF d m' i → dF d m i ∨ w.heap.size ≤ i) ∧ ∀ i, m'.ls.blk = some i → m.ls.blk = some i ∨ w.heap.size ≤ i
theorem SO.off {w : World} {st d : Nat} {m : Dm} {D : Dk} (h : SO w st d m D) : ¬ (st = d ∨ m.ls.blk = some st) := by
 rintro (q | q)
 ·exact h.rs.ne h.dk.rd (by decide) q
 ·obtain ⟨cs', hr2⟩ := own_row h.dk.ol (by decide) q
  exact h.rs.ne hr2 (by decide) rfl
theorem SO.res {w w' : World} {st d : Nat} {m : Dm} {D D' : Dk} (h : SO w st d m D) (hr : DRes w d m D' w') : SRes w st d m D' w' := by
 obtain ⟨m', h1, h2, h3, h4⟩ := hr
 exact ⟨m', ⟨h2.row h.rs h.off, h1⟩, h2, h3, h4⟩
theorem SRes.of_ext {w0 w w' : World} {st d : Nat} {m : Dm} {D' : Dk} (x : Ext w0 w) (hr : SRes w st d m D' w') : SRes w0 st d m D' w' := by
 obtain ⟨m', h1, h2, h3, h4⟩ := hr
 have z := x.size
 exact ⟨m', h1, (Mod.of_ext x).trans h2, fun i hi => (h3 i hi).imp id fun q => by omega, fun i hi => (h4 i hi).imp id fun q => by omega⟩
theorem SRes.trans {w w1 w2 : World} {st d : Nat} {m m1 : Dm} {D1 D2 : Dk} (h1 : SO w1 st d m1 D1 ∧ Mod (fun i => i = d ∨ m.ls.blk = some i) w w1 ∧ (∀ i, dF d m1 i → dF d m i ∨ w.heap.size ≤ i) ∧ ∀ i, m1.ls.blk = some i → m.ls.blk = some i ∨ w.heap.size ≤ i) (h2 : SRes w1 st d m1 D2 w2) : SRes w st d m D2 w2 := by
 obtain ⟨a1, a2, a3, a4⟩ := h1
 obtain ⟨m2, b1, b2, b3, b4⟩ := h2
 have z := a2.size
 refine ⟨m2, b1, a2.tr b2 fun i hi => ?_, fun i hi => ?_, fun i hi => ?_⟩
 ·rcases hi with q | q
  ·exact .inl (.inl q)
  ·exact (a4 i q).imp .inr id
 ·rcases b3 i hi with q | q
  ·exact a3 i q
  ·exact .inr (by omega)
 ·rcases b4 i hi with q | q
  ·exact a4 i q
  ·exact .inr (by omega)
set_option maxRecDepth 100000 in
theorem stSave_spec {w : World} {st d : Nat} {m : Dm} {D : Dk} (h : SO w st d m D) (hW : D.l.length ≤ 1000000) (id : Int) (s : Sl) (b : List Int) (hs : RdY w s b) (hb : Bys b) (hn : b.length ≤ 1099511627776) :
  Calls Tryz.prog n_store_Store_Save #[.pointer (some ⟨st, 0, none⟩), .int .i64 id, .slice s.a s.n s.c] w fun e w' => e = .returned (.int .i64 (svS D id b).2) ∧ SRes w st d m (svS D id b).1 w' := by
 apply (store_Store_Save.vc (a2 := s))
 have same : ∀ {w' : World}, Ext w w' → SRes w st d m D w' := fun x => ⟨m, h.ext x, Mod.of_ext x, fun i hi => .inl hi, fun i hi => .inl hi⟩
 refine (mayS_spec id w).mono ?_
 rintro e w0 ⟨rfl, rfl⟩
 refine ⟨_, rfl, Br.mk (fun hb1 => ?_) (fun hb1 => ?_)⟩
 ·have q : ¬ mayS id = true := by simpa using hb1
  have e : svS D id b = (D, 1) := by unfold svS; rw [if_neg q]
  rw [e]
  exact ⟨rfl, same (Ext.rfl' _)⟩
 ·have q : mayS id = true := by simpa using hb1
  have hid := mayS_iff.1 q
  refine (sOf_spec h (by omega) hid).mono ?_
  rintro e w2 ⟨s5, rfl, -, -, -, -, -, x2⟩
  refine ⟨_, _, s5, rfl, fun w6 e6 w7 e7 => ?_⟩
  have r7 : Row w7 w2.heap.size [.int .i64 (ofS D id).1, .int .i64 (ofS D id).2.1, .slice s5.a s5.n s5.c] tRec := by rw [e7]; exact Row.set (by rw [e6]; exact Row.new w2 [_, _, _] _) _
  have x27 : Ext w2 w7 := ((Ext.rfl' _).of_alloc e6).of_setRow e7 (Nat.le_refl _)
  have x7 := x2.tr x27
  have hv := ofS_v D id
  have wv : IntKind.wrap .i64 ((ofS D id).2.1 + 1) = (ofS D id).2.1 + 1 := wrap_in (by unfold inI; omega)
  rw [wv]
  have hsl := ofS_slot D id
  have hto : bXor .i64 (ofS D id).1 1 = 4 * id + 1 - (ofS D id).1 := by
   obtain ⟨t1, t2⟩ := bXor_one hid
   rcases hsl with q | q
   ·rw [q, t1]; omega
   ·rw [q, t2]; omega
  rw [hto]
  have hsv : svS D id b = if (wrS ((ofS D id).2.1 + 1) b).2 ≠ 0 then (D, (wrS ((ofS D id).2.1 + 1) b).2)
   else if (putD D (4 * id + 1 - (ofS D id).1) (wrS ((ofS D id).2.1 + 1) b).1).2 ≠ 0 then putD D (4 * id + 1 - (ofS D id).1) (wrS ((ofS D id).2.1 + 1) b).1
   else syncD (putD D (4 * id + 1 - (ofS D id).1) (wrS ((ofS D id).2.1 + 1) b).1).1 := by unfold svS; rw [if_pos q]
  rw [hsv]
  refine (sWrite_spec ((ofS D id).2.1 + 1) s b w7 (hs.ext x7) hb hn).mono ?_
  rintro e w8 ⟨s9, rfl, o9, x8⟩
  have hwb : Bys (wrS ((ofS D id).2.1 + 1) b).1 := wrS_in hb
  have hwn : (wrS ((ofS D id).2.1 + 1) b).1.length ≤ 1099511627776 := by
   unfold wrS
   split
   ·simp
   ·rename_i q3
    rw [sealB_len, recB_len]
    omega
  generalize wrS ((ofS D id).2.1 + 1) b = wr at *
  generalize 4 * id + 1 - (ofS D id).1 = slot at *
  have z8 := x8.size
  have z2 := x27.size
  have hlt7 := r7.lt
  refine ⟨s9, _, rfl, x8.heap hlt7, Br.mk (fun hb2 => ?_) (fun hb2 => ?_)⟩
  ·have q2 : wr.2 ≠ 0 := by simpa using hb2
   rw [if_pos q2]
   exact ⟨rfl, same (x7.tr x8)⟩
  ·have q2 : wr.2 = 0 := by simpa using hb2
   rw [if_neg (by rw [q2]; simp)]
   have x8d := (x7.tr x8).tr (Ext.dr w8)
   have h8 := h.ext x8d
   have hdl := h.dk.rd.lt
   have z7 := x7.size
   refine ⟨_, h8.ptr, (dPut_spec h8.dk (by omega) slot s9 wr.1 (RdK.ext (OwY.rdy o9) (Ext.dr w8)) hwb hwn fun hg => by have := (o9.own.lt hg).1; omega).mono ?_⟩
   rintro e w12 ⟨rfl, hr12⟩
   have hr12' := h8.res hr12
   have hbk : ∀ {v : World}, Mod (fun i => i = d ∨ m.ls.blk = some i) w8.drew v → v.heap[w2.heap.size]? = w8.drew.heap[w2.heap.size]? := fun hm => hm.same _ (by show w2.heap.size < w8.heap.size; omega) (by
    have := x2.size
    rintro (q | q)
    ·omega
    ·have := (h.dk.ol.own.lt q).2; omega)
   obtain ⟨m1, g1, g2, g3, g4⟩ := hr12'
   have r12 : Row w12 w2.heap.size [.int .i64 (ofS D id).1, .int .i64 (ofS D id).2.1, .slice s5.a s5.n s5.c] tRec := ((r7.ext x8).ext (Ext.dr w8)).same (hbk g2)
   refine ⟨_, rfl, hbk g2, r12.loadL (fun j hj => by simp at hj; subst hj; rfl), Br.mk (fun hb3 => ?_) (fun hb3 => ?_)⟩
   ·have q3 : (putD D slot wr.1).2 ≠ 0 := by simpa using hb3
    rw [if_pos q3]
    exact ⟨rfl, SRes.of_ext x8d ⟨m1, g1, g2, g3, g4⟩⟩
   ·have q3 : (putD D slot wr.1).2 = 0 := by simpa using hb3
    rw [if_neg (by rw [q3]; simp)]
    have hpl := put_l D slot wr.1
    refine ⟨_, g1.ptr, (dSync_spec g1.dk (by omega)).mono ?_⟩
    rintro e w15 ⟨rfl, hr15⟩
    have hr15' := g1.res hr15
    have hres := SRes.trans ⟨g1, g2, g3, g4⟩ hr15'
    have z12 := g2.size
    obtain ⟨m2, f1, f2, f3, f4⟩ := hr15
    refine ⟨_, rfl, f2.same _ r12.lt ?_, rfl, SRes.of_ext x8d hres⟩
    rintro (q | q)
    ·have := x2.size; omega
    ·obtain ⟨cs', hr2⟩ := own_row g1.dk.ol (by decide) q
     exact r12.ne hr2 (by decide) rfl
end Go.Proofs.YtjcnjlaelhdjeaaGreatDoor
namespace Go.Proofs.YtjcnjlaelhdjeaaGreatDoor
open Go Go.Vc Go.RowKit Go.Proofs Go.Chk Go.Runs
structure It where
 x : Nat
 g : Nat
 s : Sl
 p : Po
 C : List Int
 dirty : Bool
 pins : Int
structure ItIs (w : World) (i : It) : Prop where
 r : Row w i.x [.pointer (some ⟨i.g, 0, none⟩), .bool i.dirty, .int .i64 i.pins] tItem
 k : KIs w i.g i.s i.p i.C
theorem ItIs.ext {w w' : World} {i : It} (h : ItIs w i) (x : Ext w w') : ItIs w' i := ⟨h.r.ext x, h.k.ext x⟩
theorem ItIs.keep {w w' : World} {i : It} (h : ItIs w i) {F : Nat → Prop} (hm : Mod F w w') (h1 : ¬ F i.x) (h2 : ¬ F i.g) (h3 : ∀ b, i.s.blk = some b → ¬ F b) : ItIs w' i := ⟨hm.row h.r h1, h.k.keep hm h2 h3⟩
abbrev ptrs (its : List It) : List (List Value) := its.map fun i => [.pointer (some ⟨i.x, 0, none⟩)]
structure TO (w : World) (t st d : Nat) (r : Dm) (sl : Sl) (D : Dk) (seed limit : Int) (its : List It) : Prop where
 rt : Row w t [.pointer (some ⟨st, 0, none⟩), .int .i64 seed, .int .i64 limit, .slice sl.a sl.n sl.c] tTable
 so : SO w st d r D
 ol : OwnK 0 tPI 1 w sl (ptrs its)
 it : ∀ i ∈ its, ItIs w i
 dx : (its.map (·.x)).Nodup
 dg : (its.map (·.g)).Nodup
 lim : 1 ≤ limit ∧ limit ≤ 16
 len : (its.length : Int) ≤ limit
def dM (m : Dm) (i : Nat) : Prop := i = m.r ∨ m.ls.blk = some i ∨ ∃ x ∈ m.E ++ m.W, x.2.1.blk = some i
def foot (t st d : Nat) (r : Dm) (sl : Sl) (its : List It) (i : Nat) : Prop := i = t ∨ i = st ∨ i = d ∨ dM r i ∨ sl.blk = some i ∨ ∃ y ∈ its, i = y.x ∨ i = y.g ∨ y.s.blk = some i
theorem TO.lt {w : World} {t st d : Nat} {r : Dm} {sl : Sl} {D : Dk} {seed limit : Int} {its : List It} (h : TO w t st d r sl D seed limit its) {i : Nat} (hi : foot t st d r sl its i) : i < w.heap.size := by
 rcases hi with rfl | e | e | e | e | ⟨y, hy, e | e | e⟩
 ·exact h.rt.lt
 ·exact h.so.lt (.inl e)
 ·exact h.so.lt (.inr (.inl e))
 ·exact h.so.lt (.inr (.inr e))
 ·exact (h.ol.own.lt e).2
 ·exact e ▸ (h.it y hy).r.lt
 ·exact e ▸ (h.it y hy).k.row.lt
 ·exact ((h.it y hy).k.own.own.lt e).2
theorem TO.same {w w' : World} {t st d : Nat} {r : Dm} {sl : Sl} {D : Dk} {seed limit : Int} {its : List It} (h : TO w t st d r sl D seed limit its) (hs : ∀ i, foot t st d r sl its i → w'.heap[i]? = w.heap[i]?) : TO w' t st d r sl D seed limit its := by
 refine ⟨h.rt.same (hs _ (.inl rfl)), h.so.same fun i hi => hs i ?_, OwnK.keep h.ol fun b hb => hs b (.inr (.inr (.inr (.inr (.inl hb))))), fun y hy => ?_, h.dx, h.dg, h.lim, h.len⟩
 ·rcases hi with e | e | e
  ·exact .inr (.inl e)
  ·exact .inr (.inr (.inl e))
  ·exact .inr (.inr (.inr (.inl e)))
 ·have f : ∀ i, (i = y.x ∨ i = y.g ∨ y.s.blk = some i) → w'.heap[i]? = w.heap[i]? := fun i hi => hs i (.inr (.inr (.inr (.inr (.inr ⟨y, hy, hi⟩)))))
  have hi := h.it y hy
  exact ⟨hi.r.same (f _ (.inl rfl)), hi.k.row.same (f _ (.inr (.inl rfl))), OwnK.keep hi.k.own fun b hb => f b (.inr (.inr hb)), hi.k.len, hi.k.may⟩
theorem TO.ext {w w' : World} {t st d : Nat} {r : Dm} {sl : Sl} {D : Dk} {seed limit : Int} {its : List It} (h : TO w t st d r sl D seed limit its) (x : Ext w w') : TO w' t st d r sl D seed limit its := h.same fun i hi => x.heap (h.lt hi)
theorem TO.kind {w : World} {t st d : Nat} {r : Dm} {sl : Sl} {D : Dk} {seed limit : Int} {its : List It} (h : TO w t st d r sl D seed limit its) {i : Nat} (hi : foot t st d r sl its i) :
  MapIs GI w (some i) (r.E.map entV) ∨ ∃ cs τ, Row w i cs τ ∧ (τ = tTable ∨ τ = tStore ∨ τ = tDisk ∨ τ = tPI ∨ τ = tItem ∨ τ = tChunk ∨ τ = tRun ∨ τ = tW ∨ τ = tByte) := by
 rcases hi with e | e | e | e | e | ⟨y, hy, e | e | e⟩
 ·exact .inr ⟨_, _, e ▸ h.rt, .inl rfl⟩
 ·exact .inr ⟨_, _, e ▸ h.so.rs, .inr (.inl rfl)⟩
 ·exact .inr ⟨_, _, e ▸ h.so.dk.rd, .inr (.inr (.inl rfl))⟩
 ·rcases h.so.dk.kind (.inr e) with q | ⟨cs, τ, q1, q2⟩
  ·exact .inl q
  ·refine .inr ⟨cs, τ, q1, ?_⟩
   rcases q2 with rfl | rfl | rfl
   ·exact .inr (.inr (.inl rfl))
   ·exact .inr (.inr (.inr (.inr (.inr (.inr (.inr (.inl rfl)))))))
   ·exact .inr (.inr (.inr (.inr (.inr (.inr (.inr (.inr rfl)))))))
 ·obtain ⟨cs, hr⟩ := own_row h.ol (by decide) e
  exact .inr ⟨_, _, hr, .inr (.inr (.inr (.inl rfl)))⟩
 ·exact .inr ⟨_, _, e ▸ (h.it y hy).r, .inr (.inr (.inr (.inr (.inl rfl))))⟩
 ·exact .inr ⟨_, _, e ▸ (h.it y hy).k.row, .inr (.inr (.inr (.inr (.inr (.inl rfl)))))⟩
 ·obtain ⟨cs, hr⟩ := own_row (h.it y hy).k.own (by decide) e
  exact .inr ⟨_, _, hr, .inr (.inr (.inr (.inr (.inr (.inr (.inl rfl))))))⟩
theorem TO.no_row {w : World} {t st d : Nat} {r : Dm} {sl : Sl} {D : Dk} {seed limit : Int} {its : List It} (h : TO w t st d r sl D seed limit its) {j : Nat} {cs : List Value} {τ : TypeId} (hr : Row w j cs τ) (hτ : τ ≠ tTable ∧ τ ≠ tStore ∧ τ ≠ tDisk ∧ τ ≠ tPI ∧ τ ≠ tItem ∧ τ ≠ tChunk ∧ τ ≠ tRun ∧ τ ≠ tW ∧ τ ≠ tByte) : ¬ foot t st d r sl its j := fun hf => by
 rcases h.kind hf with hm | ⟨cs', τ', hr', ht⟩
 ·exact hr.ne_map hm rfl
 ·obtain ⟨h1, h2, h3, h4, h5, h6, h7, h8, h9⟩ := hτ
  rcases ht with rfl | rfl | rfl | rfl | rfl | rfl | rfl | rfl | rfl
  ·exact hr.ne hr' h1 rfl
  ·exact hr.ne hr' h2 rfl
  ·exact hr.ne hr' h3 rfl
  ·exact hr.ne hr' h4 rfl
  ·exact hr.ne hr' h5 rfl
  ·exact hr.ne hr' h6 rfl
  ·exact hr.ne hr' h7 rfl
  ·exact hr.ne hr' h8 rfl
  ·exact hr.ne hr' h9 rfl
theorem TO.n {w : World} {t st d : Nat} {r : Dm} {sl : Sl} {D : Dk} {seed limit : Int} {its : List It} (h : TO w t st d r sl D seed limit its) : sl.n = its.length := by
 have := (h.ol.rd (by decide)).n
 rwa [List.length_map] at this
theorem TO.at {w : World} {t st d : Nat} {r : Dm} {sl : Sl} {D : Dk} {seed limit : Int} {its : List It} (h : TO w t st d r sl D seed limit its) {i : Nat} {y : It} (hi : its[i]? = some y) : InB sl.a (i : Int) sl.n ∧ ld w (padd sl.a (((i : Nat) : Int).toNat * 1)) = some (.pointer (some ⟨y.x, 0, none⟩)) := by
 have hlt := (List.getElem?_eq_some_iff.1 hi).1
 have hrd := h.ol.rd (show 0 < 1 by decide)
 refine ⟨RdK.inB hrd (by decide) (by omega) (by rw [h.n]; omega), ?_⟩
 have := hrd.rd i [.pointer (some ⟨y.x, 0, none⟩)] (by rw [List.getElem?_map, hi]; rfl) 0 _ rfl
 exact this
def dk0 (room : Int) : Dk := ⟨min (max room 0) 1048576, 0, 0, [], []⟩
theorem tNew_spec (seed limit room : Int) (w : World) : Calls Tryz.prog n_table_New #[.int .i64 seed, .int .i64 limit, .int .i64 room] w fun e w' => ∃ t st d r, e = .returned (.pointer (some ⟨t, 0, none⟩)) ∧ TO w' t st d r ⟨none, 0, 0⟩ (dk0 room) seed (min (max limit 1) 16) [] ∧ Ext w w' ∧ ∀ i, foot t st d r ⟨none, 0, 0⟩ [] i → w.heap.size ≤ i := by
 apply table_New.vc
 refine (sNew_spec room w).mono ?_
 rintro e w0 ⟨st, d, m, rfl, hs, x0, hf⟩
 refine ⟨_, rfl, fun w2 e2 => ?_⟩
 have x2 : Ext w0 w2 := (Ext.rfl' _).of_alloc e2
 have z0 := x0.size
 have hl : (if 16 < (if 1 > limit then 1 else limit) then 16 else (if 1 > limit then 1 else limit)) = min (max limit 1) 16 := by split <;> split <;> omega
 rw [hl] at e2
 refine ⟨_, st, d, m, rfl, ⟨by rw [e2]; exact Row.new w0 [_, _, _, _] _, hs.ext x2, OwnK.nil, by simp, by simp, by simp, by omega, by simp; omega⟩, x0.tr x2, fun i hi => ?_⟩
 rcases hi with rfl | e | e | e | e | ⟨y, hy, -⟩
 ·exact z0
 ·exact hf i (.inl e)
 ·exact hf i (.inr (.inl e))
 ·exact hf i (.inr (.inr e))
 ·cases e
 ·cases hy
theorem indexFunc_spec {α : Type} (s : Sl) (l : List α) (ad : α → Nat) (fv : Value) (q : α → Bool) (w : World) (hs : RdK w s 1 (l.map fun i => [.pointer (some ⟨ad i, 0, none⟩)])) (hb : l.length ≤ 1000)
  (hf : ∀ i ∈ l, ∀ w', Ext w w' → callV Tryz.prog fv [.pointer (some ⟨ad i, 0, none⟩)] w' fun e w'' => e = .returned (.bool (q i)) ∧ Ext w' w'') :
  Calls Tryz.prog n_slices_IndexFunc_item #[.slice s.a s.n s.c, fv] w fun e w' => e = .returned (.int .i64 (firstI q l)) ∧ Ext w w' := by
 apply slices_IndexFunc_item.vc
 have hn : s.n = l.length := by have := hs.n; rwa [List.length_map] at this
 refine ⟨fun n i wr => ∃ k : Nat, i = k ∧ k + n = l.length ∧ Ext w wr ∧ ∀ j, j < k → ∀ y, l[j]? = some y → q y = false, ⟨l.length, 0, rfl, by omega, Ext.rfl' _, fun j hj => by omega⟩, ?_⟩
 rintro n us i wr ⟨k, rfl, hk, xr, hno⟩
 have hwk : IntKind.wrap .i64 ((k : Int) + 1) = ((k + 1 : Nat) : Int) := by rw [wrap_in (by unfold inI; omega)]; omega
 refine Br.mk (fun hc => ?_) (fun hc => ?_)
 ·simp only [decide_eq_true_eq] at hc
  obtain ⟨y, hy⟩ := get_lt (l := l) (i := k) (by omega)
  have hsr := RdK.ext hs xr
  have hld := hsr.rd k [.pointer (some ⟨ad y, 0, none⟩)] (by rw [List.getElem?_map, hy]; rfl) 0 _ rfl
  refine ⟨RdK.inB hsr (by decide) (by omega) (by omega), _, hld, callV_mono (hf y (List.mem_of_getElem? hy) wr xr) ?_⟩
  rintro e w7 ⟨rfl, x7⟩
  refine ⟨_, rfl, Br.mk (fun h => ?_) (fun h => ?_)⟩
  ·exact ⟨by rw [firstI_at hy h hno], xr.tr x7⟩
  ·refine ⟨n - 1, by omega, k + 1, hwk, by omega, xr.tr x7, fun j hj z hz => ?_⟩
   by_cases e : j = k
   ·subst e; rw [hy] at hz; cases hz; exact h
   ·exact hno j (by omega) z hz
 ·simp only [decide_eq_false_iff_not] at hc
  refine ⟨?_, xr⟩
  rw [firstI_none]
  intro y hy
  obtain ⟨j, hj⟩ := List.getElem?_of_mem hy
  exact hno j (by have := (List.getElem?_eq_some_iff.1 hj).1; omega) y hj
set_option maxRecDepth 100000 in
theorem find_spec {w : World} {t st d : Nat} {r : Dm} {sl : Sl} {D : Dk} {seed limit : Int} {its : List It} (h : TO w t st d r sl D seed limit its) (p : Po) :
  Calls Tryz.prog n_table_Table_find #[.pointer (some ⟨t, 0, none⟩), pv p] w fun e w' => e = .returned (.int .i64 (firstI (fun i => i.p == p) its)) ∧ Ext w w' := by
 apply table_Table_find.vc
 intro w0 e0
 have x0 : Ext w w0 := (Ext.rfl' w).of_alloc e0
 have hb : Row w0 w.heap.size [.int .i64 p.1, .int .i64 p.2] tPo := by rw [e0]; exact Row.new w [_, _] _
 have h0 := h.ext x0
 have hlen := h.len
 have hlim := h.lim
 refine ⟨sl, h0.rt.at 3 rfl, (indexFunc_spec sl its (·.x) _ (fun i => i.p == p) w0 (h0.ol.rd (by decide)) (by omega) ?_).mono ?_⟩
 ·intro y hy w' x'
  refine callV_of (by kernel_rfl) (by rfl) ?_
  apply table_Table_find_1.vc
  have hy' := ((h0.it y hy).ext x').ext (Ext.dr w')
  have hb' := (hb.ext x').ext (Ext.dr w')
  refine ⟨_, by rw [padd_row, hy'.r.ld]; rfl, nnS (nnS ⟨_, _, hy'.k.pos, _, _, hb'.loadL (fun j hj => by rw [Nat.zero_add]), (Place_spec y.p w'.drew).mono ?_⟩)⟩
  rintro e w5 ⟨rfl, x5⟩
  refine ⟨_, _, rfl, (hb'.ext x5).loadL (fun j hj => by rw [Nat.zero_add]), ?_, rfl, (Ext.dr w').tr x5⟩
  rw [padd_row]
  exact (hy'.ext x5).r.loadL (fun j hj => by simp at hj; subst hj; rfl)
 ·rintro e w2 ⟨rfl, x2⟩
  exact ⟨_, rfl, rfl, x0.tr x2⟩
end Go.Proofs.YtjcnjlaelhdjeaaGreatDoor
namespace Go.Proofs.YtjcnjlaelhdjeaaGreatDoor
open Go Go.Vc Go.RowKit Go.Proofs Go.Chk Go.Runs
theorem SO.kind {w : World} {st d : Nat} {m : Dm} {D : Dk} (h : SO w st d m D) {i : Nat} (hi : sF st d m i) : MapIs GI w (some i) (m.E.map entV) ∨ ∃ cs τ, Row w i cs τ ∧ (τ = tStore ∨ τ = tDisk ∨ τ = tW ∨ τ = tByte) := by
 rcases hi with e | hi
 ·exact .inr ⟨_, _, e ▸ h.rs, .inl rfl⟩
 ·rcases h.dk.kind hi with q | ⟨cs, τ, q1, q2⟩
  ·exact .inl q
  ·exact .inr ⟨cs, τ, q1, .inr q2⟩
theorem SO.keep {w w' : World} {st d : Nat} {m : Dm} {D : Dk} (h : SO w st d m D) {F : Nat → Prop} (hm : Mod F w w') (hr : ∀ {j : Nat} {cs : List Value} {τ : TypeId}, Row w j cs τ → (τ = tStore ∨ τ = tDisk ∨ τ = tW ∨ τ = tByte) → ¬ F j) (hmp : ∀ {j : Nat} {kvs : List (Value × Value)}, MapIs GI w (some j) kvs → ¬ F j) : SO w' st d m D :=
 h.same fun i hi => hm.same i (h.lt hi) (by
  rcases h.kind hi with q | ⟨cs, τ, q1, q2⟩
  ·exact hmp q
  ·exact hr q1 q2)
abbrev slF (t : Nat) (sl : Sl) : Nat → Prop := fun j => j = t ∨ sl.blk = some j
theorem TO.off {w : World} {t st d : Nat} {r : Dm} {sl : Sl} {D : Dk} {seed limit : Int} {its : List It} (h : TO w t st d r sl D seed limit its) {j : Nat} {cs : List Value} {τ : TypeId} (hr : Row w j cs τ) (h1 : τ ≠ tTable) (h2 : τ ≠ tPI) : ¬ slF t sl j := by
 rintro (e | e)
 ·exact hr.ne h.rt h1 e
 ·obtain ⟨cs', hr'⟩ := own_row h.ol (by decide) e
  exact hr.ne hr' h2 rfl
theorem TO.item {w w' : World} {t st d : Nat} {r : Dm} {sl : Sl} {D : Dk} {seed limit : Int} {its : List It} (h : TO w t st d r sl D seed limit its) (hm : Mod (slF t sl) w w') {y : It} (hy : ItIs w y) : ItIs w' y :=
 hy.keep hm (h.off hy.r (by decide) (by decide)) (h.off hy.k.row (by decide) (by decide)) (fun b hb => by
  obtain ⟨cs', hr'⟩ := own_row hy.k.own (by decide) hb
  exact h.off hr' (by decide) (by decide))
theorem TO.turn {w w' : World} {t st d : Nat} {r : Dm} {sl sl' : Sl} {D : Dk} {seed limit : Int} {its its' : List It} (h : TO w t st d r sl D seed limit its) (hm : Mod (slF t sl) w w')
  (rt : Row w' t [.pointer (some ⟨st, 0, none⟩), .int .i64 seed, .int .i64 limit, .slice sl'.a sl'.n sl'.c] tTable) (ol : OwnK 0 tPI 1 w' sl' (ptrs its')) (hit : ∀ y ∈ its', y ∈ its ∨ ItIs w y)
  (dx : (its'.map (·.x)).Nodup) (dg : (its'.map (·.g)).Nodup) (len : (its'.length : Int) ≤ limit) : TO w' t st d r sl' D seed limit its' := by
 refine ⟨rt, h.so.keep hm (fun hr hτ => ?_) (fun hmp => ?_), ol, fun y hy => h.item hm ?_, dx, dg, h.lim, len⟩
 ·rcases hτ with rfl | rfl | rfl | rfl <;> exact h.off hr (by decide) (by decide)
 ·rintro (e | e)
  ·exact h.rt.ne_map hmp e.symm
  ·obtain ⟨cs', hr'⟩ := own_row h.ol (by decide) e
   exact hr'.ne_map hmp rfl
 ·rcases hit y hy with h1 | h1
  ·exact h.it y h1
  ·exact h1
theorem foot_sub {w : World} {t st d : Nat} {r : Dm} {sl sl' : Sl} {its its' : List It} (hb : ∀ b, sl'.blk = some b → sl.blk = some b ∨ w.heap.size ≤ b) (hi : ∀ y ∈ its', y ∈ its ∨ (w.heap.size ≤ y.x ∧ w.heap.size ≤ y.g ∧ ∀ b, y.s.blk = some b → w.heap.size ≤ b)) :
  ∀ i, foot t st d r sl' its' i → foot t st d r sl its i ∨ w.heap.size ≤ i := by
 rintro i (e | e | e | e | e | ⟨y, hy, e⟩)
 ·exact .inl (.inl e)
 ·exact .inl (.inr (.inl e))
 ·exact .inl (.inr (.inr (.inl e)))
 ·exact .inl (.inr (.inr (.inr (.inl e))))
 ·rcases hb i e with h | h
  ·exact .inl (.inr (.inr (.inr (.inr (.inl h)))))
  ·exact .inr h
 ·rcases hi y hy with h | ⟨h1, h2, h3⟩
  ·exact .inl (.inr (.inr (.inr (.inr (.inr ⟨y, h, e⟩)))))
  ·rcases e with e | e | e
   ·exact .inr (by omega)
   ·exact .inr (by omega)
   ·exact .inr (h3 i e)
theorem slF_foot {t st d : Nat} {r : Dm} {sl : Sl} {its : List It} : ∀ i, slF t sl i → foot t st d r sl its i := by
 rintro i (e | e)
 ·exact .inl e
 ·exact .inr (.inr (.inr (.inr (.inl e))))
theorem one_p (a : Addr) : One [Value.pointer (some a)] := by intro v hv; simp at hv; subst hv; rfl
theorem TO.push {w : World} {t st d : Nat} {r : Dm} {sl : Sl} {D : Dk} {seed limit : Int} {its : List It} (h : TO w t st d r sl D seed limit its) (y : It) (hy : ItIs w y) (hx : y.x ∉ its.map (·.x)) (hg : y.g ∉ its.map (·.g)) (hl : (its.length : Int) + 1 ≤ limit) :
  AppPre 8 1 w sl 1 [.pointer (some ⟨y.x, 0, none⟩)] ∧ ∀ (s4 : Sl) (w5 : World), AppRes tPI 1 w sl 1 [.pointer (some ⟨y.x, 0, none⟩)] s4 w5 →
   Mod (fun j => sl.blk = some j) w w5 ∧ Wr w5 (padd (some ⟨t, 0, none⟩) 3) 1 ∧ ∀ w6, w6 = setP w5 (padd (some ⟨t, 0, none⟩) 3) [.slice s4.a s4.n s4.c] →
    TO w6 t st d r s4 D seed limit (its ++ [y]) ∧ Mod (slF t sl) w w6 ∧ ∀ b, s4.blk = some b → sl.blk = some b ∨ w.heap.size ≤ b := by
 have hn := h.n
 have hlim := h.lim
 obtain ⟨hp, hr⟩ := h.ol.append (bytes := 8) (news := [.pointer (some ⟨y.x, 0, none⟩)]) (Nat.zero_le _) rfl (one_p _) (by omega) (by omega)
 refine ⟨hp, fun s4 w5 hres => ?_⟩
 obtain ⟨ho, hn4, hbl, hk, hblk⟩ := hr s4 w5 hres
 have hm5 : Mod (fun j => sl.blk = some j) w w5 := Mod.of_app hbl hk
 have hnt : ¬ sl.blk = some t := fun e => by
  obtain ⟨cs', hr'⟩ := own_row h.ol (by decide) e
  exact hr'.ne h.rt (by decide) rfl
 have rt5 := hm5.row h.rt hnt
 obtain ⟨p1, p2⟩ := rt5.put1 (j := 3) (v := .slice s4.a s4.n s4.c) (by simp) rfl
 refine ⟨hm5, p1, fun w6 e6 => ?_⟩
 obtain ⟨q1, q2⟩ := p2 w6 e6
 have hm6 : Mod (slF t sl) w w6 := (hm5.mono fun i _ hi => .inr hi).trans (q2.mono fun i _ hi => .inl hi)
 have h4t : ∀ b, s4.blk = some b → b ≠ t := fun b hb => by
  obtain ⟨cs', hr'⟩ := own_row ho (by decide) hb
  exact hr'.ne rt5 (by decide)
 refine ⟨h.turn hm6 q1 ?_ (fun z hz => ?_) ?_ ?_ (by simp; omega), hm6, fun b hb => ?_⟩
 ·have := q2.ownK ho h4t
  show OwnK 0 tPI 1 w6 s4 ((its ++ [y]).map _)
  rw [List.map_append]; exact this
 ·rcases List.mem_append.1 hz with hz | hz
  ·exact .inl hz
  ·simp at hz; subst hz; exact .inr hy
 ·rw [List.map_append]
  refine List.nodup_append.2 ⟨h.dx, by simp, ?_⟩
  intro a ha b hb e
  simp at hb
  subst hb; subst e
  exact hx ha
 ·rw [List.map_append]
  refine List.nodup_append.2 ⟨h.dg, by simp, ?_⟩
  intro a ha b hb e
  simp at hb
  subst hb; subst e
  exact hg ha
 ·rcases hblk with e | e
  ·exact .inl (by rw [← e]; exact hb)
  ·rw [e] at hb; cases hb; exact .inr (Nat.le_refl _)
theorem out_spec {w : World} {t st d : Nat} {r : Dm} {sl : Sl} {D : Dk} {seed limit : Int} {its : List It} (h : TO w t st d r sl D seed limit its) {i : Nat} {y : It} (hi : its[i]? = some y) :
  Calls Tryz.prog n_table_Table_out #[.pointer (some ⟨t, 0, none⟩), .int .i64 (i : Nat)] w fun e w' => e = .returned (.pointer (some ⟨y.x, 0, none⟩)) ∧ ∃ sl', TO w' t st d r sl' D seed limit (its.eraseIdx i) ∧ Mod (slF t sl) w w' ∧ ∀ b, sl'.blk = some b → sl.blk = some b ∨ w.heap.size ≤ b := by
 apply table_Table_out.vc
 have hn := h.n
 have hlim := h.lim
 have hlen := h.len
 have hil := (List.getElem?_eq_some_iff.1 hi).1
 obtain ⟨a1, a2⟩ := h.at hi
 have hd := h.ext (Ext.dr w)
 have hle := OwnK.le h.ol
 have w1 : IntKind.wrap .i64 ((i : Int) + 1) = ((i + 1 : Nat) : Int) := by rw [wrap_in (by unfold inI; omega)]; omega
 refine ⟨sl, h.rt.at 3 rfl, a1, _, a2, sl, hd.rt.at 3 rfl, by omega, by omega, by omega, by omega, sl, hd.rt.at 3 rfl, ?_⟩
 rw [w1]
 have hcut := hd.ol.cut (by decide) (m := i) (by rw [List.length_map]; omega)
 have hrest := RdK.rest (hd.ol.rd (by decide)) (l := i + 1) (m := sl.c) (n' := sl.n - (i + 1)) (c' := sl.c - (i + 1)) (by rw [List.length_map]; omega) (by rw [List.length_map]; omega)
 have hml : ((ptrs its).drop (i + 1)).length = sl.n - (i + 1) := by rw [List.length_drop, List.length_map]; omega
 have hwd : ∀ q ∈ (ptrs its).drop (i + 1), q.length = 1 ∧ One q := fun q hq => by
  obtain ⟨z, _, rfl⟩ := List.mem_map.1 (List.mem_of_mem_drop hq)
  exact ⟨rfl, one_p _⟩
 obtain ⟨hp, hres⟩ := hcut.appN (bytes := 8) (more := (ptrs its).drop (i + 1)) (Nat.zero_le _) (fun q hq => (hwd q hq).1) (fun q hq => (hwd q hq).2) (by rw [hml]; show (i + _) * 8 ≤ _; omega) (by rw [hml]; show i + _ ≤ _; omega)
 rw [hml] at hp hres
 refine ⟨by omega, by omega, ((ptrs its).drop (i + 1)).flatten, hrest.flat (by decide), hp, fun s5 w6 hr => ?_⟩
 obtain ⟨ho, hn5, hbl, hk, hblk⟩ := hres s5 w6 hr
 have hsb : (Sl.mk (slBase sl.a 0 i 1) i i).blk = sl.blk := by rw [slBase_zero]; rfl
 rw [hsb] at hk hblk
 have hm6 : Mod (fun j => sl.blk = some j) w w6 := (Mod.of_ext (Ext.dr w)).trans (Mod.of_app hbl hk)
 have hnt : ¬ sl.blk = some t := fun e => by
  obtain ⟨cs', hr'⟩ := own_row h.ol (by decide) e
  exact hr'.ne h.rt (by decide) rfl
 have rt6 := hm6.row h.rt hnt
 obtain ⟨p1, p2⟩ := rt6.put1 (j := 3) (v := .slice s5.a s5.n s5.c) (by simp) rfl
 have hld : LoadL w6 (padd (some ⟨t, 0, none⟩) 3) 0 [.slice sl.a sl.n sl.c] := by
  show ld w6 (padd _ 0) = _
  rw [padd_zero]; exact rt6.at 3 rfl
 refine ⟨hld, hld, ⟨rfl, p1⟩, fun w7 e7 => ⟨rfl, s5, ?_⟩⟩
 obtain ⟨q1, q2⟩ := p2 w7 e7
 have hm7 : Mod (slF t sl) w w7 := (hm6.mono fun i _ hi => .inr hi).trans (q2.mono fun i _ hi => .inl hi)
 have h5t : ∀ b, s5.blk = some b → b ≠ t := fun b hb => by
  obtain ⟨cs', hr'⟩ := own_row ho (by decide) hb
  exact hr'.ne rt6 (by decide)
 have hsub : List.Sublist (its.eraseIdx i) its := List.eraseIdx_sublist ..
 refine ⟨h.turn hm7 q1 ?_ (fun z hz => .inl (hsub.subset hz)) (h.dx.sublist (hsub.map _)) (h.dg.sublist (hsub.map _)) ?_, hm7, fun b hb => ?_⟩
 ·have := q2.ownK ho h5t
  show OwnK 0 tPI 1 w7 s5 ((its.eraseIdx i).map _)
  rw [List.eraseIdx_eq_take_drop_succ, List.map_append, List.map_take, List.map_drop]; exact this
 ·have := hsub.length_le; omega
 ·rcases hblk with e | e
  ·exact .inl (by rw [← e]; exact hb)
  ·rw [e] at hb; cases hb; exact .inr (Nat.le_refl _)
theorem erase_not {α : Type} {f : α → Nat} {l : List α} {i : Nat} {y : α} (hd : (l.map f).Nodup) (hi : l[i]? = some y) : f y ∉ (l.eraseIdx i).map f := by
 rw [List.eraseIdx_eq_take_drop_succ, List.map_append]
 have e : l = l.take i ++ y :: l.drop (i + 1) := by
  have := List.take_append_drop i l
  rw [List.drop_eq_getElem_cons (List.getElem?_eq_some_iff.1 hi).1] at this
  rw [← (List.getElem?_eq_some_iff.1 hi).2]
  exact this.symm
 rw [e, List.map_append, List.map_cons] at hd
 obtain ⟨h1, h2, h3⟩ := List.nodup_append.1 hd
 intro hm
 rcases List.mem_append.1 hm with hm | hm
 ·exact h3 _ hm _ (.head _) rfl
 ·exact (List.nodup_cons.1 h2).1 hm
theorem touch_spec {w : World} {t st d : Nat} {r : Dm} {sl : Sl} {D : Dk} {seed limit : Int} {its : List It} (h : TO w t st d r sl D seed limit its) {i : Nat} {y : It} (hi : its[i]? = some y) :
  Calls Tryz.prog n_table_Table_touch #[.pointer (some ⟨t, 0, none⟩), .int .i64 (i : Nat)] w fun e w' => e = .returned (.pointer (some ⟨y.x, 0, none⟩)) ∧ ∃ sl', TO w' t st d r sl' D seed limit (its.eraseIdx i ++ [y]) ∧ Turned (foot t st d r sl its) (foot t st d r sl' (its.eraseIdx i ++ [y])) w w' := by
 apply table_Table_touch.vc
 have hil := (List.getElem?_eq_some_iff.1 hi).1
 have hym : y ∈ its := List.mem_of_getElem? hi
 have hlen := h.len
 refine (out_spec h hi).mono ?_
 rintro e w0 ⟨rfl, sl0, h0, m0, b0⟩
 have hy0 := h.item m0 (h.it y hym)
 refine ⟨_, rfl, sl0, h0.rt.at 3 rfl, fun w3 e3 => ?_⟩
 have x3 : Ext w0 w3 := (Ext.rfl' _).of_alloc e3
 have h3 := h0.ext x3
 have hsub : List.Sublist (its.eraseIdx i) its := List.eraseIdx_sublist ..
 have hel : (its.eraseIdx i).length = its.length - 1 := by rw [List.length_eraseIdx, if_pos hil]
 obtain ⟨hp, hr⟩ := h3.push y (hy0.ext x3) (erase_not h.dx hi) (erase_not h.dg hi) (by omega)
 refine ⟨hp, fun s4 w5 hres => ?_⟩
 obtain ⟨m5, p1, p2⟩ := hr s4 w5 hres
 have ht0 := h0.rt.lt
 have z3 : w3.heap.size = w0.heap.size + 1 := by rw [e3]; simp
 refine ⟨m5.same _ (by omega) fun e => by have := (h0.ol.own.lt e).2; omega, ⟨rfl, p1⟩, fun e => ?_, fun w6 e6 => ⟨rfl, s4, ?_⟩⟩
 ·rw [pblk_padd] at e
  have : t = w0.heap.size := by simpa [pblk] using e
  omega
 ·obtain ⟨q1, q2, q3⟩ := p2 w6 e6
  have z0 := m0.size
  refine ⟨q1, ⟨?_, ?_⟩⟩
  ·have a1 : Mod (foot t st d r sl its) w w3 := (m0.mono fun i _ hi => slF_foot i hi).trans (Mod.of_ext x3)
   refine a1.tr q2 fun j hj => ?_
   rcases hj with e | e
   ·exact .inl (.inl e)
   ·rcases b0 j e with e | e
    ·exact .inl (.inr (.inr (.inr (.inr (.inl e)))))
    ·exact .inr e
  ·refine foot_sub (w := w) (fun b hb => ?_) (fun z hz => .inl ?_)
   ·rcases q3 b hb with e | e
    ·exact b0 b e
    ·exact .inr (by omega)
   ·rcases List.mem_append.1 hz with hz | hz
    ·exact hsub.subset hz
    ·simp at hz; subst hz; exact hym
end Go.Proofs.YtjcnjlaelhdjeaaGreatDoor
