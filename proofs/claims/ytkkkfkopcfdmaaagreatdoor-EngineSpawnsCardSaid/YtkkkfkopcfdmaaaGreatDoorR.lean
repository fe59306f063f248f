import Derived.Test.YtkkkfkopcfdmaaaGreatDoorC
import Derived.Test.YtkkkfkopcfdmaaaGreatDoorP
import Derived.Test.YtkkkfkopcfdmaaaGreatDoorLib
set_option linter.all false
namespace Go.Proofs.YtkkkfkopcfdmaaaGreatDoor
open Go Go.Vc Go.RowKit Go.Proofs Go.Runs
abbrev tRun : TypeId := 252
abbrev tInt : TypeId := 3
abbrev rv (r : Rn) : List Value := [.int .i64 r.1, .int .i64 r.2]
abbrev iv (b : Int) : List Value := [.int .i64 b]
abbrev RdR (w : World) (s : Sl) (l : List Rn) : Prop := RdK w s 2 (l.map rv)
abbrev RdC (w : World) (s : Sl) (c : List Int) : Prop := RdK w s 1 (c.map iv)
abbrev OwR (B : Nat) (w : World) (s : Sl) (l : List Rn) : Prop := OwnK B tRun 2 w s (l.map rv)
abbrev OwC (B : Nat) (w : World) (s : Sl) (c : List Int) : Prop := OwnK B tInt 1 w s (c.map iv)
theorem OwR.rdr {B : Nat} {w : World} {s : Sl} {l : List Rn} (h : OwR B w s l) : RdR w s l := OwnK.rd h (by omega)
theorem OwC.rdc {B : Nat} {w : World} {s : Sl} {c : List Int} (h : OwC B w s c) : RdC w s c := OwnK.rd h (by omega)
theorem RdR.len {w : World} {s : Sl} {l : List Rn} (h : RdR w s l) : s.n = l.length := by have := h.n; simpa using this
theorem RdC.len {w : World} {s : Sl} {c : List Int} (h : RdC w s c) : s.n = c.length := by have := h.n; simpa using this
theorem RdR.get {w : World} {s : Sl} {l : List Rn} (_ : RdR w s l) {i : Nat} {r : Rn} (hi : l[i]? = some r) : (l.map rv)[i]? = some (rv r) := by rw [List.getElem?_map, hi]; rfl
theorem RdR.c0 {w : World} {s : Sl} {l : List Rn} (h : RdR w s l) {i : Nat} {r : Rn} (hi : l[i]? = some r) : ld w (padd (padd s.a (i * 2)) 0) = some (.int .i64 r.1) := RdK.at h (RdR.get h hi) (j := 0) rfl
theorem RdR.c1 {w : World} {s : Sl} {l : List Rn} (h : RdR w s l) {i : Nat} {r : Rn} (hi : l[i]? = some r) : ld w (padd (padd s.a (i * 2)) 1) = some (.int .i64 r.2) := RdK.at h (RdR.get h hi) (j := 1) rfl
theorem RdR.ll {w : World} {s : Sl} {l : List Rn} (h : RdR w s l) {i : Nat} {r : Rn} (hi : l[i]? = some r) : LoadL w (padd s.a (i * 2)) 0 [.int .i64 r.1, .int .i64 r.2] := RdK.loadL h (RdR.get h hi)
theorem RdC.c0 {w : World} {s : Sl} {l : List Int} (h : RdC w s l) {i : Nat} {b : Int} (hi : l[i]? = some b) : ld w (padd s.a (i * 1)) = some (.int .i64 b) := by
 have := h.rd i (iv b) (by rw [List.getElem?_map, hi]; rfl) 0 _ rfl
 simpa using this
theorem RdR.inB {w : World} {s : Sl} {l : List Rn} (h : RdR w s l) {i : Nat} (hi : i < l.length) : InB s.a (i : Int) s.n := RdK.inB h (by omega) (by omega) (by have := RdR.len h; omega)
theorem RdC.inB {w : World} {s : Sl} {l : List Int} (h : RdC w s l) {i : Nat} (hi : i < l.length) : InB s.a (i : Int) s.n := RdK.inB h (by omega) (by omega) (by have := RdC.len h; omega)
theorem RdR.some {w : World} {s : Sl} {l : List Rn} (h : RdR w s l) {i : Nat} (hi : i < l.length) : (padd s.a (i * 2)).isSome = true := by rw [padd_isSome]; exact RdK.isSome h (by omega) (i := i) (by simpa using hi)
theorem get_lt {α : Type} {l : List α} {i : Nat} (h : i < l.length) : ∃ r, l[i]? = some r := ⟨_, List.getElem?_eq_getElem h⟩
abbrev Bd (n : Nat) : Prop := n ≤ 1099511627776
theorem runs_Len_spec (s : Sl) (l : List Rn) (w : World) (hs : RdR w s l) (hb : Bd l.length) (hl : ∀ r ∈ l, 0 ≤ r.1) (hsum : sumR l ≤ 1099511627776) :
  Calls Tryz.prog n_runs_Len #[.slice s.a s.n s.c] w fun e w' => e = .returned (.int .i64 (sumR l)) ∧ Ext w w' := by
 have hsn := RdR.len hs
 apply runs_Len.vc
 refine ⟨fun n x y wr => ∃ k : Nat, x = k ∧ k + n = l.length ∧ Ext w wr ∧ y = sumR (l.take k), ⟨l.length, 0, rfl, by omega, Ext.rfl' w, rfl⟩, ?_⟩
 rintro n us x y wr ⟨k, rfl, hk, xr, rfl⟩
 have hw := wrap_in (n := (k : Int) + 1) (by unfold inI; omega)
 refine Br.mk (fun h => ?_) (fun h => ?_) <;> simp at h
 ·obtain ⟨r, hr⟩ := get_lt (l := l) (i := k) (by omega)
  refine ⟨RdR.inB hs (by omega), _, _, RdR.ll (hs.ext xr) hr, ?_⟩
  rintro w9 rfl w10 rfl
  have e : sumR (l.take (k + 1)) = sumR (l.take k) + r.1 := by
   rw [List.take_add_one, hr]
   simp [sumR]
  have h0 : 0 ≤ sumR (l.take k) ∧ 0 ≤ r.1 ∧ sumR (l.take (k + 1)) ≤ sumR l := by
   refine ⟨?_, hl r (List.mem_of_getElem? hr), ?_⟩
   ·rw [sumR_cells fun q hq => hl q (List.mem_of_mem_take hq)]; omega
   ·have := sumR_app (l.take (k + 1)) (l.drop (k + 1))
    rw [List.take_append_drop] at this
    have h2 : 0 ≤ sumR (l.drop (k + 1)) := by rw [sumR_cells fun q hq => hl q (List.mem_of_mem_drop hq)]; omega
    omega
  have hw2 := wrap_in (n := sumR (l.take k) + r.1) (by unfold inI; omega)
  refine ⟨n - 1, by omega, k + 1, by omega, by omega, ((xr.tr (Ext.al _ _)).setRow xr.size _), by rw [hw2, e]⟩
 ·obtain rfl : k = l.length := by omega
  rw [List.take_length]
  exact ⟨rfl, xr⟩
end Go.Proofs.YtkkkfkopcfdmaaaGreatDoor
namespace Go.Proofs.YtkkkfkopcfdmaaaGreatDoor
open Go Go.Vc Go.RowKit Go.Proofs Go.Runs
abbrev Keep (s : Sl) (w w' : World) : Prop := ∀ j, s.blk ≠ some j → j < w.heap.size → w'.heap[j]? = w.heap[j]?
theorem runs_push_spec (B : Nat) (s : Sl) (l : List Rn) (r : Rn) (w : World) (hB : B ≤ w.heap.size) (ho : OwR B w s l) (hn : Bd l.length) (hl : ∀ q ∈ l, 0 ≤ q.1 ∧ q.1 ≤ 1099511627776) (hr : r.1 ≤ 1099511627776) :
  Calls Tryz.prog n_runs_push #[.slice s.a s.n s.c, .agg #[.int .i64 r.1, .int .i64 r.2]] w fun e w' => ∃ s' : Sl, e = .returned (.slice s'.a s'.n s'.c) ∧ OwR B w' s' (pushR l r) ∧ Below B w w' ∧ Keep s w w' := by
 have hsn := RdR.len ho.rdr
 apply runs_push.vc
 rintro w0 rfl
 have xa := Ext.al w (.cells #[.int .i64 r.1, .int .i64 r.2] tRun)
 have xd := xa.drew
 have hz : (w.alloc (.cells #[.int .i64 r.1, .int .i64 r.2] tRun)).drew.heap.size = w.heap.size + 1 := by simp [World.drew]
 have hw := wrap_in (n := ((s.n : Nat) : Int) - 1) (by unfold inI; omega)
 have grow : ∀ (_ : 1 ≤ r.1) (_ : ∀ q, l.getLast? = some q → q.2 ≠ r.2), (∀ w4 : World, w4 = (w.alloc (.cells #[.int .i64 r.1, .int .i64 r.2] tRun)).drew.alloc (.cells #[.int .i64 r.1, .int .i64 r.2] tRun) →
   AppPre 16 2 w4 ⟨s.a, s.n, s.c⟩ 1 [.int .i64 r.1, .int .i64 r.2] ∧ ∀ (s5 : Sl) (w6 : World), AppRes tRun 2 w4 ⟨s.a, s.n, s.c⟩ 1 [.int .i64 r.1, .int .i64 r.2] s5 w6 → w6.heap[w.heap.size]? = w4.heap[w.heap.size]? ∧ w6.heap[(w.alloc (.cells #[.int .i64 r.1, .int .i64 r.2] tRun)).drew.heap.size]? = w4.heap[(w.alloc (.cells #[.int .i64 r.1, .int .i64 r.2] tRun)).drew.heap.size]? ∧
   ∃ s' : Sl, Ending.returned (.slice s5.a s5.n s5.c) = .returned (.slice s'.a s'.n s'.c) ∧ OwR B w6 s' (pushR l r) ∧ Below B w w6 ∧ Keep s w w6) := by
  rintro h1 h2 w4 rfl
  obtain ⟨hp, hres⟩ := (OwnK.ext ho xd).app1 (bytes := 16) (news := rv r) (.cells #[.int .i64 r.1, .int .i64 r.2] tRun) (Nat.le_trans hB xd.size) rfl (one_ii _ _ _ _) (by omega) (by omega)
  refine ⟨hp, fun s5 w6 hr' => ?_⟩
  obtain ⟨k1, ho', hn', xb, hk, hb⟩ := hres s5 w6 hr'
  refine ⟨?_, k1, s5, rfl, ?_, (Below.mono xd hB).trans xb, fun j hj hlt => ?_⟩
  ·rw [hk _ (fun hb => absurd (ho.own.lt hb).2 (Nat.lt_irrefl _)) (by omega)]
   symm
   exact (Ext.al _ _).heap (by omega)
  ·rw [push_new h1 h2]
   show OwnK B tRun 2 w6 s5 ((l ++ [r]).map rv)
   rw [List.map_append]; exact ho'
  ·rw [hk j hj (by omega)]
   exact xd.heap hlt
 refine Br.mk (fun h => ?_) (fun h => ?_) <;> simp at h
 ·exact ⟨s, rfl, by rw [push_none h]; exact OwnK.ext ho xa, Below.mono xa hB, fun j _ hj => xa.heap hj⟩
 rw [hw]
 refine Br.mk (fun h' => ?_) (fun h' => ?_) <;> simp at h'
 ·rcases snoc_cases l with rfl | ⟨m, q, rfl⟩
  ·simp at hsn; omega
  rw [List.length_append] at hsn; simp at hsn
  have hnat : (((s.n : Nat) : Int) - 1).toNat = m.length := by omega
  have hq : (m ++ [q])[m.length]? = some q := by simp
  have hin : InB s.a (((s.n : Nat) : Int) - 1) s.n := by
   have := RdR.inB ho.rdr (i := m.length) (by simp)
   rwa [show ((m.length : Nat) : Int) = ((s.n : Nat) : Int) - 1 from by omega] at this
  have hsome := RdR.some ho.rdr (i := m.length) (by simp)
  rw [hnat]
  have r1 := RdK.ext ho.rdr xd
  have r2 := RdK.ext ho.rdr xd.drew
  refine ⟨hin, AndL_nn.2 ⟨hsome, _, RdR.c1 r1 hq, Br.mk (fun h2 => ?_) (fun h2 => ?_)⟩⟩
  ·simp at h2
   obtain ⟨q1, q2, q3, q4, q5⟩ := (OwnK.ext ho xd.drew).set (i := m.length) (j := 0) (r := rv q) (v := .int .i64 (IntKind.wrap .i64 (q.1 + r.1))) (by rw [List.getElem?_map, hq]; rfl) (by omega) rfl (Nat.le_trans hB xd.drew.size)
   refine ⟨hin, AndL_nn.2 ⟨hsome, _, RdR.c0 r2 hq, hin, AndL_nn.2 ⟨hsome, ⟨q1, q2⟩, ?_, ?_⟩⟩⟩
   ·intro hb
    have : s.blk = some w.heap.size := by
     rw [pblk_padd, pblk_padd] at hb
     exact hb
    exact absurd (ho.own.lt this).2 (Nat.lt_irrefl _)
   ·rintro w3 rfl
    have hwq := wrap_in (n := q.1 + r.1) (by have := hl q (by simp); unfold inI; omega)
    rw [hwq] at q3 q4 q5 ⊢
    refine ⟨s, rfl, ?_, (Below.mono xd.drew hB).trans q4, fun j hj hlt => ?_⟩
    ·rw [push_same h h2]
     show OwnK B tRun 2 _ s ((m ++ [(q.1 + r.1, q.2)]).map rv)
     have e : ((m ++ [q]).map rv).set m.length ((rv q).set 0 (.int .i64 (q.1 + r.1))) = (m ++ [(q.1 + r.1, q.2)]).map rv := by
      rw [List.map_append, List.map_append, List.set_append_right _ _ (by simp)]
      simp
     rw [← e]; exact q3
    ·rw [q5 j hj]; exact xd.drew.heap hlt
  ·exact grow h (by intro p hp; simp at hp; subst hp; simpa using h2)
 ·have : l = [] := by
   apply List.eq_nil_of_length_eq_zero; omega
  subst this
  exact grow h (by simp)
theorem push_canon (B : Nat) (s : Sl) (c : List Int) (r : Rn) (w : World) (hB : B ≤ w.heap.size) (ho : OwR B w s (ofC c)) (hn : Bd c.length) (hr : r.1 ≤ 1099511627776) :
  Calls Tryz.prog n_runs_push #[.slice s.a s.n s.c, .agg #[.int .i64 r.1, .int .i64 r.2]] w fun e w' => ∃ s' : Sl, e = .returned (.slice s'.a s'.n s'.c) ∧ OwR B w' s' (ofC (c ++ List.replicate r.1.toNat r.2)) ∧ Below B w w' ∧ Keep s w w' := by
 rw [← push_ofC]
 refine runs_push_spec B s _ r w hB ho (by have := ofC_len c; unfold Bd at *; omega) (fun q hq => ?_) hr
 have := mem_ofC hq
 unfold Bd at hn
 omega
theorem runs_Of_spec (s : Sl) (c : List Int) (w : World) (hs : RdC w s c) (hn : Bd c.length) :
  Calls Tryz.prog n_runs_Of #[.slice s.a s.n s.c] w fun e w' => ∃ s' : Sl, e = .returned (.slice s'.a s'.n s'.c) ∧ OwR w.heap.size w' s' (ofC c) ∧ Ext w w' := by
 have hsn := RdC.len hs
 apply runs_Of.vc
 refine ⟨fun n x o wr => ∃ k : Nat, x = k ∧ k + n = c.length ∧ Ext w wr ∧ OwR w.heap.size wr o (ofC (c.take k)), ⟨c.length, 0, rfl, by omega, Ext.rfl' w, OwnK.nil⟩, ?_⟩
 rintro n us x o wr ⟨k, rfl, hk, xr, ho⟩
 unfold Bd at hn
 have hw := wrap_in (n := (k : Int) + 1) (by unfold inI; omega)
 refine Br.mk (fun h => ?_) (fun h => ?_) <;> simp at h
 ·obtain ⟨b, hb⟩ := get_lt (l := c) (i := k) (by omega)
  refine ⟨RdC.inB hs (by omega), _, RdC.c0 (hs.ext xr) hb, ?_⟩
  refine (push_canon w.heap.size o _ (1, b) wr xr.size ho (by rw [List.length_take]; unfold Bd; omega) (by show (1 : Int) ≤ _; omega)).mono ?_
  rintro e w' ⟨s', rfl, ho', x', _⟩
  refine ⟨s', rfl, n - 1, by omega, k + 1, by omega, by omega, xr.trans x', ?_⟩
  rw [List.take_add_one, hb]
  exact ho'
 ·obtain rfl : k = c.length := by omega
  rw [List.take_length] at ho
  exact ⟨o, rfl, ho, xr⟩
end Go.Proofs.YtkkkfkopcfdmaaaGreatDoor
namespace Go.Proofs.YtkkkfkopcfdmaaaGreatDoor
open Go Go.Vc Go.RowKit Go.Proofs Go.Runs
theorem sumR_take_succ {l : List Rn} {k : Nat} {r : Rn} (hr : l[k]? = some r) : sumR (l.take (k + 1)) = sumR (l.take k) + r.1 := by
 rw [List.take_add_one, hr]; simp [sumR]
theorem sumR_nn {l : List Rn} (hl : ∀ r ∈ l, 0 ≤ r.1) : 0 ≤ sumR l := by rw [sumR_cells hl]; omega
theorem sumR_take_le {l : List Rn} (hl : ∀ r ∈ l, 0 ≤ r.1) (k : Nat) : 0 ≤ sumR (l.take k) ∧ sumR (l.take k) ≤ sumR l := by
 refine ⟨sumR_nn fun q hq => hl q (List.mem_of_mem_take hq), ?_⟩
 have := sumR_app (l.take k) (l.drop k)
 rw [List.take_append_drop] at this
 have h2 := sumR_nn (l := l.drop k) fun q hq => hl q (List.mem_of_mem_drop hq)
 omega
theorem clone_spec (s : Sl) (l : List Rn) (w : World) (hs : RdR w s l) (hn : Bd l.length) :
  Calls Tryz.prog n_slices_Clone_Run #[.slice s.a s.n s.c] w fun e w' => ∃ s' : Sl, e = .returned (.slice s'.a s'.n s'.c) ∧ OwR w.heap.size w' s' l ∧ Ext w w' := by
 have hsn := RdR.len hs
 unfold Bd at hn
 apply slices_Clone_Run.vc
 refine Br.mk (fun h => ?_) (fun h => ?_)
 ·have : l = [] := by
   rcases Nat.eq_zero_or_pos l.length with h0 | h0
   ·exact List.eq_nil_of_length_eq_zero h0
   ·have := RdK.isSome hs (by omega) (i := 0) (by simpa using h0)
    cases hsa : s.a <;> simp [hsa] at h this
  subst this
  exact ⟨⟨none, 0, 0⟩, rfl, OwnK.nil, Ext.rfl' w⟩
 ·rintro w0 rfl
  have xa := Ext.al w (.cells #[] tRun)
  have hz : Go.Vc.Own w.heap.size tRun 2 (w.alloc (.cells #[] tRun)) ⟨some ⟨w.heap.size, 0, none⟩, 0, 0⟩ [] := .row w.heap.size 0 0 [] (Nat.le_refl _) (Row.new w [] tRun) (by simp) (Nat.le_refl _)
  have hf : (l.map rv).flatten.length = s.n * 2 := by rw [flatten_len hs.wd]; simp [hsn]
  have h1 : One (l.map rv).flatten := One_flatten fun r hr => by
   obtain ⟨q, _, rfl⟩ := List.mem_map.1 hr
   exact one_ii _ _ _ _
  obtain ⟨hp, hr⟩ := hz.append (bytes := 16) (m := s.n) (news := (l.map rv).flatten) xa.size hf h1 (by simp; omega) (by simp; omega)
  refine ⟨(l.map rv).flatten, RdK.flat (hs.ext xa) (by omega), hp, fun s2 w3 hres => ?_⟩
  obtain ⟨ho, hn2, xb, _, _⟩ := hr s2 w3 hres
  refine ⟨AppRes_zero hres hf (by simp), s2, rfl, ⟨by simpa using ho, hs.wd⟩, xa.trans xb⟩
end Go.Proofs.YtkkkfkopcfdmaaaGreatDoor
namespace Go.Proofs.YtkkkfkopcfdmaaaGreatDoor
open Go Go.Vc Go.RowKit Go.Proofs Go.Runs
theorem wrap_sub (a b : Int) : IntKind.wrap .i64 (IntKind.wrap .i64 a - b) = IntKind.wrap .i64 (a - b) := by
 unfold IntKind.wrap
 simp only [IntKind.bits, IntKind.signed, Bool.true_and]
 split <;> split <;> split <;> simp_all <;> omega
theorem runs_At_spec (s : Sl) (l : List Rn) (i : Int) (w : World) (hs : RdR w s l) (hn : Bd l.length) (hl : ∀ r ∈ l, 0 ≤ r.1) (hsum : sumR l ≤ 1099511627776) (hi : inI i) :
  Calls Tryz.prog n_runs_At #[.slice s.a s.n s.c, .int .i64 i] w fun e w' => e = .returned (.int .i64 (atC (cellsR l) i)) ∧ Ext w w' := by
 have hsn := RdR.len hs
 unfold Bd at hn
 apply runs_At.vc
 refine ⟨fun n x y wr => ∃ k : Nat, x = k ∧ k + n = l.length ∧ Ext w wr ∧ y = IntKind.wrap .i64 (i - sumR (l.take k)) ∧ (i < 0 ∨ sumR (l.take k) ≤ i), ⟨l.length, 0, rfl, by omega, Ext.rfl' w, ?_, ?_⟩, ?_⟩
 ·rw [show sumR (l.take 0) = 0 from rfl, Int.sub_zero, wrap_in hi]
 ·rw [show sumR (l.take 0) = 0 from rfl]; omega
 rintro n us x y wr ⟨k, rfl, hk, xr, rfl, hno⟩
 have hw := wrap_in (n := (k : Int) + 1) (by unfold inI; omega)
 unfold inI at hi
 have hc : ∀ k, ((cellsR (l.take k)).length : Int) = sumR (l.take k) := fun k => (sumR_cells fun q hq => hl q (List.mem_of_mem_take hq)).symm
 refine Br.mk (fun h => ?_) (fun h => ?_) <;> simp at h
 ·obtain ⟨r, hr⟩ := get_lt (l := l) (i := k) (by omega)
  have e := sumR_take_succ hr
  have hr0 := hl r (List.mem_of_getElem? hr)
  have b1 := sumR_take_le hl k
  have b2 := sumR_take_le hl (k + 1)
  refine ⟨RdR.inB hs (by omega), _, _, RdR.ll (hs.ext xr) hr, ?_⟩
  rintro w9 rfl w10 rfl
  have x10 := ((xr.tr (Ext.al _ (.cells #[.int .i64 0, .int .i64 0] tRun))).setRow xr.size #[.int .i64 r.1, .int .i64 r.2])
  have hwi := wrap_inI (i - sumR (l.take k))
  unfold inI at hwi
  have hneg : i < 0 → (0 ≤ IntKind.wrap .i64 (i - sumR (l.take k)) → IntKind.wrap .i64 (i - sumR (l.take k)) < r.1 → False) := by
   intro h0 h1 h2
   revert h1 h2
   unfold IntKind.wrap
   simp only [IntKind.bits, IntKind.signed, Bool.true_and]
   split <;> simp_all <;> omega
  have hpos : 0 ≤ i → sumR (l.take k) ≤ i → IntKind.wrap .i64 (i - sumR (l.take k)) = i - sumR (l.take k) := fun _ _ => wrap_in (by unfold inI; omega)
  have nx : (i < 0 ∨ sumR (l.take (k + 1)) ≤ i) → ∃ n6, n6 < n ∧ ∃ k_1 : Nat, IntKind.wrap .i64 ((k : Int) + 1) = k_1 ∧ k_1 + n6 = l.length ∧ Ext w ((wr.alloc (.cells #[.int .i64 0, .int .i64 0] tRun)).setRow wr.heap.size #[.int .i64 r.1, .int .i64 r.2]) ∧
    IntKind.wrap .i64 (IntKind.wrap .i64 (i - sumR (l.take k)) - r.1) = IntKind.wrap .i64 (i - sumR (l.take k_1)) ∧ (i < 0 ∨ sumR (l.take k_1) ≤ i) :=
   fun hh => ⟨n - 1, by omega, k + 1, by omega, by omega, x10, by rw [wrap_sub, e, Int.sub_sub], hh⟩
  refine Br.mk (fun h1 => Br.mk (fun h2 => ?_) (fun h2 => ?_)) (fun h1 => ?_) <;> simp only [decide_eq_true_eq, decide_eq_false_iff_not] at *
  ·rcases Int.lt_or_le i 0 with h0 | h0
   ·exact (hneg h0 h1 h2).elim
   ·have hle : sumR (l.take k) ≤ i := by omega
    have := hpos h0 hle
    have ht : l = l.take k ++ [r] ++ l.drop (k + 1) := by
     have := List.take_append_drop (k + 1) l
     rw [List.take_add_one, hr] at this
     exact this.symm
    refine ⟨?_, x10⟩
    have hcell : cellsR l = cellsR (l.take k) ++ List.replicate r.1.toNat r.2 ++ cellsR (l.drop (k + 1)) := by
     rw [← cellsR_one r, ← cellsR_app, ← cellsR_app, ← ht]
    rw [hcell, atC_in _ _ _ _ _ (by rw [hc]; exact hle) (by rw [hc]; omega)]
  ·refine nx ?_
   rcases Int.lt_or_le i 0 with h0 | h0
   ·exact .inl h0
   ·have := hpos h0 (by omega); right; omega
  ·refine nx ?_
   rcases Int.lt_or_le i 0 with h0 | h0
   ·exact .inl h0
   ·have := hpos h0 (by omega); omega
 ·obtain rfl : k = l.length := by omega
  refine ⟨?_, xr⟩
  have := hc l.length
  rw [List.take_length] at this hno
  rw [atC_out _ _ (by omega)]
theorem mayL_cons (may : Int → Bool) (prev : Option Int) (left : Int) (r : Rn) (t : List Rn) : mayL may prev left (r :: t) = if r.1 < 1 ∨ r.1 > left ∨ may r.2 = false ∨ prev = some r.2 then false else mayL may (some r.2) (left - r.1) t := rfl
theorem runs_May_spec (s : Sl) (l : List Rn) (m : Int) (w : World) (hs : RdR w s l) (hn : Bd l.length) (hm : inI m) :
  Calls Tryz.prog n_runs_May #[.slice s.a s.n s.c, .int .i64 m] w fun e w' => e = .returned (.bool (mayR bMay l m)) ∧ Ext w w' := by
 have hsn := RdR.len hs
 unfold Bd at hn
 unfold inI at hm
 apply runs_May.vc
 have hprev : ∀ k, k < l.length → (l.take k).getLast? = if k = 0 then none else l[k - 1]? := by
  intro k hk
  rw [List.getLast?_eq_getElem?, List.getElem?_take, List.length_take, Nat.min_eq_left (by omega)]
  rcases Nat.eq_zero_or_pos k with rfl | h0
  ·simp
  ·rw [if_pos (by omega), if_neg (by omega)]
 refine ⟨fun n x y wr => ∃ k : Nat, x = k ∧ k + n = l.length ∧ Ext w wr ∧ y ≤ max m 0 ∧ (min m 0 ≤ y) ∧ mayL bMay ((l.take k).getLast?.map (·.2)) y (l.drop k) = mayL bMay none m l, ⟨l.length, 0, rfl, by omega, Ext.rfl' w, by omega, by omega, rfl⟩, ?_⟩
 rintro n us x y wr ⟨k, rfl, hk, xr, hy, hy0, heq⟩
 have hw := wrap_in (n := (k : Int) + 1) (by unfold inI; omega)
 refine Br.mk (fun h => ?_) (fun h => ?_) <;> simp at h
 ·obtain ⟨r, hr⟩ := get_lt (l := l) (i := k) (by omega)
  have hd : l.drop k = r :: l.drop (k + 1) := by
   rw [List.drop_eq_getElem_cons (by omega)]
   rw [List.getElem?_eq_getElem (by omega)] at hr
   cases hr; rfl
  rw [hd] at heq
  rw [mayL_cons] at heq
  refine ⟨RdR.inB hs (by omega), _, _, RdR.ll (hs.ext xr) hr, ?_⟩
  rintro w9 rfl w10 rfl
  have x10 := ((xr.tr (Ext.al _ (.cells #[.int .i64 0, .int .i64 0] tRun))).setRow xr.size #[.int .i64 r.1, .int .i64 r.2]).drew
  have fin : ∀ w', Ext w w' → (r.1 < 1 ∨ r.1 > y ∨ bMay r.2 = false ∨ (l.take k).getLast?.map (·.2) = some r.2) → Ending.returned (.bool false) = .returned (.bool (mayR bMay l m)) ∧ Ext w w' := by
   intro w' x' hh
   rw [if_pos hh] at heq
   refine ⟨?_, x'⟩
   unfold mayR
   rw [← heq]; simp
  refine Br.mk (fun h1 => ?_) (fun h1 => Br.mk (fun h2 => ?_) (fun h2 => ?_)) <;> simp only [decide_eq_true_eq, decide_eq_false_iff_not] at *
  ·exact fin _ x10 (.inl h1)
  ·exact fin _ x10 (.inr (.inl h2))
  ·refine (block_May_spec r.2 _).mono ?_
   rintro e w3 ⟨rfl, x3⟩
   have x4 := x10.tr x3
   have hrow : Row ((wr.alloc (.cells #[.int .i64 0, .int .i64 0] tRun)).setRow wr.heap.size #[.int .i64 r.1, .int .i64 r.2]).drew wr.heap.size [.int .i64 r.1, .int .i64 r.2] tRun := (Row.new wr [.int .i64 0, .int .i64 0] tRun).set [.int .i64 r.1, .int .i64 r.2]
   have hrow3 := hrow.ext x3
   have hkeep := x3.heap hrow.lt
   have hll : LoadL w3 (some ⟨wr.heap.size, 0, none⟩) 0 [.int .i64 r.1] := by
    refine hrow3.loadL (o := 0) fun j hj => ?_
    have : j = 0 := by simpa using hj
    subst this; rfl
   have nx : ((l.take k).getLast?.map (·.2) ≠ some r.2) → bMay r.2 = true → ∃ n6, n6 < n ∧ ∃ k_1 : Nat, IntKind.wrap .i64 ((k : Int) + 1) = k_1 ∧ k_1 + n6 = l.length ∧ Ext w w3 ∧ IntKind.wrap .i64 (y - r.1) ≤ max m 0 ∧ min m 0 ≤ IntKind.wrap .i64 (y - r.1) ∧ mayL bMay ((l.take k_1).getLast?.map (·.2)) (IntKind.wrap .i64 (y - r.1)) (l.drop k_1) = mayL bMay none m l := by
    intro hne hbm
    have hwy := wrap_in (n := y - r.1) (by unfold inI; omega)
    refine ⟨n - 1, by omega, k + 1, by omega, by omega, x4, by omega, by omega, ?_⟩
    rw [hwy]
    rw [if_neg (by
     rintro (h | h | h | h)
     ·omega
     ·omega
     ·rw [hbm] at h; cases h
     ·exact hne h)] at heq
    rw [← heq, List.take_add_one, hr]
    simp
   refine ⟨_, rfl, hkeep, hll, hll, Br.mk (fun h3 => ?_) (fun h3 => ?_)⟩
   ·exact fin _ x4 (.inr (.inr (.inl (by simpa using h3))))
   ·have hbm : bMay r.2 = true := by simpa using h3
    refine Br.mk (fun h4 => ?_) (fun h4 => ?_) <;> simp at h4
    ·have hwk := wrap_in (n := (k : Int) - 1) (by unfold inI; omega)
     rw [hwk]
     obtain ⟨q, hq⟩ := get_lt (l := l) (i := k - 1) (by omega)
     have hin := RdR.inB hs (i := k - 1) (by omega)
     rw [show ((k - 1 : Nat) : Int) = (k : Int) - 1 from by omega] at hin
     have hcq := RdR.c1 (hs.ext x4) hq
     have hsm := RdR.some hs (i := k - 1) (by omega)
     rw [show ((k : Int) - 1).toNat = k - 1 from by omega]
     have hlast := hprev k (by omega)
     rw [if_neg (by omega), hq] at hlast
     refine ⟨hin, AndL_nn.2 ⟨hsm, _, hcq, Br.mk (fun h5 => ?_) (fun h5 => ?_)⟩⟩
     ·exact fin _ x4 (.inr (.inr (.inr (by rw [hlast]; simpa using h5))))
     ·exact nx (by rw [hlast]; simpa using h5) hbm
    ·refine nx ?_ hbm
     have : k = 0 := by omega
     subst this; simp
 ·obtain rfl : k = l.length := by omega
  rw [List.drop_length] at heq
  refine Br.mk (fun h1 => ?_) (fun h1 => ?_) <;> simp at h1
  ·refine ⟨?_, xr⟩
   unfold mayR
   rw [← heq, decide_eq_true h1]
   rfl
  ·refine ⟨?_, xr⟩
   unfold mayR
   rw [decide_eq_false (by omega)]; rfl
end Go.Proofs.YtkkkfkopcfdmaaaGreatDoor
namespace Go.Proofs.YtkkkfkopcfdmaaaGreatDoor
open Go Go.Vc Go.RowKit Go.Proofs Go.Runs
end Go.Proofs.YtkkkfkopcfdmaaaGreatDoor
namespace Go.Proofs.YtkkkfkopcfdmaaaGreatDoor
open Go Go.Vc Go.RowKit Go.Proofs Go.Runs
end Go.Proofs.YtkkkfkopcfdmaaaGreatDoor
namespace Go.Proofs.YtkkkfkopcfdmaaaGreatDoor
open Go Go.Vc Go.RowKit Go.Proofs Go.Runs
end Go.Proofs.YtkkkfkopcfdmaaaGreatDoor
namespace Go.Proofs.YtkkkfkopcfdmaaaGreatDoor
open Go Go.Vc Go.RowKit Go.Proofs Go.Runs
end Go.Proofs.YtkkkfkopcfdmaaaGreatDoor
