import Derived.Test.YtfipllblcnahdaaDoorE
import Derived.Test.YtfipllblcnahdaaDoorP
set_option linter.all false
namespace Go.Proofs.YtfipllblcnahdaaDoor
open Go Go.Vc Go.RowKit Go.Proofs Go.Runs

abbrev tRun : TypeId := 83
abbrev tInt : TypeId := 3
abbrev rv (r : Rn) : List Value := [.int .i64 r.1, .int .i64 r.2]
abbrev iv (b : Int) : List Value := [.int .i64 b]
/-- The slice reads as these runs; as these numbers. -/
abbrev RdR (w : World) (s : Sl) (l : List Rn) : Prop := RdK w s 2 (l.map rv)
abbrev RdC (w : World) (s : Sl) (c : List Int) : Prop := RdK w s 1 (c.map iv)
abbrev OwR (B : Nat) (w : World) (s : Sl) (l : List Rn) : Prop := OwnK B tRun 2 w s (l.map rv)
abbrev OwC (B : Nat) (w : World) (s : Sl) (c : List Int) : Prop := OwnK B tInt 1 w s (c.map iv)
theorem OwR.rdr {B : Nat} {w : World} {s : Sl} {l : List Rn} (h : OwR B w s l) : RdR w s l := OwnK.rd h (by omega)
theorem OwC.rdc {B : Nat} {w : World} {s : Sl} {c : List Int} (h : OwC B w s c) : RdC w s c := OwnK.rd h (by omega)
theorem RdR.len {w : World} {s : Sl} {l : List Rn} (h : RdR w s l) : s.n = l.length := by have := h.n; simpa using this
theorem RdC.len {w : World} {s : Sl} {c : List Int} (h : RdC w s c) : s.n = c.length := by have := h.n; simpa using this
theorem RdR.get {w : World} {s : Sl} {l : List Rn} (_ : RdR w s l) {i : Nat} {r : Rn} (hi : l[i]? = some r) : (l.map rv)[i]? = some (rv r) := by rw [List.getElem?_map, hi]; rfl
theorem RdR.c0 {w : World} {s : Sl} {l : List Rn} (h : RdR w s l) {i : Nat} {r : Rn} (hi : l[i]? = some r) : ld w (padd (padd s.a (i * 2)) 0) = some (.int .i64 r.1) := RdK.at h (RdR.get h hi) (j := 0) rfl
theorem RdR.c1 {w : World} {s : Sl} {l : List Rn} (h : RdR w s l) {i : Nat} {r : Rn} (hi : l[i]? = some r) : ld w (padd (padd s.a (i * 2)) 1) = some (.int .i64 r.2) := RdK.at h (RdR.get h hi) (j := 1) rfl
theorem RdR.ll {w : World} {s : Sl} {l : List Rn} (h : RdR w s l) {i : Nat} {r : Rn} (hi : l[i]? = some r) : LoadL w (padd s.a (i * 2)) 0 [.int .i64 r.1, .int .i64 r.2] := RdK.loadL h (RdR.get h hi)
theorem RdC.c0 {w : World} {s : Sl} {l : List Int} (h : RdC w s l) {i : Nat} {b : Int} (hi : l[i]? = some b) : ld w (padd s.a (i * 1)) = some (.int .i64 b) := by
  have := h.rd i (iv b) (by rw [List.getElem?_map, hi]; rfl) 0 _ rfl
  simpa using this
theorem RdR.inB {w : World} {s : Sl} {l : List Rn} (h : RdR w s l) {i : Nat} (hi : i < l.length) : InB s.a (i : Int) s.n := RdK.inB h (by omega) (by omega) (by have := RdR.len h; omega)
theorem RdC.inB {w : World} {s : Sl} {l : List Int} (h : RdC w s l) {i : Nat} (hi : i < l.length) : InB s.a (i : Int) s.n := RdK.inB h (by omega) (by omega) (by have := RdC.len h; omega)
theorem RdR.some {w : World} {s : Sl} {l : List Rn} (h : RdR w s l) {i : Nat} (hi : i < l.length) : (padd s.a (i * 2)).isSome = true := by rw [padd_isSome]; exact RdK.isSome h (by omega) (i := i) (by simpa using hi)
theorem get_lt {α : Type} {l : List α} {i : Nat} (h : i < l.length) : ∃ r, l[i]? = some r := ⟨_, List.getElem?_eq_getElem h⟩
abbrev Bd (n : Nat) : Prop := n ≤ 1099511627776

theorem ref05_Same_spec (s t : Sl) (l m : List Rn) (w : World) (hs : RdR w s l) (ht : RdR w t m) (hb : Bd l.length) :
    Calls Tryd.prog n_ref05_Same #[.slice s.a s.n s.c, .slice t.a t.n t.c] w fun e w' => e = .returned (.bool (decide (l = m))) ∧ Ext w w' := by
  have hsn := RdR.len hs
  have htn := RdR.len ht
  apply ref05_Same.vc
  refine Br.mk (fun h => ?_) (fun h => ?_)
  · refine ⟨?_, Ext.rfl' w⟩
    have : l ≠ m := by rintro rfl; simp at h; omega
    rw [decide_eq_false this]
  · simp at h
    have hlm : l.length = m.length := by omega
    refine ⟨fun n x wr => ∃ k : Nat, x = k ∧ k + n = l.length ∧ Ext w wr ∧ ∀ j, j < k → l[j]? = m[j]?, ⟨l.length, 0, rfl, by omega, Ext.rfl' w, fun j hj => by omega⟩, ?_⟩
    rintro n us x wr ⟨k, rfl, hk, xr, heq⟩
    have hw := wrap_in (n := (k : Int) + 1) (by unfold inI; omega)
    have xd := xr.drew
    refine Br.mk (fun h => ?_) (fun h => ?_) <;> simp at h
    · obtain ⟨r, hr⟩ := get_lt (l := l) (i := k) (by omega)
      obtain ⟨q, hq⟩ := get_lt (l := m) (i := k) (by omega)
      refine ⟨RdR.inB hs (by omega), _, _, RdR.ll (hs.ext xd) hr, RdR.inB ht (by omega), _, _, RdR.ll (ht.ext xd) hq, Br.mk (fun h => ?_) (fun h' => ?_)⟩
      · refine ⟨?_, xd⟩
        have : l ≠ m := by
          rintro rfl
          rw [hr] at hq; cases hq
          simp at h
        rw [decide_eq_false this]
      · refine ⟨n - 1, by omega, k + 1, by omega, by omega, xd, fun j hj => ?_⟩
        rcases Nat.lt_or_ge j k with hlt | hge
        · exact heq j hlt
        · obtain rfl : j = k := by omega
          rw [hr, hq]
          simp at h'
          exact congrArg Option.some (Prod.ext h'.1 h'.2)
    · refine ⟨?_, xr⟩
      have : l = m := by
        apply List.ext_getElem?
        intro j
        rcases Nat.lt_or_ge j k with hlt | hge
        · exact heq j hlt
        · rw [List.getElem?_eq_none (by omega), List.getElem?_eq_none (by omega)]
      rw [decide_eq_true this]

theorem runs_Len_spec (s : Sl) (l : List Rn) (w : World) (hs : RdR w s l) (hb : Bd l.length) (hl : ∀ r ∈ l, 0 ≤ r.1) (hsum : sumR l ≤ 1099511627776) :
    Calls Tryd.prog n_runs_Len #[.slice s.a s.n s.c] w fun e w' => e = .returned (.int .i64 (sumR l)) ∧ Ext w w' := by
  have hsn := RdR.len hs
  apply runs_Len.vc
  refine ⟨fun n x y wr => ∃ k : Nat, x = k ∧ k + n = l.length ∧ Ext w wr ∧ y = sumR (l.take k), ⟨l.length, 0, rfl, by omega, Ext.rfl' w, rfl⟩, ?_⟩
  rintro n us x y wr ⟨k, rfl, hk, xr, rfl⟩
  have hw := wrap_in (n := (k : Int) + 1) (by unfold inI; omega)
  refine Br.mk (fun h => ?_) (fun h => ?_) <;> simp at h
  · obtain ⟨r, hr⟩ := get_lt (l := l) (i := k) (by omega)
    refine ⟨RdR.inB hs (by omega), _, _, RdR.ll (hs.ext xr) hr, ?_⟩
    rintro w9 rfl w10 rfl
    have e : sumR (l.take (k + 1)) = sumR (l.take k) + r.1 := by
      rw [List.take_add_one, hr]
      simp [sumR]
    have h0 : 0 ≤ sumR (l.take k) ∧ 0 ≤ r.1 ∧ sumR (l.take (k + 1)) ≤ sumR l := by
      refine ⟨?_, hl r (List.mem_of_getElem? hr), ?_⟩
      · rw [sumR_cells fun q hq => hl q (List.mem_of_mem_take hq)]; omega
      · have := sumR_app (l.take (k + 1)) (l.drop (k + 1))
        rw [List.take_append_drop] at this
        have h2 : 0 ≤ sumR (l.drop (k + 1)) := by rw [sumR_cells fun q hq => hl q (List.mem_of_mem_drop hq)]; omega
        omega
    have hw2 := wrap_in (n := sumR (l.take k) + r.1) (by unfold inI; omega)
    refine ⟨n - 1, by omega, k + 1, by omega, by omega, ((xr.tr (Ext.al _ _)).setRow xr.size _), by rw [hw2, e]⟩
  · obtain rfl : k = l.length := by omega
    rw [List.take_length]
    exact ⟨rfl, xr⟩
end Go.Proofs.YtfipllblcnahdaaDoor
