import Derived.Test.YtbnmglonbhdcbaaGreatDoorKE
set_option linter.all false
namespace Go.Proofs.YtbnmglonbhdcbaaGreatDoor
open Go Go.Vc Go.RowKit Go.Proofs Go.Chk Go.Runs Go.Code

abbrev rQ (q : Po) : List Value := [.int .i64 q.1, .int .i64 q.2]
/-- A chunk, and the four beside it. -/
def besideK (p : Po) : List Po := [p, (p.1 - 1, p.2), (p.1 + 1, p.2), (p.1, p.2 - 1), (p.1, p.2 + 1)]
theorem cBeside_spec (p : Po) (hp : okP p) (w : World) : Calls Tryz.prog n_cell_Beside #[pv p] w fun e w' => e = .returned (.agg #[.int .i64 p.1, .int .i64 p.2, .int .i64 (p.1 - 1), .int .i64 p.2, .int .i64 (p.1 + 1), .int .i64 p.2, .int .i64 p.1, .int .i64 (p.2 - 1), .int .i64 p.1, .int .i64 (p.2 + 1)]) ∧ Ext w w' := by
  apply cell_Beside.vc
  obtain ⟨⟨p1, p2⟩, p3, p4⟩ := hp
  have q1 : IntKind.wrap .i64 (p.1 - 1) = p.1 - 1 := wrap_in (by unfold inI; omega)
  have q2 : IntKind.wrap .i64 (p.1 + 1) = p.1 + 1 := wrap_in (by unfold inI; omega)
  have q3 : IntKind.wrap .i64 (p.2 - 1) = p.2 - 1 := wrap_in (by unfold inI; omega)
  have q4 : IntKind.wrap .i64 (p.2 + 1) = p.2 + 1 := wrap_in (by unfold inI; omega)
  unfold cell_Beside.pre
  rw [q1, q2, q3, q4]
  intro w0 e0 w1 e1
  have z0 : w0.heap.size = w.heap.size + 1 := by rw [e0]; simp
  have x1 : Ext w w1 := ((Ext.rfl' w).of_alloc e0).of_alloc e1
  have hr : Row w1 w0.heap.size [.int .i64 0, .int .i64 0, .int .i64 0, .int .i64 0, .int .i64 0, .int .i64 0, .int .i64 0, .int .i64 0, .int .i64 0, .int .i64 0] 133 := by rw [e1]; exact Row.new w0 [_, _, _, _, _, _, _, _, _, _] _
  refine ⟨⟨rfl, hr.wr (by simp)⟩, fun e => by
    have : w0.heap.size = w.heap.size := by simpa [pblk] using e
    omega, fun w2 e2 => ?_⟩
  have h1 : One [Value.int .i64 p.1, .int .i64 p.2, .int .i64 (p.1 - 1), .int .i64 p.2, .int .i64 (p.1 + 1), .int .i64 p.2, .int .i64 p.1, .int .i64 (p.2 - 1), .int .i64 p.1, .int .i64 (p.2 + 1)] := by
    intro v hv
    simp only [List.mem_cons, List.not_mem_nil, or_false] at hv
    rcases hv with rfl | rfl | rfl | rfl | rfl | rfl | rfl | rfl | rfl | rfl <;> rfl
  rw [hr.setP (by simp) h1] at e2
  have hr2 : Row w2 w0.heap.size [.int .i64 p.1, .int .i64 p.2, .int .i64 (p.1 - 1), .int .i64 p.2, .int .i64 (p.1 + 1), .int .i64 p.2, .int .i64 p.1, .int .i64 (p.2 - 1), .int .i64 p.1, .int .i64 (p.2 + 1)] 133 := by rw [e2]; exact hr.set _
  exact ⟨_, _, _, _, _, _, _, _, _, _, hr2.loadL (fun j hj => by rw [Nat.zero_add]), rfl, x1.of_setRow e2 (by omega)⟩
theorem posIndex_spec (s : Sl) (ps : List Po) (p : Po) (w : World) (hs : RdK w s 2 (ps.map rQ)) (hn : ps.length ≤ 1000) :
    Calls Tryz.prog n_slices_Index_Pos #[.slice s.a s.n s.c, pv p] w fun e w' => (∃ r : Int, e = .returned (.int .i64 r) ∧ (0 ≤ r ↔ p ∈ ps)) ∧ Ext w w' := by
  apply slices_Index_Pos.vc
  have hsn := hs.n
  rw [List.length_map] at hsn
  intro w0 e0
  have x0 : Ext w w0 := (Ext.rfl' w).of_alloc e0
  refine ⟨fun n x w' => ∃ j : Nat, x = j ∧ j + n = ps.length ∧ Ext w w' ∧ p ∉ ps.take j, ⟨ps.length, rfl, 0, rfl, by omega, x0, by simp⟩, ?_⟩
  rintro n us x w5 ⟨j, rfl, hj, x5, hnp⟩
  refine Br.mk (fun hb => ?_) (fun hb => ?_)
  · simp only [decide_eq_true_eq] at hb
    obtain ⟨y, hy⟩ := get_lt (l := ps) (i := j) (by omega)
    have hrd := hs.ext (x5.tr (Ext.dr _))
    refine ⟨hs.inB (i := (j : Int)) (by decide) (by omega) hb, y.1, y.2, hrd.loadL (i := j) (r := rQ y) (by rw [List.getElem?_map, hy]; rfl), Br.mk (fun h1 => ?_) (fun h1 => ?_)⟩
    · simp only [Bool.and_eq_true, beq_iff_eq] at h1
      have : p = y := Prod.ext h1.1 h1.2
      exact ⟨⟨_, rfl, fun _ => by rw [this]; exact List.mem_of_getElem? hy, fun _ => by omega⟩, x5.tr (Ext.dr _)⟩
    · have wk : IntKind.wrap .i64 ((j : Int) + 1) = ((j + 1 : Nat) : Int) := by rw [wrap_in (by unfold inI; omega)]; omega
      refine ⟨n - 1, by omega, rfl, j + 1, wk, by omega, x5.tr (Ext.dr _), ?_⟩
      rw [List.take_add_one, hy]
      intro hm
      rcases List.mem_append.1 hm with hm | hm
      · exact hnp hm
      · simp only [Option.toList_some, List.mem_singleton] at hm
        subst hm
        simp at h1
  · simp only [decide_eq_false_iff_not] at hb
    rw [List.take_of_length_le (by omega)] at hnp
    exact ⟨⟨-1, rfl, fun h => by omega, fun h => absurd h hnp⟩, x5⟩
theorem posContains_spec (s : Sl) (ps : List Po) (p : Po) (w : World) (hs : RdK w s 2 (ps.map rQ)) (hn : ps.length ≤ 1000) :
    Calls Tryz.prog n_slices_Contains_Pos #[.slice s.a s.n s.c, pv p] w fun e w' => e = .returned (.bool (decide (p ∈ ps))) ∧ Ext w w' := by
  apply slices_Contains_Pos.vc
  intro w0 e0
  have z0 : w0.heap.size = w.heap.size + 1 := by rw [e0]; simp
  have x0 : Ext w w0 := (Ext.rfl' w).of_alloc e0
  refine (posIndex_spec s ps p w0 (hs.ext x0) hn).mono ?_
  rintro e w1 ⟨⟨r, rfl, hr⟩, x1⟩
  refine ⟨r, rfl, x1.heap (by omega), ?_, x0.tr x1⟩
  have : decide (r ≥ 0) = decide (p ∈ ps) := by rw [decide_eq_decide]; exact hr
  rw [this]
theorem tfHere_spec {F : Nat → Prop} {w : World} {t : Nat} {seed limit : Int} {l : List En} (h : TF F w t seed limit l) : Calls Tryz.prog n_table_Table_Here #[.pointer (some ⟨t, 0, none⟩)] w fun e w' => ∃ s' : Sl, e = .returned (.slice s'.a s'.n s'.c) ∧ OwnK w.heap.size tPo 2 w' s' ((l.map (·.1)).map rQ) ∧ Ext w w' := by
  obtain ⟨st, d, r, sl, room, its, h1, rfl, rfl⟩ := h
  refine (Here_spec h1).mono ?_
  rintro e w' ⟨s', rfl, ho, x⟩
  exact ⟨s', rfl, by rw [List.map_map]; exact ho, x⟩
theorem pos_okP {c : Ce} (hc : -1000000000 ≤ c.1 ∧ c.1 ≤ 1000000000) (hz : -1000000000 ≤ c.2.2 ∧ c.2.2 ≤ 1000000000) : okP (pos c) := by
  unfold okP pos
  simp only
  omega
def readyE (l : List En) (c : Ce) : Bool := (besideK (pos c)).all fun q => decide (q ∈ l.map (·.1))
theorem wReady_spec {w0 w : World} {o t : Nat} {seed limit : Int} {l : List En} {ch : List Cg} (h : Ws w0 w o t seed limit l ch) (c : Ce) (hc : okC c) (hp : okP (pos c)) :
    Calls Tryz.prog n_world_World_Ready #[.pointer (some ⟨o, 0, none⟩), cev c] w fun e w' => e = .returned (.bool (readyE l c)) ∧ Ext w w' := by
  obtain ⟨F, ⟨F1, sc, hT, hR, hO, rfl⟩, -, -⟩ := h
  apply world_World_Ready.vc
  have hlen := hT.len
  intro w1 e1
  have z1 : w1.heap.size = w.heap.size + 1 := by rw [e1]; simp
  have x1 : Ext w w1 := (Ext.rfl' w).of_alloc e1
  clear e1
  refine ⟨_, (hR.ext x1).at 0 rfl, (tfHere_spec (hT.ext x1)).mono ?_⟩
  rintro e w2 ⟨s', rfl, ho, x2⟩
  have z2 := x2.size
  have hrd := ho.rd (show 0 < 2 by decide)
  refine ⟨s', rfl, x2.heap (by omega), (cChunk_spec c hc w2).mono ?_⟩
  rintro e w4 ⟨rfl, x4⟩
  have z4 := x4.size
  refine ⟨_, _, rfl, x4.heap (by omega), (cBeside_spec (pos c) hp w4).mono ?_⟩
  rintro e w7 ⟨rfl, x7⟩
  have z7 := x7.size
  have x17 := x1.tr (x2.tr (x4.tr x7))
  unfold readyE
  generalize pos c = p at *
  have hpl : (l.map (·.1)).length ≤ 1000 := by rw [List.length_map]; omega
  generalize l.map (·.1) = ps at *
  refine ⟨_, _, _, _, _, _, _, _, _, _, rfl, x7.heap (by omega), fun n x w' => ∃ j : Nat, x = j ∧ j + n = 5 ∧ Ext w7 w' ∧ ∀ q ∈ (besideK p).take j, q ∈ ps, ⟨5, rfl, 0, rfl, rfl, Ext.rfl' _, by simp⟩, ?_⟩
  rintro n us x w25 ⟨j, rfl, hj, x25, hall⟩
  have z25 := x25.size
  refine Br.mk (fun hb => ?_) (fun hb => ?_)
  · simp only [decide_eq_true_eq] at hb
    have hex : ∃ q : Po, (([.int .i64 p.1, .int .i64 p.2, .int .i64 (p.1 - 1), .int .i64 p.2, .int .i64 (p.1 + 1), .int .i64 p.2, .int .i64 p.1, .int .i64 (p.2 - 1), .int .i64 p.1, .int .i64 (p.2 + 1)] : List Value).drop (((j : Nat) : Int).toNat * 2)).take 2 = [.int .i64 q.1, .int .i64 q.2] ∧ (besideK p)[j]? = some q := by
      have : j = 0 ∨ j = 1 ∨ j = 2 ∨ j = 3 ∨ j = 4 := by omega
      rcases this with rfl | rfl | rfl | rfl | rfl
      · exact ⟨p, rfl, rfl⟩
      · exact ⟨(p.1 - 1, p.2), rfl, rfl⟩
      · exact ⟨(p.1 + 1, p.2), rfl, rfl⟩
      · exact ⟨(p.1, p.2 - 1), rfl, rfl⟩
      · exact ⟨(p.1, p.2 + 1), rfl, rfl⟩
    obtain ⟨q, hq1, hq2⟩ := hex
    refine ⟨⟨by omega, by omega⟩, q.1, q.2, hq1, fun w29 e29 w30 e30 => ?_⟩
    have x30 : Ext w25 w30 := ((Ext.rfl' _).of_alloc e29).of_setRow e30 (Nat.le_refl _)
    have z30 : w30.heap.size = w25.heap.size + 1 := by rw [e30, setRow_size, e29]; simp
    have xx : Ext w2 w30 := x4.tr (x7.tr (x25.tr x30))
    refine (posContains_spec s' ps q w30 (hrd.ext xx) hpl).mono ?_
    rintro e w31 ⟨rfl, x31⟩
    have wk : IntKind.wrap .i64 ((j : Int) + 1) = ((j + 1 : Nat) : Int) := by rw [wrap_in (by unfold inI; omega)]; omega
    refine ⟨_, rfl, x31.heap (by omega), x31.heap (by omega), Br.mk (fun h1 => ?_) (fun h1 => ?_)⟩
    · refine ⟨?_, x17.tr ((x25.tr x30).tr x31)⟩
      have hnq : q ∉ ps := by simpa using h1
      have : ((besideK p).all fun q => decide (q ∈ ps)) = false := by
        rw [List.all_eq_false]
        exact ⟨q, List.mem_of_getElem? hq2, by simpa using hnq⟩
      rw [this]
    · have hyq : q ∈ ps := by simpa using h1
      refine ⟨n - 1, by omega, rfl, j + 1, wk, by omega, (x25.tr x30).tr x31, ?_⟩
      rw [List.take_add_one, hq2]
      intro y hy
      rcases List.mem_append.1 hy with hy | hy
      · exact hall y hy
      · simp only [Option.toList_some, List.mem_singleton] at hy
        subst hy; exact hyq
  · simp only [decide_eq_false_iff_not] at hb
    refine ⟨?_, x17.tr x25⟩
    rw [List.take_of_length_le (show (besideK p).length ≤ j by unfold besideK; simp; omega)] at hall
    have : ((besideK p).all fun q => decide (q ∈ ps)) = true := by
      rw [List.all_eq_true]
      exact fun q hq => by simpa using hall q hq
    rw [this]
theorem wsTop_spec {w w1 : World} {o t : Nat} {seed limit : Int} {l : List En} {ch : List Cg} (h : Ws w w1 o t seed limit l ch) (x z : Int) (hx : inI x) (hz : inI z) :
    Calls Tryz.prog n_world_World_Top #[.pointer (some ⟨o, 0, none⟩), .int .i64 x, .int .i64 z] w1 fun e w2 => e = .returned (.int .i64 (topN l x z 32)) ∧ Ext w1 w2 := by
  obtain ⟨F, h1, h2, h3⟩ := h
  exact wTop_spec h1 x z hx hz
/-- The cell over a column. -/
def openE (l : List En) (x z : Int) : Ce × Bool := if topN l x z 32 < -1 ∨ topN l x z 32 = 31 then ((0, 0, 0), false) else ((x, topN l x z 32 + 1, z), true)
theorem topN_le (l : List En) (x z : Int) : ∀ n : Nat, -2 ≤ topN l x z n ∧ topN l x z n < n
  | 0 => by unfold topN; omega
  | n + 1 => by
    have := topN_le l x z n
    unfold topN
    split
    · omega
    · split
      · omega
      · omega
theorem wsOpen_spec {w w1 : World} {o t : Nat} {seed limit : Int} {l : List En} {ch : List Cg} (h : Ws w w1 o t seed limit l ch) (x z : Int) (hx : inI x) (hz : inI z) :
    Calls Tryz.prog n_world_World_Open #[.pointer (some ⟨o, 0, none⟩), .int .i64 x, .int .i64 z] w1 fun e w2 => e = .returned (.tuple #[cev (openE l x z).1, .bool (openE l x z).2]) ∧ Ext w1 w2 := by
  apply world_World_Open.vc
  intro w0 e0
  have z0 : w0.heap.size = w1.heap.size + 1 := by rw [e0]; simp
  have x0 : Ext w1 w0 := (Ext.rfl' w1).of_alloc e0
  clear e0
  have hb := topN_le l x z 32
  refine (wsTop_spec (h.ext x0) x z hx hz).mono ?_
  rintro e w2 ⟨rfl, x2⟩
  have x02 := x0.tr x2
  refine ⟨_, rfl, x2.heap (by omega), ?_⟩
  unfold openE
  generalize topN l x z 32 = y at hb ⊢
  refine Br.mk (fun c1 => ?_) (fun c1 => Br.mk (fun c2 => ?_) (fun c2 => ?_))
  · simp only [decide_eq_true_eq] at c1
    rw [if_pos (.inl c1)]
    exact fun w3 e3 => ⟨rfl, x02.of_setRow e3 (Nat.le_refl _)⟩
  · simp only [beq_iff_eq] at c2
    rw [if_pos (.inr c2)]
    exact fun w3 e3 => ⟨rfl, x02.of_setRow e3 (Nat.le_refl _)⟩
  · simp only [decide_eq_false_iff_not] at c1
    simp only [beq_eq_false_iff_ne] at c2
    rw [if_neg (fun h => h.elim c1 c2)]
    have wr : IntKind.wrap .i64 (y + 1) = y + 1 := wrap_in (by unfold inI; omega)
    rw [wr]
    exact fun w3 e3 => ⟨rfl, x02.of_setRow e3 (Nat.le_refl _)⟩
/-- Where the column is here. -/
theorem topN_here {l : List En} {x z : Int} (hh : ∀ y : Nat, y < 32 → atE l (x, (y : Int), z) ≠ -1) : ∀ n : Nat, n ≤ 32 → -1 ≤ topN l x z n ∧ ∀ y : Nat, topN l x z n < (y : Int) → y < n → atE l (x, (y : Int), z) = 0
  | 0, _ => ⟨by unfold topN; omega, fun y _ h => by omega⟩
  | n + 1, hn => by
    obtain ⟨h1, h2⟩ := topN_here hh n (by omega)
    have h3 := hh n (by omega)
    unfold topN
    rw [if_neg h3]
    by_cases h0 : atE l (x, (n : Int), z) = 0
    · rw [if_pos h0]
      refine ⟨h1, fun y hy hyn => ?_⟩
      by_cases e : y = n
      · subst e; exact h0
      · exact h2 y hy (by omega)
    · rw [if_neg h0]
      exact ⟨by omega, fun y hy hyn => by omega⟩
end Go.Proofs.YtbnmglonbhdcbaaGreatDoor
