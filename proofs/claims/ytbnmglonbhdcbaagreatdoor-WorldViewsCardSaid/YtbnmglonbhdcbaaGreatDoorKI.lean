import Derived.Test.YtbnmglonbhdcbaaGreatDoorKE
set_option linter.all false
namespace Go.Proofs.YtbnmglonbhdcbaaGreatDoor
open Go Go.Vc Go.RowKit Go.Proofs Go.Chk Go.Runs Go.Code

abbrev rQ (q : Po) : List Value := [.int .i64 q.1, .int .i64 q.2]
/-- A chunk, and the four beside it. -/
def besideK (p : Po) : List Po := [p, (p.1 - 1, p.2), (p.1 + 1, p.2), (p.1, p.2 - 1), (p.1, p.2 + 1)]
theorem cBeside_spec (p : Po) (hp : okP p) (w : World) : Calls Tryz.prog n_cell_Beside #[pv p] w fun e w' => e = .returned (.agg #[.int .i64 p.1, .int .i64 p.2, .int .i64 (p.1 - 1), .int .i64 p.2, .int .i64 (p.1 + 1), .int .i64 p.2, .int .i64 p.1, .int .i64 (p.2 - 1), .int .i64 p.1, .int .i64 (p.2 + 1)]) ∧ Ext w w' := by
  apply cell_Beside.vc
  obtain ⟨⟨p1, p2⟩, p3, p4⟩ := hp
  have q1 : IntKind.wrap .i64 (p.1 - 1) = p.1 - 1 := wrap_in (by unfold inI; omega)
  have q2 : IntKind.wrap .i64 (p.1 + 1) = p.1 + 1 := wrap_in (by unfold inI; omega)
  have q3 : IntKind.wrap .i64 (p.2 - 1) = p.2 - 1 := wrap_in (by unfold inI; omega)
  have q4 : IntKind.wrap .i64 (p.2 + 1) = p.2 + 1 := wrap_in (by unfold inI; omega)
  unfold cell_Beside.pre
  rw [q1, q2, q3, q4]
  intro w0 e0 w1 e1
  have z0 : w0.heap.size = w.heap.size + 1 := by rw [e0]; simp
  have x1 : Ext w w1 := ((Ext.rfl' w).of_alloc e0).of_alloc e1
  have hr : Row w1 w0.heap.size [.int .i64 0, .int .i64 0, .int .i64 0, .int .i64 0, .int .i64 0, .int .i64 0, .int .i64 0, .int .i64 0, .int .i64 0, .int .i64 0] 133 := by rw [e1]; exact Row.new w0 [_, _, _, _, _, _, _, _, _, _] _
  refine ⟨⟨rfl, hr.wr (by simp)⟩, fun e => by
    have : w0.heap.size = w.heap.size := by simpa [pblk] using e
    omega, fun w2 e2 => ?_⟩
  have h1 : One [Value.int .i64 p.1, .int .i64 p.2, .int .i64 (p.1 - 1), .int .i64 p.2, .int .i64 (p.1 + 1), .int .i64 p.2, .int .i64 p.1, .int .i64 (p.2 - 1), .int .i64 p.1, .int .i64 (p.2 + 1)] := by
    intro v hv
    simp only [List.mem_cons, List.not_mem_nil, or_false] at hv
    rcases hv with rfl | rfl | rfl | rfl | rfl | rfl | rfl | rfl | rfl | rfl <;> rfl
  rw [hr.setP (by simp) h1] at e2
  have hr2 : Row w2 w0.heap.size [.int .i64 p.1, .int .i64 p.2, .int .i64 (p.1 - 1), .int .i64 p.2, .int .i64 (p.1 + 1), .int .i64 p.2, .int .i64 p.1, .int .i64 (p.2 - 1), .int .i64 p.1, .int .i64 (p.2 + 1)] 133 := by rw [e2]; exact hr.set _
  exact ⟨_, _, _, _, _, _, _, _, _, _, hr2.loadL (fun j hj => by rw [Nat.zero_add]), rfl, x1.of_setRow e2 (by omega)⟩
theorem posIndex_spec (s : Sl) (ps : List Po) (p : Po) (w : World) (hs : RdK w s 2 (ps.map rQ)) (hn : ps.length ≤ 1000) :
    Calls Tryz.prog n_slices_Index_Pos #[.slice s.a s.n s.c, pv p] w fun e w' => (∃ r : Int, e = .returned (.int .i64 r) ∧ (0 ≤ r ↔ p ∈ ps)) ∧ Ext w w' := by
  apply slices_Index_Pos.vc
  have hsn := hs.n
  rw [List.length_map] at hsn
  intro w0 e0
  have x0 : Ext w w0 := (Ext.rfl' w).of_alloc e0
  refine ⟨fun n x w' => ∃ j : Nat, x = j ∧ j + n = ps.length ∧ Ext w w' ∧ p ∉ ps.take j, ⟨ps.length, rfl, 0, rfl, by omega, x0, by simp⟩, ?_⟩
  rintro n us x w5 ⟨j, rfl, hj, x5, hnp⟩
  refine Br.mk (fun hb => ?_) (fun hb => ?_)
  · simp only [decide_eq_true_eq] at hb
    obtain ⟨y, hy⟩ := get_lt (l := ps) (i := j) (by omega)
    have hrd := hs.ext (x5.tr (Ext.dr _))
    refine ⟨hs.inB (i := (j : Int)) (by decide) (by omega) hb, y.1, y.2, hrd.loadL (i := j) (r := rQ y) (by rw [List.getElem?_map, hy]; rfl), Br.mk (fun h1 => ?_) (fun h1 => ?_)⟩
    · simp only [Bool.and_eq_true, beq_iff_eq] at h1
      have : p = y := Prod.ext h1.1 h1.2
      exact ⟨⟨_, rfl, fun _ => by rw [this]; exact List.mem_of_getElem? hy, fun _ => by omega⟩, x5.tr (Ext.dr _)⟩
    · have wk : IntKind.wrap .i64 ((j : Int) + 1) = ((j + 1 : Nat) : Int) := by rw [wrap_in (by unfold inI; omega)]; omega
      refine ⟨n - 1, by omega, rfl, j + 1, wk, by omega, x5.tr (Ext.dr _), ?_⟩
      rw [List.take_add_one, hy]
      intro hm
      rcases List.mem_append.1 hm with hm | hm
      · exact hnp hm
      · simp only [Option.toList_some, List.mem_singleton] at hm
        subst hm
        simp at h1
  · simp only [decide_eq_false_iff_not] at hb
    rw [List.take_of_length_le (by omega)] at hnp
    exact ⟨⟨-1, rfl, fun h => by omega, fun h => absurd h hnp⟩, x5⟩
theorem posContains_spec (s : Sl) (ps : List Po) (p : Po) (w : World) (hs : RdK w s 2 (ps.map rQ)) (hn : ps.length ≤ 1000) :
    Calls Tryz.prog n_slices_Contains_Pos #[.slice s.a s.n s.c, pv p] w fun e w' => e = .returned (.bool (decide (p ∈ ps))) ∧ Ext w w' := by
  apply slices_Contains_Pos.vc
  intro w0 e0
  have z0 : w0.heap.size = w.heap.size + 1 := by rw [e0]; simp
  have x0 : Ext w w0 := (Ext.rfl' w).of_alloc e0
  refine (posIndex_spec s ps p w0 (hs.ext x0) hn).mono ?_
  rintro e w1 ⟨⟨r, rfl, hr⟩, x1⟩
  refine ⟨r, rfl, x1.heap (by omega), ?_, x0.tr x1⟩
  have : decide (r ≥ 0) = decide (p ∈ ps) := by rw [decide_eq_decide]; exact hr
  rw [this]
theorem tfHere_spec {F : Nat → Prop} {w : World} {t : Nat} {seed limit : Int} {l : List En} (h : TF F w t seed limit l) : Calls Tryz.prog n_table_Table_Here #[.pointer (some ⟨t, 0, none⟩)] w fun e w' => ∃ s' : Sl, e = .returned (.slice s'.a s'.n s'.c) ∧ OwnK w.heap.size tPo 2 w' s' ((l.map (·.1)).map rQ) ∧ Ext w w' := by
  obtain ⟨st, d, r, sl, room, its, h1, rfl, rfl⟩ := h
  refine (Here_spec h1).mono ?_
  rintro e w' ⟨s', rfl, ho, x⟩
  exact ⟨s', rfl, by rw [List.map_map]; exact ho, x⟩
theorem pos_okP {c : Ce} (hc : -1000000000 ≤ c.1 ∧ c.1 ≤ 1000000000) (hz : -1000000000 ≤ c.2.2 ∧ c.2.2 ≤ 1000000000) : okP (pos c) := by
  unfold okP pos
  simp only
  omega
def readyE (l : List En) (c : Ce) : Bool := (besideK (pos c)).all fun q => decide (q ∈ l.map (·.1))
theorem wReady_spec {w0 w : World} {o t : Nat} {seed limit : Int} {l : List En} {ch : List Cg} (h : Ws w0 w o t seed limit l ch) (c : Ce) (hc : okC c) (hp : okP (pos c)) :
    Calls Tryz.prog n_world_World_Ready #[.pointer (some ⟨o, 0, none⟩), cev c] w fun e w' => e = .returned (.bool (readyE l c)) ∧ Ext w w' := by
  obtain ⟨F, ⟨F1, sc, hT, hR, hO, rfl⟩, -, -⟩ := h
  apply world_World_Ready.vc
  have hlen := hT.len
  intro w1 e1
  have z1 : w1.heap.size = w.heap.size + 1 := by rw [e1]; simp
  have x1 : Ext w w1 := (Ext.rfl' w).of_alloc e1
  clear e1
  refine ⟨_, (hR.ext x1).at 0 rfl, (tfHere_spec (hT.ext x1)).mono ?_⟩
  rintro e w2 ⟨s', rfl, ho, x2⟩
  have z2 := x2.size
  have hrd := ho.rd (show 0 < 2 by decide)
  refine ⟨s', rfl, x2.heap (by omega), (cChunk_spec c hc w2).mono ?_⟩
  rintro e w4 ⟨rfl, x4⟩
  have z4 := x4.size
  refine ⟨_, _, rfl, x4.heap (by omega), (cBeside_spec (pos c) hp w4).mono ?_⟩
  rintro e w7 ⟨rfl, x7⟩
  have z7 := x7.size
  have x17 := x1.tr (x2.tr (x4.tr x7))
  unfold readyE
  generalize pos c = p at *
  have hpl : (l.map (·.1)).length ≤ 1000 := by rw [List.length_map]; omega
  generalize l.map (·.1) = ps at *
  refine ⟨_, _, _, _, _, _, _, _, _, _, rfl, x7.heap (by omega), fun n x w' => ∃ j : Nat, x = j ∧ j + n = 5 ∧ Ext w7 w' ∧ ∀ q ∈ (besideK p).take j, q ∈ ps, ⟨5, rfl, 0, rfl, rfl, Ext.rfl' _, by simp⟩, ?_⟩
  rintro n us x w25 ⟨j, rfl, hj, x25, hall⟩
  have z25 := x25.size
  refine Br.mk (fun hb => ?_) (fun hb => ?_)
  · simp only [decide_eq_true_eq] at hb
    have hex : ∃ q : Po, (([.int .i64 p.1, .int .i64 p.2, .int .i64 (p.1 - 1), .int .i64 p.2, .int .i64 (p.1 + 1), .int .i64 p.2, .int .i64 p.1, .int .i64 (p.2 - 1), .int .i64 p.1, .int .i64 (p.2 + 1)] : List Value).drop (((j : Nat) : Int).toNat * 2)).take 2 = [.int .i64 q.1, .int .i64 q.2] ∧ (besideK p)[j]? = some q := by
      have : j = 0 ∨ j = 1 ∨ j = 2 ∨ j = 3 ∨ j = 4 := by omega
      rcases this with rfl | rfl | rfl | rfl | rfl
      · exact ⟨p, rfl, rfl⟩
      · exact ⟨(p.1 - 1, p.2), rfl, rfl⟩
      · exact ⟨(p.1 + 1, p.2), rfl, rfl⟩
      · exact ⟨(p.1, p.2 - 1), rfl, rfl⟩
      · exact ⟨(p.1, p.2 + 1), rfl, rfl⟩
    obtain ⟨q, hq1, hq2⟩ := hex
    refine ⟨⟨by omega, by omega⟩, q.1, q.2, hq1, fun w29 e29 w30 e30 => ?_⟩
    have x30 : Ext w25 w30 := ((Ext.rfl' _).of_alloc e29).of_setRow e30 (Nat.le_refl _)
    have z30 : w30.heap.size = w25.heap.size + 1 := by rw [e30, setRow_size, e29]; simp
    have xx : Ext w2 w30 := x4.tr (x7.tr (x25.tr x30))
    refine (posContains_spec s' ps q w30 (hrd.ext xx) hpl).mono ?_
    rintro e w31 ⟨rfl, x31⟩
    have wk : IntKind.wrap .i64 ((j : Int) + 1) = ((j + 1 : Nat) : Int) := by rw [wrap_in (by unfold inI; omega)]; omega
    refine ⟨_, rfl, x31.heap (by omega), x31.heap (by omega), Br.mk (fun h1 => ?_) (fun h1 => ?_)⟩
    · refine ⟨?_, x17.tr ((x25.tr x30).tr x31)⟩
      have hnq : q ∉ ps := by simpa using h1
      have : ((besideK p).all fun q => decide (q ∈ ps)) = false := by
        rw [List.all_eq_false]
        exact ⟨q, List.mem_of_getElem? hq2, by simpa using hnq⟩
      rw [this]
    · have hyq : q ∈ ps := by simpa using h1
      refine ⟨n - 1, by omega, rfl, j + 1, wk, by omega, (x25.tr x30).tr x31, ?_⟩
      rw [List.take_add_one, hq2]
      intro y hy
      rcases List.mem_append.1 hy with hy | hy
      · exact hall y hy
      · simp only [Option.toList_some, List.mem_singleton] at hy
        subst hy; exact hyq
  · simp only [decide_eq_false_iff_not] at hb
    refine ⟨?_, x17.tr x25⟩
    rw [List.take_of_length_le (show (besideK p).length ≤ j by unfold besideK; simp; omega)] at hall
    have : ((besideK p).all fun q => decide (q ∈ ps)) = true := by
      rw [List.all_eq_true]
      exact fun q hq => by simpa using hall q hq
    rw [this]
theorem wsTop_spec {w w1 : World} {o t : Nat} {seed limit : Int} {l : List En} {ch : List Cg} (h : Ws w w1 o t seed limit l ch) (x z : Int) (hx : inI x) (hz : inI z) :
    Calls Tryz.prog n_world_World_Top #[.pointer (some ⟨o, 0, none⟩), .int .i64 x, .int .i64 z] w1 fun e w2 => e = .returned (.int .i64 (topN l x z 32)) ∧ Ext w1 w2 := by
  obtain ⟨F, h1, h2, h3⟩ := h
  exact wTop_spec h1 x z hx hz
/-- The cell over a column. -/
def openE (l : List En) (x z : Int) : Ce × Bool := if topN l x z 32 < -1 ∨ topN l x z 32 = 31 then ((0, 0, 0), false) else ((x, topN l x z 32 + 1, z), true)
theorem topN_le (l : List En) (x z : Int) : ∀ n : Nat, -2 ≤ topN l x z n ∧ topN l x z n < n
  | 0 => by unfold topN; omega
  | n + 1 => by
    have := topN_le l x z n
    unfold topN
    split
    · omega
    · split
      · omega
      · omega
theorem wsOpen_spec {w w1 : World} {o t : Nat} {seed limit : Int} {l : List En} {ch : List Cg} (h : Ws w w1 o t seed limit l ch) (x z : Int) (hx : inI x) (hz : inI z) :
    Calls Tryz.prog n_world_World_Open #[.pointer (some ⟨o, 0, none⟩), .int .i64 x, .int .i64 z] w1 fun e w2 => e = .returned (.tuple #[cev (openE l x z).1, .bool (openE l x z).2]) ∧ Ext w1 w2 := by
  apply world_World_Open.vc
  intro w0 e0
  have z0 : w0.heap.size = w1.heap.size + 1 := by rw [e0]; simp
  have x0 : Ext w1 w0 := (Ext.rfl' w1).of_alloc e0
  clear e0
  have hb := topN_le l x z 32
  refine (wsTop_spec (h.ext x0) x z hx hz).mono ?_
  rintro e w2 ⟨rfl, x2⟩
  have x02 := x0.tr x2
  refine ⟨_, rfl, x2.heap (by omega), ?_⟩
  unfold openE
  generalize topN l x z 32 = y at hb ⊢
  refine Br.mk (fun c1 => ?_) (fun c1 => Br.mk (fun c2 => ?_) (fun c2 => ?_))
  · simp only [decide_eq_true_eq] at c1
    rw [if_pos (.inl c1)]
    exact fun w3 e3 => ⟨rfl, x02.of_setRow e3 (Nat.le_refl _)⟩
  · simp only [beq_iff_eq] at c2
    rw [if_pos (.inr c2)]
    exact fun w3 e3 => ⟨rfl, x02.of_setRow e3 (Nat.le_refl _)⟩
  · simp only [decide_eq_false_iff_not] at c1
    simp only [beq_eq_false_iff_ne] at c2
    rw [if_neg (fun h => h.elim c1 c2)]
    have wr : IntKind.wrap .i64 (y + 1) = y + 1 := wrap_in (by unfold inI; omega)
    rw [wr]
    exact fun w3 e3 => ⟨rfl, x02.of_setRow e3 (Nat.le_refl _)⟩
/-- Where the column is here. -/
theorem topN_here {l : List En} {x z : Int} (hh : ∀ y : Nat, y < 32 → atE l (x, (y : Int), z) ≠ -1) : ∀ n : Nat, n ≤ 32 → -1 ≤ topN l x z n ∧ ∀ y : Nat, topN l x z n < (y : Int) → y < n → atE l (x, (y : Int), z) = 0
  | 0, _ => ⟨by unfold topN; omega, fun y _ h => by omega⟩
  | n + 1, hn => by
    obtain ⟨h1, h2⟩ := topN_here hh n (by omega)
    have h3 := hh n (by omega)
    unfold topN
    rw [if_neg h3]
    by_cases h0 : atE l (x, (n : Int), z) = 0
    · rw [if_pos h0]
      refine ⟨h1, fun y hy hyn => ?_⟩
      by_cases e : y = n
      · subst e; exact h0
      · exact h2 y hy (by omega)
    · rw [if_neg h0]
      exact ⟨by omega, fun y hy hyn => by omega⟩
end Go.Proofs.YtbnmglonbhdcbaaGreatDoor
namespace Go.Proofs.YtbnmglonbhdcbaaGreatDoor
open Go Go.Vc Go.RowKit Go.Proofs Go.Chk Go.Runs Go.Code

theorem lt_mul {a b i n : Nat} (h : i < n) (ha : a < b) : a * n + i < b * n := by
  have := Nat.mul_le_mul_right n (show a + 1 ≤ b from ha)
  rw [Nat.add_mul, Nat.one_mul] at this
  omega
theorem md_mul {a i n : Nat} (h : i < n) : (a * n + i) % n = i ∧ (a * n + i) / n = a := by
  constructor
  · rw [Nat.mul_add_mod', Nat.mod_eq_of_lt h]
  · rw [Nat.add_comm, Nat.add_mul_div_right _ _ (by omega), Nat.div_eq_of_lt h, Nat.zero_add]
/-- How many from one to the other. -/
def spanK (a b : Int) : Nat := (b - a + 1).toNat
/-- The cells of a box, in the row in which they are handed on. -/
def boxL (a b : Ce) : List Ce := (List.range (spanK a.2.1 b.2.1 * spanK a.2.2 b.2.2 * spanK a.1 b.1)).map fun k : Nat =>
  (a.1 + ((k % spanK a.1 b.1 : Nat) : Int), a.2.1 + ((k / spanK a.1 b.1 / spanK a.2.2 b.2.2 : Nat) : Int), a.2.2 + ((k / spanK a.1 b.1 % spanK a.2.2 b.2.2 : Nat) : Int))
def boxX (a b : Ce) : List (List Value) := (boxL a b).map fun c => [cev c]
theorem boxX_at (a b : Ce) {jy jz jx : Nat} (hy : jy < spanK a.2.1 b.2.1) (hz : jz < spanK a.2.2 b.2.2) (hx : jx < spanK a.1 b.1) :
    (boxX a b)[(jy * spanK a.2.2 b.2.2 + jz) * spanK a.1 b.1 + jx]? = some [cev (a.1 + (jx : Int), a.2.1 + (jy : Int), a.2.2 + (jz : Int))] := by
  unfold boxX boxL
  rw [List.getElem?_map, List.getElem?_map, List.getElem?_range (lt_mul hx (lt_mul hz hy))]
  obtain ⟨h1, h2⟩ := md_mul (a := jy * spanK a.2.2 b.2.2 + jz) hx
  obtain ⟨h3, h4⟩ := md_mul (a := jy) hz
  simp only [Option.map_some, h1, h2, h3, h4]
theorem boxX_len (a b : Ce) : (boxX a b).length = spanK a.2.1 b.2.1 * spanK a.2.2 b.2.2 * spanK a.1 b.1 := by unfold boxX boxL; simp
abbrev boxRd (ba bb : Nat) : Nat → Prop := fun i => i = ba ∨ i = bb
abbrev boxFn (ba bb : Nat) : Value := .func (.func 101) #[] #[.pointer (some ⟨ba, 0, none⟩), .pointer (some ⟨bb, 0, none⟩)]
def smallC (c : Ce) : Prop := (-1000 ≤ c.1 ∧ c.1 ≤ 1000) ∧ (-1000 ≤ c.2.1 ∧ c.2.1 ≤ 1000) ∧ -1000 ≤ c.2.2 ∧ c.2.2 ≤ 1000
set_option maxRecDepth 100000 in
theorem box_iter (a b : Ce) (ha : smallC a) (hb : smallC b) (ba bb : Nat) (W0 : World) (hba : Row W0 ba (cR a) tCe) (hbb : Row W0 bb (cR b) tCe) :
    Iter Tryz.prog (boxFn ba bb) W0 (boxRd ba bb) (boxX a b) := by
  obtain ⟨⟨a1, a2⟩, ⟨a3, a4⟩, a5, a6⟩ := ha
  obtain ⟨⟨b1, b2⟩, ⟨b3, b4⟩, b5, b6⟩ := hb
  refine ⟨⟨_, _, _, rfl, by kernel_rfl⟩, ?_⟩
  intro y B J Jx F0 W hB hsJ hsX hbd hRd hround h0
  refine callV_of (by kernel_rfl) (by rfl) ?_
  apply world_box_1.vc
  have hat := @boxX_at a b
  have hlen := boxX_len a b
  have hny : ∀ j : Nat, a.2.1 + (j : Int) ≤ b.2.1 ↔ j < spanK a.2.1 b.2.1 := fun j => by unfold spanK; omega
  have hnz : ∀ j : Nat, a.2.2 + (j : Int) ≤ b.2.2 ↔ j < spanK a.2.2 b.2.2 := fun j => by unfold spanK; omega
  have hnx : ∀ j : Nat, a.1 + (j : Int) ≤ b.1 ↔ j < spanK a.1 b.1 := fun j => by unfold spanK; omega
  have hmy : spanK a.2.1 b.2.1 ≤ 3000 := by unfold spanK; omega
  have hmz : spanK a.2.2 b.2.2 ≤ 3000 := by unfold spanK; omega
  have hmx : spanK a.1 b.1 ≤ 3000 := by unfold spanK; omega
  generalize spanK a.2.1 b.2.1 = ny at *
  generalize spanK a.2.2 b.2.2 = nz at *
  generalize spanK a.1 b.1 = nx at *
  generalize boxX a b = xs at *
  obtain ⟨Q, hQ⟩ : ∃ Q : Nat → World → Prop, Q = fun k wr => ∃ F, J k F wr ∧ ∀ i, boxRd ba bb i → ¬ F i ∧ i < wr.heap.size ∧ wr.heap[i]? = W0.heap[i]? := ⟨_, rfl⟩
  have rows : ∀ {k : Nat} {wr : World}, Q k wr → Row wr ba (cR a) tCe ∧ Row wr bb (cR b) tCe := fun {k wr} h => by
    rw [hQ] at h
    obtain ⟨F, -, h2⟩ := h
    exact ⟨hba.same (h2 ba (.inl rfl)).2.2, hbb.same (h2 bb (.inr rfl)).2.2⟩
  have init : Q 0 W := by rw [hQ]; exact ⟨F0, h0, hRd⟩
  have round : ∀ {k : Nat} {wr : World} {x : List Value}, xs[k]? = some x → Q k wr → callV Tryz.prog y x wr fun e w' => (e = .returned (.bool true) ∧ Q (k + 1) w') ∨ (e = .returned (.bool false) ∧ ∃ F', Jx () F' w') := fun {k wr x} hx h => by
    rw [hQ] at h ⊢
    obtain ⟨F, hJ, h2⟩ := h
    refine callV_mono (hround _ _ _ _ hx hJ) ?_
    rintro e w' (⟨rfl, F2, hJ2, hst⟩ | ⟨rfl, F2, hJ2, hst⟩)
    · refine .inl ⟨rfl, F2, hJ2, fun i hi => ?_⟩
      obtain ⟨q1, q2, q3⟩ := h2 i hi
      refine ⟨fun hf => ?_, Nat.lt_of_lt_of_le q2 hst.size, (hst.same i q2 q1).trans q3⟩
      rcases hst.sub i hf with hf | hf
      · exact q1 hf
      · omega
    · exact .inr ⟨rfl, F2, hJ2⟩
  have fin : ∀ {wr : World}, Q xs.length wr → ∃ F', J xs.length F' wr := fun h => by
    rw [hQ] at h
    obtain ⟨F, hJ, -⟩ := h
    exact ⟨F, hJ⟩
  clear hQ hround h0 hRd hbd
  refine ⟨a.2.1, (rows init).1.at 1 rfl, fun n v wr => ∃ jy : Nat, v = a.2.1 + jy ∧ jy + n = ny ∧ Q (jy * nz * nx) wr, ⟨ny, 0, by omega, by omega, by rw [Nat.zero_mul, Nat.zero_mul]; exact init⟩, ?_⟩
  rintro n2 us3 v w5 ⟨jy, rfl, hjy, hq⟩
  refine ⟨b.2.1, (rows hq).2.at 1 rfl, Br.mk (fun hc => ?_) (fun hc => ?_)⟩
  · simp only [decide_eq_true_eq] at hc
    have ly := (hny jy).1 hc
    refine ⟨a.2.2, (rows hq).1.at 2 rfl, fun n v wr => ∃ jz : Nat, v = a.2.2 + jz ∧ jz + n = nz ∧ Q ((jy * nz + jz) * nx) wr, ⟨nz, 0, by omega, by omega, by rw [Nat.add_zero]; exact hq⟩, ?_⟩
    clear hq
    rintro n10 us11 v w13 ⟨jz, rfl, hjz, hq⟩
    refine ⟨b.2.2, (rows hq).2.at 2 rfl, Br.mk (fun hc2 => ?_) (fun hc2 => ?_)⟩
    · simp only [decide_eq_true_eq] at hc2
      have lz := (hnz jz).1 hc2
      refine ⟨a.1, (rows hq).1.at 0 rfl, fun n v wr => ∃ jx : Nat, v = a.1 + jx ∧ jx + n = nx ∧ Q ((jy * nz + jz) * nx + jx) wr, ⟨nx, 0, by omega, by omega, by rw [Nat.add_zero]; exact hq⟩, ?_⟩
      clear hq
      rintro n18 us19 v w21 ⟨jx, rfl, hjx, hq⟩
      refine ⟨b.1, (rows hq).2.at 0 rfl, Br.mk (fun hc3 => ?_) (fun hc3 => ?_)⟩
      · simp only [decide_eq_true_eq] at hc3
        have lx := (hnx jx).1 hc3
        refine callV_mono (round (hat ly lz lx) hq) ?_
        have wk : IntKind.wrap .i64 (a.1 + (jx : Int) + 1) = a.1 + ((jx + 1 : Nat) : Int) := by rw [wrap_in (by unfold inI; omega)]; omega
        rintro e w24 (⟨rfl, hq2⟩ | ⟨rfl, hx2⟩)
        · exact ⟨true, rfl, Br.mk (fun h => by cases h) (fun _ => ⟨n18 - 1, by omega, jx + 1, wk, by omega, hq2⟩)⟩
        · exact ⟨false, rfl, Br.mk (fun _ => ⟨⟨_, rfl⟩, .inr hx2⟩) (fun h => by cases h)⟩
      · simp only [decide_eq_false_iff_not] at hc3
        have e : jx = nx := by have := mt (hnx jx).2 hc3; omega
        subst e
        have wk : IntKind.wrap .i64 (a.2.2 + (jz : Int) + 1) = a.2.2 + ((jz + 1 : Nat) : Int) := by rw [wrap_in (by unfold inI; omega)]; omega
        refine ⟨n10 - 1, by omega, jz + 1, wk, by omega, ?_⟩
        have : (jy * nz + (jz + 1)) * jx = (jy * nz + jz) * jx + jx := by rw [← Nat.add_assoc, Nat.add_mul _ 1, Nat.one_mul]
        rw [this]; exact hq
    · simp only [decide_eq_false_iff_not] at hc2
      have e : jz = nz := by have := mt (hnz jz).2 hc2; omega
      subst e
      have wk : IntKind.wrap .i64 (a.2.1 + (jy : Int) + 1) = a.2.1 + ((jy + 1 : Nat) : Int) := by rw [wrap_in (by unfold inI; omega)]; omega
      refine ⟨n2 - 1, by omega, jy + 1, wk, by omega, ?_⟩
      rw [Nat.add_mul jy 1, Nat.one_mul]; exact hq
  · simp only [decide_eq_false_iff_not] at hc
    have e : jy = ny := by have := mt (hny jy).2 hc; omega
    subst e
    rw [← hlen] at hq
    exact ⟨⟨_, rfl⟩, .inl (fin hq)⟩
theorem box_spec (a b : Ce) (w : World) : Calls Tryz.prog n_world_box #[cev a, cev b] w fun e w' => e = .returned (boxFn w.heap.size (w.heap.size + 1)) ∧ Row w' w.heap.size (cR a) tCe ∧ Row w' (w.heap.size + 1) (cR b) tCe ∧ Ext w w' := by
  apply world_box.vc
  intro w0 e0 w1 e1
  have z0 : w0.heap.size = w.heap.size + 1 := by rw [e0]; simp
  have x1 : Ext w0 w1 := (Ext.rfl' _).of_alloc e1
  have hb : Row w0 w.heap.size (cR a) tCe := by rw [e0]; exact Row.new w [_, _, _] _
  refine ⟨by rw [z0], hb.ext x1, ?_, ((Ext.rfl' w).of_alloc e0).tr x1⟩
  rw [← z0, e1]; exact Row.new w0 [_, _, _] _
end Go.Proofs.YtbnmglonbhdcbaaGreatDoor
namespace Go.Proofs.YtbnmglonbhdcbaaGreatDoor
open Go Go.Vc Go.RowKit Go.Proofs Go.Chk Go.Runs Go.Code

theorem boxL_ok {a b c : Ce} (ha : smallC a) (hb : smallC b) (hc : c ∈ boxL a b) : okC c := by
  obtain ⟨⟨a1, a2⟩, ⟨a3, a4⟩, a5, a6⟩ := ha
  obtain ⟨⟨b1, b2⟩, ⟨b3, b4⟩, b5, b6⟩ := hb
  unfold boxL at hc
  obtain ⟨k, hk, rfl⟩ := List.mem_map.1 hc
  have hk := List.mem_range.1 hk
  have hmy : spanK a.2.1 b.2.1 ≤ 3000 := by unfold spanK; omega
  have hmz : spanK a.2.2 b.2.2 ≤ 3000 := by unfold spanK; omega
  have hmx : spanK a.1 b.1 ≤ 3000 := by unfold spanK; omega
  generalize spanK a.2.1 b.2.1 = ny at *
  generalize spanK a.2.2 b.2.2 = nz at *
  generalize spanK a.1 b.1 = nx at *
  have h1 : ny * nz * nx ≤ 3000 * 3000 * 3000 := Nat.mul_le_mul (Nat.mul_le_mul hmy hmz) hmx
  have h2 := Nat.mod_le k nx
  have h3 := Nat.div_le_self k nx
  have h4 := Nat.div_le_self (k / nx) nz
  have h5 := Nat.mod_le (k / nx) nz
  unfold okC inI
  generalize k % nx = u1 at *
  generalize k / nx / nz = u2 at *
  generalize k / nx % nz = u3 at *
  generalize k / nx = u4 at *
  exact ⟨by simp only; omega, by simp only; omega, by simp only; omega⟩
theorem boxX_inv {a b : Ce} {n : Nat} {x y z : Int} (h : (boxX a b)[n]? = some [.agg #[.int .i64 x, .int .i64 y, .int .i64 z]]) : (boxL a b)[n]? = some (x, y, z) := by
  unfold boxX at h
  rw [List.getElem?_map] at h
  cases hc : (boxL a b)[n]? with
  | none => rw [hc] at h; cases h
  | some c =>
    rw [hc] at h
    obtain ⟨c1, c2, c3⟩ := c
    simp only [Option.map_some, Option.some.injEq, List.cons.injEq, Value.agg.injEq, Array.mk.injEq, Value.int.injEq, true_and, and_true] at h
    obtain ⟨rfl, rfl, rfl⟩ := h
    rfl
theorem boxX_shape (a b : Ce) : ∀ x ∈ boxX a b, ∃ (x1 x2 x3 : Int), x = [.agg #[.int .i64 x1, .int .i64 x2, .int .i64 x3]] := fun x hx => by
  unfold boxX at hx
  obtain ⟨c, -, rfl⟩ := List.mem_map.1 hx
  exact ⟨_, _, _, rfl⟩
def cntK (f : Ce → Int) (k : Int) (l : List Ce) : Nat := l.countP fun c => f c == k
set_option maxRecDepth 100000 in
theorem count_spec (f : Ce → Int) (D : Nat → Prop) (v : Value) (a b : Ce) (k : Int) (W : World) (ha : smallC a) (hb : smallC b) (hv : oneC v = []) (hD : ∀ i, D i → i < W.heap.size)
    (hV : ∀ w, (∀ i, D i → w.heap[i]? = W.heap[i]?) → ∀ c, okC c → callV Tryz.prog v [cev c] w fun e w' => e = .returned (.int .i64 (f c)) ∧ Ext w w') :
    Calls Tryz.prog n_world_View_Count #[v, cev a, cev b, .int .i64 k] W fun e w' => e = .returned (.int .i64 ((cntK f k (boxL a b) : Nat) : Int)) ∧ Ext W w' := by
  apply world_View_Count.vc
  unfold world_View_Count.pre
  rw [hv, AndL_nil]
  intro w0 e0 w1 e1 w2 e2 w3 e3 w4 e4 w5 e5
  have z0 : w0.heap.size = W.heap.size + 1 := by rw [e0]; simp
  have z1 : w1.heap.size = W.heap.size + 2 := by rw [e1]; simp [z0]
  have z2 : w2.heap.size = W.heap.size + 3 := by rw [e2]; simp [z1]
  have z3 : w3.heap.size = W.heap.size + 4 := by rw [e3]; simp [z2]
  have z4 : w4.heap.size = W.heap.size + 5 := by rw [e4]; simp [z3]
  have z5 : w5.heap.size = W.heap.size + 5 := by rw [e5, setRow_size, z4]
  have x3 : Ext W w3 := ((((Ext.rfl' W).of_alloc e0).of_alloc e1).of_alloc e2).of_alloc e3
  have x35 : Ext w3 w5 := ((Ext.rfl' w3).of_alloc e4).of_setRow e5 (Nat.le_refl _)
  have hk3 : Row w3 w2.heap.size [.int .i64 k] 3 := by rw [e3]; exact Row.new w2 [_] _
  clear e0 e1 e2 e3 e4 e5
  have x5 := x3.tr x35
  refine (box_spec a b w5).mono ?_
  rintro e w6 ⟨rfl, hba, hbb, x6⟩
  have l2 := hbb.lt
  have z6 := x6.size
  have hk6 := (hk3.ext x35).ext x6
  have xW6 := x5.tr x6
  have hlb : (boxX a b).length = (boxL a b).length := by unfold boxX; simp
  refine ⟨_, rfl, x6.heap (by omega), x6.heap (by omega), x6.heap (by omega), x6.heap (by omega), x6.heap (by omega), boxX a b, boxRd w5.heap.size (w5.heap.size + 1), fun _ => False,
    fun n F x w' => (∀ i, ¬ F i) ∧ x = ((cntK f k ((boxL a b).take n) : Nat) : Int) ∧ Mod (fun i => i = w3.heap.size ∨ w6.heap.size ≤ i) w6 w', fun _ _ _ _ => False,
    boxX_shape a b, ?_, fun _ _ _ _ _ h => h.elim, fun n F x w' h i hi => (h.1 i hi).elim, fun _ _ _ _ h => h.elim, fun i hi => ?_, fun w34 hbeg => ?_, ?_, ?_, trivial⟩
  · rintro n F x w19 w20 ⟨h1, h2, h3⟩ hbl _
    exact ⟨h1, h2, h3.tr ⟨hbl.os, hbl.tape, hbl.output, hbl.size, fun i hi hn => hbl.block i (Nat.lt_of_not_le hn)⟩ fun i hi => .inl (.inr hi)⟩
  · rcases hi with rfl | rfl
    · exact ⟨by omega, id, by omega, by omega, by omega, by omega, by omega, trivial⟩
    · exact ⟨by omega, id, by omega, by omega, by omega, by omega, by omega, trivial⟩
  · exact ⟨box_iter a b ha hb _ _ w34 (hba.same (hbeg.ext.block _ (by omega))) (hbb.same (hbeg.ext.block _ (by omega))), rfl, rfl, rfl, rfl, fun i h => h, by simp [cntK], Mod.of_ext hbeg.ext⟩
  · rintro n F us x x39 x40 x41 w42 hx hI w44 e44 w45 e45
    have x45 : Ext w42 w45 := ((Ext.rfl' _).of_alloc e44).of_setRow e45 (Nat.le_refl _)
    have z45 : w45.heap.size = w42.heap.size + 1 := by rw [e45, setRow_size, e44]; simp
    have z42 := hI.2.2.size
    clear e44 e45
    refine ⟨x45, fun w43 hrec hI43 => ?_⟩
    obtain ⟨hF, rfl, hM⟩ := hI43
    have zr := hrec.size
    have hc := boxX_inv hx
    have hsame : ∀ i, D i → w43.drew.heap[i]? = W.heap[i]? := fun i hi => by
      have := hD i hi
      exact (hM.same i (by omega) (by omega)).trans (xW6.heap this)
    refine callV_mono (hV w43.drew hsame (x39, x40, x41) (boxL_ok ha hb (List.mem_of_getElem? hc))) ?_
    rintro e w46 ⟨rfl, x46⟩
    have zd : w43.drew.heap.size = w43.heap.size := rfl
    have z46 := x46.size
    have hM46 := hM.trans (Mod.of_ext ((Ext.dr w43).tr x46))
    have hk46 : Row w46 w2.heap.size [.int .i64 k] 3 := hM46.row hk6 (by omega)
    have ht : (boxL a b).take (n + 1) = (boxL a b).take n ++ [(x39, x40, x41)] := by rw [List.take_add_one, hc]; rfl
    have hle : cntK f k ((boxL a b).take n) ≤ (boxL a b).length := Nat.le_trans List.countP_le_length (by rw [List.length_take]; omega)
    have hbl : (boxL a b).length ≤ 3000 * 3000 * 3000 := by
      unfold boxL
      rw [List.length_map, List.length_range]
      obtain ⟨⟨a1, a2⟩, ⟨a3, a4⟩, a5, a6⟩ := ha
      obtain ⟨⟨b1, b2⟩, ⟨b3, b4⟩, b5, b6⟩ := hb
      exact Nat.mul_le_mul (Nat.mul_le_mul (by unfold spanK; omega) (by unfold spanK; omega)) (by unfold spanK; omega)
    refine ⟨_, rfl, x46.heap (by omega), x46.heap (by omega), x46.heap (by omega), x46.heap (by omega), x46.heap (by omega), x46.heap (by omega), hk46.loadL (fun j hj => by rw [Nat.zero_add]), Br.mk (fun h1 => ?_) (fun h1 => ?_)⟩
    · intro w48 e48
      have e48' : ∀ i, i ≠ w3.heap.size → w48.heap[i]? = w46.heap[i]? := fun i hi => by rw [e48]; exact setRow_other _ _ _ _ hi
      have z48 : w48.heap.size = w46.heap.size := by rw [e48, setRow_size]
      have m48 : Mod (fun i => i = w3.heap.size) w46 w48 := ⟨by rw [e48]; rfl, by rw [e48]; rfl, by rw [e48]; rfl, by omega, fun i _ hn => e48' i hn⟩
      have wk : IntKind.wrap .i64 (((cntK f k ((boxL a b).take n) : Nat) : Int) + 1) = ((cntK f k ((boxL a b).take (n + 1)) : Nat) : Int) := by
        rw [wrap_in (by unfold inI; omega), ht]
        unfold cntK
        rw [List.countP_append, List.countP_cons, List.countP_nil, if_pos h1]
        omega
      refine ⟨F, ⟨rfl, rfl, rfl, rfl, hF, wk, hM46.tr m48 fun i hi => .inl (.inl hi)⟩, ⟨fun i hi => .inl hi, by omega, fun i hi hn => ?_⟩⟩
      rw [e48' i fun e => hn (.inr (by simp [e]))]
      exact x46.heap hi
    · refine ⟨F, ⟨rfl, rfl, rfl, rfl, hF, ?_, hM46⟩, ⟨fun i hi => .inl hi, by omega, fun i hi hn => x46.heap hi⟩⟩
      rw [ht]
      unfold cntK
      rw [List.countP_append, List.countP_cons, List.countP_nil, if_neg (by rw [h1]; decide)]
      omega
  · rintro F us x w54 ⟨hF, hx, hM⟩ hdef
    rw [hlb, List.take_of_length_le (Nat.le_refl _)] at hx
    subst hx
    have hxx : Ext W w54 := hM.ext xW6 fun i hi => by omega
    exact ⟨hdef, fun w55 hr => ⟨rfl, hxx.trans (hr.below (by omega))⟩⟩
end Go.Proofs.YtbnmglonbhdcbaaGreatDoor
namespace Go.Proofs.YtbnmglonbhdcbaaGreatDoor
open Go Go.Vc Go.RowKit Go.Proofs Go.Chk Go.Runs Go.Code

/-- The block of a small world of 216 cells. -/
def gAt (z : List Int) (els : Int) (c : Ce) : Int :=
  if c.2.1 < 0 then 1 else if c.1 ≥ 0 ∧ c.1 < 6 ∧ c.2.1 < 6 ∧ c.2.2 ≥ 0 ∧ c.2.2 < 6 then (z[((c.2.1 * 6 + c.2.2) * 6 + c.1).toNat]?).getD 0 else els
theorem gAt_spec (s : Sl) (z : List Int) (els : Int) (c : Ce) (w : World) (hs : RdK w s 1 (z.map fun n => [.int .i64 n])) :
    Calls Tryz.prog n_ref13_At #[.agg #[.slice s.a s.n s.c, .int .i64 els], cev c] w fun e w' => e = .returned (.int .i64 (gAt z els c)) ∧ Ext w w' := by
  apply ref13_At.vc
  have hsn := hs.n
  rw [List.length_map] at hsn
  intro w0 e0 w1 e1
  have x1 : Ext w w1 := ((Ext.rfl' w).of_alloc e0).of_alloc e1
  clear e0 e1
  unfold gAt
  refine Br.mk (fun h => ?_) (fun h => ?_)
  · simp only [decide_eq_true_eq] at h
    rw [if_pos h]; exact ⟨rfl, x1⟩
  simp only [decide_eq_false_iff_not] at h
  rw [if_neg h]
  refine Br.mk (fun h1 => Br.mk (fun h2 => Br.mk (fun h3 => Br.mk (fun h4 => Br.mk (fun h5 => ?_) (fun h5 => ?_)) (fun h4 => ?_)) (fun h3 => ?_)) (fun h2 => ?_)) (fun h1 => ?_)
  · simp only [decide_eq_true_eq] at h1 h2 h3 h4 h5
    rw [if_pos ⟨h1, h2, h3, h4, h5⟩]
    have q1 : IntKind.wrap .i64 (c.2.1 * 6) = c.2.1 * 6 := wrap_in (by unfold inI; omega)
    have q2 : IntKind.wrap .i64 (c.2.1 * 6 + c.2.2) = c.2.1 * 6 + c.2.2 := wrap_in (by unfold inI; omega)
    have q3 : IntKind.wrap .i64 ((c.2.1 * 6 + c.2.2) * 6) = (c.2.1 * 6 + c.2.2) * 6 := wrap_in (by unfold inI; omega)
    have q4 : IntKind.wrap .i64 ((c.2.1 * 6 + c.2.2) * 6 + c.1) = (c.2.1 * 6 + c.2.2) * 6 + c.1 := wrap_in (by unfold inI; omega)
    rw [q1, q2, q3, q4]
    have h0 : 0 ≤ (c.2.1 * 6 + c.2.2) * 6 + c.1 := by omega
    generalize (c.2.1 * 6 + c.2.2) * 6 + c.1 = i at h0 ⊢
    refine Br.mk (fun h6 => ?_) (fun h6 => ?_)
    · simp only [decide_eq_true_eq] at h6
      obtain ⟨y, hy⟩ := get_lt (l := z) (i := i.toNat) (by omega)
      rw [hy]
      have hr := hs.ext x1
      have hm : (z.map fun n => [Value.int .i64 n])[i.toNat]? = some [.int .i64 y] := by rw [List.getElem?_map, hy]; rfl
      have := hr.at hm (j := 0) rfl
      rw [padd_zero] at this
      exact ⟨hr.inB (by decide) h0 h6, y, this, rfl, x1⟩
    · simp only [decide_eq_false_iff_not] at h6
      rw [List.getElem?_eq_none (by omega)]
      exact ⟨rfl, x1⟩
  all_goals
    rw [if_neg]
    · exact ⟨rfl, x1⟩
    · rintro ⟨g1, g2, g3, g4, g5⟩
      simp_all
abbrev vwFn (b : Nat) : Value := .func (.func 13) #[] #[.pointer (some ⟨b, 0, none⟩)]
abbrev tG : TypeId := 24
theorem vSolid_spec (f : Ce → Int) (v : Value) (c : Ce) (hc : okC c) (W : World)
    (hV : ∀ w, Ext W w → ∀ c, okC c → callV Tryz.prog v [cev c] w fun e w' => e = .returned (.int .i64 (f c)) ∧ Ext w w') :
    Calls Tryz.prog n_world_View_Solid #[v, cev c] W fun e w' => e = .returned (.bool (bSolid (f c))) ∧ Ext W w' := by
  apply world_View_Solid.vc
  intro w0 e0
  have z0 : w0.heap.size = W.heap.size + 1 := by rw [e0]; simp
  have x0 : Ext W w0 := (Ext.rfl' W).of_alloc e0
  refine callV_mono (hV w0 x0 c hc) ?_
  rintro e w1 ⟨rfl, x1⟩
  refine ⟨_, rfl, x1.heap (by omega), (block_Solid_spec (f c) w1).mono ?_⟩
  rintro e w3 ⟨rfl, hw⟩
  subst hw
  exact ⟨_, rfl, rfl, rfl, x0.tr x1⟩
end Go.Proofs.YtbnmglonbhdcbaaGreatDoor
