import Derived.Test.YtkkkfkopcfdmaaaGreatDoorKU
import Derived.Test.YtkkkfkopcfdmaaaGreatDoorGQ
set_option linter.all false
namespace Go.Proofs.YtkkkfkopcfdmaaaGreatDoor
open Go Go.Vc Go.RowKit Go.Proofs Go.Chk Go.Runs Go.Code
abbrev tWorld : TypeId := 133
abbrev tChg : TypeId := 289
abbrev Cg := Ce × Int
abbrev cgv (x : Cg) : List Value := [.int .i64 x.1.1, .int .i64 x.1.2.1, .int .i64 x.1.2.2, .int .i64 x.2]
def WF (F : Nat → Prop) (w : World) (o t : Nat) (seed limit : Int) (T : Tb) (ch : List Cg) : Prop :=
 ∃ F1 sc, TF F1 w t seed limit T ∧ Row w o [.pointer (some ⟨t, 0, none⟩), .slice sc.a sc.n sc.c] tWorld ∧ OwnK 0 tChg 4 w sc (ch.map cgv) ∧ F = fun i => F1 i ∨ i = o ∨ sc.blk = some i
theorem WF.lt {F : Nat → Prop} {w : World} {o t : Nat} {seed limit : Int} {T : Tb} {ch : List Cg} (h : WF F w o t seed limit T ch) {i : Nat} (hi : F i) : i < w.heap.size := by
 obtain ⟨F1, sc, h1, h2, h3, rfl⟩ := h
 rcases hi with hi | rfl | hi
 ·exact h1.lt hi
 ·exact h2.lt
 ·exact (h3.own.lt hi).2
theorem WF.same {F : Nat → Prop} {w w' : World} {o t : Nat} {seed limit : Int} {T : Tb} {ch : List Cg} (h : WF F w o t seed limit T ch) (hs : ∀ i, F i → w'.heap[i]? = w.heap[i]?) : WF F w' o t seed limit T ch := by
 obtain ⟨F1, sc, h1, h2, h3, rfl⟩ := h
 exact ⟨F1, sc, h1.same fun i hi => hs i (.inl hi), h2.same (hs o (.inr (.inl rfl))), OwnK.keep h3 fun b hb => hs b (.inr (.inr hb)), rfl⟩
theorem WF.ext {F : Nat → Prop} {w w' : World} {o t : Nat} {seed limit : Int} {T : Tb} {ch : List Cg} (h : WF F w o t seed limit T ch) (x : Ext w w') : WF F w' o t seed limit T ch := h.same fun _ hi => x.heap (h.lt hi)
theorem WF.keep {F G : Nat → Prop} {w w' : World} {o t : Nat} {seed limit : Int} {T : Tb} {ch : List Cg} (h : WF F w o t seed limit T ch) (hm : Mod G w w') (hn : ∀ i, F i → ¬ G i) : WF F w' o t seed limit T ch := h.same fun i hi => hm.same i (h.lt hi) (hn i hi)
theorem WF.no_row {F : Nat → Prop} {w : World} {o t : Nat} {seed limit : Int} {T : Tb} {ch : List Cg} (h : WF F w o t seed limit T ch) {j : Nat} {cs : List Value} {τ : TypeId} (hr : Row w j cs τ) (hτ : offT τ) (hw : τ ≠ tWorld) (hc : τ ≠ tChg) : ¬ F j := by
 obtain ⟨F1, sc, h1, h2, h3, rfl⟩ := h
 rintro (hi | rfl | hi)
 ·exact h1.no_row hr hτ hi
 ·exact hr.ne h2 hw rfl
 ·obtain ⟨cs', hr'⟩ := own_row h3 (by decide) hi
  exact hr.ne hr' hc rfl
abbrev WRes (F : Nat → Prop) (w : World) (o t : Nat) (seed limit : Int) (T : Tb) (ch : List Cg) (w' : World) : Prop := ∃ F', WF F' w' o t seed limit T ch ∧ Turned F F' w w'
theorem WF.table {F : Nat → Prop} {w : World} {o t : Nat} {seed limit : Int} {T : Tb} {ch : List Cg} (h : WF F w o t seed limit T ch) : ∃ F1, TF F1 w t seed limit T ∧ (∀ i, F1 i → F i) ∧ ∀ {w' : World} {T' : Tb}, TRes F1 w t seed limit T' w' → WRes F w o t seed limit T' ch w' := by
 obtain ⟨F1, sc, h1, h2, h3, rfl⟩ := h
 refine ⟨F1, h1, fun i hi => .inl hi, ?_⟩
 rintro w' T' ⟨F', h', ht⟩
 have n2 := h1.no_row h2 (by decide)
 have n3 : ∀ b, sc.blk = some b → ¬ F1 b := fun b hb => by
  obtain ⟨cs', hr'⟩ := own_row h3 (by decide) hb
  exact h1.no_row hr' (by decide)
 refine ⟨_, ⟨F', sc, h', ht.mod.row h2 n2, ht.mod.ownK h3 n3, rfl⟩, ht.mod.mono fun i _ hi => .inl hi, fun i hi => ?_⟩
 rcases hi with hi | hi | hi
 ·exact (ht.sub i hi).imp .inl id
 ·exact .inl (.inr (.inl hi))
 ·exact .inl (.inr (.inr hi))
theorem wNew_spec (seed limit room : Int) (w : World) : Calls Tryz.prog n_world_New #[.int .i64 seed, .int .i64 limit, .int .i64 room] w fun e w' => ∃ o t F, e = .returned (.pointer (some ⟨o, 0, none⟩)) ∧ WF F w' o t seed (min (max limit 1) 16) (dk0 room, []) [] ∧ Ext w w' ∧ ∀ i, F i → w.heap.size ≤ i := by
 apply world_New.vc
 refine (tfNew_spec seed limit room w).mono ?_
 rintro e w0 ⟨t, F1, rfl, h0, x0, f0⟩
 refine ⟨_, rfl, fun w2 e2 => ⟨w0.heap.size, t, _, rfl, ⟨F1, ⟨none, 0, 0⟩, h0.ext ((Ext.rfl' _).of_alloc e2), ?_, OwnK.nil, rfl⟩, x0.of_alloc e2, fun i hi => ?_⟩⟩
 ·rw [e2]; exact Row.new w0 [_, _] _
 ·rcases hi with hi | hi | hi
  ·exact f0 i hi
  ·have := x0.size; omega
  ·cases hi
theorem wTable_spec {F : Nat → Prop} {w : World} {o t : Nat} {seed limit : Int} {T : Tb} {ch : List Cg} (h : WF F w o t seed limit T ch) : Calls Tryz.prog n_world_World_Table #[.pointer (some ⟨o, 0, none⟩)] w fun e w' => e = .returned (.pointer (some ⟨t, 0, none⟩)) ∧ w' = w := by
 obtain ⟨F1, sc, h1, h2, h3, rfl⟩ := h
 apply world_World_Table.vc
 exact ⟨_, h2.at 0 rfl, rfl, rfl⟩
theorem wView_spec {F : Nat → Prop} {w : World} {o t : Nat} {seed limit : Int} {T : Tb} {ch : List Cg} (h : WF F w o t seed limit T ch) : Calls Tryz.prog n_world_World_View #[.pointer (some ⟨o, 0, none⟩)] w fun e w' => e = .returned (.func (.func n_table_Table_At) #[.pointer (some ⟨t, 0, none⟩)] #[]) ∧ w' = w := by
 obtain ⟨F1, sc, h1, h2, h3, rfl⟩ := h
 apply world_World_View.vc
 exact ⟨_, h2.at 0 rfl, rfl, rfl⟩
abbrev rQ (q : Po) : List Value := [.int .i64 q.1, .int .i64 q.2]
def besideK (p : Po) : List Po := [p, (p.1 - 1, p.2), (p.1 + 1, p.2), (p.1, p.2 - 1), (p.1, p.2 + 1)]
theorem cBeside_spec (p : Po) (hp : okP p) (w : World) : Calls Tryz.prog n_cell_Beside #[pv p] w fun e w' => e = .returned (.agg #[.int .i64 p.1, .int .i64 p.2, .int .i64 (p.1 - 1), .int .i64 p.2, .int .i64 (p.1 + 1), .int .i64 p.2, .int .i64 p.1, .int .i64 (p.2 - 1), .int .i64 p.1, .int .i64 (p.2 + 1)]) ∧ Ext w w' := by
 apply cell_Beside.vc
 obtain ⟨⟨p1, p2⟩, p3, p4⟩ := hp
 have q1 : IntKind.wrap .i64 (p.1 - 1) = p.1 - 1 := wrap_in (by unfold inI; omega)
 have q2 : IntKind.wrap .i64 (p.1 + 1) = p.1 + 1 := wrap_in (by unfold inI; omega)
 have q3 : IntKind.wrap .i64 (p.2 - 1) = p.2 - 1 := wrap_in (by unfold inI; omega)
 have q4 : IntKind.wrap .i64 (p.2 + 1) = p.2 + 1 := wrap_in (by unfold inI; omega)
 unfold cell_Beside.pre
 rw [q1, q2, q3, q4]
 intro w0 e0 w1 e1
 have z0 : w0.heap.size = w.heap.size + 1 := by rw [e0]; simp
 have x1 : Ext w w1 := ((Ext.rfl' w).of_alloc e0).of_alloc e1
 have hr : Row w1 w0.heap.size [.int .i64 0, .int .i64 0, .int .i64 0, .int .i64 0, .int .i64 0, .int .i64 0, .int .i64 0, .int .i64 0, .int .i64 0, .int .i64 0] 227 := by rw [e1]; exact Row.new w0 [_, _, _, _, _, _, _, _, _, _] _
 refine ⟨⟨rfl, hr.wr (by simp)⟩, fun e => by
  have : w0.heap.size = w.heap.size := by simpa [pblk] using e
  omega, fun w2 e2 => ?_⟩
 have h1 : One [Value.int .i64 p.1, .int .i64 p.2, .int .i64 (p.1 - 1), .int .i64 p.2, .int .i64 (p.1 + 1), .int .i64 p.2, .int .i64 p.1, .int .i64 (p.2 - 1), .int .i64 p.1, .int .i64 (p.2 + 1)] := by
  intro v hv
  simp only [List.mem_cons, List.not_mem_nil, or_false] at hv
  rcases hv with rfl | rfl | rfl | rfl | rfl | rfl | rfl | rfl | rfl | rfl <;> rfl
 rw [hr.setP (by simp) h1] at e2
 have hr2 : Row w2 w0.heap.size [.int .i64 p.1, .int .i64 p.2, .int .i64 (p.1 - 1), .int .i64 p.2, .int .i64 (p.1 + 1), .int .i64 p.2, .int .i64 p.1, .int .i64 (p.2 - 1), .int .i64 p.1, .int .i64 (p.2 + 1)] 227 := by rw [e2]; exact hr.set _
 exact ⟨_, _, _, _, _, _, _, _, _, _, hr2.loadL (fun j hj => by rw [Nat.zero_add]), rfl, x1.of_setRow e2 (by omega)⟩
theorem posIndex_spec (s : Sl) (ps : List Po) (p : Po) (w : World) (hs : RdK w s 2 (ps.map rQ)) (hn : ps.length ≤ 1000) :
  Calls Tryz.prog n_slices_Index_Pos #[.slice s.a s.n s.c, pv p] w fun e w' => (∃ r : Int, e = .returned (.int .i64 r) ∧ (0 ≤ r ↔ p ∈ ps)) ∧ Ext w w' := by
 apply slices_Index_Pos.vc
 have hsn := hs.n
 rw [List.length_map] at hsn
 intro w0 e0
 have x0 : Ext w w0 := (Ext.rfl' w).of_alloc e0
 refine ⟨fun n x w' => ∃ j : Nat, x = j ∧ j + n = ps.length ∧ Ext w w' ∧ p ∉ ps.take j, ⟨ps.length, rfl, 0, rfl, by omega, x0, by simp⟩, ?_⟩
 rintro n us x w5 ⟨j, rfl, hj, x5, hnp⟩
 refine Br.mk (fun hb => ?_) (fun hb => ?_)
 ·simp only [decide_eq_true_eq] at hb
  obtain ⟨y, hy⟩ := get_lt (l := ps) (i := j) (by omega)
  have hrd := hs.ext (x5.tr (Ext.dr _))
  refine ⟨hs.inB (i := (j : Int)) (by decide) (by omega) hb, y.1, y.2, hrd.loadL (i := j) (r := rQ y) (by rw [List.getElem?_map, hy]; rfl), Br.mk (fun h1 => ?_) (fun h1 => ?_)⟩
  ·simp only [Bool.and_eq_true, beq_iff_eq] at h1
   have : p = y := Prod.ext h1.1 h1.2
   exact ⟨⟨_, rfl, fun _ => by rw [this]; exact List.mem_of_getElem? hy, fun _ => by omega⟩, x5.tr (Ext.dr _)⟩
  ·have wk : IntKind.wrap .i64 ((j : Int) + 1) = ((j + 1 : Nat) : Int) := by rw [wrap_in (by unfold inI; omega)]; omega
   refine ⟨n - 1, by omega, rfl, j + 1, wk, by omega, x5.tr (Ext.dr _), ?_⟩
   rw [List.take_add_one, hy]
   intro hm
   rcases List.mem_append.1 hm with hm | hm
   ·exact hnp hm
   ·simp only [Option.toList_some, List.mem_singleton] at hm
    subst hm
    simp at h1
 ·simp only [decide_eq_false_iff_not] at hb
  rw [List.take_of_length_le (by omega)] at hnp
  exact ⟨⟨-1, rfl, fun h => by omega, fun h => absurd h hnp⟩, x5⟩
theorem posContains_spec (s : Sl) (ps : List Po) (p : Po) (w : World) (hs : RdK w s 2 (ps.map rQ)) (hn : ps.length ≤ 1000) :
  Calls Tryz.prog n_slices_Contains_Pos #[.slice s.a s.n s.c, pv p] w fun e w' => e = .returned (.bool (decide (p ∈ ps))) ∧ Ext w w' := by
 apply slices_Contains_Pos.vc
 intro w0 e0
 have z0 : w0.heap.size = w.heap.size + 1 := by rw [e0]; simp
 have x0 : Ext w w0 := (Ext.rfl' w).of_alloc e0
 refine (posIndex_spec s ps p w0 (hs.ext x0) hn).mono ?_
 rintro e w1 ⟨⟨r, rfl, hr⟩, x1⟩
 refine ⟨r, rfl, x1.heap (by omega), ?_, x0.tr x1⟩
 have : decide (r ≥ 0) = decide (p ∈ ps) := by rw [decide_eq_decide]; exact hr
 rw [this]
def readyE (l : List En) (c : Ce) : Bool := (besideK (pos c)).all fun q => decide (q ∈ l.map (·.1))
theorem wReady_spec {F : Nat → Prop} {w : World} {o t : Nat} {seed limit : Int} {T : Tb} {ch : List Cg} (h : WF F w o t seed limit T ch) (c : Ce) (hc : okC c) (hp : okP (pos c)) :
  Calls Tryz.prog n_world_World_Ready #[.pointer (some ⟨o, 0, none⟩), cev c] w fun e w' => e = .returned (.bool (readyE T.2 c)) ∧ Ext w w' := by
 obtain ⟨F1, sc, hT, hR, hO, rfl⟩ := h
 apply world_World_Ready.vc
 have hlen := hT.len
 intro w1 e1
 have z1 : w1.heap.size = w.heap.size + 1 := by rw [e1]; simp
 have x1 : Ext w w1 := (Ext.rfl' w).of_alloc e1
 clear e1
 refine ⟨_, (hR.ext x1).at 0 rfl, (tfHere_spec (hT.ext x1)).mono ?_⟩
 rintro e w2 ⟨s', rfl, ho, x2⟩
 have z2 := x2.size
 have hrd : RdK w2 s' 2 ((T.2.map (·.1)).map rQ) := by rw [List.map_map]; exact ho.rd (show 0 < 2 by decide)
 refine ⟨s', rfl, x2.heap (by omega), (cChunk_spec c hc w2).mono ?_⟩
 rintro e w4 ⟨rfl, x4⟩
 have z4 := x4.size
 refine ⟨_, _, rfl, x4.heap (by omega), (cBeside_spec (pos c) hp w4).mono ?_⟩
 rintro e w7 ⟨rfl, x7⟩
 have z7 := x7.size
 have x17 := x1.tr (x2.tr (x4.tr x7))
 unfold readyE
 generalize pos c = p at *
 have hpl : (T.2.map (·.1)).length ≤ 1000 := by rw [List.length_map]; omega
 generalize T.2.map (·.1) = ps at *
 refine ⟨_, _, _, _, _, _, _, _, _, _, rfl, x7.heap (by omega), fun n x w' => ∃ j : Nat, x = j ∧ j + n = 5 ∧ Ext w7 w' ∧ ∀ q ∈ (besideK p).take j, q ∈ ps, ⟨5, rfl, 0, rfl, rfl, Ext.rfl' _, by simp⟩, ?_⟩
 rintro n us x w25 ⟨j, rfl, hj, x25, hall⟩
 have z25 := x25.size
 refine Br.mk (fun hb => ?_) (fun hb => ?_)
 ·simp only [decide_eq_true_eq] at hb
  have hex : ∃ q : Po, (([.int .i64 p.1, .int .i64 p.2, .int .i64 (p.1 - 1), .int .i64 p.2, .int .i64 (p.1 + 1), .int .i64 p.2, .int .i64 p.1, .int .i64 (p.2 - 1), .int .i64 p.1, .int .i64 (p.2 + 1)] : List Value).drop (((j : Nat) : Int).toNat * 2)).take 2 = [.int .i64 q.1, .int .i64 q.2] ∧ (besideK p)[j]? = some q := by
   have : j = 0 ∨ j = 1 ∨ j = 2 ∨ j = 3 ∨ j = 4 := by omega
   rcases this with rfl | rfl | rfl | rfl | rfl
   ·exact ⟨p, rfl, rfl⟩
   ·exact ⟨(p.1 - 1, p.2), rfl, rfl⟩
   ·exact ⟨(p.1 + 1, p.2), rfl, rfl⟩
   ·exact ⟨(p.1, p.2 - 1), rfl, rfl⟩
   ·exact ⟨(p.1, p.2 + 1), rfl, rfl⟩
  obtain ⟨q, hq1, hq2⟩ := hex
  refine ⟨⟨by omega, by omega⟩, q.1, q.2, hq1, fun w29 e29 w30 e30 => ?_⟩
  have x30 : Ext w25 w30 := ((Ext.rfl' _).of_alloc e29).of_setRow e30 (Nat.le_refl _)
  have z30 : w30.heap.size = w25.heap.size + 1 := by rw [e30, setRow_size, e29]; simp
  have xx : Ext w2 w30 := x4.tr (x7.tr (x25.tr x30))
  refine (posContains_spec s' ps q w30 (hrd.ext xx) hpl).mono ?_
  rintro e w31 ⟨rfl, x31⟩
  have wk : IntKind.wrap .i64 ((j : Int) + 1) = ((j + 1 : Nat) : Int) := by rw [wrap_in (by unfold inI; omega)]; omega
  refine ⟨_, rfl, x31.heap (by omega), x31.heap (by omega), Br.mk (fun h1 => ?_) (fun h1 => ?_)⟩
  ·refine ⟨?_, x17.tr ((x25.tr x30).tr x31)⟩
   have hnq : q ∉ ps := by simpa using h1
   have : ((besideK p).all fun q => decide (q ∈ ps)) = false := by
    rw [List.all_eq_false]
    exact ⟨q, List.mem_of_getElem? hq2, by simpa using hnq⟩
   rw [this]
  ·have hyq : q ∈ ps := by simpa using h1
   refine ⟨n - 1, by omega, rfl, j + 1, wk, by omega, (x25.tr x30).tr x31, ?_⟩
   rw [List.take_add_one, hq2]
   intro y hy
   rcases List.mem_append.1 hy with hy | hy
   ·exact hall y hy
   ·simp only [Option.toList_some, List.mem_singleton] at hy
    subst hy; exact hyq
 ·simp only [decide_eq_false_iff_not] at hb
  refine ⟨?_, x17.tr x25⟩
  rw [List.take_of_length_le (show (besideK p).length ≤ j by unfold besideK; simp; omega)] at hall
  have : ((besideK p).all fun q => decide (q ∈ ps)) = true := by
   rw [List.all_eq_true]
   exact fun q hq => by simpa using hall q hq
  rw [this]
end Go.Proofs.YtkkkfkopcfdmaaaGreatDoor
namespace Go.Proofs.YtkkkfkopcfdmaaaGreatDoor
open Go Go.Vc Go.RowKit Go.Proofs Go.Chk Go.Runs Go.Code
section
variable {N F F' : Nat → Prop} {w w' v v' : World} {s1 s2 s3 s4 : Sl} {T T' : Tb} {ch ch' : List Cg} {seed cap limit : Int} {o t a b m n k : Nat}
theorem wfLoad_spec (h : WF F w o t seed limit T ch) (hW : T.1.l.length ≤ 1000000) (p : Po) :
  Calls Tryz.prog n_table_Table_Load #[.pointer (some ⟨t, 0, none⟩), pv p] w fun e w' => e = .returned (.int .i64 (ldE seed limit T.1 T.2 p).2) ∧ WRes F w o t seed limit (ldE seed limit T.1 T.2 p).1 ch w' := by
 obtain ⟨F1, hT, -, hres⟩ := h.table
 refine (tfLoad_spec hT hW p).mono ?_
 rintro e w' ⟨rfl, hr⟩
 exact ⟨rfl, hres hr⟩
theorem wfAt_spec (h : WF F w o t seed limit T ch) (c : Ce) (hc : okC c) :
  Calls Tryz.prog n_table_Table_At #[.pointer (some ⟨t, 0, none⟩), cev c] w fun e w' => e = .returned (.int .i64 (atE T.2 c)) ∧ Ext w w' := by
 obtain ⟨F1, hT, -⟩ := h.table
 exact tfAt_spec hT c hc
set_option maxRecDepth 100000 in
theorem WF.tells {F : Nat → Prop} {w : World} {T : Tb} {ch : List Cg} {seed limit : Int} {o t : Nat} (h : WF F w o t seed limit T ch) {w' : World} (hk : ∀ i, F i → w'.heap[i]? = w.heap[i]?) (c : Ce) (hc : okC c) :
  callV Tryz.prog (.func (.func n_table_Table_At) #[.pointer (some ⟨t, 0, none⟩)] #[]) [cev c] w' fun e w'' => e = .returned (.int .i64 (atE T.2 c)) ∧ Ext w' w'' :=
 callV_of (by kernel_rfl) rfl (wfAt_spec (h.same hk) c hc)
end
theorem Lo.wv {w : World} {g : Nat} {cs : List Value} {τ : TypeId} (h : Row w g cs τ) : LoadL w (some ⟨g, 0, none⟩) 0 cs := h.loadL (fun j hj => by rw [Nat.zero_add])
end Go.Proofs.YtkkkfkopcfdmaaaGreatDoor
