import Derived.Test.YtkkkfkopcfdmaaaGreatDoorR
import Derived.Test.YtkkkfkopcfdmaaaGreatDoorP
import Derived.Test.YtkkkfkopcfdmaaaGreatDoorQ
set_option linter.all false
namespace Go.Proofs.YtkkkfkopcfdmaaaGreatDoor
open Go Go.Vc Go.RowKit Go.Proofs Go.Chk
abbrev pv (p : Po) : Value := .agg #[.int .i64 p.1, .int .i64 p.2]
abbrev cev (c : Ce) : Value := .agg #[.int .i64 c.1, .int .i64 c.2.1, .int .i64 c.2.2]
abbrev tCe : TypeId := 41
abbrev tPo : TypeId := 40
theorem cDiv_spec (a b : Int) (ha : inI a) (hb : 0 < b) (w : World) : Calls Tryz.prog n_cell_Div #[.int .i64 a, .int .i64 b] w fun e w' => e = .returned (.int .i64 (a / b)) ∧ w' = w := by
 apply cell_Div.vc
 obtain ⟨h1, h2, h3, h4⟩ := tdm (a := a) hb
 have hq := ediv_in ha hb
 have ht := tdiv_in ha hb
 refine Br.mk (fun h => ?_) (fun _ => AndL_iff.2 ⟨nzC_iff.2 (by omega), AndL_iff.2 ⟨nzC_iff.2 (by omega), Br.mk (fun h => ?_) (fun h => ?_)⟩⟩)
 ·simp only [decide_eq_true_eq] at h; omega
 ·simp only [decide_eq_true_eq] at h
  rw [wrap_in ht, ← (h1 h).1, wrap_in hq]; exact ⟨rfl, rfl⟩
 ·simp only [decide_eq_false_iff_not] at h
  rw [wrap_in ht, ← (h2 (by omega)).1]; exact ⟨rfl, rfl⟩
theorem cMod_spec (a b : Int) (hb : 0 < b) (hb' : b ≤ 1000000) (w : World) : Calls Tryz.prog n_cell_Mod #[.int .i64 a, .int .i64 b] w fun e w' => e = .returned (.int .i64 (a % b)) ∧ w' = w := by
 apply cell_Mod.vc
 obtain ⟨h1, h2, h3, h4⟩ := tdm (a := a) hb
 refine Br.mk (fun h => ?_) (fun _ => AndL_iff.2 ⟨nzC_iff.2 (by omega), Br.mk (fun h => ?_) (fun h => ?_)⟩)
 ·simp only [decide_eq_true_eq] at h; omega
 ·simp only [decide_eq_true_eq] at h
  rw [wrap_in (by unfold inI; omega), ← (h1 h).2]; exact ⟨rfl, rfl⟩
 ·simp only [decide_eq_false_iff_not] at h
  rw [← (h2 (by omega)).2]; exact ⟨rfl, rfl⟩
def okC (c : Ce) : Prop := inI c.1 ∧ inI c.2.1 ∧ inI c.2.2
theorem cIndex_spec (c : Ce) (w : World) : Calls Tryz.prog n_cell_Index #[cev c] w fun e w' => (∃ i b, e = .returned (.tuple #[.int .i64 i, .bool b]) ∧ ((b = true ∧ inY c ∧ i = idx c) ∨ (b = false ∧ ¬ inY c ∧ i = 0))) ∧ Ext w w' := by
 apply cell_Index.vc
 intro w0 e0
 have x0 : Ext w w0 := (Ext.rfl' w).of_alloc e0
 have hb : Row w0 w.heap.size [.int .i64 c.1, .int .i64 c.2.1, .int .i64 c.2.2] tCe := by rw [e0]; exact Row.new w [_, _, _] _
 have hbd := hb.ext (Ext.dr w0)
 refine Br.mk (fun h => ?_) (fun h => Br.mk (fun h2 => ?_) (fun h2 => ?_)) <;> simp only [decide_eq_true_eq, decide_eq_false_iff_not] at *
 ·exact ⟨⟨_, _, rfl, .inr ⟨rfl, by unfold inY; omega, rfl⟩⟩, x0⟩
 ·exact ⟨⟨_, _, rfl, .inr ⟨rfl, by unfold inY; omega, rfl⟩⟩, x0⟩
 ·refine (cMod_spec c.2.2 16 (by decide) (by decide) w0.drew).mono ?_
  rintro e w1 ⟨rfl, rfl⟩
  refine ⟨_, rfl, rfl, hbd.loadL (fun j hj => by simp at hj; subst hj; rfl), hbd.loadL (fun j hj => by simp at hj; subst hj; rfl), (cMod_spec c.1 16 (by decide) (by decide) _).mono ?_⟩
  rintro e w1 ⟨rfl, rfl⟩
  have e1 : IntKind.wrap .i64 (c.2.1 * 16) = c.2.1 * 16 := wrap_in (by unfold inI; omega)
  have e2 : IntKind.wrap .i64 (c.2.1 * 16 + c.2.2 % 16) = c.2.1 * 16 + c.2.2 % 16 := wrap_in (by unfold inI; omega)
  have e3 : IntKind.wrap .i64 ((c.2.1 * 16 + c.2.2 % 16) * 16) = (c.2.1 * 16 + c.2.2 % 16) * 16 := wrap_in (by unfold inI; omega)
  have e4 : IntKind.wrap .i64 ((c.2.1 * 16 + c.2.2 % 16) * 16 + c.1 % 16) = idx c := wrap_in (by unfold inI; omega)
  refine ⟨_, rfl, rfl, hbd.loadL (fun j hj => by simp at hj; subst hj; rfl), ?_, x0.drew⟩
  rw [e1, e2, e3, e4]
  exact ⟨_, _, rfl, .inl ⟨rfl, by unfold inY; omega, rfl⟩⟩
theorem cChunk_spec (c : Ce) (hc : okC c) (w : World) : Calls Tryz.prog n_cell_Chunk #[cev c] w fun e w' => e = .returned (pv (pos c)) ∧ Ext w w' := by
 apply cell_Chunk.vc
 intro w0 e0 w1 e1
 have x1 : Ext w w1.drew := (((Ext.rfl' w).of_alloc e0).of_alloc e1).drew
 have z0 : w0.heap.size = w.heap.size + 1 := by rw [e0]; simp
 have hb : Row w1.drew w.heap.size [.int .i64 c.1, .int .i64 c.2.1, .int .i64 c.2.2] tCe := ((by rw [e0]; exact Row.new w [_, _, _] _ : Row w0 w.heap.size [.int .i64 c.1, .int .i64 c.2.1, .int .i64 c.2.2] tCe).ext ((Ext.rfl' _).of_alloc e1)).ext (Ext.dr _)
 refine (cDiv_spec c.1 16 hc.1 (by decide) w1.drew).mono ?_
 rintro e w2 ⟨rfl, rfl⟩
 refine ⟨_, rfl, rfl, rfl, hb.loadL (fun j hj => by simp at hj; subst hj; rfl), (cDiv_spec c.2.2 16 hc.2.2 (by decide) _).mono ?_⟩
 rintro e w2 ⟨rfl, rfl⟩
 refine ⟨_, rfl, rfl, rfl, fun w6 e6 => ⟨rfl, x1.of_setRow e6 (by omega)⟩⟩
def okP (p : Po) : Prop := (-1099511627776 ≤ p.1 ∧ p.1 ≤ 1099511627776) ∧ (-1099511627776 ≤ p.2 ∧ p.2 ≤ 1099511627776)
theorem cFrom_spec (p : Po) (hp : okP p) (i : Int) (hi : 0 ≤ i ∧ i < 8192) (w : World) : Calls Tryz.prog n_cell_From #[pv p, .int .i64 i] w fun e w' => e = .returned (.tuple #[cev (cellAt p i), .bool true]) ∧ Ext w w' := by
 apply cell_From.vc
 obtain ⟨⟨p1, p2⟩, p3, p4⟩ := hp
 intro w0 e0 w1 e1
 have z0 : w0.heap.size = w.heap.size + 1 := by rw [e0]; simp
 have x1 : Ext w w1 := ((Ext.rfl' w).of_alloc e0).of_alloc e1
 have t1 : Int.tmod i 16 = i % 16 := Int.tmod_eq_emod_of_nonneg hi.1
 have t2 : Int.tdiv i 256 = i / 256 := Int.tdiv_eq_ediv_of_nonneg hi.1
 have t3 : Int.tdiv i 16 = i / 16 := Int.tdiv_eq_ediv_of_nonneg hi.1
 have t4 : Int.tmod (i / 16) 16 = i / 16 % 16 := Int.tmod_eq_emod_of_nonneg (by omega)
 have w1' : IntKind.wrap .i64 (i / 16) = i / 16 := wrap_in (by unfold inI; omega)
 have w2' : IntKind.wrap .i64 (i / 256) = i / 256 := wrap_in (by unfold inI; omega)
 have w3' : IntKind.wrap .i64 (p.1 * 16) = p.1 * 16 := wrap_in (by unfold inI; omega)
 have w4' : IntKind.wrap .i64 (p.2 * 16) = p.2 * 16 := wrap_in (by unfold inI; omega)
 have w5' : IntKind.wrap .i64 (p.1 * 16 + i % 16) = p.1 * 16 + i % 16 := wrap_in (by unfold inI; omega)
 have w6' : IntKind.wrap .i64 (p.2 * 16 + i / 16 % 16) = p.2 * 16 + i / 16 % 16 := wrap_in (by unfold inI; omega)
 rw [t1, t2, t3, w1', w2', w3', w4', t4, w5', w6']
 refine Br.mk (fun h => ?_) (fun _ => Br.mk (fun h => ?_) (fun _ w4 e4 => ⟨rfl, x1.of_setRow e4 (by omega)⟩)) <;> simp only [decide_eq_true_eq] at h <;> omega
end Go.Proofs.YtkkkfkopcfdmaaaGreatDoor
namespace Go.Proofs.YtkkkfkopcfdmaaaGreatDoor
open Go Go.Vc Go.RowKit Go.Proofs Go.Chk
theorem gHash_spec (s x z : Int) (w : World) : Calls Tryz.prog n_gen_Hash #[.int .i64 s, .int .i64 x, .int .i64 z] w fun e w' => e = .returned (.int .u64 (hash s x z)) ∧ w' = w := by
 apply gen_Hash.vc
 unfold gen_Hash.pre
 rw [sh29, sh32]
 exact ⟨rfl, rfl⟩
theorem cornerE (s x z : Int) : IntKind.wrap .i64 (Int.tmod (hash s x z) 9) = corner s x z := by
 rw [Int.tmod_eq_emod_of_nonneg (hash_in s x z)]
 exact wrap_in (by unfold inI; omega)
theorem gCorner_spec (s x z near : Int) (hn : 0 ≤ near ∧ near ≤ 64) {b : Nat} {w : World} (hb : Row w b [.int .i64 s] tInt) : Calls Tryz.prog n_gen_Ground_1 #[.int .i64 x, .int .i64 z, .int .i64 near, .pointer (some ⟨b, 0, none⟩)] w fun e w' => e = .returned (.int .i64 (corner s x z * near)) ∧ w' = w := by
 apply gen_Ground_1.vc
 refine ⟨s, by rw [hb.ld]; rfl, (gHash_spec s x z w).mono ?_⟩
 rintro e w1 ⟨rfl, rfl⟩
 refine ⟨_, rfl, ?_⟩
 rw [cornerE]
 have hc := corner_in s x z
 have h1 : 0 ≤ corner s x z * near := Int.mul_nonneg hc.1 hn.1
 have h2 : corner s x z * near ≤ 8 * 64 := Int.mul_le_mul hc.2 hn.2 hn.1 (by decide)
 rw [wrap_in (by unfold inI; omega)]
 exact ⟨rfl, rfl⟩
theorem gGround_spec (s x z : Int) (hx : inI x) (hz : inI z) (w : World) : Calls Tryz.prog n_gen_Ground #[.int .i64 s, .int .i64 x, .int .i64 z] w fun e w' => e = .returned (.int .i64 (ground s x z)) ∧ Ext w w' := by
 apply gen_Ground.vc
 intro w0 e0
 have x0 : Ext w w0 := (Ext.rfl' w).of_alloc e0
 have hb : Row w0 w.heap.size [.int .i64 s] tInt := by rw [e0]; exact Row.new w [_] _
 refine (cDiv_spec x 8 hx (by decide) w0).mono ?_
 rintro e w1 ⟨rfl, rfl⟩
 refine ⟨_, rfl, rfl, (cDiv_spec z 8 hz (by decide) w1).mono ?_⟩
 rintro e w1 ⟨rfl, rfl⟩
 refine ⟨_, rfl, rfl, (cMod_spec x 8 (by decide) (by decide) w1).mono ?_⟩
 rintro e w1 ⟨rfl, rfl⟩
 refine ⟨_, rfl, rfl, (cMod_spec z 8 (by decide) (by decide) w1).mono ?_⟩
 rintro e w1 ⟨rfl, rfl⟩
 refine ⟨_, rfl, rfl, ?_⟩
 have hdx : inI (x / 8 + 1) := by unfold inI at *; omega
 have hdz : inI (z / 8 + 1) := by unfold inI at *; omega
 have a := mul_bd (corner_in s (x / 8) (z / 8)) (u := 8 - x % 8) (v := 8 - z % 8) (by omega) (by omega)
 have b := mul_bd (corner_in s (x / 8 + 1) (z / 8)) (u := x % 8) (v := 8 - z % 8) (by omega) (by omega)
 have c := mul_bd (corner_in s (x / 8) (z / 8 + 1)) (u := 8 - x % 8) (v := z % 8) (by omega) (by omega)
 have d := mul_bd (corner_in s (x / 8 + 1) (z / 8 + 1)) (u := x % 8) (v := z % 8) (by omega) (by omega)
 have q1 : IntKind.wrap .i64 (8 - x % 8) = 8 - x % 8 := wrap_in (by unfold inI; omega)
 have q2 : IntKind.wrap .i64 (8 - z % 8) = 8 - z % 8 := wrap_in (by unfold inI; omega)
 rw [q1, q2, wrap_in hdx, wrap_in hdz, wrap_in (n := (8 - x % 8) * (8 - z % 8)) (by unfold inI; omega), wrap_in (n := x % 8 * (8 - z % 8)) (by unfold inI; omega), wrap_in (n := (8 - x % 8) * (z % 8)) (by unfold inI; omega), wrap_in (n := x % 8 * (z % 8)) (by unfold inI; omega)]
 refine (gCorner_spec s _ _ _ ⟨a.1, a.2.1⟩ hb).mono ?_
 rintro e w1 ⟨rfl, rfl⟩
 refine ⟨_, rfl, (gCorner_spec s _ _ _ ⟨b.1, b.2.1⟩ hb).mono ?_⟩
 rintro e w1 ⟨rfl, rfl⟩
 refine ⟨_, rfl, (gCorner_spec s _ _ _ ⟨c.1, c.2.1⟩ hb).mono ?_⟩
 rintro e w1 ⟨rfl, rfl⟩
 refine ⟨_, rfl, (gCorner_spec s _ _ _ ⟨d.1, d.2.1⟩ hb).mono ?_⟩
 rintro e w1 ⟨rfl, rfl⟩
 refine ⟨_, rfl, ?_, x0⟩
 have hg := ground_in s x z
 have e1 : ground s x z = 6 + (corner s (x / 8) (z / 8) * ((8 - x % 8) * (8 - z % 8)) + corner s (x / 8 + 1) (z / 8) * (x % 8 * (8 - z % 8)) + corner s (x / 8) (z / 8 + 1) * ((8 - x % 8) * (z % 8)) + corner s (x / 8 + 1) (z / 8 + 1) * (x % 8 * (z % 8))) / 64 := rfl
 generalize corner s (x / 8) (z / 8) * ((8 - x % 8) * (8 - z % 8)) = A at *
 generalize corner s (x / 8 + 1) (z / 8) * (x % 8 * (8 - z % 8)) = B at *
 generalize corner s (x / 8) (z / 8 + 1) * ((8 - x % 8) * (z % 8)) = C at *
 generalize corner s (x / 8 + 1) (z / 8 + 1) * (x % 8 * (z % 8)) = D at *
 rw [wrap_in (n := A + B) (by unfold inI; omega), wrap_in (n := A + B + C) (by unfold inI; omega), wrap_in (n := A + B + C + D) (by unfold inI; omega), Int.tdiv_eq_ediv_of_nonneg (by omega), wrap_in (n := (A + B + C + D) / 64) (by unfold inI; omega), ← e1, wrap_in (by unfold inI; omega)]
theorem gOf_spec (y g : Int) (hg : 6 ≤ g ∧ g ≤ 100) (w : World) : Calls Tryz.prog n_gen_of #[.int .i64 y, .int .i64 g] w fun e w' => e = .returned (.int .i64 (ofG y g)) ∧ w' = w := by
 apply gen_of.vc
 have q1 : IntKind.wrap .i64 (g - 3) = g - 3 := wrap_in (by unfold inI; omega)
 have q2 : IntKind.wrap .i64 (g - 1) = g - 1 := wrap_in (by unfold inI; omega)
 unfold gen_of.pre
 rw [q1, q2]
 have fin : ∀ {v : Int}, ofG y g = v → (Ending.returned (.int .i64 v) = .returned (.int .i64 (ofG y g)) ∧ w = w) := fun h => ⟨by rw [h], rfl⟩
 refine Br.mk (fun h1 => fin ?_) (fun h1 => Br.mk (fun h2 => fin ?_) (fun h2 => Br.mk (fun h3 => fin ?_) (fun h3 => Br.mk (fun h4 => fin ?_) (fun h4 => Br.mk (fun h5 => fin ?_) (fun h5 => Br.mk (fun h6 => Br.mk (fun h7 => fin ?_) (fun h7 => Br.mk (fun h8 => fin ?_) (fun h8 => Br.mk (fun h9 => fin ?_) (fun h9 => fin ?_)))) (fun h6 => Br.mk (fun h8 => fin ?_) (fun h8 => Br.mk (fun h9 => fin ?_) (fun h9 => fin ?_))))))))
 all_goals simp only [decide_eq_true_eq, decide_eq_false_iff_not, beq_iff_eq, beq_eq_false_iff_ne, ne_eq] at *
 all_goals unfold ofG
 all_goals (repeat' split) <;> omega
end Go.Proofs.YtkkkfkopcfdmaaaGreatDoor
namespace Go.Proofs.YtkkkfkopcfdmaaaGreatDoor
open Go Go.Vc Go.RowKit Go.Proofs Go.Chk Go.Runs
theorem made_get (seed : Int) (p : Po) {k : Nat} (hk : k < 8192) : (made seed p)[k]? = some (ofG (cellAt p k).2.1 (ground seed (cellAt p k).1 (cellAt p k).2.2)) := by
 unfold made
 rw [List.getElem?_map, List.getElem?_range hk]; rfl
theorem okC_at {p : Po} (hp : okP p) (i : Int) (hi : 0 ≤ i ∧ i < 8192) : okC (cellAt p i) := by
 obtain ⟨⟨p1, p2⟩, p3, p4⟩ := hp
 unfold okC cellAt inI
 simp only
 omega
end Go.Proofs.YtkkkfkopcfdmaaaGreatDoor
namespace Go.Proofs.YtkkkfkopcfdmaaaGreatDoor
open Go Go.Vc Go.RowKit Go.Proofs Go.Chk Go.Runs
def grV (seed : Int) (p : Po) (k : Nat) : List Value := (List.range 256).map fun i : Nat => .int .i64 (if i < k then ground seed (cellAt p i).1 (cellAt p i).2.2 else 0)
theorem grV_len (seed : Int) (p : Po) (k : Nat) : (grV seed p k).length = 256 := by simp [grV]
theorem grV_get (seed : Int) (p : Po) (k : Nat) {i : Nat} (hi : i < 256) : (grV seed p k)[i]? = some (.int .i64 (if i < k then ground seed (cellAt p i).1 (cellAt p i).2.2 else 0)) := by
 unfold grV
 rw [List.getElem?_map, List.getElem?_range hi]; rfl
theorem grV_set (seed : Int) (p : Po) {k : Nat} (hk : k < 256) : (grV seed p k).set k (.int .i64 (ground seed (cellAt p k).1 (cellAt p k).2.2)) = grV seed p (k + 1) := by
 apply List.ext_getElem?
 intro i
 rw [List.getElem?_set]
 rcases Nat.lt_or_ge i 256 with h | h
 ·rw [grV_get _ _ (k + 1) h]
  split
  ·rename_i e
   subst e
   rw [if_pos (by rw [grV_len]; exact h), if_pos (by omega)]
  ·rename_i e
   rw [grV_get _ _ k h]
   congr 3
   exact propext ⟨fun h => by omega, fun h => by omega⟩
 ·rw [List.getElem?_eq_none (by rw [grV_len]; exact h), List.getElem?_eq_none (by rw [grV_len]; exact h), if_neg (by omega)]
theorem grV_zero (seed : Int) (p : Po) : grV seed p 0 = List.replicate 256 (.int .i64 0) := by
 apply List.ext_getElem?
 intro i
 rcases Nat.lt_or_ge i 256 with h | h
 ·rw [grV_get _ _ 0 h, List.getElem?_replicate, if_pos h, if_neg (by omega)]
 ·rw [List.getElem?_eq_none (by rw [grV_len]; exact h), List.getElem?_eq_none (by rw [List.length_replicate]; exact h)]
def madeX (seed : Int) (p : Po) : List (List Value) := (made seed p).map fun b => [.int .i64 b]
theorem madeX_len (seed : Int) (p : Po) : (madeX seed p).length = 8192 := by unfold madeX; rw [List.length_map, made_len]
theorem made_gr (seed : Int) (p : Po) {k : Nat} (hk : k < 8192) : (made seed p)[k]? = some (ofG ((k : Int) / 256) (ground seed (cellAt p ((k % 256 : Nat) : Int)).1 (cellAt p ((k % 256 : Nat) : Int)).2.2)) := by
 rw [made_get seed p hk]
 have e1 : (cellAt p ((k % 256 : Nat) : Int)).1 = (cellAt p k).1 := by unfold cellAt; simp only; omega
 have e2 : (cellAt p ((k % 256 : Nat) : Int)).2.2 = (cellAt p k).2.2 := by unfold cellAt; simp only; omega
 rw [e1, e2]; rfl
abbrev genRd (bp bs : Nat) : Nat → Prop := fun i => i = bp ∨ i = bs
abbrev genFn (bp bs : Nat) : Value := .func (.func 248) #[] #[.pointer (some ⟨bp, 0, none⟩), .pointer (some ⟨bs, 0, none⟩)]
attribute [local irreducible] made grV in
set_option maxRecDepth 100000 in
theorem gen_Cells_iter (seed : Int) (p : Po) (hp : okP p) (bp bs : Nat) (W0 : World) (hbp : Row W0 bp [.int .i64 p.1, .int .i64 p.2] tPo) (hbs : Row W0 bs [.int .i64 seed] tInt) :
  Iter Tryz.prog (genFn bp bs) W0 (genRd bp bs) (madeX seed p) := by
 refine ⟨⟨_, _, _, rfl, by kernel_rfl⟩, ?_⟩
 intro y B J Jx F0 W hB hsJ hsX hbd hRd hround h0
 refine callV_of (by kernel_rfl) (by rfl) ?_
 apply gen_Cells_1.vc
 have same : ∀ {w : World} {F : Nat → Prop}, (∀ i, genRd bp bs i → ¬ F i ∧ i < w.heap.size ∧ w.heap[i]? = W0.heap[i]?) → Row w bp [.int .i64 p.1, .int .i64 p.2] tPo ∧ Row w bs [.int .i64 seed] tInt := fun {w F} h =>
  ⟨hbp.same (h bp (.inl rfl)).2.2, hbs.same (h bs (.inr rfl)).2.2⟩
 intro w0 e0
 have x0 : Ext W w0 := (Ext.rfl' W).of_alloc e0
 have z0 : w0.heap.size = W.heap.size + 1 := by rw [e0]; simp
 have hg0 : Row w0 W.heap.size (grV seed p 0) 311 := by rw [e0, grV_zero]; exact Row.new W (List.replicate 256 (.int .i64 0)) _
 clear e0
 have hF0 := hbd _ _ _ h0
 have bel : ∀ {w : World}, Ext W w → J 0 F0 w ∧ ∀ i, genRd bp bs i → ¬ F0 i ∧ i < w.heap.size ∧ w.heap[i]? = W0.heap[i]? := fun {w} x =>
  ⟨hsJ _ _ _ _ h0 (Below.mono x hB) fun i hi => x.heap (hF0 i hi), fun i hi => by
   obtain ⟨h1, h2, h3⟩ := hRd i hi
   exact ⟨h1, by have := x.size; omega, (x.heap h2).trans h3⟩⟩
 refine ⟨fun n x wr => Ext W wr ∧ W.heap.size < wr.heap.size ∧ ∃ k : Nat, x = k ∧ k + n = 256 ∧ Row wr W.heap.size (grV seed p k) 311, ⟨256, x0, by omega, 0, rfl, by omega, hg0⟩, ?_⟩
 rintro n us x wr ⟨xr, zr, k, rfl, hk, hg⟩
 refine Br.mk (fun hc => ?_) (fun hc => ?_)
 ·simp only [decide_eq_true_eq] at hc
  obtain ⟨hb1, hb2⟩ := same (bel xr).2
  refine ⟨p.1, p.2, hb1.loadL (fun j hj => by rw [Nat.zero_add]), (cFrom_spec p hp k (by omega) wr).mono ?_⟩
  rintro e w9 ⟨rfl, x9⟩
  refine ⟨_, _, _, _, rfl, ?_⟩
  intro w14 e14 w15 e15
  have x15 : Ext w9 w15 := ((Ext.rfl' _).of_alloc e14).of_setRow e15 (Nat.le_refl _)
  have z15 : w15.heap.size = w9.heap.size + 1 := by rw [e15, setRow_size, e14]; simp
  have z9 := x9.size
  have hb15 := hb2.ext (x9.tr x15)
  refine ⟨seed, by rw [hb15.ld]; rfl, ?_⟩
  have hok := okC_at hp k ⟨by omega, by omega⟩
  refine (gGround_spec seed _ _ hok.1 hok.2.2 w15).mono ?_
  rintro e w17 ⟨rfl, x17⟩
  have z17 := x17.size
  have hg17 := hg.ext ((x9.tr x15).tr x17)
  have hk1 : ((k : Int).toNat * 1) = k := by omega
  rw [hk1]
  obtain ⟨p1, p2⟩ := hg17.put1 (j := k) (v := .int .i64 (ground seed (cellAt p k).1 (cellAt p k).2.2)) (by rw [grV_len]; omega) rfl
  refine ⟨_, rfl, x17.heap (by omega), by omega, by omega, ⟨rfl, p1⟩, ?_, fun w19 e19 => ?_⟩
  ·rw [pblk_padd]
   intro e
   have : W.heap.size = w9.heap.size := by simpa [pblk] using e
   omega
  ·obtain ⟨q1, q2⟩ := p2 w19 e19
   have hwk : IntKind.wrap .i64 ((k : Int) + 1) = ((k + 1 : Nat) : Int) := by rw [wrap_in (by unfold inI; omega)]; omega
   have hput : putCells (grV seed p k) k [.int .i64 (ground seed (cellAt p k).1 (cellAt p k).2.2)] = grV seed p (k + 1) := by rw [← grV_set seed p (by omega)]; rfl
   rw [hput] at q1
   exact ⟨n - 1, by omega, q2.ext (xr.tr ((x9.tr x15).tr x17)) (fun i hi => by omega), by have := q2.size; omega, k + 1, hwk, by omega, q1⟩
 ·simp only [decide_eq_false_iff_not] at hc
  have hk256 : k = 256 := by omega
  subst hk256
  obtain ⟨hJr, hKr⟩ := bel xr
  refine ⟨fun n x wr => ∃ (k : Nat) (F : Nat → Prop), x = k ∧ k + n = 8192 ∧ B ≤ wr.heap.size ∧ W.heap.size < wr.heap.size ∧ ¬ F W.heap.size ∧ J k F wr ∧ Row wr W.heap.size (grV seed p 256) 311,
   ⟨8192, 0, F0, rfl, by omega, by omega, zr, fun hf => by have := hF0 _ hf; omega, hJr, hg⟩, ?_⟩
  rintro n us x wq ⟨k, F, rfl, hk, hBq, hzq, hnF, hJq, hgq⟩
  refine Br.mk (fun hc => ?_) (fun hc => ?_)
  ·simp only [decide_eq_true_eq] at hc
   have t1 : Int.tmod (k : Int) 256 = ((k % 256 : Nat) : Int) := by rw [Int.tmod_eq_emod_of_nonneg (by omega)]; omega
   have t2 : IntKind.wrap .i64 (Int.tdiv (k : Int) 256) = (k : Int) / 256 := by rw [Int.tdiv_eq_ediv_of_nonneg (by omega), wrap_in (by unfold inI; omega)]
   rw [t1, t2]
   have hk1 : (((k % 256 : Nat) : Int).toNat * 1) = k % 256 := by omega
   rw [hk1]
   have hget := grV_get seed p 256 (i := k % 256) (by omega)
   rw [if_pos (by omega)] at hget
   refine ⟨by omega, by omega, _, hgq.at _ hget, (gOf_spec _ _ (ground_in _ _ _) wq).mono ?_⟩
   rintro e w27 ⟨rfl, rfl⟩
   refine ⟨_, rfl, ?_⟩
   have hx : (madeX seed p)[k]? = some [.int .i64 (ofG ((k : Int) / 256) (ground seed (cellAt p ((k % 256 : Nat) : Int)).1 (cellAt p ((k % 256 : Nat) : Int)).2.2))] := by
    unfold madeX; rw [List.getElem?_map, made_gr seed p (by omega)]; rfl
   refine callV_mono (hround _ _ _ _ hx hJq) ?_
   have hwk : IntKind.wrap .i64 ((k : Int) + 1) = ((k + 1 : Nat) : Int) := by rw [wrap_in (by unfold inI; omega)]; omega
   rintro e w29 (⟨rfl, F2, hJ2, hst⟩ | ⟨rfl, F2, hJ2, hst⟩)
   ·refine ⟨true, rfl, Br.mk (fun h => by cases h) (fun _ => ⟨n - 1, by omega, k + 1, F2, hwk, by omega, by have := hst.size; omega, by have := hst.size; omega, fun hf => ?_, hJ2, hgq.same (hst.same _ hzq hnF)⟩)⟩
    rcases hst.sub _ hf with hf | hf
    ·exact hnF hf
    ·omega
   ·exact ⟨false, rfl, Br.mk (fun _ => ⟨⟨_, rfl⟩, .inr ⟨F2, hJ2⟩⟩) (fun h => by cases h)⟩
  ·simp only [decide_eq_false_iff_not] at hc
   have hk8 : k = 8192 := by omega
   subst hk8
   exact ⟨⟨_, rfl⟩, .inl ⟨F, by rw [madeX_len]; exact hJq⟩⟩
theorem gen_Cells_spec (seed : Int) (p : Po) (w : World) : Calls Tryz.prog n_gen_Cells #[.int .i64 seed, pv p] w fun e w' => e = .returned (genFn (w.heap.size + 1) w.heap.size) ∧ Row w' (w.heap.size + 1) [.int .i64 p.1, .int .i64 p.2] tPo ∧ Row w' w.heap.size [.int .i64 seed] tInt ∧ Ext w w' := by
 apply gen_Cells.vc
 intro w0 e0 w1 e1
 have z0 : w0.heap.size = w.heap.size + 1 := by rw [e0]; simp
 have x1 : Ext w0 w1 := (Ext.rfl' _).of_alloc e1
 have hb : Row w0 w.heap.size [.int .i64 seed] tInt := by rw [e0]; exact Row.new w [_] _
 refine ⟨by rw [z0], ?_, hb.ext x1, ((Ext.rfl' w).of_alloc e0).tr x1⟩
 rw [← z0, e1]; exact Row.new w0 [_, _] _
end Go.Proofs.YtkkkfkopcfdmaaaGreatDoor
namespace Go.Proofs.YtkkkfkopcfdmaaaGreatDoor
open Go Go.Vc Go.RowKit Go.Proofs Go.Chk Go.Runs
theorem clip_spec (s : Sl) (c : List Int) (w : World) (hs : OwC 0 w s c) : Calls Tryz.prog n_slices_Clip_int #[.slice s.a s.n s.c] w fun e w' => (∃ s' : Sl, e = .returned (.slice s'.a s'.n s'.c) ∧ RdC w s' c) ∧ w' = w := by
 apply slices_Clip_int.vc
 have hn := RdC.len hs.rdc
 have hcap : s.n ≤ s.c := by
  rcases OwnK.form hs (by decide) with ⟨h, -⟩ | ⟨g0, cs, ha, hg0, hr, hc, hnc, -⟩
  ·rw [h]; exact Nat.le_refl _
  ·exact hnc
 have := RdK.cut hs.rdc (m := s.n) (c' := s.n) (c'' := s.n) (by rw [List.length_map]; omega)
 rw [List.take_of_length_le (by rw [List.length_map]; omega)] at this
 exact ⟨by omega, by omega, by omega, by omega, ⟨⟨slBase s.a 0 s.n 1, s.n, s.n⟩, rfl, this⟩, rfl⟩
attribute [local irreducible] made in
set_option maxRecDepth 100000 in
theorem gChunk_spec (seed : Int) (p : Po) (hp : okP p) (w : World) : Calls Tryz.prog n_gen_Chunk #[.int .i64 seed, pv p] w fun e w' => ∃ s' : Sl, e = .returned (.slice s'.a s'.n s'.c) ∧ OwR w.heap.size w' s' (ofC (made seed p)) ∧ Ext w w' := by
 apply gen_Chunk.vc
 intro w0 e0 w1 e1
 have z0 : w0.heap.size = w.heap.size + 1 := by rw [e0]; simp
 have z1 : w1.heap.size = w.heap.size + 2 := by rw [e1]; simp [z0]
 have x01 : Ext w w1 := ((Ext.rfl' w).of_alloc e0).of_alloc e1
 refine (gen_Cells_spec seed p w1).mono ?_
 rintro e w2 ⟨rfl, hbp, hbs, x2⟩
 have hlt := hbp.lt
 have xx := x01.tr x2
 have zz := xx.size
 refine ⟨_, rfl, x2.heap (by omega), x2.heap (by omega), ?_⟩
 refine ⟨madeX seed p, genRd (w1.heap.size + 1) w1.heap.size, fun _ => False, fun n F s w' => (∀ i, F i ↔ s.blk = some i) ∧ OwC (w2.heap.size + 2) w' s ((made seed p).take n) ∧ Ext w w' ∧ w2.heap.size + 2 ≤ w'.heap.size, fun _ _ _ _ => False,
  ?_, ?_, fun _ _ _ _ _ h => h.elim, ?_, fun _ _ _ _ h => h.elim, fun i hi => ⟨by rcases hi with h | h <;> omega, id, by rcases hi with h | h <;> omega, by rcases hi with h | h <;> omega, trivial⟩, ?_, ?_, ?_, trivial⟩
 ·intro x hx
  obtain ⟨b, _, rfl⟩ := List.mem_map.1 hx
  exact ⟨b, rfl⟩
 ·rintro n F s w3 w4 ⟨hF, ho, hbl, hz⟩ hbl2 hsame
  exact ⟨hF, OwnK.keep ho fun i hi => hsame i ((hF i).2 hi), hbl.trans (Below.mono hbl2 zz), by have := hbl2.size; omega⟩
 ·rintro n F s w3 ⟨hF, ho, hbl, hz⟩ i hi
  have := ho.own.lt ((hF i).1 hi)
  omega
 ·intro w3 hbeg
  have hbel : Below w2.heap.size w2 w3 := hbeg.ext
  refine ⟨gen_Cells_iter seed p hp _ _ w3 (hbp.ext hbel) (hbs.ext hbel), rfl, ?_, ?_, xx.trans (Below.mono hbel zz), by have := hbeg.size; omega⟩
  ·intro i; simp [Sl.blk]
  ·rw [List.take_zero]; exact OwnK.nil
 ·rintro n F us o y w3 hx hI
  have hy : (made seed p)[n]? = some y := by
   unfold madeX at hx
   rw [List.getElem?_map, Option.map_eq_some_iff] at hx
   obtain ⟨b, hb, e⟩ := hx
   have : b = y := by simpa using e
   rw [← this]; exact hb
  refine ⟨Below.refl _ _, fun w4 hrec hI3 => ?_⟩
  obtain ⟨hF, ho, hbl, hz⟩ := hI3
  intro w5 e5
  have x5 : Ext w4 w5 := (Ext.rfl' _).of_alloc e5
  have z5 : w5.heap.size = w4.heap.size + 1 := by rw [e5]; simp
  have hnl : n < 8192 := by have := (List.getElem?_eq_some_iff.1 hy).1; rw [made_len] at this; exact this
  have hon := RdC.len ho.rdc
  rw [List.length_take, made_len] at hon
  obtain ⟨hp1, hres⟩ := (OwnK.ext ho x5).append (bytes := 8) (news := iv y) (by omega) rfl (one_i _ _) (by omega) (by omega)
  refine ⟨hp1, fun s5 w6 hr => ?_⟩
  obtain ⟨ho5, hn5, xb, hkp, hblk⟩ := hres s5 w6 hr
  have hob : ∀ i, o.blk = some i → w2.heap.size + 2 ≤ i ∧ i < w4.heap.size := fun i hi => ho.own.lt hi
  have hz6 := xb.size
  refine ⟨hkp _ (fun hb => by have := hob _ hb; omega) (by omega), hkp _ (fun hb => by have := hob _ hb; omega) (by omega), hkp _ (fun hb => by have := hob _ hb; omega) (by omega), ?_⟩
  intro w7 hw7
  have e7 : ∀ i, i ≠ w0.heap.size → w7.heap[i]? = w6.heap[i]? := fun i hi => by rw [hw7]; exact setRow_other _ _ _ _ hi
  have z7 : w7.heap.size = w6.heap.size := by rw [hw7, setRow_size]
  have hb5 : ∀ i, s5.blk = some i → w2.heap.size + 2 ≤ i := fun i hi => by
   rcases hblk with h | h
   ·exact (hob i (by rw [← h]; exact hi)).1
   ·rw [h] at hi; simp at hi; omega
  refine ⟨fun i => s5.blk = some i, ⟨rfl, fun i => Iff.rfl, ?_, ?_, by omega⟩, ⟨?_, by omega, ?_⟩⟩
  ·have e : (made seed p).take (n + 1) = (made seed p).take n ++ [y] := by rw [List.take_add_one, hy]; rfl
   rw [e]
   have h5 : OwC (w2.heap.size + 2) w6 s5 ((made seed p).take n ++ [y]) := by
    show OwnK _ _ 1 _ _ (((made seed p).take n ++ [y]).map iv)
    rw [List.map_append]; exact ho5
   exact OwnK.keep h5 fun i hi => e7 i (by have := hb5 i hi; omega)
  ·have h5 : Ext w w6 := (hbl.tr x5).trans (Below.mono xb (by omega))
   rw [hw7]; exact h5.setRow (by omega) _
  ·rintro i (hi | hi)
   ·rcases hblk with h | h
    ·exact .inl (.inl ((hF i).2 (by rw [← h]; exact hi)))
    ·rw [h] at hi; simp at hi; exact .inr (by omega)
   ·exact .inl (.inr hi)
  ·intro i hi hni
   have h1 : i ≠ w0.heap.size := fun e => hni (.inr (by simp [e]))
   rw [e7 i h1, hkp i (fun hb => hni (.inl ((hF i).2 hb))) (by omega)]
   exact x5.heap hi
 ·rintro F us o w3 ⟨hF, ho, hbl, hz⟩ hD
  rw [madeX_len, List.take_of_length_le (by rw [made_len]; exact Nat.le_refl _)] at ho
  refine (clip_spec o (made seed p) w3 (OwnK.low ho (Nat.zero_le _))).mono ?_
  rintro e w4 ⟨⟨s4, rfl, hs4⟩, rfl⟩
  refine ⟨s4, rfl, rfl, rfl, (runs_Of_spec s4 (made seed p) w4 hs4 (by rw [made_len]; decide)).mono ?_⟩
  rintro e w5 ⟨s5, rfl, ho5, x5⟩
  refine ⟨s5, rfl, x5.heap (by omega), x5.heap (by omega), (x5.heap (by omega)).trans hD, fun w6 hrec => ?_⟩
  have hz5 := x5.size
  have ho6 : OwR w.heap.size w6 s5 (ofC (made seed p)) := OwnK.low (OwnK.keep ho5 fun i hi => hrec.same i (by have := (ho5.own.lt hi).1; omega)) (by omega)
  exact ⟨s5, rfl, ho6, (hbl.tr x5).trans (Below.mono (hrec.below (Nat.le_refl _)) (by omega))⟩
end Go.Proofs.YtkkkfkopcfdmaaaGreatDoor
namespace Go.Proofs.YtkkkfkopcfdmaaaGreatDoor
open Go Go.Vc Go.RowKit Go.Proofs Go.Chk Go.Runs
abbrev tChunk : TypeId := 175
structure KIs (w : World) (g : Nat) (s : Sl) (p : Po) (C : List Int) : Prop where
 row : Row w g [.int .i64 p.1, .int .i64 p.2, .slice s.a s.n s.c] tChunk
 own : OwR 0 w s (ofC C)
 len : C.length = 8192
 may : ∀ b ∈ C, bMay b = true
theorem KIs.keep {w w' : World} {g : Nat} {s : Sl} {p : Po} {C : List Int} (h : KIs w g s p C) {F : Nat → Prop} (hm : Mod F w w') (hg : ¬ F g) (hs : ∀ b, s.blk = some b → ¬ F b) : KIs w' g s p C :=
 ⟨hm.row h.row hg, hm.ownK h.own hs, h.len, h.may⟩
theorem KIs.ext {w w' : World} {g : Nat} {s : Sl} {p : Po} {C : List Int} (h : KIs w g s p C) (x : Ext w w') : KIs w' g s p C := ⟨h.row.ext x, OwnK.ext h.own x, h.len, h.may⟩
def inK (p : Po) (c : Ce) : Bool := decide (0 ≤ c.2.1) && decide (c.2.1 < 32) && (pos c == p)
theorem inK_iff (p : Po) (c : Ce) : inK p c = true ↔ inY c ∧ pos c = p := by
 unfold inK inY
 simp only [Bool.and_eq_true, decide_eq_true_eq, beq_iff_eq]
def kAt (p : Po) (C : List Int) (c : Ce) : Int := if inK p c then atC C (idx c) else 0
theorem index_spec (p : Po) (c : Ce) (hc : okC c) (w : World) : Calls Tryz.prog n_chunk_place_index #[pv p, cev c] w fun e w' => (∃ i, e = .returned (.tuple #[.int .i64 i, .bool (inK p c)]) ∧ (inK p c = true → i = idx c)) ∧ Ext w w' := by
 apply chunk_place_index.vc
 intro w0 e0 w1 e1
 have z0 : w0.heap.size = w.heap.size + 1 := by rw [e0]; simp
 have z1 : w1.heap.size = w.heap.size + 2 := by rw [e1]; simp [z0]
 have x1 : Ext w w1 := ((Ext.rfl' w).of_alloc e0).of_alloc e1
 have hb : Row w1 w.heap.size [.int .i64 p.1, .int .i64 p.2] 172 := (by rw [e0]; exact Row.new w [_, _] _ : Row w0 w.heap.size [.int .i64 p.1, .int .i64 p.2] 172).ext ((Ext.rfl' _).of_alloc e1)
 refine (cIndex_spec c w1).mono ?_
 rintro e w2 ⟨⟨i, b, rfl, hi⟩, x2⟩
 have z2 := x2.size
 refine ⟨i, b, rfl, x2.heap (by omega), x2.heap (by omega), Br.mk (fun hbb => ?_) (fun hbb => ?_)⟩
 ·rcases hi with ⟨-, hy, rfl⟩ | ⟨h, -⟩
  ·refine (cChunk_spec c hc w2.drew).mono ?_
   rintro e w5 ⟨rfl, x5⟩
   refine ⟨_, _, rfl, x5.heap (show w.heap.size < w2.heap.size by omega), x5.heap (show w0.heap.size < w2.heap.size by omega), ((hb.ext x2).ext (Ext.dr _) |>.ext x5).loadL (fun j hj => by rw [Nat.zero_add]), ?_, (x1.tr x2).tr ((Ext.dr _).tr x5)⟩
   refine ⟨_, ?_, fun _ => rfl⟩
   have : inK p c = (((pos c).1 == p.1) && ((pos c).2 == p.2)) := by
    unfold inK
    unfold inY at hy
    rw [decide_eq_true hy.1, decide_eq_true hy.2]
    rfl
   rw [this]
  ·rw [h] at hbb; cases hbb
 ·rcases hi with ⟨h, -⟩ | ⟨-, hy, rfl⟩
  ·rw [h] at hbb; cases hbb
  ·have : inK p c = false := by
    cases hk : inK p c with
    | false => rfl
    | true => exact absurd ((inK_iff p c).1 hk).1 hy
   rw [this]
   exact ⟨⟨_, rfl, fun h => by cases h⟩, (x1.tr x2).drew⟩
theorem ofG_may (y g : Int) : bMay (ofG y g) = true := by
 rcases ofG_cases y g with h | h | h | h | h <;> rw [h] <;> decide +kernel
theorem made_may (seed : Int) (p : Po) : ∀ b ∈ made seed p, bMay b = true := by
 intro b hb
 unfold made at hb
 obtain ⟨i, _, rfl⟩ := List.mem_map.1 hb
 exact ofG_may _ _
theorem Make_spec' (seed : Int) (p : Po) (hp : okP p) (w : World) : Calls Tryz.prog n_chunk_Make #[.int .i64 seed, pv p] w fun e w' => ∃ g s, e = .returned (.pointer (some ⟨g, 0, none⟩)) ∧ KIs w' g s p (made seed p) ∧ Ext w w' ∧ w.heap.size ≤ g ∧ ∀ b, s.blk = some b → w.heap.size ≤ b := by
 apply chunk_Make.vc
 intro w0 e0
 have x0 : Ext w w0 := (Ext.rfl' w).of_alloc e0
 have z0 : w0.heap.size = w.heap.size + 1 := by rw [e0]; simp
 have hb : Row w0 w.heap.size [.int .i64 p.1, .int .i64 p.2] tPo := by rw [e0]; exact Row.new w [_, _] _
 have fin : ∀ {w1 w3 : World} {s : Sl}, Ext w0.drew w1 → OwR w0.drew.heap.size w1 s (ofC (made seed p)) → w3 = w1.alloc (.cells #[.int .i64 p.1, .int .i64 p.2, .slice s.a s.n s.c] tChunk) → KIs w3 w1.heap.size s p (made seed p) ∧ Ext w w3 ∧ w.heap.size ≤ w1.heap.size ∧ ∀ b, s.blk = some b → w.heap.size ≤ b := fun {w1 w3 s} x1 ho e3 => by
  have x3 : Ext w1 w3 := (Ext.rfl' _).of_alloc e3
  refine ⟨⟨by rw [e3]; exact Row.new w1 [_, _, _] _, (OwnK.low ho (Nat.zero_le _)).ext x3, made_len _ _, made_may _ _⟩, ((x0.drew).tr x1).tr x3, (x0.drew.tr x1).size, fun b hb => Nat.le_trans x0.drew.size (ho.own.lt hb).1⟩
 refine ⟨(gChunk_spec seed p hp w0.drew).mono ?_, (gChunk_spec seed p hp w0.drew).mono ?_⟩
 ·rintro e w1 ⟨s, rfl, ho, x1⟩
  refine ⟨s, rfl, x1.heap (show w.heap.size < w0.heap.size by omega), fun w3 e3 => ⟨_, s, rfl, fin x1 ho e3⟩⟩
 ·rintro e w1 ⟨s, rfl, ho, x1⟩
  refine ⟨s, rfl, x1.heap (show w.heap.size < w0.heap.size by omega), ((hb.ext (Ext.dr _)).ext x1).loadL (fun j hj => by rw [Nat.zero_add]), fun w3 e3 => ⟨_, s, rfl, fin x1 ho e3⟩⟩
end Go.Proofs.YtkkkfkopcfdmaaaGreatDoor
namespace Go.Proofs.YtkkkfkopcfdmaaaGreatDoor
open Go Go.Vc Go.RowKit Go.Proofs Go.Chk Go.Runs
theorem KIs.pos {w : World} {g : Nat} {s : Sl} {p : Po} {C : List Int} (h : KIs w g s p C) : LoadL w (padd (some ⟨g, 0, none⟩) 0) 0 [.int .i64 p.1, .int .i64 p.2] := by
 rw [padd_row]
 exact h.row.loadL (fun j hj => by
  simp at hj
  rcases j with _ | _ | j
  ·rfl
  ·rfl
  ·omega)
theorem cells_pos {C : List Int} (h : C.length = 8192) : (∀ r ∈ ofC C, 0 ≤ r.1) ∧ sumR (ofC C) ≤ 1099511627776 ∧ Bd (ofC C).length := by
 refine ⟨fun r hr => by have := (mem_ofC hr).1; omega, by rw [sumR_ofC, h]; decide, ?_⟩
 have := ofC_len C
 show (ofC C).length ≤ 1099511627776
 omega
theorem At_spec {w : World} {g : Nat} {s : Sl} {p : Po} {C : List Int} (h : KIs w g s p C) (c : Ce) (hc : okC c) : Calls Tryz.prog n_chunk_Chunk_At #[.pointer (some ⟨g, 0, none⟩), cev c] w fun e w' => e = .returned (.tuple #[.int .i64 (kAt p C c), .bool (inK p c)]) ∧ Ext w w' := by
 apply chunk_Chunk_At.vc
 intro w0 e0
 have x0 : Ext w w0.drew := (Ext.rfl' w |>.of_alloc e0).drew
 have z0 : w0.heap.size = w.heap.size + 1 := by rw [e0]; simp
 have h0 := h.ext x0
 refine ⟨p.1, p.2, h0.pos, (index_spec p c hc w0.drew).mono ?_⟩
 rintro e w3 ⟨⟨i, rfl, hi⟩, x3⟩
 have h3 := h0.ext x3
 have z3 := x3.size
 refine ⟨i, _, rfl, x3.heap (show w.heap.size < w0.heap.size by omega), Br.mk (fun hb => ?_) (fun hb => ?_)⟩
 ·have hf : inK p c = false := by simpa using hb
  refine ⟨?_, x0.tr x3⟩
  unfold kAt
  rw [hf]; rfl
 ·have hk : inK p c = true := by simpa using hb
  have hie := hi hk
  subst hie
  have hidx := idx_in ((inK_iff p c).1 hk).1
  obtain ⟨q1, q2, q3⟩ := cells_pos h.len
  refine ⟨s, h3.row.at 2 rfl, (runs_At_spec s (ofC C) (idx c) w3 (OwR.rdr h3.own) q3 q1 q2 (by unfold inI; omega)).mono ?_⟩
  rintro e w7 ⟨rfl, x7⟩
  refine ⟨_, rfl, x7.heap (Nat.lt_of_lt_of_le (show w.heap.size < w0.heap.size by omega) z3), ?_, (x0.tr x3).tr x7⟩
  rw [cells_ofC]
  unfold kAt
  rw [hk]; rfl
theorem Place_spec (p : Po) (w : World) : Calls Tryz.prog n_chunk_place_Place #[pv p] w fun e w' => e = .returned (pv p) ∧ Ext w w' := by
 apply chunk_place_Place.vc
 intro w0 e0 w1 e1 w2 e2
 have z0 : w0.heap.size = w.heap.size + 1 := by rw [e0]; simp
 exact ⟨rfl, (((Ext.rfl' w).of_alloc e0).of_alloc e1).of_setRow e2 (by omega)⟩
end Go.Proofs.YtkkkfkopcfdmaaaGreatDoor
namespace Go.Proofs.YtkkkfkopcfdmaaaGreatDoor
open Go Go.Vc Go.RowKit Go.Proofs Go.Chk Go.Runs
end Go.Proofs.YtkkkfkopcfdmaaaGreatDoor
namespace Go.Proofs.YtkkkfkopcfdmaaaGreatDoor
open Go Go.Vc Go.RowKit Go.Proofs Go.Chk Go.Runs
end Go.Proofs.YtkkkfkopcfdmaaaGreatDoor
namespace Go.Proofs.YtkkkfkopcfdmaaaGreatDoor
open Go Go.Vc Go.RowKit Go.Proofs Go.Chk Go.Runs
end Go.Proofs.YtkkkfkopcfdmaaaGreatDoor
namespace Go.Proofs.YtkkkfkopcfdmaaaGreatDoor
open Go Go.Vc Go.RowKit Go.Proofs Go.Chk Go.Runs
end Go.Proofs.YtkkkfkopcfdmaaaGreatDoor
namespace Go.Proofs.YtkkkfkopcfdmaaaGreatDoor
open Go Go.Vc Go.RowKit Go.Proofs Go.Chk Go.Runs
end Go.Proofs.YtkkkfkopcfdmaaaGreatDoor
namespace Go.Proofs.YtkkkfkopcfdmaaaGreatDoor
open Go Go.Vc Go.RowKit Go.Proofs Go.Chk Go.Runs
end Go.Proofs.YtkkkfkopcfdmaaaGreatDoor
namespace Go.Proofs.YtkkkfkopcfdmaaaGreatDoor
open Go Go.Vc Go.RowKit Go.Proofs Go.Chk Go.Runs Go.Code
def NewRes (w : World) (p : Po) (l : List Rn) (e : Ending) (w' : World) : Prop :=
 (mayR bMay l 8192 = true ∧ ∃ g sg, e = .returned (.tuple #[.pointer (some ⟨g, 0, none⟩), .int .i64 0]) ∧ KIs w' g sg p (cellsR l) ∧ w.heap.size ≤ g ∧ ∀ b, sg.blk = some b → w.heap.size ≤ b) ∨
 (mayR bMay l 8192 = false ∧ e = .returned (.tuple #[.pointer none, .int .i64 1]))
theorem New_spec (p : Po) (s : Sl) (l : List Rn) (w : World) (hs : RdR w s l) (hn : Bd l.length) : Calls Tryz.prog n_chunk_New #[pv p, .slice s.a s.n s.c] w fun e w' => NewRes w p l e w' ∧ Ext w w' := by
 apply chunk_New.vc
 intro w0 e0
 have z0 : w0.heap.size = w.heap.size + 1 := by rw [e0]; simp
 have x0 : Ext w w0 := (Ext.rfl' w).of_alloc e0
 have hb0 : Row w0 w.heap.size [.int .i64 p.1, .int .i64 p.2] tPo := by rw [e0]; exact Row.new w [_, _] _
 clear e0
 refine (runs_May_spec s l 8192 w0 (RdK.ext hs x0) hn (by unfold inI; omega)).mono ?_
 rintro e w1 ⟨rfl, x1⟩
 have z1 := x1.size
 have zd : w1.drew.heap.size = w1.heap.size := rfl
 refine ⟨_, rfl, x1.heap (by omega), Br.mk (fun hb => ?_) (fun hb => ?_)⟩
 ·have hf : mayR bMay l 8192 = false := by simpa using hb
  exact ⟨.inr ⟨hf, rfl⟩, x0.tr x1⟩
 ·have ht : mayR bMay l 8192 = true := by simpa using hb
  obtain ⟨i1, i2, i3⟩ := mayR_inv ht
  have xd := (x0.tr x1).drew
  have fin : ∀ {w3 w5 : World} {s4 : Sl}, Ext w1.drew w3 → OwR w1.drew.heap.size w3 s4 l → w5 = w3.alloc (.cells #[.int .i64 p.1, .int .i64 p.2, .slice s4.a s4.n s4.c] tChunk) → NewRes w p l (.returned (.tuple #[.pointer (some ⟨w3.heap.size, 0, none⟩), .int .i64 0])) w5 ∧ Ext w w5 := fun {w3 w5 s4} x3 ho e5 => by
   have x5 : Ext w3 w5 := (Ext.rfl' _).of_alloc e5
   have z3 := x3.size
   refine ⟨.inl ⟨ht, _, s4, rfl, ⟨by rw [e5]; exact Row.new w3 [_, _, _] _, ?_, by omega, i2⟩, by omega, fun b hb => by have := (ho.own.lt hb).1; omega⟩, xd.tr (x3.tr x5)⟩
   rw [i1]
   exact (OwnK.low ho (Nat.zero_le _)).ext x5
  refine ⟨(clone_spec s l w1.drew (RdK.ext hs xd) hn).mono ?_, (clone_spec s l w1.drew (RdK.ext hs xd) hn).mono ?_⟩
  ·rintro e w3 ⟨s4, rfl, ho, x3⟩
   exact ⟨s4, rfl, x3.heap (by omega), fun w5 e5 => fin x3 ho e5⟩
  ·rintro e w3 ⟨s4, rfl, ho, x3⟩
   exact ⟨s4, rfl, x3.heap (by omega), ((hb0.ext x1.drew).ext x3).loadL (fun j hj => by rw [Nat.zero_add]), fun w5 e5 => fin x3 ho e5⟩
def ReadRes (w : World) (p : Po) (b : List Int) (e : Ending) (w' : World) : Prop :=
 ((readB bMay b 8192).2 = 0 ∧ ∃ g sg, e = .returned (.tuple #[.pointer (some ⟨g, 0, none⟩), .int .i64 0]) ∧ KIs w' g sg p (cellsR (readB bMay b 8192).1) ∧ w.heap.size ≤ g ∧ ofC (cellsR (readB bMay b 8192).1) = (readB bMay b 8192).1 ∧ ∀ b, sg.blk = some b → w.heap.size ≤ b) ∨
 ((readB bMay b 8192).2 ≠ 0 ∧ e = .returned (.tuple #[.pointer none, .int .i64 (readB bMay b 8192).2]))
theorem Read_spec (p : Po) (s : Sl) (b : List Int) (w : World) (hs : RdY w s b) (hb : InY b) (hc : s.n ≤ s.c) (hl : b.length ≤ 1099511627776) : Calls Tryz.prog n_chunk_Read #[pv p, .slice s.a s.n s.c] w fun e w' => ReadRes w p b e w' ∧ Ext w w' := by
 apply chunk_Read.vc
 intro w0 e0
 have z0 : w0.heap.size = w.heap.size + 1 := by rw [e0]; simp
 have x0 : Ext w w0 := (Ext.rfl' w).of_alloc e0
 clear e0
 refine (code_Read_spec s b 8192 w0 (RdK.ext hs x0) hb hc hl (by decide) (by unfold inI; omega)).mono ?_
 rintro e w1 ⟨⟨s2, rfl, ho⟩, x1⟩
 have z1 := x1.size
 have hlen := readB_len (may := bMay) b 8192
 have hag := readB_again (b := b) (n := 8192) hb (by decide)
 refine ⟨s2, _, rfl, x1.heap (by omega), Br.mk (fun hne => ?_) (fun hne => ?_)⟩
 ·exact ⟨.inr ⟨by simpa using hne, rfl⟩, x0.tr x1⟩
 ·have h0 : (readB bMay b 8192).2 = 0 := by simpa using hne
  obtain ⟨f1, f2, f3⟩ := hag h0
  have hm : mayR bMay (readB bMay b 8192).1 8192 = true := by
   have := f2.mayR (by omega)
   rw [f3] at this; exact this
  refine (New_spec p s2 _ w1 (OwR.rdr ho) (by show _ ≤ _; omega)).mono ?_
  rintro e w4 ⟨hr, x4⟩
  rcases hr with ⟨-, g, sg, rfl, hk, hg, hgb⟩ | ⟨hf, -⟩
  ·exact ⟨_, _, rfl, x4.heap (by omega), .inl ⟨h0, g, sg, rfl, hk, by omega, (mayR_inv hm).1, fun b hb => by have := hgb b hb; omega⟩, x0.tr (x1.tr x4)⟩
  ·rw [hm] at hf; cases hf
end Go.Proofs.YtkkkfkopcfdmaaaGreatDoor
namespace Go.Proofs.YtkkkfkopcfdmaaaGreatDoor
open Go Go.Vc Go.RowKit Go.Proofs Go.Chk Go.Runs Go.Code
theorem chunk_okW {C : List Int} (hl : C.length = 8192) (hm : ∀ b ∈ C, bMay b = true) : okW bMay (ofC C) = true ∧ ofC C ≠ [] ∧ Follow bMay (-1) (ofC C) ∧ sumR (ofC C) = 8192 := by
 have hs : sumR (ofC C) = 8192 := by rw [sumR_ofC, hl]; rfl
 have hne : ofC C ≠ [] := by
  intro e
  rw [e] at hs
  cases hs
 have hc : ∀ r ∈ ofC C, bMay r.2 = true := fun r hr => by
  refine hm _ ?_
  have := mem_cells hr (mem_ofC hr).1
  rwa [cells_ofC] at this
 refine ⟨okW_nm (Nm_ofC C) hc (by omega) hne, hne, ?_, hs⟩
 refine Follow.of (fun r hr => ?_) (Nm_ofC C).next (fun r hr => ?_)
 ·have h1 := mem_ofC hr
  have h2 := hc r hr
  have h3 := h2
  unfold bMay at h3
  simp only [Bool.and_eq_true, decide_eq_true_eq] at h3
  exact ⟨h1.1, by omega, by omega, by omega, h2⟩
 ·have h2 := hc r (List.mem_of_mem_head? hr)
  unfold bMay at h2
  simp only [Bool.and_eq_true, decide_eq_true_eq] at h2
  omega
theorem chunk_inI {C : List Int} (hl : C.length = 8192) (hm : ∀ b ∈ C, bMay b = true) : ∀ r ∈ ofC C, inI r.1 ∧ inI r.2 := follow_in (chunk_okW hl hm).2.2.1
theorem Bytes_spec {w : World} {g : Nat} {s : Sl} {p : Po} {C : List Int} (h : KIs w g s p C) : Calls Tryz.prog n_chunk_Chunk_Bytes #[.pointer (some ⟨g, 0, none⟩)] w fun e w' => ∃ s' : Sl, e = .returned (.slice s'.a s'.n s'.c) ∧ OwY w.heap.size w' s' (wrB (ofC C)) ∧ Ext w w' := by
 apply chunk_Chunk_Bytes.vc
 have hlen := ofC_len C
 have hl := h.len
 refine ⟨s, h.row.at 2 rfl, (code_Write_spec s (ofC C) w (OwR.rdr h.own) (by omega) (chunk_inI h.len h.may)).mono ?_⟩
 rintro e w1 ⟨⟨s2, rfl, ho⟩, x1⟩
 rw [if_pos (chunk_okW h.len h.may).1] at ho
 exact ⟨s2, _, rfl, s2, rfl, ho, x1⟩
end Go.Proofs.YtkkkfkopcfdmaaaGreatDoor
