import Derived.Test.YtbnmglonbhdcbaaGreatDoorKT
import Derived.Test.YtbnmglonbhdcbaaGreatDoorP
set_option linter.all false
namespace Go.Proofs.YtbnmglonbhdcbaaGreatDoor
open Go Go.Vc Go.RowKit Go.Proofs Go.Chk Go.Runs Go.Code
theorem wrB_le2 {l : List Rn} (h : ∀ r ∈ l, 1 ≤ r.1) : ((wrB l).length : Int) ≤ 2 * sumR l := by
 induction l with
 | nil => exact Int.le_refl 0
 | cons r t ih =>
   have h1 := h r (.head _)
   have h2 := ih fun q hq => h q (.tail _ hq)
   have e1 : (wrB (r :: t)).length = 1 + (numB r.1).length + (wrB t).length := by
    show (List.flatMap _ (r :: t)).length = _
    rw [List.flatMap_cons, List.length_append, List.length_cons]
    show (numB r.1).length + 1 + (wrB t).length = _
    omega
   have e2 : sumR (r :: t) = r.1 + sumR t := by unfold sumR; rw [List.map_cons, List.sum_cons]
   have h3 := numB_len r.1
   have h4 : r.1 < 128 → (numB r.1).length ≤ 1 := fun q => by
    unfold numB
    split
    ·simp
    ·unfold numF
     rw [if_pos q]; simp
   by_cases q : r.1 < 128
   ·have := h4 q; omega
   ·omega
theorem chunk_le {C : List Int} (hl : C.length = 8192) (hm : ∀ b ∈ C, bMay b = true) : (wrB (ofC C)).length ≤ 16384 := by
 obtain ⟨-, -, hf, hs⟩ := chunk_okW hl hm
 have h1 : ∀ r ∈ ofC C, 1 ≤ r.1 := fun r hr => (mem_ofC hr).1
 have := wrB_le2 h1
 omega
theorem cellsB_nil (seed : Int) (p : Po) : cellsB seed p [] = made seed p := rfl
theorem nod_set {l : List En} (hn : nodL l) {i : Nat} {e e' : En} (hi : l[i]? = some e) (h1 : e'.1 = e.1) : nodL (l.set i e') := by
 unfold nodL
 rw [List.map_set, h1]
 have : (l.map (·.1)).set i e.1 = l.map (·.1) := by
  have hk : (l.map (·.1))[i]? = some e.1 := by rw [List.getElem?_map, hi]; rfl
  obtain ⟨hl, he⟩ := List.getElem?_eq_some_iff.1 hk
  rw [← he]; exact List.set_getElem_self hl
 rw [this]; exact hn
theorem erase_notP {l : List En} {i : Nat} {e : En} (hd : nodL l) (hi : l[i]? = some e) : e.1 ∉ (l.eraseIdx i).map (·.1) := by
 rw [List.eraseIdx_eq_take_drop_succ, List.map_append]
 have e1 : l = l.take i ++ e :: l.drop (i + 1) := by
  have := List.take_append_drop i l
  rw [List.drop_eq_getElem_cons (List.getElem?_eq_some_iff.1 hi).1] at this
  rw [← (List.getElem?_eq_some_iff.1 hi).2]
  exact this.symm
 unfold nodL at hd
 rw [e1, List.map_append, List.map_cons] at hd
 obtain ⟨h1, h2, h3⟩ := List.nodup_append.1 hd
 intro hm
 rcases List.mem_append.1 hm with hm | hm
 ·exact h3 _ hm _ (.head _) rfl
 ·exact (List.nodup_cons.1 h2).1 hm
theorem mem_erase {l : List En} (hn : nodL l) {i : Nat} {e : En} (hi : l[i]? = some e) (x : En) : x ∈ l.eraseIdx i ↔ x ∈ l ∧ x.1 ≠ e.1 := by
 have hno : e.1 ∉ (l.eraseIdx i).map (·.1) := erase_notP hn hi
 have hil := List.getElem?_eq_some_iff.1 hi
 have e1 : l = l.take i ++ e :: l.drop (i + 1) := by
  have := List.take_append_drop i l
  rw [List.drop_eq_getElem_cons hil.1, hil.2] at this
  exact this.symm
 have e2 : x ∈ l ↔ x ∈ l.eraseIdx i ∨ x = e := by
  rw [List.eraseIdx_eq_take_drop_succ]
  conv => lhs; rw [e1]
  simp only [List.mem_append, List.mem_cons]
  constructor
  ·rintro (h | h | h)
   ·exact .inl (.inl h)
   ·exact .inr h
   ·exact .inl (.inr h)
  ·rintro ((h | h) | h)
   ·exact .inl h
   ·exact .inr (.inr h)
   ·exact .inr (.inl h)
 constructor
 ·intro hx
  exact ⟨e2.2 (.inl hx), fun q => hno (List.mem_map.2 ⟨x, hx, q⟩)⟩
 ·rintro ⟨hx, hne⟩
  rcases e2.1 hx with h | h
  ·exact h
  ·exact absurd (by rw [h]) hne
theorem nod_erase {l : List En} (hn : nodL l) (i : Nat) : nodL (l.eraseIdx i) := hn.sublist ((List.eraseIdx_sublist ..).map _)
theorem nod_push {l : List En} (hn : nodL l) {e : En} (h : ¬ here1 l e.1) : nodL (l ++ [e]) := by
 unfold nodL
 rw [List.map_append]
 refine List.nodup_append.2 ⟨hn, by simp, ?_⟩
 intro a ha b hb q
 simp at hb
 obtain ⟨x, hx, rfl⟩ := List.mem_map.1 ha
 exact h ⟨x, hx, q.trans hb⟩
end Go.Proofs.YtbnmglonbhdcbaaGreatDoor
namespace Go.Proofs.YtbnmglonbhdcbaaGreatDoor
open Go Go.Vc Go.RowKit Go.Proofs Go.Chk Go.Runs Go.Code
def TI (w0 w : World) (t : Nat) (seed limit : Int) (T : Tb) : Prop := ∃ F, TF F w t seed limit T ∧ Ext w0 w ∧ ∀ i, F i → w0.heap.size ≤ i
def KX (w w' : World) : Prop := ∀ j cs τ, Row w j cs τ → offT τ → w'.heap[j]? = w.heap[j]?
section
variable {w0 w w' : World} {t : Nat} {seed limit : Int} {T : Tb}
theorem TI.x (h : TI w0 w t seed limit T) : Ext w0 w := by obtain ⟨F, h1, h2, h3⟩ := h; exact h2
abbrev TIRes (w0 w : World) (t : Nat) (seed limit : Int) (T : Tb) (w' : World) : Prop := TI w0 w' t seed limit T ∧ KX w w'
theorem ti_of {F : Nat → Prop} {T' : Tb} (h : TF F w t seed limit T) (x : Ext w0 w) (hf : ∀ i, F i → w0.heap.size ≤ i) (hr : TRes F w t seed limit T' w') : TIRes w0 w t seed limit T' w' := by
 obtain ⟨F', h', ht⟩ := hr
 obtain ⟨x', f'⟩ := ht.fresh x hf
 exact ⟨⟨F', h', x', f'⟩, fun j cs τ hr hτ => ht.mod.same j hr.lt (h.no_row hr hτ)⟩
theorem tiLoad_spec (h : TI w0 w t seed limit T) (hW : T.1.l.length ≤ 1000000) (p : Po) :
  Calls Tryz.prog n_table_Table_Load #[.pointer (some ⟨t, 0, none⟩), pv p] w fun e w' => e = .returned (.int .i64 (ldE seed limit T.1 T.2 p).2) ∧ TIRes w0 w t seed limit (ldE seed limit T.1 T.2 p).1 w' := by
 obtain ⟨F, h1, h2, h3⟩ := h
 refine (tfLoad_spec h1 hW p).mono ?_
 rintro e w' ⟨rfl, hr⟩
 exact ⟨rfl, ti_of h1 h2 h3 hr⟩
theorem tiPin_spec (h : TI w0 w t seed limit T) (hp : ∀ y ∈ T.2, -1000000000 ≤ y.2.2.2 ∧ y.2.2.2 ≤ 1000000000) (p : Po) :
  Calls Tryz.prog n_table_Table_Pin #[.pointer (some ⟨t, 0, none⟩), pv p] w fun e w' => e = .returned (.int .i64 (pinE T.2 p).2) ∧ TIRes w0 w t seed limit (T.1, (pinE T.2 p).1) w' := by
 obtain ⟨F, h1, h2, h3⟩ := h
 have h1' := h1
 obtain ⟨st, d, r, sl, its, g1, e, rfl⟩ := h1
 rw [← e] at hp ⊢
 refine (Pin_spec g1 (fun y hy => hp _ (List.mem_map.2 ⟨y, hy, rfl⟩)) p).mono ?_
 rintro e w' ⟨rfl, hl⟩
 exact ⟨rfl, ti_of h1' h2 h3 (tf_of hl)⟩
end
theorem tiNew_spec (seed limit room : Int) (w : World) : Calls Tryz.prog n_table_New #[.int .i64 seed, .int .i64 limit, .int .i64 room] w fun e w' => ∃ t, e = .returned (.pointer (some ⟨t, 0, none⟩)) ∧ TI w w' t seed (min (max limit 1) 16) (dk0 room, []) ∧ Ext w w' := by
 refine (tfNew_spec seed limit room w).mono ?_
 rintro e w' ⟨t, F, rfl, h, x, hf⟩
 exact ⟨t, rfl, ⟨F, h, x, hf⟩, x⟩
theorem ld_first (seed limit room : Int) (hl : 1 ≤ limit) {p : Po} (hp : inT p) : ldE seed limit (dk0 room) [] p = ((dk0 room, [(p, made seed p, false, 0)]), 0) := by
 have hr : roomE limit (dk0 room) [] = ((dk0 room, []), 0) := by unfold roomE; rw [if_pos (by simp; omega)]
 have hd : (ldS (dk0 room) (idK p)).1 = [] := by unfold dk0; rw [ldS_new]
 unfold ldE
 rw [if_neg (by simpa using hp), if_neg (by simp [firstI]), hr, if_neg (by simp)]
 simp only [List.nil_append, hd, cellsB_nil]
theorem lives12_spec (w : World) : Calls Tryz.prog n_law12_lives #[] w fun e w' => e = .returned (.bool true) ∧ Ext w w' := by
 apply law12_lives.vc
 refine (tiNew_spec 0 1 0 w).mono ?_
 rintro e w0 ⟨t, rfl, h0, x0⟩
 have hlim : (min (max (1 : Int) 1) 16) = 1 := by decide
 rw [hlim] at h0
 refine ⟨_, rfl, Br.mk (fun h => by cases h) (fun _ => (tiLoad_spec h0 (by decide) (0, 0)).mono ?_)⟩
 rintro e w2 ⟨rfl, h2, -⟩
 have e1 : ldE 0 1 (dk0 0) [] (0, 0) = ((dk0 0, [((0, 0), made 0 (0, 0), false, 0)]), 0) := ld_first 0 1 0 (by decide) (by decide)
 have e1' : ldE 0 1 ((dk0 0, ([] : List En)) : Tb).1 ((dk0 0, ([] : List En)) : Tb).2 (0, 0) = ((dk0 0, [((0, 0), made 0 (0, 0), false, 0)]), 0) := e1
 rw [e1'] at h2 ⊢
 generalize made 0 (0, 0) = M at *
 refine ⟨_, rfl, (tiPin_spec h2 (fun y hy => by simp at hy; subst hy; show (-1000000000 : Int) ≤ 0 ∧ (0 : Int) ≤ 1000000000; decide) (0, 0)).mono ?_⟩
 rintro e w4 ⟨rfl, h4, -⟩
 have hp : pinE [(((0, 0), M, false, 0) : En)] (0, 0) = ([((0, 0), M, false, 1)], 0) := rfl
 have h4 : TI w w4 t 0 1 (dk0 0, (pinE [(((0, 0), M, false, 0) : En)] (0, 0)).1) := h4
 rw [hp] at h4
 refine ⟨_, rfl, yes rfl (yes (by show ((pinE [(((0, 0), M, false, 0) : En)] (0, 0)).2 == 0) = true; rw [hp]; rfl) ((tiLoad_spec h4 (Nat.zero_le _) (0, 1)).mono ?_))⟩
 rintro e w6 ⟨rfl, h6, -⟩
 have hr : roomE 1 (dk0 0) [(((0, 0), M, false, 1) : En)] = ((dk0 0, [((0, 0), M, false, 1)]), 8) := by
  unfold roomE
  rw [if_neg (by simp), if_pos (by simp [firstI])]
 have hl : ldE 0 1 (dk0 0) [(((0, 0), M, false, 1) : En)] (0, 1) = ((dk0 0, [((0, 0), M, false, 1)]), 8) := by
  unfold ldE
  rw [if_neg (by decide), if_neg (by simp [firstI]), if_pos (by rw [hr]; simp), hr]
 refine ⟨_, rfl, ?_, h6.x⟩
 show Ending.returned (.bool ((ldE 0 1 (dk0 0) [(((0, 0), M, false, 1) : En)] (0, 1)).2 == 8)) = _
 rw [hl]
 rfl
end Go.Proofs.YtbnmglonbhdcbaaGreatDoor
namespace Go.Proofs.YtbnmglonbhdcbaaGreatDoor
open Go Go.Vc Go.RowKit Go.Proofs Go.Chk Go.Runs Go.Code
structure Dd where
 k : Int
 px : Int
 pz : Int
 cx : Int
 cy : Int
 cz : Int
 b : Int
 n : Int
 t : Sl
 y : List Int
abbrev dR (d : Dd) : List Value := [.int .i64 d.k, .int .i64 d.px, .int .i64 d.pz, .int .i64 d.cx, .int .i64 d.cy, .int .i64 d.cz, .int .i64 d.b, .int .i64 d.n, .slice d.t.a d.t.n d.t.c]
structure DdOk (w : World) (d : Dd) : Prop where
 i : inI d.k ∧ inI d.px ∧ inI d.pz ∧ inI d.cx ∧ inI d.cy ∧ inI d.cz ∧ inI d.b ∧ inI d.n
 t : RdY w d.t d.y
 y : Bys d.y
 c : d.t.n ≤ d.t.c
theorem dd_at {w w' : World} {s : Sl} {z : List Dd} (hs : RdK w s 9 (z.map dR)) (x : Ext w w') {k : Nat} {d : Dd} (hd : z[k]? = some d) : InB s.a (k : Int) s.n ∧ (padd s.a (((k : Nat) : Int).toNat * 9)).isSome = true ∧ ∀ j v, (dR d)[j]? = some v → ld w' (padd (padd s.a (((k : Nat) : Int).toNat * 9)) j) = some v := by
 have hk := (List.getElem?_eq_some_iff.1 hd).1
 have hn := hs.n
 rw [List.length_map] at hn
 have hin := RdK.inB (hs.ext x) (by decide) (i := (k : Int)) (by omega) (by omega)
 refine ⟨hin, ?_, fun j v hj => ?_⟩
 ·rw [padd_isSome]; exact hin.1
 ·exact (hs.ext x).at (i := k) (r := dR d) (by rw [List.getElem?_map, hd]; rfl) hj
theorem nnP {p : Option Addr} {K : Prop} (hp : p.isSome = true) (h : K) : AndL (nnC p) K := AndL_iff.2 ⟨nnC_iff.2 hp, h⟩
end Go.Proofs.YtbnmglonbhdcbaaGreatDoor
namespace Go.Proofs.YtbnmglonbhdcbaaGreatDoor
open Go Go.Vc Go.RowKit Go.Proofs Go.Chk Go.Runs Go.Code
def cellK (c : Ce) : Ce := (around c.1 80 - 32, around c.2.1 34 - 1, around c.2.2 80 - 32)
theorem cellK_ok (c : Ce) : okC (cellK c) := by
 have h1 := around_bd c.1 80 (by decide)
 have h2 := around_bd c.2.1 34 (by decide)
 have h3 := around_bd c.2.2 80 (by decide)
 unfold cellK okC inI
 exact ⟨by simp only; omega, by simp only; omega, by simp only; omega⟩
theorem rCell_spec (c : Ce) (hc : okC c) (w : World) : Calls Tryz.prog n_ref12_Cell #[cev c] w fun e w' => e = .returned (cev (cellK c)) ∧ Ext w w' := by
 apply ref12_Cell.vc
 have h1 := around_bd c.1 80 (by decide)
 have h2 := around_bd c.2.1 34 (by decide)
 have h3 := around_bd c.2.2 80 (by decide)
 intro w0 e0 w1 e1
 have z0 : w0.heap.size = w.heap.size + 1 := by rw [e0]; simp
 have x1 : Ext w w1.drew := (((Ext.rfl' w).of_alloc e0).of_alloc e1).drew
 have hb : Row w1.drew w.heap.size [.int .i64 c.1, .int .i64 c.2.1, .int .i64 c.2.2] tCe := ((by rw [e0]; exact Row.new w [_, _, _] _ : Row w0 w.heap.size [.int .i64 c.1, .int .i64 c.2.1, .int .i64 c.2.2] tCe).ext ((Ext.rfl' _).of_alloc e1)).ext (Ext.dr _)
 have r1 : LoadL w1.drew (some ⟨w.heap.size, 1, none⟩) 0 [.int .i64 c.2.1] := hb.loadL fun j hj => by simp at hj; subst hj; rfl
 have r2 : LoadL w1.drew (some ⟨w.heap.size, 2, none⟩) 0 [.int .i64 c.2.2] := hb.loadL fun j hj => by simp at hj; subst hj; rfl
 refine (around_spec c.1 80 w1.drew hc.1 (by decide) (by unfold inI; omega)).mono ?_
 rintro e w2 ⟨rfl, hw⟩; subst hw
 refine ⟨_, rfl, rfl, rfl, r2, r1, (around_spec c.2.1 34 w1.drew hc.2.1 (by decide) (by unfold inI; omega)).mono ?_⟩
 rintro e w2 ⟨rfl, hw⟩; subst hw
 refine ⟨_, rfl, rfl, rfl, r2, (around_spec c.2.2 80 w1.drew hc.2.2 (by decide) (by unfold inI; omega)).mono ?_⟩
 rintro e w2 ⟨rfl, hw⟩; subst hw
 refine ⟨_, rfl, rfl, rfl, fun w6 e6 => ⟨?_, x1.of_setRow e6 (by omega)⟩⟩
 have q1 : IntKind.wrap .i64 (around c.1 80 - 32) = around c.1 80 - 32 := wrap_in (by unfold inI; omega)
 have q2 : IntKind.wrap .i64 (around c.2.1 34 - 1) = around c.2.1 34 - 1 := wrap_in (by unfold inI; omega)
 have q3 : IntKind.wrap .i64 (around c.2.2 80 - 32) = around c.2.2 80 - 32 := wrap_in (by unfold inI; omega)
 rw [q1, q2, q3]; rfl
end Go.Proofs.YtbnmglonbhdcbaaGreatDoor
