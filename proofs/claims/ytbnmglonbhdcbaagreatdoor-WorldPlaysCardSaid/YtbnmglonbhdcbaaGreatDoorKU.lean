import Derived.Test.YtbnmglonbhdcbaaGreatDoorKT
import Derived.Test.YtbnmglonbhdcbaaGreatDoorP
set_option linter.all false
namespace Go.Proofs.YtbnmglonbhdcbaaGreatDoor
open Go Go.Vc Go.RowKit Go.Proofs Go.Chk Go.Runs Go.Code
theorem wrB_le2 {l : List Rn} (h : ∀ r ∈ l, 1 ≤ r.1) : ((wrB l).length : Int) ≤ 2 * sumR l := by
 induction l with
 | nil => exact Int.le_refl 0
 | cons r t ih =>
   have h1 := h r (.head _)
   have h2 := ih fun q hq => h q (.tail _ hq)
   have e1 : (wrB (r :: t)).length = 1 + (numB r.1).length + (wrB t).length := by
    show (List.flatMap _ (r :: t)).length = _
    rw [List.flatMap_cons, List.length_append, List.length_cons]
    show (numB r.1).length + 1 + (wrB t).length = _
    omega
   have e2 : sumR (r :: t) = r.1 + sumR t := by unfold sumR; rw [List.map_cons, List.sum_cons]
   have h3 := numB_len r.1
   have h4 : r.1 < 128 → (numB r.1).length ≤ 1 := fun q => by
    unfold numB
    split
    ·simp
    ·unfold numF
     rw [if_pos q]; simp
   by_cases q : r.1 < 128
   ·have := h4 q; omega
   ·omega
theorem chunk_le {C : List Int} (hl : C.length = 8192) (hm : ∀ b ∈ C, bMay b = true) : (wrB (ofC C)).length ≤ 16384 := by
 obtain ⟨-, -, hf, hs⟩ := chunk_okW hl hm
 have h1 : ∀ r ∈ ofC C, 1 ≤ r.1 := fun r hr => (mem_ofC hr).1
 have := wrB_le2 h1
 omega
theorem cellsB_nil (seed : Int) (p : Po) : cellsB seed p [] = made seed p := rfl
theorem nod_set {l : List En} (hn : nodL l) {i : Nat} {e e' : En} (hi : l[i]? = some e) (h1 : e'.1 = e.1) : nodL (l.set i e') := by
 unfold nodL
 rw [List.map_set, h1]
 have : (l.map (·.1)).set i e.1 = l.map (·.1) := by
  have hk : (l.map (·.1))[i]? = some e.1 := by rw [List.getElem?_map, hi]; rfl
  obtain ⟨hl, he⟩ := List.getElem?_eq_some_iff.1 hk
  rw [← he]; exact List.set_getElem_self hl
 rw [this]; exact hn
theorem erase_notP {l : List En} {i : Nat} {e : En} (hd : nodL l) (hi : l[i]? = some e) : e.1 ∉ (l.eraseIdx i).map (·.1) := by
 rw [List.eraseIdx_eq_take_drop_succ, List.map_append]
 have e1 : l = l.take i ++ e :: l.drop (i + 1) := by
  have := List.take_append_drop i l
  rw [List.drop_eq_getElem_cons (List.getElem?_eq_some_iff.1 hi).1] at this
  rw [← (List.getElem?_eq_some_iff.1 hi).2]
  exact this.symm
 unfold nodL at hd
 rw [e1, List.map_append, List.map_cons] at hd
 obtain ⟨h1, h2, h3⟩ := List.nodup_append.1 hd
 intro hm
 rcases List.mem_append.1 hm with hm | hm
 ·exact h3 _ hm _ (.head _) rfl
 ·exact (List.nodup_cons.1 h2).1 hm
theorem mem_erase {l : List En} (hn : nodL l) {i : Nat} {e : En} (hi : l[i]? = some e) (x : En) : x ∈ l.eraseIdx i ↔ x ∈ l ∧ x.1 ≠ e.1 := by
 have hno : e.1 ∉ (l.eraseIdx i).map (·.1) := erase_notP hn hi
 have hil := List.getElem?_eq_some_iff.1 hi
 have e1 : l = l.take i ++ e :: l.drop (i + 1) := by
  have := List.take_append_drop i l
  rw [List.drop_eq_getElem_cons hil.1, hil.2] at this
  exact this.symm
 have e2 : x ∈ l ↔ x ∈ l.eraseIdx i ∨ x = e := by
  rw [List.eraseIdx_eq_take_drop_succ]
  conv => lhs; rw [e1]
  simp only [List.mem_append, List.mem_cons]
  constructor
  ·rintro (h | h | h)
   ·exact .inl (.inl h)
   ·exact .inr h
   ·exact .inl (.inr h)
  ·rintro ((h | h) | h)
   ·exact .inl h
   ·exact .inr (.inr h)
   ·exact .inr (.inl h)
 constructor
 ·intro hx
  exact ⟨e2.2 (.inl hx), fun q => hno (List.mem_map.2 ⟨x, hx, q⟩)⟩
 ·rintro ⟨hx, hne⟩
  rcases e2.1 hx with h | h
  ·exact h
  ·exact absurd (by rw [h]) hne
theorem nod_erase {l : List En} (hn : nodL l) (i : Nat) : nodL (l.eraseIdx i) := hn.sublist ((List.eraseIdx_sublist ..).map _)
theorem nod_push {l : List En} (hn : nodL l) {e : En} (h : ¬ here1 l e.1) : nodL (l ++ [e]) := by
 unfold nodL
 rw [List.map_append]
 refine List.nodup_append.2 ⟨hn, by simp, ?_⟩
 intro a ha b hb q
 simp at hb
 obtain ⟨x, hx, rfl⟩ := List.mem_map.1 ha
 exact h ⟨x, hx, q.trans hb⟩
end Go.Proofs.YtbnmglonbhdcbaaGreatDoor
namespace Go.Proofs.YtbnmglonbhdcbaaGreatDoor
open Go Go.Vc Go.RowKit Go.Proofs Go.Chk Go.Runs Go.Code
section
variable {w0 w w' : World} {t : Nat} {seed limit : Int} {T : Tb}
end
theorem ld_first (seed limit room : Int) (hl : 1 ≤ limit) {p : Po} (hp : inT p) : ldE seed limit (dk0 room) [] p = ((dk0 room, [(p, made seed p, false, 0)]), 0) := by
 have hr : roomE limit (dk0 room) [] = ((dk0 room, []), 0) := by unfold roomE; rw [if_pos (by simp; omega)]
 have hd : (ldS (dk0 room) (idK p)).1 = [] := by unfold dk0; rw [ldS_new]
 unfold ldE
 rw [if_neg (by simpa using hp), if_neg (by simp [firstI]), hr, if_neg (by simp)]
 simp only [List.nil_append, hd, cellsB_nil]
end Go.Proofs.YtbnmglonbhdcbaaGreatDoor
namespace Go.Proofs.YtbnmglonbhdcbaaGreatDoor
open Go Go.Vc Go.RowKit Go.Proofs Go.Chk Go.Runs Go.Code
theorem nnP {p : Option Addr} {K : Prop} (hp : p.isSome = true) (h : K) : AndL (nnC p) K := AndL_iff.2 ⟨nnC_iff.2 hp, h⟩
end Go.Proofs.YtbnmglonbhdcbaaGreatDoor
namespace Go.Proofs.YtbnmglonbhdcbaaGreatDoor
open Go Go.Vc Go.RowKit Go.Proofs Go.Chk Go.Runs Go.Code
def cellK (c : Ce) : Ce := (around c.1 80 - 32, around c.2.1 34 - 1, around c.2.2 80 - 32)
theorem cellK_ok (c : Ce) : okC (cellK c) := by
 have h1 := around_bd c.1 80 (by decide)
 have h2 := around_bd c.2.1 34 (by decide)
 have h3 := around_bd c.2.2 80 (by decide)
 unfold cellK okC inI
 exact ⟨by simp only; omega, by simp only; omega, by simp only; omega⟩
theorem rCell_spec (c : Ce) (hc : okC c) (w : World) : Calls Tryz.prog n_ref12_Cell #[cev c] w fun e w' => e = .returned (cev (cellK c)) ∧ Ext w w' := by
 apply ref12_Cell.vc
 have h1 := around_bd c.1 80 (by decide)
 have h2 := around_bd c.2.1 34 (by decide)
 have h3 := around_bd c.2.2 80 (by decide)
 intro w0 e0 w1 e1
 have z0 : w0.heap.size = w.heap.size + 1 := by rw [e0]; simp
 have x1 : Ext w w1.drew := (((Ext.rfl' w).of_alloc e0).of_alloc e1).drew
 have hb : Row w1.drew w.heap.size [.int .i64 c.1, .int .i64 c.2.1, .int .i64 c.2.2] tCe := ((by rw [e0]; exact Row.new w [_, _, _] _ : Row w0 w.heap.size [.int .i64 c.1, .int .i64 c.2.1, .int .i64 c.2.2] tCe).ext ((Ext.rfl' _).of_alloc e1)).ext (Ext.dr _)
 have r1 : LoadL w1.drew (some ⟨w.heap.size, 1, none⟩) 0 [.int .i64 c.2.1] := hb.loadL fun j hj => by simp at hj; subst hj; rfl
 have r2 : LoadL w1.drew (some ⟨w.heap.size, 2, none⟩) 0 [.int .i64 c.2.2] := hb.loadL fun j hj => by simp at hj; subst hj; rfl
 refine (around_spec c.1 80 w1.drew hc.1 (by decide) (by unfold inI; omega)).mono ?_
 rintro e w2 ⟨rfl, hw⟩; subst hw
 refine ⟨_, rfl, rfl, rfl, r2, r1, (around_spec c.2.1 34 w1.drew hc.2.1 (by decide) (by unfold inI; omega)).mono ?_⟩
 rintro e w2 ⟨rfl, hw⟩; subst hw
 refine ⟨_, rfl, rfl, rfl, r2, (around_spec c.2.2 80 w1.drew hc.2.2 (by decide) (by unfold inI; omega)).mono ?_⟩
 rintro e w2 ⟨rfl, hw⟩; subst hw
 refine ⟨_, rfl, rfl, rfl, fun w6 e6 => ⟨?_, x1.of_setRow e6 (by omega)⟩⟩
 have q1 : IntKind.wrap .i64 (around c.1 80 - 32) = around c.1 80 - 32 := wrap_in (by unfold inI; omega)
 have q2 : IntKind.wrap .i64 (around c.2.1 34 - 1) = around c.2.1 34 - 1 := wrap_in (by unfold inI; omega)
 have q3 : IntKind.wrap .i64 (around c.2.2 80 - 32) = around c.2.2 80 - 32 := wrap_in (by unfold inI; omega)
 rw [q1, q2, q3]; rfl
end Go.Proofs.YtbnmglonbhdcbaaGreatDoor
