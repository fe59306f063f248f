import Derived.Test.YtbnmglonbhdcbaaGreatDoorKT
import Derived.Test.YtbnmglonbhdcbaaGreatDoorP
set_option linter.all false
namespace Go.Proofs.YtbnmglonbhdcbaaGreatDoor
open Go Go.Vc Go.RowKit Go.Proofs Go.Chk Go.Runs Go.Code

/-! ## What is so of a cell, whether its chunk is here or not -/
theorem wrB_le2 {l : List Rn} (h : ∀ r ∈ l, 1 ≤ r.1) : ((wrB l).length : Int) ≤ 2 * sumR l := by
  induction l with
  | nil => exact Int.le_refl 0
  | cons r t ih =>
    have h1 := h r (.head _)
    have h2 := ih fun q hq => h q (.tail _ hq)
    have e1 : (wrB (r :: t)).length = 1 + (numB r.1).length + (wrB t).length := by
      show (List.flatMap _ (r :: t)).length = _
      rw [List.flatMap_cons, List.length_append, List.length_cons]
      show (numB r.1).length + 1 + (wrB t).length = _
      omega
    have e2 : sumR (r :: t) = r.1 + sumR t := by unfold sumR; rw [List.map_cons, List.sum_cons]
    have h3 := numB_len r.1
    have h4 : r.1 < 128 → (numB r.1).length ≤ 1 := fun q => by
      unfold numB
      split
      · simp
      · unfold numF
        rw [if_pos q]; simp
    by_cases q : r.1 < 128
    · have := h4 q; omega
    · omega
theorem chunk_le {C : List Int} (hl : C.length = 8192) (hm : ∀ b ∈ C, bMay b = true) : (wrB (ofC C)).length ≤ 16384 := by
  obtain ⟨-, -, hf, hs⟩ := chunk_okW hl hm
  have h1 : ∀ r ∈ ofC C, 1 ≤ r.1 := fun r hr => (mem_ofC hr).1
  have := wrB_le2 h1
  omega
theorem cellsB_wr (seed : Int) (p : Po) {C : List Int} (hl : C.length = 8192) (hm : ∀ b ∈ C, bMay b = true) : cellsB seed p (wrB (ofC C)) = C := by
  obtain ⟨-, hne, hf, hs⟩ := chunk_okW hl hm
  have := read_good hf hne
  rw [hs] at this
  unfold cellsB
  rw [this, if_pos rfl, cells_ofC]
theorem cellsB_nil (seed : Int) (p : Po) : cellsB seed p [] = made seed p := rfl
theorem id_ne {p q : Po} (hq : inT q) (h : p ≠ q) : idK p ≠ idK q := by
  by_cases hp : inT p
  · exact fun e => h ((idK_inj hp hq).1 e)
  · rw [idK_out hp]
    have := idK_pos hq
    omega
theorem find_iff {l : List En} (hn : nodL l) {p : Po} {e : En} : l.find? (fun x => x.1 == p) = some e ↔ e ∈ l ∧ e.1 = p := by
  induction l with
  | nil => simp
  | cons x t ih =>
    have hn' := List.nodup_cons.1 (show (x.1 :: t.map (·.1)).Nodup from hn)
    rw [List.find?_cons]
    by_cases q : x.1 = p
    · rw [show (x.1 == p) = true by simpa using q]
      simp only [Option.some.injEq, List.mem_cons]
      constructor
      · rintro rfl; exact ⟨.inl rfl, q⟩
      · rintro ⟨q2 | q2, q3⟩
        · exact q2.symm
        · exact absurd (List.mem_map.2 ⟨e, q2, q3.trans q.symm⟩) hn'.1
    · rw [show (x.1 == p) = false by simpa using q, ih hn'.2]
      simp only [List.mem_cons]
      constructor
      · rintro ⟨a, b⟩; exact ⟨.inr a, b⟩
      · rintro ⟨a | a, b⟩
        · subst a; exact absurd b q
        · exact ⟨a, b⟩
theorem find_none {l : List En} {p : Po} : l.find? (fun x => x.1 == p) = none ↔ ¬ here1 l p := by
  rw [List.find?_eq_none]
  constructor
  · rintro h ⟨x, hx, q⟩
    exact h x hx (by simpa using q)
  · intro h x hx q
    exact h ⟨x, hx, by simpa using q⟩
/-- A chunk's cells, whether it is here or not. -/
def tru (seed : Int) (T : Tb) (p : Po) : List Int := match T.2.find? (fun x => x.1 == p) with | some e => e.2.1 | none => cellsB seed p (ldS T.1 (idK p)).1
theorem tru_here {seed : Int} {T : Tb} (hn : nodL T.2) {e : En} (he : e ∈ T.2) : tru seed T e.1 = e.2.1 := by
  unfold tru; rw [(find_iff hn).2 ⟨he, rfl⟩]
theorem tru_not {seed : Int} {T : Tb} {p : Po} (h : ¬ here1 T.2 p) : tru seed T p = cellsB seed p (ldS T.1 (idK p)).1 := by
  unfold tru; rw [find_none.2 h]
structure Tru (seed : Int) (K : List Int) (n : Nat) (Q : Po → Prop) (T : Tb) : Prop where
  s : Sfe K 16393 n T.1
  nod : nodL T.2
  good : goodL T.2
  pl : ∀ e ∈ T.2, Q e.1
  q : ∀ p, Q p → inT p ∧ 2 * idK p ∈ K ∧ 2 * idK p + 1 ∈ K
  cl : ∀ e ∈ T.2, e.2.2.1 = false → e.2.1 = cellsB seed e.1 (ldS T.1 (idK e.1)).1
theorem mem_set {l : List En} (hn : nodL l) {i : Nat} {e e' : En} (hi : l[i]? = some e) (h1 : e'.1 = e.1) (x : En) : x ∈ l.set i e' ↔ x = e' ∨ (x ∈ l ∧ x.1 ≠ e.1) := by
  have hil := (List.getElem?_eq_some_iff.1 hi).1
  have key : ∀ j y, l[j]? = some y → y.1 = e.1 → j = i := fun j y hj hy => by
    have a1 : (l.map (·.1))[i]? = some e.1 := by rw [List.getElem?_map, hi]; rfl
    have a2 : (l.map (·.1))[j]? = some e.1 := by rw [List.getElem?_map, hj]; simpa using hy
    exact (List.getElem?_inj (by rw [List.length_map]; exact (List.getElem?_eq_some_iff.1 hj).1) hn).1 (a2.trans a1.symm)
  constructor
  · intro hx
    obtain ⟨j, hj⟩ := List.getElem?_of_mem hx
    rw [List.getElem?_set] at hj
    split at hj
    · exact .inl (Option.some.inj hj).symm
    · rename_i hne
      exact .inr ⟨List.mem_of_getElem? hj, fun q => hne (key j x hj q).symm⟩
  · rintro (rfl | ⟨hx, hne⟩)
    · exact List.mem_of_getElem? (i := i) (List.getElem?_set_self hil)
    · obtain ⟨j, hj⟩ := List.getElem?_of_mem hx
      refine List.mem_of_getElem? (i := j) ?_
      rw [List.getElem?_set_ne]
      · exact hj
      · rintro rfl
        rw [hi] at hj; cases hj; exact hne rfl
theorem nod_set {l : List En} (hn : nodL l) {i : Nat} {e e' : En} (hi : l[i]? = some e) (h1 : e'.1 = e.1) : nodL (l.set i e') := by
  unfold nodL
  rw [List.map_set, h1]
  have : (l.map (·.1)).set i e.1 = l.map (·.1) := by
    have hk : (l.map (·.1))[i]? = some e.1 := by rw [List.getElem?_map, hi]; rfl
    obtain ⟨hl, he⟩ := List.getElem?_eq_some_iff.1 hk
    rw [← he]; exact List.set_getElem_self hl
  rw [this]; exact hn
theorem erase_notP {l : List En} {i : Nat} {e : En} (hd : nodL l) (hi : l[i]? = some e) : e.1 ∉ (l.eraseIdx i).map (·.1) := by
  rw [List.eraseIdx_eq_take_drop_succ, List.map_append]
  have e1 : l = l.take i ++ e :: l.drop (i + 1) := by
    have := List.take_append_drop i l
    rw [List.drop_eq_getElem_cons (List.getElem?_eq_some_iff.1 hi).1] at this
    rw [← (List.getElem?_eq_some_iff.1 hi).2]
    exact this.symm
  unfold nodL at hd
  rw [e1, List.map_append, List.map_cons] at hd
  obtain ⟨h1, h2, h3⟩ := List.nodup_append.1 hd
  intro hm
  rcases List.mem_append.1 hm with hm | hm
  · exact h3 _ hm _ (.head _) rfl
  · exact (List.nodup_cons.1 h2).1 hm
theorem mem_erase {l : List En} (hn : nodL l) {i : Nat} {e : En} (hi : l[i]? = some e) (x : En) : x ∈ l.eraseIdx i ↔ x ∈ l ∧ x.1 ≠ e.1 := by
  have hno : e.1 ∉ (l.eraseIdx i).map (·.1) := erase_notP hn hi
  have hil := List.getElem?_eq_some_iff.1 hi
  have e1 : l = l.take i ++ e :: l.drop (i + 1) := by
    have := List.take_append_drop i l
    rw [List.drop_eq_getElem_cons hil.1, hil.2] at this
    exact this.symm
  have e2 : x ∈ l ↔ x ∈ l.eraseIdx i ∨ x = e := by
    rw [List.eraseIdx_eq_take_drop_succ]
    conv => lhs; rw [e1]
    simp only [List.mem_append, List.mem_cons]
    constructor
    · rintro (h | h | h)
      · exact .inl (.inl h)
      · exact .inr h
      · exact .inl (.inr h)
    · rintro ((h | h) | h)
      · exact .inl h
      · exact .inr (.inr h)
      · exact .inr (.inl h)
  constructor
  · intro hx
    exact ⟨e2.2 (.inl hx), fun q => hno (List.mem_map.2 ⟨x, hx, q⟩)⟩
  · rintro ⟨hx, hne⟩
    rcases e2.1 hx with h | h
    · exact h
    · exact absurd (by rw [h]) hne
theorem nod_erase {l : List En} (hn : nodL l) (i : Nat) : nodL (l.eraseIdx i) := hn.sublist ((List.eraseIdx_sublist ..).map _)
theorem nod_push {l : List En} (hn : nodL l) {e : En} (h : ¬ here1 l e.1) : nodL (l ++ [e]) := by
  unfold nodL
  rw [List.map_append]
  refine List.nodup_append.2 ⟨hn, by simp, ?_⟩
  intro a ha b hb q
  simp at hb
  obtain ⟨x, hx, rfl⟩ := List.mem_map.1 ha
  exact h ⟨x, hx, q.trans hb⟩
/-- A chunk is saved. -/
theorem Tru.save {seed : Int} {K : List Int} {n : Nat} {Q : Po → Prop} {T : Tb} (h : Tru seed K n Q T) (hn : n < 1000000000) {i : Nat} {e : En} (hi : T.2[i]? = some e) :
    (saveE T.1 e).2.2 = 0 ∧ (saveE T.1 e).2.1 = (e.1, e.2.1, false, e.2.2.2) ∧ Tru seed K (n + 1) Q ((saveE T.1 e).1, T.2.set i (saveE T.1 e).2.1) ∧ ∀ p, tru seed ((saveE T.1 e).1, T.2.set i (saveE T.1 e).2.1) p = tru seed T p := by
  have hm := List.mem_of_getElem? hi
  obtain ⟨qi, q1, q2⟩ := h.q _ (h.pl e hm)
  obtain ⟨g1, g2⟩ := h.good e hm
  have hsave : (saveE T.1 e).2.2 = 0 ∧ (saveE T.1 e).2.1 = (e.1, e.2.1, false, e.2.2.2) ∧ Sfe K 16393 (n + 1) (saveE T.1 e).1 ∧ e.2.1 = cellsB seed e.1 (ldS (saveE T.1 e).1 (idK e.1)).1 ∧ ∀ id, id ≠ idK e.1 → ldS (saveE T.1 e).1 id = ldS T.1 id := by
    by_cases hd : e.2.2.1 = true
    · have hid := idK_pos qi
      have hle := chunk_le g1 g2
      obtain ⟨s1, s2, s3, ⟨v, -, s4⟩, s5⟩ := h.s.save (id := idK e.1) (body := wrB (ofC e.2.1)) (by omega) q1 q2 (by omega) (by omega) (by omega)
      have e1 : saveE T.1 e = ((svS T.1 (idK e.1) (wrB (ofC e.2.1))).1, (e.1, e.2.1, decide ((svS T.1 (idK e.1) (wrB (ofC e.2.1))).2 ≠ 0), e.2.2.2), (svS T.1 (idK e.1) (wrB (ofC e.2.1))).2) := by unfold saveE; rw [if_pos hd]
      rw [e1]
      refine ⟨s1, by rw [s1]; rfl, s2, ?_, fun id hne => ldS_of (s5 id hne)⟩
      simp only
      rw [s4]
      exact (cellsB_wr seed e.1 g1 g2).symm
    · have e1 : saveE T.1 e = (T.1, e, 0) := by unfold saveE; rw [if_neg hd]
      have hd' : e.2.2.1 = false := by simpa using hd
      rw [e1]
      refine ⟨rfl, ?_, ⟨h.s.c, h.s.ok, h.s.k, h.s.ml, fun id => Int.le_trans (h.s.v id) (by omega), h.s.r⟩, h.cl e hm hd', fun _ _ => rfl⟩
      obtain ⟨a, b, c, d⟩ := e
      simp only at hd'
      rw [hd']
  obtain ⟨s1, s2, s3, s4, s5⟩ := hsave
  rw [s2]
  generalize (saveE T.1 e).1 = D' at *
  have hmem := mem_set h.nod hi (e' := (e.1, e.2.1, false, e.2.2.2)) rfl
  have hnd := nod_set h.nod hi (e' := (e.1, e.2.1, false, e.2.2.2)) rfl
  refine ⟨s1, rfl, ⟨s3, hnd, fun x hx => ?_, fun x hx => ?_, h.q, fun x hx hc => ?_⟩, fun p => ?_⟩
  · rcases (hmem x).1 hx with rfl | ⟨hx, -⟩
    · exact ⟨g1, g2⟩
    · exact h.good x hx
  · rcases (hmem x).1 hx with rfl | ⟨hx, -⟩
    · exact h.pl e hm
    · exact h.pl x hx
  · rcases (hmem x).1 hx with rfl | ⟨hx, hne⟩
    · exact s4
    · rw [s5 _ (id_ne qi hne)]; exact h.cl x hx hc
  · by_cases hp : here1 T.2 p
    · obtain ⟨x, hx, rfl⟩ := hp
      rw [tru_here h.nod hx]
      by_cases q : x.1 = e.1
      · have : x = e := by
          have a := (find_iff h.nod).2 ⟨hx, q⟩
          have b := (find_iff h.nod).2 ⟨hm, rfl⟩
          rw [a] at b; exact Option.some.inj b
        subst this
        exact tru_here (T := (D', T.2.set i (x.1, x.2.1, false, x.2.2.2))) (e := (x.1, x.2.1, false, x.2.2.2)) hnd ((hmem _).2 (.inl rfl))
      · exact tru_here (T := (D', T.2.set i (e.1, e.2.1, false, e.2.2.2))) (e := x) hnd ((hmem x).2 (.inr ⟨hx, q⟩))
    · have hp' : ¬ here1 (T.2.set i (e.1, e.2.1, false, e.2.2.2)) p := by
        rintro ⟨x, hx, rfl⟩
        rcases (hmem x).1 hx with rfl | ⟨hx, -⟩
        · exact hp ⟨e, hm, rfl⟩
        · exact hp ⟨x, hx, rfl⟩
      rw [tru_not hp, tru_not (T := (D', T.2.set i (e.1, e.2.1, false, e.2.2.2))) hp']
      simp only
      rw [s5 _ (id_ne qi fun q => hp ⟨e, hm, q.symm⟩)]
/-- A clean chunk goes. -/
theorem Tru.erase {seed : Int} {K : List Int} {n : Nat} {Q : Po → Prop} {T : Tb} (h : Tru seed K n Q T) {i : Nat} {e : En} (hi : T.2[i]? = some e) (hc : e.2.2.1 = false) :
    Tru seed K n Q (T.1, T.2.eraseIdx i) ∧ ∀ p, tru seed (T.1, T.2.eraseIdx i) p = tru seed T p := by
  have hm := List.mem_of_getElem? hi
  have hmem := mem_erase h.nod hi
  have hnd := nod_erase h.nod i
  refine ⟨⟨h.s, hnd, fun x hx => h.good x ((hmem x).1 hx).1, fun x hx => h.pl x ((hmem x).1 hx).1, h.q, fun x hx => h.cl x ((hmem x).1 hx).1⟩, fun p => ?_⟩
  by_cases hp : here1 (T.2.eraseIdx i) p
  · obtain ⟨x, hx, rfl⟩ := hp
    rw [tru_here (T := (T.1, T.2.eraseIdx i)) hnd hx, tru_here h.nod ((hmem x).1 hx).1]
  · rw [tru_not (T := (T.1, T.2.eraseIdx i)) hp]
    by_cases q : e.1 = p
    · subst q
      rw [tru_here h.nod hm]; exact (h.cl e hm hc).symm
    · rw [tru_not]
      rintro ⟨x, hx, rfl⟩
      exact hp ⟨x, (hmem x).2 ⟨hx, fun q2 => q q2.symm⟩, rfl⟩
/-- A chunk is saved, and goes. -/
theorem Tru.go {seed : Int} {K : List Int} {n : Nat} {Q : Po → Prop} {T : Tb} (h : Tru seed K n Q T) (hn : n < 1000000000) {i : Nat} {e : En} (hi : T.2[i]? = some e) :
    goE T.1 T.2 i = (((saveE T.1 e).1, T.2.eraseIdx i), 0) ∧ Tru seed K (n + 1) Q ((saveE T.1 e).1, T.2.eraseIdx i) ∧ ∀ p, tru seed ((saveE T.1 e).1, T.2.eraseIdx i) p = tru seed T p := by
  obtain ⟨s1, s2, s3, s4⟩ := h.save hn hi
  have hil := (List.getElem?_eq_some_iff.1 hi).1
  obtain ⟨t1, t2⟩ := s3.erase (i := i) (e := (saveE T.1 e).2.1) (List.getElem?_set_self hil) (by rw [s2])
  simp only [List.eraseIdx_set_eq] at t1 t2
  exact ⟨by rw [goE_at hi, if_pos s1], t1, fun p => (t2 p).trans (s4 p)⟩
theorem tru_mem {seed : Int} {D : Dk} {l l' : List En} (hn : nodL l) (hn' : nodL l') (hm : ∀ x, x ∈ l' ↔ x ∈ l) (p : Po) : tru seed (D, l') p = tru seed (D, l) p := by
  by_cases hp : here1 l p
  · obtain ⟨x, hx, rfl⟩ := hp
    rw [tru_here (T := (D, l)) hn hx, tru_here (T := (D, l')) hn' ((hm x).2 hx)]
  · rw [tru_not (T := (D, l)) hp, tru_not (T := (D, l')) fun ⟨x, hx, e⟩ => hp ⟨x, (hm x).1 hx, e⟩]
/-- A chunk stands behind all others. -/
theorem Tru.touch {seed : Int} {K : List Int} {n : Nat} {Q : Po → Prop} {T : Tb} (h : Tru seed K n Q T) {i : Nat} {e : En} (hi : T.2[i]? = some e) :
    Tru seed K n Q (T.1, T.2.eraseIdx i ++ [e]) ∧ (∀ p, tru seed (T.1, T.2.eraseIdx i ++ [e]) p = tru seed T p) ∧ ∀ x, x ∈ T.2.eraseIdx i ++ [e] ↔ x ∈ T.2 := by
  have hm := List.mem_of_getElem? hi
  have hmem := mem_erase h.nod hi
  have hall : ∀ x, x ∈ T.2.eraseIdx i ++ [e] ↔ x ∈ T.2 := fun x => by
    simp only [List.mem_append, List.mem_singleton]
    constructor
    · rintro (q | rfl)
      · exact ((hmem x).1 q).1
      · exact hm
    · intro hx
      by_cases q : x.1 = e.1
      · right
        have a := (find_iff h.nod).2 ⟨hx, q⟩
        have b := (find_iff h.nod).2 ⟨hm, rfl⟩
        rw [a] at b; exact Option.some.inj b
      · exact .inl ((hmem x).2 ⟨hx, q⟩)
  have hnd : nodL (T.2.eraseIdx i ++ [e]) := nod_push (nod_erase h.nod i) fun ⟨x, hx, q⟩ => ((hmem x).1 hx).2 q
  exact ⟨⟨h.s, hnd, fun x hx => h.good x ((hall x).1 hx), fun x hx => h.pl x ((hall x).1 hx), h.q, fun x hx => h.cl x ((hall x).1 hx)⟩, fun p => tru_mem h.nod hnd hall p, hall⟩
end Go.Proofs.YtbnmglonbhdcbaaGreatDoor
namespace Go.Proofs.YtbnmglonbhdcbaaGreatDoor
open Go Go.Vc Go.RowKit Go.Proofs Go.Chk Go.Runs Go.Code

/-- A table, made since w0, of which this is told. -/
def TI (w0 w : World) (t : Nat) (seed limit : Int) (T : Tb) : Prop := ∃ F, TF F w t seed limit T ∧ Ext w0 w ∧ ∀ i, F i → w0.heap.size ≤ i
/-- Boxes that are no table's stay. -/
def KX (w w' : World) : Prop := ∀ j cs τ, Row w j cs τ → offT τ → w'.heap[j]? = w.heap[j]?
theorem KX.of_ext {w w' : World} (x : Ext w w') : KX w w' := fun _ _ _ h _ => x.heap h.lt
theorem KX.row {w w' : World} (h : KX w w') {j : Nat} {cs : List Value} {τ : TypeId} (hr : Row w j cs τ) (hτ : offT τ) : Row w' j cs τ := hr.same (h _ _ _ hr hτ)
theorem KX.trans {a b c : World} (h : KX a b) (k : KX b c) : KX a c := fun j cs τ hr hτ => (k j cs τ (h.row hr hτ) hτ).trans (h j cs τ hr hτ)
section
variable {w0 w w' : World} {t : Nat} {seed limit : Int} {T : Tb}
theorem TI.x (h : TI w0 w t seed limit T) : Ext w0 w := by obtain ⟨F, h1, h2, h3⟩ := h; exact h2
theorem TI.ext (h : TI w0 w t seed limit T) (x : Ext w w') : TI w0 w' t seed limit T := by
  obtain ⟨F, h1, h2, h3⟩ := h
  exact ⟨F, h1.ext x, h2.tr x, h3⟩
theorem TI.len (h : TI w0 w t seed limit T) : (T.2.length : Int) ≤ limit ∧ 1 ≤ limit ∧ limit ≤ 16 := by obtain ⟨F, h1, -, -⟩ := h; exact h1.len
theorem TI.good (h : TI w0 w t seed limit T) : goodL T.2 := by obtain ⟨F, h1, -, -⟩ := h; exact h1.good
theorem TI.ok (h : TI w0 w t seed limit T) : DkOk T.1 := by obtain ⟨F, h1, -, -⟩ := h; exact h1.ok
abbrev TIRes (w0 w : World) (t : Nat) (seed limit : Int) (T : Tb) (w' : World) : Prop := TI w0 w' t seed limit T ∧ KX w w'
theorem ti_of {F : Nat → Prop} {T' : Tb} (h : TF F w t seed limit T) (x : Ext w0 w) (hf : ∀ i, F i → w0.heap.size ≤ i) (hr : TRes F w t seed limit T' w') : TIRes w0 w t seed limit T' w' := by
  obtain ⟨F', h', ht⟩ := hr
  obtain ⟨x', f'⟩ := ht.fresh x hf
  exact ⟨⟨F', h', x', f'⟩, fun j cs τ hr hτ => ht.mod.same j hr.lt (h.no_row hr hτ)⟩
theorem tiLoad_spec (h : TI w0 w t seed limit T) (hW : T.1.l.length ≤ 1000000) (p : Po) :
    Calls Tryz.prog n_table_Table_Load #[.pointer (some ⟨t, 0, none⟩), pv p] w fun e w' => e = .returned (.int .i64 (ldE seed limit T.1 T.2 p).2) ∧ TIRes w0 w t seed limit (ldE seed limit T.1 T.2 p).1 w' := by
  obtain ⟨F, h1, h2, h3⟩ := h
  refine (tfLoad_spec h1 hW p).mono ?_
  rintro e w' ⟨rfl, hr⟩
  exact ⟨rfl, ti_of h1 h2 h3 hr⟩
theorem tiUnload_spec (h : TI w0 w t seed limit T) (hW : T.1.l.length ≤ 1000000) (p : Po) :
    Calls Tryz.prog n_table_Table_Unload #[.pointer (some ⟨t, 0, none⟩), pv p] w fun e w' => e = .returned (.int .i64 (unldE T.1 T.2 p).2) ∧ TIRes w0 w t seed limit (unldE T.1 T.2 p).1 w' := by
  obtain ⟨F, h1, h2, h3⟩ := h
  refine (tfUnload_spec h1 hW p).mono ?_
  rintro e w' ⟨rfl, hr⟩
  exact ⟨rfl, ti_of h1 h2 h3 hr⟩
theorem tiFlush_spec (h : TI w0 w t seed limit T) (hW : T.1.l.length ≤ 1000000) (p : Po) :
    Calls Tryz.prog n_table_Table_Flush #[.pointer (some ⟨t, 0, none⟩), pv p] w fun e w' => e = .returned (.int .i64 (flE T.1 T.2 p).2) ∧ TIRes w0 w t seed limit (flE T.1 T.2 p).1 w' := by
  obtain ⟨F, h1, h2, h3⟩ := h
  refine (tfFlush_spec h1 hW p).mono ?_
  rintro e w' ⟨rfl, hr⟩
  exact ⟨rfl, ti_of h1 h2 h3 hr⟩
theorem tiFlushAll_spec (h : TI w0 w t seed limit T) (hW : T.1.l.length ≤ 900000) :
    Calls Tryz.prog n_table_Table_FlushAll #[.pointer (some ⟨t, 0, none⟩)] w fun e w' => e = .returned (.tuple #[.int .i64 (flallE T.1 T.2).2.1, .int .i64 (flallE T.1 T.2).2.2]) ∧ TIRes w0 w t seed limit (flallE T.1 T.2).1 w' := by
  obtain ⟨F, h1, h2, h3⟩ := h
  refine (tfFlushAll_spec h1 hW).mono ?_
  rintro e w' ⟨rfl, hr⟩
  exact ⟨rfl, ti_of h1 h2 h3 hr⟩
theorem tiCrash_spec (h : TI w0 w t seed limit T) (hW : T.1.l.length ≤ 1000000) (hL : lenB T.1.l ≤ 1099511627776) (keep : Int) :
    Calls Tryz.prog n_table_Table_Crash #[.pointer (some ⟨t, 0, none⟩), .int .i64 keep] w fun e w' => e = .returned (.int .i64 (crashD T.1 keep).2) ∧ TIRes w0 w t seed limit ((crashD T.1 keep).1, []) w' := by
  obtain ⟨F, h1, h2, h3⟩ := h
  refine (tfCrash_spec h1 hW hL keep).mono ?_
  rintro e w' ⟨rfl, hr⟩
  exact ⟨rfl, ti_of h1 h2 h3 hr⟩
theorem tiDirty_spec (h : TI w0 w t seed limit T) (p : Po) :
    Calls Tryz.prog n_table_Table_Dirty #[.pointer (some ⟨t, 0, none⟩), pv p] w fun e w' => e = .returned (.bool (dirtyE T.2 p)) ∧ Ext w w' := by
  obtain ⟨F, h1, h2, h3⟩ := h
  exact tfDirty_spec h1 p
theorem tiAt_spec (h : TI w0 w t seed limit T) (c : Ce) (hc : okC c) :
    Calls Tryz.prog n_table_Table_At #[.pointer (some ⟨t, 0, none⟩), cev c] w fun e w' => e = .returned (.int .i64 (atE T.2 c)) ∧ Ext w w' := by
  obtain ⟨F, h1, h2, h3⟩ := h
  exact tfAt_spec h1 c hc
theorem tiSet_spec (h : TI w0 w t seed limit T) (c : Ce) (hc : okC c) (b : Int) :
    Calls Tryz.prog n_table_Table_Set #[.pointer (some ⟨t, 0, none⟩), cev c, .int .i64 b] w fun e w' => e = .returned (.int .i64 (setE T.2 c b).2) ∧ TIRes w0 w t seed limit (T.1, (setE T.2 c b).1) w' := by
  obtain ⟨F, h1, h2, h3⟩ := h
  refine (tfSet_spec h1 c hc b).mono ?_
  rintro e w' ⟨rfl, hr⟩
  exact ⟨rfl, ti_of h1 h2 h3 hr⟩
theorem tiPin_spec (h : TI w0 w t seed limit T) (hp : ∀ y ∈ T.2, -1000000000 ≤ y.2.2.2 ∧ y.2.2.2 ≤ 1000000000) (p : Po) :
    Calls Tryz.prog n_table_Table_Pin #[.pointer (some ⟨t, 0, none⟩), pv p] w fun e w' => e = .returned (.int .i64 (pinE T.2 p).2) ∧ TIRes w0 w t seed limit (T.1, (pinE T.2 p).1) w' := by
  obtain ⟨F, h1, h2, h3⟩ := h
  have h1' := h1
  obtain ⟨st, d, r, sl, its, g1, e, rfl⟩ := h1
  rw [← e] at hp ⊢
  refine (Pin_spec g1 (fun y hy => hp _ (List.mem_map.2 ⟨y, hy, rfl⟩)) p).mono ?_
  rintro e w' ⟨rfl, hl⟩
  exact ⟨rfl, ti_of h1' h2 h3 (tf_of hl)⟩
end
theorem tiNew_spec (seed limit room : Int) (w : World) : Calls Tryz.prog n_table_New #[.int .i64 seed, .int .i64 limit, .int .i64 room] w fun e w' => ∃ t, e = .returned (.pointer (some ⟨t, 0, none⟩)) ∧ TI w w' t seed (min (max limit 1) 16) (dk0 room, []) ∧ Ext w w' := by
  refine (tfNew_spec seed limit room w).mono ?_
  rintro e w' ⟨t, F, rfl, h, x, hf⟩
  exact ⟨t, rfl, ⟨F, h, x, hf⟩, x⟩
/-- The first chunk that comes to a new table. -/
theorem ld_first (seed limit room : Int) (hl : 1 ≤ limit) {p : Po} (hp : inT p) : ldE seed limit (dk0 room) [] p = ((dk0 room, [(p, made seed p, false, 0)]), 0) := by
  have hr : roomE limit (dk0 room) [] = ((dk0 room, []), 0) := by unfold roomE; rw [if_pos (by simp; omega)]
  have hd : (ldS (dk0 room) (idK p)).1 = [] := by unfold dk0; rw [ldS_new]
  unfold ldE
  rw [if_neg (by simpa using hp), if_neg (by simp [firstI]), hr, if_neg (by simp)]
  simp only [List.nil_append, hd, cellsB_nil]
theorem lives12_spec (w : World) : Calls Tryz.prog n_law12_lives #[] w fun e w' => e = .returned (.bool true) ∧ Ext w w' := by
  apply law12_lives.vc
  refine (tiNew_spec 0 1 0 w).mono ?_
  rintro e w0 ⟨t, rfl, h0, x0⟩
  have hlim : (min (max (1 : Int) 1) 16) = 1 := by decide
  rw [hlim] at h0
  refine ⟨_, rfl, Br.mk (fun h => by cases h) (fun _ => (tiLoad_spec h0 (by decide) (0, 0)).mono ?_)⟩
  rintro e w2 ⟨rfl, h2, -⟩
  have e1 : ldE 0 1 (dk0 0) [] (0, 0) = ((dk0 0, [((0, 0), made 0 (0, 0), false, 0)]), 0) := ld_first 0 1 0 (by decide) (by decide)
  have e1' : ldE 0 1 ((dk0 0, ([] : List En)) : Tb).1 ((dk0 0, ([] : List En)) : Tb).2 (0, 0) = ((dk0 0, [((0, 0), made 0 (0, 0), false, 0)]), 0) := e1
  rw [e1'] at h2 ⊢
  generalize made 0 (0, 0) = M at *
  refine ⟨_, rfl, (tiPin_spec h2 (fun y hy => by simp at hy; subst hy; show (-1000000000 : Int) ≤ 0 ∧ (0 : Int) ≤ 1000000000; decide) (0, 0)).mono ?_⟩
  rintro e w4 ⟨rfl, h4, -⟩
  have hp : pinE [(((0, 0), M, false, 0) : En)] (0, 0) = ([((0, 0), M, false, 1)], 0) := rfl
  have h4 : TI w w4 t 0 1 (dk0 0, (pinE [(((0, 0), M, false, 0) : En)] (0, 0)).1) := h4
  rw [hp] at h4
  refine ⟨_, rfl, yes rfl (yes (by show ((pinE [(((0, 0), M, false, 0) : En)] (0, 0)).2 == 0) = true; rw [hp]; rfl) ((tiLoad_spec h4 (Nat.zero_le _) (0, 1)).mono ?_))⟩
  rintro e w6 ⟨rfl, h6, -⟩
  have hr : roomE 1 (dk0 0) [(((0, 0), M, false, 1) : En)] = ((dk0 0, [((0, 0), M, false, 1)]), 8) := by
    unfold roomE
    rw [if_neg (by simp), if_pos (by simp [firstI])]
  have hl : ldE 0 1 (dk0 0) [(((0, 0), M, false, 1) : En)] (0, 1) = ((dk0 0, [((0, 0), M, false, 1)]), 8) := by
    unfold ldE
    rw [if_neg (by decide), if_neg (by simp [firstI]), if_pos (by rw [hr]; simp), hr]
  refine ⟨_, rfl, ?_, h6.x⟩
  show Ending.returned (.bool ((ldE 0 1 (dk0 0) [(((0, 0), M, false, 1) : En)] (0, 1)).2 == 8)) = _
  rw [hl]
  rfl
end Go.Proofs.YtbnmglonbhdcbaaGreatDoor
