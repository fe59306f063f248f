import Derived.Test.YtfipllblcnahdaaDoorKV
set_option linter.all false
namespace Go.Proofs.YtfipllblcnahdaaDoor
open Go Go.Vc Go.RowKit Go.Proofs Go.Chk Go.Runs

/-- A deed: its kind, its block, its two cells. -/
abbrev De := Int × Int × Ce × Ce
abbrev dev (d : De) : Value := .agg #[.int .i64 d.1, .int .i64 d.2.1, .int .i64 d.2.2.1.1, .int .i64 d.2.2.1.2.1, .int .i64 d.2.2.1.2.2, .int .i64 d.2.2.2.1, .int .i64 d.2.2.2.2.1, .int .i64 d.2.2.2.2.2]
def deedK (p : Po) (C : List Int) (d : De) : List Int := if d.1 = 0 then (kFill p C (nearK p d.2.2.1) (nearK p d.2.2.2) d.2.1).1 else (kSet p C (nearK p d.2.2.1) d.2.1).1
theorem deedK_ok {p : Po} {C : List Int} (hl : C.length = 8192) (hm : ∀ b ∈ C, bMay b = true) (d : De) : (deedK p C d).length = 8192 ∧ ∀ x ∈ deedK p C d, bMay x = true := by
  unfold deedK
  split
  · exact kFill_ok hl hm _ _ _
  · exact kSet_ok hl hm _ _
theorem mod_set {F : Nat → Prop} {w w1 w2 : World} (h : Mod F w w1) {g : Nat} {cs : Array Value} (e : w2 = w1.setRow g cs) (hg : w.heap.size ≤ g) : Mod F w w2 := by
  subst e
  exact ⟨h.os, h.tape, h.output, by rw [setRow_size]; exact h.size, fun i hi hn => by rw [setRow_other _ _ _ _ (by omega)]; exact h.same i hi hn⟩
theorem KIs.set {w1 w2 : World} {g : Nat} {s : Sl} {p : Po} {C : List Int} (h : KIs w1 g s p C) {j : Nat} {cs : List Value} {c2 : Array Value} {t : TypeId} (hr : Row w1 j cs t) (ht : t ≠ tChunk ∧ t ≠ tRun) (e : w2 = w1.setRow j c2) : KIs w2 g s p C := by
  refine ⟨h.row.same ?_, OwnK.keep h.own fun b hb => ?_, h.len, h.may⟩
  · rw [e]; exact setRow_other _ _ _ _ (fun e => (h.row.ne hr ht.1.symm) e)
  · obtain ⟨cs', hr'⟩ := own_row h.own (by decide) hb
    rw [e]; exact setRow_other _ _ _ _ (fun e => (hr'.ne hr ht.2.symm) e)
theorem own_set {w1 w2 : World} {s : Sl} {l : List Rn} (h : OwR 0 w1 s l) {j : Nat} {cs : List Value} {c2 : Array Value} {t : TypeId} (hr : Row w1 j cs t) (ht : t ≠ tRun) (e : w2 = w1.setRow j c2) : OwR 0 w2 s l := OwnK.keep h fun b hb => by
  obtain ⟨cs', hr'⟩ := own_row h (by decide) hb
  rw [e]; exact setRow_other _ _ _ _ (fun e => (hr'.ne hr ht.symm) e)
theorem does_spec {w : World} {g : Nat} {s sr : Sl} {p : Po} {C : List Int} (h : KIs w g s p C) (ho : OwR 0 w sr (ofC C)) (hp : okP p) (hsm : smallP p) (d : De) :
    Calls Tryd.prog n_law11_does #[.pointer (some ⟨g, 0, none⟩), kv p sr, dev d] w fun e w' => (∃ sr', e = .returned (.tuple #[kv p sr', .bool true]) ∧ OwR 0 w' sr' (ofC (deedK p C d))) ∧ ∃ s', KIs w' g s' p (deedK p C d) ∧ Mod (fun i => i = g) w w' ∧ (∀ i, s'.blk = some i → s.blk = some i ∨ w.heap.size ≤ i) := by
  apply law11_does.vc
  have hgl := h.row.lt
  intro w0 e0 w1 e1 w2 e2
  have z0 : w0.heap.size = w.heap.size + 1 := by rw [e0]; simp
  have z1 : w1.heap.size = w.heap.size + 2 := by rw [e1]; simp [z0]
  have z2 : w2.heap.size = w.heap.size + 3 := by rw [e2]; simp [z1]
  have x2 : Ext w w2 := (((Ext.rfl' w).of_alloc e0).of_alloc e1).of_alloc e2
  have hb2 : Row w2 w1.heap.size [.int .i64 0, .int .i64 0, .slice none 0 0] tK := by rw [e2]; exact Row.new w1 [_, _, _] _
  clear e0 e1 e2
  refine (Near_spec p hp d.2.2.1 w2).mono ?_
  rintro e w3 ⟨rfl, x3⟩
  have z3 := x3.size
  refine ⟨_, _, _, rfl, x3.heap (by omega), x3.heap (by omega), x3.heap (by omega), ?_⟩
  intro w7 e7 w8 e8
  have x8 : Ext w3 w8 := ((Ext.rfl' _).of_alloc e7).of_setRow e8 (Nat.le_refl _)
  have z8 : w8.heap.size = w3.heap.size + 1 := by rw [e8, setRow_size, e7]; simp
  have x08 := x2.tr (x3.tr x8)
  have hb8 := hb2.ext (x3.tr x8)
  clear e7 e8
  have hok1 := near_ok hp d.2.2.1
  generalize hc : nearK p d.2.2.1 = c at *
  refine Br.mk (fun hk => ?_) (fun hk => ?_)
  · have hd0 : d.1 = 0 := by simpa using hk
    refine (Near_spec p hp d.2.2.2 w8).mono ?_
    rintro e w9 ⟨rfl, x9⟩
    have z9 := x9.size
    refine ⟨_, _, _, rfl, x9.heap (by omega), x9.heap (by omega), x9.heap (by omega), x9.heap (by omega), ?_⟩
    generalize hc2 : nearK p d.2.2.2 = c2 at *
    have hD : deedK p C d = (kFill p C c c2 d.2.1).1 := by unfold deedK; rw [if_pos hd0, hc, hc2]
    rw [hD]
    intro w13 e13 w14 e14
    have x14 : Ext w9 w14 := ((Ext.rfl' _).of_alloc e13).of_setRow e14 (Nat.le_refl _)
    have z14 : w14.heap.size = w9.heap.size + 1 := by rw [e14, setRow_size, e13]; simp
    have x014 := x08.tr (x9.tr x14)
    have hb14 := hb8.ext (x9.tr x14)
    clear e13 e14
    refine (rFill_spec (OwnK.ext ho x014) h.len hp c c2 d.2.1).mono ?_
    rintro e w15 ⟨⟨s18, rfl, o18⟩, x15⟩
    have z15 := x15.size
    refine ⟨_, _, s18, _, _, rfl, x15.heap (by omega), x15.heap (by omega), x15.heap (by omega), x15.heap (by omega), x15.heap (by omega), ?_⟩
    intro w21 e21 w22 e22
    have x22 : Ext w15 w22 := ((Ext.rfl' _).of_alloc e21).of_setRow e22 (Nat.le_refl _)
    have z22 : w22.heap.size = w15.heap.size + 1 := by rw [e22, setRow_size, e21]; simp
    have x022 := x014.tr (x15.tr x22)
    have hb22 := hb14.ext (x15.tr x22)
    have o22 : OwR 0 w22 s18 _ := OwnK.ext o18 x22
    clear e21 e22
    refine (Fill_spec (h.ext x022) hsm c c2 d.2.1).mono ?_
    rintro e w23 ⟨rfl, s24, h24, m24, f24⟩
    have hz := m24.size
    have ne : ∀ j, w.heap.size ≤ j → j < w22.heap.size → w23.heap[j]? = w22.heap[j]? := fun j h1 h2 => m24.same j h2 (by omega)
    have hsame : ∀ j, w.heap.size ≤ j → j < w22.heap.size → w23.heap[j]? = w22.heap[j]? := ne
    refine ⟨_, _, rfl, ne _ (by omega) (by omega), ne _ (by omega) (by omega), ne _ (by omega) (by omega), ne _ (by omega) (by omega), ne _ (by omega) (by omega), ne _ (by omega) (by omega), Br.mk (fun _ => ?_) (fun h => by simp at h)⟩
    intro w26 e26
    have hb23 := hb22.same (ne _ (by omega) (by omega))
    have o23 : OwR 0 w23 s18 _ := m24.ownK o22 fun i hi => by
      obtain ⟨cs', hr'⟩ := own_row o22 (by decide) hi
      exact hr'.ne (h.row.ext x022) (by decide)
    refine ⟨⟨s18, by simp, own_set o23 hb23 (by decide) e26⟩, s24, h24.set hb23 (by decide) e26, ?_, fun i hi => ?_⟩
    · exact mod_set ((Mod.of_ext x022).trans m24) e26 (by omega)
    · rcases f24 i hi with h1 | h1
      · exact .inl h1
      · exact .inr (by have := x022.size; omega)
  · have hd0 : d.1 ≠ 0 := by simpa using hk
    have hD : deedK p C d = (kSet p C c d.2.1).1 := by unfold deedK; rw [if_neg hd0, hc]
    rw [hD]
    refine (rSet_spec (OwnK.ext ho x08) h.len c hok1 d.2.1).mono ?_
    rintro e w28 ⟨⟨s31, rfl, o31⟩, x28⟩
    have z28 := x28.size
    refine ⟨_, _, s31, _, rfl, x28.heap (by omega), x28.heap (by omega), x28.heap (by omega), x28.heap (by omega), ?_⟩
    intro w33 e33 w34 e34
    have x34 : Ext w28 w34 := ((Ext.rfl' _).of_alloc e33).of_setRow e34 (Nat.le_refl _)
    have z34 : w34.heap.size = w28.heap.size + 1 := by rw [e34, setRow_size, e33]; simp
    have hr34 : Row w34 w28.heap.size [.int .i64 p.1, .int .i64 p.2, .slice s31.a s31.n s31.c] tK := by
      have : Row w33 w28.heap.size [.int .i64 0, .int .i64 0, .slice none 0 0] tK := by rw [e33]; exact Row.new w28 [_, _, _] _
      rw [e34]; exact this.set [_, _, _]
    have x034 := x08.tr (x28.tr x34.drew)
    have hb34 := hb8.ext (x28.tr x34.drew)
    have o34 : OwR 0 w34.drew s31 _ := OwnK.ext o31 x34.drew
    have zd : w34.drew.heap.size = w34.heap.size := rfl
    clear e33 e34
    refine (Set_spec (h.ext x034) c hok1 d.2.1).mono ?_
    rintro e w35 ⟨rfl, s36, h36, m36, f36⟩
    have hz := m36.size
    have ne : ∀ j, w.heap.size ≤ j → j < w34.heap.size → w35.heap[j]? = w34.drew.heap[j]? := fun j h1 h2 => m36.same j h2 (by omega)
    have hr35 : Row w35 w28.heap.size [.int .i64 p.1, .int .i64 p.2, .slice s31.a s31.n s31.c] tK := (rdrew hr34).same (ne _ (by omega) (by omega))
    refine ⟨_, rfl, ne _ (by omega) (by omega), ne _ (by omega) (by omega), ne _ (by omega) (by omega), ne _ (by omega) (by omega), ne _ (by omega) (by omega), hr35.loadL (fun j hj => by rw [Nat.zero_add]), ?_⟩
    intro w37 e37
    have hb35 := hb34.same (ne _ (by omega) (by omega))
    have o35 : OwR 0 w35 s31 _ := m36.ownK o34 fun i hi => by
      obtain ⟨cs', hr'⟩ := own_row o34 (by decide) hi
      exact hr'.ne (h.row.ext x034) (by decide)
    refine ⟨⟨s31, by simp, own_set o35 hb35 (by decide) e37⟩, s36, h36.set hb35 (by decide) e37, ?_, fun i hi => ?_⟩
    · exact mod_set ((Mod.of_ext x034).trans m36) e37 (by omega)
    · rcases f36 i hi with h1 | h1
      · exact .inl h1
      · exact .inr (by have := x034.size; omega)
end Go.Proofs.YtfipllblcnahdaaDoor
