import Derived.Test.YtbphdgiepimmkaaDoorQB
set_option linter.all false
namespace Go.Proofs.YtbphdgiepimmkaaDoor
open Go Go.Vc Go.RowKit Go.Proofs Go.Runs Go.Code

theorem mono_flat (b : List Int) : (b.map yv).flatten = b.map (Value.int .u8) := by
  induction b with
  | nil => rfl
  | cons c b ih => simp only [List.map_cons, List.flatten_cons, ih]; rfl
/-- What Write answers. -/
abbrev WrRes (B : Nat) (l : List Rn) (e : Ending) (w' : World) : Prop :=
  ∃ s : Sl, e = .returned (.tuple #[.slice s.a s.n s.c, .int .i64 (if okW bMay l then 0 else 1)]) ∧ OwY B w' s (if okW bMay l then wrB l else [])
theorem chkL_cons (left : Int) (r : Rn) (t : List Rn) : chkL left (r :: t) = if r.1 < 1 ∨ r.1 > left then false else chkL (left - r.1) t := rfl
theorem ref06_Write_spec (s : Sl) (l : List Rn) (w : World) (hs : RdR w s l) (hb : l.length ≤ 2000000) (hl : ∀ r ∈ l, inI r.1 ∧ inI r.2) :
    Calls Tryd.prog n_ref06_Write #[.slice s.a s.n s.c] w fun e w' => WrRes w.heap.size l e w' ∧ Ext w w' := by
  have hsn := RdR.len hs
  apply ref06_Write.vc
  refine ⟨fun n x y wr => ∃ k : Nat, x = k ∧ k + n = l.length ∧ Ext w wr ∧ 0 ≤ y ∧ y ≤ 1048576 ∧ y = sumR (l.take k) ∧ chkL (1048576 - y) (l.drop k) = chkL 1048576 l, ⟨l.length, 0, rfl, by omega, Ext.rfl' w, by omega, by omega, rfl, rfl⟩, ?_⟩
  rintro n us x y wr ⟨k, rfl, hk, xr, y0, y1, rfl, heq⟩
  have hw := wrap_in (n := (k : Int) + 1) (by unfold inI; omega)
  refine Br.mk (fun h => ?_) (fun h => ?_) <;> simp only [decide_eq_true_eq, decide_eq_false_iff_not] at h
  · obtain ⟨r, hr⟩ := get_lt (l := l) (i := k) (by omega)
    have hd := drop_cons hr
    rw [hd, chkL_cons] at heq
    have hin := RdR.inB hs (i := k) (by omega)
    have hsm := RdR.some hs (i := k) (by omega)
    have hc := RdR.c0 (hs.ext xr) hr
    have hw2 := wrap_in (n := 1048576 - sumR (l.take k)) (by unfold inI; omega)
    have bad : (r.1 < 1 ∨ r.1 > 1048576 - sumR (l.take k)) → WrRes w.heap.size l (.returned (.tuple #[.slice none 0 0, .int .i64 1])) wr ∧ Ext w wr := by
      intro hh
      rw [if_pos hh] at heq
      have : okW bMay l = false := by unfold okW; rw [← heq]; rfl
      refine ⟨⟨⟨none, 0, 0⟩, by rw [this]; rfl, by rw [this]; exact OwnK.nil⟩, xr⟩
    rw [hw2]
    refine ⟨hin, AndL_nn.2 ⟨hsm, _, hc, Br.mk (fun h1 => ?_) (fun h1 => ⟨hin, AndL_nn.2 ⟨hsm, _, hc, Br.mk (fun h2 => ?_) (fun h2 => ⟨hin, AndL_nn.2 ⟨hsm, _, hc, ?_⟩⟩)⟩⟩)⟩⟩ <;> simp only [decide_eq_true_eq, decide_eq_false_iff_not] at h1
    · exact bad (.inl h1)
    · simp only [decide_eq_true_eq] at h2
      exact bad (.inr h2)
    · simp only [decide_eq_false_iff_not] at h2
      have hw3 := wrap_in (n := sumR (l.take k) + r.1) (by unfold inI; omega)
      rw [if_neg (by omega)] at heq
      have e := sumR_take_succ hr
      refine ⟨n - 1, by omega, k + 1, by omega, by omega, xr, by omega, by omega, by omega, ?_⟩
      rw [← heq, hw3, ← Int.sub_sub]
  · have hkl : k = l.length := by omega
    subst hkl
    rw [List.drop_length] at heq
    rw [List.take_length] at y0 y1 ⊢
    have hchk : chkL 1048576 l = true := by rw [← heq]; rfl
    have hpos := (chkL_pos hchk).1
    refine (ref05_May_spec s l (sumR l) wr (hs.ext xr) (by unfold Bd; omega) (by unfold inI; omega)).mono ?_
    rintro e w1 ⟨rfl, x1⟩
    have hok : okW bMay l = mayR bMay l (sumR l) := by unfold okW; rw [hchk]; rfl
    have x01 := xr.tr x1
    refine ⟨_, rfl, Br.mk (fun h2 => ?_) (fun h2 => ?_)⟩
    · have : okW bMay l = false := by rw [hok]; simpa using h2
      exact ⟨⟨⟨none, 0, 0⟩, by rw [this]; rfl, by rw [this]; exact OwnK.nil⟩, x01⟩
    · have hokt : okW bMay l = true := by rw [hok]; simpa using h2
      refine ⟨fun n x o wr => ∃ k : Nat, x = k ∧ k + n = l.length ∧ Ext w wr ∧ OwY w.heap.size wr o (wrB (l.take k)), ⟨l.length, 0, rfl, by omega, x01, OwnK.nil⟩, ?_⟩
      rintro n2 us2 x2 o w2 ⟨j, rfl, hj, x2, ho⟩
      have hwj := wrap_in (n := (j : Int) + 1) (by unfold inI; omega)
      refine Br.mk (fun h => ?_) (fun h => ?_) <;> simp only [decide_eq_true_eq, decide_eq_false_iff_not] at h
      · obtain ⟨r, hr⟩ := get_lt (l := l) (i := j) (by omega)
        have hri := hl r (List.mem_of_getElem? hr)
        have hin := RdR.inB hs (i := j) (by omega)
        have hsm := RdR.some hs (i := j) (by omega)
        have hon := RdY.len (OwY.rdy ho)
        have hol := wrB_len (l.take j)
        rw [List.length_take] at hol
        refine ⟨hin, AndL_nn.2 ⟨hsm, _, RdR.c1 (hs.ext x2) hr, ?_⟩⟩
        rintro w20 rfl
        rw [wrap_u8]
        obtain ⟨hp, hres⟩ := OwnK.app1 ho (bytes := 1) (news := yv (r.2 % 256)) (.cells #[.int .u8 (r.2 % 256)] tByte) x2.size rfl (one_i _ _) (by omega) (by omega)
        refine ⟨hp, fun s21 w22 hr' => ?_⟩
        obtain ⟨k1, ho', hn', xb, _, hbk⟩ := hres s21 w22 hr'
        have x22 : Ext w w22 := x2.trans xb
        have hlt : w2.heap.size < w22.heap.size := by
          have e : (w2.alloc (.cells #[.int .u8 (r.2 % 256)] tByte)).heap[w2.heap.size]? = some (.cells #[.int .u8 (r.2 % 256)] tByte (0, 0)) := Row.new w2 [.int .u8 (r.2 % 256)] tByte
          rw [← k1] at e
          exact (Array.getElem?_eq_some_iff.1 e).1
        refine ⟨k1, hin, AndL_nn.2 ⟨hsm, _, RdR.c0 (hs.ext x22) hr, (ref06_Number_spec r.1 w22 hri.1).mono ?_⟩⟩
        rintro e w24 ⟨sn, rfl, on, x24⟩
        have hnn := RdY.len (OwY.rdy on)
        have hnl := numB_len r.1
        refine ⟨sn, rfl, x24.heap hlt, ((numB r.1).map yv).flatten, RdK.flat (OwY.rdy on) (by omega), ?_⟩
        have ho3 : OwnK w.heap.size tByte 1 w24 s21 _ := OwnK.ext ho' x24
        obtain ⟨hp2, hres2⟩ := OwnK.appN ho3 (bytes := 1) (more := (numB r.1).map yv) (x22.tr x24).size (by simp) (by intro q hq; obtain ⟨c, _, rfl⟩ := List.mem_map.1 hq; exact one_i _ _) (by simp; omega) (by simp; omega)
        rw [List.length_map] at hp2 hres2
        rw [hnn]
        refine ⟨hp2, fun s27 w28 hr2 => ?_⟩
        obtain ⟨ho4, _, xb2, hk2, _⟩ := hres2 s27 w28 hr2
        have hne : s21.blk ≠ some w2.heap.size := by
          rcases hbk with h | h
          · rw [h]; intro hb; exact absurd (ho.own.lt hb).2 (Nat.lt_irrefl _)
          · rw [h]; intro hb; simp at hb
        refine ⟨hk2 _ hne (Nat.lt_of_lt_of_le hlt x24.size), n2 - 1, by omega, j + 1, by omega, by omega, (x22.tr x24).trans xb2, ?_⟩
        rw [wrB_succ hr]
        show OwnK _ _ 1 _ _ ((wrB (l.take j) ++ (r.2 % 256 :: numB r.1)).map yv)
        rw [List.map_append, List.map_cons]
        have := ho4
        rw [List.append_assoc] at this
        exact this
      · have : j = l.length := by omega
        subst this
        rw [List.take_length] at ho
        exact ⟨⟨o, by rw [hokt]; rfl, by rw [hokt]; exact ho⟩, x2⟩
end Go.Proofs.YtbphdgiepimmkaaDoor
