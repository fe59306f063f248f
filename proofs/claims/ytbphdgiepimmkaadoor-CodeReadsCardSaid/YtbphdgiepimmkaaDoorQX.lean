import Derived.Test.YtbphdgiepimmkaaDoorQW
set_option linter.all false
namespace Go.Proofs.YtbphdgiepimmkaaDoor
open Go Go.Vc Go.RowKit Go.Proofs Go.Runs Go.Code

theorem code_Write_spec (s : Sl) (l : List Rn) (w : World) (hs : RdR w s l) (hb : l.length ≤ 2000000) (hl : ∀ r ∈ l, inI r.1 ∧ inI r.2) :
    Calls Tryd.prog n_code_Write #[.slice s.a s.n s.c] w fun e w' => WrRes w.heap.size l e w' ∧ Ext w w' := by
  have hsn := RdR.len hs
  apply code_Write.vc
  refine ⟨fun n x y wr => ∃ k : Nat, x = k ∧ k + n = l.length ∧ Ext w wr ∧ 0 ≤ y ∧ y ≤ 1048576 ∧ y = 1048576 - sumR (l.take k) ∧ chkL y (l.drop k) = chkL 1048576 l, ⟨l.length, 0, rfl, by omega, Ext.rfl' w, by omega, by omega, rfl, rfl⟩, ?_⟩
  rintro n us x y wr ⟨k, rfl, hk, xr, y0, y1, hy, heq⟩
  have hw := wrap_in (n := (k : Int) + 1) (by unfold inI; omega)
  refine Br.mk (fun h => ?_) (fun h => ?_) <;> simp only [decide_eq_true_eq, decide_eq_false_iff_not] at h
  · obtain ⟨r, hr⟩ := get_lt (l := l) (i := k) (by omega)
    have hd := drop_cons hr
    rw [hd, chkL_cons] at heq
    refine ⟨RdR.inB hs (by omega), _, _, RdR.ll (hs.ext xr) hr, ?_⟩
    rintro w9 rfl w10 rfl
    have x10 := ((xr.tr (Ext.al _ (.cells #[.int .i64 0, .int .i64 0] tRun))).setRow xr.size #[.int .i64 r.1, .int .i64 r.2])
    have bad : ∀ w', Ext w w' → (r.1 < 1 ∨ r.1 > y) → WrRes w.heap.size l (.returned (.tuple #[.slice none 0 0, .int .i64 1])) w' ∧ Ext w w' := by
      intro w' x' hh
      rw [if_pos hh] at heq
      have : okW bMay l = false := by unfold okW; rw [← heq]; rfl
      exact ⟨⟨⟨none, 0, 0⟩, by rw [this]; rfl, by rw [this]; exact OwnK.nil⟩, x'⟩
    refine Br.mk (fun h1 => ?_) (fun h1 => Br.mk (fun h2 => ?_) (fun h2 => ?_)) <;> simp only [decide_eq_true_eq, decide_eq_false_iff_not] at h1
    · exact bad _ x10 (.inl h1)
    · simp only [decide_eq_true_eq] at h2
      have hri := hl r (List.mem_of_getElem? hr)
      unfold inI at hri
      have hw2 := wrap_in (n := y - r.1) (by unfold inI; omega)
      exact bad _ x10 (.inr (by omega))
    · simp only [decide_eq_false_iff_not] at h2
      have hri := hl r (List.mem_of_getElem? hr)
      unfold inI at hri
      have hw2 := wrap_in (n := y - r.1) (by unfold inI; omega)
      rw [if_neg (by omega)] at heq
      have e := sumR_take_succ hr
      refine ⟨n - 1, by omega, k + 1, by omega, by omega, x10, by omega, by omega, by omega, ?_⟩
      rw [← heq, hw2]
  · have hkl : k = l.length := by omega
    subst hkl
    rw [List.drop_length] at heq
    rw [List.take_length] at hy
    have hchk : chkL 1048576 l = true := by rw [← heq]; rfl
    have hpos := (chkL_pos hchk).1
    refine (runs_Len_spec s l wr (hs.ext xr) (by unfold Bd; omega) (fun r hr => by have := hpos r hr; omega) (by omega)).mono ?_
    rintro e w0 ⟨rfl, x0⟩
    refine ⟨_, rfl, (runs_May_spec s l (sumR l) w0 ((hs.ext xr).ext x0) (by unfold Bd; omega) (by unfold inI; omega)).mono ?_⟩
    rintro e w1 ⟨rfl, x1⟩
    have hok : okW bMay l = mayR bMay l (sumR l) := by unfold okW; rw [hchk]; rfl
    have x01 := (xr.tr x0).tr x1
    refine ⟨_, rfl, Br.mk (fun h2 => ?_) (fun h2 => ?_)⟩
    · have : okW bMay l = false := by rw [hok]; simpa using h2
      exact ⟨⟨⟨none, 0, 0⟩, by rw [this]; rfl, by rw [this]; exact OwnK.nil⟩, x01⟩
    · have hokt : okW bMay l = true := by rw [hok]; simpa using h2
      refine ⟨fun n x o wr => ∃ k : Nat, x = k ∧ k + n = l.length ∧ Ext w wr ∧ OwY w.heap.size wr o (wrB (l.take k)), ⟨l.length, 0, rfl, by omega, x01, OwnK.nil⟩, ?_⟩
      rintro n2 us2 x2 o w2 ⟨j, rfl, hj, x2, ho⟩
      have hwj := wrap_in (n := (j : Int) + 1) (by unfold inI; omega)
      refine Br.mk (fun h => ?_) (fun h => ?_) <;> simp only [decide_eq_true_eq, decide_eq_false_iff_not] at h
      · obtain ⟨r, hr⟩ := get_lt (l := l) (i := j) (by omega)
        have hri := hl r (List.mem_of_getElem? hr)
        have hon := RdY.len (OwY.rdy ho)
        have hol := wrB_len (l.take j)
        rw [List.length_take] at hol
        refine ⟨RdR.inB hs (by omega), _, _, RdR.ll (hs.ext x2) hr, ?_⟩
        rintro w24 rfl w25 hw25 w26 rfl
        have x25 : Ext w w25 := by rw [hw25]; exact ((x2.tr (Ext.al _ (.cells #[.int .i64 0, .int .i64 0] tRun))).setRow x2.size #[.int .i64 r.1, .int .i64 r.2])
        have hrow : Row w25 w2.heap.size [.int .i64 r.1, .int .i64 r.2] tRun := by rw [hw25]; exact (Row.new w2 [.int .i64 0, .int .i64 0] tRun).set [.int .i64 r.1, .int .i64 r.2]
        have ho25 : OwY w.heap.size w25.drew o (wrB (l.take j)) := by
          refine OwnK.ext (OwnK.keep ho (w' := w25) ?_) (Ext.dr _)
          intro g hg
          have := (ho.own.lt hg).2
          rw [hw25, setRow_other _ _ _ _ (by omega)]
          exact (Ext.al _ _).heap this
        have hlt25 := hrow.lt
        clear hw25
        have xd := x25.drew
        have hrowd := hrow.ext (Ext.dr w25)
        have hz : w25.drew.heap.size = w25.heap.size := rfl
        rw [wrap_u8]
        obtain ⟨hp, hres⟩ := OwnK.app1 ho25 (bytes := 1) (news := yv (r.2 % 256)) (.cells #[.int .u8 (r.2 % 256)] tByte) xd.size rfl (one_i _ _) (by omega) (by omega)
        refine ⟨hp, fun s27 w28 hr' => ?_⟩
        obtain ⟨k1, ho', hn', xb, hkp, hbk⟩ := hres s27 w28 hr'
        have x28 : Ext w w28 := xd.trans xb
        have hone : o.blk ≠ some w2.heap.size := fun hb => absurd (ho.own.lt hb).2 (Nat.lt_irrefl _)
        have hk28 : w28.heap[w2.heap.size]? = w25.drew.heap[w2.heap.size]? := hkp _ hone (by omega)
        have hrow28 := hrowd.same hk28
        have hlt28 := hrow28.lt
        have hlt28' : w25.drew.heap.size < w28.heap.size := by
          have e : (w25.drew.alloc (.cells #[.int .u8 (r.2 % 256)] tByte)).heap[w25.drew.heap.size]? = some (.cells #[.int .u8 (r.2 % 256)] tByte (0, 0)) := Row.new w25.drew [.int .u8 (r.2 % 256)] tByte
          rw [← k1] at e
          exact (Array.getElem?_eq_some_iff.1 e).1
        have ll0 : ∀ {w'}, Row w' w2.heap.size [.int .i64 r.1, .int .i64 r.2] tRun → LoadL w' (some ⟨w2.heap.size, 0, none⟩) 0 [.int .i64 r.1] := fun hh => hh.loadL (o := 0) fun j hj => by
          have : j = 0 := by simpa using hj
          subst this; rfl
        have ll1 : ∀ {w'}, Row w' w2.heap.size [.int .i64 r.1, .int .i64 r.2] tRun → LoadL w' (some ⟨w2.heap.size, 1, none⟩) 0 [.int .i64 r.2] := fun hh => hh.loadL (o := 1) fun j hj => by
          have : j = 0 := by simpa using hj
          subst this; rfl
        refine ⟨?_, k1, ll0 hrow28, ll1 hrow28, (code_Number_spec r.1 w28 hri.1).mono ?_⟩
        · rw [hk28]; symm; exact (Ext.al _ _).heap (by omega)
        rintro e w29 ⟨sn, rfl, on, x29⟩
        have hnn := RdY.len (OwY.rdy on)
        have hnl := numB_len r.1
        have hrow29 := hrow28.ext x29
        refine ⟨sn, rfl, x29.heap hlt28, x29.heap hlt28', ll1 hrow29, ((numB r.1).map yv).flatten, RdK.flat (OwY.rdy on) (by omega), ?_⟩
        have ho3 : OwnK w.heap.size tByte 1 w29 s27 _ := OwnK.ext ho' x29
        obtain ⟨hp2, hres2⟩ := OwnK.appN ho3 (bytes := 1) (more := (numB r.1).map yv) (x28.tr x29).size (by simp) (by intro q hq; obtain ⟨c, _, rfl⟩ := List.mem_map.1 hq; exact one_i _ _) (by simp; omega) (by simp; omega)
        rw [List.length_map] at hp2 hres2
        rw [hnn]
        refine ⟨hp2, fun s32 w33 hr2 => ?_⟩
        obtain ⟨ho4, _, xb2, hk2, _⟩ := hres2 s32 w33 hr2
        have hne : s27.blk ≠ some w2.heap.size := by
          rcases hbk with h | h
          · rw [h]; exact hone
          · rw [h]; intro hb; simp at hb; omega
        have hne2 : s27.blk ≠ some w25.drew.heap.size := by
          rcases hbk with h | h
          · rw [h]; intro hb; exact absurd (ho25.own.lt hb).2 (Nat.lt_irrefl _)
          · rw [h]; intro hb; simp at hb
        have hk33 := hk2 _ hne (Nat.lt_of_lt_of_le hlt28 x29.size)
        refine ⟨hk33, hk2 _ hne2 (Nat.lt_of_lt_of_le hlt28' x29.size), ll1 (hrow29.same hk33), n2 - 1, by omega, j + 1, by omega, by omega, (x28.tr x29).trans xb2, ?_⟩
        rw [wrB_succ hr]
        show OwnK _ _ 1 _ _ ((wrB (l.take j) ++ (r.2 % 256 :: numB r.1)).map yv)
        rw [List.map_append, List.map_cons]
        have := ho4
        rw [List.append_assoc] at this
        exact this
      · have : j = l.length := by omega
        subst this
        rw [List.take_length] at ho
        exact ⟨⟨o, by rw [hokt]; rfl, by rw [hokt]; exact ho⟩, x2⟩
theorem law06_lives_spec (w : World) : Calls Tryd.prog n_law06_lives #[] w fun e w' => e = .returned (.bool true) ∧ Ext w w' := by
  apply law06_lives.vc
  rintro w0 rfl
  have xa := Ext.al w (.cells #[.int .i64 300, .int .i64 1] tRun)
  have hrow := Row.new w [.int .i64 300, .int .i64 1] tRun
  have hrd : RdR (w.alloc (.cells #[.int .i64 300, .int .i64 1] tRun)) ⟨some ⟨w.heap.size, 0, none⟩, 1, 1⟩ [(300, 1)] := by
    refine ⟨rfl, by simp [rv], fun i r hi j v hj => ?_⟩
    show ld _ (padd (some ⟨w.heap.size, 0, none⟩) _) = _
    rw [padd_row, hrow.ld]
    rcases i with _ | i <;> simp at hi
    subst hi
    rcases j with _ | _ | j <;> simp at hj
    all_goals subst hj; rfl
  refine (code_Write_spec _ [(300, 1)] _ hrd (by simp) (by intro r hr; simp at hr; subst hr; unfold inI; exact ⟨by decide, by decide⟩)).mono ?_
  rintro e w1 ⟨⟨s2, rfl, ho⟩, x1⟩
  have hok : okW bMay [(300, 1)] = true := by decide +kernel
  have hby : wrB [(300, 1)] = [1, 172, 2] := by decide +kernel
  rw [hok, if_pos rfl, hby] at ho
  rw [hok, if_pos rfl]
  have hn := RdY.len (OwY.rdy ho)
  refine ⟨s2, _, rfl, Br.mk (fun _ => Br.mk (fun _ => ?_) (fun h => by simp at h hn; omega)) (fun h => by simp at h)⟩
  rintro w4 rfl
  have x4 := Ext.al w1 (.cells #[.int .u8 1, .int .u8 172, .int .u8 2] tByte)
  have hrow4 := Row.new w1 [.int .u8 1, .int .u8 172, .int .u8 2] tByte
  have hrd4 : RdY (w1.alloc (.cells #[.int .u8 1, .int .u8 172, .int .u8 2] tByte)) ⟨some ⟨w1.heap.size, 0, none⟩, 3, 3⟩ [1, 172, 2] := by
    refine ⟨rfl, by simp, fun i r hi j v hj => ?_⟩
    show ld _ (padd (some ⟨w1.heap.size, 0, none⟩) _) = _
    rw [padd_row, hrow4.ld]
    rcases i with _ | _ | _ | i <;> simp at hi
    all_goals subst hi
    all_goals rcases j with _ | j <;> simp at hj
    all_goals subst hj; rfl
  have hin : InY [1, 172, 2] := by intro c hc; simp at hc; omega
  refine (ref06_Same_spec s2 _ [1, 172, 2] [1, 172, 2] _ (OwY.rdy (OwnK.ext ho x4)) hrd4 hin hin).mono ?_
  rintro e w5 ⟨rfl, rfl⟩
  exact ⟨_, rfl, by rw [decide_eq_true rfl], (xa.tr x1).tr x4⟩
end Go.Proofs.YtbphdgiepimmkaaDoor
