import Derived.Test.YtbphdgiepimmkaaQD
set_option linter.all false
namespace Go.Proofs.Ytbphdgiepimmkaa
open Go Go.Vc Go.RowKit Go.Proofs Go.Que

/-- A slice cut, the cells behind it cleared. -/
theorem clear_tail {w : World} {s : Sl} {l : List It} (ho : OwnK 0 tItem 4 w s (l.map itv)) {i : Nat} (hi : i ≤ l.length) :
    Wr w (slBase s.a i s.c 4) ((s.n - i) * 4) ∧ ∀ w', w' = setP w (slBase s.a i s.c 4) (zeroRows [.int .i64 0, .int .i64 0, .int .i64 0, .int .i64 0] (s.n - i)) →
      OwnK 0 tItem 4 w' ⟨s.a, i, s.c⟩ ((l.take i).map itv) ∧ Mod (fun b => s.blk = some b) w w' := by
  have hn : s.n = l.length := by rw [(ho.rd (by decide)).n, List.length_map]
  rw [zeroRows_it]
  rcases ho.form (by decide) with ⟨hs, hnil⟩ | ⟨g0, cs, ha, hg0, hr, hc, hnc, ht, hn'⟩
  · have : l = [] := by simpa using hnil
    subst this
    have : i = 0 := by simpa using hi
    subst this
    subst hs
    refine ⟨fun j hj => by simp at hj, fun w' e => ?_⟩
    have : w' = w := by rw [e]; rfl
    subst this
    exact ⟨OwnK.nil, Mod.refl _ _⟩
  · have hblk : s.blk = some g0 := by unfold Sl.blk; rw [ha]; rfl
    have hzl : ((List.replicate (s.n - i) ((0, 0, 0, 0) : It)).map itv).flatten.length = (s.n - i) * 4 := by rw [flatten_len (rows_wd _)]; simp
    have hcl : s.n * 4 ≤ cs.length := by rw [hc]; exact Nat.mul_le_mul_right _ hnc
    rw [ha]
    have hz0 : s.c = i → ((List.replicate (s.n - i) ((0, 0, 0, 0) : It)).map itv).flatten = [] := fun e => by
      have : s.n - i = 0 := by omega
      rw [this]; rfl
    obtain ⟨p1, p2, p3⟩ := hr.poke (l := i) (m := s.c) (size := 4) hz0 (by rw [hzl]; omega) (One_flatten (rows_one _))
    rw [hzl] at p1
    refine ⟨p1, fun w' e => ?_⟩
    rw [← e] at p2 p3
    refine ⟨OwnK.of_row (Nat.zero_le _) p2 (by rw [Go.Vc.putCells_length, hc]) (by omega) ?_ (rows_wd _), p3.mono fun b _ hb => by rw [hblk, hb]⟩
    rw [putCells_eq _ _ _ (by rw [hzl]; omega), List.append_assoc, List.take_left' (by rw [List.length_take]; omega), ← take_flat, ← ht, List.take_take, Nat.min_eq_left (by omega)]
/-- An item written over another. -/
theorem put_item {w : World} {s : Sl} {l : List It} (ho : OwnK 0 tItem 4 w s (l.map itv)) {i : Nat} (hi : i < l.length) (x : It) :
    (padd s.a (i * 4)).isSome = true ∧ Wr w (padd s.a (i * 4)) 4 ∧ ∀ w', w' = setP w (padd s.a (i * 4)) (itv x) → OwnK 0 tItem 4 w' s ((l.set i x).map itv) ∧ Mod (fun b => s.blk = some b) w w' := by
  obtain ⟨h1, h2, h3, h4, h5⟩ := ho.put (i := i) (r := itv x) (by simpa using hi) (by decide) rfl (itv_one x)
  refine ⟨h1, h2, fun w' e => ?_⟩
  subst e
  exact ⟨by rw [List.map_set]; exact h3, h4.os, h4.tape, h4.output, h4.size, fun j _ hn => h5 j hn⟩
theorem DeleteFunc_spec {w : World} {s : Sl} {l : List It} {b : Nat} {c : Cl} (ho : OwnK 0 tItem 4 w s (l.map itv)) (hb : Row w b (clv c) tCell) (hl : l.length ≤ 5000) :
    Calls Try.prog n_slices_DeleteFunc_Item #[.slice s.a s.n s.c, .func (.func 30) #[] #[.pointer (some ⟨b, 0, none⟩)]] w fun e w' => ∃ s' : Sl, e = .returned (.slice s'.a s'.n s'.c) ∧ OwnK 0 tItem 4 w' s' ((qdrop l c).map itv) ∧ Mod (fun b => s.blk = some b) w w' ∧ s'.blk = s.blk := by
  have hn : s.n = l.length := by rw [(ho.rd (by decide)).n, List.length_map]
  have hsb : s.blk ≠ some b := fun e => by
    rcases ho.form (by decide) with ⟨hs, hnil⟩ | ⟨g0, cs, ha, hg0, hr, hc, hnc, ht, hn'⟩
    · rw [hs] at e; cases e
    · have : g0 = b := by unfold Sl.blk at e; rw [ha] at e; simpa using e
      exact hr.ne hb (by decide) this
  apply slices_DeleteFunc_Item.vc
  refine (Index_spec (ho.rd (by decide)) hb hl).mono ?_
  rintro e w1 ⟨⟨i, rfl, hi⟩, x1⟩
  refine ⟨i, rfl, Br.mk (fun h => ?_) (fun h => ?_)⟩
  · have hm : i = -1 := by simpa using h
    rcases hi with ⟨-, hall⟩ | ⟨k, hk, -⟩
    · refine ⟨s, rfl, ?_, Mod.of_ext x1, rfl⟩
      have : qdrop l c = l := by
        unfold qdrop; rw [List.filter_eq_self]; intro x hx; simpa using hall x hx
      rw [this]; exact ho.ext x1
    · omega
  · have hm : i ≠ -1 := by simpa using h
    rcases hi with ⟨hi, -⟩ | ⟨k, rfl, hk, hfst, hkc⟩
    · exact absurd hi hm
    have hw : IntKind.wrap .i64 ((k : Int) + 1) = ((k + 1 : Nat) : Int) := by rw [wrap_in (by unfold inI; omega)]; omega
    have hq : qdrop (l.take (k + 1)) c = l.take k := by
      unfold qdrop
      rw [List.take_add_one, List.filter_append]
      have e1 : (l.take k).filter (fun x => x.2 != c) = l.take k := by rw [List.filter_eq_self]; intro x hx; simpa using hfst x hx
      have hget : l[k]? = some (l[k]'hk) := List.getElem?_eq_getElem hk
      have := hkc _ hget
      rw [e1, hget]; simp [this]
    refine ⟨fun n a d wr => Mod (fun b => s.blk = some b) w wr ∧ ∃ (j m : Nat) (l' : List It), a = j ∧ d = m ∧ j + n = l.length ∧ m < j ∧ m = (qdrop (l.take j) c).length ∧ OwnK 0 tItem 4 wr s (l'.map itv) ∧ l'.length = l.length ∧ l'.take m = qdrop (l.take j) c ∧ l'.drop j = l.drop j, ⟨l.length - (k + 1), Mod.of_ext x1, k + 1, k, l, hw, rfl, by omega, by omega, ?_, ho.ext x1, rfl, hq.symm, rfl⟩, ?_⟩
    · rw [hq, List.length_take]; omega
    rintro n us a d wr ⟨hmod, j, m, l', rfl, rfl, h1, h2, h3, ho', h4, h5, h6⟩
    have hbr : Row wr b (clv c) tCell := hmod.row hb hsb
    refine Br.mk (fun hlt => ?_) (fun hge => ?_)
    · simp only [decide_eq_true_eq] at hlt
      have hget : l[j]? = some (l[j]'(by omega)) := List.getElem?_eq_getElem (by omega)
      generalize l[j]'(by omega) = y at hget
      have hget' : l'[j]? = some y := by
        have := congrArg (fun q : List It => q[0]?) h6
        simpa [List.getElem?_drop, hget] using this
      refine ⟨⟨(ho'.rd (by decide)).isSome (by decide) (i := j) (by simp; omega), by omega, by omega⟩, y.1, y.2.1, y.2.2.1, y.2.2.2, RdK.item (ho'.rd (by decide)) hget', ?_⟩
      intro w13 e13 w14 e14
      have x14 : Ext wr w14 := (Ext.rfl' wr |>.of_alloc e13).of_setRow e14 (Nat.le_refl _)
      have hs14 : wr.heap.size < w14.heap.size := by rw [e14, setRow_size, e13]; simp
      refine callV_of (by kernel_rfl) rfl ((drop1_spec y (hbr.ext x14)).mono ?_)
      rintro e w2 ⟨rfl, x2⟩
      have x3 := x14.tr x2
      have hwj : IntKind.wrap .i64 ((j : Int) + 1) = ((j + 1 : Nat) : Int) := by rw [wrap_in (by unfold inI; omega)]; omega
      have hwm : IntKind.wrap .i64 ((m : Int) + 1) = ((m + 1 : Nat) : Int) := by rw [wrap_in (by unfold inI; omega)]; omega
      have hqj : qdrop (l.take (j + 1)) c = qdrop (l.take j) c ++ (if y.2 = c then [] else [y]) := by
        unfold qdrop
        rw [List.take_add_one, hget, List.filter_append]
        congr 1
        by_cases hy : y.2 = c <;> simp [hy]
      refine ⟨_, rfl, x2.heap hs14, Br.mk (fun hb2 => ?_) (fun hb2 => ?_)⟩
      · have hy : y.2 ≠ c := by simpa using hb2
        obtain ⟨p1, p2, p3⟩ := put_item (ho'.ext x3) (i := m) (by omega) y
        refine ⟨⟨(ho'.rd (by decide)).isSome (by decide) (i := m) (by simp; omega), by omega, by omega⟩, ⟨p1, p2⟩, ?_, ?_⟩
        · rw [pblk_padd]
          intro e
          have := ho'.own.lt (g := wr.heap.size) e
          omega
        · intro w17 e17
          obtain ⟨q1, q2⟩ := p3 w17 e17
          rw [hwj, hwm]
          refine ⟨n - 1, by omega, (hmod.trans (Mod.of_ext x3)).trans q2, j + 1, m + 1, l'.set m y, rfl, rfl, by omega, by omega, ?_, q1, by rw [List.length_set, h4], ?_, ?_⟩
          · rw [hqj, if_neg hy, List.length_append, ← h3]; rfl
          · rw [hqj, if_neg hy, ← h5, List.take_add_one, List.take_set_of_le (Nat.le_refl _), List.getElem?_set_self (by omega)]; rfl
          · rw [List.drop_set_of_lt (by omega)]
            have := congrArg (List.drop 1) h6
            simpa [List.drop_drop] using this
      · have hy : y.2 = c := by simpa using hb2
        rw [hwj]
        refine ⟨n - 1, by omega, hmod.trans (Mod.of_ext x3), j + 1, m, l', rfl, rfl, by omega, by omega, ?_, ho'.ext x3, h4, ?_, ?_⟩
        · rw [hqj, if_pos hy, List.append_nil]; exact h3
        · rw [hqj, if_pos hy, List.append_nil]; exact h5
        · have := congrArg (List.drop 1) h6
          simpa [List.drop_drop] using this
    · simp only [decide_eq_false_iff_not] at hge
      have hj : j = l.length := by omega
      have hcap := (ho'.form (by decide))
      have hnc : s.n ≤ s.c := by
        rcases hcap with ⟨hs, -⟩ | ⟨g0, cs, ha, hg0, hr, hc, hnc, ht, hn'⟩
        · rw [hs]; exact Nat.le_refl _
        · exact hnc
      obtain ⟨p1, p2⟩ := clear_tail ho' (i := m) (by omega)
      refine ⟨by omega, by omega, p1, fun w18 e18 => ?_⟩
      obtain ⟨q1, q2⟩ := p2 w18 e18
      refine ⟨by omega, by omega, ⟨s.a, m, s.c⟩, ?_, ?_, hmod.trans q2, rfl⟩
      · rw [slBase_zero]; rfl
      · rw [h5, hj, List.take_length] at q1; exact q1
/-- The first n items out. -/
theorem Delete_spec {w : World} {s : Sl} {l : List It} {n : Nat} (ho : OwnK 0 tItem 4 w s (l.map itv)) (hi : n ≤ l.length) (hl : l.length ≤ 5000) :
    Calls Try.prog n_slices_Delete_Item #[.slice s.a s.n s.c, .int .i64 0, .int .i64 (n : Int)] w fun e w' => ∃ s' : Sl, e = .returned (.slice s'.a s'.n s'.c) ∧ OwnK 0 tItem 4 w' s' ((l.drop n).map itv) ∧ Mod (fun b => s.blk = some b) w w' ∧ s'.blk = s.blk := by
  have hn : s.n = l.length := by rw [(ho.rd (by decide)).n, List.length_map]
  have hnc : s.n ≤ s.c := by
    rcases ho.form (by decide) with ⟨hs, -⟩ | ⟨g0, cs, ha, hg0, hr, hc, hnc, ht, hn'⟩
    · rw [hs]; exact Nat.le_refl _
    · exact hnc
  apply slices_Delete_Item.vc
  refine ⟨by omega, by omega, by omega, by omega, by omega, by omega, Br.mk (fun h => ?_) (fun h => ?_)⟩
  · have : n = 0 := by have : (0 : Int) = n := by simpa using h
                       omega
    subst this
    exact ⟨s, rfl, ho, Mod.refl _ _, rfl⟩
  · have hpos : 0 < n := by
      have : (0 : Int) ≠ n := by simpa using h
      omega
    rcases ho.form (by decide) with ⟨hs, hnil⟩ | ⟨g0, cs, ha, hg0, hr, hc, hnc, ht, hn'⟩
    · have : l = [] := by simpa using hnil
      subst this; simp at hi; omega
    have hblk : s.blk = some g0 := by unfold Sl.blk; rw [ha]; rfl
    have hsl : ((l.drop n).map itv).flatten.length = (s.n - n) * 4 := by rw [flatten_len (rows_wd _)]; simp; omega
    have hcl : s.n * 4 ≤ cs.length := by rw [hc]; exact Nat.mul_le_mul_right _ hnc
    have hr' := hr.ext (Ext.dr w)
    simp only [Int.toNat_natCast, Nat.sub_zero, slBase_zero, Int.toNat_zero]
    rw [ha]
    refine ⟨by omega, by omega, by omega, by omega, ((l.drop n).map itv).flatten, ?_, ?_, ?_⟩
    · exact hr'.peek (by intro e; rw [List.drop_of_length_le (by omega)]; rfl) (rest_get ht hn n)
    · refine ⟨fun _ => ?_, fun h => ?_, fun h => ?_, hsl, One_flatten (rows_one _)⟩
      · show Wr _ (padd (some ⟨g0, 0, none⟩) (0 * 4)) _
        rw [padd_row]; exact hr'.wr (by rw [hsl]; omega)
      · simp only at h; omega
      · simp only at h; omega
    · intro s1 w2 hres
      cases hres with
      | grows hg => simp only at hg; omega
      | fits hf =>
        dsimp only
        have e0 : padd (some (⟨g0, 0, none⟩ : Addr)) (0 * 4) = some ⟨g0, 0, none⟩ := by rw [padd_row]
        rw [e0]
        have hset := hr'.setP (o := 0) (vs := ((l.drop n).map itv).flatten) (by rw [hsl]; omega) (One_flatten (rows_one _))
        have hr2 : Row (Go.Vc.setP w.drew (some ⟨g0, 0, none⟩) ((l.drop n).map itv).flatten) g0 (putCells cs 0 ((l.drop n).map itv).flatten) tItem := by rw [hset]; exact hr'.set _
        have hm2 : Mod (fun i => i = g0) w (Go.Vc.setP w.drew (some ⟨g0, 0, none⟩) ((l.drop n).map itv).flatten) := by
          rw [hset]
          exact (Mod.of_ext (Ext.dr w)).trans ⟨rfl, rfl, rfl, by rw [setRow_size]; exact Nat.le_refl _, fun i _ hn => setRow_other _ _ _ _ hn⟩
        generalize Go.Vc.setP w.drew (some ⟨g0, 0, none⟩) ((l.drop n).map itv).flatten = w2 at hr2 hm2
        have hz : 0 + (s.n - n) = s.n - n := by omega
        rw [hz]
        have hown : OwnK 0 tItem 4 w2 ⟨some ⟨g0, 0, none⟩, s.n, s.c⟩ ((l.drop n ++ l.drop (l.length - n)).map itv) := by
          refine OwnK.of_row (Nat.zero_le _) hr2 (by rw [Go.Vc.putCells_length, hc]) hnc ?_ (rows_wd _)
          rw [putCells_eq _ _ _ (by rw [hsl]; omega), List.map_append, List.flatten_append, List.take_zero, List.nil_append]
          rw [List.take_append, List.take_of_length_le (by rw [hsl]; omega), hsl, Nat.zero_add, ← drop_flat l (l.length - n), ← ht]
          congr 1
          rw [List.drop_take, hn]
        obtain ⟨p1, p2⟩ := clear_tail hown (i := s.n - n) (by simp; omega)
        have hnn : ((s.n : Nat) : Int).toNat - (((s.n - n : Nat) : Nat) : Int).toNat = s.n - (s.n - n) := by omega
        refine ⟨by omega, by omega, by omega, by omega, p1, fun w3 e3 => ?_⟩
        obtain ⟨q1, q2⟩ := p2 w3 e3
        refine ⟨⟨some ⟨g0, 0, none⟩, s.n - n, s.c⟩, rfl, ?_, ?_, hblk.symm⟩
        · rw [List.take_left' (by simp; omega)] at q1; exact q1
        · refine (hm2.mono fun b _ hb => by rw [hblk, hb]).trans (q2.mono fun b _ hb => ?_)
          have : g0 = b := by simpa [Sl.blk] using hb
          rw [hblk, this]
end Go.Proofs.Ytbphdgiepimmkaa
