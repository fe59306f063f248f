import Derived.Test.YtbphdgiepimmkaaQB
set_option linter.all false
namespace Go.Proofs.Ytbphdgiepimmkaa
open Go Go.Vc Go.RowKit Go.Proofs Go.Que

theorem zeroRows_it (n : Nat) : zeroRows [.int .i64 0, .int .i64 0, .int .i64 0, .int .i64 0] n = ((List.replicate n ((0, 0, 0, 0) : It)).map itv).flatten := by
  unfold zeroRows; simp
/-- An item put between. -/
theorem Insert_spec {w : World} {s : Sl} {l : List It} {i g : Nat} {x : It} (ho : OwnK 0 tItem 4 w s (l.map itv)) (hx : Row w g (itv x) tItem) (hi : i ≤ l.length) (hl : l.length ≤ 5000) (hne : s.blk ≠ some g) :
    Calls Try.prog n_slices_Insert_Item #[.slice s.a s.n s.c, .int .i64 (i : Int), .slice (some ⟨g, 0, none⟩) 1 1] w fun e w' => ∃ s' : Sl, e = .returned (.slice s'.a s'.n s'.c) ∧ OwnK 0 tItem 4 w' s' ((l.take i ++ x :: l.drop i).map itv) ∧ Mod (fun b => s.blk = some b) w w' ∧ (∀ b, s'.blk = some b → s.blk = some b ∨ w.heap.size ≤ b) := by
  have hn : s.n = l.length := by rw [(ho.rd (by decide)).n, List.length_map]
  apply slices_Insert_Item.vc (a2 := ⟨some ⟨g, 0, none⟩, 1, 1⟩)
  have hw1 : IntKind.wrap .i64 (((s.n : Nat) : Int) + ((1 : Nat) : Int)) = ((s.n + 1 : Nat) : Int) := by rw [wrap_in (by unfold inI; omega)]; omega
  have hw2 : IntKind.wrap .i64 ((i : Int) + ((1 : Nat) : Int)) = ((i + 1 : Nat) : Int) := by rw [wrap_in (by unfold inI; omega)]; omega
  have hw3 : IntKind.wrap .i64 (((s.n + 1 : Nat) : Int) - (i : Int)) = ((s.n + 1 - i : Nat) : Int) := by rw [wrap_in (by unfold inI; omega)]; omega
  have hw4 : IntKind.wrap .i64 ((s.n + 1 - i : Nat) : Int) = ((s.n + 1 - i : Nat) : Int) := wrap_in (by unfold inI; omega)
  have hrx : Rd w (some ⟨g, 0, none⟩) (itv x) := hx.rd0 fun j hj => rfl
  unfold slices_Insert_Item.pre
  dsimp only
  rw [hw1, hw2, hw3, hw4]
  simp only [Int.toNat_natCast, Nat.sub_zero, slBase_zero]
  refine ⟨by omega, by omega, Br.mk (fun h => by cases h) (fun _ => Br.mk (fun h => ?_) (fun h => ?_))⟩
  · -- behind the last
    have he : i = l.length := by simp at h; omega
    obtain ⟨hp, hr⟩ := ho.append (bytes := 32) (news := itv x) (Nat.zero_le _) rfl (itv_one x) (by omega) (by omega)
    refine ⟨itv x, hrx, hp, fun s' w' hres => ?_⟩
    obtain ⟨h1, h2, h3, h4, h5⟩ := hr s' w' hres
    refine ⟨s', rfl, ?_, Mod.of_app h3 h4, ?_⟩
    · rw [he, List.take_length, List.drop_length, List.map_append]; exact h1
    · intro b hb
      rcases h5 with h5 | h5
      · exact .inl (h5 ▸ hb)
      · rw [h5] at hb; cases hb; exact .inr (Nat.le_refl _)
  · have hlt : i < l.length := by
      have : i ≠ l.length := fun e => by subst e; simp [hn] at h
      omega
    rcases ho.form (by decide) with ⟨hs, hnil⟩ | ⟨g0, cs, ha, hg0, hr, hc, hnc, ht, hn'⟩
    · have : l = [] := by simpa using hnil
      subst this; simp at hlt
    have hneg : g0 ≠ g := fun e => hne (by unfold Sl.blk; rw [ha, e]; rfl)
    have hblk : s.blk = some g0 := by unfold Sl.blk; rw [ha]; rfl
    have htk : cs.take (i * 4) = ((l.take i).map itv).flatten := by
      rw [← take_flat, ← ht, List.take_take, Nat.min_eq_left (by omega)]
    rw [ha]
    refine Br.mk (fun h2 => ?_) (fun h2 => ?_)
    · -- no room: another block
      simp only [decide_eq_true_eq] at h2
      have hpre : OwnK 0 tItem 4 w ⟨some ⟨g0, 0, none⟩, i, s.c⟩ ((l.take i).map itv) := OwnK.of_row (Nat.zero_le _) hr hc (by omega) htk (rows_wd _)
      obtain ⟨hp, -⟩ := hpre.appN (bytes := 32) (more := (List.replicate (s.n + 1 - i) ((0, 0, 0, 0) : It)).map itv) (Nat.zero_le _) (rows_wd _) (rows_one _) (by simp; omega) (by simp; omega)
      have hlen : ((List.replicate (s.n + 1 - i) ((0, 0, 0, 0) : It)).map itv).length = s.n + 1 - i := by simp
      rw [hlen] at hp
      rw [zeroRows_it]
      refine ⟨by omega, by omega, ⟨by omega, trivial, by omega⟩, hp, fun s3 w4 hres => ?_⟩
      generalize hz : ((List.replicate (s.n + 1 - i) ((0, 0, 0, 0) : It)).map itv).flatten = zs at hres
      have hzl : zs.length = (s.n + 1 - i) * 4 := by rw [← hz, flatten_len (rows_wd _)]; simp
      cases hres with
      | fits hf => simp only at hf; omega
      | grows hg olds rest cap q1 q2 q3 q4 =>
        simp only at q1 q2 q3
        have hold : olds = cs.take (i * 4) := by
          refine Rd_unique q2 (hr.rd0 (vs := cs.take (i * 4)) fun j hj => ?_) ?_
          · rw [List.length_take] at hj
            rw [List.getElem?_take, if_pos (by omega)]
          · rw [q1, List.length_take]; omega
        have hR : Row (w.drew.alloc (.cells (olds ++ zs ++ rest).toArray tItem)) w.heap.size (olds ++ zs ++ rest) tItem := Row.new w.drew _ _
        generalize hw4' : w.drew.alloc (.cells (olds ++ zs ++ rest).toArray tItem) = w4 at hR
        have x4 : Ext w w4 := by rw [← hw4']; exact (Ext.dr w).tr (Ext.al _ _)
        have hr4 := hr.ext x4
        have hlt0 := hr.lt
        have hn3 : i + (s.n + 1 - i) = s.n + 1 := by omega
        have hCl : (s.n + 1) * 4 ≤ (olds ++ zs ++ rest).length := by rw [q4]; exact Nat.mul_le_mul_right _ (by omega)
        dsimp only
        rw [hn3]
        have hx4 := hx.ext x4
        have hsl : ((l.drop i).map itv).flatten.length = (s.n - i) * 4 := by rw [flatten_len (rows_wd _)]; simp; omega
        have hm1 : min 1 (s.n + 1 - i) * 4 = 4 := by have : min 1 (s.n + 1 - i) = 1 := by omega
                                                     rw [this]
        have hm2 : min (s.n - i) (s.n + 1 - (i + 1)) = s.n - i := by omega
        obtain ⟨p1, p2, p3⟩ := hR.poke (vs := itv x) (l := i) (m := cap) (size := 4) (by intro e; omega) (by simp; omega) (itv_one x)
        refine ⟨by omega, by omega, itv x, ⟨hm1.symm, hx4.rd0 fun j hj => rfl, itv_one x, p1⟩, ?_⟩
        intro w6 e6
        rw [← e6] at p2 p3
        have hr6 : Row w6.drew g0 cs tItem := (p3.row hr4 (by omega)).ext (Ext.dr _)
        have p2' : Row w6.drew w.heap.size _ tItem := p2.ext (Ext.dr _)
        obtain ⟨u1, u2, u3⟩ := p2'.poke (vs := ((l.drop i).map itv).flatten) (l := i + 1) (m := cap) (size := 4) (by intro e; rw [List.drop_of_length_le (by omega)]; rfl) (by rw [hsl, Go.Vc.putCells_length]; omega) (One_flatten (rows_one _))
        refine ⟨by omega, by omega, by omega, by omega, ((l.drop i).map itv).flatten, ⟨by rw [hm2, hsl], hr6.peek (by intro e; rw [List.drop_of_length_le (by omega)]; rfl) (rest_get ht hn i), One_flatten (rows_one _), u1⟩, ?_⟩
        intro w8 e8
        rw [← e8] at u2 u3
        refine ⟨⟨some ⟨w.heap.size, 0, none⟩, s.n + 1, cap⟩, rfl, OwnK.of_row (Nat.zero_le _) u2 (by rw [Go.Vc.putCells_length, Go.Vc.putCells_length, q4]) (by omega) ?_ (rows_wd _), ?_, ?_⟩
        · rw [two_puts (by simp; omega) (by rw [hsl]; omega) hCl, List.append_assoc, List.append_assoc, List.take_left' (by rw [q1]), hold, htk]
          simp
        · refine ((Mod.of_ext x4).tr p3 (fun b hb => .inr (by omega))).tr (F' := fun b => b = w.heap.size) ?_ (fun b hb => .inr (by omega))
          exact (Mod.of_ext (Ext.dr _)).trans u3
        · intro b hb
          have : w.heap.size = b := by simpa [Sl.blk] using hb
          exact .inr (by omega)
    · -- within
      simp only [decide_eq_false_iff_not] at h2
      have hCl : (s.n + 1) * 4 ≤ cs.length := by rw [hc]; exact Nat.mul_le_mul_right _ (by omega)
      have hsl : ((l.drop i).map itv).flatten.length = (s.n - i) * 4 := by rw [flatten_len (rows_wd _)]; simp; omega
      refine ⟨by omega, by omega, by omega, by omega, ?_⟩
      refine overlaps_spec' hx hr (Ne.symm hneg) (by omega) (by rw [slBase_row, if_neg (by omega)]) _ _ _ _ ⟨_, rfl, Br.mk (fun _ => ?_) (fun h => by cases h)⟩
      have hm2 : min (s.n + 1 - i) (s.n + 1 - (i + 1)) = s.n - i := by omega
      have hm1 : min 1 (s.n + 1 - i) * 4 = 4 := by have : min 1 (s.n + 1 - i) = 1 := by omega
                                                   rw [this]
      have hr' := hr.ext (Ext.dr w)
      obtain ⟨u1, u2, u3⟩ := hr'.poke (vs := ((l.drop i).map itv).flatten) (l := i + 1) (m := s.c) (size := 4) (by intro e; omega) (by rw [hsl]; omega) (One_flatten (rows_one _))
      refine ⟨by omega, by omega, by omega, by omega, ((l.drop i).map itv).flatten, ⟨by rw [hm2, hsl], hr'.peek (by intro e; omega) (rest_get ht hn i), One_flatten (rows_one _), u1⟩, ?_⟩
      intro w12 e12
      rw [← e12] at u2 u3
      obtain ⟨p1, p2, p3⟩ := u2.poke (vs := itv x) (l := i) (m := s.c) (size := 4) (by intro e; omega) (by rw [Go.Vc.putCells_length]; simp; omega) (itv_one x)
      have hx12 : Row w12 g (itv x) tItem := u3.row (hx.ext (Ext.dr w)) (Ne.symm hneg)
      refine ⟨by omega, by omega, itv x, ⟨hm1.symm, hx12.rd0 fun j hj => rfl, itv_one x, p1⟩, ?_⟩
      intro w14 e14
      rw [← e14] at p2 p3
      refine ⟨⟨some ⟨g0, 0, none⟩, s.n + 1, s.c⟩, rfl, OwnK.of_row (Nat.zero_le _) p2 (by rw [Go.Vc.putCells_length, Go.Vc.putCells_length, hc]) (by omega) ?_ (rows_wd _), ?_, ?_⟩
      · rw [two_puts' (by simp; omega) (by rw [hsl]; omega) hCl, htk]
        simp
      · refine (((Mod.of_ext (Ext.dr w)).trans u3).trans p3).mono fun b _ hb => ?_
        rw [hblk, hb]
      · intro b hb; exact .inl (hblk.trans hb)
end Go.Proofs.Ytbphdgiepimmkaa
