import Derived.Test.YtbnmglonbhdcbaaGreatDoorKB
set_option linter.all false
namespace Go.Proofs.YtbnmglonbhdcbaaGreatDoor
open Go Go.Vc Go.RowKit Go.Proofs Go.Chk Go.Runs Go.Code

theorem loadL1 {w : World} {p : Option Addr} {v : Value} (h : ld w p = some v) : LoadL w p 0 [v] := by
  show ld w (padd p 0) = _
  rw [padd_zero]; exact h
/-- An item of which the cells are others, too. -/
theorem TO.put2 {w w' : World} {t st d r : Nat} {sl : Sl} {room seed limit : Int} {its : List It} (h : TO w t st d r sl room seed limit its) {i : Nat} {y y' : It} (hi : its[i]? = some y) (hx : y'.x = y.x) (hg : y'.g = y.g) (hm : Mod (fun j => j = y.x ∨ j = y.g) w w') (hy : ItIs w' y') : TO w' t st d r sl room seed limit (its.set i y') := by
  have hil := (List.getElem?_eq_some_iff.1 hi).1
  have hr := (h.it y (List.mem_of_getElem? hi)).r
  have hrg := (h.it y (List.mem_of_getElem? hi)).k.row
  have off : ∀ {j : Nat} {cs : List Value} {τ : TypeId}, Row w j cs τ → τ ≠ tItem → τ ≠ tChunk → ¬ (j = y.x ∨ j = y.g) := fun hr' ht hc e => by
    rcases e with e | e
    · exact hr'.ne hr ht e
    · exact hr'.ne hrg hc e
  have hpx : ptrs (its.set i y') = ptrs its := by
    unfold ptrs
    rw [List.map_set, hx]
    apply List.ext_getElem?
    intro j
    rw [List.getElem?_set]
    split
    · rename_i e; subst e
      rw [if_pos (by rw [List.length_map]; exact hil), List.getElem?_map, hi]; rfl
    · rfl
  have hmx : (its.set i y').map (·.x) = its.map (·.x) := by
    rw [List.map_set, hx]
    apply List.ext_getElem?
    intro j
    rw [List.getElem?_set]
    split
    · rename_i e; subst e
      rw [if_pos (by rw [List.length_map]; exact hil), List.getElem?_map, hi]; rfl
    · rfl
  have hmg : (its.set i y').map (·.g) = its.map (·.g) := by
    rw [List.map_set, hg]
    apply List.ext_getElem?
    intro j
    rw [List.getElem?_set]
    split
    · rename_i e; subst e
      rw [if_pos (by rw [List.length_map]; exact hil), List.getElem?_map, hi]; rfl
    · rfl
  refine ⟨hm.row h.rt (off h.rt (by decide) (by decide)), ⟨hm.row h.so.rs (off h.so.rs (by decide) (by decide)), hm.row h.so.rd (off h.so.rd (by decide) (by decide)), hm.map h.so.rm fun e => ?_⟩, ?_, fun z hz => ?_, by rw [hmx]; exact h.dx, by rw [hmg]; exact h.dg, h.lim, by rw [List.length_set]; exact h.len⟩
  · rcases e with e | e
    · exact hr.ne_map h.so.rm e.symm
    · exact hrg.ne_map h.so.rm e.symm
  · rw [hpx]
    exact hm.ownK h.ol fun b hb => by
      obtain ⟨cs', hr'⟩ := own_row h.ol (by decide) hb
      exact off hr' (by decide) (by decide)
  · obtain ⟨j, hj⟩ := List.getElem?_of_mem hz
    rw [List.getElem?_set] at hj
    split at hj
    · cases hj; exact hy
    · rename_i hne
      have hzj := h.it z (List.mem_of_getElem? hj)
      have hjl := (List.getElem?_eq_some_iff.1 hj).1
      refine hzj.keep hm ?_ ?_ (fun b hb => ?_)
      · rintro (e | e)
        · have h1 : (its.map (·.x))[i]? = some y.x := by rw [List.getElem?_map, hi]; rfl
          have h2 : (its.map (·.x))[j]? = some z.x := by rw [List.getElem?_map, hj]; rfl
          rw [e, ← h1] at h2
          exact hne ((List.getElem?_inj (by rw [List.length_map]; exact hjl) h.dx).1 h2).symm
        · exact hzj.r.ne hrg (by decide) e
      · rintro (e | e)
        · exact hzj.k.row.ne hr (by decide) e
        · have h1 : (its.map (·.g))[i]? = some y.g := by rw [List.getElem?_map, hi]; rfl
          have h2 : (its.map (·.g))[j]? = some z.g := by rw [List.getElem?_map, hj]; rfl
          rw [e, ← h1] at h2
          exact hne ((List.getElem?_inj (by rw [List.length_map]; exact hjl) h.dg).1 h2).symm
      · obtain ⟨cs', hr'⟩ := own_row hzj.k.own (by decide) hb
        exact off hr' (by decide) (by decide)
theorem foot_put2 {t st d r : Nat} {sl : Sl} {its : List It} {i n : Nat} {y y' : It} (hi : its[i]? = some y) (hx : y'.x = y.x) (hg : y'.g = y.g) (hs : ∀ b, y'.s.blk = some b → y.s.blk = some b ∨ n ≤ b) : ∀ j, foot t st d r sl (its.set i y') j → foot t st d r sl its j ∨ n ≤ j := by
  rintro j (e | e | e | e | e | ⟨z, hz, e⟩)
  · exact .inl (.inl e)
  · exact .inl (.inr (.inl e))
  · exact .inl (.inr (.inr (.inl e)))
  · exact .inl (.inr (.inr (.inr (.inl e))))
  · exact .inl (.inr (.inr (.inr (.inr (.inl e)))))
  · have hy : ∀ i, (i = y.x ∨ i = y.g ∨ y.s.blk = some i) → foot t st d r sl its i := fun i e => .inr (.inr (.inr (.inr (.inr ⟨y, List.mem_of_getElem? hi, e⟩))))
    rcases List.mem_or_eq_of_mem_set hz with hz | hz
    · exact .inl (.inr (.inr (.inr (.inr (.inr ⟨z, hz, e⟩)))))
    · subst hz
      rw [hx, hg] at e
      rcases e with e | e | e
      · exact .inl (hy j (.inl e))
      · exact .inl (hy j (.inr (.inl e)))
      · rcases hs j e with e | e
        · exact .inl (hy j (.inr (.inr e)))
        · exact .inr e
instance (c : Ce) : Decidable (inY c) := by unfold inY; exact inferInstance
/-- A cell's block, of a table. -/
def atE (l : List En) (c : Ce) : Int :=
  if firstI (fun e : En => e.1 == pos c) l < 0 then -1 else if c.2.1 < 0 then 1 else ((l[(firstI (fun e : En => e.1 == pos c) l).toNat]?).map fun e => kAt e.1 e.2.1 c).getD 0
def setE (l : List En) (c : Ce) (b : Int) : List En × Int :=
  if firstI (fun e : En => e.1 == pos c) l < 0 then (l, 11) else if ¬ inY c then (l, 5) else if bMay b = false then (l, 1) else
    (l.eraseIdx (firstI (fun e : En => e.1 == pos c) l).toNat ++ ((l[(firstI (fun e : En => e.1 == pos c) l).toNat]?).map fun e => (e.1, (kSet e.1 e.2.1 c b).1, e.2.2.1 || (kAt e.1 e.2.1 c != b), e.2.2.2)).toList, 0)
theorem tAt_spec {w : World} {t st d r : Nat} {sl : Sl} {room seed limit : Int} {its : List It} (h : TO w t st d r sl room seed limit its) (c : Ce) (hc : okC c) :
    Calls Tryz.prog n_table_Table_At #[.pointer (some ⟨t, 0, none⟩), cev c] w fun e w' => e = .returned (.int .i64 (atE (obs its) c)) ∧ Ext w w' := by
  apply table_Table_At.vc
  intro w0 e0
  have z0 : w0.heap.size = w.heap.size + 1 := by rw [e0]; simp
  have x0 : Ext w w0 := (Ext.rfl' w).of_alloc e0
  clear e0
  refine (cChunk_spec c hc w0).mono ?_
  rintro e w1 ⟨rfl, x1⟩
  have x01 := x0.tr x1
  have z1 := x1.size
  refine ⟨_, _, rfl, x1.heap (by omega), (find_spec (h.ext x01) (pos c)).mono ?_⟩
  rintro e w4 ⟨rfl, x4⟩
  have z4 := x4.size
  have x04 := x01.tr x4
  have hfm : firstI (fun e : En => e.1 == pos c) (obs its) = firstI (fun i : It => i.p == pos c) its := firstI_map It.ob _ its
  refine ⟨_, rfl, x4.heap (by omega), ?_⟩
  rcases firstI_cases (fun i : It => i.p == pos c) its with ⟨hf, -⟩ | ⟨k, y, hk, hyp, hf, -⟩
  · rw [hf]
    refine Br.mk (fun _ => ⟨?_, x04⟩) (fun h => by simp at h)
    unfold atE
    rw [hfm, hf, if_pos (by decide)]
  · rw [hf]
    refine Br.mk (fun h => by simp at h; omega) (fun _ => Br.mk (fun hb => ?_) (fun hb => ?_))
    · simp only [decide_eq_true_eq] at hb
      refine ⟨?_, x04⟩
      unfold atE
      rw [hfm, hf, if_neg (by omega), if_pos hb]
    · simp only [decide_eq_false_iff_not] at hb
      have hd := (h.ext x04).ext (Ext.dr w4)
      obtain ⟨a1, a2⟩ := hd.at hk
      have hyr := hd.it y (List.mem_of_getElem? hk)
      refine ⟨sl, hd.rt.at 3 rfl, a1, _, a2, nnS (nnS ⟨_, hyr.r.at 0 rfl, (At_spec hyr.k c hc).mono ?_⟩)⟩
      rintro e w9 ⟨rfl, x9⟩
      have h9 := hd.ext x9
      obtain ⟨-, b2⟩ := h9.at hk
      refine ⟨_, _, rfl, x9.heap (show w.heap.size < w4.heap.size by omega), loadL1 b2, loadL1 (h9.rt.at 3 rfl), ?_, x04.tr ((Ext.dr _).tr x9)⟩
      unfold atE
      rw [hfm, hf, if_neg (by omega), if_neg hb, Int.toNat_natCast, List.getElem?_map, hk]; rfl
theorem kSet_in {p : Po} {C : List Int} {c : Ce} {b : Int} (hp : p = pos c) (hy : inY c) (hb : bMay b = true) : (kSet p C c b).2 = 0 := by
  unfold kSet
  rw [if_neg (by rw [(inK_iff p c).2 ⟨hy, hp.symm⟩]; decide), if_neg (by rw [hb]; decide)]
theorem tSet_spec {w : World} {t st d r : Nat} {sl : Sl} {room seed limit : Int} {its : List It} (h : TO w t st d r sl room seed limit its) (c : Ce) (hc : okC c) (b : Int) :
    Calls Tryz.prog n_table_Table_Set #[.pointer (some ⟨t, 0, none⟩), cev c, .int .i64 b] w fun e w' => e = .returned (.int .i64 (setE (obs its) c b).2) ∧ LdRes w t st d r sl room seed limit its (setE (obs its) c b).1 w' := by
  apply table_Table_Set.vc
  intro w0 e0
  have z0 : w0.heap.size = w.heap.size + 1 := by rw [e0]; simp
  have x0 : Ext w w0 := (Ext.rfl' w).of_alloc e0
  clear e0
  refine (cChunk_spec c hc w0).mono ?_
  rintro e w1 ⟨rfl, x1⟩
  have x01 := x0.tr x1
  have z1 := x1.size
  refine ⟨_, _, rfl, x1.heap (by omega), (find_spec (h.ext x01) (pos c)).mono ?_⟩
  rintro e w4 ⟨rfl, x4⟩
  have z4 := x4.size
  have x04 := x01.tr x4
  have hfm : firstI (fun e : En => e.1 == pos c) (obs its) = firstI (fun i : It => i.p == pos c) its := firstI_map It.ob _ its
  refine ⟨_, rfl, x4.heap (by omega), (cIndex_spec c w4).mono ?_⟩
  rintro e w6 ⟨⟨ix, iy, rfl, hiy⟩, x6⟩
  have z6 := x6.size
  have x06 := x04.tr x6
  have h6 := h.ext x06
  refine ⟨_, _, rfl, x6.heap (by omega), ?_⟩
  have same : ∀ {w'}, Ext w w' → LdRes w t st d r sl room seed limit its (obs its) w' := fun x => ⟨sl, its, h.ext x, rfl, Turned.of_ext x⟩
  rcases firstI_cases (fun i : It => i.p == pos c) its with ⟨hf, -⟩ | ⟨k, y, hk, hyp, hf, -⟩
  · rw [hf]
    refine Br.mk (fun _ => ?_) (fun h => by simp at h)
    have e : setE (obs its) c b = (obs its, 11) := by unfold setE; rw [hfm, hf, if_pos (by decide)]
    rw [e]
    exact ⟨rfl, same x06⟩
  · rw [hf]
    have hyc : y.p = pos c := by simpa using hyp
    refine Br.mk (fun h => by simp at h; omega) (fun _ => ?_)
    rcases hiy with ⟨rfl, hY, -⟩ | ⟨rfl, hY, -⟩
    · refine nope rfl ((block_May_spec b w6).mono ?_)
      rintro e w9 ⟨rfl, x9⟩
      have z9 := x9.size
      have x09 := x06.tr x9
      refine ⟨_, rfl, x9.heap (by omega), Br.mk (fun hb => ?_) (fun hb => ?_)⟩
      · have hb' : bMay b = false := by simpa using hb
        have e : setE (obs its) c b = (obs its, 1) := by unfold setE; rw [hfm, hf, if_neg (by omega), if_neg (by simpa using hY), if_pos hb']
        rw [e]
        exact ⟨rfl, same x09⟩
      · have hb' : bMay b = true := by simpa using hb
        have he : setE (obs its) c b = ((obs its).eraseIdx k ++ [(y.p, (kSet y.p y.C c b).1, y.dirty || (kAt y.p y.C c != b), y.pins)], 0) := by
          unfold setE
          rw [hfm, hf, if_neg (by omega), if_neg (by simpa using hY), if_neg (by rw [hb']; decide), Int.toNat_natCast, List.getElem?_map, hk]; rfl
        have h0 := kSet_in (C := y.C) hyc hY hb'
        rw [he]
        have h9 := h.ext x09
        refine (touch_spec h9 hk).mono ?_
        rintro e w11 ⟨rfl, sl11, h11, t11⟩
        have t011 := (Turned.of_ext x09).trans t11
        have z11 := t11.mod.size
        have bx : ∀ {F : Nat → Prop}, (∀ i, F i → foot t st d r sl its i) → ¬ F w.heap.size := fun hF hf => by have := h.lt (hF _ hf); omega
        have hi' : (its.eraseIdx k ++ [y])[(its.eraseIdx k).length]? = some y := by rw [List.getElem?_append_right (Nat.le_refl _), Nat.sub_self]; rfl
        have hd := h11.ext (Ext.dr w11)
        have hyd := hd.it y (List.mem_of_getElem? hi')
        have hxw : y.x < w.heap.size := (h.it y (List.mem_of_getElem? hk)).r.lt
        have hgw : y.g < w.heap.size := (h.it y (List.mem_of_getElem? hk)).k.row.lt
        refine ⟨_, rfl, t11.mod.same _ (by omega) (bx fun i hi => hi), nnS (nnS ⟨_, hyd.r.at 0 rfl, (At_spec hyd.k c hc).mono ?_⟩)⟩
        rintro e w14 ⟨rfl, x14⟩
        have x1114 : Ext w11 w14 := (Ext.dr _).tr x14
        have z14 := x1114.size
        have h14 := h11.ext x1114
        have hy14 := h14.it y (List.mem_of_getElem? hi')
        have pt : ∀ v : Bool, _ := fun v => hy14.r.put1 (j := 1) (v := .bool v) (by simp) rfl
        refine ⟨_, _, rfl, x14.heap (show w.heap.size < w11.heap.size by omega), nnS (nnS ⟨_, hy14.r.at 1 rfl, Br.mk (fun hb => nnS (nnS ⟨⟨rfl, (pt true).1⟩, fun e => ?_, fun w18 e18 => nnS (nnS ?_)⟩)) (fun hb => nnS (nnS ⟨⟨rfl, (pt true).1⟩, fun e => ?_, fun w18 e18 => nnS (nnS ?_)⟩))⟩)⟩
        case refine_1 | refine_3 =>
          rw [pblk_padd] at e
          have : y.x = w.heap.size := by simpa [pblk] using e
          omega
        all_goals
          obtain ⟨q1, q2⟩ := (pt _).2 w18 e18
          have z18 := q2.size
          have hk18 : KIs w18 y.g y.s y.p y.C := hy14.k.keep q2 (fun e => hy14.k.row.ne hy14.r (by decide) e) (fun b hb => by
            obtain ⟨cs', hr'⟩ := own_row hy14.k.own (by decide) hb
            exact hr'.ne hy14.r (by decide))
          refine ⟨_, (q1.ext (Ext.dr _)).at 0 rfl, (Set_spec (hk18.ext (Ext.dr w18)) c hc b).mono ?_⟩
          rintro e w20 ⟨rfl, s', hk20, m20, b20⟩
          have q1d := q1.ext (Ext.dr w18)
          refine ⟨_, rfl, m20.same _ (show w.heap.size < w18.heap.size by omega) (fun e => by omega), congrArg _ (congrArg _ h0), ?_⟩
          have hm : Mod (fun j => j = y.x ∨ j = y.g) w14 w20 := ((q2.mono fun i _ hi => .inl hi).trans (Mod.of_ext (Ext.dr _))).trans (m20.mono fun i _ hi => .inr hi)
          have hy20 : ItIs w20 ⟨y.x, y.g, s', y.p, (kSet y.p y.C c b).1, y.dirty || (kAt y.p y.C c != b), y.pins⟩ := by
            refine ⟨?_, hk20⟩
            have := m20.row q1d (fun e => q1d.ne (hk18.ext (Ext.dr w18)).row (by decide) e)
            rw [hb]
            exact this
          have h20 := h14.put2 hi' (y' := ⟨y.x, y.g, s', y.p, (kSet y.p y.C c b).1, y.dirty || (kAt y.p y.C c != b), y.pins⟩) rfl rfl hm hy20
          refine ⟨sl11, _, h20, ?_, t011.trans ⟨(Mod.of_ext x1114).trans (hm.mono fun i _ hi => ?_), fun j hj => ?_⟩⟩
          · unfold obs
            rw [List.set_append_right _ _ (Nat.le_refl _), Nat.sub_self, List.map_append]
            have := obs_erase its k
            unfold obs at this
            rw [this]; rfl
          · exact .inr (.inr (.inr (.inr (.inr ⟨y, List.mem_of_getElem? hi', hi.elim .inl fun e => .inr (.inl e)⟩))))
          · exact foot_put2 (y' := ⟨y.x, y.g, s', y.p, (kSet y.p y.C c b).1, y.dirty || (kAt y.p y.C c != b), y.pins⟩) hi' rfl rfl (fun b hb => (b20 b hb).imp id fun e => Nat.le_trans (Nat.le_trans z14 z18) e) j hj
    · have e : setE (obs its) c b = (obs its, 5) := by unfold setE; rw [hfm, hf, if_neg (by omega), if_pos hY]
      refine yes rfl ?_
      rw [e]
      exact ⟨rfl, same x06⟩
end Go.Proofs.YtbnmglonbhdcbaaGreatDoor
namespace Go.Proofs.YtbnmglonbhdcbaaGreatDoor
open Go Go.Vc Go.RowKit Go.Proofs Go.Chk Go.Runs Go.Code

abbrev tWorld : TypeId := 126
abbrev tChg : TypeId := 63
/-- A table of the blocks F, of which l is told. -/
def TF (F : Nat → Prop) (w : World) (t : Nat) (seed limit : Int) (l : List En) : Prop :=
  ∃ st d r sl room its, TO w t st d r sl room seed limit its ∧ obs its = l ∧ F = foot t st d r sl its
theorem TF.lt {F : Nat → Prop} {w : World} {t : Nat} {seed limit : Int} {l : List En} (h : TF F w t seed limit l) {i : Nat} (hi : F i) : i < w.heap.size := by
  obtain ⟨st, d, r, sl, room, its, h1, h2, rfl⟩ := h
  exact h1.lt hi
theorem TF.same {F : Nat → Prop} {w w' : World} {t : Nat} {seed limit : Int} {l : List En} (h : TF F w t seed limit l) (hs : ∀ i, F i → w'.heap[i]? = w.heap[i]?) : TF F w' t seed limit l := by
  obtain ⟨st, d, r, sl, room, its, h1, h2, rfl⟩ := h
  exact ⟨st, d, r, sl, room, its, h1.same hs, h2, rfl⟩
theorem TF.ext {F : Nat → Prop} {w w' : World} {t : Nat} {seed limit : Int} {l : List En} (h : TF F w t seed limit l) (x : Ext w w') : TF F w' t seed limit l := h.same fun _ hi => x.heap (h.lt hi)
theorem TF.keep {F G : Nat → Prop} {w w' : World} {t : Nat} {seed limit : Int} {l : List En} (h : TF F w t seed limit l) (hm : Mod G w w') (hn : ∀ i, F i → ¬ G i) : TF F w' t seed limit l := h.same fun i hi => hm.same i (h.lt hi) (hn i hi)
abbrev offT (τ : TypeId) : Prop := τ ≠ tTable ∧ τ ≠ tStore ∧ τ ≠ tDisk ∧ τ ≠ tPI ∧ τ ≠ tItem ∧ τ ≠ tChunk ∧ τ ≠ tRun
theorem TF.no_row {F : Nat → Prop} {w : World} {t : Nat} {seed limit : Int} {l : List En} (h : TF F w t seed limit l) {j : Nat} {cs : List Value} {τ : TypeId} (hr : Row w j cs τ) (hτ : offT τ) : ¬ F j := by
  obtain ⟨st, d, r, sl, room, its, h1, h2, rfl⟩ := h
  exact h1.no_row hr hτ
theorem TF.len {F : Nat → Prop} {w : World} {t : Nat} {seed limit : Int} {l : List En} (h : TF F w t seed limit l) : (l.length : Int) ≤ limit ∧ 1 ≤ limit ∧ limit ≤ 16 := by
  obtain ⟨st, d, r, sl, room, its, h1, rfl, rfl⟩ := h
  have := h1.len; have := h1.lim
  unfold obs
  rw [List.length_map]
  omega
/-- The cells of chunks that are here. -/
def goodL (l : List En) : Prop := ∀ e ∈ l, e.2.1.length = 8192 ∧ ∀ b ∈ e.2.1, bMay b = true
theorem TF.good {F : Nat → Prop} {w : World} {t : Nat} {seed limit : Int} {l : List En} (h : TF F w t seed limit l) : goodL l := by
  obtain ⟨st, d, r, sl, room, its, h1, rfl, rfl⟩ := h
  intro e he
  obtain ⟨y, hy, rfl⟩ := List.mem_map.1 he
  exact ⟨(h1.it y hy).k.len, (h1.it y hy).k.may⟩
abbrev TRes (F : Nat → Prop) (w : World) (t : Nat) (seed limit : Int) (l : List En) (w' : World) : Prop := ∃ F', TF F' w' t seed limit l ∧ Turned F F' w w'
theorem tf_of {w w' : World} {t st d r : Nat} {sl : Sl} {room seed limit : Int} {its : List It} {l : List En} (hl : LdRes w t st d r sl room seed limit its l w') : TRes (foot t st d r sl its) w t seed limit l w' := by
  obtain ⟨sl', its', h', ho, ht⟩ := hl
  exact ⟨_, ⟨st, d, r, sl', room, its', h', ho, rfl⟩, ht⟩
theorem tfNew_spec (seed limit room : Int) (w : World) : Calls Tryz.prog n_table_New #[.int .i64 seed, .int .i64 limit, .int .i64 room] w fun e w' => ∃ t F, e = .returned (.pointer (some ⟨t, 0, none⟩)) ∧ TF F w' t seed (min (max limit 1) 16) [] ∧ Ext w w' ∧ ∀ i, F i → w.heap.size ≤ i := by
  refine (tNew_spec seed limit room w).mono ?_
  rintro e w' ⟨t, st, d, r, rm, rfl, h, x, hf⟩
  exact ⟨t, _, rfl, ⟨st, d, r, _, rm, [], h, rfl, rfl⟩, x, hf⟩
theorem tfLoad_spec {F : Nat → Prop} {w : World} {t : Nat} {seed limit : Int} {l : List En} (h : TF F w t seed limit l) (hc : (∀ e ∈ l, e.2.2.1 = false) ∨ (l.length : Int) < limit) (p : Po) :
    Calls Tryz.prog n_table_Table_Load #[.pointer (some ⟨t, 0, none⟩), pv p] w fun e w' => e = .returned (.int .i64 (ldE seed limit l p).2) ∧ TRes F w t seed limit (ldE seed limit l p).1 w' := by
  obtain ⟨st, d, r, sl, room, its, h1, rfl, rfl⟩ := h
  refine (Load_spec h1 ?_ p).mono ?_
  · rcases hc with h | h
    · exact .inl fun y hy => h _ (List.mem_map.2 ⟨y, hy, rfl⟩)
    · exact .inr (by unfold obs at h; rw [List.length_map] at h; exact h)
  · rintro e w' ⟨rfl, hl⟩
    exact ⟨rfl, tf_of hl⟩
theorem tfAt_spec {F : Nat → Prop} {w : World} {t : Nat} {seed limit : Int} {l : List En} (h : TF F w t seed limit l) (c : Ce) (hc : okC c) :
    Calls Tryz.prog n_table_Table_At #[.pointer (some ⟨t, 0, none⟩), cev c] w fun e w' => e = .returned (.int .i64 (atE l c)) ∧ Ext w w' := by
  obtain ⟨st, d, r, sl, room, its, h1, rfl, rfl⟩ := h
  exact tAt_spec h1 c hc
theorem tfSet_spec {F : Nat → Prop} {w : World} {t : Nat} {seed limit : Int} {l : List En} (h : TF F w t seed limit l) (c : Ce) (hc : okC c) (b : Int) :
    Calls Tryz.prog n_table_Table_Set #[.pointer (some ⟨t, 0, none⟩), cev c, .int .i64 b] w fun e w' => e = .returned (.int .i64 (setE l c b).2) ∧ TRes F w t seed limit (setE l c b).1 w' := by
  obtain ⟨st, d, r, sl, room, its, h1, rfl, rfl⟩ := h
  refine (tSet_spec h1 c hc b).mono ?_
  rintro e w' ⟨rfl, hl⟩
  exact ⟨rfl, tf_of hl⟩
/-! ## The world -/
abbrev Cg := Ce × Int
abbrev cgv (x : Cg) : List Value := [.int .i64 x.1.1, .int .i64 x.1.2.1, .int .i64 x.1.2.2, .int .i64 x.2]
def WF (F : Nat → Prop) (w : World) (o t : Nat) (seed limit : Int) (l : List En) (ch : List Cg) : Prop :=
  ∃ F1 sc, TF F1 w t seed limit l ∧ Row w o [.pointer (some ⟨t, 0, none⟩), .slice sc.a sc.n sc.c] tWorld ∧ OwnK 0 tChg 4 w sc (ch.map cgv) ∧ F = fun i => F1 i ∨ i = o ∨ sc.blk = some i
theorem WF.lt {F : Nat → Prop} {w : World} {o t : Nat} {seed limit : Int} {l : List En} {ch : List Cg} (h : WF F w o t seed limit l ch) {i : Nat} (hi : F i) : i < w.heap.size := by
  obtain ⟨F1, sc, h1, h2, h3, rfl⟩ := h
  rcases hi with hi | rfl | hi
  · exact h1.lt hi
  · exact h2.lt
  · exact (h3.own.lt hi).2
theorem WF.same {F : Nat → Prop} {w w' : World} {o t : Nat} {seed limit : Int} {l : List En} {ch : List Cg} (h : WF F w o t seed limit l ch) (hs : ∀ i, F i → w'.heap[i]? = w.heap[i]?) : WF F w' o t seed limit l ch := by
  obtain ⟨F1, sc, h1, h2, h3, rfl⟩ := h
  exact ⟨F1, sc, h1.same fun i hi => hs i (.inl hi), h2.same (hs o (.inr (.inl rfl))), OwnK.keep h3 fun b hb => hs b (.inr (.inr hb)), rfl⟩
theorem WF.ext {F : Nat → Prop} {w w' : World} {o t : Nat} {seed limit : Int} {l : List En} {ch : List Cg} (h : WF F w o t seed limit l ch) (x : Ext w w') : WF F w' o t seed limit l ch := h.same fun _ hi => x.heap (h.lt hi)
theorem WF.keep {F G : Nat → Prop} {w w' : World} {o t : Nat} {seed limit : Int} {l : List En} {ch : List Cg} (h : WF F w o t seed limit l ch) (hm : Mod G w w') (hn : ∀ i, F i → ¬ G i) : WF F w' o t seed limit l ch := h.same fun i hi => hm.same i (h.lt hi) (hn i hi)
theorem WF.no_row {F : Nat → Prop} {w : World} {o t : Nat} {seed limit : Int} {l : List En} {ch : List Cg} (h : WF F w o t seed limit l ch) {j : Nat} {cs : List Value} {τ : TypeId} (hr : Row w j cs τ) (hτ : offT τ) (hw : τ ≠ tWorld) (hc : τ ≠ tChg) : ¬ F j := by
  obtain ⟨F1, sc, h1, h2, h3, rfl⟩ := h
  rintro (hi | rfl | hi)
  · exact h1.no_row hr hτ hi
  · exact hr.ne h2 hw rfl
  · obtain ⟨cs', hr'⟩ := own_row h3 (by decide) hi
    exact hr.ne hr' hc rfl
theorem WF.len {F : Nat → Prop} {w : World} {o t : Nat} {seed limit : Int} {l : List En} {ch : List Cg} (h : WF F w o t seed limit l ch) : (l.length : Int) ≤ limit ∧ 1 ≤ limit ∧ limit ≤ 16 := by
  obtain ⟨F1, sc, h1, h2, h3, rfl⟩ := h
  exact h1.len
theorem WF.good {F : Nat → Prop} {w : World} {o t : Nat} {seed limit : Int} {l : List En} {ch : List Cg} (h : WF F w o t seed limit l ch) : goodL l := by
  obtain ⟨F1, sc, h1, h2, h3, rfl⟩ := h
  exact h1.good
abbrev WRes (F : Nat → Prop) (w : World) (o t : Nat) (seed limit : Int) (l : List En) (ch : List Cg) (w' : World) : Prop := ∃ F', WF F' w' o t seed limit l ch ∧ Turned F F' w w'
/-- What is done to the table alone. -/
theorem WF.table {F : Nat → Prop} {w : World} {o t : Nat} {seed limit : Int} {l : List En} {ch : List Cg} (h : WF F w o t seed limit l ch) : ∃ F1, TF F1 w t seed limit l ∧ (∀ i, F1 i → F i) ∧ ∀ {w' : World} {l' : List En}, TRes F1 w t seed limit l' w' → WRes F w o t seed limit l' ch w' := by
  obtain ⟨F1, sc, h1, h2, h3, rfl⟩ := h
  refine ⟨F1, h1, fun i hi => .inl hi, ?_⟩
  rintro w' l' ⟨F', h', ht⟩
  have n2 := h1.no_row h2 (by decide)
  have n3 : ∀ b, sc.blk = some b → ¬ F1 b := fun b hb => by
    obtain ⟨cs', hr'⟩ := own_row h3 (by decide) hb
    exact h1.no_row hr' (by decide)
  refine ⟨_, ⟨F', sc, h', ht.mod.row h2 n2, ht.mod.ownK h3 n3, rfl⟩, ht.mod.mono fun i _ hi => .inl hi, fun i hi => ?_⟩
  rcases hi with hi | hi | hi
  · exact (ht.sub i hi).imp .inl id
  · exact .inl (.inr (.inl hi))
  · exact .inl (.inr (.inr hi))
theorem wNew_spec (seed limit room : Int) (w : World) : Calls Tryz.prog n_world_New #[.int .i64 seed, .int .i64 limit, .int .i64 room] w fun e w' => ∃ o t F, e = .returned (.pointer (some ⟨o, 0, none⟩)) ∧ WF F w' o t seed (min (max limit 1) 16) [] [] ∧ Ext w w' ∧ ∀ i, F i → w.heap.size ≤ i := by
  apply world_New.vc
  refine (tfNew_spec seed limit room w).mono ?_
  rintro e w0 ⟨t, F1, rfl, h0, x0, f0⟩
  refine ⟨_, rfl, fun w2 e2 => ⟨w0.heap.size, t, _, rfl, ⟨F1, ⟨none, 0, 0⟩, h0.ext ((Ext.rfl' _).of_alloc e2), ?_, OwnK.nil, rfl⟩, x0.of_alloc e2, fun i hi => ?_⟩⟩
  · rw [e2]; exact Row.new w0 [_, _] _
  · rcases hi with hi | hi | hi
    · exact f0 i hi
    · have := x0.size; omega
    · cases hi
theorem wTable_spec {F : Nat → Prop} {w : World} {o t : Nat} {seed limit : Int} {l : List En} {ch : List Cg} (h : WF F w o t seed limit l ch) : Calls Tryz.prog n_world_World_Table #[.pointer (some ⟨o, 0, none⟩)] w fun e w' => e = .returned (.pointer (some ⟨t, 0, none⟩)) ∧ w' = w := by
  obtain ⟨F1, sc, h1, h2, h3, rfl⟩ := h
  apply world_World_Table.vc
  exact ⟨_, h2.at 0 rfl, rfl, rfl⟩
theorem wView_spec {F : Nat → Prop} {w : World} {o t : Nat} {seed limit : Int} {l : List En} {ch : List Cg} (h : WF F w o t seed limit l ch) : Calls Tryz.prog n_world_World_View #[.pointer (some ⟨o, 0, none⟩)] w fun e w' => e = .returned (.func (.func n_table_Table_At) #[.pointer (some ⟨t, 0, none⟩)] #[]) ∧ w' = w := by
  obtain ⟨F1, sc, h1, h2, h3, rfl⟩ := h
  apply world_World_View.vc
  exact ⟨_, h2.at 0 rfl, rfl, rfl⟩
/-- The changes of a world's Set. -/
def wsC (l : List En) (ch : List Cg) (c : Ce) (b : Int) : List Cg := if (setE l c b).2 = 0 ∧ atE l c ≠ b then ch ++ [(c, b)] else ch
theorem one_4 (a b c d : Int) : One [Value.int .i64 a, .int .i64 b, .int .i64 c, .int .i64 d] := by
  intro v hv
  simp at hv
  rcases hv with rfl | rfl | rfl | rfl <;> rfl
theorem wSet_spec {F : Nat → Prop} {w : World} {o t : Nat} {seed limit : Int} {l : List En} {ch : List Cg} (h : WF F w o t seed limit l ch) (c : Ce) (hc : okC c) (b : Int) (hn : ch.length ≤ 1000000) :
    Calls Tryz.prog n_world_World_Set #[.pointer (some ⟨o, 0, none⟩), cev c, .int .i64 b] w fun e w' => e = .returned (.int .i64 (setE l c b).2) ∧ WRes F w o t seed limit (setE l c b).1 (wsC l ch c b) w' := by
  have hF := fun {i} => h.lt (i := i)
  have hh := h
  obtain ⟨F1, sc, h1, h2, h3, rfl⟩ := h
  apply world_World_Set.vc
  intro w0 e0
  have z0 : w0.heap.size = w.heap.size + 1 := by rw [e0]; simp
  have x0 : Ext w w0.drew := ((Ext.rfl' w).of_alloc e0).drew
  clear e0
  have zd : w0.drew.heap.size = w0.heap.size := rfl
  refine ⟨_, (h2.ext x0).at 0 rfl, (tfAt_spec (h1.ext x0) c hc).mono ?_⟩
  rintro e w2 ⟨rfl, x2⟩
  have z2 := x2.size
  have x02 := (x0.tr x2).drew
  have zd2 : w2.drew.heap.size = w2.heap.size := rfl
  refine ⟨_, rfl, x2.heap (by omega), _, (h2.ext x02).at 0 rfl, (tfSet_spec (h1.ext x02) c hc b).mono ?_⟩
  rintro e w5 ⟨rfl, hT⟩
  obtain ⟨F', hF', ht'⟩ := hT
  have z5 := ht'.mod.size
  have n2 := (h1.ext x02).no_row (h2.ext x02) (by decide)
  have n3 : ∀ b, sc.blk = some b → ¬ F1 b := fun b hb => by
    obtain ⟨cs', hr'⟩ := own_row (h3.ext x02) (by decide) hb
    exact (h1.ext x02).no_row hr' (by decide)
  have h2' := ht'.mod.row (h2.ext x02) n2
  have h3' : OwnK 0 tChg 4 w5 sc (ch.map cgv) := ht'.mod.ownK (h3.ext x02) n3
  have nb : ¬ F1 w.heap.size := fun hf => by have := hF (.inl hf); omega
  have tt : Turned (fun i => F1 i ∨ i = o ∨ sc.blk = some i) (fun i => F' i ∨ i = o ∨ sc.blk = some i) w w5 := by
    refine (Turned.of_ext x02).trans ⟨ht'.mod.mono fun i _ hi => .inl hi, fun i hi => ?_⟩
    rcases hi with hi | hi | hi
    · exact (ht'.sub i hi).imp .inl id
    · exact .inl (.inr (.inl hi))
    · exact .inl (.inr (.inr hi))
  refine ⟨_, rfl, ht'.mod.same _ (by omega) nb, Br.mk (fun hb => Br.mk (fun hb2 => ?_) (fun hb2 => ?_)) (fun hb => ?_)⟩
  · simp only [beq_iff_eq] at hb
    simp only [bne_iff_ne] at hb2
    have ec : wsC l ch c b = ch ++ [(c, b)] := by unfold wsC; rw [if_pos ⟨hb, hb2⟩]
    rw [ec]
    have h2d := h2'.ext (Ext.dr w5)
    have hsn : sc.n = ch.length := by have := (h3.rd (show 0 < 4 by decide)).n; rwa [List.length_map] at this
    refine ⟨sc, h2d.at 1 rfl, fun w8 e8 => ?_⟩
    subst e8
    obtain ⟨hp, hres⟩ := (h3'.ext (Ext.dr w5)).app1 (bytes := 32) (news := cgv (c, b)) (.cells #[.int .i64 c.1, .int .i64 c.2.1, .int .i64 c.2.2, .int .i64 b] tChg) (Nat.zero_le _) rfl (one_4 _ _ _ _) (by omega) (by omega)
    refine ⟨hp, fun s9 w10 hr => ?_⟩
    obtain ⟨f1, ho10, hn10, xb, hk10, hblk⟩ := hres s9 w10 hr
    have zd5 : w5.drew.heap.size = w5.heap.size := rfl
    have hol := h2.lt
    have hscb : ∀ b, sc.blk = some b → b < w.heap.size := fun b hb => (h3.own.lt hb).2
    have m10 : Mod (fun j => sc.blk = some j) w5 w10 := (Mod.of_ext (Ext.dr w5)).trans (Mod.of_app xb hk10)
    have no : ¬ sc.blk = some o := fun e => by
      obtain ⟨cs', hr'⟩ := own_row h3 (by decide) e
      exact hr'.ne h2 (by decide) rfl
    have h210 := m10.row h2' no
    obtain ⟨p1, p2⟩ := h210.put1 (j := 1) (v := .slice s9.a s9.n s9.c) (by simp) rfl
    have z10 := m10.size
    have pb : ∀ j : Nat, o < j → pblk (padd (some ⟨o, 0, none⟩) 1) ≠ some j := fun j hj e => by
      rw [pblk_padd] at e
      have : o = j := by simpa [pblk] using e
      omega
    refine ⟨(m10.same w.heap.size (by omega) (fun e => by have := hscb _ e; omega)).trans ((Ext.al w5.drew _).heap (show w.heap.size < w5.heap.size by omega)).symm, f1, ⟨rfl, p1⟩, pb _ (by omega), pb _ (show o < w5.heap.size by omega), fun w11 e11 => ⟨rfl, ?_⟩⟩
    obtain ⟨q1, q2⟩ := p2 w11 e11
    have ho9 : ∀ b, s9.blk = some b → b ≠ o := fun b hb => by
      obtain ⟨cs', hr'⟩ := own_row ho10 (by decide) hb
      exact hr'.ne h210 (by decide)
    have m11 : Mod (fun j => j = o ∨ sc.blk = some j) w5 w11 := (m10.mono fun i _ hi => .inr hi).trans (q2.mono fun i _ hi => .inl hi)
    have hF11 : TF F' w11 t seed limit (setE l c b).1 := hF'.keep m11 fun i hi e => by
      rcases e with e | e
      · exact hF'.no_row h2' (by decide) (e ▸ hi)
      · obtain ⟨cs', hr'⟩ := own_row h3' (by decide) e
        exact hF'.no_row hr' (by decide) hi
    refine ⟨_, ⟨F', s9, hF11, q1, ?_, rfl⟩, tt.trans ⟨m11.mono fun i _ hi => .inr hi, fun i hi => ?_⟩⟩
    · rw [List.map_append]
      exact q2.ownK ho10 ho9
    · rcases hi with hi | hi | hi
      · exact .inl (.inl hi)
      · exact .inl (.inr (.inl hi))
      · rcases hblk with e | e
        · exact .inl (.inr (.inr (by rw [← e]; exact hi)))
        · rw [e] at hi; cases hi; exact .inr (show w5.heap.size ≤ w5.heap.size + 1 by omega)
  · simp only [bne_eq_false_iff_eq] at hb2
    have ec : wsC l ch c b = ch := by unfold wsC; rw [if_neg fun h => h.2 hb2]
    rw [ec]
    exact ⟨rfl, _, ⟨F', sc, hF', h2', h3', rfl⟩, tt⟩
  · simp only [beq_eq_false_iff_ne] at hb
    have ec : wsC l ch c b = ch := by unfold wsC; rw [if_neg fun h => hb h.1]
    rw [ec]
    exact ⟨rfl, _, ⟨F', sc, hF', h2', h3', rfl⟩, tt⟩
end Go.Proofs.YtbnmglonbhdcbaaGreatDoor
namespace Go.Proofs.YtbnmglonbhdcbaaGreatDoor
open Go Go.Vc Go.RowKit Go.Proofs Go.Chk Go.Runs Go.Code

/-- Where two cells change their places. -/
def swL (l : List En) (a b : Ce) : List En := if atE l a = -1 ∨ atE l b = -1 ∨ ¬ inY a ∨ ¬ inY b then l else (setE (setE l a (atE l b)).1 b (atE l a)).1
def swK (l : List En) (a b : Ce) : Int := if atE l a = -1 ∨ atE l b = -1 then 11 else if ¬ inY a ∨ ¬ inY b then 5 else (setE (setE l a (atE l b)).1 b (atE l a)).2
def swC (l : List En) (ch : List Cg) (a b : Ce) : List Cg := if atE l a = -1 ∨ atE l b = -1 ∨ ¬ inY a ∨ ¬ inY b then ch else wsC (setE l a (atE l b)).1 (wsC l ch a (atE l b)) b (atE l a)
theorem wsC_len (l : List En) (ch : List Cg) (c : Ce) (b : Int) : (wsC l ch c b).length ≤ ch.length + 1 := by
  unfold wsC
  split
  · simp
  · omega
theorem wSwap_spec {F : Nat → Prop} {w : World} {o t : Nat} {seed limit : Int} {l : List En} {ch : List Cg} (h : WF F w o t seed limit l ch) (a b : Ce) (ha : okC a) (hb : okC b) (hn : ch.length ≤ 900000) :
    Calls Tryz.prog n_world_World_Swap #[.pointer (some ⟨o, 0, none⟩), cev a, cev b] w fun e w' => e = .returned (.int .i64 (swK l a b)) ∧ WRes F w o t seed limit (swL l a b) (swC l ch a b) w' := by
  apply world_World_Swap.vc
  intro w0 e0 w1 e1
  have z0 : w0.heap.size = w.heap.size + 1 := by rw [e0]; simp
  have z1 : w1.heap.size = w.heap.size + 2 := by rw [e1]; simp [z0]
  have x01 : Ext w w1 := ((Ext.rfl' w).of_alloc e0).of_alloc e1
  have hbb : Row w1 w0.heap.size [.int .i64 b.1, .int .i64 b.2.1, .int .i64 b.2.2] tCe := by rw [e1]; exact Row.new w0 [_, _, _] _
  clear e0 e1
  have x1 : Ext w w1.drew := x01.drew
  have zd : w1.drew.heap.size = w1.heap.size := rfl
  obtain ⟨F1, sc, hT, hR, hO, rfl⟩ := id h
  have hR1 := hR.ext x1
  refine ⟨_, hR1.at 0 rfl, _, hR1.at 0 rfl, (tfAt_spec (hT.ext x1) a ha).mono ?_⟩
  rintro e w4 ⟨rfl, x4⟩
  have z4 := x4.size
  have x14 := x1.tr x4
  refine ⟨_, rfl, x4.heap (by omega), x4.heap (by omega), (hbb.ext ((Ext.dr _).tr x4)).loadL (fun j hj => by rw [Nat.zero_add]), loadL1 ((hR.ext x14).at 0 rfl), (tfAt_spec (hT.ext x14) b hb).mono ?_⟩
  rintro e w6 ⟨rfl, x6⟩
  have z6 := x6.size
  refine ⟨_, rfl, x6.heap (by omega), x6.heap (by omega), (cIndex_spec a w6).mono ?_⟩
  rintro e w8 ⟨⟨i1, b1, rfl, h1⟩, x8⟩
  have z8 := x8.size
  refine ⟨_, _, rfl, x8.heap (by omega), x8.heap (by omega), (cIndex_spec b w8).mono ?_⟩
  rintro e w11 ⟨⟨i2, b2, rfl, h2⟩, x11⟩
  have z11 := x11.size
  have xx : Ext w w11 := x14.tr (x6.tr (x8.tr x11))
  have hy1 : inY a ↔ b1 = true := by rcases h1 with ⟨q, h, -⟩ | ⟨q, h, -⟩ <;> simp [q, h]
  have hy2 : inY b ↔ b2 = true := by rcases h2 with ⟨q, h, -⟩ | ⟨q, h, -⟩ <;> simp [q, h]
  have stay : WRes _ w o t seed limit l ch w11 := ⟨_, h.ext xx, Turned.of_ext xx⟩
  have off : ∀ (c1 : swK l a b = 11 ∨ swK l a b = 5), True := fun _ => trivial
  refine ⟨_, _, rfl, x11.heap (by omega), x11.heap (by omega), Br.mk (fun c1 => ?_) (fun c1 => Br.mk (fun c2 => ?_) (fun c2 => Br.mk (fun c3 => ?_) (fun c3 => Br.mk (fun c4 => ?_) (fun c4 => ?_))))⟩
  · simp only [beq_iff_eq] at c1
    unfold swK swL swC
    rw [if_pos (.inl c1), if_pos (.inl c1), if_pos (.inl c1)]
    exact ⟨rfl, stay⟩
  · simp only [beq_iff_eq] at c2
    unfold swK swL swC
    rw [if_pos (.inr c2), if_pos (.inr (.inl c2)), if_pos (.inr (.inl c2))]
    exact ⟨rfl, stay⟩
  all_goals
    simp only [beq_eq_false_iff_ne] at c1 c2
    have n12 : ¬ (atE l a = -1 ∨ atE l b = -1) := fun h => h.elim c1 c2
  · have ny : ¬ inY a := by rw [hy1]; simpa using c3
    unfold swK swL swC
    rw [if_neg n12, if_pos (.inl ny), if_pos (.inr (.inr (.inl ny))), if_pos (.inr (.inr (.inl ny)))]
    exact ⟨rfl, stay⟩
  · have ny : ¬ inY b := by rw [hy2]; simpa using c4
    unfold swK swL swC
    rw [if_neg n12, if_pos (.inr ny), if_pos (.inr (.inr (.inr ny))), if_pos (.inr (.inr (.inr ny)))]
    exact ⟨rfl, stay⟩
  · have ya : inY a := by rw [hy1]; simpa using c3
    have yb : inY b := by rw [hy2]; simpa using c4
    unfold swK swL swC
    have n4 : ¬ (atE l a = -1 ∨ atE l b = -1 ∨ ¬ inY a ∨ ¬ inY b) := by
      rintro (h | h | h | h)
      · exact c1 h
      · exact c2 h
      · exact h ya
      · exact h yb
    rw [if_neg n12, if_neg (fun h => h.elim (fun h => h ya) (fun h => h yb)), if_neg n4, if_neg n4]
    refine (wSet_spec (h.ext xx) a ha _ (by omega)).mono ?_
    rintro e w14 ⟨rfl, F14, hw14, t14⟩
    have z14 := t14.mod.size
    have hF := fun {i} (hi : F1 i ∨ i = o ∨ sc.blk = some i) => h.lt (i := i) hi
    have nb : ∀ j, w.heap.size ≤ j → ¬ (F1 j ∨ j = o ∨ sc.blk = some j) := fun j hj hf => by have := hF hf; omega
    have nb' : ∀ j, w.heap.size ≤ j → j < w11.heap.size → ¬ F14 j := fun j hj hj2 hf => by
      rcases t14.sub j hf with hf | hf
      · exact nb j hj hf
      · omega
    have hl1 := wsC_len l ch a (atE l b)
    refine ⟨_, rfl, t14.mod.same _ (by omega) (nb _ (by omega)), t14.mod.same _ (by omega) (nb _ (by omega)), (wSet_spec hw14 b hb _ (by omega)).mono ?_⟩
    rintro e w16 ⟨rfl, F16, hw16, t16⟩
    refine ⟨_, rfl, t16.mod.same _ (by omega) (nb' _ (by omega) (by omega)), t16.mod.same _ (by omega) (nb' _ (by omega) (by omega)), rfl, F16, hw16, (Turned.of_ext xx).trans (t14.trans t16)⟩
/-- How high a column is, below y. -/
def topN (l : List En) (x z : Int) : Nat → Int
  | 0 => -1
  | y + 1 => if atE l (x, ((y : Nat) : Int), z) = -1 then -2 else if atE l (x, ((y : Nat) : Int), z) = 0 then topN l x z y else y
theorem wTop_spec {F : Nat → Prop} {w : World} {o t : Nat} {seed limit : Int} {l : List En} {ch : List Cg} (h : WF F w o t seed limit l ch) (x z : Int) (hx : inI x) (hz : inI z) :
    Calls Tryz.prog n_world_World_Top #[.pointer (some ⟨o, 0, none⟩), .int .i64 x, .int .i64 z] w fun e w' => e = .returned (.int .i64 (topN l x z 32)) ∧ Ext w w' := by
  obtain ⟨F1, sc, hT, hR, hO, rfl⟩ := id h
  apply world_World_Top.vc
  refine ⟨fun n y w' => y + 1 = n ∧ y ≤ 31 ∧ Ext w w' ∧ topN l x z 32 = topN l x z n, ⟨32, by omega, by omega, Ext.rfl' _, rfl⟩, ?_⟩
  rintro n us y w4 ⟨hy, hy31, x4, he⟩
  refine Br.mk (fun c => ?_) (fun c => ?_)
  · simp only [decide_eq_true_eq] at c
    obtain ⟨k, rfl⟩ : ∃ k : Nat, n = k + 1 := ⟨n - 1, by omega⟩
    have hyk : y = (k : Nat) := by omega
    subst hyk
    refine ⟨_, (hR.ext x4).at 0 rfl, (tfAt_spec (hT.ext x4) (x, (k : Int), z) ⟨hx, (show inI (k : Int) by unfold inI; omega), hz⟩).mono ?_⟩
    rintro e w7 ⟨rfl, x7⟩
    refine ⟨_, rfl, Br.mk (fun c1 => ?_) (fun c1 => Br.mk (fun c2 => ?_) (fun c2 => ?_))⟩
    · simp only [beq_iff_eq] at c1
      refine ⟨?_, x4.tr x7⟩
      rw [he]; unfold topN
      rw [if_pos c1]
    · simp only [beq_eq_false_iff_ne] at c1
      simp only [beq_iff_eq] at c2
      have wr : IntKind.wrap .i64 ((k : Int) - 1) = (k : Int) - 1 := wrap_in (by unfold inI; omega)
      refine ⟨k, by omega, ?_⟩
      rw [wr]
      refine ⟨by omega, by omega, x4.tr x7, ?_⟩
      rw [he]
      show topN l x z (k + 1) = _
      rw [topN, if_neg c1, if_pos c2]
    · simp only [beq_eq_false_iff_ne] at c1 c2
      refine ⟨?_, x4.tr x7⟩
      rw [he]; unfold topN
      rw [if_neg c1, if_neg c2]
  · simp only [decide_eq_false_iff_not] at c
    have : n = 0 := by omega
    subst this
    exact ⟨by rw [he]; rfl, x4⟩
theorem at_base : atE (ldE 0 1 [] (0, 0)).1 (0, 0, 0) = 1 := by
  have e : (ldE 0 1 [] (0, 0)).1 = [((0, 0), made 0 (0, 0), false, 0)] := rfl
  rw [e]
  generalize hM : made 0 (0, 0) = M
  have h0 : M[0]? = some 1 := by
    rw [← hM, made_get 0 (0, 0) (by decide)]
    unfold ofG
    rw [if_neg (by decide), if_pos (by decide)]
  show kAt (0, 0) M (0, 0, 0) = 1
  have hk : inK (0, 0) (0, 0, 0) = true := by decide
  unfold kAt
  rw [hk, if_pos rfl]
  show atC M 0 = 1
  unfold atC
  rw [if_neg (by decide), List.getD_eq_getElem?_getD]
  show (M[0]?).getD (-1) = 1
  rw [h0]; rfl
theorem ok0 : okC (0, 0, 0) := by unfold okC inI; simp
set_option maxRecDepth 100000 in
theorem lives13_spec (w : World) : Calls Tryz.prog n_law13_lives #[] w fun e w' => e = .returned (.bool true) ∧ Ext w w' := by
  apply law13_lives.vc
  refine (wNew_spec 0 1 100 w).mono ?_
  rintro e w0 ⟨o, t, F, rfl, h0, x0, f0⟩
  rw [lim1] at h0
  refine ⟨_, rfl, Br.mk (fun h => by cases h) (fun _ => (wView_spec h0).mono ?_)⟩
  rintro e w2 ⟨rfl, rfl⟩
  refine ⟨_, rfl, (wTable_spec h0).mono ?_⟩
  rintro e w4 ⟨rfl, rfl⟩
  refine ⟨_, rfl, ?_⟩
  rw [fnC_func, isNilF_func, AndL_nil]
  refine nope rfl ?_
  refine Br.mk (fun h => ?_) (fun _ => ?_)
  · cases h
  obtain ⟨F1, hT, hsub, -⟩ := h0.table
  have fin : ∀ i, F1 i → w.heap.size ≤ i := fun i hi => f0 i (hsub i hi)
  refine callV_of (by kernel_rfl) rfl ((tfAt_spec hT (0, 0, 0) ok0).mono ?_)
  rintro e w6 ⟨rfl, x6⟩
  refine ⟨_, rfl, (tfLoad_spec (hT.ext x6) (.inl (by simp)) (0, 0)).mono ?_⟩
  rintro e w8 ⟨rfl, F8, h8, t8⟩
  refine ⟨_, rfl, yes rfl ?_⟩
  refine callV_of (by kernel_rfl) rfl ((tfAt_spec h8 (0, 0, 0) ok0).mono ?_)
  rintro e w10 ⟨rfl, x10⟩
  refine ⟨_, rfl, ?_, ?_⟩
  · rw [at_base]; rfl
  · exact ((t8.fresh (x0.tr x6) fin).1).tr x10
end Go.Proofs.YtbnmglonbhdcbaaGreatDoor
namespace Go.Proofs.YtbnmglonbhdcbaaGreatDoor
open Go Go.Vc Go.RowKit Go.Proofs Go.Chk Go.Runs Go.Code

/-! ## What a table tells of cells, as a law -/
theorem same_cell {c d : Ce} (hc : inY c) (hd : inY d) (hp : pos c = pos d) (hi : (idx c).toNat = (idx d).toNat) : c = d := by
  have h1 := idx_in hc
  have h2 := idx_in hd
  have hi' : idx c = idx d := by omega
  obtain ⟨a, b, e⟩ := c
  obtain ⟨a', b', e'⟩ := d
  unfold idx at hi'
  unfold pos at hp
  simp only [Prod.mk.injEq] at hp ⊢
  simp only at hi'
  omega
/-- Of one chunk that is here. -/
def here1 (l : List En) (p : Po) : Prop := ∃ e ∈ l, e.1 = p
def nodL (l : List En) : Prop := (l.map (·.1)).Nodup
theorem at_none {l : List En} {c : Ce} (h : ¬ here1 l (pos c)) : atE l c = -1 := by
  unfold atE
  rw [firstI_none fun y hy => ?_, if_pos (by decide)]
  cases hb : (y.1 == pos c) with
  | false => rfl
  | true => exact absurd ⟨y, hy, by simpa using hb⟩ h
theorem first_here {l : List En} (hn : nodL l) {e : En} (he : e ∈ l) : ∃ k : Nat, l[k]? = some e ∧ firstI (fun x : En => x.1 == e.1) l = k := by
  obtain ⟨k, hk⟩ := List.getElem?_of_mem he
  refine ⟨k, hk, firstI_at hk (by simp) fun j hj y hy => ?_⟩
  cases hb : (y.1 == e.1) with
  | false => rfl
  | true =>
    have h1 : (l.map (·.1))[k]? = some e.1 := by rw [List.getElem?_map, hk]; rfl
    have h2 : (l.map (·.1))[j]? = some e.1 := by rw [List.getElem?_map, hy]; simpa using hb
    have hkl := (List.getElem?_eq_some_iff.1 h1).1
    have := (List.getElem?_inj (show j < _ by omega) hn).1 (h2.trans h1.symm)
    omega
theorem at_here {l : List En} (hn : nodL l) {e : En} (he : e ∈ l) {c : Ce} (hp : e.1 = pos c) : atE l c = if c.2.1 < 0 then 1 else kAt e.1 e.2.1 c := by
  obtain ⟨k, hk, hf⟩ := first_here hn he
  unfold atE
  rw [← hp, hf, if_neg (by omega), Int.toNat_natCast, hk]; rfl
theorem kAt_kSet {p : Po} {C : List Int} (hl : C.length = 8192) {c : Ce} (hy : inY c) (hp : p = pos c) {b : Int} (hb : bMay b = true) (c' : Ce) (hp' : p = pos c') : kAt p (kSet p C c b).1 c' = if c' = c then b else kAt p C c' := by
  have e : (kSet p C c b).1 = C.set (idx c).toNat b := by
    unfold kSet
    rw [if_neg (by rw [(inK_iff p c).2 ⟨hy, hp.symm⟩]; decide), if_neg (by rw [hb]; decide)]
  rw [e]
  have hi := idx_in hy
  by_cases hcc : c' = c
  · subst hcc
    rw [if_pos rfl]
    have hk : inK p c' = true := (inK_iff p c').2 ⟨hy, hp'.symm⟩
    unfold kAt
    rw [hk, if_pos rfl]
    unfold atC
    rw [if_neg (by omega), List.getD_eq_getElem?_getD, List.getElem?_set, if_pos rfl, if_pos (by omega)]; rfl
  · rw [if_neg hcc]
    by_cases hy' : inY c'
    · have hk : inK p c' = true := (inK_iff p c').2 ⟨hy', hp'.symm⟩
      have hi' := idx_in hy'
      have h0 : ¬ idx c' < 0 := by omega
      unfold kAt
      rw [hk, if_pos rfl, if_pos rfl]
      unfold atC
      rw [if_neg h0, if_neg h0, List.getD_eq_getElem?_getD, List.getD_eq_getElem?_getD, List.getElem?_set, if_neg (fun h => hcc (same_cell hy hy' (hp.symm.trans hp') h).symm)]
    · have hk : inK p c' = false := by
        cases h : inK p c' with
        | false => rfl
        | true => exact absurd ((inK_iff p c').1 h).1 hy'
      unfold kAt
      rw [hk, if_neg (by decide), if_neg (by decide)]
/-- What a Set does, of a chunk that is here. -/
theorem set_here {l : List En} (hn : nodL l) (hg : goodL l) {c : Ce} (hh : here1 l (pos c)) (hy : inY c) {b : Int} (hb : bMay b = true) :
    (setE l c b).2 = 0 ∧ nodL (setE l c b).1 ∧ (∀ p, here1 (setE l c b).1 p ↔ here1 l p) ∧ ∀ c', atE (setE l c b).1 c' = if c' = c then b else atE l c' := by
  obtain ⟨e, he, hp⟩ := hh
  obtain ⟨k, hk, hf⟩ := first_here hn he
  have hs : setE l c b = (l.eraseIdx k ++ [(e.1, (kSet e.1 e.2.1 c b).1, e.2.2.1 || (kAt e.1 e.2.1 c != b), e.2.2.2)], 0) := by
    unfold setE
    rw [← hp, hf, if_neg (by omega), if_neg (by simpa using hy), if_neg (by rw [hb]; decide), Int.toNat_natCast, hk]; rfl
  generalize hd : (e.2.2.1 || (kAt e.1 e.2.1 c != b)) = d at hs
  obtain ⟨A, B, hl2, hkA⟩ : ∃ A B, l = A ++ e :: B ∧ k = A.length := by
    obtain ⟨hkl, he⟩ := List.getElem?_eq_some_iff.1 hk
    exact ⟨l.take k, l.drop (k + 1), by rw [← he, ← List.drop_eq_getElem_cons hkl, List.take_append_drop], by rw [List.length_take]; omega⟩
  subst hkA
  rw [hl2, List.eraseIdx_append_of_length_le (Nat.le_refl _), Nat.sub_self] at hs
  have hs1 : setE l c b = (A ++ B ++ [(e.1, (kSet e.1 e.2.1 c b).1, d, e.2.2.2)], 0) := by rw [hl2]; exact hs
  rw [hs1]
  have hmem : ∀ x, x ∈ l ↔ x ∈ A ++ B ∨ x = e := fun x => by
    rw [hl2]
    simp only [List.mem_append, List.mem_cons]
    constructor
    · rintro (h | h | h)
      · exact .inl (.inl h)
      · exact .inr h
      · exact .inl (.inr h)
    · rintro ((h | h) | h)
      · exact .inl h
      · exact .inr (.inr h)
      · exact .inr (.inl h)
  have hn' : nodL (A ++ B ++ [(e.1, (kSet e.1 e.2.1 c b).1, d, e.2.2.2)]) := by
    have hnl : nodL (A ++ e :: B) := by rw [← hl2]; exact hn
    unfold nodL at hnl ⊢
    rw [List.map_append, List.map_cons] at hnl
    obtain ⟨n1, n2, n3⟩ := List.nodup_append.1 hnl
    obtain ⟨n4, n5⟩ := List.nodup_cons.1 n2
    rw [List.map_append, List.map_append]
    refine List.nodup_append.2 ⟨List.nodup_append.2 ⟨n1, n5, fun a ha b hb => n3 a ha b (.tail _ hb)⟩, by simp, fun a ha b hb => ?_⟩
    simp only [List.map_cons, List.map_nil, List.mem_singleton] at hb
    subst hb
    rcases List.mem_append.1 ha with ha | ha
    · exact n3 a ha _ (.head _)
    · exact fun h => n4 (h ▸ ha)
  have hone : ∀ x ∈ A ++ B, x.1 ≠ e.1 := fun x hx h => by
    have hnl : nodL (A ++ e :: B) := by rw [← hl2]; exact hn
    unfold nodL at hnl
    rw [List.map_append, List.map_cons] at hnl
    obtain ⟨n1, n2, n3⟩ := List.nodup_append.1 hnl
    obtain ⟨n4, n5⟩ := List.nodup_cons.1 n2
    rcases List.mem_append.1 hx with hx | hx
    · exact n3 _ (List.mem_map.2 ⟨x, hx, rfl⟩) _ (.head _) h
    · exact n4 (by rw [← h]; exact List.mem_map.2 ⟨x, hx, rfl⟩)
  refine ⟨rfl, hn', fun p => ⟨?_, ?_⟩, fun c' => ?_⟩
  · rintro ⟨x, hx, hxp⟩
    rcases List.mem_append.1 hx with hx | hx
    · exact ⟨x, (hmem x).2 (.inl hx), hxp⟩
    · simp only [List.mem_singleton] at hx
      subst hx
      exact ⟨e, he, hxp⟩
  · rintro ⟨x, hx, hxp⟩
    rcases (hmem x).1 hx with hx | hx
    · exact ⟨x, List.mem_append_left _ hx, hxp⟩
    · subst hx
      exact ⟨_, List.mem_append_right _ (.head _), hxp⟩
  · show atE (A ++ B ++ [(e.1, (kSet e.1 e.2.1 c b).1, d, e.2.2.2)]) c' = _
    by_cases hpc : e.1 = pos c'
    · rw [at_here hn' (List.mem_append_right _ (.head _)) (e := (e.1, (kSet e.1 e.2.1 c b).1, d, e.2.2.2)) hpc, at_here hn he hpc]
      show (if c'.2.1 < 0 then 1 else kAt e.1 (kSet e.1 e.2.1 c b).1 c') = _
      rw [kAt_kSet (hg e he).1 hy hp hb c' hpc]
      by_cases hcc : c' = c
      · subst hcc
        rw [if_pos rfl, if_pos rfl, if_neg (by unfold inY at hy; omega)]
      · rw [if_neg hcc, if_neg hcc]
    · have hcc : c' ≠ c := fun h => hpc (by rw [h]; exact hp)
      rw [if_neg hcc]
      by_cases hx : ∃ x ∈ A ++ B, x.1 = pos c'
      · obtain ⟨x, hx, hxp⟩ := hx
        rw [at_here hn' (List.mem_append_left _ hx) hxp, at_here hn ((hmem x).2 (.inl hx)) hxp]
      · rw [at_none, at_none]
        · rintro ⟨x, hx2, hxp⟩
          rcases (hmem x).1 hx2 with h | h
          · exact hx ⟨x, h, hxp⟩
          · subst h; exact hpc hxp
        · rintro ⟨x, hx2, hxp⟩
          rcases List.mem_append.1 hx2 with h | h
          · exact hx ⟨x, h, hxp⟩
          · simp only [List.mem_singleton] at h
            subst h; exact hpc hxp
/-- A Set that is refused. -/
theorem set_not {l : List En} {c : Ce} {b : Int} (h : ¬ (here1 l (pos c) ∧ inY c ∧ bMay b = true)) : (setE l c b).1 = l ∧ (setE l c b).2 ≠ 0 := by
  unfold setE
  rcases firstI_cases (fun e : En => e.1 == pos c) l with ⟨hf, -⟩ | ⟨k, e, hk, hek, hf, -⟩
  · rw [hf, if_pos (by decide)]; exact ⟨rfl, by simp⟩
  · rw [hf, if_neg (by omega)]
    have hh : here1 l (pos c) := ⟨e, List.mem_of_getElem? hk, by simpa using hek⟩
    by_cases hy : inY c
    · rw [if_neg (by simpa using hy)]
      have hb : bMay b = false := by
        cases hb : bMay b with
        | false => rfl
        | true => exact absurd ⟨hh, hy, hb⟩ h
      rw [if_pos hb]; exact ⟨rfl, by simp⟩
    · rw [if_pos hy]; exact ⟨rfl, by simp⟩
/-- A cell of a chunk that is here tells a block that may be. -/
theorem at_may {l : List En} (hn : nodL l) (hg : goodL l) {c : Ce} (hh : here1 l (pos c)) (hy : inY c) : bMay (atE l c) = true := by
  obtain ⟨e, he, hp⟩ := hh
  rw [at_here hn he hp, if_neg (by unfold inY at hy; omega)]
  have hi := idx_in hy
  unfold kAt
  rw [(inK_iff e.1 c).2 ⟨hy, hp.symm⟩, if_pos rfl]
  have := atC_get (c := e.2.1) (i := idx c) hi.1 (by rw [(hg e he).1]; omega)
  exact (hg e he).2 _ (List.mem_of_getElem? this)
theorem may_ne {b : Int} (h : bMay b = true) : b ≠ -1 := by
  rintro rfl
  revert h
  decide +kernel
theorem at_iff {l : List En} (hn : nodL l) (hg : goodL l) {c : Ce} (hy : inY c) : atE l c = -1 ↔ ¬ here1 l (pos c) :=
  ⟨fun h hh => may_ne (at_may hn hg hh hy) h, at_none⟩
end Go.Proofs.YtbnmglonbhdcbaaGreatDoor
namespace Go.Proofs.YtbnmglonbhdcbaaGreatDoor
open Go Go.Vc Go.RowKit Go.Proofs Go.Chk Go.Runs Go.Code

theorem good_set {l : List En} (hg : goodL l) (c : Ce) (b : Int) : goodL (setE l c b).1 := by
  unfold setE
  split
  · exact hg
  · split
    · exact hg
    · split
      · exact hg
      · intro e he
        rcases List.mem_append.1 he with he | he
        · exact hg e ((List.eraseIdx_sublist ..).subset he)
        · simp only [Option.mem_toList, Option.map_eq_some_iff] at he
          obtain ⟨y, hy, rfl⟩ := he
          exact kSet_ok (hg y (List.mem_of_getElem? hy)).1 (hg y (List.mem_of_getElem? hy)).2 c b
theorem swap_here {l : List En} (hn : nodL l) (hg : goodL l) {a b : Ce} (ha : here1 l (pos a)) (hya : inY a) (hb : here1 l (pos b)) (hyb : inY b) :
    swK l a b = 0 ∧ nodL (swL l a b) ∧ (∀ p, here1 (swL l a b) p ↔ here1 l p) ∧ ∀ c', atE (swL l a b) c' = if c' = b then atE l a else if c' = a then atE l b else atE l c' := by
  have m1 := at_may hn hg ha hya
  have m2 := at_may hn hg hb hyb
  have n1 := may_ne m1
  have n2 := may_ne m2
  obtain ⟨e1, e2, e3, e4⟩ := set_here hn hg ha hya m2
  have g2 := good_set hg a (atE l b)
  obtain ⟨f1, f2, f3, f4⟩ := set_here e2 g2 ((e3 _).2 hb) hyb m1
  have hK : swK l a b = (setE (setE l a (atE l b)).1 b (atE l a)).2 := by
    unfold swK
    rw [if_neg (fun h => h.elim n1 n2), if_neg (fun h => h.elim (fun h => h hya) (fun h => h hyb))]
  have hL : swL l a b = (setE (setE l a (atE l b)).1 b (atE l a)).1 := by
    unfold swL
    rw [if_neg]
    rintro (h | h | h | h)
    · exact n1 h
    · exact n2 h
    · exact h hya
    · exact h hyb
  rw [hK, hL]
  refine ⟨f1, f2, fun p => (f3 p).trans (e3 p), fun c' => ?_⟩
  rw [f4, e4]
/-! ## A world, made since w -/
def Ws (w w' : World) (o t : Nat) (seed limit : Int) (l : List En) (ch : List Cg) : Prop := ∃ F, WF F w' o t seed limit l ch ∧ (∀ i, F i → w.heap.size ≤ i) ∧ Ext w w'
/-- Boxes of cells stay. -/
def KC (w w' : World) : Prop := ∀ j cs, Row w j cs tCe → w'.heap[j]? = w.heap[j]?
theorem KC.of_ext {w w' : World} (x : Ext w w') : KC w w' := fun _ _ h => x.heap h.lt
theorem KC.row {w w' : World} (h : KC w w') {j : Nat} {cs : List Value} (hr : Row w j cs tCe) : Row w' j cs tCe := hr.same (h _ _ hr)
theorem Ws.x {w w' : World} {o t : Nat} {seed limit : Int} {l : List En} {ch : List Cg} (h : Ws w w' o t seed limit l ch) : Ext w w' := by
  obtain ⟨F, h1, h2, h3⟩ := h; exact h3
theorem Ws.good {w w' : World} {o t : Nat} {seed limit : Int} {l : List En} {ch : List Cg} (h : Ws w w' o t seed limit l ch) : goodL l := by
  obtain ⟨F, h1, h2, h3⟩ := h; exact h1.good
theorem Ws.len {w w' : World} {o t : Nat} {seed limit : Int} {l : List En} {ch : List Cg} (h : Ws w w' o t seed limit l ch) : (l.length : Int) ≤ limit ∧ 1 ≤ limit ∧ limit ≤ 16 := by
  obtain ⟨F, h1, h2, h3⟩ := h; exact h1.len
theorem Ws.ext {w w1 w2 : World} {o t : Nat} {seed limit : Int} {l : List En} {ch : List Cg} (h : Ws w w1 o t seed limit l ch) (x : Ext w1 w2) : Ws w w2 o t seed limit l ch := by
  obtain ⟨F, h1, h2, h3⟩ := h
  exact ⟨F, h1.ext x, h2, h3.tr x⟩
theorem ws_of {w w1 w2 : World} {F : Nat → Prop} {o t : Nat} {seed limit : Int} {l l' : List En} {ch ch' : List Cg} (h : WF F w1 o t seed limit l ch) (hf : ∀ i, F i → w.heap.size ≤ i) (x : Ext w w1) (r : WRes F w1 o t seed limit l' ch' w2) : Ws w w2 o t seed limit l' ch' ∧ KC w1 w2 := by
  obtain ⟨F', h', ht⟩ := r
  obtain ⟨x', f'⟩ := ht.fresh x hf
  exact ⟨⟨F', h', f', x'⟩, fun j cs hr => ht.mod.same j hr.lt (h.no_row hr (by decide) (by decide) (by decide))⟩
theorem wsNew_spec (seed limit room : Int) (w : World) : Calls Tryz.prog n_world_New #[.int .i64 seed, .int .i64 limit, .int .i64 room] w fun e w' => ∃ o t, e = .returned (.pointer (some ⟨o, 0, none⟩)) ∧ Ws w w' o t seed (min (max limit 1) 16) [] [] := by
  refine (wNew_spec seed limit room w).mono ?_
  rintro e w' ⟨o, t, F, rfl, h, x, f⟩
  exact ⟨o, t, rfl, F, h, f, x⟩
theorem wsTable_spec {w w' : World} {o t : Nat} {seed limit : Int} {l : List En} {ch : List Cg} (h : Ws w w' o t seed limit l ch) : Calls Tryz.prog n_world_World_Table #[.pointer (some ⟨o, 0, none⟩)] w' fun e w'' => e = .returned (.pointer (some ⟨t, 0, none⟩)) ∧ w'' = w' := by
  obtain ⟨F, h1, h2, h3⟩ := h
  exact wTable_spec h1
theorem wsAt_spec {w w1 : World} {o t : Nat} {seed limit : Int} {l : List En} {ch : List Cg} (h : Ws w w1 o t seed limit l ch) (c : Ce) (hc : okC c) :
    Calls Tryz.prog n_table_Table_At #[.pointer (some ⟨t, 0, none⟩), cev c] w1 fun e w2 => e = .returned (.int .i64 (atE l c)) ∧ Ext w1 w2 := by
  obtain ⟨F, h1, h2, h3⟩ := h
  obtain ⟨F1, hT, -⟩ := h1.table
  exact tfAt_spec hT c hc
theorem wsLoad_spec {w w1 : World} {o t : Nat} {seed limit : Int} {l : List En} {ch : List Cg} (h : Ws w w1 o t seed limit l ch) (hc : (∀ e ∈ l, e.2.2.1 = false) ∨ (l.length : Int) < limit) (p : Po) :
    Calls Tryz.prog n_table_Table_Load #[.pointer (some ⟨t, 0, none⟩), pv p] w1 fun e w2 => e = .returned (.int .i64 (ldE seed limit l p).2) ∧ Ws w w2 o t seed limit (ldE seed limit l p).1 ch ∧ KC w1 w2 := by
  obtain ⟨F, h1, h2, h3⟩ := h
  obtain ⟨F1, hT, -, hres⟩ := h1.table
  refine (tfLoad_spec hT hc p).mono ?_
  rintro e w2 ⟨rfl, hr⟩
  exact ⟨rfl, ws_of h1 h2 h3 (hres hr)⟩
theorem wsSet_spec {w w1 : World} {o t : Nat} {seed limit : Int} {l : List En} {ch : List Cg} (h : Ws w w1 o t seed limit l ch) (c : Ce) (hc : okC c) (b : Int) (hn : ch.length ≤ 1000000) :
    Calls Tryz.prog n_world_World_Set #[.pointer (some ⟨o, 0, none⟩), cev c, .int .i64 b] w1 fun e w2 => e = .returned (.int .i64 (setE l c b).2) ∧ Ws w w2 o t seed limit (setE l c b).1 (wsC l ch c b) ∧ KC w1 w2 := by
  obtain ⟨F, h1, h2, h3⟩ := h
  refine (wSet_spec h1 c hc b hn).mono ?_
  rintro e w2 ⟨rfl, hr⟩
  exact ⟨rfl, ws_of h1 h2 h3 hr⟩
theorem wsSwap_spec {w w1 : World} {o t : Nat} {seed limit : Int} {l : List En} {ch : List Cg} (h : Ws w w1 o t seed limit l ch) (a b : Ce) (ha : okC a) (hb : okC b) (hn : ch.length ≤ 900000) :
    Calls Tryz.prog n_world_World_Swap #[.pointer (some ⟨o, 0, none⟩), cev a, cev b] w1 fun e w2 => e = .returned (.int .i64 (swK l a b)) ∧ Ws w w2 o t seed limit (swL l a b) (swC l ch a b) ∧ KC w1 w2 := by
  obtain ⟨F, h1, h2, h3⟩ := h
  refine (wSwap_spec h1 a b ha hb hn).mono ?_
  rintro e w2 ⟨rfl, hr⟩
  exact ⟨rfl, ws_of h1 h2 h3 hr⟩
abbrev cR (c : Ce) : List Value := [.int .i64 c.1, .int .i64 c.2.1, .int .i64 c.2.2]
theorem row_at {w : World} {b : Nat} {c : Ce} (h : Row w b (cR c) tCe) : LoadL w (some ⟨b, 0, none⟩) 0 (cR c) := h.loadL fun j hj => by rw [Nat.zero_add]
end Go.Proofs.YtbnmglonbhdcbaaGreatDoor
