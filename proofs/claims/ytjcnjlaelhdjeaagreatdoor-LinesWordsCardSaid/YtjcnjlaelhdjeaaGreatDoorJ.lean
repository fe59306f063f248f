import Derived.Test.YtjcnjlaelhdjeaaGreatDoorI
import Derived.Test.YtjcnjlaelhdjeaaGreatDoorE
import Derived.Test.YtjcnjlaelhdjeaaGreatDoorC
import Derived.Test.YtjcnjlaelhdjeaaGreatDoorH
import Derived.Tactics
import Derived.Tactics2
import Derived.Defers
import Derived.Recover
import Derived.Laws.Pointers
set_option linter.all false
namespace Go.Proofs.YtjcnjlaelhdjeaaGreatDoor
open Go Go.Vc Go.RowKit Go.Proofs Go.Chk Go.Runs Go.Code
theorem TO.put {w w' : World} {t st d : Nat} {r : Dm} {sl : Sl} {D : Dk} {seed limit : Int} {its : List It} (h : TO w t st d r sl D seed limit its) {i : Nat} {y y' : It} (hi : its[i]? = some y) (hx : y'.x = y.x) (hg : y'.g = y.g) (hm : Mod (fun j => j = y.x) w w') (hy : ItIs w' y') : TO w' t st d r sl D seed limit (its.set i y') := by
 have hil := (List.getElem?_eq_some_iff.1 hi).1
 have hr := (h.it y (List.mem_of_getElem? hi)).r
 have off : ∀ {j : Nat} {cs : List Value} {τ : TypeId}, Row w j cs τ → τ ≠ tItem → ¬ j = y.x := fun hr' ht e => hr'.ne hr ht e
 have hpx : ptrs (its.set i y') = ptrs its := by
  unfold ptrs
  rw [List.map_set, hx]
  apply List.ext_getElem?
  intro j
  rw [List.getElem?_set]
  split
  ·rename_i e; subst e
   rw [if_pos (by rw [List.length_map]; exact hil), List.getElem?_map, hi]; rfl
  ·rfl
 have hmx : (its.set i y').map (·.x) = its.map (·.x) := by
  rw [List.map_set, hx]
  apply List.ext_getElem?
  intro j
  rw [List.getElem?_set]
  split
  ·rename_i e; subst e
   rw [if_pos (by rw [List.length_map]; exact hil), List.getElem?_map, hi]; rfl
  ·rfl
 have hmg : (its.set i y').map (·.g) = its.map (·.g) := by
  rw [List.map_set, hg]
  apply List.ext_getElem?
  intro j
  rw [List.getElem?_set]
  split
  ·rename_i e; subst e
   rw [if_pos (by rw [List.length_map]; exact hil), List.getElem?_map, hi]; rfl
  ·rfl
 refine ⟨hm.row h.rt (off h.rt (by decide)), h.so.keep hm (fun hr' hτ => by rcases hτ with rfl | rfl | rfl | rfl <;> exact off hr' (by decide)) (fun hmp e => hr.ne_map hmp e.symm), ?_, fun z hz => ?_, by rw [hmx]; exact h.dx, by rw [hmg]; exact h.dg, h.lim, by rw [List.length_set]; exact h.len⟩
 ·rw [hpx]
  exact hm.ownK h.ol fun b hb => by
   obtain ⟨cs', hr'⟩ := own_row h.ol (by decide) hb
   exact off hr' (by decide)
 ·obtain ⟨j, hj⟩ := List.getElem?_of_mem hz
  rw [List.getElem?_set] at hj
  split at hj
  ·cases hj; exact hy
  ·rename_i hne
   have hzj := h.it z (List.mem_of_getElem? hj)
   refine hzj.keep hm (fun e => ?_) (off hzj.k.row (by decide)) (fun b hb => ?_)
   ·
    have h1 : (its.map (·.x))[i]? = some y.x := by rw [List.getElem?_map, hi]; rfl
    have h2 : (its.map (·.x))[j]? = some z.x := by rw [List.getElem?_map, hj]; rfl
    have hjl := (List.getElem?_eq_some_iff.1 hj).1
    rw [e, ← h1] at h2
    exact hne ((List.getElem?_inj (by rw [List.length_map]; exact hjl) h.dx).1 h2).symm
   ·obtain ⟨cs', hr'⟩ := own_row hzj.k.own (by decide) hb
    exact off hr' (by decide)
theorem foot_put {t st d : Nat} {r : Dm} {sl : Sl} {its : List It} {i : Nat} {y y' : It} (hi : its[i]? = some y) (hx : y'.x = y.x) (hg : y'.g = y.g) (hs : y'.s = y.s) : ∀ j, foot t st d r sl (its.set i y') j → foot t st d r sl its j := by
 rintro j (e | e | e | e | e | ⟨z, hz, e⟩)
 ·exact .inl e
 ·exact .inr (.inl e)
 ·exact .inr (.inr (.inl e))
 ·exact .inr (.inr (.inr (.inl e)))
 ·exact .inr (.inr (.inr (.inr (.inl e))))
 ·rcases List.mem_or_eq_of_mem_set hz with hz | hz
  ·exact .inr (.inr (.inr (.inr (.inr ⟨z, hz, e⟩))))
  ·subst hz
   rw [hx, hg, hs] at e
   exact .inr (.inr (.inr (.inr (.inr ⟨y, List.mem_of_getElem? hi, e⟩))))
abbrev En := Po × List Int × Bool × Int
def It.ob (i : It) : En := (i.p, i.C, i.dirty, i.pins)
abbrev obs (its : List It) : List En := its.map It.ob
theorem obs_erase (its : List It) (i : Nat) : obs (its.eraseIdx i) = (obs its).eraseIdx i := by
 unfold obs
 rw [List.eraseIdx_eq_take_drop_succ, List.eraseIdx_eq_take_drop_succ, List.map_append, List.map_take, List.map_drop]
abbrev Tb := Dk × List En
def saveE (D : Dk) (e : En) : Dk × En × Int :=
 if e.2.2.1 = true then ((svS D (idK e.1) (wrB (ofC e.2.1))).1, (e.1, e.2.1, decide ((svS D (idK e.1) (wrB (ofC e.2.1))).2 ≠ 0), e.2.2.2), (svS D (idK e.1) (wrB (ofC e.2.1))).2) else (D, e, 0)
def goE (D : Dk) (l : List En) (i : Nat) : Tb × Int :=
 match l[i]? with
 | none => ((D, l), 0)
 | some e => if (saveE D e).2.2 = 0 then (((saveE D e).1, l.eraseIdx i), 0) else (((saveE D e).1, l.set i (saveE D e).2.1), (saveE D e).2.2)
def roomE (limit : Int) (D : Dk) (l : List En) : Tb × Int :=
 if (l.length : Int) < limit then ((D, l), 0) else if firstI (fun e : En => e.2.2.2 == 0) l < 0 then ((D, l), 8) else goE D l (firstI (fun e : En => e.2.2.2 == 0) l).toNat
theorem TO.dOff {w : World} {t st d : Nat} {r : Dm} {sl : Sl} {D : Dk} {seed limit : Int} {its : List It} (h : TO w t st d r sl D seed limit its) {j : Nat} {cs : List Value} {τ : TypeId} (hr : Row w j cs τ) (h1 : τ ≠ tDisk) (h2 : τ ≠ tW) : ¬ (j = d ∨ r.ls.blk = some j) := by
 rintro (e | e)
 ·exact hr.ne h.so.dk.rd h1 e
 ·obtain ⟨cs', hr'⟩ := own_row h.so.dk.ol (by decide) e
  exact hr.ne hr' h2 rfl
theorem TO.store {w w' : World} {t st d : Nat} {r r' : Dm} {sl : Sl} {D D' : Dk} {seed limit : Int} {its : List It} (h : TO w t st d r sl D seed limit its) (hm : Mod (fun i => i = d ∨ r.ls.blk = some i) w w') (hs : SO w' st d r' D') : TO w' t st d r' sl D' seed limit its := by
 refine ⟨hm.row h.rt (h.dOff h.rt (by decide) (by decide)), hs, hm.ownK h.ol fun b hb => ?_, fun y hy => ?_, h.dx, h.dg, h.lim, h.len⟩
 ·obtain ⟨cs', hr'⟩ := own_row h.ol (by decide) hb
  exact h.dOff hr' (by decide) (by decide)
 ·have hy' := h.it y hy
  refine hy'.keep hm (h.dOff hy'.r (by decide) (by decide)) (h.dOff hy'.k.row (by decide) (by decide)) fun b hb => ?_
  obtain ⟨cs', hr'⟩ := own_row hy'.k.own (by decide) hb
  exact h.dOff hr' (by decide) (by decide)
theorem foot_store {n : Nat} {t st d : Nat} {r r' : Dm} {sl : Sl} {its : List It} (hs : ∀ i, dF d r' i → dF d r i ∨ n ≤ i) : ∀ i, foot t st d r' sl its i → foot t st d r sl its i ∨ n ≤ i := by
 rintro i (e | e | e | e | e | e)
 ·exact .inl (.inl e)
 ·exact .inl (.inr (.inl e))
 ·exact .inl (.inr (.inr (.inl e)))
 ·rcases hs i (.inr e) with q | q
  ·rcases q with q | q
   ·exact .inl (.inr (.inr (.inl q)))
   ·exact .inl (.inr (.inr (.inr (.inl q))))
  ·exact .inr q
 ·exact .inl (.inr (.inr (.inr (.inr (.inl e)))))
 ·exact .inl (.inr (.inr (.inr (.inr (.inr e)))))
theorem dF_foot {t st d : Nat} {r : Dm} {sl : Sl} {its : List It} : ∀ i, (i = d ∨ r.ls.blk = some i) → foot t st d r sl its i := by
 rintro i (e | e)
 ·exact .inr (.inr (.inl e))
 ·exact .inr (.inr (.inr (.inl (.inr (.inl e)))))
theorem wrB_bys {C : List Int} : Bys (wrB (ofC C)) := wrB_in _
theorem wrB_le {C : List Int} (hl : C.length = 8192) : (wrB (ofC C)).length ≤ 65536 := by
 have h1 := wrB_len (ofC C)
 have h2 := ofC_len C
 omega
set_option maxRecDepth 100000 in
theorem save_spec {w : World} {t st d : Nat} {r : Dm} {sl : Sl} {D : Dk} {seed limit : Int} {its : List It} (h : TO w t st d r sl D seed limit its) (hW : D.l.length ≤ 1000000) {i : Nat} {y : It} (hi : its[i]? = some y) :
  Calls Tryz.prog n_table_Table_save #[.pointer (some ⟨t, 0, none⟩), .pointer (some ⟨y.x, 0, none⟩)] w fun e w' => e = .returned (.int .i64 (saveE D y.ob).2.2) ∧ ∃ r' y', TO w' t st d r' sl (saveE D y.ob).1 seed limit (its.set i y') ∧ y'.ob = (saveE D y.ob).2.1 ∧ Turned (foot t st d r sl its) (foot t st d r' sl (its.set i y')) w w' := by
 apply table_Table_save.vc
 have hym := List.mem_of_getElem? hi
 have hy := h.it y hym
 have hset : its.set i y = its := by
  obtain ⟨hl, he⟩ := List.getElem?_eq_some_iff.1 hi
  rw [← he]; exact List.set_getElem_self hl
 refine ⟨_, hy.r.at 1 rfl, Br.mk (fun hb => ?_) (fun hb => ?_)⟩
 ·have hd : y.dirty = false := by simpa using hb
  have e : saveE D y.ob = (D, y.ob, 0) := by unfold saveE; rw [if_neg (by show ¬ y.dirty = true; rw [hd]; decide)]
  rw [e]
  exact ⟨rfl, r, y, by rw [hset]; exact h, rfl, by rw [hset]; exact Turned.refl _ _⟩
 ·have hd : y.dirty = true := by simpa using hb
  have e : saveE D y.ob = ((svS D (idK y.p) (wrB (ofC y.C))).1, (y.p, y.C, decide ((svS D (idK y.p) (wrB (ofC y.C))).2 ≠ 0), y.pins), (svS D (idK y.p) (wrB (ofC y.C))).2) := by unfold saveE; rw [if_pos (by show y.dirty = true; exact hd)]; rfl
  rw [e]
  refine ⟨_, hy.r.at 0 rfl, nnS (nnS ⟨_, _, hy.k.pos, (Place_spec y.p w).mono ?_⟩)⟩
  rintro e w4 ⟨rfl, x4⟩
  refine ⟨_, _, rfl, (Id_spec y.p w4).mono ?_⟩
  rintro e w7 ⟨rfl, x7⟩
  have x07 := (x4.tr x7).tr (Ext.dr w7)
  have h7 := h.ext x07
  have hy7 := h7.it y hym
  refine ⟨_, _, rfl, _, h7.rt.at 0 rfl, _, hy7.r.at 0 rfl, (Bytes_spec hy7.k).mono ?_⟩
  rintro e w12 ⟨s13, rfl, o13, x12⟩
  have x012 := x07.tr x12
  have h12 := h.ext x012
  have hk := hy.k
  refine ⟨s13, rfl, ldOne (h12.rt.at 0 rfl), (stSave_spec h12.so hW (idK y.p) s13 (wrB (ofC y.C)) (OwY.rdy o13) wrB_bys (Nat.le_trans (wrB_le hk.len) (by decide))).mono ?_⟩
  rintro e w14 ⟨rfl, r', hs14, m14, f14, -⟩
  have h14 := h12.store m14 hs14
  have hy14 := h14.it y hym
  obtain ⟨p1, p2⟩ := hy14.r.put1 (j := 1) (v := .bool ((svS D (idK y.p) (wrB (ofC y.C))).2 != 0)) (by simp) rfl
  refine ⟨_, rfl, ⟨rfl, p1⟩, fun w16 e16 => ?_⟩
  obtain ⟨q1, q2⟩ := p2 w16 e16
  have hbd : ((svS D (idK y.p) (wrB (ofC y.C))).2 != 0) = decide ((svS D (idK y.p) (wrB (ofC y.C))).2 ≠ 0) := by
   rw [Bool.eq_iff_iff]; simp
  rw [hbd] at q1
  have hy' : ItIs w16 { y with dirty := decide ((svS D (idK y.p) (wrB (ofC y.C))).2 ≠ 0) } := ⟨q1, hy14.k.keep q2 (fun e => hy14.k.row.ne hy14.r (by decide) e) fun b hb => by
   obtain ⟨cs', hr'⟩ := own_row hy14.k.own (by decide) hb
   exact hr'.ne hy14.r (by decide)⟩
  have z12 := x012.size
  have z14 := m14.size
  refine ⟨rfl, r', { y with dirty := decide ((svS D (idK y.p) (wrB (ofC y.C))).2 ≠ 0) }, h14.put hi rfl rfl q2 hy', rfl, ?_⟩
  have t1 : Turned (foot t st d r sl its) (foot t st d r' sl its) w12 w14 := ⟨m14.mono fun i _ hi => dF_foot i hi, foot_store f14⟩
  have t2 : Turned (foot t st d r' sl its) (foot t st d r' sl (its.set i { y with dirty := decide ((svS D (idK y.p) (wrB (ofC y.C))).2 ≠ 0) })) w14 w16 := ⟨q2.mono fun j _ hj => .inr (.inr (.inr (.inr (.inr ⟨y, hym, .inl hj⟩)))), fun j hj => .inl (foot_put (y' := { y with dirty := decide ((svS D (idK y.p) (wrB (ofC y.C))).2 ≠ 0) }) hi rfl rfl rfl j hj)⟩
  exact (Turned.of_ext x012).trans (t1.trans t2)
end Go.Proofs.YtjcnjlaelhdjeaaGreatDoor
namespace Go.Proofs.YtjcnjlaelhdjeaaGreatDoor
open Go Go.Vc Go.RowKit Go.Proofs Go.Chk Go.Runs Go.Code
abbrev LdRes (w : World) (t st d : Nat) (r : Dm) (sl : Sl) (seed limit : Int) (its : List It) (T : Tb) (w' : World) : Prop :=
 ∃ r' sl' its', TO w' t st d r' sl' T.1 seed limit its' ∧ obs its' = T.2 ∧ Turned (foot t st d r sl its) (foot t st d r' sl' its') w w'
theorem obs_at {its : List It} {i : Nat} {y : It} (h : its[i]? = some y) : (obs its)[i]? = some y.ob := by rw [List.getElem?_map, h]; rfl
theorem obs_put {its : List It} {i : Nat} {y' : It} {e : En} (h : y'.ob = e) : obs (its.set i y') = (obs its).set i e := by unfold obs; rw [List.map_set, h]
theorem goE_at {D : Dk} {l : List En} {i : Nat} {e : En} (h : l[i]? = some e) : goE D l i = if (saveE D e).2.2 = 0 then (((saveE D e).1, l.eraseIdx i), 0) else (((saveE D e).1, l.set i (saveE D e).2.1), (saveE D e).2.2) := by unfold goE; rw [h]
theorem out_turn {w w' : World} {t st d : Nat} {r : Dm} {sl sl' : Sl} {its its' : List It} (hm : Mod (slF t sl) w w') (hb : ∀ b, sl'.blk = some b → sl.blk = some b ∨ w.heap.size ≤ b) (hs : ∀ y ∈ its', y ∈ its) : Turned (foot t st d r sl its) (foot t st d r sl' its') w w' :=
 ⟨hm.mono fun i _ hi => slF_foot i hi, foot_sub hb fun y hy => .inl (hs y hy)⟩
set_option maxRecDepth 100000 in
theorem room_spec {w : World} {t st d : Nat} {r : Dm} {sl : Sl} {D : Dk} {seed limit : Int} {its : List It} (h : TO w t st d r sl D seed limit its) (hW : D.l.length ≤ 1000000) :
  Calls Tryz.prog n_table_Table_room #[.pointer (some ⟨t, 0, none⟩)] w fun e w' => e = .returned (.int .i64 (roomE limit D (obs its)).2) ∧ LdRes w t st d r sl seed limit its (roomE limit D (obs its)).1 w' ∧ ((roomE limit D (obs its)).2 = 0 → ((roomE limit D (obs its)).1.2.length : Int) + 1 ≤ limit) := by
 apply table_Table_room.vc
 have hd := h.ext (Ext.dr w)
 have hn := h.n
 have hol : (obs its).length = its.length := by rw [List.length_map]
 have hlen := h.len
 have hlim := h.lim
 refine ⟨sl, hd.rt.at 3 rfl, limit, hd.rt.at 2 rfl, Br.mk (fun hb => ?_) (fun hb => ?_)⟩
 ·simp only [decide_eq_true_eq] at hb
  have e : roomE limit D (obs its) = ((D, obs its), 0) := by unfold roomE; rw [if_pos (by omega)]
  rw [e]
  exact ⟨rfl, ⟨r, sl, its, hd, rfl, Turned.of_ext (Ext.dr w)⟩, fun _ => by simp only; omega⟩
 ·simp only [decide_eq_false_iff_not] at hb
  refine ⟨sl, hd.rt.at 3 rfl, (indexFunc_spec sl its (·.x) _ (fun i => i.pins == 0) w.drew (hd.ol.rd (by decide)) (by omega) ?_).mono ?_⟩
  ·intro y hy w' x'
   refine callV_of (by kernel_rfl) (by rfl) ?_
   apply table_Table_room_1.vc
   have hy' := (hd.it y hy).ext x'
   exact ⟨_, hy'.r.at 2 rfl, rfl, Ext.rfl' _⟩
  ·rintro e w3 ⟨rfl, x3⟩
   have h3 := hd.ext x3
   have hfm : firstI (fun e : En => e.2.2.2 == 0) (obs its) = firstI (fun i : It => i.pins == 0) its := firstI_map It.ob _ its
   have x03 : Ext w w3 := (Ext.dr w).tr x3
   refine ⟨_, rfl, Br.mk (fun hb2 => ?_) (fun hb2 => ?_)⟩
   ·simp only [decide_eq_true_eq] at hb2
    have e : roomE limit D (obs its) = ((D, obs its), 8) := by unfold roomE; rw [if_neg (by omega), if_pos (by omega)]
    rw [e]
    exact ⟨rfl, ⟨r, sl, its, h3, rfl, Turned.of_ext x03⟩, fun h => by simp at h⟩
   ·simp only [decide_eq_false_iff_not] at hb2
    rcases firstI_cases (fun i : It => i.pins == 0) its with ⟨h1, -⟩ | ⟨k, y, hk, -, hfk, -⟩
    ·omega
    ·have e : roomE limit D (obs its) = goE D (obs its) k := by
      unfold roomE
      rw [if_neg (by omega), if_neg (by omega), hfm, hfk]; rfl
     rw [hfk, e, goE_at (obs_at hk)]
     obtain ⟨a1, a2⟩ := h3.at hk
     have hkl := (List.getElem?_eq_some_iff.1 hk).1
     refine ⟨sl, h3.rt.at 3 rfl, a1, _, a2, (save_spec h3 hW hk).mono ?_⟩
     rintro e w7 ⟨rfl, r', y', h7, hob, t7⟩
     refine ⟨_, rfl, Br.mk (fun hz => ?_) (fun hz => ?_)⟩
     ·have hz : (saveE D y.ob).2.2 = 0 := by simpa using hz
      have hk' : (its.set k y')[k]? = some y' := List.getElem?_set_self hkl
      refine (out_spec h7 hk').mono ?_
      rintro e w9 ⟨rfl, sl', h9, m9, b9⟩
      rw [List.eraseIdx_set_eq] at h9
      refine ⟨_, rfl, ?_⟩
      rw [if_pos hz]
      refine ⟨by rw [hz], ⟨r', sl', _, h9, obs_erase _ _, (Turned.of_ext x03).trans (t7.trans (out_turn m9 b9 fun z hz => ?_))⟩, fun _ => ?_⟩
      ·rw [← List.eraseIdx_set_eq (l := its) (i := k) (a := y')] at hz
       exact (List.eraseIdx_sublist ..).subset hz
      ·simp only [List.length_eraseIdx]; split <;> omega
     ·have hz : (saveE D y.ob).2.2 ≠ 0 := by simpa using hz
      rw [if_neg hz]
      exact ⟨rfl, ⟨r', sl, _, h7, obs_put hob, (Turned.of_ext x03).trans t7⟩, fun q => absurd q hz⟩
theorem saveE_l (D : Dk) (e : En) : (saveE D e).1.l.length ≤ D.l.length + 1 := by
 unfold saveE
 split
 ·exact save_l _ _ _
 ·exact Nat.le_succ _
theorem goE_l (D : Dk) (l : List En) (i : Nat) : (goE D l i).1.1.l.length ≤ D.l.length + 1 := by
 unfold goE
 split
 ·exact Nat.le_succ _
 ·split <;> exact saveE_l _ _
theorem roomE_l (limit : Int) (D : Dk) (l : List En) : (roomE limit D l).1.1.l.length ≤ D.l.length + 1 := by
 unfold roomE
 split
 ·exact Nat.le_succ _
 ·split
  ·exact Nat.le_succ _
  ·exact goE_l _ _ _
theorem inT_okP {p : Po} (h : inT p) : okP p := by unfold inT at h; unfold okP; omega
def cellsB (seed : Int) (p : Po) (b : List Int) : List Int := if (readB bMay b 8192).2 = 0 then cellsR (readB bMay b 8192).1 else made seed p
def ldE (seed limit : Int) (D : Dk) (l : List En) (p : Po) : Tb × Int :=
 if ¬ inT p then ((D, l), 5)
 else if 0 ≤ firstI (fun e : En => e.1 == p) l then ((D, l.eraseIdx (firstI (fun e : En => e.1 == p) l).toNat ++ l[(firstI (fun e : En => e.1 == p) l).toNat]?.toList), 0)
 else if (roomE limit D l).2 ≠ 0 then roomE limit D l
 else (((roomE limit D l).1.1, (roomE limit D l).1.2 ++ [(p, cellsB seed p (ldS (roomE limit D l).1.1 (idK p)).1, false, 0)]), 0)
set_option maxRecDepth 100000 in
theorem push_new {w v : World} {t st d : Nat} {r : Dm} {sl : Sl} {D : Dk} {seed limit : Int} {its : List It} (h : TO v t st d r sl D seed limit its) (hw : w.heap.size < v.heap.size) (hwf : ¬ foot t st d r sl its w.heap.size) (htw : t < w.heap.size) (hr : (its.length : Int) + 1 ≤ limit) {g : Nat} {s : Sl} {p : Po} {C : List Int} (hk : KIs v g s p C) (hg : g ∉ its.map (·.g)) (u : World) (hn : u.heap.size ≤ v.heap.size) (hgn : u.heap.size ≤ g) (hsn : ∀ b, s.blk = some b → u.heap.size ≤ b)
  {K : World → Prop} (hK : ∀ w', (∃ s' y, TO w' t st d r s' D seed limit (its ++ [y]) ∧ y.ob = (p, C, false, 0) ∧ (∀ i, foot t st d r s' (its ++ [y]) i → foot t st d r sl its i ∨ u.heap.size ≤ i) ∧ Mod (foot t st d r sl its) v w') → K w') :
  ∃ (s21 : Sl), ld v (padd (some ⟨t, 0, none⟩) 3) = some (.slice s21.a s21.n s21.c) ∧
   ∀ w22 : World, w22 = v.alloc (.cells #[.pointer (some ⟨g, 0, none⟩), .bool false, .int .i64 0] tItem) →
   ∀ w23 : World, w23 = w22.alloc (.cells #[.pointer (some ⟨v.heap.size, 0, none⟩)] tPI) →
   AppPre 8 1 w23 ⟨s21.a, s21.n, s21.c⟩ 1 [.pointer (some ⟨v.heap.size, 0, none⟩)] ∧ ∀ (s24 : Sl) (w25 : World), AppRes tPI 1 w23 ⟨s21.a, s21.n, s21.c⟩ 1 [.pointer (some ⟨v.heap.size, 0, none⟩)] s24 w25 → w25.heap[w.heap.size]? = w23.heap[w.heap.size]? ∧ w25.heap[w22.heap.size]? = w23.heap[w22.heap.size]? ∧
    (true = true ∧ Wr w25 (padd (some ⟨t, 0, none⟩) 3) 1) ∧ pblk (padd (some ⟨t, 0, none⟩) 3) ≠ some w.heap.size ∧ pblk (padd (some ⟨t, 0, none⟩) 3) ≠ some w22.heap.size ∧ (∀ w26 : World, w26 = setP w25 (padd (some ⟨t, 0, none⟩) 3) [.slice s24.a s24.n s24.c] → K w26) := by
 refine ⟨sl, h.rt.at 3 rfl, fun w22 e22 w23 e23 => ?_⟩
 have x22 : Ext v w22 := (Ext.rfl' _).of_alloc e22
 have x23 : Ext w22 w23 := (Ext.rfl' _).of_alloc e23
 have z22 : w22.heap.size = v.heap.size + 1 := by rw [e22]; simp
 have z23 : w23.heap.size = v.heap.size + 2 := by rw [e23]; simp [z22]
 have hy : ItIs w23 ⟨v.heap.size, g, s, p, C, false, 0⟩ := ⟨(by rw [e22]; exact Row.new v [_, _, _] _ : Row w22 v.heap.size [.pointer (some ⟨g, 0, none⟩), .bool false, .int .i64 0] tItem).ext x23, (hk.ext x22).ext x23⟩
 have h23 := (h.ext x22).ext x23
 have hxn : v.heap.size ∉ its.map (·.x) := fun hm => by
  obtain ⟨z, hz, e⟩ := List.mem_map.1 hm
  have := (h.it z hz).r.lt; omega
 obtain ⟨hp, hres⟩ := h23.push _ hy hxn hg hr
 refine ⟨hp, fun s24 w25 hr25 => ?_⟩
 obtain ⟨m25, p1, p2⟩ := hres s24 w25 hr25
 have pb : ∀ j : Nat, t < j → pblk (padd (some ⟨t, 0, none⟩) 3) ≠ some j := fun j hj e => by
  rw [pblk_padd] at e
  have : t = j := by simpa [pblk] using e
  omega
 have htl := h.rt.lt
 refine ⟨m25.same _ (by omega) fun e => hwf (.inr (.inr (.inr (.inr (.inl e))))), m25.same _ (by omega) fun e => by have := (h.ol.own.lt e).2; omega, ⟨rfl, p1⟩, pb _ htw, pb _ (by omega), fun w26 e26 => hK w26 ⟨s24, ⟨v.heap.size, g, s, p, C, false, 0⟩, ?_, rfl, ?_, ?_⟩⟩
 ·exact (p2 w26 e26).1
 ·obtain ⟨-, q2, q3⟩ := p2 w26 e26
  rintro i hi
  exact foot_sub (w := u) (sl := sl) (its := its) (fun b hb => (q3 b hb).imp id fun e => by omega) (fun z hz => by
   rcases List.mem_append.1 hz with hz | hz
   ·exact .inl hz
   ·simp at hz; subst hz
    exact .inr ⟨hn, hgn, hsn⟩) i hi
 ·obtain ⟨-, q2, q3⟩ := p2 w26 e26
  exact (Mod.of_ext (x22.tr x23)).trans (q2.mono fun i _ hi => slF_foot i hi)
set_option maxRecDepth 100000 in
theorem Load_spec {w : World} {t st d : Nat} {r : Dm} {sl : Sl} {D : Dk} {seed limit : Int} {its : List It} (h : TO w t st d r sl D seed limit its) (hW : D.l.length ≤ 1000000) (p : Po) :
  Calls Tryz.prog n_table_Table_Load #[.pointer (some ⟨t, 0, none⟩), pv p] w fun e w' => e = .returned (.int .i64 (ldE seed limit D (obs its) p).2) ∧ LdRes w t st d r sl seed limit its (ldE seed limit D (obs its) p).1 w' := by
 apply table_Table_Load.vc
 intro w0 e0
 have z0 : w0.heap.size = w.heap.size + 1 := by rw [e0]; simp
 have x0 : Ext w w0 := (Ext.rfl' w).of_alloc e0
 clear e0
 refine (Id_spec p w0).mono ?_
 rintro e w1 ⟨rfl, x1⟩
 have z1 := x1.size
 have x01 := x0.tr x1
 refine ⟨_, _, rfl, x1.heap (by omega), ?_⟩
 by_cases hin : inT p
 ·rw [decide_eq_true hin]
  refine Br.mk (fun h => by cases h) (fun _ => ?_)
  have h1 := h.ext x01
  refine (find_spec h1 p).mono ?_
  rintro e w4 ⟨rfl, x4⟩
  have z4 := x4.size
  have x04 := x01.tr x4
  have h4 := h.ext x04
  have hfm : firstI (fun e : En => e.1 == p) (obs its) = firstI (fun i : It => i.p == p) its := firstI_map It.ob _ its
  have bx : ¬ foot t st d r sl its w.heap.size := fun hf => by have := h.lt hf; omega
  refine ⟨_, rfl, x4.heap (by omega), ?_⟩
  rcases firstI_cases (fun i : It => i.p == p) its with ⟨hf, -⟩ | ⟨k, y, hk, -, hf, -⟩
  ·rw [hf]
   refine Br.mk (fun h => by simp at h) (fun _ => ?_)
   have hE : ldE seed limit D (obs its) p = if (roomE limit D (obs its)).2 ≠ 0 then roomE limit D (obs its) else (((roomE limit D (obs its)).1.1, (roomE limit D (obs its)).1.2 ++ [(p, cellsB seed p (ldS (roomE limit D (obs its)).1.1 (idK p)).1, false, 0)]), 0) := by
    unfold ldE
    rw [if_neg (by simpa using hin), hfm, hf, if_neg (by decide)]
   rw [hE]
   refine (room_spec h4 hW).mono ?_
   rintro e w8 ⟨rfl, ⟨r8, sl8, its8, h8, ho8, t8⟩, hl8⟩
   have hWl : ((roomE limit D (obs its)).1.1).l.length ≤ 1000001 := by
    have := roomE_l limit D (obs its)
    omega
   generalize roomE limit D (obs its) = R at *
   have z8 := t8.mod.size
   have t08 : Turned (foot t st d r sl its) (foot t st d r8 sl8 its8) w w8 := (Turned.of_ext x04).trans t8
   refine ⟨_, rfl, t8.mod.same _ (by omega) bx, Br.mk (fun hb => ?_) (fun hb => ?_)⟩
   ·have hne : R.2 ≠ 0 := by simpa using hb
    rw [if_pos hne]
    exact ⟨rfl, r8, sl8, its8, h8, ho8, t08⟩
   ·have he : R.2 = 0 := by simpa using hb
    rw [if_neg (by rw [he]; decide)]
    have hroom := hl8 he
    rw [← ho8, List.length_map] at hroom
    refine ⟨_, h8.rt.at 0 rfl, (stLoad_spec h8.so (by omega) _).mono ?_⟩
    rintro e w11 ⟨s12, rfl, hs12, hby, hbl, hsc, -, x11⟩
    have z11 := x11.size
    have bx8 : ¬ foot t st d r8 sl8 its8 w.heap.size := fun hf => by
     rcases t8.sub _ hf with q | q
     ·exact bx q
     ·have := x04.size; omega
    refine ⟨s12, _, _, rfl, x11.heap (by omega), ?_⟩
    refine (Read_spec p s12 (ldS R.1.1 (idK p)).1 w11 hs12 hby hsc (by omega)).mono ?_
    rintro e w15 ⟨hres, x15⟩
    have z15 := x15.size
    have htw := h.rt.lt
    have fin : ∀ {w' v : World} {C : List Int}, Ext w8 v → (∃ s' y, TO w' t st d r8 s' R.1.1 seed limit (its8 ++ [y]) ∧ y.ob = (p, C, false, 0) ∧ (∀ i, foot t st d r8 s' (its8 ++ [y]) i → foot t st d r8 sl8 its8 i ∨ w8.heap.size ≤ i) ∧ Mod (foot t st d r8 sl8 its8) v w') → C = cellsB seed p (ldS R.1.1 (idK p)).1 →
      Ending.returned (.int .i64 0) = .returned (.int .i64 0) ∧ LdRes w t st d r sl seed limit its (R.1.1, R.1.2 ++ [(p, cellsB seed p (ldS R.1.1 (idK p)).1, false, 0)]) w' := by
     rintro w' v C xv ⟨s', y, hT, hob, hsub, hm⟩ rfl
     refine ⟨rfl, r8, s', _, hT, ?_, t08.trans ⟨(Mod.of_ext xv).trans hm, hsub⟩⟩
     unfold obs
     rw [List.map_append]
     change obs its8 ++ [y.ob] = _
     rw [ho8, hob]
    rcases hres with ⟨hz, g, sg, rfl, hk, hg, -, hgb⟩ | ⟨hz, rfl⟩
    ·refine ⟨_, _, rfl, x15.heap (by omega), Br.mk (fun q => by simp at q) (fun _ => ?_)⟩
     have x815 := x11.tr x15
     have h15 := h8.ext x815
     have hgn : g ∉ its8.map (·.g) := fun hm => by
      obtain ⟨z, hz, e⟩ := List.mem_map.1 hm
      have := (h8.it z hz).k.row.lt; omega
     refine push_new (w := w) h15 (by omega) bx8 htw hroom hk hgn w8 (by omega) (by omega) (fun b hb => by have := hgb b hb; omega) fun w' hw' => fin x815 hw' ?_
     unfold cellsB; rw [if_pos hz]
    ·refine ⟨_, _, rfl, x15.heap (by omega), Br.mk (fun _ => ?_) (fun q => by simp at q; exact absurd q hz)⟩
     have x815 := x11.tr x15.drew
     have h15 := h8.ext x815
     refine ⟨seed, h15.rt.at 1 rfl, (Make_spec' seed p (inT_okP hin) w15.drew).mono ?_⟩
     rintro e w19 ⟨g, sg, rfl, hk, x19, hg, hsb⟩
     have z19 := x19.size
     have zd : w15.drew.heap.size = w15.heap.size := rfl
     have h19 := h15.ext x19
     have hgn : g ∉ its8.map (·.g) := fun hm => by
      obtain ⟨z, hz, e⟩ := List.mem_map.1 hm
      have := (h15.it z hz).k.row.lt; omega
     refine ⟨_, rfl, x19.heap (by omega), push_new (w := w) h19 (by omega) bx8 htw hroom hk hgn w8 (by omega) (by omega) (fun b hb => by have := hsb b hb; omega) fun w' hw' => fin (x815.tr x19) hw' ?_⟩
     unfold cellsB; rw [if_neg hz]
  ·rw [hf]
   refine Br.mk (fun _ => ?_) (fun h => by simp at h)
   have hE : ldE seed limit D (obs its) p = ((D, (obs its).eraseIdx k ++ [y.ob]), 0) := by
    unfold ldE
    rw [if_neg (by simpa using hin), hfm, hf, if_pos (by omega), Int.toNat_natCast, List.getElem?_map, hk]; rfl
   rw [hE]
   refine (touch_spec h4 hk).mono ?_
   rintro e w6 ⟨rfl, sl6, h6, t6⟩
   have z6 := t6.mod.size
   refine ⟨_, rfl, t6.mod.same _ (by omega) bx, rfl, r, sl6, _, h6, ?_, (Turned.of_ext x04).trans t6⟩
   unfold obs
   rw [List.map_append]
   change obs _ ++ _ = _
   rw [obs_erase]; rfl
 ·rw [decide_eq_false hin]
  refine Br.mk (fun _ => ?_) (fun h => by cases h)
  have hE : ldE seed limit D (obs its) p = ((D, obs its), 5) := by unfold ldE; rw [if_pos hin]
  rw [hE]
  exact ⟨rfl, r, sl, its, h.ext x01, rfl, Turned.of_ext x01⟩
end Go.Proofs.YtjcnjlaelhdjeaaGreatDoor
namespace Go.Proofs.YtjcnjlaelhdjeaaGreatDoor
open Go Go.Vc Go.RowKit Go.Proofs Go.Chk Go.Runs Go.Code
theorem yes {b : Bool} {A B : Prop} (hb : b = true) (h : A) : Br b A B := by subst hb; exact h
theorem nope {b : Bool} {A B : Prop} (hb : b = false) (h : B) : Br b A B := by subst hb; exact h
theorem loadL1 {w : World} {p : Option Addr} {v : Value} (h : ld w p = some v) : LoadL w p 0 [v] := by
 show ld w (padd p 0) = _
 rw [padd_zero]; exact h
def atE (l : List En) (c : Ce) : Int :=
 if firstI (fun e : En => e.1 == pos c) l < 0 then -1 else if c.2.1 < 0 then 1 else ((l[(firstI (fun e : En => e.1 == pos c) l).toNat]?).map fun e => kAt e.1 e.2.1 c).getD 0
theorem tAt_spec {w : World} {t st d : Nat} {r : Dm} {sl : Sl} {D : Dk} {seed limit : Int} {its : List It} (h : TO w t st d r sl D seed limit its) (c : Ce) (hc : okC c) :
  Calls Tryz.prog n_table_Table_At #[.pointer (some ⟨t, 0, none⟩), cev c] w fun e w' => e = .returned (.int .i64 (atE (obs its) c)) ∧ Ext w w' := by
 apply table_Table_At.vc
 intro w0 e0
 have z0 : w0.heap.size = w.heap.size + 1 := by rw [e0]; simp
 have x0 : Ext w w0 := (Ext.rfl' w).of_alloc e0
 clear e0
 refine (cChunk_spec c hc w0).mono ?_
 rintro e w1 ⟨rfl, x1⟩
 have x01 := x0.tr x1
 have z1 := x1.size
 refine ⟨_, _, rfl, x1.heap (by omega), (find_spec (h.ext x01) (pos c)).mono ?_⟩
 rintro e w4 ⟨rfl, x4⟩
 have z4 := x4.size
 have x04 := x01.tr x4
 have hfm : firstI (fun e : En => e.1 == pos c) (obs its) = firstI (fun i : It => i.p == pos c) its := firstI_map It.ob _ its
 refine ⟨_, rfl, x4.heap (by omega), ?_⟩
 rcases firstI_cases (fun i : It => i.p == pos c) its with ⟨hf, -⟩ | ⟨k, y, hk, hyp, hf, -⟩
 ·rw [hf]
  refine Br.mk (fun _ => ⟨?_, x04⟩) (fun h => by simp at h)
  unfold atE
  rw [hfm, hf, if_pos (by decide)]
 ·rw [hf]
  refine Br.mk (fun h => by simp at h; omega) (fun _ => Br.mk (fun hb => ?_) (fun hb => ?_))
  ·simp only [decide_eq_true_eq] at hb
   refine ⟨?_, x04⟩
   unfold atE
   rw [hfm, hf, if_neg (by omega), if_pos hb]
  ·simp only [decide_eq_false_iff_not] at hb
   have hd := (h.ext x04).ext (Ext.dr w4)
   obtain ⟨a1, a2⟩ := hd.at hk
   have hyr := hd.it y (List.mem_of_getElem? hk)
   refine ⟨sl, hd.rt.at 3 rfl, a1, _, a2, nnS (nnS ⟨_, hyr.r.at 0 rfl, (At_spec hyr.k c hc).mono ?_⟩)⟩
   rintro e w9 ⟨rfl, x9⟩
   have h9 := hd.ext x9
   obtain ⟨-, b2⟩ := h9.at hk
   refine ⟨_, _, rfl, x9.heap (show w.heap.size < w4.heap.size by omega), loadL1 b2, loadL1 (h9.rt.at 3 rfl), ?_, x04.tr ((Ext.dr _).tr x9)⟩
   unfold atE
   rw [hfm, hf, if_neg (by omega), if_neg hb, Int.toNat_natCast, List.getElem?_map, hk]; rfl
end Go.Proofs.YtjcnjlaelhdjeaaGreatDoor
namespace Go.Proofs.YtjcnjlaelhdjeaaGreatDoor
open Go Go.Vc Go.RowKit Go.Proofs Go.Chk Go.Runs Go.Code
def TF (F : Nat → Prop) (w : World) (t : Nat) (seed limit : Int) (T : Tb) : Prop :=
 ∃ st d r sl its, TO w t st d r sl T.1 seed limit its ∧ obs its = T.2 ∧ F = foot t st d r sl its
theorem TF.lt {F : Nat → Prop} {w : World} {t : Nat} {seed limit : Int} {T : Tb} (h : TF F w t seed limit T) {i : Nat} (hi : F i) : i < w.heap.size := by
 obtain ⟨st, d, r, sl, its, h1, h2, rfl⟩ := h
 exact h1.lt hi
theorem TF.same {F : Nat → Prop} {w w' : World} {t : Nat} {seed limit : Int} {T : Tb} (h : TF F w t seed limit T) (hs : ∀ i, F i → w'.heap[i]? = w.heap[i]?) : TF F w' t seed limit T := by
 obtain ⟨st, d, r, sl, its, h1, h2, rfl⟩ := h
 exact ⟨st, d, r, sl, its, h1.same hs, h2, rfl⟩
theorem TF.ext {F : Nat → Prop} {w w' : World} {t : Nat} {seed limit : Int} {T : Tb} (h : TF F w t seed limit T) (x : Ext w w') : TF F w' t seed limit T := h.same fun _ hi => x.heap (h.lt hi)
abbrev offT (τ : TypeId) : Prop := τ ≠ tTable ∧ τ ≠ tStore ∧ τ ≠ tDisk ∧ τ ≠ tPI ∧ τ ≠ tItem ∧ τ ≠ tChunk ∧ τ ≠ tRun ∧ τ ≠ tW ∧ τ ≠ tByte
theorem TF.no_row {F : Nat → Prop} {w : World} {t : Nat} {seed limit : Int} {T : Tb} (h : TF F w t seed limit T) {j : Nat} {cs : List Value} {τ : TypeId} (hr : Row w j cs τ) (hτ : offT τ) : ¬ F j := by
 obtain ⟨st, d, r, sl, its, h1, h2, rfl⟩ := h
 exact h1.no_row hr hτ
abbrev TRes (F : Nat → Prop) (w : World) (t : Nat) (seed limit : Int) (T : Tb) (w' : World) : Prop := ∃ F', TF F' w' t seed limit T ∧ Turned F F' w w'
theorem tf_of {w w' : World} {t st d : Nat} {r : Dm} {sl : Sl} {seed limit : Int} {its : List It} {T : Tb} (hl : LdRes w t st d r sl seed limit its T w') : TRes (foot t st d r sl its) w t seed limit T w' := by
 obtain ⟨r', sl', its', h', ho, ht⟩ := hl
 exact ⟨_, ⟨st, d, r', sl', its', h', ho, rfl⟩, ht⟩
theorem tfNew_spec (seed limit room : Int) (w : World) : Calls Tryz.prog n_table_New #[.int .i64 seed, .int .i64 limit, .int .i64 room] w fun e w' => ∃ t F, e = .returned (.pointer (some ⟨t, 0, none⟩)) ∧ TF F w' t seed (min (max limit 1) 16) (dk0 room, []) ∧ Ext w w' ∧ ∀ i, F i → w.heap.size ≤ i := by
 refine (tNew_spec seed limit room w).mono ?_
 rintro e w' ⟨t, st, d, r, rfl, h, x, hf⟩
 exact ⟨t, _, rfl, ⟨st, d, r, _, [], h, rfl, rfl⟩, x, hf⟩
section
variable {F : Nat → Prop} {w : World} {t : Nat} {seed limit : Int} {T : Tb}
theorem tfLoad_spec (h : TF F w t seed limit T) (hW : T.1.l.length ≤ 1000000) (p : Po) :
  Calls Tryz.prog n_table_Table_Load #[.pointer (some ⟨t, 0, none⟩), pv p] w fun e w' => e = .returned (.int .i64 (ldE seed limit T.1 T.2 p).2) ∧ TRes F w t seed limit (ldE seed limit T.1 T.2 p).1 w' := by
 obtain ⟨st, d, r, sl, its, h1, e, rfl⟩ := h
 rw [← e]
 refine (Load_spec h1 hW p).mono ?_
 rintro e w' ⟨rfl, hl⟩
 exact ⟨rfl, tf_of hl⟩
theorem tfAt_spec (h : TF F w t seed limit T) (c : Ce) (hc : okC c) :
  Calls Tryz.prog n_table_Table_At #[.pointer (some ⟨t, 0, none⟩), cev c] w fun e w' => e = .returned (.int .i64 (atE T.2 c)) ∧ Ext w w' := by
 obtain ⟨st, d, r, sl, its, h1, e, rfl⟩ := h
 rw [← e]
 exact tAt_spec h1 c hc
end
end Go.Proofs.YtjcnjlaelhdjeaaGreatDoor
namespace Go.Proofs.YtjcnjlaelhdjeaaGreatDoor
open Go Go.Vc Go.RowKit Go.Proofs Go.Chk Go.Runs Go.Code Go.Flw
abbrev clv (c : Ce) : List Value := [.int .i64 c.1, .int .i64 c.2.1, .int .i64 c.2.2]
end Go.Proofs.YtjcnjlaelhdjeaaGreatDoor
namespace Go.Proofs.YtjcnjlaelhdjeaaGreatDoor
open Go Go.Vc Go.RowKit Go.Proofs Go.Chk Go.Runs Go.Code
theorem cellsB_nil (seed : Int) (p : Po) : cellsB seed p [] = made seed p := rfl
end Go.Proofs.YtjcnjlaelhdjeaaGreatDoor
namespace Go.Proofs.YtjcnjlaelhdjeaaGreatDoor
open Go Go.Vc Go.RowKit Go.Proofs Go.Chk Go.Runs Go.Code
section
variable {w0 w w' : World} {t : Nat} {seed limit : Int} {T : Tb}
end
end Go.Proofs.YtjcnjlaelhdjeaaGreatDoor
namespace Go.Proofs.YtjcnjlaelhdjeaaGreatDoor
open Go Go.Vc Go.RowKit Go.Proofs Go.Chk Go.Runs Go.Code
end Go.Proofs.YtjcnjlaelhdjeaaGreatDoor
namespace Go.Proofs.YtjcnjlaelhdjeaaGreatDoor
open Go Go.Vc Go.RowKit Go.Proofs Go.Chk Go.Runs Go.Code
end Go.Proofs.YtjcnjlaelhdjeaaGreatDoor
namespace Go.Proofs.YtjcnjlaelhdjeaaGreatDoor
open Go Go.Vc Go.RowKit Go.Proofs Go.Chk Go.Runs Go.Code
end Go.Proofs.YtjcnjlaelhdjeaaGreatDoor
namespace Go.Proofs.YtjcnjlaelhdjeaaGreatDoor
open Go Go.Vc Go.RowKit Go.Proofs Go.Chk Go.Runs Go.Code
abbrev tWorld : TypeId := 132
abbrev tChg : TypeId := 269
abbrev Cg := Ce × Int
abbrev cgv (x : Cg) : List Value := [.int .i64 x.1.1, .int .i64 x.1.2.1, .int .i64 x.1.2.2, .int .i64 x.2]
def WF (F : Nat → Prop) (w : World) (o t : Nat) (seed limit : Int) (T : Tb) (ch : List Cg) : Prop :=
 ∃ F1 sc, TF F1 w t seed limit T ∧ Row w o [.pointer (some ⟨t, 0, none⟩), .slice sc.a sc.n sc.c] tWorld ∧ OwnK 0 tChg 4 w sc (ch.map cgv) ∧ F = fun i => F1 i ∨ i = o ∨ sc.blk = some i
theorem WF.lt {F : Nat → Prop} {w : World} {o t : Nat} {seed limit : Int} {T : Tb} {ch : List Cg} (h : WF F w o t seed limit T ch) {i : Nat} (hi : F i) : i < w.heap.size := by
 obtain ⟨F1, sc, h1, h2, h3, rfl⟩ := h
 rcases hi with hi | rfl | hi
 ·exact h1.lt hi
 ·exact h2.lt
 ·exact (h3.own.lt hi).2
theorem WF.same {F : Nat → Prop} {w w' : World} {o t : Nat} {seed limit : Int} {T : Tb} {ch : List Cg} (h : WF F w o t seed limit T ch) (hs : ∀ i, F i → w'.heap[i]? = w.heap[i]?) : WF F w' o t seed limit T ch := by
 obtain ⟨F1, sc, h1, h2, h3, rfl⟩ := h
 exact ⟨F1, sc, h1.same fun i hi => hs i (.inl hi), h2.same (hs o (.inr (.inl rfl))), OwnK.keep h3 fun b hb => hs b (.inr (.inr hb)), rfl⟩
theorem WF.ext {F : Nat → Prop} {w w' : World} {o t : Nat} {seed limit : Int} {T : Tb} {ch : List Cg} (h : WF F w o t seed limit T ch) (x : Ext w w') : WF F w' o t seed limit T ch := h.same fun _ hi => x.heap (h.lt hi)
theorem WF.keep {F G : Nat → Prop} {w w' : World} {o t : Nat} {seed limit : Int} {T : Tb} {ch : List Cg} (h : WF F w o t seed limit T ch) (hm : Mod G w w') (hn : ∀ i, F i → ¬ G i) : WF F w' o t seed limit T ch := h.same fun i hi => hm.same i (h.lt hi) (hn i hi)
theorem WF.no_row {F : Nat → Prop} {w : World} {o t : Nat} {seed limit : Int} {T : Tb} {ch : List Cg} (h : WF F w o t seed limit T ch) {j : Nat} {cs : List Value} {τ : TypeId} (hr : Row w j cs τ) (hτ : offT τ) (hw : τ ≠ tWorld) (hc : τ ≠ tChg) : ¬ F j := by
 obtain ⟨F1, sc, h1, h2, h3, rfl⟩ := h
 rintro (hi | rfl | hi)
 ·exact h1.no_row hr hτ hi
 ·exact hr.ne h2 hw rfl
 ·obtain ⟨cs', hr'⟩ := own_row h3 (by decide) hi
  exact hr.ne hr' hc rfl
abbrev WRes (F : Nat → Prop) (w : World) (o t : Nat) (seed limit : Int) (T : Tb) (ch : List Cg) (w' : World) : Prop := ∃ F', WF F' w' o t seed limit T ch ∧ Turned F F' w w'
theorem WF.table {F : Nat → Prop} {w : World} {o t : Nat} {seed limit : Int} {T : Tb} {ch : List Cg} (h : WF F w o t seed limit T ch) : ∃ F1, TF F1 w t seed limit T ∧ (∀ i, F1 i → F i) ∧ ∀ {w' : World} {T' : Tb}, TRes F1 w t seed limit T' w' → WRes F w o t seed limit T' ch w' := by
 obtain ⟨F1, sc, h1, h2, h3, rfl⟩ := h
 refine ⟨F1, h1, fun i hi => .inl hi, ?_⟩
 rintro w' T' ⟨F', h', ht⟩
 have n2 := h1.no_row h2 (by decide)
 have n3 : ∀ b, sc.blk = some b → ¬ F1 b := fun b hb => by
  obtain ⟨cs', hr'⟩ := own_row h3 (by decide) hb
  exact h1.no_row hr' (by decide)
 refine ⟨_, ⟨F', sc, h', ht.mod.row h2 n2, ht.mod.ownK h3 n3, rfl⟩, ht.mod.mono fun i _ hi => .inl hi, fun i hi => ?_⟩
 rcases hi with hi | hi | hi
 ·exact (ht.sub i hi).imp .inl id
 ·exact .inl (.inr (.inl hi))
 ·exact .inl (.inr (.inr hi))
theorem wNew_spec (seed limit room : Int) (w : World) : Calls Tryz.prog n_world_New #[.int .i64 seed, .int .i64 limit, .int .i64 room] w fun e w' => ∃ o t F, e = .returned (.pointer (some ⟨o, 0, none⟩)) ∧ WF F w' o t seed (min (max limit 1) 16) (dk0 room, []) [] ∧ Ext w w' ∧ ∀ i, F i → w.heap.size ≤ i := by
 apply world_New.vc
 refine (tfNew_spec seed limit room w).mono ?_
 rintro e w0 ⟨t, F1, rfl, h0, x0, f0⟩
 refine ⟨_, rfl, fun w2 e2 => ⟨w0.heap.size, t, _, rfl, ⟨F1, ⟨none, 0, 0⟩, h0.ext ((Ext.rfl' _).of_alloc e2), ?_, OwnK.nil, rfl⟩, x0.of_alloc e2, fun i hi => ?_⟩⟩
 ·rw [e2]; exact Row.new w0 [_, _] _
 ·rcases hi with hi | hi | hi
  ·exact f0 i hi
  ·have := x0.size; omega
  ·cases hi
theorem wTable_spec {F : Nat → Prop} {w : World} {o t : Nat} {seed limit : Int} {T : Tb} {ch : List Cg} (h : WF F w o t seed limit T ch) : Calls Tryz.prog n_world_World_Table #[.pointer (some ⟨o, 0, none⟩)] w fun e w' => e = .returned (.pointer (some ⟨t, 0, none⟩)) ∧ w' = w := by
 obtain ⟨F1, sc, h1, h2, h3, rfl⟩ := h
 apply world_World_Table.vc
 exact ⟨_, h2.at 0 rfl, rfl, rfl⟩
theorem wView_spec {F : Nat → Prop} {w : World} {o t : Nat} {seed limit : Int} {T : Tb} {ch : List Cg} (h : WF F w o t seed limit T ch) : Calls Tryz.prog n_world_World_View #[.pointer (some ⟨o, 0, none⟩)] w fun e w' => e = .returned (.func (.func n_table_Table_At) #[.pointer (some ⟨t, 0, none⟩)] #[]) ∧ w' = w := by
 obtain ⟨F1, sc, h1, h2, h3, rfl⟩ := h
 apply world_World_View.vc
 exact ⟨_, h2.at 0 rfl, rfl, rfl⟩
end Go.Proofs.YtjcnjlaelhdjeaaGreatDoor
namespace Go.Proofs.YtjcnjlaelhdjeaaGreatDoor
open Go Go.Vc Go.RowKit Go.Proofs Go.Chk Go.Runs Go.Code Go.Flw
def Tl (v : Value) (V : Ce → Int) (w : World) : Prop := ∃ D : Nat → Prop, (∀ i, D i → i < w.heap.size) ∧ ∀ w', (∀ i, D i → w'.heap[i]? = w.heap[i]?) → ∀ c, okC c → callV Tryz.prog v [cev c] w' fun e w'' => e = .returned (.int .i64 (V c)) ∧ Ext w' w''
theorem Tl.at {v : Value} {V : Ce → Int} {w : World} (h : Tl v V w) {c : Ce} (hc : okC c) : callV Tryz.prog v [cev c] w fun e w' => e = .returned (.int .i64 (V c)) ∧ Ext w w' := by
 obtain ⟨D, h1, h2⟩ := h
 exact h2 w (fun _ _ => rfl) c hc
end Go.Proofs.YtjcnjlaelhdjeaaGreatDoor
namespace Go.Proofs.YtjcnjlaelhdjeaaGreatDoor
open Go Go.Vc Go.RowKit Go.Proofs Go.Chk Go.Runs Go.Code
section
variable {N F F' : Nat → Prop} {w w' v v' : World} {s1 s2 s3 s4 : Sl} {T T' : Tb} {ch ch' : List Cg} {seed cap limit : Int} {o t a b m n k : Nat}
theorem wfLoad_spec (h : WF F w o t seed limit T ch) (hW : T.1.l.length ≤ 1000000) (p : Po) :
  Calls Tryz.prog n_table_Table_Load #[.pointer (some ⟨t, 0, none⟩), pv p] w fun e w' => e = .returned (.int .i64 (ldE seed limit T.1 T.2 p).2) ∧ WRes F w o t seed limit (ldE seed limit T.1 T.2 p).1 ch w' := by
 obtain ⟨F1, hT, -, hres⟩ := h.table
 refine (tfLoad_spec hT hW p).mono ?_
 rintro e w' ⟨rfl, hr⟩
 exact ⟨rfl, hres hr⟩
theorem wfAt_spec (h : WF F w o t seed limit T ch) (c : Ce) (hc : okC c) :
  Calls Tryz.prog n_table_Table_At #[.pointer (some ⟨t, 0, none⟩), cev c] w fun e w' => e = .returned (.int .i64 (atE T.2 c)) ∧ Ext w w' := by
 obtain ⟨F1, hT, -⟩ := h.table
 exact tfAt_spec hT c hc
set_option maxRecDepth 100000 in
theorem WF.tells {F : Nat → Prop} {w : World} {T : Tb} {ch : List Cg} {seed limit : Int} {o t : Nat} (h : WF F w o t seed limit T ch) {w' : World} (hk : ∀ i, F i → w'.heap[i]? = w.heap[i]?) (c : Ce) (hc : okC c) :
  callV Tryz.prog (.func (.func n_table_Table_At) #[.pointer (some ⟨t, 0, none⟩)] #[]) [cev c] w' fun e w'' => e = .returned (.int .i64 (atE T.2 c)) ∧ Ext w' w'' :=
 callV_of (by kernel_rfl) rfl (wfAt_spec (h.same hk) c hc)
end
end Go.Proofs.YtjcnjlaelhdjeaaGreatDoor
namespace Go.Proofs.YtjcnjlaelhdjeaaGreatDoor
open Go Go.Vc Go.RowKit Go.Proofs Go.Chk Go.Runs Go.Code Go.Que Go.Flw
abbrev tSim : TypeId := 129
structure Sm where
 seed : Int
 cap : Int
 T : Tb
 ch : List Go.Flw.Cg
 q : QS
 budget : Int
 now : Int
 drops : List Ce
abbrev smC (g o : Nat) (M : Sm) (occ : Value) (sd : Sl) : List Value := [.pointer (some ⟨g, 0, none⟩), .pointer (some ⟨o, 0, none⟩), .int .i64 M.budget, .int .i64 M.now, occ, .slice sd.a sd.n sd.c]
def SF (F : Nat → Prop) (w : World) (s o t : Nat) (M : Sm) (occ : Value) : Prop :=
 ∃ g m qs Fw sd, Row w s (smC g o M occ sd) tSim ∧ Q.QIs w g m qs M.q ∧ QOk M.q ∧ WF Fw w o t M.seed M.cap M.T M.ch ∧ OwnK 0 tCe 3 w sd (M.drops.map clv) ∧ (∀ i, Q.Foot g m qs i → ¬ Fw i) ∧ F = fun i => i = s ∨ Q.Foot g m qs i ∨ Fw i ∨ sd.blk = some i
section
variable {F F' : Nat → Prop} {w w' : World} {s o t : Nat} {M M' : Sm} {occ : Value}
theorem SF.lt (h : SF F w s o t M occ) {i : Nat} (hi : F i) : i < w.heap.size := by
 obtain ⟨g, m, qs, Fw, sd, h1, h2, -, h3, h4, -, rfl⟩ := h
 rcases hi with rfl | hi | hi | hi
 ·exact h1.lt
 ·exact h2.lt i hi
 ·exact h3.lt hi
 ·exact (h4.own.lt hi).2
theorem SF.same (h : SF F w s o t M occ) (hk : ∀ i, F i → w'.heap[i]? = w.heap[i]?) : SF F w' s o t M occ := by
 obtain ⟨g, m, qs, Fw, sd, h1, h2, hq, h3, h4, h5, rfl⟩ := h
 obtain ⟨kvs, m1, m2⟩ := h2.map
 exact ⟨g, m, qs, Fw, sd, h1.same (hk _ (.inl rfl)), ⟨h2.row.same (hk _ (.inr (.inl (.inl rfl)))), OwnK.keep h2.own fun b hb => hk b (.inr (.inl (.inr (.inr hb)))), kvs, m1.same (hk _ (.inr (.inl (.inr (.inl rfl))))), m2⟩, hq, h3.same fun i hi => hk i (.inr (.inr (.inl hi))), OwnK.keep h4 fun b hb => hk b (.inr (.inr (.inr hb))), h5, rfl⟩
theorem SF.ext (h : SF F w s o t M occ) (x : Ext w w') : SF F w' s o t M occ := h.same fun _ hi => x.heap (h.lt hi)
theorem SF.no_row2 (h : SF F w s o t M occ) {j : Nat} {cs : List Value} {τ : TypeId} (hr : Row w j cs τ) (h1 : offT τ) (h2 : τ ≠ tWorld) (h3 : τ ≠ tChg) (h4 : τ ≠ tSim) (h5 : τ ≠ Q.tQueue) (h6 : τ ≠ Q.tItem) (h7 : τ ≠ tCe) : ¬ F j := by
 obtain ⟨g, m, qs, Fw, sd, r1, r2, -, r3, r4, -, rfl⟩ := h
 rintro (hi | hi | hi | hi)
 ·exact hr.ne r1 h4 hi
 ·exact r2.no_row hr h5 h6 hi
 ·exact r3.no_row hr h1 h2 h3 hi
 ·obtain ⟨cs', hr'⟩ := own_row r4 (by decide) hi
  exact hr.ne hr' h7 rfl
abbrev SmRes (F : Nat → Prop) (w : World) (s o t : Nat) (M : Sm) (occ : Value) (w' : World) : Prop := ∃ F', SF F' w' s o t M occ ∧ Turned F F' w w'
theorem SF.world (h : SF F w s o t M occ) : ∃ Fw, WF Fw w o t M.seed M.cap M.T M.ch ∧ (∀ i, Fw i → F i) ∧ ∀ {w' : World} {T' : Tb} {ch' : List Go.Flw.Cg}, WRes Fw w o t M.seed M.cap T' ch' w' → SmRes F w s o t { M with T := T', ch := ch' } occ w' := by
 obtain ⟨g, m, qs, Fw, sd, h1, h2, hq, h3, h4, h5, rfl⟩ := h
 refine ⟨Fw, h3, fun i hi => .inr (.inr (.inl hi)), ?_⟩
 rintro w' T' ch' ⟨F', h', ht⟩
 have n1 := h3.no_row h1 (by decide) (by decide) (by decide)
 have n2 : ∀ i, Q.Foot g m qs i → ¬ Fw i := h5
 have n4 : ∀ b, sd.blk = some b → ¬ Fw b := fun b hb => by
  obtain ⟨cs', hr'⟩ := own_row h4 (by decide) hb
  exact h3.no_row hr' (by decide) (by decide) (by decide)
 refine ⟨_, ⟨g, m, qs, F', sd, ht.mod.row h1 n1, h2.keep ht.mod n2, hq, h', ht.mod.ownK h4 n4, ?_, rfl⟩, ht.mod.mono fun i _ hi => .inr (.inr (.inl hi)), fun i hi => ?_⟩
 ·exact fun i hi hf => ht.apart (G := Q.Foot g m qs) (fun i hi hg => h5 i hg hi) (fun i hi => h2.lt i hi) i hf hi
 ·rcases hi with hi | hi | hi | hi
  ·exact .inl (.inl hi)
  ·exact .inl (.inr (.inl hi))
  ·exact (ht.sub i hi).imp (fun h => .inr (.inr (.inl h))) id
  ·exact .inl (.inr (.inr (.inr hi)))
theorem SF.row (h : SF F w s o t M occ) : ∃ g sd, Row w s (smC g o M occ sd) tSim ∧ OwnK 0 tCe 3 w sd (M.drops.map clv) ∧ F s ∧ (∀ b, sd.blk = some b → F b) ∧ ∀ {w' : World} {M' : Sm} {occ' : Value} {sd' : Sl}, M'.seed = M.seed → M'.cap = M.cap → M'.T = M.T → M'.ch = M.ch → M'.q = M.q → Mod (fun i => i = s ∨ sd.blk = some i) w w' → Row w' s (smC g o M' occ' sd') tSim → OwnK 0 tCe 3 w' sd' (M'.drops.map clv) → (∀ b, sd'.blk = some b → sd.blk = some b ∨ w.heap.size ≤ b) → SmRes F w s o t M' occ' w' := by
 obtain ⟨g, m, qs, Fw, sd, h1, h2, hq, h3, h4, h5, rfl⟩ := h
 refine ⟨g, sd, h1, h4, .inl rfl, fun b hb => .inr (.inr (.inr hb)), ?_⟩
 rintro w' M' occ' sd' e1 e2 e3 e4 e5 hm hr hd hsub
 have q1 := h2.no_row h1 (by decide) (by decide)
 have q2 := h2.no_own h4 (by decide) (by decide) (by decide)
 have r1 := h3.no_row h1 (by decide) (by decide) (by decide)
 have r2 : ∀ b, sd.blk = some b → ¬ Fw b := fun b hb => by
  obtain ⟨cs', hr'⟩ := own_row h4 (by decide) hb
  exact h3.no_row hr' (by decide) (by decide) (by decide)
 refine ⟨_, ⟨g, m, qs, Fw, sd', hr, by rw [e5]; exact h2.keep hm fun i hi hf => hf.elim (fun e => q1 (e ▸ hi)) (fun e => q2 _ e hi), by rw [e5]; exact hq, by rw [e1, e2, e3, e4]; exact h3.keep hm fun i hi hf => hf.elim (fun e => r1 (e ▸ hi)) (fun e => r2 _ e hi), hd, h5, rfl⟩, hm.mono fun i _ hi => hi.elim .inl (fun e => .inr (.inr (.inr e))), fun i hi => ?_⟩
 rcases hi with hi | hi | hi | hi
 ·exact .inl (.inl hi)
 ·exact .inl (.inr (.inl hi))
 ·exact .inl (.inr (.inr (.inl hi)))
 ·exact (hsub i hi).imp (fun h => .inr (.inr (.inr h))) id
end
end Go.Proofs.YtjcnjlaelhdjeaaGreatDoor
namespace Go.Proofs.YtjcnjlaelhdjeaaGreatDoor
open Go Go.Vc Go.RowKit Go.Proofs Go.Chk Go.Runs Go.Code
section
variable {P P' : Nat → Prop} {w w' v v' : World} {s s1 s2 s3 s4 : Sl} {T : Tb} {ch : List Cg} {seed cap : Int}
end
end Go.Proofs.YtjcnjlaelhdjeaaGreatDoor
namespace Go.Proofs.YtjcnjlaelhdjeaaGreatDoor
open Go Go.Vc Go.RowKit Go.Proofs Go.Chk Go.Runs Go.Code Go.Que Go.Flw
end Go.Proofs.YtjcnjlaelhdjeaaGreatDoor
namespace Go.Proofs.YtjcnjlaelhdjeaaGreatDoor
open Go Go.Vc Go.RowKit Go.Proofs Go.Chk Go.Runs Go.Code Go.Que Go.Flw
set_option maxRecDepth 100000
section
variable {F F' : Nat → Prop} {w w' : World} {s o t : Nat} {M M' : Sm} {occ : Value}
theorem SF.tl (h : SF F w s o t M occ) : Tl (.func (.func n_table_Table_At) #[.pointer (some ⟨t, 0, none⟩)] #[]) (atE M.T.2) w := by
 obtain ⟨Fw, hW, -, -⟩ := h.world
 exact ⟨Fw, fun i hi => hW.lt hi, fun w' hk c hc => hW.tells hk c hc⟩
theorem q0_ok : QOk ⟨4096, 0, []⟩ := ⟨by decide, by decide, List.Pairwise.nil, List.nodup_nil⟩
theorem simNew_spec {Fw : Nat → Prop} {seed cap : Int} {T : Tb} {ch : List Go.Flw.Cg} (h : WF Fw w o t seed cap T ch) (budget : Int) : Calls Tryz.prog n_sim_New #[.pointer (some ⟨o, 0, none⟩), .int .i64 budget] w fun e w' => ∃ s F, e = .returned (.pointer (some ⟨s, 0, none⟩)) ∧ SF F w' s o t ⟨seed, cap, T, ch, ⟨4096, 0, []⟩, min (max budget 1) 64, 0, []⟩ (.func (.func n_sim_New_1) #[] #[]) ∧ Ext w w' ∧ (∀ i, F i → Fw i ∨ w.heap.size ≤ i) := by
 apply sim_New.vc
 refine (Q.New_spec 4096 w).mono ?_
 rintro e w0 ⟨g, m, rfl, hq, x0, hg, hm⟩
 refine ⟨_, rfl, fun w2 e2 => ?_⟩
 have eb : (if 64 < (if 1 > budget then 1 else budget) then 64 else (if 1 > budget then 1 else budget)) = min (max budget 1) 64 := by
  split <;> split <;> omega
 rw [eb] at e2
 have x2 : Ext w0 w2 := (Ext.rfl' _).of_alloc e2
 have hr : Row w2 w0.heap.size (smC g o ⟨seed, cap, T, ch, ⟨4096, 0, []⟩, min (max budget 1) 64, 0, []⟩ (.func (.func n_sim_New_1) #[] #[]) ⟨none, 0, 0⟩) tSim := by rw [e2]; exact Row.new w0 [_, _, _, _, _, _] _
 refine ⟨w0.heap.size, _, rfl, ⟨g, m, ⟨none, 0, 0⟩, Fw, ⟨none, 0, 0⟩, hr, hq.ext x2, q0_ok, h.ext (x0.tr x2), OwnK.nil, ?_, rfl⟩, x0.tr x2, fun i hi => ?_⟩
 ·rintro i (hi | hi | hi) hf
  ·have := h.lt hf; omega
  ·have := h.lt hf; omega
  ·cases hi
 ·have := x0.size
  rcases hi with hi | (hi | hi | hi) | hi | hi
  ·exact .inr (by omega)
  ·exact .inr (by omega)
  ·exact .inr (by omega)
  ·cases hi
  ·exact .inl hi
  ·cases hi
theorem sWorld_spec (h : SF F w s o t M occ) : Calls Tryz.prog n_sim_Sim_World #[.pointer (some ⟨s, 0, none⟩)] w fun e w' => e = .returned (.pointer (some ⟨o, 0, none⟩)) ∧ w' = w := by
 obtain ⟨g, sd, h1, -⟩ := h.row
 apply sim_Sim_World.vc
 exact ⟨_, h1.at 1 rfl, rfl, rfl⟩
end
end Go.Proofs.YtjcnjlaelhdjeaaGreatDoor
namespace Go.Proofs.YtjcnjlaelhdjeaaGreatDoor
open Go Go.Vc Go.RowKit Go.Proofs Go.Chk Go.Runs Go.Code Go.Que Go.Flw
set_option maxRecDepth 100000
section
variable {F F' : Nat → Prop} {w w' : World} {s o t : Nat} {M M' : Sm} {occ : Value}
end
end Go.Proofs.YtjcnjlaelhdjeaaGreatDoor
namespace Go.Proofs.YtjcnjlaelhdjeaaGreatDoor
open Go Go.Vc Go.RowKit Go.Proofs
set_option maxRecDepth 100000
set_option maxHeartbeats 8000000
set_option linter.unusedVariables false
end Go.Proofs.YtjcnjlaelhdjeaaGreatDoor
namespace Go.Proofs.YtjcnjlaelhdjeaaGreatDoor
open Go Go.Vc Go.RowKit Go.Proofs Go.Chk Go.Runs Go.Code Go.Flw
set_option maxRecDepth 100000
end Go.Proofs.YtjcnjlaelhdjeaaGreatDoor
namespace Go.Proofs.YtjcnjlaelhdjeaaGreatDoor
open Go Go.Vc Go.RowKit Go.Proofs Go.Chk Go.Runs Go.Code Go.Flw
set_option maxRecDepth 100000
end Go.Proofs.YtjcnjlaelhdjeaaGreatDoor
namespace Go.Proofs.YtjcnjlaelhdjeaaGreatDoor
open Go Go.Vc Go.RowKit Go.Proofs Go.Chk Go.Runs Go.Code Go.Que Go.Flw
set_option maxRecDepth 100000
section
variable {F F' : Nat → Prop} {w w' : World} {s o t : Nat} {M M' : Sm} {occ : Value} {O : Ce → Bool}
end
end Go.Proofs.YtjcnjlaelhdjeaaGreatDoor
namespace Go.Proofs.YtjcnjlaelhdjeaaGreatDoor
open Go Go.Vc Go.RowKit Go.Proofs Go.Chk Go.Runs Go.Code Go.Que Go.Flw
set_option maxRecDepth 100000
section
variable {F F' : Nat → Prop} {w w' : World} {s o t : Nat} {M M' : Sm} {occ : Value} {O : Ce → Bool}
end
end Go.Proofs.YtjcnjlaelhdjeaaGreatDoor
namespace Go.Proofs.YtjcnjlaelhdjeaaGreatDoor
open Go Go.Vc Go.RowKit Go.Proofs Go.Chk Go.Runs Go.Code Go.Que Go.Flw Go.Eng
set_option maxRecDepth 100000
end Go.Proofs.YtjcnjlaelhdjeaaGreatDoor
namespace Go.Proofs.YtjcnjlaelhdjeaaGreatDoor
open Go Go.Vc Go.RowKit Go.Proofs Go.Chk Go.Runs Go.Code Go.Que Go.Flw Go.Eng
set_option maxRecDepth 100000
theorem ld1 {w : World} {g o : Nat} {cs : List Value} {τ : TypeId} (hr : Row w g cs τ) {v : Value} (h : cs[o]? = some v) : LoadL w (some ⟨g, o, none⟩) 0 [v] := hr.loadL (o := o) (fun j hj => by
 match j, hj with
 | 0, _ => exact h)
structure Bdy where
 foot : Ce
 speed : Ce
 wd : Int
 ht : Int
 stands : Bool
end Go.Proofs.YtjcnjlaelhdjeaaGreatDoor
namespace Go.Proofs.YtjcnjlaelhdjeaaGreatDoor
open Go Go.Vc Go.RowKit Go.Proofs Go.Chk Go.Runs Go.Code Go.Que Go.Flw Go.Eng
set_option maxRecDepth 100000
end Go.Proofs.YtjcnjlaelhdjeaaGreatDoor
namespace Go.Proofs.YtjcnjlaelhdjeaaGreatDoor
open Go Go.Vc Go.RowKit Go.Proofs Go.Chk Go.Runs Go.Code Go.Que Go.Flw Go.Eng
set_option maxRecDepth 100000
end Go.Proofs.YtjcnjlaelhdjeaaGreatDoor
namespace Go.Proofs.YtjcnjlaelhdjeaaGreatDoor
open Go Go.Vc Go.RowKit Go.Proofs Go.Chk Go.Runs Go.Code Go.Que Go.Flw Go.Eng
set_option maxRecDepth 100000
abbrev tEng : TypeId := 64
abbrev tLfe : TypeId := 103
abbrev Lfe := Bdy × (Int × Int × Bool)
abbrev lfL (x : Lfe) : List Value := [.int .i64 x.1.foot.1, .int .i64 x.1.foot.2.1, .int .i64 x.1.foot.2.2, .int .i64 x.1.speed.1, .int .i64 x.1.speed.2.1, .int .i64 x.1.speed.2.2, .int .i64 x.1.wd, .int .i64 x.1.ht, .bool x.1.stands, .int .i64 x.2.1, .int .i64 x.2.2.1, .bool x.2.2.2]
abbrev pA (a : Option Nat) : Value := .pointer (a.map fun b => ⟨b, 0, none⟩)
structure EL (w : World) (av : List (Option Nat)) (L : List (Option Lfe)) : Prop where
 n : av.length = 16
 m : L.length = 16
 s : ∀ (i a : Nat), av[i]? = some (some a) → ∃ x, L[i]? = some (some x) ∧ Row w a (lfL x) tLfe
 z : ∀ i : Nat, av[i]? = some none → L[i]? = some none
 d : ∀ (i j a : Nat), av[i]? = some (some a) → av[j]? = some (some a) → i = j
def EF (F : Nat → Prop) (w : World) (g s o t : Nat) (M : Sm) (occ : Value) (L : List (Option Lfe)) : Prop :=
 ∃ (Fs : Nat → Prop) (av : List (Option Nat)), Row w g (.pointer (some ⟨s, 0, none⟩) :: av.map pA) tEng ∧ SF Fs w s o t M occ ∧ EL w av L ∧ F = fun i => i = g ∨ Fs i ∨ some i ∈ av
abbrev ERes (F : Nat → Prop) (w : World) (g s o t : Nat) (M : Sm) (occ : Value) (L : List (Option Lfe)) (w' : World) : Prop := ∃ F', EF F' w' g s o t M occ L ∧ Turned F F' w w'
theorem ode : (offT tEng ∧ tEng ≠ tWorld ∧ tEng ≠ tChg ∧ tEng ≠ tSim ∧ tEng ≠ Q.tQueue ∧ tEng ≠ Q.tItem ∧ tEng ≠ tCe) ∧ (offT tLfe ∧ tLfe ≠ tWorld ∧ tLfe ≠ tChg ∧ tLfe ≠ tSim ∧ tLfe ≠ Q.tQueue ∧ tLfe ≠ Q.tItem ∧ tLfe ≠ tCe) ∧ tEng ≠ tLfe := by decide
theorem mem_at {av : List (Option Nat)} {a : Nat} (h : some a ∈ av) : ∃ i : Nat, av[i]? = some (some a) := List.mem_iff_getElem?.1 h
section
variable {F F' : Nat → Prop} {w w' : World} {g s o t : Nat} {M M' : Sm} {occ : Value} {L : List (Option Lfe)}
theorem EL.same {av : List (Option Nat)} (h : EL w av L) (hk : ∀ a, some a ∈ av → w'.heap[a]? = w.heap[a]?) : EL w' av L :=
 ⟨h.n, h.m, fun i a hi => by
  obtain ⟨x, h1, h2⟩ := h.s i a hi
  exact ⟨x, h1, h2.same (hk a (List.mem_of_getElem? hi))⟩, h.z, h.d⟩
theorem EL.lt {av : List (Option Nat)} (h : EL w av L) {a : Nat} (ha : some a ∈ av) : a < w.heap.size := by
 obtain ⟨i, hi⟩ := mem_at ha
 obtain ⟨x, -, h2⟩ := h.s i a hi
 exact h2.lt
theorem EF.lt (h : EF F w g s o t M occ L) {i : Nat} (hi : F i) : i < w.heap.size := by
 obtain ⟨Fs, av, h1, h2, h3, rfl⟩ := h
 rcases hi with rfl | hi | hi
 ·exact h1.lt
 ·exact h2.lt hi
 ·exact h3.lt hi
theorem EF.same (h : EF F w g s o t M occ L) (hk : ∀ i, F i → w'.heap[i]? = w.heap[i]?) : EF F w' g s o t M occ L := by
 obtain ⟨Fs, av, h1, h2, h3, rfl⟩ := h
 exact ⟨Fs, av, h1.same (hk _ (.inl rfl)), h2.same fun i hi => hk i (.inr (.inl hi)), h3.same fun a ha => hk a (.inr (.inr ha)), rfl⟩
theorem EF.ext (h : EF F w g s o t M occ L) (x : Ext w w') : EF F w' g s o t M occ L := h.same fun _ hi => x.heap (h.lt hi)
theorem EF.sim (h : EF F w g s o t M occ L) : ∃ Fs, SF Fs w s o t M occ ∧ Vc.ld w (padd (some ⟨g, 0, none⟩) 0) = some (.pointer (some ⟨s, 0, none⟩)) ∧ (∀ i, Fs i → F i) ∧ ∀ {w' : World} {M' : Sm} {occ' : Value}, SmRes Fs w s o t M' occ' w' → ERes F w g s o t M' occ' L w' := by
 obtain ⟨Fs, av, h1, h2, h3, rfl⟩ := h
 refine ⟨Fs, h2, h1.at 0 rfl, fun i hi => .inr (.inl hi), ?_⟩
 rintro w' M' occ' ⟨F', h', ht⟩
 have ng : ¬ Fs g := h2.no_row2 h1 ode.1.1 ode.1.2.1 ode.1.2.2.1 ode.1.2.2.2.1 ode.1.2.2.2.2.1 ode.1.2.2.2.2.2.1 ode.1.2.2.2.2.2.2
 have na : ∀ a, some a ∈ av → ¬ Fs a := fun a ha => by
  obtain ⟨i, hi⟩ := mem_at ha
  obtain ⟨x, -, hr⟩ := h3.s i a hi
  exact h2.no_row2 hr ode.2.1.1 ode.2.1.2.1 ode.2.1.2.2.1 ode.2.1.2.2.2.1 ode.2.1.2.2.2.2.1 ode.2.1.2.2.2.2.2.1 ode.2.1.2.2.2.2.2.2
 refine ⟨_, ⟨F', av, ht.mod.row h1 ng, h', h3.same fun a ha => ht.mod.same a (h3.lt ha) (na a ha), rfl⟩, ht.mod.mono fun i _ hi => .inr (.inl hi), fun i hi => ?_⟩
 rcases hi with hi | hi | hi
 ·exact .inl (.inl hi)
 ·exact (ht.sub i hi).imp (fun q => .inr (.inl q)) id
 ·exact .inl (.inr (.inr hi))
theorem EF.tl (h : EF F w g s o t M occ L) : Tl (.func (.func n_table_Table_At) #[.pointer (some ⟨t, 0, none⟩)] #[]) (atE M.T.2) w := by
 obtain ⟨Fs, h1, -, -⟩ := h.sim
 exact h1.tl
end
end Go.Proofs.YtjcnjlaelhdjeaaGreatDoor
namespace Go.Proofs.YtjcnjlaelhdjeaaGreatDoor
open Go Go.Vc Go.RowKit Go.Proofs Go.Chk Go.Runs Go.Code Go.Que Go.Flw Go.Eng
set_option maxRecDepth 100000
section
variable {F F' : Nat → Prop} {w w' : World} {g s o t : Nat} {M M' : Sm} {occ : Value} {L : List (Option Lfe)}
end
end Go.Proofs.YtjcnjlaelhdjeaaGreatDoor
namespace Go.Proofs.YtjcnjlaelhdjeaaGreatDoor
open Go Go.Vc Go.RowKit Go.Proofs Go.Chk Go.Runs Go.Code Go.Que Go.Flw Go.Eng
set_option maxRecDepth 100000
section
variable {F F' : Nat → Prop} {w w' : World} {g s o t : Nat} {M M' : Sm} {occ : Value} {L : List (Option Lfe)}
end
abbrev M0e (seed cap room bud : Int) : Sm := ⟨seed, min (max cap 1) 16, (dk0 room, []), [], ⟨4096, 0, []⟩, min (max bud 1) 64, 0, []⟩
abbrev noL : List (Option Lfe) := List.replicate 16 none
theorem eNew_spec (seed cap room bud : Int) (w : World) : Calls Tryz.prog n_engine_New #[.agg #[.int .i64 seed, .int .i64 cap, .int .i64 room, .int .i64 bud]] w fun e w' =>
  ∃ (g s o t : Nat) (F : Nat → Prop), e = .returned (.pointer (some ⟨g, 0, none⟩)) ∧ EF F w' g s o t (M0e seed cap room bud) (.func (.func n_sim_New_1) #[] #[]) noL ∧ Ext w w' ∧ ∀ i, F i → w.heap.size ≤ i := by
 apply engine_New.vc
 intro w0 e0
 have x0 : Ext w w0.drew := ((Ext.rfl' _).of_alloc e0).drew
 have z0 : w0.drew.heap.size = w.heap.size + 1 := by show w0.heap.size = _; rw [e0]; simp
 have r0 : ∃ τ, Row w0.drew w.heap.size [.int .i64 seed, .int .i64 cap, .int .i64 room, .int .i64 bud] τ := ⟨_, by rw [e0]; exact (Row.new w [_, _, _, _] _).ext (Ext.dr _)⟩
 clear e0
 obtain ⟨τ, r0⟩ := r0
 refine (wNew_spec seed cap room w0.drew).mono ?_
 rintro e w1 ⟨o, t, Fw, rfl, hW, x1, fW⟩
 have z1 := x1.size
 refine ⟨_, rfl, x1.heap (by omega), ld1 (r0.ext x1) rfl, (simNew_spec hW bud).mono ?_⟩
 rintro e w3 ⟨s, F, rfl, hS, x3, fS⟩
 have z3 := x3.size
 refine ⟨_, rfl, x3.heap (by omega), fun w5 e5 => ?_⟩
 have x5 : Ext w3 w5 := (Ext.rfl' _).of_alloc e5
 have r5 : Row w5 w3.heap.size (.pointer (some ⟨s, 0, none⟩) :: (List.replicate 16 none).map pA) tEng := by rw [e5]; exact Row.new w3 [_, _, _, _, _, _, _, _, _, _, _, _, _, _, _, _, _] _
 clear e5
 have hno : ∀ (i a : Nat), (List.replicate 16 (none : Option Nat))[i]? = some (some a) → False := fun i a hi => by
  have := List.eq_of_mem_replicate (List.mem_of_getElem? hi)
  cases this
 have hel : EL w5 (List.replicate 16 none) noL := ⟨rfl, rfl, fun i a hi => (hno i a hi).elim, fun i hi => List.getElem?_replicate_of_lt (by
  have hi16 := (List.getElem?_eq_some_iff.1 hi).1
  rw [List.length_replicate] at hi16
  exact hi16), fun i j a hi => (hno i a hi).elim⟩
 refine ⟨w3.heap.size, s, o, t, _, rfl, ⟨F, _, r5, hS.ext x5, hel, rfl⟩, x0.tr (x1.tr (x3.tr x5)), fun i hi => ?_⟩
 rcases hi with rfl | hi | hi
 ·omega
 ·rcases fS i hi with q | q
  ·have := fW i q; omega
  ·omega
 ·cases List.eq_of_mem_replicate hi
end Go.Proofs.YtjcnjlaelhdjeaaGreatDoor
namespace Go.Proofs.YtjcnjlaelhdjeaaGreatDoor
open Go Go.Vc Go.RowKit Go.Proofs Go.Lin
set_option linter.unusedVariables false
def GS (v : Value) : Prop := ∃ t : ByteArray, v = .string t
theorem strKey : KeyOk Tryz.prog 9 GS := by
 refine ⟨?_, ?_, ?_⟩
 ·rintro x y ⟨a, rfl⟩ ⟨b, rfl⟩
  refine ⟨strEq a b, by kernel_rfl, ?_⟩
  rw [strEq_iff]
  exact ⟨fun h => by rw [h], fun h => by injection h⟩
 ·rintro x ⟨a, rfl⟩ b w
  kernel_rfl
 ·rintro x ⟨a, rfl⟩
  simp [Instr.sameBits]
  exact (bytes_eq a a).2 rfl
def cmdN : List ByteArray := [ByteArray.mk #[119, 111, 114, 108, 100],
 ByteArray.mk #[108, 111, 97, 100],
 ByteArray.mk #[117, 110, 108, 111, 97, 100],
 ByteArray.mk #[102, 108, 117, 115, 104],
 ByteArray.mk #[112, 105, 110],
 ByteArray.mk #[117, 110, 112, 105, 110],
 ByteArray.mk #[102, 108, 117, 115, 104, 97, 108, 108],
 ByteArray.mk #[102, 97, 105, 108],
 ByteArray.mk #[99, 114, 97, 115, 104],
 ByteArray.mk #[115, 97, 118, 101],
 ByteArray.mk #[115, 112, 97, 119, 110],
 ByteArray.mk #[107, 105, 108, 108],
 ByteArray.mk #[116, 101, 108, 108],
 ByteArray.mk #[112, 108, 97, 99, 101],
 ByteArray.mk #[101, 100, 105, 116],
 ByteArray.mk #[98, 114, 101, 97, 107],
 ByteArray.mk #[108, 111, 111, 107],
 ByteArray.mk #[97, 116],
 ByteArray.mk #[116, 111, 112],
 ByteArray.mk #[98, 111, 100, 121],
 ByteArray.mk #[108, 105, 118, 101],
 ByteArray.mk #[104, 101, 114, 101],
 ByteArray.mk #[116, 105, 99, 107]]
def kvZ (k : Nat) (vs : List Value) : List (Value × Value) := ((cmdN.take k).map Value.string).zip vs
theorem cmdN_nodup : cmdN.Nodup := by decide
theorem insL_new {kvs : List (Value × Value)} {k v : Value} (h : ∀ e ∈ kvs, e.1 ≠ k) : insL kvs k v = kvs ++ [(k, v)] := by
 unfold insL
 rw [if_neg]
 rintro ⟨e, he, hk⟩
 exact h e he hk
theorem ins_step {k : Nat} {vs : List Value} {key : ByteArray} {v : Value} (hk : cmdN[k]? = some key) (hl : vs.length = k) : insL (kvZ k vs) (.string key) v = kvZ (k + 1) (vs ++ [v]) := by
 have hlt := (List.getElem?_eq_some_iff.1 hk).1
 rw [insL_new]
 ·unfold kvZ
  rw [List.take_add_one, hk, List.map_append, List.zip_append (by rw [List.length_map, List.length_take]; omega)]
  rfl
 ·rintro ⟨a, b⟩ he
  have h1 := (List.of_mem_zip he).1
  obtain ⟨t, ht, rfl⟩ := List.mem_map.1 h1
  intro hc
  injection hc with hc
  subst hc
  obtain ⟨i, hi⟩ := List.mem_iff_getElem?.1 ht
  rw [List.getElem?_take] at hi
  split at hi
  ·rename_i hik
   have := (List.getElem?_inj (i := i) (j := k) (by omega) cmdN_nodup).1 (hi.trans hk.symm)
   omega
  ·cases hi
abbrev tShell : TypeId := 98
abbrev tblV (c : Nat) : Value := .func (.func 155) #[] #[.pointer (some ⟨c, 0, none⟩)]
abbrev methV (f sh : Nat) : Value := .func (.func f) #[.pointer (some ⟨sh, 0, none⟩)] #[]
abbrev thisV (f t : Nat) : Value := .func (.func f) #[.pointer (some ⟨t, 0, none⟩)] #[]
def cmdV (sh : Nat) (c : List Nat) : List Value :=
 [methV 86 sh] ++ c.map tblV ++ [methV 93 sh, methV 94 sh, methV 95 sh, methV 96 sh, methV 97 sh, methV 98 sh, methV 99 sh, methV 100 sh, methV 101 sh, methV 102 sh, methV 103 sh, methV 104 sh, methV 105 sh, methV 106 sh, methV 107 sh, methV 108 sh, methV 109 sh]
theorem table_spec (sh f t : Nat) (w : World) : Calls Tryz.prog n_lines_Shell_table #[.pointer (some ⟨sh, 0, none⟩), thisV f t] w fun e w' => e = .returned (tblV w.heap.size) ∧ Row w' w.heap.size [thisV f t] 157 ∧ Ext w w' := by
 apply lines_Shell_table.vc
 unfold lines_Shell_table.pre
 refine AndL_nil.2 ?_
 intro w0 e0
 exact ⟨rfl, by rw [e0]; exact Row.new _ [_] _, by rw [e0]; exact Ext.al _ _⟩
structure SHE (w : World) (sh g : Nat) : Prop where
 row : Row w sh [.pointer (some ⟨g, 0, none⟩)] tShell
set_option maxHeartbeats 1000000 in
theorem does_spec {F : Nat → Prop} {w : World} {g s o t : Nat} {M : Sm} {occ : Value} {L : List (Option Lfe)} (h : EF F w g s o t M occ L) {sh : Nat} (hs : SHE w sh g) :
  Calls Tryz.prog n_lines_Shell_does #[.pointer (some ⟨sh, 0, none⟩)] w fun e w' => ∃ (r c1 c2 c3 c4 c5 : Nat), e = .returned (.map (some r)) ∧ MapIs GS w' (some r) (kvZ 23 (cmdV sh [c1, c2, c3, c4, c5])) ∧
   Row w' c1 [thisV 88 t] 157 ∧ Row w' c2 [thisV 89 t] 157 ∧ Row w' c3 [thisV 90 t] 157 ∧ Row w' c4 [thisV 91 t] 157 ∧ Row w' c5 [thisV 92 t] 157 ∧ w.heap.size ≤ r ∧ w.heap.size ≤ c1 ∧ w.heap.size ≤ c2 ∧ w.heap.size ≤ c3 ∧ w.heap.size ≤ c4 ∧ w.heap.size ≤ c5 ∧ Ext w w' := by
 obtain ⟨Fs, hS, hp, -, -⟩ := h.sim
 apply lines_Shell_does.vc
 unfold lines_Shell_does.pre
 refine ⟨some ⟨g, 0, none⟩, by rw [padd_row, hs.row.ld]; rfl, ?_⟩
 refine AndL_nn.2 ⟨rfl, AndL_nn.2 ⟨rfl, some ⟨s, 0, none⟩, hp, (sWorld_spec hS).mono ?_⟩⟩
 rintro _ _ ⟨rfl, e⟩
 rw [e]
 obtain ⟨Fw, hW, -, -⟩ := hS.world
 refine ⟨_, rfl, (wTable_spec hW).mono ?_⟩
 rintro _ _ ⟨rfl, e⟩
 rw [e]
 refine ⟨_, rfl, ?_⟩
 intro v0 e0
 have m0 : MapIs GS v0 (some w.heap.size) (kvZ 0 []) := by rw [e0]; exact MapIs.new
 have x0 : Ext w v0 := (Ext.rfl' w).of_alloc e0
 have up : ∀ {u u' : World} {k : Nat} {vs : List Value} {key : ByteArray} {v : Value}, Ext w u → vs.length = k → cmdN[k]? = some key → Rec ((some w.heap.size : Option Nat).getD 0) u u' → MapIs GS u' (some w.heap.size) (insL (kvZ k vs) (.string key) v) →
   MapIs GS u' (some w.heap.size) (kvZ (k + 1) (vs ++ [v])) ∧ Ext w u' ∧ u'.heap.size = u.heap.size ∧ ∀ i, i ≠ w.heap.size → u'.heap[i]? = u.heap[i]? := by
  intro u u' k vs key v hx hl hk hr hm
  rw [ins_step hk hl] at hm
  exact ⟨hm, Below.trans hx (hr.below (Nat.le_refl _)), hr.size, hr.same⟩
 refine ⟨GS, _, strKey, rfl, m0, ⟨_, rfl⟩, ?_⟩
 intro v1 a1 b1
 obtain ⟨m1, x1, s1, n1⟩ := up (k := 0) (vs := []) (v := methV 86 sh) x0 rfl rfl a1 b1
 have m1 : MapIs GS v1 (some w.heap.size) (kvZ 1 [methV 86 sh]) := m1
 refine (table_spec sh 88 t v1).mono ?_
 rintro _ u1 ⟨rfl, r1, y1⟩
 refine ⟨_, rfl, ?_⟩
 obtain ⟨c1, hc1⟩ : ∃ c, c = v1.heap.size := ⟨_, rfl⟩
 rw [← hc1] at r1 ⊢
 have q1 : MapIs GS u1 (some w.heap.size) (kvZ 1 [methV 86 sh]) := m1.same (y1.heap m1.lt)
 have z1 : Ext w u1 := x1.tr y1
 refine ⟨GS, _, strKey, rfl, q1, ⟨_, rfl⟩, ?_⟩
 intro v2 a2 b2
 obtain ⟨m2, x2, s2, n2⟩ := up (k := 1) (vs := [methV 86 sh]) (v := tblV c1) z1 rfl rfl a2 b2
 have m2 : MapIs GS v2 (some w.heap.size) (kvZ 2 [methV 86 sh, tblV c1]) := m2
 have g1 : c1 ≠ w.heap.size := by have := m1.lt; omega
 have r1 := r1.same (n2 c1 g1)
 refine (table_spec sh 89 t v2).mono ?_
 rintro _ u2 ⟨rfl, r2, y2⟩
 refine ⟨_, rfl, ?_⟩
 obtain ⟨c2, hc2⟩ : ∃ c, c = v2.heap.size := ⟨_, rfl⟩
 rw [← hc2] at r2 ⊢
 have q2 : MapIs GS u2 (some w.heap.size) (kvZ 2 [methV 86 sh, tblV c1]) := m2.same (y2.heap m2.lt)
 have z2 : Ext w u2 := x2.tr y2
 have r1 := r1.ext y2
 refine ⟨GS, _, strKey, rfl, q2, ⟨_, rfl⟩, ?_⟩
 intro v3 a3 b3
 obtain ⟨m3, x3, s3, n3⟩ := up (k := 2) (vs := [methV 86 sh, tblV c1]) (v := tblV c2) z2 rfl rfl a3 b3
 have m3 : MapIs GS v3 (some w.heap.size) (kvZ 3 [methV 86 sh, tblV c1, tblV c2]) := m3
 have r1 := r1.same (n3 c1 g1)
 have g2 : c2 ≠ w.heap.size := by have := m2.lt; omega
 have r2 := r2.same (n3 c2 g2)
 refine (table_spec sh 90 t v3).mono ?_
 rintro _ u3 ⟨rfl, r3, y3⟩
 refine ⟨_, rfl, ?_⟩
 obtain ⟨c3, hc3⟩ : ∃ c, c = v3.heap.size := ⟨_, rfl⟩
 rw [← hc3] at r3 ⊢
 have q3 : MapIs GS u3 (some w.heap.size) (kvZ 3 [methV 86 sh, tblV c1, tblV c2]) := m3.same (y3.heap m3.lt)
 have z3 : Ext w u3 := x3.tr y3
 have r1 := r1.ext y3
 have r2 := r2.ext y3
 refine ⟨GS, _, strKey, rfl, q3, ⟨_, rfl⟩, ?_⟩
 intro v4 a4 b4
 obtain ⟨m4, x4, s4, n4⟩ := up (k := 3) (vs := [methV 86 sh, tblV c1, tblV c2]) (v := tblV c3) z3 rfl rfl a4 b4
 have m4 : MapIs GS v4 (some w.heap.size) (kvZ 4 [methV 86 sh, tblV c1, tblV c2, tblV c3]) := m4
 have r1 := r1.same (n4 c1 g1)
 have r2 := r2.same (n4 c2 g2)
 have g3 : c3 ≠ w.heap.size := by have := m3.lt; omega
 have r3 := r3.same (n4 c3 g3)
 refine (table_spec sh 91 t v4).mono ?_
 rintro _ u4 ⟨rfl, r4, y4⟩
 refine ⟨_, rfl, ?_⟩
 obtain ⟨c4, hc4⟩ : ∃ c, c = v4.heap.size := ⟨_, rfl⟩
 rw [← hc4] at r4 ⊢
 have q4 : MapIs GS u4 (some w.heap.size) (kvZ 4 [methV 86 sh, tblV c1, tblV c2, tblV c3]) := m4.same (y4.heap m4.lt)
 have z4 : Ext w u4 := x4.tr y4
 have r1 := r1.ext y4
 have r2 := r2.ext y4
 have r3 := r3.ext y4
 refine ⟨GS, _, strKey, rfl, q4, ⟨_, rfl⟩, ?_⟩
 intro v5 a5 b5
 obtain ⟨m5, x5, s5, n5⟩ := up (k := 4) (vs := [methV 86 sh, tblV c1, tblV c2, tblV c3]) (v := tblV c4) z4 rfl rfl a5 b5
 have m5 : MapIs GS v5 (some w.heap.size) (kvZ 5 [methV 86 sh, tblV c1, tblV c2, tblV c3, tblV c4]) := m5
 have r1 := r1.same (n5 c1 g1)
 have r2 := r2.same (n5 c2 g2)
 have r3 := r3.same (n5 c3 g3)
 have g4 : c4 ≠ w.heap.size := by have := m4.lt; omega
 have r4 := r4.same (n5 c4 g4)
 refine (table_spec sh 92 t v5).mono ?_
 rintro _ u5 ⟨rfl, r5, y5⟩
 refine ⟨_, rfl, ?_⟩
 obtain ⟨c5, hc5⟩ : ∃ c, c = v5.heap.size := ⟨_, rfl⟩
 rw [← hc5] at r5 ⊢
 have q5 : MapIs GS u5 (some w.heap.size) (kvZ 5 [methV 86 sh, tblV c1, tblV c2, tblV c3, tblV c4]) := m5.same (y5.heap m5.lt)
 have z5 : Ext w u5 := x5.tr y5
 have r1 := r1.ext y5
 have r2 := r2.ext y5
 have r3 := r3.ext y5
 have r4 := r4.ext y5
 refine ⟨GS, _, strKey, rfl, q5, ⟨_, rfl⟩, ?_⟩
 intro v6 a6 b6
 obtain ⟨m6, x6, s6, n6⟩ := up (k := 5) (vs := [methV 86 sh, tblV c1, tblV c2, tblV c3, tblV c4]) (v := tblV c5) z5 rfl rfl a6 b6
 have m6 : MapIs GS v6 (some w.heap.size) (kvZ 6 [methV 86 sh, tblV c1, tblV c2, tblV c3, tblV c4, tblV c5]) := m6
 have r1 := r1.same (n6 c1 g1)
 have r2 := r2.same (n6 c2 g2)
 have r3 := r3.same (n6 c3 g3)
 have r4 := r4.same (n6 c4 g4)
 have g5 : c5 ≠ w.heap.size := by have := m5.lt; omega
 have r5 := r5.same (n6 c5 g5)
 refine ⟨GS, _, strKey, rfl, m6, ⟨_, rfl⟩, ?_⟩
 intro v7 a7 b7
 obtain ⟨m7, x7, s7, n7⟩ := up (k := 6) (vs := [methV 86 sh, tblV c1, tblV c2, tblV c3, tblV c4, tblV c5]) (v := methV 93 sh) x6 rfl rfl a7 b7
 have m7 : MapIs GS v7 (some w.heap.size) (kvZ 7 [methV 86 sh, tblV c1, tblV c2, tblV c3, tblV c4, tblV c5, methV 93 sh]) := m7
 have r1 := r1.same (n7 c1 g1)
 have r2 := r2.same (n7 c2 g2)
 have r3 := r3.same (n7 c3 g3)
 have r4 := r4.same (n7 c4 g4)
 have r5 := r5.same (n7 c5 g5)
 refine ⟨GS, _, strKey, rfl, m7, ⟨_, rfl⟩, ?_⟩
 intro v8 a8 b8
 obtain ⟨m8, x8, s8, n8⟩ := up (k := 7) (vs := [methV 86 sh, tblV c1, tblV c2, tblV c3, tblV c4, tblV c5, methV 93 sh]) (v := methV 94 sh) x7 rfl rfl a8 b8
 have m8 : MapIs GS v8 (some w.heap.size) (kvZ 8 [methV 86 sh, tblV c1, tblV c2, tblV c3, tblV c4, tblV c5, methV 93 sh, methV 94 sh]) := m8
 have r1 := r1.same (n8 c1 g1)
 have r2 := r2.same (n8 c2 g2)
 have r3 := r3.same (n8 c3 g3)
 have r4 := r4.same (n8 c4 g4)
 have r5 := r5.same (n8 c5 g5)
 refine ⟨GS, _, strKey, rfl, m8, ⟨_, rfl⟩, ?_⟩
 intro v9 a9 b9
 obtain ⟨m9, x9, s9, n9⟩ := up (k := 8) (vs := [methV 86 sh, tblV c1, tblV c2, tblV c3, tblV c4, tblV c5, methV 93 sh, methV 94 sh]) (v := methV 95 sh) x8 rfl rfl a9 b9
 have m9 : MapIs GS v9 (some w.heap.size) (kvZ 9 [methV 86 sh, tblV c1, tblV c2, tblV c3, tblV c4, tblV c5, methV 93 sh, methV 94 sh, methV 95 sh]) := m9
 have r1 := r1.same (n9 c1 g1)
 have r2 := r2.same (n9 c2 g2)
 have r3 := r3.same (n9 c3 g3)
 have r4 := r4.same (n9 c4 g4)
 have r5 := r5.same (n9 c5 g5)
 refine ⟨GS, _, strKey, rfl, m9, ⟨_, rfl⟩, ?_⟩
 intro v10 a10 b10
 obtain ⟨m10, x10, s10, n10⟩ := up (k := 9) (vs := [methV 86 sh, tblV c1, tblV c2, tblV c3, tblV c4, tblV c5, methV 93 sh, methV 94 sh, methV 95 sh]) (v := methV 96 sh) x9 rfl rfl a10 b10
 have m10 : MapIs GS v10 (some w.heap.size) (kvZ 10 [methV 86 sh, tblV c1, tblV c2, tblV c3, tblV c4, tblV c5, methV 93 sh, methV 94 sh, methV 95 sh, methV 96 sh]) := m10
 have r1 := r1.same (n10 c1 g1)
 have r2 := r2.same (n10 c2 g2)
 have r3 := r3.same (n10 c3 g3)
 have r4 := r4.same (n10 c4 g4)
 have r5 := r5.same (n10 c5 g5)
 refine ⟨GS, _, strKey, rfl, m10, ⟨_, rfl⟩, ?_⟩
 intro v11 a11 b11
 obtain ⟨m11, x11, s11, n11⟩ := up (k := 10) (vs := [methV 86 sh, tblV c1, tblV c2, tblV c3, tblV c4, tblV c5, methV 93 sh, methV 94 sh, methV 95 sh, methV 96 sh]) (v := methV 97 sh) x10 rfl rfl a11 b11
 have m11 : MapIs GS v11 (some w.heap.size) (kvZ 11 [methV 86 sh, tblV c1, tblV c2, tblV c3, tblV c4, tblV c5, methV 93 sh, methV 94 sh, methV 95 sh, methV 96 sh, methV 97 sh]) := m11
 have r1 := r1.same (n11 c1 g1)
 have r2 := r2.same (n11 c2 g2)
 have r3 := r3.same (n11 c3 g3)
 have r4 := r4.same (n11 c4 g4)
 have r5 := r5.same (n11 c5 g5)
 refine ⟨GS, _, strKey, rfl, m11, ⟨_, rfl⟩, ?_⟩
 intro v12 a12 b12
 obtain ⟨m12, x12, s12, n12⟩ := up (k := 11) (vs := [methV 86 sh, tblV c1, tblV c2, tblV c3, tblV c4, tblV c5, methV 93 sh, methV 94 sh, methV 95 sh, methV 96 sh, methV 97 sh]) (v := methV 98 sh) x11 rfl rfl a12 b12
 have m12 : MapIs GS v12 (some w.heap.size) (kvZ 12 [methV 86 sh, tblV c1, tblV c2, tblV c3, tblV c4, tblV c5, methV 93 sh, methV 94 sh, methV 95 sh, methV 96 sh, methV 97 sh, methV 98 sh]) := m12
 have r1 := r1.same (n12 c1 g1)
 have r2 := r2.same (n12 c2 g2)
 have r3 := r3.same (n12 c3 g3)
 have r4 := r4.same (n12 c4 g4)
 have r5 := r5.same (n12 c5 g5)
 refine ⟨GS, _, strKey, rfl, m12, ⟨_, rfl⟩, ?_⟩
 intro v13 a13 b13
 obtain ⟨m13, x13, s13, n13⟩ := up (k := 12) (vs := [methV 86 sh, tblV c1, tblV c2, tblV c3, tblV c4, tblV c5, methV 93 sh, methV 94 sh, methV 95 sh, methV 96 sh, methV 97 sh, methV 98 sh]) (v := methV 99 sh) x12 rfl rfl a13 b13
 have m13 : MapIs GS v13 (some w.heap.size) (kvZ 13 [methV 86 sh, tblV c1, tblV c2, tblV c3, tblV c4, tblV c5, methV 93 sh, methV 94 sh, methV 95 sh, methV 96 sh, methV 97 sh, methV 98 sh, methV 99 sh]) := m13
 have r1 := r1.same (n13 c1 g1)
 have r2 := r2.same (n13 c2 g2)
 have r3 := r3.same (n13 c3 g3)
 have r4 := r4.same (n13 c4 g4)
 have r5 := r5.same (n13 c5 g5)
 refine ⟨GS, _, strKey, rfl, m13, ⟨_, rfl⟩, ?_⟩
 intro v14 a14 b14
 obtain ⟨m14, x14, s14, n14⟩ := up (k := 13) (vs := [methV 86 sh, tblV c1, tblV c2, tblV c3, tblV c4, tblV c5, methV 93 sh, methV 94 sh, methV 95 sh, methV 96 sh, methV 97 sh, methV 98 sh, methV 99 sh]) (v := methV 100 sh) x13 rfl rfl a14 b14
 have m14 : MapIs GS v14 (some w.heap.size) (kvZ 14 [methV 86 sh, tblV c1, tblV c2, tblV c3, tblV c4, tblV c5, methV 93 sh, methV 94 sh, methV 95 sh, methV 96 sh, methV 97 sh, methV 98 sh, methV 99 sh, methV 100 sh]) := m14
 have r1 := r1.same (n14 c1 g1)
 have r2 := r2.same (n14 c2 g2)
 have r3 := r3.same (n14 c3 g3)
 have r4 := r4.same (n14 c4 g4)
 have r5 := r5.same (n14 c5 g5)
 refine ⟨GS, _, strKey, rfl, m14, ⟨_, rfl⟩, ?_⟩
 intro v15 a15 b15
 obtain ⟨m15, x15, s15, n15⟩ := up (k := 14) (vs := [methV 86 sh, tblV c1, tblV c2, tblV c3, tblV c4, tblV c5, methV 93 sh, methV 94 sh, methV 95 sh, methV 96 sh, methV 97 sh, methV 98 sh, methV 99 sh, methV 100 sh]) (v := methV 101 sh) x14 rfl rfl a15 b15
 have m15 : MapIs GS v15 (some w.heap.size) (kvZ 15 [methV 86 sh, tblV c1, tblV c2, tblV c3, tblV c4, tblV c5, methV 93 sh, methV 94 sh, methV 95 sh, methV 96 sh, methV 97 sh, methV 98 sh, methV 99 sh, methV 100 sh, methV 101 sh]) := m15
 have r1 := r1.same (n15 c1 g1)
 have r2 := r2.same (n15 c2 g2)
 have r3 := r3.same (n15 c3 g3)
 have r4 := r4.same (n15 c4 g4)
 have r5 := r5.same (n15 c5 g5)
 refine ⟨GS, _, strKey, rfl, m15, ⟨_, rfl⟩, ?_⟩
 intro v16 a16 b16
 obtain ⟨m16, x16, s16, n16⟩ := up (k := 15) (vs := [methV 86 sh, tblV c1, tblV c2, tblV c3, tblV c4, tblV c5, methV 93 sh, methV 94 sh, methV 95 sh, methV 96 sh, methV 97 sh, methV 98 sh, methV 99 sh, methV 100 sh, methV 101 sh]) (v := methV 102 sh) x15 rfl rfl a16 b16
 have m16 : MapIs GS v16 (some w.heap.size) (kvZ 16 [methV 86 sh, tblV c1, tblV c2, tblV c3, tblV c4, tblV c5, methV 93 sh, methV 94 sh, methV 95 sh, methV 96 sh, methV 97 sh, methV 98 sh, methV 99 sh, methV 100 sh, methV 101 sh, methV 102 sh]) := m16
 have r1 := r1.same (n16 c1 g1)
 have r2 := r2.same (n16 c2 g2)
 have r3 := r3.same (n16 c3 g3)
 have r4 := r4.same (n16 c4 g4)
 have r5 := r5.same (n16 c5 g5)
 refine ⟨GS, _, strKey, rfl, m16, ⟨_, rfl⟩, ?_⟩
 intro v17 a17 b17
 obtain ⟨m17, x17, s17, n17⟩ := up (k := 16) (vs := [methV 86 sh, tblV c1, tblV c2, tblV c3, tblV c4, tblV c5, methV 93 sh, methV 94 sh, methV 95 sh, methV 96 sh, methV 97 sh, methV 98 sh, methV 99 sh, methV 100 sh, methV 101 sh, methV 102 sh]) (v := methV 103 sh) x16 rfl rfl a17 b17
 have m17 : MapIs GS v17 (some w.heap.size) (kvZ 17 [methV 86 sh, tblV c1, tblV c2, tblV c3, tblV c4, tblV c5, methV 93 sh, methV 94 sh, methV 95 sh, methV 96 sh, methV 97 sh, methV 98 sh, methV 99 sh, methV 100 sh, methV 101 sh, methV 102 sh, methV 103 sh]) := m17
 have r1 := r1.same (n17 c1 g1)
 have r2 := r2.same (n17 c2 g2)
 have r3 := r3.same (n17 c3 g3)
 have r4 := r4.same (n17 c4 g4)
 have r5 := r5.same (n17 c5 g5)
 refine ⟨GS, _, strKey, rfl, m17, ⟨_, rfl⟩, ?_⟩
 intro v18 a18 b18
 obtain ⟨m18, x18, s18, n18⟩ := up (k := 17) (vs := [methV 86 sh, tblV c1, tblV c2, tblV c3, tblV c4, tblV c5, methV 93 sh, methV 94 sh, methV 95 sh, methV 96 sh, methV 97 sh, methV 98 sh, methV 99 sh, methV 100 sh, methV 101 sh, methV 102 sh, methV 103 sh]) (v := methV 104 sh) x17 rfl rfl a18 b18
 have m18 : MapIs GS v18 (some w.heap.size) (kvZ 18 [methV 86 sh, tblV c1, tblV c2, tblV c3, tblV c4, tblV c5, methV 93 sh, methV 94 sh, methV 95 sh, methV 96 sh, methV 97 sh, methV 98 sh, methV 99 sh, methV 100 sh, methV 101 sh, methV 102 sh, methV 103 sh, methV 104 sh]) := m18
 have r1 := r1.same (n18 c1 g1)
 have r2 := r2.same (n18 c2 g2)
 have r3 := r3.same (n18 c3 g3)
 have r4 := r4.same (n18 c4 g4)
 have r5 := r5.same (n18 c5 g5)
 refine ⟨GS, _, strKey, rfl, m18, ⟨_, rfl⟩, ?_⟩
 intro v19 a19 b19
 obtain ⟨m19, x19, s19, n19⟩ := up (k := 18) (vs := [methV 86 sh, tblV c1, tblV c2, tblV c3, tblV c4, tblV c5, methV 93 sh, methV 94 sh, methV 95 sh, methV 96 sh, methV 97 sh, methV 98 sh, methV 99 sh, methV 100 sh, methV 101 sh, methV 102 sh, methV 103 sh, methV 104 sh]) (v := methV 105 sh) x18 rfl rfl a19 b19
 have m19 : MapIs GS v19 (some w.heap.size) (kvZ 19 [methV 86 sh, tblV c1, tblV c2, tblV c3, tblV c4, tblV c5, methV 93 sh, methV 94 sh, methV 95 sh, methV 96 sh, methV 97 sh, methV 98 sh, methV 99 sh, methV 100 sh, methV 101 sh, methV 102 sh, methV 103 sh, methV 104 sh, methV 105 sh]) := m19
 have r1 := r1.same (n19 c1 g1)
 have r2 := r2.same (n19 c2 g2)
 have r3 := r3.same (n19 c3 g3)
 have r4 := r4.same (n19 c4 g4)
 have r5 := r5.same (n19 c5 g5)
 refine ⟨GS, _, strKey, rfl, m19, ⟨_, rfl⟩, ?_⟩
 intro v20 a20 b20
 obtain ⟨m20, x20, s20, n20⟩ := up (k := 19) (vs := [methV 86 sh, tblV c1, tblV c2, tblV c3, tblV c4, tblV c5, methV 93 sh, methV 94 sh, methV 95 sh, methV 96 sh, methV 97 sh, methV 98 sh, methV 99 sh, methV 100 sh, methV 101 sh, methV 102 sh, methV 103 sh, methV 104 sh, methV 105 sh]) (v := methV 106 sh) x19 rfl rfl a20 b20
 have m20 : MapIs GS v20 (some w.heap.size) (kvZ 20 [methV 86 sh, tblV c1, tblV c2, tblV c3, tblV c4, tblV c5, methV 93 sh, methV 94 sh, methV 95 sh, methV 96 sh, methV 97 sh, methV 98 sh, methV 99 sh, methV 100 sh, methV 101 sh, methV 102 sh, methV 103 sh, methV 104 sh, methV 105 sh, methV 106 sh]) := m20
 have r1 := r1.same (n20 c1 g1)
 have r2 := r2.same (n20 c2 g2)
 have r3 := r3.same (n20 c3 g3)
 have r4 := r4.same (n20 c4 g4)
 have r5 := r5.same (n20 c5 g5)
 refine ⟨GS, _, strKey, rfl, m20, ⟨_, rfl⟩, ?_⟩
 intro v21 a21 b21
 obtain ⟨m21, x21, s21, n21⟩ := up (k := 20) (vs := [methV 86 sh, tblV c1, tblV c2, tblV c3, tblV c4, tblV c5, methV 93 sh, methV 94 sh, methV 95 sh, methV 96 sh, methV 97 sh, methV 98 sh, methV 99 sh, methV 100 sh, methV 101 sh, methV 102 sh, methV 103 sh, methV 104 sh, methV 105 sh, methV 106 sh]) (v := methV 107 sh) x20 rfl rfl a21 b21
 have m21 : MapIs GS v21 (some w.heap.size) (kvZ 21 [methV 86 sh, tblV c1, tblV c2, tblV c3, tblV c4, tblV c5, methV 93 sh, methV 94 sh, methV 95 sh, methV 96 sh, methV 97 sh, methV 98 sh, methV 99 sh, methV 100 sh, methV 101 sh, methV 102 sh, methV 103 sh, methV 104 sh, methV 105 sh, methV 106 sh, methV 107 sh]) := m21
 have r1 := r1.same (n21 c1 g1)
 have r2 := r2.same (n21 c2 g2)
 have r3 := r3.same (n21 c3 g3)
 have r4 := r4.same (n21 c4 g4)
 have r5 := r5.same (n21 c5 g5)
 refine ⟨GS, _, strKey, rfl, m21, ⟨_, rfl⟩, ?_⟩
 intro v22 a22 b22
 obtain ⟨m22, x22, s22, n22⟩ := up (k := 21) (vs := [methV 86 sh, tblV c1, tblV c2, tblV c3, tblV c4, tblV c5, methV 93 sh, methV 94 sh, methV 95 sh, methV 96 sh, methV 97 sh, methV 98 sh, methV 99 sh, methV 100 sh, methV 101 sh, methV 102 sh, methV 103 sh, methV 104 sh, methV 105 sh, methV 106 sh, methV 107 sh]) (v := methV 108 sh) x21 rfl rfl a22 b22
 have m22 : MapIs GS v22 (some w.heap.size) (kvZ 22 [methV 86 sh, tblV c1, tblV c2, tblV c3, tblV c4, tblV c5, methV 93 sh, methV 94 sh, methV 95 sh, methV 96 sh, methV 97 sh, methV 98 sh, methV 99 sh, methV 100 sh, methV 101 sh, methV 102 sh, methV 103 sh, methV 104 sh, methV 105 sh, methV 106 sh, methV 107 sh, methV 108 sh]) := m22
 have r1 := r1.same (n22 c1 g1)
 have r2 := r2.same (n22 c2 g2)
 have r3 := r3.same (n22 c3 g3)
 have r4 := r4.same (n22 c4 g4)
 have r5 := r5.same (n22 c5 g5)
 refine ⟨GS, _, strKey, rfl, m22, ⟨_, rfl⟩, ?_⟩
 intro v23 a23 b23
 obtain ⟨m23, x23, s23, n23⟩ := up (k := 22) (vs := [methV 86 sh, tblV c1, tblV c2, tblV c3, tblV c4, tblV c5, methV 93 sh, methV 94 sh, methV 95 sh, methV 96 sh, methV 97 sh, methV 98 sh, methV 99 sh, methV 100 sh, methV 101 sh, methV 102 sh, methV 103 sh, methV 104 sh, methV 105 sh, methV 106 sh, methV 107 sh, methV 108 sh]) (v := methV 109 sh) x22 rfl rfl a23 b23
 have m23 : MapIs GS v23 (some w.heap.size) (kvZ 23 [methV 86 sh, tblV c1, tblV c2, tblV c3, tblV c4, tblV c5, methV 93 sh, methV 94 sh, methV 95 sh, methV 96 sh, methV 97 sh, methV 98 sh, methV 99 sh, methV 100 sh, methV 101 sh, methV 102 sh, methV 103 sh, methV 104 sh, methV 105 sh, methV 106 sh, methV 107 sh, methV 108 sh, methV 109 sh]) := m23
 have r1 := r1.same (n23 c1 g1)
 have r2 := r2.same (n23 c2 g2)
 have r3 := r3.same (n23 c3 g3)
 have r4 := r4.same (n23 c4 g4)
 have r5 := r5.same (n23 c5 g5)
 exact ⟨w.heap.size, c1, c2, c3, c4, c5, rfl, m23, r1, r2, r3, r4, r5, Nat.le_refl _, by have := x1.size; omega, by have := x2.size; omega, by have := x3.size; omega, by have := x4.size; omega, by have := x5.size; omega, x23⟩
end Go.Proofs.YtjcnjlaelhdjeaaGreatDoor
namespace Go.Proofs.YtjcnjlaelhdjeaaGreatDoor
open Go Go.Vc Go.RowKit Go.Proofs Go.Lin
set_option linter.unusedVariables false
set_option maxRecDepth 100000
theorem ni85 : notIf Tryz.prog 85 = true := by kernel_rfl
theorem zi85 : (Tryz.prog.info? 85).bind (·.zero) = some (.string (ByteArray.mk #[])) := by kernel_rfl
theorem as_odd (s : ByteArray) (w : World) : (Instr.typeAssert (.iface 85 (.string s)) 20 85 true).run Tryz.prog w = .ok (.tuple #[.string s, .bool true]) w := by
 have := asOk_run (P := Tryz.prog) (a := 85) (xT := 20) (t := 85) (v := .string s) ni85 zi85 w
 rw [if_pos rfl] at this
 exact this
theorem catch_odd (p : Addr) (x : ByteArray) (s : ByteArray) (older : List PanicEntry) (w : World) (hc : w.cell? p = some (.string x)) (hz : w.frozen? p = false) :
  CallsD Tryz.prog 51 #[.pointer (some p)] (.panicking ({ v := .iface 85 (.string s), recovered := false } :: older)) w fun e u' w' =>
   e = .returned (.tuple #[]) ∧ u' = .panicking ({ v := .iface 85 (.string s), recovered := true } :: older) ∧ w' = w.setCell p (.string s) := by
 refine callsD_of_wpS Tryz.func51 rfl fun c₀ cs hu => ?_
 apply wpS_seq
 apply wpS_region
 simp [wpOpsS, go_sem, recoverD, hu, Tryz.ntmps51, Exit.thenS]
 refine wpS_of_wp (wp_mono (Q := fun e a' w' => e = .normal ∧ w' = w.setCell p (.string s) ∧ a'.defers = []) ?_ ?_)
 ·refine wp_block ?_
  go_wp2
  rw [as_odd]
  simp only [Result.andThen_ok, Oper.upon]
  rename_i K1 h1 K h2
  apply h2
  simp [wpList, go_sem, Act.put, Act.eval, Exit.then, Oper.wp, Oper.upon]
  refine .inl (.inl (h1 _ _ ?_))
  refine wp_cond_true (by simp [Act.eval, Array.replicate]) ?_
  refine wp_seq (wp_region ?_)
  simp [wpOps, go_sem, Act.put, Act.eval, Exit.then, Oper.wp, Oper.upon]
  refine .inl (wp_region ?_)
  simp [wpOps, go_sem, Act.put, Act.eval, Exit.then, Oper.wp, Oper.upon, hc, hz]
  exact .inl (.inl ⟨rfl, rfl, rfl⟩)
 ·rintro e a w' ⟨rfl, rfl, hd⟩
  simp [bodyPostS, results, Tryz.results51, hd]
theorem catch_idle (p : Addr) (w : World) :
  CallsD Tryz.prog 51 #[.pointer (some p)] .returning w fun e u' w' => e = .returned (.tuple #[]) ∧ u' = .returning ∧ w' = w := by
 refine callsD_of_wpS Tryz.func51 rfl fun c₀ cs hu => ?_
 apply wpS_seq
 apply wpS_region
 simp [wpOpsS, go_sem, recoverD, hu, Tryz.ntmps51, Exit.thenS]
 refine wpS_of_wp (wp_mono (Q := fun e a' w' => e = .normal ∧ w' = w ∧ a'.defers = []) ?_ ?_)
 ·refine wp_block (wp_seq (wp_region ?_))
  simp [wpOps, go_sem, Act.put, Act.eval, Exit.then, Oper.wp, Oper.upon]
  refine .inl ?_
  refine wp_cond_true (by simp [Act.eval, Array.replicate]) ?_
  refine wp_region ?_
  simp [wpOps, go_sem, Act.put, Act.eval, Exit.then, Oper.wp, Oper.upon]
 ·rintro e a w' ⟨rfl, rfl, hd⟩
  cases c₀
  simp_all [bodyPostS, results, Tryz.results51]
end Go.Proofs.YtjcnjlaelhdjeaaGreatDoor
namespace Go.Proofs.YtjcnjlaelhdjeaaGreatDoor
open Go Go.Vc Go.RowKit Go.Proofs Go.Lin
set_option linter.unusedVariables false
set_option maxRecDepth 100000
theorem set_one {w : World} {g : Nat} {x v : Value} {E : TypeId} (hr : Row w g [x] E) (h1 : v.oneCell' = true) : w.setCell ⟨g, 0, none⟩ v = w.setRow g #[v] := by
 have h := hr.setP (o := 0) (vs := [v]) (by simp) (fun u hu => by simp at hu; subst hu; exact h1)
 have e : setP w (some ⟨g, 0, none⟩) [v] = w.setCell ((⟨g, 0, none⟩ : Addr).add 0) v := rfl
 rw [e] at h
 have a0 : (⟨g, 0, none⟩ : Addr).add 0 = ⟨g, 0, none⟩ := rfl
 rw [a0] at h
 rw [h]
 rfl
theorem map87 : mapTy Tryz.prog 87 = some (9, 86, .nilFunc) := by kernel_rfl
structure CmdV (v : Value) (f : FuncId) (a b : Array Value) : Prop where
 eq : v = .func (.func f) a b
 enter : ∀ args w, (callFunc f args).run Tryz.prog w = .ok (.enter f args) w
theorem Line_core {w : World} {sh g : Nat} (line : ByteArray) (hl : line.size ≤ 4294967296) {F : Nat → Prop} {s o t : Nat} {M : Sm} {occ : Value} {L : List (Option Lfe)} (h : EF F w g s o t M occ L) (hs : SHE w sh g) (Q : ByteArray → World → Prop)
  (hst : ∀ tx u u', Q tx u → Mod (fun i => i = w.heap.size) u u' → Q tx u')
  (h0 : wordsK line = [] → ∀ u, Ext w u → Q (ByteArray.mk #[]) u)
  (hbad : ∀ c r, wordsK line = c :: r → c ∉ cmdN → ∀ u, Ext w u → Q (ByteArray.mk #[98, 97, 100]) u)
  (hcmd : ∀ (c : ByteArray) (r : List ByteArray) (i : Nat), wordsK line = c :: r → cmdN[i]? = some c → ∀ (u : World) (B ga c1 c2 c3 c4 c5 : Nat), Ext w u → AG u B ga r → w.heap.size < ga → Row u c1 [thisV 88 t] 157 → Row u c2 [thisV 89 t] 157 → Row u c3 [thisV 90 t] 157 → Row u c4 [thisV 91 t] 157 → Row u c5 [thisV 92 t] 157 →
   (B ≤ c1 ∧ B ≤ c2 ∧ B ≤ c3 ∧ B ≤ c4 ∧ B ≤ c5) → ∀ v, (cmdV sh [c1, c2, c3, c4, c5])[i]? = some v → ∃ f a b, CmdV v f a b ∧ Calls Tryz.prog f (a ++ #[.pointer (some ⟨ga, 0, none⟩)] ++ b) u fun e u' => u'.heap[w.heap.size]? = u.heap[w.heap.size]? ∧ ((∃ tx, e = .returned (.string tx) ∧ Q tx u') ∨ (e = odd ∧ Q (ByteArray.mk #[98, 97, 100]) u'))) :
  Calls Tryz.prog 14 #[.pointer (some ⟨sh, 0, none⟩), .string line] w fun e w' => ∃ tx, e = .returned (.string tx) ∧ Q tx w' := by
 go_enter_defers Tryz.func14, Tryz.ntmps14
 refine wp_seq (wp_region ?_)
 simp [wpOps, go_sem, Act.put, Act.eval, Exit.then, Oper.wp, Oper.upon]
 refine .inl ?_
 refine wp_seq (wp_region ?_)
 simp [wpOps, go_sem, Act.put, Act.eval, Exit.then, Oper.wp, Oper.upon]
 refine .inl (.inl ((Words_spec line _ hl).mono ?_))
 rintro e w1 ⟨sl, rfl, hrd, hlc, hbk, x1⟩
 simp [go_sem, Oper.upon, wpOps, Oper.wp, Act.put, Act.eval]
 repeat refine Or.inl ?_
 refine wp_seq (wp_seq (wp_region ?_))
 simp [wpOps, go_sem, Act.put, Act.eval, Exit.then, Oper.wp, Oper.upon]
 repeat refine Or.inl ?_
 have hn : sl.n = (wordsK line).length := by rw [hrd.n, List.length_map]
 have hr0 : Row (w.alloc (.cells #[.string (ByteArray.mk #[])] 9)) w.heap.size [.string (ByteArray.mk #[])] 9 := Row.new _ [_] _
 have hr2 := (hr0.ext x1).ext (Ext.al w1 (.cells #[.slice sl.a sl.n sl.c] 84))
 have x2 : Ext w (w1.alloc (.cells #[.slice sl.a sl.n sl.c] 84)) := ((Ext.al w _).tr x1).tr (Ext.al w1 _)
 have hc2 : (w1.alloc (.cells #[.slice sl.a sl.n sl.c] 84)).cell? ⟨w.heap.size, 0, none⟩ = some (.string (ByteArray.mk #[])) := by have := hr2.ld 0; simpa [Vc.ld] using this
 have hf2 : (w1.alloc (.cells #[.slice sl.a sl.n sl.c] 84)).frozen? ⟨w.heap.size, 0, none⟩ = false := frozen_of hr2 _
 cases hw : wordsK line with
 | nil =>
   rw [hw] at hn
   refine wp_cond_true (by simp [Act.eval, hn]) ?_
   refine wp_seq (wp_region ?_)
   simp [wpOps, go_sem, Act.put, Act.eval, Exit.then, Oper.wp, Oper.upon, hc2, hf2]
   repeat refine Or.inl ?_
   refine wp_ret ?_
   rw [set_one hr2 rfl]
   have hr3 := hr2.set [.string (ByteArray.mk #[])]
   have hc3 : ((w1.alloc (.cells #[.slice sl.a sl.n sl.c] 84)).setRow w.heap.size #[.string (ByteArray.mk #[])]).cell? ⟨w.heap.size, 0, none⟩ = some (.string (ByteArray.mk #[])) := by have := hr3.ld 0; simpa [Vc.ld] using this
   simp [bodyPostD, Leaves, results, Tryz.results14, go_sem, hc3]
   exact hst _ _ _ (h0 hw _ x2) (mod_set _ _ _)
 | cons c r =>
   rw [hw] at hn
   refine wp_cond_false (by simp [Act.eval, hn]; omega) ?_
   refine wp_skip ?_
   simp only [Exit.then]
   refine wp_seq (wp_region ?_)
   simp [wpOps, go_sem, Act.put, Act.eval, Exit.then, Oper.wp, Oper.upon]
   repeat refine Or.inl ?_
   generalize hW2 : w1.alloc (.cells #[.slice sl.a sl.n sl.c] 84) = W2 at *
   refine wp_seq (wp_region ?_)
   simp [wpOps, go_sem, Act.put, Act.eval, Exit.then, Oper.wp, Oper.upon]
   repeat refine Or.inl ?_
   refine (does_spec (h.ext x2) ⟨hs.row.ext x2⟩).mono ?_
   rintro e w3 ⟨rm, c1, c2, c3, c4, c5, rfl, hm, r1, r2, r3, r4, r5, b0, b1, b2, b3, b4, b5, x3⟩
   simp [go_sem, Oper.upon, wpOps, Oper.wp, Act.put, Act.eval]
   repeat refine Or.inl ?_
   have hz2 : W2.heap.size = w1.heap.size + 1 := by rw [← hW2]; simp
   have xa : Ext w1 W2 := by rw [← hW2]; exact Ext.al _ _
   have hag : AG W2 W2.heap.size w1.heap.size (c :: r) := ⟨by omega, Nat.le_refl _, sl, by rw [← hW2]; exact Row.new _ [_] _, by rw [← hw]; exact hrd.ext xa, hlc, fun i hi => by have := (hbk i hi).2; omega⟩
   refine (word_spec (hag.ext x3)).mono ?_
   rintro e w4 ⟨m4, hp⟩
   obtain ⟨rfl, ha4⟩ := hp
   have hzw : w.heap.size + 1 ≤ w1.heap.size := by have := x1.size; simpa using this
   have x4 : Ext w w4 := m4.ext (x2.tr x3) (fun i hi => by omega)
   have hne : ∀ i, W2.heap.size ≤ i → i ≠ w1.heap.size := fun i hi => by omega
   have hm4 : MapIs GS w4 (some rm) (kvZ 23 (cmdV sh [c1, c2, c3, c4, c5])) := hm.same (m4.same rm hm.lt (hne _ b0))
   have k1 := r1.same (m4.same c1 r1.lt (hne _ b1))
   have k2 := r2.same (m4.same c2 r2.lt (hne _ b2))
   have k3 := r3.same (m4.same c3 r3.lt (hne _ b3))
   have k4 := r4.same (m4.same c4 r4.lt (hne _ b4))
   have k5 := r5.same (m4.same c5 r5.lt (hne _ b5))
   by_cases hc : c ∈ cmdN
   ·obtain ⟨i, hi⟩ := List.mem_iff_getElem?.1 hc
    have hi23 : i < 23 := (List.getElem?_eq_some_iff.1 hi).1
    obtain ⟨v, hv⟩ : ∃ v, (cmdV sh [c1, c2, c3, c4, c5])[i]? = some v := ⟨_, List.getElem?_eq_getElem (show i < (cmdV sh [c1, c2, c3, c4, c5]).length from hi23)⟩
    obtain ⟨f, a, b, hcv, hcall⟩ := hcmd c r i hw hi w4 W2.heap.size w1.heap.size c1 c2 c3 c4 c5 x4 ha4 (by omega) k1 k2 k3 k4 k5 ⟨b1, b2, b3, b4, b5⟩ v hv
    have hlk : (Instr.lookup 87 (.map (some rm)) (.string c) false).run Tryz.prog w4 = .ok v w4 := by
     refine (lookup_run (P := Tryz.prog) (z := .nilFunc) map87 strKey hm4 ⟨c, rfl⟩ false (v := v) (b := true) (.inl ⟨rfl, ?_⟩))
     unfold kvZ
     refine List.mem_iff_getElem?.2 ⟨i, ?_⟩
     rw [List.getElem?_zip_eq_some]
     refine ⟨?_, hv⟩
     rw [List.getElem?_map, List.take_of_length_le (by decide), hi]
     rfl
    simp [go_sem, Oper.upon, wpOps, Oper.wp, Act.put, Act.eval, hlk]
    obtain ⟨rfl, hent⟩ := hcv
    repeat refine Or.inl ?_
    refine wp_seq (wp_region ?_)
    simp [wpOps, go_sem, Act.put, Act.eval, Exit.then, Oper.wp, Oper.upon]
    repeat refine Or.inl ?_
    have hr4 : Row w4 w.heap.size [.string (ByteArray.mk #[])] 9 := (hr2.ext x3).same (m4.same _ (hr2.ext x3).lt (by omega))
    refine (must_spec true w4).mono ?_
    rintro e w4' ⟨he, e4⟩
    simp only [if_true] at he
    subst he
    rw [e4]
    refine wp_seq (wp_region ?_)
    simp [wpOps, go_sem, Act.put, Act.eval, Exit.then, Oper.wp, Oper.upon, invoke, hent]
    repeat refine Or.inl ?_
    refine hcall.mono ?_
    rintro e u ⟨hk, ⟨tx, rfl, hq⟩ | ⟨rfl, hq⟩⟩
    ·have hru := hr4.same hk
     have hcu : u.cell? ⟨w.heap.size, 0, none⟩ = some (.string (ByteArray.mk #[])) := by have := hru.ld 0; simpa [Vc.ld] using this
     have hfu : u.frozen? ⟨w.heap.size, 0, none⟩ = false := frozen_of hru _
     have hrs := hru.set [.string tx]
     have hcs : (u.setRow w.heap.size #[.string tx]).cell? ⟨w.heap.size, 0, none⟩ = some (.string tx) := by have := hrs.ld 0; simpa [Vc.ld] using this
     have hqs : Q tx (u.setRow w.heap.size #[.string tx]) := hst _ _ _ hq (mod_set _ _ _)
     simp [go_sem, storeCells, hcu, hfu]
     rw [set_one hru rfl]
     repeat refine Or.inl ?_
     refine wp_ret ?_
     simp only [bodyPostD]
     refine leaves_cons (f := 51) (args := #[.pointer (some ⟨w.heap.size, 0, none⟩)]) (by simp) (enter_of Tryz.func51 (by kernel_rfl) rfl _ _) ?_
     refine (catch_idle ⟨w.heap.size, 0, none⟩ _).mono ?_
     rintro e u' w'' ⟨rfl, rfl, rfl⟩
     simp [Leaves, settle, results, Tryz.results14, go_sem, hcs]
     exact hqs
    ·have hru := hr4.same hk
     have hcu : u.cell? ⟨w.heap.size, 0, none⟩ = some (.string (ByteArray.mk #[])) := by have := hru.ld 0; simpa [Vc.ld] using this
     have hfu : u.frozen? ⟨w.heap.size, 0, none⟩ = false := frozen_of hru _
     have hrs := hru.set [.string (ByteArray.mk #[98, 97, 100])]
     have hcs : (u.setRow w.heap.size #[.string (ByteArray.mk #[98, 97, 100])]).cell? ⟨w.heap.size, 0, none⟩ = some (.string (ByteArray.mk #[98, 97, 100])) := by have := hrs.ld 0; simpa [Vc.ld] using this
     have hqs : Q (ByteArray.mk #[98, 97, 100]) (u.setRow w.heap.size #[.string (ByteArray.mk #[98, 97, 100])]) := hst _ _ _ hq (mod_set _ _ _)
     simp only [odd, bodyPostD]
     refine leaves_cons (f := 51) (args := #[.pointer (some ⟨w.heap.size, 0, none⟩)]) (by simp) (enter_of Tryz.func51 (by kernel_rfl) rfl _ _) ?_
     refine (catch_odd ⟨w.heap.size, 0, none⟩ (ByteArray.mk #[]) _ _ _ hcu hfu).mono ?_
     rintro e u' w'' ⟨rfl, rfl, rfl⟩
     rw [set_one hru rfl]
     simp [Leaves, settle, results, Tryz.results14, go_sem, hcs]
     exact hqs
   ·have hlk : (Instr.lookup 87 (.map (some rm)) (.string c) false).run Tryz.prog w4 = .ok .nilFunc w4 := by
     refine (lookup_run (P := Tryz.prog) (z := .nilFunc) map87 strKey hm4 ⟨c, rfl⟩ false (v := .nilFunc) (b := false) (.inr ⟨rfl, rfl, ?_⟩))
     rintro ⟨x, y⟩ he hx
     obtain ⟨t', ht', hx'⟩ := List.mem_map.1 (List.of_mem_zip he).1
     have : Value.string t' = .string c := hx'.trans hx
     injection this with this
     rw [this] at ht'
     exact hc (List.mem_of_mem_take ht')
    have hr4 : Row w4 w.heap.size [.string (ByteArray.mk #[])] 9 := (hr2.ext x3).same (m4.same _ (hr2.ext x3).lt (by omega))
    have hc4 : w4.cell? ⟨w.heap.size, 0, none⟩ = some (.string (ByteArray.mk #[])) := by have := hr4.ld 0; simpa [Vc.ld] using this
    have hf4 : w4.frozen? ⟨w.heap.size, 0, none⟩ = false := frozen_of hr4 _
    simp [go_sem, Oper.upon, wpOps, Oper.wp, Act.put, Act.eval, hlk]
    repeat refine Or.inl ?_
    refine wp_seq (wp_region ?_)
    simp [wpOps, go_sem, Act.put, Act.eval, Exit.then, Oper.wp, Oper.upon]
    repeat refine Or.inl ?_
    refine (must_spec false w4).mono ?_
    rintro e w4' ⟨he, e4⟩
    simp only [Bool.false_eq_true, if_false] at he
    subst he
    rw [e4]
    ·have hrs := hr4.set [.string (ByteArray.mk #[98, 97, 100])]
     have hcs : (w4.setRow w.heap.size #[.string (ByteArray.mk #[98, 97, 100])]).cell? ⟨w.heap.size, 0, none⟩ = some (.string (ByteArray.mk #[98, 97, 100])) := by have := hrs.ld 0; simpa [Vc.ld] using this
     have hqs : Q (ByteArray.mk #[98, 97, 100]) (w4.setRow w.heap.size #[.string (ByteArray.mk #[98, 97, 100])]) := hst _ _ _ (hbad c r hw hc w4 x4) (mod_set _ _ _)
     simp only [odd, bodyPostD]
     refine leaves_cons (f := 51) (args := #[.pointer (some ⟨w.heap.size, 0, none⟩)]) (by simp) (enter_of Tryz.func51 (by kernel_rfl) rfl _ _) ?_
     refine (catch_odd ⟨w.heap.size, 0, none⟩ (ByteArray.mk #[]) _ _ _ hc4 hf4).mono ?_
     rintro e u' w'' ⟨rfl, rfl, rfl⟩
     rw [set_one hr4 rfl]
     simp [Leaves, settle, results, Tryz.results14, go_sem, hcs]
     exact hqs
end Go.Proofs.YtjcnjlaelhdjeaaGreatDoor
namespace Go.Proofs.YtjcnjlaelhdjeaaGreatDoor
open Go Go.Vc Go.RowKit Go.Proofs Go.Lin Go.Chk Go.Runs Go.Code
set_option linter.unusedVariables false
theorem eLoad_spec {F : Nat → Prop} {w : World} {g s o t : Nat} {M : Sm} {occ : Value} {L : List (Option Lfe)} (h : EF F w g s o t M occ L) (hW : M.T.1.l.length ≤ 1000000) (p : Po) :
  Calls Tryz.prog n_table_Table_Load #[.pointer (some ⟨t, 0, none⟩), pv p] w fun e w' => e = .returned (.int .i64 (ldE M.seed M.cap M.T.1 M.T.2 p).2) ∧ ERes F w g s o t { M with T := (ldE M.seed M.cap M.T.1 M.T.2 p).1 } occ L w' := by
 obtain ⟨Fs, hS, hp, hsub, hr⟩ := h.sim
 obtain ⟨Fw, hw, hsub2, hr2⟩ := hS.world
 refine (wfLoad_spec hw hW p).mono ?_
 rintro e w' ⟨rfl, hres⟩
 exact ⟨rfl, hr (hr2 hres)⟩
theorem table1_spec {w : World} {B ga c0 : Nat} {ws : List ByteArray} {fv : Value} (ha : AG w B ga ws) (hc : Row w c0 [fv] 157) (hne : c0 ≠ ga) (hfv : oneC fv = []) (R : Ending → World → Prop)
  (hbad : (∀ p, pPos ws ≠ some (p, [])) → ∀ u, Mod (fun i => i = ga) w u → R odd u)
  (hdo : ∀ p r, pPos ws = some (p, r) → r = [] → ∀ u, Mod (fun i => i = ga) w u → w.heap.size < u.heap.size → callV Tryz.prog fv [.agg #[.int .i64 p.1, .int .i64 p.2]] u fun e u' => ∃ (x : Int) (tx : ByteArray), e = .returned (.int .i64 x) ∧ (∀ i, w.heap.size ≤ i → i < u.heap.size → u'.heap[i]? = u.heap[i]?) ∧ u.heap.size ≤ u'.heap.size ∧
   (∀ v, Ext u' v → Itm v (.iface 168 (.int .i64 x)) tx) ∧ tx.size ≤ 1000000 ∧ ∀ v, Ext u' v → R (.returned (.string tx)) v) :
  Calls Tryz.prog n_lines_Shell_table_1 #[.pointer (some ⟨ga, 0, none⟩), .pointer (some ⟨c0, 0, none⟩)] w R := by
 apply lines_Shell_table_1.vc
 unfold lines_Shell_table_1.pre
 refine (pos_spec ha).mono ?_
 rintro e w0 ⟨m0, hp⟩
 cases hw : pPos ws with
 | none =>
   rw [hw] at hp
   subst hp
   exact hbad (fun p q => by rw [hw] at q; cases q) _ m0
 | some x =>
   obtain ⟨⟨x, z⟩, r⟩ := x
   rw [hw] at hp
   obtain ⟨rfl, ha0⟩ := hp
   refine ⟨x, z, rfl, ?_⟩
   intro w3 e3 w4 e4
   have x3 : Ext w0 w3 := by rw [e3]; exact Ext.al _ _
   have z3 : w3.heap.size = w0.heap.size + 1 := by rw [e3]; simp
   have m4 := mod_set w3 w0.heap.size #[.int .i64 x, .int .i64 z]
   rw [← e4] at m4
   have x4 : Ext w0 w4 := m4.ext x3 (fun i hi => by omega)
   have z4 : w4.heap.size = w0.heap.size + 1 := by rw [e4]; simp [z3]
   have mw4 : Mod (fun i => i = ga) w w4 := m0.trans (Mod.of_ext x4)
   refine (end_spec (ha0.ext x4)).mono ?_
   rintro e w5 ⟨e5, he⟩
   rw [e5]
   by_cases hr : r = []
   ·rw [if_pos hr] at he
    subst he
    have hcw : Row w4 c0 [fv] 157 := hc.same (mw4.same c0 hc.lt hne)
    refine ⟨rfl, rfl, fv, by rw [hcw.ld]; rfl, ?_⟩
    have h0w := m0.size
    refine callV_mono (hdo (x, z) r hw hr w4 mw4 (by omega)) ?_
    rintro e w7 ⟨xe, tx, rfl, hk, hs7, hit, hsz, hR⟩
    refine ⟨xe, rfl, hk _ h0w (by omega), ?_⟩
    intro w9 e9
    have x9 : Ext w7 w9 := by rw [e9]; exact Ext.al _ _
    have hr9 : Row w9 w7.heap.size [.iface 168 (.int .i64 xe)] 20 := by rw [e9]; exact Row.new _ [_] _
    have hrd : RdK w9 ⟨some ⟨w7.heap.size, 0, none⟩, 1, 1⟩ 1 ([.iface 168 (.int .i64 xe)].map fun x => [x]) := by
     refine ⟨rfl, fun q hq => by simp at hq; subst hq; rfl, fun i q hi j v hj => ?_⟩
     cases i with
     | succ i => simp at hi
     | zero =>
       simp at hi
       subst hi
       cases j with
       | succ j => simp at hj
       | zero =>
         simp at hj
         subst hj
         rw [padd_row, hr9.ld]
         rfl
    have hj1 : (Lib.join ([tx].map (·.data.toList)) [32]).length ≤ 140737488355328 := by
     have e := congrArg bl (join_one tx)
     have e : Lib.join ([tx].map (·.data.toList)) [32] = bl tx := e
     rw [e, bl_len]
     omega
    refine (told_spec (outs := [tx]) hrd rfl (by simp) (fun i y t hy ht => ?_) hj1).mono ?_
    ·cases i with
     | succ i => simp at hy
     | zero =>
       simp at hy ht
       subst hy
       subst ht
       exact hit w9 x9
    ·rintro _ w10 ⟨rfl, x10⟩
     refine ⟨_, rfl, x10.heap (by have := x9.size; omega), ?_⟩
     rw [join_one]
     exact hR _ (x9.tr x10)
   ·rw [if_neg hr] at he
    subst he
    exact hbad (fun p q => by rw [hw] at q; cases q; exact hr rfl) _ mw4
end Go.Proofs.YtjcnjlaelhdjeaaGreatDoor
namespace Go.Proofs.YtjcnjlaelhdjeaaGreatDoor
open Go Go.Vc Go.RowKit Go.Proofs Go.Lin Go.Chk Go.Runs Go.Code
set_option linter.unusedVariables false
theorem told_one {u v : World} {x : Value} {tx : ByteArray} (hv : v = u.alloc (.cells #[x] 20)) (hit : Itm v x tx) (hsz : tx.size ≤ 1000000) :
  Calls Tryz.prog n_lines_told #[.slice (some ⟨u.heap.size, 0, none⟩) 1 1] v fun e w' => e = .returned (.string tx) ∧ Ext v w' := by
 have hr9 : Row v u.heap.size [x] 20 := by rw [hv]; exact Row.new _ [_] _
 have hrd : RdK v ⟨some ⟨u.heap.size, 0, none⟩, 1, 1⟩ 1 ([x].map fun x => [x]) := by
  refine ⟨rfl, fun q hq => by simp at hq; subst hq; rfl, fun i q hi j v hj => ?_⟩
  cases i with
  | succ i => simp at hi
  | zero =>
    simp at hi
    subst hi
    cases j with
    | succ j => simp at hj
    | zero =>
      simp at hj
      subst hj
      rw [padd_row, hr9.ld]
      rfl
 have hj1 : (Lib.join ([tx].map (·.data.toList)) [32]).length ≤ 140737488355328 := by
  have e := congrArg bl (join_one tx)
  have e : Lib.join ([tx].map (·.data.toList)) [32] = bl tx := e
  rw [e, bl_len]
  omega
 refine (told_spec (outs := [tx]) hrd rfl (by simp) (fun i y t hy ht => ?_) hj1).mono ?_
 ·cases i with
  | succ i => simp at hy
  | zero =>
    simp at hy ht
    subst hy
    subst ht
    exact hit
 ·rintro _ w10 ⟨rfl, x10⟩
  rw [join_one]
  exact ⟨rfl, x10⟩
def cellT (b : Int) : ByteArray := if b = -1 then ByteArray.mk #[97, 119, 97, 121] else bName b
set_option maxRecDepth 100000 in
theorem shAt_spec {F : Nat → Prop} {w : World} {g s o t sh B ga : Nat} {M : Sm} {occ : Value} {L : List (Option Lfe)} {ws : List ByteArray} (h : EF F w g s o t M occ L) (hs : SHE w sh g) (ha : AG w B ga ws) (hF : ¬ F ga) (hsg : sh ≠ ga)
  (hnm : ∀ b, (bName b).size ≤ 1000000) (R : Ending → World → Prop) (hbad : (∀ p, pVec ws ≠ some (p, [])) → ∀ u, Mod (fun i => i = ga) w u → R odd u)
  (hok : ∀ c, pVec ws = some (c, []) → okC c ∧ ∀ u, Mod (fun i => i = ga) w u → R (.returned (.string (cellT (atE M.T.2 c)))) u) :
  Calls Tryz.prog n_lines_Shell_at #[.pointer (some ⟨sh, 0, none⟩), .pointer (some ⟨ga, 0, none⟩)] w R := by
 apply lines_Shell_at.vc
 unfold lines_Shell_at.pre
 refine (cell_spec ha).mono ?_
 rintro e w0 ⟨m0, hp⟩
 cases hw : pVec ws with
 | none =>
   rw [hw] at hp
   subst hp
   exact hbad (fun p q => by rw [hw] at q; cases q) _ m0
 | some x =>
   obtain ⟨⟨x, y, z⟩, r⟩ := x
   rw [hw] at hp
   obtain ⟨rfl, ha0⟩ := hp
   refine ⟨x, y, z, rfl, ?_⟩
   intro w4 e4 w5 e5
   have x4 : Ext w0 w4 := by rw [e4]; exact Ext.al _ _
   have z4 : w4.heap.size = w0.heap.size + 1 := by rw [e4]; simp
   have m5 := mod_set w4 w0.heap.size #[.int .i64 x, .int .i64 y, .int .i64 z]
   rw [← e5] at m5
   have x5 : Ext w0 w5 := m5.ext x4 (fun i hi => by omega)
   have z5 : w5.heap.size = w0.heap.size + 1 := by rw [e5]; simp [z4]
   have mw5 : Mod (fun i => i = ga) w w5 := m0.trans (Mod.of_ext x5)
   refine (end_spec (ha0.ext x5)).mono ?_
   rintro e w6 ⟨e6, he⟩
   rw [e6]
   by_cases hr : r = []
   ·rw [if_pos hr] at he
    subst he
    subst hr
    obtain ⟨hc, hR⟩ := hok _ hw
    have h5 : EF F w5 g s o t M occ L := h.same fun i hi => mw5.same i (h.lt hi) (fun q => hF (q ▸ hi))
    have hd := h5.ext (Ext.dr w5)
    have hsh : Row w5.drew sh [.pointer (some ⟨g, 0, none⟩)] tShell := (hs.row.same (mw5.same sh hs.row.lt hsg)).ext (Ext.dr w5)
    have hb : Row w5.drew w0.heap.size (clv (x, y, z)) 23 := by
     have : Row w5 w0.heap.size (clv (x, y, z)) 23 := by
      have hr4 : Row w4 w0.heap.size [.int .i64 0, .int .i64 0, .int .i64 0] 23 := by rw [e4]; exact Row.new _ [_, _, _] _
      rw [e5]; exact hr4.set [_, _, _]
     exact this.ext (Ext.dr w5)
    obtain ⟨Fs, hS, hpp, -, -⟩ := hd.sim
    obtain ⟨Fw, hW, -, -⟩ := hS.world
    refine ⟨rfl, rfl, some ⟨g, 0, none⟩, by rw [padd_row, hsh.ld]; rfl, AndL_nn.2 ⟨rfl, AndL_nn.2 ⟨rfl, some ⟨s, 0, none⟩, hpp, (sWorld_spec hS).mono ?_⟩⟩⟩
    rintro _ w9 ⟨rfl, e9⟩
    rw [e9]
    have lb : LoadL w5.drew (some ⟨w0.heap.size, 0, none⟩) 0 [.int .i64 x, .int .i64 y, .int .i64 z] := hb.loadL (o := 0) (fun j _ => by rw [Nat.zero_add])
    have ls : LoadL w5.drew (padd (some ⟨sh, 0, none⟩) 0) 0 [.pointer (some ⟨g, 0, none⟩)] := by rw [padd_row]; exact hsh.loadL (fun j _ => by simp)
    refine ⟨_, rfl, rfl, lb, ls, (wView_spec hW).mono ?_⟩
    rintro _ w11 ⟨rfl, e11⟩
    rw [e11]
    have hca : callV Tryz.prog (.func (.func n_table_Table_At) #[.pointer (some ⟨t, 0, none⟩)] #[]) [.agg #[.int .i64 x, .int .i64 y, .int .i64 z]] w5.drew fun e w'' => e = .returned (.int .i64 (atE M.T.2 (x, y, z))) ∧ Ext w5.drew w'' := hd.tl.at (c := (x, y, z)) hc
    refine ⟨_, rfl, rfl, lb, ls, ?_⟩
    refine callV_mono hca ?_
    rintro e w13 ⟨rfl, x13⟩
    have x13' : Ext w5 w13 := (Ext.dr w5).tr x13
    have s5 : w5.drew.heap.size = w5.heap.size := rfl
    have h013 : w0.heap.size < w13.heap.size := by have := x13.size; omega
    refine ⟨_, rfl, x13.heap (by omega), by rw [padd_row]; exact (hsh.ext x13).loadL (fun j _ => by simp), Br.mk (fun c1 => ?_) (fun c1 => ?_)⟩
    ·have c1 : atE M.T.2 (x, y, z) = -1 := by simpa using c1
     intro w15 e15
     have x15 : Ext w13 w15 := by rw [e15]; exact Ext.al _ _
     refine (told_one e15 (.s _) (by decide)).mono ?_
     rintro _ w16 ⟨rfl, x16⟩
     refine ⟨_, rfl, x16.heap (by have := x15.size; omega), ?_⟩
     have := hR w16 (mw5.trans (Mod.of_ext ((x13'.tr x15).tr x16)))
     unfold cellT at this
     rw [if_pos c1] at this
     exact this
    ·have c1 : atE M.T.2 (x, y, z) ≠ -1 := by simpa using c1
     refine (block_Name_spec _ w13).mono ?_
     rintro _ w18 ⟨rfl, x18⟩
     refine ⟨_, rfl, x18.heap h013, ?_⟩
     intro w20 e20
     have x20 : Ext w18 w20 := by rw [e20]; exact Ext.al _ _
     refine (told_one e20 (.s _) (hnm _)).mono ?_
     rintro _ w21 ⟨rfl, x21⟩
     refine ⟨_, rfl, x21.heap (by have := x18.size; have := x20.size; omega), ?_⟩
     have := hR w21 (mw5.trans (Mod.of_ext (((x13'.tr x18).tr x20).tr x21)))
     unfold cellT at this
     rw [if_neg c1] at this
     exact this
   ·rw [if_neg hr] at he
    subst he
    exact hbad (fun p q => by rw [hw] at q; cases q; exact hr rfl) _ mw5
end Go.Proofs.YtjcnjlaelhdjeaaGreatDoor
namespace Go.Proofs.YtjcnjlaelhdjeaaGreatDoor
open Go Go.Vc Go.RowKit Go.Proofs Go.Lin Go.Chk Go.Runs Go.Code
set_option linter.unusedVariables false
abbrev occ0 : Value := .func (.func n_sim_New_1) #[] #[]
theorem shNew_spec (w : World) : Calls Tryz.prog n_lines_New #[] w fun e w' => ∃ (sh g s o t : Nat) (F : Nat → Prop), e = .returned (.pointer (some ⟨sh, 0, none⟩)) ∧ EF F w' g s o t (M0e 1 9 200000 16) occ0 noL ∧ SHE w' sh g ∧ ¬ F sh ∧ Ext w w' ∧ (∀ i, F i → w.heap.size ≤ i) ∧ w.heap.size ≤ sh := by
 apply lines_New.vc
 unfold lines_New.pre
 refine (eNew_spec 1 9 200000 16 w).mono ?_
 rintro _ w0 ⟨g, s, o, t, F, rfl, h, x0, hF⟩
 refine ⟨_, rfl, ?_⟩
 intro w2 e2
 have x2 : Ext w0 w2 := by rw [e2]; exact Ext.al _ _
 exact ⟨w0.heap.size, g, s, o, t, F, rfl, h.ext x2, ⟨by rw [e2]; exact Row.new _ [_] _⟩, fun q => by have := h.lt q; omega, x0.tr x2, hF, x0.size⟩
end Go.Proofs.YtjcnjlaelhdjeaaGreatDoor
namespace Go.Proofs.YtjcnjlaelhdjeaaGreatDoor
open Go Go.Vc Go.RowKit Go.Proofs Go.Lin
set_option linter.unusedVariables false
set_option maxRecDepth 100000
theorem info112 : (Tryz.prog.info? 112).map (·.size) = some 2 := by kernel_rfl
theorem lies112 : liesAt Tryz.prog Tryz.prog.depth 112 (2 / Tryz.prog.cellsOf 112) 0 112 1 = true := by kernel_rfl
theorem shape_row {w : World} {g : Nat} {cs : List Value} {t : TypeId} (h : Row w g cs t) : w.shape? g = some (t, cs.length) := by
 simp [World.shape?, show w.heap[g]? = _ from h]
theorem copyCheck_spec {w : World} {b : Nat} {p : Option Addr} {v : Value} (h : Row w b [.pointer p, v] 112) (hp : p = none ∨ p = some ⟨b, 0, none⟩) :
  Calls Tryz.prog 117 #[.pointer (some ⟨b, 0, none⟩)] w fun e w' => e = .returned (.tuple #[]) ∧ Row w' b [.pointer (some ⟨b, 0, none⟩), v] 112 ∧ Mod (fun i => i = b) w w' ∧ w'.heap.size = w.heap.size := by
 have hc : w.cell? ⟨b, 0, none⟩ = some (.pointer p) := by have := h.ld 0; simpa [Vc.ld] using this
 have hf : w.frozen? ⟨b, 0, none⟩ = false := frozen_of h _
 obtain ⟨j, hj, hjs⟩ := Option.map_eq_some_iff.1 info112
 have hsh := shape_row h
 have c1 := Lib.run_to_unsafe (P := Tryz.prog) (w := w) (src := 110) (dst := 230) ⟨b, 0, none⟩ Tryz.underlying110 Tryz.underlying230 hj (by rw [hjs]; decide) hsh (by simp)
 have c2 : (callFunc 180 #[.pointer (some ⟨b, 0, none⟩)]).run Tryz.prog w = _ := run_callFunc_extern Tryz.func180 (by kernel_rfl) (by kernel_rfl) (by kernel_rfl) (e := Extern.AbiNoEscape.same) (by kernel_rfl) _ w
 have c3 := Lib.run_from_unsafe (P := Tryz.prog) (w := w) (src := 230) (dst := 110) ⟨b, 0, none⟩ Tryz.underlying230 Tryz.underlying110 hj hsh lies112
 have hst : w.setCell ⟨b, 0, none⟩ (.pointer (some ⟨b, 0, none⟩)) = w.setRow b #[.pointer (some ⟨b, 0, none⟩), v] := by
  have h2 := h.setP (o := 0) (vs := [.pointer (some ⟨b, 0, none⟩)]) (by simp) (fun u hu => by simp at hu; subst hu; rfl)
  exact h2
 go_enter Tryz.func117, Tryz.ntmps117
 refine wp_seq (wp_region ?_)
 simp [wpOps, go_sem, Act.put, Act.eval, Exit.then, Oper.wp, Oper.upon, hc]
 repeat refine Or.inl ?_
 rcases hp with rfl | rfl
 ·refine wp_cond_true (by simp [Act.eval]) ?_
  refine wp_region ?_
  simp [wpOps, go_sem, Act.put, Act.eval, Exit.then, Oper.wp, Oper.upon, c1, c2, c3, Lib.run_noEscape, hc, hf, storeCells]
  repeat refine Or.inl ?_
  go_end0
  refine ⟨rfl, ?_⟩
  rw [hst]
  exact ⟨h.set [_, _], mod_set _ _ _, by simp⟩
 ·refine wp_cond_false (by simp [Act.eval]) ?_
  refine wp_seq (wp_region ?_)
  simp [wpOps, go_sem, Act.put, Act.eval, Exit.then, Oper.wp, Oper.upon, hc]
  repeat refine Or.inl ?_
  have cn : (binOp .neq 110 (.pointer (some ⟨b, 0, none⟩)) (.pointer (some ⟨b, 0, none⟩))).run Tryz.prog w = .ok (.bool false) w := by
   have he : (Op.equal 110 (.pointer (some ⟨b, 0, none⟩)) (.pointer (some ⟨b, 0, none⟩))).run Tryz.prog w = .ok true w := by
    unfold Op.equal Op.maxDepth
    rw [show (10000 : Nat) = 9999 + 1 from rfl, Op.equalIn, Sem.run_bind, underlying_run, Tryz.underlying110]
    simp [sameAddr, sizeAt, go_sem]
   simp [binOp, run_underlying Tryz.underlying110, go_sem]
   rw [he]
   rfl
  simp [cn]
  repeat refine Or.inl ?_
  refine wp_cond_false (by simp [Act.eval]) ?_
  refine wp_skip ?_
  go_end0
  exact ⟨rfl, h, Mod.refl _ _, rfl⟩
end Go.Proofs.YtjcnjlaelhdjeaaGreatDoor
