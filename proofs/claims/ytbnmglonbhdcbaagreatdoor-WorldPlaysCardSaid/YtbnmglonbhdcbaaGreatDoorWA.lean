import Derived.Test.YtbnmglonbhdcbaaGreatDoorRL
import Derived.Test.YtbnmglonbhdcbaaGreatDoorGW
set_option linter.all false
namespace Go.Proofs.YtbnmglonbhdcbaaGreatDoor
open Go Go.Vc Go.RowKit Go.Proofs Go.Chk Go.Runs Go.Code
abbrev tWorld : TypeId := 126
abbrev tChg : TypeId := 63
abbrev Cg := Ce × Int
abbrev cgv (x : Cg) : List Value := [.int .i64 x.1.1, .int .i64 x.1.2.1, .int .i64 x.1.2.2, .int .i64 x.2]
def WF (F : Nat → Prop) (w : World) (o t : Nat) (seed limit : Int) (T : Tb) (ch : List Cg) : Prop :=
 ∃ F1 sc, TF F1 w t seed limit T ∧ Row w o [.pointer (some ⟨t, 0, none⟩), .slice sc.a sc.n sc.c] tWorld ∧ OwnK 0 tChg 4 w sc (ch.map cgv) ∧ F = fun i => F1 i ∨ i = o ∨ sc.blk = some i
theorem WF.lt {F : Nat → Prop} {w : World} {o t : Nat} {seed limit : Int} {T : Tb} {ch : List Cg} (h : WF F w o t seed limit T ch) {i : Nat} (hi : F i) : i < w.heap.size := by
 obtain ⟨F1, sc, h1, h2, h3, rfl⟩ := h
 rcases hi with hi | rfl | hi
 ·exact h1.lt hi
 ·exact h2.lt
 ·exact (h3.own.lt hi).2
theorem WF.same {F : Nat → Prop} {w w' : World} {o t : Nat} {seed limit : Int} {T : Tb} {ch : List Cg} (h : WF F w o t seed limit T ch) (hs : ∀ i, F i → w'.heap[i]? = w.heap[i]?) : WF F w' o t seed limit T ch := by
 obtain ⟨F1, sc, h1, h2, h3, rfl⟩ := h
 exact ⟨F1, sc, h1.same fun i hi => hs i (.inl hi), h2.same (hs o (.inr (.inl rfl))), OwnK.keep h3 fun b hb => hs b (.inr (.inr hb)), rfl⟩
theorem WF.ext {F : Nat → Prop} {w w' : World} {o t : Nat} {seed limit : Int} {T : Tb} {ch : List Cg} (h : WF F w o t seed limit T ch) (x : Ext w w') : WF F w' o t seed limit T ch := h.same fun _ hi => x.heap (h.lt hi)
theorem WF.no_row {F : Nat → Prop} {w : World} {o t : Nat} {seed limit : Int} {T : Tb} {ch : List Cg} (h : WF F w o t seed limit T ch) {j : Nat} {cs : List Value} {τ : TypeId} (hr : Row w j cs τ) (hτ : offT τ) (hw : τ ≠ tWorld) (hc : τ ≠ tChg) : ¬ F j := by
 obtain ⟨F1, sc, h1, h2, h3, rfl⟩ := h
 rintro (hi | rfl | hi)
 ·exact h1.no_row hr hτ hi
 ·exact hr.ne h2 hw rfl
 ·obtain ⟨cs', hr'⟩ := own_row h3 (by decide) hi
  exact hr.ne hr' hc rfl
theorem WF.len {F : Nat → Prop} {w : World} {o t : Nat} {seed limit : Int} {T : Tb} {ch : List Cg} (h : WF F w o t seed limit T ch) : (T.2.length : Int) ≤ limit ∧ 1 ≤ limit ∧ limit ≤ 16 := by
 obtain ⟨F1, sc, h1, h2, h3, rfl⟩ := h
 exact h1.len
abbrev WRes (F : Nat → Prop) (w : World) (o t : Nat) (seed limit : Int) (T : Tb) (ch : List Cg) (w' : World) : Prop := ∃ F', WF F' w' o t seed limit T ch ∧ Turned F F' w w'
theorem WF.table {F : Nat → Prop} {w : World} {o t : Nat} {seed limit : Int} {T : Tb} {ch : List Cg} (h : WF F w o t seed limit T ch) : ∃ F1, TF F1 w t seed limit T ∧ (∀ i, F1 i → F i) ∧ ∀ {w' : World} {T' : Tb}, TRes F1 w t seed limit T' w' → WRes F w o t seed limit T' ch w' := by
 obtain ⟨F1, sc, h1, h2, h3, rfl⟩ := h
 refine ⟨F1, h1, fun i hi => .inl hi, ?_⟩
 rintro w' T' ⟨F', h', ht⟩
 have n2 := h1.no_row h2 (by decide)
 have n3 : ∀ b, sc.blk = some b → ¬ F1 b := fun b hb => by
  obtain ⟨cs', hr'⟩ := own_row h3 (by decide) hb
  exact h1.no_row hr' (by decide)
 refine ⟨_, ⟨F', sc, h', ht.mod.row h2 n2, ht.mod.ownK h3 n3, rfl⟩, ht.mod.mono fun i _ hi => .inl hi, fun i hi => ?_⟩
 rcases hi with hi | hi | hi
 ·exact (ht.sub i hi).imp .inl id
 ·exact .inl (.inr (.inl hi))
 ·exact .inl (.inr (.inr hi))
theorem wNew_spec (seed limit room : Int) (w : World) : Calls Tryz.prog n_world_New #[.int .i64 seed, .int .i64 limit, .int .i64 room] w fun e w' => ∃ o t F, e = .returned (.pointer (some ⟨o, 0, none⟩)) ∧ WF F w' o t seed (min (max limit 1) 16) (dk0 room, []) [] ∧ Ext w w' ∧ ∀ i, F i → w.heap.size ≤ i := by
 apply world_New.vc
 refine (tfNew_spec seed limit room w).mono ?_
 rintro e w0 ⟨t, F1, rfl, h0, x0, f0⟩
 refine ⟨_, rfl, fun w2 e2 => ⟨w0.heap.size, t, _, rfl, ⟨F1, ⟨none, 0, 0⟩, h0.ext ((Ext.rfl' _).of_alloc e2), ?_, OwnK.nil, rfl⟩, x0.of_alloc e2, fun i hi => ?_⟩⟩
 ·rw [e2]; exact Row.new w0 [_, _] _
 ·rcases hi with hi | hi | hi
  ·exact f0 i hi
  ·have := x0.size; omega
  ·cases hi
theorem wTable_spec {F : Nat → Prop} {w : World} {o t : Nat} {seed limit : Int} {T : Tb} {ch : List Cg} (h : WF F w o t seed limit T ch) : Calls Tryz.prog n_world_World_Table #[.pointer (some ⟨o, 0, none⟩)] w fun e w' => e = .returned (.pointer (some ⟨t, 0, none⟩)) ∧ w' = w := by
 obtain ⟨F1, sc, h1, h2, h3, rfl⟩ := h
 apply world_World_Table.vc
 exact ⟨_, h2.at 0 rfl, rfl, rfl⟩
theorem wView_spec {F : Nat → Prop} {w : World} {o t : Nat} {seed limit : Int} {T : Tb} {ch : List Cg} (h : WF F w o t seed limit T ch) : Calls Tryz.prog n_world_World_View #[.pointer (some ⟨o, 0, none⟩)] w fun e w' => e = .returned (.func (.func n_table_Table_At) #[.pointer (some ⟨t, 0, none⟩)] #[]) ∧ w' = w := by
 obtain ⟨F1, sc, h1, h2, h3, rfl⟩ := h
 apply world_World_View.vc
 exact ⟨_, h2.at 0 rfl, rfl, rfl⟩
def wsC (l : List En) (ch : List Cg) (c : Ce) (b : Int) : List Cg := if (setE l c b).2 = 0 ∧ atE l c ≠ b then ch ++ [(c, b)] else ch
theorem one_4 (a b c d : Int) : One [Value.int .i64 a, .int .i64 b, .int .i64 c, .int .i64 d] := by
 intro v hv
 simp at hv
 rcases hv with rfl | rfl | rfl | rfl <;> rfl
theorem wSet_spec {F : Nat → Prop} {w : World} {o t : Nat} {seed limit : Int} {T : Tb} {ch : List Cg} (h : WF F w o t seed limit T ch) (c : Ce) (hc : okC c) (b : Int) (hn : ch.length ≤ 1000000) :
  Calls Tryz.prog n_world_World_Set #[.pointer (some ⟨o, 0, none⟩), cev c, .int .i64 b] w fun e w' => e = .returned (.int .i64 (setE T.2 c b).2) ∧ WRes F w o t seed limit (T.1, (setE T.2 c b).1) (wsC T.2 ch c b) w' := by
 have hF := fun {i} => h.lt (i := i)
 have hh := h
 obtain ⟨F1, sc, h1, h2, h3, rfl⟩ := h
 apply world_World_Set.vc
 intro w0 e0
 have z0 : w0.heap.size = w.heap.size + 1 := by rw [e0]; simp
 have x0 : Ext w w0.drew := ((Ext.rfl' w).of_alloc e0).drew
 clear e0
 have zd : w0.drew.heap.size = w0.heap.size := rfl
 refine ⟨_, (h2.ext x0).at 0 rfl, (tfAt_spec (h1.ext x0) c hc).mono ?_⟩
 rintro e w2 ⟨rfl, x2⟩
 have z2 := x2.size
 have x02 := (x0.tr x2).drew
 have zd2 : w2.drew.heap.size = w2.heap.size := rfl
 refine ⟨_, rfl, x2.heap (by omega), _, (h2.ext x02).at 0 rfl, (tfSet_spec (h1.ext x02) c hc b).mono ?_⟩
 rintro e w5 ⟨rfl, hT⟩
 obtain ⟨F', hF', ht'⟩ := hT
 have z5 := ht'.mod.size
 have n2 := (h1.ext x02).no_row (h2.ext x02) (by decide)
 have n3 : ∀ b, sc.blk = some b → ¬ F1 b := fun b hb => by
  obtain ⟨cs', hr'⟩ := own_row (h3.ext x02) (by decide) hb
  exact (h1.ext x02).no_row hr' (by decide)
 have h2' := ht'.mod.row (h2.ext x02) n2
 have h3' : OwnK 0 tChg 4 w5 sc (ch.map cgv) := ht'.mod.ownK (h3.ext x02) n3
 have nb : ¬ F1 w.heap.size := fun hf => by have := hF (.inl hf); omega
 have tt : Turned (fun i => F1 i ∨ i = o ∨ sc.blk = some i) (fun i => F' i ∨ i = o ∨ sc.blk = some i) w w5 := by
  refine (Turned.of_ext x02).trans ⟨ht'.mod.mono fun i _ hi => .inl hi, fun i hi => ?_⟩
  rcases hi with hi | hi | hi
  ·exact (ht'.sub i hi).imp .inl id
  ·exact .inl (.inr (.inl hi))
  ·exact .inl (.inr (.inr hi))
 refine ⟨_, rfl, ht'.mod.same _ (by omega) nb, Br.mk (fun hb => Br.mk (fun hb2 => ?_) (fun hb2 => ?_)) (fun hb => ?_)⟩
 ·simp only [beq_iff_eq] at hb
  simp only [bne_iff_ne] at hb2
  have ec : wsC T.2 ch c b = ch ++ [(c, b)] := by unfold wsC; rw [if_pos ⟨hb, hb2⟩]
  rw [ec]
  have h2d := h2'.ext (Ext.dr w5)
  have hsn : sc.n = ch.length := by have := (h3.rd (show 0 < 4 by decide)).n; rwa [List.length_map] at this
  refine ⟨sc, h2d.at 1 rfl, fun w8 e8 => ?_⟩
  subst e8
  obtain ⟨hp, hres⟩ := (h3'.ext (Ext.dr w5)).app1 (bytes := 32) (news := cgv (c, b)) (.cells #[.int .i64 c.1, .int .i64 c.2.1, .int .i64 c.2.2, .int .i64 b] tChg) (Nat.zero_le _) rfl (one_4 _ _ _ _) (by omega) (by omega)
  refine ⟨hp, fun s9 w10 hr => ?_⟩
  obtain ⟨f1, ho10, hn10, xb, hk10, hblk⟩ := hres s9 w10 hr
  have zd5 : w5.drew.heap.size = w5.heap.size := rfl
  have hol := h2.lt
  have hscb : ∀ b, sc.blk = some b → b < w.heap.size := fun b hb => (h3.own.lt hb).2
  have m10 : Mod (fun j => sc.blk = some j) w5 w10 := (Mod.of_ext (Ext.dr w5)).trans (Mod.of_app xb hk10)
  have no : ¬ sc.blk = some o := fun e => by
   obtain ⟨cs', hr'⟩ := own_row h3 (by decide) e
   exact hr'.ne h2 (by decide) rfl
  have h210 := m10.row h2' no
  obtain ⟨p1, p2⟩ := h210.put1 (j := 1) (v := .slice s9.a s9.n s9.c) (by simp) rfl
  have z10 := m10.size
  have pb : ∀ j : Nat, o < j → pblk (padd (some ⟨o, 0, none⟩) 1) ≠ some j := fun j hj e => by
   rw [pblk_padd] at e
   have : o = j := by simpa [pblk] using e
   omega
  refine ⟨(m10.same w.heap.size (by omega) (fun e => by have := hscb _ e; omega)).trans ((Ext.al w5.drew _).heap (show w.heap.size < w5.heap.size by omega)).symm, f1, ⟨rfl, p1⟩, pb _ (by omega), pb _ (show o < w5.heap.size by omega), fun w11 e11 => ⟨rfl, ?_⟩⟩
  obtain ⟨q1, q2⟩ := p2 w11 e11
  have ho9 : ∀ b, s9.blk = some b → b ≠ o := fun b hb => by
   obtain ⟨cs', hr'⟩ := own_row ho10 (by decide) hb
   exact hr'.ne h210 (by decide)
  have m11 : Mod (fun j => j = o ∨ sc.blk = some j) w5 w11 := (m10.mono fun i _ hi => .inr hi).trans (q2.mono fun i _ hi => .inl hi)
  have hF11 : TF F' w11 t seed limit (T.1, (setE T.2 c b).1) := hF'.keep m11 fun i hi e => by
   rcases e with e | e
   ·exact hF'.no_row h2' (by decide) (e ▸ hi)
   ·obtain ⟨cs', hr'⟩ := own_row h3' (by decide) e
    exact hF'.no_row hr' (by decide) hi
  refine ⟨_, ⟨F', s9, hF11, q1, ?_, rfl⟩, tt.trans ⟨m11.mono fun i _ hi => .inr hi, fun i hi => ?_⟩⟩
  ·rw [List.map_append]
   exact q2.ownK ho10 ho9
  ·rcases hi with hi | hi | hi
   ·exact .inl (.inl hi)
   ·exact .inl (.inr (.inl hi))
   ·rcases hblk with e | e
    ·exact .inl (.inr (.inr (by rw [← e]; exact hi)))
    ·rw [e] at hi; cases hi; exact .inr (show w5.heap.size ≤ w5.heap.size + 1 by omega)
 ·simp only [bne_eq_false_iff_eq] at hb2
  have ec : wsC T.2 ch c b = ch := by unfold wsC; rw [if_neg fun h => h.2 hb2]
  rw [ec]
  exact ⟨rfl, _, ⟨F', sc, hF', h2', h3', rfl⟩, tt⟩
 ·simp only [beq_eq_false_iff_ne] at hb
  have ec : wsC T.2 ch c b = ch := by unfold wsC; rw [if_neg fun h => hb h.1]
  rw [ec]
  exact ⟨rfl, _, ⟨F', sc, hF', h2', h3', rfl⟩, tt⟩
def swL (l : List En) (a b : Ce) : List En := if atE l a = -1 ∨ atE l b = -1 ∨ ¬ inY a ∨ ¬ inY b then l else (setE (setE l a (atE l b)).1 b (atE l a)).1
def swK (l : List En) (a b : Ce) : Int := if atE l a = -1 ∨ atE l b = -1 then 11 else if ¬ inY a ∨ ¬ inY b then 5 else (setE (setE l a (atE l b)).1 b (atE l a)).2
def swC (l : List En) (ch : List Cg) (a b : Ce) : List Cg := if atE l a = -1 ∨ atE l b = -1 ∨ ¬ inY a ∨ ¬ inY b then ch else wsC (setE l a (atE l b)).1 (wsC l ch a (atE l b)) b (atE l a)
theorem wsC_len (l : List En) (ch : List Cg) (c : Ce) (b : Int) : (wsC l ch c b).length ≤ ch.length + 1 := by
 unfold wsC
 split
 ·simp
 ·omega
theorem wSwap_spec {F : Nat → Prop} {w : World} {o t : Nat} {seed limit : Int} {T : Tb} {ch : List Cg} (h : WF F w o t seed limit T ch) (a b : Ce) (ha : okC a) (hb : okC b) (hn : ch.length ≤ 900000) :
  Calls Tryz.prog n_world_World_Swap #[.pointer (some ⟨o, 0, none⟩), cev a, cev b] w fun e w' => e = .returned (.int .i64 (swK T.2 a b)) ∧ WRes F w o t seed limit (T.1, swL T.2 a b) (swC T.2 ch a b) w' := by
 apply world_World_Swap.vc
 intro w0 e0 w1 e1
 have z0 : w0.heap.size = w.heap.size + 1 := by rw [e0]; simp
 have z1 : w1.heap.size = w.heap.size + 2 := by rw [e1]; simp [z0]
 have x01 : Ext w w1 := ((Ext.rfl' w).of_alloc e0).of_alloc e1
 have hbb : Row w1 w0.heap.size [.int .i64 b.1, .int .i64 b.2.1, .int .i64 b.2.2] tCe := by rw [e1]; exact Row.new w0 [_, _, _] _
 clear e0 e1
 have x1 : Ext w w1.drew := x01.drew
 have zd : w1.drew.heap.size = w1.heap.size := rfl
 obtain ⟨F1, sc, hT, hR, hO, rfl⟩ := id h
 have hR1 := hR.ext x1
 refine ⟨_, hR1.at 0 rfl, _, hR1.at 0 rfl, (tfAt_spec (hT.ext x1) a ha).mono ?_⟩
 rintro e w4 ⟨rfl, x4⟩
 have z4 := x4.size
 have x14 := x1.tr x4
 refine ⟨_, rfl, x4.heap (by omega), x4.heap (by omega), (hbb.ext ((Ext.dr _).tr x4)).loadL (fun j hj => by rw [Nat.zero_add]), loadL1 ((hR.ext x14).at 0 rfl), (tfAt_spec (hT.ext x14) b hb).mono ?_⟩
 rintro e w6 ⟨rfl, x6⟩
 have z6 := x6.size
 refine ⟨_, rfl, x6.heap (by omega), x6.heap (by omega), (cIndex_spec a w6).mono ?_⟩
 rintro e w8 ⟨⟨i1, b1, rfl, h1⟩, x8⟩
 have z8 := x8.size
 refine ⟨_, _, rfl, x8.heap (by omega), x8.heap (by omega), (cIndex_spec b w8).mono ?_⟩
 rintro e w11 ⟨⟨i2, b2, rfl, h2⟩, x11⟩
 have z11 := x11.size
 have xx : Ext w w11 := x14.tr (x6.tr (x8.tr x11))
 have hy1 : inY a ↔ b1 = true := by rcases h1 with ⟨q, h, -⟩ | ⟨q, h, -⟩ <;> simp [q, h]
 have hy2 : inY b ↔ b2 = true := by rcases h2 with ⟨q, h, -⟩ | ⟨q, h, -⟩ <;> simp [q, h]
 have stay : WRes _ w o t seed limit T ch w11 := ⟨_, h.ext xx, Turned.of_ext xx⟩
 have off : ∀ (c1 : swK T.2 a b = 11 ∨ swK T.2 a b = 5), True := fun _ => trivial
 refine ⟨_, _, rfl, x11.heap (by omega), x11.heap (by omega), Br.mk (fun c1 => ?_) (fun c1 => Br.mk (fun c2 => ?_) (fun c2 => Br.mk (fun c3 => ?_) (fun c3 => Br.mk (fun c4 => ?_) (fun c4 => ?_))))⟩
 ·simp only [beq_iff_eq] at c1
  unfold swK swL swC
  rw [if_pos (.inl c1), if_pos (.inl c1), if_pos (.inl c1)]
  exact ⟨rfl, stay⟩
 ·simp only [beq_iff_eq] at c2
  unfold swK swL swC
  rw [if_pos (.inr c2), if_pos (.inr (.inl c2)), if_pos (.inr (.inl c2))]
  exact ⟨rfl, stay⟩
 all_goals
  simp only [beq_eq_false_iff_ne] at c1 c2
  have n12 : ¬ (atE T.2 a = -1 ∨ atE T.2 b = -1) := fun h => h.elim c1 c2
 ·have ny : ¬ inY a := by rw [hy1]; simpa using c3
  unfold swK swL swC
  rw [if_neg n12, if_pos (.inl ny), if_pos (.inr (.inr (.inl ny))), if_pos (.inr (.inr (.inl ny)))]
  exact ⟨rfl, stay⟩
 ·have ny : ¬ inY b := by rw [hy2]; simpa using c4
  unfold swK swL swC
  rw [if_neg n12, if_pos (.inr ny), if_pos (.inr (.inr (.inr ny))), if_pos (.inr (.inr (.inr ny)))]
  exact ⟨rfl, stay⟩
 ·have ya : inY a := by rw [hy1]; simpa using c3
  have yb : inY b := by rw [hy2]; simpa using c4
  unfold swK swL swC
  have n4 : ¬ (atE T.2 a = -1 ∨ atE T.2 b = -1 ∨ ¬ inY a ∨ ¬ inY b) := by
   rintro (h | h | h | h)
   ·exact c1 h
   ·exact c2 h
   ·exact h ya
   ·exact h yb
  rw [if_neg n12, if_neg (fun h => h.elim (fun h => h ya) (fun h => h yb)), if_neg n4, if_neg n4]
  refine (wSet_spec (h.ext xx) a ha _ (by omega)).mono ?_
  rintro e w14 ⟨rfl, F14, hw14, t14⟩
  have z14 := t14.mod.size
  have hF := fun {i} (hi : F1 i ∨ i = o ∨ sc.blk = some i) => h.lt (i := i) hi
  have nb : ∀ j, w.heap.size ≤ j → ¬ (F1 j ∨ j = o ∨ sc.blk = some j) := fun j hj hf => by have := hF hf; omega
  have nb' : ∀ j, w.heap.size ≤ j → j < w11.heap.size → ¬ F14 j := fun j hj hj2 hf => by
   rcases t14.sub j hf with hf | hf
   ·exact nb j hj hf
   ·omega
  have hl1 := wsC_len T.2 ch a (atE T.2 b)
  refine ⟨_, rfl, t14.mod.same _ (by omega) (nb _ (by omega)), t14.mod.same _ (by omega) (nb _ (by omega)), (wSet_spec hw14 b hb _ (by omega)).mono ?_⟩
  rintro e w16 ⟨rfl, F16, hw16, t16⟩
  refine ⟨_, rfl, t16.mod.same _ (by omega) (nb' _ (by omega) (by omega)), t16.mod.same _ (by omega) (nb' _ (by omega) (by omega)), rfl, F16, hw16, (Turned.of_ext xx).trans (t14.trans t16)⟩
def topN (l : List En) (x z : Int) : Nat → Int
 | 0 => -1
 | y + 1 => if atE l (x, ((y : Nat) : Int), z) = -1 then -2 else if atE l (x, ((y : Nat) : Int), z) = 0 then topN l x z y else y
theorem wTop_spec {F : Nat → Prop} {w : World} {o t : Nat} {seed limit : Int} {T : Tb} {ch : List Cg} (h : WF F w o t seed limit T ch) (x z : Int) (hx : inI x) (hz : inI z) :
  Calls Tryz.prog n_world_World_Top #[.pointer (some ⟨o, 0, none⟩), .int .i64 x, .int .i64 z] w fun e w' => e = .returned (.int .i64 (topN T.2 x z 32)) ∧ Ext w w' := by
 obtain ⟨F1, sc, hT, hR, hO, rfl⟩ := id h
 apply world_World_Top.vc
 refine ⟨fun n y w' => y + 1 = n ∧ y ≤ 31 ∧ Ext w w' ∧ topN T.2 x z 32 = topN T.2 x z n, ⟨32, by omega, by omega, Ext.rfl' _, rfl⟩, ?_⟩
 rintro n us y w4 ⟨hy, hy31, x4, he⟩
 refine Br.mk (fun c => ?_) (fun c => ?_)
 ·simp only [decide_eq_true_eq] at c
  obtain ⟨k, rfl⟩ : ∃ k : Nat, n = k + 1 := ⟨n - 1, by omega⟩
  have hyk : y = (k : Nat) := by omega
  subst hyk
  refine ⟨_, (hR.ext x4).at 0 rfl, (tfAt_spec (hT.ext x4) (x, (k : Int), z) ⟨hx, (show inI (k : Int) by unfold inI; omega), hz⟩).mono ?_⟩
  rintro e w7 ⟨rfl, x7⟩
  refine ⟨_, rfl, Br.mk (fun c1 => ?_) (fun c1 => Br.mk (fun c2 => ?_) (fun c2 => ?_))⟩
  ·simp only [beq_iff_eq] at c1
   refine ⟨?_, x4.tr x7⟩
   rw [he]; unfold topN
   rw [if_pos c1]
  ·simp only [beq_eq_false_iff_ne] at c1
   simp only [beq_iff_eq] at c2
   have wr : IntKind.wrap .i64 ((k : Int) - 1) = (k : Int) - 1 := wrap_in (by unfold inI; omega)
   refine ⟨k, by omega, ?_⟩
   rw [wr]
   refine ⟨by omega, by omega, x4.tr x7, ?_⟩
   rw [he]
   show topN T.2 x z (k + 1) = _
   rw [topN, if_neg c1, if_pos c2]
  ·simp only [beq_eq_false_iff_ne] at c1 c2
   refine ⟨?_, x4.tr x7⟩
   rw [he]; unfold topN
   rw [if_neg c1, if_neg c2]
 ·simp only [decide_eq_false_iff_not] at c
  have : n = 0 := by omega
  subst this
  exact ⟨by rw [he]; rfl, x4⟩
abbrev rQ (q : Po) : List Value := [.int .i64 q.1, .int .i64 q.2]
def besideK (p : Po) : List Po := [p, (p.1 - 1, p.2), (p.1 + 1, p.2), (p.1, p.2 - 1), (p.1, p.2 + 1)]
theorem cBeside_spec (p : Po) (hp : okP p) (w : World) : Calls Tryz.prog n_cell_Beside #[pv p] w fun e w' => e = .returned (.agg #[.int .i64 p.1, .int .i64 p.2, .int .i64 (p.1 - 1), .int .i64 p.2, .int .i64 (p.1 + 1), .int .i64 p.2, .int .i64 p.1, .int .i64 (p.2 - 1), .int .i64 p.1, .int .i64 (p.2 + 1)]) ∧ Ext w w' := by
 apply cell_Beside.vc
 obtain ⟨⟨p1, p2⟩, p3, p4⟩ := hp
 have q1 : IntKind.wrap .i64 (p.1 - 1) = p.1 - 1 := wrap_in (by unfold inI; omega)
 have q2 : IntKind.wrap .i64 (p.1 + 1) = p.1 + 1 := wrap_in (by unfold inI; omega)
 have q3 : IntKind.wrap .i64 (p.2 - 1) = p.2 - 1 := wrap_in (by unfold inI; omega)
 have q4 : IntKind.wrap .i64 (p.2 + 1) = p.2 + 1 := wrap_in (by unfold inI; omega)
 unfold cell_Beside.pre
 rw [q1, q2, q3, q4]
 intro w0 e0 w1 e1
 have z0 : w0.heap.size = w.heap.size + 1 := by rw [e0]; simp
 have x1 : Ext w w1 := ((Ext.rfl' w).of_alloc e0).of_alloc e1
 have hr : Row w1 w0.heap.size [.int .i64 0, .int .i64 0, .int .i64 0, .int .i64 0, .int .i64 0, .int .i64 0, .int .i64 0, .int .i64 0, .int .i64 0, .int .i64 0] 133 := by rw [e1]; exact Row.new w0 [_, _, _, _, _, _, _, _, _, _] _
 refine ⟨⟨rfl, hr.wr (by simp)⟩, fun e => by
  have : w0.heap.size = w.heap.size := by simpa [pblk] using e
  omega, fun w2 e2 => ?_⟩
 have h1 : One [Value.int .i64 p.1, .int .i64 p.2, .int .i64 (p.1 - 1), .int .i64 p.2, .int .i64 (p.1 + 1), .int .i64 p.2, .int .i64 p.1, .int .i64 (p.2 - 1), .int .i64 p.1, .int .i64 (p.2 + 1)] := by
  intro v hv
  simp only [List.mem_cons, List.not_mem_nil, or_false] at hv
  rcases hv with rfl | rfl | rfl | rfl | rfl | rfl | rfl | rfl | rfl | rfl <;> rfl
 rw [hr.setP (by simp) h1] at e2
 have hr2 : Row w2 w0.heap.size [.int .i64 p.1, .int .i64 p.2, .int .i64 (p.1 - 1), .int .i64 p.2, .int .i64 (p.1 + 1), .int .i64 p.2, .int .i64 p.1, .int .i64 (p.2 - 1), .int .i64 p.1, .int .i64 (p.2 + 1)] 133 := by rw [e2]; exact hr.set _
 exact ⟨_, _, _, _, _, _, _, _, _, _, hr2.loadL (fun j hj => by rw [Nat.zero_add]), rfl, x1.of_setRow e2 (by omega)⟩
theorem posIndex_spec (s : Sl) (ps : List Po) (p : Po) (w : World) (hs : RdK w s 2 (ps.map rQ)) (hn : ps.length ≤ 1000) :
  Calls Tryz.prog n_slices_Index_Pos #[.slice s.a s.n s.c, pv p] w fun e w' => (∃ r : Int, e = .returned (.int .i64 r) ∧ (0 ≤ r ↔ p ∈ ps)) ∧ Ext w w' := by
 apply slices_Index_Pos.vc
 have hsn := hs.n
 rw [List.length_map] at hsn
 intro w0 e0
 have x0 : Ext w w0 := (Ext.rfl' w).of_alloc e0
 refine ⟨fun n x w' => ∃ j : Nat, x = j ∧ j + n = ps.length ∧ Ext w w' ∧ p ∉ ps.take j, ⟨ps.length, rfl, 0, rfl, by omega, x0, by simp⟩, ?_⟩
 rintro n us x w5 ⟨j, rfl, hj, x5, hnp⟩
 refine Br.mk (fun hb => ?_) (fun hb => ?_)
 ·simp only [decide_eq_true_eq] at hb
  obtain ⟨y, hy⟩ := get_lt (l := ps) (i := j) (by omega)
  have hrd := hs.ext (x5.tr (Ext.dr _))
  refine ⟨hs.inB (i := (j : Int)) (by decide) (by omega) hb, y.1, y.2, hrd.loadL (i := j) (r := rQ y) (by rw [List.getElem?_map, hy]; rfl), Br.mk (fun h1 => ?_) (fun h1 => ?_)⟩
  ·simp only [Bool.and_eq_true, beq_iff_eq] at h1
   have : p = y := Prod.ext h1.1 h1.2
   exact ⟨⟨_, rfl, fun _ => by rw [this]; exact List.mem_of_getElem? hy, fun _ => by omega⟩, x5.tr (Ext.dr _)⟩
  ·have wk : IntKind.wrap .i64 ((j : Int) + 1) = ((j + 1 : Nat) : Int) := by rw [wrap_in (by unfold inI; omega)]; omega
   refine ⟨n - 1, by omega, rfl, j + 1, wk, by omega, x5.tr (Ext.dr _), ?_⟩
   rw [List.take_add_one, hy]
   intro hm
   rcases List.mem_append.1 hm with hm | hm
   ·exact hnp hm
   ·simp only [Option.toList_some, List.mem_singleton] at hm
    subst hm
    simp at h1
 ·simp only [decide_eq_false_iff_not] at hb
  rw [List.take_of_length_le (by omega)] at hnp
  exact ⟨⟨-1, rfl, fun h => by omega, fun h => absurd h hnp⟩, x5⟩
theorem posContains_spec (s : Sl) (ps : List Po) (p : Po) (w : World) (hs : RdK w s 2 (ps.map rQ)) (hn : ps.length ≤ 1000) :
  Calls Tryz.prog n_slices_Contains_Pos #[.slice s.a s.n s.c, pv p] w fun e w' => e = .returned (.bool (decide (p ∈ ps))) ∧ Ext w w' := by
 apply slices_Contains_Pos.vc
 intro w0 e0
 have z0 : w0.heap.size = w.heap.size + 1 := by rw [e0]; simp
 have x0 : Ext w w0 := (Ext.rfl' w).of_alloc e0
 refine (posIndex_spec s ps p w0 (hs.ext x0) hn).mono ?_
 rintro e w1 ⟨⟨r, rfl, hr⟩, x1⟩
 refine ⟨r, rfl, x1.heap (by omega), ?_, x0.tr x1⟩
 have : decide (r ≥ 0) = decide (p ∈ ps) := by rw [decide_eq_decide]; exact hr
 rw [this]
theorem pos_okP {c : Ce} (hc : -1000000000 ≤ c.1 ∧ c.1 ≤ 1000000000) (hz : -1000000000 ≤ c.2.2 ∧ c.2.2 ≤ 1000000000) : okP (pos c) := by
 unfold okP pos
 simp only
 omega
def readyE (l : List En) (c : Ce) : Bool := (besideK (pos c)).all fun q => decide (q ∈ l.map (·.1))
theorem wReady_spec {F : Nat → Prop} {w : World} {o t : Nat} {seed limit : Int} {T : Tb} {ch : List Cg} (h : WF F w o t seed limit T ch) (c : Ce) (hc : okC c) (hp : okP (pos c)) :
  Calls Tryz.prog n_world_World_Ready #[.pointer (some ⟨o, 0, none⟩), cev c] w fun e w' => e = .returned (.bool (readyE T.2 c)) ∧ Ext w w' := by
 obtain ⟨F1, sc, hT, hR, hO, rfl⟩ := h
 apply world_World_Ready.vc
 have hlen := hT.len
 intro w1 e1
 have z1 : w1.heap.size = w.heap.size + 1 := by rw [e1]; simp
 have x1 : Ext w w1 := (Ext.rfl' w).of_alloc e1
 clear e1
 refine ⟨_, (hR.ext x1).at 0 rfl, (tfHere_spec (hT.ext x1)).mono ?_⟩
 rintro e w2 ⟨s', rfl, ho, x2⟩
 have z2 := x2.size
 have hrd : RdK w2 s' 2 ((T.2.map (·.1)).map rQ) := by rw [List.map_map]; exact ho.rd (show 0 < 2 by decide)
 refine ⟨s', rfl, x2.heap (by omega), (cChunk_spec c hc w2).mono ?_⟩
 rintro e w4 ⟨rfl, x4⟩
 have z4 := x4.size
 refine ⟨_, _, rfl, x4.heap (by omega), (cBeside_spec (pos c) hp w4).mono ?_⟩
 rintro e w7 ⟨rfl, x7⟩
 have z7 := x7.size
 have x17 := x1.tr (x2.tr (x4.tr x7))
 unfold readyE
 generalize pos c = p at *
 have hpl : (T.2.map (·.1)).length ≤ 1000 := by rw [List.length_map]; omega
 generalize T.2.map (·.1) = ps at *
 refine ⟨_, _, _, _, _, _, _, _, _, _, rfl, x7.heap (by omega), fun n x w' => ∃ j : Nat, x = j ∧ j + n = 5 ∧ Ext w7 w' ∧ ∀ q ∈ (besideK p).take j, q ∈ ps, ⟨5, rfl, 0, rfl, rfl, Ext.rfl' _, by simp⟩, ?_⟩
 rintro n us x w25 ⟨j, rfl, hj, x25, hall⟩
 have z25 := x25.size
 refine Br.mk (fun hb => ?_) (fun hb => ?_)
 ·simp only [decide_eq_true_eq] at hb
  have hex : ∃ q : Po, (([.int .i64 p.1, .int .i64 p.2, .int .i64 (p.1 - 1), .int .i64 p.2, .int .i64 (p.1 + 1), .int .i64 p.2, .int .i64 p.1, .int .i64 (p.2 - 1), .int .i64 p.1, .int .i64 (p.2 + 1)] : List Value).drop (((j : Nat) : Int).toNat * 2)).take 2 = [.int .i64 q.1, .int .i64 q.2] ∧ (besideK p)[j]? = some q := by
   have : j = 0 ∨ j = 1 ∨ j = 2 ∨ j = 3 ∨ j = 4 := by omega
   rcases this with rfl | rfl | rfl | rfl | rfl
   ·exact ⟨p, rfl, rfl⟩
   ·exact ⟨(p.1 - 1, p.2), rfl, rfl⟩
   ·exact ⟨(p.1 + 1, p.2), rfl, rfl⟩
   ·exact ⟨(p.1, p.2 - 1), rfl, rfl⟩
   ·exact ⟨(p.1, p.2 + 1), rfl, rfl⟩
  obtain ⟨q, hq1, hq2⟩ := hex
  refine ⟨⟨by omega, by omega⟩, q.1, q.2, hq1, fun w29 e29 w30 e30 => ?_⟩
  have x30 : Ext w25 w30 := ((Ext.rfl' _).of_alloc e29).of_setRow e30 (Nat.le_refl _)
  have z30 : w30.heap.size = w25.heap.size + 1 := by rw [e30, setRow_size, e29]; simp
  have xx : Ext w2 w30 := x4.tr (x7.tr (x25.tr x30))
  refine (posContains_spec s' ps q w30 (hrd.ext xx) hpl).mono ?_
  rintro e w31 ⟨rfl, x31⟩
  have wk : IntKind.wrap .i64 ((j : Int) + 1) = ((j + 1 : Nat) : Int) := by rw [wrap_in (by unfold inI; omega)]; omega
  refine ⟨_, rfl, x31.heap (by omega), x31.heap (by omega), Br.mk (fun h1 => ?_) (fun h1 => ?_)⟩
  ·refine ⟨?_, x17.tr ((x25.tr x30).tr x31)⟩
   have hnq : q ∉ ps := by simpa using h1
   have : ((besideK p).all fun q => decide (q ∈ ps)) = false := by
    rw [List.all_eq_false]
    exact ⟨q, List.mem_of_getElem? hq2, by simpa using hnq⟩
   rw [this]
  ·have hyq : q ∈ ps := by simpa using h1
   refine ⟨n - 1, by omega, rfl, j + 1, wk, by omega, (x25.tr x30).tr x31, ?_⟩
   rw [List.take_add_one, hq2]
   intro y hy
   rcases List.mem_append.1 hy with hy | hy
   ·exact hall y hy
   ·simp only [Option.toList_some, List.mem_singleton] at hy
    subst hy; exact hyq
 ·simp only [decide_eq_false_iff_not] at hb
  refine ⟨?_, x17.tr x25⟩
  rw [List.take_of_length_le (show (besideK p).length ≤ j by unfold besideK; simp; omega)] at hall
  have : ((besideK p).all fun q => decide (q ∈ ps)) = true := by
   rw [List.all_eq_true]
   exact fun q hq => by simpa using hall q hq
  rw [this]
end Go.Proofs.YtbnmglonbhdcbaaGreatDoor
namespace Go.Proofs.YtbnmglonbhdcbaaGreatDoor
open Go Go.Vc Go.RowKit Go.Proofs Go.Chk Go.Runs Go.Code
structure RG (P : Nat → Prop) (w : World) (s : Sl) (ch : List Cg) : Prop where
 r : RdK w s 4 (ch.map cgv)
 p : ch ≠ [] → ∀ g, s.blk = some g → P g
section
variable {P P' : Nat → Prop} {w w' v v' : World} {s s1 s2 s3 s4 : Sl} {T : Tb} {ch : List Cg} {seed cap : Int}
theorem RG.ext (h : RG P w s ch) (x : Ext w w') : RG P w' s ch := ⟨h.r.ext x, h.p⟩
theorem RG.same (h : RG P w s ch) (hk : ∀ i, P i → i < w.heap.size → w'.heap[i]? = w.heap[i]? ∧ P' i) : RG P' w' s ch := by
 have hb : ch.map cgv ≠ [] → ch ≠ [] := fun q e => q (by rw [e]; rfl)
 have hb' : ch ≠ [] → ch.map cgv ≠ [] := fun q e => q (by simpa using e)
 exact ⟨RdK.same' h.r fun hne g hg => (hk g (h.p (hb hne) g hg) (RdK.blk_lt h.r (by decide) hne hg)).1, fun hne g hg => (hk g (h.p hne g hg) (RdK.blk_lt h.r (by decide) (hb' hne) hg)).2⟩
theorem RG.nil : RG P w ⟨none, 0, 0⟩ [] := ⟨⟨rfl, (fun r hr => by cases hr), fun i r hi => by simp at hi⟩, fun h => absurd rfl h⟩
theorem RG.n (h : RG P w s ch) : s.n = ch.length := by have := h.r.n; rwa [List.length_map] at this
theorem RG.own {B : Nat} (h : OwnK B tChg 4 w s (ch.map cgv)) (hP : ∀ i, B ≤ i → P i) : RG P w s ch := ⟨h.rd (by decide), fun _ g hg => hP g (h.own.lt hg).1⟩
theorem RG.into (h : RG P w s ch) (x : Ext w v) (b : Nat) : RG (Bx P w.heap.size b) v s ch := h.same fun _ hp hi => ⟨x.heap hi, hp, .inl hi⟩
theorem RG.box {a b g : Nat} {c : Array Value} (h : RG (Bx P a b) v s ch) (e : v' = v.setRow g c) (hg : a ≤ g ∧ g < b) : RG (Bx P a b) v' s ch := h.same fun i hp _ => ⟨by rw [e, setRow_other _ _ _ _ (by have := hp.2; omega)], hp⟩
theorem RG.out {a b : Nat} (h : RG (Bx P a b) v s ch) : RG P v s ch := h.same fun _ hp _ => ⟨rfl, hp.1⟩
abbrev wvR (seed cap : Int) (d : Dk) (s1 s2 s3 s4 : Sl) : Value := .agg #[.int .i64 seed, .int .i64 cap, .int .i64 d.room, .int .i64 d.fails, .int .i64 d.wait, .slice s1.a s1.n s1.c, .slice s2.a s2.n s2.c, .slice s3.a s3.n s3.c, .slice s4.a s4.n s4.c]
abbrev wvL (seed cap : Int) (d : Dk) (s1 s2 s3 s4 : Sl) : List Value := [.int .i64 seed, .int .i64 cap, .int .i64 d.room, .int .i64 d.fails, .int .i64 d.wait, .slice s1.a s1.n s1.c, .slice s2.a s2.n s2.c, .slice s3.a s3.n s3.c, .slice s4.a s4.n s4.c]
theorem rNew13_spec (seed limit room : Int) (w : World) : Calls Tryz.prog n_ref13_New #[.int .i64 seed, .int .i64 limit, .int .i64 room] w fun e w' => ∃ s1 s2 s3 : Sl, e = .returned (wvR seed (min (max limit 1) 16) (dk0 room) s1 s2 s3 ⟨none, 0, 0⟩) ∧ RT P w' (dk0 room, []) s1 s2 s3 ∧ Ext w w' := by
 apply ref13_New.vc
 intro w0 e0
 have x0 : Ext w w0 := (Ext.rfl' _).of_alloc e0
 have z0 : w0.heap.size = w.heap.size + 1 := by rw [e0]; simp
 clear e0
 refine (rNew12_spec (P := Bx P w.heap.size w0.heap.size) seed limit room w0).mono ?_
 rintro e w1 ⟨s1, s2, s3, rfl, h1, x1⟩
 refine ⟨_, _, _, _, _, s1, s2, s3, rfl, x1.heap (by omega), fun w10 e10 => ⟨s1, s2, s3, rfl, (h1.box e10 ⟨by omega, by omega⟩).out, (x0.tr x1).of_setRow e10 (Nat.le_refl _)⟩⟩
theorem mod_setRow (w : World) (g : Nat) (cs : Array Value) : Mod (fun i => i = g) w (w.setRow g cs) := ⟨rfl, rfl, rfl, by simp, fun i _ hn => setRow_other _ _ _ _ hn⟩
theorem rBeside_spec (p : Po) (hp : okP p) (w : World) : Calls Tryz.prog n_ref03_Beside #[pv p] w fun e w' => e = .returned (.agg #[.int .i64 p.1, .int .i64 p.2, .int .i64 (p.1 - 1), .int .i64 p.2, .int .i64 (p.1 + 1), .int .i64 p.2, .int .i64 p.1, .int .i64 (p.2 - 1), .int .i64 p.1, .int .i64 (p.2 + 1)]) ∧ Ext w w' := by
 apply ref03_Beside.vc
 obtain ⟨⟨p1, p2⟩, p3, p4⟩ := hp
 have q1 : IntKind.wrap .i64 (p.1 - 1) = p.1 - 1 := wrap_in (by unfold inI; omega)
 have q2 : IntKind.wrap .i64 (p.1 + 1) = p.1 + 1 := wrap_in (by unfold inI; omega)
 have q3 : IntKind.wrap .i64 (p.2 - 1) = p.2 - 1 := wrap_in (by unfold inI; omega)
 have q4 : IntKind.wrap .i64 (p.2 + 1) = p.2 + 1 := wrap_in (by unfold inI; omega)
 unfold ref03_Beside.pre
 intro w0 e0 w1 e1 w2 e2
 have z0 : w0.heap.size = w.heap.size + 1 := by rw [e0]; simp
 have z1 : w1.heap.size = w.heap.size + 2 := by rw [e1]; simp [z0]
 have x2 : Ext w w2 := (((Ext.rfl' w).of_alloc e0).of_alloc e1).of_alloc e2
 have hz : Row w2 w0.heap.size [.int .i64 0, .int .i64 0, .int .i64 0, .int .i64 0, .int .i64 0, .int .i64 0, .int .i64 0, .int .i64 0, .int .i64 0, .int .i64 0] 133 := (by rw [e1]; exact Row.new w0 [_, _, _, _, _, _, _, _, _, _] _ : Row w1 _ _ _).ext ((Ext.rfl' _).of_alloc e2)
 have hr : Row w2 w1.heap.size [.int .i64 0, .int .i64 0, .int .i64 0, .int .i64 0, .int .i64 0, .int .i64 0, .int .i64 0, .int .i64 0, .int .i64 0, .int .i64 0] 133 := by rw [e2]; exact Row.new w1 [_, _, _, _, _, _, _, _, _, _] _
 clear e0 e1 e2
 have nb : ∀ {i j : Nat}, pblk (padd (padd (some ⟨w1.heap.size, 0, none⟩) i) j) ≠ some w.heap.size := fun e => by
  rw [pblk_padd, pblk_padd] at e
  have : w1.heap.size = w.heap.size := by simpa [pblk] using e
  omega
 have one10 : ∀ a b c d e f g h i j : Int, One [Value.int .i64 a, .int .i64 b, .int .i64 c, .int .i64 d, .int .i64 e, .int .i64 f, .int .i64 g, .int .i64 h, .int .i64 i, .int .i64 j] := by
  intro a b c d e f g h i j v hv
  simp only [List.mem_cons, List.not_mem_nil, or_false] at hv
  rcases hv with rfl | rfl | rfl | rfl | rfl | rfl | rfl | rfl | rfl | rfl <;> rfl
 refine ⟨⟨rfl, hr.wr (by simp)⟩, fun e => by
  have : w1.heap.size = w.heap.size := by simpa [pblk] using e
  omega, fun w3 e3 => ?_⟩
 rw [hr.setP (by simp) (one10 _ _ _ _ _ _ _ _ _ _)] at e3
 have hr3 : Row w3 w1.heap.size [.int .i64 p.1, .int .i64 p.2, .int .i64 p.1, .int .i64 p.2, .int .i64 p.1, .int .i64 p.2, .int .i64 p.1, .int .i64 p.2, .int .i64 p.1, .int .i64 p.2] 133 := by rw [e3]; exact hr.set _
 have m3 : Mod (fun i => i = w1.heap.size) w2 w3 := by rw [e3]; exact mod_setRow _ _ _
 clear e3
 obtain ⟨c1, c2⟩ := hr3.put1 (j := 2) (v := .int .i64 (p.1 - 1)) (by simp) rfl
 refine ⟨by decide, by decide, p.1, hr3.at 2 rfl, by decide, by decide, ⟨rfl, c1⟩, nb, fun w5 e5 => ?_⟩
 rw [q1] at e5
 obtain ⟨hr5, m5⟩ := c2 w5 e5
 obtain ⟨c3, c4⟩ := hr5.put1 (j := 4) (v := .int .i64 (p.1 + 1)) (by simp [putCells]) rfl
 refine ⟨by decide, by decide, p.1, hr5.at 4 rfl, by decide, by decide, ⟨rfl, c3⟩, nb, fun w7 e7 => ?_⟩
 rw [q2] at e7
 obtain ⟨hr7, m7⟩ := c4 w7 e7
 obtain ⟨c5, c6⟩ := hr7.put1 (j := 7) (v := .int .i64 (p.2 - 1)) (by simp [putCells]) rfl
 refine ⟨by decide, by decide, p.2, hr7.at 7 rfl, by decide, by decide, ⟨rfl, c5⟩, nb, fun w9 e9 => ?_⟩
 rw [q3] at e9
 obtain ⟨hr9, m9⟩ := c6 w9 e9
 obtain ⟨c7, c8⟩ := hr9.put1 (j := 9) (v := .int .i64 (p.2 + 1)) (by simp [putCells]) rfl
 refine ⟨by decide, by decide, p.2, hr9.at 9 rfl, by decide, by decide, ⟨rfl, c7⟩, nb, fun w11 e11 => ?_⟩
 rw [q4] at e11
 obtain ⟨hr11, m11⟩ := c8 w11 e11
 have mm := (((m3.trans m5).trans m7).trans m9).trans m11
 have hr' : Row w11 w1.heap.size [.int .i64 p.1, .int .i64 p.2, .int .i64 (p.1 - 1), .int .i64 p.2, .int .i64 (p.1 + 1), .int .i64 p.2, .int .i64 p.1, .int .i64 (p.2 - 1), .int .i64 p.1, .int .i64 (p.2 + 1)] 133 := hr11
 have hz' := mm.row hz (by omega)
 refine ⟨_, _, _, _, _, _, _, _, _, _, hr'.loadL (fun j hj => by rw [Nat.zero_add]), ⟨rfl, hz'.wr (by simp)⟩, fun e => by
  have : w0.heap.size = w.heap.size := by simpa [pblk] using e
  omega, fun w22 e22 => ?_⟩
 rw [hz'.setP (by simp) (one10 _ _ _ _ _ _ _ _ _ _)] at e22
 have hz2 : Row w22 w0.heap.size [.int .i64 p.1, .int .i64 p.2, .int .i64 (p.1 - 1), .int .i64 p.2, .int .i64 (p.1 + 1), .int .i64 p.2, .int .i64 p.1, .int .i64 (p.2 - 1), .int .i64 p.1, .int .i64 (p.2 + 1)] 133 := by rw [e22]; exact hz'.set _
 exact ⟨_, _, _, _, _, _, _, _, _, _, hz2.loadL (fun j hj => by rw [Nat.zero_add]), rfl, (mm.ext x2 fun i hi => by omega).of_setRow e22 (by omega)⟩
theorem first_mem {l : List En} {q : Po} : decide (firstI (fun e : En => e.1 == q) l < 0) = !decide (q ∈ l.map (·.1)) := by
 rcases firstI_cases (fun e : En => e.1 == q) l with ⟨hf, hno⟩ | ⟨k, e, hk, he, hf, -⟩
 ·have : q ∉ l.map (·.1) := fun h => by
   obtain ⟨x, hx, rfl⟩ := List.mem_map.1 h
   have := hno x hx
   simp at this
  rw [hf]; simp only [this]; rfl
 ·have : q ∈ l.map (·.1) := List.mem_map.2 ⟨e, List.mem_of_getElem? hk, by simpa using he⟩
  have h0 : ¬ ((k : Int) < 0) := by omega
  rw [hf]; simp only [this, h0]; rfl
theorem rReady_spec (h : RT P w T s1 s2 s3) (hl : T.2.length ≤ 1000000) (c : Ce) (hc : okC c) (hp : okP (pos c)) :
  Calls Tryz.prog n_ref13_Ready #[wvR seed cap T.1 s1 s2 s3 s4, cev c] w fun e w' => e = .returned (.bool (readyE T.2 c)) ∧ Ext w w' := by
 apply (ref13_Ready.vc (a0_5 := s1) (a0_6 := s2) (a0_7 := s3) (a0_8 := s4))
 intro w0 e0 w1 e1
 have x1 : Ext w w1 := ((Ext.rfl' _).of_alloc e0).of_alloc e1
 have z0 : w0.heap.size = w.heap.size + 1 := by rw [e0]; simp
 have z1 : w1.heap.size = w.heap.size + 2 := by rw [e1]; simp [z0]
 clear e0 e1
 refine (rChunk3_spec c hc w1).mono ?_
 rintro e w2 ⟨rfl, x2⟩
 have z2 := x2.size
 refine ⟨_, _, rfl, x2.heap (by omega), x2.heap (by omega), (rBeside_spec (pos c) hp w2).mono ?_⟩
 rintro e w5 ⟨rfl, x5⟩
 have z5 := x5.size
 have x15 := x1.tr (x2.tr x5)
 unfold readyE
 generalize pos c = p at *
 refine ⟨_, _, _, _, _, _, _, _, _, _, rfl, x5.heap (by omega), x5.heap (by omega), fun w16 e16 => ?_⟩
 have z16 : w16.heap.size = w5.heap.size + 1 := by rw [e16]; simp
 have x16 : Ext w5 w16 := (Ext.rfl' _).of_alloc e16
 have hr : Row w16 w5.heap.size [.int .i64 0, .int .i64 0, .int .i64 0, .int .i64 0, .int .i64 0, .int .i64 0, .int .i64 0, .int .i64 0, .int .i64 0, .int .i64 0] 133 := by rw [e16]; exact Row.new w5 [_, _, _, _, _, _, _, _, _, _] _
 clear e16
 refine ⟨⟨rfl, hr.wr (by simp)⟩, fun e => by
  have : w5.heap.size = w.heap.size := by simpa [pblk] using e
  omega, fun e => by
  have : w5.heap.size = w0.heap.size := by simpa [pblk] using e
  omega, fun w17 e17 => ?_⟩
 have h1 : One [Value.int .i64 p.1, .int .i64 p.2, .int .i64 (p.1 - 1), .int .i64 p.2, .int .i64 (p.1 + 1), .int .i64 p.2, .int .i64 p.1, .int .i64 (p.2 - 1), .int .i64 p.1, .int .i64 (p.2 + 1)] := by
  intro v hv
  simp only [List.mem_cons, List.not_mem_nil, or_false] at hv
  rcases hv with rfl | rfl | rfl | rfl | rfl | rfl | rfl | rfl | rfl | rfl <;> rfl
 rw [hr.setP (by simp) h1] at e17
 have hr2 : Row w17 w5.heap.size [.int .i64 p.1, .int .i64 p.2, .int .i64 (p.1 - 1), .int .i64 p.2, .int .i64 (p.1 + 1), .int .i64 p.2, .int .i64 p.1, .int .i64 (p.2 - 1), .int .i64 p.1, .int .i64 (p.2 + 1)] 133 := by rw [e17]; exact hr.set _
 have x17 : Ext w w17 := (x15.tr x16).of_setRow e17 (by omega)
 clear e17
 refine ⟨fun n x w' => ∃ j : Nat, x = j ∧ j + n = 5 ∧ Ext w17 w' ∧ ∀ q ∈ (besideK p).take j, q ∈ T.2.map (·.1), ⟨5, rfl, rfl, 0, rfl, rfl, Ext.rfl' _, by simp⟩, ?_⟩
 rintro n us x w22 ⟨j, rfl, hj, x22, hall⟩
 refine Br.mk (fun hb => ?_) (fun hb => ?_)
 ·simp only [decide_eq_true_eq] at hb
  have hex : ∃ q : Po, ([.int .i64 p.1, .int .i64 p.2, .int .i64 (p.1 - 1), .int .i64 p.2, .int .i64 (p.1 + 1), .int .i64 p.2, .int .i64 p.1, .int .i64 (p.2 - 1), .int .i64 p.1, .int .i64 (p.2 + 1)] : List Value)[j * 2]? = some (.int .i64 q.1) ∧ ([.int .i64 p.1, .int .i64 p.2, .int .i64 (p.1 - 1), .int .i64 p.2, .int .i64 (p.1 + 1), .int .i64 p.2, .int .i64 p.1, .int .i64 (p.2 - 1), .int .i64 p.1, .int .i64 (p.2 + 1)] : List Value)[j * 2 + 1]? = some (.int .i64 q.2) ∧ (besideK p)[j]? = some q := by
   have : j = 0 ∨ j = 1 ∨ j = 2 ∨ j = 3 ∨ j = 4 := by omega
   rcases this with rfl | rfl | rfl | rfl | rfl
   ·exact ⟨p, rfl, rfl, rfl⟩
   ·exact ⟨(p.1 - 1, p.2), rfl, rfl, rfl⟩
   ·exact ⟨(p.1 + 1, p.2), rfl, rfl, rfl⟩
   ·exact ⟨(p.1, p.2 - 1), rfl, rfl, rfl⟩
   ·exact ⟨(p.1, p.2 + 1), rfl, rfl, rfl⟩
  obtain ⟨q, hq1, hq3, hq2⟩ := hex
  have xd := Ext.dr w22
  have zd : w22.drew.heap.size = w22.heap.size := rfl
  have z22 := x22.size
  have z17 := x17.size
  have hrd := hr2.ext (x22.tr xd)
  have hlt := hr2.lt
  have hLL : LoadL w22.drew (padd (some ⟨w5.heap.size, 0, none⟩) (((j : Nat) : Int).toNat * 2)) 0 [.int .i64 q.1, .int .i64 q.2] := by
   refine LoadL_of fun i u hu => ?_
   rw [padd_padd, Nat.zero_add]
   match i, hu with
   | 0, hu => exact hrd.at _ (by rw [← hu]; exact hq1)
   | 1, hu => exact hrd.at _ (by rw [← hu]; exact hq3)
  refine ⟨by omega, by omega, q.1, q.2, hLL, (rFind_spec (seed := seed) (cap := cap) (h.ext (x17.tr (x22.tr xd))) hl q).mono ?_⟩
  rintro e w26 ⟨rfl, x26⟩
  have wk : IntKind.wrap .i64 ((j : Int) + 1) = ((j + 1 : Nat) : Int) := by rw [wrap_in (by unfold inI; omega)]; omega
  refine ⟨_, rfl, x26.heap (by omega), x26.heap (by omega), ?_⟩
  rw [first_mem]
  refine Br.mk (fun h1 => ?_) (fun h1 => ?_)
  ·refine ⟨?_, x17.tr (x22.tr (xd.tr x26))⟩
   have hnq : q ∉ T.2.map (·.1) := by simpa using h1
   have : ((besideK p).all fun q => decide (q ∈ T.2.map (·.1))) = false := by
    rw [List.all_eq_false]
    exact ⟨q, List.mem_of_getElem? hq2, by simpa using hnq⟩
   rw [this]
  ·have hyq : q ∈ T.2.map (·.1) := by simpa using h1
   refine ⟨n - 1, by omega, rfl, rfl, j + 1, wk, by omega, x22.tr (xd.tr x26), ?_⟩
   rw [List.take_add_one, hq2]
   intro y hy
   rcases List.mem_append.1 hy with hy | hy
   ·exact hall y hy
   ·simp only [Option.toList_some, List.mem_singleton] at hy
    subst hy; exact hyq
 ·simp only [decide_eq_false_iff_not] at hb
  refine ⟨?_, x17.tr x22⟩
  rw [List.take_of_length_le (show (besideK p).length ≤ j by unfold besideK; simp; omega)] at hall
  have : ((besideK p).all fun q => decide (q ∈ T.2.map (·.1))) = true := by
   rw [List.all_eq_true]
   exact fun q hq => by simpa using hall q hq
  rw [this]
theorem rTop_spec (h : RT P w T s1 s2 s3) (ho : Okt T) (hn : nodL T.2) (x z : Int) (hx : inI x) (hz : inI z) :
  Calls Tryz.prog n_ref13_Top #[wvR seed cap T.1 s1 s2 s3 s4, .int .i64 x, .int .i64 z] w fun e w' => e = .returned (.int .i64 (topN T.2 x z 32)) ∧ Ext w w' := by
 apply (ref13_Top.vc (a0_5 := s1) (a0_6 := s2) (a0_7 := s3) (a0_8 := s4))
 intro w0 e0
 have x0 : Ext w w0 := (Ext.rfl' _).of_alloc e0
 have z0 : w0.heap.size = w.heap.size + 1 := by rw [e0]; simp
 have r0 : Row w0 w.heap.size (wvL seed cap T.1 s1 s2 s3 s4) 92 := by rw [e0]; exact Row.new w [_, _, _, _, _, _, _, _, _] _
 clear e0
 have xd := Ext.dr w0
 have zd : w0.drew.heap.size = w0.heap.size := rfl
 have hi0 : inI 0 := by unfold inI; omega
 refine (rChunk3_spec (x, 0, z) ⟨hx, hi0, hz⟩ w0.drew).mono ?_
 rintro e w1 ⟨rfl, x1⟩
 have z1 := x1.size
 have x01 := x0.tr (xd.tr x1)
 have r1 := r0.ext (xd.tr x1)
 refine ⟨_, _, rfl, x1.heap (by omega), LoadL_of fun q u hq => by rw [Nat.zero_add]; exact r1.at q (by
  match q, hq with
  | 0, hq => exact hq
  | 1, hq => exact hq
  | 2, hq => exact hq
  | 3, hq => exact hq
  | 4, hq => exact hq
  | 5, hq => exact hq
  | 6, hq => exact hq
  | 7, hq => exact hq), (rFind_spec (seed := seed) (cap := cap) (h.ext x01) ho.l (pos (x, 0, z))).mono ?_⟩
 rintro e w4 ⟨rfl, x4⟩
 have z4 := x4.size
 have x04 := x01.tr x4
 refine ⟨_, rfl, x4.heap (by omega), ?_⟩
 rw [first_mem]
 have ph : ∀ y : Int, pos (x, y, z) = pos (x, 0, z) := fun y => rfl
 refine Br.mk (fun c1 => ?_) (fun c1 => ?_)
 ·have hnq : pos (x, 0, z) ∉ T.2.map (·.1) := by simpa using c1
  have h31 : atE T.2 (x, ((31 : Nat) : Int), z) = -1 := at_none fun ⟨e, he, q⟩ => hnq (List.mem_map.2 ⟨e, he, q⟩)
  refine ⟨?_, x04⟩
  show _ = Ending.returned (.int .i64 (topN T.2 x z (31 + 1)))
  unfold topN
  rw [if_pos h31]
 ·have hyq : pos (x, 0, z) ∈ T.2.map (·.1) := by simpa using c1
  have hh : ∀ y : Nat, y < 32 → atE T.2 (x, (y : Int), z) ≠ -1 := fun y hy => by
   have hiy : inY (x, (y : Int), z) := by unfold inY; simp only; omega
   intro hm
   obtain ⟨e, he, q⟩ := List.mem_map.1 hyq
   exact (at_iff hn ho.g hiy).1 hm ⟨e, he, q⟩
  refine ⟨fun n y w' => y + 1 = n ∧ y ≤ 31 ∧ Ext w4 w' ∧ topN T.2 x z 32 = topN T.2 x z n, ⟨32, rfl, by omega, by omega, Ext.rfl' _, rfl⟩, ?_⟩
  rintro n us y w10 ⟨hy, hy31, x10, he⟩
  have z10 := x10.size
  refine Br.mk (fun c => ?_) (fun c => ?_)
  ·simp only [decide_eq_true_eq] at c
   obtain ⟨k, rfl⟩ : ∃ k : Nat, n = k + 1 := ⟨n - 1, by omega⟩
   have hyk : y = (k : Nat) := by omega
   subst hyk
   refine (rAt12_spec (seed := seed) (cap := cap) (h.ext (x04.tr x10)) ho (x, (k : Int), z) ⟨hx, (show inI (k : Int) by unfold inI; omega), hz⟩).mono ?_
   rintro e w12 ⟨rfl, x12⟩
   have h1 := hh k (by omega)
   have hs : topN T.2 x z (k + 1) = if atE T.2 (x, (k : Int), z) = 0 then topN T.2 x z k else (k : Int) := by
    rw [topN, if_neg h1]
   refine ⟨_, rfl, x12.heap (by omega), Br.mk (fun c2 => ?_) (fun c2 => ?_)⟩
   ·simp only [bne_iff_ne] at c2
    refine ⟨?_, x04.tr (x10.tr x12)⟩
    rw [he, hs, if_neg c2]
   ·simp only [bne_eq_false_iff_eq] at c2
    have wr : IntKind.wrap .i64 ((k : Int) - 1) = (k : Int) - 1 := wrap_in (by unfold inI; omega)
    refine ⟨k, by omega, rfl, ?_⟩
    rw [wr]
    exact ⟨by omega, by omega, x10.tr x12, by rw [he, hs, if_pos c2]⟩
  ·simp only [decide_eq_false_iff_not] at c
   have : n = 0 := by omega
   subst this
   exact ⟨by rw [he]; rfl, x04.tr x10⟩
end
end Go.Proofs.YtbnmglonbhdcbaaGreatDoor
namespace Go.Proofs.YtbnmglonbhdcbaaGreatDoor
open Go Go.Vc Go.RowKit Go.Proofs Go.Chk Go.Runs Go.Code
theorem good_set {l : List En} (hg : goodL l) (c : Ce) (b : Int) : goodL (setE l c b).1 := by
 unfold setE
 split
 ·exact hg
 ·split
  ·exact hg
  ·split
   ·exact hg
   ·intro e he
    rcases List.mem_append.1 he with he | he
    ·exact hg e ((List.eraseIdx_sublist ..).subset he)
    ·simp only [Option.mem_toList, Option.map_eq_some_iff] at he
     obtain ⟨y, hy, rfl⟩ := he
     exact kSet_ok (hg y (List.mem_of_getElem? hy)).1 (hg y (List.mem_of_getElem? hy)).2 c b
theorem set_len (l : List En) (c : Ce) (b : Int) : (setE l c b).1.length ≤ l.length := by
 unfold setE
 split
 ·exact Nat.le_refl _
 ·split
  ·exact Nat.le_refl _
  ·split
   ·exact Nat.le_refl _
   ·generalize (firstI (fun e : En => e.1 == pos c) l).toNat = k
    rw [List.length_append, List.length_eraseIdx]
    cases hk : l[k]? with
    | none => have := List.getElem?_eq_none_iff.1 hk; rw [if_neg (by omega)]; simp
    | some e => have := (List.getElem?_eq_some_iff.1 hk).1; rw [if_pos this]; simp; omega
theorem okt_set {T : Tb} (h : Okt T) (c : Ce) (b : Int) : Okt (T.1, (setE T.2 c b).1) := ⟨h.d, h.f, good_set h.g c b, Nat.le_trans (set_len ..) h.l⟩
abbrev WdRes (P : Nat → Prop) (w : World) (seed cap : Int) (T : Tb) (ch : List Cg) (n : Int) (e : Ending) (w' : World) : Prop :=
 ∃ s1' s2' s3' s4' : Sl, e = .returned (.tuple #[wvR seed cap T.1 s1' s2' s3' s4', .int .i64 n]) ∧ RT P w' T s1' s2' s3' ∧ RG P w' s4' ch ∧ Ext w w'
section
variable {P P' : Nat → Prop} {w w' v v' : World} {s s1 s2 s3 s4 : Sl} {T : Tb} {ch : List Cg} {seed cap : Int}
set_option maxRecDepth 100000 in
theorem rSet13_spec (h : RT P w T s1 s2 s3) (hg : RG P w s4 ch) (hP : Fw P w) (ho : Okt T) (hn : ch.length ≤ 1000000) (c : Ce) (hc : okC c) (b : Int) :
  Calls Tryz.prog n_ref13_Set #[wvR seed cap T.1 s1 s2 s3 s4, cev c, .int .i64 b] w (WdRes P w seed cap (T.1, (setE T.2 c b).1) (wsC T.2 ch c b) (setE T.2 c b).2) := by
 apply (ref13_Set.vc (a0_5 := s1) (a0_6 := s2) (a0_7 := s3) (a0_8 := s4))
 intro w0 e0 w1 e1 w2 e2
 have x2 : Ext w w2 := (((Ext.rfl' _).of_alloc e0).of_alloc e1).of_alloc e2
 have z0 : w0.heap.size = w.heap.size + 1 := by rw [e0]; simp
 have z1 : w1.heap.size = w.heap.size + 2 := by rw [e1]; simp [z0]
 have z2 : w2.heap.size = w.heap.size + 3 := by rw [e2]; simp [z1]
 clear e0 e1 e2
 have hT2 := h.into x2 w2.heap.size
 have hG2 := hg.into x2 w2.heap.size
 have hP2 := hP.bx x2 (Nat.le_refl _)
 refine (rAt12_spec (seed := seed) (cap := cap) hT2 ho c hc).mono ?_
 rintro e w3 ⟨rfl, x3⟩
 have z3 := x3.size
 refine ⟨_, rfl, x3.heap (by omega), x3.heap (by omega), x3.heap (by omega), (rSet12_spec (seed := seed) (cap := cap) (hT2.ext x3) (hP2.ext x3) ho c hc b).mono ?_⟩
 rintro e w5 ⟨t1, t2, t3, rfl, h5, x5⟩
 have z5 := x5.size
 refine ⟨_, _, _, _, _, t1, t2, t3, _, rfl, x5.heap (by omega), x5.heap (by omega), x5.heap (by omega), fun w15 e15 w16 e16 w17 e17 => ?_⟩
 have x16 : Ext w5 w16 := ((Ext.rfl' _).of_alloc e15).of_setRow e16 (Nat.le_refl _)
 have z16 : w16.heap.size = w5.heap.size + 1 := by rw [e16, e15]; simp
 have z17 : w17.heap.size = w16.heap.size := by rw [e17]; simp
 have h17 := (h5.ext x16).box e17 ⟨by omega, by omega⟩
 have g17 := (hG2.ext (x3.tr (x5.tr x16))).box e17 ⟨by omega, by omega⟩
 have x17 : Ext w w17 := (x2.tr (x3.tr (x5.tr x16))).of_setRow e17 (Nat.le_refl _)
 clear e15 e16 e17
 have stay : wsC T.2 ch c b = ch → ∀ {v : World} {cs : Array Value}, v = w17.setRow w1.heap.size cs → WdRes P w seed cap (T.1, (setE T.2 c b).1) (wsC T.2 ch c b) (setE T.2 c b).2 (.returned (.tuple #[wvR seed cap T.1 t1 t2 t3 s4, .int .i64 (setE T.2 c b).2])) v := by
  intro ec v cs ev
  rw [ec]
  exact ⟨t1, t2, t3, s4, rfl, (h17.box ev ⟨by omega, by omega⟩).out, (g17.box ev ⟨by omega, by omega⟩).out, x17.of_setRow ev (by omega)⟩
 refine Br.mk (fun q => Br.mk (fun q2 => ?_) (fun q2 => fun w26 e26 => ?_)) (fun q => fun w27 e27 => ?_)
 ·simp only [beq_iff_eq] at q
  simp only [bne_iff_ne] at q2
  have ec : wsC T.2 ch c b = ch ++ [(c, b)] := by unfold wsC; rw [if_pos ⟨q, q2⟩]
  rw [ec]
  have hn4 := g17.n
  have h0 : OwnK w17.heap.size tChg 4 w17 ⟨none, 0, 0⟩ [] := OwnK.nil
  have ha := h0.appN (bytes := 32) (more := ch.map cgv) (Nat.le_refl _) (fun r hr => by obtain ⟨y, -, rfl⟩ := List.mem_map.1 hr; rfl) (fun r hr => by obtain ⟨y, -, rfl⟩ := List.mem_map.1 hr; exact one_4 _ _ _ _) (by simp only [List.length_map]; omega) (by simp only [List.length_map]; omega)
  rw [List.length_map, ← hn4] at ha
  obtain ⟨hp, hres⟩ := ha
  refine ⟨(ch.map cgv).flatten, RdK.flat g17.r (by decide), hp, fun s19 w20 hr20 => ?_⟩
  obtain ⟨ho20, hn20, x20, -, -⟩ := hres s19 w20 hr20
  have x20 : Ext w17 w20 := x20
  have z20 := x20.size
  have hn19 : s19.n = ch.length := by have := (OwnK.rd ho20 (by decide)).n; simpa using this
  refine ⟨x20.heap (by omega), x20.heap (by omega), x20.heap (by omega), x20.heap (by omega), fun w21 e21 => ?_⟩
  subst e21
  obtain ⟨hp8, hres8⟩ := ho20.app1 (bytes := 32) (news := cgv (c, b)) (.cells #[.int .i64 c.1, .int .i64 c.2.1, .int .i64 c.2.2, .int .i64 b] tChg) z20 rfl (one_4 _ _ _ _) (by omega) (by omega)
  refine ⟨hp8, fun s22 w23 hr23 => ?_⟩
  obtain ⟨f8, ho8, hn8, x8, -, -⟩ := hres8 s22 w23 hr23
  have xa := Ext.al w20 (.cells #[.int .i64 c.1, .int .i64 c.2.1, .int .i64 c.2.2, .int .i64 b] tChg)
  have x823 : Ext w17 w23 := Below.trans x20 (Below.mono x8 (Nat.le_refl _))
  have x8w : Ext w w23 := x17.tr x823
  have kp : ∀ j, j < w17.heap.size → w23.heap[j]? = (w20.alloc (.cells #[.int .i64 c.1, .int .i64 c.2.1, .int .i64 c.2.2, .int .i64 b] tChg)).heap[j]? := fun j hj => by rw [x8.block j hj, xa.heap (by omega)]
  have z23 := x823.size
  refine ⟨kp _ (by omega), kp _ (by omega), kp _ (by omega), kp _ (by omega), f8, fun w24 e24 w25 e25 => ?_⟩
  have x25 := (x8w.of_setRow e24 (Nat.le_refl _)).of_setRow e25 (by omega)
  have ho25 : OwnK w17.heap.size tChg 4 w25 s22 ((ch ++ [(c, b)]).map cgv) := by
   refine OwnK.keep (rows := (ch ++ [(c, b)]).map cgv) (by rw [List.map_append]; simpa using ho8) fun j hj => ?_
   have hjB := (ho8.own.lt hj).1
   rw [e25, setRow_other _ _ _ _ (by omega), e24, setRow_other _ _ _ _ (by omega)]
  exact ⟨t1, t2, t3, s22, rfl, (((h17.ext x823).box e24 ⟨by omega, by omega⟩).box e25 ⟨by omega, by omega⟩).out, RG.own ho25 fun i hi => hP i (by omega), x25⟩
 ·simp only [bne_eq_false_iff_eq] at q2
  exact stay (by unfold wsC; rw [if_neg fun h => h.2 q2]) e26
 ·simp only [beq_eq_false_iff_ne] at q
  exact stay (by unfold wsC; rw [if_neg fun h => q h.1]) e27
theorem rSwap13_spec (h : RT P w T s1 s2 s3) (hg : RG P w s4 ch) (hP : Fw P w) (ho : Okt T) (hn : ch.length ≤ 900000) (a b : Ce) (ha : okC a) (hb : okC b) :
  Calls Tryz.prog n_ref13_Swap #[wvR seed cap T.1 s1 s2 s3 s4, cev a, cev b] w (WdRes P w seed cap (T.1, swL T.2 a b) (swC T.2 ch a b) (swK T.2 a b)) := by
 apply (ref13_Swap.vc (a0_5 := s1) (a0_6 := s2) (a0_7 := s3) (a0_8 := s4))
 intro w0 e0 w1 e1 w2 e2 w3 e3
 have x3 : Ext w w3 := ((((Ext.rfl' _).of_alloc e0).of_alloc e1).of_alloc e2).of_alloc e3
 have z0 : w0.heap.size = w.heap.size + 1 := by rw [e0]; simp
 have z1 : w1.heap.size = w.heap.size + 2 := by rw [e1]; simp [z0]
 have z2 : w2.heap.size = w.heap.size + 3 := by rw [e2]; simp [z1]
 have z3 : w3.heap.size = w.heap.size + 4 := by rw [e3]; simp [z2]
 clear e0 e1 e2 e3
 have hT3 := h.into x3 w3.heap.size
 have hG3 := hg.into x3 w3.heap.size
 have hP3 := hP.bx x3 (Nat.le_refl _)
 refine (rAt12_spec (seed := seed) (cap := cap) hT3 ho a ha).mono ?_
 rintro e w4 ⟨rfl, x4⟩
 have z4 := x4.size
 refine ⟨_, rfl, x4.heap (by omega), x4.heap (by omega), x4.heap (by omega), x4.heap (by omega), (rAt12_spec (seed := seed) (cap := cap) (hT3.ext x4) ho b hb).mono ?_⟩
 rintro e w6 ⟨rfl, x6⟩
 have z6 := x6.size
 have x46 := x4.tr x6
 have h6 := hT3.ext x46
 have g6 := hG3.ext x46
 have p6 := hP3.ext x46
 have stay : ∀ {n : Int}, (swL T.2 a b = T.2 ∧ swC T.2 ch a b = ch ∧ swK T.2 a b = n) → ∀ {v : World} {cs : Array Value}, v = w6.setRow w2.heap.size cs → WdRes P w seed cap (T.1, swL T.2 a b) (swC T.2 ch a b) (swK T.2 a b) (.returned (.tuple #[wvR seed cap T.1 s1 s2 s3 s4, .int .i64 n])) v := by
  rintro n ⟨q1, q2, q3⟩ v cs ev
  rw [q1, q2, q3]
  exact ⟨s1, s2, s3, s4, rfl, (h6.box ev ⟨by omega, by omega⟩).out, (g6.box ev ⟨by omega, by omega⟩).out, (x3.tr x46).of_setRow ev (by omega)⟩
 have far : (atE T.2 a = -1 ∨ atE T.2 b = -1) → swL T.2 a b = T.2 ∧ swC T.2 ch a b = ch ∧ swK T.2 a b = 11 := fun q => by
  have q' : atE T.2 a = -1 ∨ atE T.2 b = -1 ∨ ¬ inY a ∨ ¬ inY b := q.elim .inl fun q => .inr (.inl q)
  unfold swL swC swK
  rw [if_pos q', if_pos q', if_pos q]
  exact ⟨rfl, rfl, rfl⟩
 have off : ¬ (atE T.2 a = -1 ∨ atE T.2 b = -1) → (¬ inY a ∨ ¬ inY b) → swL T.2 a b = T.2 ∧ swC T.2 ch a b = ch ∧ swK T.2 a b = 5 := fun q q2 => by
  have q' : atE T.2 a = -1 ∨ atE T.2 b = -1 ∨ ¬ inY a ∨ ¬ inY b := .inr (.inr q2)
  unfold swL swC swK
  rw [if_pos q', if_pos q', if_neg q, if_pos q2]
  exact ⟨rfl, rfl, rfl⟩
 refine ⟨_, rfl, x6.heap (by omega), x6.heap (by omega), x6.heap (by omega), x6.heap (by omega), Br.mk (fun c1 => ?_) (fun c1 => Br.mk (fun c2 => ?_) (fun c2 => ?_))⟩
 ·exact fun w8 e8 => stay (far (.inl (by simpa using c1))) e8
 ·exact fun w9 e9 => stay (far (.inr (by simpa using c2))) e9
 simp only [beq_eq_false_iff_ne] at c1 c2
 have n12 : ¬ (atE T.2 a = -1 ∨ atE T.2 b = -1) := fun h => h.elim c1 c2
 refine Br.mk (fun c3 => ?_) (fun c3 => Br.mk (fun c4 => ?_) (fun c4 => Br.mk (fun c5 => ?_) (fun c5 => Br.mk (fun c6 => ?_) (fun c6 => ?_))))
 ·exact fun w10 e10 => stay (off n12 (.inl (by unfold inY; simp at c3; omega))) e10
 ·exact fun w11 e11 => stay (off n12 (.inl (by unfold inY; simp at c4; omega))) e11
 ·exact fun w12 e12 => stay (off n12 (.inr (by unfold inY; simp at c5; omega))) e12
 ·exact fun w13 e13 => stay (off n12 (.inr (by unfold inY; simp at c6; omega))) e13
 have ya : inY a := by unfold inY; simp at c3 c4; omega
 have yb : inY b := by unfold inY; simp at c5 c6; omega
 have n4 : ¬ (atE T.2 a = -1 ∨ atE T.2 b = -1 ∨ ¬ inY a ∨ ¬ inY b) := by
  rintro (h | h | h | h)
  ·exact c1 h
  ·exact c2 h
  ·exact h ya
  ·exact h yb
 have eL : swL T.2 a b = (setE (setE T.2 a (atE T.2 b)).1 b (atE T.2 a)).1 := by unfold swL; rw [if_neg n4]
 have eC : swC T.2 ch a b = wsC (setE T.2 a (atE T.2 b)).1 (wsC T.2 ch a (atE T.2 b)) b (atE T.2 a) := by unfold swC; rw [if_neg n4]
 have eK : swK T.2 a b = (setE (setE T.2 a (atE T.2 b)).1 b (atE T.2 a)).2 := by unfold swK; rw [if_neg n12, if_neg (fun h => h.elim (fun h => h ya) (fun h => h yb))]
 rw [eL, eC, eK]
 refine (rSet13_spec (seed := seed) (cap := cap) h6 g6 p6 ho (by omega) a ha (atE T.2 b)).mono ?_
 rintro e w14 ⟨t1, t2, t3, t4, rfl, h14, g14, x14⟩
 have z14 := x14.size
 have hl1 := wsC_len T.2 ch a (atE T.2 b)
 refine ⟨_, _, _, _, _, t1, t2, t3, t4, _, rfl, x14.heap (by omega), x14.heap (by omega), x14.heap (by omega), x14.heap (by omega), fun w25 e25 w26 e26 => ?_⟩
 have x26 : Ext w14 w26 := ((Ext.rfl' _).of_alloc e25).of_setRow e26 (Nat.le_refl _)
 have z26 : w26.heap.size = w14.heap.size + 1 := by rw [e26, e25]; simp
 clear e25 e26
 refine (rSet13_spec (seed := seed) (cap := cap) (h14.ext x26) (g14.ext x26) (p6.ext (x14.tr x26)) (okt_set ho a _) (by omega) b hb (atE T.2 a)).mono ?_
 rintro e w27 ⟨r1, r2, r3, r4, rfl, h27, g27, x27⟩
 have z27 := x27.size
 refine ⟨_, _, _, _, _, r1, r2, r3, r4, _, rfl, x27.heap (by omega), x27.heap (by omega), x27.heap (by omega), x27.heap (by omega), x27.heap (by omega), fun w38 e38 => ?_⟩
 exact ⟨r1, r2, r3, r4, rfl, (h27.box e38 ⟨by omega, by omega⟩).out, (g27.box e38 ⟨by omega, by omega⟩).out, (x3.tr (x46.tr (x14.tr (x26.tr x27)))).of_setRow e38 (by omega)⟩
theorem changes_spec (hs : RdK w s 4 (ch.map cgv)) (hs' : RdK w s1 4 (ch.map cgv)) (hn : ch.length ≤ 1000000) : Calls Tryz.prog n_law13_changes #[.slice s.a s.n s.c, .slice s1.a s1.n s1.c] w fun e w' => e = .returned (.bool true) ∧ Ext w w' := by
 apply (law13_changes.vc (a0 := s) (a1 := s1))
 have n1 := hs.n
 have n2 := hs'.n
 rw [List.length_map] at n1 n2
 refine Br.mk (fun q => by simp [n1, n2] at q) (fun _ => ⟨fun n x w' => ∃ j : Nat, x = j ∧ j + n = ch.length ∧ Ext w w', ⟨ch.length, 0, rfl, by omega, Ext.rfl' _⟩, ?_⟩)
 rintro n us x w4 ⟨j, rfl, hj, x4⟩
 refine Br.mk (fun hb => ?_) (fun hb => ⟨rfl, x4⟩)
 simp only [decide_eq_true_eq] at hb
 obtain ⟨y, hy⟩ := get_lt (l := ch) (i := j) (by omega)
 have xd := x4.tr (Ext.dr _)
 have hy' : (ch.map cgv)[j]? = some (cgv y) := by rw [List.getElem?_map, hy]; rfl
 refine ⟨hs.inB (i := (j : Int)) (by decide) (by omega) hb, _, _, _, _, (hs.ext xd).loadL hy', hs'.inB (i := (j : Int)) (by decide) (by omega) (by omega), _, _, _, _, (hs'.ext xd).loadL hy', Br.mk (fun q => by simp at q) (fun _ => ?_)⟩
 have wk : IntKind.wrap .i64 ((j : Int) + 1) = ((j + 1 : Nat) : Int) := by rw [wrap_in (by unfold inI; omega)]; omega
 exact ⟨n - 1, by omega, j + 1, wk, by omega, xd⟩
end
end Go.Proofs.YtbnmglonbhdcbaaGreatDoor
