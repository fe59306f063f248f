import Derived.Test.YtjcnjlaelhdjeaaGreatDoorG
import Derived.Test.YtjcnjlaelhdjeaaGreatDoorD
import Derived.Test.YtjcnjlaelhdjeaaGreatDoorH
set_option linter.all false
namespace Go.Proofs.YtjcnjlaelhdjeaaGreatDoor
open Go Go.Vc Go.RowKit Go.Proofs Go.Lin
set_option linter.unusedVariables false
theorem Words1_spec (c : Int) (w : World) : Cal 65 #[.int .i32 c] w fun e w' => e = Value.bool (c == 32) ∧ w' = w := by
 apply lines_Words_1.vc
 exact ⟨rfl, rfl⟩
theorem enter_of {f : FuncId} {fn : Func} {c : Code} (hf : Tryz.prog.funcs[f]? = some fn) (hname : (fn.name == "runtime.NumGoroutine") = false) (hb : fn.body = some c) (args : Array Value) (w : World) : (callFunc f args).run Tryz.prog w = .ok (.enter f args) w := by
 have h1 : fn.name ≠ "runtime.NumGoroutine" := by simpa using hname
 simp [callFunc, hf, h1, hb]
theorem Words_spec (s : ByteArray) (w : World) (hs : s.size ≤ 4294967296) : Cal 31 #[.string s] w fun e w' => ∃ sl : Sl, e = sl ∧ RdK w' sl 1 ((wordsK s).map sv) ∧ sl.n ≤ sl.c ∧ (∀ i, sl.blk = some i → w.heap.size ≤ i ∧ i < w'.heap.size) ∧ Ext w w' := by
 apply lines_Words.vc
 refine (Tryz.strings_FieldsFunc_grows 65 #[] (fun args w => enter_of Tryz.func65 (by kernel_rfl) rfl args w) sp32 s w hs ?_).mono ?_
 ·intro W x hx hb
  refine (Words1_spec x W).mono ?_
  rintro _ _ ⟨rfl, rfl⟩
  refine ⟨?_, Below.refl _ _⟩
  have : (((x : Nat) : Int) == 32) = sp32 x := by
   unfold sp32
   rw [Bool.eq_iff_iff, beq_iff_eq, beq_iff_eq]
   omega
  rw [this]
 ·rintro _ w' ⟨A, rfl, hA, hown, hb⟩
  have hl : A < w'.heap.size := by
   obtain ⟨-, h⟩ := hown
   rcases h with ⟨h, -⟩ | ⟨g, cap, cur, h, -, hh, -⟩
   ·cases h
   ·cases h
    exact (ali22.1 hh).1
  refine ⟨⟨pzq A, _, _⟩, rfl, ⟨pzq A, _, _⟩, rfl, ⟨by simp [wordsK], fun r hr => ?_, fun i r hi j v hj => ?_⟩, ali34 _, fun i hi => ?_, hb⟩
  ·obtain ⟨t, -, rfl⟩ := ali06.1 hr
   rfl
  ·rw [ali02, alj68] at hi
   obtain ⟨t, ht, rfl⟩ := hi
   have hj0 : j = 0 := by
    cases j with
    | zero => rfl
    | succ j => simp [sv] at hj
   subst hj0
   cases hj
   have hlt := (ali03.1 ht).1
   show ld w' (padd (pzq A) (i * 1 + 0)) = _
   rw [padd_row]
   show w'.cell? ⟨A, 0 + (i * 1 + 0), none⟩ = _
   rw [show 0 + (i * 1 + 0) = i by omega, hown.cellAt i (by unfold wordsK at hlt; omega), ali02]
   show Option.map _ ((wordsK s)[i]?) = _
   rw [ht]; rfl
  ·cases hi
   exact ⟨hA, hl⟩
abbrev odd : Ending := .panicked [{ v := .iface 85 (.string (ByteArray.mk #[98, 97, 100])), recovered := false }]
theorem must_spec (b : Bool) (w : World) : Cal 54 #[b] w fun e w' => (if b then e = tqq else e = odd) ∧ w' = w := by
 apply lines_must.vc
 cases b with
 | true => exact Br.mk (fun h => by cases h) (fun _ => ⟨rfl, rfl⟩)
 | false => exact Br.mk (fun _ => ⟨rfl, rfl⟩) (fun h => by cases h)
structure AG (w : World) (B g : Nat) (ws : List ByteArray) : Prop where
 lt : g < B
 le : B ≤ w.heap.size
 ex : ∃ sl : Sl, Row w g [sl] 84 ∧ RdK w sl 1 (ws.map sv) ∧ sl.n ≤ sl.c ∧ ∀ i, sl.blk = some i → i < B ∧ i ≠ g
theorem AG.keep {w w' : World} {B g : Nat} {ws : List ByteArray} (h : AG w B g ws) (hl : B ≤ w'.heap.size) (hk : ∀ i, i < B → w'.heap[i]? = w.heap[i]?) : AG w' B g ws := by
 obtain ⟨sl, h1, h2, h3, h4⟩ := h.ex
 exact ⟨h.lt, hl, sl, (hk g h.lt).trans h1, h2.same fun b hb => hk b (h4 b hb).1, h3, h4⟩
theorem AG.ext {w w' : World} {B g : Nat} {ws : List ByteArray} (h : AG w B g ws) (x : Ext w w') : AG w' B g ws :=
 h.keep (ali41 h.le x.size) fun i hi => x.heap (ali35 hi h.le)
def PR {α : Type} (w : World) (B g : Nat) (p : Option (α × List ByteArray)) (ret : α → Value) (e : Ending) (w' : World) : Prop :=
 Mod (fun i => i = g) w w' ∧ match p with | none => e = odd | some (x, r) => e = (ret x) ∧ AG w' B g r
def pWord : List ByteArray → Option (ByteArray × List ByteArray) | [] => none | t :: r => some (t, r)
def pNum (ws : List ByteArray) : Option (Int × List ByteArray) := match pWord ws with | none => none | some (t, r) => if (numK t).2 then some ((numK t).1, r) else none
theorem word_spec {w : World} {B g : Nat} {ws : List ByteArray} (h : AG w B g ws) : Cal 53 #[g] w fun e w' => PR w B g (pWord ws) (.string ·) e w' := by
 obtain ⟨sl, h1, h2, h3, h4⟩ := h.ex
 have hn : sl.n = ws.length := by rw [h2.n, ali01]
 apply lines_args_word.vc
 have l0 : ld w (padd (pzq g) 0) = some (.slice sl.a sl.n sl.c) := by rw [padd_row, h1.ld]; rfl
 refine ⟨sl, l0, (must_spec _ w).mono ?_⟩
 rintro e w1 ⟨he, rfl⟩
 cases ws with
 | nil =>
   have : (decide (((sl.n : Nat) : Int) > 0)) = false := by rw [hn]; rfl
   rw [this] at he
   simp only [Bool.false_eq_true, if_false] at he
   subst he
   exact ⟨Mod.refl _ _, rfl⟩
 | cons t r =>
   have hn1 : sl.n = r.length + 1 := hn
   have : (decide (((sl.n : Nat) : Int) > 0)) = true := decide_eq_true omm
   rw [this] at he
   simp only [if_true] at he
   subst he
   have hl : ld w1 (padd sl.a ((0 : Int).toNat * 1)) = some (.string t) := h2.rd 0 (sv t) rfl 0 _ rfl
   have hst : setP w1 (padd (pzq g) 0) [.slice (slBase sl.a ((1 : Int).toNat) (sl.c) 1) (sl.n - (1 : Int).toNat) (sl.c - (1 : Int).toNat)] = w1.setRow g #[.slice (slBase sl.a ((1 : Int).toNat) (sl.c) 1) (sl.n - (1 : Int).toNat) (sl.c - (1 : Int).toNat)] := by
    rw [padd_row]
    exact h1.setP (o := 0) smm (fun u hu => by simp at hu; subst hu; rfl)
   refine ⟨rfl, sl, l0, h2.inB dcc omm omm, t, hl, sl, l0, by decide, by omega, ⟨rfl, by rw [padd_row]; exact h1.wr (o := 0) smm⟩, ?_⟩
   intro w5 e5
   rw [hst] at e5
   have hm : Mod (fun i => i = g) w1 w5 := by
    rw [e5]
    exact ⟨rfl, rfl, rfl, by simp, fun i _ hi => setRow_other _ _ _ _ hi⟩
   have hb : ∀ i, (slBase sl.a ((1 : Int).toNat) (sl.c) 1).map (·.block) = some i → i < B ∧ i ≠ g := by
    intro i hi
    apply h4 i
    unfold slBase at hi
    split at hi
    ·exact hi
    ·unfold Sl.blk
     cases ha : sl.a with
     | none => rw [ha] at hi; cases hi
     | some a => rw [ha] at hi; exact hi
   refine ⟨hm, rfl, h.lt, ali41 h.le hm.size, ⟨slBase sl.a ((1 : Int).toNat) (sl.c) 1, sl.n - (1 : Int).toNat, sl.c - (1 : Int).toNat⟩, by rw [e5]; exact h1.set _, ?_, by show sl.n - 1 ≤ sl.c - 1; omega, hb⟩
   have hd := h2.rest (l := 1) (m := sl.c) (n' := sl.n - (1 : Int).toNat) (c' := sl.c - (1 : Int).toNat) (by rw [ali01, ← hn]; rfl) (by rw [ali01, ← hn]; omega)
   refine (hd.same fun b hq => hm.same b ?_ (hb b hq).2)
   exact ali35 (hb b hq).1 h.le
theorem num_spec {w : World} {B g : Nat} {ws : List ByteArray} (h : AG w B g ws) : Cal 152 #[g] w fun e w' => PR w B g (pNum ws) (.int .i64 ·) e w' := by
 apply lines_args_num.vc
 refine (word_spec h).mono ?_
 rintro e w0 ⟨m0, hp⟩
 unfold pNum
 cases hw : pWord ws with
 | none =>
   rw [hw] at hp
   subst hp
   exact ⟨m0, rfl⟩
 | some x =>
   obtain ⟨t, r⟩ := x
   rw [hw] at hp
   obtain ⟨rfl, ha⟩ := hp
   refine ⟨t, rfl, (Number_spec t w0).mono ?_⟩
   rintro _ w2 ⟨rfl, x2⟩
   refine ⟨_, _, rfl, (must_spec _ w2).mono ?_⟩
   rintro e w5 ⟨he, rfl⟩
   have m5 : Mod (fun i => i = g) w w5 := m0.trans (Mod.of_ext x2)
   simp only
   cases hb : (numK t).2 with
   | true =>
     rw [hb] at he
     simp only [if_true] at he
     subst he
     exact ⟨rfl, m5, rfl, ha.ext x2⟩
   | false =>
     rw [hb] at he
     simp only [Bool.false_eq_true, if_false] at he
     subst he
     exact ⟨m5, rfl⟩
theorem end_spec {w : World} {B g : Nat} {ws : List ByteArray} (h : AG w B g ws) : Cal 153 #[g] w fun e w' => w' = w ∧ if ws = [] then e = tqq else e = odd := by
 obtain ⟨sl, h1, h2, h3, h4⟩ := h.ex
 have hn : sl.n = ws.length := by rw [h2.n, ali01]
 apply lines_args_end.vc
 have l0 : ld w (padd (pzq g) 0) = some (.slice sl.a sl.n sl.c) := by rw [padd_row, h1.ld]; rfl
 refine ⟨sl, l0, (must_spec _ w).mono ?_⟩
 rintro e w1 ⟨he, rfl⟩
 cases ws with
 | nil =>
   have : ((((sl.n : Nat) : Int) : Int) == 0) = true := by rw [hn]; rfl
   rw [this] at he
   simp only [if_true] at he
   subst he
   exact ⟨rfl, rfl, rfl⟩
 | cons t r =>
   have hn1 : sl.n = r.length + 1 := hn
   have : ((((sl.n : Nat) : Int) : Int) == 0) = false := by simp; omega
   rw [this] at he
   simp only [Bool.false_eq_true, if_false] at he
   subst he
   exact ⟨rfl, by rw [if_neg smm]⟩
end Go.Proofs.YtjcnjlaelhdjeaaGreatDoor
namespace Go.Proofs.YtjcnjlaelhdjeaaGreatDoor
open Go Go.Vc Go.RowKit Go.Proofs Go.Lin
set_option linter.unusedVariables false
theorem mod_set (w : World) (k : Nat) (c : Array Value) : Mod (fun i => i = k) w (w.setRow k c) := ⟨rfl, rfl, rfl, by simp, fun i _ hi => setRow_other _ _ _ _ hi⟩
def pPos (ws : List ByteArray) : Option ((Int × Int) × List ByteArray) := match pNum ws with | none => none | some (x, r) => match pNum r with | none => none | some (z, r') => some ((x, z), r')
def pVec (ws : List ByteArray) : Option ((Int × Int × Int) × List ByteArray) := match pNum ws with | none => none | some (x, r) => match pNum r with | none => none | some (y, r') => match pNum r' with | none => none | some (z, r'') => some ((x, y, z), r'')
theorem pos_spec {w : World} {B g : Nat} {ws : List ByteArray} (h : AG w B g ws) : Cal 156 #[g] w fun e w' => PR w B g (pPos ws) (fun p => .agg #[.int .i64 p.1, .int .i64 p.2]) e w' := by
 apply lines_args_pos.vc
 intro w0 e0
 have x0 : Ext w w0 := by rw [e0]; exact Ext.al _ _
 have hs := hs1 e0
 have hgl : g < w := ali35 h.lt h.le
 have m0 : Mod (fun i => i = g) w w0 := Mod.of_ext x0
 refine (num_spec (h.ext x0)).mono ?_
 rintro e w1 ⟨m1, hp⟩
 unfold pPos
 cases hw : pNum ws with
 | none => rw [hw] at hp; subst hp; exact ⟨m0.trans m1, rfl⟩
 | some x =>
   obtain ⟨x, r⟩ := x
   rw [hw] at hp
   obtain ⟨rfl, ha⟩ := hp
   refine ⟨x, rfl, m1.same _ omm omm, (num_spec ha).mono ?_⟩
   rintro e w3 ⟨m3, hp⟩
   simp only
   cases hw2 : pNum r with
   | none => rw [hw2] at hp; subst hp; exact ⟨(m0.trans m1).trans m3, rfl⟩
   | some z =>
     obtain ⟨z, r'⟩ := z
     rw [hw2] at hp
     obtain ⟨rfl, ha3⟩ := hp
     refine ⟨z, rfl, m3.same _ (by have := m1.size; omega) omm, ?_⟩
     intro w5 e5
     have m5 := mod_set w3 w #[x, z]
     rw [← e5] at m5
     have hB := h.le
     have hle := ha3.le
     exact ⟨((m0.trans m1).trans m3).tr m5 (fun i hi => .inr omm), rfl, ha3.keep (ali41 hle m5.size) fun i hi => m5.same i omm omm⟩
theorem vec_spec {w : World} {B g : Nat} {ws : List ByteArray} (h : AG w B g ws) : Cal 166 #[g] w fun e w' => PR w B g (pVec ws) (fun p => .agg #[.int .i64 p.1, .int .i64 p.2.1, .int .i64 p.2.2]) e w' := by
 apply lines_args_vec.vc
 intro w0 e0
 have x0 : Ext w w0 := by rw [e0]; exact Ext.al _ _
 have hs := hs1 e0
 have hgl : g < w := ali35 h.lt h.le
 have m0 : Mod (fun i => i = g) w w0 := Mod.of_ext x0
 refine (num_spec (h.ext x0)).mono ?_
 rintro e w1 ⟨m1, hp⟩
 unfold pVec
 cases hw : pNum ws with
 | none => rw [hw] at hp; subst hp; exact ⟨m0.trans m1, rfl⟩
 | some x =>
   obtain ⟨x, r⟩ := x
   rw [hw] at hp
   obtain ⟨rfl, ha⟩ := hp
   refine ⟨x, rfl, m1.same _ omm omm, (num_spec ha).mono ?_⟩
   rintro e w3 ⟨m3, hp⟩
   simp only
   cases hw2 : pNum r with
   | none => rw [hw2] at hp; subst hp; exact ⟨(m0.trans m1).trans m3, rfl⟩
   | some y =>
     obtain ⟨y, r'⟩ := y
     rw [hw2] at hp
     obtain ⟨rfl, ha3⟩ := hp
     refine ⟨y, rfl, m3.same _ (by have := m1.size; omega) omm, (num_spec ha3).mono ?_⟩
     rintro e w5 ⟨m5, hp⟩
     simp only
     cases hw3 : pNum r' with
     | none => rw [hw3] at hp; subst hp; exact ⟨((m0.trans m1).trans m3).trans m5, rfl⟩
     | some z =>
       obtain ⟨z, r''⟩ := z
       rw [hw3] at hp
       obtain ⟨rfl, ha5⟩ := hp
       refine ⟨z, rfl, m5.same _ (by have := m1.size; have := m3.size; omega) omm, ?_⟩
       intro w7 e7
       have m7 := mod_set w5 w #[x, y, z]
       rw [← e7] at m7
       have hB := h.le
       have hle := ha5.le
       exact ⟨(((m0.trans m1).trans m3).trans m5).tr m7 (fun i hi => .inr omm), rfl, ha5.keep (ali41 hle m7.size) fun i hi => m7.same i omm omm⟩
theorem cell_spec {w : World} {B g : Nat} {ws : List ByteArray} (h : AG w B g ws) : Cal 169 #[g] w fun e w' => PR w B g (pVec ws) (fun p => .agg #[.int .i64 p.1, .int .i64 p.2.1, .int .i64 p.2.2]) e w' := by
 apply lines_args_cell.vc
 intro w0 e0
 have x0 : Ext w w0 := by rw [e0]; exact Ext.al _ _
 have hs := hs1 e0
 have hgl : g < w := ali35 h.lt h.le
 have m0 : Mod (fun i => i = g) w w0 := Mod.of_ext x0
 refine (vec_spec (h.ext x0)).mono ?_
 rintro e w1 ⟨m1, hp⟩
 cases hw : pVec ws with
 | none => rw [hw] at hp; subst hp; exact ⟨m0.trans m1, rfl⟩
 | some x =>
   obtain ⟨⟨x, y, z⟩, r⟩ := x
   rw [hw] at hp
   obtain ⟨rfl, ha⟩ := hp
   refine ⟨x, y, z, rfl, m1.same _ omm omm, ?_⟩
   intro w5 e5 w6 e6 w7 e7
   have x5 : Ext w1 w5 := by rw [e5]; exact Ext.al _ _
   have m6 := mod_set w5 w1 #[x, y, z]
   rw [← e6] at m6
   have m7 := mod_set w6 w #[x, y, z]
   rw [← e7] at m7
   have hB := h.le
   have hle := ha.le
   have h1 := m1.size
   have h5 := x5.size
   have h6 := m6.size
   have k : ∀ i, i < w1.heap.size → i ≠ w.heap.size → w7.heap[i]? = w1.heap[i]? := fun i hi hn =>
    (m7.same i omm hn).trans ((m6.same i omm omm).trans (x5.heap hi))
   exact ⟨(((m0.trans m1).trans (Mod.of_ext x5)).tr m6 (fun i hi => .inr omm)).tr m7 (fun i hi => .inr omm), rfl, ha.keep (by have := m7.size; omega) fun i hi => k i omm omm⟩
end Go.Proofs.YtjcnjlaelhdjeaaGreatDoor
namespace Go.Proofs.YtjcnjlaelhdjeaaGreatDoor
open Go Go.Vc Go.RowKit Go.Proofs Go.Lin
set_option linter.unusedVariables false
inductive Itm (w : World) : Value → ByteArray → Prop
 | s (t : ByteArray) : Itm w (.iface 9 (.string t)) t
 | ok : Itm w (.iface 168 (0:Int)) (ByteArray.mk #[111, 107])
 | n (x : Int) (t : ByteArray) (h : ∀ u, Ext w u → Cal 224 #[x] u fun e u' => e = Value.string t ∧ Ext u u') : Itm w (.iface 3 (x)) t
 | e (x : Int) (t : ByteArray) (h0 : x ≠ 0) (h : ∀ u, Ext w u → Cal 225 #[x] u fun e u' => e = Value.string t ∧ Ext u u') : Itm w (.iface 168 (x)) t
theorem Itm.ext {w u : World} {x : Value} {t : ByteArray} (h : Itm w x t) (hx : Ext w u) : Itm u x t := by
 cases h with
 | s => exact .s _
 | ok => exact .ok
 | n x _ h => exact .n x _ fun v hv => h v (hx.tr hv)
 | e x _ h0 h => exact .e x _ h0 fun v hv => h v (hx.tr hv)
def joinK (l : List ByteArray) : ByteArray := ⟨(Lib.join (l.map (·.data.toList)) [32]).toArray⟩
theorem join_one (t : ByteArray) : joinK [t] = t := by
 apply bl_inj
 show Lib.join [bl t] [32] = bl t
 unfold Lib.join
 simp [List.intercalate]
theorem told_spec {w : World} {sl : Sl} {xs : LV} {outs : List ByteArray} (h : RdK w sl 1 (xs.map fun x => [x])) (hl : outs.length = xs.length) (hn : xs.length ≤ 1000000)
  (hi : ∀ (i : Nat) x t, xs[i]? = some x → outs[i]? = some t → Itm w x t) (hj : (Lib.join (outs.map (·.data.toList)) [32]).length ≤ 140737488355328) :
  Cal 154 #[sl] w fun e w' => e = Value.string (joinK outs) ∧ Ext w w' := by
 have hsn : sl.n = xs.length := by rw [h.n, ali01]
 apply lines_told.vc
 refine ⟨fun n x s v => ∃ p : Nat, x = (p : Int) ∧ p + n = sl.n ∧ OwnK w 9 1 v s ((outs.take p).map sv) ∧ Ext w v, ⟨sl.n, 0, rfl, by omega, OwnK.nil, Ext.rfl' _⟩, ?_⟩
 rintro n1 us2 x3 s4 w5 ⟨p, rfl, hp, ho, x5⟩
 have hpl : (outs.take p).length = p := by rw [ali12]; omega
 have h4 : s4.n = p := by rw [(OwnK.rd ho dcc).n, ali01, hpl]
 apply Br.mk <;> intro c
 ·have c := of_decide_eq_true c
  have hpx : p < xs.length := by omega
  obtain ⟨x, hx⟩ : ∃ x, xs[p]? = some x := ⟨_, ali04 hpx⟩
  obtain ⟨t, ht⟩ : ∃ t, outs[p]? = some t := ⟨_, ali04 omm⟩
  have hit := (hi p x t hx ht).ext x5
  have etk : outs.take (p + 1) = outs.take p ++ [t] := by rw [ali09, ht]; rfl
  have hld : ld w5 (padd sl.a (((p : Nat) : Int).toNat * 1)) = some x := by
   have := x5.ld (h.rd p [x] (by rw [ali02, hx]; rfl) 0 x rfl)
   simpa using this
  have push : ∀ u : World, Ext w5 u → ∀ v : World, v = u.alloc (.cells #[.string t] 9) →
    AppPre 16 1 v ⟨s4.a, s4.n, s4.c⟩ 1 [.string t] ∧ ∀ (s9 : Sl) (w10 : World), AppRes 9 1 v ⟨s4.a, s4.n, s4.c⟩ 1 [.string t] s9 w10 →
     w10.heap[u.heap.size]? = v.heap[u.heap.size]? ∧ ∃ n6, n6 < n1 ∧ ∃ q : Nat, wqq ((p : Int) + 1) = (q : Int) ∧ q + n6 = sl.n ∧ OwnK w 9 1 w10 ⟨s9.a, s9.n, s9.c⟩ ((outs.take q).map sv) ∧ Ext w w10 := by
   rintro u xu v rfl
   have xw := x5.tr xu
   obtain ⟨a1, a2⟩ := (ho.ext xu).app1 (bytes := 16) (news := sv t) (.cells #[.string t] 9) xw.size rfl (one_sv t) omm omm
   refine ⟨a1, fun s9 w10 hr => ?_⟩
   obtain ⟨b1, b2, b3, b4, -⟩ := a2 s9 w10 hr
   refine ⟨b1, n1 - 1, by omega, p + 1, by rw [wI]; omega, by omega, ?_, Below.trans xw b4⟩
   rw [etk, ali08]
   exact b2
  refine ⟨h.inB dcc omm omm, x, hld, ?_⟩
  cases hit with
  | s =>
    refine ⟨9, _, rfl, Br.mk (fun c => by cases c) (fun _ => ⟨9, _, rfl, Br.mk (fun _ => ⟨_, rfl, fun w19 e19 => push w5 (Ext.rfl' _) w19 e19⟩) (fun c => by cases c)⟩)⟩
  | ok =>
    refine ⟨168, _, rfl, Br.mk (fun c => by cases c) (fun _ => ⟨168, _, rfl, Br.mk (fun c => by cases c) (fun _ => ⟨168, _, rfl, Br.mk (fun _ => ⟨_, rfl, Br.mk (fun _ => fun w19 e19 => push w5 (Ext.rfl' _) w19 e19) (fun c => by cases c)⟩) (fun c => by cases c)⟩)⟩)⟩
  | n x _ hc =>
    refine ⟨3, _, rfl, Br.mk (fun _ => ⟨x, rfl, (hc w5 (Ext.rfl' _)).mono ?_⟩) (fun c => by cases c)⟩
    rintro _ w11 ⟨rfl, x11⟩
    exact ⟨t, rfl, fun w13 e13 => push w11 x11 w13 e13⟩
  | e x _ h0 hc =>
    refine ⟨168, _, rfl, Br.mk (fun c => by cases c) (fun _ => ⟨168, _, rfl, Br.mk (fun c => by cases c) (fun _ => ⟨168, _, rfl, Br.mk (fun _ => ⟨x, rfl, Br.mk (fun c => absurd (by simpa using c) h0) (fun _ => (hc w5 (Ext.rfl' _)).mono ?_)⟩) (fun c => by cases c)⟩)⟩)⟩
    rintro _ w28 ⟨rfl, x28⟩
    exact ⟨t, rfl, fun w30 e30 => push w28 x28 w30 e30⟩
 ·have c := of_decide_eq_false c
  have hpe : p = xs.length := by omega
  rw [show outs.take p = outs from ali11 omm] at ho
  have fin : Cal 226 #[s4, .string (ByteArray.mk #[32])] w5 fun e w' => e = Value.string (joinK outs) ∧ Ext w5 w' := by
   have hrd := OwnK.rd ho dcc
   cases hq : outs with
   | nil =>
     have : s4.n = 0 := by rw [h4, hpe, ← hl, hq]; rfl
     rw [this]
     refine (Tryz.strings_Join_none s4.a s4.c _ w5).mono ?_
     rintro _ _ ⟨rfl, rfl⟩
     exact ⟨rfl, Ext.rfl' _⟩
   | cons t0 r0 =>
     have hon := ho.own
     obtain ⟨g, ha, hnc⟩ : ∃ g, s4.a = pzq g ∧ s4.n ≤ s4.c := by
      generalize ((outs.map sv).flatten) = fl at hon
      cases hon with
      | nil => rw [hq] at hl; simp at hl; simp at h4; omega
      | row g n c cs hg hr hc hn => exact ⟨g, rfl, hn⟩
     rw [← hq]
     have hgl : g < w5.heap.size := hrd.blk_lt dcc (by rw [hq]; simp) (by unfold Sl.blk; rw [ha]; rfl)
     have := Tryz.strings_Join g 0 s4.c outs (ByteArray.mk #[32]) w5 (fun j y hy => by
      have := hrd.rd j (sv y) (by rw [ali02, hy]; rfl) 0 _ rfl
      rw [ha, padd_row] at this
      simpa [Vc.ld] using this) hgl omm omm hj
     rw [ha, h4, hpe, ← hl]
     exact this
  refine fin.mono ?_
  rintro _ w63 ⟨rfl, x63⟩
  exact ⟨_, rfl, rfl, x5.tr x63⟩
end Go.Proofs.YtjcnjlaelhdjeaaGreatDoor
namespace Go.Proofs.YtjcnjlaelhdjeaaGreatDoor
open Go Go.Vc Go.RowKit Go.Proofs Go.Runs
abbrev tRun : TypeId := 322
abbrev tInt : TypeId := 3
abbrev rv (r : Rn) : LV := [.int .i64 r.1, .int .i64 r.2]
abbrev iv (b : Int) : LV := [.int .i64 b]
abbrev RdR (w : World) (s : Sl) (l : List Rn) : Prop := RdK w s 2 (l.map rv)
abbrev RdC (w : World) (s : Sl) (c : List Int) : Prop := RdK w s 1 (c.map iv)
abbrev OwR (B : Nat) (w : World) (s : Sl) (l : List Rn) : Prop := OwnK B tRun 2 w s (l.map rv)
abbrev OwC (B : Nat) (w : World) (s : Sl) (c : List Int) : Prop := OwnK B tInt 1 w s (c.map iv)
theorem OwR.rdr {B : Nat} {w : World} {s : Sl} {l : List Rn} (h : OwR B w s l) : RdR w s l := OwnK.rd h omm
theorem OwC.rdc {B : Nat} {w : World} {s : Sl} {c : List Int} (h : OwC B w s c) : RdC w s c := OwnK.rd h omm
theorem RdR.len {w : World} {s : Sl} {l : List Rn} (h : RdR w s l) : s.n = l.length := by have := h.n; simpa using this
theorem RdC.len {w : World} {s : Sl} {c : List Int} (h : RdC w s c) : s.n = c.length := by have := h.n; simpa using this
theorem RdR.get {w : World} {s : Sl} {l : List Rn} (_ : RdR w s l) {i : Nat} {r : Rn} (hi : l[i]? = some r) : (l.map rv)[i]? = some (rv r) := by rw [ali02, hi]; rfl
theorem RdR.c0 {w : World} {s : Sl} {l : List Rn} (h : RdR w s l) {i : Nat} {r : Rn} (hi : l[i]? = some r) : ld w (padd (padd s.a (i * 2)) 0) = some (.int .i64 r.1) := RdK.at h (RdR.get h hi) (j := 0) rfl
theorem RdR.c1 {w : World} {s : Sl} {l : List Rn} (h : RdR w s l) {i : Nat} {r : Rn} (hi : l[i]? = some r) : ld w (padd (padd s.a (i * 2)) 1) = some (.int .i64 r.2) := RdK.at h (RdR.get h hi) (j := 1) rfl
theorem RdR.ll {w : World} {s : Sl} {l : List Rn} (h : RdR w s l) {i : Nat} {r : Rn} (hi : l[i]? = some r) : LoadL w (padd s.a (i * 2)) 0 [r.1, r.2] := RdK.loadL h (RdR.get h hi)
theorem RdC.c0 {w : World} {s : Sl} {l : List Int} (h : RdC w s l) {i : Nat} {b : Int} (hi : l[i]? = some b) : ld w (padd s.a (i * 1)) = some (.int .i64 b) := by
 have := h.rd i (iv b) (by rw [ali02, hi]; rfl) 0 _ rfl
 simpa using this
theorem RdR.inB {w : World} {s : Sl} {l : List Rn} (h : RdR w s l) {i : Nat} (hi : i < l.length) : InB s.a (i : Int) s.n := RdK.inB h omm omm (by have := RdR.len h; omega)
theorem RdC.inB {w : World} {s : Sl} {l : List Int} (h : RdC w s l) {i : Nat} (hi : i < l.length) : InB s.a (i : Int) s.n := RdK.inB h omm omm (by have := RdC.len h; omega)
theorem RdR.some {w : World} {s : Sl} {l : List Rn} (h : RdR w s l) {i : Nat} (hi : i < l.length) : (padd s.a (i * 2)).isSome = true := by rw [padd_isSome]; exact RdK.isSome h omm (i := i) (by simpa using hi)
theorem get_lt {α : Type} {l : List α} {i : Nat} (h : i < l.length) : ∃ r, l[i]? = some r := ⟨_, ali04 h⟩
abbrev Bd (n : Nat) : Prop := n ≤ 1099511627776
theorem runs_Len_spec (s : Sl) (l : List Rn) (w : World) (hs : RdR w s l) (hb : Bd l.length) (hl : ∀ r ∈ l, 0 ≤ r.1) (hsum : sumR l ≤ 1099511627776) :
  Cal 347 #[s] w fun e w' => e = Value.int .i64 (sumR l) ∧ Ext w w' := by
 have hsn := RdR.len hs
 apply runs_Len.vc
 refine ⟨fun n x y wr => ∃ k : Nat, x = k ∧ k + n = l.length ∧ Ext w wr ∧ y = sumR (l.take k), ⟨l.length, 0, rfl, by omega, Ext.rfl' w, rfl⟩, ?_⟩
 rintro n us x y wr ⟨k, rfl, hk, xr, rfl⟩
 have hw := wrap_in (n := (k : Int) + 1) (by unfold inI; omega)
 apply Br.mk <;> intro h <;> simp at h
 ·obtain ⟨r, hr⟩ := get_lt (l := l) (i := k) omm
  refine ⟨RdR.inB hs omm, _, _, RdR.ll (hs.ext xr) hr, ?_⟩
  rintro w9 rfl w10 rfl
  have e : sumR (l.take (k + 1)) = sumR (l.take k) + r.1 := by
   rw [ali09, hr]
   simp [sumR]
  have h0 : 0 ≤ sumR (l.take k) ∧ 0 ≤ r.1 ∧ sumR (l.take (k + 1)) ≤ sumR l := by
   refine ⟨?_, hl r (ali00 hr), ?_⟩
   ·rw [sumR_cells fun q hq => hl q (alj44 hq)]; omega
   ·have := sumR_app (l.take (k + 1)) (l.drop (k + 1))
    rw [alj52] at this
    have h2 : 0 ≤ sumR (l.drop (k + 1)) := by rw [sumR_cells fun q hq => hl q (alj43 hq)]; omega
    omega
  have hw2 := wrap_in (n := sumR (l.take k) + r.1) (by unfold inI; omega)
  refine ⟨n - 1, by omega, k + 1, by omega, by omega, ((xr.tr (Ext.al _ _)).setRow xr.size _), by rw [hw2, e]⟩
 ·obtain rfl : k = l.length := by omega
  rw [ali26]
  exact ⟨rfl, xr⟩
end Go.Proofs.YtjcnjlaelhdjeaaGreatDoor
namespace Go.Proofs.YtjcnjlaelhdjeaaGreatDoor
open Go Go.Vc Go.RowKit Go.Proofs Go.Runs
abbrev Keep (s : Sl) (w w' : World) : Prop := ∀ j, s.blk ≠ some j → j < w.heap.size → w'.heap[j]? = w.heap[j]?
theorem runs_push_spec (B : Nat) (s : Sl) (l : List Rn) (r : Rn) (w : World) (hB : B ≤ w) (ho : OwR B w s l) (hn : Bd l.length) (hl : ∀ q ∈ l, 0 ≤ q.1 ∧ q.1 ≤ 1099511627776) (hr : r.1 ≤ 1099511627776) :
  Cal 341 #[s, .agg #[r.1, r.2]] w fun e w' => ∃ s' : Sl, e = s' ∧ OwR B w' s' (pushR l r) ∧ Below B w w' ∧ Keep s w w' := by
 have hsn := RdR.len ho.rdr
 apply runs_push.vc
 rintro w0 rfl
 have xa := Ext.al w (.cells #[r.1, r.2] tRun)
 have xd := xa.drew
 have hz : (w.alloc (.cells #[r.1, r.2] tRun)).drew.heap.size = w.heap.size + 1 := by simp [World.drew]
 have hw := wrap_in (n := ((s.n : Nat) : Int) - 1) (by unfold inI; omega)
 have grow : ∀ (_ : 1 ≤ r.1) (_ : ∀ q, l.getLast? = some q → q.2 ≠ r.2), (∀ w4 : World, w4 = (w.alloc (.cells #[r.1, r.2] tRun)).drew.alloc (.cells #[r.1, r.2] tRun) →
   AppPre 16 2 w4 ⟨s.a, s.n, s.c⟩ 1 [r.1, r.2] ∧ ∀ (s5 : Sl) (w6 : World), AppRes tRun 2 w4 ⟨s.a, s.n, s.c⟩ 1 [r.1, r.2] s5 w6 → w6.heap[w.heap.size]? = w4.heap[w.heap.size]? ∧ w6.heap[(w.alloc (.cells #[r.1, r.2] tRun)).drew.heap.size]? = w4.heap[(w.alloc (.cells #[r.1, r.2] tRun)).drew.heap.size]? ∧
   ∃ s' : Sl, Ending.returned (.slice s5.a s5.n s5.c) = s' ∧ OwR B w6 s' (pushR l r) ∧ Below B w w6 ∧ Keep s w w6) := by
  rintro h1 h2 w4 rfl
  obtain ⟨hp, hres⟩ := (OwnK.ext ho xd).app1 (bytes := 16) (news := rv r) (.cells #[r.1, r.2] tRun) (ali41 hB xd.size) rfl (one_ii _ _ _ _) omm omm
  refine ⟨hp, fun s5 w6 hr' => ?_⟩
  obtain ⟨k1, ho', hn', xb, hk, hb⟩ := hres s5 w6 hr'
  refine ⟨?_, k1, s5, rfl, ?_, (Below.mono xd hB).trans xb, fun j hj hlt => ?_⟩
  ·rw [hk _ (fun hb => absurd (ho.own.lt hb).2 (alj59 _)) omm]
   symm
   exact (Ext.al _ _).heap omm
  ·rw [push_new h1 h2]
   show OwnK B tRun 2 w6 s5 ((l ++ [r]).map rv)
   rw [ali08]; exact ho'
  ·rw [hk j hj omm]
   exact xd.heap hlt
 apply Br.mk <;> intro h <;> simp at h
 ·exact ⟨s, rfl, by rw [push_none h]; exact OwnK.ext ho xa, Below.mono xa hB, fun j _ hj => xa.heap hj⟩
 rw [hw]
 refine Br.mk (fun h' => ?_) (fun h' => ?_) <;> simp at h'
 ·rcases snoc_cases l with rfl | ⟨m, q, rfl⟩
  ·simp at hsn; omega
  rw [ali07] at hsn; simp at hsn
  have hnat : (((s.n : Nat) : Int) - 1).toNat = m.length := by omega
  have hq : (m ++ [q])[m.length]? = some q := by simp
  have hin : InB s.a (((s.n : Nat) : Int) - 1) s.n := by
   have := RdR.inB ho.rdr (i := m.length) smm
   rwa [show ((m.length : Nat) : Int) = ((s.n : Nat) : Int) - 1 from by omega] at this
  have hsome := RdR.some ho.rdr (i := m.length) smm
  rw [hnat]
  have r1 := RdK.ext ho.rdr xd
  have r2 := RdK.ext ho.rdr xd.drew
  refine ⟨hin, AndL_nn.2 ⟨hsome, _, RdR.c1 r1 hq, Br.mk (fun h2 => ?_) (fun h2 => ?_)⟩⟩
  ·simp at h2
   obtain ⟨q1, q2, q3, q4, q5⟩ := (OwnK.ext ho xd.drew).set (i := m.length) (j := 0) (r := rv q) (v := .int .i64 (wqq (q.1 + r.1))) (by rw [ali02, hq]; rfl) omm rfl (ali41 hB xd.drew.size)
   refine ⟨hin, AndL_nn.2 ⟨hsome, _, RdR.c0 r2 hq, hin, AndL_nn.2 ⟨hsome, ⟨q1, q2⟩, ?_, ?_⟩⟩⟩
   ·intro hb
    have : s.blk = some w.heap.size := by
     rw [pblk_padd, pblk_padd] at hb
     exact hb
    exact absurd (ho.own.lt this).2 (alj59 _)
   ·rintro w3 rfl
    have hwq := wrap_in (n := q.1 + r.1) (by have := hl q smm; unfold inI; omega)
    rw [hwq] at q3 q4 q5 ⊢
    refine ⟨s, rfl, ?_, (Below.mono xd.drew hB).trans q4, fun j hj hlt => ?_⟩
    ·rw [push_same h h2]
     show OwnK B tRun 2 _ s ((m ++ [(q.1 + r.1, q.2)]).map rv)
     have e : ((m ++ [q]).map rv).set m.length ((rv q).set 0 (.int .i64 (q.1 + r.1))) = (m ++ [(q.1 + r.1, q.2)]).map rv := by
      rw [ali08, ali08, List.set_append_right _ _ smm]
      simp
     rw [← e]; exact q3
    ·rw [q5 j hj]; exact xd.drew.heap hlt
  ·exact grow h (by intro p hp; simp at hp; subst hp; simpa using h2)
 ·have : l = [] := by
   apply alj13; omega
  subst this
  exact grow h smm
theorem push_canon (B : Nat) (s : Sl) (c : List Int) (r : Rn) (w : World) (hB : B ≤ w) (ho : OwR B w s (ofC c)) (hn : Bd c.length) (hr : r.1 ≤ 1099511627776) :
  Cal 341 #[s, .agg #[r.1, r.2]] w fun e w' => ∃ s' : Sl, e = s' ∧ OwR B w' s' (ofC (c ++ List.replicate r.1.toNat r.2)) ∧ Below B w w' ∧ Keep s w w' := by
 rw [← push_ofC]
 refine runs_push_spec B s _ r w hB ho (by have := ofC_len c; unfold Bd at *; omega) (fun q hq => ?_) hr
 have := mem_ofC hq
 unfold Bd at hn
 omega
theorem runs_Make_spec (n b : Int) (w : World) (hn : n ≤ 1099511627776) :
  Cal 397 #[n, b] w fun e w' => ∃ s' : Sl, e = s' ∧ OwR w w' s' (ofC (List.replicate n.toNat b)) ∧ Ext w w' := by
 apply runs_Make.vc
 refine (push_canon w ⟨none, 0, 0⟩ [] (n, b) w (ali34 _) OwnK.nil smm hn).mono ?_
 rintro e w' ⟨s', rfl, ho, x, _⟩
 exact ⟨s', rfl, s', rfl, by simpa using ho, x⟩
theorem runs_Of_spec (s : Sl) (c : List Int) (w : World) (hs : RdC w s c) (hn : Bd c.length) :
  Cal 290 #[s] w fun e w' => ∃ s' : Sl, e = s' ∧ OwR w w' s' (ofC c) ∧ Ext w w' := by
 have hsn := RdC.len hs
 apply runs_Of.vc
 refine ⟨fun n x o wr => ∃ k : Nat, x = k ∧ k + n = c.length ∧ Ext w wr ∧ OwR w wr o (ofC (c.take k)), ⟨c.length, 0, rfl, by omega, Ext.rfl' w, OwnK.nil⟩, ?_⟩
 rintro n us x o wr ⟨k, rfl, hk, xr, ho⟩
 unfold Bd at hn
 have hw := wrap_in (n := (k : Int) + 1) (by unfold inI; omega)
 apply Br.mk <;> intro h <;> simp at h
 ·obtain ⟨b, hb⟩ := get_lt (l := c) (i := k) omm
  refine ⟨RdC.inB hs omm, _, RdC.c0 (hs.ext xr) hb, ?_⟩
  refine (push_canon w o _ (1, b) wr xr.size ho (by rw [ali12]; unfold Bd; omega) (by show (1 : Int) ≤ _; omega)).mono ?_
  rintro e w' ⟨s', rfl, ho', x', _⟩
  refine ⟨s', rfl, n - 1, by omega, k + 1, by omega, by omega, xr.trans x', ?_⟩
  rw [ali09, hb]
  exact ho'
 ·obtain rfl : k = c.length := by omega
  rw [ali26] at ho
  exact ⟨o, rfl, ho, xr⟩
end Go.Proofs.YtjcnjlaelhdjeaaGreatDoor
namespace Go.Proofs.YtjcnjlaelhdjeaaGreatDoor
open Go Go.Vc Go.RowKit Go.Proofs Go.Runs
theorem sumR_take_succ {l : List Rn} {k : Nat} {r : Rn} (hr : l[k]? = some r) : sumR (l.take (k + 1)) = sumR (l.take k) + r.1 := by
 rw [ali09, hr]; simp [sumR]
theorem sumR_nn {l : List Rn} (hl : ∀ r ∈ l, 0 ≤ r.1) : 0 ≤ sumR l := by rw [sumR_cells hl]; omega
theorem sumR_take_le {l : List Rn} (hl : ∀ r ∈ l, 0 ≤ r.1) (k : Nat) : 0 ≤ sumR (l.take k) ∧ sumR (l.take k) ≤ sumR l := by
 refine ⟨sumR_nn fun q hq => hl q (alj44 hq), ?_⟩
 have := sumR_app (l.take k) (l.drop k)
 rw [alj52] at this
 have h2 := sumR_nn (l := l.drop k) fun q hq => hl q (alj43 hq)
 omega
theorem cells_take_succ {l : List Rn} {k : Nat} {r : Rn} (hr : l[k]? = some r) : cellsR (l.take (k + 1)) = cellsR (l.take k) ++ List.replicate r.1.toNat r.2 := by
 rw [ali09, hr, cellsR_app]; exact congrArg _ (cellsR_one r)
theorem seg_le (c : List Int) (a b : Int) : (seg c a b).length ≤ c.length := by unfold seg; simp; omega
theorem runs_Cut_spec (s : Sl) (l : List Rn) (a b : Int) (w : World) (hs : RdR w s l) (hn : Bd l.length) (hl : ∀ r ∈ l, 0 ≤ r.1) (hsum : sumR l ≤ 1099511627776) (ha : 0 ≤ a) (hb : 0 ≤ b) :
  Cal 396 #[s, a, b] w fun e w' => ∃ s' : Sl, e = s' ∧ OwR w w' s' (ofC (seg (cellsR l) a b)) ∧ Ext w w' := by
 have hsn := RdR.len hs
 unfold Bd at hn
 apply runs_Cut.vc
 refine ⟨fun n x y o wr => ∃ k : Nat, x = k ∧ k + n = l.length ∧ Ext w wr ∧ y = sumR (l.take k) ∧ OwR w wr o (ofC (seg (cellsR (l.take k)) a b)), ⟨l.length, 0, rfl, by omega, Ext.rfl' w, rfl, ?_⟩, ?_⟩
 ·have : seg (cellsR (l.take 0)) a b = [] := by simp [seg, cellsR]
  rw [this]; exact OwnK.nil
 rintro n us x y o wr ⟨k, rfl, hk, xr, rfl, ho⟩
 have hw := wrap_in (n := (k : Int) + 1) (by unfold inI; omega)
 apply Br.mk <;> intro h <;> simp at h
 ·obtain ⟨r, hr⟩ := get_lt (l := l) (i := k) omm
  have e := sumR_take_succ hr
  have hr0 := hl r (ali00 hr)
  have b1 := sumR_take_le hl k
  have b2 := sumR_take_le hl (k + 1)
  have hw2 := wrap_in (n := sumR (l.take k) + r.1) (by unfold inI; omega)
  have hc : ((cellsR (l.take k)).length : Int) = sumR (l.take k) := (sumR_cells fun q hq => hl q (alj44 hq)).symm
  have hseg : seg (cellsR (l.take (k + 1))) a b = seg (cellsR (l.take k)) a b ++ List.replicate (min b (sumR (l.take k) + r.1) - max a (sumR (l.take k))).toNat r.2 := by
   rw [cells_take_succ hr, seg_snoc _ _ _ _ _ ha hb]
   congr 2
   omega
  refine ⟨RdR.inB hs omm, _, _, RdR.ll (hs.ext xr) hr, ?_⟩
  rintro w9 rfl w10 rfl
  rw [hw2]
  have x10 := ((xr.tr (Ext.al _ (.cells #[vzz, vzz] tRun))).setRow xr.size #[r.1, r.2])
  have e1 : (if sumR (l.take k) + r.1 < b then sumR (l.take k) + r.1 else b) = min b (sumR (l.take k) + r.1) := by split <;> omega
  have e2 : (if sumR (l.take k) > a then sumR (l.take k) else a) = max a (sumR (l.take k)) := by split <;> omega
  rw [e1, e2]
  have hkeep : ∀ g, o.blk = some g → (((wr.alloc (.cells #[vzz, vzz] tRun)).setRow wr.heap.size #[r.1, r.2]).drew).heap[g]? = wr.heap[g]? := by
   intro g hg
   have := (ho.own.lt hg).2
   show ((wr.alloc _).setRow wr.heap.size _).heap[g]? = _
   rw [setRow_other _ _ _ _ omm]
   exact (Ext.al _ _).heap this
  have ho2 := OwnK.keep ho hkeep
  have hlen : (seg (cellsR (l.take k)) a b).length ≤ 1099511627776 := by have := seg_le (cellsR (l.take k)) a b; omega
  apply Br.mk <;> intro h2 <;> simp only [ali27, ali28] at h2
  ·have hw3 := wrap_in (n := min b (sumR (l.take k) + r.1) - max a (sumR (l.take k))) (by unfold inI; omega)
   rw [hw3]
   refine (push_canon w o _ (min b (sumR (l.take k) + r.1) - max a (sumR (l.take k)), r.2) _ x10.drew.size ho2 hlen (by show min b (sumR (l.take k) + r.1) - max a (sumR (l.take k)) ≤ _; omega)).mono ?_
   rintro e w' ⟨s', rfl, ho', x', hkp⟩
   refine ⟨s', rfl, hkp _ (fun hb => absurd (ho.own.lt hb).2 (alj59 _)) (by simp [World.drew, World.setRow]), n - 1, by omega, k + 1, by omega, by omega, x10.drew.trans x', by omega, ?_⟩
   rw [hseg]; exact ho'
  ·refine ⟨n - 1, by omega, k + 1, by omega, by omega, x10.drew, by omega, ?_⟩
   rw [hseg, show (min b (sumR (l.take k) + r.1) - max a (sumR (l.take k))).toNat = 0 from by omega]
   simpa using ho2
 ·obtain rfl : k = l.length := by omega
  rw [ali26] at ho
  exact ⟨o, rfl, ho, xr⟩
theorem clone_spec (s : Sl) (l : List Rn) (w : World) (hs : RdR w s l) (hn : Bd l.length) :
  Cal 288 #[s] w fun e w' => ∃ s' : Sl, e = s' ∧ OwR w w' s' l ∧ Ext w w' := by
 have hsn := RdR.len hs
 unfold Bd at hn
 apply slices_Clone_Run.vc
 apply Br.mk <;> intro h
 ·have : l = [] := by
   rcases alj57 l.length with h0 | h0
   ·exact alj13 h0
   ·have := RdK.isSome hs omm (i := 0) (by simpa using h0)
    cases hsa : s.a <;> simp [hsa] at h this
  subst this
  exact ⟨⟨none, 0, 0⟩, rfl, OwnK.nil, Ext.rfl' w⟩
 ·rintro w0 rfl
  have xa := Ext.al w (.cells #[] tRun)
  have hz : Go.Vc.Own w tRun 2 (w.alloc (.cells #[] tRun)) ⟨pzq w.heap.size, 0, 0⟩ [] := .row w.heap.size 0 0 [] (ali34 _) (Row.new w [] tRun) smm (ali34 _)
  have hf : (l.map rv).flatten.length = s.n * 2 := by rw [flatten_len hs.wd]; simp [hsn]
  have h1 : One (l.map rv).flatten := One_flatten fun r hr => by
   obtain ⟨q, _, rfl⟩ := ali06.1 hr
   exact one_ii _ _ _ _
  obtain ⟨hp, hr⟩ := hz.append (bytes := 16) (m := s.n) (news := (l.map rv).flatten) xa.size hf h1 (by simp; omega) (by simp; omega)
  refine ⟨(l.map rv).flatten, RdK.flat (hs.ext xa) omm, hp, fun s2 w3 hres => ?_⟩
  obtain ⟨ho, hn2, xb, _, _⟩ := hr s2 w3 hres
  refine ⟨AppRes_zero hres hf smm, s2, rfl, ⟨by simpa using ho, hs.wd⟩, xa.trans xb⟩
theorem runs_join_spec (s : Sl) (ss : List Sl) (cs : List (List Int)) (w : World) (hs : RdK w s 1 (ss.map fun t => [.slice t.a t.n t.c])) (hlen : ss.length = cs.length)
  (hr : ∀ (i : Nat) (t : Sl) (c : List Int), ss[i]? = some t → cs[i]? = some c → RdR w t (ofC c)) (hb : Bd ss.length) (hn : Bd cs.flatten.length) :
  Cal 395 #[s] w fun e w' => ∃ s' : Sl, e = s' ∧ OwR w w' s' (ofC cs.flatten) ∧ Ext w w' := by
 have hsn : s.n = ss.length := by have := hs.n; simpa using this
 unfold Bd at hn hb
 apply runs_join.vc
 refine ⟨fun n x o wr => ∃ k : Nat, x = k ∧ k + n = ss.length ∧ Ext w wr ∧ OwR w wr o (ofC (cs.take k).flatten), ⟨ss.length, 0, rfl, by omega, Ext.rfl' w, OwnK.nil⟩, ?_⟩
 rintro n us x o wr ⟨k, rfl, hk, xr, ho⟩
 have hw := wrap_in (n := (k : Int) + 1) (by unfold inI; omega)
 apply Br.mk <;> intro h <;> simp at h
 ·obtain ⟨t, ht⟩ := get_lt (l := ss) (i := k) omm
  obtain ⟨c, hc⟩ := get_lt (l := cs) (i := k) omm
  have hrt := hr k t c ht hc
  have htn := RdR.len hrt
  have hfl : (cs.take (k + 1)).flatten = (cs.take k).flatten ++ c := by rw [ali09, hc]; simp
  have hle : (cs.take k).flatten.length + c.length ≤ cs.flatten.length := by
   have e := congrArg List.length (congrArg List.flatten (alj52 (k + 1) cs))
   rw [alj21, hfl] at e
   simp only [ali07] at e
   omega
  have hcl := ofC_len c
  have hld := hs.rd k [.slice t.a t.n t.c] (by rw [ali02, ht]; rfl) 0 _ rfl
  refine ⟨RdK.inB hs omm omm omm, t, xr.ld (by simpa using hld), ?_⟩
  refine ⟨fun n x o wr => ∃ j : Nat, x = j ∧ j + n = (ofC c).length ∧ Ext w wr ∧ OwR w wr o (ofC ((cs.take k).flatten ++ cellsR ((ofC c).take j))), ⟨(ofC c).length, 0, rfl, by omega, xr, by simpa [cellsR] using ho⟩, ?_⟩
  rintro n2 us2 x2 o2 w2 ⟨j, rfl, hj, x2, ho2⟩
  have hw2 := wrap_in (n := (j : Int) + 1) (by unfold inI; omega)
  apply Br.mk <;> intro h2 <;> simp at h2
  ·obtain ⟨r, hrr⟩ := get_lt (l := ofC c) (i := j) omm
   have hrm := mem_ofC (ali00 hrr)
   refine ⟨RdR.inB hrt omm, _, _, RdR.ll (hrt.ext x2) hrr, ?_⟩
   rintro w9 rfl w10 rfl
   have x10 := ((x2.tr (Ext.al _ (.cells #[vzz, vzz] tRun))).setRow x2.size #[r.1, r.2])
   have ho3 := OwnK.keep (w' := (w2.alloc (.cells #[vzz, vzz] tRun)).setRow w2.heap.size #[r.1, r.2]) ho2 (by
    intro g hg
    have := (ho2.own.lt hg).2
    rw [setRow_other _ _ _ _ omm]
    exact (Ext.al _ _).heap this)
   have hl2 : ((cs.take k).flatten ++ cellsR ((ofC c).take j)).length ≤ 1099511627776 := by
    rw [ali07]
    have h3 := sumR_take_le (l := ofC c) (fun q hq => by have := mem_ofC hq; omega) j
    rw [sumR_ofC, sumR_cells fun q hq => by have := mem_ofC (alj44 hq); omega] at h3
    omega
   refine (push_canon w o2 _ r _ x10.size ho3 hl2 omm).mono ?_
   rintro e w' ⟨s', rfl, ho', x', hkp⟩
   refine ⟨s', rfl, hkp _ (fun hb => absurd (ho2.own.lt hb).2 (alj59 _)) (by simp [World.setRow]), n2 - 1, by omega, j + 1, by omega, by omega, x10.trans x', ?_⟩
   rw [cells_take_succ hrr, ← ali15]; exact ho'
  ·obtain rfl : j = (ofC c).length := by omega
   refine ⟨n - 1, by omega, k + 1, by omega, by omega, x2, ?_⟩
   rw [ali26, cells_ofC] at ho2
   rw [hfl]; exact ho2
 ·obtain rfl : k = ss.length := by omega
  rw [hlen, ali26] at ho
  exact ⟨o, rfl, ho, xr⟩
end Go.Proofs.YtjcnjlaelhdjeaaGreatDoor
namespace Go.Proofs.YtjcnjlaelhdjeaaGreatDoor
open Go Go.Vc Go.RowKit Go.Proofs Go.Runs
theorem runs_Fill_spec (s : Sl) (c : List Int) (a b x : Int) (w : World) (hs : RdR w s (ofC c)) (hn : Bd c.length) (ha : inI a) (hb : inI b) :
  Cal 389 #[s, a, b, x] w fun e w' => ∃ s' : Sl, e = s' ∧ OwR w w' s' (ofC (if bMay x then fillC c a b x else c)) ∧ Ext w w' := by
 have hl : Bd (ofC c).length := ali41 (ofC_len c) hn
 have hp : ∀ r ∈ ofC c, 0 ≤ r.1 := fun r hr => by have := mem_ofC hr; omega
 have hsum : sumR (ofC c) ≤ 1099511627776 := by rw [sumR_ofC]; unfold Bd at hn; omega
 unfold Bd at hn
 unfold inI at ha hb
 apply runs_Fill.vc
 refine (runs_Len_spec s _ w hs hl hp hsum).mono ?_
 rintro e w1 ⟨rfl, x1⟩
 rw [sumR_ofC]
 refine ⟨_, rfl, (block_May_spec x w1).mono ?_⟩
 rintro e w2 ⟨rfl, x2⟩
 have x12 := x1.tr x2
 have e1 : (if ((c.length : Nat) : Int) < (if 0 > a then 0 else a) then ((c.length : Nat) : Int) else (if 0 > a then 0 else a)) = min (max a 0) (c.length : Int) := by split <;> split <;> omega
 have e2 : (if ((c.length : Nat) : Int) < (if 0 > b then 0 else b) then ((c.length : Nat) : Int) else (if 0 > b then 0 else b)) = min (max b 0) (c.length : Int) := by split <;> split <;> omega
 rw [e1, e2]
 refine ⟨_, rfl, Br.mk (fun h => ?_) (fun h => Br.mk (fun h2 => ?_) (fun h2 => ?_))⟩
 ·simp at h
  refine (clone_spec s _ w2 (hs.ext x12) hl).mono ?_
  rintro e w3 ⟨s', rfl, ho, x3⟩
  refine ⟨s', rfl, s', rfl, ?_, x12.tr x3⟩
  rw [h]
  exact OwnK.low ho x12.size
 ·simp at h h2
  refine (clone_spec s _ w2 (hs.ext x12) hl).mono ?_
  rintro e w3 ⟨s', rfl, ho, x3⟩
  refine ⟨s', rfl, s', rfl, ?_, x12.tr x3⟩
  rw [h, if_pos rfl, fillC_none c a b x omm]
  exact OwnK.low ho x12.size
 ·replace h2 := q0F h2
  have hm : bMay x = true := by simpa using h
  have hw := wrap_in (n := min (max b 0) (c.length : Int) - min (max a 0) (c.length : Int)) (by unfold inI; omega)
  rw [hw]
  refine (runs_Cut_spec s _ 0 (min (max a 0) (c.length : Int)) w2 (hs.ext x12) hl hp hsum omm omm).mono ?_
  rintro e w3 ⟨s1, rfl, o1, x3⟩
  refine ⟨s1, rfl, (runs_Make_spec (min (max b 0) (c.length : Int) - min (max a 0) (c.length : Int)) x w3 omm).mono ?_⟩
  rintro e w4 ⟨s2, rfl, o2, x4⟩
  refine ⟨s2, rfl, (runs_Cut_spec s _ (min (max b 0) (c.length : Int)) c.length w4 (((hs.ext x12).ext x3).ext x4) hl hp hsum omm omm).mono ?_⟩
  rintro e w5 ⟨s3, rfl, o3, x5⟩
  refine ⟨s3, rfl, ?_⟩
  rintro w6 rfl
  have x6 := Ext.al w5 (.cells #[s1, s2, s3] 146)
  rw [cells_ofC] at o1 o3
  have hrow := Row.new w5 [s1, s2, s3] 146
  have hrd : RdK (w5.alloc (.cells #[s1, s2, s3] 146)) ⟨pzq w5.heap.size, 3, 3⟩ 1 ([s1, s2, s3].map fun t => [.slice t.a t.n t.c]) := by
   refine ⟨rfl, by simp, fun i r hi j v hj => ?_⟩
   show ld _ (padd (pzq w5.heap.size) _) = _
   rw [padd_row, hrow.ld]
   rcases i with _ | _ | _ | i <;> simp at hi
   all_goals subst hi
   all_goals rcases j with _ | j <;> simp at hj
   all_goals subst hj; rfl
  refine (runs_join_spec _ [s1, s2, s3] [seg c 0 (min (max a 0) (c.length : Int)), List.replicate (min (max b 0) (c.length : Int) - min (max a 0) (c.length : Int)).toNat x, seg c (min (max b 0) (c.length : Int)) c.length] _ hrd rfl ?_ smm ?_).mono ?_
  ·intro i t d ht hd
   rcases i with _ | _ | _ | i <;> simp at ht hd
   ·subst ht; subst hd
    exact (((o1.ext x4).ext x5).ext x6).rd omm
   ·subst ht; subst hd
    exact ((o2.ext x5).ext x6).rd omm
   ·subst ht; subst hd
    exact (o3.ext x6).rd omm
  ·have e := congrArg List.length (fillC_seg c a b x omm)
   rw [fillC_len] at e
   simp only [ali21, List.flatten_nil, ali44, ali07] at e ⊢
   unfold Bd
   omega
  ·rintro e w7 ⟨s', rfl, ho, x7⟩
   have xx := (((x12.tr x3).tr x4).tr x5).tr x6
   refine ⟨s', rfl, s', rfl, ?_, xx.tr x7⟩
   rw [if_pos hm, fillC_seg c a b x omm]
   have ho := OwnK.low ho xx.size
   simpa using ho
def setC (c : List Int) (i x : Int) : List Int := if bMay x = true ∧ 0 ≤ i ∧ i < (c.length : Int) then c.set i.toNat x else c
theorem runs_Set_spec (s : Sl) (c : List Int) (i x : Int) (w : World) (hs : RdR w s (ofC c)) (hn : Bd c.length) (hi : inI i) :
  Cal 376 #[s, i, x] w fun e w' => ∃ s' : Sl, e = s' ∧ OwR w w' s' (ofC (setC c i x)) ∧ Ext w w' := by
 have hl : Bd (ofC c).length := ali41 (ofC_len c) hn
 have hp : ∀ r ∈ ofC c, 0 ≤ r.1 := fun r hr => by have := mem_ofC hr; omega
 have hsum : sumR (ofC c) ≤ 1099511627776 := by rw [sumR_ofC]; unfold Bd at hn; omega
 have hi' := hi
 have hn' := hn
 unfold Bd at hn'
 unfold inI at hi'
 apply runs_Set.vc
 apply Br.mk <;> intro h <;> simp at h
 ·refine (clone_spec s _ w hs hl).mono ?_
  rintro e w3 ⟨s', rfl, ho, x3⟩
  refine ⟨s', rfl, s', rfl, ?_, x3⟩
  unfold setC
  rw [if_neg omm]; exact ho
 ·refine (runs_Len_spec s _ w hs hl hp hsum).mono ?_
  rintro e w1 ⟨rfl, x1⟩
  rw [sumR_ofC]
  refine ⟨_, rfl, Br.mk (fun h2 => ?_) (fun h2 => ?_)⟩ <;> simp at h2
  ·refine (clone_spec s _ w1 (hs.ext x1) hl).mono ?_
   rintro e w3 ⟨s', rfl, ho, x3⟩
   refine ⟨s', rfl, s', rfl, ?_, x1.tr x3⟩
   unfold setC
   rw [if_neg omm]; exact OwnK.low ho x1.size
  ·have hw := wrap_in (n := i + 1) (by unfold inI; omega)
   rw [hw]
   refine (runs_Fill_spec s c i (i + 1) x w1 (hs.ext x1) hn hi (by unfold inI; omega)).mono ?_
   rintro e w3 ⟨s', rfl, ho, x3⟩
   refine ⟨s', rfl, s', rfl, ?_, x1.tr x3⟩
   unfold setC
   have := OwnK.low ho x1.size
   rw [fillC_one c i x h h2] at this
   cases hm : bMay x
   ·rw [hm] at this
    rw [if_neg smm]; exact this
   ·rw [hm] at this
    rw [if_pos ⟨rfl, h, h2⟩]; exact this
theorem wrap_sub (a b : Int) : wqq (wqq a - b) = wqq (a - b) := by
 unfold IntKind.wrap
 simp only [IntKind.bits, IntKind.signed, alj05]
 split <;> split <;> split <;> simp_all <;> omega
theorem runs_At_spec (s : Sl) (l : List Rn) (i : Int) (w : World) (hs : RdR w s l) (hn : Bd l.length) (hl : ∀ r ∈ l, 0 ≤ r.1) (hsum : sumR l ≤ 1099511627776) (hi : inI i) :
  Cal 241 #[s, i] w fun e w' => e = Value.int .i64 (atC (cellsR l) i) ∧ Ext w w' := by
 have hsn := RdR.len hs
 unfold Bd at hn
 apply runs_At.vc
 refine ⟨fun n x y wr => ∃ k : Nat, x = k ∧ k + n = l.length ∧ Ext w wr ∧ y = wqq (i - sumR (l.take k)) ∧ (i < 0 ∨ sumR (l.take k) ≤ i), ⟨l.length, 0, rfl, by omega, Ext.rfl' w, ?_, ?_⟩, ?_⟩
 ·rw [show sumR (l.take 0) = 0 from rfl, Int.sub_zero, wrap_in hi]
 ·rw [show sumR (l.take 0) = 0 from rfl]; omega
 rintro n us x y wr ⟨k, rfl, hk, xr, rfl, hno⟩
 have hw := wrap_in (n := (k : Int) + 1) (by unfold inI; omega)
 unfold inI at hi
 have hc : ∀ k, ((cellsR (l.take k)).length : Int) = sumR (l.take k) := fun k => (sumR_cells fun q hq => hl q (alj44 hq)).symm
 apply Br.mk <;> intro h <;> simp at h
 ·obtain ⟨r, hr⟩ := get_lt (l := l) (i := k) omm
  have e := sumR_take_succ hr
  have hr0 := hl r (ali00 hr)
  have b1 := sumR_take_le hl k
  have b2 := sumR_take_le hl (k + 1)
  refine ⟨RdR.inB hs omm, _, _, RdR.ll (hs.ext xr) hr, ?_⟩
  rintro w9 rfl w10 rfl
  have x10 := ((xr.tr (Ext.al _ (.cells #[vzz, vzz] tRun))).setRow xr.size #[r.1, r.2])
  have hwi := wrap_inI (i - sumR (l.take k))
  unfold inI at hwi
  have hneg : i < 0 → (0 ≤ wqq (i - sumR (l.take k)) → wqq (i - sumR (l.take k)) < r.1 → False) := by
   intro h0 h1 h2
   revert h1 h2
   unfold IntKind.wrap
   simp only [IntKind.bits, IntKind.signed, alj05]
   split <;> simp_all <;> omega
  have hpos : 0 ≤ i → sumR (l.take k) ≤ i → wqq (i - sumR (l.take k)) = i - sumR (l.take k) := fun _ _ => wI
  have nx : (i < 0 ∨ sumR (l.take (k + 1)) ≤ i) → ∃ n6, n6 < n ∧ ∃ k_1 : Nat, wqq ((k : Int) + 1) = k_1 ∧ k_1 + n6 = l.length ∧ Ext w ((wr.alloc (.cells #[vzz, vzz] tRun)).setRow wr.heap.size #[r.1, r.2]) ∧
    wqq (wqq (i - sumR (l.take k)) - r.1) = wqq (i - sumR (l.take k_1)) ∧ (i < 0 ∨ sumR (l.take k_1) ≤ i) :=
   fun hh => ⟨n - 1, by omega, k + 1, by omega, by omega, x10, by rw [wrap_sub, e, Int.sub_sub], hh⟩
  refine Br.mk (fun h1 => Br.mk (fun h2 => ?_) (fun h2 => ?_)) (fun h1 => ?_) <;> simp only [ali27, ali28] at *
  ·rcases alj07 i 0 with h0 | h0
   ·exact (hneg h0 h1 h2).elim
   ·have hle : sumR (l.take k) ≤ i := by omega
    have := hpos h0 hle
    have ht : l = l.take k ++ [r] ++ l.drop (k + 1) := by
     have := alj52 (k + 1) l
     rw [ali09, hr] at this
     exact this.symm
    refine ⟨?_, x10⟩
    have hcell : cellsR l = cellsR (l.take k) ++ List.replicate r.1.toNat r.2 ++ cellsR (l.drop (k + 1)) := by
     rw [← cellsR_one r, ← cellsR_app, ← cellsR_app, ← ht]
    rw [hcell, atC_in _ _ _ _ _ (by rw [hc]; exact hle) (by rw [hc]; omega)]
  ·refine nx ?_
   rcases alj07 i 0 with h0 | h0
   ·exact .inl h0
   ·have := hpos h0 omm; right; omega
  ·refine nx ?_
   rcases alj07 i 0 with h0 | h0
   ·exact .inl h0
   ·have := hpos h0 omm; omega
 ·obtain rfl : k = l.length := by omega
  refine ⟨?_, xr⟩
  have := hc l.length
  rw [ali26] at this hno
  rw [atC_out _ _ omm]
theorem mayL_cons (may : Int → Bool) (prev : Option Int) (left : Int) (r : Rn) (t : List Rn) : mayL may prev left (r :: t) = if r.1 < 1 ∨ r.1 > left ∨ may r.2 = false ∨ prev = some r.2 then false else mayL may (some r.2) (left - r.1) t := rfl
theorem runs_May_spec (s : Sl) (l : List Rn) (m : Int) (w : World) (hs : RdR w s l) (hn : Bd l.length) (hm : inI m) :
  Cal 287 #[s, m] w fun e w' => e = Value.bool (mayR bMay l m) ∧ Ext w w' := by
 have hsn := RdR.len hs
 unfold Bd at hn
 unfold inI at hm
 apply runs_May.vc
 have hprev : ∀ k, k < l.length → (l.take k).getLast? = if k = 0 then none else l[k - 1]? := by
  intro k hk
  rw [List.getLast?_eq_getElem?, alj29, ali12, Nat.min_eq_left omm]
  rcases alj57 k with rfl | h0
  ·simp
  ·rw [if_pos omm, if_neg omm]
 refine ⟨fun n x y wr => ∃ k : Nat, x = k ∧ k + n = l.length ∧ Ext w wr ∧ y ≤ max m 0 ∧ (min m 0 ≤ y) ∧ mayL bMay ((l.take k).getLast?.map (·.2)) y (l.drop k) = mayL bMay none m l, ⟨l.length, 0, rfl, by omega, Ext.rfl' w, by omega, by omega, rfl⟩, ?_⟩
 rintro n us x y wr ⟨k, rfl, hk, xr, hy, hy0, heq⟩
 have hw := wrap_in (n := (k : Int) + 1) (by unfold inI; omega)
 apply Br.mk <;> intro h <;> simp at h
 ·obtain ⟨r, hr⟩ := get_lt (l := l) (i := k) omm
  have hd : l.drop k = r :: l.drop (k + 1) := by
   rw [alj11 omm]
   rw [ali04 omm] at hr
   cases hr; rfl
  rw [hd] at heq
  rw [mayL_cons] at heq
  refine ⟨RdR.inB hs omm, _, _, RdR.ll (hs.ext xr) hr, ?_⟩
  rintro w9 rfl w10 rfl
  have x10 := ((xr.tr (Ext.al _ (.cells #[vzz, vzz] tRun))).setRow xr.size #[r.1, r.2]).drew
  have fin : ∀ w', Ext w w' → (r.1 < 1 ∨ r.1 > y ∨ bMay r.2 = false ∨ (l.take k).getLast?.map (·.2) = some r.2) → Ending.returned (.bool false) = Value.bool (mayR bMay l m) ∧ Ext w w' := by
   intro w' x' hh
   rw [if_pos hh] at heq
   refine ⟨?_, x'⟩
   unfold mayR
   rw [← heq]; simp
  refine Br.mk (fun h1 => ?_) (fun h1 => Br.mk (fun h2 => ?_) (fun h2 => ?_)) <;> simp only [ali27, ali28] at *
  ·exact fin _ x10 (.inl h1)
  ·exact fin _ x10 (.inr (.inl h2))
  ·refine (block_May_spec r.2 _).mono ?_
   rintro e w3 ⟨rfl, x3⟩
   have x4 := x10.tr x3
   have hrow : Row ((wr.alloc (.cells #[vzz, vzz] tRun)).setRow wr.heap.size #[r.1, r.2]).drew wr.heap.size [r.1, r.2] tRun := (Row.new wr [vzz, vzz] tRun).set [r.1, r.2]
   have hrow3 := hrow.ext x3
   have hkeep := x3.heap hrow.lt
   have hll : LoadL w3 (pzq wr.heap.size) 0 [r.1] := by
    refine hrow3.loadL (o := 0) fun j hj => ?_
    have : j = 0 := by simpa using hj
    subst this; rfl
   have nx : ((l.take k).getLast?.map (·.2) ≠ some r.2) → bMay r.2 = true → ∃ n6, n6 < n ∧ ∃ k_1 : Nat, wqq ((k : Int) + 1) = k_1 ∧ k_1 + n6 = l.length ∧ Ext w w3 ∧ wqq (y - r.1) ≤ max m 0 ∧ min m 0 ≤ wqq (y - r.1) ∧ mayL bMay ((l.take k_1).getLast?.map (·.2)) (wqq (y - r.1)) (l.drop k_1) = mayL bMay none m l := by
    intro hne hbm
    have hwy := wrap_in (n := y - r.1) (by unfold inI; omega)
    refine ⟨n - 1, by omega, k + 1, by omega, by omega, x4, by omega, by omega, ?_⟩
    rw [hwy]
    rw [if_neg (by
     rintro (h | h | h | h)
     ·omega
     ·omega
     ·rw [hbm] at h; cases h
     ·exact hne h)] at heq
    rw [← heq, ali09, hr]
    simp
   refine ⟨_, rfl, hkeep, hll, hll, Br.mk (fun h3 => ?_) (fun h3 => ?_)⟩
   ·exact fin _ x4 (.inr (.inr (.inl (by simpa using h3))))
   ·have hbm : bMay r.2 = true := by simpa using h3
    apply Br.mk <;> intro h4 <;> simp at h4
    ·have hwk := wrap_in (n := (k : Int) - 1) (by unfold inI; omega)
     rw [hwk]
     obtain ⟨q, hq⟩ := get_lt (l := l) (i := k - 1) omm
     have hin := RdR.inB hs (i := k - 1) omm
     rw [show ((k - 1 : Nat) : Int) = (k : Int) - 1 from by omega] at hin
     have hcq := RdR.c1 (hs.ext x4) hq
     have hsm := RdR.some hs (i := k - 1) omm
     rw [show ((k : Int) - 1).toNat = k - 1 from by omega]
     have hlast := hprev k omm
     rw [if_neg omm, hq] at hlast
     refine ⟨hin, AndL_nn.2 ⟨hsm, _, hcq, Br.mk (fun h5 => ?_) (fun h5 => ?_)⟩⟩
     ·exact fin _ x4 (.inr (.inr (.inr (by rw [hlast]; simpa using h5))))
     ·exact nx (by rw [hlast]; simpa using h5) hbm
    ·refine nx ?_ hbm
     have : k = 0 := by omega
     subst this; simp
 ·obtain rfl : k = l.length := by omega
  rw [List.drop_length] at heq
  apply Br.mk <;> intro h1 <;> simp at h1
  ·refine ⟨?_, xr⟩
   unfold mayR
   rw [← heq, decide_eq_true h1]
   rfl
  ·refine ⟨?_, xr⟩
   unfold mayR
   rw [decide_eq_false omm]; rfl
end Go.Proofs.YtjcnjlaelhdjeaaGreatDoor
namespace Go.Proofs.YtjcnjlaelhdjeaaGreatDoor
open Go Go.Vc Go.RowKit Go.Proofs Go.Runs
end Go.Proofs.YtjcnjlaelhdjeaaGreatDoor
namespace Go.Proofs.YtjcnjlaelhdjeaaGreatDoor
open Go Go.Vc Go.RowKit Go.Proofs Go.Runs
theorem bGood_bd (n : Int) : 0 ≤ bGood n ∧ bGood n ≤ 15 ∧ bMay (bGood n) = true := by
 have := around_bd n 14 omm
 unfold bGood
 have h : ∀ x : Int, 0 ≤ x → x < 14 → bMay (if x > 5 then x + 2 else x) = true := by
  intro x h0 h1
  unfold bMay
  split <;> simp <;> omega
 refine ⟨?_, ?_, h _ this.1 this.2⟩ <;> split <;> omega
end Go.Proofs.YtjcnjlaelhdjeaaGreatDoor
namespace Go.Proofs.YtjcnjlaelhdjeaaGreatDoor
open Go Go.Vc Go.RowKit Go.Proofs Go.Runs
end Go.Proofs.YtjcnjlaelhdjeaaGreatDoor
namespace Go.Proofs.YtjcnjlaelhdjeaaGreatDoor
open Go Go.Vc Go.RowKit Go.Proofs Go.Runs
end Go.Proofs.YtjcnjlaelhdjeaaGreatDoor
namespace Go.Proofs.YtjcnjlaelhdjeaaGreatDoor
open Go Go.Vc Go.RowKit Go.Proofs Go.Chk
abbrev pv (p : Po) : Value := .agg #[p.1, p.2]
abbrev cev (c : Ce) : Value := .agg #[c.1, c.2.1, c.2.2]
abbrev tCe : TypeId := 23
abbrev tPo : TypeId := 139
theorem cDiv_spec (a b : Int) (ha : inI a) (hb : 0 < b) (w : World) : Cal 239 #[a, b] w fun e w' => e = Value.int .i64 (a / b) ∧ w' = w := by
 apply cell_Div.vc
 obtain ⟨h1, h2, h3, h4⟩ := tdm (a := a) hb
 have hq := ediv_in ha hb
 have ht := tdiv_in ha hb
 refine Br.mk (fun h => ?_) (fun _ => AndL_iff.2 ⟨nzC_iff.2 omm, AndL_iff.2 ⟨nzC_iff.2 omm, Br.mk (fun h => ?_) (fun h => ?_)⟩⟩)
 ·simp only [ali27] at h; omega
 ·replace h := q0T h
  rw [wrap_in ht, ← (h1 h).1, wrap_in hq]; exact ⟨rfl, rfl⟩
 ·replace h := q0F h
  rw [wrap_in ht, ← (h2 omm).1]; exact ⟨rfl, rfl⟩
theorem cMod_spec (a b : Int) (hb : 0 < b) (hb' : b ≤ 1000000) (w : World) : Cal 349 #[a, b] w fun e w' => e = Value.int .i64 (a % b) ∧ w' = w := by
 apply cell_Mod.vc
 obtain ⟨h1, h2, h3, h4⟩ := tdm (a := a) hb
 refine Br.mk (fun h => ?_) (fun _ => AndL_iff.2 ⟨nzC_iff.2 omm, Br.mk (fun h => ?_) (fun h => ?_)⟩)
 ·simp only [ali27] at h; omega
 ·replace h := q0T h
  rw [wI, ← (h1 h).2]; exact ⟨rfl, rfl⟩
 ·replace h := q0F h
  rw [← (h2 omm).2]; exact ⟨rfl, rfl⟩
theorem rDiv1_spec (a b : Int) (ha : inI a) (hb : 0 < b) (w : World) : Cal 171 #[a, b] w fun e w' => e = Value.int .i64 (a / b) ∧ w' = w := by
 apply ref01_Div.vc
 obtain ⟨h1, h2, h3, h4⟩ := tdm (a := a) hb
 have hq := ediv_in ha hb
 have ht := tdiv_in ha hb
 have hm : b * a.tdiv b + a.tmod b = a := Int.mul_tdiv_add_tmod a b
 have hsg : (0 ≤ a → 0 ≤ a.tmod b) ∧ (a ≤ 0 → a.tmod b ≤ 0) := by
  refine ⟨fun h => Int.tmod_nonneg b h, fun h => ?_⟩
  have := Int.tmod_nonneg (a := -a) b omm
  rw [Int.neg_tmod] at this; omega
 have hmul : a.tdiv b * b = a - a.tmod b := by rw [Int.mul_comm]; omega
 have hin : inI (a.tdiv b * b) := by
  rw [hmul]
  unfold inI at *
  rcases alj07 a 0 with h | h
  ·have := hsg.2 omm
   have := (tdm (a := a) hb)
   have hle : a - a.tmod b ≤ 0 := by
    rcases alj07 0 (a - a.tmod b) with h5 | h5
    ·exfalso
     rw [← hmul] at h5
     have h6 : a.tdiv b ≤ 0 := by
      have := Int.tdiv_nonneg (a := -a) (b := b) omm omm
      rw [Int.neg_tdiv] at this; omega
     have := Int.mul_nonpos_of_nonpos_of_nonneg h6 (by omega : 0 ≤ b)
     omega
    ·exact h5
   omega
  ·have := hsg.1 h
   have h6 : 0 ≤ a.tdiv b := Int.tdiv_nonneg h omm
   have := alj08 h6 (by omega : 0 ≤ b)
   omega
 rw [wrap_in ht, wrap_in hin]
 refine AndL_iff.2 ⟨nzC_iff.2 omm, Br.mk (fun h => ?_) (fun h => ?_)⟩
 ·simp only [ali27, gt_iff_lt] at h
  rw [← (h1 omm).1, wrap_in hq]; exact ⟨rfl, rfl⟩
 ·simp only [ali28, gt_iff_lt] at h
  rw [← (h2 omm).1]; exact ⟨rfl, rfl⟩
def okC (c : Ce) : Prop := inI c.1 ∧ inI c.2.1 ∧ inI c.2.2
theorem cIndex_spec (c : Ce) (w : World) : Cal 296 #[cev c] w fun e w' => (∃ i b, e = Value.tuple #[.int .i64 i, .bool b] ∧ ((b = true ∧ inY c ∧ i = idx c) ∨ (b = false ∧ ¬ inY c ∧ i = 0))) ∧ Ext w w' := by
 apply cell_Index.vc
 intro w0 e0
 have x0 := eaa e0
 have hb : Row w0 w [c.1, c.2.1, c.2.2] tCe := Row.nw e0
 have hbd := hb.ext (Ext.dr w0)
 refine Br.mk (fun h => ?_) (fun h => Br.mk (fun h2 => ?_) (fun h2 => ?_)) <;> simp only [ali27, ali28] at *
 ·exact ⟨⟨_, _, rfl, .inr ⟨rfl, by unfold inY; omega, rfl⟩⟩, x0⟩
 ·exact ⟨⟨_, _, rfl, .inr ⟨rfl, by unfold inY; omega, rfl⟩⟩, x0⟩
 ·refine (cMod_spec c.2.2 16 dcc dcc w0.drew).mono ?_
  rintro e w1 ⟨rfl, rfl⟩
  refine ⟨_, rfl, rfl, hbd.loadL (fun j hj => by simp at hj; subst hj; rfl), hbd.loadL (fun j hj => by simp at hj; subst hj; rfl), (cMod_spec c.1 16 dcc dcc _).mono ?_⟩
  rintro e w1 ⟨rfl, rfl⟩
  have e1 : wqq (c.2.1 * 16) = c.2.1 * 16 := wI
  have e2 : wqq (c.2.1 * 16 + c.2.2 % 16) = c.2.1 * 16 + c.2.2 % 16 := wI
  have e3 : wqq ((c.2.1 * 16 + c.2.2 % 16) * 16) = (c.2.1 * 16 + c.2.2 % 16) * 16 := wI
  have e4 : wqq ((c.2.1 * 16 + c.2.2 % 16) * 16 + c.1 % 16) = idx c := wI
  refine ⟨_, rfl, rfl, hbd.loadL (fun j hj => by simp at hj; subst hj; rfl), ?_, x0.drew⟩
  rw [e1, e2, e3, e4]
  exact ⟨_, _, rfl, .inl ⟨rfl, by unfold inY; omega, rfl⟩⟩
theorem cChunk_spec (c : Ce) (hc : okC c) (w : World) : Cal 172 #[cev c] w fun e w' => e = (pv (pos c)) ∧ Ext w w' := by
 apply cell_Chunk.vc
 intro w0 e0 w1 e1
 have x1 : Ext w w1.drew := ((eaa e0).of_alloc e1).drew
 have z0 := hs1 e0
 have hb : Row w1.drew w [c.1, c.2.1, c.2.2] tCe := ((by rw [e0]; exact Row.new w [_, _, _] _ : Row w0 w [c.1, c.2.1, c.2.2] tCe).ext (eaa e1)).ext (Ext.dr _)
 refine (cDiv_spec c.1 16 hc.1 dcc w1.drew).mono ?_
 rintro e w2 ⟨rfl, rfl⟩
 refine ⟨_, rfl, rfl, rfl, hb.loadL (fun j hj => by simp at hj; subst hj; rfl), (cDiv_spec c.2.2 16 hc.2.2 dcc _).mono ?_⟩
 rintro e w2 ⟨rfl, rfl⟩
 refine ⟨_, rfl, rfl, rfl, fun w6 e6 => ⟨rfl, x1.of_setRow e6 omm⟩⟩
def okP (p : Po) : Prop := (-1099511627776 ≤ p.1 ∧ p.1 ≤ 1099511627776) ∧ (-1099511627776 ≤ p.2 ∧ p.2 ≤ 1099511627776)
theorem cFrom_spec (p : Po) (hp : okP p) (i : Int) (hi : 0 ≤ i ∧ i < 8192) (w : World) : Cal 338 #[pv p, i] w fun e w' => e = Value.tuple #[cev (cellAt p i), true] ∧ Ext w w' := by
 apply cell_From.vc
 obtain ⟨⟨p1, p2⟩, p3, p4⟩ := hp
 intro w0 e0 w1 e1
 have z0 := hs1 e0
 have x1 : Ext w w1 := (eaa e0).of_alloc e1
 have t1 : Int.tmod i 16 = i % 16 := alj09 hi.1
 have t2 : Int.tdiv i 256 = i / 256 := ali23 hi.1
 have t3 : Int.tdiv i 16 = i / 16 := ali23 hi.1
 have t4 : Int.tmod (i / 16) 16 = i / 16 % 16 := alj09 omm
 have w1' : wqq (i / 16) = i / 16 := wI
 have w2' : wqq (i / 256) = i / 256 := wI
 have w3' : wqq (p.1 * 16) = p.1 * 16 := wI
 have w4' : wqq (p.2 * 16) = p.2 * 16 := wI
 have w5' : wqq (p.1 * 16 + i % 16) = p.1 * 16 + i % 16 := wI
 have w6' : wqq (p.2 * 16 + i / 16 % 16) = p.2 * 16 + i / 16 % 16 := wI
 rw [t1, t2, t3, w1', w2', w3', w4', t4, w5', w6']
 refine Br.mk (fun h => ?_) (fun _ => Br.mk (fun h => ?_) (fun _ w4 e4 => ⟨rfl, x1.of_setRow e4 omm⟩)) <;> simp only [ali27] at h <;> omega
end Go.Proofs.YtjcnjlaelhdjeaaGreatDoor
namespace Go.Proofs.YtjcnjlaelhdjeaaGreatDoor
open Go Go.Vc Go.RowKit Go.Proofs Go.Chk
theorem gHash_spec (s x z : Int) (w : World) : Cal 372 #[s, x, z] w fun e w' => e = Value.int .u64 (hash s x z) ∧ w' = w := by
 apply gen_Hash.vc
 rw [sh29, sh32]
 exact ⟨rfl, rfl⟩
theorem cornerE (s x z : Int) : wqq (Int.tmod (hash s x z) 9) = corner s x z := by
 rw [alj09 (hash_in s x z)]
 exact wI
theorem gCorner_spec (s x z near : Int) (hn : 0 ≤ near ∧ near ≤ 64) {b : Nat} {w : World} (hb : Row w b [s] tInt) : Cal 371 #[x, z, near, b] w fun e w' => e = Value.int .i64 (corner s x z * near) ∧ w' = w := by
 apply gen_Ground_1.vc
 refine ⟨s, by rw [hb.ld]; rfl, (gHash_spec s x z w).mono ?_⟩
 rintro e w1 ⟨rfl, rfl⟩
 refine ⟨_, rfl, ?_⟩
 rw [cornerE]
 have hc := corner_in s x z
 have h1 : 0 ≤ corner s x z * near := alj08 hc.1 hn.1
 have h2 : corner s x z * near ≤ 8 * 64 := Int.mul_le_mul hc.2 hn.2 hn.1 dcc
 rw [wI]
 exact ⟨rfl, rfl⟩
theorem gGround_spec (s x z : Int) (hx : inI x) (hz : inI z) (w : World) : Cal 339 #[s, x, z] w fun e w' => e = Value.int .i64 (ground s x z) ∧ Ext w w' := by
 apply gen_Ground.vc
 intro w0 e0
 have x0 := eaa e0
 have hb : Row w0 w [s] tInt := Row.nw e0
 refine (cDiv_spec x 8 hx dcc w0).mono ?_
 rintro e w1 ⟨rfl, rfl⟩
 refine ⟨_, rfl, rfl, (cDiv_spec z 8 hz dcc w1).mono ?_⟩
 rintro e w1 ⟨rfl, rfl⟩
 refine ⟨_, rfl, rfl, (cMod_spec x 8 dcc dcc w1).mono ?_⟩
 rintro e w1 ⟨rfl, rfl⟩
 refine ⟨_, rfl, rfl, (cMod_spec z 8 dcc dcc w1).mono ?_⟩
 rintro e w1 ⟨rfl, rfl⟩
 refine ⟨_, rfl, rfl, ?_⟩
 have hdx : inI (x / 8 + 1) := by unfold inI at *; omega
 have hdz : inI (z / 8 + 1) := by unfold inI at *; omega
 have a := mul_bd (corner_in s (x / 8) (z / 8)) (u := 8 - x % 8) (v := 8 - z % 8) omm omm
 have b := mul_bd (corner_in s (x / 8 + 1) (z / 8)) (u := x % 8) (v := 8 - z % 8) omm omm
 have c := mul_bd (corner_in s (x / 8) (z / 8 + 1)) (u := 8 - x % 8) (v := z % 8) omm omm
 have d := mul_bd (corner_in s (x / 8 + 1) (z / 8 + 1)) (u := x % 8) (v := z % 8) omm omm
 have q1 : wqq (8 - x % 8) = 8 - x % 8 := wI
 have q2 : wqq (8 - z % 8) = 8 - z % 8 := wI
 rw [q1, q2, wrap_in hdx, wrap_in hdz, wrap_in (n := (8 - x % 8) * (8 - z % 8)) (by unfold inI; omega), wrap_in (n := x % 8 * (8 - z % 8)) (by unfold inI; omega), wrap_in (n := (8 - x % 8) * (z % 8)) (by unfold inI; omega), wrap_in (n := x % 8 * (z % 8)) (by unfold inI; omega)]
 refine (gCorner_spec s _ _ _ ⟨a.1, a.2.1⟩ hb).mono ?_
 rintro e w1 ⟨rfl, rfl⟩
 refine ⟨_, rfl, (gCorner_spec s _ _ _ ⟨b.1, b.2.1⟩ hb).mono ?_⟩
 rintro e w1 ⟨rfl, rfl⟩
 refine ⟨_, rfl, (gCorner_spec s _ _ _ ⟨c.1, c.2.1⟩ hb).mono ?_⟩
 rintro e w1 ⟨rfl, rfl⟩
 refine ⟨_, rfl, (gCorner_spec s _ _ _ ⟨d.1, d.2.1⟩ hb).mono ?_⟩
 rintro e w1 ⟨rfl, rfl⟩
 refine ⟨_, rfl, ?_, x0⟩
 have hg := ground_in s x z
 have e1 : ground s x z = 6 + (corner s (x / 8) (z / 8) * ((8 - x % 8) * (8 - z % 8)) + corner s (x / 8 + 1) (z / 8) * (x % 8 * (8 - z % 8)) + corner s (x / 8) (z / 8 + 1) * ((8 - x % 8) * (z % 8)) + corner s (x / 8 + 1) (z / 8 + 1) * (x % 8 * (z % 8))) / 64 := rfl
 generalize corner s (x / 8) (z / 8) * ((8 - x % 8) * (8 - z % 8)) = A at *
 generalize corner s (x / 8 + 1) (z / 8) * (x % 8 * (8 - z % 8)) = B at *
 generalize corner s (x / 8) (z / 8 + 1) * ((8 - x % 8) * (z % 8)) = C at *
 generalize corner s (x / 8 + 1) (z / 8 + 1) * (x % 8 * (z % 8)) = D at *
 rw [wrap_in (n := A + B) (by unfold inI; omega), wrap_in (n := A + B + C) (by unfold inI; omega), wrap_in (n := A + B + C + D) (by unfold inI; omega), ali23 omm, wrap_in (n := (A + B + C + D) / 64) (by unfold inI; omega), ← e1, wI]
theorem gOf_spec (y g : Int) (hg : 6 ≤ g ∧ g ≤ 100) (w : World) : Cal 340 #[y, g] w fun e w' => e = Value.int .i64 (ofG y g) ∧ w' = w := by
 apply gen_of.vc
 have q1 : wqq (g - 3) = g - 3 := wI
 have q2 : wqq (g - 1) = g - 1 := wI
 rw [q1, q2]
 have fin : ∀ {v : Int}, ofG y g = v → (Ending.returned v = Value.int .i64 (ofG y g) ∧ w = w) := fun h => ⟨by rw [h], rfl⟩
 refine Br.mk (fun h1 => fin ?_) (fun h1 => Br.mk (fun h2 => fin ?_) (fun h2 => Br.mk (fun h3 => fin ?_) (fun h3 => Br.mk (fun h4 => fin ?_) (fun h4 => Br.mk (fun h5 => fin ?_) (fun h5 => Br.mk (fun h6 => Br.mk (fun h7 => fin ?_) (fun h7 => Br.mk (fun h8 => fin ?_) (fun h8 => Br.mk (fun h9 => fin ?_) (fun h9 => fin ?_)))) (fun h6 => Br.mk (fun h8 => fin ?_) (fun h8 => Br.mk (fun h9 => fin ?_) (fun h9 => fin ?_))))))))
 all_goals simp only [ali27, ali28, beq_iff_eq, beq_eq_false_iff_ne, ne_eq] at *
 all_goals unfold ofG
 all_goals (repeat' split) <;> omega
end Go.Proofs.YtjcnjlaelhdjeaaGreatDoor
namespace Go.Proofs.YtjcnjlaelhdjeaaGreatDoor
open Go Go.Vc Go.RowKit Go.Proofs Go.Chk Go.Runs
theorem made_get (seed : Int) (p : Po) {k : Nat} (hk : k < 8192) : (made seed p)[k]? = some (ofG (cellAt p k).2.1 (ground seed (cellAt p k).1 (cellAt p k).2.2)) := by
 unfold made
 rw [ali02, alj27 hk]; rfl
theorem okC_at {p : Po} (hp : okP p) (i : Int) (hi : 0 ≤ i ∧ i < 8192) : okC (cellAt p i) := by
 obtain ⟨⟨p1, p2⟩, p3, p4⟩ := hp
 unfold okC cellAt inI
 simp only
 omega
end Go.Proofs.YtjcnjlaelhdjeaaGreatDoor
namespace Go.Proofs.YtjcnjlaelhdjeaaGreatDoor
open Go Go.Vc Go.RowKit Go.Proofs Go.Chk Go.Runs
def grV (seed : Int) (p : Po) (k : Nat) : LV := (List.range 256).map fun i : Nat => .int .i64 (if i < k then ground seed (cellAt p i).1 (cellAt p i).2.2 else 0)
theorem grV_len (seed : Int) (p : Po) (k : Nat) : (grV seed p k).length = 256 := by simp [grV]
theorem grV_get (seed : Int) (p : Po) (k : Nat) {i : Nat} (hi : i < 256) : (grV seed p k)[i]? = some (.int .i64 (if i < k then ground seed (cellAt p i).1 (cellAt p i).2.2 else 0)) := by
 unfold grV
 rw [ali02, alj27 hi]; rfl
theorem grV_set (seed : Int) (p : Po) {k : Nat} (hk : k < 256) : (grV seed p k).set k (.int .i64 (ground seed (cellAt p k).1 (cellAt p k).2.2)) = grV seed p (k + 1) := by
 apply ali20
 intro i
 rw [ali33]
 rcases alj62 i 256 with h | h
 ·rw [grV_get _ _ (k + 1) h]
  split
  ·rename_i e
   subst e
   rw [if_pos (by rw [grV_len]; exact h), if_pos omm]
  ·rename_i e
   rw [grV_get _ _ k h]
   congr 3
   exact propext ⟨fun h => by omega, fun h => by omega⟩
 ·rw [ali13 (by rw [grV_len]; exact h), ali13 (by rw [grV_len]; exact h), if_neg omm]
theorem grV_zero (seed : Int) (p : Po) : grV seed p 0 = List.replicate 256 (.int .i64 0) := by
 apply List.ext_getElem?
 intro i
 rcases Nat.lt_or_ge i 256 with h | h
 ·rw [grV_get _ _ 0 h, List.getElem?_replicate, if_pos h, if_neg (by omega)]
 ·rw [List.getElem?_eq_none (by rw [grV_len]; exact h), List.getElem?_eq_none (by rw [List.length_replicate]; exact h)]
def madeX (seed : Int) (p : Po) : List (LV) := (made seed p).map fun b => [.int .i64 b]
theorem madeX_len (seed : Int) (p : Po) : (madeX seed p).length = 8192 := by unfold madeX; rw [ali01, made_len]
theorem made_gr (seed : Int) (p : Po) {k : Nat} (hk : k < 8192) : (made seed p)[k]? = some (ofG ((k : Int) / 256) (ground seed (cellAt p ((k % 256 : Nat) : Int)).1 (cellAt p ((k % 256 : Nat) : Int)).2.2)) := by
 rw [made_get seed p hk]
 have e1 : (cellAt p ((k % 256 : Nat) : Int)).1 = (cellAt p k).1 := by unfold cellAt; simp only; omega
 have e2 : (cellAt p ((k % 256 : Nat) : Int)).2.2 = (cellAt p k).2.2 := by unfold cellAt; simp only; omega
 rw [e1, e2]; rfl
abbrev genRd (bp bs : Nat) : Nat → Prop := fun i => i = bp ∨ i = bs
abbrev genFn (bp bs : Nat) : Value := .func (.func 337) #[] #[bp, bs]
attribute [local irreducible] made grV in
set_option maxRecDepth 100000 in
theorem gen_Cells_iter (seed : Int) (p : Po) (hp : okP p) (bp bs : Nat) (W0 : World) (hbp : Row W0 bp [p.1, p.2] tPo) (hbs : Row W0 bs [seed] tInt) :
  Iter Tryz.prog (genFn bp bs) W0 (genRd bp bs) (madeX seed p) := by
 refine ⟨⟨_, _, _, rfl, by kernel_rfl⟩, ?_⟩
 intro y B J Jx F0 W hB hsJ hsX hbd hRd hround h0
 refine callV_of (by kernel_rfl) (by rfl) ?_
 apply gen_Cells_1.vc
 have same : ∀ {w : World} {F : Nat → Prop}, (∀ i, genRd bp bs i → ¬ F i ∧ i < w.heap.size ∧ w.heap[i]? = W0.heap[i]?) → Row w bp [p.1, p.2] tPo ∧ Row w bs [seed] tInt := fun {w F} h =>
  ⟨hbp.same (h bp (.inl rfl)).2.2, hbs.same (h bs (.inr rfl)).2.2⟩
 intro w0 e0
 have x0 : Ext W w0 := (Ext.rfl' W).of_alloc e0
 have z0 := hs1 e0
 have hg0 : Row w0 W.heap.size (grV seed p 0) 364 := by rw [e0, grV_zero]; exact Row.new W (List.replicate 256 (0:Int)) _
 clear e0
 have hF0 := hbd _ _ _ h0
 have bel : ∀ {w : World}, Ext W w → J 0 F0 w ∧ ∀ i, genRd bp bs i → ¬ F0 i ∧ i < w.heap.size ∧ w.heap[i]? = W0.heap[i]? := fun {w} x =>
  ⟨hsJ _ _ _ _ h0 (Below.mono x hB) fun i hi => x.heap (hF0 i hi), fun i hi => by
   obtain ⟨h1, h2, h3⟩ := hRd i hi
   exact ⟨h1, by have := x.size; omega, (x.heap h2).trans h3⟩⟩
 refine ⟨fun n x wr => Ext W wr ∧ W.heap.size < wr.heap.size ∧ ∃ k : Nat, x = k ∧ k + n = 256 ∧ Row wr W.heap.size (grV seed p k) 364, ⟨256, x0, by omega, 0, rfl, by omega, hg0⟩, ?_⟩
 rintro n us x wr ⟨xr, zr, k, rfl, hk, hg⟩
 refine Br.mk (fun hc => ?_) (fun hc => ?_)
 ·replace hc := q0T hc
  obtain ⟨hb1, hb2⟩ := same (bel xr).2
  refine ⟨p.1, p.2, hb1.loadL (fun j hj => by rw [Nat.zero_add]), (cFrom_spec p hp k (by omega) wr).mono ?_⟩
  rintro e w9 ⟨rfl, x9⟩
  refine ⟨_, _, _, _, rfl, ?_⟩
  intro w14 e14 w15 e15
  have x15 : Ext w9 w15 := ((Ext.rfl' _).of_alloc e14).of_setRow e15 (Nat.le_refl _)
  have z15 : w15.heap.size = w9.heap.size + 1 := by rw [e15, setRow_size, e14]; simp
  have z9 := x9.size
  have hb15 := hb2.ext (x9.tr x15)
  refine ⟨seed, by rw [hb15.ld]; rfl, ?_⟩
  have hok := okC_at hp k ⟨by omega, by omega⟩
  refine (gGround_spec seed _ _ hok.1 hok.2.2 w15).mono ?_
  rintro e w17 ⟨rfl, x17⟩
  have z17 := x17.size
  have hg17 := hg.ext ((x9.tr x15).tr x17)
  have hk1 : ((k : Int).toNat * 1) = k := by omega
  rw [hk1]
  obtain ⟨p1, p2⟩ := hg17.put1 (j := k) (v := .int .i64 (ground seed (cellAt p k).1 (cellAt p k).2.2)) (by rw [grV_len]; omega) rfl
  refine ⟨_, rfl, x17.k, by omega, by omega, ⟨rfl, p1⟩, ?_, fun w19 e19 => ?_⟩
  ·rw [pblk_padd]
   intro e
   have : W.heap.size = w9.heap.size := by simpa [pblk] using e
   omega
  ·obtain ⟨q1, q2⟩ := p2 w19 e19
   have hwk : IntKind.wrap .i64 ((k : Int) + 1) = ((k + 1 : Nat) : Int) := by rw [wI]; omega
   have hput : putCells (grV seed p k) k [.int .i64 (ground seed (cellAt p k).1 (cellAt p k).2.2)] = grV seed p (k + 1) := by rw [← grV_set seed p (by omega)]; rfl
   rw [hput] at q1
   exact ⟨n - 1, by omega, q2.ext (xr.tr ((x9.tr x15).tr x17)) (fun i hi => by omega), by have := q2.size; omega, k + 1, hwk, by omega, q1⟩
 ·replace hc := q0F hc
  have hk256 : k = 256 := by omega
  subst hk256
  obtain ⟨hJr, hKr⟩ := bel xr
  refine ⟨fun n x wr => ∃ (k : Nat) (F : Nat → Prop), x = k ∧ k + n = 8192 ∧ B ≤ wr.heap.size ∧ W.heap.size < wr.heap.size ∧ ¬ F W.heap.size ∧ J k F wr ∧ Row wr W.heap.size (grV seed p 256) 364,
   ⟨8192, 0, F0, rfl, by omega, by omega, zr, fun hf => by have := hF0 _ hf; omega, hJr, hg⟩, ?_⟩
  rintro n us x wq ⟨k, F, rfl, hk, hBq, hzq, hnF, hJq, hgq⟩
  refine Br.mk (fun hc => ?_) (fun hc => ?_)
  ·replace hc := q0T hc
   have t1 : Int.tmod (k : Int) 256 = ((k % 256 : Nat) : Int) := by rw [Int.tmod_eq_emod_of_nonneg (by omega)]; omega
   have t2 : IntKind.wrap .i64 (Int.tdiv (k : Int) 256) = (k : Int) / 256 := by rw [Int.tdiv_eq_ediv_of_nonneg (by omega), wI]
   rw [t1, t2]
   have hk1 : (((k % 256 : Nat) : Int).toNat * 1) = k % 256 := by omega
   rw [hk1]
   have hget := grV_get seed p 256 (i := k % 256) (by omega)
   rw [if_pos (by omega)] at hget
   refine ⟨by omega, by omega, _, hgq.at _ hget, (gOf_spec _ _ (ground_in _ _ _) wq).mono ?_⟩
   rintro e w27 ⟨rfl, rfl⟩
   refine ⟨_, rfl, ?_⟩
   have hx : (madeX seed p)[k]? = some [.int .i64 (ofG ((k : Int) / 256) (ground seed (cellAt p ((k % 256 : Nat) : Int)).1 (cellAt p ((k % 256 : Nat) : Int)).2.2))] := by
    unfold madeX; rw [List.getElem?_map, made_gr seed p (by omega)]; rfl
   refine callV_mono (hround _ _ _ _ hx hJq) ?_
   have hwk : IntKind.wrap .i64 ((k : Int) + 1) = ((k + 1 : Nat) : Int) := by rw [wI]; omega
   rintro e w29 (⟨rfl, F2, hJ2, hst⟩ | ⟨rfl, F2, hJ2, hst⟩)
   ·refine ⟨true, rfl, Br.mk (fun h => by cases h) (fun _ => ⟨n - 1, by omega, k + 1, F2, hwk, by omega, by have := hst.size; omega, by have := hst.size; omega, fun hf => ?_, hJ2, hgq.same (hst.same _ hzq hnF)⟩)⟩
    rcases hst.sub _ hf with hf | hf
    ·exact hnF hf
    ·omega
   ·exact ⟨false, rfl, Br.mk (fun _ => ⟨⟨_, rfl⟩, .inr ⟨F2, hJ2⟩⟩) (fun h => by cases h)⟩
  ·replace hc := q0F hc
   have hk8 : k = 8192 := by omega
   subst hk8
   exact ⟨⟨_, rfl⟩, .inl ⟨F, by rw [madeX_len]; exact hJq⟩⟩
theorem gen_Cells_spec (seed : Int) (p : Po) (w : World) : Cal 289 #[seed, pv p] w fun e w' => e = (genFn (w.heap.size + 1) w.heap.size) ∧ Row w' (w.heap.size + 1) [p.1, p.2] tPo ∧ Row w' w [seed] tInt ∧ Ext w w' := by
 apply gen_Cells.vc
 intro w0 e0 w1 e1
 have z0 := hs1 e0
 have x1 := eaa e1
 have hb : Row w0 w [seed] tInt := Row.nw e0
 refine ⟨by rw [z0], ?_, hb.ext x1, (eaa e0).tr x1⟩
 rw [← z0, e1]; exact Row.new w0 [_, _] _
end Go.Proofs.YtjcnjlaelhdjeaaGreatDoor
namespace Go.Proofs.YtjcnjlaelhdjeaaGreatDoor
open Go Go.Vc Go.RowKit Go.Proofs Go.Chk Go.Runs
theorem clip_spec (s : Sl) (c : List Int) (w : World) (hs : OwC 0 w s c) : Cal 291 #[s] w fun e w' => (∃ s' : Sl, e = s' ∧ RdC w s' c) ∧ w' = w := by
 apply slices_Clip_int.vc
 have hn := RdC.len hs.rdc
 have hcap : s.n ≤ s.c := by
  rcases OwnK.form hs dcc with ⟨h, -⟩ | ⟨g0, cs, ha, hg0, hr, hc, hnc, -⟩
  ·rw [h]; exact ali34 _
  ·exact hnc
 have := RdK.cut hs.rdc (m := s.n) (c' := s.n) (c'' := s.n) (by rw [ali01]; omega)
 rw [ali11 (by rw [ali01]; omega)] at this
 exact ⟨by omega, by omega, by omega, by omega, ⟨⟨slBase s.a 0 s.n 1, s.n, s.n⟩, rfl, this⟩, rfl⟩
attribute [local irreducible] made in
set_option maxRecDepth 100000 in
theorem gChunk_spec (seed : Int) (p : Po) (hp : okP p) (w : World) : Cal 234 #[seed, pv p] w fun e w' => ∃ s' : Sl, e = s' ∧ OwR w w' s' (ofC (made seed p)) ∧ Ext w w' := by
 apply gen_Chunk.vc
 intro w0 e0 w1 e1
 have z0 := hs1 e0
 have z1 : w1.heap.size = w.heap.size + 2 := by rw [e1]; simp [z0]
 have x01 : Ext w w1 := (eaa e0).of_alloc e1
 refine (gen_Cells_spec seed p w1).mono ?_
 rintro e w2 ⟨rfl, hbp, hbs, x2⟩
 have hlt := hbp.lt
 have xx := x01.tr x2
 have zz := xx.size
 refine ⟨_, rfl, x2.heap omm, x2.heap omm, ?_⟩
 refine ⟨madeX seed p, genRd (w1.heap.size + 1) w1.heap.size, fun _ => False, fun n F s w' => (∀ i, F i ↔ s.blk = some i) ∧ OwC (w2.heap.size + 2) w' s ((made seed p).take n) ∧ Ext w w' ∧ w2.heap.size + 2 ≤ w'.heap.size, fun _ _ _ _ => False,
  ?_, ?_, fun _ _ _ _ _ h => h.elim, ?_, fun _ _ _ _ h => h.elim, fun i hi => ⟨by rcases hi with h | h <;> omega, id, by rcases hi with h | h <;> omega, by rcases hi with h | h <;> omega, trivial⟩, ?_, ?_, ?_, trivial⟩
 ·intro x hx
  obtain ⟨b, _, rfl⟩ := ali06.1 hx
  exact ⟨b, rfl⟩
 ·rintro n F s w3 w4 ⟨hF, ho, hbl, hz⟩ hbl2 hsame
  exact ⟨hF, OwnK.keep ho fun i hi => hsame i ((hF i).2 hi), hbl.trans (Below.mono hbl2 zz), by have := hbl2.size; omega⟩
 ·rintro n F s w3 ⟨hF, ho, hbl, hz⟩ i hi
  have := ho.own.lt ((hF i).1 hi)
  omega
 ·intro w3 hbeg
  have hbel : Below w2 w2 w3 := hbeg.ext
  refine ⟨gen_Cells_iter seed p hp _ _ w3 (hbp.ext hbel) (hbs.ext hbel), rfl, ?_, ?_, xx.trans (Below.mono hbel zz), by have := hbeg.size; omega⟩
  ·intro i; simp [Sl.blk]
  ·rw [ali40]; exact OwnK.nil
 ·rintro n F us o y w3 hx hI
  have hy : (made seed p)[n]? = some y := by
   unfold madeX at hx
   rw [ali02, alj68] at hx
   obtain ⟨b, hb, e⟩ := hx
   have : b = y := by simpa using e
   rw [← this]; exact hb
  refine ⟨Below.refl _ _, fun w4 hrec hI3 => ?_⟩
  obtain ⟨hF, ho, hbl, hz⟩ := hI3
  intro w5 e5
  have x5 := eaa e5
  have z5 := hs1 e5
  have hnl : n < 8192 := by have := (ali03.1 hy).1; rw [made_len] at this; exact this
  have hon := RdC.len ho.rdc
  rw [ali12, made_len] at hon
  obtain ⟨hp1, hres⟩ := (OwnK.ext ho x5).append (bytes := 8) (news := iv y) omm rfl (one_i _ _) omm omm
  refine ⟨hp1, fun s5 w6 hr => ?_⟩
  obtain ⟨ho5, hn5, xb, hkp, hblk⟩ := hres s5 w6 hr
  have hob : ∀ i, o.blk = some i → w2.heap.size + 2 ≤ i ∧ i < w4.heap.size := fun i hi => ho.own.lt hi
  have hz6 := xb.size
  refine ⟨hkp _ (fun hb => by have := hob _ hb; omega) omm, hkp _ (fun hb => by have := hob _ hb; omega) omm, hkp _ (fun hb => by have := hob _ hb; omega) omm, ?_⟩
  intro w7 hw7
  have e7 : ∀ i, i ≠ w0.heap.size → w7.heap[i]? = w6.heap[i]? := fun i hi => by rw [hw7]; exact setRow_other _ _ _ _ hi
  have z7 : w7.heap.size = w6.heap.size := by rw [hw7, setRow_size]
  have hb5 : ∀ i, s5.blk = some i → w2.heap.size + 2 ≤ i := fun i hi => by
   rcases hblk with h | h
   ·exact (hob i (by rw [← h]; exact hi)).1
   ·rw [h] at hi; simp at hi; omega
  refine ⟨fun i => s5.blk = some i, ⟨rfl, fun i => Iff.rfl, ?_, ?_, by omega⟩, Step.late ⟨?_, by omega, ?_⟩⟩
  ·have e : (made seed p).take (n + 1) = (made seed p).take n ++ [y] := by rw [ali09, hy]; rfl
   rw [e]
   have h5 : OwC (w2.heap.size + 2) w6 s5 ((made seed p).take n ++ [y]) := by
    show OwnK _ _ 1 _ _ (((made seed p).take n ++ [y]).map iv)
    rw [ali08]; exact ho5
   exact OwnK.keep h5 fun i hi => e7 i (by have := hb5 i hi; omega)
  ·have h5 : Ext w w6 := (hbl.tr x5).trans (Below.mono xb omm)
   rw [hw7]; exact h5.setRow omm _
  ·rintro i (hi | hi)
   ·rcases hblk with h | h
    ·exact .inl (.inl ((hF i).2 (by rw [← h]; exact hi)))
    ·rw [h] at hi; simp at hi; exact .inr omm
   ·exact .inl (.inr hi)
  ·intro i hi hni
   have h1 : i ≠ w0.heap.size := fun e => hni (.inr (by simp [e]))
   rw [e7 i h1, hkp i (fun hb => hni (.inl ((hF i).2 hb))) omm]
   exact x5.heap hi
 ·rintro F us o w3 ⟨hF, ho, hbl, hz⟩ hD
  rw [madeX_len, ali11 (by rw [made_len]; exact ali34 _)] at ho
  refine (clip_spec o (made seed p) w3 (OwnK.low ho (alj66 _))).mono ?_
  rintro e w4 ⟨⟨s4, rfl, hs4⟩, rfl⟩
  refine ⟨s4, rfl, rfl, rfl, (runs_Of_spec s4 (made seed p) w4 hs4 (by rw [made_len]; decide)).mono ?_⟩
  rintro e w5 ⟨s5, rfl, ho5, x5⟩
  refine ⟨s5, rfl, x5.heap omm, x5.heap omm, (x5.heap omm).trans hD, fun w6 hrec => ?_⟩
  have hz5 := x5.size
  have ho6 : OwR w w6 s5 (ofC (made seed p)) := OwnK.low (OwnK.keep ho5 fun i hi => hrec.same i (by have := (ho5.own.lt hi).1; omega)) omm
  exact ⟨s5, rfl, ho6, (hbl.tr x5).trans (Below.mono (hrec.below (ali34 _)) omm)⟩
end Go.Proofs.YtjcnjlaelhdjeaaGreatDoor
namespace Go.Proofs.YtjcnjlaelhdjeaaGreatDoor
open Go Go.Vc Go.RowKit Go.Proofs Go.Chk Go.Runs
abbrev tChunk : TypeId := 148
structure KIs (w : World) (g : Nat) (s : Sl) (p : Po) (C : List Int) : Prop where
 row : Row w g [p.1, p.2, s] tChunk
 own : OwR 0 w s (ofC C)
 len : C.length = 8192
 may : ∀ b ∈ C, bMay b = true
theorem KIs.keep {w w' : World} {g : Nat} {s : Sl} {p : Po} {C : List Int} (h : KIs w g s p C) {F : Nat → Prop} (hm : Mod F w w') (hg : ¬ F g) (hs : ∀ b, s.blk = some b → ¬ F b) : KIs w' g s p C :=
 ⟨hm.row h.row hg, hm.ownK h.own hs, h.len, h.may⟩
theorem KIs.ext {w w' : World} {g : Nat} {s : Sl} {p : Po} {C : List Int} (h : KIs w g s p C) (x : Ext w w') : KIs w' g s p C := ⟨h.row.ext x, OwnK.ext h.own x, h.len, h.may⟩
theorem KIs.bd {w : World} {g : Nat} {s : Sl} {p : Po} {C : List Int} (h : KIs w g s p C) : Bd C.length := by rw [h.len]; decide
def inK (p : Po) (c : Ce) : Bool := decide (0 ≤ c.2.1) && decide (c.2.1 < 32) && (pos c == p)
theorem inK_iff (p : Po) (c : Ce) : inK p c = true ↔ inY c ∧ pos c = p := by
 unfold inK inY
 simp only [ali39, ali27, beq_iff_eq]
def kAt (p : Po) (C : List Int) (c : Ce) : Int := if inK p c then atC C (idx c) else 0
def kSet (p : Po) (C : List Int) (c : Ce) (b : Int) : List Int × Int := if inK p c = false then (C, 5) else if bMay b = false then (C, 1) else (C.set (idx c).toNat b, 0)
theorem index_spec (p : Po) (c : Ce) (hc : okC c) (w : World) : Cal 240 #[pv p, cev c] w fun e w' => (∃ i, e = Value.tuple #[.int .i64 i, .bool (inK p c)] ∧ (inK p c = true → i = idx c)) ∧ Ext w w' := by
 apply chunk_place_index.vc
 intro w0 e0 w1 e1
 have z0 := hs1 e0
 have z1 : w1.heap.size = w.heap.size + 2 := by rw [e1]; simp [z0]
 have x1 : Ext w w1 := (eaa e0).of_alloc e1
 have hb : Row w1 w [p.1, p.2] 145 := (by rw [e0]; exact Row.new w [_, _] _ : Row w0 w [p.1, p.2] 145).ext (eaa e1)
 refine (cIndex_spec c w1).mono ?_
 rintro e w2 ⟨⟨i, b, rfl, hi⟩, x2⟩
 have z2 := x2.size
 refine ⟨i, b, rfl, x2.heap omm, x2.heap omm, Br.mk (fun hbb => ?_) (fun hbb => ?_)⟩
 ·rcases hi with ⟨-, hy, rfl⟩ | ⟨h, -⟩
  ·refine (cChunk_spec c hc w2.drew).mono ?_
   rintro e w5 ⟨rfl, x5⟩
   refine ⟨_, _, rfl, x5.heap (show w.heap.size < w2 by omega), x5.heap (show w0.heap.size < w2 by omega), ((hb.ext x2).ext (Ext.dr _) |>.ext x5).loadL (fun j hj => by rw [ali37]), ?_, (x1.tr x2).tr ((Ext.dr _).tr x5)⟩
   refine ⟨_, ?_, fun _ => rfl⟩
   have : inK p c = (((pos c).1 == p.1) && ((pos c).2 == p.2)) := by
    unfold inK
    unfold inY at hy
    rw [decide_eq_true hy.1, decide_eq_true hy.2]
    rfl
   rw [this]
  ·rw [h] at hbb; cases hbb
 ·rcases hi with ⟨h, -⟩ | ⟨-, hy, rfl⟩
  ·rw [h] at hbb; cases hbb
  ·have : inK p c = false := by
    cases hk : inK p c with
    | false => rfl
    | true => exact absurd ((inK_iff p c).1 hk).1 hy
   rw [this]
   exact ⟨⟨_, rfl, fun h => by cases h⟩, (x1.tr x2).drew⟩
theorem ofG_may (y g : Int) : bMay (ofG y g) = true := by
 rcases ofG_cases y g with h | h | h | h | h <;> rw [h] <;> decide +kernel
theorem made_may (seed : Int) (p : Po) : ∀ b ∈ made seed p, bMay b = true := by
 intro b hb
 unfold made at hb
 obtain ⟨i, _, rfl⟩ := ali06.1 hb
 exact ofG_may _ _
theorem Make_spec' (seed : Int) (p : Po) (hp : okP p) (w : World) : Cal 163 #[seed, pv p] w fun e w' => ∃ g s, e = Value.pointer (pzq g) ∧ KIs w' g s p (made seed p) ∧ Ext w w' ∧ w.heap.size ≤ g ∧ ∀ b, s.blk = some b → w.heap.size ≤ b := by
 apply chunk_Make.vc
 intro w0 e0
 have x0 := eaa e0
 have z0 := hs1 e0
 have hb : Row w0 w [p.1, p.2] tPo := Row.nw e0
 have fin : ∀ {w1 w3 : World} {s : Sl}, Ext w0.drew w1 → OwR w0.drew.heap.size w1 s (ofC (made seed p)) → w3 = w1.alloc (.cells #[p.1, p.2, .slice s.a s.n s.c] tChunk) → KIs w3 w1 s p (made seed p) ∧ Ext w w3 ∧ w.heap.size ≤ w1 ∧ ∀ b, s.blk = some b → w.heap.size ≤ b := fun {w1 w3 s} x1 ho e3 => by
  have x3 := eaa e3
  refine ⟨⟨by rw [e3]; exact Row.new w1 [_, _, _] _, (OwnK.low ho (alj66 _)).ext x3, made_len _ _, made_may _ _⟩, ((x0.drew).tr x1).tr x3, (x0.drew.tr x1).size, fun b hb => ali41 x0.drew.size (ho.own.lt hb).1⟩
 refine ⟨(gChunk_spec seed p hp w0.drew).mono ?_, (gChunk_spec seed p hp w0.drew).mono ?_⟩
 ·rintro e w1 ⟨s, rfl, ho, x1⟩
  refine ⟨s, rfl, x1.heap (show w.heap.size < w0 by omega), fun w3 e3 => ⟨_, s, rfl, fin x1 ho e3⟩⟩
 ·rintro e w1 ⟨s, rfl, ho, x1⟩
  refine ⟨s, rfl, x1.heap (show w.heap.size < w0 by omega), ((hb.ext (Ext.dr _)).ext x1).loadL (fun j hj => by rw [ali37]), fun w3 e3 => ⟨_, s, rfl, fin x1 ho e3⟩⟩
end Go.Proofs.YtjcnjlaelhdjeaaGreatDoor
namespace Go.Proofs.YtjcnjlaelhdjeaaGreatDoor
open Go Go.Vc Go.RowKit Go.Proofs Go.Chk Go.Runs
theorem KIs.pos {w : World} {g : Nat} {s : Sl} {p : Po} {C : List Int} (h : KIs w g s p C) : LoadL w (padd (pzq g) 0) 0 [p.1, p.2] := by
 rw [padd_row]
 exact h.row.loadL (fun j hj => by
  simp at hj
  rcases j with _ | _ | j
  ·rfl
  ·rfl
  ·omega)
theorem cells_pos {C : List Int} (h : C.length = 8192) : (∀ r ∈ ofC C, 0 ≤ r.1) ∧ sumR (ofC C) ≤ 1099511627776 ∧ Bd (ofC C).length := by
 refine ⟨fun r hr => by have := (mem_ofC hr).1; omega, by rw [sumR_ofC, h]; decide, ?_⟩
 have := ofC_len C
 show (ofC C).length ≤ 1099511627776
 omega
theorem At_spec {w : World} {g : Nat} {s : Sl} {p : Po} {C : List Int} (h : KIs w g s p C) (c : Ce) (hc : okC c) : Cal 173 #[g, cev c] w fun e w' => e = Value.tuple #[(kAt p C c), .bool (inK p c)] ∧ Ext w w' := by
 apply chunk_Chunk_At.vc
 intro w0 e0
 have x0 : Ext w w0.drew := (Ext.rfl' w |>.of_alloc e0).drew
 have z0 := hs1 e0
 have h0 := h.ext x0
 refine ⟨p.1, p.2, h0.pos, (index_spec p c hc w0.drew).mono ?_⟩
 rintro e w3 ⟨⟨i, rfl, hi⟩, x3⟩
 have h3 := h0.ext x3
 have z3 := x3.size
 refine ⟨i, _, rfl, x3.heap (show w.heap.size < w0 by omega), Br.mk (fun hb => ?_) (fun hb => ?_)⟩
 ·have hf : inK p c = false := by simpa using hb
  refine ⟨?_, x0.tr x3⟩
  unfold kAt
  rw [hf]; rfl
 ·have hk : inK p c = true := by simpa using hb
  have hie := hi hk
  subst hie
  have hidx := idx_in ((inK_iff p c).1 hk).1
  obtain ⟨q1, q2, q3⟩ := cells_pos h.len
  refine ⟨s, h3.row.at 2 rfl, (runs_At_spec s (ofC C) (idx c) w3 (OwR.rdr h3.own) q3 q1 q2 (by unfold inI; omega)).mono ?_⟩
  rintro e w7 ⟨rfl, x7⟩
  refine ⟨_, rfl, x7.heap (ali35 (show w.heap.size < w0 by omega) z3), ?_, (x0.tr x3).tr x7⟩
  rw [cells_ofC]
  unfold kAt
  rw [hk]; rfl
theorem kSet_ok {p : Po} {C : List Int} (hl : C.length = 8192) (hm : ∀ b ∈ C, bMay b = true) (c : Ce) (b : Int) : (kSet p C c b).1.length = 8192 ∧ ∀ x ∈ (kSet p C c b).1, bMay x = true := by
 unfold kSet
 split
 ·exact ⟨hl, hm⟩
 ·split
  ·exact ⟨hl, hm⟩
  ·rename_i h
   refine ⟨by rw [ali31]; exact hl, fun x hx => ?_⟩
   rcases ali14 hx with h1 | h1
   ·exact hm x h1
   ·subst h1; simpa using h
theorem Set_spec {w : World} {g : Nat} {s : Sl} {p : Po} {C : List Int} (h : KIs w g s p C) (c : Ce) (hc : okC c) (b : Int) :
  Cal 352 #[g, cev c, b] w fun e w' => e = Value.int .i64 (kSet p C c b).2 ∧ ∃ s', KIs w' g s' p (kSet p C c b).1 ∧ Mod (fun i => i = g) w w' ∧ (∀ i, s'.blk = some i → s.blk = some i ∨ w.heap.size ≤ i) := by
 apply chunk_Chunk_Set.vc
 intro w0 e0
 have x0 : Ext w w0.drew := (Ext.rfl' w |>.of_alloc e0).drew
 have z0 := hs1 e0
 have hgl := h.row.lt
 have h0 := h.ext x0
 refine ⟨p.1, p.2, h0.pos, (index_spec p c hc w0.drew).mono ?_⟩
 rintro e w3 ⟨⟨i, rfl, hi⟩, x3⟩
 have h3 := h0.ext x3
 have z3 := x3.size
 have z3' : w.heap.size < w3 := ali35 (show w.heap.size < w0 by omega) z3
 refine ⟨i, _, rfl, x3.heap (show w.heap.size < w0 by omega), Br.mk (fun hb => ?_) (fun hb => ?_)⟩
 ·have hf : inK p c = false := by simpa using hb
  have e : kSet p C c b = (C, 5) := by unfold kSet; rw [if_pos hf]
  rw [e]
  exact ⟨rfl, s, h3, Mod.of_ext (x0.tr x3), fun i hi => .inl hi⟩
 ·have hk : inK p c = true := by simpa using hb
  have hie := hi hk
  subst hie
  have hidx := idx_in ((inK_iff p c).1 hk).1
  refine (block_May_spec b w3).mono ?_
  rintro e w6 ⟨rfl, x6⟩
  have h6 := h3.ext x6
  have z6 := x6.size
  refine ⟨_, rfl, x6.heap z3', Br.mk (fun hb2 => ?_) (fun hb2 => ?_)⟩
  ·have hf : bMay b = false := by simpa using hb2
   have e : kSet p C c b = (C, 1) := by unfold kSet; rw [if_neg (by simp [hk]), if_pos hf]
   rw [e]
   exact ⟨rfl, s, h6, Mod.of_ext ((x0.tr x3).tr x6), fun i hi => .inl hi⟩
  ·have hm : bMay b = true := by simpa using hb2
   have e : kSet p C c b = (C.set (idx c).toNat b, 0) := by unfold kSet; rw [if_neg (by simp [hk]), if_neg (by simp [hm])]
   refine ⟨s, h6.row.at 2 rfl, (runs_Set_spec s C (idx c) b w6 (OwR.rdr h6.own) h.bd (by unfold inI; omega)).mono ?_⟩
   rintro e9 w9 ⟨s10, rfl, ho, x9⟩
   have hs : setC C (idx c) b = C.set (idx c).toNat b := by unfold setC; rw [if_pos ⟨hm, hidx.1, by rw [h.len]; omega⟩]
   rw [hs] at ho
   obtain ⟨p1, p2⟩ := (h6.row.ext x9).put1 (j := 2) (v := .slice s10.a s10.n s10.c) smm rfl
   refine ⟨s10, rfl, x9.heap omm, ⟨rfl, p1⟩, ?_, fun w11 e11 => ?_⟩
   ·rw [pblk_padd]
    intro e
    have : g = w.heap.size := by simpa [pblk] using e
    omega
   ·obtain ⟨q1, q2⟩ := p2 w11 e11
    have hok := kSet_ok (p := p) h.len h.may c b
    rw [e] at hok ⊢
    refine ⟨rfl, s10, ⟨q1, q2.ownK (OwnK.low ho (alj66 _)) fun i hi hf => ?_, hok.1, hok.2⟩, (Mod.of_ext (((x0.tr x3).tr x6).tr x9)).trans q2, fun i hi => .inr ?_⟩
    ·obtain ⟨cs, hr⟩ := own_row ho dcc hi
     exact hr.ne (h6.row.ext x9) dcc hf
    ·have := (ho.own.lt hi).1
     have := (x0.tr x3).size
     omega
theorem Place_spec (p : Po) (w : World) : Cal 74 #[pv p] w fun e w' => e = (pv p) ∧ Ext w w' := by
 apply chunk_place_Place.vc
 intro w0 e0 w1 e1 w2 e2
 have z0 := hs1 e0
 exact ⟨rfl, ((eaa e0).of_alloc e1).of_setRow e2 omm⟩
end Go.Proofs.YtjcnjlaelhdjeaaGreatDoor
namespace Go.Proofs.YtjcnjlaelhdjeaaGreatDoor
open Go Go.Vc Go.RowKit Go.Proofs Go.Chk Go.Runs
end Go.Proofs.YtjcnjlaelhdjeaaGreatDoor
namespace Go.Proofs.YtjcnjlaelhdjeaaGreatDoor
open Go Go.Vc Go.RowKit Go.Proofs Go.Chk Go.Runs
end Go.Proofs.YtjcnjlaelhdjeaaGreatDoor
namespace Go.Proofs.YtjcnjlaelhdjeaaGreatDoor
open Go Go.Vc Go.RowKit Go.Proofs Go.Chk Go.Runs
end Go.Proofs.YtjcnjlaelhdjeaaGreatDoor
namespace Go.Proofs.YtjcnjlaelhdjeaaGreatDoor
open Go Go.Vc Go.RowKit Go.Proofs Go.Chk Go.Runs
end Go.Proofs.YtjcnjlaelhdjeaaGreatDoor
namespace Go.Proofs.YtjcnjlaelhdjeaaGreatDoor
open Go Go.Vc Go.RowKit Go.Proofs Go.Chk Go.Runs
end Go.Proofs.YtjcnjlaelhdjeaaGreatDoor
namespace Go.Proofs.YtjcnjlaelhdjeaaGreatDoor
open Go Go.Vc Go.RowKit Go.Proofs Go.Chk Go.Runs
end Go.Proofs.YtjcnjlaelhdjeaaGreatDoor
namespace Go.Proofs.YtjcnjlaelhdjeaaGreatDoor
open Go Go.Vc Go.RowKit Go.Proofs Go.Runs Go.Code
abbrev tByte : TypeId := 5
abbrev yv (b : Int) : LV := [.int .u8 b]
abbrev RdY (w : World) (s : Sl) (b : List Int) : Prop := RdK w s 1 (b.map yv)
abbrev OwY (B : Nat) (w : World) (s : Sl) (b : List Int) : Prop := OwnK B tByte 1 w s (b.map yv)
abbrev InY (b : List Int) : Prop := ∀ c ∈ b, 0 ≤ c ∧ c < 256
theorem OwY.rdy {B : Nat} {w : World} {s : Sl} {c : List Int} (h : OwY B w s c) : RdY w s c := OwnK.rd h omm
theorem RdY.len {w : World} {s : Sl} {c : List Int} (h : RdY w s c) : s.n = c.length := by have := h.n; simpa using this
theorem RdY.c0 {w : World} {s : Sl} {l : List Int} (h : RdY w s l) {i : Nat} {b : Int} (hi : l[i]? = some b) : ld w (padd s.a (i * 1)) = some (.int .u8 b) := by
 have := h.rd i (yv b) (by rw [ali02, hi]; rfl) 0 _ rfl
 simpa using this
theorem RdY.inB {w : World} {s : Sl} {l : List Int} (h : RdY w s l) {i : Nat} (hi : i < l.length) : InB s.a (i : Int) s.n := RdK.inB h omm omm (by have := RdY.len h; omega)
theorem code_Number_spec (n : Int) (w : World) (hi : inI n) :
  Cal 348 #[n] w fun e w' => ∃ s : Sl, e = s ∧ OwY w w' s (numB n) ∧ Ext w w' := by
 apply code_Number.vc
 refine Br.mk (fun h => ?_) (fun h => Br.mk (fun h2 => ?_) (fun h2 => ?_)) <;> simp only [ali27, ali28] at *
 ·exact ⟨⟨none, 0, 0⟩, rfl, by unfold numB; rw [if_pos (.inl h)]; exact OwnK.nil, Ext.rfl' w⟩
 ·exact ⟨⟨none, 0, 0⟩, rfl, by unfold numB; rw [if_pos (.inr h2)]; exact OwnK.nil, Ext.rfl' w⟩
 have e0 : numB n = numF 3 n := by unfold numB; rw [if_neg omm]
 rw [e0]
 refine ⟨fun m x o wr => ∃ (k : Nat) (b : List Int), k = m ∧ 1 ≤ k ∧ k ≤ 3 ∧ 0 ≤ x ∧ x < 128 ^ k ∧ b.length + k = 3 ∧ Ext w wr ∧ OwY w wr o b ∧ b ++ numF k x = numF 3 n, ⟨3, 3, [], rfl, by omega, by omega, by omega, by omega, rfl, Ext.rfl' w, OwnK.nil, rfl⟩, ?_⟩
 rintro m us x o wr ⟨k, b, rfl, k1, k3, hx0, hx, hbk, xr, ho, heq⟩
 have hon := RdY.len (OwY.rdy ho)
 apply Br.mk <;> intro h3 <;> simp only [ali27, ali28] at h3
 ·obtain ⟨j, rfl⟩ : ∃ j, k = j + 1 := ⟨k - 1, by omega⟩
  rintro w7 rfl
  rw [or128 x hx0]
  obtain ⟨hp, hres⟩ := OwnK.app1 ho (bytes := 1) (news := yv (128 + x % 128)) (.cells #[.int .u8 (128 + x % 128)] tByte) xr.size rfl (one_i _ _) omm omm
  refine ⟨hp, fun s17 w18 hr' => ?_⟩
  obtain ⟨k1', ho', _, xb, _, _⟩ := hres s17 w18 hr'
  have hdiv : x.fdiv (2 ^ (min (7 : Int).toNat 64)) = x / 128 := by
   rw [show ((2 : Int) ^ (min (7 : Int).toNat 64)) = 128 from by decide]
   exact ali24 _ omm
  rw [hdiv]
  have hj : 1 ≤ j := by
   rcases alj57 j with rfl | h
   ·simp at hx; omega
   ·exact h
  refine ⟨k1', j, by omega, j, b ++ [128 + x % 128], rfl, hj, by omega, by omega, ?_, by simp; omega, xr.trans xb, ?_, ?_⟩
  ·rw [Int.pow_succ] at hx; omega
  ·show OwnK _ _ 1 _ _ ((b ++ [128 + x % 128]).map yv)
   rw [ali08]; exact ho'
  ·rw [← heq]
   show _ = b ++ (if x < 128 then [x] else (128 + x % 128) :: numF j (x / 128))
   rw [if_neg omm]; simp
 ·rintro w7 rfl
  have hwx : w8q x = x := by rw [wrap_u8]; omega
  rw [hwx]
  obtain ⟨hp, hres⟩ := OwnK.app1 ho (bytes := 1) (news := yv x) (.cells #[.int .u8 x] tByte) xr.size rfl (one_i _ _) omm omm
  refine ⟨hp, fun s17 w18 hr' => ?_⟩
  obtain ⟨k1', ho', _, xb, _, _⟩ := hres s17 w18 hr'
  refine ⟨k1', s17, rfl, ?_, xr.trans xb⟩
  rw [← heq]
  obtain ⟨j, rfl⟩ : ∃ j, k = j + 1 := ⟨k - 1, by omega⟩
  show OwnK _ _ 1 _ _ ((b ++ (if x < 128 then [x] else (128 + x % 128) :: numF j (x / 128))).map yv)
  rw [if_pos omm, ali08]; exact ho'
end Go.Proofs.YtjcnjlaelhdjeaaGreatDoor
namespace Go.Proofs.YtjcnjlaelhdjeaaGreatDoor
open Go Go.Vc Go.RowKit Go.Proofs Go.Runs Go.Code
theorem drop_cons {α : Type} {l : List α} {k : Nat} {c : α} (h : l[k]? = some c) : l.drop k = c :: l.drop (k + 1) := by
 obtain ⟨h1, h2⟩ := ali03.1 h
 rw [alj11 h1, h2]
theorem code_Digits_spec (s : Sl) (b : List Int) (w : World) (hs : RdY w s b) (hb : InY b) (hc : s.n ≤ s.c) :
  Cal 286 #[s] w fun e w' => e = Value.tuple #[.int .i64 (digB b).1, .int .i64 (digB b).2.1, .int .i64 (digB b).2.2] ∧ w' = w := by
 have hn := RdY.len hs
 apply code_Digits.vc
 have em : (if 3 < ((s.n : Nat) : Int) then 3 else ((s.n : Nat) : Int)) = ((min 3 s.n : Nat) : Int) := by split <;> omega
 rw [em]
 refine ⟨by omega, by omega, ?_⟩
 refine ⟨fun n x y wr => ∃ k : Nat, x = k ∧ k + n = min 3 s.n ∧ wr = w ∧ 0 ≤ y ∧ y < 128 ^ k ∧ digG (3 - k) k y (b.drop k) = digB b, ⟨min 3 s.n, 0, rfl, by omega, rfl, by omega, by omega, rfl⟩, ?_⟩
 rintro n us x y wr ⟨k, rfl, hk, rfl, y0, y1, heq⟩
 have hw := wrap_in (n := (k : Int) + 1) (by unfold inI; omega)
 apply Br.mk <;> intro h <;> simp only [ali27, ali28] at h
 ·obtain ⟨c, hcb⟩ := get_lt (l := b) (i := k) omm
  have hci := hb c (ali00 hcb)
  rw [drop_cons hcb, show 3 - k = (2 - k) + 1 from by omega, digStep] at heq
  have hin := RdY.inB hs (i := k) omm
  obtain ⟨o1, o2⟩ := orStep k omm y c y0 y1 hci.1 hci.2
  have hp := pow_step k y c y1
  have hp0 : 0 ≤ (128 : Int) ^ k := Int.pow_nonneg omm
  have hm0 : 0 ≤ c % 128 * 128 ^ k := alj08 omm hp0
  refine ⟨⟨?_, by omega, by omega⟩, c, ?_, ?_⟩
  ·have := hin.1
   unfold slBase
   split
   ·exact this
   ·rw [Option.isSome_map]; exact this
  ·rw [padd_slBase]; exact RdY.c0 hs hcb
  ·rw [o1, hw]
   refine AndL_ng.2 ⟨o2, ?_⟩
   apply Br.mk <;> intro h1 <;> simp only [ali27, ali28] at h1
   ·rw [if_pos h1] at heq
    exact ⟨n - 1, by omega, k + 1, by omega, by omega, rfl, by omega, hp, by rw [show 3 - (k + 1) = 2 - k from by omega]; exact heq⟩
   ·rw [if_neg h1] at heq
    refine Br.mk (fun h2 => Br.mk (fun h3 => ?_) (fun h3 => Br.mk (fun h4 => ?_) (fun h4 => ?_))) (fun h2 => Br.mk (fun h4 => ?_) (fun h4 => ?_)) <;> simp only [ali27, ali28, beq_iff_eq, beq_eq_false_iff_ne] at *
    ·rw [if_pos (.inl ⟨h2, by omega⟩)] at heq
     exact ⟨by rw [← heq], by first | rfl | trivial⟩
    ·rw [if_pos (.inr h4)] at heq
     exact ⟨by rw [← heq], by first | rfl | trivial⟩
    ·rw [if_neg omm] at heq
     exact ⟨by rw [← heq], by first | rfl | trivial⟩
    ·rw [if_pos (.inr h4)] at heq
     exact ⟨by rw [← heq], by first | rfl | trivial⟩
    ·rw [if_neg omm] at heq
     exact ⟨by rw [← heq], by first | rfl | trivial⟩
 ·have hkm : k = min 3 s.n := by omega
  apply Br.mk <;> intro h2 <;> simp only [ali27, ali28] at h2
  ·have : b.drop k = [] := List.drop_eq_nil_of_le omm
   rw [this, show 3 - k = (2 - k) + 1 from by omega] at heq
   exact ⟨by rw [← heq]; rfl, by first | rfl | trivial⟩
  ·rw [show 3 - k = 0 from by omega] at heq
   exact ⟨by rw [← heq]; rfl, by first | rfl | trivial⟩
end Go.Proofs.YtjcnjlaelhdjeaaGreatDoor
namespace Go.Proofs.YtjcnjlaelhdjeaaGreatDoor
open Go Go.Vc Go.RowKit Go.Proofs Go.Runs Go.Code
abbrev WrRes (B : Nat) (l : List Rn) (e : Ending) (w' : World) : Prop :=
 ∃ s : Sl, e = Value.tuple #[s, .int .i64 (if okW bMay l then 0 else 1)] ∧ OwY B w' s (if okW bMay l then wrB l else [])
theorem chkL_cons (left : Int) (r : Rn) (t : List Rn) : chkL left (r :: t) = if r.1 < 1 ∨ r.1 > left then false else chkL (left - r.1) t := rfl
end Go.Proofs.YtjcnjlaelhdjeaaGreatDoor
namespace Go.Proofs.YtjcnjlaelhdjeaaGreatDoor
open Go Go.Vc Go.RowKit Go.Proofs Go.Runs Go.Code
theorem code_Write_spec (s : Sl) (l : List Rn) (w : World) (hs : RdR w s l) (hb : l.length ≤ 2000000) (hl : ∀ r ∈ l, inI r.1 ∧ inI r.2) :
  Cal 295 #[s] w fun e w' => WrRes w l e w' ∧ Ext w w' := by
 have hsn := RdR.len hs
 apply code_Write.vc
 refine ⟨fun n x y wr => ∃ k : Nat, x = k ∧ k + n = l.length ∧ Ext w wr ∧ 0 ≤ y ∧ y ≤ 1048576 ∧ y = 1048576 - sumR (l.take k) ∧ chkL y (l.drop k) = chkL 1048576 l, ⟨l.length, 0, rfl, by omega, Ext.rfl' w, by omega, by omega, rfl, rfl⟩, ?_⟩
 rintro n us x y wr ⟨k, rfl, hk, xr, y0, y1, hy, heq⟩
 have hw := wrap_in (n := (k : Int) + 1) (by unfold inI; omega)
 apply Br.mk <;> intro h <;> simp only [ali27, ali28] at h
 ·obtain ⟨r, hr⟩ := get_lt (l := l) (i := k) omm
  have hd := drop_cons hr
  rw [hd, chkL_cons] at heq
  refine ⟨RdR.inB hs omm, _, _, RdR.ll (hs.ext xr) hr, ?_⟩
  rintro w9 rfl w10 rfl
  have x10 := ((xr.tr (Ext.al _ (.cells #[vzz, vzz] tRun))).setRow xr.size #[.int .i64 r.1, .int .i64 r.2])
  have bad : ∀ w', Ext w w' → (r.1 < 1 ∨ r.1 > y) → WrRes w l (.returned (.tuple #[.slice none 0 0, (1:Int)])) w' ∧ Ext w w' := by
   intro w' x' hh
   rw [if_pos hh] at heq
   have : okW bMay l = false := by unfold okW; rw [← heq]; rfl
   exact ⟨⟨⟨none, 0, 0⟩, by rw [this]; rfl, by rw [this]; exact OwnK.nil⟩, x'⟩
  refine Br.mk (fun h1 => ?_) (fun h1 => Br.mk (fun h2 => ?_) (fun h2 => ?_)) <;> simp only [ali27, ali28] at h1
  ·exact bad _ x10 (.inl h1)
  ·replace h2 := q0T h2
   have hri := hl r (ali00 hr)
   unfold inI at hri
   have hw2 := wrap_in (n := y - r.1) (by unfold inI; omega)
   exact bad _ x10 (.inr omm)
  ·replace h2 := q0F h2
   have hri := hl r (ali00 hr)
   unfold inI at hri
   have hw2 := wrap_in (n := y - r.1) (by unfold inI; omega)
   rw [if_neg omm] at heq
   have e := sumR_take_succ hr
   refine ⟨n - 1, by omega, k + 1, by omega, by omega, x10, by omega, by omega, by omega, ?_⟩
   rw [← heq, hw2]
 ·have hkl : k = l.length := by omega
  subst hkl
  rw [List.drop_length] at heq
  rw [ali26] at hy
  have hchk : chkL 1048576 l = true := by rw [← heq]; rfl
  have hpos := (chkL_pos hchk).1
  refine (runs_Len_spec s l wr (hs.ext xr) (by unfold Bd; omega) (fun r hr => by have := hpos r hr; omega) omm).mono ?_
  rintro e w0 ⟨rfl, x0⟩
  refine ⟨_, rfl, (runs_May_spec s l (sumR l) w0 ((hs.ext xr).ext x0) (by unfold Bd; omega) (by unfold inI; omega)).mono ?_⟩
  rintro e w1 ⟨rfl, x1⟩
  have hok : okW bMay l = mayR bMay l (sumR l) := by unfold okW; rw [hchk]; rfl
  have x01 := (xr.tr x0).tr x1
  refine ⟨_, rfl, Br.mk (fun h2 => ?_) (fun h2 => ?_)⟩
  ·have : okW bMay l = false := by rw [hok]; simpa using h2
   exact ⟨⟨⟨none, 0, 0⟩, by rw [this]; rfl, by rw [this]; exact OwnK.nil⟩, x01⟩
  ·have hokt : okW bMay l = true := by rw [hok]; simpa using h2
   refine ⟨fun n x o wr => ∃ k : Nat, x = k ∧ k + n = l.length ∧ Ext w wr ∧ OwY w wr o (wrB (l.take k)), ⟨l.length, 0, rfl, by omega, x01, OwnK.nil⟩, ?_⟩
   rintro n2 us2 x2 o w2 ⟨j, rfl, hj, x2, ho⟩
   have hwj := wrap_in (n := (j : Int) + 1) (by unfold inI; omega)
   apply Br.mk <;> intro h <;> simp only [ali27, ali28] at h
   ·obtain ⟨r, hr⟩ := get_lt (l := l) (i := j) omm
    have hri := hl r (ali00 hr)
    have hon := RdY.len (OwY.rdy ho)
    have hol := wrB_len (l.take j)
    rw [ali12] at hol
    refine ⟨RdR.inB hs omm, _, _, RdR.ll (hs.ext x2) hr, ?_⟩
    rintro w24 rfl w25 hw25 w26 rfl
    have x25 : Ext w w25 := by rw [hw25]; exact ((x2.tr (Ext.al _ (.cells #[vzz, vzz] tRun))).setRow x2.size #[.int .i64 r.1, .int .i64 r.2])
    have hrow : Row w25 w2 [.int .i64 r.1, .int .i64 r.2] tRun := by rw [hw25]; exact (Row.new w2 [vzz, vzz] tRun).set [.int .i64 r.1, .int .i64 r.2]
    have ho25 : OwY w w25.drew o (wrB (l.take j)) := by
     refine OwnK.ext (OwnK.keep ho (w' := w25) ?_) (Ext.dr _)
     intro g hg
     have := (ho.own.lt hg).2
     rw [hw25, setRow_other _ _ _ _ omm]
     exact (Ext.al _ _).heap this
    have hlt25 := hrow.lt
    have xd := x25.drew
    have hrowd := hrow.ext (Ext.dr w25)
    have hz := zdr w25
    rw [wrap_u8]
    obtain ⟨hp, hres⟩ := OwnK.app1 ho25 (bytes := 1) (news := yv (r.2 % 256)) (.cells #[.int .u8 (r.2 % 256)] tByte) xd.size rfl (one_i _ _) omm omm
    refine ⟨hp, fun s27 w28 hr' => ?_⟩
    obtain ⟨k1, ho', hn', xb, hkp, hbk⟩ := hres s27 w28 hr'
    have x28 : Ext w w28 := xd.trans xb
    have hone : o.blk ≠ some w2.heap.size := fun hb => absurd (ho.own.lt hb).2 (alj59 _)
    have hk28 : w28.heap[w2.heap.size]? = w25.drew.heap[w2.heap.size]? := hkp _ hone omm
    have hrow28 := hrowd.same hk28
    have hlt28 := hrow28.lt
    have hlt28' : w25.drew.heap.size < w28 := by
     have e : (w25.drew.alloc (.cells #[.int .u8 (r.2 % 256)] tByte)).heap[w25.drew.heap.size]? = some (.cells #[.int .u8 (r.2 % 256)] tByte (0, 0)) := Row.new w25.drew [.int .u8 (r.2 % 256)] tByte
     rw [← k1] at e
     exact (ali22.1 e).1
    have ll0 : ∀ {w'}, Row w' w2 [.int .i64 r.1, .int .i64 r.2] tRun → LoadL w' (pzq w2.heap.size) 0 [.int .i64 r.1] := fun hh => hh.loadL (o := 0) fun j hj => by
     have : j = 0 := by simpa using hj
     subst this; rfl
    have ll1 : ∀ {w'}, Row w' w2 [.int .i64 r.1, .int .i64 r.2] tRun → LoadL w' (pnq w2.heap.size 1) 0 [.int .i64 r.2] := fun hh => hh.loadL (o := 1) fun j hj => by
     have : j = 0 := by simpa using hj
     subst this; rfl
    refine ⟨?_, k1, ll0 hrow28, ll1 hrow28, (code_Number_spec r.1 w28 hri.1).mono ?_⟩
    ·rw [hk28]; symm; exact (Ext.al _ _).heap omm
    rintro e w29 ⟨sn, rfl, on, x29⟩
    have hnn := RdY.len (OwY.rdy on)
    have hnl := numB_len r.1
    have hrow29 := hrow28.ext x29
    refine ⟨sn, rfl, x29.heap hlt28, x29.heap hlt28', ll1 hrow29, ((numB r.1).map yv).flatten, RdK.flat (OwY.rdy on) omm, ?_⟩
    have ho3 : OwnK w tByte 1 w29 s27 _ := OwnK.ext ho' x29
    obtain ⟨hp2, hres2⟩ := OwnK.appN ho3 (bytes := 1) (more := (numB r.1).map yv) (x28.tr x29).size smm (by intro q hq; obtain ⟨c, _, rfl⟩ := ali06.1 hq; exact one_i _ _) (by simp; omega) (by simp; omega)
    rw [ali01] at hp2 hres2
    rw [hnn]
    refine ⟨hp2, fun s32 w33 hr2 => ?_⟩
    obtain ⟨ho4, _, xb2, hk2, _⟩ := hres2 s32 w33 hr2
    have hne : s27.blk ≠ some w2.heap.size := by
     rcases hbk with h | h
     ·rw [h]; exact hone
     ·rw [h]; intro hb; simp at hb; omega
    have hne2 : s27.blk ≠ some w25.drew.heap.size := by
     rcases hbk with h | h
     ·rw [h]; intro hb; exact absurd (ho25.own.lt hb).2 (alj59 _)
     ·rw [h]; intro hb; simp at hb
    have hk33 := hk2 _ hne (ali35 hlt28 x29.size)
    refine ⟨hk33, hk2 _ hne2 (ali35 hlt28' x29.size), ll1 (hrow29.same hk33), n2 - 1, by omega, j + 1, by omega, by omega, (x28.tr x29).trans xb2, ?_⟩
    rw [wrB_succ hr]
    show OwnK _ _ 1 _ _ ((wrB (l.take j) ++ (r.2 % 256 :: numB r.1)).map yv)
    rw [ali08, ali17]
    have := ho4
    rw [ali15] at this
    exact this
   ·have : j = l.length := by omega
    subst this
    rw [ali26] at ho
    exact ⟨⟨o, by rw [hokt]; rfl, by rw [hokt]; exact ho⟩, x2⟩
end Go.Proofs.YtjcnjlaelhdjeaaGreatDoor
namespace Go.Proofs.YtjcnjlaelhdjeaaGreatDoor
open Go Go.Vc Go.RowKit Go.Proofs Go.Runs Go.Code
theorem yv_one (b : List Int) : ∀ r ∈ b.map yv, One r := by
 intro q hq; obtain ⟨c, _, rfl⟩ := ali06.1 hq; exact one_i _ _
end Go.Proofs.YtjcnjlaelhdjeaaGreatDoor
namespace Go.Proofs.YtjcnjlaelhdjeaaGreatDoor
open Go Go.Vc Go.RowKit Go.Proofs Go.Runs Go.Code
end Go.Proofs.YtjcnjlaelhdjeaaGreatDoor
namespace Go.Proofs.YtjcnjlaelhdjeaaGreatDoor
open Go Go.Vc Go.RowKit Go.Proofs Go.Runs Go.Code
end Go.Proofs.YtjcnjlaelhdjeaaGreatDoor
namespace Go.Proofs.YtjcnjlaelhdjeaaGreatDoor
open Go Go.Vc Go.RowKit Go.Proofs Go.Runs Go.Code
abbrev RdRes (B : Nat) (p : List Rn × Int) (e : Ending) (w' : World) : Prop :=
 ∃ s : Sl, e = Value.tuple #[s, p.2] ∧ OwR B w' s p.1
theorem readG_cons (may : Int → Bool) (f : Nat) (c : Int) (t : List Int) (n last : Int) (acc : List Rn) : readG may (f + 1) (c :: t) n last acc =
  if may c = false ∨ c = last then ([], 2)
  else if (digB t).2.2 ≠ 0 then ([], (digB t).2.2)
  else if (digB t).1 = 0 ∨ (digB t).1 > n then ([], 2)
  else if n - (digB t).1 = 0 then (if t.drop (digB t).2.1.toNat = [] then (acc ++ [((digB t).1, c)], 0) else ([], 2))
  else readG may f (t.drop (digB t).2.1.toNat) (n - (digB t).1) c (acc ++ [((digB t).1, c)]) := rfl
theorem resNil {B : Nat} {p : List Rn × Int} {q : Int} {w' : World} (h : p = ([], q)) : RdRes B p (.returned (.tuple #[.slice none 0 0, q])) w' := by
 subst h; exact ⟨⟨none, 0, 0⟩, rfl, OwnK.nil⟩
theorem readG_fuel {may : Int → Bool} : ∀ (f g : Nat) (b : List Int) {n last : Int} {acc : List Rn} (_ : b.length < f) (_ : b.length < g), readG may f b n last acc = readG may g b n last acc
 | 0, _, _, _, _, _, h, _ => by omega
 | _ + 1, 0, _, _, _, _, _, h => by omega
 | f + 1, g + 1, [], _, _, _, _, _ => rfl
 | f + 1, g + 1, c :: t, n, last, acc, h1, h2 => by
   rw [readG_cons, readG_cons]
   have hd := digG_ok 3 0 0 t omm
   rw [show digG 3 0 0 t = digB t from rfl] at hd
   simp only [ali10] at h1 h2
   rw [readG_fuel f g (t.drop (digB t).2.1.toNat) (by rw [alj30]; omega) (by rw [alj30]; omega)]
theorem code_Read_spec (s : Sl) (b : List Int) (n : Int) (w : World) (hs : RdY w s b) (hb : InY b) (hc : s.n ≤ s.c) (hl : b.length ≤ 1099511627776) (hn : 1 ≤ n) (hn' : inI n) :
  Cal 232 #[s, n] w fun e w' => RdRes w (readB bMay b n) e w' ∧ Ext w w' := by
 unfold inI at hn'
 apply code_Read.vc
 refine ⟨fun m s3 last left o wr => ∃ (b' : List Int) (acc : List Rn), m = b'.length ∧ RdY w s3 b' ∧ s3.n ≤ s3.c ∧ InY b' ∧ acc.length + b'.length ≤ b.length ∧ 1 ≤ left ∧ left ≤ n ∧ Ext w wr ∧ OwR w wr o acc ∧ readG bMay (b'.length + 1) b' left last acc = readB bMay b n, ⟨b.length, b, [], rfl, hs, hc, hb, by simp, hn, by omega, Ext.rfl' w, OwnK.nil, rfl⟩, ?_⟩
 rintro m us s3 last left o wr ⟨b', acc, rfl, h3, h3c, hb', hacc, hl1, hl2, xr, ho, heq⟩
 have hn3 := RdY.len h3
 apply Br.mk <;> intro h <;> simp only [ali27, ali28] at h
 ·obtain ⟨c, t, rfl⟩ : ∃ c t, b' = c :: t := by
   cases b' with
   | nil => simp at hn3; omega
   | cons c t => exact ⟨c, t, rfl⟩
  have hci := hb' c (.head _)
  have htI : InY t := fun q hq => hb' q (.tail _ hq)
  simp only [ali10] at hn3 hacc
  rw [readG_cons] at heq
  have hwc := wrap_in (n := c) (by unfold inI; omega)
  have hrt : RdY wr ⟨slBase s3.a 1 s3.n 1, s3.n - 1, s3.n - 1⟩ t := by
   have := RdK.rest (h3.ext xr) (l := 1) (m := s3.n) (n' := s3.n - 1) (c' := s3.n - 1) (by rw [ali01, ali10]; omega) (fun e => by rw [ali01, ali10]; omega)
   exact this
  refine ⟨RdY.inB h3 (i := 0) smm, c, RdY.c0 (h3.ext xr) (i := 0) rfl, ?_⟩
  rw [hwc]
  rintro w10 rfl w11 hw11
  have x11 : Ext w w11 := by rw [hw11]; exact ((xr.tr (Ext.al _ (.cells #[vzz, vzz] tRun))).setRow xr.size #[vzz, .int .i64 c])
  have xr11 : Ext wr w11 := by rw [hw11]; exact ((Ext.al wr (.cells #[vzz, vzz] tRun)).setRow (ali34 _) #[vzz, .int .i64 c])
  have hrow : Row w11 wr [vzz, .int .i64 c] tRun := by rw [hw11]; exact (Row.new wr [vzz, vzz] tRun).set [vzz, .int .i64 c]
  have bad : ∀ {q : Int} {w' : World}, Ext w w' → readB bMay b n = ([], q) → RdRes w (readB bMay b n) (.returned (.tuple #[.slice none 0 0, .int .i64 q])) w' ∧ Ext w w' := fun x' e => ⟨resNil e, x'⟩
  refine (block_May_spec c w11).mono ?_
  rintro e w12 ⟨rfl, x12⟩
  have x112 := x11.tr x12
  have hrow12 := hrow.ext x12
  refine ⟨_, rfl, x12.heap hrow.lt, Br.mk (fun h1 => ?_) (fun h1 => Br.mk (fun h2 => ?_) (fun h2 => ?_))⟩
  ·refine bad x112 ?_
   rw [← heq, if_pos (.inl (by simpa using h1))]
  ·refine bad x112 ?_
   rw [← heq, if_pos (.inr (by simpa using h2))]
  have hm : bMay c = true := by simpa using h1
  have hl' : c ≠ last := by simpa using h2
  rw [if_neg (by rw [hm]; simp [hl'])] at heq
  refine ⟨by omega, by omega, by omega, by omega, by omega, by omega, ?_⟩
  refine (code_Digits_spec ⟨slBase s3.a 1 s3.n 1, s3.n - 1, s3.n - 1⟩ t w12 ((hrt.ext xr11).ext x12) htI (ali34 _)).mono ?_
  rintro e w14 ⟨rfl, rfl⟩
  have hdig := digG_ok 3 0 0 t omm
  rw [show digG 3 0 0 t = digB t from rfl] at hdig
  generalize digB t = d at *
  obtain ⟨sz, kk, er⟩ := d
  simp only at *
  refine ⟨_, _, _, rfl, (by first | rfl | trivial), Br.mk (fun h3' => ?_) (fun h3' => ?_)⟩
  ·refine bad x112 ?_
   rw [← heq, if_pos (by simpa using h3')]
  have her : er = 0 := by simpa using h3'
  subst her
  have hd := hdig rfl
  rw [if_neg smm] at heq
  refine Br.mk (fun h4 => ?_) (fun h4 => Br.mk (fun h5 => ?_) (fun h5 => ?_)) <;> simp only [beq_iff_eq, beq_eq_false_iff_ne, ali27, ali28] at h4
  ·refine bad x112 ?_
   rw [← heq, if_pos (.inl h4)]
  ·replace h5 := q0T h5
   refine bad x112 ?_
   rw [← heq, if_pos (.inr h5)]
  replace h5 := q0F h5
  rw [if_neg omm] at heq
  have hwl := wrap_in (n := left - sz) (by unfold inI; omega)
  have hwk := wrap_in (n := 1 + kk) (by unfold inI; omega)
  rw [hwl, hwk]
  rintro w18 hw18
  have x18 : Ext w w18 := by rw [hw18]; exact x112.setRow xr.size _
  have ho12 : OwR w w14 o acc := OwnK.ext ho (xr11.tr x12)
  have ho18 : OwR w w18.drew o acc := by
   refine OwnK.ext (OwnK.keep ho12 (w' := w18) ?_) (Ext.dr _)
   intro g hg
   have := (ho.own.lt hg).2
   rw [hw18, setRow_other _ _ _ _ omm]
  have hlt18 : wr.heap.size < w18 := by rw [hw18, setRow_size]; exact hrow12.lt
  have xd := x18.drew
  have hz := zdr w18
  have hon := RdR.len ho18.rdr
  refine ⟨by omega, by omega, ?_⟩
  rintro w19 rfl
  obtain ⟨hp, hres⟩ := OwnK.app1 ho18 (bytes := 16) (news := rv (sz, c)) (.cells #[sz, .int .i64 c] tRun) xd.size rfl (one_ii _ _ _ _) omm omm
  refine ⟨hp, fun s20 w21 hr' => ?_⟩
  obtain ⟨k1, ho', _, xb, hkp, _⟩ := hres s20 w21 hr'
  have x21 : Ext w w21 := xd.trans xb
  have ho21 : OwR w w21 s20 (acc ++ [(sz, c)]) := by
   show OwnK _ _ 2 _ _ ((acc ++ [(sz, c)]).map rv)
   rw [ali08]; exact ho'
  have hkeep : w21.heap[wr.heap.size]? = (w18.drew.alloc (.cells #[sz, .int .i64 c] tRun)).heap[wr.heap.size]? := by
   rw [hkp _ (fun hb => absurd (ho.own.lt hb).2 (alj59 _)) omm]
   symm
   exact (Ext.al _ _).heap omm
  have hdl : (t.drop kk.toNat).length = t.length - kk.toNat := alj30
  refine ⟨hkeep, k1, Br.mk (fun h6 => Br.mk (fun h7 => ?_) (fun h7 => Br.mk (fun h8 => ?_) (fun h8 => ?_))) (fun h6 => ?_)⟩ <;> simp only [beq_iff_eq, beq_eq_false_iff_ne] at h6
  ·simp only [ali27] at h7; omega
  ·replace h8 := q0T h8
   rw [if_pos h6, if_neg (by intro e; rw [e] at hdl; simp at hdl; omega)] at heq
   exact bad x21 heq.symm
  ·replace h8 := q0F h8
   rw [if_pos h6, if_pos (alj13 omm)] at heq
   refine ⟨⟨s20, by rw [← heq], by rw [← heq]; exact ho21⟩, x21⟩
  ·rw [if_neg h6] at heq
   have hrest := RdK.rest h3 (l := (1 + kk).toNat) (m := s3.c) (n' := s3.n - (1 + kk).toNat) (c' := s3.c - (1 + kk).toNat) (by rw [ali01, ali10]; omega) (fun e => by rw [ali01, ali10]; omega)
   rw [show (1 + kk).toNat = kk.toNat + 1 from by omega, ali17, List.drop_succ_cons, ← List.map_drop] at hrest
   rw [show (1 + kk).toNat = kk.toNat + 1 from by omega]
   refine ⟨(t.drop kk.toNat).length, by simp only [ali10]; omega, t.drop kk.toNat, acc ++ [(sz, c)], rfl, hrest, by show s3.n - (kk.toNat + 1) ≤ s3.c - (kk.toNat + 1); omega, fun q hq => htI q (alj43 hq), by simp only [ali07, ali10, alj33]; omega, by omega, by omega, x21, ho21, ?_⟩
   rw [← heq]
   exact readG_fuel _ _ _ omm (by simp only [ali10]; omega)
 ·have : b' = [] := alj13 omm
  subst this
  have e : readB bMay b n = ([], 3) := by
   rw [← heq]; show (if left > 0 then ([], 3) else (acc, 0)) = _
   rw [if_pos omm]
  refine Br.mk (fun _ => ⟨resNil e, xr⟩) (fun h2 => ?_)
  replace h2 := q0F h2
  omega
end Go.Proofs.YtjcnjlaelhdjeaaGreatDoor
namespace Go.Proofs.YtjcnjlaelhdjeaaGreatDoor
open Go Go.Vc Go.RowKit Go.Proofs Go.Runs Go.Code
end Go.Proofs.YtjcnjlaelhdjeaaGreatDoor
namespace Go.Proofs.YtjcnjlaelhdjeaaGreatDoor
open Go Go.Vc Go.RowKit Go.Proofs Go.Runs Go.Code
theorem OwnK.le {B E k : Nat} {w : World} {s : Sl} {rows : List (LV)} (h : OwnK B E k w s rows) : s.n ≤ s.c := by
 have ho := h.own
 generalize rows.flatten = xs at ho
 cases ho with
 | nil => exact ali34 _
 | row g n c cs hg hr hc hn => exact hn
theorem readB_again {b : List Int} {n : Int} (hb : InY b) (hn : 1 ≤ n) (h : (readB bMay b n).2 = 0) : wrB (readB bMay b n).1 = b ∧ Follow bMay (-1) (readB bMay b n).1 ∧ sumR (readB bMay b n).1 = n := by
 obtain ⟨l, e1, e2, e3, e4, _⟩ := readG_again (may := bMay) (b.length + 1) b n (-1) [] hb hn h
 rw [ali45] at e1
 have e : readB bMay b n = readG bMay (b.length + 1) b n (-1) [] := rfl
 rw [e, e1]
 exact ⟨e2, e3, e4⟩
theorem follow_in {l : List Rn} {last : Int} (h : Follow bMay last l) : ∀ r ∈ l, inI r.1 ∧ inI r.2 := by
 intro r hr
 have := h.mem r hr
 unfold Go.Vc.inI; omega
theorem read_good {g : List Rn} (hF : Follow bMay (-1) g) (hne : g ≠ []) : readB bMay (wrB g) (sumR g) = (g, 0) := by
 have := readG_all (may := bMay) g ((wrB g).length + 1) [] (-1) [] hF hne smm
 rw [ali44, if_pos rfl] at this
 exact this
end Go.Proofs.YtjcnjlaelhdjeaaGreatDoor
namespace Go.Proofs.YtjcnjlaelhdjeaaGreatDoor
open Go Go.Vc Go.RowKit Go.Proofs Go.Chk Go.Runs Go.Code
def NewRes (w : World) (p : Po) (l : List Rn) (e : Ending) (w' : World) : Prop :=
 (mayR bMay l 8192 = true ∧ ∃ g sg, e = Value.tuple #[.pointer (pzq g), vzz] ∧ KIs w' g sg p (cellsR l) ∧ w.heap.size ≤ g ∧ ∀ b, sg.blk = some b → w.heap.size ≤ b) ∨
 (mayR bMay l 8192 = false ∧ e = Value.tuple #[.pointer none, (1:Int)])
theorem New_spec (p : Po) (s : Sl) (l : List Rn) (w : World) (hs : RdR w s l) (hn : Bd l.length) : Cal 233 #[pv p, s] w fun e w' => NewRes w p l e w' ∧ Ext w w' := by
 apply chunk_New.vc
 intro w0 e0
 have z0 := hs1 e0
 have x0 := eaa e0
 have hb0 : Row w0 w [p.1, p.2] tPo := Row.nw e0
 refine (runs_May_spec s l 8192 w0 (RdK.ext hs x0) hn (by unfold inI; omega)).mono ?_
 rintro e w1 ⟨rfl, x1⟩
 have z1 := x1.size
 have zd := zdr w1
 refine ⟨_, rfl, x1.heap omm, Br.mk (fun hb => ?_) (fun hb => ?_)⟩
 ·have hf : mayR bMay l 8192 = false := by simpa using hb
  exact ⟨.inr ⟨hf, rfl⟩, x0.tr x1⟩
 ·have ht : mayR bMay l 8192 = true := by simpa using hb
  obtain ⟨i1, i2, i3⟩ := mayR_inv ht
  have xd := (x0.tr x1).drew
  have fin : ∀ {w3 w5 : World} {s4 : Sl}, Ext w1.drew w3 → OwR w1.drew.heap.size w3 s4 l → w5 = w3.alloc (.cells #[p.1, p.2, s4] tChunk) → NewRes w p l (.returned (.tuple #[w3, vzz])) w5 ∧ Ext w w5 := fun {w3 w5 s4} x3 ho e5 => by
   have x5 := eaa e5
   have z3 := x3.size
   refine ⟨.inl ⟨ht, _, s4, rfl, ⟨by rw [e5]; exact Row.new w3 [_, _, _] _, ?_, by omega, i2⟩, by omega, fun b hb => by have := (ho.own.lt hb).1; omega⟩, xd.tr (x3.tr x5)⟩
   rw [i1]
   exact (OwnK.low ho (alj66 _)).ext x5
  refine ⟨(clone_spec s l w1.drew (RdK.ext hs xd) hn).mono ?_, (clone_spec s l w1.drew (RdK.ext hs xd) hn).mono ?_⟩
  ·rintro e w3 ⟨s4, rfl, ho, x3⟩
   exact ⟨s4, rfl, x3.heap omm, fun w5 e5 => fin x3 ho e5⟩
  ·rintro e w3 ⟨s4, rfl, ho, x3⟩
   exact ⟨s4, rfl, x3.heap omm, ((hb0.ext x1.drew).ext x3).loadL (fun j hj => by rw [ali37]), fun w5 e5 => fin x3 ho e5⟩
def ReadRes (w : World) (p : Po) (b : List Int) (e : Ending) (w' : World) : Prop :=
 ((readB bMay b 8192).2 = 0 ∧ ∃ g sg, e = Value.tuple #[.pointer (pzq g), vzz] ∧ KIs w' g sg p (cellsR (readB bMay b 8192).1) ∧ w.heap.size ≤ g ∧ ofC (cellsR (readB bMay b 8192).1) = (readB bMay b 8192).1 ∧ ∀ b, sg.blk = some b → w.heap.size ≤ b) ∨
 ((readB bMay b 8192).2 ≠ 0 ∧ e = Value.tuple #[.pointer none, .int .i64 (readB bMay b 8192).2])
theorem Read_spec (p : Po) (s : Sl) (b : List Int) (w : World) (hs : RdY w s b) (hb : InY b) (hc : s.n ≤ s.c) (hl : b.length ≤ 1099511627776) : Cal 162 #[pv p, s] w fun e w' => ReadRes w p b e w' ∧ Ext w w' := by
 apply chunk_Read.vc
 intro w0 e0
 have z0 := hs1 e0
 have x0 := eaa e0
 refine (code_Read_spec s b 8192 w0 (RdK.ext hs x0) hb hc hl dcc (by unfold inI; omega)).mono ?_
 rintro e w1 ⟨⟨s2, rfl, ho⟩, x1⟩
 have z1 := x1.size
 have hlen := readB_len (may := bMay) b 8192
 have hag := readB_again (b := b) (n := 8192) hb dcc
 refine ⟨s2, _, rfl, x1.heap omm, Br.mk (fun hne => ?_) (fun hne => ?_)⟩
 ·exact ⟨.inr ⟨by simpa using hne, rfl⟩, x0.tr x1⟩
 ·have h0 := qdq hne
  obtain ⟨f1, f2, f3⟩ := hag h0
  have hm : mayR bMay (readB bMay b 8192).1 8192 = true := by
   have := f2.mayR omm
   rw [f3] at this; exact this
  refine (New_spec p s2 _ w1 (OwR.rdr ho) (by show _ ≤ _; omega)).mono ?_
  rintro e w4 ⟨hr, x4⟩
  rcases hr with ⟨-, g, sg, rfl, hk, hg, hgb⟩ | ⟨hf, -⟩
  ·exact ⟨_, _, rfl, x4.heap omm, .inl ⟨h0, g, sg, rfl, hk, by omega, (mayR_inv hm).1, fun b hb => by have := hgb b hb; omega⟩, x0.tr (x1.tr x4)⟩
  ·rw [hm] at hf; cases hf
end Go.Proofs.YtjcnjlaelhdjeaaGreatDoor
namespace Go.Proofs.YtjcnjlaelhdjeaaGreatDoor
open Go Go.Vc Go.RowKit Go.Proofs Go.Chk Go.Runs Go.Code
theorem chunk_okW {C : List Int} (hl : C.length = 8192) (hm : ∀ b ∈ C, bMay b = true) : okW bMay (ofC C) = true ∧ ofC C ≠ [] ∧ Follow bMay (-1) (ofC C) ∧ sumR (ofC C) = 8192 := by
 have hs : sumR (ofC C) = 8192 := by rw [sumR_ofC, hl]; rfl
 have hne : ofC C ≠ [] := by
  intro e
  rw [e] at hs
  cases hs
 have hc : ∀ r ∈ ofC C, bMay r.2 = true := fun r hr => by
  refine hm _ ?_
  have := mem_cells hr (mem_ofC hr).1
  rwa [cells_ofC] at this
 refine ⟨okW_nm (Nm_ofC C) hc omm hne, hne, ?_, hs⟩
 refine Follow.of (fun r hr => ?_) (Nm_ofC C).next (fun r hr => ?_)
 ·have h1 := mem_ofC hr
  have h2 := hc r hr
  have h3 := h2
  unfold bMay at h3
  simp only [ali39, ali27] at h3
  exact ⟨h1.1, by omega, by omega, by omega, h2⟩
 ·have h2 := hc r (List.mem_of_mem_head? hr)
  unfold bMay at h2
  simp only [ali39, ali27] at h2
  omega
theorem chunk_inI {C : List Int} (hl : C.length = 8192) (hm : ∀ b ∈ C, bMay b = true) : ∀ r ∈ ofC C, inI r.1 ∧ inI r.2 := follow_in (chunk_okW hl hm).2.2.1
theorem Bytes_spec {w : World} {g : Nat} {s : Sl} {p : Po} {C : List Int} (h : KIs w g s p C) : Cal 236 #[g] w fun e w' => ∃ s' : Sl, e = s' ∧ OwY w w' s' (wrB (ofC C)) ∧ Ext w w' := by
 apply chunk_Chunk_Bytes.vc
 have hlen := ofC_len C
 have hl := h.len
 refine ⟨s, h.row.at 2 rfl, (code_Write_spec s (ofC C) w (OwR.rdr h.own) omm (chunk_inI h.len h.may)).mono ?_⟩
 rintro e w1 ⟨⟨s2, rfl, ho⟩, x1⟩
 rw [if_pos (chunk_okW h.len h.may).1] at ho
 exact ⟨s2, _, rfl, s2, rfl, ho, x1⟩
end Go.Proofs.YtjcnjlaelhdjeaaGreatDoor
