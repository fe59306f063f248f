import Derived.Test.YtjcnjlaelhdjeaaGreatDoorK
import Derived.Test.YtjcnjlaelhdjeaaGreatDoorE
import Derived.Test.YtjcnjlaelhdjeaaGreatDoorF
import Derived.Test.YtjcnjlaelhdjeaaGreatDoorJ
import Derived.Test.YtjcnjlaelhdjeaaGreatDoorG
import Derived.Test.YtjcnjlaelhdjeaaGreatDoorI
import Derived.Tactics
import Derived.Tactics2
import Derived.Defers
import Derived.Recover
import Derived.Laws.Pointers
set_option linter.all false
namespace Go.Proofs.YtjcnjlaelhdjeaaGreatDoor
open Go Go.Vc Go.RowKit Go.Proofs Go.Chk Go.Runs Go.Code
theorem wrB_le2 {l : List Rn} (h : ∀ r ∈ l, 1 ≤ r.1) : ((wrB l).length : Int) ≤ 2 * sumR l := by
 induction l with
 | nil => exact alj06 0
 | cons r t ih =>
   have h1 := h r (.head _)
   have h2 := ih fun q hq => h q (.tail _ hq)
   have e1 : (wrB (r :: t)).length = 1 + (numB r.1).length + (wrB t).length := by
    show (List.flatMap _ (r :: t)).length = _
    rw [List.flatMap_cons, ali07, ali10]
    show (numB r.1).length + 1 + (wrB t).length = _
    omega
   have e2 : sumR (r :: t) = r.1 + sumR t := by unfold sumR; rw [ali17, List.sum_cons]
   have h3 := numB_len r.1
   have h4 : r.1 < 128 → (numB r.1).length ≤ 1 := fun q => by
    unfold numB
    split
    ·simp
    ·unfold numF
     rw [if_pos q]; simp
   by_cases q : r.1 < 128
   ·have := h4 q; omega
   ·omega
theorem chunk_le {C : List Int} (hl : C.length = 8192) (hm : ∀ b ∈ C, bMay b = true) : (wrB (ofC C)).length ≤ 16384 := by
 obtain ⟨-, -, hf, hs⟩ := chunk_okW hl hm
 have h1 : ∀ r ∈ ofC C, 1 ≤ r.1 := fun r hr => (mem_ofC hr).1
 have := wrB_le2 h1
 omega
theorem cellsB_wr (seed : Int) (p : Po) {C : List Int} (hl : C.length = 8192) (hm : ∀ b ∈ C, bMay b = true) : cellsB seed p (wrB (ofC C)) = C := by
 obtain ⟨-, hne, hf, hs⟩ := chunk_okW hl hm
 have := read_good hf hne
 rw [hs] at this
 unfold cellsB
 rw [this, if_pos rfl, cells_ofC]
theorem cellsB_nil (seed : Int) (p : Po) : cellsB seed p [] = made seed p := rfl
theorem id_ne {p q : Po} (hq : inT q) (h : p ≠ q) : idK p ≠ idK q := by
 by_cases hp : inT p
 ·exact fun e => h ((idK_inj hp hq).1 e)
 ·rw [idK_out hp]
  have := idK_pos hq
  omega
theorem find_iff {l : List En} (hn : nodL l) {p : Po} {e : En} : l.find? (fun x => x.1 == p) = some e ↔ e ∈ l ∧ e.1 = p := by
 induction l with
 | nil => simp
 | cons x t ih =>
   have hn' := alj48.1 (show (x.1 :: t.map (·.1)).Nodup from hn)
   rw [List.find?_cons]
   by_cases q : x.1 = p
   ·rw [show (x.1 == p) = true by simpa using q]
    simp only [Option.some.injEq, ali16]
    constructor
    ·rintro rfl; exact ⟨.inl rfl, q⟩
    ·rintro ⟨q2 | q2, q3⟩
     ·exact q2.symm
     ·exact absurd (ali06.2 ⟨e, q2, q3.trans q.symm⟩) hn'.1
   ·rw [show (x.1 == p) = false by simpa using q, ih hn'.2]
    simp only [ali16]
    constructor
    ·rintro ⟨a, b⟩; exact ⟨.inr a, b⟩
    ·rintro ⟨a | a, b⟩
     ·subst a; exact absurd b q
     ·exact ⟨a, b⟩
theorem find_none {l : List En} {p : Po} : l.find? (fun x => x.1 == p) = none ↔ ¬ here1 l p := by
 rw [alj20]
 constructor
 ·rintro h ⟨x, hx, q⟩
  exact h x hx (by simpa using q)
 ·intro h x hx q
  exact h ⟨x, hx, by simpa using q⟩
def tru (seed : Int) (T : Tb) (p : Po) : List Int := match T.2.find? (fun x => x.1 == p) with | some e => e.2.1 | none => cellsB seed p (ldS T.1 (idK p)).1
theorem tru_here {seed : Int} {T : Tb} (hn : nodL T.2) {e : En} (he : e ∈ T.2) : tru seed T e.1 = e.2.1 := by
 unfold tru; rw [(find_iff hn).2 ⟨he, rfl⟩]
theorem tru_not {seed : Int} {T : Tb} {p : Po} (h : ¬ here1 T.2 p) : tru seed T p = cellsB seed p (ldS T.1 (idK p)).1 := by
 unfold tru; rw [find_none.2 h]
structure Tru (seed : Int) (K : List Int) (n : Nat) (Q : Po → Prop) (T : Tb) : Prop where
 s : Sfe K 16393 n T.1
 nod : nodL T.2
 good : goodL T.2
 pl : ∀ e ∈ T.2, Q e.1
 q : ∀ p, Q p → inT p ∧ 2 * idK p ∈ K ∧ 2 * idK p + 1 ∈ K
 cl : ∀ e ∈ T.2, e.2.2.1 = false → e.2.1 = cellsB seed e.1 (ldS T.1 (idK e.1)).1
theorem mem_set {l : List En} (hn : nodL l) {i : Nat} {e e' : En} (hi : l[i]? = some e) (h1 : e'.1 = e.1) (x : En) : x ∈ l.set i e' ↔ x = e' ∨ (x ∈ l ∧ x.1 ≠ e.1) := by
 have hil := (ali03.1 hi).1
 have key : ∀ j y, l[j]? = some y → y.1 = e.1 → j = i := fun j y hj hy => by
  have a1 : (l.map (·.1))[i]? = some e.1 := by rw [ali02, hi]; rfl
  have a2 : (l.map (·.1))[j]? = some e.1 := by rw [ali02, hj]; simpa using hy
  exact (List.getElem?_inj (by rw [ali01]; exact (ali03.1 hj).1) hn).1 (a2.trans a1.symm)
 constructor
 ·intro hx
  obtain ⟨j, hj⟩ := alj26 hx
  rw [ali33] at hj
  split at hj
  ·exact .inl (Option.some.inj hj).symm
  ·rename_i hne
   exact .inr ⟨ali00 hj, fun q => hne (key j x hj q).symm⟩
 ·rintro (rfl | ⟨hx, hne⟩)
  ·exact ali00 (i := i) (ali32 hil)
  ·obtain ⟨j, hj⟩ := alj26 hx
   refine ali00 (i := j) ?_
   rw [alj28]
   ·exact hj
   ·rintro rfl
    rw [hi] at hj; cases hj; exact hne rfl
theorem nod_set {l : List En} (hn : nodL l) {i : Nat} {e e' : En} (hi : l[i]? = some e) (h1 : e'.1 = e.1) : nodL (l.set i e') := by
 unfold nodL
 rw [alj36, h1]
 have : (l.map (·.1)).set i e.1 = l.map (·.1) := by
  have hk : (l.map (·.1))[i]? = some e.1 := by rw [ali02, hi]; rfl
  obtain ⟨hl, he⟩ := ali03.1 hk
  rw [← he]; exact List.set_getElem_self hl
 rw [this]; exact hn
theorem Tru.save {seed : Int} {K : List Int} {n : Nat} {Q : Po → Prop} {T : Tb} (h : Tru seed K n Q T) (hn : n < 1000000000) {i : Nat} {e : En} (hi : T.2[i]? = some e) :
  (saveE T.1 e).2.2 = 0 ∧ (saveE T.1 e).2.1 = (e.1, e.2.1, false, e.2.2.2) ∧ Tru seed K (n + 1) Q ((saveE T.1 e).1, T.2.set i (saveE T.1 e).2.1) ∧ ∀ p, tru seed ((saveE T.1 e).1, T.2.set i (saveE T.1 e).2.1) p = tru seed T p := by
 have hm := ali00 hi
 obtain ⟨qi, q1, q2⟩ := h.q _ (h.pl e hm)
 obtain ⟨g1, g2⟩ := h.good e hm
 have hsave : (saveE T.1 e).2.2 = 0 ∧ (saveE T.1 e).2.1 = (e.1, e.2.1, false, e.2.2.2) ∧ Sfe K 16393 (n + 1) (saveE T.1 e).1 ∧ e.2.1 = cellsB seed e.1 (ldS (saveE T.1 e).1 (idK e.1)).1 ∧ ∀ id, id ≠ idK e.1 → ldS (saveE T.1 e).1 id = ldS T.1 id := by
  by_cases hd : e.2.2.1 = true
  ·have hid := idK_pos qi
   have hle := chunk_le g1 g2
   obtain ⟨s1, s2, s3, ⟨v, -, s4⟩, s5⟩ := h.s.save (id := idK e.1) (body := wrB (ofC e.2.1)) omm q1 q2 omm omm omm
   have e1 : saveE T.1 e = ((svS T.1 (idK e.1) (wrB (ofC e.2.1))).1, (e.1, e.2.1, decide ((svS T.1 (idK e.1) (wrB (ofC e.2.1))).2 ≠ 0), e.2.2.2), (svS T.1 (idK e.1) (wrB (ofC e.2.1))).2) := by unfold saveE; rw [if_pos hd]
   rw [e1]
   refine ⟨s1, by rw [s1]; rfl, s2, ?_, fun id hne => ldS_of (s5 id hne)⟩
   simp only
   rw [s4]
   exact (cellsB_wr seed e.1 g1 g2).symm
  ·have e1 : saveE T.1 e = (T.1, e, 0) := by unfold saveE; rw [if_neg hd]
   have hd' : e.2.2.1 = false := by simpa using hd
   rw [e1]
   refine ⟨rfl, ?_, ⟨h.s.c, h.s.ok, h.s.k, h.s.ml, fun id => Int.le_trans (h.s.v id) omm, h.s.r⟩, h.cl e hm hd', fun _ _ => rfl⟩
   obtain ⟨a, b, c, d⟩ := e
   simp only at hd'
   rw [hd']
 obtain ⟨s1, s2, s3, s4, s5⟩ := hsave
 rw [s2]
 generalize (saveE T.1 e).1 = D' at *
 have hmem := mem_set h.nod hi (e' := (e.1, e.2.1, false, e.2.2.2)) rfl
 have hnd := nod_set h.nod hi (e' := (e.1, e.2.1, false, e.2.2.2)) rfl
 refine ⟨s1, rfl, ⟨s3, hnd, fun x hx => ?_, fun x hx => ?_, h.q, fun x hx hc => ?_⟩, fun p => ?_⟩
 ·rcases (hmem x).1 hx with rfl | ⟨hx, -⟩
  ·exact ⟨g1, g2⟩
  ·exact h.good x hx
 ·rcases (hmem x).1 hx with rfl | ⟨hx, -⟩
  ·exact h.pl e hm
  ·exact h.pl x hx
 ·rcases (hmem x).1 hx with rfl | ⟨hx, hne⟩
  ·exact s4
  ·rw [s5 _ (id_ne qi hne)]; exact h.cl x hx hc
 ·by_cases hp : here1 T.2 p
  ·obtain ⟨x, hx, rfl⟩ := hp
   rw [tru_here h.nod hx]
   by_cases q : x.1 = e.1
   ·have : x = e := by
     have a := (find_iff h.nod).2 ⟨hx, q⟩
     have b := (find_iff h.nod).2 ⟨hm, rfl⟩
     rw [a] at b; exact Option.some.inj b
    subst this
    exact tru_here (T := (D', T.2.set i (x.1, x.2.1, false, x.2.2.2))) (e := (x.1, x.2.1, false, x.2.2.2)) hnd ((hmem _).2 (.inl rfl))
   ·exact tru_here (T := (D', T.2.set i (e.1, e.2.1, false, e.2.2.2))) (e := x) hnd ((hmem x).2 (.inr ⟨hx, q⟩))
  ·have hp' : ¬ here1 (T.2.set i (e.1, e.2.1, false, e.2.2.2)) p := by
    rintro ⟨x, hx, rfl⟩
    rcases (hmem x).1 hx with rfl | ⟨hx, -⟩
    ·exact hp ⟨e, hm, rfl⟩
    ·exact hp ⟨x, hx, rfl⟩
   rw [tru_not hp, tru_not (T := (D', T.2.set i (e.1, e.2.1, false, e.2.2.2))) hp']
   simp only
   rw [s5 _ (id_ne qi fun q => hp ⟨e, hm, q.symm⟩)]
end Go.Proofs.YtjcnjlaelhdjeaaGreatDoor
namespace Go.Proofs.YtjcnjlaelhdjeaaGreatDoor
open Go Go.Vc Go.RowKit Go.Proofs Go.Chk Go.Runs Go.Code
section
variable {w0 w w' : World} {t : Nat} {seed limit : Int} {T : Tb}
end
end Go.Proofs.YtjcnjlaelhdjeaaGreatDoor
namespace Go.Proofs.YtjcnjlaelhdjeaaGreatDoor
open Go Go.Vc Go.RowKit Go.Proofs Go.Chk Go.Runs Go.Code
theorem nnP {p : Option Addr} {K : Prop} (hp : p.isSome = true) (h : K) : AndL (nnC p) K := AndL_iff.2 ⟨nnC_iff.2 hp, h⟩
end Go.Proofs.YtjcnjlaelhdjeaaGreatDoor
namespace Go.Proofs.YtjcnjlaelhdjeaaGreatDoor
open Go Go.Vc Go.RowKit Go.Proofs Go.Chk Go.Runs Go.Code
end Go.Proofs.YtjcnjlaelhdjeaaGreatDoor
namespace Go.Proofs.YtjcnjlaelhdjeaaGreatDoor
open Go Go.Vc Go.RowKit Go.Proofs Go.Chk Go.Runs Go.Code
end Go.Proofs.YtjcnjlaelhdjeaaGreatDoor
namespace Go.Proofs.YtjcnjlaelhdjeaaGreatDoor
open Go Go.Vc Go.RowKit Go.Proofs Go.Chk Go.Runs Go.Code
abbrev tWorld : TypeId := 132
abbrev tChg : TypeId := 269
abbrev Cg := Ce × Int
abbrev cgv (x : Cg) : LV := [.int .i64 x.1.1, .int .i64 x.1.2.1, .int .i64 x.1.2.2, .int .i64 x.2]
def WF (F : Nat → Prop) (w : World) (o t : Nat) (seed limit : Int) (T : Tb) (ch : List Cg) : Prop :=
 ∃ F1 sc, TF F1 w t seed limit T ∧ Row w o [t, .slice sc.a sc.n sc.c] tWorld ∧ OwnK 0 tChg 4 w sc (ch.map cgv) ∧ F = fun i => F1 i ∨ i = o ∨ sc.blk = some i
theorem WF.lt {F : Nat → Prop} {w : World} {o t : Nat} {seed limit : Int} {T : Tb} {ch : List Cg} (h : WF F w o t seed limit T ch) {i : Nat} (hi : F i) : i < w := by
 obtain ⟨F1, sc, h1, h2, h3, rfl⟩ := h
 rcases hi with hi | rfl | hi
 ·exact h1.lt hi
 ·exact h2.lt
 ·exact (h3.own.lt hi).2
theorem WF.same {F : Nat → Prop} {w w' : World} {o t : Nat} {seed limit : Int} {T : Tb} {ch : List Cg} (h : WF F w o t seed limit T ch) (hs : ∀ i, F i → w'.heap[i]? = w.heap[i]?) : WF F w' o t seed limit T ch := by
 obtain ⟨F1, sc, h1, h2, h3, rfl⟩ := h
 exact ⟨F1, sc, h1.same fun i hi => hs i (.inl hi), h2.same (hs o (.inr (.inl rfl))), OwnK.keep h3 fun b hb => hs b (.inr (.inr hb)), rfl⟩
theorem WF.ext {F : Nat → Prop} {w w' : World} {o t : Nat} {seed limit : Int} {T : Tb} {ch : List Cg} (h : WF F w o t seed limit T ch) (x : Ext w w') : WF F w' o t seed limit T ch := h.same fun _ hi => x.heap (h.lt hi)
theorem WF.keep {F G : Nat → Prop} {w w' : World} {o t : Nat} {seed limit : Int} {T : Tb} {ch : List Cg} (h : WF F w o t seed limit T ch) (hm : Mod G w w') (hn : ∀ i, F i → ¬ G i) : WF F w' o t seed limit T ch := h.same fun i hi => hm.same i (h.lt hi) (hn i hi)
theorem WF.no_row {F : Nat → Prop} {w : World} {o t : Nat} {seed limit : Int} {T : Tb} {ch : List Cg} (h : WF F w o t seed limit T ch) {j : Nat} {cs : LV} {τ : TypeId} (hr : Row w j cs τ) (hτ : offT τ) (hw : τ ≠ tWorld) (hc : τ ≠ tChg) : ¬ F j := by
 obtain ⟨F1, sc, h1, h2, h3, rfl⟩ := h
 rintro (hi | rfl | hi)
 ·exact h1.no_row hr hτ hi
 ·exact hr.ne h2 hw rfl
 ·obtain ⟨cs', hr'⟩ := own_row h3 dcc hi
  exact hr.ne hr' hc rfl
abbrev WRes (F : Nat → Prop) (w : World) (o t : Nat) (seed limit : Int) (T : Tb) (ch : List Cg) (w' : World) : Prop := ∃ F', WF F' w' o t seed limit T ch ∧ Turned F F' w w'
theorem WF.table {F : Nat → Prop} {w : World} {o t : Nat} {seed limit : Int} {T : Tb} {ch : List Cg} (h : WF F w o t seed limit T ch) : ∃ F1, TF F1 w t seed limit T ∧ (∀ i, F1 i → F i) ∧ ∀ {w' : World} {T' : Tb}, TRes F1 w t seed limit T' w' → WRes F w o t seed limit T' ch w' := by
 obtain ⟨F1, sc, h1, h2, h3, rfl⟩ := h
 refine ⟨F1, h1, fun i hi => .inl hi, ?_⟩
 rintro w' T' ⟨F', h', ht⟩
 have n2 := h1.no_row h2 dcc
 have n3 : ∀ b, sc.blk = some b → ¬ F1 b := fun b hb => by
  obtain ⟨cs', hr'⟩ := own_row h3 dcc hb
  exact h1.no_row hr' dcc
 refine ⟨_, ⟨F', sc, h', ht.mod.row h2 n2, ht.mod.ownK h3 n3, rfl⟩, ht.mod.mono fun i _ hi => .inl hi, fun i hi => ?_⟩
 rcases hi with hi | hi | hi
 ·exact (ht.sub i hi).imp .inl id
 ·exact .inl (.inr (.inl hi))
 ·exact .inl (.inr (.inr hi))
theorem wNew_spec (seed limit room : Int) (w : World) : Cal 115 #[seed, limit, room] w fun e w' => ∃ o t F, e = Value.pointer (pzq o) ∧ WF F w' o t seed (min (max limit 1) 16) (dk0 room, []) [] ∧ Ext w w' ∧ ∀ i, F i → w.heap.size ≤ i := by
 apply world_New.vc
 refine (tfNew_spec seed limit room w).mono ?_
 rintro e w0 ⟨t, F1, rfl, h0, x0, f0⟩
 refine ⟨_, rfl, fun w2 e2 => ⟨w0.heap.size, t, _, rfl, ⟨F1, ⟨none, 0, 0⟩, h0.ext (eaa e2), ?_, OwnK.nil, rfl⟩, x0.of_alloc e2, fun i hi => ?_⟩⟩
 ·rw [e2]; exact Row.new w0 [_, _] _
 ·rcases hi with hi | hi | hi
  ·exact f0 i hi
  ·have := x0.size; omega
  ·cases hi
theorem wTable_spec {F : Nat → Prop} {w : World} {o t : Nat} {seed limit : Int} {T : Tb} {ch : List Cg} (h : WF F w o t seed limit T ch) : Cal 40 #[o] w fun e w' => e = Value.pointer (pzq t) ∧ w' = w := by
 obtain ⟨F1, sc, h1, h2, h3, rfl⟩ := h
 apply world_World_Table.vc
 exact ⟨_, h2.at 0 rfl, rfl, rfl⟩
theorem wView_spec {F : Nat → Prop} {w : World} {o t : Nat} {seed limit : Int} {T : Tb} {ch : List Cg} (h : WF F w o t seed limit T ch) : Cal 58 #[o] w fun e w' => e = Value.func (.func 113) #[t] #[] ∧ w' = w := by
 obtain ⟨F1, sc, h1, h2, h3, rfl⟩ := h
 apply world_World_View.vc
 exact ⟨_, h2.at 0 rfl, rfl, rfl⟩
def wsC (l : List En) (ch : List Cg) (c : Ce) (b : Int) : List Cg := if (setE l c b).2 = 0 ∧ atE l c ≠ b then ch ++ [(c, b)] else ch
theorem one_4 (a b c d : Int) : One [Value.int .i64 a, b, c, d] := by
 intro v hv
 simp at hv
 rcases hv with rfl | rfl | rfl | rfl <;> rfl
theorem wSet_spec {F : Nat → Prop} {w : World} {o t : Nat} {seed limit : Int} {T : Tb} {ch : List Cg} (h : WF F w o t seed limit T ch) (c : Ce) (hc : okC c) (b : Int) (hn : ch.length ≤ 1000000) :
  Cal 250 #[o, cev c, .int .i64 b] w fun e w' => e = Value.int .i64 (setE T.2 c b).2 ∧ WRes F w o t seed limit (T.1, (setE T.2 c b).1) (wsC T.2 ch c b) w' := by
 have hF := fun {i} => h.lt (i := i)
 have hh := h
 obtain ⟨F1, sc, h1, h2, h3, rfl⟩ := h
 apply world_World_Set.vc
 intro w0 e0
 have z0 := hs1 e0
 have x0 : Ext w w0.drew := (eaa e0).drew
 have zd := zdr w0
 refine ⟨_, (h2.ext x0).at 0 rfl, (tfAt_spec (h1.ext x0) c hc).mono ?_⟩
 rintro e w2 ⟨rfl, x2⟩
 have z2 := x2.size
 have x02 := (x0.tr x2).drew
 have zd2 := zdr w2
 refine ⟨_, rfl, x2.heap omm, _, (h2.ext x02).at 0 rfl, (tfSet_spec (h1.ext x02) c hc b).mono ?_⟩
 rintro e w5 ⟨rfl, hT⟩
 obtain ⟨F', hF', ht'⟩ := hT
 have z5 := ht'.mod.size
 have n2 := (h1.ext x02).no_row (h2.ext x02) dcc
 have n3 : ∀ b, sc.blk = some b → ¬ F1 b := fun b hb => by
  obtain ⟨cs', hr'⟩ := own_row (h3.ext x02) dcc hb
  exact (h1.ext x02).no_row hr' dcc
 have h2' := ht'.mod.row (h2.ext x02) n2
 have h3' : OwnK 0 tChg 4 w5 sc (ch.map cgv) := ht'.mod.ownK (h3.ext x02) n3
 have nb : ¬ F1 w := fun hf => by have := hF (.inl hf); omega
 have tt : Turned (fun i => F1 i ∨ i = o ∨ sc.blk = some i) (fun i => F' i ∨ i = o ∨ sc.blk = some i) w w5 := by
  refine (Turned.of_ext x02).trans ⟨ht'.mod.mono fun i _ hi => .inl hi, fun i hi => ?_⟩
  rcases hi with hi | hi | hi
  ·exact (ht'.sub i hi).imp .inl id
  ·exact .inl (.inr (.inl hi))
  ·exact .inl (.inr (.inr hi))
 refine ⟨_, rfl, ht'.mod.same _ omm nb, Br.mk (fun hb => Br.mk (fun hb2 => ?_) (fun hb2 => ?_)) (fun hb => ?_)⟩
 ·simp only [beq_iff_eq] at hb
  simp only [bne_iff_ne] at hb2
  have ec : wsC T.2 ch c b = ch ++ [(c, b)] := by unfold wsC; rw [if_pos ⟨hb, hb2⟩]
  rw [ec]
  have h2d := h2'.ext (Ext.dr w5)
  have hsn : sc.n = ch.length := by have := (h3.rd (show 0 < 4 by decide)).n; rwa [ali01] at this
  refine ⟨sc, h2d.at 1 rfl, fun w8 e8 => ?_⟩
  subst e8
  obtain ⟨hp, hres⟩ := (h3'.ext (Ext.dr w5)).app1 (bytes := 32) (news := cgv (c, b)) (.cells #[c.1, c.2.1, c.2.2, .int .i64 b] tChg) (alj66 _) rfl (one_4 _ _ _ _) omm omm
  refine ⟨hp, fun s9 w10 hr => ?_⟩
  obtain ⟨f1, ho10, hn10, xb, hk10, hblk⟩ := hres s9 w10 hr
  have zd5 := zdr w5
  have hol := h2.lt
  have hscb : ∀ b, sc.blk = some b → b < w.heap.size := fun b hb => (h3.own.lt hb).2
  have m10 : Mod (fun j => sc.blk = some j) w5 w10 := (Mod.of_ext (Ext.dr w5)).trans (Mod.of_app xb hk10)
  have no : ¬ sc.blk = some o := fun e => by
   obtain ⟨cs', hr'⟩ := own_row h3 dcc e
   exact hr'.ne h2 dcc rfl
  have h210 := m10.row h2' no
  obtain ⟨p1, p2⟩ := h210.put1 (j := 1) (v := .slice s9.a s9.n s9.c) smm rfl
  have z10 := m10.size
  have pb : ∀ j : Nat, o < j → pblk (padd (pzq o) 1) ≠ some j := fun j hj e => by
   rw [pblk_padd] at e
   have : o = j := by simpa [pblk] using e
   omega
  refine ⟨(m10.same w omm (fun e => by have := hscb _ e; omega)).trans ((Ext.al w5.drew _).heap (show w.heap.size < w5 by omega)).symm, f1, ⟨rfl, p1⟩, pb _ omm, pb _ (show o < w5 by omega), fun w11 e11 => ⟨rfl, ?_⟩⟩
  obtain ⟨q1, q2⟩ := p2 w11 e11
  have ho9 : ∀ b, s9.blk = some b → b ≠ o := fun b hb => by
   obtain ⟨cs', hr'⟩ := own_row ho10 dcc hb
   exact hr'.ne h210 dcc
  have m11 : Mod (fun j => j = o ∨ sc.blk = some j) w5 w11 := (m10.mono fun i _ hi => .inr hi).trans (q2.mono fun i _ hi => .inl hi)
  have hF11 : TF F' w11 t seed limit (T.1, (setE T.2 c b).1) := hF'.keep m11 fun i hi e => by
   rcases e with e | e
   ·exact hF'.no_row h2' dcc (e ▸ hi)
   ·obtain ⟨cs', hr'⟩ := own_row h3' dcc e
    exact hF'.no_row hr' dcc hi
  refine ⟨_, ⟨F', s9, hF11, q1, ?_, rfl⟩, tt.trans ⟨m11.mono fun i _ hi => .inr hi, fun i hi => ?_⟩⟩
  ·rw [ali08]
   exact q2.ownK ho10 ho9
  ·rcases hi with hi | hi | hi
   ·exact .inl (.inl hi)
   ·exact .inl (.inr (.inl hi))
   ·rcases hblk with e | e
    ·exact .inl (.inr (.inr (by rw [← e]; exact hi)))
    ·rw [e] at hi; cases hi; exact .inr (show w5.heap.size ≤ w5.heap.size + 1 by omega)
 ·simp only [bne_eq_false_iff_eq] at hb2
  have ec : wsC T.2 ch c b = ch := by unfold wsC; rw [if_neg fun h => h.2 hb2]
  rw [ec]
  exact ⟨rfl, _, ⟨F', sc, hF', h2', h3', rfl⟩, tt⟩
 ·simp only [beq_eq_false_iff_ne] at hb
  have ec : wsC T.2 ch c b = ch := by unfold wsC; rw [if_neg fun h => hb h.1]
  rw [ec]
  exact ⟨rfl, _, ⟨F', sc, hF', h2', h3', rfl⟩, tt⟩
theorem wsC_len (l : List En) (ch : List Cg) (c : Ce) (b : Int) : (wsC l ch c b).length ≤ ch.length + 1 := by
 unfold wsC
 split
 ·simp
 ·omega
end Go.Proofs.YtjcnjlaelhdjeaaGreatDoor
namespace Go.Proofs.YtjcnjlaelhdjeaaGreatDoor
open Go Go.Vc Go.RowKit Go.Proofs Go.Chk Go.Runs Go.Code Go.Flw
def Tl (v : Value) (V : Ce → Int) (w : World) : Prop := ∃ D : Nat → Prop, (∀ i, D i → i < w.heap.size) ∧ ∀ w', (∀ i, D i → w'.heap[i]? = w.heap[i]?) → ∀ c, okC c → callV Tryz.prog v [cev c] w' fun e w'' => e = Value.int .i64 (V c) ∧ Ext w' w''
theorem Tl.ext {v : Value} {V : Ce → Int} {w w' : World} (h : Tl v V w) (x : Ext w w') : Tl v V w' := by
 obtain ⟨D, h1, h2⟩ := h
 exact ⟨D, fun i hi => ali35 (h1 i hi) x.size, fun w'' hk => h2 w'' fun i hi => (hk i hi).trans (x.heap (h1 i hi))⟩
theorem Tl.at {v : Value} {V : Ce → Int} {w : World} (h : Tl v V w) {c : Ce} (hc : okC c) : callV Tryz.prog v [cev c] w fun e w' => e = Value.int .i64 (V c) ∧ Ext w w' := by
 obtain ⟨D, h1, h2⟩ := h
 exact h2 w (fun _ _ => rfl) c hc
theorem callV_mono' {v : Value} {l : LV} {w : World} {R R' : Ending → World → Prop} (h : callV Tryz.prog v l w R) (k : ∀ e w', R e w' → R' e w') : callV Tryz.prog v l w R' := callV_mono h k
theorem app_grow {E k n : Nat} {w w' : World} {s s' : Sl} {news : LV} (h : AppRes E k w s n news s' w') (hc : s.c < s.n + n) : Ext w w' := by
 cases h with
 | fits hf => omega
 | grows => exact (Ext.dr w).tr (Ext.al _ _)
set_option maxRecDepth 100000 in
theorem Wakes_spec {v : Value} {V : Ce → Int} {w : World} (hV : Tl v V w) (c : Ce) (hc : wideC c) :
  Cal 308 #[v, cev c] w fun e w' => ∃ s : Sl, e = s ∧ OwnK w tCe 3 w' s ((wakesK V c).map clv) ∧ Ext w w' := by
 apply flow_Wakes.vc
 intro w0 e0
 have x0 := eaa e0
 have z0 := hs1 e0
 refine (Near_spec c hc w0).mono ?_
 rintro e w1 ⟨rfl, x1⟩
 have z1 := x1.size
 refine ⟨_, _, _, _, _, _, _, _, _, _, _, _, _, _, _, _, _, _, rfl, x1.heap omm, fun w20 e20 => ?_⟩
 have x20 := eaa e20
 have z20 := hs1 e20
 have hr : Row w20 w1 [vzz, vzz, vzz, vzz, vzz, vzz, vzz, vzz, vzz, vzz, vzz, vzz, vzz, vzz, vzz, vzz, vzz, vzz] 266 := Row.nw e20
 refine ⟨⟨rfl, hr.wr smm⟩, fun e => by
  have : w1.heap.size = w.heap.size := by simpa [pblk] using e
  omega, fun w21 e21 w22 e22 => ?_⟩
 have e21 : w21 = setP w20 (pzq w1.heap.size) (nbV c) := e21
 rw [hr.setP (vs := nbV c) smm (one_nb c), putCells_all smm] at e21
 have hr2 : Row w21 w1 (nbV c) 266 := hr.st e21
 have x21 : Ext w w21 := (x0.tr (x1.tr x20)).of_setRow e21 omm
 have z21 := hs0 e21
 have xd := Ext.dr w21
 have zd := zdr w21
 have x22 := eaa e22
 have z22 := hs1 e22
 have hc22 : Row w22 w21.drew.heap.size (clv c) tCe := Row.nw e22
 have x022 := x21.tr (xd.tr x22)
 have hr22 := hr2.ext (xd.tr x22)
 have ho : OwnK w tCe 3 w22 ⟨pzq w21.drew.heap.size, 1, 1⟩ [clv c] := OwnK.of_row omm hc22 smm (ali34 _) rfl smm
 have ha := ho.appN (bytes := 24) (more := (nbK c).map clv) omm (fun r hr => by obtain ⟨y, -, rfl⟩ := ali06.1 hr; rfl) (fun r hr => by obtain ⟨y, -, rfl⟩ := ali06.1 hr; exact one_cl y) (by simp [nbK]) (by simp [nbK])
 obtain ⟨hp, hres⟩ := ha
 refine ⟨((nbK c).map clv).flatten, ?_, hp, fun s24 w25 hr25 => ?_⟩
 ·rw [slBase_zero]
  intro i u hu
  exact hr22.at i (by rw [nbV_rows]; exact hu)
 obtain ⟨ho25, hn25, -, -, -⟩ := hres s24 w25 hr25
 have x25 : Ext w22 w25 := app_grow hr25 (show (1 : Nat) < 1 + (6 - 0) by decide)
 have z25 := x25.size
 have x025 : Ext w w25 := x022.tr x25
 have ho25 : OwnK w tCe 3 w25 s24 ((c :: nbK c).map clv) := ho25
 have hrd := ho25.rd (show 0 < 3 by decide)
 have hn24 : s24.n = 7 := hrd.n
 refine ⟨x25.heap omm, x25.heap omm, fun n x s30 w31 => ∃ j : Nat, x = j ∧ j + n = 7 ∧ OwnK w25 tCe 3 w31 s30 ((((c :: nbK c).take j).filter fun n => decide (0 < delayK (V n))).map clv) ∧ Ext w25 w31, ⟨7, rfl, rfl, 0, rfl, rfl, OwnK.nil, Ext.rfl' _⟩, ?_⟩
 rintro n us x s30 w31 ⟨j, rfl, hj, ho31, x31⟩
 have z31 := x31.size
 apply Br.mk <;> intro hb
 ·replace hb := q0T hb
  obtain ⟨y, hy⟩ := get_lt (l := c :: nbK c) (i := j) (by have : (c :: nbK c).length = 7 := rfl; omega)
  have hym : y ∈ c :: nbK c := ali00 hy
  have oky : okC y := by
   rcases ali16.1 hym with rfl | h
   ·exact hc.ok
   ·exact nb_ok hc h
  have hy' : ((c :: nbK c).map clv)[j]? = some (clv y) := by rw [ali02, hy]; rfl
  have htk : (c :: nbK c).take (j + 1) = (c :: nbK c).take j ++ [y] := by rw [ali09, hy]; rfl
  refine ⟨hrd.inB (i := (j : Int)) dcc omm hb, _, _, _, (hrd.ext x31).loadL hy', fun w36 e36 w37 e37 => ?_⟩
  have x37 : Ext w31 w37 := (eaa e36).of_setRow e37 (ali34 _)
  have z37 := hs2 e36 e37
  refine callV_mono' ((hV.ext (x025.tr (x31.tr x37))).at oky) ?_
  rintro e w38 ⟨rfl, x38⟩
  have z38 := x38.size
  refine ⟨_, rfl, x38.heap omm, x38.heap omm, x38.heap omm, (Delay_spec (V y) w38).mono ?_⟩
  rintro e w40 ⟨rfl, rfl⟩
  have wk := wkS (j := j)
  refine ⟨_, rfl, rfl, rfl, rfl, ?_⟩
  have ho40 := ho31.ext (x37.tr x38)
  apply Br.mk <;> intro hd
  ·intro w42 e42
   subst e42
   have hn30 : s30.n ≤ 7 := by
    have h1 := (ho31.rd (show 0 < 3 by decide)).n
    have h2 := alj32 (fun n => decide (0 < delayK (V n))) ((c :: nbK c).take j)
    rw [ali01] at h1
    rw [ali12] at h2
    omega
   obtain ⟨hp8, hres8⟩ := ho40.app1 (bytes := 24) (news := clv y) (.cells #[y.1, y.2.1, y.2.2] tCe) omm rfl (one_cl y) omm omm
   refine ⟨hp8, fun s43 w44 hr44 => ?_⟩
   obtain ⟨f8, ho8, hn8, x8, hk8, -⟩ := hres8 s43 w44 hr44
   have xa := Ext.al w40 (.cells #[y.1, y.2.1, y.2.2] tCe)
   have hb30 : ∀ b, s30.blk = some b → w25.heap.size ≤ b ∧ b < w31.heap.size := fun b hb => ho31.own.lt hb
   have kp : ∀ j, (j < w25.heap.size ∨ w31.heap.size ≤ j) → j < w40.heap.size → w44.heap[j]? = (w40.alloc (.cells #[y.1, y.2.1, y.2.2] tCe)).heap[j]? := fun j hj hj2 => by
    rw [hk8 j (fun hb => by have := hb30 j hb; omega) hj2, xa.heap hj2]
   refine ⟨kp _ (.inl omm) omm, kp _ (.inl omm) omm, kp _ (.inr omm) omm, f8, n - 1, by omega, rfl, rfl, j + 1, wk, by omega, ?_, (Below.trans (x31.tr (x37.tr x38)) x8 : Below w25 w25 w44)⟩
   rw [htk, ali38, ali08, alj18 (by simpa using hd)]
   exact ho8
  ·refine ⟨n - 1, by omega, rfl, rfl, j + 1, wk, by omega, ?_, x31.tr (x37.tr x38)⟩
   rw [htk, ali38, ali08, alj17 (by simpa using hd)]
   simpa using ho40
 ·replace hb := q0F hb
  have hj7 : (c :: nbK c).take j = c :: nbK c := ali11 (by have : (c :: nbK c).length = 7 := rfl; omega)
  rw [hj7] at ho31
  exact ⟨s30, rfl, ho31.low omm, x025.tr x31⟩
end Go.Proofs.YtjcnjlaelhdjeaaGreatDoor
namespace Go.Proofs.YtjcnjlaelhdjeaaGreatDoor
open Go Go.Vc Go.RowKit Go.Proofs Go.Chk Go.Runs Go.Code
section
variable {N F F' : Nat → Prop} {w w' v v' : World} {s1 s2 s3 s4 : Sl} {T T' : Tb} {ch ch' : List Cg} {seed cap limit : Int} {o t a b m n k : Nat}
theorem wfLoad_spec (h : WF F w o t seed limit T ch) (hW : T.1.l.length ≤ 1000000) (p : Po) :
  Cal 88 #[t, pv p] w fun e w' => e = Value.int .i64 (ldE seed limit T.1 T.2 p).2 ∧ WRes F w o t seed limit (ldE seed limit T.1 T.2 p).1 ch w' := by
 obtain ⟨F1, hT, -, hres⟩ := h.table
 refine (tfLoad_spec hT hW p).mono ?_
 rintro e w' ⟨rfl, hr⟩
 exact ⟨rfl, hres hr⟩
theorem wfAt_spec (h : WF F w o t seed limit T ch) (c : Ce) (hc : okC c) :
  Cal 113 #[t, cev c] w fun e w' => e = Value.int .i64 (atE T.2 c) ∧ Ext w w' := by
 obtain ⟨F1, hT, -⟩ := h.table
 exact tfAt_spec hT c hc
set_option maxRecDepth 100000 in
theorem WF.tells {F : Nat → Prop} {w : World} {T : Tb} {ch : List Cg} {seed limit : Int} {o t : Nat} (h : WF F w o t seed limit T ch) {w' : World} (hk : ∀ i, F i → w'.heap[i]? = w.heap[i]?) (c : Ce) (hc : okC c) :
  callV Tryz.prog (.func (.func 113) #[t] #[]) [cev c] w' fun e w'' => e = Value.int .i64 (atE T.2 c) ∧ Ext w' w'' :=
 callV_of (by kernel_rfl) rfl (wfAt_spec (h.same hk) c hc)
end
theorem Lo.wv {w : World} {g : Nat} {cs : LV} {τ : TypeId} (h : Row w g cs τ) : LoadL w (pzq g) 0 cs := h.loadL (fun j hj => by rw [ali37])
end Go.Proofs.YtjcnjlaelhdjeaaGreatDoor
namespace Go.Proofs.YtjcnjlaelhdjeaaGreatDoor
open Go Go.Vc Go.RowKit Go.Proofs Go.Chk Go.Runs Go.Code Go.Que Go.Flw
abbrev tSim : TypeId := 129
structure Sm where
 seed : Int
 cap : Int
 T : Tb
 ch : List Go.Flw.Cg
 q : QS
 budget : Int
 now : Int
 drops : List Ce
abbrev smC (g o : Nat) (M : Sm) (occ : Value) (sd : Sl) : LV := [g, o, .int .i64 M.budget, .int .i64 M.now, occ, .slice sd.a sd.n sd.c]
def SF (F : Nat → Prop) (w : World) (s o t : Nat) (M : Sm) (occ : Value) : Prop :=
 ∃ g m qs Fw sd, Row w s (smC g o M occ sd) tSim ∧ Q.QIs w g m qs M.q ∧ QOk M.q ∧ WF Fw w o t M.seed M.cap M.T M.ch ∧ OwnK 0 tCe 3 w sd (M.drops.map clv) ∧ (∀ i, Q.Foot g m qs i → ¬ Fw i) ∧ F = fun i => i = s ∨ Q.Foot g m qs i ∨ Fw i ∨ sd.blk = some i
section
variable {F F' : Nat → Prop} {w w' : World} {s o t : Nat} {M M' : Sm} {occ : Value}
theorem SF.lt (h : SF F w s o t M occ) {i : Nat} (hi : F i) : i < w := by
 obtain ⟨g, m, qs, Fw, sd, h1, h2, -, h3, h4, -, rfl⟩ := h
 rcases hi with rfl | hi | hi | hi
 ·exact h1.lt
 ·exact h2.lt i hi
 ·exact h3.lt hi
 ·exact (h4.own.lt hi).2
theorem SF.same (h : SF F w s o t M occ) (hk : ∀ i, F i → w'.heap[i]? = w.heap[i]?) : SF F w' s o t M occ := by
 obtain ⟨g, m, qs, Fw, sd, h1, h2, hq, h3, h4, h5, rfl⟩ := h
 obtain ⟨kvs, m1, m2⟩ := h2.map
 exact ⟨g, m, qs, Fw, sd, h1.same (hk _ (.inl rfl)), ⟨h2.row.same (hk _ (.inr (.inl (.inl rfl)))), OwnK.keep h2.own fun b hb => hk b (.inr (.inl (.inr (.inr hb)))), kvs, m1.same (hk _ (.inr (.inl (.inr (.inl rfl))))), m2⟩, hq, h3.same fun i hi => hk i (.inr (.inr (.inl hi))), OwnK.keep h4 fun b hb => hk b (.inr (.inr (.inr hb))), h5, rfl⟩
theorem SF.ext (h : SF F w s o t M occ) (x : Ext w w') : SF F w' s o t M occ := h.same fun _ hi => x.heap (h.lt hi)
theorem SF.no_row2 (h : SF F w s o t M occ) {j : Nat} {cs : LV} {τ : TypeId} (hr : Row w j cs τ) (h1 : offT τ) (h2 : τ ≠ tWorld) (h3 : τ ≠ tChg) (h4 : τ ≠ tSim) (h5 : τ ≠ Q.tQueue) (h6 : τ ≠ Q.tItem) (h7 : τ ≠ tCe) : ¬ F j := by
 obtain ⟨g, m, qs, Fw, sd, r1, r2, -, r3, r4, -, rfl⟩ := h
 rintro (hi | hi | hi | hi)
 ·exact hr.ne r1 h4 hi
 ·exact r2.no_row hr h5 h6 hi
 ·exact r3.no_row hr h1 h2 h3 hi
 ·obtain ⟨cs', hr'⟩ := own_row r4 dcc hi
  exact hr.ne hr' h7 rfl
abbrev SmRes (F : Nat → Prop) (w : World) (s o t : Nat) (M : Sm) (occ : Value) (w' : World) : Prop := ∃ F', SF F' w' s o t M occ ∧ Turned F F' w w'
theorem SF.world (h : SF F w s o t M occ) : ∃ Fw, WF Fw w o t M.seed M.cap M.T M.ch ∧ (∀ i, Fw i → F i) ∧ ∀ {w' : World} {T' : Tb} {ch' : List Go.Flw.Cg}, WRes Fw w o t M.seed M.cap T' ch' w' → SmRes F w s o t { M with T := T', ch := ch' } occ w' := by
 obtain ⟨g, m, qs, Fw, sd, h1, h2, hq, h3, h4, h5, rfl⟩ := h
 refine ⟨Fw, h3, fun i hi => .inr (.inr (.inl hi)), ?_⟩
 rintro w' T' ch' ⟨F', h', ht⟩
 have n1 := h3.no_row h1 dcc dcc dcc
 have n2 : ∀ i, Q.Foot g m qs i → ¬ Fw i := h5
 have n4 : ∀ b, sd.blk = some b → ¬ Fw b := fun b hb => by
  obtain ⟨cs', hr'⟩ := own_row h4 dcc hb
  exact h3.no_row hr' dcc dcc dcc
 refine ⟨_, ⟨g, m, qs, F', sd, ht.mod.row h1 n1, h2.keep ht.mod n2, hq, h', ht.mod.ownK h4 n4, ?_, rfl⟩, ht.mod.mono fun i _ hi => .inr (.inr (.inl hi)), fun i hi => ?_⟩
 ·exact fun i hi hf => ht.apart (G := Q.Foot g m qs) (fun i hi hg => h5 i hg hi) (fun i hi => h2.lt i hi) i hf hi
 ·rcases hi with hi | hi | hi | hi
  ·exact .inl (.inl hi)
  ·exact .inl (.inr (.inl hi))
  ·exact (ht.sub i hi).imp (fun h => .inr (.inr (.inl h))) id
  ·exact .inl (.inr (.inr (.inr hi)))
theorem SF.queue (h : SF F w s o t M occ) : ∃ g m qs, Q.QIs w g m qs M.q ∧ QOk M.q ∧ (∃ sd, Row w s (smC g o M occ sd) tSim) ∧ (∀ i, Q.Foot g m qs i → F i) ∧ ∀ {w' : World} {qs' : Sl} {q' : QS}, Q.QIs w' g m qs' q' → QOk q' → Turned (Q.Foot g m qs) (Q.Foot g m qs') w w' → SmRes F w s o t { M with q := q' } occ w' := by
 obtain ⟨g, m, qs, Fw, sd, h1, h2, hq, h3, h4, h5, rfl⟩ := h
 refine ⟨g, m, qs, h2, hq, ⟨sd, h1⟩, fun i hi => .inr (.inl hi), ?_⟩
 rintro w' qs' q' h' hq' ht
 have n1 := h2.no_row h1 dcc dcc
 have n3 : ∀ i, Fw i → ¬ Q.Foot g m qs i := fun i hi hf => h5 i hf hi
 have n4 := h2.no_own h4 dcc dcc dcc
 refine ⟨_, ⟨g, m, qs', Fw, sd, ht.mod.row h1 n1, h', hq', h3.keep ht.mod n3, ht.mod.ownK h4 n4, ?_, rfl⟩, ht.mod.mono fun i _ hi => .inr (.inl hi), fun i hi => ?_⟩
 ·exact fun i hi hf => ht.apart (G := Fw) (fun i hi hg => h5 i hi hg) (fun i hi => h3.lt hi) i hi hf
 ·rcases hi with hi | hi | hi | hi
  ·exact .inl (.inl hi)
  ·exact (ht.sub i hi).imp (fun h => .inr (.inl h)) id
  ·exact .inl (.inr (.inr (.inl hi)))
  ·exact .inl (.inr (.inr (.inr hi)))
theorem SF.row (h : SF F w s o t M occ) : ∃ g sd, Row w s (smC g o M occ sd) tSim ∧ OwnK 0 tCe 3 w sd (M.drops.map clv) ∧ F s ∧ (∀ b, sd.blk = some b → F b) ∧ ∀ {w' : World} {M' : Sm} {occ' : Value} {sd' : Sl}, M'.seed = M.seed → M'.cap = M.cap → M'.T = M.T → M'.ch = M.ch → M'.q = M.q → Mod (fun i => i = s ∨ sd.blk = some i) w w' → Row w' s (smC g o M' occ' sd') tSim → OwnK 0 tCe 3 w' sd' (M'.drops.map clv) → (∀ b, sd'.blk = some b → sd.blk = some b ∨ w.heap.size ≤ b) → SmRes F w s o t M' occ' w' := by
 obtain ⟨g, m, qs, Fw, sd, h1, h2, hq, h3, h4, h5, rfl⟩ := h
 refine ⟨g, sd, h1, h4, .inl rfl, fun b hb => .inr (.inr (.inr hb)), ?_⟩
 rintro w' M' occ' sd' e1 e2 e3 e4 e5 hm hr hd hsub
 have q1 := h2.no_row h1 dcc dcc
 have q2 := h2.no_own h4 dcc dcc dcc
 have r1 := h3.no_row h1 dcc dcc dcc
 have r2 : ∀ b, sd.blk = some b → ¬ Fw b := fun b hb => by
  obtain ⟨cs', hr'⟩ := own_row h4 dcc hb
  exact h3.no_row hr' dcc dcc dcc
 refine ⟨_, ⟨g, m, qs, Fw, sd', hr, by rw [e5]; exact h2.keep hm fun i hi hf => hf.elim (fun e => q1 (e ▸ hi)) (fun e => q2 _ e hi), by rw [e5]; exact hq, by rw [e1, e2, e3, e4]; exact h3.keep hm fun i hi hf => hf.elim (fun e => r1 (e ▸ hi)) (fun e => r2 _ e hi), hd, h5, rfl⟩, hm.mono fun i _ hi => hi.elim .inl (fun e => .inr (.inr (.inr e))), fun i hi => ?_⟩
 rcases hi with hi | hi | hi | hi
 ·exact .inl (.inl hi)
 ·exact .inl (.inr (.inl hi))
 ·exact .inl (.inr (.inr (.inl hi)))
 ·exact (hsub i hi).imp (fun h => .inr (.inr (.inr h))) id
end
end Go.Proofs.YtjcnjlaelhdjeaaGreatDoor
namespace Go.Proofs.YtjcnjlaelhdjeaaGreatDoor
open Go Go.Vc Go.RowKit Go.Proofs Go.Chk Go.Runs Go.Code
section
variable {P P' : Nat → Prop} {w w' v v' : World} {s s1 s2 s3 s4 : Sl} {T : Tb} {ch : List Cg} {seed cap : Int}
end
end Go.Proofs.YtjcnjlaelhdjeaaGreatDoor
namespace Go.Proofs.YtjcnjlaelhdjeaaGreatDoor
open Go Go.Vc Go.RowKit Go.Proofs Go.Chk Go.Runs Go.Code Go.Que Go.Flw
def editM (M : Sm) (c : Ce) (b : Int) : Sm := { M with T := (M.T.1, (setE M.T.2 c b).1), ch := wsC M.T.2 M.ch c b, q := if (setE M.T.2 c b).2 = 0 then wakeQ (atE (setE M.T.2 c b).1) M.now M.q c else M.q }
end Go.Proofs.YtjcnjlaelhdjeaaGreatDoor
namespace Go.Proofs.YtjcnjlaelhdjeaaGreatDoor
open Go Go.Vc Go.RowKit Go.Proofs Go.Chk Go.Runs Go.Code Go.Que Go.Flw
set_option maxRecDepth 100000
section
variable {F F' : Nat → Prop} {w w' : World} {s o t : Nat} {M M' : Sm} {occ : Value}
theorem SF.tl (h : SF F w s o t M occ) : Tl (.func (.func 113) #[t] #[]) (atE M.T.2) w := by
 obtain ⟨Fw, hW, -, -⟩ := h.world
 exact ⟨Fw, fun i hi => hW.lt hi, fun w' hk c hc => hW.tells hk c hc⟩
theorem q0_ok : QOk ⟨4096, 0, []⟩ := ⟨by decide, by decide, List.Pairwise.nil, List.nodup_nil⟩
theorem simNew_spec {Fw : Nat → Prop} {seed cap : Int} {T : Tb} {ch : List Go.Flw.Cg} (h : WF Fw w o t seed cap T ch) (budget : Int) : Cal 114 #[o, budget] w fun e w' => ∃ s F, e = Value.pointer (pzq s) ∧ SF F w' s o t ⟨seed, cap, T, ch, ⟨4096, 0, []⟩, min (max budget 1) 64, 0, []⟩ (.func (.func 175) #[] #[]) ∧ Ext w w' ∧ (∀ i, F i → Fw i ∨ w.heap.size ≤ i) := by
 apply sim_New.vc
 refine (Q.New_spec 4096 w).mono ?_
 rintro e w0 ⟨g, m, rfl, hq, x0, hg, hm⟩
 refine ⟨_, rfl, fun w2 e2 => ?_⟩
 have eb : (if 64 < (if 1 > budget then 1 else budget) then 64 else (if 1 > budget then 1 else budget)) = min (max budget 1) 64 := by
  split <;> split <;> omega
 rw [eb] at e2
 have x2 := eaa e2
 have hr : Row w2 w0 (smC g o ⟨seed, cap, T, ch, ⟨4096, 0, []⟩, min (max budget 1) 64, 0, []⟩ (.func (.func 175) #[] #[]) ⟨none, 0, 0⟩) tSim := Row.nw e2
 refine ⟨w0.heap.size, _, rfl, ⟨g, m, ⟨none, 0, 0⟩, Fw, ⟨none, 0, 0⟩, hr, hq.ext x2, q0_ok, h.ext (x0.tr x2), OwnK.nil, ?_, rfl⟩, x0.tr x2, fun i hi => ?_⟩
 ·rintro i (hi | hi | hi) hf
  ·have := h.lt hf; omega
  ·have := h.lt hf; omega
  ·cases hi
 ·have := x0.size
  rcases hi with hi | (hi | hi | hi) | hi | hi
  ·exact .inr omm
  ·exact .inr omm
  ·exact .inr omm
  ·cases hi
  ·exact .inl hi
  ·cases hi
theorem sWorld_spec (h : SF F w s o t M occ) : Cal 39 #[s] w fun e w' => e = Value.pointer (pzq o) ∧ w' = w := by
 obtain ⟨g, sd, h1, -⟩ := h.row
 apply sim_Sim_World.vc
 exact ⟨_, h1.at 1 rfl, rfl, rfl⟩
theorem delay_in (b : Int) : 0 ≤ delayK b ∧ delayK b ≤ 5 := by
 unfold delayK
 split
 ·decide
 ·split <;> decide
theorem wakes_ok {V : Ce → Int} {c : Ce} (hc : wideC c) : ∀ n ∈ wakesK V c, okC n := fun n hn => by
 unfold wakesK at hn
 rcases ali16.1 (alj40.1 hn).1 with rfl | h
 ·exact hc.ok
 ·exact nb_ok hc h
theorem wakes_len (V : Ce → Int) (c : Ce) : (wakesK V c).length ≤ 7 := alj32 _ _
abbrev wstep (V : Ce → Int) (now : Int) (q : QS) (n : Ce) : QS := (qadd q n (now + delayK (V n))).1
theorem wstep_lost (V : Ce → Int) (now : Int) : ∀ (l : List Ce) (q : QS), q.lost ≤ (l.foldl (wstep V now) q).lost ∧ (l.foldl (wstep V now) q).lost ≤ q.lost + l.length
 | [], q => ⟨alj06 _, by simp⟩
 | n :: l, q => by
   have h1 := wstep_lost V now l (wstep V now q n)
   have h2 := qadd_lost q n (now + delayK (V n))
   have h3 : (wstep V now q n).lost = (qadd q n (now + delayK (V n))).1.lost := rfl
   simp only [alj23, ali10]
   omega
set_option maxRecDepth 100000 in
theorem wake_spec (h : SF F w s o t M occ) (c : Ce) (hc : wideC c) (hl : 0 ≤ M.q.lost ∧ M.q.lost ≤ 900000) (hnow : 0 ≤ M.now ∧ M.now ≤ 1099511627776) :
  Cal 251 #[s, cev c] w fun e w' => e = tqq ∧ SmRes F w s o t { M with q := wakeQ (atE M.T.2) M.now M.q c } occ w' := by
 apply sim_Sim_wake.vc
 intro w0 e0
 have x0 := eaa e0
 have z0 := hs1 e0
 have h0 := h.ext x0
 obtain ⟨g, sd, hr, -, hFs, -⟩ := h0.row
 obtain ⟨Fw, hW, -, -⟩ := h0.world
 refine ⟨_, hr.at 1 rfl, (wView_spec hW).mono ?_⟩
 rintro e w2 ⟨rfl, hw⟩
 subst hw
 refine ⟨_, rfl, rfl, (Wakes_spec h0.tl c hc).mono ?_⟩
 rintro e w4 ⟨s5, rfl, ho, x4⟩
 have z4 := x4.size
 have hrd := ho.rd (show 0 < 3 by decide)
 have hn5 := hrd.n
 have h4 := h0.ext x4
 have hL := wakes_len (atE M.T.2) c
 have hok := wakes_ok (V := atE M.T.2) hc
 unfold wakeQ
 generalize hLe : wakesK (atE M.T.2) c = L at *
 rw [ali01] at hn5
 refine ⟨s5, rfl, x4.heap omm, fun n x w10 => ∃ (j : Nat) (F' : Nat → Prop), x = j ∧ j + n = L.length ∧ SF F' w10 s o t { M with q := (L.take j).foldl (wstep (atE M.T.2) M.now) M.q } occ ∧ Turned F F' w4 w10, ⟨L.length, rfl, 0, F, rfl, by omega, h4, Turned.refl _ _⟩, ?_⟩
 rintro n us x w10 ⟨j, F', rfl, hj, hS, hT⟩
 have z10 := hT.mod.size
 have hF : ∀ i, F i → i < w.heap.size := fun i hi => h.lt hi
 have hrd10 : RdK w10 s5 3 (L.map clv) := hT.mod.rdK dcc hrd fun _ b hb hf => by
  have := (ho.own.lt hb).1
  have := hF b hf
  omega
 apply Br.mk <;> intro hb
 ·replace hb := q0T hb
  obtain ⟨y, hy⟩ := get_lt (l := L) (i := j) omm
  have oky := hok y (ali00 hy)
  have hy' : (L.map clv)[j]? = some (clv y) := by rw [ali02, hy]; rfl
  have htk : L.take (j + 1) = L.take j ++ [y] := by rw [ali09, hy]; rfl
  have hlost := wstep_lost (atE M.T.2) M.now (L.take j) M.q
  have hltk : (L.take j).length ≤ 7 := by rw [ali12]; omega
  generalize hqj : (L.take j).foldl (wstep (atE M.T.2) M.now) M.q = qj at *
  refine ⟨hrd10.inB (i := (j : Int)) dcc omm hb, _, _, _, hrd10.loadL hy', fun w15 e15 w16 e16 => ?_⟩
  have x16 : Ext w10 w16 := (eaa e15).of_setRow e16 (ali34 _)
  have z16 := hs2 e15 e16
  have hb16 : Row w16 w10 (clv y) tCe := by rw [e16]; exact Row.set (by rw [e15]; exact Row.new w10 [_, _, _] _) _
  have xd := x16.tr (Ext.dr w16)
  have zd := zdr w16
  have hS16 := hS.ext xd
  obtain ⟨g', m, qs, hq, hqok, ⟨sd', hr'⟩, hsub, hres⟩ := hS16.queue
  refine ⟨_, hr'.at 0 rfl, _, hr'.at 3 rfl, callV_mono' (hS16.tl.at oky) ?_⟩
  rintro e w19 ⟨rfl, x19⟩
  have z19 := x19.size
  have hr19 := hr'.ext x19
  have hb19 := (hb16.ext (Ext.dr w16)).ext x19
  have hd := delay_in (atE M.T.2 y)
  have wr : wqq (M.now + delayK (atE M.T.2 y)) = M.now + delayK (atE M.T.2 y) := wI
  refine ⟨_, rfl, x19.heap omm, x19.heap omm, loadL1 (hr19.at 3 rfl), Lo.wv hb19, loadL1 (hr19.at 0 rfl), (Delay_spec (atE M.T.2 y) w19).mono ?_⟩
  rintro e w21 ⟨rfl, hw⟩
  subst hw
  refine ⟨_, rfl, rfl, rfl, loadL1 (hr19.at 3 rfl), Lo.wv hb19, loadL1 (hr19.at 0 rfl), ?_⟩
  rw [wr]
  refine (Q.Add_spec (hq.ext x19) hqok (by simp only at hlost ⊢; omega) y (M.now + delayK (atE M.T.2 y))).mono ?_
  rintro e w23 ⟨rfl, qs', hq', ht⟩
  have wk := wkS (j := j)
  have ht' : Turned (Q.Foot g' m qs) (Q.Foot g' m qs') w16.drew w23 := (Turned.of_ext x19).trans ht
  obtain ⟨F2, hS2, hT2⟩ := hres hq' (hqok.add y _) ht'
  have hsF : ¬ Q.Foot g' m qs s := (hq).no_row hr' dcc dcc
  have hr23 := ht'.mod.row hr' hsF
  have nf : ∀ i, (w.heap.size ≤ i ∧ i < w4.heap.size ∨ w10.heap.size ≤ i) → i < w16.drew.heap.size → w23.heap[i]? = w21.heap[i]? := fun i h1 h2 => (hT2.mod.same i h2 (fun hf => by
   rcases h1 with ⟨h1, h1'⟩ | h1
   ·rcases hT.sub i hf with q | q
    ·have := hF i q; omega
    ·omega
   ·have := hS.lt hf; omega)).trans (x19.heap h2).symm
  refine ⟨_, rfl, nf _ (.inl omm) omm, nf _ (.inr omm) omm, loadL1 (hr23.at 3 rfl), n - 1, by omega, rfl, j + 1, F2, wk, by omega, ?_, (hT.trans (Turned.of_ext xd)).trans hT2⟩
  rw [htk, alj22, hqj]
  exact hS2
 ·replace hb := q0F hb
  rw [ali11 omm] at hS
  exact ⟨rfl, F', hS, (Turned.of_ext (x0.tr x4)).trans hT⟩
end
end Go.Proofs.YtjcnjlaelhdjeaaGreatDoor
namespace Go.Proofs.YtjcnjlaelhdjeaaGreatDoor
open Go Go.Vc Go.RowKit Go.Proofs Go.Chk Go.Runs Go.Code Go.Que Go.Flw
set_option maxRecDepth 100000
section
variable {F F' : Nat → Prop} {w w' : World} {s o t : Nat} {M M' : Sm} {occ : Value}
structure Sok (M : Sm) (n : Nat) : Prop where
 l : 0 ≤ M.q.lost ∧ M.q.lost ≤ n
 c : M.ch.length ≤ n
 now : 0 ≤ M.now ∧ M.now ≤ 1099511627776
 d : M.drops.length ≤ n
theorem Sok.mono {n m : Nat} (h : Sok M n) (hm : n ≤ m) : Sok M m := ⟨⟨h.l.1, by have := h.l.2; omega⟩, ali41 h.c hm, h.now, ali41 h.d hm⟩
theorem wsC_len' (l : List En) (ch : List Go.Flw.Cg) (c : Ce) (b : Int) : (wsC l ch c b).length ≤ ch.length + 1 := wsC_len l ch c b
theorem wakeQ_lost (V : Ce → Int) (now : Int) (q : QS) (c : Ce) : q.lost ≤ (wakeQ V now q c).lost ∧ (wakeQ V now q c).lost ≤ q.lost + 7 := by
 have h1 := wstep_lost V now (wakesK V c) q
 have h2 := wakes_len V c
 have h3 : wakeQ V now q c = (wakesK V c).foldl (wstep V now) q := rfl
 rw [h3]
 omega
theorem Sok.edit {n : Nat} (h : Sok M n) (c : Ce) (b : Int) : Sok (editM M c b) (n + 7) := by
 have h1 := wsC_len' M.T.2 M.ch c b
 have h2 := wakeQ_lost (atE (setE M.T.2 c b).1) M.now M.q c
 have h3 := h.l
 have h4 := h.c
 unfold editM
 have h5 := h.d
 refine ⟨?_, ?_, h.now, by simp only; omega⟩
 ·simp only
  split <;> omega
 ·simp only; omega
theorem sEdit_spec (h : SF F w s o t M occ) (c : Ce) (hc : wideC c) (b : Int) (hk : Sok M 800000) :
  Cal 188 #[s, cev c, b] w fun e w' => e = Value.int .i64 (setE M.T.2 c b).2 ∧ SmRes F w s o t (editM M c b) occ w' := by
 apply sim_Sim_Edit.vc
 intro w0 e0
 have x0 : Ext w w0.drew := (eaa e0).tr (Ext.dr w0)
 have z0 : w0.drew.heap.size = w.heap.size + 1 := by show w0.heap.size = _; rw [e0]; simp
 have zd := zdr w0
 have h0 := h.ext x0
 obtain ⟨g, sd, hr, -⟩ := h0.row
 obtain ⟨Fw, hW, hsub, hres⟩ := h0.world
 have hlc := hk.c
 have hll := hk.l
 refine ⟨_, (hr.at 1 rfl), (wSet_spec hW c hc.ok b omm).mono ?_⟩
 rintro e w2 ⟨rfl, hw⟩
 obtain ⟨F2, h2, t2⟩ := hres hw
 have hF : ∀ {i}, w.heap.size ≤ i → i < w0.drew.heap.size → w2.heap[i]? = w0.drew.heap[i]? := fun h1 h3 => t2.mod.same _ h3 fun hf => by have := h.lt hf; omega
 unfold editM
 refine ⟨_, rfl, hF (ali34 _) omm, Br.mk (fun hb => ?_) (fun hb => ?_)⟩
 ·rw [if_pos (by simpa using hb)]
  refine (wake_spec h2 c hc (by simp only; omega) hk.now).mono ?_
  rintro e w4 ⟨rfl, F4, h4, t4⟩
  have hz := t2.mod.size
  have hnf : ¬ F2 w := fun hf => by
   rcases t2.sub _ hf with q | q
   ·have := h.lt q; omega
   ·omega
  exact ⟨rfl, t4.mod.same _ omm hnf, rfl, F4, h4, (Turned.of_ext x0).trans (t2.trans t4)⟩
 ·rw [if_neg (by simpa using hb)]
  exact ⟨rfl, F2, h2, (Turned.of_ext x0).trans t2⟩
end
end Go.Proofs.YtjcnjlaelhdjeaaGreatDoor
namespace Go.Proofs.YtjcnjlaelhdjeaaGreatDoor
open Go Go.Vc Go.RowKit Go.Proofs
set_option maxRecDepth 100000
set_option maxHeartbeats 8000000
set_option linter.unusedVariables false
variable {R : Ending → World → Prop} {w : World} {a0 a1 a2 a3 a4 a5 a6 a7 a8 a9 a0_0 a0_1 a0_2 a0_3 a0_4 a0_5 a0_6 a0_7 a0_8 a0_9 a1_0 a1_1 a1_2 a1_3 a1_4 a1_5 a1_6 a1_7 a1_8 a1_9 a2_0 a2_1 a2_2 a2_3 a2_4 a2_5 a2_6 a2_7 a2_8 a2_9 a3_0 a3_1 a3_2 a3_3 a3_4 a3_5 a3_6 a3_7 a3_8 a3_9 : Int}
end Go.Proofs.YtjcnjlaelhdjeaaGreatDoor
namespace Go.Proofs.YtjcnjlaelhdjeaaGreatDoor
open Go Go.Vc Go.RowKit Go.Proofs Go.Chk Go.Runs Go.Code Go.Flw
set_option maxRecDepth 100000
end Go.Proofs.YtjcnjlaelhdjeaaGreatDoor
namespace Go.Proofs.YtjcnjlaelhdjeaaGreatDoor
open Go Go.Vc Go.RowKit Go.Proofs Go.Chk Go.Runs Go.Code Go.Flw
set_option maxRecDepth 100000
end Go.Proofs.YtjcnjlaelhdjeaaGreatDoor
namespace Go.Proofs.YtjcnjlaelhdjeaaGreatDoor
open Go Go.Vc Go.RowKit Go.Proofs Go.Chk Go.Runs Go.Code Go.Que Go.Flw
set_option maxRecDepth 100000
section
variable {F F' : Nat → Prop} {w w' : World} {s o t : Nat} {M M' : Sm} {occ : Value} {O : Ce → Bool}
end
end Go.Proofs.YtjcnjlaelhdjeaaGreatDoor
namespace Go.Proofs.YtjcnjlaelhdjeaaGreatDoor
open Go Go.Vc Go.RowKit Go.Proofs Go.Chk Go.Runs Go.Code Go.Que Go.Flw
set_option maxRecDepth 100000
section
variable {F F' : Nat → Prop} {w w' : World} {s o t : Nat} {M M' : Sm} {occ : Value} {O : Ce → Bool}
end
end Go.Proofs.YtjcnjlaelhdjeaaGreatDoor
namespace Go.Proofs.YtjcnjlaelhdjeaaGreatDoor
open Go Go.Vc Go.RowKit Go.Proofs Go.Chk Go.Runs Go.Code Go.Que Go.Flw Go.Eng
set_option maxRecDepth 100000
abbrev tVec : TypeId := 73
abbrev bxv (b : Bx) : Value := .agg #[b.1.1, b.1.2.1, b.1.2.2, b.2.1, b.2.2.1, b.2.2.2]
theorem cutE (n : Int) : (if 140737488355328 < (if (-140737488355328) > n then (-140737488355328) else n) then 140737488355328 else (if (-140737488355328) > n then (-140737488355328) else n)) = cutF n := by
 unfold cutF
 repeat' split
 all_goals omega
theorem fCut_spec (n : Int) (w : World) : Cal 257 #[n] w fun e w' => e = Value.int .i64 (cutF n) ∧ w' = w := by
 apply fixed_Cut.vc
 exact ⟨by rw [cutE], rfl⟩
theorem fAdd_spec (a b : Int) (w : World) : Cal 268 #[a, b] w fun e w' => e = Value.int .i64 (addF a b) ∧ w' = w := by
 apply fixed_Add.vc
 refine (fCut_spec a w).mono ?_
 rintro e w1 ⟨rfl, rfl⟩
 refine ⟨_, rfl, (fCut_spec b w1).mono ?_⟩
 rintro e w2 ⟨rfl, rfl⟩
 have h1 := cutF_in a
 have h2 := cutF_in b
 refine ⟨_, rfl, ?_⟩
 rw [wI]
 refine (fCut_spec _ w2).mono ?_
 rintro e w3 ⟨rfl, rfl⟩
 exact ⟨_, rfl, rfl, rfl⟩
theorem fSub_spec (a b : Int) (w : World) : Cal 270 #[a, b] w fun e w' => e = Value.int .i64 (subF a b) ∧ w' = w := by
 apply fixed_Sub.vc
 refine (fCut_spec a w).mono ?_
 rintro e w1 ⟨rfl, rfl⟩
 refine ⟨_, rfl, (fCut_spec b w1).mono ?_⟩
 rintro e w2 ⟨rfl, rfl⟩
 have h1 := cutF_in a
 have h2 := cutF_in b
 refine ⟨_, rfl, ?_⟩
 rw [wI]
 refine (fCut_spec _ w2).mono ?_
 rintro e w3 ⟨rfl, rfl⟩
 exact ⟨_, rfl, rfl, rfl⟩
theorem p16 : (2 ^ (min (16 : Int).toNat 64) : Int) = 65536 := by decide
theorem Of_spec (n : Int) (w : World) : Cal 213 #[n] w fun e w' => e = Value.int .i64 (ofF n) ∧ w' = w := by
 apply fixed_Of.vc
 rw [p16]
 have e : (if 2147483648 < (if (-2147483648) > n then (-2147483648) else n) then 2147483648 else (if (-2147483648) > n then (-2147483648) else n)) = min (max n (-2147483648)) 2147483648 := by
  repeat' split
  all_goals omega
 rw [e, wI]
 exact ⟨rfl, rfl⟩
theorem one_pp (p q r : Option Addr) : One [.pointer p, q, r] := by
 intro v hv
 simp at hv
 rcases hv with rfl | rfl | rfl <;> rfl
theorem parts_spec (a : Addr) (w : World) : Cal 271 #[a] w fun e w' => e = Value.agg #[.pointer (padd (some a) 0), .pointer (padd (some a) 1), .pointer (padd (some a) 2)] ∧ Ext w w' := by
 apply vec_parts.vc
 intro w0 e0
 have x0 : Ext w w0.drew := (eaa e0).drew
 have hr : Row w0.drew w [.pointer none, .pointer none, .pointer none] 311 := by
  rw [e0]
  exact (Row.new w [_, _, _] _).ext (Ext.dr _)
 refine ⟨⟨rfl, hr.wr smm⟩, fun w1 e1 => ?_⟩
 rw [hr.setP (vs := [.pointer (padd (some a) 0), .pointer (padd (some a) 1), .pointer (padd (some a) 2)]) smm (one_pp _ _ _), putCells_all smm] at e1
 have hr1 : Row w1 w [.pointer (padd (some a) 0), .pointer (padd (some a) 1), .pointer (padd (some a) 2)] 311 := hr.st e1
 exact ⟨_, _, _, Lo.wv hr1, rfl, x0.of_setRow e1 (ali34 _)⟩
def mapL (f : Int → Int → Int) (v : Ce) (k : Nat) : LV := [.int .i64 (if 0 < k then f 0 v.1 else v.1), .int .i64 (if 1 < k then f 1 v.2.1 else v.2.1), .int .i64 (if 2 < k then f 2 v.2.2 else v.2.2)]
theorem each_spec (f : Int → Int → Int) (v : Ce) (fv : Value) (w : World) (hf : ∀ w', Ext w w' → ∀ i x : Int, 0 ≤ i → i < 3 → callV Tryz.prog fv [.int .i64 i, .int .i64 x] w' fun e w'' => e = Value.int .i64 (f i x) ∧ Ext w' w'') :
  Cal 266 #[cev v, fv] w fun e w' => e = (cev (mapV f v)) ∧ Ext w w' := by
 apply vec_each.vc
 intro w0 e0 w1 e1
 have x0 := eaa e0
 have z0 := hs1 e0
 have r0 : Row w0 w (mapL f v 0) tVec := Row.nw e0
 have x1 := eaa e1
 have z1 := hs1 e1
 refine (parts_spec ⟨w.heap.size, 0, none⟩ w1).mono ?_
 rintro e w2 ⟨rfl, x2⟩
 have z2 := x2.size
 refine ⟨_, _, _, rfl, x2.heap omm, fun n x wr => ∃ k : Nat, x = k ∧ k + n = 3 ∧ Row wr w (mapL f v k) tVec ∧ Ext w wr ∧ w2.heap.size ≤ wr, ⟨3, rfl, 0, rfl, rfl, r0.ext (x1.tr x2), x0.tr (x1.tr x2), ali34 _⟩, ?_⟩
 rintro n us x wr ⟨k, rfl, hk, hr, xr, zr⟩
 have hl : ∀ k, (mapL f v k).length = 3 := fun _ => rfl
 have wk := wkS (j := k)
 apply Br.mk <;> intro hb
 ·replace hb := q0T hb
  have hk3 : k = 0 ∨ k = 1 ∨ k = 2 := by omega
  have step : ∀ (j : Nat) (y : Int), k = j → j < 3 → (mapL f v j)[j]? = some (.int .i64 y) → putCells (mapL f v j) j [(f j y)] = mapL f v (j + 1) →
    AndL (nnC (padd (pzq w.heap.size) j)) (∃ (x13 : Int), ld wr (padd (pzq w.heap.size) j) = some (.int .i64 x13) ∧
     callV Tryz.prog fv [.int .i64 (k : Int), x13] wr (fun e w14 => ∃ (x15 : Int), e = x15 ∧ w14.heap[w0.heap.size]? = wr.heap[w0.heap.size]? ∧
     AndL (nnC (padd (pzq w.heap.size) j)) (((padd (pzq w.heap.size) j).isSome = true ∧ Wr w14 (padd (pzq w.heap.size) j) 1) ∧ pblk (padd (pzq w.heap.size) j) ≠ some w0.heap.size ∧ (∀ w16 : World, w16 = setP w14 (padd (pzq w.heap.size) j) [x15] →
     ∃ n11, n11 < n ∧ EqL [vzz, vzz, vzz] ∧ ∃ k' : Nat, wqq ((k : Int) + 1) = k' ∧ k' + n11 = 3 ∧ Row w16 w (mapL f v k') tVec ∧ Ext w w16 ∧ w2.heap.size ≤ w16)))) := by
   intro j y hj h3 h1 h2
   subst hj
   refine nnP rfl ⟨y, hr.at k h1, callV_mono' (hf wr xr k y omm omm) ?_⟩
   rintro e w14 ⟨rfl, x14⟩
   have z14 := x14.size
   have hr14 := hr.ext x14
   obtain ⟨p1, p2⟩ := hr14.put1 (j := k) (v := .int .i64 (f k y)) (by rw [hl]; exact h3) rfl
   refine ⟨_, rfl, x14.heap omm, nnP rfl ⟨⟨rfl, p1⟩, ?_, fun w16 e16 => ?_⟩⟩
   ·rw [pblk_padd]
    intro q
    have q : w.heap.size = w0.heap.size := by simpa [pblk] using q
    omega
   obtain ⟨q1, q2⟩ := p2 w16 e16
   rw [h2] at q1
   have z16 := q2.size
   exact ⟨n - 1, by omega, rfl, k + 1, wk, by omega, q1, q2.ext (xr.tr x14) fun i hi => by omega, by omega⟩
  refine ⟨⟨by omega, by omega⟩, ?_⟩
  rcases hk3 with h | h | h
  ·exact ⟨_, by rw [h]; rfl, step 0 v.1 h dcc rfl rfl⟩
  ·exact ⟨_, by rw [h]; rfl, step 1 v.2.1 h dcc rfl rfl⟩
  ·exact ⟨_, by rw [h]; rfl, step 2 v.2.2 h dcc rfl rfl⟩
 ·replace hb := q0F hb
  have hk3 : k = 3 := by omega
  subst hk3
  exact ⟨_, _, _, Lo.wv hr, fun w20 e20 => ⟨rfl, xr.of_setRow e20 omm⟩⟩
theorem Axis_spec (v : Ce) (i : Int) (w : World) : Cal 210 #[cev v, i] w fun e w' => e = Value.int .i64 (axK v i) ∧ Ext w w' := by
 apply vec_Axis.vc
 intro w0 e0
 have x0 := eaa e0
 have r0 : Row w0 w (clv v) tVec := Row.nw e0
 refine Br.mk (fun h => ?_) (fun h => Br.mk (fun h2 => ?_) (fun h2 => (parts_spec ⟨w.heap.size, 0, none⟩ w0).mono ?_))
 ·replace h := q0T h
  exact ⟨by unfold axK; rw [if_neg omm, if_neg omm, if_neg omm], x0⟩
 ·simp only [ali27, ge_iff_le] at h2
  exact ⟨by unfold axK; rw [if_neg omm, if_neg omm, if_neg omm], x0⟩
 ·simp only [ali28, ge_iff_le] at h h2
  rintro e w1 ⟨rfl, x1⟩
  have hr := r0.ext x1
  refine ⟨_, _, _, rfl, ⟨by omega, by omega⟩, ?_⟩
  have h3 : i = 0 ∨ i = 1 ∨ i = 2 := by omega
  rcases h3 with rfl | rfl | rfl
  ·exact ⟨_, rfl, nnP rfl ⟨_, hr.at 0 rfl, rfl, x0.tr x1⟩⟩
  ·exact ⟨_, rfl, nnP rfl ⟨_, hr.at 1 rfl, rfl, x0.tr x1⟩⟩
  ·exact ⟨_, rfl, nnP rfl ⟨_, hr.at 2 rfl, rfl, x0.tr x1⟩⟩
theorem Add1_spec (b : Ce) (i n : Int) {g : Nat} {w : World} (hr : Row w g (clv b) tVec) : Cal 267 #[i, n, g] w fun e w' => e = Value.int .i64 (addF n (axK b i)) ∧ Ext w w' := by
 apply vec_Add_1.vc
 refine ⟨_, _, _, Lo.wv hr, (Axis_spec b i w).mono ?_⟩
 rintro e w1 ⟨rfl, x1⟩
 refine ⟨_, rfl, (fAdd_spec n _ w1).mono ?_⟩
 rintro e w2 ⟨rfl, rfl⟩
 exact ⟨_, rfl, rfl, x1⟩
theorem Sub1_spec (b : Ce) (i n : Int) {g : Nat} {w : World} (hr : Row w g (clv b) tVec) : Cal 269 #[i, n, g] w fun e w' => e = Value.int .i64 (subF n (axK b i)) ∧ Ext w w' := by
 apply vec_Sub_1.vc
 refine ⟨_, _, _, Lo.wv hr, (Axis_spec b i w).mono ?_⟩
 rintro e w1 ⟨rfl, x1⟩
 refine ⟨_, rfl, (fSub_spec n _ w1).mono ?_⟩
 rintro e w2 ⟨rfl, rfl⟩
 exact ⟨_, rfl, rfl, x1⟩
theorem vAdd_spec (a b : Ce) (w : World) : Cal 206 #[cev a, cev b] w fun e w' => e = (cev (addV a b)) ∧ Ext w w' := by
 apply vec_Add.vc
 intro w0 e0 w1 e1 w2 e2
 have x0 := eaa e0
 have z0 := hs1 e0
 have x1 := eaa e1
 have z1 := hs1 e1
 have r1 : Row w1 w0 (clv b) tVec := Row.nw e1
 have x2 := eaa e2
 have z2 := hs1 e2
 have x02 := x0.tr (x1.tr x2)
 refine (each_spec (fun i n => addF n (axK b i)) a (.func (.func 267) #[] #[w0]) w2 fun w' x' i x _ _ => callV_of (by kernel_rfl) rfl (Add1_spec b i x ((r1.ext x2).ext x'))).mono ?_
 rintro e w3 ⟨rfl, x3⟩
 have z3 := x3.size
 exact ⟨_, _, _, rfl, x3.heap omm, x3.heap omm, fun w7 e7 => ⟨rfl, (x02.tr x3).of_setRow e7 omm⟩⟩
theorem vSub_spec (a b : Ce) (w : World) : Cal 207 #[cev a, cev b] w fun e w' => e = (cev (subV a b)) ∧ Ext w w' := by
 apply vec_Sub.vc
 intro w0 e0 w1 e1 w2 e2
 have x0 := eaa e0
 have z0 := hs1 e0
 have x1 := eaa e1
 have z1 := hs1 e1
 have r1 : Row w1 w0 (clv b) tVec := Row.nw e1
 have x2 := eaa e2
 have z2 := hs1 e2
 have x02 := x0.tr (x1.tr x2)
 refine (each_spec (fun i n => subF n (axK b i)) a (.func (.func 269) #[] #[w0]) w2 fun w' x' i x _ _ => callV_of (by kernel_rfl) rfl (Sub1_spec b i x ((r1.ext x2).ext x'))).mono ?_
 rintro e w3 ⟨rfl, x3⟩
 have z3 := x3.size
 exact ⟨_, _, _, rfl, x3.heap omm, x3.heap omm, fun w7 e7 => ⟨rfl, (x02.tr x3).of_setRow e7 omm⟩⟩
end Go.Proofs.YtjcnjlaelhdjeaaGreatDoor
namespace Go.Proofs.YtjcnjlaelhdjeaaGreatDoor
open Go Go.Vc Go.RowKit Go.Proofs Go.Chk Go.Runs Go.Code Go.Que Go.Flw Go.Eng
set_option maxRecDepth 100000
abbrev tBox : TypeId := 202
abbrev bxL (b : Bx) : LV := [.int .i64 b.1.1, .int .i64 b.1.2.1, .int .i64 b.1.2.2, .int .i64 b.2.1, .int .i64 b.2.2.1, .int .i64 b.2.2.2]
theorem ld1 {w : World} {g o : Nat} {cs : LV} {τ : TypeId} (hr : Row w g cs τ) {v : Value} (h : cs[o]? = some v) : LoadL w (pnq g o) 0 [v] := hr.loadL (o := o) (fun j hj => by
 match j, hj with
 | 0, _ => exact h)
theorem ld3 {w : World} {g o : Nat} {cs : LV} {τ : TypeId} (hr : Row w g cs τ) {x y z : Value} (h : cs[o]? = some x) (h1 : cs[o + 1]? = some y) (h2 : cs[o + 2]? = some z) : LoadL w (pnq g o) 0 [x, y, z] := hr.loadL (o := o) (fun j hj => by
 match j, hj with
 | 0, _ => exact h
 | 1, _ => exact h1
 | 2, _ => exact h2)
theorem halfE {a : Int} (h : inI a) : wqq (Int.tdiv (if 0 > a then 0 else a) 2) = max a 0 / 2 := by
 have e : (if 0 > a then 0 else a) = max a 0 := by split <;> omega
 unfold inI at h
 rw [e, ali23 omm, wI]
theorem maxE (a : Int) : (if 0 > a then 0 else a) = max a 0 := by split <;> omega
theorem Stand_spec (foot : Ce) (wd h : Int) (hw : inI wd) (w : World) : Cal 217 #[cev foot, wd, h] w fun e w' => e = (bxv (standK foot wd h)) ∧ Ext w w' := by
 apply vec_Stand.vc
 rw [halfE hw, maxE h]
 intro w0 e0 w1 e1 w2 e2 w3 e3
 have x0 := eaa e0
 have z0 := hs1 e0
 have r0 : Row w0 w (clv foot) tVec := Row.nw e0
 have x1 := eaa e1
 have z1 := hs1 e1
 have x3 : Ext w1 w3 := (eaa e2).of_setRow e3 (ali34 _)
 have z3 := hs2 e2 e3
 have x13 := x1.tr (x3.tr (Ext.dr w3))
 have zd := zdr w3
 constructor
 all_goals
  refine (vSub_spec foot (max wd 0 / 2, 0, max wd 0 / 2) w3.drew).mono ?_
  rintro e w4 ⟨rfl, x4⟩
  have z4 := x4.size
  refine ⟨_, _, _, rfl, x4.heap omm, x4.heap omm, x4.heap omm, Lo.wv (r0.ext (x13.tr x4)), (vAdd_spec foot (max wd 0 / 2, max h 0, max wd 0 / 2) w4).mono ?_⟩
  rintro e w8 ⟨rfl, x8⟩
  have z8 := x8.size
  exact ⟨_, _, _, rfl, x8.heap omm, x8.heap omm, x8.heap omm, fun w12 e12 => ⟨rfl, (x0.tr (x13.tr (x4.tr x8))).of_setRow e12 omm⟩⟩
structure Bdy where
 foot : Ce
 speed : Ce
 wd : Int
 ht : Int
 stands : Bool
abbrev bdL (b : Bdy) : LV := [.int .i64 b.foot.1, .int .i64 b.foot.2.1, .int .i64 b.foot.2.2, .int .i64 b.speed.1, .int .i64 b.speed.2.1, .int .i64 b.speed.2.2, .int .i64 b.wd, .int .i64 b.ht, .bool b.stands]
abbrev bdv (b : Bdy) : Value := .agg #[b.foot.1, b.foot.2.1, b.foot.2.2, b.speed.1, b.speed.2.1, b.speed.2.2, b.wd, b.ht, .bool b.stands]
def Bdy.box (b : Bdy) : Bx := standK b.foot b.wd b.ht
theorem bBox_spec (b : Bdy) (hw : inI b.wd) (w : World) : Cal 149 #[bdv b] w fun e w' => e = (bxv b.box) ∧ Ext w w' := by
 apply body_Body_Box.vc
 intro w0 e0 w1 e1
 have x1 : Ext w w1 := (eaa e0).of_alloc e1
 have z0 := hs1 e0
 have z1 := hs1 e1
 refine (Stand_spec b.foot b.wd b.ht hw w1).mono ?_
 rintro e w2 ⟨rfl, x2⟩
 have z2 := x2.size
 exact ⟨_, _, _, _, _, _, rfl, x2.heap omm, x2.heap omm, fun w9 e9 => ⟨rfl, (x1.tr x2).of_setRow e9 omm⟩⟩
end Go.Proofs.YtjcnjlaelhdjeaaGreatDoor
namespace Go.Proofs.YtjcnjlaelhdjeaaGreatDoor
open Go Go.Vc Go.RowKit Go.Proofs Go.Chk Go.Runs Go.Code Go.Que Go.Flw Go.Eng
set_option maxRecDepth 100000
end Go.Proofs.YtjcnjlaelhdjeaaGreatDoor
namespace Go.Proofs.YtjcnjlaelhdjeaaGreatDoor
open Go Go.Vc Go.RowKit Go.Proofs Go.Chk Go.Runs Go.Code Go.Que Go.Flw Go.Eng
set_option maxRecDepth 100000
end Go.Proofs.YtjcnjlaelhdjeaaGreatDoor
namespace Go.Proofs.YtjcnjlaelhdjeaaGreatDoor
open Go Go.Vc Go.RowKit Go.Proofs Go.Chk Go.Runs Go.Code Go.Que Go.Flw Go.Eng
set_option maxRecDepth 100000
abbrev tEng : TypeId := 64
abbrev tLfe : TypeId := 103
abbrev Lfe := Bdy × (Int × Int × Bool)
abbrev lfL (x : Lfe) : LV := [.int .i64 x.1.foot.1, .int .i64 x.1.foot.2.1, .int .i64 x.1.foot.2.2, .int .i64 x.1.speed.1, .int .i64 x.1.speed.2.1, .int .i64 x.1.speed.2.2, .int .i64 x.1.wd, .int .i64 x.1.ht, .bool x.1.stands, .int .i64 x.2.1, .int .i64 x.2.2.1, .bool x.2.2.2]
abbrev pA (a : Option Nat) : Value := .pointer (a.map fun b => ⟨b, 0, none⟩)
structure EL (w : World) (av : List (Option Nat)) (L : List (Option Lfe)) : Prop where
 n : av.length = 16
 m : L.length = 16
 s : ∀ (i a : Nat), av[i]? = some (some a) → ∃ x, L[i]? = some (some x) ∧ Row w a (lfL x) tLfe
 z : ∀ i : Nat, av[i]? = some none → L[i]? = some none
 d : ∀ (i j a : Nat), av[i]? = some (some a) → av[j]? = some (some a) → i = j
def EF (F : Nat → Prop) (w : World) (g s o t : Nat) (M : Sm) (occ : Value) (L : List (Option Lfe)) : Prop :=
 ∃ (Fs : Nat → Prop) (av : List (Option Nat)), Row w g (.pointer (pzq s) :: av.map pA) tEng ∧ SF Fs w s o t M occ ∧ EL w av L ∧ F = fun i => i = g ∨ Fs i ∨ some i ∈ av
abbrev ERes (F : Nat → Prop) (w : World) (g s o t : Nat) (M : Sm) (occ : Value) (L : List (Option Lfe)) (w' : World) : Prop := ∃ F', EF F' w' g s o t M occ L ∧ Turned F F' w w'
theorem ode : (offT tEng ∧ tEng ≠ tWorld ∧ tEng ≠ tChg ∧ tEng ≠ tSim ∧ tEng ≠ Q.tQueue ∧ tEng ≠ Q.tItem ∧ tEng ≠ tCe) ∧ (offT tLfe ∧ tLfe ≠ tWorld ∧ tLfe ≠ tChg ∧ tLfe ≠ tSim ∧ tLfe ≠ Q.tQueue ∧ tLfe ≠ Q.tItem ∧ tLfe ≠ tCe) ∧ tEng ≠ tLfe := by decide
theorem mem_at {av : List (Option Nat)} {a : Nat} (h : some a ∈ av) : ∃ i : Nat, av[i]? = some (some a) := alj41.1 h
section
variable {F F' : Nat → Prop} {w w' : World} {g s o t : Nat} {M M' : Sm} {occ : Value} {L : List (Option Lfe)}
theorem EL.same {av : List (Option Nat)} (h : EL w av L) (hk : ∀ a, some a ∈ av → w'.heap[a]? = w.heap[a]?) : EL w' av L :=
 ⟨h.n, h.m, fun i a hi => by
  obtain ⟨x, h1, h2⟩ := h.s i a hi
  exact ⟨x, h1, h2.same (hk a (ali00 hi))⟩, h.z, h.d⟩
theorem EL.lt {av : List (Option Nat)} (h : EL w av L) {a : Nat} (ha : some a ∈ av) : a < w := by
 obtain ⟨i, hi⟩ := mem_at ha
 obtain ⟨x, -, h2⟩ := h.s i a hi
 exact h2.lt
theorem EF.lt (h : EF F w g s o t M occ L) {i : Nat} (hi : F i) : i < w := by
 obtain ⟨Fs, av, h1, h2, h3, rfl⟩ := h
 rcases hi with rfl | hi | hi
 ·exact h1.lt
 ·exact h2.lt hi
 ·exact h3.lt hi
theorem EF.same (h : EF F w g s o t M occ L) (hk : ∀ i, F i → w'.heap[i]? = w.heap[i]?) : EF F w' g s o t M occ L := by
 obtain ⟨Fs, av, h1, h2, h3, rfl⟩ := h
 exact ⟨Fs, av, h1.same (hk _ (.inl rfl)), h2.same fun i hi => hk i (.inr (.inl hi)), h3.same fun a ha => hk a (.inr (.inr ha)), rfl⟩
theorem EF.ext (h : EF F w g s o t M occ L) (x : Ext w w') : EF F w' g s o t M occ L := h.same fun _ hi => x.heap (h.lt hi)
theorem EF.sim (h : EF F w g s o t M occ L) : ∃ Fs, SF Fs w s o t M occ ∧ Vc.ld w (padd (pzq g) 0) = some (.pointer (pzq s)) ∧ (∀ i, Fs i → F i) ∧ ∀ {w' : World} {M' : Sm} {occ' : Value}, SmRes Fs w s o t M' occ' w' → ERes F w g s o t M' occ' L w' := by
 obtain ⟨Fs, av, h1, h2, h3, rfl⟩ := h
 refine ⟨Fs, h2, h1.at 0 rfl, fun i hi => .inr (.inl hi), ?_⟩
 rintro w' M' occ' ⟨F', h', ht⟩
 have ng : ¬ Fs g := h2.no_row2 h1 ode.1.1 ode.1.2.1 ode.1.2.2.1 ode.1.2.2.2.1 ode.1.2.2.2.2.1 ode.1.2.2.2.2.2.1 ode.1.2.2.2.2.2.2
 have na : ∀ a, some a ∈ av → ¬ Fs a := fun a ha => by
  obtain ⟨i, hi⟩ := mem_at ha
  obtain ⟨x, -, hr⟩ := h3.s i a hi
  exact h2.no_row2 hr ode.2.1.1 ode.2.1.2.1 ode.2.1.2.2.1 ode.2.1.2.2.2.1 ode.2.1.2.2.2.2.1 ode.2.1.2.2.2.2.2.1 ode.2.1.2.2.2.2.2.2
 refine ⟨_, ⟨F', av, ht.mod.row h1 ng, h', h3.same fun a ha => ht.mod.same a (h3.lt ha) (na a ha), rfl⟩, ht.mod.mono fun i _ hi => .inr (.inl hi), fun i hi => ?_⟩
 rcases hi with hi | hi | hi
 ·exact .inl (.inl hi)
 ·exact (ht.sub i hi).imp (fun q => .inr (.inl q)) id
 ·exact .inl (.inr (.inr hi))
theorem EF.row (h : EF F w g s o t M occ L) : ∃ av, Row w g (.pointer (pzq s) :: av.map pA) tEng ∧ EL w av L ∧ F g ∧ (∀ a, some a ∈ av → F a) ∧ ∀ {w' : World} {av' : List (Option Nat)} {L' : List (Option Lfe)}, Mod (fun i => i = g ∨ some i ∈ av) w w' → Row w' g (.pointer (pzq s) :: av'.map pA) tEng → EL w' av' L' → (∀ a, some a ∈ av' → some a ∈ av ∨ w.heap.size ≤ a) → ERes F w g s o t M occ L' w' := by
 obtain ⟨Fs, av, h1, h2, h3, rfl⟩ := h
 refine ⟨av, h1, h3, .inl rfl, fun a ha => .inr (.inr ha), ?_⟩
 intro w' av' L' hm hr he hsub
 have ng : ¬ Fs g := h2.no_row2 h1 ode.1.1 ode.1.2.1 ode.1.2.2.1 ode.1.2.2.2.1 ode.1.2.2.2.2.1 ode.1.2.2.2.2.2.1 ode.1.2.2.2.2.2.2
 have na : ∀ a, some a ∈ av → ¬ Fs a := fun a ha => by
  obtain ⟨i, hi⟩ := mem_at ha
  obtain ⟨x, -, hr⟩ := h3.s i a hi
  exact h2.no_row2 hr ode.2.1.1 ode.2.1.2.1 ode.2.1.2.2.1 ode.2.1.2.2.2.1 ode.2.1.2.2.2.2.1 ode.2.1.2.2.2.2.2.1 ode.2.1.2.2.2.2.2.2
 refine ⟨_, ⟨Fs, av', hr, h2.same fun i hi => hm.same i (h2.lt hi) fun q => ?_, he, rfl⟩, hm.mono fun i _ hi => hi.elim .inl fun q => .inr (.inr q), fun i hi => ?_⟩
 ·rcases q with rfl | q
  ·exact ng hi
  ·exact na i q hi
 ·rcases hi with hi | hi | hi
  ·exact .inl (.inl hi)
  ·exact .inl (.inr (.inl hi))
  ·exact (hsub i hi).imp (fun q => .inr (.inr q)) id
theorem EF.tl (h : EF F w g s o t M occ L) : Tl (.func (.func 113) #[t] #[]) (atE M.T.2) w := by
 obtain ⟨Fs, h1, -, -⟩ := h.sim
 exact h1.tl
theorem eSim_spec (h : EF F w g s o t M occ L) : Cal 44 #[g] w fun e w' => e = Value.pointer (pzq s) ∧ w' = w := by
 obtain ⟨Fs, h1, h2, -, -⟩ := h.sim
 apply engine_Engine_Sim.vc
 exact ⟨_, h2, rfl, rfl⟩
end
end Go.Proofs.YtjcnjlaelhdjeaaGreatDoor
namespace Go.Proofs.YtjcnjlaelhdjeaaGreatDoor
open Go Go.Vc Go.RowKit Go.Proofs Go.Chk Go.Runs Go.Code Go.Que Go.Flw Go.Eng
set_option maxRecDepth 100000
theorem one_at {w : World} {g : Nat} {p : Value} {av : List (Option Nat)} {τ : TypeId} (hr : Row w g (p :: av.map pA) τ) {k : Nat} {a : Option Nat} (ha : av[k]? = some a) : Vc.ld w (padd (padd (pzq g) 1) (((k : Nat) : Int).toNat * 1)) = some (pA a) := by
 rw [padd_padd, ali30, alj64]
 refine hr.at (1 + k) ?_
 rw [alj55, ali42, ali02, ha]
 rfl
section
variable {F F' : Nat → Prop} {w w' : World} {g s o t : Nat} {M M' : Sm} {occ : Value} {L : List (Option Lfe)}
theorem EF.res (h : EF F w g s o t M occ L) (x : Ext w w') : ERes F w g s o t M occ L w' := ⟨F, h.ext x, Turned.of_ext x⟩
end
end Go.Proofs.YtjcnjlaelhdjeaaGreatDoor
namespace Go.Proofs.YtjcnjlaelhdjeaaGreatDoor
open Go Go.Vc Go.RowKit Go.Proofs Go.Chk Go.Runs Go.Code Go.Que Go.Flw Go.Eng
set_option maxRecDepth 100000
section
variable {F F' : Nat → Prop} {w w' : World} {g s o t : Nat} {M M' : Sm} {occ : Value} {L : List (Option Lfe)}
theorem sixteen {α : Type} {l : List α} (h : l.length = 16) : ∃ a b c d e f g h i j k m n o p q, l = [a, b, c, d, e, f, g, h, i, j, k, m, n, o, p, q] := by
 match l, h with
 | [a, b, c, d, e, f, g, h, i, j, k, m, n, o, p, q], _ => exact ⟨a, b, c, d, e, f, g, h, i, j, k, m, n, o, p, q, rfl⟩
end
abbrev M0e (seed cap room bud : Int) : Sm := ⟨seed, min (max cap 1) 16, (dk0 room, []), [], ⟨4096, 0, []⟩, min (max bud 1) 64, 0, []⟩
abbrev noL : List (Option Lfe) := List.replicate 16 none
theorem eNew_spec (seed cap room bud : Int) (w : World) : Cal 60 #[.agg #[seed, cap, room, bud]] w fun e w' =>
  ∃ (g s o t : Nat) (F : Nat → Prop), e = Value.pointer (pzq g) ∧ EF F w' g s o t (M0e seed cap room bud) (.func (.func 175) #[] #[]) noL ∧ Ext w w' ∧ ∀ i, F i → w.heap.size ≤ i := by
 apply engine_New.vc
 intro w0 e0
 have x0 : Ext w w0.drew := (eaa e0).drew
 have z0 : w0.drew.heap.size = w.heap.size + 1 := by show w0.heap.size = _; rw [e0]; simp
 have r0 : ∃ τ, Row w0.drew w [seed, cap, room, bud] τ := ⟨_, by rw [e0]; exact (Row.new w [_, _, _, _] _).ext (Ext.dr _)⟩
 obtain ⟨τ, r0⟩ := r0
 refine (wNew_spec seed cap room w0.drew).mono ?_
 rintro e w1 ⟨o, t, Fw, rfl, hW, x1, fW⟩
 have z1 := x1.size
 refine ⟨_, rfl, x1.heap omm, ld1 (r0.ext x1) rfl, (simNew_spec hW bud).mono ?_⟩
 rintro e w3 ⟨s, F, rfl, hS, x3, fS⟩
 have z3 := x3.size
 refine ⟨_, rfl, x3.heap omm, fun w5 e5 => ?_⟩
 have x5 := eaa e5
 have r5 : Row w5 w3 (.pointer (pzq s) :: (List.replicate 16 none).map pA) tEng := Row.nw e5
 have hno : ∀ (i a : Nat), (List.replicate 16 (none : Option Nat))[i]? = some (some a) → False := fun i a hi => by
  have := List.eq_of_mem_replicate (ali00 hi)
  cases this
 have hel : EL w5 (List.replicate 16 none) noL := ⟨rfl, rfl, fun i a hi => (hno i a hi).elim, fun i hi => List.getElem?_replicate_of_lt (by
  have hi16 := (ali03.1 hi).1
  rw [ali46] at hi16
  exact hi16), fun i j a hi => (hno i a hi).elim⟩
 refine ⟨w3.heap.size, s, o, t, _, rfl, ⟨F, _, r5, hS.ext x5, hel, rfl⟩, x0.tr (x1.tr (x3.tr x5)), fun i hi => ?_⟩
 rcases hi with rfl | hi | hi
 ·omega
 ·rcases fS i hi with q | q
  ·have := fW i q; omega
  ·omega
 ·cases List.eq_of_mem_replicate hi
end Go.Proofs.YtjcnjlaelhdjeaaGreatDoor
namespace Go.Proofs.YtjcnjlaelhdjeaaGreatDoor
open Go Go.Vc Go.RowKit Go.Proofs Go.Lin
set_option linter.unusedVariables false
def GS (v : Value) : Prop := ∃ t : ByteArray, v = .string t
theorem strKey : KeyOk Tryz.prog 9 GS := by
 refine ⟨?_, ?_, ?_⟩
 ·rintro x y ⟨a, rfl⟩ ⟨b, rfl⟩
  refine ⟨strEq a b, by kernel_rfl, ?_⟩
  rw [strEq_iff]
  exact ⟨fun h => by rw [h], fun h => by injection h⟩
 ·rintro x ⟨a, rfl⟩ b w
  kernel_rfl
 ·rintro x ⟨a, rfl⟩
  simp [Instr.sameBits]
  exact (bytes_eq a a).2 rfl
def cmdN : List ByteArray := [ByteArray.mk #[119, 111, 114, 108, 100],
 ByteArray.mk #[108, 111, 97, 100],
 ByteArray.mk #[117, 110, 108, 111, 97, 100],
 ByteArray.mk #[102, 108, 117, 115, 104],
 ByteArray.mk #[112, 105, 110],
 ByteArray.mk #[117, 110, 112, 105, 110],
 ByteArray.mk #[102, 108, 117, 115, 104, 97, 108, 108],
 ByteArray.mk #[102, 97, 105, 108],
 ByteArray.mk #[99, 114, 97, 115, 104],
 ByteArray.mk #[115, 97, 118, 101],
 ByteArray.mk #[115, 112, 97, 119, 110],
 ByteArray.mk #[107, 105, 108, 108],
 ByteArray.mk #[116, 101, 108, 108],
 ByteArray.mk #[112, 108, 97, 99, 101],
 ByteArray.mk #[101, 100, 105, 116],
 ByteArray.mk #[98, 114, 101, 97, 107],
 ByteArray.mk #[108, 111, 111, 107],
 ByteArray.mk #[97, 116],
 ByteArray.mk #[116, 111, 112],
 ByteArray.mk #[98, 111, 100, 121],
 ByteArray.mk #[108, 105, 118, 101],
 ByteArray.mk #[104, 101, 114, 101],
 ByteArray.mk #[116, 105, 99, 107]]
def kvZ (k : Nat) (vs : LV) : List (Value × Value) := ((cmdN.take k).map Value.string).zip vs
theorem cmdN_nodup : cmdN.Nodup := by decide
theorem insL_new {kvs : List (Value × Value)} {k v : Value} (h : ∀ e ∈ kvs, e.1 ≠ k) : insL kvs k v = kvs ++ [(k, v)] := by
 unfold insL
 rw [if_neg]
 rintro ⟨e, he, hk⟩
 exact h e he hk
theorem ins_step {k : Nat} {vs : LV} {key : ByteArray} {v : Value} (hk : cmdN[k]? = some key) (hl : vs.length = k) : insL (kvZ k vs) (.string key) v = kvZ (k + 1) (vs ++ [v]) := by
 have hlt := (ali03.1 hk).1
 rw [insL_new]
 ·unfold kvZ
  rw [ali09, hk, ali08, List.zip_append (by rw [ali01, ali12]; omega)]
  rfl
 ·rintro ⟨a, b⟩ he
  have h1 := (List.of_mem_zip he).1
  obtain ⟨t, ht, rfl⟩ := ali06.1 h1
  intro hc
  injection hc with hc
  subst hc
  obtain ⟨i, hi⟩ := alj41.1 ht
  rw [alj29] at hi
  split at hi
  ·rename_i hik
   have := (List.getElem?_inj (i := i) (j := k) omm cmdN_nodup).1 (hi.trans hk.symm)
   omega
  ·cases hi
abbrev tShell : TypeId := 98
abbrev tblV (c : Nat) : Value := .func (.func 155) #[] #[c]
abbrev methV (f sh : Nat) : Value := .func (.func f) #[sh] #[]
abbrev thisV (f t : Nat) : Value := .func (.func f) #[t] #[]
def cmdV (sh : Nat) (c : List Nat) : LV :=
 [methV 86 sh] ++ c.map tblV ++ [methV 93 sh, methV 94 sh, methV 95 sh, methV 96 sh, methV 97 sh, methV 98 sh, methV 99 sh, methV 100 sh, methV 101 sh, methV 102 sh, methV 103 sh, methV 104 sh, methV 105 sh, methV 106 sh, methV 107 sh, methV 108 sh, methV 109 sh]
theorem table_spec (sh f t : Nat) (w : World) : Cal 87 #[sh, thisV f t] w fun e w' => e = (tblV w) ∧ Row w' w [thisV f t] 157 ∧ Ext w w' := by
 apply lines_Shell_table.vc
 refine AndL_nil.2 ?_
 intro w0 e0
 exact ⟨rfl, by rw [e0]; exact Row.new _ [_] _, by rw [e0]; exact Ext.al _ _⟩
structure SHE (w : World) (sh g : Nat) : Prop where
 row : Row w sh [g] tShell
set_option maxHeartbeats 1000000 in
theorem does_spec {F : Nat → Prop} {w : World} {g s o t : Nat} {M : Sm} {occ : Value} {L : List (Option Lfe)} (h : EF F w g s o t M occ L) {sh : Nat} (hs : SHE w sh g) :
  Cal 52 #[sh] w fun e w' => ∃ (r c1 c2 c3 c4 c5 : Nat), e = Value.map (some r) ∧ MapIs GS w' (some r) (kvZ 23 (cmdV sh [c1, c2, c3, c4, c5])) ∧
   Row w' c1 [thisV 88 t] 157 ∧ Row w' c2 [thisV 89 t] 157 ∧ Row w' c3 [thisV 90 t] 157 ∧ Row w' c4 [thisV 91 t] 157 ∧ Row w' c5 [thisV 92 t] 157 ∧ w.heap.size ≤ r ∧ w.heap.size ≤ c1 ∧ w.heap.size ≤ c2 ∧ w.heap.size ≤ c3 ∧ w.heap.size ≤ c4 ∧ w.heap.size ≤ c5 ∧ Ext w w' := by
 obtain ⟨Fs, hS, hp, -, -⟩ := h.sim
 apply lines_Shell_does.vc
 refine ⟨pzq g, by rw [padd_row, hs.row.ld]; rfl, ?_⟩
 refine AndL_nn.2 ⟨rfl, AndL_nn.2 ⟨rfl, pzq s, hp, (sWorld_spec hS).mono ?_⟩⟩
 rintro _ _ ⟨rfl, e⟩
 rw [e]
 obtain ⟨Fw, hW, -, -⟩ := hS.world
 refine ⟨_, rfl, (wTable_spec hW).mono ?_⟩
 rintro _ _ ⟨rfl, e⟩
 rw [e]
 refine ⟨_, rfl, ?_⟩
 intro v0 e0
 have m0 : MapIs GS v0 (some w.heap.size) (kvZ 0 []) := by rw [e0]; exact MapIs.new
 have x0 := eaa e0
 have up : ∀ {u u' : World} {k : Nat} {vs : LV} {key : ByteArray} {v : Value}, Ext w u → vs.length = k → cmdN[k]? = some key → Rec ((some w.heap.size : Option Nat).getD 0) u u' → MapIs GS u' (some w.heap.size) (insL (kvZ k vs) (.string key) v) →
   MapIs GS u' (some w.heap.size) (kvZ (k + 1) (vs ++ [v])) ∧ Ext w u' ∧ u'.heap.size = u.heap.size ∧ ∀ i, i ≠ w.heap.size → u'.heap[i]? = u.heap[i]? := by
  intro u u' k vs key v hx hl hk hr hm
  rw [ins_step hk hl] at hm
  exact ⟨hm, Below.trans hx (hr.below (ali34 _)), hr.size, hr.same⟩
 refine ⟨GS, _, strKey, rfl, m0, ⟨_, rfl⟩, ?_⟩
 intro v1 a1 b1
 obtain ⟨m1, x1, s1, n1⟩ := up (k := 0) (vs := []) (v := methV 86 sh) x0 rfl rfl a1 b1
 have m1 : MapIs GS v1 (some w.heap.size) (kvZ 1 [methV 86 sh]) := m1
 refine (table_spec sh 88 t v1).mono ?_
 rintro _ u1 ⟨rfl, r1, y1⟩
 refine ⟨_, rfl, ?_⟩
 obtain ⟨c1, hc1⟩ : ∃ c, c = v1.heap.size := ⟨_, rfl⟩
 rw [← hc1] at r1 ⊢
 have q1 : MapIs GS u1 (some w.heap.size) (kvZ 1 [methV 86 sh]) := m1.same (y1.heap m1.lt)
 have z1 : Ext w u1 := x1.tr y1
 refine ⟨GS, _, strKey, rfl, q1, ⟨_, rfl⟩, ?_⟩
 intro v2 a2 b2
 obtain ⟨m2, x2, s2, n2⟩ := up (k := 1) (vs := [methV 86 sh]) (v := tblV c1) z1 rfl rfl a2 b2
 have m2 : MapIs GS v2 (some w.heap.size) (kvZ 2 [methV 86 sh, tblV c1]) := m2
 have g1 : c1 ≠ w := by have := m1.lt; omega
 have r1 := r1.same (n2 c1 g1)
 refine (table_spec sh 89 t v2).mono ?_
 rintro _ u2 ⟨rfl, r2, y2⟩
 refine ⟨_, rfl, ?_⟩
 obtain ⟨c2, hc2⟩ : ∃ c, c = v2.heap.size := ⟨_, rfl⟩
 rw [← hc2] at r2 ⊢
 have q2 : MapIs GS u2 (some w.heap.size) (kvZ 2 [methV 86 sh, tblV c1]) := m2.same (y2.heap m2.lt)
 have z2 : Ext w u2 := x2.tr y2
 have r1 := r1.ext y2
 refine ⟨GS, _, strKey, rfl, q2, ⟨_, rfl⟩, ?_⟩
 intro v3 a3 b3
 obtain ⟨m3, x3, s3, n3⟩ := up (k := 2) (vs := [methV 86 sh, tblV c1]) (v := tblV c2) z2 rfl rfl a3 b3
 have m3 : MapIs GS v3 (some w.heap.size) (kvZ 3 [methV 86 sh, tblV c1, tblV c2]) := m3
 have r1 := r1.same (n3 c1 g1)
 have g2 : c2 ≠ w := by have := m2.lt; omega
 have r2 := r2.same (n3 c2 g2)
 refine (table_spec sh 90 t v3).mono ?_
 rintro _ u3 ⟨rfl, r3, y3⟩
 refine ⟨_, rfl, ?_⟩
 obtain ⟨c3, hc3⟩ : ∃ c, c = v3.heap.size := ⟨_, rfl⟩
 rw [← hc3] at r3 ⊢
 have q3 : MapIs GS u3 (some w.heap.size) (kvZ 3 [methV 86 sh, tblV c1, tblV c2]) := m3.same (y3.heap m3.lt)
 have z3 : Ext w u3 := x3.tr y3
 have r1 := r1.ext y3
 have r2 := r2.ext y3
 refine ⟨GS, _, strKey, rfl, q3, ⟨_, rfl⟩, ?_⟩
 intro v4 a4 b4
 obtain ⟨m4, x4, s4, n4⟩ := up (k := 3) (vs := [methV 86 sh, tblV c1, tblV c2]) (v := tblV c3) z3 rfl rfl a4 b4
 have m4 : MapIs GS v4 (some w.heap.size) (kvZ 4 [methV 86 sh, tblV c1, tblV c2, tblV c3]) := m4
 have r1 := r1.same (n4 c1 g1)
 have r2 := r2.same (n4 c2 g2)
 have g3 : c3 ≠ w := by have := m3.lt; omega
 have r3 := r3.same (n4 c3 g3)
 refine (table_spec sh 91 t v4).mono ?_
 rintro _ u4 ⟨rfl, r4, y4⟩
 refine ⟨_, rfl, ?_⟩
 obtain ⟨c4, hc4⟩ : ∃ c, c = v4.heap.size := ⟨_, rfl⟩
 rw [← hc4] at r4 ⊢
 have q4 : MapIs GS u4 (some w.heap.size) (kvZ 4 [methV 86 sh, tblV c1, tblV c2, tblV c3]) := m4.same (y4.heap m4.lt)
 have z4 : Ext w u4 := x4.tr y4
 have r1 := r1.ext y4
 have r2 := r2.ext y4
 have r3 := r3.ext y4
 refine ⟨GS, _, strKey, rfl, q4, ⟨_, rfl⟩, ?_⟩
 intro v5 a5 b5
 obtain ⟨m5, x5, s5, n5⟩ := up (k := 4) (vs := [methV 86 sh, tblV c1, tblV c2, tblV c3]) (v := tblV c4) z4 rfl rfl a5 b5
 have m5 : MapIs GS v5 (some w.heap.size) (kvZ 5 [methV 86 sh, tblV c1, tblV c2, tblV c3, tblV c4]) := m5
 have r1 := r1.same (n5 c1 g1)
 have r2 := r2.same (n5 c2 g2)
 have r3 := r3.same (n5 c3 g3)
 have g4 : c4 ≠ w := by have := m4.lt; omega
 have r4 := r4.same (n5 c4 g4)
 refine (table_spec sh 92 t v5).mono ?_
 rintro _ u5 ⟨rfl, r5, y5⟩
 refine ⟨_, rfl, ?_⟩
 obtain ⟨c5, hc5⟩ : ∃ c, c = v5.heap.size := ⟨_, rfl⟩
 rw [← hc5] at r5 ⊢
 have q5 : MapIs GS u5 (some w.heap.size) (kvZ 5 [methV 86 sh, tblV c1, tblV c2, tblV c3, tblV c4]) := m5.same (y5.heap m5.lt)
 have z5 : Ext w u5 := x5.tr y5
 have r1 := r1.ext y5
 have r2 := r2.ext y5
 have r3 := r3.ext y5
 have r4 := r4.ext y5
 refine ⟨GS, _, strKey, rfl, q5, ⟨_, rfl⟩, ?_⟩
 intro v6 a6 b6
 obtain ⟨m6, x6, s6, n6⟩ := up (k := 5) (vs := [methV 86 sh, tblV c1, tblV c2, tblV c3, tblV c4]) (v := tblV c5) z5 rfl rfl a6 b6
 have m6 : MapIs GS v6 (some w.heap.size) (kvZ 6 [methV 86 sh, tblV c1, tblV c2, tblV c3, tblV c4, tblV c5]) := m6
 have r1 := r1.same (n6 c1 g1)
 have r2 := r2.same (n6 c2 g2)
 have r3 := r3.same (n6 c3 g3)
 have r4 := r4.same (n6 c4 g4)
 have g5 : c5 ≠ w := by have := m5.lt; omega
 have r5 := r5.same (n6 c5 g5)
 refine ⟨GS, _, strKey, rfl, m6, ⟨_, rfl⟩, ?_⟩
 intro v7 a7 b7
 obtain ⟨m7, x7, s7, n7⟩ := up (k := 6) (vs := [methV 86 sh, tblV c1, tblV c2, tblV c3, tblV c4, tblV c5]) (v := methV 93 sh) x6 rfl rfl a7 b7
 have m7 : MapIs GS v7 (some w.heap.size) (kvZ 7 [methV 86 sh, tblV c1, tblV c2, tblV c3, tblV c4, tblV c5, methV 93 sh]) := m7
 have r1 := r1.same (n7 c1 g1)
 have r2 := r2.same (n7 c2 g2)
 have r3 := r3.same (n7 c3 g3)
 have r4 := r4.same (n7 c4 g4)
 have r5 := r5.same (n7 c5 g5)
 refine ⟨GS, _, strKey, rfl, m7, ⟨_, rfl⟩, ?_⟩
 intro v8 a8 b8
 obtain ⟨m8, x8, s8, n8⟩ := up (k := 7) (vs := [methV 86 sh, tblV c1, tblV c2, tblV c3, tblV c4, tblV c5, methV 93 sh]) (v := methV 94 sh) x7 rfl rfl a8 b8
 have m8 : MapIs GS v8 (some w.heap.size) (kvZ 8 [methV 86 sh, tblV c1, tblV c2, tblV c3, tblV c4, tblV c5, methV 93 sh, methV 94 sh]) := m8
 have r1 := r1.same (n8 c1 g1)
 have r2 := r2.same (n8 c2 g2)
 have r3 := r3.same (n8 c3 g3)
 have r4 := r4.same (n8 c4 g4)
 have r5 := r5.same (n8 c5 g5)
 refine ⟨GS, _, strKey, rfl, m8, ⟨_, rfl⟩, ?_⟩
 intro v9 a9 b9
 obtain ⟨m9, x9, s9, n9⟩ := up (k := 8) (vs := [methV 86 sh, tblV c1, tblV c2, tblV c3, tblV c4, tblV c5, methV 93 sh, methV 94 sh]) (v := methV 95 sh) x8 rfl rfl a9 b9
 have m9 : MapIs GS v9 (some w.heap.size) (kvZ 9 [methV 86 sh, tblV c1, tblV c2, tblV c3, tblV c4, tblV c5, methV 93 sh, methV 94 sh, methV 95 sh]) := m9
 have r1 := r1.same (n9 c1 g1)
 have r2 := r2.same (n9 c2 g2)
 have r3 := r3.same (n9 c3 g3)
 have r4 := r4.same (n9 c4 g4)
 have r5 := r5.same (n9 c5 g5)
 refine ⟨GS, _, strKey, rfl, m9, ⟨_, rfl⟩, ?_⟩
 intro v10 a10 b10
 obtain ⟨m10, x10, s10, n10⟩ := up (k := 9) (vs := [methV 86 sh, tblV c1, tblV c2, tblV c3, tblV c4, tblV c5, methV 93 sh, methV 94 sh, methV 95 sh]) (v := methV 96 sh) x9 rfl rfl a10 b10
 have m10 : MapIs GS v10 (some w.heap.size) (kvZ 10 [methV 86 sh, tblV c1, tblV c2, tblV c3, tblV c4, tblV c5, methV 93 sh, methV 94 sh, methV 95 sh, methV 96 sh]) := m10
 have r1 := r1.same (n10 c1 g1)
 have r2 := r2.same (n10 c2 g2)
 have r3 := r3.same (n10 c3 g3)
 have r4 := r4.same (n10 c4 g4)
 have r5 := r5.same (n10 c5 g5)
 refine ⟨GS, _, strKey, rfl, m10, ⟨_, rfl⟩, ?_⟩
 intro v11 a11 b11
 obtain ⟨m11, x11, s11, n11⟩ := up (k := 10) (vs := [methV 86 sh, tblV c1, tblV c2, tblV c3, tblV c4, tblV c5, methV 93 sh, methV 94 sh, methV 95 sh, methV 96 sh]) (v := methV 97 sh) x10 rfl rfl a11 b11
 have m11 : MapIs GS v11 (some w.heap.size) (kvZ 11 [methV 86 sh, tblV c1, tblV c2, tblV c3, tblV c4, tblV c5, methV 93 sh, methV 94 sh, methV 95 sh, methV 96 sh, methV 97 sh]) := m11
 have r1 := r1.same (n11 c1 g1)
 have r2 := r2.same (n11 c2 g2)
 have r3 := r3.same (n11 c3 g3)
 have r4 := r4.same (n11 c4 g4)
 have r5 := r5.same (n11 c5 g5)
 refine ⟨GS, _, strKey, rfl, m11, ⟨_, rfl⟩, ?_⟩
 intro v12 a12 b12
 obtain ⟨m12, x12, s12, n12⟩ := up (k := 11) (vs := [methV 86 sh, tblV c1, tblV c2, tblV c3, tblV c4, tblV c5, methV 93 sh, methV 94 sh, methV 95 sh, methV 96 sh, methV 97 sh]) (v := methV 98 sh) x11 rfl rfl a12 b12
 have m12 : MapIs GS v12 (some w.heap.size) (kvZ 12 [methV 86 sh, tblV c1, tblV c2, tblV c3, tblV c4, tblV c5, methV 93 sh, methV 94 sh, methV 95 sh, methV 96 sh, methV 97 sh, methV 98 sh]) := m12
 have r1 := r1.same (n12 c1 g1)
 have r2 := r2.same (n12 c2 g2)
 have r3 := r3.same (n12 c3 g3)
 have r4 := r4.same (n12 c4 g4)
 have r5 := r5.same (n12 c5 g5)
 refine ⟨GS, _, strKey, rfl, m12, ⟨_, rfl⟩, ?_⟩
 intro v13 a13 b13
 obtain ⟨m13, x13, s13, n13⟩ := up (k := 12) (vs := [methV 86 sh, tblV c1, tblV c2, tblV c3, tblV c4, tblV c5, methV 93 sh, methV 94 sh, methV 95 sh, methV 96 sh, methV 97 sh, methV 98 sh]) (v := methV 99 sh) x12 rfl rfl a13 b13
 have m13 : MapIs GS v13 (some w.heap.size) (kvZ 13 [methV 86 sh, tblV c1, tblV c2, tblV c3, tblV c4, tblV c5, methV 93 sh, methV 94 sh, methV 95 sh, methV 96 sh, methV 97 sh, methV 98 sh, methV 99 sh]) := m13
 have r1 := r1.same (n13 c1 g1)
 have r2 := r2.same (n13 c2 g2)
 have r3 := r3.same (n13 c3 g3)
 have r4 := r4.same (n13 c4 g4)
 have r5 := r5.same (n13 c5 g5)
 refine ⟨GS, _, strKey, rfl, m13, ⟨_, rfl⟩, ?_⟩
 intro v14 a14 b14
 obtain ⟨m14, x14, s14, n14⟩ := up (k := 13) (vs := [methV 86 sh, tblV c1, tblV c2, tblV c3, tblV c4, tblV c5, methV 93 sh, methV 94 sh, methV 95 sh, methV 96 sh, methV 97 sh, methV 98 sh, methV 99 sh]) (v := methV 100 sh) x13 rfl rfl a14 b14
 have m14 : MapIs GS v14 (some w.heap.size) (kvZ 14 [methV 86 sh, tblV c1, tblV c2, tblV c3, tblV c4, tblV c5, methV 93 sh, methV 94 sh, methV 95 sh, methV 96 sh, methV 97 sh, methV 98 sh, methV 99 sh, methV 100 sh]) := m14
 have r1 := r1.same (n14 c1 g1)
 have r2 := r2.same (n14 c2 g2)
 have r3 := r3.same (n14 c3 g3)
 have r4 := r4.same (n14 c4 g4)
 have r5 := r5.same (n14 c5 g5)
 refine ⟨GS, _, strKey, rfl, m14, ⟨_, rfl⟩, ?_⟩
 intro v15 a15 b15
 obtain ⟨m15, x15, s15, n15⟩ := up (k := 14) (vs := [methV 86 sh, tblV c1, tblV c2, tblV c3, tblV c4, tblV c5, methV 93 sh, methV 94 sh, methV 95 sh, methV 96 sh, methV 97 sh, methV 98 sh, methV 99 sh, methV 100 sh]) (v := methV 101 sh) x14 rfl rfl a15 b15
 have m15 : MapIs GS v15 (some w.heap.size) (kvZ 15 [methV 86 sh, tblV c1, tblV c2, tblV c3, tblV c4, tblV c5, methV 93 sh, methV 94 sh, methV 95 sh, methV 96 sh, methV 97 sh, methV 98 sh, methV 99 sh, methV 100 sh, methV 101 sh]) := m15
 have r1 := r1.same (n15 c1 g1)
 have r2 := r2.same (n15 c2 g2)
 have r3 := r3.same (n15 c3 g3)
 have r4 := r4.same (n15 c4 g4)
 have r5 := r5.same (n15 c5 g5)
 refine ⟨GS, _, strKey, rfl, m15, ⟨_, rfl⟩, ?_⟩
 intro v16 a16 b16
 obtain ⟨m16, x16, s16, n16⟩ := up (k := 15) (vs := [methV 86 sh, tblV c1, tblV c2, tblV c3, tblV c4, tblV c5, methV 93 sh, methV 94 sh, methV 95 sh, methV 96 sh, methV 97 sh, methV 98 sh, methV 99 sh, methV 100 sh, methV 101 sh]) (v := methV 102 sh) x15 rfl rfl a16 b16
 have m16 : MapIs GS v16 (some w.heap.size) (kvZ 16 [methV 86 sh, tblV c1, tblV c2, tblV c3, tblV c4, tblV c5, methV 93 sh, methV 94 sh, methV 95 sh, methV 96 sh, methV 97 sh, methV 98 sh, methV 99 sh, methV 100 sh, methV 101 sh, methV 102 sh]) := m16
 have r1 := r1.same (n16 c1 g1)
 have r2 := r2.same (n16 c2 g2)
 have r3 := r3.same (n16 c3 g3)
 have r4 := r4.same (n16 c4 g4)
 have r5 := r5.same (n16 c5 g5)
 refine ⟨GS, _, strKey, rfl, m16, ⟨_, rfl⟩, ?_⟩
 intro v17 a17 b17
 obtain ⟨m17, x17, s17, n17⟩ := up (k := 16) (vs := [methV 86 sh, tblV c1, tblV c2, tblV c3, tblV c4, tblV c5, methV 93 sh, methV 94 sh, methV 95 sh, methV 96 sh, methV 97 sh, methV 98 sh, methV 99 sh, methV 100 sh, methV 101 sh, methV 102 sh]) (v := methV 103 sh) x16 rfl rfl a17 b17
 have m17 : MapIs GS v17 (some w.heap.size) (kvZ 17 [methV 86 sh, tblV c1, tblV c2, tblV c3, tblV c4, tblV c5, methV 93 sh, methV 94 sh, methV 95 sh, methV 96 sh, methV 97 sh, methV 98 sh, methV 99 sh, methV 100 sh, methV 101 sh, methV 102 sh, methV 103 sh]) := m17
 have r1 := r1.same (n17 c1 g1)
 have r2 := r2.same (n17 c2 g2)
 have r3 := r3.same (n17 c3 g3)
 have r4 := r4.same (n17 c4 g4)
 have r5 := r5.same (n17 c5 g5)
 refine ⟨GS, _, strKey, rfl, m17, ⟨_, rfl⟩, ?_⟩
 intro v18 a18 b18
 obtain ⟨m18, x18, s18, n18⟩ := up (k := 17) (vs := [methV 86 sh, tblV c1, tblV c2, tblV c3, tblV c4, tblV c5, methV 93 sh, methV 94 sh, methV 95 sh, methV 96 sh, methV 97 sh, methV 98 sh, methV 99 sh, methV 100 sh, methV 101 sh, methV 102 sh, methV 103 sh]) (v := methV 104 sh) x17 rfl rfl a18 b18
 have m18 : MapIs GS v18 (some w.heap.size) (kvZ 18 [methV 86 sh, tblV c1, tblV c2, tblV c3, tblV c4, tblV c5, methV 93 sh, methV 94 sh, methV 95 sh, methV 96 sh, methV 97 sh, methV 98 sh, methV 99 sh, methV 100 sh, methV 101 sh, methV 102 sh, methV 103 sh, methV 104 sh]) := m18
 have r1 := r1.same (n18 c1 g1)
 have r2 := r2.same (n18 c2 g2)
 have r3 := r3.same (n18 c3 g3)
 have r4 := r4.same (n18 c4 g4)
 have r5 := r5.same (n18 c5 g5)
 refine ⟨GS, _, strKey, rfl, m18, ⟨_, rfl⟩, ?_⟩
 intro v19 a19 b19
 obtain ⟨m19, x19, s19, n19⟩ := up (k := 18) (vs := [methV 86 sh, tblV c1, tblV c2, tblV c3, tblV c4, tblV c5, methV 93 sh, methV 94 sh, methV 95 sh, methV 96 sh, methV 97 sh, methV 98 sh, methV 99 sh, methV 100 sh, methV 101 sh, methV 102 sh, methV 103 sh, methV 104 sh]) (v := methV 105 sh) x18 rfl rfl a19 b19
 have m19 : MapIs GS v19 (some w.heap.size) (kvZ 19 [methV 86 sh, tblV c1, tblV c2, tblV c3, tblV c4, tblV c5, methV 93 sh, methV 94 sh, methV 95 sh, methV 96 sh, methV 97 sh, methV 98 sh, methV 99 sh, methV 100 sh, methV 101 sh, methV 102 sh, methV 103 sh, methV 104 sh, methV 105 sh]) := m19
 have r1 := r1.same (n19 c1 g1)
 have r2 := r2.same (n19 c2 g2)
 have r3 := r3.same (n19 c3 g3)
 have r4 := r4.same (n19 c4 g4)
 have r5 := r5.same (n19 c5 g5)
 refine ⟨GS, _, strKey, rfl, m19, ⟨_, rfl⟩, ?_⟩
 intro v20 a20 b20
 obtain ⟨m20, x20, s20, n20⟩ := up (k := 19) (vs := [methV 86 sh, tblV c1, tblV c2, tblV c3, tblV c4, tblV c5, methV 93 sh, methV 94 sh, methV 95 sh, methV 96 sh, methV 97 sh, methV 98 sh, methV 99 sh, methV 100 sh, methV 101 sh, methV 102 sh, methV 103 sh, methV 104 sh, methV 105 sh]) (v := methV 106 sh) x19 rfl rfl a20 b20
 have m20 : MapIs GS v20 (some w.heap.size) (kvZ 20 [methV 86 sh, tblV c1, tblV c2, tblV c3, tblV c4, tblV c5, methV 93 sh, methV 94 sh, methV 95 sh, methV 96 sh, methV 97 sh, methV 98 sh, methV 99 sh, methV 100 sh, methV 101 sh, methV 102 sh, methV 103 sh, methV 104 sh, methV 105 sh, methV 106 sh]) := m20
 have r1 := r1.same (n20 c1 g1)
 have r2 := r2.same (n20 c2 g2)
 have r3 := r3.same (n20 c3 g3)
 have r4 := r4.same (n20 c4 g4)
 have r5 := r5.same (n20 c5 g5)
 refine ⟨GS, _, strKey, rfl, m20, ⟨_, rfl⟩, ?_⟩
 intro v21 a21 b21
 obtain ⟨m21, x21, s21, n21⟩ := up (k := 20) (vs := [methV 86 sh, tblV c1, tblV c2, tblV c3, tblV c4, tblV c5, methV 93 sh, methV 94 sh, methV 95 sh, methV 96 sh, methV 97 sh, methV 98 sh, methV 99 sh, methV 100 sh, methV 101 sh, methV 102 sh, methV 103 sh, methV 104 sh, methV 105 sh, methV 106 sh]) (v := methV 107 sh) x20 rfl rfl a21 b21
 have m21 : MapIs GS v21 (some w.heap.size) (kvZ 21 [methV 86 sh, tblV c1, tblV c2, tblV c3, tblV c4, tblV c5, methV 93 sh, methV 94 sh, methV 95 sh, methV 96 sh, methV 97 sh, methV 98 sh, methV 99 sh, methV 100 sh, methV 101 sh, methV 102 sh, methV 103 sh, methV 104 sh, methV 105 sh, methV 106 sh, methV 107 sh]) := m21
 have r1 := r1.same (n21 c1 g1)
 have r2 := r2.same (n21 c2 g2)
 have r3 := r3.same (n21 c3 g3)
 have r4 := r4.same (n21 c4 g4)
 have r5 := r5.same (n21 c5 g5)
 refine ⟨GS, _, strKey, rfl, m21, ⟨_, rfl⟩, ?_⟩
 intro v22 a22 b22
 obtain ⟨m22, x22, s22, n22⟩ := up (k := 21) (vs := [methV 86 sh, tblV c1, tblV c2, tblV c3, tblV c4, tblV c5, methV 93 sh, methV 94 sh, methV 95 sh, methV 96 sh, methV 97 sh, methV 98 sh, methV 99 sh, methV 100 sh, methV 101 sh, methV 102 sh, methV 103 sh, methV 104 sh, methV 105 sh, methV 106 sh, methV 107 sh]) (v := methV 108 sh) x21 rfl rfl a22 b22
 have m22 : MapIs GS v22 (some w.heap.size) (kvZ 22 [methV 86 sh, tblV c1, tblV c2, tblV c3, tblV c4, tblV c5, methV 93 sh, methV 94 sh, methV 95 sh, methV 96 sh, methV 97 sh, methV 98 sh, methV 99 sh, methV 100 sh, methV 101 sh, methV 102 sh, methV 103 sh, methV 104 sh, methV 105 sh, methV 106 sh, methV 107 sh, methV 108 sh]) := m22
 have r1 := r1.same (n22 c1 g1)
 have r2 := r2.same (n22 c2 g2)
 have r3 := r3.same (n22 c3 g3)
 have r4 := r4.same (n22 c4 g4)
 have r5 := r5.same (n22 c5 g5)
 refine ⟨GS, _, strKey, rfl, m22, ⟨_, rfl⟩, ?_⟩
 intro v23 a23 b23
 obtain ⟨m23, x23, s23, n23⟩ := up (k := 22) (vs := [methV 86 sh, tblV c1, tblV c2, tblV c3, tblV c4, tblV c5, methV 93 sh, methV 94 sh, methV 95 sh, methV 96 sh, methV 97 sh, methV 98 sh, methV 99 sh, methV 100 sh, methV 101 sh, methV 102 sh, methV 103 sh, methV 104 sh, methV 105 sh, methV 106 sh, methV 107 sh, methV 108 sh]) (v := methV 109 sh) x22 rfl rfl a23 b23
 have m23 : MapIs GS v23 (some w.heap.size) (kvZ 23 [methV 86 sh, tblV c1, tblV c2, tblV c3, tblV c4, tblV c5, methV 93 sh, methV 94 sh, methV 95 sh, methV 96 sh, methV 97 sh, methV 98 sh, methV 99 sh, methV 100 sh, methV 101 sh, methV 102 sh, methV 103 sh, methV 104 sh, methV 105 sh, methV 106 sh, methV 107 sh, methV 108 sh, methV 109 sh]) := m23
 have r1 := r1.same (n23 c1 g1)
 have r2 := r2.same (n23 c2 g2)
 have r3 := r3.same (n23 c3 g3)
 have r4 := r4.same (n23 c4 g4)
 have r5 := r5.same (n23 c5 g5)
 exact ⟨w.heap.size, c1, c2, c3, c4, c5, rfl, m23, r1, r2, r3, r4, r5, ali34 _, by have := x1.size; omega, by have := x2.size; omega, by have := x3.size; omega, by have := x4.size; omega, by have := x5.size; omega, x23⟩
end Go.Proofs.YtjcnjlaelhdjeaaGreatDoor
namespace Go.Proofs.YtjcnjlaelhdjeaaGreatDoor
open Go Go.Vc Go.RowKit Go.Proofs Go.Lin
set_option linter.unusedVariables false
set_option maxRecDepth 100000
theorem ni85 : notIf Tryz.prog 85 = true := by kernel_rfl
theorem zi85 : (Tryz.prog.info? 85).bind (·.zero) = some (.string (ByteArray.mk #[])) := by kernel_rfl
theorem as_odd (s : ByteArray) (w : World) : (Instr.typeAssert (.iface 85 (.string s)) 20 85 true).run Tryz.prog w = .ok (.tuple #[.string s, true]) w := by
 have := asOk_run (P := Tryz.prog) (a := 85) (xT := 20) (t := 85) (v := .string s) ni85 zi85 w
 rw [if_pos rfl] at this
 exact this
theorem catch_odd (p : Addr) (x : ByteArray) (s : ByteArray) (older : List PanicEntry) (w : World) (hc : w.cell? p = some (.string x)) (hz : w.frozen? p = false) :
  CallsD Tryz.prog 51 #[p] (.panicking ({ v := .iface 85 (.string s), recovered := false } :: older)) w fun e u' w' =>
   e = tqq ∧ u' = .panicking ({ v := .iface 85 (.string s), recovered := true } :: older) ∧ w' = w.setCell p (.string s) := by
 refine callsD_of_wpS Tryz.func51 rfl fun c₀ cs hu => ?_
 apply wpS_seq
 apply wpS_region
 simp [wpOpsS, go_sem, recoverD, hu, Tryz.ntmps51, Exit.thenS]
 refine wpS_of_wp (wp_mono (Q := fun e a' w' => e = .normal ∧ w' = w.setCell p (.string s) ∧ a'.defers = []) ?_ ?_)
 ·refine wp_block ?_
  go_wp2
  rw [as_odd]
  simp only [Result.andThen_ok, Oper.upon]
  rename_i K1 h1 K h2
  apply h2
  simp [wpList, go_sem, Act.put, Act.eval, Exit.then, Oper.wp, Oper.upon]
  refine .inl (.inl (h1 _ _ ?_))
  refine wp_cond_true (by simp [Act.eval, Array.replicate]) ?_
  refine wp_seq (wp_region ?_)
  simp [wpOps, go_sem, Act.put, Act.eval, Exit.then, Oper.wp, Oper.upon]
  refine .inl (wp_region ?_)
  simp [wpOps, go_sem, Act.put, Act.eval, Exit.then, Oper.wp, Oper.upon, hc, hz]
  exact .inl (.inl ⟨rfl, rfl, rfl⟩)
 ·rintro e a w' ⟨rfl, rfl, hd⟩
  simp [bodyPostS, results, Tryz.results51, hd]
theorem catch_idle (p : Addr) (w : World) :
  CallsD Tryz.prog 51 #[p] .returning w fun e u' w' => e = tqq ∧ u' = .returning ∧ w' = w := by
 refine callsD_of_wpS Tryz.func51 rfl fun c₀ cs hu => ?_
 apply wpS_seq
 apply wpS_region
 simp [wpOpsS, go_sem, recoverD, hu, Tryz.ntmps51, Exit.thenS]
 refine wpS_of_wp (wp_mono (Q := fun e a' w' => e = .normal ∧ w' = w ∧ a'.defers = []) ?_ ?_)
 ·refine wp_block (wp_seq (wp_region ?_))
  simp [wpOps, go_sem, Act.put, Act.eval, Exit.then, Oper.wp, Oper.upon]
  refine .inl ?_
  refine wp_cond_true (by simp [Act.eval, Array.replicate]) ?_
  refine wp_region ?_
  simp [wpOps, go_sem, Act.put, Act.eval, Exit.then, Oper.wp, Oper.upon]
 ·rintro e a w' ⟨rfl, rfl, hd⟩
  cases c₀
  simp_all [bodyPostS, results, Tryz.results51]
end Go.Proofs.YtjcnjlaelhdjeaaGreatDoor
namespace Go.Proofs.YtjcnjlaelhdjeaaGreatDoor
open Go Go.Vc Go.RowKit Go.Proofs Go.Lin
set_option linter.unusedVariables false
set_option maxRecDepth 100000
theorem set_one {w : World} {g : Nat} {x v : Value} {E : TypeId} (hr : Row w g [x] E) (h1 : v.oneCell' = true) : w.setCell ⟨g, 0, none⟩ v = w.setRow g #[v] := by
 have h := hr.setP (o := 0) (vs := [v]) smm (fun u hu => by simp at hu; subst hu; exact h1)
 have e : setP w (pzq g) [v] = w.setCell ((⟨g, 0, none⟩ : Addr).add 0) v := rfl
 rw [e] at h
 have a0 : (⟨g, 0, none⟩ : Addr).add 0 = ⟨g, 0, none⟩ := rfl
 rw [a0] at h
 rw [h]
 rfl
theorem map87 : mapTy Tryz.prog 87 = some (9, 86, .nilFunc) := by kernel_rfl
structure CmdV (v : Value) (f : FuncId) (a b : Array Value) : Prop where
 eq : v = .func (.func f) a b
 enter : ∀ args w, (callFunc f args).run Tryz.prog w = .ok (.enter f args) w
theorem Line_core {w : World} {sh g : Nat} (line : ByteArray) (hl : line.size ≤ 4294967296) {F : Nat → Prop} {s o t : Nat} {M : Sm} {occ : Value} {L : List (Option Lfe)} (h : EF F w g s o t M occ L) (hs : SHE w sh g) (Q : ByteArray → World → Prop)
  (hst : ∀ tx u u', Q tx u → Mod (fun i => i = w.heap.size) u u' → Q tx u')
  (h0 : wordsK line = [] → ∀ u, Ext w u → Q (ByteArray.mk #[]) u)
  (hbad : ∀ c r, wordsK line = c :: r → c ∉ cmdN → ∀ u, Ext w u → Q (ByteArray.mk #[98, 97, 100]) u)
  (hcmd : ∀ (c : ByteArray) (r : List ByteArray) (i : Nat), wordsK line = c :: r → cmdN[i]? = some c → ∀ (u : World) (B ga c1 c2 c3 c4 c5 : Nat), Ext w u → AG u B ga r → w.heap.size < ga → Row u c1 [thisV 88 t] 157 → Row u c2 [thisV 89 t] 157 → Row u c3 [thisV 90 t] 157 → Row u c4 [thisV 91 t] 157 → Row u c5 [thisV 92 t] 157 →
   (B ≤ c1 ∧ B ≤ c2 ∧ B ≤ c3 ∧ B ≤ c4 ∧ B ≤ c5) → ∀ v, (cmdV sh [c1, c2, c3, c4, c5])[i]? = some v → ∃ f a b, CmdV v f a b ∧ Cal f (a ++ #[.pointer (some ⟨ga, 0, none⟩)] ++ b) u fun e u' => u'.heap[w.heap.size]? = u.heap[w.heap.size]? ∧ ((∃ tx, e = Value.string tx ∧ Q tx u') ∨ (e = odd ∧ Q (ByteArray.mk #[98, 97, 100]) u'))) :
  Cal 14 #[.pointer (some ⟨sh, 0, none⟩), .string line] w fun e w' => ∃ tx, e = Value.string tx ∧ Q tx w' := by
 go_enter_defers Tryz.func14, Tryz.ntmps14
 refine wp_seq (wp_region ?_)
 simp [wpOps, go_sem, Act.put, Act.eval, Exit.then, Oper.wp, Oper.upon]
 refine .inl ?_
 refine wp_seq (wp_region ?_)
 simp [wpOps, go_sem, Act.put, Act.eval, Exit.then, Oper.wp, Oper.upon]
 refine .inl (.inl ((Words_spec line _ hl).mono ?_))
 rintro e w1 ⟨sl, rfl, hrd, hlc, hbk, x1⟩
 simp [go_sem, Oper.upon, wpOps, Oper.wp, Act.put, Act.eval]
 repeat refine Or.inl ?_
 refine wp_seq (wp_seq (wp_region ?_))
 simp [wpOps, go_sem, Act.put, Act.eval, Exit.then, Oper.wp, Oper.upon]
 repeat refine Or.inl ?_
 have hn : sl.n = (wordsK line).length := by rw [hrd.n, ali01]
 have hr0 : Row (w.alloc (.cells #[.string (ByteArray.mk #[])] 9)) w.heap.size [.string (ByteArray.mk #[])] 9 := Row.new _ [_] _
 have hr2 := (hr0.ext x1).ext (Ext.al w1 (.cells #[sl] 84))
 have x2 : Ext w (w1.alloc (.cells #[sl] 84)) := ((Ext.al w _).tr x1).tr (Ext.al w1 _)
 have hc2 : (w1.alloc (.cells #[sl] 84)).cell? ⟨w.heap.size, 0, none⟩ = some (.string (ByteArray.mk #[])) := by have := hr2.ld 0; simpa [Vc.ld] using this
 have hf2 : (w1.alloc (.cells #[sl] 84)).frozen? ⟨w.heap.size, 0, none⟩ = false := frozen_of hr2 _
 cases hw : wordsK line with
 | nil =>
   rw [hw] at hn
   refine wp_cond_true (by simp [Act.eval, hn]) ?_
   refine wp_seq (wp_region ?_)
   simp [wpOps, go_sem, Act.put, Act.eval, Exit.then, Oper.wp, Oper.upon, hc2, hf2]
   repeat refine Or.inl ?_
   refine wp_ret ?_
   rw [set_one hr2 rfl]
   have hr3 := hr2.set [.string (ByteArray.mk #[])]
   have hc3 : ((w1.alloc (.cells #[sl] 84)).setRow w.heap.size #[.string (ByteArray.mk #[])]).cell? ⟨w.heap.size, 0, none⟩ = some (.string (ByteArray.mk #[])) := by have := hr3.ld 0; simpa [Vc.ld] using this
   simp [bodyPostD, Leaves, results, Tryz.results14, go_sem, hc3]
   exact hst _ _ _ (h0 hw _ x2) (mod_set _ _ _)
 | cons c r =>
   rw [hw] at hn
   refine wp_cond_false (by simp [Act.eval, hn]; omega) ?_
   refine wp_skip ?_
   simp only [Exit.then]
   refine wp_seq (wp_region ?_)
   simp [wpOps, go_sem, Act.put, Act.eval, Exit.then, Oper.wp, Oper.upon]
   repeat refine Or.inl ?_
   generalize hW2 : w1.alloc (.cells #[sl] 84) = W2 at *
   refine wp_seq (wp_region ?_)
   simp [wpOps, go_sem, Act.put, Act.eval, Exit.then, Oper.wp, Oper.upon]
   repeat refine Or.inl ?_
   refine (does_spec (h.ext x2) ⟨hs.row.ext x2⟩).mono ?_
   rintro e w3 ⟨rm, c1, c2, c3, c4, c5, rfl, hm, r1, r2, r3, r4, r5, b0, b1, b2, b3, b4, b5, x3⟩
   simp [go_sem, Oper.upon, wpOps, Oper.wp, Act.put, Act.eval]
   repeat refine Or.inl ?_
   have hz2 : W2.heap.size = w1.heap.size + 1 := by rw [← hW2]; simp
   have xa : Ext w1 W2 := by rw [← hW2]; exact Ext.al _ _
   have hag : AG W2 W2.heap.size w1 (c :: r) := ⟨by omega, ali34 _, sl, by rw [← hW2]; exact Row.new _ [_] _, by rw [← hw]; exact hrd.ext xa, hlc, fun i hi => by have := (hbk i hi).2; omega⟩
   refine (word_spec (hag.ext x3)).mono ?_
   rintro e w4 ⟨m4, hp⟩
   obtain ⟨rfl, ha4⟩ := hp
   have hzw : w.heap.size + 1 ≤ w1 := by have := x1.size; simpa using this
   have x4 : Ext w w4 := m4.ext (x2.tr x3) (fun i hi => by omega)
   have hne : ∀ i, W2.heap.size ≤ i → i ≠ w1.heap.size := fun i hi => by omega
   have hm4 : MapIs GS w4 (some rm) (kvZ 23 (cmdV sh [c1, c2, c3, c4, c5])) := hm.same (m4.same rm hm.lt (hne _ b0))
   have k1 := r1.same (m4.same c1 r1.lt (hne _ b1))
   have k2 := r2.same (m4.same c2 r2.lt (hne _ b2))
   have k3 := r3.same (m4.same c3 r3.lt (hne _ b3))
   have k4 := r4.same (m4.same c4 r4.lt (hne _ b4))
   have k5 := r5.same (m4.same c5 r5.lt (hne _ b5))
   by_cases hc : c ∈ cmdN
   ·obtain ⟨i, hi⟩ := List.mem_iff_getElem?.1 hc
    have hi23 : i < 23 := (ali03.1 hi).1
    obtain ⟨v, hv⟩ : ∃ v, (cmdV sh [c1, c2, c3, c4, c5])[i]? = some v := ⟨_, ali04 (show i < (cmdV sh [c1, c2, c3, c4, c5]).length from hi23)⟩
    obtain ⟨f, a, b, hcv, hcall⟩ := hcmd c r i hw hi w4 W2.heap.size w1 c1 c2 c3 c4 c5 x4 ha4 (by omega) k1 k2 k3 k4 k5 ⟨b1, b2, b3, b4, b5⟩ v hv
    have hlk : (Instr.lookup 87 (.map (some rm)) (.string c) false).run Tryz.prog w4 = .ok v w4 := by
     refine (lookup_run (P := Tryz.prog) (z := .nilFunc) map87 strKey hm4 ⟨c, rfl⟩ false (v := v) (b := true) (.inl ⟨rfl, ?_⟩))
     unfold kvZ
     refine List.mem_iff_getElem?.2 ⟨i, ?_⟩
     rw [List.getElem?_zip_eq_some]
     refine ⟨?_, hv⟩
     rw [ali02, ali11 (by decide), hi]
     rfl
    simp [go_sem, Oper.upon, wpOps, Oper.wp, Act.put, Act.eval, hlk]
    obtain ⟨rfl, hent⟩ := hcv
    repeat refine Or.inl ?_
    refine wp_seq (wp_region ?_)
    simp [wpOps, go_sem, Act.put, Act.eval, Exit.then, Oper.wp, Oper.upon]
    repeat refine Or.inl ?_
    have hr4 : Row w4 w [.string (ByteArray.mk #[])] 9 := (hr2.ext x3).same (m4.same _ (hr2.ext x3).lt (by omega))
    refine (must_spec true w4).mono ?_
    rintro e w4' ⟨he, e4⟩
    simp only [if_true] at he
    subst he
    rw [e4]
    refine wp_seq (wp_region ?_)
    simp [wpOps, go_sem, Act.put, Act.eval, Exit.then, Oper.wp, Oper.upon, invoke, hent]
    repeat refine Or.inl ?_
    refine hcall.mono ?_
    rintro e u ⟨hk, ⟨tx, rfl, hq⟩ | ⟨rfl, hq⟩⟩
    ·have hru := hr4.same hk
     have hcu : u.cell? ⟨w.heap.size, 0, none⟩ = some (.string (ByteArray.mk #[])) := by have := hru.ld 0; simpa [Vc.ld] using this
     have hfu : u.frozen? ⟨w.heap.size, 0, none⟩ = false := frozen_of hru _
     have hrs := hru.set [.string tx]
     have hcs : (u.setRow w #[.string tx]).cell? ⟨w.heap.size, 0, none⟩ = some (.string tx) := by have := hrs.ld 0; simpa [Vc.ld] using this
     have hqs : Q tx (u.setRow w #[.string tx]) := hst _ _ _ hq (mod_set _ _ _)
     simp [go_sem, storeCells, hcu, hfu]
     rw [set_one hru rfl]
     repeat refine Or.inl ?_
     refine wp_ret ?_
     simp only [bodyPostD]
     refine leaves_cons (f := 51) (args := #[.pointer (some ⟨w.heap.size, 0, none⟩)]) (by simp) (enter_of Tryz.func51 (by kernel_rfl) rfl _ _) ?_
     refine (catch_idle ⟨w.heap.size, 0, none⟩ _).mono ?_
     rintro e u' w'' ⟨rfl, rfl, rfl⟩
     simp [Leaves, settle, results, Tryz.results14, go_sem, hcs]
     exact hqs
    ·have hru := hr4.same hk
     have hcu : u.cell? ⟨w.heap.size, 0, none⟩ = some (.string (ByteArray.mk #[])) := by have := hru.ld 0; simpa [Vc.ld] using this
     have hfu : u.frozen? ⟨w.heap.size, 0, none⟩ = false := frozen_of hru _
     have hrs := hru.set [.string (ByteArray.mk #[98, 97, 100])]
     have hcs : (u.setRow w #[.string (ByteArray.mk #[98, 97, 100])]).cell? ⟨w.heap.size, 0, none⟩ = some (.string (ByteArray.mk #[98, 97, 100])) := by have := hrs.ld 0; simpa [Vc.ld] using this
     have hqs : Q (ByteArray.mk #[98, 97, 100]) (u.setRow w #[.string (ByteArray.mk #[98, 97, 100])]) := hst _ _ _ hq (mod_set _ _ _)
     simp only [odd, bodyPostD]
     refine leaves_cons (f := 51) (args := #[.pointer (some ⟨w.heap.size, 0, none⟩)]) (by simp) (enter_of Tryz.func51 (by kernel_rfl) rfl _ _) ?_
     refine (catch_odd ⟨w.heap.size, 0, none⟩ (ByteArray.mk #[]) _ _ _ hcu hfu).mono ?_
     rintro e u' w'' ⟨rfl, rfl, rfl⟩
     rw [set_one hru rfl]
     simp [Leaves, settle, results, Tryz.results14, go_sem, hcs]
     exact hqs
   ·have hlk : (Instr.lookup 87 (.map (some rm)) (.string c) false).run Tryz.prog w4 = .ok .nilFunc w4 := by
     refine (lookup_run (P := Tryz.prog) (z := .nilFunc) map87 strKey hm4 ⟨c, rfl⟩ false (v := .nilFunc) (b := false) (.inr ⟨rfl, rfl, ?_⟩))
     rintro ⟨x, y⟩ he hx
     obtain ⟨t', ht', hx'⟩ := ali06.1 (List.of_mem_zip he).1
     have : Value.string t' = .string c := hx'.trans hx
     injection this with this
     rw [this] at ht'
     exact hc (List.mem_of_mem_take ht')
    have hr4 : Row w4 w [.string (ByteArray.mk #[])] 9 := (hr2.ext x3).same (m4.same _ (hr2.ext x3).lt (by omega))
    have hc4 : w4.cell? ⟨w.heap.size, 0, none⟩ = some (.string (ByteArray.mk #[])) := by have := hr4.ld 0; simpa [Vc.ld] using this
    have hf4 : w4.frozen? ⟨w.heap.size, 0, none⟩ = false := frozen_of hr4 _
    simp [go_sem, Oper.upon, wpOps, Oper.wp, Act.put, Act.eval, hlk]
    repeat refine Or.inl ?_
    refine wp_seq (wp_region ?_)
    simp [wpOps, go_sem, Act.put, Act.eval, Exit.then, Oper.wp, Oper.upon]
    repeat refine Or.inl ?_
    refine (must_spec false w4).mono ?_
    rintro e w4' ⟨he, e4⟩
    simp only [Bool.false_eq_true, if_false] at he
    subst he
    rw [e4]
    ·have hrs := hr4.set [.string (ByteArray.mk #[98, 97, 100])]
     have hcs : (w4.setRow w #[.string (ByteArray.mk #[98, 97, 100])]).cell? ⟨w.heap.size, 0, none⟩ = some (.string (ByteArray.mk #[98, 97, 100])) := by have := hrs.ld 0; simpa [Vc.ld] using this
     have hqs : Q (ByteArray.mk #[98, 97, 100]) (w4.setRow w #[.string (ByteArray.mk #[98, 97, 100])]) := hst _ _ _ (hbad c r hw hc w4 x4) (mod_set _ _ _)
     simp only [odd, bodyPostD]
     refine leaves_cons (f := 51) (args := #[.pointer (some ⟨w.heap.size, 0, none⟩)]) (by simp) (enter_of Tryz.func51 (by kernel_rfl) rfl _ _) ?_
     refine (catch_odd ⟨w.heap.size, 0, none⟩ (ByteArray.mk #[]) _ _ _ hc4 hf4).mono ?_
     rintro e u' w'' ⟨rfl, rfl, rfl⟩
     rw [set_one hr4 rfl]
     simp [Leaves, settle, results, Tryz.results14, go_sem, hcs]
     exact hqs
end Go.Proofs.YtjcnjlaelhdjeaaGreatDoor
namespace Go.Proofs.YtjcnjlaelhdjeaaGreatDoor
open Go Go.Vc Go.RowKit Go.Proofs Go.Lin Go.Chk Go.Runs Go.Code
set_option linter.unusedVariables false
theorem eLoad_spec {F : Nat → Prop} {w : World} {g s o t : Nat} {M : Sm} {occ : Value} {L : List (Option Lfe)} (h : EF F w g s o t M occ L) (hW : M.T.1.l.length ≤ 1000000) (p : Po) :
  Cal 88 #[t, pv p] w fun e w' => e = Value.int .i64 (ldE M.seed M.cap M.T.1 M.T.2 p).2 ∧ ERes F w g s o t { M with T := (ldE M.seed M.cap M.T.1 M.T.2 p).1 } occ L w' := by
 obtain ⟨Fs, hS, hp, hsub, hr⟩ := h.sim
 obtain ⟨Fw, hw, hsub2, hr2⟩ := hS.world
 refine (wfLoad_spec hw hW p).mono ?_
 rintro e w' ⟨rfl, hres⟩
 exact ⟨rfl, hr (hr2 hres)⟩
theorem table1_spec {w : World} {B ga c0 : Nat} {ws : List ByteArray} {fv : Value} (ha : AG w B ga ws) (hc : Row w c0 [fv] 157) (hne : c0 ≠ ga) (hfv : oneC fv = []) (R : Ending → World → Prop)
  (hbad : (∀ p, pPos ws ≠ some (p, [])) → ∀ u, Mod (fun i => i = ga) w u → R odd u)
  (hdo : ∀ p r, pPos ws = some (p, r) → r = [] → ∀ u, Mod (fun i => i = ga) w u → w.heap.size < u.heap.size → callV Tryz.prog fv [.agg #[.int .i64 p.1, .int .i64 p.2]] u fun e u' => ∃ (x : Int) (tx : ByteArray), e = Value.int .i64 x ∧ (∀ i, w.heap.size ≤ i → i < u.heap.size → u'.heap[i]? = u.heap[i]?) ∧ u.heap.size ≤ u'.heap.size ∧
   (∀ v, Ext u' v → Itm v (.iface 168 (.int .i64 x)) tx) ∧ tx.size ≤ 1000000 ∧ ∀ v, Ext u' v → R (.returned (.string tx)) v) :
  Cal 155 #[ga, c0] w R := by
 apply lines_Shell_table_1.vc
 refine (pos_spec ha).mono ?_
 rintro e w0 ⟨m0, hp⟩
 cases hw : pPos ws with
 | none =>
   rw [hw] at hp
   subst hp
   exact hbad (fun p q => by rw [hw] at q; cases q) _ m0
 | some x =>
   obtain ⟨⟨x, z⟩, r⟩ := x
   rw [hw] at hp
   obtain ⟨rfl, ha0⟩ := hp
   refine ⟨x, z, rfl, ?_⟩
   intro w3 e3 w4 e4
   have x3 : Ext w0 w3 := by rw [e3]; exact Ext.al _ _
   have z3 := hs1 e3
   have m4 := mod_set w3 w0 #[.int .i64 x, z]
   rw [← e4] at m4
   have x4 : Ext w0 w4 := m4.ext x3 (fun i hi => by omega)
   have z4 : w4.heap.size = w0.heap.size + 1 := by rw [e4]; simp [z3]
   have mw4 : Mod (fun i => i = ga) w w4 := m0.trans (Mod.of_ext x4)
   refine (end_spec (ha0.ext x4)).mono ?_
   rintro e w5 ⟨e5, he⟩
   rw [e5]
   by_cases hr : r = []
   ·rw [if_pos hr] at he
    subst he
    have hcw : Row w4 c0 [fv] 157 := hc.same (mw4.same c0 hc.lt hne)
    refine ⟨rfl, rfl, fv, by rw [hcw.ld]; rfl, ?_⟩
    have h0w := m0.size
    refine callV_mono (hdo (x, z) r hw hr w4 mw4 omm) ?_
    rintro e w7 ⟨xe, tx, rfl, hk, hs7, hit, hsz, hR⟩
    refine ⟨xe, rfl, hk _ h0w omm, ?_⟩
    intro w9 e9
    have x9 : Ext w7 w9 := by rw [e9]; exact Ext.al _ _
    have hr9 : Row w9 w7 [.iface 168 (xe)] 20 := Row.nw e9
    have hrd : RdK w9 ⟨pzq w7.heap.size, 1, 1⟩ 1 ([.iface 168 (xe)].map fun x => [x]) := by
     refine ⟨rfl, fun q hq => by simp at hq; subst hq; rfl, fun i q hi j v hj => ?_⟩
     cases i with
     | succ i => simp at hi
     | zero =>
       simp at hi
       subst hi
       cases j with
       | succ j => simp at hj
       | zero =>
         simp at hj
         subst hj
         rw [padd_row, hr9.ld]
         rfl
    have hj1 : (Lib.join ([tx].map (·.data.toList)) [32]).length ≤ 140737488355328 := by
     have e := congrArg bl (join_one tx)
     have e : Lib.join ([tx].map (·.data.toList)) [32] = bl tx := e
     rw [e, bl_len]
     omega
    refine (told_spec (outs := [tx]) hrd rfl smm (fun i y t hy ht => ?_) hj1).mono ?_
    ·cases i with
     | succ i => simp at hy
     | zero =>
       simp at hy ht
       subst hy
       subst ht
       exact hit w9 x9
    ·rintro _ w10 ⟨rfl, x10⟩
     refine ⟨_, rfl, x10.heap (by have := x9.size; omega), ?_⟩
     rw [join_one]
     exact hR _ (x9.tr x10)
   ·rw [if_neg hr] at he
    subst he
    exact hbad (fun p q => by rw [hw] at q; cases q; exact hr rfl) _ mw4
end Go.Proofs.YtjcnjlaelhdjeaaGreatDoor
namespace Go.Proofs.YtjcnjlaelhdjeaaGreatDoor
open Go Go.Vc Go.RowKit Go.Proofs Go.Lin Go.Chk Go.Runs Go.Code
set_option linter.unusedVariables false
theorem told_one {u v : World} {x : Value} {tx : ByteArray} (hv : v = u.alloc (.cells #[x] 20)) (hit : Itm v x tx) (hsz : tx.size ≤ 1000000) :
  Cal 154 #[.slice (pzq u.heap.size) 1 1] v fun e w' => e = Value.string tx ∧ Ext v w' := by
 have hr9 : Row v u.heap.size [x] 20 := Row.nw hv
 have hrd : RdK v ⟨pzq u.heap.size, 1, 1⟩ 1 ([x].map fun x => [x]) := by
  refine ⟨rfl, fun q hq => by simp at hq; subst hq; rfl, fun i q hi j v hj => ?_⟩
  cases i with
  | succ i => simp at hi
  | zero =>
    simp at hi
    subst hi
    cases j with
    | succ j => simp at hj
    | zero =>
      simp at hj
      subst hj
      rw [padd_row, hr9.ld]
      rfl
 have hj1 : (Lib.join ([tx].map (·.data.toList)) [32]).length ≤ 140737488355328 := by
  have e := congrArg bl (join_one tx)
  have e : Lib.join ([tx].map (·.data.toList)) [32] = bl tx := e
  rw [e, bl_len]
  omega
 refine (told_spec (outs := [tx]) hrd rfl smm (fun i y t hy ht => ?_) hj1).mono ?_
 ·cases i with
  | succ i => simp at hy
  | zero =>
    simp at hy ht
    subst hy
    subst ht
    exact hit
 ·rintro _ w10 ⟨rfl, x10⟩
  rw [join_one]
  exact ⟨rfl, x10⟩
def cellT (b : Int) : ByteArray := if b = -1 then ByteArray.mk #[97, 119, 97, 121] else bName b
set_option maxRecDepth 100000 in
theorem shAt_spec {F : Nat → Prop} {w : World} {g s o t sh B ga : Nat} {M : Sm} {occ : Value} {L : List (Option Lfe)} {ws : List ByteArray} (h : EF F w g s o t M occ L) (hs : SHE w sh g) (ha : AG w B ga ws) (hF : ¬ F ga) (hsg : sh ≠ ga)
  (hnm : ∀ b, (bName b).size ≤ 1000000) (R : Ending → World → Prop) (hbad : (∀ p, pVec ws ≠ some (p, [])) → ∀ u, Mod (fun i => i = ga) w u → R odd u)
  (hok : ∀ c, pVec ws = some (c, []) → okC c ∧ ∀ u, Mod (fun i => i = ga) w u → R (.returned (.string (cellT (atE M.T.2 c)))) u) :
  Cal 104 #[sh, ga] w R := by
 apply lines_Shell_at.vc
 refine (cell_spec ha).mono ?_
 rintro e w0 ⟨m0, hp⟩
 cases hw : pVec ws with
 | none =>
   rw [hw] at hp
   subst hp
   exact hbad (fun p q => by rw [hw] at q; cases q) _ m0
 | some x =>
   obtain ⟨⟨x, y, z⟩, r⟩ := x
   rw [hw] at hp
   obtain ⟨rfl, ha0⟩ := hp
   refine ⟨x, y, z, rfl, ?_⟩
   intro w4 e4 w5 e5
   have x4 : Ext w0 w4 := by rw [e4]; exact Ext.al _ _
   have z4 := hs1 e4
   have m5 := mod_set w4 w0 #[x, y, z]
   rw [← e5] at m5
   have x5 : Ext w0 w5 := m5.ext x4 (fun i hi => by omega)
   have z5 : w5.heap.size = w0.heap.size + 1 := by rw [e5]; simp [z4]
   have mw5 : Mod (fun i => i = ga) w w5 := m0.trans (Mod.of_ext x5)
   refine (end_spec (ha0.ext x5)).mono ?_
   rintro e w6 ⟨e6, he⟩
   rw [e6]
   by_cases hr : r = []
   ·rw [if_pos hr] at he
    subst he
    subst hr
    obtain ⟨hc, hR⟩ := hok _ hw
    have h5 : EF F w5 g s o t M occ L := h.same fun i hi => mw5.same i (h.lt hi) (fun q => hF (q ▸ hi))
    have hd := h5.ext (Ext.dr w5)
    have hsh : Row w5.drew sh [g] tShell := (hs.row.same (mw5.same sh hs.row.lt hsg)).ext (Ext.dr w5)
    have hb : Row w5.drew w0 (clv (x, y, z)) 23 := by
     have : Row w5 w0 (clv (x, y, z)) 23 := by
      have hr4 : Row w4 w0 [vzz, vzz, vzz] 23 := Row.nw e4
      rw [e5]; exact hr4.set [_, _, _]
     exact this.ext (Ext.dr w5)
    obtain ⟨Fs, hS, hpp, -, -⟩ := hd.sim
    obtain ⟨Fw, hW, -, -⟩ := hS.world
    refine ⟨rfl, rfl, pzq g, by rw [padd_row, hsh.ld]; rfl, AndL_nn.2 ⟨rfl, AndL_nn.2 ⟨rfl, pzq s, hpp, (sWorld_spec hS).mono ?_⟩⟩⟩
    rintro _ w9 ⟨rfl, e9⟩
    rw [e9]
    have lb : LoadL w5.drew (pzq w0.heap.size) 0 [x, y, z] := hb.loadL (o := 0) (fun j _ => by rw [ali37])
    have ls : LoadL w5.drew (padd (pzq sh) 0) 0 [g] := by rw [padd_row]; exact hsh.loadL (fun j _ => by simp)
    refine ⟨_, rfl, rfl, lb, ls, (wView_spec hW).mono ?_⟩
    rintro _ w11 ⟨rfl, e11⟩
    rw [e11]
    have hca : callV Tryz.prog (.func (.func 113) #[t] #[]) [.agg #[x, y, z]] w5.drew fun e w'' => e = Value.int .i64 (atE M.T.2 (x, y, z)) ∧ Ext w5.drew w'' := hd.tl.at (c := (x, y, z)) hc
    refine ⟨_, rfl, rfl, lb, ls, ?_⟩
    refine callV_mono hca ?_
    rintro e w13 ⟨rfl, x13⟩
    have x13' : Ext w5 w13 := (Ext.dr w5).tr x13
    have s5 := zdr w5
    have h013 : w0.heap.size < w13 := by have := x13.size; omega
    refine ⟨_, rfl, x13.heap omm, by rw [padd_row]; exact (hsh.ext x13).loadL (fun j _ => by simp), Br.mk (fun c1 => ?_) (fun c1 => ?_)⟩
    ·have c1 := qdq c1
     intro w15 e15
     have x15 : Ext w13 w15 := by rw [e15]; exact Ext.al _ _
     refine (told_one e15 (.s _) dcc).mono ?_
     rintro _ w16 ⟨rfl, x16⟩
     refine ⟨_, rfl, x16.heap (by have := x15.size; omega), ?_⟩
     have := hR w16 (mw5.trans (Mod.of_ext ((x13'.tr x15).tr x16)))
     unfold cellT at this
     rw [if_pos c1] at this
     exact this
    ·have c1 := qdq c1
     refine (block_Name_spec _ w13).mono ?_
     rintro _ w18 ⟨rfl, x18⟩
     refine ⟨_, rfl, x18.heap h013, ?_⟩
     intro w20 e20
     have x20 : Ext w18 w20 := by rw [e20]; exact Ext.al _ _
     refine (told_one e20 (.s _) (hnm _)).mono ?_
     rintro _ w21 ⟨rfl, x21⟩
     refine ⟨_, rfl, x21.heap (by have := x18.size; have := x20.size; omega), ?_⟩
     have := hR w21 (mw5.trans (Mod.of_ext (((x13'.tr x18).tr x20).tr x21)))
     unfold cellT at this
     rw [if_neg c1] at this
     exact this
   ·rw [if_neg hr] at he
    subst he
    exact hbad (fun p q => by rw [hw] at q; cases q; exact hr rfl) _ mw5
end Go.Proofs.YtjcnjlaelhdjeaaGreatDoor
namespace Go.Proofs.YtjcnjlaelhdjeaaGreatDoor
open Go Go.Vc Go.RowKit Go.Proofs Go.Lin Go.Chk Go.Runs Go.Code
set_option linter.unusedVariables false
abbrev occ0 : Value := .func (.func 175) #[] #[]
theorem shNew_spec (w : World) : Cal 26 #[] w fun e w' => ∃ (sh g s o t : Nat) (F : Nat → Prop), e = Value.pointer (pzq sh) ∧ EF F w' g s o t (M0e 1 9 200000 16) occ0 noL ∧ SHE w' sh g ∧ ¬ F sh ∧ Ext w w' ∧ (∀ i, F i → w.heap.size ≤ i) ∧ w.heap.size ≤ sh := by
 apply lines_New.vc
 refine (eNew_spec 1 9 200000 16 w).mono ?_
 rintro _ w0 ⟨g, s, o, t, F, rfl, h, x0, hF⟩
 refine ⟨_, rfl, ?_⟩
 intro w2 e2
 have x2 : Ext w0 w2 := by rw [e2]; exact Ext.al _ _
 exact ⟨w0.heap.size, g, s, o, t, F, rfl, h.ext x2, ⟨by rw [e2]; exact Row.new _ [_] _⟩, fun q => by have := h.lt q; omega, x0.tr x2, hF, x0.size⟩
end Go.Proofs.YtjcnjlaelhdjeaaGreatDoor
namespace Go.Proofs.YtjcnjlaelhdjeaaGreatDoor
open Go Go.Vc Go.RowKit Go.Proofs Go.Lin
set_option linter.unusedVariables false
set_option maxRecDepth 100000
theorem info112 : (Tryz.prog.info? 112).map (·.size) = some 2 := by kernel_rfl
theorem lies112 : liesAt Tryz.prog Tryz.prog.depth 112 (2 / Tryz.prog.cellsOf 112) 0 112 1 = true := by kernel_rfl
theorem shape_row {w : World} {g : Nat} {cs : LV} {t : TypeId} (h : Row w g cs t) : w.shape? g = some (t, cs.length) := by
 simp [World.shape?, show w.heap[g]? = _ from h]
theorem copyCheck_spec {w : World} {b : Nat} {p : Option Addr} {v : Value} (h : Row w b [.pointer p, v] 112) (hp : p = none ∨ p = pzq b) :
  Cal 117 #[b] w fun e w' => e = tqq ∧ Row w' b [b, v] 112 ∧ Mod (fun i => i = b) w w' ∧ w'.heap.size = w.heap.size := by
 have hc : w.cell? ⟨b, 0, none⟩ = some (.pointer p) := by have := h.ld 0; simpa [Vc.ld] using this
 have hf : w.frozen? ⟨b, 0, none⟩ = false := frozen_of h _
 obtain ⟨j, hj, hjs⟩ := alj68.1 info112
 have hsh := shape_row h
 have c1 := Lib.run_to_unsafe (P := Tryz.prog) (w := w) (src := 110) (dst := 230) ⟨b, 0, none⟩ Tryz.underlying110 Tryz.underlying230 hj (by rw [hjs]; decide) hsh smm
 have c2 : (callFunc 180 #[b]).run Tryz.prog w = _ := run_callFunc_extern Tryz.func180 (by kernel_rfl) (by kernel_rfl) (by kernel_rfl) (e := Extern.AbiNoEscape.same) (by kernel_rfl) _ w
 have c3 := Lib.run_from_unsafe (P := Tryz.prog) (w := w) (src := 230) (dst := 110) ⟨b, 0, none⟩ Tryz.underlying230 Tryz.underlying110 hj hsh lies112
 have hst : w.setCell ⟨b, 0, none⟩ (.pointer (pzq b)) = w.setRow b #[b, v] := by
  have h2 := h.setP (o := 0) (vs := [b]) smm (fun u hu => by simp at hu; subst hu; rfl)
  exact h2
 go_enter Tryz.func117, Tryz.ntmps117
 refine wp_seq (wp_region ?_)
 simp [wpOps, go_sem, Act.put, Act.eval, Exit.then, Oper.wp, Oper.upon, hc]
 repeat refine Or.inl ?_
 rcases hp with rfl | rfl
 ·refine wp_cond_true (by simp [Act.eval]) ?_
  refine wp_region ?_
  simp [wpOps, go_sem, Act.put, Act.eval, Exit.then, Oper.wp, Oper.upon, c1, c2, c3, Lib.run_noEscape, hc, hf, storeCells]
  repeat refine Or.inl ?_
  go_end0
  refine ⟨rfl, ?_⟩
  rw [hst]
  exact ⟨h.set [_, _], mod_set _ _ _, by simp⟩
 ·refine wp_cond_false (by simp [Act.eval]) ?_
  refine wp_seq (wp_region ?_)
  simp [wpOps, go_sem, Act.put, Act.eval, Exit.then, Oper.wp, Oper.upon, hc]
  repeat refine Or.inl ?_
  have cn : (binOp .neq 110 (.pointer (pzq b)) (.pointer (pzq b))).run Tryz.prog w = .ok (.bool false) w := by
   have he : (Op.equal 110 (.pointer (pzq b)) (.pointer (pzq b))).run Tryz.prog w = .ok true w := by
    unfold Op.equal Op.maxDepth
    rw [show (10000 : Nat) = 9999 + 1 from rfl, Op.equalIn, Sem.run_bind, underlying_run, Tryz.underlying110]
    simp [sameAddr, sizeAt, go_sem]
   simp [binOp, run_underlying Tryz.underlying110, go_sem]
   rw [he]
   rfl
  simp [cn]
  repeat refine Or.inl ?_
  refine wp_cond_false (by simp [Act.eval]) ?_
  refine wp_skip ?_
  go_end0
  exact ⟨rfl, h, Mod.refl _ _, rfl⟩
end Go.Proofs.YtjcnjlaelhdjeaaGreatDoor
