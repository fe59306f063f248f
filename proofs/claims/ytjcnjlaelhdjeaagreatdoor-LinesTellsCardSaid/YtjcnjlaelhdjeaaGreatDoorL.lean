import Derived.Test.YtjcnjlaelhdjeaaGreatDoorK
import Derived.Test.YtjcnjlaelhdjeaaGreatDoorJ
import Derived.Test.YtjcnjlaelhdjeaaGreatDoorF
import Derived.Test.YtjcnjlaelhdjeaaGreatDoorD
import Derived.Test.YtjcnjlaelhdjeaaGreatDoorI
import Derived.Tactics
import Derived.Tactics2
import Derived.Defers
import Derived.Recover
import Derived.Laws.Pointers
import Derived.Shelf.Strings.Builder1
set_option linter.all false
namespace Go.Proofs.YtjcnjlaelhdjeaaGreatDoor
open Go Go.Vc Go.RowKit Go.Proofs Go.Chk Go.Runs Go.Code Go.Que Go.Flw
abbrev tSim : TypeId := 129
structure Sm where
 seed : Int
 cap : Int
 T : Tb
 ch : List Go.Flw.Cg
 q : QS
 budget : Int
 now : Int
 drops : List Ce
abbrev smC (g o : Nat) (M : Sm) (occ : Value) (sd : Sl) : List Value := [.pointer (some ⟨g, 0, none⟩), .pointer (some ⟨o, 0, none⟩), .int .i64 M.budget, .int .i64 M.now, occ, .slice sd.a sd.n sd.c]
def SF (F : Nat → Prop) (w : World) (s o t : Nat) (M : Sm) (occ : Value) : Prop :=
 ∃ g m qs Fw sd, Row w s (smC g o M occ sd) tSim ∧ Q.QIs w g m qs M.q ∧ QOk M.q ∧ WF Fw w o t M.seed M.cap M.T M.ch ∧ OwnK 0 tCe 3 w sd (M.drops.map clv) ∧ (∀ i, Q.Foot g m qs i → ¬ Fw i) ∧ F = fun i => i = s ∨ Q.Foot g m qs i ∨ Fw i ∨ sd.blk = some i
section
variable {F F' : Nat → Prop} {w w' : World} {s o t : Nat} {M M' : Sm} {occ : Value}
theorem SF.lt (h : SF F w s o t M occ) {i : Nat} (hi : F i) : i < w.heap.size := by
 obtain ⟨g, m, qs, Fw, sd, h1, h2, -, h3, h4, -, rfl⟩ := h
 rcases hi with rfl | hi | hi | hi
 ·exact h1.lt
 ·exact h2.lt i hi
 ·exact h3.lt hi
 ·exact (h4.own.lt hi).2
theorem SF.same (h : SF F w s o t M occ) (hk : ∀ i, F i → w'.heap[i]? = w.heap[i]?) : SF F w' s o t M occ := by
 obtain ⟨g, m, qs, Fw, sd, h1, h2, hq, h3, h4, h5, rfl⟩ := h
 obtain ⟨kvs, m1, m2⟩ := h2.map
 exact ⟨g, m, qs, Fw, sd, h1.same (hk _ (.inl rfl)), ⟨h2.row.same (hk _ (.inr (.inl (.inl rfl)))), OwnK.keep h2.own fun b hb => hk b (.inr (.inl (.inr (.inr hb)))), kvs, m1.same (hk _ (.inr (.inl (.inr (.inl rfl))))), m2⟩, hq, h3.same fun i hi => hk i (.inr (.inr (.inl hi))), OwnK.keep h4 fun b hb => hk b (.inr (.inr (.inr hb))), h5, rfl⟩
theorem SF.ext (h : SF F w s o t M occ) (x : Ext w w') : SF F w' s o t M occ := h.same fun _ hi => x.heap (h.lt hi)
theorem SF.no_row2 (h : SF F w s o t M occ) {j : Nat} {cs : List Value} {τ : TypeId} (hr : Row w j cs τ) (h1 : offT τ) (h2 : τ ≠ tWorld) (h3 : τ ≠ tChg) (h4 : τ ≠ tSim) (h5 : τ ≠ Q.tQueue) (h6 : τ ≠ Q.tItem) (h7 : τ ≠ tCe) : ¬ F j := by
 obtain ⟨g, m, qs, Fw, sd, r1, r2, -, r3, r4, -, rfl⟩ := h
 rintro (hi | hi | hi | hi)
 ·exact hr.ne r1 h4 hi
 ·exact r2.no_row hr h5 h6 hi
 ·exact r3.no_row hr h1 h2 h3 hi
 ·obtain ⟨cs', hr'⟩ := own_row r4 (by decide) hi
  exact hr.ne hr' h7 rfl
abbrev SmRes (F : Nat → Prop) (w : World) (s o t : Nat) (M : Sm) (occ : Value) (w' : World) : Prop := ∃ F', SF F' w' s o t M occ ∧ Turned F F' w w'
theorem SF.world (h : SF F w s o t M occ) : ∃ Fw, WF Fw w o t M.seed M.cap M.T M.ch ∧ (∀ i, Fw i → F i) ∧ ∀ {w' : World} {T' : Tb} {ch' : List Go.Flw.Cg}, WRes Fw w o t M.seed M.cap T' ch' w' → SmRes F w s o t { M with T := T', ch := ch' } occ w' := by
 obtain ⟨g, m, qs, Fw, sd, h1, h2, hq, h3, h4, h5, rfl⟩ := h
 refine ⟨Fw, h3, fun i hi => .inr (.inr (.inl hi)), ?_⟩
 rintro w' T' ch' ⟨F', h', ht⟩
 have n1 := h3.no_row h1 (by decide) (by decide) (by decide)
 have n2 : ∀ i, Q.Foot g m qs i → ¬ Fw i := h5
 have n4 : ∀ b, sd.blk = some b → ¬ Fw b := fun b hb => by
  obtain ⟨cs', hr'⟩ := own_row h4 (by decide) hb
  exact h3.no_row hr' (by decide) (by decide) (by decide)
 refine ⟨_, ⟨g, m, qs, F', sd, ht.mod.row h1 n1, h2.keep ht.mod n2, hq, h', ht.mod.ownK h4 n4, ?_, rfl⟩, ht.mod.mono fun i _ hi => .inr (.inr (.inl hi)), fun i hi => ?_⟩
 ·exact fun i hi hf => ht.apart (G := Q.Foot g m qs) (fun i hi hg => h5 i hg hi) (fun i hi => h2.lt i hi) i hf hi
 ·rcases hi with hi | hi | hi | hi
  ·exact .inl (.inl hi)
  ·exact .inl (.inr (.inl hi))
  ·exact (ht.sub i hi).imp (fun h => .inr (.inr (.inl h))) id
  ·exact .inl (.inr (.inr (.inr hi)))
theorem SF.queue (h : SF F w s o t M occ) : ∃ g m qs, Q.QIs w g m qs M.q ∧ QOk M.q ∧ (∃ sd, Row w s (smC g o M occ sd) tSim) ∧ (∀ i, Q.Foot g m qs i → F i) ∧ ∀ {w' : World} {qs' : Sl} {q' : QS}, Q.QIs w' g m qs' q' → QOk q' → Turned (Q.Foot g m qs) (Q.Foot g m qs') w w' → SmRes F w s o t { M with q := q' } occ w' := by
 obtain ⟨g, m, qs, Fw, sd, h1, h2, hq, h3, h4, h5, rfl⟩ := h
 refine ⟨g, m, qs, h2, hq, ⟨sd, h1⟩, fun i hi => .inr (.inl hi), ?_⟩
 rintro w' qs' q' h' hq' ht
 have n1 := h2.no_row h1 (by decide) (by decide)
 have n3 : ∀ i, Fw i → ¬ Q.Foot g m qs i := fun i hi hf => h5 i hf hi
 have n4 := h2.no_own h4 (by decide) (by decide) (by decide)
 refine ⟨_, ⟨g, m, qs', Fw, sd, ht.mod.row h1 n1, h', hq', h3.keep ht.mod n3, ht.mod.ownK h4 n4, ?_, rfl⟩, ht.mod.mono fun i _ hi => .inr (.inl hi), fun i hi => ?_⟩
 ·exact fun i hi hf => ht.apart (G := Fw) (fun i hi hg => h5 i hi hg) (fun i hi => h3.lt hi) i hi hf
 ·rcases hi with hi | hi | hi | hi
  ·exact .inl (.inl hi)
  ·exact (ht.sub i hi).imp (fun h => .inr (.inl h)) id
  ·exact .inl (.inr (.inr (.inl hi)))
  ·exact .inl (.inr (.inr (.inr hi)))
theorem SF.row (h : SF F w s o t M occ) : ∃ g sd, Row w s (smC g o M occ sd) tSim ∧ OwnK 0 tCe 3 w sd (M.drops.map clv) ∧ F s ∧ (∀ b, sd.blk = some b → F b) ∧ ∀ {w' : World} {M' : Sm} {occ' : Value} {sd' : Sl}, M'.seed = M.seed → M'.cap = M.cap → M'.T = M.T → M'.ch = M.ch → M'.q = M.q → Mod (fun i => i = s ∨ sd.blk = some i) w w' → Row w' s (smC g o M' occ' sd') tSim → OwnK 0 tCe 3 w' sd' (M'.drops.map clv) → (∀ b, sd'.blk = some b → sd.blk = some b ∨ w.heap.size ≤ b) → SmRes F w s o t M' occ' w' := by
 obtain ⟨g, m, qs, Fw, sd, h1, h2, hq, h3, h4, h5, rfl⟩ := h
 refine ⟨g, sd, h1, h4, .inl rfl, fun b hb => .inr (.inr (.inr hb)), ?_⟩
 rintro w' M' occ' sd' e1 e2 e3 e4 e5 hm hr hd hsub
 have q1 := h2.no_row h1 (by decide) (by decide)
 have q2 := h2.no_own h4 (by decide) (by decide) (by decide)
 have r1 := h3.no_row h1 (by decide) (by decide) (by decide)
 have r2 : ∀ b, sd.blk = some b → ¬ Fw b := fun b hb => by
  obtain ⟨cs', hr'⟩ := own_row h4 (by decide) hb
  exact h3.no_row hr' (by decide) (by decide) (by decide)
 refine ⟨_, ⟨g, m, qs, Fw, sd', hr, by rw [e5]; exact h2.keep hm fun i hi hf => hf.elim (fun e => q1 (e ▸ hi)) (fun e => q2 _ e hi), by rw [e5]; exact hq, by rw [e1, e2, e3, e4]; exact h3.keep hm fun i hi hf => hf.elim (fun e => r1 (e ▸ hi)) (fun e => r2 _ e hi), hd, h5, rfl⟩, hm.mono fun i _ hi => hi.elim .inl (fun e => .inr (.inr (.inr e))), fun i hi => ?_⟩
 rcases hi with hi | hi | hi | hi
 ·exact .inl (.inl hi)
 ·exact .inl (.inr (.inl hi))
 ·exact .inl (.inr (.inr (.inl hi)))
 ·exact (hsub i hi).imp (fun h => .inr (.inr (.inr h))) id
end
end Go.Proofs.YtjcnjlaelhdjeaaGreatDoor
namespace Go.Proofs.YtjcnjlaelhdjeaaGreatDoor
open Go Go.Vc Go.RowKit Go.Proofs Go.Chk Go.Runs Go.Code
section
variable {P P' : Nat → Prop} {w w' v v' : World} {s s1 s2 s3 s4 : Sl} {T : Tb} {ch : List Cg} {seed cap : Int}
end
end Go.Proofs.YtjcnjlaelhdjeaaGreatDoor
namespace Go.Proofs.YtjcnjlaelhdjeaaGreatDoor
open Go Go.Vc Go.RowKit Go.Proofs Go.Chk Go.Runs Go.Code Go.Que Go.Flw
def editM (M : Sm) (c : Ce) (b : Int) : Sm := { M with T := (M.T.1, (setE M.T.2 c b).1), ch := wsC M.T.2 M.ch c b, q := if (setE M.T.2 c b).2 = 0 then wakeQ (atE (setE M.T.2 c b).1) M.now M.q c else M.q }
theorem ground_top (s x z : Int) : ground s x z ≤ 14 := by
 unfold ground
 have hu : 0 ≤ x % 8 ∧ x % 8 ≤ 8 := by omega
 have hv : 0 ≤ z % 8 ∧ z % 8 ≤ 8 := by omega
 generalize x % 8 = u at *
 generalize z % 8 = v at *
 have key : ∀ {c w : Int}, (0 ≤ c ∧ c ≤ 8) → 0 ≤ w → c * w ≤ 8 * w := fun h1 h2 => Int.mul_le_mul_of_nonneg_right h1.2 h2
 have w1 : 0 ≤ (8 - u) * (8 - v) := Int.mul_nonneg (by omega) (by omega)
 have w2 : 0 ≤ u * (8 - v) := Int.mul_nonneg (by omega) (by omega)
 have w3 : 0 ≤ (8 - u) * v := Int.mul_nonneg (by omega) (by omega)
 have w4 : 0 ≤ u * v := Int.mul_nonneg (by omega) (by omega)
 have a := key (corner_in s (x / 8) (z / 8)) w1
 have b := key (corner_in s (x / 8 + 1) (z / 8)) w2
 have c := key (corner_in s (x / 8) (z / 8 + 1)) w3
 have d := key (corner_in s (x / 8 + 1) (z / 8 + 1)) w4
 have e : (8 - u) * (8 - v) + u * (8 - v) + (8 - u) * v + u * v = 64 := by
  simp only [Int.sub_mul, Int.mul_sub]
  omega
 omega
end Go.Proofs.YtjcnjlaelhdjeaaGreatDoor
namespace Go.Proofs.YtjcnjlaelhdjeaaGreatDoor
open Go Go.Vc Go.RowKit Go.Proofs Go.Chk Go.Runs Go.Code Go.Que Go.Flw
set_option maxRecDepth 100000
section
variable {F F' : Nat → Prop} {w w' : World} {s o t : Nat} {M M' : Sm} {occ : Value}
theorem SF.tl (h : SF F w s o t M occ) : Tl (.func (.func n_table_Table_At) #[.pointer (some ⟨t, 0, none⟩)] #[]) (atE M.T.2) w := by
 obtain ⟨Fw, hW, -, -⟩ := h.world
 exact ⟨Fw, fun i hi => hW.lt hi, fun w' hk c hc => hW.tells hk c hc⟩
theorem q0_ok : QOk ⟨4096, 0, []⟩ := ⟨by decide, by decide, List.Pairwise.nil, List.nodup_nil⟩
theorem simNew_spec {Fw : Nat → Prop} {seed cap : Int} {T : Tb} {ch : List Go.Flw.Cg} (h : WF Fw w o t seed cap T ch) (budget : Int) : Calls Tryz.prog n_sim_New #[.pointer (some ⟨o, 0, none⟩), .int .i64 budget] w fun e w' => ∃ s F, e = .returned (.pointer (some ⟨s, 0, none⟩)) ∧ SF F w' s o t ⟨seed, cap, T, ch, ⟨4096, 0, []⟩, min (max budget 1) 64, 0, []⟩ (.func (.func n_sim_New_1) #[] #[]) ∧ Ext w w' ∧ (∀ i, F i → Fw i ∨ w.heap.size ≤ i) := by
 apply sim_New.vc
 refine (Q.New_spec 4096 w).mono ?_
 rintro e w0 ⟨g, m, rfl, hq, x0, hg, hm⟩
 refine ⟨_, rfl, fun w2 e2 => ?_⟩
 have eb : (if 64 < (if 1 > budget then 1 else budget) then 64 else (if 1 > budget then 1 else budget)) = min (max budget 1) 64 := by
  split <;> split <;> omega
 rw [eb] at e2
 have x2 : Ext w0 w2 := (Ext.rfl' _).of_alloc e2
 have hr : Row w2 w0.heap.size (smC g o ⟨seed, cap, T, ch, ⟨4096, 0, []⟩, min (max budget 1) 64, 0, []⟩ (.func (.func n_sim_New_1) #[] #[]) ⟨none, 0, 0⟩) tSim := by rw [e2]; exact Row.new w0 [_, _, _, _, _, _] _
 refine ⟨w0.heap.size, _, rfl, ⟨g, m, ⟨none, 0, 0⟩, Fw, ⟨none, 0, 0⟩, hr, hq.ext x2, q0_ok, h.ext (x0.tr x2), OwnK.nil, ?_, rfl⟩, x0.tr x2, fun i hi => ?_⟩
 ·rintro i (hi | hi | hi) hf
  ·have := h.lt hf; omega
  ·have := h.lt hf; omega
  ·cases hi
 ·have := x0.size
  rcases hi with hi | (hi | hi | hi) | hi | hi
  ·exact .inr (by omega)
  ·exact .inr (by omega)
  ·exact .inr (by omega)
  ·cases hi
  ·exact .inl hi
  ·cases hi
theorem sWorld_spec (h : SF F w s o t M occ) : Calls Tryz.prog n_sim_Sim_World #[.pointer (some ⟨s, 0, none⟩)] w fun e w' => e = .returned (.pointer (some ⟨o, 0, none⟩)) ∧ w' = w := by
 obtain ⟨g, sd, h1, -⟩ := h.row
 apply sim_Sim_World.vc
 exact ⟨_, h1.at 1 rfl, rfl, rfl⟩
theorem delay_in (b : Int) : 0 ≤ delayK b ∧ delayK b ≤ 5 := by
 unfold delayK
 split
 ·decide
 ·split <;> decide
theorem wakes_ok {V : Ce → Int} {c : Ce} (hc : wideC c) : ∀ n ∈ wakesK V c, okC n := fun n hn => by
 unfold wakesK at hn
 rcases List.mem_cons.1 (List.mem_filter.1 hn).1 with rfl | h
 ·exact hc.ok
 ·exact nb_ok hc h
theorem wakes_len (V : Ce → Int) (c : Ce) : (wakesK V c).length ≤ 7 := List.length_filter_le _ _
abbrev wstep (V : Ce → Int) (now : Int) (q : QS) (n : Ce) : QS := (qadd q n (now + delayK (V n))).1
theorem wstep_lost (V : Ce → Int) (now : Int) : ∀ (l : List Ce) (q : QS), q.lost ≤ (l.foldl (wstep V now) q).lost ∧ (l.foldl (wstep V now) q).lost ≤ q.lost + l.length
 | [], q => ⟨Int.le_refl _, by simp⟩
 | n :: l, q => by
   have h1 := wstep_lost V now l (wstep V now q n)
   have h2 := qadd_lost q n (now + delayK (V n))
   have h3 : (wstep V now q n).lost = (qadd q n (now + delayK (V n))).1.lost := rfl
   simp only [List.foldl_cons, List.length_cons]
   omega
set_option maxRecDepth 100000 in
theorem wake_spec (h : SF F w s o t M occ) (c : Ce) (hc : wideC c) (hl : 0 ≤ M.q.lost ∧ M.q.lost ≤ 900000) (hnow : 0 ≤ M.now ∧ M.now ≤ 1099511627776) :
  Calls Tryz.prog n_sim_Sim_wake #[.pointer (some ⟨s, 0, none⟩), cev c] w fun e w' => e = .returned (.tuple #[]) ∧ SmRes F w s o t { M with q := wakeQ (atE M.T.2) M.now M.q c } occ w' := by
 apply sim_Sim_wake.vc
 intro w0 e0
 have x0 : Ext w w0 := (Ext.rfl' _).of_alloc e0
 have z0 : w0.heap.size = w.heap.size + 1 := by rw [e0]; simp
 clear e0
 have h0 := h.ext x0
 obtain ⟨g, sd, hr, -, hFs, -⟩ := h0.row
 obtain ⟨Fw, hW, -, -⟩ := h0.world
 refine ⟨_, hr.at 1 rfl, (wView_spec hW).mono ?_⟩
 rintro e w2 ⟨rfl, hw⟩
 subst hw
 refine ⟨_, rfl, rfl, (Wakes_spec h0.tl c hc).mono ?_⟩
 rintro e w4 ⟨s5, rfl, ho, x4⟩
 have z4 := x4.size
 have hrd := ho.rd (show 0 < 3 by decide)
 have hn5 := hrd.n
 have h4 := h0.ext x4
 have hL := wakes_len (atE M.T.2) c
 have hok := wakes_ok (V := atE M.T.2) hc
 unfold wakeQ
 generalize hLe : wakesK (atE M.T.2) c = L at *
 rw [List.length_map] at hn5
 refine ⟨s5, rfl, x4.heap (by omega), fun n x w10 => ∃ (j : Nat) (F' : Nat → Prop), x = j ∧ j + n = L.length ∧ SF F' w10 s o t { M with q := (L.take j).foldl (wstep (atE M.T.2) M.now) M.q } occ ∧ Turned F F' w4 w10, ⟨L.length, rfl, 0, F, rfl, by omega, h4, Turned.refl _ _⟩, ?_⟩
 rintro n us x w10 ⟨j, F', rfl, hj, hS, hT⟩
 have z10 := hT.mod.size
 have hF : ∀ i, F i → i < w.heap.size := fun i hi => h.lt hi
 have hrd10 : RdK w10 s5 3 (L.map clv) := hT.mod.rdK (by decide) hrd fun _ b hb hf => by
  have := (ho.own.lt hb).1
  have := hF b hf
  omega
 refine Br.mk (fun hb => ?_) (fun hb => ?_)
 ·simp only [decide_eq_true_eq] at hb
  obtain ⟨y, hy⟩ := get_lt (l := L) (i := j) (by omega)
  have oky := hok y (List.mem_of_getElem? hy)
  have hy' : (L.map clv)[j]? = some (clv y) := by rw [List.getElem?_map, hy]; rfl
  have htk : L.take (j + 1) = L.take j ++ [y] := by rw [List.take_add_one, hy]; rfl
  have hlost := wstep_lost (atE M.T.2) M.now (L.take j) M.q
  have hltk : (L.take j).length ≤ 7 := by rw [List.length_take]; omega
  generalize hqj : (L.take j).foldl (wstep (atE M.T.2) M.now) M.q = qj at *
  refine ⟨hrd10.inB (i := (j : Int)) (by decide) (by omega) hb, _, _, _, hrd10.loadL hy', fun w15 e15 w16 e16 => ?_⟩
  have x16 : Ext w10 w16 := ((Ext.rfl' _).of_alloc e15).of_setRow e16 (Nat.le_refl _)
  have z16 : w16.heap.size = w10.heap.size + 1 := by rw [e16, e15]; simp
  have hb16 : Row w16 w10.heap.size (clv y) tCe := by rw [e16]; exact Row.set (by rw [e15]; exact Row.new w10 [_, _, _] _) _
  clear e15 e16
  have xd := x16.tr (Ext.dr w16)
  have zd : w16.drew.heap.size = w16.heap.size := rfl
  have hS16 := hS.ext xd
  obtain ⟨g', m, qs, hq, hqok, ⟨sd', hr'⟩, hsub, hres⟩ := hS16.queue
  refine ⟨_, hr'.at 0 rfl, _, hr'.at 3 rfl, callV_mono' (hS16.tl.at oky) ?_⟩
  rintro e w19 ⟨rfl, x19⟩
  have z19 := x19.size
  have hr19 := hr'.ext x19
  have hb19 := (hb16.ext (Ext.dr w16)).ext x19
  have hd := delay_in (atE M.T.2 y)
  have wr : IntKind.wrap .i64 (M.now + delayK (atE M.T.2 y)) = M.now + delayK (atE M.T.2 y) := wrap_in (by unfold inI; omega)
  refine ⟨_, rfl, x19.heap (by omega), x19.heap (by omega), loadL1 (hr19.at 3 rfl), Lo.wv hb19, loadL1 (hr19.at 0 rfl), (Delay_spec (atE M.T.2 y) w19).mono ?_⟩
  rintro e w21 ⟨rfl, hw⟩
  subst hw
  refine ⟨_, rfl, rfl, rfl, loadL1 (hr19.at 3 rfl), Lo.wv hb19, loadL1 (hr19.at 0 rfl), ?_⟩
  rw [wr]
  refine (Q.Add_spec (hq.ext x19) hqok (by simp only at hlost ⊢; omega) y (M.now + delayK (atE M.T.2 y))).mono ?_
  rintro e w23 ⟨rfl, qs', hq', ht⟩
  have wk : IntKind.wrap .i64 ((j : Int) + 1) = ((j + 1 : Nat) : Int) := by rw [wrap_in (by unfold inI; omega)]; omega
  have ht' : Turned (Q.Foot g' m qs) (Q.Foot g' m qs') w16.drew w23 := (Turned.of_ext x19).trans ht
  obtain ⟨F2, hS2, hT2⟩ := hres hq' (hqok.add y _) ht'
  have hsF : ¬ Q.Foot g' m qs s := (hq).no_row hr' (by decide) (by decide)
  have hr23 := ht'.mod.row hr' hsF
  have nf : ∀ i, (w.heap.size ≤ i ∧ i < w4.heap.size ∨ w10.heap.size ≤ i) → i < w16.drew.heap.size → w23.heap[i]? = w21.heap[i]? := fun i h1 h2 => (hT2.mod.same i h2 (fun hf => by
   rcases h1 with ⟨h1, h1'⟩ | h1
   ·rcases hT.sub i hf with q | q
    ·have := hF i q; omega
    ·omega
   ·have := hS.lt hf; omega)).trans (x19.heap h2).symm
  refine ⟨_, rfl, nf _ (.inl (by omega)) (by omega), nf _ (.inr (by omega)) (by omega), loadL1 (hr23.at 3 rfl), n - 1, by omega, rfl, j + 1, F2, wk, by omega, ?_, (hT.trans (Turned.of_ext xd)).trans hT2⟩
  rw [htk, List.foldl_append, hqj]
  exact hS2
 ·simp only [decide_eq_false_iff_not] at hb
  rw [List.take_of_length_le (by omega)] at hS
  exact ⟨rfl, F', hS, (Turned.of_ext (x0.tr x4)).trans hT⟩
end
end Go.Proofs.YtjcnjlaelhdjeaaGreatDoor
namespace Go.Proofs.YtjcnjlaelhdjeaaGreatDoor
open Go Go.Vc Go.RowKit Go.Proofs Go.Chk Go.Runs Go.Code Go.Que Go.Flw
set_option maxRecDepth 100000
section
variable {F F' : Nat → Prop} {w w' : World} {s o t : Nat} {M M' : Sm} {occ : Value}
structure Sok (M : Sm) (n : Nat) : Prop where
 l : 0 ≤ M.q.lost ∧ M.q.lost ≤ n
 c : M.ch.length ≤ n
 now : 0 ≤ M.now ∧ M.now ≤ 1099511627776
 d : M.drops.length ≤ n
theorem sEdit_spec (h : SF F w s o t M occ) (c : Ce) (hc : wideC c) (b : Int) (hk : Sok M 800000) :
  Calls Tryz.prog n_sim_Sim_Edit #[.pointer (some ⟨s, 0, none⟩), cev c, .int .i64 b] w fun e w' => e = .returned (.int .i64 (setE M.T.2 c b).2) ∧ SmRes F w s o t (editM M c b) occ w' := by
 apply sim_Sim_Edit.vc
 intro w0 e0
 have x0 : Ext w w0.drew := ((Ext.rfl' _).of_alloc e0).tr (Ext.dr w0)
 have z0 : w0.drew.heap.size = w.heap.size + 1 := by show w0.heap.size = _; rw [e0]; simp
 have zd : w0.drew.heap.size = w0.heap.size := rfl
 clear e0
 have h0 := h.ext x0
 obtain ⟨g, sd, hr, -⟩ := h0.row
 obtain ⟨Fw, hW, hsub, hres⟩ := h0.world
 have hlc := hk.c
 have hll := hk.l
 refine ⟨_, (hr.at 1 rfl), (wSet_spec hW c hc.ok b (by omega)).mono ?_⟩
 rintro e w2 ⟨rfl, hw⟩
 obtain ⟨F2, h2, t2⟩ := hres hw
 have hF : ∀ {i}, w.heap.size ≤ i → i < w0.drew.heap.size → w2.heap[i]? = w0.drew.heap[i]? := fun h1 h3 => t2.mod.same _ h3 fun hf => by have := h.lt hf; omega
 unfold editM
 refine ⟨_, rfl, hF (Nat.le_refl _) (by omega), Br.mk (fun hb => ?_) (fun hb => ?_)⟩
 ·rw [if_pos (by simpa using hb)]
  refine (wake_spec h2 c hc (by simp only; omega) hk.now).mono ?_
  rintro e w4 ⟨rfl, F4, h4, t4⟩
  have hz := t2.mod.size
  have hnf : ¬ F2 w.heap.size := fun hf => by
   rcases t2.sub _ hf with q | q
   ·have := h.lt q; omega
   ·omega
  exact ⟨rfl, t4.mod.same _ (by omega) hnf, rfl, F4, h4, (Turned.of_ext x0).trans (t2.trans t4)⟩
 ·rw [if_neg (by simpa using hb)]
  exact ⟨rfl, F2, h2, (Turned.of_ext x0).trans t2⟩
end
end Go.Proofs.YtjcnjlaelhdjeaaGreatDoor
namespace Go.Proofs.YtjcnjlaelhdjeaaGreatDoor
open Go Go.Vc Go.RowKit Go.Proofs
set_option maxRecDepth 100000
set_option maxHeartbeats 8000000
set_option linter.unusedVariables false
end Go.Proofs.YtjcnjlaelhdjeaaGreatDoor
namespace Go.Proofs.YtjcnjlaelhdjeaaGreatDoor
open Go Go.Vc Go.RowKit Go.Proofs Go.Chk Go.Runs Go.Code Go.Flw
set_option maxRecDepth 100000
end Go.Proofs.YtjcnjlaelhdjeaaGreatDoor
namespace Go.Proofs.YtjcnjlaelhdjeaaGreatDoor
open Go Go.Vc Go.RowKit Go.Proofs Go.Chk Go.Runs Go.Code Go.Flw
set_option maxRecDepth 100000
end Go.Proofs.YtjcnjlaelhdjeaaGreatDoor
namespace Go.Proofs.YtjcnjlaelhdjeaaGreatDoor
open Go Go.Vc Go.RowKit Go.Proofs Go.Chk Go.Runs Go.Code Go.Que Go.Flw
set_option maxRecDepth 100000
section
variable {F F' : Nat → Prop} {w w' : World} {s o t : Nat} {M M' : Sm} {occ : Value} {O : Ce → Bool}
end
end Go.Proofs.YtjcnjlaelhdjeaaGreatDoor
namespace Go.Proofs.YtjcnjlaelhdjeaaGreatDoor
open Go Go.Vc Go.RowKit Go.Proofs Go.Chk Go.Runs Go.Code Go.Que Go.Flw
set_option maxRecDepth 100000
section
variable {F F' : Nat → Prop} {w w' : World} {s o t : Nat} {M M' : Sm} {occ : Value} {O : Ce → Bool}
end
end Go.Proofs.YtjcnjlaelhdjeaaGreatDoor
namespace Go.Proofs.YtjcnjlaelhdjeaaGreatDoor
open Go Go.Vc Go.RowKit Go.Proofs Go.Chk Go.Runs Go.Code Go.Que Go.Flw Go.Eng
set_option maxRecDepth 100000
abbrev tVec : TypeId := 73
abbrev bxv (b : Bx) : Value := .agg #[.int .i64 b.1.1, .int .i64 b.1.2.1, .int .i64 b.1.2.2, .int .i64 b.2.1, .int .i64 b.2.2.1, .int .i64 b.2.2.2]
theorem cutE (n : Int) : (if 140737488355328 < (if (-140737488355328) > n then (-140737488355328) else n) then 140737488355328 else (if (-140737488355328) > n then (-140737488355328) else n)) = cutF n := by
 unfold cutF
 repeat' split
 all_goals omega
theorem fCut_spec (n : Int) (w : World) : Calls Tryz.prog n_fixed_Cut #[.int .i64 n] w fun e w' => e = .returned (.int .i64 (cutF n)) ∧ w' = w := by
 apply fixed_Cut.vc
 exact ⟨by rw [cutE], rfl⟩
theorem fAdd_spec (a b : Int) (w : World) : Calls Tryz.prog n_fixed_Add #[.int .i64 a, .int .i64 b] w fun e w' => e = .returned (.int .i64 (addF a b)) ∧ w' = w := by
 apply fixed_Add.vc
 refine (fCut_spec a w).mono ?_
 rintro e w1 ⟨rfl, rfl⟩
 refine ⟨_, rfl, (fCut_spec b w1).mono ?_⟩
 rintro e w2 ⟨rfl, rfl⟩
 have h1 := cutF_in a
 have h2 := cutF_in b
 refine ⟨_, rfl, ?_⟩
 rw [wrap_in (by unfold inI; omega)]
 refine (fCut_spec _ w2).mono ?_
 rintro e w3 ⟨rfl, rfl⟩
 exact ⟨_, rfl, rfl, rfl⟩
theorem fSub_spec (a b : Int) (w : World) : Calls Tryz.prog n_fixed_Sub #[.int .i64 a, .int .i64 b] w fun e w' => e = .returned (.int .i64 (subF a b)) ∧ w' = w := by
 apply fixed_Sub.vc
 refine (fCut_spec a w).mono ?_
 rintro e w1 ⟨rfl, rfl⟩
 refine ⟨_, rfl, (fCut_spec b w1).mono ?_⟩
 rintro e w2 ⟨rfl, rfl⟩
 have h1 := cutF_in a
 have h2 := cutF_in b
 refine ⟨_, rfl, ?_⟩
 rw [wrap_in (by unfold inI; omega)]
 refine (fCut_spec _ w2).mono ?_
 rintro e w3 ⟨rfl, rfl⟩
 exact ⟨_, rfl, rfl, rfl⟩
theorem p16 : (2 ^ (min (16 : Int).toNat 64) : Int) = 65536 := by decide
theorem Of_spec (n : Int) (w : World) : Calls Tryz.prog n_fixed_Of #[.int .i64 n] w fun e w' => e = .returned (.int .i64 (ofF n)) ∧ w' = w := by
 apply fixed_Of.vc
 unfold fixed_Of.pre
 rw [p16]
 have e : (if 2147483648 < (if (-2147483648) > n then (-2147483648) else n) then 2147483648 else (if (-2147483648) > n then (-2147483648) else n)) = min (max n (-2147483648)) 2147483648 := by
  repeat' split
  all_goals omega
 rw [e, wrap_in (by unfold inI; omega)]
 exact ⟨rfl, rfl⟩
theorem one_pp (p q r : Option Addr) : One [.pointer p, .pointer q, .pointer r] := by
 intro v hv
 simp at hv
 rcases hv with rfl | rfl | rfl <;> rfl
theorem parts_spec (a : Addr) (w : World) : Calls Tryz.prog n_vec_parts #[.pointer (some a)] w fun e w' => e = .returned (.agg #[.pointer (padd (some a) 0), .pointer (padd (some a) 1), .pointer (padd (some a) 2)]) ∧ Ext w w' := by
 apply vec_parts.vc
 intro w0 e0
 have x0 : Ext w w0.drew := ((Ext.rfl' _).of_alloc e0).drew
 have hr : Row w0.drew w.heap.size [.pointer none, .pointer none, .pointer none] 311 := by
  rw [e0]
  exact (Row.new w [_, _, _] _).ext (Ext.dr _)
 clear e0
 refine ⟨⟨rfl, hr.wr (by simp)⟩, fun w1 e1 => ?_⟩
 rw [hr.setP (vs := [.pointer (padd (some a) 0), .pointer (padd (some a) 1), .pointer (padd (some a) 2)]) (by simp) (one_pp _ _ _), putCells_all (by simp)] at e1
 have hr1 : Row w1 w.heap.size [.pointer (padd (some a) 0), .pointer (padd (some a) 1), .pointer (padd (some a) 2)] 311 := by rw [e1]; exact hr.set _
 exact ⟨_, _, _, Lo.wv hr1, rfl, x0.of_setRow e1 (Nat.le_refl _)⟩
def mapL (f : Int → Int → Int) (v : Ce) (k : Nat) : List Value := [.int .i64 (if 0 < k then f 0 v.1 else v.1), .int .i64 (if 1 < k then f 1 v.2.1 else v.2.1), .int .i64 (if 2 < k then f 2 v.2.2 else v.2.2)]
theorem each_spec (f : Int → Int → Int) (v : Ce) (fv : Value) (w : World) (hf : ∀ w', Ext w w' → ∀ i x : Int, 0 ≤ i → i < 3 → callV Tryz.prog fv [.int .i64 i, .int .i64 x] w' fun e w'' => e = .returned (.int .i64 (f i x)) ∧ Ext w' w'') :
  Calls Tryz.prog n_vec_each #[cev v, fv] w fun e w' => e = .returned (cev (mapV f v)) ∧ Ext w w' := by
 apply vec_each.vc
 intro w0 e0 w1 e1
 have x0 : Ext w w0 := (Ext.rfl' _).of_alloc e0
 have z0 : w0.heap.size = w.heap.size + 1 := by rw [e0]; simp
 have r0 : Row w0 w.heap.size (mapL f v 0) tVec := by rw [e0]; exact Row.new w [_, _, _] _
 have x1 : Ext w0 w1 := (Ext.rfl' _).of_alloc e1
 have z1 : w1.heap.size = w0.heap.size + 1 := by rw [e1]; simp
 clear e0 e1
 refine (parts_spec ⟨w.heap.size, 0, none⟩ w1).mono ?_
 rintro e w2 ⟨rfl, x2⟩
 have z2 := x2.size
 refine ⟨_, _, _, rfl, x2.heap (by omega), fun n x wr => ∃ k : Nat, x = k ∧ k + n = 3 ∧ Row wr w.heap.size (mapL f v k) tVec ∧ Ext w wr ∧ w2.heap.size ≤ wr.heap.size, ⟨3, rfl, 0, rfl, rfl, r0.ext (x1.tr x2), x0.tr (x1.tr x2), Nat.le_refl _⟩, ?_⟩
 rintro n us x wr ⟨k, rfl, hk, hr, xr, zr⟩
 have hl : ∀ k, (mapL f v k).length = 3 := fun _ => rfl
 have wk : IntKind.wrap .i64 ((k : Int) + 1) = ((k + 1 : Nat) : Int) := by rw [wrap_in (by unfold inI; omega)]; omega
 refine Br.mk (fun hb => ?_) (fun hb => ?_)
 ·simp only [decide_eq_true_eq] at hb
  have hk3 : k = 0 ∨ k = 1 ∨ k = 2 := by omega
  have step : ∀ (j : Nat) (y : Int), k = j → j < 3 → (mapL f v j)[j]? = some (.int .i64 y) → putCells (mapL f v j) j [.int .i64 (f j y)] = mapL f v (j + 1) →
    AndL (nnC (padd (some ⟨w.heap.size, 0, none⟩) j)) (∃ (x13 : Int), ld wr (padd (some ⟨w.heap.size, 0, none⟩) j) = some (.int .i64 x13) ∧
     callV Tryz.prog fv [.int .i64 (k : Int), .int .i64 x13] wr (fun e w14 => ∃ (x15 : Int), e = .returned (.int .i64 x15) ∧ w14.heap[w0.heap.size]? = wr.heap[w0.heap.size]? ∧
     AndL (nnC (padd (some ⟨w.heap.size, 0, none⟩) j)) (((padd (some ⟨w.heap.size, 0, none⟩) j).isSome = true ∧ Wr w14 (padd (some ⟨w.heap.size, 0, none⟩) j) 1) ∧ pblk (padd (some ⟨w.heap.size, 0, none⟩) j) ≠ some w0.heap.size ∧ (∀ w16 : World, w16 = setP w14 (padd (some ⟨w.heap.size, 0, none⟩) j) [.int .i64 x15] →
     ∃ n11, n11 < n ∧ ([.int .i64 0, .int .i64 0, .int .i64 0] : List Value) = [.int .i64 0, .int .i64 0, .int .i64 0] ∧ ∃ k' : Nat, IntKind.wrap .i64 ((k : Int) + 1) = k' ∧ k' + n11 = 3 ∧ Row w16 w.heap.size (mapL f v k') tVec ∧ Ext w w16 ∧ w2.heap.size ≤ w16.heap.size)))) := by
   intro j y hj h3 h1 h2
   subst hj
   refine nnP rfl ⟨y, hr.at k h1, callV_mono' (hf wr xr k y (by omega) (by omega)) ?_⟩
   rintro e w14 ⟨rfl, x14⟩
   have z14 := x14.size
   have hr14 := hr.ext x14
   obtain ⟨p1, p2⟩ := hr14.put1 (j := k) (v := .int .i64 (f k y)) (by rw [hl]; exact h3) rfl
   refine ⟨_, rfl, x14.heap (by omega), nnP rfl ⟨⟨rfl, p1⟩, ?_, fun w16 e16 => ?_⟩⟩
   ·rw [pblk_padd]
    intro q
    have q : w.heap.size = w0.heap.size := by simpa [pblk] using q
    omega
   obtain ⟨q1, q2⟩ := p2 w16 e16
   rw [h2] at q1
   have z16 := q2.size
   exact ⟨n - 1, by omega, rfl, k + 1, wk, by omega, q1, q2.ext (xr.tr x14) fun i hi => by omega, by omega⟩
  refine ⟨⟨by omega, by omega⟩, ?_⟩
  rcases hk3 with h | h | h
  ·exact ⟨_, by rw [h]; rfl, step 0 v.1 h (by decide) rfl rfl⟩
  ·exact ⟨_, by rw [h]; rfl, step 1 v.2.1 h (by decide) rfl rfl⟩
  ·exact ⟨_, by rw [h]; rfl, step 2 v.2.2 h (by decide) rfl rfl⟩
 ·simp only [decide_eq_false_iff_not] at hb
  have hk3 : k = 3 := by omega
  subst hk3
  exact ⟨_, _, _, Lo.wv hr, fun w20 e20 => ⟨rfl, xr.of_setRow e20 (by omega)⟩⟩
theorem Axis_spec (v : Ce) (i : Int) (w : World) : Calls Tryz.prog n_vec_Axis #[cev v, .int .i64 i] w fun e w' => e = .returned (.int .i64 (axK v i)) ∧ Ext w w' := by
 apply vec_Axis.vc
 intro w0 e0
 have x0 : Ext w w0 := (Ext.rfl' _).of_alloc e0
 have r0 : Row w0 w.heap.size (clv v) tVec := by rw [e0]; exact Row.new w [_, _, _] _
 clear e0
 refine Br.mk (fun h => ?_) (fun h => Br.mk (fun h2 => ?_) (fun h2 => (parts_spec ⟨w.heap.size, 0, none⟩ w0).mono ?_))
 ·simp only [decide_eq_true_eq] at h
  exact ⟨by unfold axK; rw [if_neg (by omega), if_neg (by omega), if_neg (by omega)], x0⟩
 ·simp only [decide_eq_true_eq, ge_iff_le] at h2
  exact ⟨by unfold axK; rw [if_neg (by omega), if_neg (by omega), if_neg (by omega)], x0⟩
 ·simp only [decide_eq_false_iff_not, ge_iff_le] at h h2
  rintro e w1 ⟨rfl, x1⟩
  have hr := r0.ext x1
  refine ⟨_, _, _, rfl, ⟨by omega, by omega⟩, ?_⟩
  have h3 : i = 0 ∨ i = 1 ∨ i = 2 := by omega
  rcases h3 with rfl | rfl | rfl
  ·exact ⟨_, rfl, nnP rfl ⟨_, hr.at 0 rfl, rfl, x0.tr x1⟩⟩
  ·exact ⟨_, rfl, nnP rfl ⟨_, hr.at 1 rfl, rfl, x0.tr x1⟩⟩
  ·exact ⟨_, rfl, nnP rfl ⟨_, hr.at 2 rfl, rfl, x0.tr x1⟩⟩
theorem Add1_spec (b : Ce) (i n : Int) {g : Nat} {w : World} (hr : Row w g (clv b) tVec) : Calls Tryz.prog n_vec_Add_1 #[.int .i64 i, .int .i64 n, .pointer (some ⟨g, 0, none⟩)] w fun e w' => e = .returned (.int .i64 (addF n (axK b i))) ∧ Ext w w' := by
 apply vec_Add_1.vc
 refine ⟨_, _, _, Lo.wv hr, (Axis_spec b i w).mono ?_⟩
 rintro e w1 ⟨rfl, x1⟩
 refine ⟨_, rfl, (fAdd_spec n _ w1).mono ?_⟩
 rintro e w2 ⟨rfl, rfl⟩
 exact ⟨_, rfl, rfl, x1⟩
theorem Sub1_spec (b : Ce) (i n : Int) {g : Nat} {w : World} (hr : Row w g (clv b) tVec) : Calls Tryz.prog n_vec_Sub_1 #[.int .i64 i, .int .i64 n, .pointer (some ⟨g, 0, none⟩)] w fun e w' => e = .returned (.int .i64 (subF n (axK b i))) ∧ Ext w w' := by
 apply vec_Sub_1.vc
 refine ⟨_, _, _, Lo.wv hr, (Axis_spec b i w).mono ?_⟩
 rintro e w1 ⟨rfl, x1⟩
 refine ⟨_, rfl, (fSub_spec n _ w1).mono ?_⟩
 rintro e w2 ⟨rfl, rfl⟩
 exact ⟨_, rfl, rfl, x1⟩
theorem vAdd_spec (a b : Ce) (w : World) : Calls Tryz.prog n_vec_Add #[cev a, cev b] w fun e w' => e = .returned (cev (addV a b)) ∧ Ext w w' := by
 apply vec_Add.vc
 intro w0 e0 w1 e1 w2 e2
 have x0 : Ext w w0 := (Ext.rfl' _).of_alloc e0
 have z0 : w0.heap.size = w.heap.size + 1 := by rw [e0]; simp
 have x1 : Ext w0 w1 := (Ext.rfl' _).of_alloc e1
 have z1 : w1.heap.size = w0.heap.size + 1 := by rw [e1]; simp
 have r1 : Row w1 w0.heap.size (clv b) tVec := by rw [e1]; exact Row.new w0 [_, _, _] _
 have x2 : Ext w1 w2 := (Ext.rfl' _).of_alloc e2
 have z2 : w2.heap.size = w1.heap.size + 1 := by rw [e2]; simp
 clear e0 e1 e2
 have x02 := x0.tr (x1.tr x2)
 refine (each_spec (fun i n => addF n (axK b i)) a (.func (.func 267) #[] #[.pointer (some ⟨w0.heap.size, 0, none⟩)]) w2 fun w' x' i x _ _ => callV_of (by kernel_rfl) rfl (Add1_spec b i x ((r1.ext x2).ext x'))).mono ?_
 rintro e w3 ⟨rfl, x3⟩
 have z3 := x3.size
 exact ⟨_, _, _, rfl, x3.heap (by omega), x3.heap (by omega), fun w7 e7 => ⟨rfl, (x02.tr x3).of_setRow e7 (by omega)⟩⟩
theorem vSub_spec (a b : Ce) (w : World) : Calls Tryz.prog n_vec_Sub #[cev a, cev b] w fun e w' => e = .returned (cev (subV a b)) ∧ Ext w w' := by
 apply vec_Sub.vc
 intro w0 e0 w1 e1 w2 e2
 have x0 : Ext w w0 := (Ext.rfl' _).of_alloc e0
 have z0 : w0.heap.size = w.heap.size + 1 := by rw [e0]; simp
 have x1 : Ext w0 w1 := (Ext.rfl' _).of_alloc e1
 have z1 : w1.heap.size = w0.heap.size + 1 := by rw [e1]; simp
 have r1 : Row w1 w0.heap.size (clv b) tVec := by rw [e1]; exact Row.new w0 [_, _, _] _
 have x2 : Ext w1 w2 := (Ext.rfl' _).of_alloc e2
 have z2 : w2.heap.size = w1.heap.size + 1 := by rw [e2]; simp
 clear e0 e1 e2
 have x02 := x0.tr (x1.tr x2)
 refine (each_spec (fun i n => subF n (axK b i)) a (.func (.func 269) #[] #[.pointer (some ⟨w0.heap.size, 0, none⟩)]) w2 fun w' x' i x _ _ => callV_of (by kernel_rfl) rfl (Sub1_spec b i x ((r1.ext x2).ext x'))).mono ?_
 rintro e w3 ⟨rfl, x3⟩
 have z3 := x3.size
 exact ⟨_, _, _, rfl, x3.heap (by omega), x3.heap (by omega), fun w7 e7 => ⟨rfl, (x02.tr x3).of_setRow e7 (by omega)⟩⟩
end Go.Proofs.YtjcnjlaelhdjeaaGreatDoor
namespace Go.Proofs.YtjcnjlaelhdjeaaGreatDoor
open Go Go.Vc Go.RowKit Go.Proofs Go.Chk Go.Runs Go.Code Go.Que Go.Flw Go.Eng
set_option maxRecDepth 100000
abbrev tBox : TypeId := 202
abbrev bxL (b : Bx) : List Value := [.int .i64 b.1.1, .int .i64 b.1.2.1, .int .i64 b.1.2.2, .int .i64 b.2.1, .int .i64 b.2.2.1, .int .i64 b.2.2.2]
theorem ld1 {w : World} {g o : Nat} {cs : List Value} {τ : TypeId} (hr : Row w g cs τ) {v : Value} (h : cs[o]? = some v) : LoadL w (some ⟨g, o, none⟩) 0 [v] := hr.loadL (o := o) (fun j hj => by
 match j, hj with
 | 0, _ => exact h)
theorem ld3 {w : World} {g o : Nat} {cs : List Value} {τ : TypeId} (hr : Row w g cs τ) {x y z : Value} (h : cs[o]? = some x) (h1 : cs[o + 1]? = some y) (h2 : cs[o + 2]? = some z) : LoadL w (some ⟨g, o, none⟩) 0 [x, y, z] := hr.loadL (o := o) (fun j hj => by
 match j, hj with
 | 0, _ => exact h
 | 1, _ => exact h1
 | 2, _ => exact h2)
theorem halfE {a : Int} (h : inI a) : IntKind.wrap .i64 (Int.tdiv (if 0 > a then 0 else a) 2) = max a 0 / 2 := by
 have e : (if 0 > a then 0 else a) = max a 0 := by split <;> omega
 unfold inI at h
 rw [e, Int.tdiv_eq_ediv_of_nonneg (by omega), wrap_in (by unfold inI; omega)]
theorem maxE (a : Int) : (if 0 > a then 0 else a) = max a 0 := by split <;> omega
theorem Stand_spec (foot : Ce) (wd h : Int) (hw : inI wd) (w : World) : Calls Tryz.prog n_vec_Stand #[cev foot, .int .i64 wd, .int .i64 h] w fun e w' => e = .returned (bxv (standK foot wd h)) ∧ Ext w w' := by
 apply vec_Stand.vc
 unfold vec_Stand.pre
 rw [halfE hw, maxE h]
 intro w0 e0 w1 e1 w2 e2 w3 e3
 have x0 : Ext w w0 := (Ext.rfl' _).of_alloc e0
 have z0 : w0.heap.size = w.heap.size + 1 := by rw [e0]; simp
 have r0 : Row w0 w.heap.size (clv foot) tVec := by rw [e0]; exact Row.new w [_, _, _] _
 have x1 : Ext w0 w1 := (Ext.rfl' _).of_alloc e1
 have z1 : w1.heap.size = w0.heap.size + 1 := by rw [e1]; simp
 have x3 : Ext w1 w3 := ((Ext.rfl' _).of_alloc e2).of_setRow e3 (Nat.le_refl _)
 have z3 : w3.heap.size = w1.heap.size + 1 := by rw [e3, e2]; simp
 clear e0 e1 e2 e3
 have x13 := x1.tr (x3.tr (Ext.dr w3))
 have zd : w3.drew.heap.size = w3.heap.size := rfl
 constructor
 all_goals
  refine (vSub_spec foot (max wd 0 / 2, 0, max wd 0 / 2) w3.drew).mono ?_
  rintro e w4 ⟨rfl, x4⟩
  have z4 := x4.size
  refine ⟨_, _, _, rfl, x4.heap (by omega), x4.heap (by omega), x4.heap (by omega), Lo.wv (r0.ext (x13.tr x4)), (vAdd_spec foot (max wd 0 / 2, max h 0, max wd 0 / 2) w4).mono ?_⟩
  rintro e w8 ⟨rfl, x8⟩
  have z8 := x8.size
  exact ⟨_, _, _, rfl, x8.heap (by omega), x8.heap (by omega), x8.heap (by omega), fun w12 e12 => ⟨rfl, (x0.tr (x13.tr (x4.tr x8))).of_setRow e12 (by omega)⟩⟩
structure Bdy where
 foot : Ce
 speed : Ce
 wd : Int
 ht : Int
 stands : Bool
abbrev bdL (b : Bdy) : List Value := [.int .i64 b.foot.1, .int .i64 b.foot.2.1, .int .i64 b.foot.2.2, .int .i64 b.speed.1, .int .i64 b.speed.2.1, .int .i64 b.speed.2.2, .int .i64 b.wd, .int .i64 b.ht, .bool b.stands]
abbrev bdv (b : Bdy) : Value := .agg #[.int .i64 b.foot.1, .int .i64 b.foot.2.1, .int .i64 b.foot.2.2, .int .i64 b.speed.1, .int .i64 b.speed.2.1, .int .i64 b.speed.2.2, .int .i64 b.wd, .int .i64 b.ht, .bool b.stands]
def Bdy.box (b : Bdy) : Bx := standK b.foot b.wd b.ht
theorem bBox_spec (b : Bdy) (hw : inI b.wd) (w : World) : Calls Tryz.prog n_body_Body_Box #[bdv b] w fun e w' => e = .returned (bxv b.box) ∧ Ext w w' := by
 apply body_Body_Box.vc
 intro w0 e0 w1 e1
 have x1 : Ext w w1 := ((Ext.rfl' _).of_alloc e0).of_alloc e1
 have z0 : w0.heap.size = w.heap.size + 1 := by rw [e0]; simp
 have z1 : w1.heap.size = w0.heap.size + 1 := by rw [e1]; simp
 clear e0 e1
 refine (Stand_spec b.foot b.wd b.ht hw w1).mono ?_
 rintro e w2 ⟨rfl, x2⟩
 have z2 := x2.size
 exact ⟨_, _, _, _, _, _, rfl, x2.heap (by omega), x2.heap (by omega), fun w9 e9 => ⟨rfl, (x1.tr x2).of_setRow e9 (by omega)⟩⟩
end Go.Proofs.YtjcnjlaelhdjeaaGreatDoor
namespace Go.Proofs.YtjcnjlaelhdjeaaGreatDoor
open Go Go.Vc Go.RowKit Go.Proofs Go.Chk Go.Runs Go.Code Go.Que Go.Flw Go.Eng
set_option maxRecDepth 100000
end Go.Proofs.YtjcnjlaelhdjeaaGreatDoor
namespace Go.Proofs.YtjcnjlaelhdjeaaGreatDoor
open Go Go.Vc Go.RowKit Go.Proofs Go.Chk Go.Runs Go.Code Go.Que Go.Flw Go.Eng
set_option maxRecDepth 100000
end Go.Proofs.YtjcnjlaelhdjeaaGreatDoor
namespace Go.Proofs.YtjcnjlaelhdjeaaGreatDoor
open Go Go.Vc Go.RowKit Go.Proofs Go.Chk Go.Runs Go.Code Go.Que Go.Flw Go.Eng
set_option maxRecDepth 100000
abbrev tEng : TypeId := 64
abbrev tLfe : TypeId := 103
abbrev Lfe := Bdy × (Int × Int × Bool)
abbrev lfL (x : Lfe) : List Value := [.int .i64 x.1.foot.1, .int .i64 x.1.foot.2.1, .int .i64 x.1.foot.2.2, .int .i64 x.1.speed.1, .int .i64 x.1.speed.2.1, .int .i64 x.1.speed.2.2, .int .i64 x.1.wd, .int .i64 x.1.ht, .bool x.1.stands, .int .i64 x.2.1, .int .i64 x.2.2.1, .bool x.2.2.2]
abbrev pA (a : Option Nat) : Value := .pointer (a.map fun b => ⟨b, 0, none⟩)
structure EL (w : World) (av : List (Option Nat)) (L : List (Option Lfe)) : Prop where
 n : av.length = 16
 m : L.length = 16
 s : ∀ (i a : Nat), av[i]? = some (some a) → ∃ x, L[i]? = some (some x) ∧ Row w a (lfL x) tLfe
 z : ∀ i : Nat, av[i]? = some none → L[i]? = some none
 d : ∀ (i j a : Nat), av[i]? = some (some a) → av[j]? = some (some a) → i = j
def EF (F : Nat → Prop) (w : World) (g s o t : Nat) (M : Sm) (occ : Value) (L : List (Option Lfe)) : Prop :=
 ∃ (Fs : Nat → Prop) (av : List (Option Nat)), Row w g (.pointer (some ⟨s, 0, none⟩) :: av.map pA) tEng ∧ SF Fs w s o t M occ ∧ EL w av L ∧ F = fun i => i = g ∨ Fs i ∨ some i ∈ av
abbrev ERes (F : Nat → Prop) (w : World) (g s o t : Nat) (M : Sm) (occ : Value) (L : List (Option Lfe)) (w' : World) : Prop := ∃ F', EF F' w' g s o t M occ L ∧ Turned F F' w w'
theorem ode : (offT tEng ∧ tEng ≠ tWorld ∧ tEng ≠ tChg ∧ tEng ≠ tSim ∧ tEng ≠ Q.tQueue ∧ tEng ≠ Q.tItem ∧ tEng ≠ tCe) ∧ (offT tLfe ∧ tLfe ≠ tWorld ∧ tLfe ≠ tChg ∧ tLfe ≠ tSim ∧ tLfe ≠ Q.tQueue ∧ tLfe ≠ Q.tItem ∧ tLfe ≠ tCe) ∧ tEng ≠ tLfe := by decide
theorem mem_at {av : List (Option Nat)} {a : Nat} (h : some a ∈ av) : ∃ i : Nat, av[i]? = some (some a) := List.mem_iff_getElem?.1 h
section
variable {F F' : Nat → Prop} {w w' : World} {g s o t : Nat} {M M' : Sm} {occ : Value} {L : List (Option Lfe)}
theorem EL.same {av : List (Option Nat)} (h : EL w av L) (hk : ∀ a, some a ∈ av → w'.heap[a]? = w.heap[a]?) : EL w' av L :=
 ⟨h.n, h.m, fun i a hi => by
  obtain ⟨x, h1, h2⟩ := h.s i a hi
  exact ⟨x, h1, h2.same (hk a (List.mem_of_getElem? hi))⟩, h.z, h.d⟩
theorem EL.lt {av : List (Option Nat)} (h : EL w av L) {a : Nat} (ha : some a ∈ av) : a < w.heap.size := by
 obtain ⟨i, hi⟩ := mem_at ha
 obtain ⟨x, -, h2⟩ := h.s i a hi
 exact h2.lt
theorem EF.lt (h : EF F w g s o t M occ L) {i : Nat} (hi : F i) : i < w.heap.size := by
 obtain ⟨Fs, av, h1, h2, h3, rfl⟩ := h
 rcases hi with rfl | hi | hi
 ·exact h1.lt
 ·exact h2.lt hi
 ·exact h3.lt hi
theorem EF.same (h : EF F w g s o t M occ L) (hk : ∀ i, F i → w'.heap[i]? = w.heap[i]?) : EF F w' g s o t M occ L := by
 obtain ⟨Fs, av, h1, h2, h3, rfl⟩ := h
 exact ⟨Fs, av, h1.same (hk _ (.inl rfl)), h2.same fun i hi => hk i (.inr (.inl hi)), h3.same fun a ha => hk a (.inr (.inr ha)), rfl⟩
theorem EF.ext (h : EF F w g s o t M occ L) (x : Ext w w') : EF F w' g s o t M occ L := h.same fun _ hi => x.heap (h.lt hi)
theorem EF.sim (h : EF F w g s o t M occ L) : ∃ Fs, SF Fs w s o t M occ ∧ Vc.ld w (padd (some ⟨g, 0, none⟩) 0) = some (.pointer (some ⟨s, 0, none⟩)) ∧ (∀ i, Fs i → F i) ∧ ∀ {w' : World} {M' : Sm} {occ' : Value}, SmRes Fs w s o t M' occ' w' → ERes F w g s o t M' occ' L w' := by
 obtain ⟨Fs, av, h1, h2, h3, rfl⟩ := h
 refine ⟨Fs, h2, h1.at 0 rfl, fun i hi => .inr (.inl hi), ?_⟩
 rintro w' M' occ' ⟨F', h', ht⟩
 have ng : ¬ Fs g := h2.no_row2 h1 ode.1.1 ode.1.2.1 ode.1.2.2.1 ode.1.2.2.2.1 ode.1.2.2.2.2.1 ode.1.2.2.2.2.2.1 ode.1.2.2.2.2.2.2
 have na : ∀ a, some a ∈ av → ¬ Fs a := fun a ha => by
  obtain ⟨i, hi⟩ := mem_at ha
  obtain ⟨x, -, hr⟩ := h3.s i a hi
  exact h2.no_row2 hr ode.2.1.1 ode.2.1.2.1 ode.2.1.2.2.1 ode.2.1.2.2.2.1 ode.2.1.2.2.2.2.1 ode.2.1.2.2.2.2.2.1 ode.2.1.2.2.2.2.2.2
 refine ⟨_, ⟨F', av, ht.mod.row h1 ng, h', h3.same fun a ha => ht.mod.same a (h3.lt ha) (na a ha), rfl⟩, ht.mod.mono fun i _ hi => .inr (.inl hi), fun i hi => ?_⟩
 rcases hi with hi | hi | hi
 ·exact .inl (.inl hi)
 ·exact (ht.sub i hi).imp (fun q => .inr (.inl q)) id
 ·exact .inl (.inr (.inr hi))
theorem EF.row (h : EF F w g s o t M occ L) : ∃ av, Row w g (.pointer (some ⟨s, 0, none⟩) :: av.map pA) tEng ∧ EL w av L ∧ F g ∧ (∀ a, some a ∈ av → F a) ∧ ∀ {w' : World} {av' : List (Option Nat)} {L' : List (Option Lfe)}, Mod (fun i => i = g ∨ some i ∈ av) w w' → Row w' g (.pointer (some ⟨s, 0, none⟩) :: av'.map pA) tEng → EL w' av' L' → (∀ a, some a ∈ av' → some a ∈ av ∨ w.heap.size ≤ a) → ERes F w g s o t M occ L' w' := by
 obtain ⟨Fs, av, h1, h2, h3, rfl⟩ := h
 refine ⟨av, h1, h3, .inl rfl, fun a ha => .inr (.inr ha), ?_⟩
 intro w' av' L' hm hr he hsub
 have ng : ¬ Fs g := h2.no_row2 h1 ode.1.1 ode.1.2.1 ode.1.2.2.1 ode.1.2.2.2.1 ode.1.2.2.2.2.1 ode.1.2.2.2.2.2.1 ode.1.2.2.2.2.2.2
 have na : ∀ a, some a ∈ av → ¬ Fs a := fun a ha => by
  obtain ⟨i, hi⟩ := mem_at ha
  obtain ⟨x, -, hr⟩ := h3.s i a hi
  exact h2.no_row2 hr ode.2.1.1 ode.2.1.2.1 ode.2.1.2.2.1 ode.2.1.2.2.2.1 ode.2.1.2.2.2.2.1 ode.2.1.2.2.2.2.2.1 ode.2.1.2.2.2.2.2.2
 refine ⟨_, ⟨Fs, av', hr, h2.same fun i hi => hm.same i (h2.lt hi) fun q => ?_, he, rfl⟩, hm.mono fun i _ hi => hi.elim .inl fun q => .inr (.inr q), fun i hi => ?_⟩
 ·rcases q with rfl | q
  ·exact ng hi
  ·exact na i q hi
 ·rcases hi with hi | hi | hi
  ·exact .inl (.inl hi)
  ·exact .inl (.inr (.inl hi))
  ·exact (hsub i hi).imp (fun q => .inr (.inr q)) id
theorem EF.tl (h : EF F w g s o t M occ L) : Tl (.func (.func n_table_Table_At) #[.pointer (some ⟨t, 0, none⟩)] #[]) (atE M.T.2) w := by
 obtain ⟨Fs, h1, -, -⟩ := h.sim
 exact h1.tl
end
end Go.Proofs.YtjcnjlaelhdjeaaGreatDoor
namespace Go.Proofs.YtjcnjlaelhdjeaaGreatDoor
open Go Go.Vc Go.RowKit Go.Proofs Go.Chk Go.Runs Go.Code Go.Que Go.Flw Go.Eng
set_option maxRecDepth 100000
theorem one_at {w : World} {g : Nat} {p : Value} {av : List (Option Nat)} {τ : TypeId} (hr : Row w g (p :: av.map pA) τ) {k : Nat} {a : Option Nat} (ha : av[k]? = some a) : Vc.ld w (padd (padd (some ⟨g, 0, none⟩) 1) (((k : Nat) : Int).toNat * 1)) = some (pA a) := by
 rw [padd_padd, Int.toNat_natCast, Nat.mul_one]
 refine hr.at (1 + k) ?_
 rw [Nat.add_comm, List.getElem?_cons_succ, List.getElem?_map, ha]
 rfl
section
variable {F F' : Nat → Prop} {w w' : World} {g s o t : Nat} {M M' : Sm} {occ : Value} {L : List (Option Lfe)}
theorem EF.res (h : EF F w g s o t M occ L) (x : Ext w w') : ERes F w g s o t M occ L w' := ⟨F, h.ext x, Turned.of_ext x⟩
end
end Go.Proofs.YtjcnjlaelhdjeaaGreatDoor
namespace Go.Proofs.YtjcnjlaelhdjeaaGreatDoor
open Go Go.Vc Go.RowKit Go.Proofs Go.Chk Go.Runs Go.Code Go.Que Go.Flw Go.Eng
set_option maxRecDepth 100000
section
variable {F F' : Nat → Prop} {w w' : World} {g s o t : Nat} {M M' : Sm} {occ : Value} {L : List (Option Lfe)}
theorem at_spec {p : Value} {av : List (Option Nat)} {τ : TypeId} (hr : Row w g (p :: av.map pA) τ) (hn : av.length = 16) (n : Int) :
  Calls Tryz.prog n_engine_Engine_at #[.pointer (some ⟨g, 0, none⟩), .int .i64 n] w fun e w' => ∃ a : Option Nat, e = .returned (pA a) ∧ w' = w ∧ ((∃ k : Nat, n = k ∧ k < 16 ∧ av[k]? = some a) ∨ ¬ (0 ≤ n ∧ n < 16) ∧ a = none) := by
 apply engine_Engine_at.vc
 refine Br.mk (fun h => ⟨none, rfl, rfl, .inr ⟨?_, rfl⟩⟩) (fun h => Br.mk (fun h2 => ⟨none, rfl, rfl, .inr ⟨?_, rfl⟩⟩) (fun h2 => ?_))
 ·have h : n < 0 := by simpa using h
  omega
 ·have h2 : n ≥ 16 := by simpa using h2
  omega
 ·have h : ¬ n < 0 := by simpa using h
  have h2 : ¬ n ≥ 16 := by simpa using h2
  obtain ⟨k, rfl⟩ : ∃ k : Nat, n = k := ⟨n.toNat, by omega⟩
  obtain ⟨a, ha⟩ := get_lt (l := av) (i := k) (by omega)
  exact ⟨by omega, by omega, _, one_at hr ha, a, rfl, rfl, .inl ⟨k, rfl, by omega, ha⟩⟩
def lifeK (L : List (Option Lfe)) (n : Int) : Option Lfe := if 0 ≤ n then (L[n.toNat]?).join else none
theorem EL.life {av : List (Option Nat)} (h : EL w av L) {k : Nat} {a : Option Nat} (ha : av[k]? = some a) : (lifeK L k).isNone = a.isNone := by
 unfold lifeK
 rw [if_pos (by omega), Int.toNat_natCast]
 cases a with
 | none => rw [h.z k ha]; rfl
 | some a =>
   obtain ⟨x, hx, -⟩ := h.s k a ha
   rw [hx]
   rfl
theorem lifeK_out (hL : L.length = 16) {n : Int} (h : ¬ (0 ≤ n ∧ n < 16)) : lifeK L n = none := by
 unfold lifeK
 split
 ·rw [List.getElem?_eq_none (by omega)]
  rfl
 ·rfl
def liveK (L : List (Option Lfe)) : List Int := ((List.range 16).filter fun i => (lifeK L (i : Nat)).isSome).map fun i : Nat => (i : Int)
theorem sixteen {α : Type} {l : List α} (h : l.length = 16) : ∃ a b c d e f g h i j k m n o p q, l = [a, b, c, d, e, f, g, h, i, j, k, m, n, o, p, q] := by
 match l, h with
 | [a, b, c, d, e, f, g, h, i, j, k, m, n, o, p, q], _ => exact ⟨a, b, c, d, e, f, g, h, i, j, k, m, n, o, p, q, rfl⟩
set_option maxHeartbeats 1000000 in
theorem Live_spec (h : EF F w g s o t M occ L) : Calls Tryz.prog n_engine_Engine_Live #[.pointer (some ⟨g, 0, none⟩)] w fun e w' => ∃ sl : Sl, e = .returned (.slice sl.a sl.n sl.c) ∧ OwnK w.heap.size 3 1 w' sl ((liveK L).map fun i => [.int .i64 i]) ∧ Ext w w' := by
 obtain ⟨av, hrow, hel, -⟩ := h.row
 apply engine_Engine_Live.vc
 have hld : LoadL w (padd (some ⟨g, 0, none⟩) 1) 0 (av.map pA) := by
  rw [padd_row]
  exact hrow.loadL fun j hj => by rw [show 0 + 1 + j = j + 1 from by omega, List.getElem?_cons_succ]
 have hget : ∀ k : Nat, k < 16 → ∃ a : Option Nat, (av.map pA)[((k : Nat) : Int).toNat * 1]? = some (pA a) ∧ (lifeK L k).isNone = a.isNone := fun k hk => by
  obtain ⟨a, ha⟩ := get_lt (l := av) (i := k) (by rw [hel.n]; exact hk)
  exact ⟨a, by rw [Int.toNat_natCast, Nat.mul_one, List.getElem?_map, ha]; rfl, hel.life ha⟩
 obtain ⟨b0, b1, b2, b3, b4, b5, b6, b7, b8, b9, b10, b11, b12, b13, b14, b15, rfl⟩ := sixteen hel.n
 clear hel hrow
 refine ⟨_, _, _, _, _, _, _, _, _, _, _, _, _, _, _, _, hld, fun n x sl wr => ∃ k : Nat, x = k ∧ k + n = 16 ∧ OwnK w.heap.size 3 1 wr sl ((((List.range k).filter fun i => (lifeK L (i : Nat)).isSome).map fun i : Nat => (i : Int)).map fun i => [.int .i64 i]) ∧ Ext w wr, ⟨16, 0, rfl, rfl, OwnK.nil, Ext.rfl' _⟩, ?_⟩
 rintro n us x sl wr ⟨k, rfl, hk, ho, xr⟩
 have zr := xr.size
 refine Br.mk (fun hb => ?_) (fun hb => ?_)
 ·simp only [decide_eq_true_eq] at hb
  obtain ⟨a, ha, hl⟩ := hget k (by omega)
  have wk : IntKind.wrap .i64 ((k : Int) + 1) = ((k + 1 : Nat) : Int) := by rw [wrap_in (by unfold inI; omega)]; omega
  have hlen : sl.n ≤ 16 := by
   have h1 := (ho.rd (show 0 < 1 by decide)).n
   have h2 := List.length_filter_le (fun i => (lifeK L (i : Nat)).isSome) (List.range k)
   rw [List.length_map, List.length_map] at h1
   rw [List.length_range] at h2
   omega
  refine ⟨⟨by omega, by omega⟩, _, ha, Br.mk (fun hq => fun w24 e24 => ?_) (fun hq => ?_)⟩
  ·subst e24
   have hsome : (lifeK L (k : Nat)).isSome = true := by
    cases a with
    | none => exact absurd hq (by simp)
    | some a =>
      cases hL : lifeK L k with
      | none => rw [hL] at hl; cases hl
      | some y => rfl
   obtain ⟨hp8, hres8⟩ := ho.app1 (bytes := 8) (news := [.int .i64 (k : Int)]) (.cells #[.int .i64 (k : Int)] 3) (by omega) rfl (one_i _ _) (by omega) (by omega)
   refine ⟨hp8, fun s25 w26 hr26 => ?_⟩
   obtain ⟨f8, ho8, hn8, x8, hk8, -⟩ := hres8 s25 w26 hr26
   refine ⟨f8, n - 1, by omega, k + 1, wk, by omega, ?_, (Below.trans xr x8 : Below w.heap.size w w26)⟩
   rw [List.range_succ, List.filter_append, List.map_append, List.map_append, List.filter_cons_of_pos (by simpa using hsome)]
   exact ho8
  ·have hnone : (lifeK L (k : Nat)).isSome = false := by
    cases a with
    | some a => exact absurd hq (by simp)
    | none =>
      cases hL : lifeK L k with
      | none => rfl
      | some y => rw [hL] at hl; cases hl
   refine ⟨n - 1, by omega, k + 1, wk, by omega, ?_, xr⟩
   rw [List.range_succ, List.filter_append, List.map_append, List.map_append, List.filter_cons_of_neg (by rw [hnone]; decide)]
   simpa using ho
 ·simp only [decide_eq_false_iff_not] at hb
  have hk16 : k = 16 := by omega
  subst hk16
  exact ⟨sl, rfl, ho, xr⟩
end
abbrev M0e (seed cap room bud : Int) : Sm := ⟨seed, min (max cap 1) 16, (dk0 room, []), [], ⟨4096, 0, []⟩, min (max bud 1) 64, 0, []⟩
abbrev noL : List (Option Lfe) := List.replicate 16 none
theorem eNew_spec (seed cap room bud : Int) (w : World) : Calls Tryz.prog n_engine_New #[.agg #[.int .i64 seed, .int .i64 cap, .int .i64 room, .int .i64 bud]] w fun e w' =>
  ∃ (g s o t : Nat) (F : Nat → Prop), e = .returned (.pointer (some ⟨g, 0, none⟩)) ∧ EF F w' g s o t (M0e seed cap room bud) (.func (.func n_sim_New_1) #[] #[]) noL ∧ Ext w w' ∧ ∀ i, F i → w.heap.size ≤ i := by
 apply engine_New.vc
 intro w0 e0
 have x0 : Ext w w0.drew := ((Ext.rfl' _).of_alloc e0).drew
 have z0 : w0.drew.heap.size = w.heap.size + 1 := by show w0.heap.size = _; rw [e0]; simp
 have r0 : ∃ τ, Row w0.drew w.heap.size [.int .i64 seed, .int .i64 cap, .int .i64 room, .int .i64 bud] τ := ⟨_, by rw [e0]; exact (Row.new w [_, _, _, _] _).ext (Ext.dr _)⟩
 clear e0
 obtain ⟨τ, r0⟩ := r0
 refine (wNew_spec seed cap room w0.drew).mono ?_
 rintro e w1 ⟨o, t, Fw, rfl, hW, x1, fW⟩
 have z1 := x1.size
 refine ⟨_, rfl, x1.heap (by omega), ld1 (r0.ext x1) rfl, (simNew_spec hW bud).mono ?_⟩
 rintro e w3 ⟨s, F, rfl, hS, x3, fS⟩
 have z3 := x3.size
 refine ⟨_, rfl, x3.heap (by omega), fun w5 e5 => ?_⟩
 have x5 : Ext w3 w5 := (Ext.rfl' _).of_alloc e5
 have r5 : Row w5 w3.heap.size (.pointer (some ⟨s, 0, none⟩) :: (List.replicate 16 none).map pA) tEng := by rw [e5]; exact Row.new w3 [_, _, _, _, _, _, _, _, _, _, _, _, _, _, _, _, _] _
 clear e5
 have hno : ∀ (i a : Nat), (List.replicate 16 (none : Option Nat))[i]? = some (some a) → False := fun i a hi => by
  have := List.eq_of_mem_replicate (List.mem_of_getElem? hi)
  cases this
 have hel : EL w5 (List.replicate 16 none) noL := ⟨rfl, rfl, fun i a hi => (hno i a hi).elim, fun i hi => List.getElem?_replicate_of_lt (by
  have hi16 := (List.getElem?_eq_some_iff.1 hi).1
  rw [List.length_replicate] at hi16
  exact hi16), fun i j a hi => (hno i a hi).elim⟩
 refine ⟨w3.heap.size, s, o, t, _, rfl, ⟨F, _, r5, hS.ext x5, hel, rfl⟩, x0.tr (x1.tr (x3.tr x5)), fun i hi => ?_⟩
 rcases hi with rfl | hi | hi
 ·omega
 ·rcases fS i hi with q | q
  ·have := fW i q; omega
  ·omega
 ·cases List.eq_of_mem_replicate hi
end Go.Proofs.YtjcnjlaelhdjeaaGreatDoor
namespace Go.Proofs.YtjcnjlaelhdjeaaGreatDoor
open Go Go.Vc Go.RowKit Go.Proofs Go.Lin
set_option linter.unusedVariables false
def GS (v : Value) : Prop := ∃ t : ByteArray, v = .string t
theorem strKey : KeyOk Tryz.prog 9 GS := by
 refine ⟨?_, ?_, ?_⟩
 ·rintro x y ⟨a, rfl⟩ ⟨b, rfl⟩
  refine ⟨strEq a b, by kernel_rfl, ?_⟩
  rw [strEq_iff]
  exact ⟨fun h => by rw [h], fun h => by injection h⟩
 ·rintro x ⟨a, rfl⟩ b w
  kernel_rfl
 ·rintro x ⟨a, rfl⟩
  simp [Instr.sameBits]
  exact (bytes_eq a a).2 rfl
def cmdN : List ByteArray := [ByteArray.mk #[119, 111, 114, 108, 100],
 ByteArray.mk #[108, 111, 97, 100],
 ByteArray.mk #[117, 110, 108, 111, 97, 100],
 ByteArray.mk #[102, 108, 117, 115, 104],
 ByteArray.mk #[112, 105, 110],
 ByteArray.mk #[117, 110, 112, 105, 110],
 ByteArray.mk #[102, 108, 117, 115, 104, 97, 108, 108],
 ByteArray.mk #[102, 97, 105, 108],
 ByteArray.mk #[99, 114, 97, 115, 104],
 ByteArray.mk #[115, 97, 118, 101],
 ByteArray.mk #[115, 112, 97, 119, 110],
 ByteArray.mk #[107, 105, 108, 108],
 ByteArray.mk #[116, 101, 108, 108],
 ByteArray.mk #[112, 108, 97, 99, 101],
 ByteArray.mk #[101, 100, 105, 116],
 ByteArray.mk #[98, 114, 101, 97, 107],
 ByteArray.mk #[108, 111, 111, 107],
 ByteArray.mk #[97, 116],
 ByteArray.mk #[116, 111, 112],
 ByteArray.mk #[98, 111, 100, 121],
 ByteArray.mk #[108, 105, 118, 101],
 ByteArray.mk #[104, 101, 114, 101],
 ByteArray.mk #[116, 105, 99, 107]]
def kvZ (k : Nat) (vs : List Value) : List (Value × Value) := ((cmdN.take k).map Value.string).zip vs
theorem cmdN_nodup : cmdN.Nodup := by decide
theorem insL_new {kvs : List (Value × Value)} {k v : Value} (h : ∀ e ∈ kvs, e.1 ≠ k) : insL kvs k v = kvs ++ [(k, v)] := by
 unfold insL
 rw [if_neg]
 rintro ⟨e, he, hk⟩
 exact h e he hk
theorem ins_step {k : Nat} {vs : List Value} {key : ByteArray} {v : Value} (hk : cmdN[k]? = some key) (hl : vs.length = k) : insL (kvZ k vs) (.string key) v = kvZ (k + 1) (vs ++ [v]) := by
 have hlt := (List.getElem?_eq_some_iff.1 hk).1
 rw [insL_new]
 ·unfold kvZ
  rw [List.take_add_one, hk, List.map_append, List.zip_append (by rw [List.length_map, List.length_take]; omega)]
  rfl
 ·rintro ⟨a, b⟩ he
  have h1 := (List.of_mem_zip he).1
  obtain ⟨t, ht, rfl⟩ := List.mem_map.1 h1
  intro hc
  injection hc with hc
  subst hc
  obtain ⟨i, hi⟩ := List.mem_iff_getElem?.1 ht
  rw [List.getElem?_take] at hi
  split at hi
  ·rename_i hik
   have := (List.getElem?_inj (i := i) (j := k) (by omega) cmdN_nodup).1 (hi.trans hk.symm)
   omega
  ·cases hi
abbrev tShell : TypeId := 98
abbrev tblV (c : Nat) : Value := .func (.func 155) #[] #[.pointer (some ⟨c, 0, none⟩)]
abbrev methV (f sh : Nat) : Value := .func (.func f) #[.pointer (some ⟨sh, 0, none⟩)] #[]
abbrev thisV (f t : Nat) : Value := .func (.func f) #[.pointer (some ⟨t, 0, none⟩)] #[]
def cmdV (sh : Nat) (c : List Nat) : List Value :=
 [methV 86 sh] ++ c.map tblV ++ [methV 93 sh, methV 94 sh, methV 95 sh, methV 96 sh, methV 97 sh, methV 98 sh, methV 99 sh, methV 100 sh, methV 101 sh, methV 102 sh, methV 103 sh, methV 104 sh, methV 105 sh, methV 106 sh, methV 107 sh, methV 108 sh, methV 109 sh]
theorem table_spec (sh f t : Nat) (w : World) : Calls Tryz.prog n_lines_Shell_table #[.pointer (some ⟨sh, 0, none⟩), thisV f t] w fun e w' => e = .returned (tblV w.heap.size) ∧ Row w' w.heap.size [thisV f t] 157 ∧ Ext w w' := by
 apply lines_Shell_table.vc
 unfold lines_Shell_table.pre
 refine AndL_nil.2 ?_
 intro w0 e0
 exact ⟨rfl, by rw [e0]; exact Row.new _ [_] _, by rw [e0]; exact Ext.al _ _⟩
structure SHE (w : World) (sh g : Nat) : Prop where
 row : Row w sh [.pointer (some ⟨g, 0, none⟩)] tShell
set_option maxHeartbeats 1000000 in
theorem does_spec {F : Nat → Prop} {w : World} {g s o t : Nat} {M : Sm} {occ : Value} {L : List (Option Lfe)} (h : EF F w g s o t M occ L) {sh : Nat} (hs : SHE w sh g) :
  Calls Tryz.prog n_lines_Shell_does #[.pointer (some ⟨sh, 0, none⟩)] w fun e w' => ∃ (r c1 c2 c3 c4 c5 : Nat), e = .returned (.map (some r)) ∧ MapIs GS w' (some r) (kvZ 23 (cmdV sh [c1, c2, c3, c4, c5])) ∧
   Row w' c1 [thisV 88 t] 157 ∧ Row w' c2 [thisV 89 t] 157 ∧ Row w' c3 [thisV 90 t] 157 ∧ Row w' c4 [thisV 91 t] 157 ∧ Row w' c5 [thisV 92 t] 157 ∧ w.heap.size ≤ r ∧ w.heap.size ≤ c1 ∧ w.heap.size ≤ c2 ∧ w.heap.size ≤ c3 ∧ w.heap.size ≤ c4 ∧ w.heap.size ≤ c5 ∧ Ext w w' := by
 obtain ⟨Fs, hS, hp, -, -⟩ := h.sim
 apply lines_Shell_does.vc
 unfold lines_Shell_does.pre
 refine ⟨some ⟨g, 0, none⟩, by rw [padd_row, hs.row.ld]; rfl, ?_⟩
 refine AndL_nn.2 ⟨rfl, AndL_nn.2 ⟨rfl, some ⟨s, 0, none⟩, hp, (sWorld_spec hS).mono ?_⟩⟩
 rintro _ _ ⟨rfl, e⟩
 rw [e]
 obtain ⟨Fw, hW, -, -⟩ := hS.world
 refine ⟨_, rfl, (wTable_spec hW).mono ?_⟩
 rintro _ _ ⟨rfl, e⟩
 rw [e]
 refine ⟨_, rfl, ?_⟩
 intro v0 e0
 have m0 : MapIs GS v0 (some w.heap.size) (kvZ 0 []) := by rw [e0]; exact MapIs.new
 have x0 : Ext w v0 := (Ext.rfl' w).of_alloc e0
 have up : ∀ {u u' : World} {k : Nat} {vs : List Value} {key : ByteArray} {v : Value}, Ext w u → vs.length = k → cmdN[k]? = some key → Rec ((some w.heap.size : Option Nat).getD 0) u u' → MapIs GS u' (some w.heap.size) (insL (kvZ k vs) (.string key) v) →
   MapIs GS u' (some w.heap.size) (kvZ (k + 1) (vs ++ [v])) ∧ Ext w u' ∧ u'.heap.size = u.heap.size ∧ ∀ i, i ≠ w.heap.size → u'.heap[i]? = u.heap[i]? := by
  intro u u' k vs key v hx hl hk hr hm
  rw [ins_step hk hl] at hm
  exact ⟨hm, Below.trans hx (hr.below (Nat.le_refl _)), hr.size, hr.same⟩
 refine ⟨GS, _, strKey, rfl, m0, ⟨_, rfl⟩, ?_⟩
 intro v1 a1 b1
 obtain ⟨m1, x1, s1, n1⟩ := up (k := 0) (vs := []) (v := methV 86 sh) x0 rfl rfl a1 b1
 have m1 : MapIs GS v1 (some w.heap.size) (kvZ 1 [methV 86 sh]) := m1
 refine (table_spec sh 88 t v1).mono ?_
 rintro _ u1 ⟨rfl, r1, y1⟩
 refine ⟨_, rfl, ?_⟩
 obtain ⟨c1, hc1⟩ : ∃ c, c = v1.heap.size := ⟨_, rfl⟩
 rw [← hc1] at r1 ⊢
 have q1 : MapIs GS u1 (some w.heap.size) (kvZ 1 [methV 86 sh]) := m1.same (y1.heap m1.lt)
 have z1 : Ext w u1 := x1.tr y1
 refine ⟨GS, _, strKey, rfl, q1, ⟨_, rfl⟩, ?_⟩
 intro v2 a2 b2
 obtain ⟨m2, x2, s2, n2⟩ := up (k := 1) (vs := [methV 86 sh]) (v := tblV c1) z1 rfl rfl a2 b2
 have m2 : MapIs GS v2 (some w.heap.size) (kvZ 2 [methV 86 sh, tblV c1]) := m2
 have g1 : c1 ≠ w.heap.size := by have := m1.lt; omega
 have r1 := r1.same (n2 c1 g1)
 refine (table_spec sh 89 t v2).mono ?_
 rintro _ u2 ⟨rfl, r2, y2⟩
 refine ⟨_, rfl, ?_⟩
 obtain ⟨c2, hc2⟩ : ∃ c, c = v2.heap.size := ⟨_, rfl⟩
 rw [← hc2] at r2 ⊢
 have q2 : MapIs GS u2 (some w.heap.size) (kvZ 2 [methV 86 sh, tblV c1]) := m2.same (y2.heap m2.lt)
 have z2 : Ext w u2 := x2.tr y2
 have r1 := r1.ext y2
 refine ⟨GS, _, strKey, rfl, q2, ⟨_, rfl⟩, ?_⟩
 intro v3 a3 b3
 obtain ⟨m3, x3, s3, n3⟩ := up (k := 2) (vs := [methV 86 sh, tblV c1]) (v := tblV c2) z2 rfl rfl a3 b3
 have m3 : MapIs GS v3 (some w.heap.size) (kvZ 3 [methV 86 sh, tblV c1, tblV c2]) := m3
 have r1 := r1.same (n3 c1 g1)
 have g2 : c2 ≠ w.heap.size := by have := m2.lt; omega
 have r2 := r2.same (n3 c2 g2)
 refine (table_spec sh 90 t v3).mono ?_
 rintro _ u3 ⟨rfl, r3, y3⟩
 refine ⟨_, rfl, ?_⟩
 obtain ⟨c3, hc3⟩ : ∃ c, c = v3.heap.size := ⟨_, rfl⟩
 rw [← hc3] at r3 ⊢
 have q3 : MapIs GS u3 (some w.heap.size) (kvZ 3 [methV 86 sh, tblV c1, tblV c2]) := m3.same (y3.heap m3.lt)
 have z3 : Ext w u3 := x3.tr y3
 have r1 := r1.ext y3
 have r2 := r2.ext y3
 refine ⟨GS, _, strKey, rfl, q3, ⟨_, rfl⟩, ?_⟩
 intro v4 a4 b4
 obtain ⟨m4, x4, s4, n4⟩ := up (k := 3) (vs := [methV 86 sh, tblV c1, tblV c2]) (v := tblV c3) z3 rfl rfl a4 b4
 have m4 : MapIs GS v4 (some w.heap.size) (kvZ 4 [methV 86 sh, tblV c1, tblV c2, tblV c3]) := m4
 have r1 := r1.same (n4 c1 g1)
 have r2 := r2.same (n4 c2 g2)
 have g3 : c3 ≠ w.heap.size := by have := m3.lt; omega
 have r3 := r3.same (n4 c3 g3)
 refine (table_spec sh 91 t v4).mono ?_
 rintro _ u4 ⟨rfl, r4, y4⟩
 refine ⟨_, rfl, ?_⟩
 obtain ⟨c4, hc4⟩ : ∃ c, c = v4.heap.size := ⟨_, rfl⟩
 rw [← hc4] at r4 ⊢
 have q4 : MapIs GS u4 (some w.heap.size) (kvZ 4 [methV 86 sh, tblV c1, tblV c2, tblV c3]) := m4.same (y4.heap m4.lt)
 have z4 : Ext w u4 := x4.tr y4
 have r1 := r1.ext y4
 have r2 := r2.ext y4
 have r3 := r3.ext y4
 refine ⟨GS, _, strKey, rfl, q4, ⟨_, rfl⟩, ?_⟩
 intro v5 a5 b5
 obtain ⟨m5, x5, s5, n5⟩ := up (k := 4) (vs := [methV 86 sh, tblV c1, tblV c2, tblV c3]) (v := tblV c4) z4 rfl rfl a5 b5
 have m5 : MapIs GS v5 (some w.heap.size) (kvZ 5 [methV 86 sh, tblV c1, tblV c2, tblV c3, tblV c4]) := m5
 have r1 := r1.same (n5 c1 g1)
 have r2 := r2.same (n5 c2 g2)
 have r3 := r3.same (n5 c3 g3)
 have g4 : c4 ≠ w.heap.size := by have := m4.lt; omega
 have r4 := r4.same (n5 c4 g4)
 refine (table_spec sh 92 t v5).mono ?_
 rintro _ u5 ⟨rfl, r5, y5⟩
 refine ⟨_, rfl, ?_⟩
 obtain ⟨c5, hc5⟩ : ∃ c, c = v5.heap.size := ⟨_, rfl⟩
 rw [← hc5] at r5 ⊢
 have q5 : MapIs GS u5 (some w.heap.size) (kvZ 5 [methV 86 sh, tblV c1, tblV c2, tblV c3, tblV c4]) := m5.same (y5.heap m5.lt)
 have z5 : Ext w u5 := x5.tr y5
 have r1 := r1.ext y5
 have r2 := r2.ext y5
 have r3 := r3.ext y5
 have r4 := r4.ext y5
 refine ⟨GS, _, strKey, rfl, q5, ⟨_, rfl⟩, ?_⟩
 intro v6 a6 b6
 obtain ⟨m6, x6, s6, n6⟩ := up (k := 5) (vs := [methV 86 sh, tblV c1, tblV c2, tblV c3, tblV c4]) (v := tblV c5) z5 rfl rfl a6 b6
 have m6 : MapIs GS v6 (some w.heap.size) (kvZ 6 [methV 86 sh, tblV c1, tblV c2, tblV c3, tblV c4, tblV c5]) := m6
 have r1 := r1.same (n6 c1 g1)
 have r2 := r2.same (n6 c2 g2)
 have r3 := r3.same (n6 c3 g3)
 have r4 := r4.same (n6 c4 g4)
 have g5 : c5 ≠ w.heap.size := by have := m5.lt; omega
 have r5 := r5.same (n6 c5 g5)
 refine ⟨GS, _, strKey, rfl, m6, ⟨_, rfl⟩, ?_⟩
 intro v7 a7 b7
 obtain ⟨m7, x7, s7, n7⟩ := up (k := 6) (vs := [methV 86 sh, tblV c1, tblV c2, tblV c3, tblV c4, tblV c5]) (v := methV 93 sh) x6 rfl rfl a7 b7
 have m7 : MapIs GS v7 (some w.heap.size) (kvZ 7 [methV 86 sh, tblV c1, tblV c2, tblV c3, tblV c4, tblV c5, methV 93 sh]) := m7
 have r1 := r1.same (n7 c1 g1)
 have r2 := r2.same (n7 c2 g2)
 have r3 := r3.same (n7 c3 g3)
 have r4 := r4.same (n7 c4 g4)
 have r5 := r5.same (n7 c5 g5)
 refine ⟨GS, _, strKey, rfl, m7, ⟨_, rfl⟩, ?_⟩
 intro v8 a8 b8
 obtain ⟨m8, x8, s8, n8⟩ := up (k := 7) (vs := [methV 86 sh, tblV c1, tblV c2, tblV c3, tblV c4, tblV c5, methV 93 sh]) (v := methV 94 sh) x7 rfl rfl a8 b8
 have m8 : MapIs GS v8 (some w.heap.size) (kvZ 8 [methV 86 sh, tblV c1, tblV c2, tblV c3, tblV c4, tblV c5, methV 93 sh, methV 94 sh]) := m8
 have r1 := r1.same (n8 c1 g1)
 have r2 := r2.same (n8 c2 g2)
 have r3 := r3.same (n8 c3 g3)
 have r4 := r4.same (n8 c4 g4)
 have r5 := r5.same (n8 c5 g5)
 refine ⟨GS, _, strKey, rfl, m8, ⟨_, rfl⟩, ?_⟩
 intro v9 a9 b9
 obtain ⟨m9, x9, s9, n9⟩ := up (k := 8) (vs := [methV 86 sh, tblV c1, tblV c2, tblV c3, tblV c4, tblV c5, methV 93 sh, methV 94 sh]) (v := methV 95 sh) x8 rfl rfl a9 b9
 have m9 : MapIs GS v9 (some w.heap.size) (kvZ 9 [methV 86 sh, tblV c1, tblV c2, tblV c3, tblV c4, tblV c5, methV 93 sh, methV 94 sh, methV 95 sh]) := m9
 have r1 := r1.same (n9 c1 g1)
 have r2 := r2.same (n9 c2 g2)
 have r3 := r3.same (n9 c3 g3)
 have r4 := r4.same (n9 c4 g4)
 have r5 := r5.same (n9 c5 g5)
 refine ⟨GS, _, strKey, rfl, m9, ⟨_, rfl⟩, ?_⟩
 intro v10 a10 b10
 obtain ⟨m10, x10, s10, n10⟩ := up (k := 9) (vs := [methV 86 sh, tblV c1, tblV c2, tblV c3, tblV c4, tblV c5, methV 93 sh, methV 94 sh, methV 95 sh]) (v := methV 96 sh) x9 rfl rfl a10 b10
 have m10 : MapIs GS v10 (some w.heap.size) (kvZ 10 [methV 86 sh, tblV c1, tblV c2, tblV c3, tblV c4, tblV c5, methV 93 sh, methV 94 sh, methV 95 sh, methV 96 sh]) := m10
 have r1 := r1.same (n10 c1 g1)
 have r2 := r2.same (n10 c2 g2)
 have r3 := r3.same (n10 c3 g3)
 have r4 := r4.same (n10 c4 g4)
 have r5 := r5.same (n10 c5 g5)
 refine ⟨GS, _, strKey, rfl, m10, ⟨_, rfl⟩, ?_⟩
 intro v11 a11 b11
 obtain ⟨m11, x11, s11, n11⟩ := up (k := 10) (vs := [methV 86 sh, tblV c1, tblV c2, tblV c3, tblV c4, tblV c5, methV 93 sh, methV 94 sh, methV 95 sh, methV 96 sh]) (v := methV 97 sh) x10 rfl rfl a11 b11
 have m11 : MapIs GS v11 (some w.heap.size) (kvZ 11 [methV 86 sh, tblV c1, tblV c2, tblV c3, tblV c4, tblV c5, methV 93 sh, methV 94 sh, methV 95 sh, methV 96 sh, methV 97 sh]) := m11
 have r1 := r1.same (n11 c1 g1)
 have r2 := r2.same (n11 c2 g2)
 have r3 := r3.same (n11 c3 g3)
 have r4 := r4.same (n11 c4 g4)
 have r5 := r5.same (n11 c5 g5)
 refine ⟨GS, _, strKey, rfl, m11, ⟨_, rfl⟩, ?_⟩
 intro v12 a12 b12
 obtain ⟨m12, x12, s12, n12⟩ := up (k := 11) (vs := [methV 86 sh, tblV c1, tblV c2, tblV c3, tblV c4, tblV c5, methV 93 sh, methV 94 sh, methV 95 sh, methV 96 sh, methV 97 sh]) (v := methV 98 sh) x11 rfl rfl a12 b12
 have m12 : MapIs GS v12 (some w.heap.size) (kvZ 12 [methV 86 sh, tblV c1, tblV c2, tblV c3, tblV c4, tblV c5, methV 93 sh, methV 94 sh, methV 95 sh, methV 96 sh, methV 97 sh, methV 98 sh]) := m12
 have r1 := r1.same (n12 c1 g1)
 have r2 := r2.same (n12 c2 g2)
 have r3 := r3.same (n12 c3 g3)
 have r4 := r4.same (n12 c4 g4)
 have r5 := r5.same (n12 c5 g5)
 refine ⟨GS, _, strKey, rfl, m12, ⟨_, rfl⟩, ?_⟩
 intro v13 a13 b13
 obtain ⟨m13, x13, s13, n13⟩ := up (k := 12) (vs := [methV 86 sh, tblV c1, tblV c2, tblV c3, tblV c4, tblV c5, methV 93 sh, methV 94 sh, methV 95 sh, methV 96 sh, methV 97 sh, methV 98 sh]) (v := methV 99 sh) x12 rfl rfl a13 b13
 have m13 : MapIs GS v13 (some w.heap.size) (kvZ 13 [methV 86 sh, tblV c1, tblV c2, tblV c3, tblV c4, tblV c5, methV 93 sh, methV 94 sh, methV 95 sh, methV 96 sh, methV 97 sh, methV 98 sh, methV 99 sh]) := m13
 have r1 := r1.same (n13 c1 g1)
 have r2 := r2.same (n13 c2 g2)
 have r3 := r3.same (n13 c3 g3)
 have r4 := r4.same (n13 c4 g4)
 have r5 := r5.same (n13 c5 g5)
 refine ⟨GS, _, strKey, rfl, m13, ⟨_, rfl⟩, ?_⟩
 intro v14 a14 b14
 obtain ⟨m14, x14, s14, n14⟩ := up (k := 13) (vs := [methV 86 sh, tblV c1, tblV c2, tblV c3, tblV c4, tblV c5, methV 93 sh, methV 94 sh, methV 95 sh, methV 96 sh, methV 97 sh, methV 98 sh, methV 99 sh]) (v := methV 100 sh) x13 rfl rfl a14 b14
 have m14 : MapIs GS v14 (some w.heap.size) (kvZ 14 [methV 86 sh, tblV c1, tblV c2, tblV c3, tblV c4, tblV c5, methV 93 sh, methV 94 sh, methV 95 sh, methV 96 sh, methV 97 sh, methV 98 sh, methV 99 sh, methV 100 sh]) := m14
 have r1 := r1.same (n14 c1 g1)
 have r2 := r2.same (n14 c2 g2)
 have r3 := r3.same (n14 c3 g3)
 have r4 := r4.same (n14 c4 g4)
 have r5 := r5.same (n14 c5 g5)
 refine ⟨GS, _, strKey, rfl, m14, ⟨_, rfl⟩, ?_⟩
 intro v15 a15 b15
 obtain ⟨m15, x15, s15, n15⟩ := up (k := 14) (vs := [methV 86 sh, tblV c1, tblV c2, tblV c3, tblV c4, tblV c5, methV 93 sh, methV 94 sh, methV 95 sh, methV 96 sh, methV 97 sh, methV 98 sh, methV 99 sh, methV 100 sh]) (v := methV 101 sh) x14 rfl rfl a15 b15
 have m15 : MapIs GS v15 (some w.heap.size) (kvZ 15 [methV 86 sh, tblV c1, tblV c2, tblV c3, tblV c4, tblV c5, methV 93 sh, methV 94 sh, methV 95 sh, methV 96 sh, methV 97 sh, methV 98 sh, methV 99 sh, methV 100 sh, methV 101 sh]) := m15
 have r1 := r1.same (n15 c1 g1)
 have r2 := r2.same (n15 c2 g2)
 have r3 := r3.same (n15 c3 g3)
 have r4 := r4.same (n15 c4 g4)
 have r5 := r5.same (n15 c5 g5)
 refine ⟨GS, _, strKey, rfl, m15, ⟨_, rfl⟩, ?_⟩
 intro v16 a16 b16
 obtain ⟨m16, x16, s16, n16⟩ := up (k := 15) (vs := [methV 86 sh, tblV c1, tblV c2, tblV c3, tblV c4, tblV c5, methV 93 sh, methV 94 sh, methV 95 sh, methV 96 sh, methV 97 sh, methV 98 sh, methV 99 sh, methV 100 sh, methV 101 sh]) (v := methV 102 sh) x15 rfl rfl a16 b16
 have m16 : MapIs GS v16 (some w.heap.size) (kvZ 16 [methV 86 sh, tblV c1, tblV c2, tblV c3, tblV c4, tblV c5, methV 93 sh, methV 94 sh, methV 95 sh, methV 96 sh, methV 97 sh, methV 98 sh, methV 99 sh, methV 100 sh, methV 101 sh, methV 102 sh]) := m16
 have r1 := r1.same (n16 c1 g1)
 have r2 := r2.same (n16 c2 g2)
 have r3 := r3.same (n16 c3 g3)
 have r4 := r4.same (n16 c4 g4)
 have r5 := r5.same (n16 c5 g5)
 refine ⟨GS, _, strKey, rfl, m16, ⟨_, rfl⟩, ?_⟩
 intro v17 a17 b17
 obtain ⟨m17, x17, s17, n17⟩ := up (k := 16) (vs := [methV 86 sh, tblV c1, tblV c2, tblV c3, tblV c4, tblV c5, methV 93 sh, methV 94 sh, methV 95 sh, methV 96 sh, methV 97 sh, methV 98 sh, methV 99 sh, methV 100 sh, methV 101 sh, methV 102 sh]) (v := methV 103 sh) x16 rfl rfl a17 b17
 have m17 : MapIs GS v17 (some w.heap.size) (kvZ 17 [methV 86 sh, tblV c1, tblV c2, tblV c3, tblV c4, tblV c5, methV 93 sh, methV 94 sh, methV 95 sh, methV 96 sh, methV 97 sh, methV 98 sh, methV 99 sh, methV 100 sh, methV 101 sh, methV 102 sh, methV 103 sh]) := m17
 have r1 := r1.same (n17 c1 g1)
 have r2 := r2.same (n17 c2 g2)
 have r3 := r3.same (n17 c3 g3)
 have r4 := r4.same (n17 c4 g4)
 have r5 := r5.same (n17 c5 g5)
 refine ⟨GS, _, strKey, rfl, m17, ⟨_, rfl⟩, ?_⟩
 intro v18 a18 b18
 obtain ⟨m18, x18, s18, n18⟩ := up (k := 17) (vs := [methV 86 sh, tblV c1, tblV c2, tblV c3, tblV c4, tblV c5, methV 93 sh, methV 94 sh, methV 95 sh, methV 96 sh, methV 97 sh, methV 98 sh, methV 99 sh, methV 100 sh, methV 101 sh, methV 102 sh, methV 103 sh]) (v := methV 104 sh) x17 rfl rfl a18 b18
 have m18 : MapIs GS v18 (some w.heap.size) (kvZ 18 [methV 86 sh, tblV c1, tblV c2, tblV c3, tblV c4, tblV c5, methV 93 sh, methV 94 sh, methV 95 sh, methV 96 sh, methV 97 sh, methV 98 sh, methV 99 sh, methV 100 sh, methV 101 sh, methV 102 sh, methV 103 sh, methV 104 sh]) := m18
 have r1 := r1.same (n18 c1 g1)
 have r2 := r2.same (n18 c2 g2)
 have r3 := r3.same (n18 c3 g3)
 have r4 := r4.same (n18 c4 g4)
 have r5 := r5.same (n18 c5 g5)
 refine ⟨GS, _, strKey, rfl, m18, ⟨_, rfl⟩, ?_⟩
 intro v19 a19 b19
 obtain ⟨m19, x19, s19, n19⟩ := up (k := 18) (vs := [methV 86 sh, tblV c1, tblV c2, tblV c3, tblV c4, tblV c5, methV 93 sh, methV 94 sh, methV 95 sh, methV 96 sh, methV 97 sh, methV 98 sh, methV 99 sh, methV 100 sh, methV 101 sh, methV 102 sh, methV 103 sh, methV 104 sh]) (v := methV 105 sh) x18 rfl rfl a19 b19
 have m19 : MapIs GS v19 (some w.heap.size) (kvZ 19 [methV 86 sh, tblV c1, tblV c2, tblV c3, tblV c4, tblV c5, methV 93 sh, methV 94 sh, methV 95 sh, methV 96 sh, methV 97 sh, methV 98 sh, methV 99 sh, methV 100 sh, methV 101 sh, methV 102 sh, methV 103 sh, methV 104 sh, methV 105 sh]) := m19
 have r1 := r1.same (n19 c1 g1)
 have r2 := r2.same (n19 c2 g2)
 have r3 := r3.same (n19 c3 g3)
 have r4 := r4.same (n19 c4 g4)
 have r5 := r5.same (n19 c5 g5)
 refine ⟨GS, _, strKey, rfl, m19, ⟨_, rfl⟩, ?_⟩
 intro v20 a20 b20
 obtain ⟨m20, x20, s20, n20⟩ := up (k := 19) (vs := [methV 86 sh, tblV c1, tblV c2, tblV c3, tblV c4, tblV c5, methV 93 sh, methV 94 sh, methV 95 sh, methV 96 sh, methV 97 sh, methV 98 sh, methV 99 sh, methV 100 sh, methV 101 sh, methV 102 sh, methV 103 sh, methV 104 sh, methV 105 sh]) (v := methV 106 sh) x19 rfl rfl a20 b20
 have m20 : MapIs GS v20 (some w.heap.size) (kvZ 20 [methV 86 sh, tblV c1, tblV c2, tblV c3, tblV c4, tblV c5, methV 93 sh, methV 94 sh, methV 95 sh, methV 96 sh, methV 97 sh, methV 98 sh, methV 99 sh, methV 100 sh, methV 101 sh, methV 102 sh, methV 103 sh, methV 104 sh, methV 105 sh, methV 106 sh]) := m20
 have r1 := r1.same (n20 c1 g1)
 have r2 := r2.same (n20 c2 g2)
 have r3 := r3.same (n20 c3 g3)
 have r4 := r4.same (n20 c4 g4)
 have r5 := r5.same (n20 c5 g5)
 refine ⟨GS, _, strKey, rfl, m20, ⟨_, rfl⟩, ?_⟩
 intro v21 a21 b21
 obtain ⟨m21, x21, s21, n21⟩ := up (k := 20) (vs := [methV 86 sh, tblV c1, tblV c2, tblV c3, tblV c4, tblV c5, methV 93 sh, methV 94 sh, methV 95 sh, methV 96 sh, methV 97 sh, methV 98 sh, methV 99 sh, methV 100 sh, methV 101 sh, methV 102 sh, methV 103 sh, methV 104 sh, methV 105 sh, methV 106 sh]) (v := methV 107 sh) x20 rfl rfl a21 b21
 have m21 : MapIs GS v21 (some w.heap.size) (kvZ 21 [methV 86 sh, tblV c1, tblV c2, tblV c3, tblV c4, tblV c5, methV 93 sh, methV 94 sh, methV 95 sh, methV 96 sh, methV 97 sh, methV 98 sh, methV 99 sh, methV 100 sh, methV 101 sh, methV 102 sh, methV 103 sh, methV 104 sh, methV 105 sh, methV 106 sh, methV 107 sh]) := m21
 have r1 := r1.same (n21 c1 g1)
 have r2 := r2.same (n21 c2 g2)
 have r3 := r3.same (n21 c3 g3)
 have r4 := r4.same (n21 c4 g4)
 have r5 := r5.same (n21 c5 g5)
 refine ⟨GS, _, strKey, rfl, m21, ⟨_, rfl⟩, ?_⟩
 intro v22 a22 b22
 obtain ⟨m22, x22, s22, n22⟩ := up (k := 21) (vs := [methV 86 sh, tblV c1, tblV c2, tblV c3, tblV c4, tblV c5, methV 93 sh, methV 94 sh, methV 95 sh, methV 96 sh, methV 97 sh, methV 98 sh, methV 99 sh, methV 100 sh, methV 101 sh, methV 102 sh, methV 103 sh, methV 104 sh, methV 105 sh, methV 106 sh, methV 107 sh]) (v := methV 108 sh) x21 rfl rfl a22 b22
 have m22 : MapIs GS v22 (some w.heap.size) (kvZ 22 [methV 86 sh, tblV c1, tblV c2, tblV c3, tblV c4, tblV c5, methV 93 sh, methV 94 sh, methV 95 sh, methV 96 sh, methV 97 sh, methV 98 sh, methV 99 sh, methV 100 sh, methV 101 sh, methV 102 sh, methV 103 sh, methV 104 sh, methV 105 sh, methV 106 sh, methV 107 sh, methV 108 sh]) := m22
 have r1 := r1.same (n22 c1 g1)
 have r2 := r2.same (n22 c2 g2)
 have r3 := r3.same (n22 c3 g3)
 have r4 := r4.same (n22 c4 g4)
 have r5 := r5.same (n22 c5 g5)
 refine ⟨GS, _, strKey, rfl, m22, ⟨_, rfl⟩, ?_⟩
 intro v23 a23 b23
 obtain ⟨m23, x23, s23, n23⟩ := up (k := 22) (vs := [methV 86 sh, tblV c1, tblV c2, tblV c3, tblV c4, tblV c5, methV 93 sh, methV 94 sh, methV 95 sh, methV 96 sh, methV 97 sh, methV 98 sh, methV 99 sh, methV 100 sh, methV 101 sh, methV 102 sh, methV 103 sh, methV 104 sh, methV 105 sh, methV 106 sh, methV 107 sh, methV 108 sh]) (v := methV 109 sh) x22 rfl rfl a23 b23
 have m23 : MapIs GS v23 (some w.heap.size) (kvZ 23 [methV 86 sh, tblV c1, tblV c2, tblV c3, tblV c4, tblV c5, methV 93 sh, methV 94 sh, methV 95 sh, methV 96 sh, methV 97 sh, methV 98 sh, methV 99 sh, methV 100 sh, methV 101 sh, methV 102 sh, methV 103 sh, methV 104 sh, methV 105 sh, methV 106 sh, methV 107 sh, methV 108 sh, methV 109 sh]) := m23
 have r1 := r1.same (n23 c1 g1)
 have r2 := r2.same (n23 c2 g2)
 have r3 := r3.same (n23 c3 g3)
 have r4 := r4.same (n23 c4 g4)
 have r5 := r5.same (n23 c5 g5)
 exact ⟨w.heap.size, c1, c2, c3, c4, c5, rfl, m23, r1, r2, r3, r4, r5, Nat.le_refl _, by have := x1.size; omega, by have := x2.size; omega, by have := x3.size; omega, by have := x4.size; omega, by have := x5.size; omega, x23⟩
end Go.Proofs.YtjcnjlaelhdjeaaGreatDoor
namespace Go.Proofs.YtjcnjlaelhdjeaaGreatDoor
open Go Go.Vc Go.RowKit Go.Proofs Go.Lin
set_option linter.unusedVariables false
set_option maxRecDepth 100000
theorem ni85 : notIf Tryz.prog 85 = true := by kernel_rfl
theorem zi85 : (Tryz.prog.info? 85).bind (·.zero) = some (.string (ByteArray.mk #[])) := by kernel_rfl
theorem as_odd (s : ByteArray) (w : World) : (Instr.typeAssert (.iface 85 (.string s)) 20 85 true).run Tryz.prog w = .ok (.tuple #[.string s, .bool true]) w := by
 have := asOk_run (P := Tryz.prog) (a := 85) (xT := 20) (t := 85) (v := .string s) ni85 zi85 w
 rw [if_pos rfl] at this
 exact this
theorem catch_odd (p : Addr) (x : ByteArray) (s : ByteArray) (older : List PanicEntry) (w : World) (hc : w.cell? p = some (.string x)) (hz : w.frozen? p = false) :
  CallsD Tryz.prog 51 #[.pointer (some p)] (.panicking ({ v := .iface 85 (.string s), recovered := false } :: older)) w fun e u' w' =>
   e = .returned (.tuple #[]) ∧ u' = .panicking ({ v := .iface 85 (.string s), recovered := true } :: older) ∧ w' = w.setCell p (.string s) := by
 refine callsD_of_wpS Tryz.func51 rfl fun c₀ cs hu => ?_
 apply wpS_seq
 apply wpS_region
 simp [wpOpsS, go_sem, recoverD, hu, Tryz.ntmps51, Exit.thenS]
 refine wpS_of_wp (wp_mono (Q := fun e a' w' => e = .normal ∧ w' = w.setCell p (.string s) ∧ a'.defers = []) ?_ ?_)
 ·refine wp_block ?_
  go_wp2
  rw [as_odd]
  simp only [Result.andThen_ok, Oper.upon]
  rename_i K1 h1 K h2
  apply h2
  simp [wpList, go_sem, Act.put, Act.eval, Exit.then, Oper.wp, Oper.upon]
  refine .inl (.inl (h1 _ _ ?_))
  refine wp_cond_true (by simp [Act.eval, Array.replicate]) ?_
  refine wp_seq (wp_region ?_)
  simp [wpOps, go_sem, Act.put, Act.eval, Exit.then, Oper.wp, Oper.upon]
  refine .inl (wp_region ?_)
  simp [wpOps, go_sem, Act.put, Act.eval, Exit.then, Oper.wp, Oper.upon, hc, hz]
  exact .inl (.inl ⟨rfl, rfl, rfl⟩)
 ·rintro e a w' ⟨rfl, rfl, hd⟩
  simp [bodyPostS, results, Tryz.results51, hd]
theorem catch_idle (p : Addr) (w : World) :
  CallsD Tryz.prog 51 #[.pointer (some p)] .returning w fun e u' w' => e = .returned (.tuple #[]) ∧ u' = .returning ∧ w' = w := by
 refine callsD_of_wpS Tryz.func51 rfl fun c₀ cs hu => ?_
 apply wpS_seq
 apply wpS_region
 simp [wpOpsS, go_sem, recoverD, hu, Tryz.ntmps51, Exit.thenS]
 refine wpS_of_wp (wp_mono (Q := fun e a' w' => e = .normal ∧ w' = w ∧ a'.defers = []) ?_ ?_)
 ·refine wp_block (wp_seq (wp_region ?_))
  simp [wpOps, go_sem, Act.put, Act.eval, Exit.then, Oper.wp, Oper.upon]
  refine .inl ?_
  refine wp_cond_true (by simp [Act.eval, Array.replicate]) ?_
  refine wp_region ?_
  simp [wpOps, go_sem, Act.put, Act.eval, Exit.then, Oper.wp, Oper.upon]
 ·rintro e a w' ⟨rfl, rfl, hd⟩
  cases c₀
  simp_all [bodyPostS, results, Tryz.results51]
end Go.Proofs.YtjcnjlaelhdjeaaGreatDoor
namespace Go.Proofs.YtjcnjlaelhdjeaaGreatDoor
open Go Go.Vc Go.RowKit Go.Proofs Go.Lin
set_option linter.unusedVariables false
set_option maxRecDepth 100000
theorem set_one {w : World} {g : Nat} {x v : Value} {E : TypeId} (hr : Row w g [x] E) (h1 : v.oneCell' = true) : w.setCell ⟨g, 0, none⟩ v = w.setRow g #[v] := by
 have h := hr.setP (o := 0) (vs := [v]) (by simp) (fun u hu => by simp at hu; subst hu; exact h1)
 have e : setP w (some ⟨g, 0, none⟩) [v] = w.setCell ((⟨g, 0, none⟩ : Addr).add 0) v := rfl
 rw [e] at h
 have a0 : (⟨g, 0, none⟩ : Addr).add 0 = ⟨g, 0, none⟩ := rfl
 rw [a0] at h
 rw [h]
 rfl
theorem map87 : mapTy Tryz.prog 87 = some (9, 86, .nilFunc) := by kernel_rfl
structure CmdV (v : Value) (f : FuncId) (a b : Array Value) : Prop where
 eq : v = .func (.func f) a b
 enter : ∀ args w, (callFunc f args).run Tryz.prog w = .ok (.enter f args) w
theorem Line_core {w : World} {sh g : Nat} (line : ByteArray) (hl : line.size ≤ 4294967296) {F : Nat → Prop} {s o t : Nat} {M : Sm} {occ : Value} {L : List (Option Lfe)} (h : EF F w g s o t M occ L) (hs : SHE w sh g) (Q : ByteArray → World → Prop)
  (hst : ∀ tx u u', Q tx u → Mod (fun i => i = w.heap.size) u u' → Q tx u')
  (h0 : wordsK line = [] → ∀ u, Ext w u → Q (ByteArray.mk #[]) u)
  (hbad : ∀ c r, wordsK line = c :: r → c ∉ cmdN → ∀ u, Ext w u → Q (ByteArray.mk #[98, 97, 100]) u)
  (hcmd : ∀ (c : ByteArray) (r : List ByteArray) (i : Nat), wordsK line = c :: r → cmdN[i]? = some c → ∀ (u : World) (B ga c1 c2 c3 c4 c5 : Nat), Ext w u → AG u B ga r → w.heap.size < ga → Row u c1 [thisV 88 t] 157 → Row u c2 [thisV 89 t] 157 → Row u c3 [thisV 90 t] 157 → Row u c4 [thisV 91 t] 157 → Row u c5 [thisV 92 t] 157 →
   (B ≤ c1 ∧ B ≤ c2 ∧ B ≤ c3 ∧ B ≤ c4 ∧ B ≤ c5) → ∀ v, (cmdV sh [c1, c2, c3, c4, c5])[i]? = some v → ∃ f a b, CmdV v f a b ∧ Calls Tryz.prog f (a ++ #[.pointer (some ⟨ga, 0, none⟩)] ++ b) u fun e u' => u'.heap[w.heap.size]? = u.heap[w.heap.size]? ∧ ((∃ tx, e = .returned (.string tx) ∧ Q tx u') ∨ (e = odd ∧ Q (ByteArray.mk #[98, 97, 100]) u'))) :
  Calls Tryz.prog 14 #[.pointer (some ⟨sh, 0, none⟩), .string line] w fun e w' => ∃ tx, e = .returned (.string tx) ∧ Q tx w' := by
 go_enter_defers Tryz.func14, Tryz.ntmps14
 refine wp_seq (wp_region ?_)
 simp [wpOps, go_sem, Act.put, Act.eval, Exit.then, Oper.wp, Oper.upon]
 refine .inl ?_
 refine wp_seq (wp_region ?_)
 simp [wpOps, go_sem, Act.put, Act.eval, Exit.then, Oper.wp, Oper.upon]
 refine .inl (.inl ((Words_spec line _ hl).mono ?_))
 rintro e w1 ⟨sl, rfl, hrd, hlc, hbk, x1⟩
 simp [go_sem, Oper.upon, wpOps, Oper.wp, Act.put, Act.eval]
 repeat refine Or.inl ?_
 refine wp_seq (wp_seq (wp_region ?_))
 simp [wpOps, go_sem, Act.put, Act.eval, Exit.then, Oper.wp, Oper.upon]
 repeat refine Or.inl ?_
 have hn : sl.n = (wordsK line).length := by rw [hrd.n, List.length_map]
 have hr0 : Row (w.alloc (.cells #[.string (ByteArray.mk #[])] 9)) w.heap.size [.string (ByteArray.mk #[])] 9 := Row.new _ [_] _
 have hr2 := (hr0.ext x1).ext (Ext.al w1 (.cells #[.slice sl.a sl.n sl.c] 84))
 have x2 : Ext w (w1.alloc (.cells #[.slice sl.a sl.n sl.c] 84)) := ((Ext.al w _).tr x1).tr (Ext.al w1 _)
 have hc2 : (w1.alloc (.cells #[.slice sl.a sl.n sl.c] 84)).cell? ⟨w.heap.size, 0, none⟩ = some (.string (ByteArray.mk #[])) := by have := hr2.ld 0; simpa [Vc.ld] using this
 have hf2 : (w1.alloc (.cells #[.slice sl.a sl.n sl.c] 84)).frozen? ⟨w.heap.size, 0, none⟩ = false := frozen_of hr2 _
 cases hw : wordsK line with
 | nil =>
   rw [hw] at hn
   refine wp_cond_true (by simp [Act.eval, hn]) ?_
   refine wp_seq (wp_region ?_)
   simp [wpOps, go_sem, Act.put, Act.eval, Exit.then, Oper.wp, Oper.upon, hc2, hf2]
   repeat refine Or.inl ?_
   refine wp_ret ?_
   rw [set_one hr2 rfl]
   have hr3 := hr2.set [.string (ByteArray.mk #[])]
   have hc3 : ((w1.alloc (.cells #[.slice sl.a sl.n sl.c] 84)).setRow w.heap.size #[.string (ByteArray.mk #[])]).cell? ⟨w.heap.size, 0, none⟩ = some (.string (ByteArray.mk #[])) := by have := hr3.ld 0; simpa [Vc.ld] using this
   simp [bodyPostD, Leaves, results, Tryz.results14, go_sem, hc3]
   exact hst _ _ _ (h0 hw _ x2) (mod_set _ _ _)
 | cons c r =>
   rw [hw] at hn
   refine wp_cond_false (by simp [Act.eval, hn]; omega) ?_
   refine wp_skip ?_
   simp only [Exit.then]
   refine wp_seq (wp_region ?_)
   simp [wpOps, go_sem, Act.put, Act.eval, Exit.then, Oper.wp, Oper.upon]
   repeat refine Or.inl ?_
   generalize hW2 : w1.alloc (.cells #[.slice sl.a sl.n sl.c] 84) = W2 at *
   refine wp_seq (wp_region ?_)
   simp [wpOps, go_sem, Act.put, Act.eval, Exit.then, Oper.wp, Oper.upon]
   repeat refine Or.inl ?_
   refine (does_spec (h.ext x2) ⟨hs.row.ext x2⟩).mono ?_
   rintro e w3 ⟨rm, c1, c2, c3, c4, c5, rfl, hm, r1, r2, r3, r4, r5, b0, b1, b2, b3, b4, b5, x3⟩
   simp [go_sem, Oper.upon, wpOps, Oper.wp, Act.put, Act.eval]
   repeat refine Or.inl ?_
   have hz2 : W2.heap.size = w1.heap.size + 1 := by rw [← hW2]; simp
   have xa : Ext w1 W2 := by rw [← hW2]; exact Ext.al _ _
   have hag : AG W2 W2.heap.size w1.heap.size (c :: r) := ⟨by omega, Nat.le_refl _, sl, by rw [← hW2]; exact Row.new _ [_] _, by rw [← hw]; exact hrd.ext xa, hlc, fun i hi => by have := (hbk i hi).2; omega⟩
   refine (word_spec (hag.ext x3)).mono ?_
   rintro e w4 ⟨m4, hp⟩
   obtain ⟨rfl, ha4⟩ := hp
   have hzw : w.heap.size + 1 ≤ w1.heap.size := by have := x1.size; simpa using this
   have x4 : Ext w w4 := m4.ext (x2.tr x3) (fun i hi => by omega)
   have hne : ∀ i, W2.heap.size ≤ i → i ≠ w1.heap.size := fun i hi => by omega
   have hm4 : MapIs GS w4 (some rm) (kvZ 23 (cmdV sh [c1, c2, c3, c4, c5])) := hm.same (m4.same rm hm.lt (hne _ b0))
   have k1 := r1.same (m4.same c1 r1.lt (hne _ b1))
   have k2 := r2.same (m4.same c2 r2.lt (hne _ b2))
   have k3 := r3.same (m4.same c3 r3.lt (hne _ b3))
   have k4 := r4.same (m4.same c4 r4.lt (hne _ b4))
   have k5 := r5.same (m4.same c5 r5.lt (hne _ b5))
   by_cases hc : c ∈ cmdN
   ·obtain ⟨i, hi⟩ := List.mem_iff_getElem?.1 hc
    have hi23 : i < 23 := (List.getElem?_eq_some_iff.1 hi).1
    obtain ⟨v, hv⟩ : ∃ v, (cmdV sh [c1, c2, c3, c4, c5])[i]? = some v := ⟨_, List.getElem?_eq_getElem (show i < (cmdV sh [c1, c2, c3, c4, c5]).length from hi23)⟩
    obtain ⟨f, a, b, hcv, hcall⟩ := hcmd c r i hw hi w4 W2.heap.size w1.heap.size c1 c2 c3 c4 c5 x4 ha4 (by omega) k1 k2 k3 k4 k5 ⟨b1, b2, b3, b4, b5⟩ v hv
    have hlk : (Instr.lookup 87 (.map (some rm)) (.string c) false).run Tryz.prog w4 = .ok v w4 := by
     refine (lookup_run (P := Tryz.prog) (z := .nilFunc) map87 strKey hm4 ⟨c, rfl⟩ false (v := v) (b := true) (.inl ⟨rfl, ?_⟩))
     unfold kvZ
     refine List.mem_iff_getElem?.2 ⟨i, ?_⟩
     rw [List.getElem?_zip_eq_some]
     refine ⟨?_, hv⟩
     rw [List.getElem?_map, List.take_of_length_le (by decide), hi]
     rfl
    simp [go_sem, Oper.upon, wpOps, Oper.wp, Act.put, Act.eval, hlk]
    obtain ⟨rfl, hent⟩ := hcv
    repeat refine Or.inl ?_
    refine wp_seq (wp_region ?_)
    simp [wpOps, go_sem, Act.put, Act.eval, Exit.then, Oper.wp, Oper.upon]
    repeat refine Or.inl ?_
    have hr4 : Row w4 w.heap.size [.string (ByteArray.mk #[])] 9 := (hr2.ext x3).same (m4.same _ (hr2.ext x3).lt (by omega))
    refine (must_spec true w4).mono ?_
    rintro e w4' ⟨he, e4⟩
    simp only [if_true] at he
    subst he
    rw [e4]
    refine wp_seq (wp_region ?_)
    simp [wpOps, go_sem, Act.put, Act.eval, Exit.then, Oper.wp, Oper.upon, invoke, hent]
    repeat refine Or.inl ?_
    refine hcall.mono ?_
    rintro e u ⟨hk, ⟨tx, rfl, hq⟩ | ⟨rfl, hq⟩⟩
    ·have hru := hr4.same hk
     have hcu : u.cell? ⟨w.heap.size, 0, none⟩ = some (.string (ByteArray.mk #[])) := by have := hru.ld 0; simpa [Vc.ld] using this
     have hfu : u.frozen? ⟨w.heap.size, 0, none⟩ = false := frozen_of hru _
     have hrs := hru.set [.string tx]
     have hcs : (u.setRow w.heap.size #[.string tx]).cell? ⟨w.heap.size, 0, none⟩ = some (.string tx) := by have := hrs.ld 0; simpa [Vc.ld] using this
     have hqs : Q tx (u.setRow w.heap.size #[.string tx]) := hst _ _ _ hq (mod_set _ _ _)
     simp [go_sem, storeCells, hcu, hfu]
     rw [set_one hru rfl]
     repeat refine Or.inl ?_
     refine wp_ret ?_
     simp only [bodyPostD]
     refine leaves_cons (f := 51) (args := #[.pointer (some ⟨w.heap.size, 0, none⟩)]) (by simp) (enter_of Tryz.func51 (by kernel_rfl) rfl _ _) ?_
     refine (catch_idle ⟨w.heap.size, 0, none⟩ _).mono ?_
     rintro e u' w'' ⟨rfl, rfl, rfl⟩
     simp [Leaves, settle, results, Tryz.results14, go_sem, hcs]
     exact hqs
    ·have hru := hr4.same hk
     have hcu : u.cell? ⟨w.heap.size, 0, none⟩ = some (.string (ByteArray.mk #[])) := by have := hru.ld 0; simpa [Vc.ld] using this
     have hfu : u.frozen? ⟨w.heap.size, 0, none⟩ = false := frozen_of hru _
     have hrs := hru.set [.string (ByteArray.mk #[98, 97, 100])]
     have hcs : (u.setRow w.heap.size #[.string (ByteArray.mk #[98, 97, 100])]).cell? ⟨w.heap.size, 0, none⟩ = some (.string (ByteArray.mk #[98, 97, 100])) := by have := hrs.ld 0; simpa [Vc.ld] using this
     have hqs : Q (ByteArray.mk #[98, 97, 100]) (u.setRow w.heap.size #[.string (ByteArray.mk #[98, 97, 100])]) := hst _ _ _ hq (mod_set _ _ _)
     simp only [odd, bodyPostD]
     refine leaves_cons (f := 51) (args := #[.pointer (some ⟨w.heap.size, 0, none⟩)]) (by simp) (enter_of Tryz.func51 (by kernel_rfl) rfl _ _) ?_
     refine (catch_odd ⟨w.heap.size, 0, none⟩ (ByteArray.mk #[]) _ _ _ hcu hfu).mono ?_
     rintro e u' w'' ⟨rfl, rfl, rfl⟩
     rw [set_one hru rfl]
     simp [Leaves, settle, results, Tryz.results14, go_sem, hcs]
     exact hqs
   ·have hlk : (Instr.lookup 87 (.map (some rm)) (.string c) false).run Tryz.prog w4 = .ok .nilFunc w4 := by
     refine (lookup_run (P := Tryz.prog) (z := .nilFunc) map87 strKey hm4 ⟨c, rfl⟩ false (v := .nilFunc) (b := false) (.inr ⟨rfl, rfl, ?_⟩))
     rintro ⟨x, y⟩ he hx
     obtain ⟨t', ht', hx'⟩ := List.mem_map.1 (List.of_mem_zip he).1
     have : Value.string t' = .string c := hx'.trans hx
     injection this with this
     rw [this] at ht'
     exact hc (List.mem_of_mem_take ht')
    have hr4 : Row w4 w.heap.size [.string (ByteArray.mk #[])] 9 := (hr2.ext x3).same (m4.same _ (hr2.ext x3).lt (by omega))
    have hc4 : w4.cell? ⟨w.heap.size, 0, none⟩ = some (.string (ByteArray.mk #[])) := by have := hr4.ld 0; simpa [Vc.ld] using this
    have hf4 : w4.frozen? ⟨w.heap.size, 0, none⟩ = false := frozen_of hr4 _
    simp [go_sem, Oper.upon, wpOps, Oper.wp, Act.put, Act.eval, hlk]
    repeat refine Or.inl ?_
    refine wp_seq (wp_region ?_)
    simp [wpOps, go_sem, Act.put, Act.eval, Exit.then, Oper.wp, Oper.upon]
    repeat refine Or.inl ?_
    refine (must_spec false w4).mono ?_
    rintro e w4' ⟨he, e4⟩
    simp only [Bool.false_eq_true, if_false] at he
    subst he
    rw [e4]
    ·have hrs := hr4.set [.string (ByteArray.mk #[98, 97, 100])]
     have hcs : (w4.setRow w.heap.size #[.string (ByteArray.mk #[98, 97, 100])]).cell? ⟨w.heap.size, 0, none⟩ = some (.string (ByteArray.mk #[98, 97, 100])) := by have := hrs.ld 0; simpa [Vc.ld] using this
     have hqs : Q (ByteArray.mk #[98, 97, 100]) (w4.setRow w.heap.size #[.string (ByteArray.mk #[98, 97, 100])]) := hst _ _ _ (hbad c r hw hc w4 x4) (mod_set _ _ _)
     simp only [odd, bodyPostD]
     refine leaves_cons (f := 51) (args := #[.pointer (some ⟨w.heap.size, 0, none⟩)]) (by simp) (enter_of Tryz.func51 (by kernel_rfl) rfl _ _) ?_
     refine (catch_odd ⟨w.heap.size, 0, none⟩ (ByteArray.mk #[]) _ _ _ hc4 hf4).mono ?_
     rintro e u' w'' ⟨rfl, rfl, rfl⟩
     rw [set_one hr4 rfl]
     simp [Leaves, settle, results, Tryz.results14, go_sem, hcs]
     exact hqs
end Go.Proofs.YtjcnjlaelhdjeaaGreatDoor
namespace Go.Proofs.YtjcnjlaelhdjeaaGreatDoor
open Go Go.Vc Go.RowKit Go.Proofs Go.Lin Go.Chk Go.Runs Go.Code
set_option linter.unusedVariables false
theorem eLoad_spec {F : Nat → Prop} {w : World} {g s o t : Nat} {M : Sm} {occ : Value} {L : List (Option Lfe)} (h : EF F w g s o t M occ L) (hW : M.T.1.l.length ≤ 1000000) (p : Po) :
  Calls Tryz.prog n_table_Table_Load #[.pointer (some ⟨t, 0, none⟩), pv p] w fun e w' => e = .returned (.int .i64 (ldE M.seed M.cap M.T.1 M.T.2 p).2) ∧ ERes F w g s o t { M with T := (ldE M.seed M.cap M.T.1 M.T.2 p).1 } occ L w' := by
 obtain ⟨Fs, hS, hp, hsub, hr⟩ := h.sim
 obtain ⟨Fw, hw, hsub2, hr2⟩ := hS.world
 refine (wfLoad_spec hw hW p).mono ?_
 rintro e w' ⟨rfl, hres⟩
 exact ⟨rfl, hr (hr2 hres)⟩
theorem table1_spec {w : World} {B ga c0 : Nat} {ws : List ByteArray} {fv : Value} (ha : AG w B ga ws) (hc : Row w c0 [fv] 157) (hne : c0 ≠ ga) (hfv : oneC fv = []) (R : Ending → World → Prop)
  (hbad : (∀ p, pPos ws ≠ some (p, [])) → ∀ u, Mod (fun i => i = ga) w u → R odd u)
  (hdo : ∀ p r, pPos ws = some (p, r) → r = [] → ∀ u, Mod (fun i => i = ga) w u → w.heap.size < u.heap.size → callV Tryz.prog fv [.agg #[.int .i64 p.1, .int .i64 p.2]] u fun e u' => ∃ (x : Int) (tx : ByteArray), e = .returned (.int .i64 x) ∧ (∀ i, w.heap.size ≤ i → i < u.heap.size → u'.heap[i]? = u.heap[i]?) ∧ u.heap.size ≤ u'.heap.size ∧
   (∀ v, Ext u' v → Itm v (.iface 168 (.int .i64 x)) tx) ∧ tx.size ≤ 1000000 ∧ ∀ v, Ext u' v → R (.returned (.string tx)) v) :
  Calls Tryz.prog n_lines_Shell_table_1 #[.pointer (some ⟨ga, 0, none⟩), .pointer (some ⟨c0, 0, none⟩)] w R := by
 apply lines_Shell_table_1.vc
 unfold lines_Shell_table_1.pre
 refine (pos_spec ha).mono ?_
 rintro e w0 ⟨m0, hp⟩
 cases hw : pPos ws with
 | none =>
   rw [hw] at hp
   subst hp
   exact hbad (fun p q => by rw [hw] at q; cases q) _ m0
 | some x =>
   obtain ⟨⟨x, z⟩, r⟩ := x
   rw [hw] at hp
   obtain ⟨rfl, ha0⟩ := hp
   refine ⟨x, z, rfl, ?_⟩
   intro w3 e3 w4 e4
   have x3 : Ext w0 w3 := by rw [e3]; exact Ext.al _ _
   have z3 : w3.heap.size = w0.heap.size + 1 := by rw [e3]; simp
   have m4 := mod_set w3 w0.heap.size #[.int .i64 x, .int .i64 z]
   rw [← e4] at m4
   have x4 : Ext w0 w4 := m4.ext x3 (fun i hi => by omega)
   have z4 : w4.heap.size = w0.heap.size + 1 := by rw [e4]; simp [z3]
   have mw4 : Mod (fun i => i = ga) w w4 := m0.trans (Mod.of_ext x4)
   refine (end_spec (ha0.ext x4)).mono ?_
   rintro e w5 ⟨e5, he⟩
   rw [e5]
   by_cases hr : r = []
   ·rw [if_pos hr] at he
    subst he
    have hcw : Row w4 c0 [fv] 157 := hc.same (mw4.same c0 hc.lt hne)
    refine ⟨rfl, rfl, fv, by rw [hcw.ld]; rfl, ?_⟩
    have h0w := m0.size
    refine callV_mono (hdo (x, z) r hw hr w4 mw4 (by omega)) ?_
    rintro e w7 ⟨xe, tx, rfl, hk, hs7, hit, hsz, hR⟩
    refine ⟨xe, rfl, hk _ h0w (by omega), ?_⟩
    intro w9 e9
    have x9 : Ext w7 w9 := by rw [e9]; exact Ext.al _ _
    have hr9 : Row w9 w7.heap.size [.iface 168 (.int .i64 xe)] 20 := by rw [e9]; exact Row.new _ [_] _
    have hrd : RdK w9 ⟨some ⟨w7.heap.size, 0, none⟩, 1, 1⟩ 1 ([.iface 168 (.int .i64 xe)].map fun x => [x]) := by
     refine ⟨rfl, fun q hq => by simp at hq; subst hq; rfl, fun i q hi j v hj => ?_⟩
     cases i with
     | succ i => simp at hi
     | zero =>
       simp at hi
       subst hi
       cases j with
       | succ j => simp at hj
       | zero =>
         simp at hj
         subst hj
         rw [padd_row, hr9.ld]
         rfl
    have hj1 : (Lib.join ([tx].map (·.data.toList)) [32]).length ≤ 140737488355328 := by
     have e := congrArg bl (join_one tx)
     have e : Lib.join ([tx].map (·.data.toList)) [32] = bl tx := e
     rw [e, bl_len]
     omega
    refine (told_spec (outs := [tx]) hrd rfl (by simp) (fun i y t hy ht => ?_) hj1).mono ?_
    ·cases i with
     | succ i => simp at hy
     | zero =>
       simp at hy ht
       subst hy
       subst ht
       exact hit w9 x9
    ·rintro _ w10 ⟨rfl, x10⟩
     refine ⟨_, rfl, x10.heap (by have := x9.size; omega), ?_⟩
     rw [join_one]
     exact hR _ (x9.tr x10)
   ·rw [if_neg hr] at he
    subst he
    exact hbad (fun p q => by rw [hw] at q; cases q; exact hr rfl) _ mw4
end Go.Proofs.YtjcnjlaelhdjeaaGreatDoor
namespace Go.Proofs.YtjcnjlaelhdjeaaGreatDoor
open Go Go.Vc Go.RowKit Go.Proofs Go.Lin Go.Chk Go.Runs Go.Code
set_option linter.unusedVariables false
theorem told_one {u v : World} {x : Value} {tx : ByteArray} (hv : v = u.alloc (.cells #[x] 20)) (hit : Itm v x tx) (hsz : tx.size ≤ 1000000) :
  Calls Tryz.prog n_lines_told #[.slice (some ⟨u.heap.size, 0, none⟩) 1 1] v fun e w' => e = .returned (.string tx) ∧ Ext v w' := by
 have hr9 : Row v u.heap.size [x] 20 := by rw [hv]; exact Row.new _ [_] _
 have hrd : RdK v ⟨some ⟨u.heap.size, 0, none⟩, 1, 1⟩ 1 ([x].map fun x => [x]) := by
  refine ⟨rfl, fun q hq => by simp at hq; subst hq; rfl, fun i q hi j v hj => ?_⟩
  cases i with
  | succ i => simp at hi
  | zero =>
    simp at hi
    subst hi
    cases j with
    | succ j => simp at hj
    | zero =>
      simp at hj
      subst hj
      rw [padd_row, hr9.ld]
      rfl
 have hj1 : (Lib.join ([tx].map (·.data.toList)) [32]).length ≤ 140737488355328 := by
  have e := congrArg bl (join_one tx)
  have e : Lib.join ([tx].map (·.data.toList)) [32] = bl tx := e
  rw [e, bl_len]
  omega
 refine (told_spec (outs := [tx]) hrd rfl (by simp) (fun i y t hy ht => ?_) hj1).mono ?_
 ·cases i with
  | succ i => simp at hy
  | zero =>
    simp at hy ht
    subst hy
    subst ht
    exact hit
 ·rintro _ w10 ⟨rfl, x10⟩
  rw [join_one]
  exact ⟨rfl, x10⟩
def cellT (b : Int) : ByteArray := if b = -1 then ByteArray.mk #[97, 119, 97, 121] else bName b
set_option maxRecDepth 100000 in
theorem shAt_spec {F : Nat → Prop} {w : World} {g s o t sh B ga : Nat} {M : Sm} {occ : Value} {L : List (Option Lfe)} {ws : List ByteArray} (h : EF F w g s o t M occ L) (hs : SHE w sh g) (ha : AG w B ga ws) (hF : ¬ F ga) (hsg : sh ≠ ga)
  (hnm : ∀ b, (bName b).size ≤ 1000000) (R : Ending → World → Prop) (hbad : (∀ p, pVec ws ≠ some (p, [])) → ∀ u, Mod (fun i => i = ga) w u → R odd u)
  (hok : ∀ c, pVec ws = some (c, []) → okC c ∧ ∀ u, Mod (fun i => i = ga) w u → R (.returned (.string (cellT (atE M.T.2 c)))) u) :
  Calls Tryz.prog n_lines_Shell_at #[.pointer (some ⟨sh, 0, none⟩), .pointer (some ⟨ga, 0, none⟩)] w R := by
 apply lines_Shell_at.vc
 unfold lines_Shell_at.pre
 refine (cell_spec ha).mono ?_
 rintro e w0 ⟨m0, hp⟩
 cases hw : pVec ws with
 | none =>
   rw [hw] at hp
   subst hp
   exact hbad (fun p q => by rw [hw] at q; cases q) _ m0
 | some x =>
   obtain ⟨⟨x, y, z⟩, r⟩ := x
   rw [hw] at hp
   obtain ⟨rfl, ha0⟩ := hp
   refine ⟨x, y, z, rfl, ?_⟩
   intro w4 e4 w5 e5
   have x4 : Ext w0 w4 := by rw [e4]; exact Ext.al _ _
   have z4 : w4.heap.size = w0.heap.size + 1 := by rw [e4]; simp
   have m5 := mod_set w4 w0.heap.size #[.int .i64 x, .int .i64 y, .int .i64 z]
   rw [← e5] at m5
   have x5 : Ext w0 w5 := m5.ext x4 (fun i hi => by omega)
   have z5 : w5.heap.size = w0.heap.size + 1 := by rw [e5]; simp [z4]
   have mw5 : Mod (fun i => i = ga) w w5 := m0.trans (Mod.of_ext x5)
   refine (end_spec (ha0.ext x5)).mono ?_
   rintro e w6 ⟨e6, he⟩
   rw [e6]
   by_cases hr : r = []
   ·rw [if_pos hr] at he
    subst he
    subst hr
    obtain ⟨hc, hR⟩ := hok _ hw
    have h5 : EF F w5 g s o t M occ L := h.same fun i hi => mw5.same i (h.lt hi) (fun q => hF (q ▸ hi))
    have hd := h5.ext (Ext.dr w5)
    have hsh : Row w5.drew sh [.pointer (some ⟨g, 0, none⟩)] tShell := (hs.row.same (mw5.same sh hs.row.lt hsg)).ext (Ext.dr w5)
    have hb : Row w5.drew w0.heap.size (clv (x, y, z)) 23 := by
     have : Row w5 w0.heap.size (clv (x, y, z)) 23 := by
      have hr4 : Row w4 w0.heap.size [.int .i64 0, .int .i64 0, .int .i64 0] 23 := by rw [e4]; exact Row.new _ [_, _, _] _
      rw [e5]; exact hr4.set [_, _, _]
     exact this.ext (Ext.dr w5)
    obtain ⟨Fs, hS, hpp, -, -⟩ := hd.sim
    obtain ⟨Fw, hW, -, -⟩ := hS.world
    refine ⟨rfl, rfl, some ⟨g, 0, none⟩, by rw [padd_row, hsh.ld]; rfl, AndL_nn.2 ⟨rfl, AndL_nn.2 ⟨rfl, some ⟨s, 0, none⟩, hpp, (sWorld_spec hS).mono ?_⟩⟩⟩
    rintro _ w9 ⟨rfl, e9⟩
    rw [e9]
    have lb : LoadL w5.drew (some ⟨w0.heap.size, 0, none⟩) 0 [.int .i64 x, .int .i64 y, .int .i64 z] := hb.loadL (o := 0) (fun j _ => by rw [Nat.zero_add])
    have ls : LoadL w5.drew (padd (some ⟨sh, 0, none⟩) 0) 0 [.pointer (some ⟨g, 0, none⟩)] := by rw [padd_row]; exact hsh.loadL (fun j _ => by simp)
    refine ⟨_, rfl, rfl, lb, ls, (wView_spec hW).mono ?_⟩
    rintro _ w11 ⟨rfl, e11⟩
    rw [e11]
    have hca : callV Tryz.prog (.func (.func n_table_Table_At) #[.pointer (some ⟨t, 0, none⟩)] #[]) [.agg #[.int .i64 x, .int .i64 y, .int .i64 z]] w5.drew fun e w'' => e = .returned (.int .i64 (atE M.T.2 (x, y, z))) ∧ Ext w5.drew w'' := hd.tl.at (c := (x, y, z)) hc
    refine ⟨_, rfl, rfl, lb, ls, ?_⟩
    refine callV_mono hca ?_
    rintro e w13 ⟨rfl, x13⟩
    have x13' : Ext w5 w13 := (Ext.dr w5).tr x13
    have s5 : w5.drew.heap.size = w5.heap.size := rfl
    have h013 : w0.heap.size < w13.heap.size := by have := x13.size; omega
    refine ⟨_, rfl, x13.heap (by omega), by rw [padd_row]; exact (hsh.ext x13).loadL (fun j _ => by simp), Br.mk (fun c1 => ?_) (fun c1 => ?_)⟩
    ·have c1 : atE M.T.2 (x, y, z) = -1 := by simpa using c1
     intro w15 e15
     have x15 : Ext w13 w15 := by rw [e15]; exact Ext.al _ _
     refine (told_one e15 (.s _) (by decide)).mono ?_
     rintro _ w16 ⟨rfl, x16⟩
     refine ⟨_, rfl, x16.heap (by have := x15.size; omega), ?_⟩
     have := hR w16 (mw5.trans (Mod.of_ext ((x13'.tr x15).tr x16)))
     unfold cellT at this
     rw [if_pos c1] at this
     exact this
    ·have c1 : atE M.T.2 (x, y, z) ≠ -1 := by simpa using c1
     refine (block_Name_spec _ w13).mono ?_
     rintro _ w18 ⟨rfl, x18⟩
     refine ⟨_, rfl, x18.heap h013, ?_⟩
     intro w20 e20
     have x20 : Ext w18 w20 := by rw [e20]; exact Ext.al _ _
     refine (told_one e20 (.s _) (hnm _)).mono ?_
     rintro _ w21 ⟨rfl, x21⟩
     refine ⟨_, rfl, x21.heap (by have := x18.size; have := x20.size; omega), ?_⟩
     have := hR w21 (mw5.trans (Mod.of_ext (((x13'.tr x18).tr x20).tr x21)))
     unfold cellT at this
     rw [if_neg c1] at this
     exact this
   ·rw [if_neg hr] at he
    subst he
    exact hbad (fun p q => by rw [hw] at q; cases q; exact hr rfl) _ mw5
end Go.Proofs.YtjcnjlaelhdjeaaGreatDoor
namespace Go.Proofs.YtjcnjlaelhdjeaaGreatDoor
open Go Go.Vc Go.RowKit Go.Proofs Go.Lin Go.Chk Go.Runs Go.Code
set_option linter.unusedVariables false
abbrev occ0 : Value := .func (.func n_sim_New_1) #[] #[]
theorem shNew_spec (w : World) : Calls Tryz.prog n_lines_New #[] w fun e w' => ∃ (sh g s o t : Nat) (F : Nat → Prop), e = .returned (.pointer (some ⟨sh, 0, none⟩)) ∧ EF F w' g s o t (M0e 1 9 200000 16) occ0 noL ∧ SHE w' sh g ∧ ¬ F sh ∧ Ext w w' ∧ (∀ i, F i → w.heap.size ≤ i) ∧ w.heap.size ≤ sh := by
 apply lines_New.vc
 unfold lines_New.pre
 refine (eNew_spec 1 9 200000 16 w).mono ?_
 rintro _ w0 ⟨g, s, o, t, F, rfl, h, x0, hF⟩
 refine ⟨_, rfl, ?_⟩
 intro w2 e2
 have x2 : Ext w0 w2 := by rw [e2]; exact Ext.al _ _
 exact ⟨w0.heap.size, g, s, o, t, F, rfl, h.ext x2, ⟨by rw [e2]; exact Row.new _ [_] _⟩, fun q => by have := h.lt q; omega, x0.tr x2, hF, x0.size⟩
end Go.Proofs.YtjcnjlaelhdjeaaGreatDoor
namespace Go.Proofs.YtjcnjlaelhdjeaaGreatDoor
open Go Go.Vc Go.RowKit Go.Proofs Go.Lin
set_option linter.unusedVariables false
set_option maxRecDepth 100000
theorem info112 : (Tryz.prog.info? 112).map (·.size) = some 2 := by kernel_rfl
theorem lies112 : liesAt Tryz.prog Tryz.prog.depth 112 (2 / Tryz.prog.cellsOf 112) 0 112 1 = true := by kernel_rfl
theorem shape_row {w : World} {g : Nat} {cs : List Value} {t : TypeId} (h : Row w g cs t) : w.shape? g = some (t, cs.length) := by
 simp [World.shape?, show w.heap[g]? = _ from h]
theorem copyCheck_spec {w : World} {b : Nat} {p : Option Addr} {v : Value} (h : Row w b [.pointer p, v] 112) (hp : p = none ∨ p = some ⟨b, 0, none⟩) :
  Calls Tryz.prog 117 #[.pointer (some ⟨b, 0, none⟩)] w fun e w' => e = .returned (.tuple #[]) ∧ Row w' b [.pointer (some ⟨b, 0, none⟩), v] 112 ∧ Mod (fun i => i = b) w w' ∧ w'.heap.size = w.heap.size := by
 have hc : w.cell? ⟨b, 0, none⟩ = some (.pointer p) := by have := h.ld 0; simpa [Vc.ld] using this
 have hf : w.frozen? ⟨b, 0, none⟩ = false := frozen_of h _
 obtain ⟨j, hj, hjs⟩ := Option.map_eq_some_iff.1 info112
 have hsh := shape_row h
 have c1 := Lib.run_to_unsafe (P := Tryz.prog) (w := w) (src := 110) (dst := 230) ⟨b, 0, none⟩ Tryz.underlying110 Tryz.underlying230 hj (by rw [hjs]; decide) hsh (by simp)
 have c2 : (callFunc 180 #[.pointer (some ⟨b, 0, none⟩)]).run Tryz.prog w = _ := run_callFunc_extern Tryz.func180 (by kernel_rfl) (by kernel_rfl) (by kernel_rfl) (e := Extern.AbiNoEscape.same) (by kernel_rfl) _ w
 have c3 := Lib.run_from_unsafe (P := Tryz.prog) (w := w) (src := 230) (dst := 110) ⟨b, 0, none⟩ Tryz.underlying230 Tryz.underlying110 hj hsh lies112
 have hst : w.setCell ⟨b, 0, none⟩ (.pointer (some ⟨b, 0, none⟩)) = w.setRow b #[.pointer (some ⟨b, 0, none⟩), v] := by
  have h2 := h.setP (o := 0) (vs := [.pointer (some ⟨b, 0, none⟩)]) (by simp) (fun u hu => by simp at hu; subst hu; rfl)
  exact h2
 go_enter Tryz.func117, Tryz.ntmps117
 refine wp_seq (wp_region ?_)
 simp [wpOps, go_sem, Act.put, Act.eval, Exit.then, Oper.wp, Oper.upon, hc]
 repeat refine Or.inl ?_
 rcases hp with rfl | rfl
 ·refine wp_cond_true (by simp [Act.eval]) ?_
  refine wp_region ?_
  simp [wpOps, go_sem, Act.put, Act.eval, Exit.then, Oper.wp, Oper.upon, c1, c2, c3, Lib.run_noEscape, hc, hf, storeCells]
  repeat refine Or.inl ?_
  go_end0
  refine ⟨rfl, ?_⟩
  rw [hst]
  exact ⟨h.set [_, _], mod_set _ _ _, by simp⟩
 ·refine wp_cond_false (by simp [Act.eval]) ?_
  refine wp_seq (wp_region ?_)
  simp [wpOps, go_sem, Act.put, Act.eval, Exit.then, Oper.wp, Oper.upon, hc]
  repeat refine Or.inl ?_
  have cn : (binOp .neq 110 (.pointer (some ⟨b, 0, none⟩)) (.pointer (some ⟨b, 0, none⟩))).run Tryz.prog w = .ok (.bool false) w := by
   have he : (Op.equal 110 (.pointer (some ⟨b, 0, none⟩)) (.pointer (some ⟨b, 0, none⟩))).run Tryz.prog w = .ok true w := by
    unfold Op.equal Op.maxDepth
    rw [show (10000 : Nat) = 9999 + 1 from rfl, Op.equalIn, Sem.run_bind, underlying_run, Tryz.underlying110]
    simp [sameAddr, sizeAt, go_sem]
   simp [binOp, run_underlying Tryz.underlying110, go_sem]
   rw [he]
   rfl
  simp [cn]
  repeat refine Or.inl ?_
  refine wp_cond_false (by simp [Act.eval]) ?_
  refine wp_skip ?_
  go_end0
  exact ⟨rfl, h, Mod.refl _ _, rfl⟩
end Go.Proofs.YtjcnjlaelhdjeaaGreatDoor
namespace Go.Proofs.YtjcnjlaelhdjeaaGreatDoor
open Go Go.Vc Go.RowKit Go.Proofs Go.Lin
set_option linter.unusedVariables false
theorem copyCheck_v {w : World} {B b : Nat} {p : Option Addr} {v : Value} {bs : List Value} (hp : p = none ∨ p = some ⟨b, 0, none⟩) (hr : Row w b [.pointer p, v] 112) (hown : w.ownsRow B 5 1 v bs.length bs) (hne : v.ownBlock ≠ some b) :
  Calls Tryz.prog 117 #[.pointer (some ⟨b, 0, none⟩)] w fun e w' => e = .returned (.tuple #[]) ∧ Row w' b [.pointer (some ⟨b, 0, none⟩), v] 112 ∧ w'.ownsRow B 5 1 v bs.length bs ∧ Mod (fun i => i = b) w w' ∧ w'.heap.size = w.heap.size := by
 refine (copyCheck_spec hr hp).mono ?_
 rintro e w' ⟨rfl, hr', hm, hs⟩
 refine ⟨rfl, hr', ?_, hm, hs⟩
 obtain ⟨h1, h2⟩ := hown
 refine ⟨h1, h2.imp id ?_⟩
 rintro ⟨g, cap, cur, rfl, q1, q2, q3⟩
 refine ⟨g, cap, cur, rfl, q1, ?_, q3⟩
 rw [hm.same g (Array.getElem?_eq_some_iff.1 q2).1 (fun e => hne (by rw [e]; rfl))]
 exact q2
theorem append_own_str {P : Program} (w : World) (base : Nat) (t u ty e : TypeId) (i : TypeInfo) (ht : P.underlying t = some (.slice e)) (hu : P.underlying u = some .string) (hi : P.info? e = some i) (hz : i.zero = some (.int .u8 0))
  (hsize : i.size = 1) (hby : i.bytes = 1) (v : Value) (n : Nat) (xs : List Value) (hown : w.ownsRow base e 1 v n xs) (s : ByteArray) (hbytes : n + s.size ≤ 140737488355328) (hbase : base ≤ w.heap.size) :
  ∃ v' w', (Builtin.append_ #[t, u] ty #[v, .string s]).run P w = .ok v' w' ∧ w'.ownsRow base e 1 v' (n + s.size) (xs ++ Lib.strCells s) ∧ w.grownBy w' v.ownBlock ∧ (v'.ownBlock = v.ownBlock ∨ v'.ownBlock = some w.heap.size) := by
 obtain ⟨v', w', hr, h2, h3, h4⟩ := Lib.run_append_own_string w base t u ty e i ht hu hi hz hsize hby v n xs hown s (by unfold maxLen; omega) hbytes hbase
 refine ⟨v', w', hr, h2, h3, ?_⟩
 have hxl : xs.length = n := by simpa using hown.1
 rcases hown.2 with ⟨rfl, rfl⟩ | ⟨g, cap, cur, rfl, hbg, hg, hnc, hcm, hcs, htake⟩
 ·by_cases hm : s.size = 0
  ·rw [h4.2 ⟨rfl, hm⟩]
   exact .inl rfl
  ·have q := run_append_nil_string (P := P) w t u ty e i (.int .u8 0) ht hu hi hz s (by omega) (by omega) (by rw [hby]; omega)
   rw [q] at hr
   cases hr
   exact .inr rfl
 ·by_cases hroom : n + s.size ≤ cap
  ·have q := Lib.run_append_room_string (P := P) w t u ty e i ht hu hi hsize g n cap cur hg s hroom (by omega)
   rw [q] at hr
   cases hr
   exact .inl rfl
  ·have holds : ∀ j u, xs[j]? = some u → w.cell? ((⟨g, 0, none⟩ : Addr).add j) = some u := hown.cells (g := g) rfl
   have q := Lib.run_append_grow_string (P := P) w t u ty e i (.int .u8 0) ht hu hi hz ⟨g, 0, none⟩ n cap xs (by rw [hsize]; simpa using hxl) holds s (by omega) (by omega) (by rw [hby]; exact growslice_fits (by omega) (by omega))
   rw [q] at hr
   cases hr
   exact .inr rfl
theorem wpList_aos {P : Program} (w : World) {ops : Array Oper} {rest : List Oper} {o : Oper} {a : Act} {Q : Exit → Act → World → Prop} (hgd : o.guard = none) (sl x : Operand) (t u : TypeId)
  (ho : o.op = .call { callee := .builtin .append, args := #[sl, x], argTypes := #[t, u] })
  (base : Nat) (e : TypeId) (i : TypeInfo) (ht : P.underlying t = some (.slice e)) (hu : P.underlying u = some .string) (hi : P.info? e = some i) (hz : i.zero = some (.int .u8 0))
  (hsize : i.size = 1) (hby : i.bytes = 1) (v : Value) (n : Nat) (xs : List Value) (hs : a.eval sl = v) (hown : w.ownsRow base e 1 v n xs) (s : ByteArray) (hx : a.eval x = .string s)
  (hbytes : n + s.size ≤ 140737488355328) (hbase : base ≤ w.heap.size)
  (h : ∀ v' w', w'.ownsRow base e 1 v' (n + s.size) (xs ++ Lib.strCells s) → w.grownBy w' v.ownBlock → (v'.ownBlock = v.ownBlock ∨ v'.ownBlock = some w.heap.size) → wpList P ops Q rest (a.put o.dst v') w') : wpList P ops Q (o :: rest) a w := by
 refine wpList_plain hgd fun K hK => ?_
 obtain ⟨v', w', hr, h2, h3, h4⟩ := append_own_str (P := P) w base t u o.type e i ht hu hi hz hsize hby v n xs hown s hbytes hbase
 unfold Oper.wp execOp
 simp only [ho, resolve, invoke, builtin, Sem.run_bind, Sem.run_pure, Result.andThen_ok, List.map_toArray, List.map_cons, List.map_nil, hs, hx, hr]
 exact hK _ _ (h v' w' h2 h3 h4)
set_option maxHeartbeats 1000000 in
set_option maxRecDepth 100000 in
theorem WriteString_spec {w : World} {B b : Nat} {p : Option Addr} {v : Value} {bs : List Value} (s : ByteArray) (hp : p = none ∨ p = some ⟨b, 0, none⟩) (hrow : Row w b [.pointer p, v] 112) (hown0 : w.ownsRow B 5 1 v bs.length bs) (hne0 : v.ownBlock ≠ some b) (hlen : bs.length + s.size ≤ 140737488355328) (hBw : B ≤ w.heap.size) :
  Calls Tryz.prog 62 #[.pointer (some ⟨b, 0, none⟩), .string s] w fun e w' => e = .returned (.tuple #[.int .i64 s.size, .nilIface]) ∧ (∃ v' : Value, Row w' b [.pointer (some ⟨b, 0, none⟩), v'] 112 ∧ w'.ownsRow B 5 1 v' (bs ++ Lib.strCells s).length (bs ++ Lib.strCells s) ∧ v'.ownBlock ≠ some b ∧ (∀ i, v'.ownBlock = some i → v.ownBlock = some i ∨ w.heap.size ≤ i)) ∧ Mod (fun i => i = b ∨ v.ownBlock = some i) w w' ∧ ∀ i, i < w.heap.size → i ≠ b → v.ownBlock ≠ some i → w'.heap[i]? = w.heap[i]? := by
 have X := Tryz.Builder_Extra_169
 obtain ⟨i0, hi, hz0, hz1, hz2⟩ := info_parts X.infoByte
 have t72 := Tryz.underlying112; have a72 := Tryz.isAgg112; have z72 := Tryz.sizeOf112; have v72 := Tryz.zeroValue112; have u72 := run_underlying t72
 have t70 := Tryz.underlying110; have a70 := Tryz.isAgg110; have z70 := Tryz.sizeOf110; have v70 := Tryz.zeroValue110; have u70 := run_underlying t70
 have t37 := Tryz.underlying43; have a37 := Tryz.isAgg43; have z37 := Tryz.sizeOf43; have v37 := Tryz.zeroValue43; have u37 := run_underlying t37
 have t3 := Tryz.underlying3; have a3 := Tryz.isAgg3; have z3 := Tryz.sizeOf3; have v3 := Tryz.zeroValue3; have u3 := run_underlying t3
 have t9 := Tryz.underlying9; have a9 := Tryz.isAgg9; have z9 := Tryz.sizeOf9; have v9 := Tryz.zeroValue9; have u9 := run_underlying t9
 have t5 := Tryz.underlying5; have a5 := Tryz.isAgg5; have z5 := Tryz.sizeOf5; have v5 := Tryz.zeroValue5; have u5 := run_underlying t5
 have e240 : ∀ args w, (callFunc 117 args).run Tryz.prog w = .ok (.enter 117 args) w := fun args w => enter_of Tryz.func117 (by kernel_rfl) rfl args w
 go_enter Tryz.func62, Tryz.ntmps62
 go_wp2_with (go_at_call 117; refine (copyCheck_v hp hrow hown0 hne0).mono ?_)
 rintro e w1 ⟨rfl, hbk, hown, hm1, hs1⟩
 have hne := hne0
 have c0 : w1.cell? ⟨b, 0, none⟩ = some (.pointer (some ⟨b, 0, none⟩)) := by rw [Lib.cell_of_heap hbk]; rfl
 have c1 : w1.cell? ⟨b, 1, none⟩ = some v := by rw [Lib.cell_of_heap hbk]; rfl
 go_wp2_with (at_builtin; refine wpList_aos _ rfl _ _ 43 9 rfl B 5 i0 Tryz.underlying43 Tryz.underlying9 hi hz0 hz1 hz2 _ _ _ rfl hown s rfl ?c4 ?c5 ?_)
 case c4 => omega
 case c5 => omega
 intro v' w2 hown' hgrow hfr
 have hlt : b < w1.heap.size := (Array.getElem?_eq_some_iff.1 hbk).1
 have hb2 : w2.heap[b]? = some (.cells #[.pointer (some ⟨b, 0, none⟩), v] 112 (0, 0)) := by
  rw [hgrow.block b hlt (fun e => hne e.symm)]
  exact hbk
 have d0 : w2.cell? ⟨b, 0, none⟩ = some (.pointer (some ⟨b, 0, none⟩)) := by rw [Lib.cell_of_heap hb2]; rfl
 have d1 : w2.cell? ⟨b, 1, none⟩ = some v := by rw [Lib.cell_of_heap hb2]; rfl
 have f1 : w2.frozen? ⟨b, 1, none⟩ = false := Lib.frozen_of_heap hb2 1
 obtain ⟨ao, n', cap, rfl⟩ : ∃ ao n' cap, v' = .slice ao n' cap := by
  rcases hown'.2 with ⟨hv, _⟩ | ⟨g, cap, cur, hv, _⟩
  ·exact ⟨_, _, _, hv⟩
  ·exact ⟨_, _, _, hv⟩
 go_wp2
 go_ret2
 have hr2 : Row w2 b [.pointer (some ⟨b, 0, none⟩), v] 112 := hb2
 have hset := hr2.setP (o := 1) (vs := [.slice ao n' cap]) (by simp) (fun u hu => by simp at hu; subst hu; rfl)
 have hset : w2.setCell ⟨b, 1, none⟩ (.slice ao n' cap) = w2.setRow b #[.pointer (some ⟨b, 0, none⟩), .slice ao n' cap] := hset
 rw [hset]
 have ms := mod_set w2 b #[.pointer (some ⟨b, 0, none⟩), .slice ao n' cap]
 have keep : ∀ i, i < w.heap.size → i ≠ b → v.ownBlock ≠ some i → (w2.setRow b #[.pointer (some ⟨b, 0, none⟩), .slice ao n' cap]).heap[i]? = w.heap[i]? := fun i hi hib hvi =>
  (setRow_other _ _ _ _ hib).trans ((hgrow.block i (by omega) (fun e => hvi e.symm)).trans (hm1.same i hi hib))
 have hlen' : n' = (bs ++ Lib.strCells s).length ∨ True := .inr trivial
 have nb : (Value.slice ao n' cap).ownBlock ≠ some b := by
  intro hq
  obtain ⟨-, h2⟩ := hown'
  rcases h2 with ⟨hv, -⟩ | ⟨g, cap', cur, hv, -, hh, -⟩
  ·cases hv; cases hq
  ·cases hv
   cases hq
   rw [hb2] at hh
   injection hh with hh
   injection hh with _ hh
   cases hh
 refine ⟨rfl, ⟨_, hr2.set [_, _], ?_, nb, fun i hi => hfr.elim (fun q => .inl (q ▸ hi)) (fun q => .inr (by rw [q] at hi; cases hi; omega))⟩, ⟨?_, ?_, ?_, ?_, fun i hi hn => keep i hi (fun q => hn (.inl q)) (fun q => hn (.inr q))⟩, keep⟩
 ·have hown2 : w2.ownsRow B 5 1 (.slice ao n' cap) (bs ++ Lib.strCells s).length (bs ++ Lib.strCells s) := by simpa [Lib.strCells_length] using hown'
  obtain ⟨h1, h2⟩ := hown2
  refine ⟨h1, h2.imp id ?_⟩
  rintro ⟨g, cap', cur, hv, q1, q2, q3⟩
  refine ⟨g, cap', cur, hv, q1, ?_, q3⟩
  rw [setRow_other _ _ _ _ (fun e => nb (by rw [hv, e]; rfl))]
  exact q2
 ·exact hgrow.os.trans hm1.os
 ·exact hgrow.tape.trans hm1.tape
 ·exact hgrow.output.trans hm1.output
 ·have := hgrow.size; simp; omega
end Go.Proofs.YtjcnjlaelhdjeaaGreatDoor
namespace Go.Proofs.YtjcnjlaelhdjeaaGreatDoor
open Go Go.Vc Go.RowKit Go.Proofs Go.Lin Go.Chk Go.Runs Go.Code
set_option linter.unusedVariables false
structure SH (w0 : World) (F0 : Nat → Prop) (w : World) (sh g s o t : Nat) (M : Sm) (occ : Value) (L : List (Option Lfe)) (F : Nat → Prop) : Prop where
 e : EF F w g s o t M occ L
 r : SHE w sh g
 n : ¬ F sh
 m : Mod F0 w0 w
 f : ∀ i, F i → F0 i ∨ w0.heap.size ≤ i
theorem SH.put {w0 u u' : World} {F0 F : Nat → Prop} {sh g s o t k : Nat} {M : Sm} {occ : Value} {L : List (Option Lfe)} (h : SH w0 F0 u sh g s o t M occ L F) (hk : ¬ F k) (hs : sh ≠ k) (h0 : w0.heap.size ≤ k) (m : Mod (fun i => i = k) u u') : SH w0 F0 u' sh g s o t M occ L F :=
 ⟨h.e.same fun i hi => m.same i (h.e.lt hi) (fun q => hk (q ▸ hi)), ⟨h.r.row.same (m.same sh h.r.row.lt hs)⟩, h.n, h.m.tr m (fun i hi => .inr (by omega)), h.f⟩
set_option maxRecDepth 100000 in
theorem Line_load {F : Nat → Prop} {w : World} {sh g s o t : Nat} {M : Sm} {occ : Value} {L : List (Option Lfe)} (h : EF F w g s o t M occ L) (hs : SHE w sh g) (hF : ¬ F sh) (hW : M.T.1.l.length ≤ 1000000)
  (line : ByteArray) (hl : line.size ≤ 4294967296) (r : List ByteArray) (hw : wordsK line = ByteArray.mk #[108, 111, 97, 100] :: r) (p : Po) (hp : pPos r = some (p, [])) (h0 : (ldE M.seed M.cap M.T.1 M.T.2 p).2 = 0) :
  Calls Tryz.prog 14 #[.pointer (some ⟨sh, 0, none⟩), .string line] w fun e w' => ∃ tx, e = .returned (.string tx) ∧ tx = ByteArray.mk #[111, 107] ∧ ∃ F', SH w F w' sh g s o t { M with T := (ldE M.seed M.cap M.T.1 M.T.2 p).1 } occ L F' ∧ ¬ F' w.heap.size := by
 have hsl := hs.row.lt
 refine Line_core line hl h hs (fun tx u => tx = ByteArray.mk #[111, 107] ∧ ∃ F', SH w F u sh g s o t { M with T := (ldE M.seed M.cap M.T.1 M.T.2 p).1 } occ L F' ∧ ¬ F' w.heap.size) ?_ ?_ ?_ ?_
 ·rintro tx u u' ⟨rfl, F', hS, hn⟩ hm
  exact ⟨rfl, F', hS.put hn (by omega) (Nat.le_refl _) hm, hn⟩
 ·intro h1
  rw [hw] at h1
  cases h1
 ·intro c r' h1 h2
  rw [hw] at h1
  cases h1
  exact absurd (List.mem_of_getElem? (i := 1) rfl) h2
 ·intro c r' i h1 hi u B ga c1 c2 c3 c4 c5 xu hag hga r1 r2 r3 r4 r5 hcB v hv
  rw [hw] at h1
  cases h1
  have hi1 : i = 1 := (List.getElem?_inj (i := i) (j := 1) (List.getElem?_eq_some_iff.1 hi).1 cmdN_nodup).1 (hi.trans rfl)
  subst hi1
  have hv : tblV c1 = v := by simpa [cmdV] using hv
  subst hv
  refine ⟨155, #[], #[.pointer (some ⟨c1, 0, none⟩)], ⟨rfl, fun args w => enter_of Tryz.func155 (by kernel_rfl) rfl args w⟩, ?_⟩
  have hgl := hag.lt
  have hle := hag.le
  have hFga : ¬ F ga := fun q => by have := h.lt q; omega
  show Calls Tryz.prog n_lines_Shell_table_1 #[.pointer (some ⟨ga, 0, none⟩), .pointer (some ⟨c1, 0, none⟩)] u _
  refine table1_spec hag r1 (by omega) rfl _ ?_ ?_
  ·intro hno
   exact absurd hp (hno p)
  ·intro p' r'' hp' hr'' u' hm hlt
   rw [hp] at hp'
   cases hp'
   have hwu : w.heap.size ≤ u.heap.size := xu.size
   have h1 : EF F u' g s o t M occ L := (h.ext xu).same fun i hi => hm.same i (by have := h.lt hi; omega) (fun q => hFga (q ▸ hi))
   refine callV_of (by kernel_rfl) rfl ((eLoad_spec h1 hW p).mono ?_)
   rintro e u2 ⟨rfl, F', h2, ht⟩
   have hm2 := ht.mod
   have ku : ∀ i, ¬ F i → i < u'.heap.size → u2.heap[i]? = u'.heap[i]? := fun i hn hi => hm2.same i hi hn
   have nF : ∀ i, w.heap.size ≤ i → ¬ F i := fun i hi q => by have := h.lt q; omega
   refine ⟨0, ByteArray.mk #[111, 107], by rw [h0], fun i hi hi2 => ku i (nF i (by omega)) hi2, hm2.size, fun v _ => .ok, by have e : (ByteArray.mk #[111, 107]).size = 2 := rfl; rw [e]; omega, ?_⟩
   intro v hv
   have hwv : Mod F w v := (((Mod.of_ext xu).tr hm (fun i hi => .inr (by omega))).trans hm2).trans (Mod.of_ext hv)
   have hsz := hm.size
   have hsz2 := hm2.size
   have sub : ∀ i, F' i → F i ∨ u'.heap.size ≤ i := ht.sub
   refine ⟨(hv.heap (by omega)).trans ((ku _ (nF _ (Nat.le_refl _)) (by omega)).trans (hm.same _ (by omega) (by omega))), .inl ⟨_, rfl, rfl, F', ⟨h2.ext hv, ⟨hs.row.same (hwv.same sh hsl hF)⟩, fun q => (sub _ q).elim hF (fun q => by omega), hwv, fun i hi => (sub i hi).imp id (fun q => by omega)⟩, fun q => (sub _ q).elim (nF _ (Nat.le_refl _)) (fun q => by omega)⟩⟩
end Go.Proofs.YtjcnjlaelhdjeaaGreatDoor
namespace Go.Proofs.YtjcnjlaelhdjeaaGreatDoor
open Go Go.Vc Go.RowKit Go.Proofs Go.Lin Go.Chk Go.Runs Go.Code
set_option linter.unusedVariables false
theorem name_size (b : Int) : (bName b).size ≤ 1000000 := by
 unfold bName
 split
 ·exact Nat.zero_le _
 ·rw [List.getD_eq_getElem?_getD]
  cases h : nmT[b.toNat]? with
  | none => exact Nat.zero_le _
  | some x =>
    have hm := List.mem_of_getElem? h
    have : ∀ y ∈ nmT, y.size ≤ 10 := by unfold nmT; intro y hy; simp at hy; rcases hy with rfl | hy <;> first | decide | (repeat' (rcases hy with rfl | hy <;> first | decide | skip)) <;> (try subst hy) <;> decide
    have := this x hm
    show x.size ≤ _
    omega
set_option maxRecDepth 100000 in
theorem Line_at {F : Nat → Prop} {w : World} {sh g s o t : Nat} {M : Sm} {occ : Value} {L : List (Option Lfe)} (h : EF F w g s o t M occ L) (hs : SHE w sh g) (hF : ¬ F sh) (hnm : ∀ b, (bName b).size ≤ 1000000)
  (line : ByteArray) (hl : line.size ≤ 4294967296) (r : List ByteArray) (hw : wordsK line = ByteArray.mk #[97, 116] :: r) (c : Ce) (hp : pVec r = some (c, [])) (hc : okC c) :
  Calls Tryz.prog 14 #[.pointer (some ⟨sh, 0, none⟩), .string line] w fun e w' => ∃ tx, e = .returned (.string tx) ∧ tx = cellT (atE M.T.2 c) ∧ SH w F w' sh g s o t M occ L F := by
 have hsl := hs.row.lt
 have nw : ¬ F w.heap.size := fun q => by have := h.lt q; omega
 refine Line_core line hl h hs (fun tx u => tx = cellT (atE M.T.2 c) ∧ SH w F u sh g s o t M occ L F) ?_ ?_ ?_ ?_
 ·rintro tx u u' ⟨rfl, hS⟩ hm
  exact ⟨rfl, hS.put nw (by omega) (Nat.le_refl _) hm⟩
 ·intro h1
  rw [hw] at h1
  cases h1
 ·intro c' r' h1 h2
  rw [hw] at h1
  cases h1
  exact absurd (List.mem_of_getElem? (i := 17) rfl) h2
 ·intro c' r' i h1 hi u B ga c1 c2 c3 c4 c5 xu hag hga r1 r2 r3 r4 r5 hcB v hv
  rw [hw] at h1
  cases h1
  have hi1 : i = 17 := (List.getElem?_inj (i := i) (j := 17) (List.getElem?_eq_some_iff.1 hi).1 cmdN_nodup).1 (hi.trans rfl)
  subst hi1
  have hv : methV 104 sh = v := by simpa [cmdV] using hv
  subst hv
  refine ⟨104, #[.pointer (some ⟨sh, 0, none⟩)], #[], ⟨rfl, fun args w => enter_of Tryz.func104 (by kernel_rfl) rfl args w⟩, ?_⟩
  have hgl := hag.lt
  have hle := hag.le
  have hFga : ¬ F ga := fun q => by have := h.lt q; omega
  show Calls Tryz.prog n_lines_Shell_at #[.pointer (some ⟨sh, 0, none⟩), .pointer (some ⟨ga, 0, none⟩)] u _
  refine shAt_spec (h.ext xu) ⟨hs.row.ext xu⟩ hag hFga (by omega) hnm _ ?_ ?_
  ·intro hno
   exact absurd hp (hno c)
  ·intro c2' hp'
   rw [hp] at hp'
   cases hp'
   refine ⟨hc, fun u' hm => ?_⟩
   have hwv : Mod F w u' := (Mod.of_ext xu).tr hm (fun i hi => .inr (by omega))
   have hwu : w.heap.size ≤ u.heap.size := xu.size
   refine ⟨hm.same _ (by omega) (by omega), .inl ⟨_, rfl, rfl, (h.ext xu).same fun i hi => hm.same i (by have := h.lt hi; omega) (fun q => hFga (q ▸ hi)), ⟨hs.row.same (hwv.same sh hsl hF)⟩, hF, hwv, fun i hi => .inl hi⟩⟩
end Go.Proofs.YtjcnjlaelhdjeaaGreatDoor
namespace Go.Proofs.YtjcnjlaelhdjeaaGreatDoor
open Go Go.Vc Go.RowKit Go.Proofs Go.Lin Go.Chk Go.Runs Go.Code
set_option linter.unusedVariables false
def script0 : ByteArray := ByteArray.mk #[108, 111, 97, 100, 32, 48, 32, 48, 10, 97, 116, 32, 48, 32, 48, 32, 48]
def line1 : ByteArray := ByteArray.mk #[108, 111, 97, 100, 32, 48, 32, 48]
def line2 : ByteArray := ByteArray.mk #[97, 116, 32, 48, 32, 48, 32, 48]
def w0b : ByteArray := ByteArray.mk #[48]
theorem split0 : Lib.countB script0 (ByteArray.mk #[10]) = 1 ∧ Lib.splitB (ByteArray.mk #[10]) 0 1 script0 = [line1, line2] := ⟨by kernel_rfl, by kernel_rfl⟩
theorem words1 : wordsK line1 = [ByteArray.mk #[108, 111, 97, 100], w0b, w0b] := by kernel_rfl
theorem words2 : wordsK line2 = [ByteArray.mk #[97, 116], w0b, w0b, w0b] := by kernel_rfl
theorem pos0 : pPos [w0b, w0b] = some ((0, 0), []) := by kernel_rfl
theorem vec0 : pVec [w0b, w0b, w0b] = some ((0, 0, 0), []) := by kernel_rfl
end Go.Proofs.YtjcnjlaelhdjeaaGreatDoor
