import Derived.Test.YtalpkjfpmdpbiaaGreatDoorYA
set_option linter.all false
namespace Go.Proofs.YtalpkjfpmdpbiaaGreatDoor
open Go Go.Vc Go.RowKit Go.Proofs Go.Chk Go.Runs Go.Code Go.Que Go.Flw
set_option maxRecDepth 100000
section
variable {F F' : Nat → Prop} {w w' : World} {s o t : Nat} {M M' : Sm} {occ : Value}
theorem SF.tl (h : SF F w s o t M occ) : Tl (.func (.func n_table_Table_At) #[.pointer (some ⟨t, 0, none⟩)] #[]) (atE M.T.2) w := by
 obtain ⟨Fw, hW, -, -⟩ := h.world
 exact ⟨Fw, fun i hi => hW.lt hi, fun w' hk c hc => hW.tells hk c hc⟩
theorem q0_ok : QOk ⟨4096, 0, []⟩ := ⟨by decide, by decide, List.Pairwise.nil, List.nodup_nil⟩
theorem simNew_spec {Fw : Nat → Prop} {seed cap : Int} {T : Tb} {ch : List Go.Flw.Cg} (h : WF Fw w o t seed cap T ch) (budget : Int) : Calls Tryz.prog n_sim_New #[.pointer (some ⟨o, 0, none⟩), .int .i64 budget] w fun e w' => ∃ s F, e = .returned (.pointer (some ⟨s, 0, none⟩)) ∧ SF F w' s o t ⟨seed, cap, T, ch, ⟨4096, 0, []⟩, min (max budget 1) 64, 0, []⟩ (.func (.func n_sim_New_1) #[] #[]) ∧ Ext w w' ∧ (∀ i, F i → Fw i ∨ w.heap.size ≤ i) := by
 apply sim_New.vc
 refine (Q.New_spec 4096 w).mono ?_
 rintro e w0 ⟨g, m, rfl, hq, x0, hg, hm⟩
 refine ⟨_, rfl, fun w2 e2 => ?_⟩
 have eb : (if 64 < (if 1 > budget then 1 else budget) then 64 else (if 1 > budget then 1 else budget)) = min (max budget 1) 64 := by
  split <;> split <;> omega
 rw [eb] at e2
 have x2 : Ext w0 w2 := (Ext.rfl' _).of_alloc e2
 have hr : Row w2 w0.heap.size (smC g o ⟨seed, cap, T, ch, ⟨4096, 0, []⟩, min (max budget 1) 64, 0, []⟩ (.func (.func n_sim_New_1) #[] #[]) ⟨none, 0, 0⟩) tSim := by rw [e2]; exact Row.new w0 [_, _, _, _, _, _] _
 refine ⟨w0.heap.size, _, rfl, ⟨g, m, ⟨none, 0, 0⟩, Fw, ⟨none, 0, 0⟩, hr, hq.ext x2, q0_ok, h.ext (x0.tr x2), OwnK.nil, ?_, rfl⟩, x0.tr x2, fun i hi => ?_⟩
 ·rintro i (hi | hi | hi) hf
  ·have := h.lt hf; omega
  ·have := h.lt hf; omega
  ·cases hi
 ·have := x0.size
  rcases hi with hi | (hi | hi | hi) | hi | hi
  ·exact .inr (by omega)
  ·exact .inr (by omega)
  ·exact .inr (by omega)
  ·cases hi
  ·exact .inl hi
  ·cases hi
theorem sWorld_spec (h : SF F w s o t M occ) : Calls Tryz.prog n_sim_Sim_World #[.pointer (some ⟨s, 0, none⟩)] w fun e w' => e = .returned (.pointer (some ⟨o, 0, none⟩)) ∧ w' = w := by
 obtain ⟨g, sd, h1, -⟩ := h.row
 apply sim_Sim_World.vc
 exact ⟨_, h1.at 1 rfl, rfl, rfl⟩
theorem sWaiting_spec (h : SF F w s o t M occ) : Calls Tryz.prog n_sim_Sim_Waiting #[.pointer (some ⟨s, 0, none⟩)] w fun e w' => ∃ s' : Sl, e = .returned (.slice s'.a s'.n s'.c) ∧ OwnK w.heap.size Q.tItem 4 w' s' (M.q.l.map itv) ∧ Ext w w' := by
 obtain ⟨g, m, qs, hq, hok, ⟨sd, hr⟩, -⟩ := h.queue
 apply sim_Sim_Waiting.vc
 refine ⟨_, hr.at 0 rfl, (Q.All_spec hq hok).mono ?_⟩
 rintro e w' ⟨s', rfl, ho, x⟩
 exact ⟨s', rfl, s', rfl, ho, x⟩
theorem sOccupy_spec (h : SF F w s o t M occ) (f : Fn) (a b : Array Value) : Calls Tryz.prog n_sim_Sim_Occupy #[.pointer (some ⟨s, 0, none⟩), .func f a b] w fun e w' => e = .returned (.tuple #[]) ∧ SmRes F w s o t M (.func f a b) w' ∧ Mod (fun i => i = s) w w' := by
 obtain ⟨g, sd, hr, ho, -, -, hres⟩ := h.row
 apply sim_Sim_Occupy.vc
 obtain ⟨p1, p2⟩ := hr.put1 (j := 4) (v := .func f a b) (by simp [smC]) rfl
 refine ⟨⟨rfl, p1⟩, fun w0 e0 => ⟨rfl, ?_⟩⟩
 obtain ⟨q1, q2⟩ := p2 w0 e0
 have hso : ∀ b, sd.blk = some b → b ≠ s := fun b hb => by
  obtain ⟨cs', hr'⟩ := own_row ho (by decide) hb
  exact hr'.ne hr (by decide)
 exact ⟨hres (M' := M) rfl rfl rfl rfl rfl (q2.mono fun i _ hi => .inl hi) q1 (q2.ownK ho hso) (fun b hb => .inl hb), q2⟩
theorem sDrops_spec (h : SF F w s o t M occ) : Calls Tryz.prog n_sim_Sim_Drops #[.pointer (some ⟨s, 0, none⟩)] w fun e w' => ∃ sd : Sl, e = .returned (.slice sd.a sd.n sd.c) ∧ OwnK 0 tCe 3 w' sd (M.drops.map clv) ∧ SmRes F w s o t { M with drops := [] } occ w' ∧ Mod (fun i => i = s) w w' := by
 obtain ⟨g, sd, hr, ho, -, -, hres⟩ := h.row
 apply sim_Sim_Drops.vc
 obtain ⟨p1, p2⟩ := hr.put1 (j := 5) (v := .slice none 0 0) (by simp [smC]) rfl
 refine ⟨sd, hr.at 5 rfl, ⟨rfl, p1⟩, fun w0 e0 => ?_⟩
 obtain ⟨q1, q2⟩ := p2 w0 e0
 have hso : ∀ b, sd.blk = some b → b ≠ s := fun b hb => by
  obtain ⟨cs', hr'⟩ := own_row ho (by decide) hb
  exact hr'.ne hr (by decide)
 exact ⟨sd, rfl, q2.ownK ho hso, hres (M' := { M with drops := [] }) (sd' := ⟨none, 0, 0⟩) rfl rfl rfl rfl rfl (q2.mono fun i _ hi => .inl hi) q1 OwnK.nil (fun b hb => by cases hb), q2⟩
theorem delay_in (b : Int) : 0 ≤ delayK b ∧ delayK b ≤ 5 := by
 unfold delayK
 split
 ·decide
 ·split <;> decide
theorem wakes_ok {V : Ce → Int} {c : Ce} (hc : wideC c) : ∀ n ∈ wakesK V c, okC n := fun n hn => by
 unfold wakesK at hn
 rcases List.mem_cons.1 (List.mem_filter.1 hn).1 with rfl | h
 ·exact hc.ok
 ·exact nb_ok hc h
theorem wakes_len (V : Ce → Int) (c : Ce) : (wakesK V c).length ≤ 7 := List.length_filter_le _ _
abbrev wstep (V : Ce → Int) (now : Int) (q : QS) (n : Ce) : QS := (qadd q n (now + delayK (V n))).1
theorem wstep_lost (V : Ce → Int) (now : Int) : ∀ (l : List Ce) (q : QS), q.lost ≤ (l.foldl (wstep V now) q).lost ∧ (l.foldl (wstep V now) q).lost ≤ q.lost + l.length
 | [], q => ⟨Int.le_refl _, by simp⟩
 | n :: l, q => by
   have h1 := wstep_lost V now l (wstep V now q n)
   have h2 := qadd_lost q n (now + delayK (V n))
   have h3 : (wstep V now q n).lost = (qadd q n (now + delayK (V n))).1.lost := rfl
   simp only [List.foldl_cons, List.length_cons]
   omega
set_option maxRecDepth 100000 in
theorem wake_spec (h : SF F w s o t M occ) (c : Ce) (hc : wideC c) (hl : 0 ≤ M.q.lost ∧ M.q.lost ≤ 900000) (hnow : 0 ≤ M.now ∧ M.now ≤ 1099511627776) :
  Calls Tryz.prog n_sim_Sim_wake #[.pointer (some ⟨s, 0, none⟩), cev c] w fun e w' => e = .returned (.tuple #[]) ∧ SmRes F w s o t { M with q := wakeQ (atE M.T.2) M.now M.q c } occ w' := by
 apply sim_Sim_wake.vc
 intro w0 e0
 have x0 : Ext w w0 := (Ext.rfl' _).of_alloc e0
 have z0 : w0.heap.size = w.heap.size + 1 := by rw [e0]; simp
 clear e0
 have h0 := h.ext x0
 obtain ⟨g, sd, hr, -, hFs, -⟩ := h0.row
 obtain ⟨Fw, hW, -, -⟩ := h0.world
 refine ⟨_, hr.at 1 rfl, (wView_spec hW).mono ?_⟩
 rintro e w2 ⟨rfl, hw⟩
 subst hw
 refine ⟨_, rfl, rfl, (Wakes_spec h0.tl c hc).mono ?_⟩
 rintro e w4 ⟨s5, rfl, ho, x4⟩
 have z4 := x4.size
 have hrd := ho.rd (show 0 < 3 by decide)
 have hn5 := hrd.n
 have h4 := h0.ext x4
 have hL := wakes_len (atE M.T.2) c
 have hok := wakes_ok (V := atE M.T.2) hc
 unfold wakeQ
 generalize hLe : wakesK (atE M.T.2) c = L at *
 rw [List.length_map] at hn5
 refine ⟨s5, rfl, x4.heap (by omega), fun n x w10 => ∃ (j : Nat) (F' : Nat → Prop), x = j ∧ j + n = L.length ∧ SF F' w10 s o t { M with q := (L.take j).foldl (wstep (atE M.T.2) M.now) M.q } occ ∧ Turned F F' w4 w10, ⟨L.length, rfl, 0, F, rfl, by omega, h4, Turned.refl _ _⟩, ?_⟩
 rintro n us x w10 ⟨j, F', rfl, hj, hS, hT⟩
 have z10 := hT.mod.size
 have hF : ∀ i, F i → i < w.heap.size := fun i hi => h.lt hi
 have hrd10 : RdK w10 s5 3 (L.map clv) := hT.mod.rdK (by decide) hrd fun _ b hb hf => by
  have := (ho.own.lt hb).1
  have := hF b hf
  omega
 refine Br.mk (fun hb => ?_) (fun hb => ?_)
 ·simp only [decide_eq_true_eq] at hb
  obtain ⟨y, hy⟩ := get_lt (l := L) (i := j) (by omega)
  have oky := hok y (List.mem_of_getElem? hy)
  have hy' : (L.map clv)[j]? = some (clv y) := by rw [List.getElem?_map, hy]; rfl
  have htk : L.take (j + 1) = L.take j ++ [y] := by rw [List.take_add_one, hy]; rfl
  have hlost := wstep_lost (atE M.T.2) M.now (L.take j) M.q
  have hltk : (L.take j).length ≤ 7 := by rw [List.length_take]; omega
  generalize hqj : (L.take j).foldl (wstep (atE M.T.2) M.now) M.q = qj at *
  refine ⟨hrd10.inB (i := (j : Int)) (by decide) (by omega) hb, _, _, _, hrd10.loadL hy', fun w15 e15 w16 e16 => ?_⟩
  have x16 : Ext w10 w16 := ((Ext.rfl' _).of_alloc e15).of_setRow e16 (Nat.le_refl _)
  have z16 : w16.heap.size = w10.heap.size + 1 := by rw [e16, e15]; simp
  have hb16 : Row w16 w10.heap.size (clv y) tCe := by rw [e16]; exact Row.set (by rw [e15]; exact Row.new w10 [_, _, _] _) _
  clear e15 e16
  have xd := x16.tr (Ext.dr w16)
  have zd : w16.drew.heap.size = w16.heap.size := rfl
  have hS16 := hS.ext xd
  obtain ⟨g', m, qs, hq, hqok, ⟨sd', hr'⟩, hsub, hres⟩ := hS16.queue
  refine ⟨_, hr'.at 0 rfl, _, hr'.at 3 rfl, callV_mono' (hS16.tl.at oky) ?_⟩
  rintro e w19 ⟨rfl, x19⟩
  have z19 := x19.size
  have hr19 := hr'.ext x19
  have hb19 := (hb16.ext (Ext.dr w16)).ext x19
  have hd := delay_in (atE M.T.2 y)
  have wr : IntKind.wrap .i64 (M.now + delayK (atE M.T.2 y)) = M.now + delayK (atE M.T.2 y) := wrap_in (by unfold inI; omega)
  refine ⟨_, rfl, x19.heap (by omega), x19.heap (by omega), loadL1 (hr19.at 3 rfl), Lo.wv hb19, loadL1 (hr19.at 0 rfl), (Delay_spec (atE M.T.2 y) w19).mono ?_⟩
  rintro e w21 ⟨rfl, hw⟩
  subst hw
  refine ⟨_, rfl, rfl, rfl, loadL1 (hr19.at 3 rfl), Lo.wv hb19, loadL1 (hr19.at 0 rfl), ?_⟩
  rw [wr]
  refine (Q.Add_spec (hq.ext x19) hqok (by simp only at hlost ⊢; omega) y (M.now + delayK (atE M.T.2 y))).mono ?_
  rintro e w23 ⟨rfl, qs', hq', ht⟩
  have wk : IntKind.wrap .i64 ((j : Int) + 1) = ((j + 1 : Nat) : Int) := by rw [wrap_in (by unfold inI; omega)]; omega
  have ht' : Turned (Q.Foot g' m qs) (Q.Foot g' m qs') w16.drew w23 := (Turned.of_ext x19).trans ht
  obtain ⟨F2, hS2, hT2⟩ := hres hq' (hqok.add y _) ht'
  have hsF : ¬ Q.Foot g' m qs s := (hq).no_row hr' (by decide) (by decide)
  have hr23 := ht'.mod.row hr' hsF
  have nf : ∀ i, (w.heap.size ≤ i ∧ i < w4.heap.size ∨ w10.heap.size ≤ i) → i < w16.drew.heap.size → w23.heap[i]? = w21.heap[i]? := fun i h1 h2 => (hT2.mod.same i h2 (fun hf => by
   rcases h1 with ⟨h1, h1'⟩ | h1
   ·rcases hT.sub i hf with q | q
    ·have := hF i q; omega
    ·omega
   ·have := hS.lt hf; omega)).trans (x19.heap h2).symm
  refine ⟨_, rfl, nf _ (.inl (by omega)) (by omega), nf _ (.inr (by omega)) (by omega), loadL1 (hr23.at 3 rfl), n - 1, by omega, rfl, j + 1, F2, wk, by omega, ?_, (hT.trans (Turned.of_ext xd)).trans hT2⟩
  rw [htk, List.foldl_append, hqj]
  exact hS2
 ·simp only [decide_eq_false_iff_not] at hb
  rw [List.take_of_length_le (by omega)] at hS
  exact ⟨rfl, F', hS, (Turned.of_ext (x0.tr x4)).trans hT⟩
end
end Go.Proofs.YtalpkjfpmdpbiaaGreatDoor
namespace Go.Proofs.YtalpkjfpmdpbiaaGreatDoor
open Go Go.Vc Go.RowKit Go.Proofs Go.Chk Go.Runs Go.Code Go.Que Go.Flw
set_option maxRecDepth 100000
section
variable {F F' : Nat → Prop} {w w' : World} {s o t : Nat} {M M' : Sm} {occ : Value}
theorem SmRes.trans {F1 : Nat → Prop} {w1 : World} (h : Turned F F1 w w1) (k : SmRes F1 w1 s o t M occ w') : SmRes F w s o t M occ w' := by
 obtain ⟨F2, h2, t2⟩ := k
 exact ⟨F2, h2, h.trans t2⟩
structure Sok (M : Sm) (n : Nat) : Prop where
 l : 0 ≤ M.q.lost ∧ M.q.lost ≤ n
 c : M.ch.length ≤ n
 now : 0 ≤ M.now ∧ M.now ≤ 1099511627776
 d : M.drops.length ≤ n
theorem Sok.mono {n m : Nat} (h : Sok M n) (hm : n ≤ m) : Sok M m := ⟨⟨h.l.1, by have := h.l.2; omega⟩, Nat.le_trans h.c hm, h.now, Nat.le_trans h.d hm⟩
theorem wsC_len' (l : List En) (ch : List Go.Flw.Cg) (c : Ce) (b : Int) : (wsC l ch c b).length ≤ ch.length + 1 := wsC_len l ch c b
theorem wakeQ_lost (V : Ce → Int) (now : Int) (q : QS) (c : Ce) : q.lost ≤ (wakeQ V now q c).lost ∧ (wakeQ V now q c).lost ≤ q.lost + 7 := by
 have h1 := wstep_lost V now (wakesK V c) q
 have h2 := wakes_len V c
 have h3 : wakeQ V now q c = (wakesK V c).foldl (wstep V now) q := rfl
 rw [h3]
 omega
theorem Sok.edit {n : Nat} (h : Sok M n) (c : Ce) (b : Int) : Sok (editM M c b) (n + 7) := by
 have h1 := wsC_len' M.T.2 M.ch c b
 have h2 := wakeQ_lost (atE (setE M.T.2 c b).1) M.now M.q c
 have h3 := h.l
 have h4 := h.c
 unfold editM
 have h5 := h.d
 refine ⟨?_, ?_, h.now, by simp only; omega⟩
 ·simp only
  split <;> omega
 ·simp only; omega
theorem Sok.change {n : Nat} (h : Sok M n) (x : Go.Flw.Cg) : Sok (changeM M x) (n + 7) := by
 unfold changeM
 split
 ·exact h.mono (by omega)
 ·exact h.edit _ _
theorem sEdit_spec (h : SF F w s o t M occ) (c : Ce) (hc : wideC c) (b : Int) (hk : Sok M 800000) :
  Calls Tryz.prog n_sim_Sim_Edit #[.pointer (some ⟨s, 0, none⟩), cev c, .int .i64 b] w fun e w' => e = .returned (.int .i64 (setE M.T.2 c b).2) ∧ SmRes F w s o t (editM M c b) occ w' := by
 apply sim_Sim_Edit.vc
 intro w0 e0
 have x0 : Ext w w0.drew := ((Ext.rfl' _).of_alloc e0).tr (Ext.dr w0)
 have z0 : w0.drew.heap.size = w.heap.size + 1 := by show w0.heap.size = _; rw [e0]; simp
 have zd : w0.drew.heap.size = w0.heap.size := rfl
 clear e0
 have h0 := h.ext x0
 obtain ⟨g, sd, hr, -⟩ := h0.row
 obtain ⟨Fw, hW, hsub, hres⟩ := h0.world
 have hlc := hk.c
 have hll := hk.l
 refine ⟨_, (hr.at 1 rfl), (wSet_spec hW c hc.ok b (by omega)).mono ?_⟩
 rintro e w2 ⟨rfl, hw⟩
 obtain ⟨F2, h2, t2⟩ := hres hw
 have hF : ∀ {i}, w.heap.size ≤ i → i < w0.drew.heap.size → w2.heap[i]? = w0.drew.heap[i]? := fun h1 h3 => t2.mod.same _ h3 fun hf => by have := h.lt hf; omega
 unfold editM
 refine ⟨_, rfl, hF (Nat.le_refl _) (by omega), Br.mk (fun hb => ?_) (fun hb => ?_)⟩
 ·rw [if_pos (by simpa using hb)]
  refine (wake_spec h2 c hc (by simp only; omega) hk.now).mono ?_
  rintro e w4 ⟨rfl, F4, h4, t4⟩
  have hz := t2.mod.size
  have hnf : ¬ F2 w.heap.size := fun hf => by
   rcases t2.sub _ hf with q | q
   ·have := h.lt q; omega
   ·omega
  exact ⟨rfl, t4.mod.same _ (by omega) hnf, rfl, F4, h4, (Turned.of_ext x0).trans (t2.trans t4)⟩
 ·rw [if_neg (by simpa using hb)]
  exact ⟨rfl, F2, h2, (Turned.of_ext x0).trans t2⟩
theorem change_spec (h : SF F w s o t M occ) (x : Go.Flw.Cg) (hc : wideC x.1) (hk : Sok M 800000) :
  Calls Tryz.prog n_sim_Sim_change #[.pointer (some ⟨s, 0, none⟩), .agg (cgv' x).toArray] w fun e w' => e = .returned (.tuple #[]) ∧ SmRes F w s o t (changeM M x) occ w' := by
 apply sim_Sim_change.vc
 intro w0 e0
 have hb0 : Row w0 w.heap.size (cgv' x) tChg := by rw [e0]; exact Row.new w [_, _, _, _] _
 have x0 : Ext w w0.drew := ((Ext.rfl' _).of_alloc e0).tr (Ext.dr w0)
 have z0 : w0.drew.heap.size = w.heap.size + 1 := by show w0.heap.size = _; rw [e0]; simp
 clear e0
 have hb := hb0.ext (Ext.dr w0)
 have h0 := h.ext x0
 obtain ⟨g, sd, hr, -⟩ := h0.row
 obtain ⟨Fw, hW, -, -⟩ := h0.world
 refine ⟨_, (hr.at 1 rfl), (wView_spec hW).mono ?_⟩
 rintro e w2 ⟨rfl, hw⟩
 subst hw
 refine ⟨_, rfl, rfl, hb.loadL (o := 3) (fun j hj => by
  match j, hj with
  | 0, _ => rfl), hb.loadL (o := 0) (fun j hj => by
  match j, hj with
  | 0, _ => rfl
  | 1, _ => rfl
  | 2, _ => rfl), callV_mono' (h0.tl.at hc.ok) ?_⟩
 rintro e w4 ⟨rfl, x4⟩
 have z4 := x4.size
 have x04 := x0.tr x4
 unfold changeM
 refine ⟨_, rfl, x4.heap (by omega), (hb.ext x4).loadL (o := 3) (fun j hj => by
  match j, hj with
  | 0, _ => rfl), Br.mk (fun hb2 => ?_) (fun hb2 => ?_)⟩
 ·rw [if_neg (by simpa using hb2)]
  refine (sEdit_spec (h.ext x04) x.1 hc x.2 hk).mono ?_
  rintro e w6 ⟨rfl, F6, h6, t6⟩
  exact ⟨_, rfl, t6.mod.same _ (by omega) (fun hf => by have := h.lt hf; omega), rfl, F6, h6, (Turned.of_ext x04).trans t6⟩
 ·rw [if_pos (by simpa using hb2)]
  exact ⟨rfl, F, h.ext x04, Turned.of_ext x04⟩
end
end Go.Proofs.YtalpkjfpmdpbiaaGreatDoor
namespace Go.Proofs.YtalpkjfpmdpbiaaGreatDoor
open Go Go.Vc Go.RowKit Go.Proofs Go.Chk Go.Runs Go.Code Go.Que Go.Flw
set_option maxRecDepth 100000
def Oc (occ : Value) (O : Ce → Bool) (F : Nat → Prop) (w : World) : Prop := ∃ D : Nat → Prop, (∀ i, D i → i < w.heap.size ∧ ¬ F i) ∧ ∀ w', (∀ i, D i → w'.heap[i]? = w.heap[i]?) → ∀ c, okC c → callV Tryz.prog occ [cev c] w' fun e w'' => e = .returned (.bool (O c)) ∧ Ext w' w''
section
variable {F F' : Nat → Prop} {w w' : World} {s o t : Nat} {M M' : Sm} {occ : Value} {O : Ce → Bool}
theorem Oc.turned (h : Oc occ O F w) (ht : Turned F F' w w') : Oc occ O F' w' := by
 obtain ⟨D, h1, h2⟩ := h
 refine ⟨D, fun i hi => ⟨Nat.lt_of_lt_of_le (h1 i hi).1 ht.mod.size, fun hf => ?_⟩, fun w'' hk => h2 w'' fun i hi => (hk i hi).trans (ht.mod.same i (h1 i hi).1 (h1 i hi).2)⟩
 rcases ht.sub i hf with q | q
 ·exact (h1 i hi).2 q
 ·have := (h1 i hi).1; omega
theorem Oc.ext (h : Oc occ O F w) (x : Ext w w') : Oc occ O F w' := h.turned (Turned.of_ext x)
theorem Oc.at (h : Oc occ O F w) {c : Ce} (hc : okC c) : callV Tryz.prog occ [cev c] w fun e w' => e = .returned (.bool (O c)) ∧ Ext w w' := by
 obtain ⟨D, h1, h2⟩ := h
 exact h2 w (fun _ _ => rfl) c hc
theorem Sok.fold {n : Nat} : ∀ {M : Sm} (l : List Go.Flw.Cg), Sok M n → Sok (l.foldl changeM M) (n + 7 * l.length)
 | M, [], h => h
 | M, x :: l, h => (Sok.fold l (h.change x)).mono (by simp only [List.length_cons]; omega)
theorem next_len (V : Ce → Int) (c : Ce) : (nextK V c).length ≤ 4 := by
 unfold nextK sandK waterK
 split
 ·split <;> simp
 ·split
  ·split
   ·simp
   ·split
    ·simp
    ·split
     ·simp
     ·split
      ·simp
      ·rw [List.length_map]; exact List.length_filter_le _ _
  ·simp
theorem next_near {V : Ce → Int} {c : Ce} (hw : wetK (V c) = false) : ∀ x ∈ nextK V c, x.1 = c ∨ x.1 = lowK c := by
 intro x hx
 unfold nextK sandK at hx
 rw [hw] at hx
 split at hx
 ·split at hx
  ·simp at hx
   rcases hx with rfl | rfl
   ·exact .inl rfl
   ·exact .inr rfl
  ·cases hx
 ·simp at hx
set_option maxRecDepth 100000 in
theorem update_spec (h : SF F w s o t M occ) (hO : Oc occ O F w) (c : Ce) (hc : smlC c) (hw : wetK (atE M.T.2 c) = false) (hk : Sok M 700000) :
  Calls Tryz.prog n_sim_Sim_update #[.pointer (some ⟨s, 0, none⟩), cev c] w fun e w' => e = .returned (.tuple #[]) ∧ SmRes F w s o t (updM O M c) occ w' := by
 apply sim_Sim_update.vc
 have hc' := id hc
 unfold smlC at hc'
 intro w0 e0
 have x0 : Ext w w0.drew := ((Ext.rfl' _).of_alloc e0).tr (Ext.dr w0)
 have z0 : w0.drew.heap.size = w.heap.size + 1 := by show w0.heap.size = _; rw [e0]; simp
 clear e0
 have h0 := h.ext x0
 obtain ⟨g, sd, hr, hdr, -, hsdF, hres⟩ := h0.row
 obtain ⟨Fw, hW, -, -⟩ := h0.world
 refine ⟨_, (hr.at 1 rfl), (wReady_spec hW c hc.wide.ok (pos_okP (by omega) (by omega))).mono ?_⟩
 rintro e w2 ⟨rfl, x2⟩
 have z2 := x2.size
 have x02 := x0.tr x2
 have hlow : okC (lowK c) := nb_ok hc.wide (by simp [nbK])
 refine ⟨_, rfl, x2.heap (by omega), Br.mk (fun hb => ?_) (fun hb => ?_)⟩
 ·have xd := x2.tr (Ext.dr w2)
  have zd : w2.drew.heap.size = w2.heap.size := rfl
  have hnow := hk.now
  have wr : IntKind.wrap .i64 (M.now + 1) = M.now + 1 := wrap_in (by unfold inI; omega)
  obtain ⟨g', m, qs, hq, hqok, ⟨sd', hr'⟩, hsub, hresq⟩ := (h0.ext xd).queue
  refine ⟨_, hr'.at 0 rfl, _, hr'.at 3 rfl, ?_⟩
  rw [wr]
  have hll := hk.l
  refine (Q.Add_spec hq hqok (by omega) c (M.now + 1)).mono ?_
  rintro e w6 ⟨rfl, qs', hq', ht⟩
  obtain ⟨F2, hS2, hT2⟩ := hresq hq' (hqok.add c _) ht
  have hsF : ¬ Q.Foot g' m qs s := hq.no_row hr' (by decide) (by decide)
  refine ⟨_, rfl, hT2.mod.same _ (by omega) (fun hf => by have := h.lt hf; omega), loadL1 ((ht.mod.row hr' hsF).at 3 rfl), rfl, ?_⟩
  unfold updM
  rw [if_pos (by simpa using hb)]
  exact ⟨F2, hS2, (Turned.of_ext (x0.tr xd)).trans hT2⟩
 have hrdy : ¬ readyE M.T.2 c = false := by simpa using hb
 have hr2 := hr.ext x2
 refine ⟨_, (hr2.at 1 rfl), (wView_spec (hW.ext x2)).mono ?_⟩
 rintro e w9 ⟨rfl, hw9⟩
 subst hw9
 refine ⟨_, rfl, rfl, (Next_spec (h0.tl.ext x2) c hc.wide hw).mono ?_⟩
 rintro e w11 ⟨s12, rfl, ho, x11⟩
 have z11 := x11.size
 have hrd := ho.rd (show 0 < 4 by decide)
 have hn12 := hrd.n
 have hLlen := next_len (atE M.T.2) c
 have hLw : ∀ x ∈ nextK (atE M.T.2) c, wideC x.1 := fun x hx => by
  rcases next_near hw x hx with q | q
  ·rw [q]; exact hc.wide
  ·rw [q]; exact nb_wide hc (by simp [nbK])
 have hU : updM O M c = if heldM O M c = true then changeM { M with drops := M.drops ++ [lowK c] } (c, 0) else (nextK (atE M.T.2) c).foldl changeM M := by unfold updM; rw [if_neg hrdy]
 have hH : heldM O M c = (decide (atE M.T.2 c = 3) && (!(nextK (atE M.T.2) c).isEmpty && O (lowK c))) := rfl
 generalize nextK (atE M.T.2) c = L at *
 rw [List.length_map] at hn12
 refine ⟨s12, rfl, x11.heap (by omega), (Near_spec c hc.wide w11).mono ?_⟩
 rintro e w13 ⟨rfl, x13⟩
 have z13 := x13.size
 refine ⟨_, _, _, _, _, _, _, _, _, _, _, _, _, _, _, _, _, _, rfl, x13.heap (by omega), by decide, _, _, _, nb_low c, fun w35 e35 w36 e36 => ?_⟩
 have x36 : Ext w13 w36 := ((Ext.rfl' _).of_alloc e35).of_setRow e36 (Nat.le_refl _)
 have z36 : w36.heap.size = w13.heap.size + 1 := by rw [e36, e35]; simp
 clear e35 e36
 have xd := Ext.dr w36
 have zd : w36.drew.heap.size = w36.heap.size := rfl
 have x1136 := x13.tr (x36.tr xd)
 have x036 := x02.tr (x11.tr x1136)
 refine callV_mono' ((h.ext x036).tl.at hc.wide.ok) ?_
 rintro e w37 ⟨rfl, x37⟩
 have z37 := x37.size
 have x037 := x036.tr x37
 have x1137 := x1136.tr x37
 refine ⟨_, rfl, x37.heap (by omega), x37.heap (by omega), (Falls_spec (atE M.T.2 c) w37).mono ?_⟩
 rintro e w39 ⟨rfl, hw39⟩
 subst hw39
 have hr39 := hr2.ext (x11.tr x1137)
 refine ⟨_, rfl, rfl, rfl, Br.mk (fun hf => Br.mk (fun hp => ?_) (fun hp => ?_)) (fun hf => ?_)⟩
 ·refine ⟨_, hr39.at 4 rfl, callV_mono' ((hO.ext x037).at hlow) ?_⟩
  rintro e w42 ⟨rfl, x42⟩
  have z42 := x42.size
  have x042 := x037.tr x42
  have hpn : (!L.isEmpty) = true := by
   have : 0 < L.length := by simp only [decide_eq_true_eq, gt_iff_lt] at hp; omega
   cases L with
   | nil => simp at this
   | cons => rfl
  have hf3 : decide (atE M.T.2 c = 3) = true := by simpa using hf
  refine ⟨_, rfl, x42.heap (by omega), x42.heap (by omega), Br.mk (fun hh => ?_) (fun hh => ?_)⟩
  ·have hHt : heldM O M c = true := by rw [hH, hf3, hpn, hh]; rfl
   intro w44 e44
   have x44 : Ext w42 w44 := (Ext.rfl' _).of_alloc e44
   have z44 : w44.heap.size = w42.heap.size + 1 := by rw [e44]; simp
   have rch : Row w44 w42.heap.size (cgv' (c, 0)) tChg := by rw [e44]; exact Row.new w42 [_, _, _, _] _
   clear e44
   have xd44 := Ext.dr w44
   have zd44 : w44.drew.heap.size = w44.heap.size := rfl
   have x044 := x042.tr (x44.tr xd44)
   have x4444 := x2.tr ((x11.tr x1137).tr (x42.tr (x44.tr xd44)))
   obtain ⟨g2, sd2, hr44, hdr44, hFs, hsdF2, hres44⟩ := (h.ext x044).row
   refine ⟨sd2, hr44.at 5 rfl, fun w46 e46 => ?_⟩
   subst e46
   have hsn : sd2.n = M.drops.length := by have := (hdr44.rd (show 0 < 3 by decide)).n; rwa [List.length_map] at this
   have hkd := hk.d
   obtain ⟨hp8, hres8⟩ := hdr44.app1 (bytes := 24) (news := clv (lowK c)) (.cells #[.int .i64 (lowK c).1, .int .i64 (lowK c).2.1, .int .i64 (lowK c).2.2] tCe) (Nat.zero_le _) rfl (one_cl _) (by omega) (by omega)
   refine ⟨hp8, fun s47 w48 hr48 => ?_⟩
   obtain ⟨f8, ho8, hn8, x8, hk8, hblk⟩ := hres8 s47 w48 hr48
   have xa := Ext.al w44.drew (.cells #[.int .i64 (lowK c).1, .int .i64 (lowK c).2.1, .int .i64 (lowK c).2.2] tCe)
   have hsdlt : ∀ b, sd2.blk = some b → b < w.heap.size := fun b hb => h.lt (hsdF2 b hb)
   have kp : ∀ j, w.heap.size ≤ j → j < w44.drew.heap.size → w48.heap[j]? = (w44.drew.alloc (.cells #[.int .i64 (lowK c).1, .int .i64 (lowK c).2.1, .int .i64 (lowK c).2.2] tCe)).heap[j]? := fun j h1 h2 => by
    rw [hk8 j (fun hb => by have := hsdlt j hb; omega) h2, xa.heap h2]
   have hslt := h.lt hFs
   have m48 : Mod (fun j => sd2.blk = some j) w44.drew w48 := Mod.of_app x8 hk8
   have hsne : ¬ sd2.blk = some s := fun e => by
    obtain ⟨cs', hr'⟩ := own_row hdr44 (by decide) e
    exact hr'.ne hr44 (by decide) rfl
   have hr48' := m48.row hr44 hsne
   obtain ⟨p1, p2⟩ := hr48'.put1 (j := 5) (v := .slice s47.a s47.n s47.c) (by simp [smC]) rfl
   have z48 := m48.size
   have pb : ∀ j : Nat, s < j → pblk (padd (some ⟨s, 0, none⟩) 5) ≠ some j := fun j hj e => by
    rw [pblk_padd] at e
    have : s = j := by simpa [pblk] using e
    omega
   refine ⟨kp _ (by omega) (by omega), kp _ (by omega) (by omega), kp _ (by omega) (by omega), f8, ⟨rfl, p1⟩, pb _ (by omega), pb _ (by omega), pb _ (by omega), pb _ (by omega), fun w49 e49 => ?_⟩
   obtain ⟨q1, q2⟩ := p2 w49 e49
   have ho9 : ∀ b, s47.blk = some b → b ≠ s := fun b hb => by
    obtain ⟨cs', hr'⟩ := own_row ho8 (by decide) hb
    exact hr'.ne hr48' (by decide)
   have m49 : Mod (fun j => j = s ∨ sd2.blk = some j) w44.drew w49 := (m48.mono fun i _ hi => .inr hi).trans (q2.mono fun i _ hi => .inl hi)
   obtain ⟨F3, hS3, hT3⟩ := hres44 (M' := { M with drops := M.drops ++ [lowK c] }) rfl rfl rfl rfl rfl m49 q1 (by rw [List.map_append]; exact q2.ownK ho8 ho9) (fun b hb => by
    rcases hblk with e | e
    ·exact .inl (by rw [← e]; exact hb)
    ·rw [e] at hb; cases hb; exact .inr (Nat.le_succ _))
   have z49 := q2.size
   have hlit : Row w49 w44.drew.heap.size (clv (lowK c)) tCe := q2.row (Row.same (Row.new w44.drew [_, _, _] tCe) f8) (by omega)
   have hnl : ¬ F3 w44.drew.heap.size := hS3.no_row hlit off3.1 (by decide) (by decide) (by decide) (by decide) (by decide) (fun g sd r1 hb => by
    have e1 := (r1.at 5 rfl).symm.trans (q1.at 5 rfl)
    have e2 : sd.a = s47.a := by injection e1 with e1; injection e1
    have e3 : sd.blk = s47.blk := by unfold Sl.blk; rw [e2]
    rw [e3] at hb
    rcases hblk with e | e
    ·have := hsdlt _ (by rw [← e]; exact hb); omega
    ·rw [e] at hb; simp at hb)
   have hch49 : Row w49 w42.heap.size (cgv' (c, 0)) tChg := m49.row (rch.ext xd44) (fun q => by
    rcases q with q | q
    ·omega
    ·have := hsdlt _ q; omega)
   have hF3 : ∀ i, F3 i → i < w.heap.size ∨ w44.heap.size ≤ i := fun i hi => (hT3.sub i hi).imp (fun q => h.lt q) id
   refine ⟨fun n x wr => (x = 0 ∧ n = 1 ∧ wr = w49) ∨ (x = 1 ∧ n = 0 ∧ SmRes F3 w49 s o t (changeM { M with drops := M.drops ++ [lowK c] } (c, 0)) occ wr), ⟨1, rfl, rfl, rfl, rfl, .inl ⟨rfl, rfl, rfl⟩⟩, ?_⟩
   rintro n us x wr (⟨rfl, rfl, rfl⟩ | ⟨rfl, rfl, hS⟩)
   ·refine Br.mk (fun _ => ?_) (fun q => by simp at q)
    refine ⟨⟨rfl, by decide, by decide⟩, _, _, _, _, Lo.wv hch49, fun w60 e60 w61 e61 => ?_⟩
    have x61 : Ext wr w61 := ((Ext.rfl' _).of_alloc e60).of_setRow e61 (Nat.le_refl _)
    have z61 : w61.heap.size = wr.heap.size + 1 := by rw [e61, e60]; simp
    clear e60 e61
    refine (change_spec (hS3.ext x61) (c, 0) hc.wide ⟨by have := hk.l; simp only; omega, by have := hk.c; simp only; omega, hk.now, by have := hk.d; simp only [List.length_append, List.length_singleton]; omega⟩).mono ?_
    rintro e w62 ⟨rfl, F4, hS4, hT4⟩
    have nf : ∀ i, (w.heap.size ≤ i ∧ i < w44.heap.size ∨ wr.heap.size ≤ i) → i < w61.heap.size → w62.heap[i]? = w61.heap[i]? := fun i h1 h2 => hT4.mod.same i h2 fun hf => by
     rcases h1 with ⟨h1, h1'⟩ | h1
     ·rcases hF3 i hf with q | q <;> omega
     ·have := hS3.lt hf; omega
    refine ⟨rfl, nf _ (.inl (by omega)) (by omega), nf _ (.inl (by omega)) (by omega), nf _ (.inl (by omega)) (by omega), hT4.mod.same _ (by omega) hnl, nf _ (.inr (by omega)) (by omega), 0, by omega, rfl, rfl, rfl, rfl, .inr ⟨rfl, rfl, F4, hS4, (Turned.of_ext x61).trans hT4⟩⟩
   ·refine Br.mk (fun q => by simp at q) (fun _ => ?_)
    rw [hU, if_pos hHt]
    exact ⟨rfl, SmRes.trans ((Turned.of_ext x044).trans hT3) hS⟩
  ·have hHf : ¬ heldM O M c = true := by rw [hH, hh, Bool.and_false, Bool.and_false]; decide
   refine ⟨fun n x wr => ∃ (j : Nat) (F' : Nat → Prop), x = j ∧ j + n = L.length ∧ SF F' wr s o t ((L.take j).foldl changeM M) occ ∧ Turned F F' w42 wr, ⟨L.length, rfl, rfl, 0, F, rfl, by omega, h.ext x042, Turned.refl _ _⟩, ?_⟩
   rintro n us x wr ⟨j, F', rfl, hj, hS, hT⟩
   have zr := hT.mod.size
   have hzw42 := (x042).size
   have rdr : RdK wr s12 4 (L.map cgv') := hT.mod.rdK (by decide) (hrd.ext (x1137.tr x42)) fun _ b hb hf => by
    have := (ho.own.lt hb).1
    have := h.lt hf
    omega
   have nf : ∀ {w2 : World} {F2 : Nat → Prop} {w1 : World}, Ext wr w1 → Turned F' F2 w1 w2 → ∀ i, (w.heap.size ≤ i ∧ i < w42.heap.size ∨ wr.heap.size ≤ i) → i < w1.heap.size → w2.heap[i]? = w1.heap[i]? := fun x1 t2 i h1 h2 => t2.mod.same i h2 fun hf => by
    rcases h1 with ⟨h1, h1'⟩ | h1
    ·rcases hT.sub i hf with q | q
     ·have := h.lt q; omega
     ·omega
    ·have := hS.lt hf; omega
   refine Br.mk (fun hb => ?_) (fun hb => ?_)
   ·simp only [decide_eq_true_eq] at hb
    obtain ⟨y, hy⟩ := get_lt (l := L) (i := j) (by omega)
    have hy' : (L.map cgv')[j]? = some (cgv' y) := by rw [List.getElem?_map, hy]; rfl
    have htk : L.take (j + 1) = L.take j ++ [y] := by rw [List.take_add_one, hy]; rfl
    have wk : IntKind.wrap .i64 ((j : Int) + 1) = ((j + 1 : Nat) : Int) := by rw [wrap_in (by unfold inI; omega)]; omega
    refine ⟨rdr.inB (i := (j : Int)) (by decide) (by omega) hb, _, _, _, _, rdr.loadL hy', fun w86 e86 w87 e87 => ?_⟩
    have x87 : Ext wr w87 := ((Ext.rfl' _).of_alloc e86).of_setRow e87 (Nat.le_refl _)
    have z87 : w87.heap.size = wr.heap.size + 1 := by rw [e87, e86]; simp
    clear e86 e87
    refine (change_spec (hS.ext x87) y (hLw y (List.mem_of_getElem? hy)) ((hk.fold (L.take j)).mono (by rw [List.length_take]; omega))).mono ?_
    rintro e w88 ⟨rfl, F2, hS2, hT2⟩
    refine ⟨rfl, nf x87 hT2 _ (.inl (by omega)) (by omega), nf x87 hT2 _ (.inl (by omega)) (by omega), nf x87 hT2 _ (.inr (by omega)) (by omega), n - 1, by omega, rfl, rfl, j + 1, F2, wk, by omega, ?_, (hT.trans (Turned.of_ext x87)).trans hT2⟩
    rw [htk, List.foldl_append]
    exact hS2
   ·simp only [decide_eq_false_iff_not] at hb
    rw [List.take_of_length_le (by omega)] at hS
    rw [hU, if_neg hHf]
    exact ⟨rfl, F', hS, (Turned.of_ext x042).trans hT⟩
 ·have hHf : ¬ heldM O M c = true := by
   have : L = [] := by
    have : ¬ 0 < L.length := by simp only [decide_eq_false_iff_not, gt_iff_lt] at hp; omega
    exact List.length_eq_zero_iff.1 (by omega)
   rw [hH, this]; simp
  refine ⟨fun n x wr => ∃ (j : Nat) (F' : Nat → Prop), x = j ∧ j + n = L.length ∧ SF F' wr s o t ((L.take j).foldl changeM M) occ ∧ Turned F F' w39 wr, ⟨L.length, rfl, rfl, 0, F, rfl, by omega, h.ext x037, Turned.refl _ _⟩, ?_⟩
  rintro n us x wr ⟨j, F', rfl, hj, hS, hT⟩
  have zr := hT.mod.size
  have hzw39 := (x037).size
  have rdr : RdK wr s12 4 (L.map cgv') := hT.mod.rdK (by decide) (hrd.ext x1137) fun _ b hb hf => by
   have := (ho.own.lt hb).1
   have := h.lt hf
   omega
  have nf : ∀ {w2 : World} {F2 : Nat → Prop} {w1 : World}, Ext wr w1 → Turned F' F2 w1 w2 → ∀ i, (w.heap.size ≤ i ∧ i < w39.heap.size ∨ wr.heap.size ≤ i) → i < w1.heap.size → w2.heap[i]? = w1.heap[i]? := fun x1 t2 i h1 h2 => t2.mod.same i h2 fun hf => by
   rcases h1 with ⟨h1, h1'⟩ | h1
   ·rcases hT.sub i hf with q | q
    ·have := h.lt q; omega
    ·omega
   ·have := hS.lt hf; omega
  refine Br.mk (fun hb => ?_) (fun hb => ?_)
  ·simp only [decide_eq_true_eq] at hb
   obtain ⟨y, hy⟩ := get_lt (l := L) (i := j) (by omega)
   have hy' : (L.map cgv')[j]? = some (cgv' y) := by rw [List.getElem?_map, hy]; rfl
   have htk : L.take (j + 1) = L.take j ++ [y] := by rw [List.take_add_one, hy]; rfl
   have wk : IntKind.wrap .i64 ((j : Int) + 1) = ((j + 1 : Nat) : Int) := by rw [wrap_in (by unfold inI; omega)]; omega
   refine ⟨rdr.inB (i := (j : Int)) (by decide) (by omega) hb, _, _, _, _, rdr.loadL hy', fun w86 e86 w87 e87 => ?_⟩
   have x87 : Ext wr w87 := ((Ext.rfl' _).of_alloc e86).of_setRow e87 (Nat.le_refl _)
   have z87 : w87.heap.size = wr.heap.size + 1 := by rw [e87, e86]; simp
   clear e86 e87
   refine (change_spec (hS.ext x87) y (hLw y (List.mem_of_getElem? hy)) ((hk.fold (L.take j)).mono (by rw [List.length_take]; omega))).mono ?_
   rintro e w88 ⟨rfl, F2, hS2, hT2⟩
   refine ⟨rfl, nf x87 hT2 _ (.inl (by omega)) (by omega), nf x87 hT2 _ (.inl (by omega)) (by omega), nf x87 hT2 _ (.inr (by omega)) (by omega), n - 1, by omega, rfl, rfl, j + 1, F2, wk, by omega, ?_, (hT.trans (Turned.of_ext x87)).trans hT2⟩
   rw [htk, List.foldl_append]
   exact hS2
  ·simp only [decide_eq_false_iff_not] at hb
   rw [List.take_of_length_le (by omega)] at hS
   rw [hU, if_neg hHf]
   exact ⟨rfl, F', hS, (Turned.of_ext x037).trans hT⟩
 ·have hHf : ¬ heldM O M c = true := by
   have : ¬ atE M.T.2 c = 3 := by simpa using hf
   rw [hH, decide_eq_false this]; simp
  refine ⟨fun n x wr => ∃ (j : Nat) (F' : Nat → Prop), x = j ∧ j + n = L.length ∧ SF F' wr s o t ((L.take j).foldl changeM M) occ ∧ Turned F F' w39 wr, ⟨L.length, rfl, rfl, 0, F, rfl, by omega, h.ext x037, Turned.refl _ _⟩, ?_⟩
  rintro n us x wr ⟨j, F', rfl, hj, hS, hT⟩
  have zr := hT.mod.size
  have hzw39 := (x037).size
  have rdr : RdK wr s12 4 (L.map cgv') := hT.mod.rdK (by decide) (hrd.ext x1137) fun _ b hb hf => by
   have := (ho.own.lt hb).1
   have := h.lt hf
   omega
  have nf : ∀ {w2 : World} {F2 : Nat → Prop} {w1 : World}, Ext wr w1 → Turned F' F2 w1 w2 → ∀ i, (w.heap.size ≤ i ∧ i < w39.heap.size ∨ wr.heap.size ≤ i) → i < w1.heap.size → w2.heap[i]? = w1.heap[i]? := fun x1 t2 i h1 h2 => t2.mod.same i h2 fun hf => by
   rcases h1 with ⟨h1, h1'⟩ | h1
   ·rcases hT.sub i hf with q | q
    ·have := h.lt q; omega
    ·omega
   ·have := hS.lt hf; omega
  refine Br.mk (fun hb => ?_) (fun hb => ?_)
  ·simp only [decide_eq_true_eq] at hb
   obtain ⟨y, hy⟩ := get_lt (l := L) (i := j) (by omega)
   have hy' : (L.map cgv')[j]? = some (cgv' y) := by rw [List.getElem?_map, hy]; rfl
   have htk : L.take (j + 1) = L.take j ++ [y] := by rw [List.take_add_one, hy]; rfl
   have wk : IntKind.wrap .i64 ((j : Int) + 1) = ((j + 1 : Nat) : Int) := by rw [wrap_in (by unfold inI; omega)]; omega
   refine ⟨rdr.inB (i := (j : Int)) (by decide) (by omega) hb, _, _, _, _, rdr.loadL hy', fun w86 e86 w87 e87 => ?_⟩
   have x87 : Ext wr w87 := ((Ext.rfl' _).of_alloc e86).of_setRow e87 (Nat.le_refl _)
   have z87 : w87.heap.size = wr.heap.size + 1 := by rw [e87, e86]; simp
   clear e86 e87
   refine (change_spec (hS.ext x87) y (hLw y (List.mem_of_getElem? hy)) ((hk.fold (L.take j)).mono (by rw [List.length_take]; omega))).mono ?_
   rintro e w88 ⟨rfl, F2, hS2, hT2⟩
   refine ⟨rfl, nf x87 hT2 _ (.inl (by omega)) (by omega), nf x87 hT2 _ (.inl (by omega)) (by omega), nf x87 hT2 _ (.inr (by omega)) (by omega), n - 1, by omega, rfl, rfl, j + 1, F2, wk, by omega, ?_, (hT.trans (Turned.of_ext x87)).trans hT2⟩
   rw [htk, List.foldl_append]
   exact hS2
  ·simp only [decide_eq_false_iff_not] at hb
   rw [List.take_of_length_le (by omega)] at hS
   rw [hU, if_neg hHf]
   exact ⟨rfl, F', hS, (Turned.of_ext x037).trans hT⟩
end
end Go.Proofs.YtalpkjfpmdpbiaaGreatDoor
namespace Go.Proofs.YtalpkjfpmdpbiaaGreatDoor
open Go Go.Vc Go.RowKit Go.Proofs Go.Chk Go.Runs Go.Code Go.Que Go.Flw
set_option maxRecDepth 100000
section
variable {F F' : Nat → Prop} {w w' : World} {s o t : Nat} {M M' : Sm} {occ : Value} {O : Ce → Bool}
def Dry (O : Ce → Bool) (M : Sm) (l : List Ce) : Prop := ∀ k y, l[k]? = some y → smlC y ∧ wetK (atE ((l.take k).foldl (updM O) M).T.2 y) = false
theorem Sok.upd {n : Nat} (h : Sok M n) (O : Ce → Bool) (c : Ce) : Sok (updM O M c) (n + 40) := by
 have h1 := h.l
 have h2 := qadd_lost M.q c (M.now + 1)
 unfold updM
 split
 ·exact ⟨by simp only; omega, by have := h.c; simp only; omega, h.now, by have := h.d; simp only; omega⟩
 ·split
  ·have : Sok { M with drops := M.drops ++ [lowK c] } (n + 1) := ⟨by simp only; omega, by have := h.c; simp only; omega, h.now, by have := h.d; simp only [List.length_append, List.length_singleton]; omega⟩
   exact (this.change _).mono (by omega)
  ·have := next_len (atE M.T.2) c
   exact (h.fold _).mono (by omega)
theorem Sok.upds {n : Nat} (O : Ce → Bool) : ∀ {M : Sm} (l : List Ce), Sok M n → Sok (l.foldl (updM O) M) (n + 40 * l.length)
 | M, [], h => h
 | M, x :: l, h => (Sok.upds O l (h.upd O x)).mono (by simp only [List.length_cons]; omega)
theorem due_len {q : QS} {now b : Int} (hb : 1 ≤ b ∧ b ≤ 64) : (qdue q now b).2.length ≤ 64 := by
 unfold qdue qcount
 rw [List.length_map, List.length_take]
 omega
theorem tick_spec (h : SF F w s o t M occ) (hO : Oc occ O F w) (hd : Dry O (startM M) (dueM M)) (hk : Sok M 600000) (hb : 1 ≤ M.budget ∧ M.budget ≤ 64) :
  Calls Tryz.prog n_sim_Sim_Tick #[.pointer (some ⟨s, 0, none⟩)] w fun e w' => e = .returned (.int .i64 (dueM M).length) ∧ SmRes F w s o t (tickM O M) occ w' := by
 obtain ⟨g, sd, hr, ho, -, -, hres⟩ := h.row
 apply sim_Sim_Tick.vc
 have hnow := hk.now
 have wr : IntKind.wrap .i64 (M.now + 1) = M.now + 1 := wrap_in (by unfold inI; omega)
 have en : (if 1099511627776 < M.now + 1 then 1099511627776 else M.now + 1) = nowM M := by unfold nowM; split <;> omega
 obtain ⟨p1, p2⟩ := hr.put1 (j := 3) (v := .int .i64 (nowM M)) (by simp [smC]) rfl
 refine ⟨M.now, hr.at 3 rfl, ⟨rfl, p1⟩, fun w1 e1 => ?_⟩
 rw [wr, en] at e1
 obtain ⟨q1, q2⟩ := p2 w1 e1
 have hso : ∀ b, sd.blk = some b → b ≠ s := fun b hb => by
  obtain ⟨cs', hr'⟩ := own_row ho (by decide) hb
  exact hr'.ne hr (by decide)
 obtain ⟨F1, h1, t1⟩ := hres (M' := { M with now := nowM M }) (occ' := occ) (sd' := sd) rfl rfl rfl rfl rfl (q2.mono fun i _ hi => .inl hi) q1 (q2.ownK ho hso) (fun b hb => .inl hb)
 have xd := Ext.dr w1
 have t1d := t1.trans (Turned.of_ext xd)
 obtain ⟨g', m, qs, hq, hqok, ⟨sd', hr'⟩, hsub, hresq⟩ := (h1.ext xd).queue
 refine ⟨_, hr'.at 0 rfl, _, hr'.at 3 rfl, _, hr'.at 2 rfl, (Q.Due_spec hq hqok (nowM M) M.budget).mono ?_⟩
 rintro e w5 ⟨s6, rfl, qs', hown, hq', ht⟩
 obtain ⟨F5, h5, t5⟩ := hresq hq' (hqok.due _ _) ht
 have h5 : SF F5 w5 s o t (startM M) occ := h5
 have T5 := t1d.trans t5
 have hO5 := hO.turned T5
 have hrd := hown.rd (show 0 < 3 by decide)
 have hdl : (dueM M).length ≤ 64 := due_len hb
 have hrd : RdK w5 s6 3 ((dueM M).map clv) := hrd
 have hown : OwnK w1.drew.heap.size tCe 3 w5 s6 ((dueM M).map clv) := hown
 have hk5 : Sok (startM M) 600000 := ⟨hk.l, hk.c, by show 0 ≤ nowM M ∧ nowM M ≤ _; unfold nowM; omega, hk.d⟩
 obtain ⟨g1, sd1, r1, -, -, f1, -⟩ := (h1.ext xd).row
 have hsq : ¬ Q.Foot g' m qs s := hq.no_row hr' (by decide) (by decide)
 have r5 := ht.mod.row r1 hsq
 have hsF : ∀ b, s6.blk = some b → ¬ F5 b := fun b hb => by
  obtain ⟨cs6, hr6⟩ := own_row hown (by decide) hb
  refine h5.no_row hr6 off3.1 (by decide) (by decide) (by decide) (by decide) (by decide) (fun g sd r2 hb2 => ?_)
  have e1 := (r2.at 5 rfl).symm.trans (r5.at 5 rfl)
  have e2 : sd.a = sd1.a := by injection e1 with e1; injection e1
  have e3 : sd.blk = sd1.blk := by unfold Sl.blk; rw [e2]
  have q1 := h1.lt (f1 b (by rw [← e3]; exact hb2))
  have q2 := (hown.own.lt hb).1
  have q3 : w1.drew.heap.size = w1.heap.size := rfl
  omega
 unfold tickM
 generalize dueM M = L at *
 generalize startM M = M0 at *
 have hn6 := hrd.n
 rw [List.length_map] at hn6
 refine ⟨s6, rfl, fun n x wr => ∃ (j : Nat) (F' : Nat → Prop), x = j ∧ j + n = L.length ∧ SF F' wr s o t ((L.take j).foldl (updM O) M0) occ ∧ Turned F5 F' w5 wr, ⟨L.length, 0, F5, rfl, by omega, h5, Turned.refl _ _⟩, ?_⟩
 rintro n us x wr2 ⟨j, F', rfl, hj, hS, hT⟩
 have zr := hT.mod.size
 have rdr : RdK wr2 s6 3 (L.map clv) := hT.mod.rdK (by decide) hrd fun _ b hb hf => hsF b hb hf
 refine Br.mk (fun hb => ?_) (fun hb => ?_)
 ·simp only [decide_eq_true_eq] at hb
  obtain ⟨y, hy⟩ := get_lt (l := L) (i := j) (by omega)
  have hy' : (L.map clv)[j]? = some (clv y) := by rw [List.getElem?_map, hy]; rfl
  have htk : L.take (j + 1) = L.take j ++ [y] := by rw [List.take_add_one, hy]; rfl
  have wk : IntKind.wrap .i64 ((j : Int) + 1) = ((j + 1 : Nat) : Int) := by rw [wrap_in (by unfold inI; omega)]; omega
  obtain ⟨hsm, hwet⟩ := hd j y hy
  refine ⟨rdr.inB (i := (j : Int)) (by decide) (by omega) hb, _, _, _, rdr.loadL hy', fun w16 e16 w17 e17 => ?_⟩
  have x17 : Ext wr2 w17 := ((Ext.rfl' _).of_alloc e16).of_setRow e17 (Nat.le_refl _)
  have z17 : w17.heap.size = wr2.heap.size + 1 := by rw [e17, e16]; simp
  clear e16 e17
  refine (update_spec (hS.ext x17) ((hO5.turned hT).ext x17) y hsm hwet ((hk5.upds O (L.take j)).mono (by rw [List.length_take]; omega))).mono ?_
  rintro e w18 ⟨rfl, F2, hS2, hT2⟩
  refine ⟨rfl, hT2.mod.same _ (by omega) (fun hf => by have := hS.lt hf; omega), n - 1, by omega, j + 1, F2, wk, by omega, ?_, (hT.trans (Turned.of_ext x17)).trans hT2⟩
  rw [htk, List.foldl_append]
  exact hS2
 ·simp only [decide_eq_false_iff_not] at hb
  rw [List.take_of_length_le (by omega)] at hS
  exact ⟨by rw [hn6], F', hS, T5.trans hT⟩
theorem run_spec (N : Nat) (Ms : Nat → Sm) (most : Int) (hmost : (N : Int) ≤ most ∧ N ≤ 1000) (h : SF F w s o t (Ms 0) occ) (hO : Oc occ O F w)
  (hst : ∀ k, k < N → 0 < (Ms k).q.l.length ∧ tickM O (Ms k) = Ms (k + 1) ∧ Dry O (startM (Ms k)) (dueM (Ms k)) ∧ Sok (Ms k) 600000 ∧ 1 ≤ (Ms k).budget ∧ (Ms k).budget ≤ 64) (hend : (Ms N).q.l = []) :
  Calls Tryz.prog n_sim_Sim_Run #[.pointer (some ⟨s, 0, none⟩), .int .i64 most] w fun e w' => e = .returned (.int .i64 N) ∧ SmRes F w s o t (Ms N) occ w' := by
 apply sim_Sim_Run.vc
 refine ⟨fun n x wr => ∃ (k : Nat) (F' : Nat → Prop), x = k ∧ k + n = N ∧ SF F' wr s o t (Ms k) occ ∧ Turned F F' w wr, ⟨N, 0, F, rfl, by omega, h, Turned.refl _ _⟩, ?_⟩
 rintro n us x wr ⟨k, F', rfl, hkn, hS, hT⟩
 obtain ⟨g, m, qs, hq, hqok, ⟨sd, hr⟩, hsub, -⟩ := hS.queue
 refine ⟨_, hr.at 0 rfl, (Q.Len_spec hq).mono ?_⟩
 rintro e w7 ⟨rfl, x7⟩
 refine ⟨_, rfl, Br.mk (fun hp => Br.mk (fun hm => ?_) (fun hm => ?_)) (fun hp => ?_)⟩
 ·simp only [decide_eq_true_eq, gt_iff_lt] at hp
  by_cases hkN : k < N
  ·obtain ⟨-, e2, e3, e4, e5, e6⟩ := hst k hkN
   refine (tick_spec (hS.ext x7) ((hO.turned hT).ext x7) e3 e4 ⟨e5, e6⟩).mono ?_
   rintro e w9 ⟨rfl, F2, hS2, hT2⟩
   rw [e2] at hS2
   have wk : IntKind.wrap .i64 ((k : Int) + 1) = ((k + 1 : Nat) : Int) := by rw [wrap_in (by unfold inI; omega)]; omega
   exact ⟨_, rfl, n - 1, by omega, k + 1, F2, wk, by omega, hS2, (hT.trans (Turned.of_ext x7)).trans hT2⟩
  ·have hk' : k = N := by omega
   subst hk'
   rw [hend] at hp
   simp at hp
 ·simp only [decide_eq_false_iff_not] at hm
  simp only [decide_eq_true_eq, gt_iff_lt] at hp
  by_cases hkN : k < N
  ·exact absurd (by split <;> omega) hm
  ·have hk' : k = N := by omega
   subst hk'
   rw [hend] at hp
   simp at hp
 ·simp only [decide_eq_false_iff_not, gt_iff_lt] at hp
  have hk' : k = N := by
   by_cases hkN : k < N
   ·have := (hst k hkN).1; omega
   ·omega
  subst hk'
  exact ⟨rfl, F', hS.ext x7, hT.trans (Turned.of_ext x7)⟩
end
end Go.Proofs.YtalpkjfpmdpbiaaGreatDoor
