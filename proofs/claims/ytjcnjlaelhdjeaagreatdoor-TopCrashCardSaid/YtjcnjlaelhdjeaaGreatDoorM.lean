import Derived.Test.YtjcnjlaelhdjeaaGreatDoorL
import Derived.Shelf.Strings.Builder1
import Derived.Test.YtjcnjlaelhdjeaaGreatDoorG
import Derived.Test.YtjcnjlaelhdjeaaGreatDoorE
set_option linter.all false
namespace Go.Proofs.YtjcnjlaelhdjeaaGreatDoor
open Go Go.Vc Go.RowKit Go.Proofs Go.Lin
set_option linter.unusedVariables false
theorem copyCheck_v {w : World} {B b : Nat} {p : Option Addr} {v : Value} {bs : LV} (hp : p = none ∨ p = pzq b) (hr : Row w b [.pointer p, v] 112) (hown : w.ownsRow B 5 1 v bs.length bs) (hne : v.ownBlock ≠ some b) :
  Cal 117 #[b] w fun e w' => e = tqq ∧ Row w' b [b, v] 112 ∧ w'.ownsRow B 5 1 v bs.length bs ∧ Mod (fun i => i = b) w w' ∧ w'.heap.size = w.heap.size := by
 refine (copyCheck_spec hr hp).mono ?_
 rintro e w' ⟨rfl, hr', hm, hs⟩
 refine ⟨rfl, hr', ?_, hm, hs⟩
 obtain ⟨h1, h2⟩ := hown
 refine ⟨h1, h2.imp id ?_⟩
 rintro ⟨g, cap, cur, rfl, q1, q2, q3⟩
 refine ⟨g, cap, cur, rfl, q1, ?_, q3⟩
 rw [hm.same g (ali22.1 q2).1 (fun e => hne (by rw [e]; rfl))]
 exact q2
theorem append_own_str {P : Program} (w : World) (base : Nat) (t u ty e : TypeId) (i : TypeInfo) (ht : P.underlying t = some (.slice e)) (hu : P.underlying u = some .string) (hi : P.info? e = some i) (hz : i.zero = some (.int .u8 0))
  (hsize : i.size = 1) (hby : i.bytes = 1) (v : Value) (n : Nat) (xs : LV) (hown : w.ownsRow base e 1 v n xs) (s : ByteArray) (hbytes : n + s.size ≤ 140737488355328) (hbase : base ≤ w) :
  ∃ v' w', (Builtin.append_ #[t, u] ty #[v, .string s]).run P w = .ok v' w' ∧ w'.ownsRow base e 1 v' (n + s.size) (xs ++ Lib.strCells s) ∧ w.grownBy w' v.ownBlock ∧ (v'.ownBlock = v.ownBlock ∨ v'.ownBlock = some w.heap.size) := by
 obtain ⟨v', w', hr, h2, h3, h4⟩ := Lib.run_append_own_string w base t u ty e i ht hu hi hz hsize hby v n xs hown s (by unfold maxLen; omega) hbytes hbase
 refine ⟨v', w', hr, h2, h3, ?_⟩
 have hxl : xs.length = n := by simpa using hown.1
 rcases hown.2 with ⟨rfl, rfl⟩ | ⟨g, cap, cur, rfl, hbg, hg, hnc, hcm, hcs, htake⟩
 ·by_cases hm : s.size = 0
  ·rw [h4.2 ⟨rfl, hm⟩]
   exact .inl rfl
  ·have q := run_append_nil_string (P := P) w t u ty e i (.int .u8 0) ht hu hi hz s omm omm (by rw [hby]; omega)
   rw [q] at hr
   cases hr
   exact .inr rfl
 ·by_cases hroom : n + s.size ≤ cap
  ·have q := Lib.run_append_room_string (P := P) w t u ty e i ht hu hi hsize g n cap cur hg s hroom omm
   rw [q] at hr
   cases hr
   exact .inl rfl
  ·have holds : ∀ j u, xs[j]? = some u → w.cell? ((⟨g, 0, none⟩ : Addr).add j) = some u := hown.cells (g := g) rfl
   have q := Lib.run_append_grow_string (P := P) w t u ty e i (.int .u8 0) ht hu hi hz ⟨g, 0, none⟩ n cap xs (by rw [hsize]; simpa using hxl) holds s omm omm (by rw [hby]; exact growslice_fits omm omm)
   rw [q] at hr
   cases hr
   exact .inr rfl
theorem wpList_aos {P : Program} (w : World) {ops : Array Oper} {rest : List Oper} {o : Oper} {a : Act} {Q : Exit → Act → World → Prop} (hgd : o.guard = none) (sl x : Operand) (t u : TypeId)
  (ho : o.op = .call { callee := .builtin .append, args := #[sl, x], argTypes := #[t, u] })
  (base : Nat) (e : TypeId) (i : TypeInfo) (ht : P.underlying t = some (.slice e)) (hu : P.underlying u = some .string) (hi : P.info? e = some i) (hz : i.zero = some (.int .u8 0))
  (hsize : i.size = 1) (hby : i.bytes = 1) (v : Value) (n : Nat) (xs : LV) (hs : a.eval sl = v) (hown : w.ownsRow base e 1 v n xs) (s : ByteArray) (hx : a.eval x = .string s)
  (hbytes : n + s.size ≤ 140737488355328) (hbase : base ≤ w)
  (h : ∀ v' w', w'.ownsRow base e 1 v' (n + s.size) (xs ++ Lib.strCells s) → w.grownBy w' v.ownBlock → (v'.ownBlock = v.ownBlock ∨ v'.ownBlock = some w.heap.size) → wpList P ops Q rest (a.put o.dst v') w') : wpList P ops Q (o :: rest) a w := by
 refine wpList_plain hgd fun K hK => ?_
 obtain ⟨v', w', hr, h2, h3, h4⟩ := append_own_str (P := P) w base t u o.type e i ht hu hi hz hsize hby v n xs hown s hbytes hbase
 unfold Oper.wp execOp
 simp only [ho, resolve, invoke, builtin, Sem.run_bind, Sem.run_pure, Result.andThen_ok, List.map_toArray, ali17, List.map_nil, hs, hx, hr]
 exact hK _ _ (h v' w' h2 h3 h4)
set_option maxHeartbeats 1000000 in
set_option maxRecDepth 100000 in
theorem WriteString_spec {w : World} {B b : Nat} {p : Option Addr} {v : Value} {bs : List Value} (s : ByteArray) (hp : p = none ∨ p = some ⟨b, 0, none⟩) (hrow : Row w b [.pointer p, v] 112) (hown0 : w.ownsRow B 5 1 v bs.length bs) (hne0 : v.ownBlock ≠ some b) (hlen : bs.length + s.size ≤ 140737488355328) (hBw : B ≤ w.heap.size) :
  Calls Tryz.prog 62 #[.pointer (some ⟨b, 0, none⟩), .string s] w fun e w' => e = .returned (.tuple #[.int .i64 s.size, .nilIface]) ∧ (∃ v' : Value, Row w' b [.pointer (some ⟨b, 0, none⟩), v'] 112 ∧ w'.ownsRow B 5 1 v' (bs ++ Lib.strCells s).length (bs ++ Lib.strCells s) ∧ v'.ownBlock ≠ some b ∧ (∀ i, v'.ownBlock = some i → v.ownBlock = some i ∨ w.heap.size ≤ i)) ∧ Mod (fun i => i = b ∨ v.ownBlock = some i) w w' ∧ ∀ i, i < w.heap.size → i ≠ b → v.ownBlock ≠ some i → w'.heap[i]? = w.heap[i]? := by
 have X := Tryz.Builder_Extra_169
 obtain ⟨i0, hi, hz0, hz1, hz2⟩ := info_parts X.infoByte
 have t72 := Tryz.underlying112; have a72 := Tryz.isAgg112; have z72 := Tryz.sizeOf112; have v72 := Tryz.zeroValue112; have u72 := run_underlying t72
 have t70 := Tryz.underlying110; have a70 := Tryz.isAgg110; have z70 := Tryz.sizeOf110; have v70 := Tryz.zeroValue110; have u70 := run_underlying t70
 have t37 := Tryz.underlying43; have a37 := Tryz.isAgg43; have z37 := Tryz.sizeOf43; have v37 := Tryz.zeroValue43; have u37 := run_underlying t37
 have t3 := Tryz.underlying3; have a3 := Tryz.isAgg3; have z3 := Tryz.sizeOf3; have v3 := Tryz.zeroValue3; have u3 := run_underlying t3
 have t9 := Tryz.underlying9; have a9 := Tryz.isAgg9; have z9 := Tryz.sizeOf9; have v9 := Tryz.zeroValue9; have u9 := run_underlying t9
 have t5 := Tryz.underlying5; have a5 := Tryz.isAgg5; have z5 := Tryz.sizeOf5; have v5 := Tryz.zeroValue5; have u5 := run_underlying t5
 have e240 : ∀ args w, (callFunc 117 args).run Tryz.prog w = .ok (.enter 117 args) w := fun args w => enter_of Tryz.func117 (by kernel_rfl) rfl args w
 go_enter Tryz.func62, Tryz.ntmps62
 go_wp2_with (go_at_call 117; refine (copyCheck_v hp hrow hown0 hne0).mono ?_)
 rintro e w1 ⟨rfl, hbk, hown, hm1, hs1⟩
 have hne := hne0
 have c0 : w1.cell? ⟨b, 0, none⟩ = some (.pointer (some ⟨b, 0, none⟩)) := by rw [Lib.cell_of_heap hbk]; rfl
 have c1 : w1.cell? ⟨b, 1, none⟩ = some v := by rw [Lib.cell_of_heap hbk]; rfl
 go_wp2_with (at_builtin; refine wpList_aos _ rfl _ _ 43 9 rfl B 5 i0 Tryz.underlying43 Tryz.underlying9 hi hz0 hz1 hz2 _ _ _ rfl hown s rfl ?c4 ?c5 ?_)
 case c4 => omega
 case c5 => omega
 intro v' w2 hown' hgrow hfr
 have hlt : b < w1.heap.size := (Array.getElem?_eq_some_iff.1 hbk).1
 have hb2 : w2.heap[b]? = some (.cells #[.pointer (some ⟨b, 0, none⟩), v] 112 (0, 0)) := by
  rw [hgrow.block b hlt (fun e => hne e.symm)]
  exact hbk
 have d0 : w2.cell? ⟨b, 0, none⟩ = some (.pointer (some ⟨b, 0, none⟩)) := by rw [Lib.cell_of_heap hb2]; rfl
 have d1 : w2.cell? ⟨b, 1, none⟩ = some v := by rw [Lib.cell_of_heap hb2]; rfl
 have f1 : w2.frozen? ⟨b, 1, none⟩ = false := Lib.frozen_of_heap hb2 1
 obtain ⟨ao, n', cap, rfl⟩ : ∃ ao n' cap, v' = .slice ao n' cap := by
  rcases hown'.2 with ⟨hv, _⟩ | ⟨g, cap, cur, hv, _⟩
  ·exact ⟨_, _, _, hv⟩
  ·exact ⟨_, _, _, hv⟩
 go_wp2
 go_ret2
 have hr2 : Row w2 b [.pointer (some ⟨b, 0, none⟩), v] 112 := hb2
 have hset := hr2.setP (o := 1) (vs := [.slice ao n' cap]) (by simp) (fun u hu => by simp at hu; subst hu; rfl)
 have hset : w2.setCell ⟨b, 1, none⟩ (.slice ao n' cap) = w2.setRow b #[.pointer (some ⟨b, 0, none⟩), .slice ao n' cap] := hset
 rw [hset]
 have ms := mod_set w2 b #[.pointer (some ⟨b, 0, none⟩), .slice ao n' cap]
 have keep : ∀ i, i < w.heap.size → i ≠ b → v.ownBlock ≠ some i → (w2.setRow b #[.pointer (some ⟨b, 0, none⟩), .slice ao n' cap]).heap[i]? = w.heap[i]? := fun i hi hib hvi =>
  (setRow_other _ _ _ _ hib).trans ((hgrow.block i (by omega) (fun e => hvi e.symm)).trans (hm1.same i hi hib))
 have hlen' : n' = (bs ++ Lib.strCells s).length ∨ True := .inr trivial
 have nb : (Value.slice ao n' cap).ownBlock ≠ some b := by
  intro hq
  obtain ⟨-, h2⟩ := hown'
  rcases h2 with ⟨hv, -⟩ | ⟨g, cap', cur, hv, -, hh, -⟩
  ·cases hv; cases hq
  ·cases hv
   cases hq
   rw [hb2] at hh
   injection hh with hh
   injection hh with _ hh
   cases hh
 refine ⟨rfl, ⟨_, hr2.set [_, _], ?_, nb, fun i hi => hfr.elim (fun q => .inl (q ▸ hi)) (fun q => .inr (by rw [q] at hi; cases hi; omega))⟩, ⟨?_, ?_, ?_, ?_, fun i hi hn => keep i hi (fun q => hn (.inl q)) (fun q => hn (.inr q))⟩, keep⟩
 ·have hown2 : w2.ownsRow B 5 1 (.slice ao n' cap) (bs ++ Lib.strCells s).length (bs ++ Lib.strCells s) := by simpa [Lib.strCells_length] using hown'
  obtain ⟨h1, h2⟩ := hown2
  refine ⟨h1, h2.imp id ?_⟩
  rintro ⟨g, cap', cur, hv, q1, q2, q3⟩
  refine ⟨g, cap', cur, hv, q1, ?_, q3⟩
  rw [setRow_other _ _ _ _ (fun e => nb (by rw [hv, e]; rfl))]
  exact q2
 ·exact hgrow.os.trans hm1.os
 ·exact hgrow.tape.trans hm1.tape
 ·exact hgrow.output.trans hm1.output
 ·have := hgrow.size; simp; omega
end Go.Proofs.YtjcnjlaelhdjeaaGreatDoor
namespace Go.Proofs.YtjcnjlaelhdjeaaGreatDoor
open Go Go.Vc Go.RowKit Go.Proofs Go.Lin Go.Chk Go.Runs Go.Code
set_option linter.unusedVariables false
structure SH (w0 : World) (F0 : Nat → Prop) (w : World) (sh g s o t : Nat) (M : Sm) (occ : Value) (L : List (Option Lfe)) (F : Nat → Prop) : Prop where
 e : EF F w g s o t M occ L
 r : SHE w sh g
 n : ¬ F sh
 m : Mod F0 w0 w
 f : ∀ i, F i → F0 i ∨ w0.heap.size ≤ i
theorem SH.put {w0 u u' : World} {F0 F : Nat → Prop} {sh g s o t k : Nat} {M : Sm} {occ : Value} {L : List (Option Lfe)} (h : SH w0 F0 u sh g s o t M occ L F) (hk : ¬ F k) (hs : sh ≠ k) (h0 : w0.heap.size ≤ k) (m : Mod (fun i => i = k) u u') : SH w0 F0 u' sh g s o t M occ L F :=
 ⟨h.e.same fun i hi => m.same i (h.e.lt hi) (fun q => hk (q ▸ hi)), ⟨h.r.row.same (m.same sh h.r.row.lt hs)⟩, h.n, h.m.tr m (fun i hi => .inr omm), h.f⟩
set_option maxRecDepth 100000 in
theorem Line_load {F : Nat → Prop} {w : World} {sh g s o t : Nat} {M : Sm} {occ : Value} {L : List (Option Lfe)} (h : EF F w g s o t M occ L) (hs : SHE w sh g) (hF : ¬ F sh) (hW : M.T.1.l.length ≤ 1000000)
  (line : ByteArray) (hl : line.size ≤ 4294967296) (r : List ByteArray) (hw : wordsK line = ByteArray.mk #[108, 111, 97, 100] :: r) (p : Po) (hp : pPos r = some (p, [])) (h0 : (ldE M.seed M.cap M.T.1 M.T.2 p).2 = 0) :
  Cal 14 #[sh, .string line] w fun e w' => ∃ tx, e = Value.string tx ∧ tx = ByteArray.mk #[111, 107] ∧ ∃ F', SH w F w' sh g s o t { M with T := (ldE M.seed M.cap M.T.1 M.T.2 p).1 } occ L F' ∧ ¬ F' w := by
 have hsl := hs.row.lt
 refine Line_core line hl h hs (fun tx u => tx = ByteArray.mk #[111, 107] ∧ ∃ F', SH w F u sh g s o t { M with T := (ldE M.seed M.cap M.T.1 M.T.2 p).1 } occ L F' ∧ ¬ F' w) ?_ ?_ ?_ ?_
 ·rintro tx u u' ⟨rfl, F', hS, hn⟩ hm
  exact ⟨rfl, F', hS.put hn omm (ali34 _) hm, hn⟩
 ·intro h1
  rw [hw] at h1
  cases h1
 ·intro c r' h1 h2
  rw [hw] at h1
  cases h1
  exact absurd (ali00 (i := 1) rfl) h2
 ·intro c r' i h1 hi u B ga c1 c2 c3 c4 c5 xu hag hga r1 r2 r3 r4 r5 hcB v hv
  rw [hw] at h1
  cases h1
  have hi1 : i = 1 := (List.getElem?_inj (i := i) (j := 1) (ali03.1 hi).1 cmdN_nodup).1 (hi.trans rfl)
  subst hi1
  have hv : tblV c1 = v := by simpa [cmdV] using hv
  subst hv
  refine ⟨155, #[], #[c1], ⟨rfl, fun args w => enter_of Tryz.func155 (by kernel_rfl) rfl args w⟩, ?_⟩
  have hgl := hag.lt
  have hle := hag.le
  have hFga : ¬ F ga := fun q => by have := h.lt q; omega
  show Cal 155 #[ga, c1] u _
  refine table1_spec hag r1 omm rfl _ ?_ ?_
  ·intro hno
   exact absurd hp (hno p)
  ·intro p' r'' hp' hr'' u' hm hlt
   rw [hp] at hp'
   cases hp'
   have hwu : w.heap.size ≤ u.heap.size := xu.size
   have h1 : EF F u' g s o t M occ L := (h.ext xu).same fun i hi => hm.same i (by have := h.lt hi; omega) (fun q => hFga (q ▸ hi))
   refine callV_of (by kernel_rfl) rfl ((eLoad_spec h1 hW p).mono ?_)
   rintro e u2 ⟨rfl, F', h2, ht⟩
   have hm2 := ht.mod
   have ku : ∀ i, ¬ F i → i < u'.heap.size → u2.heap[i]? = u'.heap[i]? := fun i hn hi => hm2.same i hi hn
   have nF : ∀ i, w.heap.size ≤ i → ¬ F i := fun i hi q => by have := h.lt q; omega
   refine ⟨0, ByteArray.mk #[111, 107], by rw [h0], fun i hi hi2 => ku i (nF i omm) hi2, hm2.size, fun v _ => .ok, by have e : (ByteArray.mk #[111, 107]).size = 2 := rfl; rw [e]; omega, ?_⟩
   intro v hv
   have hwv : Mod F w v := (((Mod.of_ext xu).tr hm (fun i hi => .inr omm)).trans hm2).trans (Mod.of_ext hv)
   have hsz := hm.size
   have hsz2 := hm2.size
   have sub : ∀ i, F' i → F i ∨ u'.heap.size ≤ i := ht.sub
   refine ⟨(hv.heap omm).trans ((ku _ (nF _ (ali34 _)) omm).trans (hm.same _ omm omm)), .inl ⟨_, rfl, rfl, F', ⟨h2.ext hv, ⟨hs.row.same (hwv.same sh hsl hF)⟩, fun q => (sub _ q).elim hF (fun q => by omega), hwv, fun i hi => (sub i hi).imp id (fun q => by omega)⟩, fun q => (sub _ q).elim (nF _ (ali34 _)) (fun q => by omega)⟩⟩
end Go.Proofs.YtjcnjlaelhdjeaaGreatDoor
namespace Go.Proofs.YtjcnjlaelhdjeaaGreatDoor
open Go Go.Vc Go.RowKit Go.Proofs Go.Lin Go.Chk Go.Runs Go.Code
set_option linter.unusedVariables false
theorem name_size (b : Int) : (bName b).size ≤ 1000000 := by
 unfold bName
 split
 ·exact alj66 _
 ·rw [ali05]
  cases h : nmT[b.toNat]? with
  | none => exact alj66 _
  | some x =>
    have hm := ali00 h
    have : ∀ y ∈ nmT, y.size ≤ 10 := by unfold nmT; intro y hy; simp at hy; rcases hy with rfl | hy <;> first | decide | (repeat' (rcases hy with rfl | hy <;> first | decide | skip)) <;> (try subst hy) <;> decide
    have := this x hm
    show x.size ≤ _
    omega
set_option maxRecDepth 100000 in
theorem Line_at {F : Nat → Prop} {w : World} {sh g s o t : Nat} {M : Sm} {occ : Value} {L : List (Option Lfe)} (h : EF F w g s o t M occ L) (hs : SHE w sh g) (hF : ¬ F sh) (hnm : ∀ b, (bName b).size ≤ 1000000)
  (line : ByteArray) (hl : line.size ≤ 4294967296) (r : List ByteArray) (hw : wordsK line = ByteArray.mk #[97, 116] :: r) (c : Ce) (hp : pVec r = some (c, [])) (hc : okC c) :
  Cal 14 #[sh, .string line] w fun e w' => ∃ tx, e = Value.string tx ∧ tx = cellT (atE M.T.2 c) ∧ SH w F w' sh g s o t M occ L F := by
 have hsl := hs.row.lt
 have nw : ¬ F w := fun q => by have := h.lt q; omega
 refine Line_core line hl h hs (fun tx u => tx = cellT (atE M.T.2 c) ∧ SH w F u sh g s o t M occ L F) ?_ ?_ ?_ ?_
 ·rintro tx u u' ⟨rfl, hS⟩ hm
  exact ⟨rfl, hS.put nw omm (ali34 _) hm⟩
 ·intro h1
  rw [hw] at h1
  cases h1
 ·intro c' r' h1 h2
  rw [hw] at h1
  cases h1
  exact absurd (ali00 (i := 17) rfl) h2
 ·intro c' r' i h1 hi u B ga c1 c2 c3 c4 c5 xu hag hga r1 r2 r3 r4 r5 hcB v hv
  rw [hw] at h1
  cases h1
  have hi1 : i = 17 := (List.getElem?_inj (i := i) (j := 17) (ali03.1 hi).1 cmdN_nodup).1 (hi.trans rfl)
  subst hi1
  have hv : methV 104 sh = v := by simpa [cmdV] using hv
  subst hv
  refine ⟨104, #[sh], #[], ⟨rfl, fun args w => enter_of Tryz.func104 (by kernel_rfl) rfl args w⟩, ?_⟩
  have hgl := hag.lt
  have hle := hag.le
  have hFga : ¬ F ga := fun q => by have := h.lt q; omega
  show Cal 104 #[sh, ga] u _
  refine shAt_spec (h.ext xu) ⟨hs.row.ext xu⟩ hag hFga omm hnm _ ?_ ?_
  ·intro hno
   exact absurd hp (hno c)
  ·intro c2' hp'
   rw [hp] at hp'
   cases hp'
   refine ⟨hc, fun u' hm => ?_⟩
   have hwv : Mod F w u' := (Mod.of_ext xu).tr hm (fun i hi => .inr omm)
   have hwu : w.heap.size ≤ u.heap.size := xu.size
   refine ⟨hm.same _ omm omm, .inl ⟨_, rfl, rfl, (h.ext xu).same fun i hi => hm.same i (by have := h.lt hi; omega) (fun q => hFga (q ▸ hi)), ⟨hs.row.same (hwv.same sh hsl hF)⟩, hF, hwv, fun i hi => .inl hi⟩⟩
end Go.Proofs.YtjcnjlaelhdjeaaGreatDoor
namespace Go.Proofs.YtjcnjlaelhdjeaaGreatDoor
open Go Go.Vc Go.RowKit Go.Proofs Go.Lin Go.Chk Go.Runs Go.Code
set_option linter.unusedVariables false
def script0 : ByteArray := ByteArray.mk #[108, 111, 97, 100, 32, 48, 32, 48, 10, 97, 116, 32, 48, 32, 48, 32, 48]
def line1 : ByteArray := ByteArray.mk #[108, 111, 97, 100, 32, 48, 32, 48]
def line2 : ByteArray := ByteArray.mk #[97, 116, 32, 48, 32, 48, 32, 48]
def w0b : ByteArray := ByteArray.mk #[48]
theorem split0 : Lib.countB script0 (ByteArray.mk #[10]) = 1 ∧ Lib.splitB (ByteArray.mk #[10]) 0 1 script0 = [line1, line2] := ⟨by kernel_rfl, by kernel_rfl⟩
theorem words1 : wordsK line1 = [ByteArray.mk #[108, 111, 97, 100], w0b, w0b] := by kernel_rfl
theorem words2 : wordsK line2 = [ByteArray.mk #[97, 116], w0b, w0b, w0b] := by kernel_rfl
theorem pos0 : pPos [w0b, w0b] = some ((0, 0), []) := by kernel_rfl
theorem vec0 : pVec [w0b, w0b, w0b] = some ((0, 0, 0), []) := by kernel_rfl
end Go.Proofs.YtjcnjlaelhdjeaaGreatDoor
namespace Go.Proofs.YtjcnjlaelhdjeaaGreatDoor
open Go Go.Vc Go.RowKit Go.Proofs Go.Lin Go.Chk Go.Runs Go.Code
set_option linter.unusedVariables false
theorem own_same {w w' : World} {B n : Nat} {v : Value} {xs : LV} (h : w.ownsRow B 5 1 v n xs) (hk : ∀ i, v.ownBlock = some i → w'.heap[i]? = w.heap[i]?) : w'.ownsRow B 5 1 v n xs := by
 obtain ⟨h1, h2⟩ := h
 refine ⟨h1, h2.imp id ?_⟩
 rintro ⟨g, cap, cur, rfl, q1, q2, q3⟩
 exact ⟨g, cap, cur, rfl, q1, (hk g rfl).trans q2, q3⟩
theorem own_ge {w : World} {B n : Nat} {v : Value} {xs : LV} (h : w.ownsRow B 5 1 v n xs) {i : Nat} (hi : v.ownBlock = some i) : B ≤ i ∧ i < w ∧ ∃ cs, w.heap[i]? = some (.cells cs 5 (0, 0)) := by
 obtain ⟨-, h2⟩ := h
 rcases h2 with ⟨rfl, -⟩ | ⟨g, cap, cur, rfl, q1, q2, -⟩
 ·cases hi
 ·cases hi
  exact ⟨q1, (ali22.1 q2).1, _, q2⟩
theorem rdk_strs {w : World} {a : Nat} {xs : List ByteArray} (h : Row w a (xs.map Value.string) 9) : RdK w ⟨pzq a, xs.length, xs.length⟩ 1 (xs.map sv) := by
 refine ⟨(ali01 _).symm, fun q hq => ?_, fun i q hi j v hj => ?_⟩
 ·obtain ⟨t, -, rfl⟩ := ali06.1 hq
  rfl
 ·rw [ali02] at hi
  obtain ⟨t, ht, rfl⟩ := alj68.1 hi
  cases j with
  | succ j => simp at hj
  | zero =>
    simp at hj
    subst hj
    rw [padd_row, h.ld, ali02]
    simp [ht]
def toldL (L : List ByteArray) (p : Nat) : Prop := p < 100 ∧ ∃ l, L[p]? = some l ∧ wordsK l ≠ []
open Classical in
noncomputable def outL (L : List ByteArray) (T : Nat → ByteArray) : Nat → List UInt8
 | 0 => []
 | p + 1 => outL L T p ++ if toldL L p then bl (T p) ++ [10] else []
theorem outL_yes {L : List ByteArray} {T : Nat → ByteArray} {p : Nat} (h : toldL L p) : outL L T (p + 1) = outL L T p ++ (bl (T p) ++ [10]) := by
 rw [outL, if_pos h]
theorem outL_no {L : List ByteArray} {T : Nat → ByteArray} {p : Nat} (h : ¬ toldL L p) : outL L T (p + 1) = outL L T p := by
 rw [outL, if_neg h, ali44]
structure Rst (w : World) (L : List ByteArray) (T : Nat → ByteArray) (I : Nat → Nat → (Nat → Prop) → World → Prop) (sh ka kb p : Nat) (F : Nat → Prop) (q : Option Addr) (v : Value) (u : World) : Prop where
 i : I sh p F u
 f : ∀ i, F i → w.heap.size ≤ i
 a : Row u ka (L.map Value.string) 9
 an : ¬ F ka
 ag : w.heap.size ≤ ka
 b : Row u kb [.pointer q, v] 112
 bn : ¬ F kb
 bg : w.heap.size ≤ kb
 pp : q = none ∨ q = pzq kb
 o : u.ownsRow w 5 1 v (outL L T p).length (Lib.byteCells (outL L T p))
 on : ∀ i, v.ownBlock = some i → ¬ F i
 x : Ext w u
 z : (outL L T p).length ≤ p * 1000001
theorem row_ty {w : World} {g : Nat} {cs : LV} {t E : TypeId} {xs : Array Value} (h : Row w g cs t) (h2 : w.heap[g]? = some (.cells xs E (0, 0))) : t = E := by
 have h : w.heap[g]? = _ := h
 rw [h] at h2
 injection h2 with h2
 injection h2
theorem Rst.ob {w : World} {L : List ByteArray} {T : Nat → ByteArray} {I : Nat → Nat → (Nat → Prop) → World → Prop} {sh a b p : Nat} {F : Nat → Prop} {pp : Option Addr} {v : Value} {u : World} (h : Rst w L T I sh a b p F pp v u) : v.ownBlock ≠ some b ∧ v.ownBlock ≠ some a := by
 refine ⟨fun q => ?_, fun q => ?_⟩
 ·obtain ⟨-, -, cs, hc⟩ := own_ge h.o q
  cases row_ty h.b hc
 ·obtain ⟨-, -, cs, hc⟩ := own_ge h.o q
  cases row_ty h.a hc
theorem Run_spec {w : World} {m : Int} (hm : w.cell? ⟨0, 0, none⟩ = some (.int .i64 m)) (script : ByteArray) (hsz : script.size < 4294967281) (L : List ByteArray) (hL : Lib.splitB (ByteArray.mk #[10]) 0 (Lib.countB script (ByteArray.mk #[10])) script = L) (hn : L.length = Lib.countB script (ByteArray.mk #[10]) + 1)
  (hls : ∀ l ∈ L, l.size ≤ 4294967296) (hlm : L.length ≤ 1000000) (T : Nat → ByteArray) (I : Nat → Nat → (Nat → Prop) → World → Prop)
  (hlt : ∀ sh p F u, I sh p F u → ∀ i, F i → i < u.heap.size)
  (hsame : ∀ sh p F u u', I sh p F u → (∀ i, F i → u'.heap[i]? = u.heap[i]?) → I sh p F u')
  (hbeg : ∀ u sh g s o t F, EF F u g s o t (M0e 1 9 200000 16) occ0 noL → SHE u sh g → ¬ F sh → ∃ F', I sh 0 F' u ∧ ∀ i, F' i → F i ∨ i = sh)
  (hskip : ∀ sh p F u, I sh p F u → ¬ toldL L p → I sh (p + 1) F u)
  (hstep : ∀ sh p F u line, I sh p F u → L[p]? = some line → p < 100 → wordsK line ≠ [] → Cal 14 #[.pointer (pzq sh), .string line] u fun e u' => e = Value.string (T p) ∧ (T p).size ≤ 1000000 ∧ ∃ F', I sh (p + 1) F' u' ∧ Mod F u u' ∧ ∀ i, F' i → F i ∨ u.heap.size ≤ i) :
  Cal 29 #[.string script] w fun e w' => e = Value.string ⟨(outL L T L.length).toArray⟩ ∧ Ext w w' := by
 apply lines_Run.vc
 refine (shNew_spec w).mono ?_
 rintro _ w0 ⟨sh, g, s, o, t, F, rfl, hE, hS, hF, x0, hFw, hshw⟩
 refine ⟨_, rfl, ?_⟩
 intro w2 e2
 have x2 : Ext w0 w2 := by rw [e2]; exact Ext.al _ _
 have z2 := hs1 e2
 have hb2 : Row w2 w0 [.pointer none, .slice none 0 0] 112 := Row.nw e2
 have hc2 : w2.cell? ⟨0, 0, none⟩ = some (.int .i64 m) := by
  have : Vc.ld w (some ⟨0, 0, none⟩) = some (.int .i64 m) := hm
  exact (x0.tr x2).ld this
 refine (Tryz.strings_Split script (ByteArray.mk #[10]) m w2 hsz hc2 dcc).mono ?_
 rintro _ w3 ⟨rfl, e3⟩
 rw [hL] at e3
 rw [← hn]
 have x3 : Ext w2 w3 := by rw [e3]; exact Ext.al _ _
 have z3 := hs1 e3
 have ha3 : Row w3 w2 (L.map Value.string) 9 := by rw [e3]; exact Row.new _ _ _
 have z0 := x0.size
 obtain ⟨F0, hI0, hF0⟩ := hbeg w3 sh g s o t F (hE.ext (x2.tr x3)) ⟨hS.row.ext (x2.tr x3)⟩ hF
 have f0 : ∀ i, F0 i → w.heap.size ≤ i ∧ i < w0.heap.size := fun i hi => (hF0 i hi).elim (fun q => ⟨hFw i q, hE.lt q⟩) (fun q => by have := hS.row.lt; omega)
 refine ⟨⟨pzq w2.heap.size, L.length, L.length⟩, rfl, x3.heap omm, ?_⟩
 refine ⟨fun n x u => ∃ p : Nat, x = (p : Int) ∧ p + n = L.length ∧ ∃ F pp v, Rst w L T I sh w2 w0.heap.size p F pp v u, ⟨L.length, 0, rfl, by omega, F0, none, .slice none 0 0, ?_⟩, ?_⟩
 ·refine ⟨hI0, fun i hi => (f0 i hi).1, ha3, fun q => by have := f0 _ q; omega, by omega, hb2.ext x3, fun q => by have := f0 _ q; omega, z0, .inl rfl, ⟨rfl, .inl ⟨rfl, rfl⟩⟩, fun i hi => (by cases hi), x0.tr (x2.tr x3), alj66 _⟩
 ·rintro n us x u ⟨p, rfl, hp, F, pp, v, h⟩
  have hob := h.ob
  apply Br.mk <;> intro c
  ·have c := of_decide_eq_true c
   have hpl : p < L.length := by simpa using c
   obtain ⟨line, hline⟩ : ∃ l, L[p]? = some l := ⟨_, ali04 hpl⟩
   have wk := wkS (j := p)
   have hrd := rdk_strs h.a
   refine ⟨hrd.inB dcc omm (by simpa using hpl), line, ?_, ?_⟩
   ·have := hrd.rd p [.string line] (by rw [ali02, hline]; rfl) 0 _ rfl
    simpa using this
   ·have skip : ∀ u', Ext u u' → ¬ toldL L p → ∃ n10, n10 < n ∧ ∃ q : Nat, (wqq ((p : Int) + 1)) = (q : Int) ∧ q + n10 = L.length ∧ ∃ F pp v, Rst w L T I sh w2 w0.heap.size q F pp v u' := by
     intro u' xu hno
     refine ⟨n - 1, by omega, p + 1, wk, by omega, F, pp, v, ?_⟩
     have eo : outL L T (p + 1) = outL L T p := outL_no hno
     exact ⟨hsame _ _ _ _ _ (hskip _ _ _ _ h.i hno) fun i hi => xu.heap (hlt _ _ _ _ h.i i hi), h.f, h.a.ext xu, h.an, h.ag, h.b.ext xu, h.bn, h.bg, h.pp, by rw [eo]; exact own_same h.o fun i hi => xu.heap (own_ge h.o hi).2.1, h.on, h.x.tr xu, by have := h.z; have e := congrArg List.length eo; omega⟩
    refine Br.mk (fun c1 => ?_) (fun c1 => skip u (Ext.rfl' _) fun q => by have := q.1; simp at c1; omega)
    have hp100 : p < 100 := by have := of_decide_eq_true c1; omega
    refine (Words_spec line u (hls _ (ali00 hline))).mono ?_
    rintro _ u1 ⟨sl, rfl, hrw, -, -, x1⟩
    refine ⟨sl, rfl, ?_⟩
    have hsn : sl.n = (wordsK line).length := by rw [hrw.n, ali01]
    refine Br.mk (fun c2 => ?_) (fun c2 => skip u1 x1 fun q => ?_)
    ·have hne : wordsK line ≠ [] := fun q => by rw [q] at hsn; simp [hsn] at c2
     have htl : toldL L p := ⟨hp100, line, hline, hne⟩
     have hFs : ∀ i, F i → i < u.heap.size := hlt _ _ _ _ h.i
     refine (hstep sh p F u1 line (hsame _ _ _ _ _ h.i fun i hi => x1.heap (hFs i hi)) hline hp100 hne).mono ?_
     rintro _ u2 ⟨rfl, hsT, F', hI', hm', hsub⟩
     have z1 := x1.size
     have z2' := hm'.size
     have hb1 := h.b.lt
     have ha1 := h.a.lt
     have kb : Row u2 w0 [.pointer pp, v] 112 := (h.b.ext x1).same (hm'.same _ omm h.bn)
     have ka : Row u2 w2 (L.map Value.string) 9 := (h.a.ext x1).same (hm'.same _ omm h.an)
     have ko : u2.ownsRow w 5 1 v (outL L T p).length (Lib.byteCells (outL L T p)) := own_same h.o fun i hi => (hm'.same _ (by have := (own_ge h.o hi).2.1; omega) (h.on i hi)).trans (x1.heap (own_ge h.o hi).2.1)
     have nF' : ∀ i, ¬ F i → i < u1.heap.size → ¬ F' i := fun i hn hi q => (hsub i q).elim hn (fun q => by omega)
     refine ⟨T p, rfl, ?_, ?_⟩
     ·have e1 : (ByteArray.mk #[10]).size = 1 := rfl
      have e2 : IntKind.i64.max = 9223372036854775807 := by decide
      rw [e1, e2]
      omega
     have hzs : (T p ++ ByteArray.mk #[10]).size = (T p).size + 1 := by rw [ByteArray.size_append]; rfl
     have hz := h.z
     refine (WriteString_spec (B := w.heap.size) (bs := Lib.byteCells (outL L T p)) (T p ++ ByteArray.mk #[10]) h.pp kb (by rw [Lib.byteCells_length]; exact ko) hob.1 (by rw [Lib.byteCells_length]; omega) (by have := h.x.size; omega)).mono ?_
     rintro _ u3 ⟨rfl, ⟨v', kb3, ko3, hne3, hfr3⟩, hm3, -⟩
     have eo : outL L T (p + 1) = outL L T p ++ bl (T p ++ ByteArray.mk #[10]) := by
      rw [outL_yes htl, bl_app]
     have ecells : Lib.byteCells (outL L T p) ++ Lib.strCells (T p ++ ByteArray.mk #[10]) = Lib.byteCells (outL L T (p + 1)) := by
      rw [eo, Lib.byteCells_append]
      rfl
     rw [ecells, Lib.byteCells_length] at ko3
     have hF'lt : ∀ i, F' i → i < u2.heap.size := hlt _ _ _ _ hI'
     have hbn' : ¬ F' w0 := nF' _ h.bn omm
     have hvn' : ∀ i, v.ownBlock = some i → ¬ F' i := fun i hi => nF' i (h.on i hi) (by have := (own_ge h.o hi).2.1; omega)
     have han' : ¬ F' w2 := nF' _ h.an omm
     refine ⟨_, _, rfl, n - 1, by omega, p + 1, wk, by omega, F', pzq w0.heap.size, v', hsame _ _ _ _ _ hI' fun i hi => hm3.same i (hF'lt i hi) (fun q => q.elim (fun q => hbn' (q ▸ hi)) (fun q => hvn' i q hi)), fun i hi => (hsub i hi).elim (h.f i) (fun q => by have := h.x.size; omega), ka.same (hm3.same _ omm (fun q => q.elim omm (fun q => hob.2 q))), han', h.ag, kb3, hbn', h.bg, .inr rfl, ko3, fun i hi => (hfr3 i hi).elim (hvn' i) (fun q hF => by have := hF'lt i hF; omega), ?_, ?_⟩
     ·refine hm3.ext (hm'.ext (h.x.tr x1) fun i hi => h.f i hi) fun i hi => ?_
      rcases hi with rfl | hi
      ·exact h.bg
      ·exact (own_ge h.o hi).1
     ·have e := congrArg List.length eo
      rw [ali07, bl_len, hzs] at e
      omega
    ·obtain ⟨-, l, hl, hne⟩ := q
     rw [hline] at hl
     cases hl
     refine hne (alj31.1 ?_)
     have : ¬ (sl.n : Int) > 0 := by simpa using c2
     omega
  ·have c := of_decide_eq_false c
   have hpn : p = L.length := by
    have : ¬ (p < L.length) := by simpa using c
    omega
   subst hpn
   have hB : Lib.IsBuilder 112 5 w.heap.size w0.heap.size (Lib.byteCells (outL L T L.length)) u := by
    have ho : u.ownsRow w 5 1 v (Lib.byteCells (outL L T L.length)).length (Lib.byteCells (outL L T L.length)) := by rw [Lib.byteCells_length]; exact h.o
    rcases h.pp with q | q
    ·exact .inl ⟨h.bg, v, by have := h.b; rw [q] at this; exact this, ho, hob.1⟩
    ·exact .inr ⟨h.bg, v, by have := h.b; rw [q] at this; exact this, ho, hob.1⟩
   refine (Tryz.Builder_String_any _ _ _ u hB h.x.size).mono ?_
   rintro _ w19 ⟨rfl, b19⟩
   exact ⟨_, rfl, rfl, h.x.trans b19⟩
end Go.Proofs.YtjcnjlaelhdjeaaGreatDoor
namespace Go.Proofs.YtjcnjlaelhdjeaaGreatDoor
open Go Go.Vc Go.RowKit Go.Proofs Go.Lin Go.Chk Go.Runs Go.Code
set_option linter.unusedVariables false
def St (M : Sm) (sh : Nat) (F : Nat → Prop) (u : World) : Prop := ∃ (g s o t : Nat) (F0 : Nat → Prop), EF F0 u g s o t M occ0 noL ∧ SHE u sh g ∧ ¬ F0 sh ∧ F = fun i => F0 i ∨ i = sh
theorem St.lt {M : Sm} {sh : Nat} {F : Nat → Prop} {u : World} (h : St M sh F u) : ∀ i, F i → i < u.heap.size := by
 obtain ⟨g, s, o, t, F0, hE, hS, hn, rfl⟩ := h
 rintro i (hi | rfl)
 ·exact hE.lt hi
 ·exact hS.row.lt
theorem St.same {M : Sm} {sh : Nat} {F : Nat → Prop} {u u' : World} (h : St M sh F u) (hk : ∀ i, F i → u'.heap[i]? = u.heap[i]?) : St M sh F u' := by
 obtain ⟨g, s, o, t, F0, hE, hS, hn, rfl⟩ := h
 exact ⟨g, s, o, t, F0, hE.same fun i hi => hk i (.inl hi), ⟨hS.row.same (hk sh (.inr rfl))⟩, hn, rfl⟩
theorem St.of_SH {w u : World} {F0 F : Nat → Prop} {sh g s o t : Nat} {M : Sm} (h : SH w F0 u sh g s o t M occ0 noL F) : St M sh (fun i => F i ∨ i = sh) u ∧ Mod (fun i => F0 i ∨ i = sh) w u ∧ ∀ i, (F i ∨ i = sh) → (F0 i ∨ i = sh) ∨ w.heap.size ≤ i :=
 ⟨⟨g, s, o, t, F, h.e, h.r, h.n, rfl⟩, h.m.mono fun i _ hi => .inl hi, fun i hi => hi.elim (fun q => (h.f i q).imp .inl id) (fun q => .inl (.inr q))⟩
theorem ld_new (seed limit room : Int) {l : List En} (hl : (l.length : Int) < limit) {p : Po} (hp : inT p) (hn : ∀ e ∈ l, e.1 ≠ p) : ldE seed limit (dk0 room) l p = ((dk0 room, l ++ [(p, made seed p, false, 0)]), 0) := by
 have hr : roomE limit (dk0 room) l = ((dk0 room, l), 0) := by unfold roomE; rw [if_pos hl]
 have hd : (ldS (dk0 room) (idK p)).1 = [] := by unfold dk0; rw [ldS_new]
 have hf : firstI (fun e : En => e.1 == p) l = -1 := firstI_none fun y hy => by simpa using hn y hy
 unfold ldE
 rw [if_neg (by simpa using hp), if_neg (by rw [hf]; decide), hr, if_neg smm]
 simp only [hd, cellsB_nil]
abbrev M1r : Sm := { M0e 1 9 200000 16 with T := (ldE 1 (M0e 1 9 200000 16).cap (M0e 1 9 200000 16).T.1 (M0e 1 9 200000 16).T.2 (0, 0)).1 }
theorem ld00' : ldE 1 9 (dk0 200000) [] (0, 0) = ((dk0 200000, [((0, 0), made 1 (0, 0), false, 0)]), 0) := ld_new 1 9 200000 (l := []) dcc dcc smm
theorem ok0 : okC (0, 0, 0) := by unfold okC inI; simp
theorem at_base1 (seed : Int) (M : List Int) (hM : M = made seed (0, 0)) : atE [(((0, 0), M, false, 0) : En)] (0, 0, 0) = 1 := by
 have h0 : M[0]? = some 1 := by
  rw [hM, made_get seed (0, 0) dcc]
  unfold ofG
  rw [if_neg dcc, if_pos (.inl dcc)]
 show kAt (0, 0) M (0, 0, 0) = 1
 have hk : inK (0, 0) (0, 0, 0) = true := by decide
 unfold kAt
 rw [hk, if_pos rfl]
 show atC M 0 = 1
 unfold atC
 rw [if_neg dcc, ali05]
 show (M[0]?).getD (-1) = 1
 rw [h0]; rfl
theorem ld00 : (ldE 1 (M0e 1 9 200000 16).cap (M0e 1 9 200000 16).T.1 (M0e 1 9 200000 16).T.2 (0, 0)).2 = 0 := by
 have e : (M0e 1 9 200000 16).cap = 9 := by decide
 rw [e]
 show (ldE 1 9 (dk0 200000) [] (0, 0)).2 = 0
 rw [ld00']
theorem at00 : atE M1r.T.2 (0, 0, 0) = 1 := by
 have e : (M0e 1 9 200000 16).cap = 9 := by decide
 show atE (ldE 1 (M0e 1 9 200000 16).cap (dk0 200000) [] (0, 0)).1.2 (0, 0, 0) = 1
 rw [e, ld00']
 exact at_base1 1 _ rfl
def out0 : ByteArray := ByteArray.mk #[111, 107, 10, 115, 116, 111, 110, 101, 10]
def T0 (p : Nat) : ByteArray := if p = 0 then ByteArray.mk #[111, 107] else cellT 1
theorem t1_stone : cellT 1 = ByteArray.mk #[115, 116, 111, 110, 101] := by kernel_rfl
theorem out_lives : outL [line1, line2] T0 2 = bl out0 := by
 have h0 : toldL [line1, line2] 0 := ⟨by decide, line1, rfl, by rw [words1]; exact List.cons_ne_nil _ _⟩
 have h1 : toldL [line1, line2] 1 := ⟨by decide, line2, rfl, by rw [words2]; exact List.cons_ne_nil _ _⟩
 rw [outL_yes h1, outL_yes h0]
 show [] ++ (bl (ByteArray.mk #[111, 107]) ++ [10]) ++ (bl (cellT 1) ++ [10]) = _
 rw [t1_stone]
 rfl
theorem run0_spec {w : World} {m : Int} (hm : w.cell? ⟨0, 0, none⟩ = some (.int .i64 m)) : Cal 29 #[.string script0] w fun e w' => e = Value.string out0 ∧ Ext w w' := by
 refine (Run_spec hm script0 dcc [line1, line2] (by rw [split0.1]; exact split0.2) (by rw [split0.1]; rfl) (fun l hl => ?_) dcc T0 (fun sh p F u => if p = 0 then St (M0e 1 9 200000 16) sh F u else if p = 1 then St M1r sh F u else ∀ i, F i → i < u.heap.size) ?_ ?_ ?_ ?_ ?_).mono ?_
 ·simp at hl
  rcases hl with rfl | rfl <;> decide
 ·intro sh p F u h
  split at h
  ·exact h.lt
  ·split at h
   ·exact h.lt
   ·exact h
 ·intro sh p F u u' h hk
  split
  ·rename_i q
   rw [if_pos q] at h
   exact h.same hk
  ·rename_i q
   rw [if_neg q] at h
   split
   ·rename_i q1
    rw [if_pos q1] at h
    exact h.same hk
   ·rename_i q1
    rw [if_neg q1] at h
    intro i hi
    have := hk i hi
    have hl := h i hi
    by_cases c : i < u'.heap.size
    ·exact c
    ·rw [Array.getElem?_eq_none omm, Array.getElem?_eq_getElem hl] at this
     cases this
 ·intro u sh g s o t F h hS hn
  exact ⟨fun i => F i ∨ i = sh, ⟨g, s, o, t, F, h, hS, hn, rfl⟩, fun i hi => hi⟩
 ·intro sh p F u h hno
  have h0 : toldL [line1, line2] 0 := ⟨by decide, line1, rfl, by rw [words1]; exact List.cons_ne_nil _ _⟩
  have h1 : toldL [line1, line2] 1 := ⟨by decide, line2, rfl, by rw [words2]; exact List.cons_ne_nil _ _⟩
  have p0 : p ≠ 0 := fun q => hno (q ▸ h0)
  have p1 : p ≠ 1 := fun q => hno (q ▸ h1)
  simp only [if_neg p0, if_neg p1] at h
  simp only [if_neg (show p + 1 ≠ 0 by omega), if_neg (show p + 1 ≠ 1 by omega)]
  exact h
 ·intro sh p F u line h hl hp hw
  have : p = 0 ∨ p = 1 := by
   have := (ali03.1 hl).1
   simp at this
   omega
  rcases this with rfl | rfl
  ·simp only [if_true] at h
   obtain ⟨g, s, o, t, F0, hE, hS, hn, rfl⟩ := h
   cases hl
   refine (Line_load hE hS hn dcc line1 dcc _ words1 (0, 0) pos0 ld00).mono ?_
   rintro e u' ⟨tx, rfl, rfl, F', hSH, -⟩
   obtain ⟨q1, q2, q3⟩ := St.of_SH hSH
   exact ⟨rfl, by decide, _, q1, q2, q3⟩
  ·simp only [if_neg (show (1 : Nat) ≠ 0 by decide), if_true] at h
   obtain ⟨g, s, o, t, F0, hE, hS, hn, rfl⟩ := h
   cases hl
   refine (Line_at hE hS hn name_size line2 dcc _ words2 (0, 0, 0) vec0 ok0).mono ?_
   rintro e u' ⟨tx, he, htx, hSH⟩
   rw [at00] at htx
   rw [htx] at he
   obtain ⟨q1, q2, q3⟩ := St.of_SH hSH
   exact ⟨he, by rw [show T0 1 = cellT 1 from rfl, t1_stone]; decide, fun i => F0 i ∨ i = sh, by simp only [if_neg (show (1 + 1 : Nat) ≠ 0 by decide), if_neg (show (1 + 1 : Nat) ≠ 1 by decide)]; exact q1.lt, q2, q3⟩
 ·rintro e w' ⟨rfl, x⟩
  refine ⟨?_, x⟩
  show Ending.returned (.string ⟨(outL [line1, line2] T0 2).toArray⟩) = _
  rw [out_lives]
end Go.Proofs.YtjcnjlaelhdjeaaGreatDoor
namespace Go.Proofs.YtjcnjlaelhdjeaaGreatDoor
open Go Go.Vc Go.RowKit Go.Proofs
set_option maxRecDepth 100000
set_option maxHeartbeats 8000000
set_option linter.unusedVariables false
variable {R : Ending → World → Prop} {w : World} {a0 a1 a2 a3 a4 a5 a6 a7 a8 a9 a0_0 a0_1 a0_2 a0_3 a0_4 a0_5 a0_6 a0_7 a0_8 a0_9 a1_0 a1_1 a1_2 a1_3 a1_4 a1_5 a1_6 a1_7 a1_8 a1_9 a2_0 a2_1 a2_2 a2_3 a2_4 a2_5 a2_6 a2_7 a2_8 a2_9 a3_0 a3_1 a3_2 a3_3 a3_4 a3_5 a3_6 a3_7 a3_8 a3_9 : Int}
theorem vec_all.vc {a0 : Value} (h :
 ∃ I0 : Nat → Int → World → Prop,
 (∃ n1, I0 n1 (0) w) ∧
 ∀ (n1 : Nat) (us2 : Nat → Value) (x3 : Int) (w4 : World), I0 n1 x3 w4 →
 Br (x3 < 3)
 (callV Tryz.prog a0 [x3] w4 (fun e w6 => ∃ (b7 : Bool), e = b7 ∧
 Br (!b7)
 (R false w6)
 (∃ n5, n5 < n1 ∧ I0 n5 ((wqq (x3 + 1))) w6)))
 (R true w4)) : Cal 215 #[a0] w R :=
 cq ⟨[(2, ⟨[(4, .int .i64)], [], []⟩)], [], []⟩ Tryz.func215 h
theorem vec_Overlap_1.vc {c0 : Addr} {c1 : Addr} (h :
 ∃ (x0 x1 x2 : Int), LoadL w.drew (padd (some c0) 0) 0 [x0, x1, x2] ∧
 ∃ (x3 x4 x5 : Int), LoadL w.drew (padd (some c1) 3) 0 [x3, x4, x5] ∧
 Cal 210 #[.agg #[x0, x1, x2], a0] w.drew (fun e w6 => ∃ (x7 : Int), e = x7 ∧
 LoadL w6 (padd (some c1) 3) 0 [x3, x4, x5] ∧ Cal 210 #[.agg #[x3, x4, x5], a0] w6 (fun e w8 => ∃ (x9 : Int), e = x9 ∧
 Br (x7 < x9)
 (∃ (x10 x11 x12 : Int), LoadL w8 (padd (some c1) 0) 0 [x10, x11, x12] ∧
 ∃ (x13 x14 x15 : Int), LoadL w8 (padd (some c0) 3) 0 [x13, x14, x15] ∧
 Cal 210 #[.agg #[x10, x11, x12], a0] w8 (fun e w16 => ∃ (x17 : Int), e = x17 ∧
 LoadL w16 (padd (some c0) 3) 0 [x13, x14, x15] ∧ Cal 210 #[.agg #[x13, x14, x15], a0] w16 (fun e w18 => ∃ (x19 : Int), e = x19 ∧
 R (Value.bool (decide (x17 < x19))) w18)))
 (R false w8)))) : Cal 216 #[a0, c0, c1] w R :=
 cq an0 Tryz.func216 h
theorem vec_Overlap.vc (h :
 Aw w #[a0_0, a0_1, a0_2, a0_3, a0_4, a0_5] 202 fun w0 =>
 Aw w0 #[a1_0, a1_1, a1_2, a1_3, a1_4, a1_5] 202 fun w1 =>
 Cal 215 #[.func (.func 216) #[] #[w, .pointer (pzq w0)]] w1 (fun e w2 => ∃ (b3 : Bool), e = b3 ∧
 R b3 w2)) : Cal 148 #[.agg #[a0_0, a0_1, a0_2, a0_3, a0_4, a0_5], .agg #[a1_0, a1_1, a1_2, a1_3, a1_4, a1_5]] w R :=
 cq an0 Tryz.func148 h
end Go.Proofs.YtjcnjlaelhdjeaaGreatDoor
namespace Go.Proofs.YtjcnjlaelhdjeaaGreatDoor
open Go Go.Vc Go.RowKit Go.Proofs Go.Chk Go.Runs Go.Code Go.Que Go.Flw Go.Eng
set_option maxRecDepth 100000
theorem zA {w v : World} {o : Obj} (e : v = w.alloc o) : v.heap.size = w.heap.size + 1 := by rw [e]; simp
theorem zR {w v : World} {g : Nat} {c : Array Value} (e : v = w.setRow g c) : v.heap.size = w.heap.size := by rw [e]; simp
end Go.Proofs.YtjcnjlaelhdjeaaGreatDoor
namespace Go.Proofs.YtjcnjlaelhdjeaaGreatDoor
open Go Go.Vc Go.RowKit Go.Proofs Go.Chk Go.Runs Go.Code Go.Que Go.Flw Go.Eng
set_option maxRecDepth 100000
end Go.Proofs.YtjcnjlaelhdjeaaGreatDoor
namespace Go.Proofs.YtjcnjlaelhdjeaaGreatDoor
open Go Go.Vc Go.RowKit Go.Proofs Go.Chk Go.Runs Go.Code Go.Que Go.Flw Go.Eng
set_option maxRecDepth 100000
end Go.Proofs.YtjcnjlaelhdjeaaGreatDoor
namespace Go.Proofs.YtjcnjlaelhdjeaaGreatDoor
open Go Go.Vc Go.RowKit Go.Proofs Go.Chk Go.Runs Go.Code Go.Que Go.Flw Go.Eng
set_option maxRecDepth 100000
end Go.Proofs.YtjcnjlaelhdjeaaGreatDoor
namespace Go.Proofs.YtjcnjlaelhdjeaaGreatDoor
open Go Go.Vc Go.RowKit Go.Proofs Go.Chk Go.Runs Go.Code Go.Que Go.Flw Go.Eng
set_option maxRecDepth 100000
end Go.Proofs.YtjcnjlaelhdjeaaGreatDoor
namespace Go.Proofs.YtjcnjlaelhdjeaaGreatDoor
open Go Go.Vc Go.RowKit Go.Proofs Go.Chk Go.Runs Go.Code Go.Que Go.Flw Go.Eng
set_option maxRecDepth 100000
end Go.Proofs.YtjcnjlaelhdjeaaGreatDoor
namespace Go.Proofs.YtjcnjlaelhdjeaaGreatDoor
open Go Go.Vc Go.RowKit Go.Proofs Go.Chk Go.Runs Go.Code Go.Que Go.Flw Go.Eng
set_option maxRecDepth 100000
end Go.Proofs.YtjcnjlaelhdjeaaGreatDoor
namespace Go.Proofs.YtjcnjlaelhdjeaaGreatDoor
open Go Go.Vc Go.RowKit Go.Proofs Go.Chk Go.Runs Go.Code Go.Que Go.Flw Go.Eng
set_option maxRecDepth 100000
def ovK (a b : Bx) (i : Int) : Bool := decide (axK a.1 i < axK b.2 i) && decide (axK b.1 i < axK a.2 i)
def overlapK (a b : Bx) : Bool := ovK a b 0 && ovK a b 1 && ovK a b 2
theorem Overlap1_spec (a b : Bx) (i : Int) {ga gb : Nat} {w : World} (ha : Row w ga (bxL a) tBox) (hb : Row w gb (bxL b) tBox) :
  Cal 216 #[i, ga, gb] w fun e w' => e = Value.bool (ovK a b i) ∧ Ext w w' := by
 apply vec_Overlap_1.vc
 have xd := Ext.dr w
 refine ⟨_, _, _, ld3 (o := 0) (ha.ext xd) rfl rfl rfl, _, _, _, ld3 (o := 3) (hb.ext xd) rfl rfl rfl, (Axis_spec a.1 i w.drew).mono ?_⟩
 rintro e w6 ⟨rfl, x6⟩
 have y6 := xd.tr x6
 refine ⟨_, rfl, ld3 (o := 3) (hb.ext y6) rfl rfl rfl, (Axis_spec b.2 i w6).mono ?_⟩
 rintro e w8 ⟨rfl, x8⟩
 have y8 := y6.tr x8
 unfold ovK
 refine ⟨_, rfl, Br.mk (fun hc => ⟨_, _, _, ld3 (o := 0) (hb.ext y8) rfl rfl rfl, _, _, _, ld3 (o := 3) (ha.ext y8) rfl rfl rfl, (Axis_spec b.1 i w8).mono ?_⟩) (fun hc => ⟨by rw [hc, alj04], y8⟩)⟩
 rintro e w16 ⟨rfl, x16⟩
 have y16 := y8.tr x16
 refine ⟨_, rfl, ld3 (o := 3) (ha.ext y16) rfl rfl rfl, (Axis_spec a.2 i w16).mono ?_⟩
 rintro e w18 ⟨rfl, x18⟩
 exact ⟨_, rfl, by rw [hc, alj05], y16.tr x18⟩
theorem all_spec (f : Int → Bool) (fv : Value) (w : World) (hf : ∀ w', Ext w w' → ∀ i : Int, callV Tryz.prog fv [i] w' fun e w'' => e = Value.bool (f i) ∧ Ext w' w'') :
  Cal 215 #[fv] w fun e w' => e = Value.bool (f 0 && f 1 && f 2) ∧ Ext w w' := by
 apply vec_all.vc
 refine ⟨fun n x wr => ∃ k : Nat, x = k ∧ k + n = 3 ∧ (∀ j : Nat, j < k → f j = true) ∧ Ext w wr, ⟨3, 0, rfl, rfl, fun j hj => absurd hj omm, Ext.rfl' _⟩, ?_⟩
 rintro n us x wr ⟨k, rfl, hk, hj, xr⟩
 apply Br.mk <;> intro hc
 ·have hc : (k : Int) < 3 := by simpa using hc
  refine callV_mono (hf wr xr k) ?_
  rintro e w6 ⟨rfl, x6⟩
  have wk := wkS (j := k)
  refine ⟨_, rfl, Br.mk (fun hq => ⟨?_, xr.tr x6⟩) (fun hq => ⟨n - 1, by omega, k + 1, wk, by omega, fun j hjk => ?_, xr.tr x6⟩)⟩
  ·have hq : f k = false := by simpa using hq
   have hk3 : k = 0 ∨ k = 1 ∨ k = 2 := by omega
   have : (f 0 && f 1 && f 2) = false := by
    rcases hk3 with rfl | rfl | rfl
    ·rw [show f 0 = false from hq]; rfl
    ·rw [show f 1 = false from hq, Bool.and_false]; rfl
    ·rw [show f 2 = false from hq, Bool.and_false]
   rw [this]
  ·have hq : f k = true := by simpa using hq
   by_cases he : j = k
   ·rw [he]; exact hq
   ·exact hj j omm
 ·have hc : ¬ (k : Int) < 3 := by simpa using hc
  refine ⟨?_, xr⟩
  rw [show f 0 = true from hj 0 omm, show f 1 = true from hj 1 omm, show f 2 = true from hj 2 omm]; rfl
theorem Overlap_spec (a b : Bx) (w : World) : Cal 148 #[bxv a, bxv b] w fun e w' => e = Value.bool (overlapK a b) ∧ Ext w w' := by
 apply vec_Overlap.vc
 intro w0 e0 w1 e1
 have x0 := eaa e0
 have r0 : Row w0 w (bxL a) tBox := Row.nw e0
 have x1 := eaa e1
 have r1 : Row w1 w0 (bxL b) tBox := Row.nw e1
 have z0 := zA e0
 have z1 := zA e1
 refine (all_spec (ovK a b) (.func (.func 216) #[] #[w, w0]) w1 fun w' x' i => callV_of (by kernel_rfl) rfl (Overlap1_spec a b i (r0.ext (x1.tr x')) (r1.ext x'))).mono ?_
 rintro e w2 ⟨rfl, x2⟩
 have z2 := x2.size
 first
  | exact ⟨_, rfl, rfl, x0.tr (x1.tr x2)⟩
  | exact ⟨_, rfl, x2.heap omm, x2.heap omm, rfl, x0.tr (x1.tr x2)⟩
end Go.Proofs.YtjcnjlaelhdjeaaGreatDoor
namespace Go.Proofs.YtjcnjlaelhdjeaaGreatDoor
open Go Go.Vc Go.RowKit Go.Proofs Go.Chk Go.Runs Go.Code Go.Que Go.Flw Go.Eng
set_option maxRecDepth 100000
end Go.Proofs.YtjcnjlaelhdjeaaGreatDoor
namespace Go.Proofs.YtjcnjlaelhdjeaaGreatDoor
open Go Go.Vc Go.RowKit Go.Proofs Go.Chk Go.Runs Go.Code Go.Que Go.Flw Go.Eng
set_option maxRecDepth 100000
def okB (m : Int) (b : Bdy) : Prop := nearV b.foot m ∧ (0 ≤ b.wd ∧ b.wd ≤ 1000000) ∧ (0 ≤ b.ht ∧ b.ht ≤ 1000000) ∧ -1000000 ≤ b.speed.2.1 ∧ b.speed.2.1 ≤ 1000000
theorem okB.wdi {b : Bdy} {m : Int} (h : okB m b) : inI b.wd := by unfold inI; have := h.2.1; omega
end Go.Proofs.YtjcnjlaelhdjeaaGreatDoor
namespace Go.Proofs.YtjcnjlaelhdjeaaGreatDoor
open Go Go.Vc Go.RowKit Go.Proofs
set_option maxRecDepth 100000
set_option maxHeartbeats 8000000
set_option linter.unusedVariables false
variable {R : Ending → World → Prop} {w : World} {a0 a1 a2 a3 a4 a5 a6 a7 a8 a9 a0_0 a0_1 a0_2 a0_3 a0_4 a0_5 a0_6 a0_7 a0_8 a0_9 a1_0 a1_1 a1_2 a1_3 a1_4 a1_5 a1_6 a1_7 a1_8 a1_9 a2_0 a2_1 a2_2 a2_3 a2_4 a2_5 a2_6 a2_7 a2_8 a2_9 a3_0 a3_1 a3_2 a3_3 a3_4 a3_5 a3_6 a3_7 a3_8 a3_9 : Int}
theorem cell_Box.vc (h :
 Aw w #[a0_0, a0_1, a0_2] 23 fun w0 =>
 Aw w0 #[vzz, vzz, vzz, vzz, vzz, vzz] 202 fun w1 =>
 (Cal 213 #[a0_0] w1.drew (Ri fun x3 w2 => K2 w w0 w1.drew w2 (
 LoadL w2 (pnq w 2) 0 [a0_2] ∧ LoadL w2 (pnq w 1) 0 [a0_1] ∧ (Cal 213 #[a0_1] w2 (Ri fun x5 w4 => K2 w w0 w2 w4 (
 LoadL w4 (pnq w 2) 0 [a0_2] ∧ (Cal 213 #[a0_2] w4 (Ri fun x7 w6 => K2 w w0 w4 w6 (
 (Aw w6 #[vzz, vzz, vzz] 73 fun w8 =>
 Sw w8 w6 #[x3, x5, x7] fun w9 =>
 Cal 206 #[.agg #[x3, x5, x7], .agg #[(65536:Int), (65536:Int), (65536:Int)]] w9.drew (Ra3 fun x11 x12 x13 w10 => K3 w w0 w6 w9.drew w10 (
 LoadL w10 (pzq w6) 0 [x3, x5, x7] ∧ Sw w10 w0 #[x3, x5, x7, x11, x12, x13] fun w14 =>
 R (Value.agg #[x3, x5, x7, x11, x12, x13]) w14))) ∧ (Aw w6 #[vzz, vzz, vzz] 73 fun w15 =>
 Sw w15 w6 #[x3, x5, x7] fun w16 =>
 Cal 206 #[.agg #[x3, x5, x7], .agg #[(65536:Int), (65536:Int), (65536:Int)]] w16.drew (Ra3 fun x18 x19 x20 w17 => K3 w w0 w6 w16.drew w17 (
 LoadL w17 (pzq w6) 0 [x3, x5, x7] ∧ Sw w17 w0 #[x3, x5, x7, x18, x19, x20] fun w21 =>
 R (Value.agg #[x3, x5, x7, x18, x19, x20]) w21)))))) ∧ (Aw w4 #[vzz, vzz, vzz] 73 fun w22 =>
 Cal 213 #[a0_2] w22 (Ri fun x24 w23 => K3 w w0 w4 w22 w23 (
 Sw w23 w4 #[x3, x5, x24] fun w25 =>
 Cal 206 #[.agg #[x3, x5, x24], .agg #[(65536:Int), (65536:Int), (65536:Int)]] w25.drew (Ra3 fun x27 x28 x29 w26 => K3 w w0 w4 w25.drew w26 (
 LoadL w26 (pzq w4) 0 [x3, x5, x24] ∧ Sw w26 w0 #[x3, x5, x24, x27, x28, x29] fun w30 =>
 R (Value.agg #[x3, x5, x24, x27, x28, x29]) w30)))))))) ∧ (Aw w2 #[vzz, vzz, vzz] 73 fun w31 =>
 Cal 213 #[a0_1] w31 (Ri fun x33 w32 => K3 w w0 w2 w31 w32 (
 LoadL w32 (pnq w 2) 0 [a0_2] ∧ Cal 213 #[a0_2] w32 (Ri fun x35 w34 => K3 w w0 w2 w32 w34 (
 Sw w34 w2 #[x3, x33, x35] fun w36 =>
 Cal 206 #[.agg #[x3, x33, x35], .agg #[(65536:Int), (65536:Int), (65536:Int)]] w36.drew (Ra3 fun x38 x39 x40 w37 => K3 w w0 w2 w36.drew w37 (
 LoadL w37 (pzq w2) 0 [x3, x33, x35] ∧ Sw w37 w0 #[x3, x33, x35, x38, x39, x40] fun w41 =>
 R (Value.agg #[x3, x33, x35, x38, x39, x40]) w41)))))))))) ∧ (Aw w1.drew #[vzz, vzz, vzz] 73 fun w42 =>
 Cal 213 #[a0_0] w42 (Ri fun x44 w43 => K2 w w0 w42 w43 (
 w43.heap[w1.drew.heap.size]? = w42.heap[w1.drew.heap.size]? ∧
 LoadL w43 (pnq w 2) 0 [a0_2] ∧ LoadL w43 (pnq w 1) 0 [a0_1] ∧ Cal 213 #[a0_1] w43 (Ri fun x46 w45 => K2 w w0 w43 w45 (
 w45.heap[w1.drew.heap.size]? = w43.heap[w1.drew.heap.size]? ∧
 LoadL w45 (pnq w 2) 0 [a0_2] ∧ Cal 213 #[a0_2] w45 (Ri fun x48 w47 => K2 w w0 w45 w47 (
 w47.heap[w1.drew.heap.size]? = w45.heap[w1.drew.heap.size]? ∧
 Sw w47 w1.drew.heap.size #[x44, x46, x48] fun w49 =>
 Cal 206 #[.agg #[x44, x46, x48], .agg #[(65536:Int), (65536:Int), (65536:Int)]] w49.drew (Ra3 fun x51 x52 x53 w50 => K2 w w0 w49.drew w50 (
 w50.heap[w1.drew.heap.size]? = w49.drew.heap[w1.drew.heap.size]? ∧
 LoadL w50 (pzq w1.drew.heap.size) 0 [x44, x46, x48] ∧ Sw w50 w0 #[x44, x46, x48, x51, x52, x53] fun w54 =>
 R (Value.agg #[x44, x46, x48, x51, x52, x53]) w54)))))))))) : Cal 145 #[.agg #[a0_0, a0_1, a0_2]] w R :=
 cq an0 Tryz.func145 h
theorem engine_Engine_Held_1.vc {a0 : Addr} {c0 : Addr} (h :
 ∃ (x0 x1 x2 x3 x4 x5 x6 x7 : Int) (b8 : Bool), LoadL w.drew (padd (some a0) 0) 0 [x0, x1, x2, x3, x4, x5, x6, x7, b8] ∧
 ∃ (x9 x10 x11 x12 x13 x14 : Int), LoadL w.drew (some c0) 0 [x9, x10, x11, x12, x13, x14] ∧
 Cal 149 #[.agg #[x0, x1, x2, x3, x4, x5, x6, x7, b8]] w.drew (fun e w15 => ∃ (x16 x17 x18 x19 x20 x21 : Int), e = Value.agg #[x16, x17, x18, x19, x20, x21] ∧
 LoadL w15 (some c0) 0 [x9, x10, x11, x12, x13, x14] ∧ Cal 148 #[.agg #[x16, x17, x18, x19, x20, x21], .agg #[x9, x10, x11, x12, x13, x14]] w15 (fun e w22 => ∃ (b23 : Bool), e = b23 ∧
 R b23 w22))) : Cal 147 #[a0, c0] w R :=
 cq an0 Tryz.func147 h
theorem slices_ContainsFunc_life.vc {a0 : Sl} {a1 : Value} (h :
 Cal 214 #[a0, a1] w (fun e w0 => ∃ (x1 : Int), e = x1 ∧
 R (Value.bool (decide (x1 ≥ 0))) w0)) : Cal 146 #[a0, a1] w R :=
 cq an0 Tryz.func146 h
theorem engine_Engine_Held.vc {a0 : Addr} (h :
 Aw w #[a1_0, a1_1, a1_2] 23 fun w0 =>
 Cal 145 #[.agg #[a1_0, a1_1, a1_2]] w0 (Ra6 fun x2 x3 x4 x5 x6 x7 w1 => Kp w w0 w1 ∧
 Aw w1 #[vzz, vzz, vzz, vzz, vzz, vzz] 202 fun w8 =>
 Sw w8 w1 #[x2, x3, x4, x5, x6, x7] fun w9 =>
 Cal 146 #[.slice (slBase (padd (some a0) 1) (0) (16) 1) (16 - 0) (16 - 0), .func (.func 147) #[] #[.pointer (pzq w1)]] w9 (Rb fun b11 w10 => Kp w w9 w10 ∧
 R b11 w10))) : Cal 84 #[a0, .agg #[a1_0, a1_1, a1_2]] w R :=
 cq an0 Tryz.func84 h
theorem engine_Engine_Edit.vc {a0 : Addr} (h :
 Aw w #[a1_0, a1_1, a1_2] 23 fun w0 =>
 Cal 187 #[a2] w0 (Rb fun b2 w1 => Kp w w0 w1 ∧
 Br b2
 (Cal 84 #[a0, .agg #[a1_0, a1_1, a1_2]] w1 (Rb fun b4 w3 => Kp w w1 w3 ∧
 Br b4
 (R (12:Int) w3)
 (∃ (p5 : Option Addr), ld w3.drew (padd (some a0) 0) = some (.pointer p5) ∧
 Cal 188 #[p5, .agg #[a1_0, a1_1, a1_2], a2] w3.drew (Ri fun x7 w6 => Kp w w3.drew w6 ∧
 R x7 w6))))
 (∃ (p8 : Option Addr), ld w1.drew (padd (some a0) 0) = some (.pointer p8) ∧
 Cal 188 #[p8, .agg #[a1_0, a1_1, a1_2], a2] w1.drew (Ri fun x10 w9 => Kp w w1.drew w9 ∧
 R x10 w9)))) : Cal 126 #[a0, .agg #[a1_0, a1_1, a1_2], a2] w R :=
 cq an0 Tryz.func126 h
end Go.Proofs.YtjcnjlaelhdjeaaGreatDoor
namespace Go.Proofs.YtjcnjlaelhdjeaaGreatDoor
open Go Go.Vc Go.RowKit Go.Proofs Go.Chk Go.Runs Go.Code Go.Que Go.Flw Go.Eng
set_option maxRecDepth 100000
end Go.Proofs.YtjcnjlaelhdjeaaGreatDoor
namespace Go.Proofs.YtjcnjlaelhdjeaaGreatDoor
open Go Go.Vc Go.RowKit Go.Proofs Go.Chk Go.Runs Go.Code Go.Que Go.Flw Go.Eng
set_option maxRecDepth 100000
end Go.Proofs.YtjcnjlaelhdjeaaGreatDoor
namespace Go.Proofs.YtjcnjlaelhdjeaaGreatDoor
open Go Go.Vc Go.RowKit Go.Proofs Go.Chk Go.Runs Go.Code Go.Que Go.Flw Go.Eng
set_option maxRecDepth 100000
end Go.Proofs.YtjcnjlaelhdjeaaGreatDoor
namespace Go.Proofs.YtjcnjlaelhdjeaaGreatDoor
open Go Go.Vc Go.RowKit Go.Proofs Go.Chk Go.Runs Go.Code Go.Que Go.Flw Go.Eng
set_option maxRecDepth 100000
end Go.Proofs.YtjcnjlaelhdjeaaGreatDoor
namespace Go.Proofs.YtjcnjlaelhdjeaaGreatDoor
open Go Go.Vc Go.RowKit Go.Proofs Go.Chk Go.Runs Go.Code Go.Que Go.Flw Go.Eng
set_option maxRecDepth 100000
end Go.Proofs.YtjcnjlaelhdjeaaGreatDoor
namespace Go.Proofs.YtjcnjlaelhdjeaaGreatDoor
open Go Go.Vc Go.RowKit Go.Proofs Go.Chk Go.Runs Go.Code Go.Que Go.Flw Go.Eng
set_option maxRecDepth 100000
end Go.Proofs.YtjcnjlaelhdjeaaGreatDoor
namespace Go.Proofs.YtjcnjlaelhdjeaaGreatDoor
open Go Go.Vc Go.RowKit Go.Proofs
set_option maxRecDepth 100000
set_option maxHeartbeats 8000000
set_option linter.unusedVariables false
variable {R : Ending → World → Prop} {w : World} {a0 a1 a2 a3 a4 a5 a6 a7 a8 a9 a0_0 a0_1 a0_2 a0_3 a0_4 a0_5 a0_6 a0_7 a0_8 a0_9 a1_0 a1_1 a1_2 a1_3 a1_4 a1_5 a1_6 a1_7 a1_8 a1_9 a2_0 a2_1 a2_2 a2_3 a2_4 a2_5 a2_6 a2_7 a2_8 a2_9 a3_0 a3_1 a3_2 a3_3 a3_4 a3_5 a3_6 a3_7 a3_8 a3_9 : Int}
theorem ref21_Cell.vc (h :
 Aw w #[a0_0, a0_1, a0_2] 23 fun w0 =>
 Aw w0 #[vzz, vzz, vzz] 23 fun w1 =>
 Cal 12 #[a0_0, (10:Int)] w1.drew (Ri fun x3 w2 => K2 w w0 w1.drew w2 (
 LoadL w2 (pnq w 2) 0 [a0_2] ∧ LoadL w2 (pnq w 1) 0 [a0_1] ∧ Cal 12 #[a0_1, (14:Int)] w2 (Ri fun x5 w4 => K2 w w0 w2 w4 (
 LoadL w4 (pnq w 2) 0 [a0_2] ∧ Cal 12 #[a0_2, (10:Int)] w4 (Ri fun x7 w6 => K2 w w0 w4 w6 (
 Sw w6 w0 #[(wqq (3 + x3)), (wqq (6 + x5)), (wqq (3 + x7))] fun w8 =>
 R (Value.agg #[(wqq (3 + x3)), (wqq (6 + x5)), (wqq (3 + x7))]) w8))))))) : Cal 11 #[.agg #[a0_0, a0_1, a0_2]] w R :=
 cq an0 Tryz.func11 h
theorem engine_Engine_Held_1n.vc {c0 : Addr} (h :
 Br (!((none : Option Addr)).isNone)
 (AndL (nnC (none : Option Addr)) (AndL (nnC (none : Option Addr)) (∃ (x0 x1 x2 x3 x4 x5 x6 x7 : Int) (b8 : Bool), LoadL w.drew (padd (none : Option Addr) 0) 0 [x0, x1, x2, x3, x4, x5, x6, x7, b8] ∧
 ∃ (x9 x10 x11 x12 x13 x14 : Int), LoadL w.drew (some c0) 0 [x9, x10, x11, x12, x13, x14] ∧
 Cal 149 #[.agg #[x0, x1, x2, x3, x4, x5, x6, x7, b8]] w.drew (fun e w15 => ∃ (x16 x17 x18 x19 x20 x21 : Int), e = Value.agg #[x16, x17, x18, x19, x20, x21] ∧
 LoadL w15 (some c0) 0 [x9, x10, x11, x12, x13, x14] ∧ Cal 148 #[.agg #[x16, x17, x18, x19, x20, x21], .agg #[x9, x10, x11, x12, x13, x14]] w15 (fun e w22 => ∃ (b23 : Bool), e = b23 ∧
 R b23 w22)))))
 (R false w.drew)) : Cal 147 #[.pointer (none : Option Addr), c0] w R :=
 cq an0 Tryz.func147 h
end Go.Proofs.YtjcnjlaelhdjeaaGreatDoor
namespace Go.Proofs.YtjcnjlaelhdjeaaGreatDoor
open Go Go.Vc Go.RowKit Go.Proofs Go.Chk Go.Runs Go.Code Go.Que Go.Flw Go.Eng
set_option maxRecDepth 100000
def cboxK (c : Ce) : Bx := ((ofF c.1, ofF c.2.1, ofF c.2.2), addV (ofF c.1, ofF c.2.1, ofF c.2.2) (65536, 65536, 65536))
theorem cBox_spec (c : Ce) (w : World) : Cal 145 #[cev c] w fun e w' => e = (bxv (cboxK c)) ∧ Ext w w' := by
 apply cell_Box.vc
 intro w0 e0 w1 e1
 have x0 := eaa e0
 have z0 := zA e0
 have r0 : ∃ τ, Row w0 w [c.1, c.2.1, c.2.2] τ := ⟨_, by rw [e0]; exact Row.new w [_, _, _] _⟩
 have x1 := eaa e1
 have z1 := zA e1
 have hd := zdr w1
 obtain ⟨τ, r0⟩ := r0
 have r1 := r0.ext (x1.tr (Ext.dr w1))
 have x01 := x0.tr (x1.tr (Ext.dr w1))
 have last : ∀ v1 v2 : World, v1 = w1.drew.alloc (.cells #[vzz, vzz, vzz] tVec) → v2 = v1.setRow w1.drew.heap.size #[(ofF c.1), (ofF c.2.1), (ofF c.2.2)] →
   Cal 206 #[cev (ofF c.1, ofF c.2.1, ofF c.2.2), cev (65536, 65536, 65536)] v2.drew fun e w10 => ∃ x y z : Int, e = Value.agg #[x, y, z] ∧ w10.heap[w.heap.size]? = v2.drew.heap[w.heap.size]? ∧ w10.heap[w0.heap.size]? = v2.drew.heap[w0.heap.size]? ∧ w10.heap[w1.drew.heap.size]? = v2.drew.heap[w1.drew.heap.size]? ∧
    LoadL w10 (pzq w1.drew.heap.size) 0 [(ofF c.1), (ofF c.2.1), (ofF c.2.2)] ∧ ∀ w14 : World, w14 = w10.setRow w0 #[(ofF c.1), (ofF c.2.1), (ofF c.2.2), x, y, z] →
    Ending.returned (.agg #[(ofF c.1), (ofF c.2.1), (ofF c.2.2), x, y, z]) = (bxv (cboxK c)) ∧ Ext w w14 := by
  intro v1 v2 f1 f2
  have y1 : Ext w1.drew v2 := (eaa f1).of_setRow f2 (ali34 _)
  have s2 : v2.drew.heap.size = w1.heap.size + 1 := by show v2.heap.size = _; rw [zR f2, zA f1]; rfl
  have rv : Row v2 w1.drew.heap.size [(ofF c.1), (ofF c.2.1), (ofF c.2.2)] tVec := by rw [f2, f1]; exact Row.set (Row.new w1.drew [_, _, _] _) [_, _, _]
  refine (vAdd_spec (ofF c.1, ofF c.2.1, ofF c.2.2) (65536, 65536, 65536) v2.drew).mono ?_
  rintro e w10 ⟨rfl, x10⟩
  exact ⟨_, _, _, rfl, x10.heap omm, x10.heap omm, x10.heap omm, Lo.wv (rv.ext ((Ext.dr v2).tr x10)), fun w14 e14 => ⟨rfl, (x01.tr (y1.tr ((Ext.dr v2).tr x10))).of_setRow e14 omm⟩⟩
 have of1 : ∀ (n : Int) {u : World} {R : Ending → World → Prop}, R (.returned (.int .i64 (ofF n))) u → Cal 213 #[.int .i64 n] u R := fun n u R h => (Of_spec n u).mono (by rintro e w' ⟨rfl, rfl⟩; exact h)
 have l2 : LoadL w1.drew (pnq w.heap.size 2) 0 [c.2.2] := ld1 r1 rfl
 have l1 : LoadL w1.drew (pnq w.heap.size 1) 0 [c.2.1] := ld1 r1 rfl
 refine ⟨of1 _ ⟨_, rfl, rfl, rfl, l2, l1, of1 _ ⟨_, rfl, rfl, rfl, l2, of1 _ ⟨_, rfl, rfl, rfl, fun w8 e8 w9 e9 => last _ _ e8 e9, fun w8 e8 w9 e9 => last _ _ e8 e9⟩, fun w22 e22 => ?_⟩, fun w31 e31 => ?_⟩, fun w42 e42 => ?_⟩
 ·exact of1 _ ⟨_, rfl, rfl, rfl, rfl, fun w25 e25 => last _ _ e22 e25⟩
 ·have xa := eaa e31
  exact of1 _ ⟨_, rfl, rfl, rfl, rfl, ld1 (r1.ext xa) rfl, of1 _ ⟨_, rfl, rfl, rfl, rfl, fun w36 e36 => last _ _ e31 e36⟩⟩
 ·have xa := eaa e42
  exact of1 _ ⟨_, rfl, rfl, rfl, rfl, ld1 (r1.ext xa) rfl, ld1 (r1.ext xa) rfl, of1 _ ⟨_, rfl, rfl, rfl, rfl, ld1 (r1.ext xa) rfl, of1 _ ⟨_, rfl, rfl, rfl, rfl, fun w49 e49 => last _ _ e42 e49⟩⟩⟩
def meetL (c : Ce) (x : Option Lfe) : Bool := match x with | some y => overlapK y.1.box (cboxK c) | none => false
def heldL (L : List (Option Lfe)) (c : Ce) : Bool := L.any (meetL c)
set_option maxHeartbeats 1000000 in
theorem Held1_spec {w : World} {a : Option Nat} {x : Option Lfe} (ha : ∀ b, a = some b → ∃ y, x = some y ∧ Row w b (lfL y) tLfe ∧ inI y.1.wd) (hn : a = none → x = none) {c : Ce} {g : Nat} {τ : TypeId} (hg : Row w g (bxL (cboxK c)) τ) :
  Cal 147 #[pA a, g] w fun e w' => e = Value.bool (meetL c x) ∧ Ext w w' := by
 cases a with
 | none =>
   rw [hn rfl]
   apply engine_Engine_Held_1n.vc
   exact nope rfl ⟨rfl, Ext.dr w⟩
 | some b =>
   obtain ⟨y, rfl, hr, hw⟩ := ha b rfl
   apply (engine_Engine_Held_1.vc (a0 := ⟨b, 0, none⟩))
   refine ⟨_, _, _, _, _, _, _, _, _, (hr.ext (Ext.dr w)).loadL (vs := bdL y.1) (o := 0) (fun j hj => ?_), _, _, _, _, _, _, Lo.wv (hg.ext (Ext.dr w)), (bBox_spec y.1 hw w.drew).mono ?_⟩
   ·have hj : j < 9 := hj
    have : j = 0 ∨ j = 1 ∨ j = 2 ∨ j = 3 ∨ j = 4 ∨ j = 5 ∨ j = 6 ∨ j = 7 ∨ j = 8 := by omega
    rcases this with rfl | rfl | rfl | rfl | rfl | rfl | rfl | rfl | rfl <;> rfl
   rintro e w15 ⟨rfl, x15⟩
   refine ⟨_, _, _, _, _, _, rfl, Lo.wv (hg.ext ((Ext.dr w).tr x15)), (Overlap_spec y.1.box (cboxK c) w15).mono ?_⟩
   rintro e w22 ⟨rfl, x22⟩
   exact ⟨_, rfl, rfl, (Ext.dr w).tr (x15.tr x22)⟩
end Go.Proofs.YtjcnjlaelhdjeaaGreatDoor
namespace Go.Proofs.YtjcnjlaelhdjeaaGreatDoor
open Go Go.Vc Go.RowKit Go.Proofs Go.Chk Go.Runs Go.Code Go.Que Go.Flw Go.Eng
set_option maxRecDepth 100000
def okL (m : Int) (L : List (Option Lfe)) : Prop := ∀ y, some y ∈ L → okB m y.1
section
variable {F F' : Nat → Prop} {w w' : World} {g s o t : Nat} {M M' : Sm} {occ : Value} {L : List (Option Lfe)}
theorem EL.held {av : List (Option Nat)} (he : EL w av L) {m : Int} (hL : okL m L) {k : Nat} {a : Option Nat} (ha : av[k]? = some a) :
  ∃ x, L[k]? = some x ∧ (∀ b, a = some b → ∃ y, x = some y ∧ Row w b (lfL y) tLfe ∧ inI y.1.wd) ∧ (a = none → x = none) := by
 cases a with
 | none => exact ⟨none, he.z k ha, fun b hb => (by cases hb), fun _ => rfl⟩
 | some b =>
   obtain ⟨y, hy, hr⟩ := he.s k b ha
   exact ⟨some y, hy, fun b' hb => by cases hb; exact ⟨y, rfl, hr, (hL y (ali00 hy)).wdi⟩, fun q => (by cases q)⟩
set_option maxHeartbeats 1000000 in
theorem IndexF_spec {p : Value} {av : List (Option Nat)} {τ τ' : TypeId} (hr : Row w g (p :: av.map pA) τ) (he : EL w av L) {m : Int} (hL : okL m L) {c : Ce} {b : Nat} (hb : Row w b (bxL (cboxK c)) τ') :
  Cal 214 #[.slice (slBase (padd (some ⟨g, 0, none⟩) 1) 0 16 1) (16 - 0) (16 - 0), .func (.func 147) #[] #[b]] w fun e w' => (∃ n : Int, e = Value.int .i64 n ∧ decide (n ≥ 0) = heldL L c) ∧ Ext w w' := by
 apply (slices_IndexFunc_life.vc (a0 := ⟨slBase (padd (some ⟨g, 0, none⟩) 1) 0 16 1, 16 - 0, 16 - 0⟩))
 rw [slBase_zero]
 refine ⟨fun n x wr => ∃ k : Nat, x = k ∧ k + n = 16 ∧ Ext w wr ∧ ∀ j, j < k → ∀ y, L[j]? = some y → meetL c y = false, ⟨16, 0, rfl, rfl, Ext.rfl' _, fun j hj => by omega⟩, ?_⟩
 rintro n us x wr ⟨k, rfl, hk, xr, hno⟩
 apply Br.mk <;> intro hq
 ·have hq : (k : Int) < ((16 - 0 : Nat) : Int) := by simpa using hq
  obtain ⟨a, ha⟩ := get_lt (l := av) (i := k) (by have := he.n; omega)
  obtain ⟨y, hy, h1, h2⟩ := he.held hL ha
  refine ⟨⟨rfl, by omega, hq⟩, _, one_at (hr.ext xr) ha, callV_of (by kernel_rfl) rfl ((Held1_spec (a := a) (x := y) (fun b' e => ?_) h2 (hb.ext xr)).mono ?_)⟩
  ·obtain ⟨z, e1, e2, e3⟩ := h1 b' e
   exact ⟨z, e1, e2.ext xr, e3⟩
  rintro e w7 ⟨rfl, x7⟩
  refine ⟨_, rfl, Br.mk (fun hm => ⟨⟨_, rfl, ?_⟩, xr.tr x7⟩) (fun hm => ?_)⟩
  ·rw [decide_eq_true (by omega : (k : Int) ≥ 0)]
   exact (List.any_eq_true.2 ⟨y, ali00 hy, hm⟩).symm
  ·have wk := wkS (j := k)
   refine ⟨n - 1, by omega, k + 1, wk, by omega, xr.tr x7, fun j hj z hz => ?_⟩
   by_cases q : j < k
   ·exact hno j q z hz
   ·rw [show j = k from by omega, hy] at hz
    rw [← Option.some.inj hz]
    exact hm
 ·have hq : ¬ (k : Int) < ((16 - 0 : Nat) : Int) := by simpa using hq
  refine ⟨⟨_, rfl, ?_⟩, xr⟩
  rw [decide_eq_false dcc]
  refine (List.any_eq_false.2 fun y hy => ?_).symm
  obtain ⟨j, hj⟩ := List.mem_iff_getElem?.1 hy
  have := (ali03.1 hj).1
  have := he.m
  rw [hno j omm y hj]
  decide
theorem Held_spec {p : Value} {av : List (Option Nat)} {τ : TypeId} (hr : Row w g (p :: av.map pA) τ) (he : EL w av L) {m : Int} (hL : okL m L) (c : Ce) :
  Cal 84 #[g, cev c] w fun e w' => e = Value.bool (heldL L c) ∧ Ext w w' := by
 apply engine_Engine_Held.vc
 intro w0 e0
 have x0 := eaa e0
 have z0 := zA e0
 refine (cBox_spec c w0).mono ?_
 rintro e w1 ⟨rfl, x1⟩
 have z1 := x1.size
 refine ⟨_, _, _, _, _, _, rfl, x1.heap omm, fun w8 e8 w9 e9 => ?_⟩
 have x9 : Ext w1 w9 := (eaa e8).of_setRow e9 (ali34 _)
 have r9 : ∃ τ', Row w9 w1 (bxL (cboxK c)) τ' := ⟨_, by rw [e9, e8]; exact Row.set (Row.new w1 [_, _, _, _, _, _] _) [_, _, _, _, _, _]⟩
 have z9 : w9.heap.size = w1.heap.size + 1 := by rw [zR e9, zA e8]
 obtain ⟨τ', r9⟩ := r9
 have x09 := x0.tr (x1.tr x9)
 refine Calls.mono (slices_ContainsFunc_life.vc (a0 := ⟨slBase (padd (pzq g) 1) 0 16 1, 16 - 0, 16 - 0⟩) (R := fun e w' => e = Value.bool (heldL L c) ∧ Ext w9 w') ?_) ?_
 ·refine (IndexF_spec (hr.ext x09) (he.same fun a ha => x09.heap (he.lt ha)) hL r9).mono ?_
  rintro e w10 ⟨⟨n, rfl, hn⟩, x10⟩
  exact ⟨n, rfl, by rw [hn], x10⟩
 ·rintro e w10 ⟨rfl, x10⟩
  exact ⟨_, rfl, x10.heap omm, rfl, x09.tr x10⟩
end
end Go.Proofs.YtjcnjlaelhdjeaaGreatDoor
namespace Go.Proofs.YtjcnjlaelhdjeaaGreatDoor
open Go Go.Vc Go.RowKit Go.Proofs Go.Chk Go.Runs Go.Code Go.Que Go.Flw Go.Eng
set_option maxRecDepth 100000
section
variable {F F' : Nat → Prop} {w w' : World} {g s o t : Nat} {M M' : Sm} {occ : Value} {L : List (Option Lfe)}
end
end Go.Proofs.YtjcnjlaelhdjeaaGreatDoor
namespace Go.Proofs.YtjcnjlaelhdjeaaGreatDoor
open Go Go.Vc Go.RowKit Go.Proofs Go.Chk Go.Runs Go.Code Go.Que Go.Flw Go.Eng
set_option maxRecDepth 100000
section
variable {F F' : Nat → Prop} {w w' : World} {g s o t : Nat} {M M' : Sm} {occ : Value} {L : List (Option Lfe)}
theorem ERes.of_ext {w0 : World} (x : Ext w w0) (h : ERes F w0 g s o t M occ L w') : ERes F w g s o t M occ L w' := by
 obtain ⟨F', h1, h2⟩ := h
 exact ⟨F', h1, (Turned.of_ext x).trans h2⟩
def eeditE (M : Sm) (L : List (Option Lfe)) (c : Ce) (b : Int) : Int × Sm := if bSolid b = true ∧ heldL L c = true then (12, M) else ((setE M.T.2 c b).2, editM M c b)
theorem eEdit_spec (h : EF F w g s o t M occ L) {m : Int} (hL : okL m L) (c : Ce) (hc : wideC c) (b : Int) (hk : Sok M 800000) : Cal 126 #[g, cev c, b] w fun e w' => e = Value.int .i64 (eeditE M L c b).1 ∧ ERes F w g s o t (eeditE M L c b).2 occ L w' := by
 apply engine_Engine_Edit.vc
 intro w0 e0
 have x0 := eaa e0
 have z0 := zA e0
 have inner : ∀ {u : World}, Ext w0 u → ¬ (bSolid b = true ∧ heldL L c = true) → ∃ p : Option Addr, Vc.ld u (padd (pzq g) 0) = some (.pointer p) ∧
   Cal 188 #[p, cev c, b] u fun e w6 => ∃ x7 : Int, e = x7 ∧ w6.heap[w.heap.size]? = u.heap[w.heap.size]? ∧ Ending.returned x7 = Value.int .i64 (eeditE M L c b).1 ∧ ERes F w g s o t (eeditE M L c b).2 occ L w6 := by
  intro u xu hn
  have hu := h.ext (x0.tr xu)
  have zu := xu.size
  obtain ⟨Fs, hs, hld, hsub, hres⟩ := hu.sim
  refine ⟨_, hld, (sEdit_spec hs c hc b hk).mono ?_⟩
  rintro e w6 ⟨rfl, hr⟩
  have hk6 : w6.heap[w.heap.size]? = u.heap[w.heap.size]? := by
   obtain ⟨F6, -, t6⟩ := hr
   exact t6.mod.same _ omm fun q => by have := h.lt (hsub _ q); omega
  unfold eeditE
  rw [if_neg hn]
  exact ⟨_, rfl, hk6, rfl, ERes.of_ext (x0.tr xu) (hres hr)⟩
 refine (block_Solid_spec b w0).mono ?_
 rintro e w1 ⟨rfl, hw1⟩
 subst hw1
 refine ⟨_, rfl, rfl, Br.mk (fun hb => ?_) (fun hb => inner (Ext.dr _) fun q => by rw [hb] at q; cases q.1)⟩
 have h1 := h.ext x0
 obtain ⟨av, hrow, hel, -, -, -⟩ := h1.row
 refine (Held_spec hrow hel hL c).mono ?_
 rintro e w3 ⟨rfl, x3⟩
 have z3 := x3.size
 refine ⟨_, rfl, x3.heap omm, Br.mk (fun hq => ?_) (fun hq => ?_)⟩
 ·unfold eeditE
  rw [if_pos ⟨hb, hq⟩]
  exact ⟨rfl, h.res (x0.tr x3)⟩
 ·exact inner (x3.tr (Ext.dr _)) fun q => by rw [hq] at q; cases q.2
end
end Go.Proofs.YtjcnjlaelhdjeaaGreatDoor
namespace Go.Proofs.YtjcnjlaelhdjeaaGreatDoor
open Go Go.Vc Go.RowKit Go.Proofs Go.Lin Go.Chk Go.Runs Go.Code Go.Que Go.Flw Go.Eng
set_option linter.unusedVariables false
theorem block_Parse_spec (s : ByteArray) (w : World) : Cal 237 #[.string s] w fun e w' => e = Value.tuple #[.int .i64 (pRes s).1, .bool (pRes s).2] ∧ Ext w w' := by
 apply block_Parse.vc
 refine (block_names_spec w).mono ?_
 rintro e w0 ⟨rfl, x0⟩
 refine ⟨_, _, _, _, _, _, _, _, _, _, _, _, _, _, _, _, rfl, ?_⟩
 refine ⟨fun n x wr => ∃ k : Nat, x = k ∧ k + n = 16 ∧ Ext w wr ∧ ∀ j : Nat, j < k → pHit s j = false, ⟨16, 0, rfl, rfl, x0, fun j hj => by omega⟩, ?_⟩
 rintro n us x wr ⟨k, rfl, hk, xr, hn⟩
 apply Br.mk <;> intro h <;> simp at h
 ·have hw := wrap_in (n := (k : Int) + 1) (by unfold inI; omega)
  have next : pHit s k = false → ∃ n22, n22 < n ∧ ∃ k_1 : Nat, wqq ((k : Int) + 1) = ↑k_1 ∧ k_1 + n22 = 16 ∧ Ext w wr ∧ ∀ j : Nat, j < k_1 → pHit s ↑j = false := by
   intro hf
   refine ⟨n - 1, by omega, k + 1, by omega, by omega, xr, fun j hj => ?_⟩
   rcases alj62 j k with hlt | hge
   ·exact hn j hlt
   ·obtain rfl : j = k := by omega
    exact hf
  refine ⟨⟨by omega, h⟩, _, nm_get k omm h, Br.mk (fun h1 => Br.mk (fun h2 => ?_) (fun h2 => ?_)) (fun h1 => ?_)⟩
  ·have hm : bMay k = true := by
    rw [bMay_iff]
    intro e
    rw [strEq_iff] at h1
    rw [e] at h1
    simp [← h1] at h2
    exact absurd ((strEq_iff ⟨#[]⟩ ⟨#[]⟩).2 rfl) (by simp [h2])
   rw [pRes_hit omm hn (by unfold pHit; rw [hm, h1]; rfl)]
   exact ⟨rfl, xr⟩
  ·refine next ?_
   have h2' : strEq s ⟨#[]⟩ = true := by simpa using h2
   rw [strEq_iff] at h1 h2'
   have : bMay k = false := by
    have := bMay_iff k
    cases hm : bMay k <;> simp_all
   unfold pHit; rw [this]; rfl
  ·exact next (by unfold pHit; rw [h1]; simp)
 ·rw [pRes_none (fun j hj => hn j omm)]
  exact ⟨rfl, xr⟩
def pBlk (ws : List ByteArray) : Option (Int × List ByteArray) := match pWord ws with | none => none | some (t, r) => if (pRes t).2 then some ((pRes t).1, r) else none
theorem blk_spec {w : World} {B g : Nat} {ws : List ByteArray} (h : AG w B g ws) : Cal 168 #[g] w fun e w' => PR w B g (pBlk ws) (.int .i64 ·) e w' := by
 apply lines_args_block.vc
 refine (word_spec h).mono ?_
 rintro e w0 ⟨m0, hp⟩
 unfold pBlk
 cases hw : pWord ws with
 | none =>
   rw [hw] at hp
   subst hp
   exact ⟨m0, rfl⟩
 | some x =>
   obtain ⟨t, r⟩ := x
   rw [hw] at hp
   obtain ⟨rfl, ha⟩ := hp
   refine ⟨t, rfl, (block_Parse_spec t w0).mono ?_⟩
   rintro _ w2 ⟨rfl, x2⟩
   refine ⟨_, _, rfl, (must_spec _ w2).mono ?_⟩
   rintro e w5 ⟨he, rfl⟩
   have m5 : Mod (fun i => i = g) w w5 := m0.trans (Mod.of_ext x2)
   simp only
   cases hb : (pRes t).2 with
   | true =>
     rw [hb] at he
     simp only [if_true] at he
     subst he
     exact ⟨rfl, m5, rfl, ha.ext x2⟩
   | false =>
     rw [hb] at he
     simp only [Bool.false_eq_true, if_false] at he
     subst he
     exact ⟨m5, rfl⟩
end Go.Proofs.YtjcnjlaelhdjeaaGreatDoor
namespace Go.Proofs.YtjcnjlaelhdjeaaGreatDoor
open Go Go.Vc Go.RowKit Go.Proofs Go.Lin Go.Chk Go.Runs Go.Code Go.Que Go.Flw Go.Eng
set_option linter.unusedVariables false
noncomputable def frameOf (s : Stepped) : Frame :=
 match s with
 | .next m => match m.gs[0]? with
   | some g => g.frame
   | none => default
 | _ => default
theorem mk_calls {P : Program} {f : FuncId} {args : Array Value} {w w' : World} {v : Value} {fn : Func} (n : Nat) (fr : List Frame → Frame) (h : ∀ cs, runN P n (lone (Frame.enter P f args .normal) cs w) = .next (lone (fr cs) cs w')) (h1 : ∀ cs, (fr cs).fn = f) (h2 : ∀ cs, (fr cs).mode = .returning) (h3 : ∀ cs, (fr cs).defers = []) (h4 : ∀ cs, (fr cs).kind = .normal) (h5 : P.funcs[f]? = some fn) (h6 : ∀ cs, (results fn (fr cs).tmps).run P w' = .ok v w') :
  Calls P f args w fun e u => e = v ∧ u = w' := fun cs =>
 ⟨.returned v, w', fr cs, ⟨rfl, rfl⟩, ⟨n, h cs⟩, h1 cs, h2 cs, h3 cs, h4 cs, fn, by rw [h1 cs]; exact h5, h6 cs⟩
noncomputable abbrev runE (x : Int) (w : World) (n : Nat) (cs : List Frame) : Frame := frameOf (Go.runN Tryz.prog n (lone (Frame.enter Tryz.prog 225 #[x] .normal) cs w))
def errT (x : Int) : ByteArray := if x = 0 then ByteArray.mk #[111, 107] else ByteArray.mk (#[101, 114, 114, 111, 114, 32] ++ (if x < 10 then #[UInt8.ofNat (48 + x.toNat)] else #[49, UInt8.ofNat (38 + x.toNat)]))
theorem err1 (w : World) : Cal 225 #[(1:Int)] w fun e w' => e = Value.string (errT 1) ∧ w' = w :=
 mk_calls 51 (runE 1 w 51) (fun cs => by kernel_rfl) (fun cs => by kernel_rfl) (fun cs => by kernel_rfl) (fun cs => by kernel_rfl) (fun cs => by kernel_rfl) Tryz.func225 (fun cs => by kernel_rfl)
theorem err2 (w : World) : Cal 225 #[(2:Int)] w fun e w' => e = Value.string (errT 2) ∧ w' = w :=
 mk_calls 51 (runE 2 w 51) (fun cs => by kernel_rfl) (fun cs => by kernel_rfl) (fun cs => by kernel_rfl) (fun cs => by kernel_rfl) (fun cs => by kernel_rfl) Tryz.func225 (fun cs => by kernel_rfl)
theorem err3 (w : World) : Cal 225 #[(3:Int)] w fun e w' => e = Value.string (errT 3) ∧ w' = w :=
 mk_calls 51 (runE 3 w 51) (fun cs => by kernel_rfl) (fun cs => by kernel_rfl) (fun cs => by kernel_rfl) (fun cs => by kernel_rfl) (fun cs => by kernel_rfl) Tryz.func225 (fun cs => by kernel_rfl)
theorem err4 (w : World) : Cal 225 #[(4:Int)] w fun e w' => e = Value.string (errT 4) ∧ w' = w :=
 mk_calls 51 (runE 4 w 51) (fun cs => by kernel_rfl) (fun cs => by kernel_rfl) (fun cs => by kernel_rfl) (fun cs => by kernel_rfl) (fun cs => by kernel_rfl) Tryz.func225 (fun cs => by kernel_rfl)
theorem err5 (w : World) : Cal 225 #[(5:Int)] w fun e w' => e = Value.string (errT 5) ∧ w' = w :=
 mk_calls 51 (runE 5 w 51) (fun cs => by kernel_rfl) (fun cs => by kernel_rfl) (fun cs => by kernel_rfl) (fun cs => by kernel_rfl) (fun cs => by kernel_rfl) Tryz.func225 (fun cs => by kernel_rfl)
theorem err6 (w : World) : Cal 225 #[(6:Int)] w fun e w' => e = Value.string (errT 6) ∧ w' = w :=
 mk_calls 51 (runE 6 w 51) (fun cs => by kernel_rfl) (fun cs => by kernel_rfl) (fun cs => by kernel_rfl) (fun cs => by kernel_rfl) (fun cs => by kernel_rfl) Tryz.func225 (fun cs => by kernel_rfl)
theorem err7 (w : World) : Cal 225 #[(7:Int)] w fun e w' => e = Value.string (errT 7) ∧ w' = w :=
 mk_calls 51 (runE 7 w 51) (fun cs => by kernel_rfl) (fun cs => by kernel_rfl) (fun cs => by kernel_rfl) (fun cs => by kernel_rfl) (fun cs => by kernel_rfl) Tryz.func225 (fun cs => by kernel_rfl)
theorem err8 (w : World) : Cal 225 #[(8:Int)] w fun e w' => e = Value.string (errT 8) ∧ w' = w :=
 mk_calls 51 (runE 8 w 51) (fun cs => by kernel_rfl) (fun cs => by kernel_rfl) (fun cs => by kernel_rfl) (fun cs => by kernel_rfl) (fun cs => by kernel_rfl) Tryz.func225 (fun cs => by kernel_rfl)
theorem err9 (w : World) : Cal 225 #[(9:Int)] w fun e w' => e = Value.string (errT 9) ∧ w' = w :=
 mk_calls 51 (runE 9 w 51) (fun cs => by kernel_rfl) (fun cs => by kernel_rfl) (fun cs => by kernel_rfl) (fun cs => by kernel_rfl) (fun cs => by kernel_rfl) Tryz.func225 (fun cs => by kernel_rfl)
theorem err10 (w : World) : Cal 225 #[(10:Int)] w fun e w' => e = Value.string (errT 10) ∧ w' = w :=
 mk_calls 78 (runE 10 w 78) (fun cs => by kernel_rfl) (fun cs => by kernel_rfl) (fun cs => by kernel_rfl) (fun cs => by kernel_rfl) (fun cs => by kernel_rfl) Tryz.func225 (fun cs => by kernel_rfl)
theorem err11 (w : World) : Cal 225 #[(11:Int)] w fun e w' => e = Value.string (errT 11) ∧ w' = w :=
 mk_calls 78 (runE 11 w 78) (fun cs => by kernel_rfl) (fun cs => by kernel_rfl) (fun cs => by kernel_rfl) (fun cs => by kernel_rfl) (fun cs => by kernel_rfl) Tryz.func225 (fun cs => by kernel_rfl)
theorem err12 (w : World) : Cal 225 #[(12:Int)] w fun e w' => e = Value.string (errT 12) ∧ w' = w :=
 mk_calls 78 (runE 12 w 78) (fun cs => by kernel_rfl) (fun cs => by kernel_rfl) (fun cs => by kernel_rfl) (fun cs => by kernel_rfl) (fun cs => by kernel_rfl) Tryz.func225 (fun cs => by kernel_rfl)
theorem err13 (w : World) : Cal 225 #[(13:Int)] w fun e w' => e = Value.string (errT 13) ∧ w' = w :=
 mk_calls 78 (runE 13 w 78) (fun cs => by kernel_rfl) (fun cs => by kernel_rfl) (fun cs => by kernel_rfl) (fun cs => by kernel_rfl) (fun cs => by kernel_rfl) Tryz.func225 (fun cs => by kernel_rfl)
theorem err_calls {x : Int} (h : 0 < x ∧ x < 14) (w : World) : Cal 225 #[x] w fun e w' => e = Value.string (errT x) ∧ w' = w := by
 have : x = 1 ∨ x = 2 ∨ x = 3 ∨ x = 4 ∨ x = 5 ∨ x = 6 ∨ x = 7 ∨ x = 8 ∨ x = 9 ∨ x = 10 ∨ x = 11 ∨ x = 12 ∨ x = 13 := by omega
 rcases this with rfl | rfl | rfl | rfl | rfl | rfl | rfl | rfl | rfl | rfl | rfl | rfl | rfl
 ·exact err1 w
 ·exact err2 w
 ·exact err3 w
 ·exact err4 w
 ·exact err5 w
 ·exact err6 w
 ·exact err7 w
 ·exact err8 w
 ·exact err9 w
 ·exact err10 w
 ·exact err11 w
 ·exact err12 w
 ·exact err13 w
theorem err_size (x : Int) : (errT x).size ≤ 1000000 := by
 unfold errT
 split
 ·decide
 ·split <;> simp [ByteArray.size]
theorem itm_err {x : Int} (h : 0 ≤ x ∧ x < 14) (w : World) : Itm w (.iface 168 (x)) (errT x) := by
 by_cases h0 : x = 0
 ·rw [h0]
  exact .ok
 ·refine .e x _ h0 fun u _ => (err_calls (x := x) omm u).mono ?_
  rintro e u' ⟨rfl, rfl⟩
  exact ⟨rfl, Ext.rfl' _⟩
end Go.Proofs.YtjcnjlaelhdjeaaGreatDoor
namespace Go.Proofs.YtjcnjlaelhdjeaaGreatDoor
open Go Go.Vc Go.RowKit Go.Proofs Go.Lin Go.Chk Go.Runs Go.Code Go.Que Go.Flw Go.Eng
set_option linter.unusedVariables false
set_option maxRecDepth 100000 in
theorem Line_meth {F : Nat → Prop} {w : World} {sh g s o t : Nat} {M : Sm} {occ : Value} {L : List (Option Lfe)} (h : EF F w g s o t M occ L) (hs : SHE w sh g) (line : ByteArray) (hl : line.size ≤ 4294967296) {c : ByteArray} {r : List ByteArray} (hw : wordsK line = c :: r)
  (i f : Nat) (hi : cmdN[i]? = some c) (hv : ∀ c1 c2 c3 c4 c5, (cmdV sh [c1, c2, c3, c4, c5])[i]? = some (methV f sh)) (hen : ∀ args w, (callFunc f args).run Tryz.prog w = .ok (.enter f args) w)
  (Q : ByteArray → World → Prop) (hst : ∀ tx u u', Q tx u → Mod (fun i => i = w.heap.size) u u' → Q tx u')
  (hcall : ∀ (u : World) (B ga : Nat), Ext w u → AG u B ga r → w.heap.size < ga → Cal f #[sh, ga] u fun e u' => u'.heap[w.heap.size]? = u.heap[w.heap.size]? ∧ ((∃ tx, e = Value.string tx ∧ Q tx u') ∨ (e = odd ∧ Q (ByteArray.mk #[98, 97, 100]) u'))) :
  Cal 14 #[sh, .string line] w fun e w' => ∃ tx, e = Value.string tx ∧ Q tx w' := by
 refine Line_core line hl h hs Q hst ?_ ?_ ?_
 ·intro h1
  rw [hw] at h1
  cases h1
 ·intro c' r' h1 h2
  rw [hw] at h1
  cases h1
  exact absurd (ali00 hi) h2
 ·intro c' r' i' h1 hi' u B ga c1 c2 c3 c4 c5 xu hag hga r1 r2 r3 r4 r5 hcB v hv'
  rw [hw] at h1
  cases h1
  have hi1 : i' = i := (List.getElem?_inj (i := i') (j := i) (ali03.1 hi').1 cmdN_nodup).1 (hi'.trans hi.symm)
  subst hi1
  rw [hv] at hv'
  cases hv'
  exact ⟨f, #[sh], #[], ⟨rfl, hen⟩, hcall u B ga xu hag hga⟩
def pEdit (ws : List ByteArray) : Option (Ce × Int) := match pVec ws with | none => none | some (c, r) => match pBlk r with | some (b, []) => some (c, b) | _ => none
set_option maxRecDepth 100000 in
theorem shEdit_spec {F : Nat → Prop} {w : World} {g s o t sh B ga : Nat} {M : Sm} {occ : Value} {L : List (Option Lfe)} {ws : List ByteArray} (h : EF F w g s o t M occ L) (hs : SHE w sh g) (ha : AG w B ga ws) (hF : ¬ F ga) (hsg : sh ≠ ga)
  {m : Int} (hL : okL m L) (hk : Sok M 800000) (R : Ending → World → Prop) (hbad : pEdit ws = none → ∀ u, Mod (fun i => i = ga) w u → R odd u)
  (hdo : ∀ c b, pEdit ws = some (c, b) → wideC c ∧ (0 ≤ (eeditE M L c b).1 ∧ (eeditE M L c b).1 < 14) ∧ ∀ u u' : World, Mod (fun i => i = ga) w u → ERes F u g s o t (eeditE M L c b).2 occ L u' → R (.returned (.string (errT (eeditE M L c b).1))) u') :
  Cal 101 #[sh, ga] w R := by
 apply lines_Shell_edit.vc
 refine (cell_spec ha).mono ?_
 rintro e w0 ⟨m0, hp⟩
 cases hw : pVec ws with
 | none =>
   rw [hw] at hp
   subst hp
   exact hbad (by unfold pEdit; rw [hw]) _ m0
 | some x =>
   obtain ⟨⟨x, y, z⟩, r⟩ := x
   rw [hw] at hp
   obtain ⟨rfl, ha0⟩ := hp
   refine ⟨x, y, z, rfl, ?_⟩
   intro w4 e4 w5 e5
   have x4 : Ext w0 w4 := by rw [e4]; exact Ext.al _ _
   have z4 := hs1 e4
   have m5 := mod_set w4 w0 #[x, y, z]
   rw [← e5] at m5
   have x5 : Ext w0 w5 := m5.ext x4 (fun i hi => by omega)
   have z5 : w5.heap.size = w0.heap.size + 1 := by rw [e5]; simp [z4]
   have mw5 : Mod (fun i => i = ga) w w5 := m0.trans (Mod.of_ext x5)
   have hgl := ha0.lt
   have hle := ha0.le
   refine (blk_spec (ha0.ext x5)).mono ?_
   rintro e w6 ⟨m6, hp⟩
   have mw6 : Mod (fun i => i = ga) w w6 := mw5.trans m6
   have k6 : w6.heap[w0.heap.size]? = w5.heap[w0.heap.size]? := m6.same _ omm omm
   have z6 := m6.size
   cases hb : pBlk r with
   | none =>
     rw [hb] at hp
     subst hp
     exact hbad (by unfold pEdit; rw [hw]; simp only; rw [hb]) _ mw6
   | some q =>
     obtain ⟨b, r'⟩ := q
     rw [hb] at hp
     obtain ⟨rfl, ha6⟩ := hp
     refine ⟨b, rfl, k6, (end_spec ha6).mono ?_⟩
     rintro e w8 ⟨e8, he⟩
     rw [e8]
     by_cases hr : r' = []
     ·rw [if_pos hr] at he
      subst he
      subst hr
      have hpe : pEdit ws = some ((x, y, z), b) := by unfold pEdit; rw [hw]; simp only; rw [hb]
      obtain ⟨hc, hn, hR⟩ := hdo _ _ hpe
      have h6 : EF F w6 g s o t M occ L := h.same fun i hi => mw6.same i (h.lt hi) (fun q => hF (q ▸ hi))
      have hd := h6.ext (Ext.dr w6)
      have hsh : Row w6.drew sh [g] tShell := (hs.row.same (mw6.same sh hs.row.lt hsg)).ext (Ext.dr w6)
      refine ⟨rfl, rfl, pzq g, by rw [padd_row, hsh.ld]; rfl, (eEdit_spec hd hL (x, y, z) hc b hk).mono ?_⟩
      rintro e w10 ⟨rfl, F', h10, ht⟩
      have hn0 : ∀ i, w.heap.size ≤ i → ¬ F i := fun i hi q => by have := h.lt q; omega
      have z0 := m0.size
      have k10 : w10.heap[w0.heap.size]? = w6.drew.heap[w0.heap.size]? := ht.mod.same _ (by show _ < w6.heap.size; omega) (hn0 _ z0)
      refine ⟨_, rfl, k10, ?_⟩
      intro w12 e12
      have x12 : Ext w10 w12 := by rw [e12]; exact Ext.al _ _
      refine (told_one e12 (itm_err hn w12) (err_size _)).mono ?_
      rintro _ w13 ⟨rfl, x13⟩
      have h1013 := x12.tr x13
      have hz10 : w6.heap.size ≤ w10 := ht.mod.size
      have z12 := hs1 e12
      refine ⟨_, rfl, x13.heap omm, ?_⟩
      exact hR w6.drew w13 (mw6.trans (Mod.of_ext (Ext.dr w6))) ⟨F', h10.ext h1013, ht.trans (Turned.of_ext h1013)⟩
     ·rw [if_neg hr] at he
      subst he
      refine hbad ?_ _ mw6
      unfold pEdit
      rw [hw]
      simp only
      rw [hb]
      cases r' with
      | nil => exact absurd rfl hr
      | cons a l => rfl
set_option maxRecDepth 100000 in
theorem Line_edit {F : Nat → Prop} {w : World} {sh g s o t : Nat} {M : Sm} {occ : Value} {L : List (Option Lfe)} (h : EF F w g s o t M occ L) (hs : SHE w sh g) (hF : ¬ F sh) {m : Int} (hL : okL m L) (hk : Sok M 800000)
  (line : ByteArray) (hl : line.size ≤ 4294967296) (r : List ByteArray) (hw : wordsK line = ByteArray.mk #[101, 100, 105, 116] :: r) (c : Ce) (b : Int) (hp : pEdit r = some (c, b)) (hc : wideC c) (hn : 0 ≤ (eeditE M L c b).1 ∧ (eeditE M L c b).1 < 14) :
  Cal 14 #[sh, .string line] w fun e w' => ∃ tx, e = Value.string tx ∧ tx = errT (eeditE M L c b).1 ∧ ∃ F', SH w F w' sh g s o t (eeditE M L c b).2 occ L F' ∧ ¬ F' w := by
 have hsl := hs.row.lt
 have nw : ¬ F w := fun q => by have := h.lt q; omega
 refine Line_meth h hs line hl hw 14 101 rfl (fun _ _ _ _ _ => rfl) (fun args w => enter_of Tryz.func101 (by kernel_rfl) rfl args w) (fun tx u => tx = errT (eeditE M L c b).1 ∧ ∃ F', SH w F u sh g s o t (eeditE M L c b).2 occ L F' ∧ ¬ F' w) ?_ ?_
 ·rintro tx u u' ⟨rfl, F', hS, hn⟩ hm
  exact ⟨rfl, F', hS.put hn omm (ali34 _) hm, hn⟩
 ·intro u B ga xu hag hga
  have hgl := hag.lt
  have hle := hag.le
  have hFga : ¬ F ga := fun q => by have := h.lt q; omega
  have hwu : w.heap.size ≤ u.heap.size := xu.size
  show Cal 101 #[sh, ga] u _
  refine shEdit_spec (h.ext xu) ⟨hs.row.ext xu⟩ hag hFga omm hL hk _ ?_ ?_
  ·intro hno
   rw [hp] at hno
   cases hno
  ·intro c2 b2 hp'
   rw [hp] at hp'
   cases hp'
   refine ⟨hc, hn, fun u1 u2 hm hres => ?_⟩
   obtain ⟨F', h2, ht⟩ := hres
   have hm1 : Mod (fun i => i = ga) w u1 := (Mod.of_ext xu).tr hm (fun i hi => .inl hi)
   have hwv : Mod F w u2 := ((Mod.of_ext xu).tr hm (fun i hi => .inr omm)).trans ht.mod
   have sub : ∀ i, F' i → F i ∨ u1.heap.size ≤ i := ht.sub
   have hz := hm.size
   refine ⟨(ht.mod.same _ omm nw).trans (hm.same _ omm omm), .inl ⟨_, rfl, rfl, F', ⟨h2, ⟨hs.row.same (hwv.same sh hsl hF)⟩, fun q => (sub _ q).elim hF (fun q => by omega), hwv, fun i hi => (sub i hi).imp id (fun q => by omega)⟩, fun q => (sub _ q).elim nw (fun q => by omega)⟩⟩
end Go.Proofs.YtjcnjlaelhdjeaaGreatDoor
namespace Go.Proofs.YtjcnjlaelhdjeaaGreatDoor
open Go Go.Vc Go.RowKit Go.Proofs Go.Lin Go.Chk Go.Runs Go.Code Go.Que Go.Flw Go.Eng
set_option linter.unusedVariables false
end Go.Proofs.YtjcnjlaelhdjeaaGreatDoor
namespace Go.Proofs.YtjcnjlaelhdjeaaGreatDoor
open Go Go.Vc Go.RowKit Go.Proofs Go.Lin Go.Chk Go.Runs Go.Code Go.Que Go.Flw Go.Eng
set_option linter.unusedVariables false
end Go.Proofs.YtjcnjlaelhdjeaaGreatDoor
namespace Go.Proofs.YtjcnjlaelhdjeaaGreatDoor
open Go Go.Vc Go.RowKit Go.Proofs Go.Lin Go.Chk Go.Runs Go.Code Go.Que Go.Flw Go.Eng
set_option linter.unusedVariables false
section
variable {w0 u u' : World} {sh : Nat} {M : Sm} {occ : Value} {L : List (Option Lfe)}
end
end Go.Proofs.YtjcnjlaelhdjeaaGreatDoor
namespace Go.Proofs.YtjcnjlaelhdjeaaGreatDoor
open Go Go.Vc Go.RowKit Go.Proofs Go.Chk Go.Runs Go.Code Go.Que Go.Flw Go.Eng
set_option maxRecDepth 100000
section
variable {F F' : Nat → Prop} {w w' : World} {g s o t : Nat} {M M' : Sm} {occ : Value} {L : List (Option Lfe)}
end
end Go.Proofs.YtjcnjlaelhdjeaaGreatDoor
namespace Go.Proofs.YtjcnjlaelhdjeaaGreatDoor
open Go Go.Vc Go.RowKit Go.Proofs Go.Chk Go.Runs Go.Code Go.Que Go.Flw Go.Eng
set_option maxRecDepth 100000
section
variable {F F' : Nat → Prop} {w w' : World} {g s o t : Nat} {M M' : Sm} {occ : Value} {L : List (Option Lfe)}
end
end Go.Proofs.YtjcnjlaelhdjeaaGreatDoor
namespace Go.Proofs.YtjcnjlaelhdjeaaGreatDoor
open Go Go.Vc Go.RowKit Go.Proofs Go.Chk Go.Runs Go.Code Go.Que Go.Flw Go.Eng
set_option maxRecDepth 100000
section
variable {F F' : Nat → Prop} {w w' : World} {g s o t : Nat} {M M' : Sm} {occ : Value} {L : List (Option Lfe)}
end
end Go.Proofs.YtjcnjlaelhdjeaaGreatDoor
namespace Go.Proofs.YtjcnjlaelhdjeaaGreatDoor
open Go Go.Vc Go.RowKit Go.Proofs Go.Chk Go.Runs Go.Code Go.Que Go.Flw Go.Eng
set_option maxRecDepth 100000
end Go.Proofs.YtjcnjlaelhdjeaaGreatDoor
namespace Go.Proofs.YtjcnjlaelhdjeaaGreatDoor
open Go Go.Vc Go.RowKit Go.Proofs Go.Chk Go.Runs Go.Code Go.Que Go.Flw Go.Eng
set_option maxRecDepth 100000
section
variable {F F' : Nat → Prop} {w w' : World} {g s o t : Nat} {M M' : Sm} {occ : Value} {L : List (Option Lfe)}
end
end Go.Proofs.YtjcnjlaelhdjeaaGreatDoor
namespace Go.Proofs.YtjcnjlaelhdjeaaGreatDoor
open Go Go.Vc Go.RowKit Go.Proofs
set_option maxRecDepth 100000
set_option maxHeartbeats 8000000
set_option linter.unusedVariables false
variable {R : Ending → World → Prop} {w : World} {a0 a1 a2 a3 a4 a5 a6 a7 a8 a9 a0_0 a0_1 a0_2 a0_3 a0_4 a0_5 a0_6 a0_7 a0_8 a0_9 a1_0 a1_1 a1_2 a1_3 a1_4 a1_5 a1_6 a1_7 a1_8 a1_9 a2_0 a2_1 a2_2 a2_3 a2_4 a2_5 a2_6 a2_7 a2_8 a2_9 a3_0 a3_1 a3_2 a3_3 a3_4 a3_5 a3_6 a3_7 a3_8 a3_9 : Int}
theorem sim_Sim_Restore.vc {a0 : Addr} {a2 : Sl} (h :
 (true = true ∧ Wr w (padd (some a0) 3) 1) ∧ (∀ w0, w0 = setP w (padd (some a0) 3) [.int .i64 (if 1099511627776 < (if 0 > a1 then 0 else a1) then 1099511627776 else (if 0 > a1 then 0 else a1))] →
 Cal 174 #[(4096:Int)] w0 (fun e w1 => ∃ (p2 : Option Addr), e = p2 ∧
 (true = true ∧ Wr w1 (padd (some a0) 0) 1) ∧ (∀ w3, w3 = setP w1 (padd (some a0) 0) [.pointer p2] →
 ∃ (p4 : Option Addr), ld w3 (padd (some a0) 0) = some (.pointer p4) ∧
 Cal 249 #[p4, a2] w3 (fun e w5 => ∃ (x6 : Int), e = x6 ∧
 R x6 w5))))) : Cal 186 #[a0, a1, a2] w R :=
 cq an0 Tryz.func186 h
theorem engine_Engine_Crash.vc {a0 : Addr} (h :
 ∃ (p0 : Option Addr), ld w (padd (some a0) 0) = some (.pointer p0) ∧
 Cal 39 #[p0] w (fun e w1 => ∃ (p2 : Option Addr), e = p2 ∧
 Cal 40 #[p2] w1 (fun e w3 => ∃ (p4 : Option Addr), e = p4 ∧
 Cal 183 #[p4, a1] w3 (fun e w5 => ∃ (x6 : Int), e = x6 ∧
 Cal 184 #[p4] w5 (fun e w7 => ∃ (s8 : Sl) (b9 : Bool), e = Value.tuple #[s8, b9] ∧
 Br (!b9)
 ((true = true ∧ Wr w7 (padd (some a0) 1) 16) ∧ (∀ w10, w10 = setP w7 (padd (some a0) 1) [.pointer none, .pointer none, .pointer none, .pointer none, .pointer none, .pointer none, .pointer none, .pointer none, .pointer none, .pointer none, .pointer none, .pointer none, .pointer none, .pointer none, .pointer none, .pointer none] →
 ∃ (p11 : Option Addr), ld w10 (padd (some a0) 0) = some (.pointer p11) ∧
 Cal 186 #[p11, vzz, .slice none 0 0] w10 (fun e w12 => ∃ (x13 : Int), e = x13 ∧
 R x6 w12)))
 (Cal 185 #[a0, s8] w7 (fun e w14 => ∃ (x15 : Int), e = x15 ∧
 Br (x15 != 0)
 ((true = true ∧ Wr w14 (padd (some a0) 1) 16) ∧ (∀ w16, w16 = setP w14 (padd (some a0) 1) [.pointer none, .pointer none, .pointer none, .pointer none, .pointer none, .pointer none, .pointer none, .pointer none, .pointer none, .pointer none, .pointer none, .pointer none, .pointer none, .pointer none, .pointer none, .pointer none] →
 ∃ (p17 : Option Addr), ld w16 (padd (some a0) 0) = some (.pointer p17) ∧
 Cal 186 #[p17, vzz, .slice none 0 0] w16 (fun e w18 => ∃ (x19 : Int), e = x19 ∧
 R x6 w18)))
 (R x6 w14)))))))) : Cal 123 #[a0, a1] w R :=
 cq an0 Tryz.func123 h
end Go.Proofs.YtjcnjlaelhdjeaaGreatDoor
namespace Go.Proofs.YtjcnjlaelhdjeaaGreatDoor
open Go Go.Vc Go.RowKit Go.Proofs Go.Chk Go.Runs Go.Code Go.Que Go.Flw Go.Eng
set_option maxRecDepth 100000
theorem qins_end {l : List Go.Que.It} {x : Go.Que.It} (h : ∀ y ∈ l, y.1 ≤ x.1) : qins l x = l ++ [x] := by
 unfold qins
 have key : ∀ (l : List Go.Que.It), (∀ y ∈ l, y.1 ≤ x.1) → l.takeWhile (fun y => decide (y.1 ≤ x.1)) = l ∧ l.dropWhile (fun y => decide (y.1 ≤ x.1)) = [] := by
  intro l
  induction l with
  | nil => intro _; exact ⟨rfl, rfl⟩
  | cons y l ih =>
    intro h
    obtain ⟨i1, i2⟩ := ih fun z hz => h z (.tail _ hz)
    have hy := decide_eq_true (h y (.head _))
    exact ⟨by rw [List.takeWhile_cons_of_pos (by exact hy), i1], by rw [List.dropWhile_cons_of_pos (by exact hy), i2]⟩
 obtain ⟨e1, e2⟩ := key l h
 rw [e1, e2]
theorem put_sorted : ∀ (xs pre : List Go.Que.It), QOk ⟨4096, 0, pre ++ xs⟩ → qput ⟨4096, 0, pre⟩ xs = (⟨4096, 0, pre ++ xs⟩, xs.length)
 | [], pre, _ => by rw [ali44]; rfl
 | x :: xs, pre, h => by
   have hlen := h.len
   simp only [ali07, ali10] at hlen
   have hno : ∀ y ∈ pre, y.2 ≠ x.2 := fun y hy q => by
    have hn := h.nodup
    simp only [ali08, ali17] at hn
    exact (alj47.1 hn).2.2 _ (ali06.2 ⟨y, hy, rfl⟩) _ (.head _) q
   have hle : ∀ y ∈ pre, y.1 ≤ x.1 := fun y hy => (List.pairwise_append.1 h.sorted).2.2 y hy x (.head _)
   have ha : qadd ⟨4096, 0, pre⟩ x.2 x.1 = (⟨4096, 0, pre ++ [x]⟩, true) := by
    rw [qadd_new hno (by simp only; omega)]
    rw [qins_end (x := (x.1, x.2)) hle]
   have ih := put_sorted xs (pre ++ [x]) (by rw [ali15]; exact h)
   unfold qput
   rw [ha]
   simp only
   rw [ih, ali15]
   simp [alj55]
section
variable {F F' : Nat → Prop} {w w' : World} {s o t : Nat} {M M' : Sm} {occ : Value} {O : Ce → Bool}
theorem restore_spec (h : SF F w s o t M occ) (n : Int) (a : Sl) (xs : List Go.Que.It) (ha : RdK w a 4 (xs.map itv)) (hlt : ∀ b, a.blk = some b → b < w.heap.size ∧ ¬ F b) (hq : QOk ⟨4096, 0, xs⟩) :
  Calls Tryz.prog 186 #[.pointer (some ⟨s, 0, none⟩), .int .i64 n, .slice a.a a.n a.c] w fun e w' => e = .returned (.int .i64 xs.length) ∧ SmRes F w s o t { M with q := ⟨4096, 0, xs⟩, now := min (max n 0) 1099511627776 } occ w' := by
 obtain ⟨g, m, qs, Fw, sd, h1, h2, hq0, h3, h4, h5, rfl⟩ := h
 have hFs := h1.lt
 apply (sim_Sim_Restore.vc (a2 := a))
 have en : (if 1099511627776 < (if 0 > n then 0 else n) then 1099511627776 else (if 0 > n then 0 else n)) = min (max n 0) 1099511627776 := by
  split <;> split <;> omega
 obtain ⟨p1, p2⟩ := h1.put1 (j := 3) (v := .int .i64 (min (max n 0) 1099511627776)) (by simp [smC]) rfl
 refine ⟨⟨rfl, p1⟩, fun w0 e0 => ?_⟩
 rw [en] at e0
 obtain ⟨r0, m0⟩ := p2 w0 e0
 refine (Q.New_spec 4096 w0).mono ?_
 rintro e w1 ⟨g', m', rfl, hn, x1, hg, hm⟩
 have r1 := r0.ext x1
 obtain ⟨p3, p4⟩ := r1.put1 (j := 0) (v := .pointer (some ⟨g', 0, none⟩)) (by simp [smC, putCells]) rfl
 refine ⟨_, rfl, ⟨rfl, p3⟩, fun w3 e3 => ?_⟩
 obtain ⟨r3, m3⟩ := p4 w3 e3
 have mm : Mod (fun i => i = s) w w3 := (m0.trans (Mod.of_ext x1)).trans m3
 have z3 := mm.size
 have z0 := m0.size
 have z13 := m3.size
 have hn3 : Q.QIs w3 g' m' ⟨none, 0, 0⟩ ⟨4096, 0, []⟩ := Q.QIs.keep (q := ⟨4096, 0, []⟩) hn m3 fun i hi e => by
  rcases hi with hi | hi | hi
  ·omega
  ·omega
  ·cases hi
 have ha3 : RdK w3 a 4 (xs.map itv) := mm.rdK (by decide) ha fun _ b hb e => (hlt b hb).2 (.inl e)
 have hlen := hq.len
 refine ⟨_, r3.at 0 rfl, (Q.Put_spec hn3 q0_ok ⟨Int.le_refl _, by simp only at hlen ⊢; omega⟩ ha3 (fun b hb => by have := (hlt b hb).1; omega) (fun b hb hf => by
  have := (hlt b hb).1
  rcases hf with hf | hf | hf
  ·omega
  ·omega
  ·cases hf)).mono ?_⟩
 have hput := put_sorted xs [] (by rw [List.nil_append]; exact hq)
 rw [List.nil_append] at hput
 rw [hput]
 rintro e w5 ⟨rfl, s', hq5, ht⟩
 have q1 : ∀ b, sd.blk = some b → b ≠ s := fun b hb => by
  obtain ⟨cs', hr'⟩ := own_row h4 (by decide) hb
  exact hr'.ne h1 (by decide)
 have q2 := h3.no_row h1 (by decide) (by decide) (by decide)
 have hft : ∀ i, i < w.heap.size → ¬ Q.Foot g' m' ⟨none, 0, 0⟩ i := fun i hi hf => by
  rcases hf with hf | hf | hf
  ·omega
  ·omega
  ·cases hf
 have hnew : ∀ i, Q.Foot g' m' s' i → w.heap.size ≤ i := fun i hi => by
  rcases ht.sub i hi with q | q
  ·by_cases hx : i < w.heap.size
   ·exact absurd q (hft i hx)
   ·omega
  ·omega
 have hW5 := (h3.keep mm fun i hi e => q2 (e ▸ hi)).keep ht.mod fun i hi => hft i (h3.lt hi)
 have hd5 := ht.mod.ownK (mm.ownK h4 q1) fun b hb => hft b (h4.own.lt hb).2
 have hr5 := ht.mod.row r3 (hft s hFs)
 refine ⟨_, rfl, rfl, _, ⟨g', m', s', Fw, sd, hr5, hq5, hq, hW5, hd5, fun i hi hf => by have := hnew i hi; have := h3.lt hf; omega, rfl⟩, ⟨by rw [ht.mod.os, mm.os], by rw [ht.mod.tape, mm.tape], by rw [ht.mod.output, mm.output], Nat.le_trans z3 ht.mod.size, fun i hi hn => ?_⟩, fun i hi => ?_⟩
 ·exact (ht.mod.same i (by omega) (hft i hi)).trans (mm.same i hi fun e => hn (.inl e))
 ·rcases hi with hi | hi | hi | hi
  ·exact .inl (.inl hi)
  ·exact .inr (hnew i hi)
  ·exact .inl (.inr (.inr (.inl hi)))
  ·exact .inl (.inr (.inr (.inr hi)))
end
section
variable {F : Nat → Prop} {w : World} {g s o t : Nat} {M M' : Sm} {occ : Value} {L L0 : List (Option Lfe)}
theorem EF.world (h : EF F w g s o t M occ L) : ∃ Fw, WF Fw w o t M.seed M.cap M.T M.ch ∧ ∀ {w' : World} {T' : Tb} {ch' : List Go.Flw.Cg}, WRes Fw w o t M.seed M.cap T' ch' w' → ERes F w g s o t { M with T := T', ch := ch' } occ L w' := by
 obtain ⟨Fs, hs, -, -, hres⟩ := h.sim
 obtain ⟨Fw, hW, -, hresW⟩ := hs.world
 exact ⟨Fw, hW, fun hr => hres (hresW hr)⟩
theorem wfCrash_spec {ch : List Cg} {T : Tb} {seed limit : Int} (h : WF F w o t seed limit T ch) (hW : T.1.l.length ≤ 1000000) (hl : lenB T.1.l ≤ 1099511627776) (keep : Int) :
  Cal 183 #[t, keep] w fun e w' => e = Value.int .i64 (crashD T.1 keep).2 ∧ WRes F w o t seed limit ((crashD T.1 keep).1, []) ch w' := by
 obtain ⟨F1, hT, -, hres⟩ := h.table
 refine (tfCrash_spec hT hW hl keep).mono ?_
 rintro e w' ⟨rfl, hr⟩
 exact ⟨rfl, hres hr⟩
theorem wfKept_spec {ch : List Cg} {T : Tb} {seed limit : Int} (h : WF F w o t seed limit T ch) (hW : T.1.l.length ≤ 1000000) :
  Cal 184 #[t] w fun e w' => ∃ s : Sl, e = Value.tuple #[s, .bool (Go.Chk.ldS T.1 0).2.2] ∧ RdY w' s (Go.Chk.ldS T.1 0).1 ∧ s.n ≤ s.c ∧ Ext w w' := by
 obtain ⟨F1, hT, -, -⟩ := h.table
 refine (tfKept_spec hT hW).mono ?_
 rintro e w' ⟨s, rfl, h1, -, -, h2, -, x⟩
 exact ⟨s, rfl, h1, h2, x⟩
theorem ERes.tr {F' : Nat → Prop} {w1 w2 : World} {M2 : Sm} {L2 : List (Option Lfe)} {occ2 : Value} (h : Turned F F' w w1) (k : ERes F' w1 g s o t M2 occ2 L2 w2) : ERes F w g s o t M2 occ2 L2 w2 := by
 obtain ⟨F2, h2, t2⟩ := k
 exact ⟨F2, h2, h.trans t2⟩
abbrev noAv : List (Option Nat) := List.replicate 16 none
theorem el_none (w : World) : EL w noAv noL := by
 refine ⟨rfl, rfl, fun i a q => ?_, fun i q => ?_, fun i j a q => ?_⟩
 ·rw [ali47] at q
  split at q <;> cases q
 ·rw [ali47] at q ⊢
  split at q
  ·rename_i hi
   rw [if_pos hi]
  ·cases q
 ·rw [ali47] at q
  split at q <;> cases q
set_option maxHeartbeats 4000000 in
theorem eEmpty_spec (h : EF F w g s o t M occ L0) : (true = true ∧ Wr w (padd (some ⟨g, 0, none⟩) 1) 16) ∧ ∀ u, u = setP w (padd (some ⟨g, 0, none⟩) 1) (noAv.map pA) → Vc.ld u (padd (some ⟨g, 0, none⟩) 0) = some (.pointer (some ⟨s, 0, none⟩)) ∧
  Calls Tryz.prog 186 #[.pointer (some ⟨s, 0, none⟩), .int .i64 0, .slice none 0 0] u fun e w' => e = .returned (.int .i64 0) ∧ ERes F w g s o t { M with q := ⟨4096, 0, []⟩, now := 0 } occ noL w' := by
 obtain ⟨Fs, av0, hrow, hsf, hel0, rfl⟩ := h
 have ng : ¬ Fs g := hsf.no_row2 hrow ode.1.1 ode.1.2.1 ode.1.2.2.1 ode.1.2.2.2.1 ode.1.2.2.2.2.1 ode.1.2.2.2.2.2.1 ode.1.2.2.2.2.2.2
 have hl17 : (Value.pointer (some ⟨s, 0, none⟩) :: av0.map pA).length = 17 := by rw [List.length_cons, List.length_map, hel0.n]
 have ep : padd (some ⟨g, 0, none⟩) 1 = some ⟨g, 1, none⟩ := padd_row ..
 rw [ep]
 refine ⟨⟨rfl, hrow.wr (o := 1) (n := 16) (by rw [hl17]; exact Nat.le_refl 17)⟩, fun w22 e22 => ?_⟩
 have e22' := e22.trans (hrow.setP (o := 1) (by rw [hl17]; exact Nat.le_refl 17) (by
  show ∀ u ∈ _, _
  intro u hu
  obtain ⟨x, hx, rfl⟩ := List.mem_map.1 hu
  rfl))
 have ecs : putCells (Value.pointer (some ⟨s, 0, none⟩) :: av0.map pA) 1 (noAv.map pA) = .pointer (some ⟨s, 0, none⟩) :: noAv.map pA := by
  obtain ⟨b0, b1, b2, b3, b4, b5, b6, b7, b8, b9, b10, b11, b12, b13, b14, b15, rfl⟩ := sixteen hel0.n
  rfl
 have r22 : Row w22 g (.pointer (some ⟨s, 0, none⟩) :: noAv.map pA) tEng := by
  rw [← ecs, e22']
  exact Row.set hrow _
 have o22 : ∀ j, j ≠ g → w22.heap[j]? = w.heap[j]? := fun j hj => by rw [e22']; exact setRow_other _ _ _ _ hj
 have z22 : w22.heap.size = w.heap.size := by rw [e22', setRow_size]
 have mm : Mod (fun i => i = g) w w22 := ⟨by rw [e22']; rfl, by rw [e22']; rfl, by rw [e22']; rfl, Nat.le_of_eq z22.symm, fun i _ hn => o22 i hn⟩
 have hs22 : SF Fs w22 s o t M occ := hsf.same fun i hi => o22 i fun q => ng (q ▸ hi)
 refine ⟨r22.at 0 rfl, (restore_spec hs22 0 ⟨none, 0, 0⟩ [] ((OwnK.nil (B := 0) (E := 157)).rd (show 0 < 4 by decide)) (fun b hb => by cases hb) q0_ok).mono ?_⟩
 rintro e w24 ⟨rfl, F', hs24, ht⟩
 refine ⟨rfl, fun i => i = g ∨ F' i ∨ some i ∈ noAv, ⟨F', _, ht.mod.row r22 ng, hs24, el_none _, rfl⟩, (mm.mono fun i _ hi => .inl hi).trans (ht.mod.mono fun i _ hi => .inr (.inl hi)), fun i hi => ?_⟩
 rcases hi with hi | hi | hi
 ·exact .inl (.inl hi)
 ·rcases ht.sub i hi with q | q
  ·exact .inl (.inr (.inl q))
  ·exact .inr (by omega)
 ·cases List.eq_of_mem_replicate hi
set_option maxHeartbeats 4000000 in
theorem eCrash_none (h : EF F w g s o t M occ L0) (keep : Int) (hW : M.T.1.l.length ≤ 1000000) (hl : lenB M.T.1.l ≤ 1099511627776) (hW' : (crashD M.T.1 keep).1.l.length ≤ 1000000) (hk : (Go.Chk.ldS (crashD M.T.1 keep).1 0).2.2 = false) :
  Cal 123 #[g, keep] w fun e w' => e = Value.int .i64 (crashD M.T.1 keep).2 ∧ ERes F w g s o t { M with T := ((crashD M.T.1 keep).1, []), q := ⟨4096, 0, []⟩, now := 0 } occ noL w' := by
 obtain ⟨Fs, hs, hld, -⟩ := h.sim
 obtain ⟨Fw, hWd, hres⟩ := h.world
 apply engine_Engine_Crash.vc
 refine ⟨_, hld, (sWorld_spec hs).mono ?_⟩
 rintro e w1 ⟨rfl, hw1⟩
 subst hw1
 refine ⟨_, rfl, (wTable_spec hWd).mono ?_⟩
 rintro e w3 ⟨rfl, hw3⟩
 subst hw3
 refine ⟨_, rfl, (wfCrash_spec hWd hW hl keep).mono ?_⟩
 rintro e w5 ⟨rfl, hr5⟩
 obtain ⟨F5, h5, t5⟩ := hres hr5
 obtain ⟨Fw5, hW5, -⟩ := h5.world
 refine ⟨_, rfl, (wfKept_spec hW5 hW').mono ?_⟩
 rintro e w7 ⟨s8, rfl, -, -, x7⟩
 refine ⟨s8, _, rfl, ?_⟩
 show Br (!(Go.Chk.ldS (crashD M.T.1 keep).1 0).2.2) _ _
 rw [hk]
 obtain ⟨p1, p2⟩ := eEmpty_spec (h5.ext x7)
 refine Br.mk (fun _ => ⟨p1, fun w10 e10 => ?_⟩) fun q => by cases q
 obtain ⟨q1, q2⟩ := p2 w10 e10
 refine ⟨_, q1, q2.mono ?_⟩
 rintro e w12 ⟨rfl, hr⟩
 exact ⟨_, rfl, rfl, ERes.tr t5 (ERes.of_ext x7 hr)⟩
end
end Go.Proofs.YtjcnjlaelhdjeaaGreatDoor
namespace Go.Proofs.YtjcnjlaelhdjeaaGreatDoor
open Go Go.Vc Go.RowKit Go.Proofs Go.Lin Go.Chk Go.Runs Go.Code Go.Que Go.Flw Go.Eng
set_option linter.unusedVariables false
abbrev Tab10 (w : World) : Prop := Lib.TabIs Tryz.prog w "internal/strconv.uint64pow10" .u64 Lib.pow10Tab
theorem tab_ext {w w' : World} (h : Tab10 w) (x : Ext w w') : Tab10 w' := by
 unfold Tab10 Lib.TabIs World.var? at *
 cases hg : Tryz.prog.globalNamed "internal/strconv.uint64pow10" with
 | none => rw [hg] at h; cases h
 | some g =>
   rw [hg] at h
   simp only [Option.bind_some] at h ⊢
   have hl : g < w := by
    by_cases c : g < w.heap.size
    ·exact c
    ·rw [Array.getElem?_eq_none omm] at h
     cases h
   rw [x.heap hl]
   exact h
def itoaT (n : Int) : ByteArray := ⟨(Lib.itoa n).toArray⟩
theorem ext_grow (w : World) (k : Nat) (os : Array Obj) : Ext w (Go.Sort.grow (w.drewN k) os) := by
 refine ⟨rfl, rfl, rfl, ?_, fun i hi => ?_⟩
 ·show w.heap.size ≤ (w.heap ++ os).size
  rw [Array.size_append]; omega
 ·show (w.heap ++ os)[i]? = w.heap[i]?
  rw [Array.getElem?_append_left hi]
theorem itm_int {w : World} (hT : Tab10 w) {n : Int} (hn : inI n) : Itm w (.iface 3 (n)) (itoaT n) :=
 .n _ _ fun u xu => (Tryz.strconv_Itoa n hn.1 hn.2 u (tab_ext hT xu)).mono fun e u' hh => by
  obtain ⟨h1, k, os, h2⟩ := hh
  exact ⟨h1, h2 ▸ ext_grow _ _ _⟩
theorem dig_len : ∀ (k u : Nat), u < 10 ^ (k + 1) → (Lib.decDigits u).length ≤ k + 1
 | 0, u, h => by
   unfold Lib.decDigits
   rw [dif_pos omm]
   exact ali34 _
 | k + 1, u, h => by
   unfold Lib.decDigits
   split
   ·simp
   ·have := dig_len k (u / 10) (by rw [Nat.pow_succ] at h; omega)
    simp only [ali07, ali10, alj33]
    omega
theorem itoa_size {n : Int} (hn : inI n) : (itoaT n).size ≤ 1000000 := by
 unfold inI at hn
 have key : (Lib.itoa n).length ≤ 21 := by
  unfold Lib.itoa
  split
  ·have := dig_len 19 n.natAbs omm
   simp only [ali10]
   omega
  ·have := dig_len 19 n.toNat omm
   omega
 have e := bl_len (itoaT n)
 have : bl (itoaT n) = Lib.itoa n := rfl
 rw [this] at e
 omega
section
variable {F : Nat → Prop} {w : World} {sh g s o t : Nat} {M M' : Sm} {occ occ' : Value} {L L' : List (Option Lfe)}
theorem SH_of (h : EF F w g s o t M occ L) (hs : SHE w sh g) (hF : ¬ F sh) {v v1 v' : World} {ga : Nat} (xv : Ext w v) (hga : w.heap.size < ga) (hgv : ga < v.heap.size) (m1 : Mod (fun i => i = ga) v v1) (hr : ERes F v1 g s o t M' occ' L' v') : ∃ F', SH w F v' sh g s o t M' occ' L' F' ∧ ¬ F' w ∧ v'.heap[w.heap.size]? = v.heap[w.heap.size]? := by
 obtain ⟨F', h2, ht⟩ := hr
 have nw : ¬ F w := fun q => by have := h.lt q; omega
 have hsl := hs.row.lt
 have hz := m1.size
 have hm : Mod F w v' := ((Mod.of_ext xv).tr m1 (fun i hi => .inr omm)).trans ht.mod
 have sub : ∀ i, F' i → F i ∨ v1.heap.size ≤ i := ht.sub
 exact ⟨F', ⟨h2, ⟨hs.row.same (hm.same sh hsl hF)⟩, fun q => (sub _ q).elim hF (fun q => by omega), hm, fun i hi => (sub i hi).imp id (fun q => by omega)⟩, fun q => (sub _ q).elim nw (fun q => by omega), (ht.mod.same _ omm nw).trans (m1.same _ omm omm)⟩
theorem Line_eres (h : EF F w g s o t M occ L) (hs : SHE w sh g) (hF : ¬ F sh) (line : ByteArray) (hl : line.size ≤ 4294967296) {c tx : ByteArray} {r : List ByteArray} (hw : wordsK line = c :: r) (i f : Nat) (hi : cmdN[i]? = some c)
  (hv : ∀ c1 c2 c3 c4 c5, (cmdV sh [c1, c2, c3, c4, c5])[i]? = some (methV f sh)) (hen : ∀ args w, (callFunc f args).run Tryz.prog w = .ok (.enter f args) w)
  (hcall : ∀ (v : World) (B ga : Nat), Ext w v → EF F v g s o t M occ L → SHE v sh g → AG v B ga r → ¬ F ga → sh ≠ ga → w.heap.size < ga → Cal f #[sh, ga] v fun e v' => e = Value.string tx ∧ ∃ v1, Mod (fun i => i = ga) v v1 ∧ ERes F v1 g s o t M' occ' L' v') :
  Cal 14 #[sh, .string line] w fun e w' => e = Value.string tx ∧ ∃ F', SH w F w' sh g s o t M' occ' L' F' := by
 have hsl := hs.row.lt
 refine (Line_meth h hs line hl hw i f hi hv hen (fun t' u => t' = tx ∧ ∃ F', SH w F u sh g s o t M' occ' L' F' ∧ ¬ F' w) ?_ ?_).mono ?_
 ·rintro t' u u' ⟨rfl, F', hS, hn⟩ hm
  exact ⟨rfl, F', hS.put hn omm (ali34 _) hm, hn⟩
 ·intro v B ga xv hag hga
  have hgl := hag.lt
  have hle := hag.le
  have hFga : ¬ F ga := fun q => by have := h.lt q; omega
  refine (hcall v B ga xv (h.ext xv) ⟨hs.row.ext xv⟩ hag hFga omm hga).mono ?_
  rintro e v' ⟨rfl, v1, m1, hr⟩
  obtain ⟨F', hS, hn, hk⟩ := SH_of h hs hF xv hga omm m1 hr
  exact ⟨hk, .inl ⟨_, rfl, rfl, F', hS, hn⟩⟩
 ·rintro e w' ⟨t', rfl, rfl, F', hS, -⟩
  exact ⟨rfl, F', hS⟩
set_option maxRecDepth 100000 in
theorem Line_tbl (h : EF F w g s o t M occ L) (hs : SHE w sh g) (hF : ¬ F sh) (line : ByteArray) (hl : line.size ≤ 4294967296) {c : ByteArray} {r : List ByteArray} (hw : wordsK line = c :: r) (k : Nat) (hk : k < 5) (hi : cmdN[k + 1]? = some c) {p : Po} (hp : pPos r = some (p, [])) {x : Int} (hx : 0 ≤ x ∧ x < 14)
  (hop : ∀ v, EF F v g s o t M occ L → callV Tryz.prog (thisV (88 + k) t) [.agg #[p.1, p.2]] v fun e v' => e = x ∧ ERes F v g s o t M' occ' L' v') :
  Cal 14 #[sh, .string line] w fun e w' => e = Value.string (errT x) ∧ ∃ F', SH w F w' sh g s o t M' occ' L' F' := by
 have hsl := hs.row.lt
 refine (Line_core line hl h hs (fun tx u => tx = errT x ∧ ∃ F', SH w F u sh g s o t M' occ' L' F' ∧ ¬ F' w) ?_ ?_ ?_ ?_).mono ?_
 ·rintro tx u u' ⟨rfl, F', hS, hn⟩ hm
  exact ⟨rfl, F', hS.put hn omm (ali34 _) hm, hn⟩
 ·intro h1
  rw [hw] at h1
  cases h1
 ·intro c' r' h1 h2
  rw [hw] at h1
  cases h1
  exact absurd (ali00 hi) h2
 ·intro c' r' i h1 hi' u B ga c1 c2 c3 c4 c5 xu hag hga r1 r2 r3 r4 r5 hcB v hv
  rw [hw] at h1
  cases h1
  have hi1 : i = k + 1 := (List.getElem?_inj (i := i) (j := k + 1) (ali03.1 hi').1 cmdN_nodup).1 (hi'.trans hi.symm)
  subst hi1
  obtain ⟨ck, hcv, hcr, hcb⟩ : ∃ ck, tblV ck = v ∧ Row u ck [thisV (88 + k) t] 157 ∧ B ≤ ck := by
   have : k = 0 ∨ k = 1 ∨ k = 2 ∨ k = 3 ∨ k = 4 := by omega
   rcases this with rfl | rfl | rfl | rfl | rfl
   ·exact ⟨c1, by simpa [cmdV] using hv, r1, hcB.1⟩
   ·exact ⟨c2, by simpa [cmdV] using hv, r2, hcB.2.1⟩
   ·exact ⟨c3, by simpa [cmdV] using hv, r3, hcB.2.2.1⟩
   ·exact ⟨c4, by simpa [cmdV] using hv, r4, hcB.2.2.2.1⟩
   ·exact ⟨c5, by simpa [cmdV] using hv, r5, hcB.2.2.2.2⟩
  subst hcv
  refine ⟨155, #[], #[.pointer (pzq ck)], ⟨rfl, fun args w => enter_of Tryz.func155 (by kernel_rfl) rfl args w⟩, ?_⟩
  have hgl := hag.lt
  have hle := hag.le
  have hFga : ¬ F ga := fun q => by have := h.lt q; omega
  show Cal 155 #[ga, .pointer (pzq ck)] u _
  refine table1_spec hag hcr omm rfl _ ?_ ?_
  ·intro hno
   exact absurd hp (hno p)
  ·intro p' r'' hp' hr'' u' hm hlt
   rw [hp] at hp'
   cases hp'
   have hwu : w.heap.size ≤ u.heap.size := xu.size
   have h1 : EF F u' g s o t M occ L := (h.ext xu).same fun i hi => hm.same i (by have := h.lt hi; omega) (fun q => hFga (q ▸ hi))
   refine callV_mono (hop u' h1) ?_
   rintro e u2 ⟨rfl, hr⟩
   obtain ⟨F2, h2, ht⟩ := hr
   have hm2 := ht.mod
   have ku : ∀ i, ¬ F i → i < u'.heap.size → u2.heap[i]? = u'.heap[i]? := fun i hn hi => hm2.same i hi hn
   have nF : ∀ i, w.heap.size ≤ i → ¬ F i := fun i hi q => by have := h.lt q; omega
   refine ⟨x, errT x, rfl, fun i hi hi2 => ku i (nF i omm) hi2, hm2.size, fun v _ => itm_err hx v, err_size x, ?_⟩
   intro v hv
   obtain ⟨F', hS, hn, hkk⟩ := SH_of h hs hF xu hga omm hm ⟨F2, h2.ext hv, ht.trans (Turned.of_ext hv)⟩
   exact ⟨hkk, .inl ⟨_, rfl, rfl, F', hS, hn⟩⟩
 ·rintro e w' ⟨t', rfl, rfl, F', hS, -⟩
  exact ⟨rfl, F', hS⟩
theorem eFlush_spec (h : EF F w g s o t M occ L) (hW : M.T.1.l.length ≤ 1000000) (p : Po) :
  Cal 90 #[t, pv p] w fun e w' => e = Value.int .i64 (flE M.T.1 M.T.2 p).2 ∧ ERes F w g s o t { M with T := (flE M.T.1 M.T.2 p).1 } occ L w' := by
 obtain ⟨Fw, hW0, hres⟩ := h.world
 obtain ⟨F1, hT, -, hrt⟩ := hW0.table
 refine (tfFlush_spec hT hW p).mono ?_
 rintro e w' ⟨rfl, hr⟩
 exact ⟨rfl, hres (hrt hr)⟩
end
end Go.Proofs.YtjcnjlaelhdjeaaGreatDoor
namespace Go.Proofs.YtjcnjlaelhdjeaaGreatDoor
open Go Go.Vc Go.RowKit Go.Proofs Go.Lin Go.Chk Go.Runs Go.Code Go.Que Go.Flw Go.Eng
set_option linter.unusedVariables false
section
variable {F : Nat → Prop} {w : World} {sh g s o t B ga : Nat} {M M' : Sm} {occ occ' : Value} {L L' : List (Option Lfe)} {ws : List ByteArray}
set_option maxRecDepth 100000 in
theorem shFail_spec (h : EF F w g s o t M occ L) (hs : SHE w sh g) (ha : AG w B ga ws) (hF : ¬ F ga) (hsg : sh ≠ ga) {n : Int} (hp : pNum ws = some (n, [])) (hn : inI n) :
  Cal 94 #[sh, ga] w fun e w' => e = Value.string (ByteArray.mk #[111, 107]) ∧ ∃ v1, Mod (fun i => i = ga) w v1 ∧ ERes F v1 g s o t { M with T := (failD M.T.1 n, M.T.2) } occ L w' := by
 apply lines_Shell_fail.vc
 refine (num_spec ha).mono ?_
 rintro e w0 ⟨m0, hq⟩
 rw [hp] at hq
 obtain ⟨rfl, ha0⟩ := hq
 refine ⟨n, rfl, (end_spec ha0).mono ?_⟩
 rintro e w2 ⟨e2, he⟩
 rw [if_pos rfl] at he
 subst he
 rw [e2]
 have h0 : EF F w0 g s o t M occ L := h.same fun i hi => m0.same i (h.lt hi) (fun q => hF (q ▸ hi))
 have hsh : Row w0 sh [g] tShell := hs.row.same (m0.same sh hs.row.lt hsg)
 obtain ⟨Fs, hS, hpp, -, -⟩ := h0.sim
 obtain ⟨Fw, hW, hres⟩ := h0.world
 obtain ⟨Fw', hW', -, -⟩ := hS.world
 refine ⟨rfl, pzq g, by rw [padd_row, hsh.ld]; rfl, AndL_nn.2 ⟨rfl, AndL_nn.2 ⟨rfl, pzq s, hpp, (sWorld_spec hS).mono ?_⟩⟩⟩
 rintro _ w5 ⟨rfl, e5⟩
 rw [e5]
 refine ⟨_, rfl, (wTable_spec hW).mono ?_⟩
 rintro _ w7 ⟨rfl, e7⟩
 rw [e7]
 obtain ⟨F1, hT, -, hrt⟩ := hW.table
 obtain ⟨st, d, g1, g2, g3⟩ := tfDisk hT
 refine ⟨_, rfl, AndL_nn.2 ⟨rfl, AndL_nn.2 ⟨rfl, _, g1, AndL_nn.2 ⟨rfl, AndL_nn.2 ⟨rfl, AndL_nn.2 ⟨rfl, _, g2, (g3 n hn).mono ?_⟩⟩⟩⟩⟩⟩
 rintro _ w11 ⟨rfl, hr⟩
 refine ⟨rfl, fun w12 e12 => ?_⟩
 have x12 : Ext w11 w12 := by rw [e12]; exact Ext.al _ _
 have z12 := hs1 e12
 refine (told_one e12 .ok dcc).mono ?_
 rintro _ w13 ⟨rfl, x13⟩
 obtain ⟨F2, h2, t2⟩ := hres (hrt hr)
 exact ⟨_, rfl, rfl, w0, m0, F2, h2.ext (x12.tr x13), t2.trans (Turned.of_ext (x12.tr x13))⟩
set_option maxRecDepth 100000 in
theorem shCrash_spec (h : EF F w g s o t M occ L) (hs : SHE w sh g) (ha : AG w B ga ws) (hF : ¬ F ga) (hsg : sh ≠ ga) {n x : Int} (hp : pNum ws = some (n, [])) (hx : inI x) (hT : ∀ u, Mod (fun i => F i ∨ i = ga) w u → Tab10 u)
  (hop : ∀ v, EF F v g s o t M occ L → Cal 123 #[g, n] v fun e v' => e = x ∧ ERes F v g s o t M' occ' L' v') :
  Cal 95 #[sh, ga] w fun e w' => e = Value.string (itoaT x) ∧ ∃ v1, Mod (fun i => i = ga) w v1 ∧ ERes F v1 g s o t M' occ' L' w' := by
 apply lines_Shell_crash.vc
 refine (num_spec ha).mono ?_
 rintro e w0 ⟨m0, hq⟩
 rw [hp] at hq
 obtain ⟨rfl, ha0⟩ := hq
 refine ⟨n, rfl, (end_spec ha0).mono ?_⟩
 rintro e w2 ⟨e2, he⟩
 rw [if_pos rfl] at he
 subst he
 rw [e2]
 have h0 : EF F w0 g s o t M occ L := h.same fun i hi => m0.same i (h.lt hi) (fun q => hF (q ▸ hi))
 have hsh : Row w0 sh [g] tShell := hs.row.same (m0.same sh hs.row.lt hsg)
 refine ⟨rfl, pzq g, by rw [padd_row, hsh.ld]; rfl, (hop w0 h0).mono ?_⟩
 rintro _ w4 ⟨rfl, F2, h2, t2⟩
 refine ⟨_, rfl, fun w6 e6 => ?_⟩
 have x6 : Ext w4 w6 := by rw [e6]; exact Ext.al _ _
 have z6 := hs1 e6
 have m4 : Mod (fun i => F i ∨ i = ga) w w6 := ((m0.mono fun i _ hi => .inr hi).trans (t2.mod.mono fun i _ hi => .inl hi)).trans (Mod.of_ext x6)
 refine (told_one e6 (itm_int (hT w6 m4) hx) (itoa_size hx)).mono ?_
 rintro _ w7 ⟨rfl, x7⟩
 exact ⟨_, rfl, rfl, w0, m0, F2, h2.ext (x6.tr x7), t2.trans (Turned.of_ext (x6.tr x7))⟩
set_option maxRecDepth 100000 in
theorem shWorld_spec (hs : SHE w sh g) (ha : AG w B ga ws) (hsg : sh ≠ ga) {a b c : Int} (hp : pVec ws = some ((a, b, c), [])) :
  Cal 86 #[sh, ga] w fun e w' => e = Value.string (ByteArray.mk #[111, 107]) ∧ Mod (fun i => i = ga ∨ i = sh) w w' ∧
   ∃ (g' s' o' t' : Nat) (F' : Nat → Prop), EF F' w' g' s' o' t' (M0e a b 200000 c) occ0 noL ∧ SHE w' sh g' ∧ ∀ i, F' i → w.heap.size ≤ i := by
 apply lines_Shell_world.vc
 unfold pVec at hp
 refine (num_spec ha).mono ?_
 rintro e w0 ⟨m0, hq⟩
 cases h1 : pNum ws with
 | none => rw [h1] at hp; cases hp
 | some x1 =>
   obtain ⟨a', r1⟩ := x1
   rw [h1] at hq hp
   simp only at hp
   obtain ⟨rfl, ha0⟩ := hq
   refine ⟨a', rfl, (num_spec ha0).mono ?_⟩
   rintro e w2 ⟨m2, hq⟩
   cases h2 : pNum r1 with
   | none => rw [h2] at hp; cases hp
   | some x2 =>
     obtain ⟨b', r2⟩ := x2
     rw [h2] at hq hp
     simp only at hp
     obtain ⟨rfl, ha2⟩ := hq
     refine ⟨b', rfl, (num_spec ha2).mono ?_⟩
     rintro e w4 ⟨m4, hq⟩
     cases h3 : pNum r2 with
     | none => rw [h3] at hp; cases hp
     | some x3 =>
       obtain ⟨c', r3⟩ := x3
       rw [h3] at hq hp
       simp only at hp
       cases hp
       obtain ⟨rfl, ha4⟩ := hq
       refine ⟨c, rfl, (end_spec ha4).mono ?_⟩
       rintro e w6 ⟨e6, he⟩
       rw [if_pos rfl] at he
       subst he
       rw [e6]
       have m04 : Mod (fun i => i = ga) w w4 := (m0.trans m2).trans m4
       have hsh : Row w4 sh [g] tShell := hs.row.same (m04.same sh hs.row.lt hsg)
       refine ⟨rfl, (eNew_spec a b 200000 c w4).mono ?_⟩
       rintro _ w7 ⟨g', s', o', t', F', rfl, hE, x7, hF'⟩
       have hsh7 := hsh.ext x7
       obtain ⟨p1, p2⟩ := hsh7.put1 (j := 0) (v := .pointer (pzq g')) smm rfl
       refine ⟨_, rfl, ⟨rfl, p1⟩, fun w9 e9 w10 e10 => ?_⟩
       obtain ⟨q1, q2⟩ := p2 w9 e9
       have x10 : Ext w9 w10 := by rw [e10]; exact Ext.al _ _
       refine (told_one e10 .ok dcc).mono ?_
       rintro _ w11 ⟨rfl, x11⟩
       have xx := x10.tr x11
       have hlt := hsh.lt
       have z04 := m04.size
       have hsl := hs.row.lt
       have nF : ¬ F' sh := fun q => by have := hF' _ q; omega
       have hE9 : EF F' w9 g' s' o' t' (M0e a b 200000 c) occ0 noL := hE.same fun i hi => q2.same i (hE.lt hi) (fun q => nF (q ▸ hi))
       exact ⟨_, rfl, rfl, (((m04.trans (Mod.of_ext x7)).mono fun i _ hi => .inl hi).trans (q2.mono fun i _ hi => .inr hi)).trans (Mod.of_ext xx), g', s', o', t', F', hE9.ext xx, ⟨q1.ext xx⟩, fun i hi => by have := hF' i hi; omega⟩
end
end Go.Proofs.YtjcnjlaelhdjeaaGreatDoor
