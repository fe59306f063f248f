import Derived.Test.YtjcnjlaelhdjeaaGreatDoorJ
import Derived.Shelf.Strings.Builder1
import Derived.Test.YtjcnjlaelhdjeaaGreatDoorE
set_option linter.all false
namespace Go.Proofs.YtjcnjlaelhdjeaaGreatDoor
open Go Go.Vc Go.RowKit Go.Proofs Go.Lin
set_option linter.unusedVariables false
theorem copyCheck_v {w : World} {B b : Nat} {p : Option Addr} {v : Value} {bs : List Value} (hp : p = none ∨ p = some ⟨b, 0, none⟩) (hr : Row w b [.pointer p, v] 112) (hown : w.ownsRow B 5 1 v bs.length bs) (hne : v.ownBlock ≠ some b) :
  Calls Tryz.prog 117 #[.pointer (some ⟨b, 0, none⟩)] w fun e w' => e = .returned (.tuple #[]) ∧ Row w' b [.pointer (some ⟨b, 0, none⟩), v] 112 ∧ w'.ownsRow B 5 1 v bs.length bs ∧ Mod (fun i => i = b) w w' ∧ w'.heap.size = w.heap.size := by
 refine (copyCheck_spec hr hp).mono ?_
 rintro e w' ⟨rfl, hr', hm, hs⟩
 refine ⟨rfl, hr', ?_, hm, hs⟩
 obtain ⟨h1, h2⟩ := hown
 refine ⟨h1, h2.imp id ?_⟩
 rintro ⟨g, cap, cur, rfl, q1, q2, q3⟩
 refine ⟨g, cap, cur, rfl, q1, ?_, q3⟩
 rw [hm.same g (Array.getElem?_eq_some_iff.1 q2).1 (fun e => hne (by rw [e]; rfl))]
 exact q2
theorem append_own_str {P : Program} (w : World) (base : Nat) (t u ty e : TypeId) (i : TypeInfo) (ht : P.underlying t = some (.slice e)) (hu : P.underlying u = some .string) (hi : P.info? e = some i) (hz : i.zero = some (.int .u8 0))
  (hsize : i.size = 1) (hby : i.bytes = 1) (v : Value) (n : Nat) (xs : List Value) (hown : w.ownsRow base e 1 v n xs) (s : ByteArray) (hbytes : n + s.size ≤ 140737488355328) (hbase : base ≤ w.heap.size) :
  ∃ v' w', (Builtin.append_ #[t, u] ty #[v, .string s]).run P w = .ok v' w' ∧ w'.ownsRow base e 1 v' (n + s.size) (xs ++ Lib.strCells s) ∧ w.grownBy w' v.ownBlock ∧ (v'.ownBlock = v.ownBlock ∨ v'.ownBlock = some w.heap.size) := by
 obtain ⟨v', w', hr, h2, h3, h4⟩ := Lib.run_append_own_string w base t u ty e i ht hu hi hz hsize hby v n xs hown s (by unfold maxLen; omega) hbytes hbase
 refine ⟨v', w', hr, h2, h3, ?_⟩
 have hxl : xs.length = n := by simpa using hown.1
 rcases hown.2 with ⟨rfl, rfl⟩ | ⟨g, cap, cur, rfl, hbg, hg, hnc, hcm, hcs, htake⟩
 ·by_cases hm : s.size = 0
  ·rw [h4.2 ⟨rfl, hm⟩]
   exact .inl rfl
  ·have q := run_append_nil_string (P := P) w t u ty e i (.int .u8 0) ht hu hi hz s (by omega) (by omega) (by rw [hby]; omega)
   rw [q] at hr
   cases hr
   exact .inr rfl
 ·by_cases hroom : n + s.size ≤ cap
  ·have q := Lib.run_append_room_string (P := P) w t u ty e i ht hu hi hsize g n cap cur hg s hroom (by omega)
   rw [q] at hr
   cases hr
   exact .inl rfl
  ·have holds : ∀ j u, xs[j]? = some u → w.cell? ((⟨g, 0, none⟩ : Addr).add j) = some u := hown.cells (g := g) rfl
   have q := Lib.run_append_grow_string (P := P) w t u ty e i (.int .u8 0) ht hu hi hz ⟨g, 0, none⟩ n cap xs (by rw [hsize]; simpa using hxl) holds s (by omega) (by omega) (by rw [hby]; exact growslice_fits (by omega) (by omega))
   rw [q] at hr
   cases hr
   exact .inr rfl
theorem wpList_aos {P : Program} (w : World) {ops : Array Oper} {rest : List Oper} {o : Oper} {a : Act} {Q : Exit → Act → World → Prop} (hgd : o.guard = none) (sl x : Operand) (t u : TypeId)
  (ho : o.op = .call { callee := .builtin .append, args := #[sl, x], argTypes := #[t, u] })
  (base : Nat) (e : TypeId) (i : TypeInfo) (ht : P.underlying t = some (.slice e)) (hu : P.underlying u = some .string) (hi : P.info? e = some i) (hz : i.zero = some (.int .u8 0))
  (hsize : i.size = 1) (hby : i.bytes = 1) (v : Value) (n : Nat) (xs : List Value) (hs : a.eval sl = v) (hown : w.ownsRow base e 1 v n xs) (s : ByteArray) (hx : a.eval x = .string s)
  (hbytes : n + s.size ≤ 140737488355328) (hbase : base ≤ w.heap.size)
  (h : ∀ v' w', w'.ownsRow base e 1 v' (n + s.size) (xs ++ Lib.strCells s) → w.grownBy w' v.ownBlock → (v'.ownBlock = v.ownBlock ∨ v'.ownBlock = some w.heap.size) → wpList P ops Q rest (a.put o.dst v') w') : wpList P ops Q (o :: rest) a w := by
 refine wpList_plain hgd fun K hK => ?_
 obtain ⟨v', w', hr, h2, h3, h4⟩ := append_own_str (P := P) w base t u o.type e i ht hu hi hz hsize hby v n xs hown s hbytes hbase
 unfold Oper.wp execOp
 simp only [ho, resolve, invoke, builtin, Sem.run_bind, Sem.run_pure, Result.andThen_ok, List.map_toArray, List.map_cons, List.map_nil, hs, hx, hr]
 exact hK _ _ (h v' w' h2 h3 h4)
set_option maxHeartbeats 1000000 in
set_option maxRecDepth 100000 in
theorem WriteString_spec {w : World} {B b : Nat} {p : Option Addr} {v : Value} {bs : List Value} (s : ByteArray) (hp : p = none ∨ p = some ⟨b, 0, none⟩) (hrow : Row w b [.pointer p, v] 112) (hown0 : w.ownsRow B 5 1 v bs.length bs) (hne0 : v.ownBlock ≠ some b) (hlen : bs.length + s.size ≤ 140737488355328) (hBw : B ≤ w.heap.size) :
  Calls Tryz.prog 62 #[.pointer (some ⟨b, 0, none⟩), .string s] w fun e w' => e = .returned (.tuple #[.int .i64 s.size, .nilIface]) ∧ (∃ v' : Value, Row w' b [.pointer (some ⟨b, 0, none⟩), v'] 112 ∧ w'.ownsRow B 5 1 v' (bs ++ Lib.strCells s).length (bs ++ Lib.strCells s) ∧ v'.ownBlock ≠ some b ∧ (∀ i, v'.ownBlock = some i → v.ownBlock = some i ∨ w.heap.size ≤ i)) ∧ Mod (fun i => i = b ∨ v.ownBlock = some i) w w' ∧ ∀ i, i < w.heap.size → i ≠ b → v.ownBlock ≠ some i → w'.heap[i]? = w.heap[i]? := by
 have X := Tryz.Builder_Extra_169
 obtain ⟨i0, hi, hz0, hz1, hz2⟩ := info_parts X.infoByte
 have t72 := Tryz.underlying112; have a72 := Tryz.isAgg112; have z72 := Tryz.sizeOf112; have v72 := Tryz.zeroValue112; have u72 := run_underlying t72
 have t70 := Tryz.underlying110; have a70 := Tryz.isAgg110; have z70 := Tryz.sizeOf110; have v70 := Tryz.zeroValue110; have u70 := run_underlying t70
 have t37 := Tryz.underlying43; have a37 := Tryz.isAgg43; have z37 := Tryz.sizeOf43; have v37 := Tryz.zeroValue43; have u37 := run_underlying t37
 have t3 := Tryz.underlying3; have a3 := Tryz.isAgg3; have z3 := Tryz.sizeOf3; have v3 := Tryz.zeroValue3; have u3 := run_underlying t3
 have t9 := Tryz.underlying9; have a9 := Tryz.isAgg9; have z9 := Tryz.sizeOf9; have v9 := Tryz.zeroValue9; have u9 := run_underlying t9
 have t5 := Tryz.underlying5; have a5 := Tryz.isAgg5; have z5 := Tryz.sizeOf5; have v5 := Tryz.zeroValue5; have u5 := run_underlying t5
 have e240 : ∀ args w, (callFunc 117 args).run Tryz.prog w = .ok (.enter 117 args) w := fun args w => enter_of Tryz.func117 (by kernel_rfl) rfl args w
 go_enter Tryz.func62, Tryz.ntmps62
 go_wp2_with (go_at_call 117; refine (copyCheck_v hp hrow hown0 hne0).mono ?_)
 rintro e w1 ⟨rfl, hbk, hown, hm1, hs1⟩
 have hne := hne0
 have c0 : w1.cell? ⟨b, 0, none⟩ = some (.pointer (some ⟨b, 0, none⟩)) := by rw [Lib.cell_of_heap hbk]; rfl
 have c1 : w1.cell? ⟨b, 1, none⟩ = some v := by rw [Lib.cell_of_heap hbk]; rfl
 go_wp2_with (at_builtin; refine wpList_aos _ rfl _ _ 43 9 rfl B 5 i0 Tryz.underlying43 Tryz.underlying9 hi hz0 hz1 hz2 _ _ _ rfl hown s rfl ?c4 ?c5 ?_)
 case c4 => omega
 case c5 => omega
 intro v' w2 hown' hgrow hfr
 have hlt : b < w1.heap.size := (Array.getElem?_eq_some_iff.1 hbk).1
 have hb2 : w2.heap[b]? = some (.cells #[.pointer (some ⟨b, 0, none⟩), v] 112 (0, 0)) := by
  rw [hgrow.block b hlt (fun e => hne e.symm)]
  exact hbk
 have d0 : w2.cell? ⟨b, 0, none⟩ = some (.pointer (some ⟨b, 0, none⟩)) := by rw [Lib.cell_of_heap hb2]; rfl
 have d1 : w2.cell? ⟨b, 1, none⟩ = some v := by rw [Lib.cell_of_heap hb2]; rfl
 have f1 : w2.frozen? ⟨b, 1, none⟩ = false := Lib.frozen_of_heap hb2 1
 obtain ⟨ao, n', cap, rfl⟩ : ∃ ao n' cap, v' = .slice ao n' cap := by
  rcases hown'.2 with ⟨hv, _⟩ | ⟨g, cap, cur, hv, _⟩
  ·exact ⟨_, _, _, hv⟩
  ·exact ⟨_, _, _, hv⟩
 go_wp2
 go_ret2
 have hr2 : Row w2 b [.pointer (some ⟨b, 0, none⟩), v] 112 := hb2
 have hset := hr2.setP (o := 1) (vs := [.slice ao n' cap]) (by simp) (fun u hu => by simp at hu; subst hu; rfl)
 have hset : w2.setCell ⟨b, 1, none⟩ (.slice ao n' cap) = w2.setRow b #[.pointer (some ⟨b, 0, none⟩), .slice ao n' cap] := hset
 rw [hset]
 have ms := mod_set w2 b #[.pointer (some ⟨b, 0, none⟩), .slice ao n' cap]
 have keep : ∀ i, i < w.heap.size → i ≠ b → v.ownBlock ≠ some i → (w2.setRow b #[.pointer (some ⟨b, 0, none⟩), .slice ao n' cap]).heap[i]? = w.heap[i]? := fun i hi hib hvi =>
  (setRow_other _ _ _ _ hib).trans ((hgrow.block i (by omega) (fun e => hvi e.symm)).trans (hm1.same i hi hib))
 have hlen' : n' = (bs ++ Lib.strCells s).length ∨ True := .inr trivial
 have nb : (Value.slice ao n' cap).ownBlock ≠ some b := by
  intro hq
  obtain ⟨-, h2⟩ := hown'
  rcases h2 with ⟨hv, -⟩ | ⟨g, cap', cur, hv, -, hh, -⟩
  ·cases hv; cases hq
  ·cases hv
   cases hq
   rw [hb2] at hh
   injection hh with hh
   injection hh with _ hh
   cases hh
 refine ⟨rfl, ⟨_, hr2.set [_, _], ?_, nb, fun i hi => hfr.elim (fun q => .inl (q ▸ hi)) (fun q => .inr (by rw [q] at hi; cases hi; omega))⟩, ⟨?_, ?_, ?_, ?_, fun i hi hn => keep i hi (fun q => hn (.inl q)) (fun q => hn (.inr q))⟩, keep⟩
 ·have hown2 : w2.ownsRow B 5 1 (.slice ao n' cap) (bs ++ Lib.strCells s).length (bs ++ Lib.strCells s) := by simpa [Lib.strCells_length] using hown'
  obtain ⟨h1, h2⟩ := hown2
  refine ⟨h1, h2.imp id ?_⟩
  rintro ⟨g, cap', cur, hv, q1, q2, q3⟩
  refine ⟨g, cap', cur, hv, q1, ?_, q3⟩
  rw [setRow_other _ _ _ _ (fun e => nb (by rw [hv, e]; rfl))]
  exact q2
 ·exact hgrow.os.trans hm1.os
 ·exact hgrow.tape.trans hm1.tape
 ·exact hgrow.output.trans hm1.output
 ·have := hgrow.size; simp; omega
end Go.Proofs.YtjcnjlaelhdjeaaGreatDoor
namespace Go.Proofs.YtjcnjlaelhdjeaaGreatDoor
open Go Go.Vc Go.RowKit Go.Proofs Go.Lin Go.Chk Go.Runs Go.Code
set_option linter.unusedVariables false
structure SH (w0 : World) (F0 : Nat → Prop) (w : World) (sh g s o t : Nat) (M : Sm) (occ : Value) (L : List (Option Lfe)) (F : Nat → Prop) : Prop where
 e : EF F w g s o t M occ L
 r : SHE w sh g
 n : ¬ F sh
 m : Mod F0 w0 w
 f : ∀ i, F i → F0 i ∨ w0.heap.size ≤ i
theorem SH.put {w0 u u' : World} {F0 F : Nat → Prop} {sh g s o t k : Nat} {M : Sm} {occ : Value} {L : List (Option Lfe)} (h : SH w0 F0 u sh g s o t M occ L F) (hk : ¬ F k) (hs : sh ≠ k) (h0 : w0.heap.size ≤ k) (m : Mod (fun i => i = k) u u') : SH w0 F0 u' sh g s o t M occ L F :=
 ⟨h.e.same fun i hi => m.same i (h.e.lt hi) (fun q => hk (q ▸ hi)), ⟨h.r.row.same (m.same sh h.r.row.lt hs)⟩, h.n, h.m.tr m (fun i hi => .inr (by omega)), h.f⟩
set_option maxRecDepth 100000 in
theorem Line_load {F : Nat → Prop} {w : World} {sh g s o t : Nat} {M : Sm} {occ : Value} {L : List (Option Lfe)} (h : EF F w g s o t M occ L) (hs : SHE w sh g) (hF : ¬ F sh) (hW : M.T.1.l.length ≤ 1000000)
  (line : ByteArray) (hl : line.size ≤ 4294967296) (r : List ByteArray) (hw : wordsK line = ByteArray.mk #[108, 111, 97, 100] :: r) (p : Po) (hp : pPos r = some (p, [])) (h0 : (ldE M.seed M.cap M.T.1 M.T.2 p).2 = 0) :
  Calls Tryz.prog 14 #[.pointer (some ⟨sh, 0, none⟩), .string line] w fun e w' => ∃ tx, e = .returned (.string tx) ∧ tx = ByteArray.mk #[111, 107] ∧ ∃ F', SH w F w' sh g s o t { M with T := (ldE M.seed M.cap M.T.1 M.T.2 p).1 } occ L F' ∧ ¬ F' w.heap.size := by
 have hsl := hs.row.lt
 refine Line_core line hl h hs (fun tx u => tx = ByteArray.mk #[111, 107] ∧ ∃ F', SH w F u sh g s o t { M with T := (ldE M.seed M.cap M.T.1 M.T.2 p).1 } occ L F' ∧ ¬ F' w.heap.size) ?_ ?_ ?_ ?_
 ·rintro tx u u' ⟨rfl, F', hS, hn⟩ hm
  exact ⟨rfl, F', hS.put hn (by omega) (Nat.le_refl _) hm, hn⟩
 ·intro h1
  rw [hw] at h1
  cases h1
 ·intro c r' h1 h2
  rw [hw] at h1
  cases h1
  exact absurd (List.mem_of_getElem? (i := 1) rfl) h2
 ·intro c r' i h1 hi u B ga c1 c2 c3 c4 c5 xu hag hga r1 r2 r3 r4 r5 hcB v hv
  rw [hw] at h1
  cases h1
  have hi1 : i = 1 := (List.getElem?_inj (i := i) (j := 1) (List.getElem?_eq_some_iff.1 hi).1 cmdN_nodup).1 (hi.trans rfl)
  subst hi1
  have hv : tblV c1 = v := by simpa [cmdV] using hv
  subst hv
  refine ⟨155, #[], #[.pointer (some ⟨c1, 0, none⟩)], ⟨rfl, fun args w => enter_of Tryz.func155 (by kernel_rfl) rfl args w⟩, ?_⟩
  have hgl := hag.lt
  have hle := hag.le
  have hFga : ¬ F ga := fun q => by have := h.lt q; omega
  show Calls Tryz.prog n_lines_Shell_table_1 #[.pointer (some ⟨ga, 0, none⟩), .pointer (some ⟨c1, 0, none⟩)] u _
  refine table1_spec hag r1 (by omega) rfl _ ?_ ?_
  ·intro hno
   exact absurd hp (hno p)
  ·intro p' r'' hp' hr'' u' hm hlt
   rw [hp] at hp'
   cases hp'
   have hwu : w.heap.size ≤ u.heap.size := xu.size
   have h1 : EF F u' g s o t M occ L := (h.ext xu).same fun i hi => hm.same i (by have := h.lt hi; omega) (fun q => hFga (q ▸ hi))
   refine callV_of (by kernel_rfl) rfl ((eLoad_spec h1 hW p).mono ?_)
   rintro e u2 ⟨rfl, F', h2, ht⟩
   have hm2 := ht.mod
   have ku : ∀ i, ¬ F i → i < u'.heap.size → u2.heap[i]? = u'.heap[i]? := fun i hn hi => hm2.same i hi hn
   have nF : ∀ i, w.heap.size ≤ i → ¬ F i := fun i hi q => by have := h.lt q; omega
   refine ⟨0, ByteArray.mk #[111, 107], by rw [h0], fun i hi hi2 => ku i (nF i (by omega)) hi2, hm2.size, fun v _ => .ok, by have e : (ByteArray.mk #[111, 107]).size = 2 := rfl; rw [e]; omega, ?_⟩
   intro v hv
   have hwv : Mod F w v := (((Mod.of_ext xu).tr hm (fun i hi => .inr (by omega))).trans hm2).trans (Mod.of_ext hv)
   have hsz := hm.size
   have hsz2 := hm2.size
   have sub : ∀ i, F' i → F i ∨ u'.heap.size ≤ i := ht.sub
   refine ⟨(hv.heap (by omega)).trans ((ku _ (nF _ (Nat.le_refl _)) (by omega)).trans (hm.same _ (by omega) (by omega))), .inl ⟨_, rfl, rfl, F', ⟨h2.ext hv, ⟨hs.row.same (hwv.same sh hsl hF)⟩, fun q => (sub _ q).elim hF (fun q => by omega), hwv, fun i hi => (sub i hi).imp id (fun q => by omega)⟩, fun q => (sub _ q).elim (nF _ (Nat.le_refl _)) (fun q => by omega)⟩⟩
end Go.Proofs.YtjcnjlaelhdjeaaGreatDoor
namespace Go.Proofs.YtjcnjlaelhdjeaaGreatDoor
open Go Go.Vc Go.RowKit Go.Proofs Go.Lin Go.Chk Go.Runs Go.Code
set_option linter.unusedVariables false
theorem name_size (b : Int) : (bName b).size ≤ 1000000 := by
 unfold bName
 split
 ·exact Nat.zero_le _
 ·rw [List.getD_eq_getElem?_getD]
  cases h : nmT[b.toNat]? with
  | none => exact Nat.zero_le _
  | some x =>
    have hm := List.mem_of_getElem? h
    have : ∀ y ∈ nmT, y.size ≤ 10 := by unfold nmT; intro y hy; simp at hy; rcases hy with rfl | hy <;> first | decide | (repeat' (rcases hy with rfl | hy <;> first | decide | skip)) <;> (try subst hy) <;> decide
    have := this x hm
    show x.size ≤ _
    omega
set_option maxRecDepth 100000 in
theorem Line_at {F : Nat → Prop} {w : World} {sh g s o t : Nat} {M : Sm} {occ : Value} {L : List (Option Lfe)} (h : EF F w g s o t M occ L) (hs : SHE w sh g) (hF : ¬ F sh) (hnm : ∀ b, (bName b).size ≤ 1000000)
  (line : ByteArray) (hl : line.size ≤ 4294967296) (r : List ByteArray) (hw : wordsK line = ByteArray.mk #[97, 116] :: r) (c : Ce) (hp : pVec r = some (c, [])) (hc : okC c) :
  Calls Tryz.prog 14 #[.pointer (some ⟨sh, 0, none⟩), .string line] w fun e w' => ∃ tx, e = .returned (.string tx) ∧ tx = cellT (atE M.T.2 c) ∧ SH w F w' sh g s o t M occ L F := by
 have hsl := hs.row.lt
 have nw : ¬ F w.heap.size := fun q => by have := h.lt q; omega
 refine Line_core line hl h hs (fun tx u => tx = cellT (atE M.T.2 c) ∧ SH w F u sh g s o t M occ L F) ?_ ?_ ?_ ?_
 ·rintro tx u u' ⟨rfl, hS⟩ hm
  exact ⟨rfl, hS.put nw (by omega) (Nat.le_refl _) hm⟩
 ·intro h1
  rw [hw] at h1
  cases h1
 ·intro c' r' h1 h2
  rw [hw] at h1
  cases h1
  exact absurd (List.mem_of_getElem? (i := 17) rfl) h2
 ·intro c' r' i h1 hi u B ga c1 c2 c3 c4 c5 xu hag hga r1 r2 r3 r4 r5 hcB v hv
  rw [hw] at h1
  cases h1
  have hi1 : i = 17 := (List.getElem?_inj (i := i) (j := 17) (List.getElem?_eq_some_iff.1 hi).1 cmdN_nodup).1 (hi.trans rfl)
  subst hi1
  have hv : methV 104 sh = v := by simpa [cmdV] using hv
  subst hv
  refine ⟨104, #[.pointer (some ⟨sh, 0, none⟩)], #[], ⟨rfl, fun args w => enter_of Tryz.func104 (by kernel_rfl) rfl args w⟩, ?_⟩
  have hgl := hag.lt
  have hle := hag.le
  have hFga : ¬ F ga := fun q => by have := h.lt q; omega
  show Calls Tryz.prog n_lines_Shell_at #[.pointer (some ⟨sh, 0, none⟩), .pointer (some ⟨ga, 0, none⟩)] u _
  refine shAt_spec (h.ext xu) ⟨hs.row.ext xu⟩ hag hFga (by omega) hnm _ ?_ ?_
  ·intro hno
   exact absurd hp (hno c)
  ·intro c2' hp'
   rw [hp] at hp'
   cases hp'
   refine ⟨hc, fun u' hm => ?_⟩
   have hwv : Mod F w u' := (Mod.of_ext xu).tr hm (fun i hi => .inr (by omega))
   have hwu : w.heap.size ≤ u.heap.size := xu.size
   refine ⟨hm.same _ (by omega) (by omega), .inl ⟨_, rfl, rfl, (h.ext xu).same fun i hi => hm.same i (by have := h.lt hi; omega) (fun q => hFga (q ▸ hi)), ⟨hs.row.same (hwv.same sh hsl hF)⟩, hF, hwv, fun i hi => .inl hi⟩⟩
end Go.Proofs.YtjcnjlaelhdjeaaGreatDoor
namespace Go.Proofs.YtjcnjlaelhdjeaaGreatDoor
open Go Go.Vc Go.RowKit Go.Proofs Go.Lin Go.Chk Go.Runs Go.Code
set_option linter.unusedVariables false
def script0 : ByteArray := ByteArray.mk #[108, 111, 97, 100, 32, 48, 32, 48, 10, 97, 116, 32, 48, 32, 48, 32, 48]
def line1 : ByteArray := ByteArray.mk #[108, 111, 97, 100, 32, 48, 32, 48]
def line2 : ByteArray := ByteArray.mk #[97, 116, 32, 48, 32, 48, 32, 48]
def w0b : ByteArray := ByteArray.mk #[48]
theorem split0 : Lib.countB script0 (ByteArray.mk #[10]) = 1 ∧ Lib.splitB (ByteArray.mk #[10]) 0 1 script0 = [line1, line2] := ⟨by kernel_rfl, by kernel_rfl⟩
theorem words1 : wordsK line1 = [ByteArray.mk #[108, 111, 97, 100], w0b, w0b] := by kernel_rfl
theorem words2 : wordsK line2 = [ByteArray.mk #[97, 116], w0b, w0b, w0b] := by kernel_rfl
theorem pos0 : pPos [w0b, w0b] = some ((0, 0), []) := by kernel_rfl
theorem vec0 : pVec [w0b, w0b, w0b] = some ((0, 0, 0), []) := by kernel_rfl
end Go.Proofs.YtjcnjlaelhdjeaaGreatDoor
namespace Go.Proofs.YtjcnjlaelhdjeaaGreatDoor
open Go Go.Vc Go.RowKit Go.Proofs Go.Lin Go.Chk Go.Runs Go.Code
set_option linter.unusedVariables false
theorem own_same {w w' : World} {B n : Nat} {v : Value} {xs : List Value} (h : w.ownsRow B 5 1 v n xs) (hk : ∀ i, v.ownBlock = some i → w'.heap[i]? = w.heap[i]?) : w'.ownsRow B 5 1 v n xs := by
 obtain ⟨h1, h2⟩ := h
 refine ⟨h1, h2.imp id ?_⟩
 rintro ⟨g, cap, cur, rfl, q1, q2, q3⟩
 exact ⟨g, cap, cur, rfl, q1, (hk g rfl).trans q2, q3⟩
theorem own_ge {w : World} {B n : Nat} {v : Value} {xs : List Value} (h : w.ownsRow B 5 1 v n xs) {i : Nat} (hi : v.ownBlock = some i) : B ≤ i ∧ i < w.heap.size ∧ ∃ cs, w.heap[i]? = some (.cells cs 5 (0, 0)) := by
 obtain ⟨-, h2⟩ := h
 rcases h2 with ⟨rfl, -⟩ | ⟨g, cap, cur, rfl, q1, q2, -⟩
 ·cases hi
 ·cases hi
  exact ⟨q1, (Array.getElem?_eq_some_iff.1 q2).1, _, q2⟩
theorem rdk_strs {w : World} {a : Nat} {xs : List ByteArray} (h : Row w a (xs.map Value.string) 9) : RdK w ⟨some ⟨a, 0, none⟩, xs.length, xs.length⟩ 1 (xs.map sv) := by
 refine ⟨(List.length_map _).symm, fun q hq => ?_, fun i q hi j v hj => ?_⟩
 ·obtain ⟨t, -, rfl⟩ := List.mem_map.1 hq
  rfl
 ·rw [List.getElem?_map] at hi
  obtain ⟨t, ht, rfl⟩ := Option.map_eq_some_iff.1 hi
  cases j with
  | succ j => simp at hj
  | zero =>
    simp at hj
    subst hj
    rw [padd_row, h.ld, List.getElem?_map]
    simp [ht]
def toldL (L : List ByteArray) (p : Nat) : Prop := p < 100 ∧ ∃ l, L[p]? = some l ∧ wordsK l ≠ []
open Classical in
noncomputable def outL (L : List ByteArray) (T : Nat → ByteArray) : Nat → List UInt8
 | 0 => []
 | p + 1 => outL L T p ++ if toldL L p then bl (T p) ++ [10] else []
theorem outL_yes {L : List ByteArray} {T : Nat → ByteArray} {p : Nat} (h : toldL L p) : outL L T (p + 1) = outL L T p ++ (bl (T p) ++ [10]) := by
 rw [outL, if_pos h]
theorem outL_no {L : List ByteArray} {T : Nat → ByteArray} {p : Nat} (h : ¬ toldL L p) : outL L T (p + 1) = outL L T p := by
 rw [outL, if_neg h, List.append_nil]
structure Rst (w : World) (L : List ByteArray) (T : Nat → ByteArray) (I : Nat → Nat → (Nat → Prop) → World → Prop) (sh ka kb p : Nat) (F : Nat → Prop) (q : Option Addr) (v : Value) (u : World) : Prop where
 i : I sh p F u
 f : ∀ i, F i → w.heap.size ≤ i
 a : Row u ka (L.map Value.string) 9
 an : ¬ F ka
 ag : w.heap.size ≤ ka
 b : Row u kb [.pointer q, v] 112
 bn : ¬ F kb
 bg : w.heap.size ≤ kb
 pp : q = none ∨ q = some ⟨kb, 0, none⟩
 o : u.ownsRow w.heap.size 5 1 v (outL L T p).length (Lib.byteCells (outL L T p))
 on : ∀ i, v.ownBlock = some i → ¬ F i
 x : Ext w u
 z : (outL L T p).length ≤ p * 1000001
theorem row_ty {w : World} {g : Nat} {cs : List Value} {t E : TypeId} {xs : Array Value} (h : Row w g cs t) (h2 : w.heap[g]? = some (.cells xs E (0, 0))) : t = E := by
 have h : w.heap[g]? = _ := h
 rw [h] at h2
 injection h2 with h2
 injection h2
theorem Rst.ob {w : World} {L : List ByteArray} {T : Nat → ByteArray} {I : Nat → Nat → (Nat → Prop) → World → Prop} {sh a b p : Nat} {F : Nat → Prop} {pp : Option Addr} {v : Value} {u : World} (h : Rst w L T I sh a b p F pp v u) : v.ownBlock ≠ some b ∧ v.ownBlock ≠ some a := by
 refine ⟨fun q => ?_, fun q => ?_⟩
 ·obtain ⟨-, -, cs, hc⟩ := own_ge h.o q
  cases row_ty h.b hc
 ·obtain ⟨-, -, cs, hc⟩ := own_ge h.o q
  cases row_ty h.a hc
theorem Run_spec {w : World} {m : Int} (hm : w.cell? ⟨0, 0, none⟩ = some (.int .i64 m)) (script : ByteArray) (hsz : script.size < 4294967281) (L : List ByteArray) (hL : Lib.splitB (ByteArray.mk #[10]) 0 (Lib.countB script (ByteArray.mk #[10])) script = L) (hn : L.length = Lib.countB script (ByteArray.mk #[10]) + 1)
  (hls : ∀ l ∈ L, l.size ≤ 4294967296) (hlm : L.length ≤ 1000000) (T : Nat → ByteArray) (I : Nat → Nat → (Nat → Prop) → World → Prop)
  (hlt : ∀ sh p F u, I sh p F u → ∀ i, F i → i < u.heap.size)
  (hsame : ∀ sh p F u u', I sh p F u → (∀ i, F i → u'.heap[i]? = u.heap[i]?) → I sh p F u')
  (hbeg : ∀ u sh g s o t F, EF F u g s o t (M0e 1 9 200000 16) occ0 noL → SHE u sh g → ¬ F sh → ∃ F', I sh 0 F' u ∧ ∀ i, F' i → F i ∨ i = sh)
  (hskip : ∀ sh p F u, I sh p F u → ¬ toldL L p → I sh (p + 1) F u)
  (hstep : ∀ sh p F u line, I sh p F u → L[p]? = some line → p < 100 → wordsK line ≠ [] → Calls Tryz.prog 14 #[.pointer (some ⟨sh, 0, none⟩), .string line] u fun e u' => e = .returned (.string (T p)) ∧ (T p).size ≤ 1000000 ∧ ∃ F', I sh (p + 1) F' u' ∧ Mod F u u' ∧ ∀ i, F' i → F i ∨ u.heap.size ≤ i) :
  Calls Tryz.prog n_lines_Run #[.string script] w fun e w' => e = .returned (.string ⟨(outL L T L.length).toArray⟩) ∧ Ext w w' := by
 apply lines_Run.vc
 unfold lines_Run.pre
 refine (shNew_spec w).mono ?_
 rintro _ w0 ⟨sh, g, s, o, t, F, rfl, hE, hS, hF, x0, hFw, hshw⟩
 refine ⟨_, rfl, ?_⟩
 intro w2 e2
 have x2 : Ext w0 w2 := by rw [e2]; exact Ext.al _ _
 have z2 : w2.heap.size = w0.heap.size + 1 := by rw [e2]; simp
 have hb2 : Row w2 w0.heap.size [.pointer none, .slice none 0 0] 112 := by rw [e2]; exact Row.new _ [_, _] _
 have hc2 : w2.cell? ⟨0, 0, none⟩ = some (.int .i64 m) := by
  have : Vc.ld w (some ⟨0, 0, none⟩) = some (.int .i64 m) := hm
  exact (x0.tr x2).ld this
 refine (Tryz.strings_Split script (ByteArray.mk #[10]) m w2 hsz hc2 (by decide)).mono ?_
 rintro _ w3 ⟨rfl, e3⟩
 rw [hL] at e3
 rw [← hn]
 have x3 : Ext w2 w3 := by rw [e3]; exact Ext.al _ _
 have z3 : w3.heap.size = w2.heap.size + 1 := by rw [e3]; simp
 have ha3 : Row w3 w2.heap.size (L.map Value.string) 9 := by rw [e3]; exact Row.new _ _ _
 have z0 := x0.size
 obtain ⟨F0, hI0, hF0⟩ := hbeg w3 sh g s o t F (hE.ext (x2.tr x3)) ⟨hS.row.ext (x2.tr x3)⟩ hF
 have f0 : ∀ i, F0 i → w.heap.size ≤ i ∧ i < w0.heap.size := fun i hi => (hF0 i hi).elim (fun q => ⟨hFw i q, hE.lt q⟩) (fun q => by have := hS.row.lt; omega)
 refine ⟨⟨some ⟨w2.heap.size, 0, none⟩, L.length, L.length⟩, rfl, x3.heap (by omega), ?_⟩
 refine ⟨fun n x u => ∃ p : Nat, x = (p : Int) ∧ p + n = L.length ∧ ∃ F pp v, Rst w L T I sh w2.heap.size w0.heap.size p F pp v u, ⟨L.length, 0, rfl, by omega, F0, none, .slice none 0 0, ?_⟩, ?_⟩
 ·refine ⟨hI0, fun i hi => (f0 i hi).1, ha3, fun q => by have := f0 _ q; omega, by omega, hb2.ext x3, fun q => by have := f0 _ q; omega, z0, .inl rfl, ⟨rfl, .inl ⟨rfl, rfl⟩⟩, fun i hi => (by cases hi), x0.tr (x2.tr x3), Nat.zero_le _⟩
 ·rintro n us x u ⟨p, rfl, hp, F, pp, v, h⟩
  have hob := h.ob
  refine Br.mk (fun c => ?_) (fun c => ?_)
  ·have c := of_decide_eq_true c
   have hpl : p < L.length := by simpa using c
   obtain ⟨line, hline⟩ : ∃ l, L[p]? = some l := ⟨_, List.getElem?_eq_getElem hpl⟩
   have wk : IntKind.wrap .i64 ((p : Int) + 1) = ((p + 1 : Nat) : Int) := by rw [wrap_in (by unfold inI; omega)]; omega
   have hrd := rdk_strs h.a
   refine ⟨hrd.inB (by decide) (by omega) (by simpa using hpl), line, ?_, ?_⟩
   ·have := hrd.rd p [.string line] (by rw [List.getElem?_map, hline]; rfl) 0 _ rfl
    simpa using this
   ·have skip : ∀ u', Ext u u' → ¬ toldL L p → ∃ n10, n10 < n ∧ ∃ q : Nat, (IntKind.wrap .i64 ((p : Int) + 1)) = (q : Int) ∧ q + n10 = L.length ∧ ∃ F pp v, Rst w L T I sh w2.heap.size w0.heap.size q F pp v u' := by
     intro u' xu hno
     refine ⟨n - 1, by omega, p + 1, wk, by omega, F, pp, v, ?_⟩
     have eo : outL L T (p + 1) = outL L T p := outL_no hno
     exact ⟨hsame _ _ _ _ _ (hskip _ _ _ _ h.i hno) fun i hi => xu.heap (hlt _ _ _ _ h.i i hi), h.f, h.a.ext xu, h.an, h.ag, h.b.ext xu, h.bn, h.bg, h.pp, by rw [eo]; exact own_same h.o fun i hi => xu.heap (own_ge h.o hi).2.1, h.on, h.x.tr xu, by have := h.z; have e := congrArg List.length eo; omega⟩
    refine Br.mk (fun c1 => ?_) (fun c1 => skip u (Ext.rfl' _) fun q => by have := q.1; simp at c1; omega)
    have hp100 : p < 100 := by have := of_decide_eq_true c1; omega
    refine (Words_spec line u (hls _ (List.mem_of_getElem? hline))).mono ?_
    rintro _ u1 ⟨sl, rfl, hrw, -, -, x1⟩
    refine ⟨sl, rfl, ?_⟩
    have hsn : sl.n = (wordsK line).length := by rw [hrw.n, List.length_map]
    refine Br.mk (fun c2 => ?_) (fun c2 => skip u1 x1 fun q => ?_)
    ·have hne : wordsK line ≠ [] := fun q => by rw [q] at hsn; simp [hsn] at c2
     have htl : toldL L p := ⟨hp100, line, hline, hne⟩
     have hFs : ∀ i, F i → i < u.heap.size := hlt _ _ _ _ h.i
     refine (hstep sh p F u1 line (hsame _ _ _ _ _ h.i fun i hi => x1.heap (hFs i hi)) hline hp100 hne).mono ?_
     rintro _ u2 ⟨rfl, hsT, F', hI', hm', hsub⟩
     have z1 := x1.size
     have z2' := hm'.size
     have hb1 := h.b.lt
     have ha1 := h.a.lt
     have kb : Row u2 w0.heap.size [.pointer pp, v] 112 := (h.b.ext x1).same (hm'.same _ (by omega) h.bn)
     have ka : Row u2 w2.heap.size (L.map Value.string) 9 := (h.a.ext x1).same (hm'.same _ (by omega) h.an)
     have ko : u2.ownsRow w.heap.size 5 1 v (outL L T p).length (Lib.byteCells (outL L T p)) := own_same h.o fun i hi => (hm'.same _ (by have := (own_ge h.o hi).2.1; omega) (h.on i hi)).trans (x1.heap (own_ge h.o hi).2.1)
     have nF' : ∀ i, ¬ F i → i < u1.heap.size → ¬ F' i := fun i hn hi q => (hsub i q).elim hn (fun q => by omega)
     refine ⟨T p, rfl, ?_, ?_⟩
     ·have e1 : (ByteArray.mk #[10]).size = 1 := rfl
      have e2 : IntKind.i64.max = 9223372036854775807 := by decide
      rw [e1, e2]
      omega
     have hzs : (T p ++ ByteArray.mk #[10]).size = (T p).size + 1 := by rw [ByteArray.size_append]; rfl
     have hz := h.z
     refine (WriteString_spec (B := w.heap.size) (bs := Lib.byteCells (outL L T p)) (T p ++ ByteArray.mk #[10]) h.pp kb (by rw [Lib.byteCells_length]; exact ko) hob.1 (by rw [Lib.byteCells_length]; omega) (by have := h.x.size; omega)).mono ?_
     rintro _ u3 ⟨rfl, ⟨v', kb3, ko3, hne3, hfr3⟩, hm3, -⟩
     have eo : outL L T (p + 1) = outL L T p ++ bl (T p ++ ByteArray.mk #[10]) := by
      rw [outL_yes htl, bl_app]
     have ecells : Lib.byteCells (outL L T p) ++ Lib.strCells (T p ++ ByteArray.mk #[10]) = Lib.byteCells (outL L T (p + 1)) := by
      rw [eo, Lib.byteCells_append]
      rfl
     rw [ecells, Lib.byteCells_length] at ko3
     have hF'lt : ∀ i, F' i → i < u2.heap.size := hlt _ _ _ _ hI'
     have hbn' : ¬ F' w0.heap.size := nF' _ h.bn (by omega)
     have hvn' : ∀ i, v.ownBlock = some i → ¬ F' i := fun i hi => nF' i (h.on i hi) (by have := (own_ge h.o hi).2.1; omega)
     have han' : ¬ F' w2.heap.size := nF' _ h.an (by omega)
     refine ⟨_, _, rfl, n - 1, by omega, p + 1, wk, by omega, F', some ⟨w0.heap.size, 0, none⟩, v', hsame _ _ _ _ _ hI' fun i hi => hm3.same i (hF'lt i hi) (fun q => q.elim (fun q => hbn' (q ▸ hi)) (fun q => hvn' i q hi)), fun i hi => (hsub i hi).elim (h.f i) (fun q => by have := h.x.size; omega), ka.same (hm3.same _ (by omega) (fun q => q.elim (by omega) (fun q => hob.2 q))), han', h.ag, kb3, hbn', h.bg, .inr rfl, ko3, fun i hi => (hfr3 i hi).elim (hvn' i) (fun q hF => by have := hF'lt i hF; omega), ?_, ?_⟩
     ·refine hm3.ext (hm'.ext (h.x.tr x1) fun i hi => h.f i hi) fun i hi => ?_
      rcases hi with rfl | hi
      ·exact h.bg
      ·exact (own_ge h.o hi).1
     ·have e := congrArg List.length eo
      rw [List.length_append, bl_len, hzs] at e
      omega
    ·obtain ⟨-, l, hl, hne⟩ := q
     rw [hline] at hl
     cases hl
     refine hne (List.length_eq_zero_iff.1 ?_)
     have : ¬ (sl.n : Int) > 0 := by simpa using c2
     omega
  ·have c := of_decide_eq_false c
   have hpn : p = L.length := by
    have : ¬ (p < L.length) := by simpa using c
    omega
   subst hpn
   have hB : Lib.IsBuilder 112 5 w.heap.size w0.heap.size (Lib.byteCells (outL L T L.length)) u := by
    have ho : u.ownsRow w.heap.size 5 1 v (Lib.byteCells (outL L T L.length)).length (Lib.byteCells (outL L T L.length)) := by rw [Lib.byteCells_length]; exact h.o
    rcases h.pp with q | q
    ·exact .inl ⟨h.bg, v, by have := h.b; rw [q] at this; exact this, ho, hob.1⟩
    ·exact .inr ⟨h.bg, v, by have := h.b; rw [q] at this; exact this, ho, hob.1⟩
   refine (Tryz.Builder_String_any _ _ _ u hB h.x.size).mono ?_
   rintro _ w19 ⟨rfl, b19⟩
   exact ⟨_, rfl, rfl, h.x.trans b19⟩
end Go.Proofs.YtjcnjlaelhdjeaaGreatDoor
namespace Go.Proofs.YtjcnjlaelhdjeaaGreatDoor
open Go Go.Vc Go.RowKit Go.Proofs Go.Lin Go.Chk Go.Runs Go.Code
set_option linter.unusedVariables false
def St (M : Sm) (sh : Nat) (F : Nat → Prop) (u : World) : Prop := ∃ (g s o t : Nat) (F0 : Nat → Prop), EF F0 u g s o t M occ0 noL ∧ SHE u sh g ∧ ¬ F0 sh ∧ F = fun i => F0 i ∨ i = sh
theorem St.lt {M : Sm} {sh : Nat} {F : Nat → Prop} {u : World} (h : St M sh F u) : ∀ i, F i → i < u.heap.size := by
 obtain ⟨g, s, o, t, F0, hE, hS, hn, rfl⟩ := h
 rintro i (hi | rfl)
 ·exact hE.lt hi
 ·exact hS.row.lt
theorem St.same {M : Sm} {sh : Nat} {F : Nat → Prop} {u u' : World} (h : St M sh F u) (hk : ∀ i, F i → u'.heap[i]? = u.heap[i]?) : St M sh F u' := by
 obtain ⟨g, s, o, t, F0, hE, hS, hn, rfl⟩ := h
 exact ⟨g, s, o, t, F0, hE.same fun i hi => hk i (.inl hi), ⟨hS.row.same (hk sh (.inr rfl))⟩, hn, rfl⟩
theorem St.of_SH {w u : World} {F0 F : Nat → Prop} {sh g s o t : Nat} {M : Sm} (h : SH w F0 u sh g s o t M occ0 noL F) : St M sh (fun i => F i ∨ i = sh) u ∧ Mod (fun i => F0 i ∨ i = sh) w u ∧ ∀ i, (F i ∨ i = sh) → (F0 i ∨ i = sh) ∨ w.heap.size ≤ i :=
 ⟨⟨g, s, o, t, F, h.e, h.r, h.n, rfl⟩, h.m.mono fun i _ hi => .inl hi, fun i hi => hi.elim (fun q => (h.f i q).imp .inl id) (fun q => .inl (.inr q))⟩
theorem ld_new (seed limit room : Int) {l : List En} (hl : (l.length : Int) < limit) {p : Po} (hp : inT p) (hn : ∀ e ∈ l, e.1 ≠ p) : ldE seed limit (dk0 room) l p = ((dk0 room, l ++ [(p, made seed p, false, 0)]), 0) := by
 have hr : roomE limit (dk0 room) l = ((dk0 room, l), 0) := by unfold roomE; rw [if_pos hl]
 have hd : (ldS (dk0 room) (idK p)).1 = [] := by unfold dk0; rw [ldS_new]
 have hf : firstI (fun e : En => e.1 == p) l = -1 := firstI_none fun y hy => by simpa using hn y hy
 unfold ldE
 rw [if_neg (by simpa using hp), if_neg (by rw [hf]; decide), hr, if_neg (by simp)]
 simp only [hd, cellsB_nil]
abbrev M1r : Sm := { M0e 1 9 200000 16 with T := (ldE 1 (M0e 1 9 200000 16).cap (M0e 1 9 200000 16).T.1 (M0e 1 9 200000 16).T.2 (0, 0)).1 }
theorem ld00' : ldE 1 9 (dk0 200000) [] (0, 0) = ((dk0 200000, [((0, 0), made 1 (0, 0), false, 0)]), 0) := ld_new 1 9 200000 (l := []) (by decide) (by decide) (by simp)
theorem ok0 : okC (0, 0, 0) := by unfold okC inI; simp
theorem at_base1 (seed : Int) (M : List Int) (hM : M = made seed (0, 0)) : atE [(((0, 0), M, false, 0) : En)] (0, 0, 0) = 1 := by
 have h0 : M[0]? = some 1 := by
  rw [hM, made_get seed (0, 0) (by decide)]
  unfold ofG
  rw [if_neg (by decide), if_pos (.inl (by decide))]
 show kAt (0, 0) M (0, 0, 0) = 1
 have hk : inK (0, 0) (0, 0, 0) = true := by decide
 unfold kAt
 rw [hk, if_pos rfl]
 show atC M 0 = 1
 unfold atC
 rw [if_neg (by decide), List.getD_eq_getElem?_getD]
 show (M[0]?).getD (-1) = 1
 rw [h0]; rfl
theorem ld00 : (ldE 1 (M0e 1 9 200000 16).cap (M0e 1 9 200000 16).T.1 (M0e 1 9 200000 16).T.2 (0, 0)).2 = 0 := by
 have e : (M0e 1 9 200000 16).cap = 9 := by decide
 rw [e]
 show (ldE 1 9 (dk0 200000) [] (0, 0)).2 = 0
 rw [ld00']
theorem at00 : atE M1r.T.2 (0, 0, 0) = 1 := by
 have e : (M0e 1 9 200000 16).cap = 9 := by decide
 show atE (ldE 1 (M0e 1 9 200000 16).cap (dk0 200000) [] (0, 0)).1.2 (0, 0, 0) = 1
 rw [e, ld00']
 exact at_base1 1 _ rfl
def out0 : ByteArray := ByteArray.mk #[111, 107, 10, 115, 116, 111, 110, 101, 10]
def T0 (p : Nat) : ByteArray := if p = 0 then ByteArray.mk #[111, 107] else cellT 1
theorem t1_stone : cellT 1 = ByteArray.mk #[115, 116, 111, 110, 101] := by kernel_rfl
theorem out_lives : outL [line1, line2] T0 2 = bl out0 := by
 have h0 : toldL [line1, line2] 0 := ⟨by decide, line1, rfl, by rw [words1]; exact List.cons_ne_nil _ _⟩
 have h1 : toldL [line1, line2] 1 := ⟨by decide, line2, rfl, by rw [words2]; exact List.cons_ne_nil _ _⟩
 rw [outL_yes h1, outL_yes h0]
 show [] ++ (bl (ByteArray.mk #[111, 107]) ++ [10]) ++ (bl (cellT 1) ++ [10]) = _
 rw [t1_stone]
 rfl
theorem run0_spec {w : World} {m : Int} (hm : w.cell? ⟨0, 0, none⟩ = some (.int .i64 m)) : Calls Tryz.prog n_lines_Run #[.string script0] w fun e w' => e = .returned (.string out0) ∧ Ext w w' := by
 refine (Run_spec hm script0 (by decide) [line1, line2] (by rw [split0.1]; exact split0.2) (by rw [split0.1]; rfl) (fun l hl => ?_) (by decide) T0 (fun sh p F u => if p = 0 then St (M0e 1 9 200000 16) sh F u else if p = 1 then St M1r sh F u else ∀ i, F i → i < u.heap.size) ?_ ?_ ?_ ?_ ?_).mono ?_
 ·simp at hl
  rcases hl with rfl | rfl <;> decide
 ·intro sh p F u h
  split at h
  ·exact h.lt
  ·split at h
   ·exact h.lt
   ·exact h
 ·intro sh p F u u' h hk
  split
  ·rename_i q
   rw [if_pos q] at h
   exact h.same hk
  ·rename_i q
   rw [if_neg q] at h
   split
   ·rename_i q1
    rw [if_pos q1] at h
    exact h.same hk
   ·rename_i q1
    rw [if_neg q1] at h
    intro i hi
    have := hk i hi
    have hl := h i hi
    by_cases c : i < u'.heap.size
    ·exact c
    ·rw [Array.getElem?_eq_none (by omega), Array.getElem?_eq_getElem hl] at this
     cases this
 ·intro u sh g s o t F h hS hn
  exact ⟨fun i => F i ∨ i = sh, ⟨g, s, o, t, F, h, hS, hn, rfl⟩, fun i hi => hi⟩
 ·intro sh p F u h hno
  have h0 : toldL [line1, line2] 0 := ⟨by decide, line1, rfl, by rw [words1]; exact List.cons_ne_nil _ _⟩
  have h1 : toldL [line1, line2] 1 := ⟨by decide, line2, rfl, by rw [words2]; exact List.cons_ne_nil _ _⟩
  have p0 : p ≠ 0 := fun q => hno (q ▸ h0)
  have p1 : p ≠ 1 := fun q => hno (q ▸ h1)
  simp only [if_neg p0, if_neg p1] at h
  simp only [if_neg (show p + 1 ≠ 0 by omega), if_neg (show p + 1 ≠ 1 by omega)]
  exact h
 ·intro sh p F u line h hl hp hw
  have : p = 0 ∨ p = 1 := by
   have := (List.getElem?_eq_some_iff.1 hl).1
   simp at this
   omega
  rcases this with rfl | rfl
  ·simp only [if_true] at h
   obtain ⟨g, s, o, t, F0, hE, hS, hn, rfl⟩ := h
   cases hl
   refine (Line_load hE hS hn (by decide) line1 (by decide) _ words1 (0, 0) pos0 ld00).mono ?_
   rintro e u' ⟨tx, rfl, rfl, F', hSH, -⟩
   obtain ⟨q1, q2, q3⟩ := St.of_SH hSH
   exact ⟨rfl, by decide, _, q1, q2, q3⟩
  ·simp only [if_neg (show (1 : Nat) ≠ 0 by decide), if_true] at h
   obtain ⟨g, s, o, t, F0, hE, hS, hn, rfl⟩ := h
   cases hl
   refine (Line_at hE hS hn name_size line2 (by decide) _ words2 (0, 0, 0) vec0 ok0).mono ?_
   rintro e u' ⟨tx, he, htx, hSH⟩
   rw [at00] at htx
   rw [htx] at he
   obtain ⟨q1, q2, q3⟩ := St.of_SH hSH
   exact ⟨he, by rw [show T0 1 = cellT 1 from rfl, t1_stone]; decide, fun i => F0 i ∨ i = sh, by simp only [if_neg (show (1 + 1 : Nat) ≠ 0 by decide), if_neg (show (1 + 1 : Nat) ≠ 1 by decide)]; exact q1.lt, q2, q3⟩
 ·rintro e w' ⟨rfl, x⟩
  refine ⟨?_, x⟩
  show Ending.returned (.string ⟨(outL [line1, line2] T0 2).toArray⟩) = _
  rw [out_lives]
theorem lives22_spec {w : World} {m : Int} (hm : w.cell? ⟨0, 0, none⟩ = some (.int .i64 m)) : Calls Tryz.prog n_law22_lives #[] w fun e w' => e = .returned (.bool true) ∧ Ext w w' := by
 apply law22_lives.vc
 unfold law22_lives.pre
 refine (run0_spec hm).mono ?_
 rintro _ w0 ⟨rfl, x0⟩
 exact ⟨_, rfl, by kernel_rfl, x0⟩
end Go.Proofs.YtjcnjlaelhdjeaaGreatDoor
namespace Go.Proofs.YtjcnjlaelhdjeaaGreatDoor
open Go Go.Vc Go.RowKit Go.Proofs
set_option maxRecDepth 100000
set_option maxHeartbeats 8000000
set_option linter.unusedVariables false
abbrev n_law22_LinesWords : FuncId := 6
def law22_LinesWords.pre (a0 : ByteArray) (a1 : Int) (w : World) (R : Ending → World → Prop) : Prop :=
 Calls Tryz.prog 20 #[.string a0, .int .i64 100] w (fun e w0 => ∃ (t1 : ByteArray), e = .returned (.string t1) ∧
 Calls Tryz.prog 31 #[.string t1] w0 (fun e w2 => ∃ (s3 : Sl), e = .returned (.slice s3.a s3.n s3.c) ∧
 Calls Tryz.prog 28 #[.string t1] w2 (fun e w4 => ∃ (s5 : Sl), e = .returned (.slice s5.a s5.n s5.c) ∧
 Br ((((s3.n : Nat) : Int) : Int) != ((s5.n : Nat) : Int))
 (R (.returned (.bool false)) w4)
 (∃ I6 : Nat → Int → World → Prop,
 (∃ n7, I6 n7 (0) w4) ∧
 ∀ (n7 : Nat) (us8 : Nat → Value) (x9 : Int) (w10 : World), I6 n7 x9 w10 →
 Br (decide ((x9 : Int) < ((s3.n : Nat) : Int)))
 (InB s3.a x9 s3.n ∧ ∃ (t12 : ByteArray), ld w10.drew (padd s3.a ((x9 : Int).toNat * 1)) = some (.string t12) ∧
 InB s5.a x9 s5.n ∧ ∃ (t13 : ByteArray), ld w10.drew (padd s5.a ((x9 : Int).toNat * 1)) = some (.string t13) ∧
 Br (!strEq t12 t13)
 (R (.returned (.bool false)) w10.drew)
 (InB s3.a x9 s3.n ∧ ∃ (t14 : ByteArray), ld w10.drew (padd s3.a ((x9 : Int).toNat * 1)) = some (.string t14) ∧
 Calls Tryz.prog 32 #[.string t14] w10.drew (fun e w15 => ∃ (x16 : Int) (b17 : Bool), e = .returned (.tuple #[.int .i64 x16, .bool b17]) ∧
 InB s3.a x9 s3.n ∧ ∃ (t18 : ByteArray), ld w15 (padd s3.a ((x9 : Int).toNat * 1)) = some (.string t18) ∧
 Calls Tryz.prog 33 #[.string t18] w15 (fun e w19 => ∃ (x20 : Int) (b21 : Bool), e = .returned (.tuple #[.int .i64 x20, .bool b21]) ∧
 Br ((x16 : Int) != x20)
 (R (.returned (.bool false)) w19)
 (Br (!(b17 == b21))
 (R (.returned (.bool false)) w19)
 (∃ n11, n11 < n7 ∧ I6 n11 ((IntKind.wrap .i64 (x9 + 1))) w19))))))
 (Calls Tryz.prog 13 #[.int .i64 (Int.tmod a1 1000000000000000)] w10 (fun e w22 => ∃ (t23 : ByteArray), e = .returned (.string t23) ∧
 Calls Tryz.prog 32 #[.string t23] w22 (fun e w24 => ∃ (x25 : Int) (b26 : Bool), e = .returned (.tuple #[.int .i64 x25, .bool b26]) ∧
 Br ((x25 : Int) == (Int.tmod a1 1000000000000000))
 (Br b26
 (Calls Tryz.prog 30 #[] w24 (fun e w27 => ∃ (b28 : Bool), e = .returned (.bool b28) ∧
 R (.returned (.bool b28)) w27))
 (R (.returned (.bool false)) w24))
 (R (.returned (.bool false)) w24))))))))
theorem law22_LinesWords.vc {a0 a1 w} {R : Ending → World → Prop} (h : law22_LinesWords.pre a0 a1 w R) : Calls Tryz.prog n_law22_LinesWords #[.string a0, .int .i64 a1] w R :=
 calls_of_eq (an := ⟨[(7, ⟨[(7, .int .i64)], [], []⟩)], [], []⟩) (args := [.string a0, .int .i64 a1]) Tryz.noNG Tryz.mixed Tryz.func6 h (by kernel_rfl)
end Go.Proofs.YtjcnjlaelhdjeaaGreatDoor
