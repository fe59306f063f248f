import Derived.Test.YtkkkfkopcfdmaaaGreatDoorKS
set_option linter.all false
namespace Go.Proofs.YtkkkfkopcfdmaaaGreatDoor
open Go Go.Vc Go.RowKit Go.Proofs Go.Chk Go.Runs
structure It where
 x : Nat
 g : Nat
 s : Sl
 p : Po
 C : List Int
 dirty : Bool
 pins : Int
structure ItIs (w : World) (i : It) : Prop where
 r : Row w i.x [.pointer (some ⟨i.g, 0, none⟩), .bool i.dirty, .int .i64 i.pins] tItem
 k : KIs w i.g i.s i.p i.C
theorem ItIs.ext {w w' : World} {i : It} (h : ItIs w i) (x : Ext w w') : ItIs w' i := ⟨h.r.ext x, h.k.ext x⟩
theorem ItIs.keep {w w' : World} {i : It} (h : ItIs w i) {F : Nat → Prop} (hm : Mod F w w') (h1 : ¬ F i.x) (h2 : ¬ F i.g) (h3 : ∀ b, i.s.blk = some b → ¬ F b) : ItIs w' i := ⟨hm.row h.r h1, h.k.keep hm h2 h3⟩
abbrev ptrs (its : List It) : List (List Value) := its.map fun i => [.pointer (some ⟨i.x, 0, none⟩)]
structure TO (w : World) (t st d : Nat) (r : Dm) (sl : Sl) (D : Dk) (seed limit : Int) (its : List It) : Prop where
 rt : Row w t [.pointer (some ⟨st, 0, none⟩), .int .i64 seed, .int .i64 limit, .slice sl.a sl.n sl.c] tTable
 so : SO w st d r D
 ol : OwnK 0 tPI 1 w sl (ptrs its)
 it : ∀ i ∈ its, ItIs w i
 dx : (its.map (·.x)).Nodup
 dg : (its.map (·.g)).Nodup
 lim : 1 ≤ limit ∧ limit ≤ 16
 len : (its.length : Int) ≤ limit
def dM (m : Dm) (i : Nat) : Prop := i = m.r ∨ m.ls.blk = some i ∨ ∃ x ∈ m.E ++ m.W, x.2.1.blk = some i
def foot (t st d : Nat) (r : Dm) (sl : Sl) (its : List It) (i : Nat) : Prop := i = t ∨ i = st ∨ i = d ∨ dM r i ∨ sl.blk = some i ∨ ∃ y ∈ its, i = y.x ∨ i = y.g ∨ y.s.blk = some i
theorem TO.lt {w : World} {t st d : Nat} {r : Dm} {sl : Sl} {D : Dk} {seed limit : Int} {its : List It} (h : TO w t st d r sl D seed limit its) {i : Nat} (hi : foot t st d r sl its i) : i < w.heap.size := by
 rcases hi with rfl | e | e | e | e | ⟨y, hy, e | e | e⟩
 ·exact h.rt.lt
 ·exact h.so.lt (.inl e)
 ·exact h.so.lt (.inr (.inl e))
 ·exact h.so.lt (.inr (.inr e))
 ·exact (h.ol.own.lt e).2
 ·exact e ▸ (h.it y hy).r.lt
 ·exact e ▸ (h.it y hy).k.row.lt
 ·exact ((h.it y hy).k.own.own.lt e).2
theorem TO.same {w w' : World} {t st d : Nat} {r : Dm} {sl : Sl} {D : Dk} {seed limit : Int} {its : List It} (h : TO w t st d r sl D seed limit its) (hs : ∀ i, foot t st d r sl its i → w'.heap[i]? = w.heap[i]?) : TO w' t st d r sl D seed limit its := by
 refine ⟨h.rt.same (hs _ (.inl rfl)), h.so.same fun i hi => hs i ?_, OwnK.keep h.ol fun b hb => hs b (.inr (.inr (.inr (.inr (.inl hb))))), fun y hy => ?_, h.dx, h.dg, h.lim, h.len⟩
 ·rcases hi with e | e | e
  ·exact .inr (.inl e)
  ·exact .inr (.inr (.inl e))
  ·exact .inr (.inr (.inr (.inl e)))
 ·have f : ∀ i, (i = y.x ∨ i = y.g ∨ y.s.blk = some i) → w'.heap[i]? = w.heap[i]? := fun i hi => hs i (.inr (.inr (.inr (.inr (.inr ⟨y, hy, hi⟩)))))
  have hi := h.it y hy
  exact ⟨hi.r.same (f _ (.inl rfl)), hi.k.row.same (f _ (.inr (.inl rfl))), OwnK.keep hi.k.own fun b hb => f b (.inr (.inr hb)), hi.k.len, hi.k.may⟩
theorem TO.ext {w w' : World} {t st d : Nat} {r : Dm} {sl : Sl} {D : Dk} {seed limit : Int} {its : List It} (h : TO w t st d r sl D seed limit its) (x : Ext w w') : TO w' t st d r sl D seed limit its := h.same fun i hi => x.heap (h.lt hi)
theorem TO.kind {w : World} {t st d : Nat} {r : Dm} {sl : Sl} {D : Dk} {seed limit : Int} {its : List It} (h : TO w t st d r sl D seed limit its) {i : Nat} (hi : foot t st d r sl its i) :
  MapIs GI w (some i) (r.E.map entV) ∨ ∃ cs τ, Row w i cs τ ∧ (τ = tTable ∨ τ = tStore ∨ τ = tDisk ∨ τ = tPI ∨ τ = tItem ∨ τ = tChunk ∨ τ = tRun ∨ τ = tW ∨ τ = tByte) := by
 rcases hi with e | e | e | e | e | ⟨y, hy, e | e | e⟩
 ·exact .inr ⟨_, _, e ▸ h.rt, .inl rfl⟩
 ·exact .inr ⟨_, _, e ▸ h.so.rs, .inr (.inl rfl)⟩
 ·exact .inr ⟨_, _, e ▸ h.so.dk.rd, .inr (.inr (.inl rfl))⟩
 ·rcases h.so.dk.kind (.inr e) with q | ⟨cs, τ, q1, q2⟩
  ·exact .inl q
  ·refine .inr ⟨cs, τ, q1, ?_⟩
   rcases q2 with rfl | rfl | rfl
   ·exact .inr (.inr (.inl rfl))
   ·exact .inr (.inr (.inr (.inr (.inr (.inr (.inr (.inl rfl)))))))
   ·exact .inr (.inr (.inr (.inr (.inr (.inr (.inr (.inr rfl)))))))
 ·obtain ⟨cs, hr⟩ := own_row h.ol (by decide) e
  exact .inr ⟨_, _, hr, .inr (.inr (.inr (.inl rfl)))⟩
 ·exact .inr ⟨_, _, e ▸ (h.it y hy).r, .inr (.inr (.inr (.inr (.inl rfl))))⟩
 ·exact .inr ⟨_, _, e ▸ (h.it y hy).k.row, .inr (.inr (.inr (.inr (.inr (.inl rfl)))))⟩
 ·obtain ⟨cs, hr⟩ := own_row (h.it y hy).k.own (by decide) e
  exact .inr ⟨_, _, hr, .inr (.inr (.inr (.inr (.inr (.inr (.inl rfl))))))⟩
theorem TO.no_row {w : World} {t st d : Nat} {r : Dm} {sl : Sl} {D : Dk} {seed limit : Int} {its : List It} (h : TO w t st d r sl D seed limit its) {j : Nat} {cs : List Value} {τ : TypeId} (hr : Row w j cs τ) (hτ : τ ≠ tTable ∧ τ ≠ tStore ∧ τ ≠ tDisk ∧ τ ≠ tPI ∧ τ ≠ tItem ∧ τ ≠ tChunk ∧ τ ≠ tRun ∧ τ ≠ tW ∧ τ ≠ tByte) : ¬ foot t st d r sl its j := fun hf => by
 rcases h.kind hf with hm | ⟨cs', τ', hr', ht⟩
 ·exact hr.ne_map hm rfl
 ·obtain ⟨h1, h2, h3, h4, h5, h6, h7, h8, h9⟩ := hτ
  rcases ht with rfl | rfl | rfl | rfl | rfl | rfl | rfl | rfl | rfl
  ·exact hr.ne hr' h1 rfl
  ·exact hr.ne hr' h2 rfl
  ·exact hr.ne hr' h3 rfl
  ·exact hr.ne hr' h4 rfl
  ·exact hr.ne hr' h5 rfl
  ·exact hr.ne hr' h6 rfl
  ·exact hr.ne hr' h7 rfl
  ·exact hr.ne hr' h8 rfl
  ·exact hr.ne hr' h9 rfl
theorem TO.n {w : World} {t st d : Nat} {r : Dm} {sl : Sl} {D : Dk} {seed limit : Int} {its : List It} (h : TO w t st d r sl D seed limit its) : sl.n = its.length := by
 have := (h.ol.rd (by decide)).n
 rwa [List.length_map] at this
theorem TO.at {w : World} {t st d : Nat} {r : Dm} {sl : Sl} {D : Dk} {seed limit : Int} {its : List It} (h : TO w t st d r sl D seed limit its) {i : Nat} {y : It} (hi : its[i]? = some y) : InB sl.a (i : Int) sl.n ∧ ld w (padd sl.a (((i : Nat) : Int).toNat * 1)) = some (.pointer (some ⟨y.x, 0, none⟩)) := by
 have hlt := (List.getElem?_eq_some_iff.1 hi).1
 have hrd := h.ol.rd (show 0 < 1 by decide)
 refine ⟨RdK.inB hrd (by decide) (by omega) (by rw [h.n]; omega), ?_⟩
 have := hrd.rd i [.pointer (some ⟨y.x, 0, none⟩)] (by rw [List.getElem?_map, hi]; rfl) 0 _ rfl
 exact this
def dk0 (room : Int) : Dk := ⟨min (max room 0) 1048576, 0, 0, [], []⟩
theorem tNew_spec (seed limit room : Int) (w : World) : Calls Tryz.prog n_table_New #[.int .i64 seed, .int .i64 limit, .int .i64 room] w fun e w' => ∃ t st d r, e = .returned (.pointer (some ⟨t, 0, none⟩)) ∧ TO w' t st d r ⟨none, 0, 0⟩ (dk0 room) seed (min (max limit 1) 16) [] ∧ Ext w w' ∧ ∀ i, foot t st d r ⟨none, 0, 0⟩ [] i → w.heap.size ≤ i := by
 apply table_New.vc
 refine (sNew_spec room w).mono ?_
 rintro e w0 ⟨st, d, m, rfl, hs, x0, hf⟩
 refine ⟨_, rfl, fun w2 e2 => ?_⟩
 have x2 : Ext w0 w2 := (Ext.rfl' _).of_alloc e2
 have z0 := x0.size
 have hl : (if 16 < (if 1 > limit then 1 else limit) then 16 else (if 1 > limit then 1 else limit)) = min (max limit 1) 16 := by split <;> split <;> omega
 rw [hl] at e2
 refine ⟨_, st, d, m, rfl, ⟨by rw [e2]; exact Row.new w0 [_, _, _, _] _, hs.ext x2, OwnK.nil, by simp, by simp, by simp, by omega, by simp; omega⟩, x0.tr x2, fun i hi => ?_⟩
 rcases hi with rfl | e | e | e | e | ⟨y, hy, -⟩
 ·exact z0
 ·exact hf i (.inl e)
 ·exact hf i (.inr (.inl e))
 ·exact hf i (.inr (.inr e))
 ·cases e
 ·cases hy
theorem indexFunc_spec {α : Type} (s : Sl) (l : List α) (ad : α → Nat) (fv : Value) (q : α → Bool) (w : World) (hs : RdK w s 1 (l.map fun i => [.pointer (some ⟨ad i, 0, none⟩)])) (hb : l.length ≤ 1000)
  (hf : ∀ i ∈ l, ∀ w', Ext w w' → callV Tryz.prog fv [.pointer (some ⟨ad i, 0, none⟩)] w' fun e w'' => e = .returned (.bool (q i)) ∧ Ext w' w'') :
  Calls Tryz.prog n_slices_IndexFunc_item #[.slice s.a s.n s.c, fv] w fun e w' => e = .returned (.int .i64 (firstI q l)) ∧ Ext w w' := by
 apply slices_IndexFunc_item.vc
 have hn : s.n = l.length := by have := hs.n; rwa [List.length_map] at this
 refine ⟨fun n i wr => ∃ k : Nat, i = k ∧ k + n = l.length ∧ Ext w wr ∧ ∀ j, j < k → ∀ y, l[j]? = some y → q y = false, ⟨l.length, 0, rfl, by omega, Ext.rfl' _, fun j hj => by omega⟩, ?_⟩
 rintro n us i wr ⟨k, rfl, hk, xr, hno⟩
 have hwk : IntKind.wrap .i64 ((k : Int) + 1) = ((k + 1 : Nat) : Int) := by rw [wrap_in (by unfold inI; omega)]; omega
 refine Br.mk (fun hc => ?_) (fun hc => ?_)
 ·simp only [decide_eq_true_eq] at hc
  obtain ⟨y, hy⟩ := get_lt (l := l) (i := k) (by omega)
  have hsr := RdK.ext hs xr
  have hld := hsr.rd k [.pointer (some ⟨ad y, 0, none⟩)] (by rw [List.getElem?_map, hy]; rfl) 0 _ rfl
  refine ⟨RdK.inB hsr (by decide) (by omega) (by omega), _, hld, callV_mono (hf y (List.mem_of_getElem? hy) wr xr) ?_⟩
  rintro e w7 ⟨rfl, x7⟩
  refine ⟨_, rfl, Br.mk (fun h => ?_) (fun h => ?_)⟩
  ·exact ⟨by rw [firstI_at hy h hno], xr.tr x7⟩
  ·refine ⟨n - 1, by omega, k + 1, hwk, by omega, xr.tr x7, fun j hj z hz => ?_⟩
   by_cases e : j = k
   ·subst e; rw [hy] at hz; cases hz; exact h
   ·exact hno j (by omega) z hz
 ·simp only [decide_eq_false_iff_not] at hc
  refine ⟨?_, xr⟩
  rw [firstI_none]
  intro y hy
  obtain ⟨j, hj⟩ := List.getElem?_of_mem hy
  exact hno j (by have := (List.getElem?_eq_some_iff.1 hj).1; omega) y hj
set_option maxRecDepth 100000 in
theorem find_spec {w : World} {t st d : Nat} {r : Dm} {sl : Sl} {D : Dk} {seed limit : Int} {its : List It} (h : TO w t st d r sl D seed limit its) (p : Po) :
  Calls Tryz.prog n_table_Table_find #[.pointer (some ⟨t, 0, none⟩), pv p] w fun e w' => e = .returned (.int .i64 (firstI (fun i => i.p == p) its)) ∧ Ext w w' := by
 apply table_Table_find.vc
 intro w0 e0
 have x0 : Ext w w0 := (Ext.rfl' w).of_alloc e0
 have hb : Row w0 w.heap.size [.int .i64 p.1, .int .i64 p.2] tPo := by rw [e0]; exact Row.new w [_, _] _
 have h0 := h.ext x0
 have hlen := h.len
 have hlim := h.lim
 refine ⟨sl, h0.rt.at 3 rfl, (indexFunc_spec sl its (·.x) _ (fun i => i.p == p) w0 (h0.ol.rd (by decide)) (by omega) ?_).mono ?_⟩
 ·intro y hy w' x'
  refine callV_of (by kernel_rfl) (by rfl) ?_
  apply table_Table_find_1.vc
  have hy' := ((h0.it y hy).ext x').ext (Ext.dr w')
  have hb' := (hb.ext x').ext (Ext.dr w')
  refine ⟨_, by rw [padd_row, hy'.r.ld]; rfl, nnS (nnS ⟨_, _, hy'.k.pos, _, _, hb'.loadL (fun j hj => by rw [Nat.zero_add]), (Place_spec y.p w'.drew).mono ?_⟩)⟩
  rintro e w5 ⟨rfl, x5⟩
  refine ⟨_, _, rfl, (hb'.ext x5).loadL (fun j hj => by rw [Nat.zero_add]), ?_, rfl, (Ext.dr w').tr x5⟩
  rw [padd_row]
  exact (hy'.ext x5).r.loadL (fun j hj => by simp at hj; subst hj; rfl)
 ·rintro e w2 ⟨rfl, x2⟩
  exact ⟨_, rfl, rfl, x0.tr x2⟩
end Go.Proofs.YtkkkfkopcfdmaaaGreatDoor
namespace Go.Proofs.YtkkkfkopcfdmaaaGreatDoor
open Go Go.Vc Go.RowKit Go.Proofs Go.Chk Go.Runs
theorem SO.kind {w : World} {st d : Nat} {m : Dm} {D : Dk} (h : SO w st d m D) {i : Nat} (hi : sF st d m i) : MapIs GI w (some i) (m.E.map entV) ∨ ∃ cs τ, Row w i cs τ ∧ (τ = tStore ∨ τ = tDisk ∨ τ = tW ∨ τ = tByte) := by
 rcases hi with e | hi
 ·exact .inr ⟨_, _, e ▸ h.rs, .inl rfl⟩
 ·rcases h.dk.kind hi with q | ⟨cs, τ, q1, q2⟩
  ·exact .inl q
  ·exact .inr ⟨cs, τ, q1, .inr q2⟩
theorem SO.keep {w w' : World} {st d : Nat} {m : Dm} {D : Dk} (h : SO w st d m D) {F : Nat → Prop} (hm : Mod F w w') (hr : ∀ {j : Nat} {cs : List Value} {τ : TypeId}, Row w j cs τ → (τ = tStore ∨ τ = tDisk ∨ τ = tW ∨ τ = tByte) → ¬ F j) (hmp : ∀ {j : Nat} {kvs : List (Value × Value)}, MapIs GI w (some j) kvs → ¬ F j) : SO w' st d m D :=
 h.same fun i hi => hm.same i (h.lt hi) (by
  rcases h.kind hi with q | ⟨cs, τ, q1, q2⟩
  ·exact hmp q
  ·exact hr q1 q2)
abbrev slF (t : Nat) (sl : Sl) : Nat → Prop := fun j => j = t ∨ sl.blk = some j
theorem TO.off {w : World} {t st d : Nat} {r : Dm} {sl : Sl} {D : Dk} {seed limit : Int} {its : List It} (h : TO w t st d r sl D seed limit its) {j : Nat} {cs : List Value} {τ : TypeId} (hr : Row w j cs τ) (h1 : τ ≠ tTable) (h2 : τ ≠ tPI) : ¬ slF t sl j := by
 rintro (e | e)
 ·exact hr.ne h.rt h1 e
 ·obtain ⟨cs', hr'⟩ := own_row h.ol (by decide) e
  exact hr.ne hr' h2 rfl
theorem TO.item {w w' : World} {t st d : Nat} {r : Dm} {sl : Sl} {D : Dk} {seed limit : Int} {its : List It} (h : TO w t st d r sl D seed limit its) (hm : Mod (slF t sl) w w') {y : It} (hy : ItIs w y) : ItIs w' y :=
 hy.keep hm (h.off hy.r (by decide) (by decide)) (h.off hy.k.row (by decide) (by decide)) (fun b hb => by
  obtain ⟨cs', hr'⟩ := own_row hy.k.own (by decide) hb
  exact h.off hr' (by decide) (by decide))
theorem TO.turn {w w' : World} {t st d : Nat} {r : Dm} {sl sl' : Sl} {D : Dk} {seed limit : Int} {its its' : List It} (h : TO w t st d r sl D seed limit its) (hm : Mod (slF t sl) w w')
  (rt : Row w' t [.pointer (some ⟨st, 0, none⟩), .int .i64 seed, .int .i64 limit, .slice sl'.a sl'.n sl'.c] tTable) (ol : OwnK 0 tPI 1 w' sl' (ptrs its')) (hit : ∀ y ∈ its', y ∈ its ∨ ItIs w y)
  (dx : (its'.map (·.x)).Nodup) (dg : (its'.map (·.g)).Nodup) (len : (its'.length : Int) ≤ limit) : TO w' t st d r sl' D seed limit its' := by
 refine ⟨rt, h.so.keep hm (fun hr hτ => ?_) (fun hmp => ?_), ol, fun y hy => h.item hm ?_, dx, dg, h.lim, len⟩
 ·rcases hτ with rfl | rfl | rfl | rfl <;> exact h.off hr (by decide) (by decide)
 ·rintro (e | e)
  ·exact h.rt.ne_map hmp e.symm
  ·obtain ⟨cs', hr'⟩ := own_row h.ol (by decide) e
   exact hr'.ne_map hmp rfl
 ·rcases hit y hy with h1 | h1
  ·exact h.it y h1
  ·exact h1
theorem foot_sub {w : World} {t st d : Nat} {r : Dm} {sl sl' : Sl} {its its' : List It} (hb : ∀ b, sl'.blk = some b → sl.blk = some b ∨ w.heap.size ≤ b) (hi : ∀ y ∈ its', y ∈ its ∨ (w.heap.size ≤ y.x ∧ w.heap.size ≤ y.g ∧ ∀ b, y.s.blk = some b → w.heap.size ≤ b)) :
  ∀ i, foot t st d r sl' its' i → foot t st d r sl its i ∨ w.heap.size ≤ i := by
 rintro i (e | e | e | e | e | ⟨y, hy, e⟩)
 ·exact .inl (.inl e)
 ·exact .inl (.inr (.inl e))
 ·exact .inl (.inr (.inr (.inl e)))
 ·exact .inl (.inr (.inr (.inr (.inl e))))
 ·rcases hb i e with h | h
  ·exact .inl (.inr (.inr (.inr (.inr (.inl h)))))
  ·exact .inr h
 ·rcases hi y hy with h | ⟨h1, h2, h3⟩
  ·exact .inl (.inr (.inr (.inr (.inr (.inr ⟨y, h, e⟩)))))
  ·rcases e with e | e | e
   ·exact .inr (by omega)
   ·exact .inr (by omega)
   ·exact .inr (h3 i e)
theorem slF_foot {t st d : Nat} {r : Dm} {sl : Sl} {its : List It} : ∀ i, slF t sl i → foot t st d r sl its i := by
 rintro i (e | e)
 ·exact .inl e
 ·exact .inr (.inr (.inr (.inr (.inl e))))
theorem one_p (a : Addr) : One [Value.pointer (some a)] := by intro v hv; simp at hv; subst hv; rfl
theorem TO.push {w : World} {t st d : Nat} {r : Dm} {sl : Sl} {D : Dk} {seed limit : Int} {its : List It} (h : TO w t st d r sl D seed limit its) (y : It) (hy : ItIs w y) (hx : y.x ∉ its.map (·.x)) (hg : y.g ∉ its.map (·.g)) (hl : (its.length : Int) + 1 ≤ limit) :
  AppPre 8 1 w sl 1 [.pointer (some ⟨y.x, 0, none⟩)] ∧ ∀ (s4 : Sl) (w5 : World), AppRes tPI 1 w sl 1 [.pointer (some ⟨y.x, 0, none⟩)] s4 w5 →
   Mod (fun j => sl.blk = some j) w w5 ∧ Wr w5 (padd (some ⟨t, 0, none⟩) 3) 1 ∧ ∀ w6, w6 = setP w5 (padd (some ⟨t, 0, none⟩) 3) [.slice s4.a s4.n s4.c] →
    TO w6 t st d r s4 D seed limit (its ++ [y]) ∧ Mod (slF t sl) w w6 ∧ ∀ b, s4.blk = some b → sl.blk = some b ∨ w.heap.size ≤ b := by
 have hn := h.n
 have hlim := h.lim
 obtain ⟨hp, hr⟩ := h.ol.append (bytes := 8) (news := [.pointer (some ⟨y.x, 0, none⟩)]) (Nat.zero_le _) rfl (one_p _) (by omega) (by omega)
 refine ⟨hp, fun s4 w5 hres => ?_⟩
 obtain ⟨ho, hn4, hbl, hk, hblk⟩ := hr s4 w5 hres
 have hm5 : Mod (fun j => sl.blk = some j) w w5 := Mod.of_app hbl hk
 have hnt : ¬ sl.blk = some t := fun e => by
  obtain ⟨cs', hr'⟩ := own_row h.ol (by decide) e
  exact hr'.ne h.rt (by decide) rfl
 have rt5 := hm5.row h.rt hnt
 obtain ⟨p1, p2⟩ := rt5.put1 (j := 3) (v := .slice s4.a s4.n s4.c) (by simp) rfl
 refine ⟨hm5, p1, fun w6 e6 => ?_⟩
 obtain ⟨q1, q2⟩ := p2 w6 e6
 have hm6 : Mod (slF t sl) w w6 := (hm5.mono fun i _ hi => .inr hi).trans (q2.mono fun i _ hi => .inl hi)
 have h4t : ∀ b, s4.blk = some b → b ≠ t := fun b hb => by
  obtain ⟨cs', hr'⟩ := own_row ho (by decide) hb
  exact hr'.ne rt5 (by decide)
 refine ⟨h.turn hm6 q1 ?_ (fun z hz => ?_) ?_ ?_ (by simp; omega), hm6, fun b hb => ?_⟩
 ·have := q2.ownK ho h4t
  show OwnK 0 tPI 1 w6 s4 ((its ++ [y]).map _)
  rw [List.map_append]; exact this
 ·rcases List.mem_append.1 hz with hz | hz
  ·exact .inl hz
  ·simp at hz; subst hz; exact .inr hy
 ·rw [List.map_append]
  refine List.nodup_append.2 ⟨h.dx, by simp, ?_⟩
  intro a ha b hb e
  simp at hb
  subst hb; subst e
  exact hx ha
 ·rw [List.map_append]
  refine List.nodup_append.2 ⟨h.dg, by simp, ?_⟩
  intro a ha b hb e
  simp at hb
  subst hb; subst e
  exact hg ha
 ·rcases hblk with e | e
  ·exact .inl (by rw [← e]; exact hb)
  ·rw [e] at hb; cases hb; exact .inr (Nat.le_refl _)
theorem out_spec {w : World} {t st d : Nat} {r : Dm} {sl : Sl} {D : Dk} {seed limit : Int} {its : List It} (h : TO w t st d r sl D seed limit its) {i : Nat} {y : It} (hi : its[i]? = some y) :
  Calls Tryz.prog n_table_Table_out #[.pointer (some ⟨t, 0, none⟩), .int .i64 (i : Nat)] w fun e w' => e = .returned (.pointer (some ⟨y.x, 0, none⟩)) ∧ ∃ sl', TO w' t st d r sl' D seed limit (its.eraseIdx i) ∧ Mod (slF t sl) w w' ∧ ∀ b, sl'.blk = some b → sl.blk = some b ∨ w.heap.size ≤ b := by
 apply table_Table_out.vc
 have hn := h.n
 have hlim := h.lim
 have hlen := h.len
 have hil := (List.getElem?_eq_some_iff.1 hi).1
 obtain ⟨a1, a2⟩ := h.at hi
 have hd := h.ext (Ext.dr w)
 have hle := OwnK.le h.ol
 have w1 : IntKind.wrap .i64 ((i : Int) + 1) = ((i + 1 : Nat) : Int) := by rw [wrap_in (by unfold inI; omega)]; omega
 refine ⟨sl, h.rt.at 3 rfl, a1, _, a2, sl, hd.rt.at 3 rfl, by omega, by omega, by omega, by omega, sl, hd.rt.at 3 rfl, ?_⟩
 rw [w1]
 have hcut := hd.ol.cut (by decide) (m := i) (by rw [List.length_map]; omega)
 have hrest := RdK.rest (hd.ol.rd (by decide)) (l := i + 1) (m := sl.c) (n' := sl.n - (i + 1)) (c' := sl.c - (i + 1)) (by rw [List.length_map]; omega) (by rw [List.length_map]; omega)
 have hml : ((ptrs its).drop (i + 1)).length = sl.n - (i + 1) := by rw [List.length_drop, List.length_map]; omega
 have hwd : ∀ q ∈ (ptrs its).drop (i + 1), q.length = 1 ∧ One q := fun q hq => by
  obtain ⟨z, _, rfl⟩ := List.mem_map.1 (List.mem_of_mem_drop hq)
  exact ⟨rfl, one_p _⟩
 obtain ⟨hp, hres⟩ := hcut.appN (bytes := 8) (more := (ptrs its).drop (i + 1)) (Nat.zero_le _) (fun q hq => (hwd q hq).1) (fun q hq => (hwd q hq).2) (by rw [hml]; show (i + _) * 8 ≤ _; omega) (by rw [hml]; show i + _ ≤ _; omega)
 rw [hml] at hp hres
 refine ⟨by omega, by omega, ((ptrs its).drop (i + 1)).flatten, hrest.flat (by decide), hp, fun s5 w6 hr => ?_⟩
 obtain ⟨ho, hn5, hbl, hk, hblk⟩ := hres s5 w6 hr
 have hsb : (Sl.mk (slBase sl.a 0 i 1) i i).blk = sl.blk := by rw [slBase_zero]; rfl
 rw [hsb] at hk hblk
 have hm6 : Mod (fun j => sl.blk = some j) w w6 := (Mod.of_ext (Ext.dr w)).trans (Mod.of_app hbl hk)
 have hnt : ¬ sl.blk = some t := fun e => by
  obtain ⟨cs', hr'⟩ := own_row h.ol (by decide) e
  exact hr'.ne h.rt (by decide) rfl
 have rt6 := hm6.row h.rt hnt
 obtain ⟨p1, p2⟩ := rt6.put1 (j := 3) (v := .slice s5.a s5.n s5.c) (by simp) rfl
 have hld : LoadL w6 (padd (some ⟨t, 0, none⟩) 3) 0 [.slice sl.a sl.n sl.c] := by
  show ld w6 (padd _ 0) = _
  rw [padd_zero]; exact rt6.at 3 rfl
 refine ⟨hld, hld, ⟨rfl, p1⟩, fun w7 e7 => ⟨rfl, s5, ?_⟩⟩
 obtain ⟨q1, q2⟩ := p2 w7 e7
 have hm7 : Mod (slF t sl) w w7 := (hm6.mono fun i _ hi => .inr hi).trans (q2.mono fun i _ hi => .inl hi)
 have h5t : ∀ b, s5.blk = some b → b ≠ t := fun b hb => by
  obtain ⟨cs', hr'⟩ := own_row ho (by decide) hb
  exact hr'.ne rt6 (by decide)
 have hsub : List.Sublist (its.eraseIdx i) its := List.eraseIdx_sublist ..
 refine ⟨h.turn hm7 q1 ?_ (fun z hz => .inl (hsub.subset hz)) (h.dx.sublist (hsub.map _)) (h.dg.sublist (hsub.map _)) ?_, hm7, fun b hb => ?_⟩
 ·have := q2.ownK ho h5t
  show OwnK 0 tPI 1 w7 s5 ((its.eraseIdx i).map _)
  rw [List.eraseIdx_eq_take_drop_succ, List.map_append, List.map_take, List.map_drop]; exact this
 ·have := hsub.length_le; omega
 ·rcases hblk with e | e
  ·exact .inl (by rw [← e]; exact hb)
  ·rw [e] at hb; cases hb; exact .inr (Nat.le_refl _)
theorem erase_not {α : Type} {f : α → Nat} {l : List α} {i : Nat} {y : α} (hd : (l.map f).Nodup) (hi : l[i]? = some y) : f y ∉ (l.eraseIdx i).map f := by
 rw [List.eraseIdx_eq_take_drop_succ, List.map_append]
 have e : l = l.take i ++ y :: l.drop (i + 1) := by
  have := List.take_append_drop i l
  rw [List.drop_eq_getElem_cons (List.getElem?_eq_some_iff.1 hi).1] at this
  rw [← (List.getElem?_eq_some_iff.1 hi).2]
  exact this.symm
 rw [e, List.map_append, List.map_cons] at hd
 obtain ⟨h1, h2, h3⟩ := List.nodup_append.1 hd
 intro hm
 rcases List.mem_append.1 hm with hm | hm
 ·exact h3 _ hm _ (.head _) rfl
 ·exact (List.nodup_cons.1 h2).1 hm
theorem touch_spec {w : World} {t st d : Nat} {r : Dm} {sl : Sl} {D : Dk} {seed limit : Int} {its : List It} (h : TO w t st d r sl D seed limit its) {i : Nat} {y : It} (hi : its[i]? = some y) :
  Calls Tryz.prog n_table_Table_touch #[.pointer (some ⟨t, 0, none⟩), .int .i64 (i : Nat)] w fun e w' => e = .returned (.pointer (some ⟨y.x, 0, none⟩)) ∧ ∃ sl', TO w' t st d r sl' D seed limit (its.eraseIdx i ++ [y]) ∧ Turned (foot t st d r sl its) (foot t st d r sl' (its.eraseIdx i ++ [y])) w w' := by
 apply table_Table_touch.vc
 have hil := (List.getElem?_eq_some_iff.1 hi).1
 have hym : y ∈ its := List.mem_of_getElem? hi
 have hlen := h.len
 refine (out_spec h hi).mono ?_
 rintro e w0 ⟨rfl, sl0, h0, m0, b0⟩
 have hy0 := h.item m0 (h.it y hym)
 refine ⟨_, rfl, sl0, h0.rt.at 3 rfl, fun w3 e3 => ?_⟩
 have x3 : Ext w0 w3 := (Ext.rfl' _).of_alloc e3
 have h3 := h0.ext x3
 have hsub : List.Sublist (its.eraseIdx i) its := List.eraseIdx_sublist ..
 have hel : (its.eraseIdx i).length = its.length - 1 := by rw [List.length_eraseIdx, if_pos hil]
 obtain ⟨hp, hr⟩ := h3.push y (hy0.ext x3) (erase_not h.dx hi) (erase_not h.dg hi) (by omega)
 refine ⟨hp, fun s4 w5 hres => ?_⟩
 obtain ⟨m5, p1, p2⟩ := hr s4 w5 hres
 have ht0 := h0.rt.lt
 have z3 : w3.heap.size = w0.heap.size + 1 := by rw [e3]; simp
 refine ⟨m5.same _ (by omega) fun e => by have := (h0.ol.own.lt e).2; omega, ⟨rfl, p1⟩, fun e => ?_, fun w6 e6 => ⟨rfl, s4, ?_⟩⟩
 ·rw [pblk_padd] at e
  have : t = w0.heap.size := by simpa [pblk] using e
  omega
 ·obtain ⟨q1, q2, q3⟩ := p2 w6 e6
  have z0 := m0.size
  refine ⟨q1, ⟨?_, ?_⟩⟩
  ·have a1 : Mod (foot t st d r sl its) w w3 := (m0.mono fun i _ hi => slF_foot i hi).trans (Mod.of_ext x3)
   refine a1.tr q2 fun j hj => ?_
   rcases hj with e | e
   ·exact .inl (.inl e)
   ·rcases b0 j e with e | e
    ·exact .inl (.inr (.inr (.inr (.inr (.inl e)))))
    ·exact .inr e
  ·refine foot_sub (w := w) (fun b hb => ?_) (fun z hz => .inl ?_)
   ·rcases q3 b hb with e | e
    ·exact b0 b e
    ·exact .inr (by omega)
   ·rcases List.mem_append.1 hz with hz | hz
    ·exact hsub.subset hz
    ·simp at hz; subst hz; exact hym
end Go.Proofs.YtkkkfkopcfdmaaaGreatDoor
namespace Go.Proofs.YtkkkfkopcfdmaaaGreatDoor
open Go Go.Vc Go.RowKit Go.Proofs Go.Chk Go.Runs Go.Code
theorem TO.put {w w' : World} {t st d : Nat} {r : Dm} {sl : Sl} {D : Dk} {seed limit : Int} {its : List It} (h : TO w t st d r sl D seed limit its) {i : Nat} {y y' : It} (hi : its[i]? = some y) (hx : y'.x = y.x) (hg : y'.g = y.g) (hm : Mod (fun j => j = y.x) w w') (hy : ItIs w' y') : TO w' t st d r sl D seed limit (its.set i y') := by
 have hil := (List.getElem?_eq_some_iff.1 hi).1
 have hr := (h.it y (List.mem_of_getElem? hi)).r
 have off : ∀ {j : Nat} {cs : List Value} {τ : TypeId}, Row w j cs τ → τ ≠ tItem → ¬ j = y.x := fun hr' ht e => hr'.ne hr ht e
 have hpx : ptrs (its.set i y') = ptrs its := by
  unfold ptrs
  rw [List.map_set, hx]
  apply List.ext_getElem?
  intro j
  rw [List.getElem?_set]
  split
  ·rename_i e; subst e
   rw [if_pos (by rw [List.length_map]; exact hil), List.getElem?_map, hi]; rfl
  ·rfl
 have hmx : (its.set i y').map (·.x) = its.map (·.x) := by
  rw [List.map_set, hx]
  apply List.ext_getElem?
  intro j
  rw [List.getElem?_set]
  split
  ·rename_i e; subst e
   rw [if_pos (by rw [List.length_map]; exact hil), List.getElem?_map, hi]; rfl
  ·rfl
 have hmg : (its.set i y').map (·.g) = its.map (·.g) := by
  rw [List.map_set, hg]
  apply List.ext_getElem?
  intro j
  rw [List.getElem?_set]
  split
  ·rename_i e; subst e
   rw [if_pos (by rw [List.length_map]; exact hil), List.getElem?_map, hi]; rfl
  ·rfl
 refine ⟨hm.row h.rt (off h.rt (by decide)), h.so.keep hm (fun hr' hτ => by rcases hτ with rfl | rfl | rfl | rfl <;> exact off hr' (by decide)) (fun hmp e => hr.ne_map hmp e.symm), ?_, fun z hz => ?_, by rw [hmx]; exact h.dx, by rw [hmg]; exact h.dg, h.lim, by rw [List.length_set]; exact h.len⟩
 ·rw [hpx]
  exact hm.ownK h.ol fun b hb => by
   obtain ⟨cs', hr'⟩ := own_row h.ol (by decide) hb
   exact off hr' (by decide)
 ·obtain ⟨j, hj⟩ := List.getElem?_of_mem hz
  rw [List.getElem?_set] at hj
  split at hj
  ·cases hj; exact hy
  ·rename_i hne
   have hzj := h.it z (List.mem_of_getElem? hj)
   refine hzj.keep hm (fun e => ?_) (off hzj.k.row (by decide)) (fun b hb => ?_)
   ·
    have h1 : (its.map (·.x))[i]? = some y.x := by rw [List.getElem?_map, hi]; rfl
    have h2 : (its.map (·.x))[j]? = some z.x := by rw [List.getElem?_map, hj]; rfl
    have hjl := (List.getElem?_eq_some_iff.1 hj).1
    rw [e, ← h1] at h2
    exact hne ((List.getElem?_inj (by rw [List.length_map]; exact hjl) h.dx).1 h2).symm
   ·obtain ⟨cs', hr'⟩ := own_row hzj.k.own (by decide) hb
    exact off hr' (by decide)
theorem foot_put {t st d : Nat} {r : Dm} {sl : Sl} {its : List It} {i : Nat} {y y' : It} (hi : its[i]? = some y) (hx : y'.x = y.x) (hg : y'.g = y.g) (hs : y'.s = y.s) : ∀ j, foot t st d r sl (its.set i y') j → foot t st d r sl its j := by
 rintro j (e | e | e | e | e | ⟨z, hz, e⟩)
 ·exact .inl e
 ·exact .inr (.inl e)
 ·exact .inr (.inr (.inl e))
 ·exact .inr (.inr (.inr (.inl e)))
 ·exact .inr (.inr (.inr (.inr (.inl e))))
 ·rcases List.mem_or_eq_of_mem_set hz with hz | hz
  ·exact .inr (.inr (.inr (.inr (.inr ⟨z, hz, e⟩))))
  ·subst hz
   rw [hx, hg, hs] at e
   exact .inr (.inr (.inr (.inr (.inr ⟨y, List.mem_of_getElem? hi, e⟩))))
abbrev En := Po × List Int × Bool × Int
def It.ob (i : It) : En := (i.p, i.C, i.dirty, i.pins)
abbrev obs (its : List It) : List En := its.map It.ob
theorem obs_erase (its : List It) (i : Nat) : obs (its.eraseIdx i) = (obs its).eraseIdx i := by
 unfold obs
 rw [List.eraseIdx_eq_take_drop_succ, List.eraseIdx_eq_take_drop_succ, List.map_append, List.map_take, List.map_drop]
abbrev Tb := Dk × List En
def saveE (D : Dk) (e : En) : Dk × En × Int :=
 if e.2.2.1 = true then ((svS D (idK e.1) (wrB (ofC e.2.1))).1, (e.1, e.2.1, decide ((svS D (idK e.1) (wrB (ofC e.2.1))).2 ≠ 0), e.2.2.2), (svS D (idK e.1) (wrB (ofC e.2.1))).2) else (D, e, 0)
def goE (D : Dk) (l : List En) (i : Nat) : Tb × Int :=
 match l[i]? with
 | none => ((D, l), 0)
 | some e => if (saveE D e).2.2 = 0 then (((saveE D e).1, l.eraseIdx i), 0) else (((saveE D e).1, l.set i (saveE D e).2.1), (saveE D e).2.2)
def roomE (limit : Int) (D : Dk) (l : List En) : Tb × Int :=
 if (l.length : Int) < limit then ((D, l), 0) else if firstI (fun e : En => e.2.2.2 == 0) l < 0 then ((D, l), 8) else goE D l (firstI (fun e : En => e.2.2.2 == 0) l).toNat
theorem TO.dOff {w : World} {t st d : Nat} {r : Dm} {sl : Sl} {D : Dk} {seed limit : Int} {its : List It} (h : TO w t st d r sl D seed limit its) {j : Nat} {cs : List Value} {τ : TypeId} (hr : Row w j cs τ) (h1 : τ ≠ tDisk) (h2 : τ ≠ tW) : ¬ (j = d ∨ r.ls.blk = some j) := by
 rintro (e | e)
 ·exact hr.ne h.so.dk.rd h1 e
 ·obtain ⟨cs', hr'⟩ := own_row h.so.dk.ol (by decide) e
  exact hr.ne hr' h2 rfl
theorem TO.store {w w' : World} {t st d : Nat} {r r' : Dm} {sl : Sl} {D D' : Dk} {seed limit : Int} {its : List It} (h : TO w t st d r sl D seed limit its) (hm : Mod (fun i => i = d ∨ r.ls.blk = some i) w w') (hs : SO w' st d r' D') : TO w' t st d r' sl D' seed limit its := by
 refine ⟨hm.row h.rt (h.dOff h.rt (by decide) (by decide)), hs, hm.ownK h.ol fun b hb => ?_, fun y hy => ?_, h.dx, h.dg, h.lim, h.len⟩
 ·obtain ⟨cs', hr'⟩ := own_row h.ol (by decide) hb
  exact h.dOff hr' (by decide) (by decide)
 ·have hy' := h.it y hy
  refine hy'.keep hm (h.dOff hy'.r (by decide) (by decide)) (h.dOff hy'.k.row (by decide) (by decide)) fun b hb => ?_
  obtain ⟨cs', hr'⟩ := own_row hy'.k.own (by decide) hb
  exact h.dOff hr' (by decide) (by decide)
theorem foot_store {n : Nat} {t st d : Nat} {r r' : Dm} {sl : Sl} {its : List It} (hs : ∀ i, dF d r' i → dF d r i ∨ n ≤ i) : ∀ i, foot t st d r' sl its i → foot t st d r sl its i ∨ n ≤ i := by
 rintro i (e | e | e | e | e | e)
 ·exact .inl (.inl e)
 ·exact .inl (.inr (.inl e))
 ·exact .inl (.inr (.inr (.inl e)))
 ·rcases hs i (.inr e) with q | q
  ·rcases q with q | q
   ·exact .inl (.inr (.inr (.inl q)))
   ·exact .inl (.inr (.inr (.inr (.inl q))))
  ·exact .inr q
 ·exact .inl (.inr (.inr (.inr (.inr (.inl e)))))
 ·exact .inl (.inr (.inr (.inr (.inr (.inr e)))))
theorem dF_foot {t st d : Nat} {r : Dm} {sl : Sl} {its : List It} : ∀ i, (i = d ∨ r.ls.blk = some i) → foot t st d r sl its i := by
 rintro i (e | e)
 ·exact .inr (.inr (.inl e))
 ·exact .inr (.inr (.inr (.inl (.inr (.inl e)))))
theorem wrB_bys {C : List Int} : Bys (wrB (ofC C)) := wrB_in _
theorem wrB_le {C : List Int} (hl : C.length = 8192) : (wrB (ofC C)).length ≤ 65536 := by
 have h1 := wrB_len (ofC C)
 have h2 := ofC_len C
 omega
set_option maxRecDepth 100000 in
theorem save_spec {w : World} {t st d : Nat} {r : Dm} {sl : Sl} {D : Dk} {seed limit : Int} {its : List It} (h : TO w t st d r sl D seed limit its) (hW : D.l.length ≤ 1000000) {i : Nat} {y : It} (hi : its[i]? = some y) :
  Calls Tryz.prog n_table_Table_save #[.pointer (some ⟨t, 0, none⟩), .pointer (some ⟨y.x, 0, none⟩)] w fun e w' => e = .returned (.int .i64 (saveE D y.ob).2.2) ∧ ∃ r' y', TO w' t st d r' sl (saveE D y.ob).1 seed limit (its.set i y') ∧ y'.ob = (saveE D y.ob).2.1 ∧ Turned (foot t st d r sl its) (foot t st d r' sl (its.set i y')) w w' := by
 apply table_Table_save.vc
 have hym := List.mem_of_getElem? hi
 have hy := h.it y hym
 have hset : its.set i y = its := by
  obtain ⟨hl, he⟩ := List.getElem?_eq_some_iff.1 hi
  rw [← he]; exact List.set_getElem_self hl
 refine ⟨_, hy.r.at 1 rfl, Br.mk (fun hb => ?_) (fun hb => ?_)⟩
 ·have hd : y.dirty = false := by simpa using hb
  have e : saveE D y.ob = (D, y.ob, 0) := by unfold saveE; rw [if_neg (by show ¬ y.dirty = true; rw [hd]; decide)]
  rw [e]
  exact ⟨rfl, r, y, by rw [hset]; exact h, rfl, by rw [hset]; exact Turned.refl _ _⟩
 ·have hd : y.dirty = true := by simpa using hb
  have e : saveE D y.ob = ((svS D (idK y.p) (wrB (ofC y.C))).1, (y.p, y.C, decide ((svS D (idK y.p) (wrB (ofC y.C))).2 ≠ 0), y.pins), (svS D (idK y.p) (wrB (ofC y.C))).2) := by unfold saveE; rw [if_pos (by show y.dirty = true; exact hd)]; rfl
  rw [e]
  refine ⟨_, hy.r.at 0 rfl, nnS (nnS ⟨_, _, hy.k.pos, (Place_spec y.p w).mono ?_⟩)⟩
  rintro e w4 ⟨rfl, x4⟩
  refine ⟨_, _, rfl, (Id_spec y.p w4).mono ?_⟩
  rintro e w7 ⟨rfl, x7⟩
  have x07 := (x4.tr x7).tr (Ext.dr w7)
  have h7 := h.ext x07
  have hy7 := h7.it y hym
  refine ⟨_, _, rfl, _, h7.rt.at 0 rfl, _, hy7.r.at 0 rfl, (Bytes_spec hy7.k).mono ?_⟩
  rintro e w12 ⟨s13, rfl, o13, x12⟩
  have x012 := x07.tr x12
  have h12 := h.ext x012
  have hk := hy.k
  refine ⟨s13, rfl, ldOne (h12.rt.at 0 rfl), (stSave_spec h12.so hW (idK y.p) s13 (wrB (ofC y.C)) (OwY.rdy o13) wrB_bys (Nat.le_trans (wrB_le hk.len) (by decide))).mono ?_⟩
  rintro e w14 ⟨rfl, r', hs14, m14, f14, -⟩
  have h14 := h12.store m14 hs14
  have hy14 := h14.it y hym
  obtain ⟨p1, p2⟩ := hy14.r.put1 (j := 1) (v := .bool ((svS D (idK y.p) (wrB (ofC y.C))).2 != 0)) (by simp) rfl
  refine ⟨_, rfl, ⟨rfl, p1⟩, fun w16 e16 => ?_⟩
  obtain ⟨q1, q2⟩ := p2 w16 e16
  have hbd : ((svS D (idK y.p) (wrB (ofC y.C))).2 != 0) = decide ((svS D (idK y.p) (wrB (ofC y.C))).2 ≠ 0) := by
   rw [Bool.eq_iff_iff]; simp
  rw [hbd] at q1
  have hy' : ItIs w16 { y with dirty := decide ((svS D (idK y.p) (wrB (ofC y.C))).2 ≠ 0) } := ⟨q1, hy14.k.keep q2 (fun e => hy14.k.row.ne hy14.r (by decide) e) fun b hb => by
   obtain ⟨cs', hr'⟩ := own_row hy14.k.own (by decide) hb
   exact hr'.ne hy14.r (by decide)⟩
  have z12 := x012.size
  have z14 := m14.size
  refine ⟨rfl, r', { y with dirty := decide ((svS D (idK y.p) (wrB (ofC y.C))).2 ≠ 0) }, h14.put hi rfl rfl q2 hy', rfl, ?_⟩
  have t1 : Turned (foot t st d r sl its) (foot t st d r' sl its) w12 w14 := ⟨m14.mono fun i _ hi => dF_foot i hi, foot_store f14⟩
  have t2 : Turned (foot t st d r' sl its) (foot t st d r' sl (its.set i { y with dirty := decide ((svS D (idK y.p) (wrB (ofC y.C))).2 ≠ 0) })) w14 w16 := ⟨q2.mono fun j _ hj => .inr (.inr (.inr (.inr (.inr ⟨y, hym, .inl hj⟩)))), fun j hj => .inl (foot_put (y' := { y with dirty := decide ((svS D (idK y.p) (wrB (ofC y.C))).2 ≠ 0) }) hi rfl rfl rfl j hj)⟩
  exact (Turned.of_ext x012).trans (t1.trans t2)
end Go.Proofs.YtkkkfkopcfdmaaaGreatDoor
namespace Go.Proofs.YtkkkfkopcfdmaaaGreatDoor
open Go Go.Vc Go.RowKit Go.Proofs Go.Chk Go.Runs Go.Code
abbrev LdRes (w : World) (t st d : Nat) (r : Dm) (sl : Sl) (seed limit : Int) (its : List It) (T : Tb) (w' : World) : Prop :=
 ∃ r' sl' its', TO w' t st d r' sl' T.1 seed limit its' ∧ obs its' = T.2 ∧ Turned (foot t st d r sl its) (foot t st d r' sl' its') w w'
theorem obs_at {its : List It} {i : Nat} {y : It} (h : its[i]? = some y) : (obs its)[i]? = some y.ob := by rw [List.getElem?_map, h]; rfl
theorem obs_put {its : List It} {i : Nat} {y' : It} {e : En} (h : y'.ob = e) : obs (its.set i y') = (obs its).set i e := by unfold obs; rw [List.map_set, h]
theorem goE_at {D : Dk} {l : List En} {i : Nat} {e : En} (h : l[i]? = some e) : goE D l i = if (saveE D e).2.2 = 0 then (((saveE D e).1, l.eraseIdx i), 0) else (((saveE D e).1, l.set i (saveE D e).2.1), (saveE D e).2.2) := by unfold goE; rw [h]
theorem out_turn {w w' : World} {t st d : Nat} {r : Dm} {sl sl' : Sl} {its its' : List It} (hm : Mod (slF t sl) w w') (hb : ∀ b, sl'.blk = some b → sl.blk = some b ∨ w.heap.size ≤ b) (hs : ∀ y ∈ its', y ∈ its) : Turned (foot t st d r sl its) (foot t st d r sl' its') w w' :=
 ⟨hm.mono fun i _ hi => slF_foot i hi, foot_sub hb fun y hy => .inl (hs y hy)⟩
set_option maxRecDepth 100000 in
theorem room_spec {w : World} {t st d : Nat} {r : Dm} {sl : Sl} {D : Dk} {seed limit : Int} {its : List It} (h : TO w t st d r sl D seed limit its) (hW : D.l.length ≤ 1000000) :
  Calls Tryz.prog n_table_Table_room #[.pointer (some ⟨t, 0, none⟩)] w fun e w' => e = .returned (.int .i64 (roomE limit D (obs its)).2) ∧ LdRes w t st d r sl seed limit its (roomE limit D (obs its)).1 w' ∧ ((roomE limit D (obs its)).2 = 0 → ((roomE limit D (obs its)).1.2.length : Int) + 1 ≤ limit) := by
 apply table_Table_room.vc
 have hd := h.ext (Ext.dr w)
 have hn := h.n
 have hol : (obs its).length = its.length := by rw [List.length_map]
 have hlen := h.len
 have hlim := h.lim
 refine ⟨sl, hd.rt.at 3 rfl, limit, hd.rt.at 2 rfl, Br.mk (fun hb => ?_) (fun hb => ?_)⟩
 ·simp only [decide_eq_true_eq] at hb
  have e : roomE limit D (obs its) = ((D, obs its), 0) := by unfold roomE; rw [if_pos (by omega)]
  rw [e]
  exact ⟨rfl, ⟨r, sl, its, hd, rfl, Turned.of_ext (Ext.dr w)⟩, fun _ => by simp only; omega⟩
 ·simp only [decide_eq_false_iff_not] at hb
  refine ⟨sl, hd.rt.at 3 rfl, (indexFunc_spec sl its (·.x) _ (fun i => i.pins == 0) w.drew (hd.ol.rd (by decide)) (by omega) ?_).mono ?_⟩
  ·intro y hy w' x'
   refine callV_of (by kernel_rfl) (by rfl) ?_
   apply table_Table_room_1.vc
   have hy' := (hd.it y hy).ext x'
   exact ⟨_, hy'.r.at 2 rfl, rfl, Ext.rfl' _⟩
  ·rintro e w3 ⟨rfl, x3⟩
   have h3 := hd.ext x3
   have hfm : firstI (fun e : En => e.2.2.2 == 0) (obs its) = firstI (fun i : It => i.pins == 0) its := firstI_map It.ob _ its
   have x03 : Ext w w3 := (Ext.dr w).tr x3
   refine ⟨_, rfl, Br.mk (fun hb2 => ?_) (fun hb2 => ?_)⟩
   ·simp only [decide_eq_true_eq] at hb2
    have e : roomE limit D (obs its) = ((D, obs its), 8) := by unfold roomE; rw [if_neg (by omega), if_pos (by omega)]
    rw [e]
    exact ⟨rfl, ⟨r, sl, its, h3, rfl, Turned.of_ext x03⟩, fun h => by simp at h⟩
   ·simp only [decide_eq_false_iff_not] at hb2
    rcases firstI_cases (fun i : It => i.pins == 0) its with ⟨h1, -⟩ | ⟨k, y, hk, -, hfk, -⟩
    ·omega
    ·have e : roomE limit D (obs its) = goE D (obs its) k := by
      unfold roomE
      rw [if_neg (by omega), if_neg (by omega), hfm, hfk]; rfl
     rw [hfk, e, goE_at (obs_at hk)]
     obtain ⟨a1, a2⟩ := h3.at hk
     have hkl := (List.getElem?_eq_some_iff.1 hk).1
     refine ⟨sl, h3.rt.at 3 rfl, a1, _, a2, (save_spec h3 hW hk).mono ?_⟩
     rintro e w7 ⟨rfl, r', y', h7, hob, t7⟩
     refine ⟨_, rfl, Br.mk (fun hz => ?_) (fun hz => ?_)⟩
     ·have hz : (saveE D y.ob).2.2 = 0 := by simpa using hz
      have hk' : (its.set k y')[k]? = some y' := List.getElem?_set_self hkl
      refine (out_spec h7 hk').mono ?_
      rintro e w9 ⟨rfl, sl', h9, m9, b9⟩
      rw [List.eraseIdx_set_eq] at h9
      refine ⟨_, rfl, ?_⟩
      rw [if_pos hz]
      refine ⟨by rw [hz], ⟨r', sl', _, h9, obs_erase _ _, (Turned.of_ext x03).trans (t7.trans (out_turn m9 b9 fun z hz => ?_))⟩, fun _ => ?_⟩
      ·rw [← List.eraseIdx_set_eq (l := its) (i := k) (a := y')] at hz
       exact (List.eraseIdx_sublist ..).subset hz
      ·simp only [List.length_eraseIdx]; split <;> omega
     ·have hz : (saveE D y.ob).2.2 ≠ 0 := by simpa using hz
      rw [if_neg hz]
      exact ⟨rfl, ⟨r', sl, _, h7, obs_put hob, (Turned.of_ext x03).trans t7⟩, fun q => absurd q hz⟩
theorem saveE_l (D : Dk) (e : En) : (saveE D e).1.l.length ≤ D.l.length + 1 := by
 unfold saveE
 split
 ·exact save_l _ _ _
 ·exact Nat.le_succ _
theorem goE_l (D : Dk) (l : List En) (i : Nat) : (goE D l i).1.1.l.length ≤ D.l.length + 1 := by
 unfold goE
 split
 ·exact Nat.le_succ _
 ·split <;> exact saveE_l _ _
theorem roomE_l (limit : Int) (D : Dk) (l : List En) : (roomE limit D l).1.1.l.length ≤ D.l.length + 1 := by
 unfold roomE
 split
 ·exact Nat.le_succ _
 ·split
  ·exact Nat.le_succ _
  ·exact goE_l _ _ _
theorem inT_okP {p : Po} (h : inT p) : okP p := by unfold inT at h; unfold okP; omega
def cellsB (seed : Int) (p : Po) (b : List Int) : List Int := if (readB bMay b 8192).2 = 0 then cellsR (readB bMay b 8192).1 else made seed p
def ldE (seed limit : Int) (D : Dk) (l : List En) (p : Po) : Tb × Int :=
 if ¬ inT p then ((D, l), 5)
 else if 0 ≤ firstI (fun e : En => e.1 == p) l then ((D, l.eraseIdx (firstI (fun e : En => e.1 == p) l).toNat ++ l[(firstI (fun e : En => e.1 == p) l).toNat]?.toList), 0)
 else if (roomE limit D l).2 ≠ 0 then roomE limit D l
 else (((roomE limit D l).1.1, (roomE limit D l).1.2 ++ [(p, cellsB seed p (ldS (roomE limit D l).1.1 (idK p)).1, false, 0)]), 0)
set_option maxRecDepth 100000 in
theorem push_new {w v : World} {t st d : Nat} {r : Dm} {sl : Sl} {D : Dk} {seed limit : Int} {its : List It} (h : TO v t st d r sl D seed limit its) (hw : w.heap.size < v.heap.size) (hwf : ¬ foot t st d r sl its w.heap.size) (htw : t < w.heap.size) (hr : (its.length : Int) + 1 ≤ limit) {g : Nat} {s : Sl} {p : Po} {C : List Int} (hk : KIs v g s p C) (hg : g ∉ its.map (·.g)) (u : World) (hn : u.heap.size ≤ v.heap.size) (hgn : u.heap.size ≤ g) (hsn : ∀ b, s.blk = some b → u.heap.size ≤ b)
  {K : World → Prop} (hK : ∀ w', (∃ s' y, TO w' t st d r s' D seed limit (its ++ [y]) ∧ y.ob = (p, C, false, 0) ∧ (∀ i, foot t st d r s' (its ++ [y]) i → foot t st d r sl its i ∨ u.heap.size ≤ i) ∧ Mod (foot t st d r sl its) v w') → K w') :
  ∃ (s21 : Sl), ld v (padd (some ⟨t, 0, none⟩) 3) = some (.slice s21.a s21.n s21.c) ∧
   ∀ w22 : World, w22 = v.alloc (.cells #[.pointer (some ⟨g, 0, none⟩), .bool false, .int .i64 0] tItem) →
   ∀ w23 : World, w23 = w22.alloc (.cells #[.pointer (some ⟨v.heap.size, 0, none⟩)] tPI) →
   AppPre 8 1 w23 ⟨s21.a, s21.n, s21.c⟩ 1 [.pointer (some ⟨v.heap.size, 0, none⟩)] ∧ ∀ (s24 : Sl) (w25 : World), AppRes tPI 1 w23 ⟨s21.a, s21.n, s21.c⟩ 1 [.pointer (some ⟨v.heap.size, 0, none⟩)] s24 w25 → w25.heap[w.heap.size]? = w23.heap[w.heap.size]? ∧ w25.heap[w22.heap.size]? = w23.heap[w22.heap.size]? ∧
    (true = true ∧ Wr w25 (padd (some ⟨t, 0, none⟩) 3) 1) ∧ pblk (padd (some ⟨t, 0, none⟩) 3) ≠ some w.heap.size ∧ pblk (padd (some ⟨t, 0, none⟩) 3) ≠ some w22.heap.size ∧ (∀ w26 : World, w26 = setP w25 (padd (some ⟨t, 0, none⟩) 3) [.slice s24.a s24.n s24.c] → K w26) := by
 refine ⟨sl, h.rt.at 3 rfl, fun w22 e22 w23 e23 => ?_⟩
 have x22 : Ext v w22 := (Ext.rfl' _).of_alloc e22
 have x23 : Ext w22 w23 := (Ext.rfl' _).of_alloc e23
 have z22 : w22.heap.size = v.heap.size + 1 := by rw [e22]; simp
 have z23 : w23.heap.size = v.heap.size + 2 := by rw [e23]; simp [z22]
 have hy : ItIs w23 ⟨v.heap.size, g, s, p, C, false, 0⟩ := ⟨(by rw [e22]; exact Row.new v [_, _, _] _ : Row w22 v.heap.size [.pointer (some ⟨g, 0, none⟩), .bool false, .int .i64 0] tItem).ext x23, (hk.ext x22).ext x23⟩
 have h23 := (h.ext x22).ext x23
 have hxn : v.heap.size ∉ its.map (·.x) := fun hm => by
  obtain ⟨z, hz, e⟩ := List.mem_map.1 hm
  have := (h.it z hz).r.lt; omega
 obtain ⟨hp, hres⟩ := h23.push _ hy hxn hg hr
 refine ⟨hp, fun s24 w25 hr25 => ?_⟩
 obtain ⟨m25, p1, p2⟩ := hres s24 w25 hr25
 have pb : ∀ j : Nat, t < j → pblk (padd (some ⟨t, 0, none⟩) 3) ≠ some j := fun j hj e => by
  rw [pblk_padd] at e
  have : t = j := by simpa [pblk] using e
  omega
 have htl := h.rt.lt
 refine ⟨m25.same _ (by omega) fun e => hwf (.inr (.inr (.inr (.inr (.inl e))))), m25.same _ (by omega) fun e => by have := (h.ol.own.lt e).2; omega, ⟨rfl, p1⟩, pb _ htw, pb _ (by omega), fun w26 e26 => hK w26 ⟨s24, ⟨v.heap.size, g, s, p, C, false, 0⟩, ?_, rfl, ?_, ?_⟩⟩
 ·exact (p2 w26 e26).1
 ·obtain ⟨-, q2, q3⟩ := p2 w26 e26
  rintro i hi
  exact foot_sub (w := u) (sl := sl) (its := its) (fun b hb => (q3 b hb).imp id fun e => by omega) (fun z hz => by
   rcases List.mem_append.1 hz with hz | hz
   ·exact .inl hz
   ·simp at hz; subst hz
    exact .inr ⟨hn, hgn, hsn⟩) i hi
 ·obtain ⟨-, q2, q3⟩ := p2 w26 e26
  exact (Mod.of_ext (x22.tr x23)).trans (q2.mono fun i _ hi => slF_foot i hi)
set_option maxRecDepth 100000 in
theorem Load_spec {w : World} {t st d : Nat} {r : Dm} {sl : Sl} {D : Dk} {seed limit : Int} {its : List It} (h : TO w t st d r sl D seed limit its) (hW : D.l.length ≤ 1000000) (p : Po) :
  Calls Tryz.prog n_table_Table_Load #[.pointer (some ⟨t, 0, none⟩), pv p] w fun e w' => e = .returned (.int .i64 (ldE seed limit D (obs its) p).2) ∧ LdRes w t st d r sl seed limit its (ldE seed limit D (obs its) p).1 w' := by
 apply table_Table_Load.vc
 intro w0 e0
 have z0 : w0.heap.size = w.heap.size + 1 := by rw [e0]; simp
 have x0 : Ext w w0 := (Ext.rfl' w).of_alloc e0
 clear e0
 refine (Id_spec p w0).mono ?_
 rintro e w1 ⟨rfl, x1⟩
 have z1 := x1.size
 have x01 := x0.tr x1
 refine ⟨_, _, rfl, x1.heap (by omega), ?_⟩
 by_cases hin : inT p
 ·rw [decide_eq_true hin]
  refine Br.mk (fun h => by cases h) (fun _ => ?_)
  have h1 := h.ext x01
  refine (find_spec h1 p).mono ?_
  rintro e w4 ⟨rfl, x4⟩
  have z4 := x4.size
  have x04 := x01.tr x4
  have h4 := h.ext x04
  have hfm : firstI (fun e : En => e.1 == p) (obs its) = firstI (fun i : It => i.p == p) its := firstI_map It.ob _ its
  have bx : ¬ foot t st d r sl its w.heap.size := fun hf => by have := h.lt hf; omega
  refine ⟨_, rfl, x4.heap (by omega), ?_⟩
  rcases firstI_cases (fun i : It => i.p == p) its with ⟨hf, -⟩ | ⟨k, y, hk, -, hf, -⟩
  ·rw [hf]
   refine Br.mk (fun h => by simp at h) (fun _ => ?_)
   have hE : ldE seed limit D (obs its) p = if (roomE limit D (obs its)).2 ≠ 0 then roomE limit D (obs its) else (((roomE limit D (obs its)).1.1, (roomE limit D (obs its)).1.2 ++ [(p, cellsB seed p (ldS (roomE limit D (obs its)).1.1 (idK p)).1, false, 0)]), 0) := by
    unfold ldE
    rw [if_neg (by simpa using hin), hfm, hf, if_neg (by decide)]
   rw [hE]
   refine (room_spec h4 hW).mono ?_
   rintro e w8 ⟨rfl, ⟨r8, sl8, its8, h8, ho8, t8⟩, hl8⟩
   have hWl : ((roomE limit D (obs its)).1.1).l.length ≤ 1000001 := by
    have := roomE_l limit D (obs its)
    omega
   generalize roomE limit D (obs its) = R at *
   have z8 := t8.mod.size
   have t08 : Turned (foot t st d r sl its) (foot t st d r8 sl8 its8) w w8 := (Turned.of_ext x04).trans t8
   refine ⟨_, rfl, t8.mod.same _ (by omega) bx, Br.mk (fun hb => ?_) (fun hb => ?_)⟩
   ·have hne : R.2 ≠ 0 := by simpa using hb
    rw [if_pos hne]
    exact ⟨rfl, r8, sl8, its8, h8, ho8, t08⟩
   ·have he : R.2 = 0 := by simpa using hb
    rw [if_neg (by rw [he]; decide)]
    have hroom := hl8 he
    rw [← ho8, List.length_map] at hroom
    refine ⟨_, h8.rt.at 0 rfl, (stLoad_spec h8.so (by omega) _).mono ?_⟩
    rintro e w11 ⟨s12, rfl, hs12, hby, hbl, hsc, -, x11⟩
    have z11 := x11.size
    have bx8 : ¬ foot t st d r8 sl8 its8 w.heap.size := fun hf => by
     rcases t8.sub _ hf with q | q
     ·exact bx q
     ·have := x04.size; omega
    refine ⟨s12, _, _, rfl, x11.heap (by omega), ?_⟩
    refine (Read_spec p s12 (ldS R.1.1 (idK p)).1 w11 hs12 hby hsc (by omega)).mono ?_
    rintro e w15 ⟨hres, x15⟩
    have z15 := x15.size
    have htw := h.rt.lt
    have fin : ∀ {w' v : World} {C : List Int}, Ext w8 v → (∃ s' y, TO w' t st d r8 s' R.1.1 seed limit (its8 ++ [y]) ∧ y.ob = (p, C, false, 0) ∧ (∀ i, foot t st d r8 s' (its8 ++ [y]) i → foot t st d r8 sl8 its8 i ∨ w8.heap.size ≤ i) ∧ Mod (foot t st d r8 sl8 its8) v w') → C = cellsB seed p (ldS R.1.1 (idK p)).1 →
      Ending.returned (.int .i64 0) = .returned (.int .i64 0) ∧ LdRes w t st d r sl seed limit its (R.1.1, R.1.2 ++ [(p, cellsB seed p (ldS R.1.1 (idK p)).1, false, 0)]) w' := by
     rintro w' v C xv ⟨s', y, hT, hob, hsub, hm⟩ rfl
     refine ⟨rfl, r8, s', _, hT, ?_, t08.trans ⟨(Mod.of_ext xv).trans hm, hsub⟩⟩
     unfold obs
     rw [List.map_append]
     change obs its8 ++ [y.ob] = _
     rw [ho8, hob]
    rcases hres with ⟨hz, g, sg, rfl, hk, hg, -, hgb⟩ | ⟨hz, rfl⟩
    ·refine ⟨_, _, rfl, x15.heap (by omega), Br.mk (fun q => by simp at q) (fun _ => ?_)⟩
     have x815 := x11.tr x15
     have h15 := h8.ext x815
     have hgn : g ∉ its8.map (·.g) := fun hm => by
      obtain ⟨z, hz, e⟩ := List.mem_map.1 hm
      have := (h8.it z hz).k.row.lt; omega
     refine push_new (w := w) h15 (by omega) bx8 htw hroom hk hgn w8 (by omega) (by omega) (fun b hb => by have := hgb b hb; omega) fun w' hw' => fin x815 hw' ?_
     unfold cellsB; rw [if_pos hz]
    ·refine ⟨_, _, rfl, x15.heap (by omega), Br.mk (fun _ => ?_) (fun q => by simp at q; exact absurd q hz)⟩
     have x815 := x11.tr x15.drew
     have h15 := h8.ext x815
     refine ⟨seed, h15.rt.at 1 rfl, (Make_spec' seed p (inT_okP hin) w15.drew).mono ?_⟩
     rintro e w19 ⟨g, sg, rfl, hk, x19, hg, hsb⟩
     have z19 := x19.size
     have zd : w15.drew.heap.size = w15.heap.size := rfl
     have h19 := h15.ext x19
     have hgn : g ∉ its8.map (·.g) := fun hm => by
      obtain ⟨z, hz, e⟩ := List.mem_map.1 hm
      have := (h15.it z hz).k.row.lt; omega
     refine ⟨_, rfl, x19.heap (by omega), push_new (w := w) h19 (by omega) bx8 htw hroom hk hgn w8 (by omega) (by omega) (fun b hb => by have := hsb b hb; omega) fun w' hw' => fin (x815.tr x19) hw' ?_⟩
     unfold cellsB; rw [if_neg hz]
  ·rw [hf]
   refine Br.mk (fun _ => ?_) (fun h => by simp at h)
   have hE : ldE seed limit D (obs its) p = ((D, (obs its).eraseIdx k ++ [y.ob]), 0) := by
    unfold ldE
    rw [if_neg (by simpa using hin), hfm, hf, if_pos (by omega), Int.toNat_natCast, List.getElem?_map, hk]; rfl
   rw [hE]
   refine (touch_spec h4 hk).mono ?_
   rintro e w6 ⟨rfl, sl6, h6, t6⟩
   have z6 := t6.mod.size
   refine ⟨_, rfl, t6.mod.same _ (by omega) bx, rfl, r, sl6, _, h6, ?_, (Turned.of_ext x04).trans t6⟩
   unfold obs
   rw [List.map_append]
   change obs _ ++ _ = _
   rw [obs_erase]; rfl
 ·rw [decide_eq_false hin]
  refine Br.mk (fun _ => ?_) (fun h => by cases h)
  have hE : ldE seed limit D (obs its) p = ((D, obs its), 5) := by unfold ldE; rw [if_pos hin]
  rw [hE]
  exact ⟨rfl, r, sl, its, h.ext x01, rfl, Turned.of_ext x01⟩
end Go.Proofs.YtkkkfkopcfdmaaaGreatDoor
namespace Go.Proofs.YtkkkfkopcfdmaaaGreatDoor
open Go Go.Vc Go.RowKit Go.Proofs Go.Chk Go.Runs Go.Code
theorem yes {b : Bool} {A B : Prop} (hb : b = true) (h : A) : Br b A B := by subst hb; exact h
theorem nope {b : Bool} {A B : Prop} (hb : b = false) (h : B) : Br b A B := by subst hb; exact h
theorem Here_spec {w : World} {t st d : Nat} {r : Dm} {sl : Sl} {D : Dk} {seed limit : Int} {its : List It} (h : TO w t st d r sl D seed limit its) :
  Calls Tryz.prog n_table_Table_Here #[.pointer (some ⟨t, 0, none⟩)] w fun e w' => ∃ s' : Sl, e = .returned (.slice s'.a s'.n s'.c) ∧ OwnK w.heap.size tPo 2 w' s' ((obs its).map fun e => [.int .i64 e.1.1, .int .i64 e.1.2]) ∧ Ext w w' := by
 apply table_Table_Here.vc
 have hn := h.n
 have hlen := h.len
 have hlim := h.lim
 refine ⟨sl, h.rt.at 3 rfl, fun n i so wr => ∃ k : Nat, i = k ∧ k + n = its.length ∧ Ext w wr ∧ OwnK w.heap.size tPo 2 wr so (((obs its).take k).map fun e => [.int .i64 e.1.1, .int .i64 e.1.2]), ⟨its.length, 0, rfl, by omega, Ext.rfl' _, OwnK.nil⟩, ?_⟩
 rintro n us i so wr ⟨k, rfl, hk, xr, ho⟩
 have hwk : IntKind.wrap .i64 ((k : Int) + 1) = ((k + 1 : Nat) : Int) := by rw [wrap_in (by unfold inI; omega)]; omega
 have hol : (obs its).length = its.length := by rw [List.length_map]
 refine Br.mk (fun hc => ?_) (fun hc => ?_)
 ·simp only [decide_eq_true_eq] at hc
  obtain ⟨y, hy⟩ := get_lt (l := its) (i := k) (by omega)
  have hr := h.ext xr
  obtain ⟨a1, a2⟩ := hr.at hy
  have hyr := hr.it y (List.mem_of_getElem? hy)
  refine ⟨a1, _, a2, nnS (nnS ⟨_, hyr.r.at 0 rfl, nnS (nnS ⟨_, _, hyr.k.pos, (Place_spec y.p wr).mono ?_⟩)⟩)⟩
  rintro e w12 ⟨rfl, x12⟩
  refine ⟨_, _, rfl, fun w15 e15 => ?_⟩
  have x15 : Ext w12 w15 := (Ext.rfl' _).of_alloc e15
  have z12 := x12.size
  have zr := xr.size
  have z15 : w15.heap.size = w12.heap.size + 1 := by rw [e15]; simp
  have ho15 := (ho.ext x12).ext x15
  have hso := (ho.rd (show 0 < 2 by decide)).n
  rw [List.length_map, List.length_take] at hso
  obtain ⟨hp, hres⟩ := ho15.append (bytes := 16) (news := [.int .i64 y.p.1, .int .i64 y.p.2]) (by omega) rfl (one_ii _ _ _ _) (by omega) (by omega)
  refine ⟨hp, fun s16 w17 hr17 => ?_⟩
  obtain ⟨ho17, hn17, xb, hkp, -⟩ := hres s16 w17 hr17
  refine ⟨hkp _ (fun e => by have := (ho.own.lt e).2; omega) (by omega), n - 1, by omega, k + 1, hwk, by omega, (xr.tr (x12.tr x15)).trans xb, ?_⟩
  have : (obs its).take (k + 1) = (obs its).take k ++ [y.ob] := by rw [List.take_add_one, List.getElem?_map, hy]; rfl
  rw [this, List.map_append]
  exact ho17
 ·simp only [decide_eq_false_iff_not] at hc
  rw [List.take_of_length_le (by omega)] at ho
  exact ⟨so, rfl, ho, xr⟩
theorem loadL1 {w : World} {p : Option Addr} {v : Value} (h : ld w p = some v) : LoadL w p 0 [v] := by
 show ld w (padd p 0) = _
 rw [padd_zero]; exact h
def atE (l : List En) (c : Ce) : Int :=
 if firstI (fun e : En => e.1 == pos c) l < 0 then -1 else if c.2.1 < 0 then 1 else ((l[(firstI (fun e : En => e.1 == pos c) l).toNat]?).map fun e => kAt e.1 e.2.1 c).getD 0
theorem tAt_spec {w : World} {t st d : Nat} {r : Dm} {sl : Sl} {D : Dk} {seed limit : Int} {its : List It} (h : TO w t st d r sl D seed limit its) (c : Ce) (hc : okC c) :
  Calls Tryz.prog n_table_Table_At #[.pointer (some ⟨t, 0, none⟩), cev c] w fun e w' => e = .returned (.int .i64 (atE (obs its) c)) ∧ Ext w w' := by
 apply table_Table_At.vc
 intro w0 e0
 have z0 : w0.heap.size = w.heap.size + 1 := by rw [e0]; simp
 have x0 : Ext w w0 := (Ext.rfl' w).of_alloc e0
 clear e0
 refine (cChunk_spec c hc w0).mono ?_
 rintro e w1 ⟨rfl, x1⟩
 have x01 := x0.tr x1
 have z1 := x1.size
 refine ⟨_, _, rfl, x1.heap (by omega), (find_spec (h.ext x01) (pos c)).mono ?_⟩
 rintro e w4 ⟨rfl, x4⟩
 have z4 := x4.size
 have x04 := x01.tr x4
 have hfm : firstI (fun e : En => e.1 == pos c) (obs its) = firstI (fun i : It => i.p == pos c) its := firstI_map It.ob _ its
 refine ⟨_, rfl, x4.heap (by omega), ?_⟩
 rcases firstI_cases (fun i : It => i.p == pos c) its with ⟨hf, -⟩ | ⟨k, y, hk, hyp, hf, -⟩
 ·rw [hf]
  refine Br.mk (fun _ => ⟨?_, x04⟩) (fun h => by simp at h)
  unfold atE
  rw [hfm, hf, if_pos (by decide)]
 ·rw [hf]
  refine Br.mk (fun h => by simp at h; omega) (fun _ => Br.mk (fun hb => ?_) (fun hb => ?_))
  ·simp only [decide_eq_true_eq] at hb
   refine ⟨?_, x04⟩
   unfold atE
   rw [hfm, hf, if_neg (by omega), if_pos hb]
  ·simp only [decide_eq_false_iff_not] at hb
   have hd := (h.ext x04).ext (Ext.dr w4)
   obtain ⟨a1, a2⟩ := hd.at hk
   have hyr := hd.it y (List.mem_of_getElem? hk)
   refine ⟨sl, hd.rt.at 3 rfl, a1, _, a2, nnS (nnS ⟨_, hyr.r.at 0 rfl, (At_spec hyr.k c hc).mono ?_⟩)⟩
   rintro e w9 ⟨rfl, x9⟩
   have h9 := hd.ext x9
   obtain ⟨-, b2⟩ := h9.at hk
   refine ⟨_, _, rfl, x9.heap (show w.heap.size < w4.heap.size by omega), loadL1 b2, loadL1 (h9.rt.at 3 rfl), ?_, x04.tr ((Ext.dr _).tr x9)⟩
   unfold atE
   rw [hfm, hf, if_neg (by omega), if_neg hb, Int.toNat_natCast, List.getElem?_map, hk]; rfl
end Go.Proofs.YtkkkfkopcfdmaaaGreatDoor
namespace Go.Proofs.YtkkkfkopcfdmaaaGreatDoor
open Go Go.Vc Go.RowKit Go.Proofs Go.Chk Go.Runs Go.Code
def nodL (l : List En) : Prop := (l.map (·.1)).Nodup
theorem first_here {l : List En} (hn : nodL l) {e : En} (he : e ∈ l) : ∃ k : Nat, l[k]? = some e ∧ firstI (fun x : En => x.1 == e.1) l = k := by
 obtain ⟨k, hk⟩ := List.getElem?_of_mem he
 refine ⟨k, hk, firstI_at hk (by simp) fun j hj y hy => ?_⟩
 cases hb : (y.1 == e.1) with
 | false => rfl
 | true =>
   have h1 : (l.map (·.1))[k]? = some e.1 := by rw [List.getElem?_map, hk]; rfl
   have h2 : (l.map (·.1))[j]? = some e.1 := by rw [List.getElem?_map, hy]; simpa using hb
   have hkl := (List.getElem?_eq_some_iff.1 h1).1
   have := (List.getElem?_inj (show j < _ by omega) hn).1 (h2.trans h1.symm)
   omega
theorem at_here {l : List En} (hn : nodL l) {e : En} (he : e ∈ l) {c : Ce} (hp : e.1 = pos c) : atE l c = if c.2.1 < 0 then 1 else kAt e.1 e.2.1 c := by
 obtain ⟨k, hk, hf⟩ := first_here hn he
 unfold atE
 rw [← hp, hf, if_neg (by omega), Int.toNat_natCast, hk]; rfl
def TF (F : Nat → Prop) (w : World) (t : Nat) (seed limit : Int) (T : Tb) : Prop :=
 ∃ st d r sl its, TO w t st d r sl T.1 seed limit its ∧ obs its = T.2 ∧ F = foot t st d r sl its
theorem TF.lt {F : Nat → Prop} {w : World} {t : Nat} {seed limit : Int} {T : Tb} (h : TF F w t seed limit T) {i : Nat} (hi : F i) : i < w.heap.size := by
 obtain ⟨st, d, r, sl, its, h1, h2, rfl⟩ := h
 exact h1.lt hi
theorem TF.same {F : Nat → Prop} {w w' : World} {t : Nat} {seed limit : Int} {T : Tb} (h : TF F w t seed limit T) (hs : ∀ i, F i → w'.heap[i]? = w.heap[i]?) : TF F w' t seed limit T := by
 obtain ⟨st, d, r, sl, its, h1, h2, rfl⟩ := h
 exact ⟨st, d, r, sl, its, h1.same hs, h2, rfl⟩
theorem TF.ext {F : Nat → Prop} {w w' : World} {t : Nat} {seed limit : Int} {T : Tb} (h : TF F w t seed limit T) (x : Ext w w') : TF F w' t seed limit T := h.same fun _ hi => x.heap (h.lt hi)
abbrev offT (τ : TypeId) : Prop := τ ≠ tTable ∧ τ ≠ tStore ∧ τ ≠ tDisk ∧ τ ≠ tPI ∧ τ ≠ tItem ∧ τ ≠ tChunk ∧ τ ≠ tRun ∧ τ ≠ tW ∧ τ ≠ tByte
theorem TF.no_row {F : Nat → Prop} {w : World} {t : Nat} {seed limit : Int} {T : Tb} (h : TF F w t seed limit T) {j : Nat} {cs : List Value} {τ : TypeId} (hr : Row w j cs τ) (hτ : offT τ) : ¬ F j := by
 obtain ⟨st, d, r, sl, its, h1, h2, rfl⟩ := h
 exact h1.no_row hr hτ
theorem TF.len {F : Nat → Prop} {w : World} {t : Nat} {seed limit : Int} {T : Tb} (h : TF F w t seed limit T) : (T.2.length : Int) ≤ limit ∧ 1 ≤ limit ∧ limit ≤ 16 := by
 obtain ⟨st, d, r, sl, its, h1, e, rfl⟩ := h
 have := h1.len; have := h1.lim
 rw [← e]
 unfold obs
 rw [List.length_map]
 omega
abbrev TRes (F : Nat → Prop) (w : World) (t : Nat) (seed limit : Int) (T : Tb) (w' : World) : Prop := ∃ F', TF F' w' t seed limit T ∧ Turned F F' w w'
theorem tf_of {w w' : World} {t st d : Nat} {r : Dm} {sl : Sl} {seed limit : Int} {its : List It} {T : Tb} (hl : LdRes w t st d r sl seed limit its T w') : TRes (foot t st d r sl its) w t seed limit T w' := by
 obtain ⟨r', sl', its', h', ho, ht⟩ := hl
 exact ⟨_, ⟨st, d, r', sl', its', h', ho, rfl⟩, ht⟩
theorem tfNew_spec (seed limit room : Int) (w : World) : Calls Tryz.prog n_table_New #[.int .i64 seed, .int .i64 limit, .int .i64 room] w fun e w' => ∃ t F, e = .returned (.pointer (some ⟨t, 0, none⟩)) ∧ TF F w' t seed (min (max limit 1) 16) (dk0 room, []) ∧ Ext w w' ∧ ∀ i, F i → w.heap.size ≤ i := by
 refine (tNew_spec seed limit room w).mono ?_
 rintro e w' ⟨t, st, d, r, rfl, h, x, hf⟩
 exact ⟨t, _, rfl, ⟨st, d, r, _, [], h, rfl, rfl⟩, x, hf⟩
section
variable {F : Nat → Prop} {w : World} {t : Nat} {seed limit : Int} {T : Tb}
theorem tfLoad_spec (h : TF F w t seed limit T) (hW : T.1.l.length ≤ 1000000) (p : Po) :
  Calls Tryz.prog n_table_Table_Load #[.pointer (some ⟨t, 0, none⟩), pv p] w fun e w' => e = .returned (.int .i64 (ldE seed limit T.1 T.2 p).2) ∧ TRes F w t seed limit (ldE seed limit T.1 T.2 p).1 w' := by
 obtain ⟨st, d, r, sl, its, h1, e, rfl⟩ := h
 rw [← e]
 refine (Load_spec h1 hW p).mono ?_
 rintro e w' ⟨rfl, hl⟩
 exact ⟨rfl, tf_of hl⟩
theorem tfAt_spec (h : TF F w t seed limit T) (c : Ce) (hc : okC c) :
  Calls Tryz.prog n_table_Table_At #[.pointer (some ⟨t, 0, none⟩), cev c] w fun e w' => e = .returned (.int .i64 (atE T.2 c)) ∧ Ext w w' := by
 obtain ⟨st, d, r, sl, its, h1, e, rfl⟩ := h
 rw [← e]
 exact tAt_spec h1 c hc
end
end Go.Proofs.YtkkkfkopcfdmaaaGreatDoor
