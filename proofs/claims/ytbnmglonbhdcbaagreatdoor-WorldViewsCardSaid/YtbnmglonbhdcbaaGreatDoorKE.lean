import Derived.Test.YtbnmglonbhdcbaaGreatDoorKC
set_option linter.all false
namespace Go.Proofs.YtbnmglonbhdcbaaGreatDoor
open Go Go.Vc Go.RowKit Go.Proofs Go.Chk Go.Runs Go.Code

/-! ## Cells as the document's laws take them -/
def cellK (c : Ce) : Ce := (around c.1 80 - 32, around c.2.1 34 - 1, around c.2.2 80 - 32)
theorem cellK_ok (c : Ce) : okC (cellK c) := by
  have h1 := around_bd c.1 80 (by decide)
  have h2 := around_bd c.2.1 34 (by decide)
  have h3 := around_bd c.2.2 80 (by decide)
  unfold cellK okC inI
  exact ⟨by simp only; omega, by simp only; omega, by simp only; omega⟩
theorem rCell_spec (c : Ce) (hc : okC c) (w : World) : Calls Tryz.prog n_ref12_Cell #[cev c] w fun e w' => e = .returned (cev (cellK c)) ∧ Ext w w' := by
  apply ref12_Cell.vc
  have h1 := around_bd c.1 80 (by decide)
  have h2 := around_bd c.2.1 34 (by decide)
  have h3 := around_bd c.2.2 80 (by decide)
  intro w0 e0 w1 e1
  have z0 : w0.heap.size = w.heap.size + 1 := by rw [e0]; simp
  have x1 : Ext w w1.drew := (((Ext.rfl' w).of_alloc e0).of_alloc e1).drew
  have hb : Row w1.drew w.heap.size (cR c) tCe := ((by rw [e0]; exact Row.new w [_, _, _] _ : Row w0 w.heap.size (cR c) tCe).ext ((Ext.rfl' _).of_alloc e1)).ext (Ext.dr _)
  have r1 : LoadL w1.drew (some ⟨w.heap.size, 1, none⟩) 0 [.int .i64 c.2.1] := hb.loadL fun j hj => by simp at hj; subst hj; rfl
  have r2 : LoadL w1.drew (some ⟨w.heap.size, 2, none⟩) 0 [.int .i64 c.2.2] := hb.loadL fun j hj => by simp at hj; subst hj; rfl
  refine (around_spec c.1 80 w1.drew hc.1 (by decide) (by unfold inI; omega)).mono ?_
  rintro e w2 ⟨rfl, hw⟩; subst hw
  refine ⟨_, rfl, rfl, rfl, r2, r1, (around_spec c.2.1 34 w1.drew hc.2.1 (by decide) (by unfold inI; omega)).mono ?_⟩
  rintro e w2 ⟨rfl, hw⟩; subst hw
  refine ⟨_, rfl, rfl, rfl, r2, (around_spec c.2.2 80 w1.drew hc.2.2 (by decide) (by unfold inI; omega)).mono ?_⟩
  rintro e w2 ⟨rfl, hw⟩; subst hw
  refine ⟨_, rfl, rfl, rfl, fun w6 e6 => ⟨?_, x1.of_setRow e6 (by omega)⟩⟩
  have q1 : IntKind.wrap .i64 (around c.1 80 - 32) = around c.1 80 - 32 := wrap_in (by unfold inI; omega)
  have q2 : IntKind.wrap .i64 (around c.2.1 34 - 1) = around c.2.1 34 - 1 := wrap_in (by unfold inI; omega)
  have q3 : IntKind.wrap .i64 (around c.2.2 80 - 32) = around c.2.2 80 - 32 := wrap_in (by unfold inI; omega)
  rw [q1, q2, q3]; rfl
/-! ## Reading rows of structs -/
theorem rdPart {w : World} {s : Sl} {k : Nat} {rows : List (List Value)} (h : RdK w s k rows) {i : Nat} {r : List Value} (hi : rows[i]? = some r) {j : Nat} {vs : List Value} (hv : ∀ m v, vs[m]? = some v → r[j + m]? = some v) : LoadL w (padd (padd s.a (i * k)) j) 0 vs :=
  LoadL_of fun m v hm => by rw [Nat.zero_add, padd_padd]; exact h.at hi (hv m v hm)
theorem nnP {p : Option Addr} {n : Nat} {K : Prop} (h : p.isSome = true) (k : K) : AndL (nnC (padd p n)) K := by
  obtain ⟨a, rfl⟩ := Option.isSome_iff_exists.1 h
  exact k
/-! ## Loading keeps places apart -/
theorem nod_rot {α : Type} {A B : List α} {x : α} (h : (A ++ x :: B).Nodup) : (A ++ B ++ [x]).Nodup := by
  obtain ⟨n1, n2, n3⟩ := List.nodup_append.1 h
  obtain ⟨n4, n5⟩ := List.nodup_cons.1 n2
  refine List.nodup_append.2 ⟨List.nodup_append.2 ⟨n1, n5, fun a ha b hb => n3 a ha b (.tail _ hb)⟩, by simp, fun a ha b hb => ?_⟩
  simp only [List.mem_singleton] at hb
  subst hb
  rcases List.mem_append.1 ha with ha | ha
  · exact n3 a ha _ (.head _)
  · exact fun h => n4 (h ▸ ha)
theorem room_sub (limit : Int) (l : List En) : List.Sublist (roomE limit l).1 l := by
  unfold roomE
  split
  · exact List.Sublist.refl _
  · split
    · exact List.Sublist.refl _
    · exact List.eraseIdx_sublist ..
theorem nod_ld {seed limit : Int} {l : List En} {p : Po} (hn : nodL l) : nodL (ldE seed limit l p).1 := by
  unfold ldE
  split
  · exact hn
  · rcases firstI_cases (fun e : En => e.1 == p) l with ⟨hf, hno⟩ | ⟨k, e, hk, hek, hf, -⟩
    · rw [hf, if_neg (by decide)]
      have hr : nodL (roomE limit l).1 := List.Pairwise.sublist ((room_sub limit l).map _) hn
      split
      · exact hr
      · unfold nodL
        rw [List.map_append]
        refine List.nodup_append.2 ⟨hr, by simp, fun a ha b hb => ?_⟩
        simp only [List.map_cons, List.map_nil, List.mem_singleton] at hb
        subst hb
        obtain ⟨e, he, rfl⟩ := List.mem_map.1 ha
        have := hno e ((room_sub limit l).subset he)
        simpa using this
    · rw [hf, if_pos (by omega), Int.toNat_natCast, hk]
      obtain ⟨A, B, hl2, hkA⟩ : ∃ A B, l = A ++ e :: B ∧ k = A.length := by
        obtain ⟨hkl, he⟩ := List.getElem?_eq_some_iff.1 hk
        exact ⟨l.take k, l.drop (k + 1), by rw [← he, ← List.drop_eq_getElem_cons hkl, List.take_append_drop], by rw [List.length_take]; omega⟩
      subst hl2
      subst hkA
      rw [List.eraseIdx_append_of_length_le (Nat.le_refl _), Nat.sub_self]
      unfold nodL at hn ⊢
      rw [List.map_append, List.map_cons] at hn
      show ((A ++ B ++ [e]).map (·.1)).Nodup
      rw [List.map_append, List.map_append]
      exact nod_rot hn
theorem clean_ld {seed limit : Int} {l : List En} {p : Po} (h : ∀ e ∈ l, e.2.2.1 = false) : ∀ e ∈ (ldE seed limit l p).1, e.2.2.1 = false := by
  unfold ldE
  split
  · exact h
  · split
    · intro e he
      rcases List.mem_append.1 he with he | he
      · exact h e ((List.eraseIdx_sublist ..).subset he)
      · simp only [Option.mem_toList] at he
        exact h e (List.mem_of_getElem? he)
    · split
      · exact fun e he => h e ((room_sub limit l).subset he)
      · intro e he
        rcases List.mem_append.1 he with he | he
        · exact h e ((room_sub limit l).subset he)
        · simp only [List.mem_singleton] at he
          subst he; rfl
/-! ## Changes, made again -/
def upd (v : Ce → Int) (x : Cg) : Ce → Int := fun c => if c = x.1 then x.2 else v c
def rep (v : Ce → Int) (ch : List Cg) : Ce → Int := ch.foldl upd v
theorem rep_snoc (v : Ce → Int) (ch : List Cg) (x : Cg) : rep v (ch ++ [x]) = upd (rep v ch) x := by
  unfold rep; rw [List.foldl_append]; rfl
structure Inv (l0 l : List En) (ch : List Cg) : Prop where
  n : nodL l
  hs : ∀ p, here1 l p ↔ here1 l0 p
  v : ∀ c, atE l c = rep (atE l0) ch c
  ok : ∀ x ∈ ch, here1 l0 (pos x.1) ∧ inY x.1 ∧ bMay x.2 = true ∧ okC x.1
theorem Inv.set {l0 l : List En} {ch : List Cg} (h : Inv l0 l ch) (hg : goodL l) {c : Ce} (hc : okC c) (b : Int) : Inv l0 (setE l c b).1 (wsC l ch c b) := by
  by_cases hk : here1 l (pos c) ∧ inY c ∧ bMay b = true
  · obtain ⟨h1, h2, h3⟩ := hk
    obtain ⟨e1, e2, e3, e4⟩ := set_here h.n hg h1 h2 h3
    by_cases hb : atE l c = b
    · have ew : wsC l ch c b = ch := by unfold wsC; rw [if_neg fun h => h.2 hb]
      rw [ew]
      refine ⟨e2, fun p => (e3 p).trans (h.hs p), fun c' => ?_, h.ok⟩
      rw [e4]
      by_cases hcc : c' = c
      · rw [if_pos hcc, ← h.v, hcc, hb]
      · rw [if_neg hcc, h.v]
    · have ew : wsC l ch c b = ch ++ [(c, b)] := by unfold wsC; rw [if_pos ⟨e1, hb⟩]
      rw [ew]
      refine ⟨e2, fun p => (e3 p).trans (h.hs p), fun c' => ?_, fun x hx => ?_⟩
      · rw [e4, rep_snoc]
        show _ = if c' = c then b else rep (atE l0) ch c'
        rw [h.v]
      · rcases List.mem_append.1 hx with hx | hx
        · exact h.ok x hx
        · simp only [List.mem_singleton] at hx
          subst hx
          exact ⟨(h.hs _).1 h1, h2, h3, hc⟩
  · obtain ⟨e1, e2⟩ := set_not hk
    have ew : wsC l ch c b = ch := by unfold wsC; rw [if_neg fun h => e2 h.1]
    rw [e1, ew]
    exact h
theorem Inv.swap {l0 l : List En} {ch : List Cg} (h : Inv l0 l ch) (hg : goodL l) {a b : Ce} (ha : okC a) (hb : okC b) : Inv l0 (swL l a b) (swC l ch a b) := by
  unfold swL swC
  split
  · exact h
  · exact (h.set hg ha _).set (good_set hg _ _) hb _
theorem swC_len (l : List En) (ch : List Cg) (a b : Ce) : (swC l ch a b).length ≤ ch.length + 2 := by
  unfold swC
  split
  · omega
  · have := wsC_len (setE l a (atE l b)).1 (wsC l ch a (atE l b)) b (atE l a)
    have := wsC_len l ch a (atE l b)
    omega
/-- One change, made again. -/
theorem again {l0 lb : List En} {ch : List Cg} {i : Nat} {x : Cg} (hx : ch[i]? = some x) (hn : nodL lb) (hg : goodL lb) (hs : ∀ p, here1 lb p ↔ here1 l0 p) (hv : ∀ c, atE lb c = rep (atE l0) (ch.take i) c) (hok : here1 l0 (pos x.1) ∧ inY x.1 ∧ bMay x.2 = true ∧ okC x.1) :
    (setE lb x.1 x.2).2 = 0 ∧ nodL (setE lb x.1 x.2).1 ∧ (∀ p, here1 (setE lb x.1 x.2).1 p ↔ here1 l0 p) ∧ ∀ c, atE (setE lb x.1 x.2).1 c = rep (atE l0) (ch.take (i + 1)) c := by
  obtain ⟨e1, e2, e3, e4⟩ := set_here hn hg ((hs _).2 hok.1) hok.2.1 hok.2.2.1
  refine ⟨e1, e2, fun p => (e3 p).trans (hs p), fun c => ?_⟩
  rw [List.take_add_one, hx]
  show _ = rep (atE l0) (ch.take i ++ [x]) c
  rw [rep_snoc, e4]
  show _ = if c = x.1 then x.2 else rep (atE l0) (ch.take i) c
  rw [hv]
/-! ## Two worlds -/
theorem wTake_spec {F : Nat → Prop} {w : World} {o t : Nat} {seed limit : Int} {l : List En} {ch : List Cg} (h : WF F w o t seed limit l ch) : Calls Tryz.prog n_world_World_Take #[.pointer (some ⟨o, 0, none⟩)] w fun e w' => ∃ sc F', e = .returned (.slice sc.a sc.n sc.c) ∧ OwnK 0 tChg 4 w' sc (ch.map cgv) ∧ WF F' w' o t seed limit l [] ∧ (∀ i, F' i → F i) ∧ (∀ b, sc.blk = some b → F b ∧ ¬ F' b) ∧ Mod (fun j => j = o) w w' := by
  obtain ⟨F1, sc, h1, h2, h3, rfl⟩ := h
  apply world_World_Take.vc
  obtain ⟨p1, p2⟩ := h2.put1 (j := 1) (v := .slice none 0 0) (by simp) rfl
  refine ⟨sc, h2.at 1 rfl, ⟨rfl, p1⟩, fun w1 e1 => ?_⟩
  obtain ⟨q1, q2⟩ := p2 w1 e1
  have hso : ∀ b, sc.blk = some b → b ≠ o := fun b hb => by
    obtain ⟨cs', hr'⟩ := own_row h3 (by decide) hb
    exact hr'.ne h2 (by decide)
  refine ⟨sc, _, rfl, q2.ownK h3 hso, ⟨F1, ⟨none, 0, 0⟩, h1.keep q2 fun i hi e => h1.no_row h2 (by decide) (e ▸ hi), q1, OwnK.nil, rfl⟩, fun i hi => ?_, fun b hb => ⟨.inr (.inr hb), ?_⟩, q2⟩
  · rcases hi with hi | hi | hi
    · exact .inl hi
    · exact .inr (.inl hi)
    · cases hi
  · rintro (hi | hi | hi)
    · obtain ⟨cs', hr'⟩ := own_row h3 (by decide) hb
      exact h1.no_row hr' (by decide) hi
    · exact hso b hb hi
    · cases hi
/-- Two worlds of the same seed, made since w; a slice of changes that stays. -/
structure Pw (w w' : World) (oa ta ob tb : Nat) (seed limit : Int) (la : List En) (ca : List Cg) (lb : List En) (cb : List Cg) (sc : Sl) (cs : List Cg) : Prop where
  all : ∃ Fa Fb, WF Fa w' oa ta seed limit la ca ∧ WF Fb w' ob tb seed limit lb cb ∧ (∀ i, Fa i → ¬ Fb i) ∧ (∀ i, Fa i → w.heap.size ≤ i) ∧ (∀ i, Fb i → w.heap.size ≤ i) ∧ (∀ b, sc.blk = some b → ¬ Fa b ∧ ¬ Fb b)
  x : Ext w w'
  own : OwnK 0 tChg 4 w' sc (cs.map cgv)
theorem Pw.ext {w w1 w2 : World} {oa ta ob tb : Nat} {seed limit : Int} {la lb : List En} {ca cb cs : List Cg} {sc : Sl} (h : Pw w w1 oa ta ob tb seed limit la ca lb cb sc cs) (x : Ext w1 w2) : Pw w w2 oa ta ob tb seed limit la ca lb cb sc cs := by
  obtain ⟨⟨Fa, Fb, h1, h2, h3⟩, h4, h5⟩ := h
  exact ⟨⟨Fa, Fb, h1.ext x, h2.ext x, h3⟩, h4.tr x, h5.ext x⟩
theorem Pw.goodA {w w1 : World} {oa ta ob tb : Nat} {seed limit : Int} {la lb : List En} {ca cb cs : List Cg} {sc : Sl} (h : Pw w w1 oa ta ob tb seed limit la ca lb cb sc cs) : goodL la := by
  obtain ⟨⟨Fa, Fb, h1, h2, h3⟩, h4, h5⟩ := h
  exact h1.good
theorem Pw.goodB {w w1 : World} {oa ta ob tb : Nat} {seed limit : Int} {la lb : List En} {ca cb cs : List Cg} {sc : Sl} (h : Pw w w1 oa ta ob tb seed limit la ca lb cb sc cs) : goodL lb := by
  obtain ⟨⟨Fa, Fb, h1, h2, h3⟩, h4, h5⟩ := h
  exact h2.good
theorem pw_a {w w1 w2 : World} {oa ta ob tb : Nat} {seed limit : Int} {la lb la' : List En} {ca cb cs ca' : List Cg} {sc : Sl} {Fa Fb : Nat → Prop} (h1 : WF Fa w1 oa ta seed limit la ca) (h2 : WF Fb w1 ob tb seed limit lb cb) (hd : ∀ i, Fa i → ¬ Fb i) (fa : ∀ i, Fa i → w.heap.size ≤ i) (fb : ∀ i, Fb i → w.heap.size ≤ i) (fs : ∀ b, sc.blk = some b → ¬ Fa b ∧ ¬ Fb b) (x : Ext w w1) (ho : OwnK 0 tChg 4 w1 sc (cs.map cgv)) (r : WRes Fa w1 oa ta seed limit la' ca' w2) :
    Pw w w2 oa ta ob tb seed limit la' ca' lb cb sc cs ∧ KC w1 w2 := by
  obtain ⟨F', h', ht⟩ := r
  obtain ⟨x', f'⟩ := ht.fresh x fa
  have hb := h2.keep ht.mod fun i hi ha => hd i ha hi
  have hd' := ht.apart hd fun i hi => h2.lt hi
  have hs' := ht.apart (G := fun i => sc.blk = some i) (fun i hi hb => (fs i hb).1 hi) fun i hi => (ho.own.lt hi).2
  exact ⟨⟨⟨F', Fb, h', hb, hd', f', fb, fun b hb => ⟨fun hf => hs' b hf hb, (fs b hb).2⟩⟩, x', ht.mod.ownK ho fun b hb => (fs b hb).1⟩, fun j cs hr => ht.mod.same j hr.lt (h1.no_row hr (by decide) (by decide) (by decide))⟩
theorem pw_b {w w1 w2 : World} {oa ta ob tb : Nat} {seed limit : Int} {la lb lb' : List En} {ca cb cs cb' : List Cg} {sc : Sl} {Fa Fb : Nat → Prop} (h1 : WF Fa w1 oa ta seed limit la ca) (h2 : WF Fb w1 ob tb seed limit lb cb) (hd : ∀ i, Fa i → ¬ Fb i) (fa : ∀ i, Fa i → w.heap.size ≤ i) (fb : ∀ i, Fb i → w.heap.size ≤ i) (fs : ∀ b, sc.blk = some b → ¬ Fa b ∧ ¬ Fb b) (x : Ext w w1) (ho : OwnK 0 tChg 4 w1 sc (cs.map cgv)) (r : WRes Fb w1 ob tb seed limit lb' cb' w2) :
    Pw w w2 oa ta ob tb seed limit la ca lb' cb' sc cs ∧ KC w1 w2 := by
  obtain ⟨F', h', ht⟩ := r
  obtain ⟨x', f'⟩ := ht.fresh x fb
  have hb := h1.keep ht.mod fun i hi ha => hd i hi ha
  have hd' := ht.apart (G := Fa) (fun i hi ha => hd i ha hi) fun i hi => h1.lt hi
  have hs' := ht.apart (G := fun i => sc.blk = some i) (fun i hi hb => (fs i hb).2 hi) fun i hi => (ho.own.lt hi).2
  exact ⟨⟨⟨Fa, F', hb, h', fun i ha hf => hd' i hf ha, fa, f', fun b hb => ⟨(fs b hb).1, fun hf => hs' b hf hb⟩⟩, x', ht.mod.ownK ho fun b hb => (fs b hb).2⟩, fun j cs hr => ht.mod.same j hr.lt (h2.no_row hr (by decide) (by decide) (by decide))⟩
theorem pwAtA {w w1 : World} {oa ta ob tb : Nat} {seed limit : Int} {la lb : List En} {ca cb cs : List Cg} {sc : Sl} (h : Pw w w1 oa ta ob tb seed limit la ca lb cb sc cs) (c : Ce) (hc : okC c) :
    Calls Tryz.prog n_table_Table_At #[.pointer (some ⟨ta, 0, none⟩), cev c] w1 fun e w2 => e = .returned (.int .i64 (atE la c)) ∧ Ext w1 w2 := by
  obtain ⟨⟨Fa, Fb, h1, h2, h3⟩, h4, h5⟩ := h
  obtain ⟨F1, hT, -⟩ := h1.table
  exact tfAt_spec hT c hc
theorem pwAtB {w w1 : World} {oa ta ob tb : Nat} {seed limit : Int} {la lb : List En} {ca cb cs : List Cg} {sc : Sl} (h : Pw w w1 oa ta ob tb seed limit la ca lb cb sc cs) (c : Ce) (hc : okC c) :
    Calls Tryz.prog n_table_Table_At #[.pointer (some ⟨tb, 0, none⟩), cev c] w1 fun e w2 => e = .returned (.int .i64 (atE lb c)) ∧ Ext w1 w2 := by
  obtain ⟨⟨Fa, Fb, h1, h2, h3⟩, h4, h5⟩ := h
  obtain ⟨F1, hT, -⟩ := h2.table
  exact tfAt_spec hT c hc
theorem pwLoadA {w w1 : World} {oa ta ob tb : Nat} {seed limit : Int} {la lb : List En} {ca cb cs : List Cg} {sc : Sl} (h : Pw w w1 oa ta ob tb seed limit la ca lb cb sc cs) (hc : ∀ e ∈ la, e.2.2.1 = false) (p : Po) :
    Calls Tryz.prog n_table_Table_Load #[.pointer (some ⟨ta, 0, none⟩), pv p] w1 fun e w2 => e = .returned (.int .i64 (ldE seed limit la p).2) ∧ Pw w w2 oa ta ob tb seed limit (ldE seed limit la p).1 ca lb cb sc cs := by
  obtain ⟨⟨Fa, Fb, h1, h2, hd, fa, fb, fs⟩, h4, h5⟩ := h
  obtain ⟨F1, hT, -, hres⟩ := h1.table
  refine (tfLoad_spec hT (.inl hc) p).mono ?_
  rintro e w2 ⟨rfl, hr⟩
  exact ⟨rfl, (pw_a h1 h2 hd fa fb fs h4 h5 (hres hr)).1⟩
theorem pwLoadB {w w1 : World} {oa ta ob tb : Nat} {seed limit : Int} {la lb : List En} {ca cb cs : List Cg} {sc : Sl} (h : Pw w w1 oa ta ob tb seed limit la ca lb cb sc cs) (hc : ∀ e ∈ lb, e.2.2.1 = false) (p : Po) :
    Calls Tryz.prog n_table_Table_Load #[.pointer (some ⟨tb, 0, none⟩), pv p] w1 fun e w2 => e = .returned (.int .i64 (ldE seed limit lb p).2) ∧ Pw w w2 oa ta ob tb seed limit la ca (ldE seed limit lb p).1 cb sc cs := by
  obtain ⟨⟨Fa, Fb, h1, h2, hd, fa, fb, fs⟩, h4, h5⟩ := h
  obtain ⟨F1, hT, -, hres⟩ := h2.table
  refine (tfLoad_spec hT (.inl hc) p).mono ?_
  rintro e w2 ⟨rfl, hr⟩
  exact ⟨rfl, (pw_b h1 h2 hd fa fb fs h4 h5 (hres hr)).1⟩
theorem pwSetA {w w1 : World} {oa ta ob tb : Nat} {seed limit : Int} {la lb : List En} {ca cb cs : List Cg} {sc : Sl} (h : Pw w w1 oa ta ob tb seed limit la ca lb cb sc cs) (c : Ce) (hc : okC c) (b : Int) (hn : ca.length ≤ 1000000) :
    Calls Tryz.prog n_world_World_Set #[.pointer (some ⟨oa, 0, none⟩), cev c, .int .i64 b] w1 fun e w2 => e = .returned (.int .i64 (setE la c b).2) ∧ Pw w w2 oa ta ob tb seed limit (setE la c b).1 (wsC la ca c b) lb cb sc cs ∧ KC w1 w2 := by
  obtain ⟨⟨Fa, Fb, h1, h2, hd, fa, fb, fs⟩, h4, h5⟩ := h
  refine (wSet_spec h1 c hc b hn).mono ?_
  rintro e w2 ⟨rfl, hr⟩
  exact ⟨rfl, pw_a h1 h2 hd fa fb fs h4 h5 hr⟩
theorem pwSwapA {w w1 : World} {oa ta ob tb : Nat} {seed limit : Int} {la lb : List En} {ca cb cs : List Cg} {sc : Sl} (h : Pw w w1 oa ta ob tb seed limit la ca lb cb sc cs) (a b : Ce) (ha : okC a) (hb : okC b) (hn : ca.length ≤ 900000) :
    Calls Tryz.prog n_world_World_Swap #[.pointer (some ⟨oa, 0, none⟩), cev a, cev b] w1 fun e w2 => e = .returned (.int .i64 (swK la a b)) ∧ Pw w w2 oa ta ob tb seed limit (swL la a b) (swC la ca a b) lb cb sc cs ∧ KC w1 w2 := by
  obtain ⟨⟨Fa, Fb, h1, h2, hd, fa, fb, fs⟩, h4, h5⟩ := h
  refine (wSwap_spec h1 a b ha hb hn).mono ?_
  rintro e w2 ⟨rfl, hr⟩
  exact ⟨rfl, pw_a h1 h2 hd fa fb fs h4 h5 hr⟩
theorem pwSetB {w w1 : World} {oa ta ob tb : Nat} {seed limit : Int} {la lb : List En} {ca cb cs : List Cg} {sc : Sl} (h : Pw w w1 oa ta ob tb seed limit la ca lb cb sc cs) (c : Ce) (hc : okC c) (b : Int) (hn : cb.length ≤ 1000000) :
    Calls Tryz.prog n_world_World_Set #[.pointer (some ⟨ob, 0, none⟩), cev c, .int .i64 b] w1 fun e w2 => e = .returned (.int .i64 (setE lb c b).2) ∧ Pw w w2 oa ta ob tb seed limit la ca (setE lb c b).1 (wsC lb cb c b) sc cs ∧ KC w1 w2 := by
  obtain ⟨⟨Fa, Fb, h1, h2, hd, fa, fb, fs⟩, h4, h5⟩ := h
  refine (wSet_spec h2 c hc b hn).mono ?_
  rintro e w2 ⟨rfl, hr⟩
  exact ⟨rfl, pw_b h1 h2 hd fa fb fs h4 h5 hr⟩
theorem pwTake {w w1 : World} {oa ta ob tb : Nat} {seed limit : Int} {la lb : List En} {ca cb cs : List Cg} {sc : Sl} (h : Pw w w1 oa ta ob tb seed limit la ca lb cb sc cs) :
    Calls Tryz.prog n_world_World_Take #[.pointer (some ⟨oa, 0, none⟩)] w1 fun e w2 => ∃ sc', e = .returned (.slice sc'.a sc'.n sc'.c) ∧ Pw w w2 oa ta ob tb seed limit la [] lb cb sc' ca := by
  obtain ⟨⟨Fa, Fb, h1, h2, hd, fa, fb, fs⟩, h4, h5⟩ := h
  have hoF : Fa oa := by
    obtain ⟨F1, s, -, -, -, rfl⟩ := h1
    exact .inr (.inl rfl)
  refine (wTake_spec h1).mono ?_
  rintro e w2 ⟨sc', F', rfl, ho, hW, hsub, hsc, hm⟩
  refine ⟨sc', rfl, ⟨F', Fb, hW, h2.keep hm fun i hi e => hd i (e ▸ hoF) hi, fun i hi => hd i (hsub i hi), fun i hi => fa i (hsub i hi), fb, fun b hb => ⟨(hsc b hb).2, hd b (hsc b hb).1⟩⟩, ?_, ho⟩
  exact hm.ext h4 fun i hi => by subst hi; exact fa _ hoF
end Go.Proofs.YtbnmglonbhdcbaaGreatDoor
