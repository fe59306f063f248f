import Derived.Test.YtbnmglonbhdcbaaGreatDoorKV
import Derived.Test.YtbnmglonbhdcbaaGreatDoorGC
set_option linter.all false
namespace Go.Proofs.YtbnmglonbhdcbaaGreatDoor
open Go Go.Vc Go.RowKit Go.Proofs Go.Chk Go.Runs Go.Code

/-! ## What is so of cells, when chunks come, go, and are set -/
section
variable {seed limit : Int} {K : List Int} {n : Nat} {Q : Po → Prop} {T : Tb}
theorem Tru.mono (h : Tru seed K n Q T) {m : Nat} (hm : n ≤ m) : Tru seed K m Q T := ⟨⟨h.s.c, h.s.ok, h.s.k, h.s.ml, fun id => Int.le_trans (h.s.v id) (by omega), h.s.r⟩, h.nod, h.good, h.pl, h.q, h.cl⟩
abbrev noP (l : List En) : Prop := ∀ e ∈ l, e.2.2.2 = 0
/-- A chunk comes. -/
theorem Tru.push (h : Tru seed K n Q T) {p : Po} {C : List Int} (hq : Q p) (hh : ¬ here1 T.2 p) (hg : goodL (T.2 ++ [(p, C, false, 0)])) (hC : C = cellsB seed p (ldS T.1 (idK p)).1) :
    Tru seed K n Q (T.1, T.2 ++ [(p, C, false, 0)]) ∧ ∀ q, tru seed (T.1, T.2 ++ [(p, C, false, 0)]) q = tru seed T q := by
  have hnd : nodL (T.2 ++ [(p, C, false, 0)]) := nod_push h.nod hh
  have hmem : ∀ x, x ∈ T.2 ++ [(p, C, false, 0)] ↔ x ∈ T.2 ∨ x = (p, C, false, 0) := fun x => by simp
  refine ⟨⟨h.s, hnd, hg, fun x hx => ?_, h.q, fun x hx hc => ?_⟩, fun q => ?_⟩
  · rcases (hmem x).1 hx with hx | rfl
    · exact h.pl x hx
    · exact hq
  · rcases (hmem x).1 hx with hx | rfl
    · exact h.cl x hx hc
    · exact hC
  · by_cases hp : here1 T.2 q
    · obtain ⟨x, hx, rfl⟩ := hp
      rw [tru_here h.nod hx, tru_here (T := (T.1, T.2 ++ [(p, C, false, 0)])) hnd ((hmem x).2 (.inl hx))]
    · rw [tru_not hp]
      by_cases e : q = p
      · subst e
        rw [tru_here (T := (T.1, T.2 ++ [(q, C, false, 0)])) (e := (q, C, false, 0)) hnd ((hmem _).2 (.inr rfl))]
        exact hC
      · rw [tru_not (T := (T.1, T.2 ++ [(p, C, false, 0)]))]
        rintro ⟨x, hx, rfl⟩
        rcases (hmem x).1 hx with hx | rfl
        · exact hp ⟨x, hx, rfl⟩
        · exact e rfl
theorem noP_erase {l : List En} (h : noP l) (i : Nat) : noP (l.eraseIdx i) := fun e he => h e ((List.eraseIdx_sublist ..).subset he)
theorem Tru.load (h : Tru seed K n Q T) (hn : n < 1000000) (h0 : noP T.2) (hl : 1 ≤ limit) {p : Po} (hq : Q p) (hg : goodL (ldE seed limit T.1 T.2 p).1.2) :
    (ldE seed limit T.1 T.2 p).2 = 0 ∧ Tru seed K (n + 1) Q (ldE seed limit T.1 T.2 p).1 ∧ (∀ q, tru seed (ldE seed limit T.1 T.2 p).1 q = tru seed T q) ∧ here1 (ldE seed limit T.1 T.2 p).1.2 p ∧ noP (ldE seed limit T.1 T.2 p).1.2 := by
  have hin := (h.q p hq).1
  rcases firstI_cases (fun e : En => e.1 == p) T.2 with ⟨hf, hno⟩ | ⟨k, e, hk, he, hf, -⟩
  · have hh : ¬ here1 T.2 p := by
      rintro ⟨x, hx, e⟩
      have := hno x hx
      simp [e] at this
    have hroom : (roomE limit T.1 T.2).2 = 0 ∧ Tru seed K (n + 1) Q (roomE limit T.1 T.2).1 ∧ (∀ q, tru seed (roomE limit T.1 T.2).1 q = tru seed T q) ∧ ¬ here1 (roomE limit T.1 T.2).1.2 p ∧ noP (roomE limit T.1 T.2).1.2 := by
      unfold roomE
      by_cases hlt : ((T.2.length : Nat) : Int) < limit
      · rw [if_pos hlt]
        exact ⟨rfl, h.mono (by omega), fun _ => rfl, hh, h0⟩
      · rw [if_neg hlt]
        rcases firstI_cases (fun e : En => e.2.2.2 == 0) T.2 with ⟨hf2, hno2⟩ | ⟨k, e, hk, he, hf2, -⟩
        · exfalso
          match hT : T.2, hlt with
          | [], hlt => simp at hlt; omega
          | e :: t, _ =>
            have he : e ∈ T.2 := by rw [hT]; exact .head _
            have h1 := hno2 e he
            have h2 := h0 e he
            simp [h2] at h1
        · rw [hf2, if_neg (by omega), Int.toNat_natCast]
          obtain ⟨g1, g2, g3⟩ := h.go (by omega) hk
          rw [g1]
          refine ⟨rfl, g2, g3, ?_, noP_erase h0 k⟩
          rintro ⟨x, hx, hxe⟩
          exact hh ⟨x, (List.eraseIdx_sublist ..).subset hx, hxe⟩
    obtain ⟨r1, r2, r3, r4, r5⟩ := hroom
    have hE : ldE seed limit T.1 T.2 p = (((roomE limit T.1 T.2).1.1, (roomE limit T.1 T.2).1.2 ++ [(p, cellsB seed p (ldS (roomE limit T.1 T.2).1.1 (idK p)).1, false, 0)]), 0) := by
      unfold ldE
      rw [if_neg (by simpa using hin), hf, if_neg (by decide), if_neg (by rw [r1]; simp)]
    rw [hE] at hg ⊢
    generalize (roomE limit T.1 T.2).1 = T' at *
    obtain ⟨p1, p2⟩ := r2.push hq r4 hg rfl
    refine ⟨rfl, p1, fun q => (p2 q).trans (r3 q), ⟨(p, cellsB seed p (ldS T'.1 (idK p)).1, false, 0), by simp, rfl⟩, fun x hx => ?_⟩
    rcases List.mem_append.1 hx with hx | hx
    · exact r5 x hx
    · simp only [List.mem_singleton] at hx
      subst hx; rfl
  · have hE : ldE seed limit T.1 T.2 p = ((T.1, T.2.eraseIdx k ++ [e]), 0) := by
      unfold ldE
      rw [if_neg (by simpa using hin), hf, if_pos (by omega), Int.toNat_natCast, hk]; rfl
    rw [hE]
    obtain ⟨t1, t2, t3⟩ := h.touch hk
    exact ⟨rfl, t1.mono (by omega), t2, ⟨e, by simp, by simpa using he⟩, fun x hx => h0 x ((t3 x).1 hx)⟩
theorem Tru.unload (h : Tru seed K n Q T) (hn : n < 1000000) (h0 : noP T.2) (p : Po) :
    Tru seed K (n + 1) Q (unldE T.1 T.2 p).1 ∧ (∀ q, tru seed (unldE T.1 T.2 p).1 q = tru seed T q) ∧ noP (unldE T.1 T.2 p).1.2 := by
  unfold unldE
  rcases firstI_cases (fun e : En => e.1 == p) T.2 with ⟨hf, hno⟩ | ⟨k, e, hk, he, hf, -⟩
  · rw [hf, if_neg (by decide)]
    exact ⟨h.mono (by omega), fun _ => rfl, h0⟩
  · rw [hf, if_pos (by omega), Int.toNat_natCast, hk, if_neg (by
      show ¬ (0 < e.2.2.2)
      rw [h0 e (List.mem_of_getElem? hk)]; decide)]
    obtain ⟨g1, g2, g3⟩ := h.go (by omega) hk
    rw [g1]
    exact ⟨g2, g3, noP_erase h0 k⟩
theorem kSet_same {p : Po} {C : List Int} (hl : C.length = 8192) {c : Ce} (hp : p = pos c) (hy : inY c) {b : Int} (h : kAt p C c = b) : (kSet p C c b).1 = C := by
  unfold kSet
  split
  · rfl
  · split
    · rfl
    · have hi := idx_in hy
      have hk : inK p c = true := (inK_iff p c).2 ⟨hy, hp.symm⟩
      unfold kAt at h
      rw [if_pos hk] at h
      have := atC_get (c := C) (i := idx c) hi.1 (by rw [hl]; omega)
      rw [h] at this
      obtain ⟨h1, h2⟩ := List.getElem?_eq_some_iff.1 this
      simp only
      rw [← h2]; exact List.set_getElem_self h1
theorem tru_at {c : Ce} (h : Tru seed K n Q T) (hh : here1 T.2 (pos c)) : atE T.2 c = if c.2.1 < 0 then 1 else kAt (pos c) (tru seed T (pos c)) c := by
  obtain ⟨e, he, hp⟩ := hh
  rw [at_here h.nod he hp, ← hp, tru_here h.nod he]
theorem set_out {c : Ce} {b : Int} {l : List En} (hh : here1 l (pos c)) (hy : ¬ inY c) : setE l c b = (l, 5) := by
  unfold setE
  rcases firstI_cases (fun e : En => e.1 == pos c) l with ⟨hf, hno⟩ | ⟨k, e, hk, he, hf, -⟩
  · obtain ⟨x, hx, e⟩ := hh
    have := hno x hx
    simp [e] at this
  · rw [hf, if_neg (by omega), if_pos hy]
theorem Tru.set (h : Tru seed K n Q T) (h0 : noP T.2) {c : Ce} (hh : here1 T.2 (pos c)) (hy : inY c) {b : Int} (hb : bMay b = true) :
    (setE T.2 c b).2 = 0 ∧ Tru seed K n Q (T.1, (setE T.2 c b).1) ∧ (∀ q, tru seed (T.1, (setE T.2 c b).1) q = if q = pos c then (kSet q (tru seed T q) c b).1 else tru seed T q) ∧ noP (setE T.2 c b).1 ∧ here1 (setE T.2 c b).1 (pos c) := by
  obtain ⟨e, he, hp⟩ := hh
  obtain ⟨k, hk, hf⟩ := first_here h.nod he
  have hs : setE T.2 c b = (T.2.eraseIdx k ++ [(e.1, (kSet e.1 e.2.1 c b).1, e.2.2.1 || (kAt e.1 e.2.1 c != b), e.2.2.2)], 0) := by
    unfold setE
    rw [← hp, hf, if_neg (by omega), if_neg (by simpa using hy), if_neg (by rw [hb]; decide), Int.toNat_natCast, hk]; rfl
  rw [hs]
  obtain ⟨g1, g2⟩ := h.good e he
  have hcl : (e.2.2.1 || (kAt e.1 e.2.1 c != b)) = false → e.2.2.1 = false ∧ (kSet e.1 e.2.1 c b).1 = e.2.1 := fun q => by
    rw [Bool.or_eq_false_iff] at q
    exact ⟨q.1, kSet_same g1 hp hy (by simpa using q.2)⟩
  have hgood := kSet_ok g1 g2 c b (p := e.1)
  have hmem := mem_erase h.nod hk
  generalize hd : (e.2.2.1 || (kAt e.1 e.2.1 c != b)) = d at *
  have hnd : nodL (T.2.eraseIdx k ++ [(e.1, (kSet e.1 e.2.1 c b).1, d, e.2.2.2)]) := nod_push (nod_erase h.nod k) fun ⟨x, hx, q⟩ => ((hmem x).1 hx).2 q
  have hall : ∀ x, x ∈ T.2.eraseIdx k ++ [(e.1, (kSet e.1 e.2.1 c b).1, d, e.2.2.2)] ↔ (x ∈ T.2 ∧ x.1 ≠ e.1) ∨ x = (e.1, (kSet e.1 e.2.1 c b).1, d, e.2.2.2) := fun x => by
    simp only [List.mem_append, List.mem_singleton, hmem]
  refine ⟨rfl, ⟨h.s, hnd, fun x hx => ?_, fun x hx => ?_, h.q, fun x hx hc => ?_⟩, fun q => ?_, fun x hx => ?_, ⟨(e.1, (kSet e.1 e.2.1 c b).1, d, e.2.2.2), (hall _).2 (.inr rfl), hp⟩⟩
  · rcases (hall x).1 hx with ⟨hx, -⟩ | rfl
    · exact h.good x hx
    · exact hgood
  · rcases (hall x).1 hx with ⟨hx, -⟩ | rfl
    · exact h.pl x hx
    · exact h.pl e he
  · rcases (hall x).1 hx with ⟨hx, -⟩ | rfl
    · exact h.cl x hx hc
    · obtain ⟨q1, q2⟩ := hcl hc
      exact q2.trans (h.cl e he q1)
  · by_cases hq : q = pos c
    · rw [if_pos hq]
      have hqe : q = e.1 := hq.trans hp.symm
      subst hqe
      rw [tru_here h.nod he]
      exact tru_here (T := (T.1, _)) (e := (e.1, (kSet e.1 e.2.1 c b).1, d, e.2.2.2)) hnd ((hall _).2 (.inr rfl))
    · rw [if_neg hq]
      by_cases hx : here1 T.2 q
      · obtain ⟨x, hx, rfl⟩ := hx
        rw [tru_here h.nod hx]
        exact tru_here (T := (T.1, _)) (e := x) hnd ((hall _).2 (.inl ⟨hx, fun q2 => hq (q2.trans hp)⟩))
      · rw [tru_not hx, tru_not]
        rintro ⟨x, hx2, rfl⟩
        rcases (hall x).1 hx2 with ⟨hx2, -⟩ | rfl
        · exact hx ⟨x, hx2, rfl⟩
        · exact hq hp
  · rcases (hall x).1 hx with ⟨hx, -⟩ | rfl
    · exact h0 x hx
    · exact h0 e he
end
end Go.Proofs.YtbnmglonbhdcbaaGreatDoor
namespace Go.Proofs.YtbnmglonbhdcbaaGreatDoor
open Go Go.Vc Go.RowKit Go.Proofs Go.Chk Go.Runs Go.Code

/-! ## Cells as the document's laws take them -/
def cellK (c : Ce) : Ce := (around c.1 80 - 32, around c.2.1 34 - 1, around c.2.2 80 - 32)
theorem cellK_ok (c : Ce) : okC (cellK c) := by
  have h1 := around_bd c.1 80 (by decide)
  have h2 := around_bd c.2.1 34 (by decide)
  have h3 := around_bd c.2.2 80 (by decide)
  unfold cellK okC inI
  exact ⟨by simp only; omega, by simp only; omega, by simp only; omega⟩
theorem rCell_spec (c : Ce) (hc : okC c) (w : World) : Calls Tryz.prog n_ref12_Cell #[cev c] w fun e w' => e = .returned (cev (cellK c)) ∧ Ext w w' := by
  apply ref12_Cell.vc
  have h1 := around_bd c.1 80 (by decide)
  have h2 := around_bd c.2.1 34 (by decide)
  have h3 := around_bd c.2.2 80 (by decide)
  intro w0 e0 w1 e1
  have z0 : w0.heap.size = w.heap.size + 1 := by rw [e0]; simp
  have x1 : Ext w w1.drew := (((Ext.rfl' w).of_alloc e0).of_alloc e1).drew
  have hb : Row w1.drew w.heap.size [.int .i64 c.1, .int .i64 c.2.1, .int .i64 c.2.2] tCe := ((by rw [e0]; exact Row.new w [_, _, _] _ : Row w0 w.heap.size [.int .i64 c.1, .int .i64 c.2.1, .int .i64 c.2.2] tCe).ext ((Ext.rfl' _).of_alloc e1)).ext (Ext.dr _)
  have r1 : LoadL w1.drew (some ⟨w.heap.size, 1, none⟩) 0 [.int .i64 c.2.1] := hb.loadL fun j hj => by simp at hj; subst hj; rfl
  have r2 : LoadL w1.drew (some ⟨w.heap.size, 2, none⟩) 0 [.int .i64 c.2.2] := hb.loadL fun j hj => by simp at hj; subst hj; rfl
  refine (around_spec c.1 80 w1.drew hc.1 (by decide) (by unfold inI; omega)).mono ?_
  rintro e w2 ⟨rfl, hw⟩; subst hw
  refine ⟨_, rfl, rfl, rfl, r2, r1, (around_spec c.2.1 34 w1.drew hc.2.1 (by decide) (by unfold inI; omega)).mono ?_⟩
  rintro e w2 ⟨rfl, hw⟩; subst hw
  refine ⟨_, rfl, rfl, rfl, r2, (around_spec c.2.2 80 w1.drew hc.2.2 (by decide) (by unfold inI; omega)).mono ?_⟩
  rintro e w2 ⟨rfl, hw⟩; subst hw
  refine ⟨_, rfl, rfl, rfl, fun w6 e6 => ⟨?_, x1.of_setRow e6 (by omega)⟩⟩
  have q1 : IntKind.wrap .i64 (around c.1 80 - 32) = around c.1 80 - 32 := wrap_in (by unfold inI; omega)
  have q2 : IntKind.wrap .i64 (around c.2.1 34 - 1) = around c.2.1 34 - 1 := wrap_in (by unfold inI; omega)
  have q3 : IntKind.wrap .i64 (around c.2.2 80 - 32) = around c.2.2 80 - 32 := wrap_in (by unfold inI; omega)
  rw [q1, q2, q3]; rfl
theorem div_spec (a : Int) (ha : inI a) (w : World) : Calls Tryz.prog n_law12_div #[.int .i64 a] w fun e w' => e = .returned (.int .i64 (a / 16)) ∧ w' = w := by
  apply law12_div.vc
  refine (rDiv1_spec a 16 ha (by decide) w).mono ?_
  rintro e w' ⟨rfl, rfl⟩
  exact ⟨_, rfl, rfl, rfl⟩
/-! ## One chunk alone -/
abbrev onP (p : Po) (C : List Int) (d : Bool) : List En := [(p, C, d, 0)]
abbrev KP (p : Po) : List Int := [2 * idK p, 2 * idK p + 1]
theorem setP {p : Po} {C : List Int} {d : Bool} {c : Ce} (hp : pos c = p) (hy : inY c) {b : Int} (hb : bMay b = true) : setE (onP p C d) c b = (onP p (kSet p C c b).1 (d || (kAt p C c != b)), 0) := by
  subst hp
  unfold setE
  rw [if_neg (by simp [firstI]), if_neg (by simpa using hy), if_neg (by rw [hb]; decide)]
  simp [firstI]
theorem atP {p : Po} {C : List Int} {d : Bool} {c : Ce} (hp : pos c = p) (hy : inY c) : atE (onP p C d) c = kAt p C c := by
  subst hp
  unfold atE
  have hy1 : ¬ c.2.1 < 0 := by unfold inY at hy; omega
  rw [if_neg (by simp [firstI]), if_neg hy1]
  simp [firstI]
theorem flP {D : Dk} {p : Po} {C : List Int} {d : Bool} : flE D (onP p C d) p = (((saveE D (p, C, d, 0)).1, [(saveE D (p, C, d, 0)).2.1]), (saveE D (p, C, d, 0)).2.2) := by
  unfold flE
  rw [if_pos (by simp [firstI])]
  simp [firstI]
theorem dirtyP {p : Po} {C : List Int} {d : Bool} : dirtyE (onP p C d) p = d := by
  unfold dirtyE
  rw [if_pos (by simp [firstI])]
  simp [firstI]
theorem ldP {seed : Int} {D : Dk} {p : Po} (hp : inT p) : ldE seed 2 D [] p = ((D, onP p (cellsB seed p (ldS D (idK p)).1) false), 0) := by
  have hr : roomE 2 D [] = ((D, []), 0) := by unfold roomE; rw [if_pos (by decide)]
  unfold ldE
  rw [if_neg (by simpa using hp), if_neg (by simp [firstI]), hr, if_neg (by simp)]
  rfl
theorem kAt_sameP {p : Po} {C : List Int} (hl : C.length = 8192) {c : Ce} (hp : pos c = p) (hy : inY c) {b : Int} (hb : bMay b = true) : kAt p (kSet p C c b).1 c = b := by
  rw [kAt_kSet hl hy hp.symm hb c hp.symm, if_pos rfl]
theorem tru_one {seed : Int} {n : Nat} {D : Dk} {p : Po} {C : List Int} {d : Bool} (hp : inT p) (hs : Sfe (KP p) 16393 n D) (hg : goodL (onP p C d)) (hc : d = false → C = cellsB seed p (ldS D (idK p)).1) : Tru seed (KP p) n (fun q => q = p) (D, onP p C d) := by
  refine ⟨hs, by simp [nodL], hg, fun e he => ?_, fun q hq => ?_, fun e he hd => ?_⟩
  · simp only [List.mem_singleton] at he; rw [he]
  · subst hq; exact ⟨hp, by simp, by simp⟩
  · simp only [List.mem_singleton] at he; subst he; exact hc hd
theorem crash_cln {D : Dk} (h : D.l = []) (keep : Int) : (crashD D keep).1 = { D with l := [], fails := 0, wait := 0 } := by
  unfold crashD
  rw [h]; rfl
theorem cln_eq {D : Dk} (h : Cln D) : ({ D with l := [], fails := 0, wait := 0 } : Dk) = D := by
  obtain ⟨h1, h2, h3⟩ := h
  cases D
  simp only at h1 h2 h3
  subst h1 h2 h3; rfl
theorem fail_one {D : Dk} (h : Cln D) : failD D 1 = { D with fails := 1, wait := 0 } ∧ (failD D 1).l = [] ∧ ({ failD D 1 with l := [], fails := 0, wait := 0 } : Dk) = D ∧ ∀ {id : Int} {body : List Int}, 1 ≤ id → id ≤ 1099511627776 → (body.length : Int) ≤ 65536 → (ofS D id).2.1 < 1073741824 → svS (failD D 1) id body = (D, 9) := by
  have e1 : failD D 1 = { D with fails := 1, wait := 0 } := by unfold failD; rw [if_neg (by decide)]
  refine ⟨e1, by rw [e1]; exact h.l, by rw [e1]; exact cln_eq h, fun {id body} h1 h2 hb hv => ?_⟩
  have ha : askD (failD D 1) = (D, true) := by
    rw [e1]
    unfold askD
    rw [if_neg (by simp), if_pos (by simp)]
    obtain ⟨l1, l2, l3⟩ := h
    cases D
    simp only at l1 l2 l3
    subst l1 l2 l3; rfl
  have ho : ofS (failD D 1) id = ofS D id := by rw [e1]; rfl
  have h0 := ofS_v D id
  have hw : wrS ((ofS D id).2.1 + 1) body = (sealB (recB ((ofS D id).2.1 + 1) body), 0) := by unfold wrS; rw [if_neg (by omega)]
  have hm : mayS id = true := by unfold mayS; simp; omega
  have hp : ∀ k b, putD (failD D 1) k b = (D, 9) := fun k b => by
    unfold putD
    rw [ha, if_pos rfl]
  unfold svS
  rw [if_pos hm, ho, hw, if_neg (by simp), hp, if_pos (by simp)]
/-- Of a store that fails once, what a save does. -/
theorem save_fail {n : Nat} {D : Dk} {p : Po} (hp : inT p) (h : Sfe (KP p) 16393 n D) (hn : n < 1000000) {C : List Int} {d : Bool} (hg : goodL (onP p C d)) :
    (saveE (failD D 1) (p, C, d, 0)).2.2 = (if d then 9 else 0) ∧ (saveE (failD D 1) (p, C, d, 0)).2.1 = (p, C, d, 0) ∧ (saveE (failD D 1) (p, C, d, 0)).1.l = [] ∧ ∀ keep, (crashD (saveE (failD D 1) (p, C, d, 0)).1 keep).1 = D := by
  obtain ⟨g1, g2⟩ := hg _ (.head _)
  have hid := idK_pos hp
  have hle : (wrB (ofC C)).length ≤ 16384 := chunk_le g1 g2
  obtain ⟨-, f2, f3, f4⟩ := fail_one h.c
  have hv := h.v (idK p)
  cases d with
  | true =>
    have e1 : saveE (failD D 1) (p, C, true, 0) = ((svS (failD D 1) (idK p) (wrB (ofC C))).1, (p, C, decide ((svS (failD D 1) (idK p) (wrB (ofC C))).2 ≠ 0), 0), (svS (failD D 1) (idK p) (wrB (ofC C))).2) := rfl
    rw [e1, f4 (by omega) (by omega) (by omega) (by omega)]
    exact ⟨rfl, rfl, h.c.l, fun keep => by rw [crash_cln h.c.l]; exact cln_eq h.c⟩
  | false =>
    have e1 : saveE (failD D 1) (p, C, false, 0) = (failD D 1, (p, C, false, 0), 0) := rfl
    rw [e1]
    exact ⟨rfl, rfl, f2, fun keep => by rw [crash_cln f2]; exact f3⟩
theorem tiDisk {w0 w : World} {t : Nat} {seed limit : Int} {T : Tb} (h : TI w0 w t seed limit T) : ∃ st d, ld w (padd (some ⟨t, 0, none⟩) 0) = some (.pointer (some ⟨st, 0, none⟩)) ∧ ld w (padd (padd (some ⟨st, 0, none⟩) 0) 0) = some (.pointer (some ⟨d, 0, none⟩)) ∧
    ∀ n, inI n → Calls Tryz.prog n_disk_Disk_Fail #[.pointer (some ⟨d, 0, none⟩), .int .i64 n] w fun e w' => e = .returned (.tuple #[]) ∧ TIRes w0 w t seed limit (failD T.1 n, T.2) w' := by
  obtain ⟨F, h1, h2, h3⟩ := h
  obtain ⟨st, d, g1, g2, g3⟩ := tfDisk h1
  refine ⟨st, d, g1, g2, fun n hn => (g3 n hn).mono ?_⟩
  rintro e w' ⟨rfl, hr⟩
  exact ⟨rfl, ti_of h1 h2 h3 hr⟩
end Go.Proofs.YtbnmglonbhdcbaaGreatDoor
namespace Go.Proofs.YtbnmglonbhdcbaaGreatDoor
open Go Go.Vc Go.RowKit Go.Proofs Go.Chk Go.Runs Go.Code

/-- A cell near 0, of Y 0 to 31. -/
def cellZ (c : Ce) : Ce := ((cellK c).1, around (cellK c).2.1 32, (cellK c).2.2)
theorem cellK_bd (c : Ce) : (-32 ≤ (cellK c).1 ∧ (cellK c).1 ≤ 47) ∧ (-1 ≤ (cellK c).2.1 ∧ (cellK c).2.1 ≤ 32) ∧ -32 ≤ (cellK c).2.2 ∧ (cellK c).2.2 ≤ 47 := by
  have h1 := around_bd c.1 80 (by decide)
  have h2 := around_bd c.2.1 34 (by decide)
  have h3 := around_bd c.2.2 80 (by decide)
  unfold cellK
  refine ⟨⟨?_, ?_⟩, ⟨?_, ?_⟩, ?_, ?_⟩ <;> simp only <;> omega
theorem cellZ_ok (c : Ce) : okC (cellZ c) ∧ inY (cellZ c) ∧ inT (pos (cellZ c)) := by
  obtain ⟨h1, h2, h3⟩ := cellK_bd c
  have h4 := around_bd (cellK c).2.1 32 (by decide)
  unfold cellZ okC inI inY inT pos
  refine ⟨⟨?_, ?_, ?_⟩, ?_, ⟨?_, ?_⟩, ?_, ?_⟩ <;> simp only <;> omega
set_option maxRecDepth 100000 in
theorem TableCrashes_law (seed : Int) (c0 : Ce) (a0 b0 keep : Int) (w : World) (hc0 : okC c0) (ha : inI a0) (hb : inI b0) : Calls Tryz.prog n_law12_TableCrashes #[.int .i64 seed, cev c0, .int .i64 a0, .int .i64 b0, .int .i64 keep] w fun e w' => e = .returned (.bool true) ∧ Ext w w' := by
  apply law12_TableCrashes.vc
  intro w0 e0
  have x0 : Ext w w0 := (Ext.rfl' w).of_alloc e0
  have hC0 : Row w0 w.heap.size [.int .i64 c0.1, .int .i64 c0.2.1, .int .i64 c0.2.2] tCe := by rw [e0]; exact Row.new w [_, _, _] _
  clear e0
  refine (rCell_spec c0 hc0 w0).mono ?_
  rintro e w1 ⟨rfl, x1⟩
  refine ⟨_, _, _, rfl, x1.heap hC0.lt, fun w5 e5 => ?_⟩
  have x5 : Ext w w5 := (x0.tr x1).of_setRow e5 (Nat.le_refl _)
  have hC5 : Row w5 w.heap.size [.int .i64 (cellK c0).1, .int .i64 (cellK c0).2.1, .int .i64 (cellK c0).2.2] tCe := by rw [e5]; exact Row.set (hC0.ext x1) _
  clear e5
  obtain ⟨k1, k2, k3⟩ := cellK_bd c0
  refine (around_spec (cellK c0).2.1 32 w5 (by unfold inI; omega) (by decide) (by unfold inI; omega)).mono ?_
  rintro e w6 ⟨rfl, hw⟩; subst hw
  refine ⟨_, rfl, rfl, fun w8 e8 => ?_⟩
  have x8 : Ext w w8 := x5.of_setRow e8 (Nat.le_refl _)
  have hC8 : Row w8 w.heap.size [.int .i64 (cellK c0).1, .int .i64 (around (cellK c0).2.1 32), .int .i64 (cellK c0).2.2] tCe := by rw [e8]; exact Row.set hC5 _
  clear e8
  obtain ⟨okc, yc, tc⟩ := cellZ_ok c0
  have i1 : inI (cellZ c0).1 := okc.1
  have i3 : inI (cellZ c0).2.2 := okc.2.2
  have z1 : (cellZ c0).1 = (cellK c0).1 := rfl
  have z2 : (cellZ c0).2.1 = around (cellK c0).2.1 32 := rfl
  have z3 : (cellZ c0).2.2 = (cellK c0).2.2 := rfl
  rw [← z1, ← z2, ← z3] at hC8 ⊢
  clear z1 z2 z3 k1 k2 k3
  generalize cellZ c0 = c at *
  refine (ref04_Good_spec a0 w8 ha).mono ?_
  rintro e w9 ⟨rfl, hw⟩; subst hw
  refine ⟨_, rfl, rfl, (ref04_Good_spec b0 w9 hb).mono ?_⟩
  rintro e w11 ⟨rfl, hw⟩; subst hw
  have ma := (bGood_bd a0).2.2
  have mb := (bGood_bd b0).2.2
  generalize bGood a0 = a at *
  generalize bGood b0 = b at *
  have hcs : w.heap.size < w11.heap.size := hC8.lt
  refine ⟨_, rfl, rfl, fun q wq => ∃ bp, q = some ⟨bp, 0, none⟩ ∧ Row wq bp [.int .i64 (c.1 / 16), .int .i64 (c.2.2 / 16)] tPo ∧ Ext w11 wq, ?_, ?_⟩
  · have xd := Ext.dr w11
    have ldC : ∀ {v}, Ext w11 v → LoadL v (some ⟨w.heap.size, 2, none⟩) 0 [.int .i64 c.2.2] := fun x => (hC8.ext x).loadL fun j hj => by simp at hj; subst hj; rfl
    have leaf : ∀ wz wa wb : World, Ext w11 wz → wa = wz.alloc (.cells #[.int .i64 0, .int .i64 0] tPo) → wb = wa.setRow wz.heap.size #[.int .i64 (c.1 / 16), .int .i64 (c.2.2 / 16)] →
        ([.int .i64 c.1, .int .i64 c.2.1, .int .i64 c.2.2] : List Value) = [.int .i64 c.1, .int .i64 c.2.1, .int .i64 c.2.2] ∧ ∃ bp, some (Addr.mk wz.heap.size 0 none) = some ⟨bp, 0, none⟩ ∧ Row wb bp [.int .i64 (c.1 / 16), .int .i64 (c.2.2 / 16)] tPo ∧ Ext w11 wb := by
      intro wz wa wb xz ea eb
      refine ⟨rfl, _, rfl, ?_, (xz.of_alloc ea).of_setRow eb xz.size⟩
      rw [eb]; exact Row.set (by rw [ea]; exact Row.new wz [_, _] _) _
    refine ⟨(div_spec c.1 i1 _).mono ?_, fun wa ea => (div_spec c.1 i1 _).mono ?_⟩
    · rintro e w14 ⟨rfl, hw⟩; subst hw
      refine ⟨_, rfl, rfl, ldC xd, (div_spec c.2.2 i3 _).mono ?_, fun wa ea => (div_spec c.2.2 i3 _).mono ?_⟩
      · rintro e w16 ⟨rfl, hw⟩; subst hw
        exact ⟨_, rfl, rfl, fun wa ea wb eb => leaf _ wa wb xd ea eb, fun wa ea wb eb => leaf _ wa wb xd ea eb⟩
      · rintro e w23 ⟨rfl, hw⟩; subst hw
        exact ⟨_, rfl, rfl, rfl, fun wb eb => leaf _ _ wb xd ea eb⟩
    · rintro e w27 ⟨rfl, hw⟩; subst hw
      refine ⟨_, rfl, rfl, rfl, ldC (xd.of_alloc ea), (div_spec c.2.2 i3 _).mono ?_⟩
      rintro e w29 ⟨rfl, hw⟩; subst hw
      exact ⟨_, rfl, rfl, rfl, fun wb eb => leaf _ _ wb xd ea eb⟩
  rintro us32 p33 w34 ⟨bp, rfl, hP34, x34⟩
  have hC34 := hC8.ext x34
  have xw : Ext w w34 := x8.tr x34
  generalize hpp : pos c = p at *
  have hpv : pv p = .agg #[.int .i64 (c.1 / 16), .int .i64 (c.2.2 / 16)] := by rw [← hpp]; rfl
  have ldp : ∀ {v : World}, Row v bp [.int .i64 (c.1 / 16), .int .i64 (c.2.2 / 16)] tPo → LoadL v (some ⟨bp, 0, none⟩) 0 [.int .i64 (c.1 / 16), .int .i64 (c.2.2 / 16)] := fun h => h.loadL fun j hj => by rw [Nat.zero_add]
  refine (tiNew_spec seed 2 100000 w34).mono ?_
  rintro e w35 ⟨t, rfl, h35, x35⟩
  have hlim : (min (max (2 : Int) 1) 16) = 2 := by decide
  rw [hlim] at h35
  have hC35 := hC34.ext x35
  have hP35 := hP34.ext x35
  refine ⟨_, rfl, x35.heap hC34.lt, nope rfl ⟨_, _, ldp hP35, ?_⟩⟩
  have hS0 : Sfe (KP p) 16393 0 (dk0 100000) := Sfe.new (by show ((2 * 16393 : Nat) : Int) ≤ _; decide)
  generalize dk0 100000 = D at *
  -- Load
  have L : ∀ {v : World}, TI w34 v t seed 2 (D, []) → Calls Tryz.prog n_table_Table_Load #[.pointer (some ⟨t, 0, none⟩), .agg #[.int .i64 (c.1 / 16), .int .i64 (c.2.2 / 16)]] v fun e v' => e = .returned (.int .i64 0) ∧ TI w34 v' t seed 2 (D, onP p (cellsB seed p (ldS D (idK p)).1) false) ∧ KX v v' := by
    intro v hv
    rw [← hpv]
    refine (tiLoad_spec hv (by rw [hS0.c.l]; exact Nat.zero_le _) p).mono ?_
    rintro e v' ⟨rfl, h', k'⟩
    have e1 : ldE seed 2 ((D, ([] : List En)) : Tb).1 ((D, ([] : List En)) : Tb).2 p = _ := ldP tc
    rw [e1] at h' ⊢
    exact ⟨rfl, h', k'⟩
  refine (L h35).mono ?_
  rintro e w39 ⟨rfl, h39, k39⟩
  have hC39 := k39.row hC35 off3.1
  have hP39 := k39.row hP35 off3.2
  generalize hM : cellsB seed p (ldS D (idK p)).1 = M at *
  have hl : M.length = 8192 := (h39.good _ (.head _)).1
  refine ⟨_, rfl, k39 _ _ _ hC35 off3.1, (tiAt_spec h39 c okc).mono ?_⟩
  rintro e w41 ⟨rfl, x41⟩
  have h41 := h39.ext x41
  have hC41 := hC39.ext x41
  have hP41 := hP39.ext x41
  have eA : ∀ {C : List Int} {d : Bool} {D' : Dk}, atE ((D', onP p C d) : Tb).2 c = kAt p C c := atP hpp yc
  rw [eA]
  have SS : ∀ {v : World} {C : List Int} {d : Bool} {D' : Dk} {x : Int}, bMay x = true → TI w34 v t seed 2 (D', onP p C d) → Calls Tryz.prog n_table_Table_Set #[.pointer (some ⟨t, 0, none⟩), cev c, .int .i64 x] v fun e v' => e = .returned (.int .i64 0) ∧ TI w34 v' t seed 2 (D', onP p (kSet p C c x).1 (d || (kAt p C c != x))) ∧ KX v v' := by
    intro v C d D' x hx hv
    refine (tiSet_spec hv c okc x).mono ?_
    rintro e v' ⟨rfl, h', k'⟩
    have h' : TI w34 v' t seed 2 (D', (setE (onP p C d) c x).1) := h'
    have e1 : (setE ((D', onP p C d) : Tb).2 c x).2 = 0 := by rw [show (setE ((D', onP p C d) : Tb).2 c x) = _ from setP hpp yc hx]
    rw [setP hpp yc hx] at h'
    exact ⟨by rw [e1], h', k'⟩
  refine ⟨_, rfl, x41.heap hC39.lt, (SS ma h41).mono ?_⟩
  rintro e w43 ⟨rfl, h43, k43⟩
  have hC43 := k43.row hC41 off3.1
  have hP43 := k43.row hP41 off3.2
  have CR : ∀ {v : World} {l : List En} {D' : Dk} {x : Int}, Cln D' → TI w34 v t seed 2 (D', l) → Calls Tryz.prog n_table_Table_Crash #[.pointer (some ⟨t, 0, none⟩), .int .i64 x] v fun e v' => (∃ m : Int, e = .returned (.int .i64 m)) ∧ TI w34 v' t seed 2 (D', []) ∧ KX v v' := by
    intro v l D' x hD hv
    refine (tiCrash_spec hv (by rw [hD.l]; exact Nat.zero_le _) (by rw [hD.l]; exact Nat.zero_le _) x).mono ?_
    rintro e v' ⟨rfl, h', k'⟩
    have h' : TI w34 v' t seed 2 ((crashD D' x).1, []) := h'
    rw [crash_cln hD.l, cln_eq hD] at h'
    exact ⟨⟨_, rfl⟩, h', k'⟩
  refine ⟨_, rfl, k43 _ _ _ hC41 off3.1, (CR hS0.c h43).mono ?_⟩
  rintro e w45 ⟨⟨m45, rfl⟩, h45, k45⟩
  have hC45 := k45.row hC43 off3.1
  have hP45 := k45.row hP43 off3.2
  refine ⟨_, rfl, k45 _ _ _ hC43 off3.1, _, _, ldp hP45, (L h45).mono ?_⟩
  rintro e w49 ⟨rfl, h49, k49⟩
  have hC49 := k49.row hC45 off3.1
  have hP49 := k49.row hP45 off3.2
  refine ⟨_, rfl, k49 _ _ _ hC45 off3.1, (tiAt_spec h49 c okc).mono ?_⟩
  rintro e w51 ⟨rfl, x51⟩
  have h51 := h49.ext x51
  have hC51 := hC49.ext x51
  have hP51 := hP49.ext x51
  rw [eA]
  refine ⟨_, rfl, x51.heap hC49.lt, nope (by simp) ((SS ma h51).mono ?_)⟩
  rintro e w53 ⟨rfl, h53, k53⟩
  have hC53 := k53.row hC51 off3.1
  have hP53 := k53.row hP51 off3.2
  have hA1 : kAt p (kSet p M c a).1 c = a := kAt_sameP hl hpp yc ma
  have hC1 : (false || (kAt p M c != a)) = false → (kSet p M c a).1 = cellsB seed p (ldS D (idK p)).1 := fun q => by rw [hM]; exact kSet_same hl hpp.symm yc (by simpa using q)
  generalize (kSet p M c a).1 = C at *
  generalize (false || (kAt p M c != a)) = d at *
  have hl1 : C.length = 8192 := (h53.good _ (.head _)).1
  have hT5 := tru_one tc hS0 h53.good hC1
  obtain ⟨s1, s2, s3, -⟩ := hT5.save (by decide) (i := 0) (e := (p, C, d, 0)) rfl
  refine ⟨_, rfl, k53 _ _ _ hC51 off3.1, _, _, ldp hP53, ?_⟩
  rw [← hpv]
  refine (tiFlush_spec h53 (by rw [hS0.c.l]; exact Nat.zero_le _) p).mono ?_
  rintro e w57 ⟨rfl, h57, k57⟩
  have h57 : TI w34 w57 t seed 2 (flE D (onP p C d) p).1 := h57
  have e57 : (flE ((D, onP p C d) : Tb).1 ((D, onP p C d) : Tb).2 p).2 = 0 := by rw [show (flE ((D, onP p C d) : Tb).1 ((D, onP p C d) : Tb).2 p) = _ from flP]; exact s1
  rw [e57]
  have s2 : (saveE D (p, C, d, 0)).2.1 = (p, C, false, 0) := s2
  rw [flP, s2] at h57
  have s3 : Tru seed (KP p) 1 (fun q => q = p) ((saveE D (p, C, d, 0)).1, [(saveE D (p, C, d, 0)).2.1]) := s3
  rw [s2] at s3
  generalize (saveE D (p, C, d, 0)).1 = D1 at *
  have hS1 : Sfe (KP p) 16393 1 D1 := s3.s
  have hM1 : C = cellsB seed p (ldS D1 (idK p)).1 := s3.cl _ (.head _) rfl
  clear s3 hT5 hC1 L h53 e57 s2 s1
  have hC57 := k57.row hC53 off3.1
  have hP57 := k57.row hP53 off3.2
  refine ⟨_, rfl, k57 _ _ _ hC53 off3.1, nope rfl ⟨_, _, ldp hP57, ?_⟩⟩
  rw [← hpv]
  refine (tiDirty_spec h57 p).mono ?_
  rintro e w61 ⟨rfl, x61⟩
  have h61 := h57.ext x61
  have hC61 := hC57.ext x61
  have hP61 := hP57.ext x61
  refine ⟨_, rfl, x61.heap hC57.lt, nope dirtyP ((SS mb h61).mono ?_)⟩
  rintro e w63 ⟨rfl, h63, k63⟩
  have hC63 := k63.row hC61 off3.1
  have hP63 := k63.row hP61 off3.2
  refine ⟨_, rfl, k63 _ _ _ hC61 off3.1, (CR hS1.c h63).mono ?_⟩
  rintro e w65 ⟨⟨m65, rfl⟩, h65, k65⟩
  have hC65 := k65.row hC63 off3.1
  have hP65 := k65.row hP63 off3.2
  have L : ∀ {v : World}, TI w34 v t seed 2 (D1, []) → Calls Tryz.prog n_table_Table_Load #[.pointer (some ⟨t, 0, none⟩), pv p] v fun e v' => e = .returned (.int .i64 0) ∧ TI w34 v' t seed 2 (D1, onP p C false) ∧ KX v v' := by
    intro v hv
    refine (tiLoad_spec hv (by rw [hS1.c.l]; exact Nat.zero_le _) p).mono ?_
    rintro e v' ⟨rfl, h', k'⟩
    have e1 : ldE seed 2 ((D1, ([] : List En)) : Tb).1 ((D1, ([] : List En)) : Tb).2 p = _ := ldP tc
    rw [e1, ← hM1] at h'
    rw [e1]
    exact ⟨rfl, h', k'⟩
  refine ⟨_, rfl, k65 _ _ _ hC63 off3.1, _, _, ldp hP65, ?_⟩
  rw [← hpv]
  refine (L h65).mono ?_
  rintro e w69 ⟨rfl, h69, k69⟩
  have hC69 := k69.row hC65 off3.1
  have hP69 := k69.row hP65 off3.2
  refine ⟨_, rfl, k69 _ _ _ hC65 off3.1, (tiAt_spec h69 c okc).mono ?_⟩
  rintro e w71 ⟨rfl, x71⟩
  have h71 := h69.ext x71
  have hC71 := hC69.ext x71
  have hP71 := hP69.ext x71
  rw [eA, hA1]
  refine ⟨_, rfl, x71.heap hC69.lt, nope (by simp) ((SS mb h71).mono ?_)⟩
  rintro e w73 ⟨rfl, h73, k73⟩
  have hC73 := k73.row hC71 off3.1
  have hP73 := k73.row hP71 off3.2
  rw [hA1] at h73
  have hA2 : kAt p (kSet p C c b).1 c = b := kAt_sameP hl1 hpp yc mb
  generalize (kSet p C c b).1 = C2 at *
  have hd2 : (false || (a != b)) = (a != b) := Bool.false_or _
  rw [hd2] at h73
  refine ⟨_, rfl, k73 _ _ _ hC71 off3.1, ?_⟩
  obtain ⟨st, d7, f1, f2, f3⟩ := tiDisk h73
  refine nnP rfl (nnP rfl ⟨_, f1, nnP rfl (nnP rfl (nnP rfl ⟨_, f2, (f3 1 (by unfold inI; omega)).mono ?_⟩))⟩)
  rintro e w77 ⟨rfl, h77, k77⟩
  have h77 : TI w34 w77 t seed 2 (failD D1 1, onP p C2 (a != b)) := h77
  have hC77 := k77.row hC73 off3.1
  have hP77 := k77.row hP73 off3.2
  obtain ⟨v1, v2, v3, v4⟩ := save_fail tc hS1 (by decide) h77.good
  refine ⟨rfl, k77 _ _ _ hC73 off3.1, _, _, ldp hP77, ?_⟩
  rw [← hpv]
  refine (tiFlush_spec h77 (by rw [show ((failD D1 1, onP p C2 (a != b)) : Tb).1.l = [] from (fail_one hS1.c).2.1]; exact Nat.zero_le _) p).mono ?_
  rintro e w80 ⟨rfl, h80, k80⟩
  have h80 : TI w34 w80 t seed 2 (flE (failD D1 1) (onP p C2 (a != b)) p).1 := h80
  have e80 : (flE ((failD D1 1, onP p C2 (a != b)) : Tb).1 ((failD D1 1, onP p C2 (a != b)) : Tb).2 p).2 = (if (a != b) = true then 9 else 0) := by rw [show (flE ((failD D1 1, onP p C2 (a != b)) : Tb).1 ((failD D1 1, onP p C2 (a != b)) : Tb).2 p) = _ from flP]; exact v1
  rw [e80]
  rw [flP, v2] at h80
  have hC80 := k80.row hC77 off3.1
  have hP80 := k80.row hP77 off3.2
  generalize (saveE (failD D1 1) (p, C2, a != b, 0)).1 = D2 at *
  refine ⟨_, rfl, k80 _ _ _ hC77 off3.1, nope (by cases (a != b) <;> rfl) ⟨_, _, ldp hP80, ?_⟩⟩
  rw [← hpv]
  refine (tiDirty_spec h80 p).mono ?_
  rintro e w84 ⟨rfl, x84⟩
  have h84 := h80.ext x84
  have hC84 := hC80.ext x84
  have hP84 := hP80.ext x84
  refine ⟨_, rfl, x84.heap hC80.lt, nope (by show (!(dirtyE (onP p C2 (a != b)) p == (a != b))) = false; rw [dirtyP]; simp) ((tiAt_spec h84 c okc).mono ?_)⟩
  rintro e w86 ⟨rfl, x86⟩
  have h86 := h84.ext x86
  have hC86 := hC84.ext x86
  have hP86 := hP84.ext x86
  rw [eA, hA2]
  refine ⟨_, rfl, x86.heap hC84.lt, nope (by simp) ((tiCrash_spec h86 (by rw [show ((D2, onP p C2 (a != b)) : Tb).1.l = [] from v3]; exact Nat.zero_le _) (by rw [show ((D2, onP p C2 (a != b)) : Tb).1.l = [] from v3]; exact Nat.zero_le _) keep).mono ?_)⟩
  rintro e w88 ⟨rfl, h88, k88⟩
  have h88 : TI w34 w88 t seed 2 ((crashD D2 keep).1, []) := h88
  rw [v4 keep] at h88
  have hC88 := k88.row hC86 off3.1
  have hP88 := k88.row hP86 off3.2
  refine ⟨_, rfl, k88 _ _ _ hC86 off3.1, _, _, ldp hP88, ?_⟩
  rw [← hpv]
  refine (L h88).mono ?_
  rintro e w92 ⟨rfl, h92, k92⟩
  have hC92 := k92.row hC88 off3.1
  refine ⟨_, rfl, k92 _ _ _ hC88 off3.1, (tiAt_spec h92 c okc).mono ?_⟩
  rintro e w94 ⟨rfl, x94⟩
  have h94 := h92.ext x94
  rw [eA, hA1]
  refine ⟨_, rfl, x94.heap hC92.lt, yes (by simp) ((lives12_spec w94).mono ?_)⟩
  rintro e w96 ⟨rfl, x96⟩
  exact ⟨_, rfl, x96.heap (hC92.ext x94).lt, rfl, xw.tr (h94.x.tr x96)⟩
end Go.Proofs.YtbnmglonbhdcbaaGreatDoor
