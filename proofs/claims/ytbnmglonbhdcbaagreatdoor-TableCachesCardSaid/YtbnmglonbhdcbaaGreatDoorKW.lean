import Derived.Test.YtbnmglonbhdcbaaGreatDoorKV
import Derived.Test.YtbnmglonbhdcbaaGreatDoorGK
import Derived.Test.YtbnmglonbhdcbaaGreatDoorFr
set_option linter.all false
namespace Go.Proofs.YtbnmglonbhdcbaaGreatDoor
open Go Go.Vc Go.RowKit Go.Proofs Go.Chk Go.Runs Go.Code

/-! ## What is so of cells, when chunks come, go, and are set -/
section
variable {seed limit : Int} {K : List Int} {n : Nat} {Q : Po → Prop} {T : Tb}
theorem Tru.mono (h : Tru seed K n Q T) {m : Nat} (hm : n ≤ m) : Tru seed K m Q T := ⟨⟨h.s.c, h.s.ok, h.s.k, h.s.ml, fun id => Int.le_trans (h.s.v id) (by omega), h.s.r⟩, h.nod, h.good, h.pl, h.q, h.cl⟩
abbrev noP (l : List En) : Prop := ∀ e ∈ l, e.2.2.2 = 0
/-- A chunk comes. -/
theorem Tru.push (h : Tru seed K n Q T) {p : Po} {C : List Int} (hq : Q p) (hh : ¬ here1 T.2 p) (hg : goodL (T.2 ++ [(p, C, false, 0)])) (hC : C = cellsB seed p (ldS T.1 (idK p)).1) :
    Tru seed K n Q (T.1, T.2 ++ [(p, C, false, 0)]) ∧ ∀ q, tru seed (T.1, T.2 ++ [(p, C, false, 0)]) q = tru seed T q := by
  have hnd : nodL (T.2 ++ [(p, C, false, 0)]) := nod_push h.nod hh
  have hmem : ∀ x, x ∈ T.2 ++ [(p, C, false, 0)] ↔ x ∈ T.2 ∨ x = (p, C, false, 0) := fun x => by simp
  refine ⟨⟨h.s, hnd, hg, fun x hx => ?_, h.q, fun x hx hc => ?_⟩, fun q => ?_⟩
  · rcases (hmem x).1 hx with hx | rfl
    · exact h.pl x hx
    · exact hq
  · rcases (hmem x).1 hx with hx | rfl
    · exact h.cl x hx hc
    · exact hC
  · by_cases hp : here1 T.2 q
    · obtain ⟨x, hx, rfl⟩ := hp
      rw [tru_here h.nod hx, tru_here (T := (T.1, T.2 ++ [(p, C, false, 0)])) hnd ((hmem x).2 (.inl hx))]
    · rw [tru_not hp]
      by_cases e : q = p
      · subst e
        rw [tru_here (T := (T.1, T.2 ++ [(q, C, false, 0)])) (e := (q, C, false, 0)) hnd ((hmem _).2 (.inr rfl))]
        exact hC
      · rw [tru_not (T := (T.1, T.2 ++ [(p, C, false, 0)]))]
        rintro ⟨x, hx, rfl⟩
        rcases (hmem x).1 hx with hx | rfl
        · exact hp ⟨x, hx, rfl⟩
        · exact e rfl
theorem noP_erase {l : List En} (h : noP l) (i : Nat) : noP (l.eraseIdx i) := fun e he => h e ((List.eraseIdx_sublist ..).subset he)
theorem Tru.load (h : Tru seed K n Q T) (hn : n < 1000000) (h0 : noP T.2) (hl : 1 ≤ limit) {p : Po} (hq : Q p) (hg : goodL (ldE seed limit T.1 T.2 p).1.2) :
    (ldE seed limit T.1 T.2 p).2 = 0 ∧ Tru seed K (n + 1) Q (ldE seed limit T.1 T.2 p).1 ∧ (∀ q, tru seed (ldE seed limit T.1 T.2 p).1 q = tru seed T q) ∧ here1 (ldE seed limit T.1 T.2 p).1.2 p ∧ noP (ldE seed limit T.1 T.2 p).1.2 := by
  have hin := (h.q p hq).1
  rcases firstI_cases (fun e : En => e.1 == p) T.2 with ⟨hf, hno⟩ | ⟨k, e, hk, he, hf, -⟩
  · have hh : ¬ here1 T.2 p := by
      rintro ⟨x, hx, e⟩
      have := hno x hx
      simp [e] at this
    have hroom : (roomE limit T.1 T.2).2 = 0 ∧ Tru seed K (n + 1) Q (roomE limit T.1 T.2).1 ∧ (∀ q, tru seed (roomE limit T.1 T.2).1 q = tru seed T q) ∧ ¬ here1 (roomE limit T.1 T.2).1.2 p ∧ noP (roomE limit T.1 T.2).1.2 := by
      unfold roomE
      by_cases hlt : ((T.2.length : Nat) : Int) < limit
      · rw [if_pos hlt]
        exact ⟨rfl, h.mono (by omega), fun _ => rfl, hh, h0⟩
      · rw [if_neg hlt]
        rcases firstI_cases (fun e : En => e.2.2.2 == 0) T.2 with ⟨hf2, hno2⟩ | ⟨k, e, hk, he, hf2, -⟩
        · exfalso
          match hT : T.2, hlt with
          | [], hlt => simp at hlt; omega
          | e :: t, _ =>
            have he : e ∈ T.2 := by rw [hT]; exact .head _
            have h1 := hno2 e he
            have h2 := h0 e he
            simp [h2] at h1
        · rw [hf2, if_neg (by omega), Int.toNat_natCast]
          obtain ⟨g1, g2, g3⟩ := h.go (by omega) hk
          rw [g1]
          refine ⟨rfl, g2, g3, ?_, noP_erase h0 k⟩
          rintro ⟨x, hx, hxe⟩
          exact hh ⟨x, (List.eraseIdx_sublist ..).subset hx, hxe⟩
    obtain ⟨r1, r2, r3, r4, r5⟩ := hroom
    have hE : ldE seed limit T.1 T.2 p = (((roomE limit T.1 T.2).1.1, (roomE limit T.1 T.2).1.2 ++ [(p, cellsB seed p (ldS (roomE limit T.1 T.2).1.1 (idK p)).1, false, 0)]), 0) := by
      unfold ldE
      rw [if_neg (by simpa using hin), hf, if_neg (by decide), if_neg (by rw [r1]; simp)]
    rw [hE] at hg ⊢
    generalize (roomE limit T.1 T.2).1 = T' at *
    obtain ⟨p1, p2⟩ := r2.push hq r4 hg rfl
    refine ⟨rfl, p1, fun q => (p2 q).trans (r3 q), ⟨(p, cellsB seed p (ldS T'.1 (idK p)).1, false, 0), by simp, rfl⟩, fun x hx => ?_⟩
    rcases List.mem_append.1 hx with hx | hx
    · exact r5 x hx
    · simp only [List.mem_singleton] at hx
      subst hx; rfl
  · have hE : ldE seed limit T.1 T.2 p = ((T.1, T.2.eraseIdx k ++ [e]), 0) := by
      unfold ldE
      rw [if_neg (by simpa using hin), hf, if_pos (by omega), Int.toNat_natCast, hk]; rfl
    rw [hE]
    obtain ⟨t1, t2, t3⟩ := h.touch hk
    exact ⟨rfl, t1.mono (by omega), t2, ⟨e, by simp, by simpa using he⟩, fun x hx => h0 x ((t3 x).1 hx)⟩
theorem Tru.unload (h : Tru seed K n Q T) (hn : n < 1000000) (h0 : noP T.2) (p : Po) :
    Tru seed K (n + 1) Q (unldE T.1 T.2 p).1 ∧ (∀ q, tru seed (unldE T.1 T.2 p).1 q = tru seed T q) ∧ noP (unldE T.1 T.2 p).1.2 := by
  unfold unldE
  rcases firstI_cases (fun e : En => e.1 == p) T.2 with ⟨hf, hno⟩ | ⟨k, e, hk, he, hf, -⟩
  · rw [hf, if_neg (by decide)]
    exact ⟨h.mono (by omega), fun _ => rfl, h0⟩
  · rw [hf, if_pos (by omega), Int.toNat_natCast, hk, if_neg (by
      show ¬ (0 < e.2.2.2)
      rw [h0 e (List.mem_of_getElem? hk)]; decide)]
    obtain ⟨g1, g2, g3⟩ := h.go (by omega) hk
    rw [g1]
    exact ⟨g2, g3, noP_erase h0 k⟩
theorem kSet_same {p : Po} {C : List Int} (hl : C.length = 8192) {c : Ce} (hp : p = pos c) (hy : inY c) {b : Int} (h : kAt p C c = b) : (kSet p C c b).1 = C := by
  unfold kSet
  split
  · rfl
  · split
    · rfl
    · have hi := idx_in hy
      have hk : inK p c = true := (inK_iff p c).2 ⟨hy, hp.symm⟩
      unfold kAt at h
      rw [if_pos hk] at h
      have := atC_get (c := C) (i := idx c) hi.1 (by rw [hl]; omega)
      rw [h] at this
      obtain ⟨h1, h2⟩ := List.getElem?_eq_some_iff.1 this
      simp only
      rw [← h2]; exact List.set_getElem_self h1
theorem tru_at {c : Ce} (h : Tru seed K n Q T) (hh : here1 T.2 (pos c)) : atE T.2 c = if c.2.1 < 0 then 1 else kAt (pos c) (tru seed T (pos c)) c := by
  obtain ⟨e, he, hp⟩ := hh
  rw [at_here h.nod he hp, ← hp, tru_here h.nod he]
theorem set_out {c : Ce} {b : Int} {l : List En} (hh : here1 l (pos c)) (hy : ¬ inY c) : setE l c b = (l, 5) := by
  unfold setE
  rcases firstI_cases (fun e : En => e.1 == pos c) l with ⟨hf, hno⟩ | ⟨k, e, hk, he, hf, -⟩
  · obtain ⟨x, hx, e⟩ := hh
    have := hno x hx
    simp [e] at this
  · rw [hf, if_neg (by omega), if_pos hy]
theorem Tru.set (h : Tru seed K n Q T) (h0 : noP T.2) {c : Ce} (hh : here1 T.2 (pos c)) (hy : inY c) {b : Int} (hb : bMay b = true) :
    (setE T.2 c b).2 = 0 ∧ Tru seed K n Q (T.1, (setE T.2 c b).1) ∧ (∀ q, tru seed (T.1, (setE T.2 c b).1) q = if q = pos c then (kSet q (tru seed T q) c b).1 else tru seed T q) ∧ noP (setE T.2 c b).1 ∧ here1 (setE T.2 c b).1 (pos c) := by
  obtain ⟨e, he, hp⟩ := hh
  obtain ⟨k, hk, hf⟩ := first_here h.nod he
  have hs : setE T.2 c b = (T.2.eraseIdx k ++ [(e.1, (kSet e.1 e.2.1 c b).1, e.2.2.1 || (kAt e.1 e.2.1 c != b), e.2.2.2)], 0) := by
    unfold setE
    rw [← hp, hf, if_neg (by omega), if_neg (by simpa using hy), if_neg (by rw [hb]; decide), Int.toNat_natCast, hk]; rfl
  rw [hs]
  obtain ⟨g1, g2⟩ := h.good e he
  have hcl : (e.2.2.1 || (kAt e.1 e.2.1 c != b)) = false → e.2.2.1 = false ∧ (kSet e.1 e.2.1 c b).1 = e.2.1 := fun q => by
    rw [Bool.or_eq_false_iff] at q
    exact ⟨q.1, kSet_same g1 hp hy (by simpa using q.2)⟩
  have hgood := kSet_ok g1 g2 c b (p := e.1)
  have hmem := mem_erase h.nod hk
  generalize hd : (e.2.2.1 || (kAt e.1 e.2.1 c != b)) = d at *
  have hnd : nodL (T.2.eraseIdx k ++ [(e.1, (kSet e.1 e.2.1 c b).1, d, e.2.2.2)]) := nod_push (nod_erase h.nod k) fun ⟨x, hx, q⟩ => ((hmem x).1 hx).2 q
  have hall : ∀ x, x ∈ T.2.eraseIdx k ++ [(e.1, (kSet e.1 e.2.1 c b).1, d, e.2.2.2)] ↔ (x ∈ T.2 ∧ x.1 ≠ e.1) ∨ x = (e.1, (kSet e.1 e.2.1 c b).1, d, e.2.2.2) := fun x => by
    simp only [List.mem_append, List.mem_singleton, hmem]
  refine ⟨rfl, ⟨h.s, hnd, fun x hx => ?_, fun x hx => ?_, h.q, fun x hx hc => ?_⟩, fun q => ?_, fun x hx => ?_, ⟨(e.1, (kSet e.1 e.2.1 c b).1, d, e.2.2.2), (hall _).2 (.inr rfl), hp⟩⟩
  · rcases (hall x).1 hx with ⟨hx, -⟩ | rfl
    · exact h.good x hx
    · exact hgood
  · rcases (hall x).1 hx with ⟨hx, -⟩ | rfl
    · exact h.pl x hx
    · exact h.pl e he
  · rcases (hall x).1 hx with ⟨hx, -⟩ | rfl
    · exact h.cl x hx hc
    · obtain ⟨q1, q2⟩ := hcl hc
      exact q2.trans (h.cl e he q1)
  · by_cases hq : q = pos c
    · rw [if_pos hq]
      have hqe : q = e.1 := hq.trans hp.symm
      subst hqe
      rw [tru_here h.nod he]
      exact tru_here (T := (T.1, _)) (e := (e.1, (kSet e.1 e.2.1 c b).1, d, e.2.2.2)) hnd ((hall _).2 (.inr rfl))
    · rw [if_neg hq]
      by_cases hx : here1 T.2 q
      · obtain ⟨x, hx, rfl⟩ := hx
        rw [tru_here h.nod hx]
        exact tru_here (T := (T.1, _)) (e := x) hnd ((hall _).2 (.inl ⟨hx, fun q2 => hq (q2.trans hp)⟩))
      · rw [tru_not hx, tru_not]
        rintro ⟨x, hx2, rfl⟩
        rcases (hall x).1 hx2 with ⟨hx2, -⟩ | rfl
        · exact hx ⟨x, hx2, rfl⟩
        · exact hq hp
  · rcases (hall x).1 hx with ⟨hx, -⟩ | rfl
    · exact h0 x hx
    · exact h0 e he
end
end Go.Proofs.YtbnmglonbhdcbaaGreatDoor
namespace Go.Proofs.YtbnmglonbhdcbaaGreatDoor
open Go Go.Vc Go.RowKit Go.Proofs Go.Chk Go.Runs Go.Code

/-! ## Cells as the document's laws take them -/
def cellK (c : Ce) : Ce := (around c.1 80 - 32, around c.2.1 34 - 1, around c.2.2 80 - 32)
theorem cellK_ok (c : Ce) : okC (cellK c) := by
  have h1 := around_bd c.1 80 (by decide)
  have h2 := around_bd c.2.1 34 (by decide)
  have h3 := around_bd c.2.2 80 (by decide)
  unfold cellK okC inI
  exact ⟨by simp only; omega, by simp only; omega, by simp only; omega⟩
theorem rCell_spec (c : Ce) (hc : okC c) (w : World) : Calls Tryz.prog n_ref12_Cell #[cev c] w fun e w' => e = .returned (cev (cellK c)) ∧ Ext w w' := by
  apply ref12_Cell.vc
  have h1 := around_bd c.1 80 (by decide)
  have h2 := around_bd c.2.1 34 (by decide)
  have h3 := around_bd c.2.2 80 (by decide)
  intro w0 e0 w1 e1
  have z0 : w0.heap.size = w.heap.size + 1 := by rw [e0]; simp
  have x1 : Ext w w1.drew := (((Ext.rfl' w).of_alloc e0).of_alloc e1).drew
  have hb : Row w1.drew w.heap.size [.int .i64 c.1, .int .i64 c.2.1, .int .i64 c.2.2] tCe := ((by rw [e0]; exact Row.new w [_, _, _] _ : Row w0 w.heap.size [.int .i64 c.1, .int .i64 c.2.1, .int .i64 c.2.2] tCe).ext ((Ext.rfl' _).of_alloc e1)).ext (Ext.dr _)
  have r1 : LoadL w1.drew (some ⟨w.heap.size, 1, none⟩) 0 [.int .i64 c.2.1] := hb.loadL fun j hj => by simp at hj; subst hj; rfl
  have r2 : LoadL w1.drew (some ⟨w.heap.size, 2, none⟩) 0 [.int .i64 c.2.2] := hb.loadL fun j hj => by simp at hj; subst hj; rfl
  refine (around_spec c.1 80 w1.drew hc.1 (by decide) (by unfold inI; omega)).mono ?_
  rintro e w2 ⟨rfl, hw⟩; subst hw
  refine ⟨_, rfl, rfl, rfl, r2, r1, (around_spec c.2.1 34 w1.drew hc.2.1 (by decide) (by unfold inI; omega)).mono ?_⟩
  rintro e w2 ⟨rfl, hw⟩; subst hw
  refine ⟨_, rfl, rfl, rfl, r2, (around_spec c.2.2 80 w1.drew hc.2.2 (by decide) (by unfold inI; omega)).mono ?_⟩
  rintro e w2 ⟨rfl, hw⟩; subst hw
  refine ⟨_, rfl, rfl, rfl, fun w6 e6 => ⟨?_, x1.of_setRow e6 (by omega)⟩⟩
  have q1 : IntKind.wrap .i64 (around c.1 80 - 32) = around c.1 80 - 32 := wrap_in (by unfold inI; omega)
  have q2 : IntKind.wrap .i64 (around c.2.1 34 - 1) = around c.2.1 34 - 1 := wrap_in (by unfold inI; omega)
  have q3 : IntKind.wrap .i64 (around c.2.2 80 - 32) = around c.2.2 80 - 32 := wrap_in (by unfold inI; omega)
  rw [q1, q2, q3]; rfl
theorem div_spec (a : Int) (ha : inI a) (w : World) : Calls Tryz.prog n_law12_div #[.int .i64 a] w fun e w' => e = .returned (.int .i64 (a / 16)) ∧ w' = w := by
  apply law12_div.vc
  refine (rDiv1_spec a 16 ha (by decide) w).mono ?_
  rintro e w' ⟨rfl, rfl⟩
  exact ⟨_, rfl, rfl, rfl⟩
/-! ## One chunk alone -/
abbrev onP (p : Po) (C : List Int) (d : Bool) : List En := [(p, C, d, 0)]
abbrev KP (p : Po) : List Int := [2 * idK p, 2 * idK p + 1]
theorem setP {p : Po} {C : List Int} {d : Bool} {c : Ce} (hp : pos c = p) (hy : inY c) {b : Int} (hb : bMay b = true) : setE (onP p C d) c b = (onP p (kSet p C c b).1 (d || (kAt p C c != b)), 0) := by
  subst hp
  unfold setE
  rw [if_neg (by simp [firstI]), if_neg (by simpa using hy), if_neg (by rw [hb]; decide)]
  simp [firstI]
theorem atP {p : Po} {C : List Int} {d : Bool} {c : Ce} (hp : pos c = p) (hy : inY c) : atE (onP p C d) c = kAt p C c := by
  subst hp
  unfold atE
  have hy1 : ¬ c.2.1 < 0 := by unfold inY at hy; omega
  rw [if_neg (by simp [firstI]), if_neg hy1]
  simp [firstI]
theorem flP {D : Dk} {p : Po} {C : List Int} {d : Bool} : flE D (onP p C d) p = (((saveE D (p, C, d, 0)).1, [(saveE D (p, C, d, 0)).2.1]), (saveE D (p, C, d, 0)).2.2) := by
  unfold flE
  rw [if_pos (by simp [firstI])]
  simp [firstI]
theorem dirtyP {p : Po} {C : List Int} {d : Bool} : dirtyE (onP p C d) p = d := by
  unfold dirtyE
  rw [if_pos (by simp [firstI])]
  simp [firstI]
theorem ldP {seed : Int} {D : Dk} {p : Po} (hp : inT p) : ldE seed 2 D [] p = ((D, onP p (cellsB seed p (ldS D (idK p)).1) false), 0) := by
  have hr : roomE 2 D [] = ((D, []), 0) := by unfold roomE; rw [if_pos (by decide)]
  unfold ldE
  rw [if_neg (by simpa using hp), if_neg (by simp [firstI]), hr, if_neg (by simp)]
  rfl
theorem kAt_sameP {p : Po} {C : List Int} (hl : C.length = 8192) {c : Ce} (hp : pos c = p) (hy : inY c) {b : Int} (hb : bMay b = true) : kAt p (kSet p C c b).1 c = b := by
  rw [kAt_kSet hl hy hp.symm hb c hp.symm, if_pos rfl]
theorem tru_one {seed : Int} {n : Nat} {D : Dk} {p : Po} {C : List Int} {d : Bool} (hp : inT p) (hs : Sfe (KP p) 16393 n D) (hg : goodL (onP p C d)) (hc : d = false → C = cellsB seed p (ldS D (idK p)).1) : Tru seed (KP p) n (fun q => q = p) (D, onP p C d) := by
  refine ⟨hs, by simp [nodL], hg, fun e he => ?_, fun q hq => ?_, fun e he hd => ?_⟩
  · simp only [List.mem_singleton] at he; rw [he]
  · subst hq; exact ⟨hp, by simp, by simp⟩
  · simp only [List.mem_singleton] at he; subst he; exact hc hd
theorem crash_cln {D : Dk} (h : D.l = []) (keep : Int) : (crashD D keep).1 = { D with l := [], fails := 0, wait := 0 } := by
  unfold crashD
  rw [h]; rfl
theorem cln_eq {D : Dk} (h : Cln D) : ({ D with l := [], fails := 0, wait := 0 } : Dk) = D := by
  obtain ⟨h1, h2, h3⟩ := h
  cases D
  simp only at h1 h2 h3
  subst h1 h2 h3; rfl
theorem fail_one {D : Dk} (h : Cln D) : failD D 1 = { D with fails := 1, wait := 0 } ∧ (failD D 1).l = [] ∧ ({ failD D 1 with l := [], fails := 0, wait := 0 } : Dk) = D ∧ ∀ {id : Int} {body : List Int}, 1 ≤ id → id ≤ 1099511627776 → (body.length : Int) ≤ 65536 → (ofS D id).2.1 < 1073741824 → svS (failD D 1) id body = (D, 9) := by
  have e1 : failD D 1 = { D with fails := 1, wait := 0 } := by unfold failD; rw [if_neg (by decide)]
  refine ⟨e1, by rw [e1]; exact h.l, by rw [e1]; exact cln_eq h, fun {id body} h1 h2 hb hv => ?_⟩
  have ha : askD (failD D 1) = (D, true) := by
    rw [e1]
    unfold askD
    rw [if_neg (by simp), if_pos (by simp)]
    obtain ⟨l1, l2, l3⟩ := h
    cases D
    simp only at l1 l2 l3
    subst l1 l2 l3; rfl
  have ho : ofS (failD D 1) id = ofS D id := by rw [e1]; rfl
  have h0 := ofS_v D id
  have hw : wrS ((ofS D id).2.1 + 1) body = (sealB (recB ((ofS D id).2.1 + 1) body), 0) := by unfold wrS; rw [if_neg (by omega)]
  have hm : mayS id = true := by unfold mayS; simp; omega
  have hp : ∀ k b, putD (failD D 1) k b = (D, 9) := fun k b => by
    unfold putD
    rw [ha, if_pos rfl]
  unfold svS
  rw [if_pos hm, ho, hw, if_neg (by simp), hp, if_pos (by simp)]
/-- Of a store that fails once, what a save does. -/
theorem save_fail {n : Nat} {D : Dk} {p : Po} (hp : inT p) (h : Sfe (KP p) 16393 n D) (hn : n < 1000000) {C : List Int} {d : Bool} (hg : goodL (onP p C d)) :
    (saveE (failD D 1) (p, C, d, 0)).2.2 = (if d then 9 else 0) ∧ (saveE (failD D 1) (p, C, d, 0)).2.1 = (p, C, d, 0) ∧ (saveE (failD D 1) (p, C, d, 0)).1.l = [] ∧ ∀ keep, (crashD (saveE (failD D 1) (p, C, d, 0)).1 keep).1 = D := by
  obtain ⟨g1, g2⟩ := hg _ (.head _)
  have hid := idK_pos hp
  have hle : (wrB (ofC C)).length ≤ 16384 := chunk_le g1 g2
  obtain ⟨-, f2, f3, f4⟩ := fail_one h.c
  have hv := h.v (idK p)
  cases d with
  | true =>
    have e1 : saveE (failD D 1) (p, C, true, 0) = ((svS (failD D 1) (idK p) (wrB (ofC C))).1, (p, C, decide ((svS (failD D 1) (idK p) (wrB (ofC C))).2 ≠ 0), 0), (svS (failD D 1) (idK p) (wrB (ofC C))).2) := rfl
    rw [e1, f4 (by omega) (by omega) (by omega) (by omega)]
    exact ⟨rfl, rfl, h.c.l, fun keep => by rw [crash_cln h.c.l]; exact cln_eq h.c⟩
  | false =>
    have e1 : saveE (failD D 1) (p, C, false, 0) = (failD D 1, (p, C, false, 0), 0) := rfl
    rw [e1]
    exact ⟨rfl, rfl, f2, fun keep => by rw [crash_cln f2]; exact f3⟩
theorem tiDisk {w0 w : World} {t : Nat} {seed limit : Int} {T : Tb} (h : TI w0 w t seed limit T) : ∃ st d, ld w (padd (some ⟨t, 0, none⟩) 0) = some (.pointer (some ⟨st, 0, none⟩)) ∧ ld w (padd (padd (some ⟨st, 0, none⟩) 0) 0) = some (.pointer (some ⟨d, 0, none⟩)) ∧
    ∀ n, inI n → Calls Tryz.prog n_disk_Disk_Fail #[.pointer (some ⟨d, 0, none⟩), .int .i64 n] w fun e w' => e = .returned (.tuple #[]) ∧ TIRes w0 w t seed limit (failD T.1 n, T.2) w' := by
  obtain ⟨F, h1, h2, h3⟩ := h
  obtain ⟨st, d, g1, g2, g3⟩ := tfDisk h1
  refine ⟨st, d, g1, g2, fun n hn => (g3 n hn).mono ?_⟩
  rintro e w' ⟨rfl, hr⟩
  exact ⟨rfl, ti_of h1 h2 h3 hr⟩
end Go.Proofs.YtbnmglonbhdcbaaGreatDoor
namespace Go.Proofs.YtbnmglonbhdcbaaGreatDoor
open Go Go.Vc Go.RowKit Go.Proofs Go.Chk Go.Runs Go.Code

/-! ## Two tables apart -/
def T2 (w0 w : World) (s t : Nat) (seed la lb : Int) (S T : Tb) : Prop := ∃ F G, TF F w s seed la S ∧ TF G w t seed lb T ∧ Ext w0 w ∧ (∀ i, F i → w0.heap.size ≤ i) ∧ (∀ i, G i → w0.heap.size ≤ i) ∧ ∀ i, F i → ¬ G i
section
variable {w0 w w' : World} {s t : Nat} {seed la lb : Int} {S T : Tb} {n : Nat}
theorem T2.symm (h : T2 w0 w s t seed la lb S T) : T2 w0 w t s seed lb la T S := by
  obtain ⟨F, G, h1, h2, h3, h4, h5, h6⟩ := h
  exact ⟨G, F, h2, h1, h3, h5, h4, fun i hg hf => h6 i hf hg⟩
theorem T2.x (h : T2 w0 w s t seed la lb S T) : Ext w0 w := by obtain ⟨F, G, h1, h2, h3, h4, h5, h6⟩ := h; exact h3
theorem T2.ext (h : T2 w0 w s t seed la lb S T) (x : Ext w w') : T2 w0 w' s t seed la lb S T := by
  obtain ⟨F, G, h1, h2, h3, h4, h5, h6⟩ := h
  exact ⟨F, G, h1.ext x, h2.ext x, h3.tr x, h4, h5, h6⟩
theorem T2.len (h : T2 w0 w s t seed la lb S T) : 1 ≤ la := by obtain ⟨F, G, h1, -⟩ := h; exact h1.len.2.1
theorem T2.good (h : T2 w0 w s t seed la lb S T) : goodL S.2 := by obtain ⟨F, G, h1, -⟩ := h; exact h1.good
abbrev T2Res (w0 w : World) (s t : Nat) (seed la lb : Int) (S T : Tb) (w' : World) : Prop := T2 w0 w' s t seed la lb S T ∧ KX w w'
theorem t2_of {F G : Nat → Prop} {S' : Tb} (h1 : TF F w s seed la S) (h2 : TF G w t seed lb T) (h3 : Ext w0 w) (h4 : ∀ i, F i → w0.heap.size ≤ i) (h5 : ∀ i, G i → w0.heap.size ≤ i) (h6 : ∀ i, F i → ¬ G i) (hr : TRes F w s seed la S' w') : T2Res w0 w s t seed la lb S' T w' := by
  obtain ⟨F', h', ht⟩ := hr
  obtain ⟨x', f'⟩ := ht.fresh h3 h4
  exact ⟨⟨F', G, h', h2.keep ht.mod fun i hg hf => h6 i hf hg, x', f', h5, ht.apart h6 fun i hi => h2.lt hi⟩, fun j cs τ hr hτ => ht.mod.same j hr.lt (h1.no_row hr hτ)⟩
theorem t2Load (h : T2 w0 w s t seed la lb S T) (hW : S.1.l.length ≤ 1000000) (p : Po) :
    Calls Tryz.prog n_table_Table_Load #[.pointer (some ⟨s, 0, none⟩), pv p] w fun e w' => e = .returned (.int .i64 (ldE seed la S.1 S.2 p).2) ∧ T2Res w0 w s t seed la lb (ldE seed la S.1 S.2 p).1 T w' := by
  obtain ⟨F, G, h1, h2, h3, h4, h5, h6⟩ := h
  refine (tfLoad_spec h1 hW p).mono ?_
  rintro e w' ⟨rfl, hr⟩
  exact ⟨rfl, t2_of h1 h2 h3 h4 h5 h6 hr⟩
theorem t2Unload (h : T2 w0 w s t seed la lb S T) (hW : S.1.l.length ≤ 1000000) (p : Po) :
    Calls Tryz.prog n_table_Table_Unload #[.pointer (some ⟨s, 0, none⟩), pv p] w fun e w' => e = .returned (.int .i64 (unldE S.1 S.2 p).2) ∧ T2Res w0 w s t seed la lb (unldE S.1 S.2 p).1 T w' := by
  obtain ⟨F, G, h1, h2, h3, h4, h5, h6⟩ := h
  refine (tfUnload_spec h1 hW p).mono ?_
  rintro e w' ⟨rfl, hr⟩
  exact ⟨rfl, t2_of h1 h2 h3 h4 h5 h6 hr⟩
theorem t2At (h : T2 w0 w s t seed la lb S T) (c : Ce) (hc : okC c) :
    Calls Tryz.prog n_table_Table_At #[.pointer (some ⟨s, 0, none⟩), cev c] w fun e w' => e = .returned (.int .i64 (atE S.2 c)) ∧ Ext w w' := by
  obtain ⟨F, G, h1, h2, h3, h4, h5, h6⟩ := h
  exact tfAt_spec h1 c hc
theorem t2Set (h : T2 w0 w s t seed la lb S T) (c : Ce) (hc : okC c) (b : Int) :
    Calls Tryz.prog n_table_Table_Set #[.pointer (some ⟨s, 0, none⟩), cev c, .int .i64 b] w fun e w' => e = .returned (.int .i64 (setE S.2 c b).2) ∧ T2Res w0 w s t seed la lb (S.1, (setE S.2 c b).1) T w' := by
  obtain ⟨F, G, h1, h2, h3, h4, h5, h6⟩ := h
  refine (tfSet_spec h1 c hc b).mono ?_
  rintro e w' ⟨rfl, hr⟩
  exact ⟨rfl, t2_of h1 h2 h3 h4 h5 h6 hr⟩
/-! ## The chunks near 0 -/
def posQ : List Po := [(-2, -2), (-2, -1), (-2, 0), (-2, 1), (-2, 2), (-1, -2), (-1, -1), (-1, 0), (-1, 1), (-1, 2), (0, -2), (0, -1), (0, 0), (0, 1), (0, 2), (1, -2), (1, -1), (1, 0), (1, 1), (1, 2), (2, -2), (2, -1), (2, 0), (2, 1), (2, 2)]
def KQ : List Int := posQ.flatMap KP
theorem posQ_in : ∀ p ∈ posQ, inT p := by decide
theorem posQ_of {p : Po} (h1 : -2 ≤ p.1 ∧ p.1 ≤ 2) (h2 : -2 ≤ p.2 ∧ p.2 ≤ 2) : p ∈ posQ := by
  obtain ⟨a, b⟩ := p
  simp only at h1 h2
  have ha : a = -2 ∨ a = -1 ∨ a = 0 ∨ a = 1 ∨ a = 2 := by omega
  have hb : b = -2 ∨ b = -1 ∨ b = 0 ∨ b = 1 ∨ b = 2 := by omega
  rcases ha with rfl | rfl | rfl | rfl | rfl <;> rcases hb with rfl | rfl | rfl | rfl | rfl <;> decide
theorem cellK_pos (c : Ce) : pos (cellK c) ∈ posQ := by
  obtain ⟨h1, h2, h3⟩ := (show ((-32 ≤ (cellK c).1 ∧ (cellK c).1 ≤ 47) ∧ True ∧ -32 ≤ (cellK c).2.2 ∧ (cellK c).2.2 ≤ 47) from by
    have h1 := around_bd c.1 80 (by decide)
    have h3 := around_bd c.2.2 80 (by decide)
    unfold cellK
    refine ⟨⟨?_, ?_⟩, trivial, ?_, ?_⟩ <;> simp only <;> omega)
  refine posQ_of ?_ ?_ <;> unfold pos <;> simp only <;> omega
theorem tru_new {seed : Int} : Tru seed KQ 0 (fun p => p ∈ posQ) (dk0 1000000, []) := by
  refine ⟨Sfe.new (by show ((50 * 16393 : Nat) : Int) ≤ _; decide), List.nodup_nil, (fun e he => by cases he), (fun e he => by cases he), fun p hp => ⟨posQ_in p hp, ?_, ?_⟩, (fun e he => by cases he)⟩
  · exact List.mem_flatMap.2 ⟨p, hp, by simp⟩
  · exact List.mem_flatMap.2 ⟨p, hp, by simp⟩
/-- Two tables of which the same is so of all cells. -/
structure Eqv (w0 w : World) (s t : Nat) (seed la lb : Int) (n : Nat) (S T : Tb) : Prop where
  tt : T2 w0 w s t seed la lb S T
  a : Tru seed KQ n (fun p => p ∈ posQ) S
  b : Tru seed KQ n (fun p => p ∈ posQ) T
  e : ∀ p, tru seed S p = tru seed T p
  na : noP S.2
  nb : noP T.2
theorem Eqv.symm (h : Eqv w0 w s t seed la lb n S T) : Eqv w0 w t s seed lb la n T S := ⟨h.tt.symm, h.b, h.a, fun p => (h.e p).symm, h.nb, h.na⟩
theorem Eqv.ext (h : Eqv w0 w s t seed la lb n S T) (x : Ext w w') : Eqv w0 w' s t seed la lb n S T := ⟨h.tt.ext x, h.a, h.b, h.e, h.na, h.nb⟩
theorem Eqv.mono (h : Eqv w0 w s t seed la lb n S T) {m : Nat} (hm : n ≤ m) : Eqv w0 w s t seed la lb m S T := ⟨h.tt, h.a.mono hm, h.b.mono hm, h.e, h.na, h.nb⟩
theorem eqLoad (h : Eqv w0 w s t seed la lb n S T) (hn : n < 1000000) {p : Po} (hq : p ∈ posQ) :
    Calls Tryz.prog n_table_Table_Load #[.pointer (some ⟨s, 0, none⟩), pv p] w fun e w' => e = .returned (.int .i64 0) ∧ KX w w' ∧ ∃ S', Eqv w0 w' s t seed la lb (n + 1) S' T ∧ here1 S'.2 p := by
  refine (t2Load h.tt (by rw [h.a.s.c.l]; exact Nat.zero_le _) p).mono ?_
  rintro e w' ⟨rfl, h', k'⟩
  obtain ⟨r1, r2, r3, r4, r5⟩ := h.a.load (limit := la) hn h.na h.tt.len hq h'.good
  rw [r1]
  exact ⟨rfl, k', _, ⟨h', r2, h.b.mono (by omega), fun q => (r3 q).trans (h.e q), r5, h.nb⟩, r4⟩
theorem eqUnload (h : Eqv w0 w s t seed la lb n S T) (hn : n < 1000000) (p : Po) :
    Calls Tryz.prog n_table_Table_Unload #[.pointer (some ⟨s, 0, none⟩), pv p] w fun e w' => (∃ m : Int, e = .returned (.int .i64 m)) ∧ KX w w' ∧ ∃ S', Eqv w0 w' s t seed la lb (n + 1) S' T := by
  refine (t2Unload h.tt (by rw [h.a.s.c.l]; exact Nat.zero_le _) p).mono ?_
  rintro e w' ⟨rfl, h', k'⟩
  obtain ⟨r2, r3, r5⟩ := h.a.unload hn h.na p
  exact ⟨⟨_, rfl⟩, k', _, h', r2, h.b.mono (by omega), fun q => (r3 q).trans (h.e q), r5, h.nb⟩
/-- A cell is set in both. -/
theorem eqSet (h : Eqv w0 w s t seed la lb n S T) {c : Ce} {b : Int} (hb : bMay b = true) (hs : here1 S.2 (pos c)) (ht : here1 T.2 (pos c)) (h2 : T2 w0 w' s t seed la lb (S.1, (setE S.2 c b).1) (T.1, (setE T.2 c b).1)) :
    (setE S.2 c b).2 = (setE T.2 c b).2 ∧ ∃ S' T', Eqv w0 w' s t seed la lb n S' T' := by
  by_cases hy : inY c
  · obtain ⟨a1, a2, a3, a4, -⟩ := h.a.set h.na hs hy hb
    obtain ⟨b1, b2, b3, b4, -⟩ := h.b.set h.nb ht hy hb
    exact ⟨a1.trans b1.symm, _, _, h2, a2, b2, fun p => by rw [a3, b3, h.e], a4, b4⟩
  · rw [set_out hs hy, set_out ht hy] at h2 ⊢
    exact ⟨rfl, S, T, h2, h.a, h.b, h.e, h.na, h.nb⟩
theorem eqAt (h : Eqv w0 w s t seed la lb n S T) {c : Ce} (hs : here1 S.2 (pos c)) (ht : here1 T.2 (pos c)) : atE S.2 c = atE T.2 c ∧ atE S.2 c ≠ -1 := by
  refine ⟨by rw [tru_at h.a hs, tru_at h.b ht, h.e], ?_⟩
  by_cases hy : inY c
  · exact may_ne (at_may h.a.nod h.a.good hs hy)
  · rw [tru_at h.a hs]
    split
    · decide
    · have hk : inK (pos c) c = false := by
        cases q : inK (pos c) c with
        | false => rfl
        | true => exact absurd ((inK_iff _ _).1 q).1 hy
      unfold kAt
      rw [hk, if_neg (by decide)]
      decide
end
end Go.Proofs.YtbnmglonbhdcbaaGreatDoor
namespace Go.Proofs.YtbnmglonbhdcbaaGreatDoor
open Go Go.Vc Go.RowKit Go.Proofs Go.Chk Go.Runs Go.Code

set_option maxRecDepth 100000 in
theorem TableCaches_law (seed a b : Int) (s : Sl) (z : List Dd) (w : World) (hs : RdK w s 9 (z.map dR)) (hz : ∀ d ∈ z, DdOk w d) : Calls Tryz.prog n_law12_TableCaches #[.int .i64 seed, .int .i64 a, .int .i64 b, .slice s.a s.n s.c] w fun e w' => e = .returned (.bool true) ∧ Ext w w' := by
  apply (law12_TableCaches.vc (a3 := s))
  have hsn := hs.n
  rw [List.length_map] at hsn
  refine (tfNew_spec seed a 1000000 w).mono ?_
  rintro e w0 ⟨ta, F, rfl, hF, x0, fF⟩
  refine ⟨_, rfl, (tfNew_spec seed b 1000000 w0).mono ?_⟩
  rintro e w2 ⟨tb, G, rfl, hG, x2, fG⟩
  generalize min (max a 1) 16 = la at *
  generalize min (max b 1) 16 = lb at *
  have hQ : Eqv w w2 ta tb seed la lb 0 (dk0 1000000, []) (dk0 1000000, []) := ⟨⟨F, G, hF.ext x2, hG, x0.tr x2, fF, fun i hi => Nat.le_trans x0.size (fG i hi), fun i hf hg => by have := hF.lt hf; have := fG i hg; omega⟩, tru_new, tru_new, fun _ => rfl, (fun e he => by cases he), (fun e he => by cases he)⟩
  generalize dk0 1000000 = D0 at *
  refine ⟨_, rfl, nope rfl (nope rfl ⟨fun n i wr => ∃ (k m : Nat) (S T : Tb), i = k ∧ k + n = z.length ∧ k ≤ 12 ∧ m ≤ 30 * k ∧ Eqv w wr ta tb seed la lb m S T, ⟨z.length, 0, 0, _, _, rfl, by omega, by omega, Nat.le_refl _, hQ⟩, ?_⟩)⟩
  clear hQ hF hG fF fG x0 x2
  rintro n5 us i w8 ⟨k, m, S, T, rfl, hk, hk12, hm, hQ⟩
  have tail : Calls Tryz.prog n_law12_lives #[] w8 fun e w115 => ∃ (b116 : Bool), e = .returned (.bool b116) ∧ (Ending.returned (.bool b116) = .returned (.bool true) ∧ Ext w w115) := by
    refine (lives12_spec w8).mono ?_
    rintro e w' ⟨rfl, x'⟩
    exact ⟨_, rfl, rfl, hQ.tt.x.tr x'⟩
  refine Br.mk (fun hc => Br.mk (fun hc12 => ?_) (fun _ => tail)) (fun _ => tail)
  simp only [decide_eq_true_eq] at hc hc12
  clear tail
  obtain ⟨d, hd⟩ := get_lt (l := z) (i := k) (by omega)
  have hdk := hz d (List.mem_of_getElem? hd)
  have xw := hQ.tt.x
  obtain ⟨-, -, -, icx, icy, icz, ib, inn⟩ := hdk.i
  have cellAt : ∀ {v : World} {j : Nat} {d : Dd}, z[j]? = some d → Ext w v → LoadL v (padd (padd s.a (((j : Nat) : Int).toNat * 9)) 3) 0 [.int .i64 d.cx, .int .i64 d.cy, .int .i64 d.cz] := fun {v j d} hd x =>
    LoadL_of fun q u hq => by
      rw [Nat.zero_add, padd_padd]
      refine (dd_at hs x hd).2.2 (3 + q) u ?_
      match q, hq with
      | 0, hq => exact hq
      | 1, hq => exact hq
      | 2, hq => exact hq
  obtain ⟨hin, hso, hld⟩ := dd_at hs xw hd
  refine ⟨hin, nnP hso ⟨_, _, _, cellAt hd xw, (rCell_spec (d.cx, d.cy, d.cz) ⟨icx, icy, icz⟩ w8).mono ?_⟩⟩
  rintro e w13 ⟨rfl, x13⟩
  have okc := cellK_ok (d.cx, d.cy, d.cz)
  have tc := cellK_pos (d.cx, d.cy, d.cz)
  refine ⟨_, _, _, rfl, ?_⟩
  generalize cellK (d.cx, d.cy, d.cz) = c at *
  intro w17 e17 w18 e18
  have x18 : Ext w8 w18 := (x13.of_alloc e17).of_setRow e18 x13.size
  have hC18 : Row w18 w13.heap.size [.int .i64 c.1, .int .i64 c.2.1, .int .i64 c.2.2] tCe := by rw [e18]; exact Row.set (by rw [e17]; exact Row.new w13 [_, _, _] _) _
  clear e17 e18
  obtain ⟨hin, hso, hld⟩ := dd_at hs (xw.tr x18) hd
  refine ⟨hin, nnP hso ⟨_, hld 6 _ rfl, (ref04_Good_spec d.b w18 ib).mono ?_⟩⟩
  rintro e w20 ⟨rfl, hw⟩; subst hw
  have mb := (bGood_bd d.b).2.2
  generalize bGood d.b = bb at *
  have hQ := hQ.ext x18
  have xw := hQ.tt.x
  have i1 : inI c.1 := okc.1
  have i3 : inI c.2.2 := okc.2.2
  generalize w13.heap.size = bc at *
  refine ⟨_, rfl, rfl, fun q wq => ∃ bp, q = some ⟨bp, 0, none⟩ ∧ Row wq bp [.int .i64 (c.1 / 16), .int .i64 (c.2.2 / 16)] tPo ∧ Ext w20 wq, ?_, ?_⟩
  · have xd := Ext.dr w20
    have ldC : ∀ {v}, Ext w20 v → LoadL v (some ⟨bc, 2, none⟩) 0 [.int .i64 c.2.2] := fun x => (hC18.ext x).loadL fun j hj => by simp at hj; subst hj; rfl
    have hbc := hC18.lt
    have leaf : ∀ wz wa wb : World, Ext w20 wz → wa = wz.alloc (.cells #[.int .i64 0, .int .i64 0] tPo) → wb = wa.setRow wz.heap.size #[.int .i64 (c.1 / 16), .int .i64 (c.2.2 / 16)] →
        ([.int .i64 c.1, .int .i64 c.2.1, .int .i64 c.2.2] : List Value) = [.int .i64 c.1, .int .i64 c.2.1, .int .i64 c.2.2] ∧ ∃ bp, some (Addr.mk wz.heap.size 0 none) = some ⟨bp, 0, none⟩ ∧ Row wb bp [.int .i64 (c.1 / 16), .int .i64 (c.2.2 / 16)] tPo ∧ Ext w20 wb := by
      intro wz wa wb xz ea eb
      refine ⟨rfl, _, rfl, ?_, (xz.of_alloc ea).of_setRow eb xz.size⟩
      rw [eb]; exact Row.set (by rw [ea]; exact Row.new wz [_, _] _) _
    refine ⟨(div_spec c.1 i1 _).mono ?_, fun wa ea => (div_spec c.1 i1 _).mono ?_⟩
    · rintro e w14 ⟨rfl, hw⟩; subst hw
      refine ⟨_, rfl, rfl, ldC xd, (div_spec c.2.2 i3 _).mono ?_, fun wa ea => (div_spec c.2.2 i3 _).mono ?_⟩
      · rintro e w16 ⟨rfl, hw⟩; subst hw
        exact ⟨_, rfl, rfl, fun wa ea wb eb => leaf _ wa wb xd ea eb, fun wa ea wb eb => leaf _ wa wb xd ea eb⟩
      · rintro e w23 ⟨rfl, hw⟩; subst hw
        exact ⟨_, rfl, rfl, rfl, fun wb eb => leaf _ _ wb xd ea eb⟩
    · rintro e w27 ⟨rfl, hw⟩; subst hw
      refine ⟨_, rfl, rfl, rfl, ldC (xd.of_alloc ea), (div_spec c.2.2 i3 _).mono ?_⟩
      rintro e w29 ⟨rfl, hw⟩; subst hw
      exact ⟨_, rfl, rfl, rfl, fun wb eb => leaf _ _ wb xd ea eb⟩
  rintro us41 p42 w43 ⟨bp, rfl, hP43, x43⟩
  have xdr := Ext.dr w43
  have hC := (hC18.ext x43).ext xdr
  have hP := hP43.ext xdr
  have hQ := (hQ.ext x43).ext xdr
  generalize w43.drew = w44 at *
  clear hP43 hC18 x43 xdr x18 xw hld hin
  have ldp : ∀ {v : World} {bp : Nat} {c : Ce}, Row v bp [.int .i64 (c.1 / 16), .int .i64 (c.2.2 / 16)] tPo → LoadL v (some ⟨bp, 0, none⟩) 0 [.int .i64 (c.1 / 16), .int .i64 (c.2.2 / 16)] := fun h => h.loadL fun j hj => by rw [Nat.zero_add]
  have ldc : ∀ {v : World} {bp : Nat} {c : Ce}, Row v bp [.int .i64 c.1, .int .i64 c.2.1, .int .i64 c.2.2] tCe → LoadL v (some ⟨bp, 0, none⟩) 0 [.int .i64 c.1, .int .i64 c.2.1, .int .i64 c.2.2] := fun h => h.loadL fun j hj => by rw [Nat.zero_add]
  refine ⟨_, _, ldp hP, (eqLoad hQ (by omega) tc).mono ?_⟩
  rintro e w46 ⟨rfl, k46, S1, h46, hs1⟩
  have hC46 := k46.row hC off3.1
  have hP46 := k46.row hP off3.2
  refine ⟨_, rfl, k46 _ _ _ hC off3.1, nope rfl ⟨_, _, ldp hP46, (eqLoad h46.symm (by omega) tc).mono ?_⟩⟩
  rintro e w50 ⟨rfl, k50, T1, h50, ht1⟩
  have h50 := h50.symm
  have hC50 := k50.row hC46 off3.1
  have hP50 := k50.row hP46 off3.2
  refine ⟨_, rfl, k50 _ _ _ hC46 off3.1, nope rfl ((t2Set h50.tt c okc bb).mono ?_)⟩
  rintro e w52 ⟨rfl, h52, k52⟩
  have hC52 := k52.row hC50 off3.1
  have hP52 := k52.row hP50 off3.2
  refine ⟨_, rfl, k52 _ _ _ hC50 off3.1, ldc hC52, (t2Set h52.symm c okc bb).mono ?_⟩
  rintro e w54 ⟨rfl, h54, k54⟩
  have hC54 := k54.row hC52 off3.1
  have hP54 := k54.row hP52 off3.2
  obtain ⟨ec, S2, T2', hQ54⟩ := eqSet h50 mb hs1 ht1 h54.symm
  refine ⟨_, rfl, k54 _ _ _ hC52 off3.1, nope (by simpa using ec) ?_⟩
  clear h54 h52 h50 h46 hQ ec
  obtain ⟨hin, hso, hld⟩ := dd_at hs hQ54.tt.x hd
  refine ⟨fun wq => ∃ S T, Eqv w wq ta tb seed la lb (m + 3) S T ∧ Row wq bc [.int .i64 c.1, .int .i64 c.2.1, .int .i64 c.2.2] tCe, ⟨hin, nnP hso ⟨_, hld 7 _ rfl, Br.mk (fun _ => ⟨_, _, ldp hP54, (eqUnload hQ54.symm (by omega) (pos c)).mono ?_⟩) (fun _ => ⟨rfl, _, _, hQ54.mono (by omega), hC54⟩)⟩⟩, ?_⟩
  · rintro e w60 ⟨⟨m60, rfl⟩, k60, T3, h60⟩
    exact ⟨_, rfl, k60 _ _ _ hC54 off3.1, rfl, _, _, h60.symm, k60.row hC54 off3.1⟩
  rintro us62 w63 ⟨S3, T3, h63, hC63⟩
  clear hQ54 hC54 hP54 hC52 hP52 hC50 hP50 hC46 hP46 hC hP hld hin
  refine ⟨fun n i wr => ∃ (j : Nat) (S T : Tb), i = j ∧ j + n = k + 1 ∧ Eqv w wr ta tb seed la lb (m + 3 + 2 * j) S T ∧ Row wr bc [.int .i64 c.1, .int .i64 c.2.1, .int .i64 c.2.2] tCe, ⟨k + 1, rfl, 0, _, _, rfl, by omega, h63, hC63⟩, ?_⟩
  clear h63 hC63
  rintro n65 us66 x67 w68 ⟨j, S4, T4, rfl, hj, h68, hC68⟩
  have wk : IntKind.wrap .i64 ((k : Int) + 1) = ((k + 1 : Nat) : Int) := by rw [wrap_in (by unfold inI; omega)]; omega
  refine Br.mk (fun hjk => ?_) (fun hjk => by
    simp only [decide_eq_false_iff_not] at hjk
    exact ⟨n5 - 1, by omega, k + 1, m + 3 + 2 * j, S4, T4, wk, by omega, by omega, by omega, h68⟩)
  simp only [decide_eq_true_eq] at hjk
  have wj : IntKind.wrap .i64 ((j : Int) + 1) = ((j + 1 : Nat) : Int) := by rw [wrap_in (by unfold inI; omega)]; omega
  obtain ⟨d', hd'⟩ := get_lt (l := z) (i := j) (by omega)
  have hdk' := hz d' (List.mem_of_getElem? hd')
  obtain ⟨-, -, -, jcx, jcy, jcz, jb, jnn⟩ := hdk'.i
  have xw := h68.tt.x
  obtain ⟨hin, hso, hld⟩ := dd_at hs xw hd'
  refine ⟨hin, nnP hso ⟨_, _, _, cellAt hd' xw, (rCell_spec (d'.cx, d'.cy, d'.cz) ⟨jcx, jcy, jcz⟩ w68).mono ?_⟩⟩
  rintro e w73 ⟨rfl, x73⟩
  have okf := cellK_ok (d'.cx, d'.cy, d'.cz)
  have tf := cellK_pos (d'.cx, d'.cy, d'.cz)
  refine ⟨_, _, _, rfl, x73.heap hC68.lt, ?_⟩
  generalize cellK (d'.cx, d'.cy, d'.cz) = f at *
  intro w77 e77 w78 e78
  have x78 : Ext w68 w78 := (x73.of_alloc e77).of_setRow e78 x73.size
  have hf78 : Row w78 w73.heap.size [.int .i64 f.1, .int .i64 f.2.1, .int .i64 f.2.2] tCe := by rw [e78]; exact Row.set (by rw [e77]; exact Row.new w73 [_, _, _] _) _
  clear e77 e78
  have hQ := h68.ext x78
  have hC78 := hC68.ext x78
  have i1 : inI f.1 := okf.1
  have i3 : inI f.2.2 := okf.2.2
  generalize w73.heap.size = bf at *
  refine ⟨fun q wq => ∃ bp, q = some ⟨bp, 0, none⟩ ∧ Row wq bp [.int .i64 (f.1 / 16), .int .i64 (f.2.2 / 16)] tPo ∧ Ext w78 wq, ?_, ?_⟩
  · have xd := Ext.dr w78
    have ldC : ∀ {v}, Ext w78 v → LoadL v (some ⟨bf, 2, none⟩) 0 [.int .i64 f.2.2] := fun x => (hf78.ext x).loadL fun j hj => by simp at hj; subst hj; rfl
    have leaf : ∀ wz wa wb : World, Ext w78 wz → wa = wz.alloc (.cells #[.int .i64 0, .int .i64 0] tPo) → wb = wa.setRow wz.heap.size #[.int .i64 (f.1 / 16), .int .i64 (f.2.2 / 16)] →
        ([.int .i64 c.1, .int .i64 c.2.1, .int .i64 c.2.2] : List Value) = [.int .i64 c.1, .int .i64 c.2.1, .int .i64 c.2.2] ∧ ([.int .i64 f.1, .int .i64 f.2.1, .int .i64 f.2.2] : List Value) = [.int .i64 f.1, .int .i64 f.2.1, .int .i64 f.2.2] ∧ ∃ bp, some (Addr.mk wz.heap.size 0 none) = some ⟨bp, 0, none⟩ ∧ Row wb bp [.int .i64 (f.1 / 16), .int .i64 (f.2.2 / 16)] tPo ∧ Ext w78 wb := by
      intro wz wa wb xz ea eb
      refine ⟨rfl, rfl, _, rfl, ?_, (xz.of_alloc ea).of_setRow eb xz.size⟩
      rw [eb]; exact Row.set (by rw [ea]; exact Row.new wz [_, _] _) _
    refine ⟨(div_spec f.1 i1 _).mono ?_, fun wa ea => (div_spec f.1 i1 _).mono ?_⟩
    · rintro e w14 ⟨rfl, hw⟩; subst hw
      refine ⟨_, rfl, rfl, rfl, ldC xd, (div_spec f.2.2 i3 _).mono ?_, fun wa ea => (div_spec f.2.2 i3 _).mono ?_⟩
      · rintro e w16 ⟨rfl, hw⟩; subst hw
        exact ⟨_, rfl, rfl, rfl, fun wa ea wb eb => leaf _ wa wb xd ea eb, fun wa ea wb eb => leaf _ wa wb xd ea eb⟩
      · rintro e w23 ⟨rfl, hw⟩; subst hw
        exact ⟨_, rfl, rfl, rfl, rfl, fun wb eb => leaf _ _ wb xd ea eb⟩
    · rintro e w27 ⟨rfl, hw⟩; subst hw
      refine ⟨_, rfl, rfl, rfl, rfl, ldC (xd.of_alloc ea), (div_spec f.2.2 i3 _).mono ?_⟩
      rintro e w29 ⟨rfl, hw⟩; subst hw
      exact ⟨_, rfl, rfl, rfl, rfl, fun wb eb => leaf _ _ wb xd ea eb⟩
  rintro us98 p99 w100 ⟨bq, rfl, hP100, x100⟩
  have hC100 := hC78.ext x100
  have hf100 := hf78.ext x100
  have hQ := hQ.ext x100
  refine ⟨_, _, ldp hP100, (eqLoad hQ (by omega) tf).mono ?_⟩
  rintro e w103 ⟨rfl, k103, S5, h103, hs5⟩
  have hC103 := k103.row hC100 off3.1
  have hf103 := k103.row hf100 off3.1
  have hP103 := k103.row hP100 off3.2
  refine ⟨_, rfl, k103 _ _ _ hC100 off3.1, k103 _ _ _ hf100 off3.1, nope rfl ⟨_, _, ldp hP103, (eqLoad h103.symm (by omega) tf).mono ?_⟩⟩
  rintro e w107 ⟨rfl, k107, T5, h107, ht5⟩
  have h107 := h107.symm
  have hC107 := k107.row hC103 off3.1
  have hf107 := k107.row hf103 off3.1
  have xd := Ext.dr w107
  have h107d := h107.ext xd
  have hC107d := hC107.ext xd
  have hf107d := hf107.ext xd
  refine ⟨_, rfl, k107 _ _ _ hC103 off3.1, k107 _ _ _ hf103 off3.1, nope rfl ((t2At h107d.tt f okf).mono ?_)⟩
  rintro e w109 ⟨rfl, x109⟩
  have h109 := h107d.ext x109
  have hC109 := hC107d.ext x109
  have hf109 := hf107d.ext x109
  obtain ⟨ea, en⟩ := eqAt h109 hs5 ht5
  refine ⟨_, rfl, x109.heap hC107d.lt, x109.heap hf107d.lt, ldc hf109, (t2At h109.symm.tt f okf).mono ?_⟩
  rintro e w111 ⟨rfl, x111⟩
  have h111 := h109.ext x111
  have hC111 := hC109.ext x111
  have hf111 := hf109.ext x111
  refine ⟨_, rfl, x111.heap hC109.lt, x111.heap hf109.lt, nope (by simpa using ea) ((t2At h111.tt f okf).mono ?_)⟩
  rintro e w113 ⟨rfl, x113⟩
  exact ⟨_, rfl, x113.heap hC111.lt, x113.heap hf111.lt, nope (by simpa using en) ⟨n65 - 1, by omega, rfl, j + 1, S5, T5, wj, by omega, (h111.ext x113).mono (by omega), hC111.ext x113⟩⟩
end Go.Proofs.YtbnmglonbhdcbaaGreatDoor
namespace Go.Proofs.YtbnmglonbhdcbaaGreatDoor
open Go Go.Vc Go.RowKit Go.Proofs Go.Chk

def toD (r : List Int × Sl × List Int) : Dd := ⟨r.1.getD 0 0, r.1.getD 1 0, r.1.getD 2 0, r.1.getD 3 0, r.1.getD 4 0, r.1.getD 5 0, r.1.getD 6 0, r.1.getD 7 0, r.2.1, r.2.2⟩
theorem toD_ok {w : World} {s : Sl} {z : List (List Int × Sl × List Int)} (hs : RdK w s 9 (z.map fun r => (r.1.map fun n => .int .i64 n) ++ [.slice r.2.1.a r.2.1.n r.2.1.c])) (hz : ∀ r ∈ z, r.1.length = 8 ∧ (∀ n ∈ r.1, inI n) ∧ RdK w r.2.1 1 (r.2.2.map fun n => [.int .u8 n]) ∧ (∀ n ∈ r.2.2, 0 ≤ n ∧ n < 256) ∧ r.2.1.n ≤ r.2.1.c) :
    RdK w s 9 ((z.map toD).map dR) ∧ ∀ d ∈ z.map toD, DdOk w d := by
  have e : ∀ r ∈ z, (r.1.map fun n => Value.int .i64 n) ++ [.slice r.2.1.a r.2.1.n r.2.1.c] = dR (toD r) ∧ DdOk w (toD r) := fun r hr => by
    obtain ⟨h1, h2, h3, h4, h5⟩ := hz r hr
    obtain ⟨r1, r2⟩ := r
    match r1, h1, h2 with
    | [a0, a1, a2, a3, a4, a5, a6, a7], _, h2 =>
      exact ⟨rfl, ⟨h2 a0 (by simp), h2 a1 (by simp), h2 a2 (by simp), h2 a3 (by simp), h2 a4 (by simp), h2 a5 (by simp), h2 a6 (by simp), h2 a7 (by simp)⟩, h3, h4, h5⟩
  constructor
  · rw [List.map_map]
    have : (z.map fun r => (r.1.map fun n => Value.int .i64 n) ++ [.slice r.2.1.a r.2.1.n r.2.1.c]) = z.map (dR ∘ toD) := List.map_congr_left fun r hr => (e r hr).1
    rw [← this]; exact hs
  · intro d hd
    obtain ⟨r, hr, rfl⟩ := List.mem_map.1 hd
    exact (e r hr).2
end Go.Proofs.YtbnmglonbhdcbaaGreatDoor
