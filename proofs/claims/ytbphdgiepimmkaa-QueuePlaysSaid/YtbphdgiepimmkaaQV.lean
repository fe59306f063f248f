import Derived.Test.YtbphdgiepimmkaaQU
set_option linter.all false
namespace Go.Proofs.Ytbphdgiepimmkaa
open Go Go.Vc Go.RowKit Go.Proofs Go.Que

set_option hygiene false in
local macro "keeps" h:term : tactic => `(tactic| repeat (refine And.intro (($h).block _ (by omega)) ?_))
theorem qadd_mem {q : QS} {c : Cl} {t : Int} {x : It} (h : x ∈ (qadd q c t).1.l) : x ∈ q.l ∨ x = (t, c) := by
  unfold qadd at h
  split at h
  · split at h
    · exact .inl h
    · rcases (qins_mem _ _ _).1 h with h | h
      · exact .inr h
      · exact .inl ((qdrop_sub _ _).subset h)
  · split at h
    · exact .inl h
    · rcases (qins_mem _ _ _).1 h with h | h
      · exact .inr h
      · exact .inl h
theorem deed_small {q : QS} {k n m : Int} {c : Cl} (h : ∀ x ∈ q.l, x.2.1 < 9) (hc : c.1 < 3) : ∀ x ∈ (deed q k n m c).l, x.2.1 < 9 := by
  intro x hx
  unfold deed at hx
  split at hx
  · rcases qadd_mem hx with hx | rfl
    · exact h x hx
    · show c.1 < 9; omega
  · split at hx
    · exact h x (List.mem_of_mem_drop hx)
    · split at hx
      · exact h x ((qdrop_sub _ _).subset hx)
      · rcases qadd_mem hx with hx | rfl
        · rcases qadd_mem hx with hx | rfl
          · exact h x hx
          · show c.1 < 9; omega
        · show c.1 + 1 < 9; omega
theorem cell_of {w : World} {s : Sl} {l : List It} (h : RdK w s 4 (l.map itv)) {i : Nat} {x : It} (hi : l[i]? = some x) : LoadL w (padd (padd s.a (i * 4)) 1) 0 (clv x.2) := by
  rw [padd_padd]
  refine LoadL_of fun j v hj => ?_
  have h1 := h.rd i (itv x) (by rw [List.getElem?_map, hi]; rfl)
  rw [Nat.zero_add, padd_padd, Nat.add_assoc]
  exact h1 (1 + j) v (by rw [Nat.add_comm]; exact hj)
theorem tick_of {w : World} {s : Sl} {l : List It} (h : RdK w s 4 (l.map itv)) {i : Nat} {x : It} (hi : l[i]? = some x) : ld w (padd (padd s.a (i * 4)) 0) = some (.int .i64 x.1) :=
  h.at (i := i) (r := itv x) (by rw [List.getElem?_map, hi]; rfl) rfl
theorem like_spec' {w : World} {g m : Nat} {s r : Sl} {q : QS} (h : QIs w g m s q) (hr : OwnK 0 tX 4 w r (q.l.map itv)) (hq : QOk q) (hx : ∀ x ∈ q.l, x.2.1 < 9) :
    Calls Try.prog n_law17_like #[.pointer (some ⟨g, 0, none⟩), .agg #[.int .i64 q.room, .int .i64 q.lost, .slice r.a r.n r.c]] w fun e w' => e = .returned (.bool true) ∧ Ext w w' := by
  apply law17_like.vc
  have hlen := hq.len
  have hroom := hq.room
  have hrn : r.n = q.l.length := by rw [(hr.rd (by decide)).n, List.length_map]
  intro w0 e0
  have x0 : Ext w w0 := (Ext.rfl' w).of_alloc e0
  have z0 : w0.heap.size = w.heap.size + 1 := by rw [e0]; simp
  have hbox : Row w0 w.heap.size [.int .i64 q.room, .int .i64 q.lost, .slice r.a r.n r.c] 43 := by rw [e0]; exact Row.new w [_, _, _] _
  have hb2 : ∀ {w'}, Ext w0 w' → LoadL w' (some ⟨w.heap.size, 2, none⟩) 0 [.slice r.a r.n r.c] := fun x => (hbox.ext x).loadL (fun j hj => by simp at hj; subst hj; rfl)
  have hb1 : ∀ {w'}, Ext w0 w' → LoadL w' (some ⟨w.heap.size, 1, none⟩) 0 [.int .i64 q.lost] := fun x => (hbox.ext x).loadL (fun j hj => by simp at hj; subst hj; rfl)
  have h0 := h.ext x0
  refine (All_spec h0 hq).mono ?_
  rintro e w1 ⟨s2, rfl, ho2, x1⟩
  have hsn : s2.n = q.l.length := by rw [(ho2.rd (by decide)).n, List.length_map]
  have z1 := x1.size
  refine ⟨s2, rfl, x1.heap (by omega), Br.mk (fun hc => ?_) (fun _ => ?_)⟩
  · rw [hsn, hrn] at hc; simp at hc
  refine (Len_spec (h0.ext x1.drew)).mono ?_
  rintro e w3 ⟨rfl, x3⟩
  have y3 := x1.drew.tr x3
  refine ⟨_, rfl, x3.heap (show w.heap.size < w1.heap.size by omega), hb2 y3, hb2 y3, Br.mk (fun hc => ?_) (fun _ => ?_)⟩
  · rw [hrn] at hc; simp at hc
  refine (Lost_spec (h0.ext y3)).mono ?_
  rintro e w5 ⟨rfl, x5⟩
  have z3 := y3.size
  have y5 := y3.tr x5
  refine ⟨_, rfl, x5.heap (by omega), hb1 y5, hb2 y5, hb2 y5, Br.mk (fun hc => by simp at hc) (fun _ => ?_)⟩
  have ho5 := (ho2.ext (Ext.dr _)).ext x3 |>.ext x5
  have z5 := y5.size
  refine ⟨fun n x wr => ∃ k : Nat, x = k ∧ k + n = q.l.length ∧ Ext w5 wr, ⟨q.l.length, rfl, 0, rfl, by omega, Ext.rfl' _⟩, ?_⟩
  rintro n us x wr ⟨k, rfl, hk, xr⟩
  have zr := xr.size
  have hqr := h0.ext (y5.tr xr)
  refine Br.mk (fun hc => ?_) (fun hc => ?_)
  · simp only [decide_eq_true_eq] at hc
    have hget : q.l[k]? = some (q.l[k]'(by omega)) := List.getElem?_eq_getElem (by omega)
    generalize q.l[k]'(by omega) = y at hget
    have hrd := (ho5.ext xr).rd (by decide)
    have hs := hrd.isSome (by decide) (i := k) (by simp; omega)
    have hin : InB s2.a (k : Int) s2.n := ⟨hs, by omega, by omega⟩
    have hnn : ∀ p ∈ nnC (padd s2.a ((k : Int).toNat * 4)), p := nnC_iff.2 (by rw [padd_isSome]; exact hs)
    refine ⟨hin, AndL_iff.2 ⟨hnn, _, _, _, cell_of (i := k) hrd hget, ?_⟩⟩
    have ht : qtick q.l y.2 = some y.1 := qtick_mem hq.nodup (List.mem_of_getElem? hget)
    refine (At_spec hqr hq y.2).mono ?_
    rintro e w16 ⟨rfl, x16⟩
    have hrd16 := (hrd.ext x16).ext (Ext.dr _)
    have hrr := (hr.ext ((x0.tr (y5.tr xr)).tr (x16.drew))).rd (by decide)
    have hsr := hrr.isSome (by decide) (i := k) (by simp; omega)
    have hinr : InB r.a (k : Int) r.n := ⟨hsr, by omega, by omega⟩
    have hnr : ∀ p ∈ nnC (padd r.a ((k : Int).toNat * 4)), p := nnC_iff.2 (by rw [padd_isSome]; exact hsr)
    refine ⟨_, _, rfl, x16.heap (by omega), hin, AndL_iff.2 ⟨hnn, _, tick_of (i := k) hrd16 hget, hinr, AndL_iff.2 ⟨hnr, _, tick_of (i := k) hrr hget, Br.mk (fun hb => by simp at hb) (fun _ => ⟨hin, AndL_iff.2 ⟨hnn, _, _, _, cell_of (i := k) hrd16 hget, hinr, AndL_iff.2 ⟨hnr, _, _, _, cell_of (i := k) hrr hget, Br.mk (fun hb => by simp at hb) (fun _ => ⟨hin, AndL_iff.2 ⟨hnn, _, tick_of (i := k) hrd16 hget, ?_⟩⟩)⟩⟩⟩)⟩⟩⟩
    rw [ht]
    have hwk : IntKind.wrap .i64 ((k : Int) + 1) = ((k + 1 : Nat) : Int) := by rw [wrap_in (by unfold inI; omega)]; omega
    exact Br.mk (fun hb => by simp at hb) (fun _ => Br.mk (fun hb => by simp at hb) (fun _ => ⟨n - 1, by omega, rfl, k + 1, hwk, by omega, xr.tr x16.drew⟩))
  · refine (Next_spec hqr).mono ?_
    rintro e w28 ⟨rfl, x28⟩
    refine ⟨_, _, _, _, _, rfl, x28.heap (by omega), ?_⟩
    have z28 := x28.size
    intro w34 e34 w35 e35
    have x35 : Ext w28 w35 := ((Ext.rfl' _).of_alloc e34).of_setRow e35 (Nat.le_refl _)
    have z35 : w35.heap.size = w28.heap.size + 1 := by rw [e35, setRow_size, e34]; simp
    have hb35 : Row w35 w28.heap.size (itv (q.l.headD (0, 0, 0, 0))) tItem := by
      have : Row w34 w28.heap.size [.int .i64 0, .int .i64 0, .int .i64 0, .int .i64 0] tItem := by rw [e34]; exact Row.new _ [_, _, _, _] _
      rw [e35]; exact this.set _
    refine (At_spec (c := (99, 0, 0)) ((hqr.ext x28).ext x35) hq).mono ?_
    rintro e w36 ⟨rfl, x36⟩
    have hno : qtick q.l (99, 0, 0) = none := by
      cases ht : qtick q.l (99, 0, 0) with
      | none => rfl
      | some t =>
        have := hx _ (qtick_some ht)
        simp at this
    rw [hno]
    refine ⟨_, _, rfl, x36.heap (by omega), x36.heap (by omega), Br.mk (fun hb => by simp at hb) (fun _ => ?_)⟩
    have xall : Ext w w36 := (x0.tr (y5.tr (xr.tr (x28.tr (x35.tr x36)))))
    have z36 := x36.size
    rw [hsn]
    refine Br.mk (fun hb => ?_) (fun _ => ?_)
    · exfalso
      cases hl : q.l with
      | nil => rw [hl] at hb; simp at hb
      | cons a l => rw [hl] at hb; simp at hb
    cases hl : q.l with
    | nil =>
      refine Br.mk (fun _ => Br.mk (fun _ => ?_) (fun hb => by simp at hb)) (fun hb => by simp at hb)
      refine (qsmall_spec (0, 0, 0) ⟨⟨by decide, by decide⟩, ⟨by decide, by decide⟩, ⟨by decide, by decide⟩⟩ w36.drew).mono ?_
      rintro e w39 ⟨rfl, x39⟩
      have hb39 := ((hb35.ext x36).ext (Ext.dr _)).ext x39
      rw [hl] at hb39
      exact ⟨_, _, _, rfl, x39.heap (show w.heap.size < w36.heap.size by omega), x39.heap (show w28.heap.size < w36.heap.size by omega), hb39.loadL (fun j hj => by rw [Nat.add_comm]; rfl), hb39.loadL (fun j hj => by simp at hj; subst hj; rfl), rfl, (xall.drew).tr x39⟩
    | cons a l =>
      refine Br.mk (fun hb => by simp at hb) (fun _ => ?_)
      have hrd := ((ho5.ext xr).ext (x28.tr (x35.tr x36.drew))).rd (by decide)
      have hget : q.l[0]? = some a := by rw [hl]; rfl
      have hs := hrd.isSome (by decide) (i := 0) (by rw [hl]; simp)
      have hin : InB s2.a 0 s2.n := ⟨hs, by omega, by rw [hsn, hl]; simp⟩
      have hnn : ∀ p ∈ nnC (padd s2.a ((0 : Int).toNat * 4)), p := nnC_iff.2 (by rw [padd_isSome]; exact hs)
      rw [hsn, hl] at hin
      refine ⟨hin, AndL_iff.2 ⟨hnn, _, tick_of (i := 0) hrd hget, Br.mk (fun _ => ⟨hin, AndL_iff.2 ⟨hnn, _, _, _, cell_of (i := 0) hrd hget, by simp, xall.drew⟩⟩) (fun hb => by simp at hb)⟩⟩
end Go.Proofs.Ytbphdgiepimmkaa
